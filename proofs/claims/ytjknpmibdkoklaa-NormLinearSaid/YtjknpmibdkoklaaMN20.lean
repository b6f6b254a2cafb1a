/- Functions of the given program as Lean functions, each with its contract, and what they answer; words for it. No condition but those of each. -/
import Derived.Test.YtjknpmibdkoklaaMNS
import Derived.Test.YtjknpmibdkoklaaMN15
import Derived.Test.YtjknpmibdkoklaaMN17
import Derived.Test.YtjknpmibdkoklaaMN11
import Derived.Test.YtjknpmibdkoklaaMN8
import Derived.Test.YtjknpmibdkoklaaMN18
import Derived.Test.YtjknpmibdkoklaaMN19
import Derived.Test.YtjknpmibdkoklaaMN4
import Derived.Test.YtjknpmibdkoklaaMN14
import Derived.Test.YtjknpmibdkoklaaMN3
import Derived.Test.YtjknpmibdkoklaaMN2
import Derived.Shelf.SlicesE.DeleteFunc
import Derived.Shelf.SlicesQ.IndexFunc
import Derived.Test.YtjknpmibdkoklaaProg
import Derived.ChangeArms
import Derived.SizedLaws
import Derived.DataShut
import Derived.DataElems
import Derived.Test.YtjknpmibdkoklaaMN12
set_option linter.unusedVariables false
set_option linter.unusedSimpArgs false
set_option maxRecDepth 100000
namespace Go.Proofs.Ytjknpmibdkoklaa.Q
open Go.RowKit Go.Proofs.YtjknpmibdkoklaaW.PrintWords Go.Proofs.YtjknpmibdkoklaaW.PrintLast Go.Proofs.YtjknpmibdkoklaaW.PrintMore
abbrev Sm:=List ByteArray × List Int × Int × Int
def nrm (s:Sm):Sm:=if s.2.2.2=0 then s else([],[],0,s.2.2.2)
theorem zhR (s:Sm):(nrm s).2.2.2=s.2.2.2:=by unfold nrm;split<;>simp_all
theorem zjt {s r:Sm} (h:nrm s=r) (hr:r.2.2.2=0):s=r:=by
 have h0:s.2.2.2=0:=by rw[←zhR,h,hr]
 rw[←h];unfold nrm;rw[if_pos h0]
theorem zd6 {s r:Sm} (h:nrm s=r) (hr:r.2.2.2≠0):s.2.2.2≠0:=by rw[←zhR,h];exact hr
def zipW (op:Int→Int→Int) (a b:Sm):List Int:=(zce (a.1++b.1)).map fun s=>op (ofS a.1 a.2.1 s) (ofS b.1 b.2.1 s)
def zem (op:Int→Int→Int) (a b:Sm):Sm:=
 if(zipW op a b).all zbx=true∧zbx (op a.2.2.1 b.2.2.1)=true then(zce (a.1++b.1),zipW op a b,op a.2.2.1 b.2.2.1,0)else([],[],0,91)
def mulW (a:Sm) (n:Int):List Int:=a.2.1.map fun c=>c*n
def ze6 (a:Sm) (n:Int):Sm:=if(mulW a n).all zbx=true∧zbx (a.2.2.1*n)=true then(a.1,mulW a n,a.2.2.1*n,0)else([],[],0,91)
def zfT (a b:Sm):Sm:=if a.1.length>0 then(if b.1.length>0 then([],[],0,90)else ze6 a b.2.2.1)else ze6 b a.2.2.1
def zdl (o:Int):List Sm→Sm
 | [a]=>if a.2.2.2≠0 then a else zem (fun x y=>x-y) ([],[],0,0) a
 | [a,b]=>if a.2.2.2≠0 then a else if b.2.2.2≠0 then b else if o=3 then zem (fun x y=>x+y) a b else if o=4 then zem (fun x y=>x-y) a b else zfT a b
 |_=>([],[],0,0)
mutual
def sumT:S66→Sm
 |⟨o,n,s,l⟩=>if o=0 then([],[],n,0)else if o=1 then([s],[1],0,0)else zdl o (zhS l)
def zhS:List S66→List Sm
 | []=>[]
 |t::l=>sumT t::zhS l
end
theorem zgg (t:S66):sumT t=if t.f0=0 then([],[],t.f1,0)else if t.f0=1 then([t.f2],[1],0,0)else zdl t.f0 (zhS t.f3):=by cases t;rw[sumT]
theorem zcV {c:Int}:zbx c=true↔In64 c:=⟨zcb,fun h=>decide_eq_true h⟩
theorem zfU {c:Int}:fit c=if zbx c=true then(c,0)else(0,10):=by
 by_cases h:zbx c=true
 ·rw[if_pos h,zid (zcb h)]
 ·rw[if_neg h,zfx (fun k=>h (zcV.2 k))]
theorem zdO {a b:Int} (ha:In64 a) (hb:In64 b):subP a b=fit (a-b):=by unfold subP;rw[ziK ha hb];rfl
theorem zdP {a b:Int} (ha:In64 a) (hb:In64 b):addP a b=fit (a+b):=by unfold addP;rw[ziJ ha hb];rfl
theorem zhT {α:Type} {g:Nat→Option α} {r s:α} (h1:Ev g r) (h2:Ev g s):r=s:=by
 obtain⟨f,h1⟩:=h1
 obtain⟨D,h2⟩:=h2
 exact Option.some.inj ((h1 (max f D) (Nat.le_max_left _ _)).symm.trans (h2 (max f D) (Nat.le_max_right _ _)))
theorem zdQ {a b:Int} (ha:In64 a) (hb:In64 b):mulP a b=fit (a*b):=
 zhT (Ev.of (fun k=>za8.mono _ _ k) (zhL a b)) (ziM ha hb)
theorem zdd (er c:Int):zbu er (fit c).2=if zbx c=true then er else if er=0 then 91 else er:=by
 unfold zbu
 rw[zfU]
 by_cases h:zbx c=true<;>simp [h]
theorem zeq (er c:Int):zcB er (fit c).2=if zbx c=true then er else 91:=by
 unfold zcB
 rw[zfU]
 by_cases h:zbx c=true<;>simp [h]
theorem zfn (op:Int→Int→Int × Int) (g:Int→Int→Int) (f:List ByteArray) (r:List Int) (D:List ByteArray) (G:List Int):∀(l:List ByteArray) (er:Int),(∀s ∈ l,op (ofS f r s) (ofS D G s)=fit (g (ofS f r s) (ofS D G s)))→
 errB op f r D G er l=if(l.map fun s=>g (ofS f r s) (ofS D G s)).all zbx=true then er else if er=0 then 91 else er
 | [],er,_=>by simp [errB]
 |s::l,er,h=>by
  rw[errB,zfn op g f r D G l _ (fun x hx=>h x (.tail _ hx)),h s (.head _),zdd,List.map_cons,List.all_cons]
  by_cases h1:zbx (g (ofS f r s) (ofS D G s))=true
  ·simp [h1]
  ·by_cases h2:er=0<;>simp [h1,h2]
theorem zgM (g:Int→Int→Int) (f:List ByteArray) (r:List Int) (D:List ByteArray) (G:List Int):∀(l:List ByteArray) (er:Int),
 errP g f r D G er l=if(l.map fun s=>g (ofS f r s) (ofS D G s)).all zbx=true then er else 91
 | [],er=>by simp [errP]
 |s::l,er=>by
  rw[errP,zgM g f r D G l _,zeq,List.map_cons,List.all_cons]
  by_cases h1:zbx (g (ofS f r s) (ofS D G s))=true<;>simp [h1]
theorem zgN (n:Int):∀(l:List Int) (er:Int),(∀c ∈ l,mulP c n=fit (c*n))→errM n er l=if(l.map fun c=>c*n).all zbx=true then er else if er=0 then 91 else er
 | [],er,_=>by simp [errM]
 |c::l,er,h=>by
  rw[errM,zgN n l _ (fun x hx=>h x (.tail _ hx)),h c (.head _),zdd,List.map_cons,List.all_cons]
  by_cases h1:zbx (c*n)=true
  ·simp [h1]
  ·by_cases h2:er=0<;>simp [h1,h2]
theorem zgO (n:Int):∀(l:List Int) (er:Int),errT n er l=if(l.map fun c=>c*n).all zbx=true then er else 91
 | [],er=>by simp [errT]
 |c::l,er=>by
  rw[errT,zgO n l _,zeq,List.map_cons,List.all_cons]
  by_cases h1:zbx (c*n)=true<;>simp [h1]
theorem zd7 {α:Type} (f:α→Int):∀(l:List α),(l.map f).all zbx=true→(l.map fun x=>(fit (f x)).1)=l.map f
 | [],_=>rfl
 |x::l,h=>by
  rw[List.map_cons,List.all_cons,Bool.and_eq_true]at h
  rw[List.map_cons,List.map_cons,zd7 f l h.2,zfU,if_pos h.1]
theorem zeG {ns:List ByteArray} {cs ds:List Int} {k er:Int} {ok:Bool} (he:er=if ok=true∧zbx k=true then 0 else 91) (hc:ok=true→cs=ds):nrm (ns,cs,(fit k).1,er)=if ok=true∧zbx k=true then(ns,ds,k,0)else([],[],0,91):=by
 subst he
 unfold nrm
 by_cases h:ok=true∧zbx k=true
 ·rw[if_pos h,if_pos h,if_pos rfl,hc h.1,zfU,if_pos h.2]
 ·rw[if_neg h,if_neg h,if_neg (show ¬(91:Int)=0 by decide)]
structure Wf (s:Sm) (n:Nat):Prop where
 names:∀x ∈ s.1,zcE x=true
 rise:Rise s.1
 len:s.1.length=s.2.1.length
 ints:∀c ∈ s.2.1,In64 c
 const:In64 s.2.2.1
 few:s.1.length≤n
theorem Wf.all {s:Sm} {n:Nat} (h:Wf s n):s.2.1.all zbx=true:=List.all_eq_true.2 fun c hc=>zcV.2 (h.ints c hc)
theorem Wf.of_in {s:Sm} {n:Nat} (h:Wf s n) (x:ByteArray):In64 (ofS s.1 s.2.1 x):=zdN h.all (Nat.le_of_eq h.len) x
theorem Wf.up {s:Sm} {n m:Nat} (h:Wf s n) (hm:n≤m):Wf s m:=⟨h.names,h.rise,h.len,h.ints,h.const,Nat.le_trans h.few hm⟩
theorem Wf.err (e:Int) (n:Nat):Wf ([],[],0,e) n:=⟨(fun _ h=>nomatch h),List.Pairwise.nil,rfl,(fun _ h=>nomatch h),zdC,Nat.zero_le _⟩
theorem Wf.num {k:Int} (hk:In64 k) (n:Nat):Wf ([],[],k,0) n:=⟨(fun _ h=>nomatch h),List.Pairwise.nil,rfl,(fun _ h=>nomatch h),hk,Nat.zero_le _⟩
theorem Wf.both {op:Int→Int→Int} {a b:Sm} {m n:Nat} (ha:Wf a m) (hb:Wf b n):Wf (zem op a b) (m+n):=by
 unfold zem
 split
 ·rename_i h
  refine⟨fun x hx=>?_,zfb _,by simp [zipW],fun c hc=>zcb (List.all_eq_true.1 h.1 c hc),zcb h.2,?_⟩
  ·rcases List.mem_append.1 (zf1.1 hx)with h|h
   ·exact ha.names x h
   ·exact hb.names x h
  ·refine Nat.le_trans (zcn _) ?_
   rw[List.length_append]
   have:=ha.few
   have:=hb.few
   omega
 ·exact Wf.err _ _
theorem Wf.times {a:Sm} {n:Int} {m:Nat} (ha:Wf a m):Wf (ze6 a n) m:=by
 unfold ze6
 split
 ·rename_i h
  exact⟨ha.names,ha.rise,by simp [mulW,ha.len],fun c hc=>zcb (List.all_eq_true.1 h.1 c hc),zcb h.2,ha.few⟩
 ·exact Wf.err _ _
theorem Wf.prod {a b:Sm} {m n:Nat} (ha:Wf a m) (hb:Wf b n):Wf (zfT a b) (m+n):=by
 unfold zfT
 split
 ·split
  ·exact Wf.err _ _
  ·exact ha.times.up kq1
 ·exact hb.times.up kq1
structure Raw (s:Sm) (n:Nat):Prop where
 ints:∀c ∈ s.2.1,In64 c
 const:In64 s.2.2.1
 few:s.2.1.length≤n
theorem Wf.raw {s:Sm} {n:Nat} (h:Wf s n):Raw s n:=⟨h.ints,h.const,h.len▸h.few⟩
theorem Raw.up {s:Sm} {n m:Nat} (h:Raw s n) (hm:n≤m):Raw s m:=⟨h.ints,h.const,Nat.le_trans h.few hm⟩
theorem zer (c:Int):In64 (fit c).1:=by
 rw[zfU]
 split
 ·rename_i h;exact zcb h
 ·exact zdC
theorem zgh {α:Type} (f g:α→Int) (l:List α) (ns:List ByteArray) (k er:Int) (n:Nat) (h:∀x ∈ l,f x=(fit (g x)).1) (hl:l.length≤n):Raw (ns,l.map f,(fit k).1,er) n:=
 ⟨fun c hc=>by obtain⟨x,hx,rfl⟩:=List.mem_map.1 hc;rw[h x hx];exact zer _,zer _,by show(l.map f).length≤n;rw[List.length_map];exact hl⟩
theorem zgP {a b:Sm} {m n:Nat} (ha:Wf a m) (hb:Wf b n) (hm:m≤100000) (hn:n≤100000) (ea:a.2.2.2=0) (eb:b.2.2.2=0):∃s:Sm,zbc.f a.1 a.2.1 a.2.2.1 a.2.2.2 b.1 b.2.1 b.2.2.1 b.2.2.2 1=some s∧nrm s=zem (fun x y=>x-y) a b∧Raw s (m+n):=by
 have hu:zch a.1 b.1=(zce (a.1++b.1),0):=by
  unfold zch
  rw[if_pos ((zc2 _).2 ⟨ha.names,ha.rise⟩),if_pos ((zc2 _).2 ⟨hb.names,hb.rise⟩)]
 have:=ha.few
 have:=hb.few
 unfold zbc.f
 rw[if_neg (fun h=>h ea),if_neg (fun h=>h eb),if_pos ⟨kq1,kq1,Nat.le_of_eq ha.len,Nat.le_of_eq hb.len⟩,if_pos rfl,hu]
 refine⟨_,rfl,?_,by
  rw[zdO ha.const hb.const]
  refine zgh (fun s=>(subP (ofS a.1 a.2.1 s) (ofS b.1 b.2.1 s)).1) (fun s=>ofS a.1 a.2.1 s-ofS b.1 b.2.1 s) _ _ _ _ _ (fun s _=>by rw[zdO (ha.of_in s) (hb.of_in s)]) ?_
  refine Nat.le_trans (zcn _) ?_
  rw[List.length_append]
  omega⟩
 rw[zdO ha.const hb.const]
 refine zeG (ok:=(zipW (fun x y=>x-y) a b).all zbx) ?_ ?_
 ·rw[zfn subP (fun x y=>x-y) _ _ _ _ _ _ (fun s _=>zdO (ha.of_in s) (hb.of_in s)),zdd]
  show(if zbx (a.2.2.1-b.2.2.1)=true then(if(zipW (fun x y=>x-y) a b).all zbx=true then 0 else if(0:Int)=0 then 91 else 0)else if(if(zipW (fun x y=>x-y) a b).all zbx=true then(0:Int)else if(0:Int)=0 then 91 else 0)=0 then 91 else(if(zipW (fun x y=>x-y) a b).all zbx=true then 0 else if(0:Int)=0 then 91 else 0))=_
  by_cases h1:(zipW (fun x y=>x-y) a b).all zbx=true<;>by_cases h2:zbx (a.2.2.1-b.2.2.1)=true<;>simp [h1,h2]
 ·intro h
  show zcg subP a.1 a.2.1 b.1 b.2.1 (zce (a.1++b.1))=_
  unfold zcg
  rw[show(fun s=>(subP (ofS a.1 a.2.1 s) (ofS b.1 b.2.1 s)).1)=fun s=>(fit (ofS a.1 a.2.1 s-ofS b.1 b.2.1 s)).1 from funext fun s=>by rw[zdO (ha.of_in s) (hb.of_in s)]]
  exact zd7 (fun s=>ofS a.1 a.2.1 s-ofS b.1 b.2.1 s) _ h
theorem zir {a b:Sm} {m n:Nat} (ha:Wf a m) (hb:Wf b n) (hm:m≤100000) (hn:n≤100000) (ea:a.2.2.2=0) (eb:b.2.2.2=0):∃s:Sm,zbc.f a.1 a.2.1 a.2.2.1 a.2.2.2 b.1 b.2.1 b.2.2.1 b.2.2.2 0=some s∧nrm s=zem (fun x y=>x+y) a b∧Raw s (m+n):=by
 have hu:zch a.1 b.1=(zce (a.1++b.1),0):=by
  unfold zch
  rw[if_pos ((zc2 _).2 ⟨ha.names,ha.rise⟩),if_pos ((zc2 _).2 ⟨hb.names,hb.rise⟩)]
 have:=ha.few
 have:=hb.few
 unfold zbc.f
 rw[if_neg (fun h=>h ea),if_neg (fun h=>h eb),if_pos ⟨kq1,kq1,Nat.le_of_eq ha.len,Nat.le_of_eq hb.len⟩,if_neg kq2,if_pos rfl,hu]
 refine⟨_,rfl,?_,by
  rw[zdP ha.const hb.const]
  refine zgh (fun s=>(addP (ofS a.1 a.2.1 s) (ofS b.1 b.2.1 s)).1) (fun s=>ofS a.1 a.2.1 s+ofS b.1 b.2.1 s) _ _ _ _ _ (fun s _=>by rw[zdP (ha.of_in s) (hb.of_in s)]) ?_
  refine Nat.le_trans (zcn _) ?_
  rw[List.length_append]
  omega⟩
 rw[zdP ha.const hb.const]
 refine zeG (ok:=(zipW (fun x y=>x+y) a b).all zbx) ?_ ?_
 ·rw[zfn addP (fun x y=>x+y) _ _ _ _ _ _ (fun s _=>zdP (ha.of_in s) (hb.of_in s)),zdd]
  show(if zbx (a.2.2.1+b.2.2.1)=true then(if(zipW (fun x y=>x+y) a b).all zbx=true then 0 else if(0:Int)=0 then 91 else 0)else if(if(zipW (fun x y=>x+y) a b).all zbx=true then(0:Int)else if(0:Int)=0 then 91 else 0)=0 then 91 else(if(zipW (fun x y=>x+y) a b).all zbx=true then 0 else if(0:Int)=0 then 91 else 0))=_
  by_cases h1:(zipW (fun x y=>x+y) a b).all zbx=true<;>by_cases h2:zbx (a.2.2.1+b.2.2.1)=true<;>simp [h1,h2]
 ·intro h
  show zcg addP a.1 a.2.1 b.1 b.2.1 (zce (a.1++b.1))=_
  unfold zcg
  rw[show(fun s=>(addP (ofS a.1 a.2.1 s) (ofS b.1 b.2.1 s)).1)=fun s=>(fit (ofS a.1 a.2.1 s+ofS b.1 b.2.1 s)).1 from funext fun s=>by rw[zdP (ha.of_in s) (hb.of_in s)]]
  exact zd7 (fun s=>ofS a.1 a.2.1 s+ofS b.1 b.2.1 s) _ h
theorem ziS {a b:Sm} (op:Int) (ea:a.2.2.2≠0):zbc.f a.1 a.2.1 a.2.2.1 a.2.2.2 b.1 b.2.1 b.2.2.1 b.2.2.2 op=some a:=by unfold zbc.f;rw[if_pos ea]
theorem zhU {a b:Sm} (op:Int) (ea:a.2.2.2=0) (eb:b.2.2.2≠0):zbc.f a.1 a.2.1 a.2.2.1 a.2.2.2 b.1 b.2.1 b.2.2.1 b.2.2.2 op=some b:=by unfold zbc.f;rw[if_neg (fun h=>h ea),if_pos eb]
theorem zhV {a:Sm} {m:Nat} {n:Int} (ha:Wf a m) (hm:m≤100000) (hn:In64 n):∃s:Sm,zb6.f a.1 a.2.1 a.2.2.1 a.2.2.2 n=some s∧nrm s=ze6 a n∧Raw s m:=by
 have:=ha.few
 have:=ha.len
 unfold zb6.f
 rw[if_pos kq1]
 refine⟨_,rfl,?_,by
  rw[zdQ ha.const hn]
  exact zgh (fun c=>(mulP c n).1) (fun c=>c*n) _ _ _ _ _ (fun c hc=>by rw[zdQ (ha.ints c hc) hn]) kq1⟩
 rw[zdQ ha.const hn]
 refine zeG (ok:=(mulW a n).all zbx) ?_ ?_
 ·rw[zgN n _ _ (fun c hc=>zdQ (ha.ints c hc) hn),zdd]
  show(if zbx (a.2.2.1*n)=true then(if(mulW a n).all zbx=true then 0 else if(0:Int)=0 then 91 else 0)else if(if(mulW a n).all zbx=true then(0:Int)else if(0:Int)=0 then 91 else 0)=0 then 91 else(if(mulW a n).all zbx=true then 0 else if(0:Int)=0 then 91 else 0))=_
  by_cases h1:(mulW a n).all zbx=true<;>by_cases h2:zbx (a.2.2.1*n)=true<;>simp [h1,h2]
 ·intro h
  show mulL n a.2.1=_
  unfold mulL
  rw[show a.2.1.map (fun c=>(mulP c n).1)=a.2.1.map fun c=>(fit (c*n)).1 from List.map_congr_left fun c hc=>by rw[zdQ (ha.ints c hc) hn]]
  exact zd7 (fun c=>c*n) _ h
theorem zju {a b:Sm} {m n:Nat} (ha:Wf a m) (hb:Wf b n) (hm:m≤100000) (hn:n≤100000) (ea:a.2.2.2=0) (eb:b.2.2.2=0):∃s:Sm,Ev (fun k=>zaW.f k a.1 a.2.1 a.2.2.1 a.2.2.2 b.1 b.2.1 b.2.2.1 b.2.2.2) s∧nrm s=zfT a b∧Raw s (m+n):=by
 have r:Ev (fun k=>zaW.j0 k true a.1 a.2.1 a.2.2.1 a.2.2.2 b.1 b.2.1 b.2.2.1 b.2.2.2) ([],[],0,90):=Ev.step (f:=fun _=>some ([],[],0,90)) (fun k=>by
  conv=>lhs;rw[zaW.j0]
  rw[if_pos rfl]) (Ev.now _)
 unfold zfT zaW.f
 by_cases hA:a.1.length>0
 ·rw[if_pos hA]
  by_cases hB:b.1.length>0
  ·rw[if_pos hB]
   refine⟨([],[],0,90),Ev.congr (fun k=>by rw[if_pos ea,if_pos eb,if_pos kq1,decide_eq_true kq1]) r,rfl,(Wf.err 90 _).raw⟩
  ·rw[if_neg hB]
   obtain⟨s,hs,hr,hw⟩:=zhV (n:=b.2.2.1) ha hm hb.const
   refine⟨s,Ev.congr (fun k=>by rw[if_pos ea,if_pos eb,if_pos kq1,decide_eq_false kq1]) (Ev.step (f:=fun _=>some s) (fun k=>?_) (Ev.now _)),hr,hw.up kq1⟩
   conv=>lhs;rw[zaW.j0]
   rw[if_neg kq2,if_pos kq1,hs]
   rfl
 ·rw[if_neg hA]
  obtain⟨s,hs,hr,hw⟩:=zhV (n:=a.2.2.1) hb hn ha.const
  refine⟨s,Ev.congr (fun k=>by rw[if_pos ea,if_pos eb,if_neg kq1]) (Ev.step (f:=fun _=>some s) (fun k=>?_) (Ev.now _)),hr,hw.up kq1⟩
  conv=>lhs;rw[zaW.j0]
  rw[if_neg kq2,if_neg kq1,hs]
  rfl
theorem zjv {a b:Sm} (k:Nat) (ea:a.2.2.2≠0):zaW.f k a.1 a.2.1 a.2.2.1 a.2.2.2 b.1 b.2.1 b.2.2.1 b.2.2.2=some a:=by unfold zaW.f;rw[if_neg ea]
theorem zjw {a b:Sm} (k:Nat) (ea:a.2.2.2=0) (eb:b.2.2.2≠0):zaW.f k a.1 a.2.1 a.2.2.1 a.2.2.2 b.1 b.2.1 b.2.2.1 b.2.2.2=some b:=by unfold zaW.f;rw[if_pos ea,if_neg eb]
theorem zgi {a b:Sm} {m n:Nat} (less:Bool) (ha:Wf a m) (hb:Wf b n) (hm:m≤100000) (hn:n≤100000):∃s:Sm,zbe.f a.1 a.2.1 a.2.2.1 a.2.2.2 b.1 b.2.1 b.2.2.1 b.2.2.2 less=some s∧nrm s=zem (if less=true then fun x y=>x-y else fun x y=>x+y) a b∧s.2.1.length≤m+n∧In64 s.2.2.1:=by
 have:=ha.few
 have:=hb.few
 unfold zbe.f
 rw[if_pos ⟨kq1,kq1,Nat.le_of_eq ha.len,Nat.le_of_eq hb.len,ha.all,hb.all,zcV.2 ha.const,zcV.2 hb.const⟩]
 have go:∀g:Int→Int→Int,nrm (zce (a.1++b.1),zcc g a.1 a.2.1 b.1 b.2.1 (zce (a.1++b.1)),(fit (g a.2.2.1 b.2.2.1)).1,zcB (errP g a.1 a.2.1 b.1 b.2.1 0 (zce (a.1++b.1))) (fit (g a.2.2.1 b.2.2.1)).2)=zem g a b:=fun g=>by
  refine zeG (ok:=(zipW g a b).all zbx) ?_ ?_
  ·rw[zgM,zeq]
   show(if zbx (g a.2.2.1 b.2.2.1)=true then(if(zipW g a b).all zbx=true then(0:Int)else 91)else 91)=_
   by_cases h1:(zipW g a b).all zbx=true<;>by_cases h2:zbx (g a.2.2.1 b.2.2.1)=true<;>simp [h1,h2]
  ·intro h
   exact zd7 (fun s=>g (ofS a.1 a.2.1 s) (ofS b.1 b.2.1 s)) _ h
 have few:∀g:Int→Int→Int,(zcc g a.1 a.2.1 b.1 b.2.1 (zce (a.1++b.1))).length≤m+n:=fun g=>by
  unfold zcc
  rw[List.length_map]
  refine Nat.le_trans (zcn _) ?_
  rw[List.length_append]
  omega
 cases less with
 |true=>exact⟨_,if_pos rfl,go (fun x y=>x-y),few _,zer _⟩
 |false=>exact⟨_,if_neg kq2,go (fun x y=>x+y),few _,zer _⟩
theorem zhW {a:Sm} {m:Nat} {n:Int} (ha:Wf a m) (hm:m≤100000) (hn:In64 n):∃s:Sm,zbd.f a.1 a.2.1 a.2.2.1 a.2.2.2 n=some s∧nrm s=ze6 a n:=by
 have:=ha.few
 have:=ha.len
 unfold zbd.f
 rw[if_pos ⟨kq1,zcV.2 hn,zcV.2 ha.const,ha.all⟩]
 refine⟨_,rfl,?_⟩
 refine zeG (ok:=(mulW a n).all zbx) ?_ ?_
 ·rw[zgO,zeq]
  show(if zbx (a.2.2.1*n)=true then(if(mulW a n).all zbx=true then(0:Int)else 91)else 91)=_
  by_cases h1:(mulW a n).all zbx=true<;>by_cases h2:zbx (a.2.2.1*n)=true<;>simp [h1,h2]
 ·intro h
  exact zd7 (fun c=>c*n) _ h
end Go.Proofs.Ytjknpmibdkoklaa.Q
set_option maxRecDepth 100000
namespace Go.Proofs.Ytjknpmibdkoklaa.Q
open Go.RowKit Go.Proofs.YtjknpmibdkoklaaW.PrintWords Go.Proofs.YtjknpmibdkoklaaW.PrintLast Go.Proofs.YtjknpmibdkoklaaW.PrintMore
mutual
def cntT:S66→Nat
 |⟨_,_,_,l⟩=>1+zdz l
def zdz:List S66→Nat
 | []=>0
 |t::l=>cntT t+zdz l
end
theorem zdR (t:S66):1≤cntT t:=by cases t;rw[cntT];omega
mutual
def zdS:S66→Prop
 |⟨a,b,s,l⟩=>okT ⟨a,b,s,l⟩=true∧zde l
def zde:List S66→Prop
 | []=>True
 |t::l=>zdS t∧zde l
end
theorem zgj {dep:Int} {good:Bool} {m:Int × Int × Int} (h0:0≤m.1) (h1:m.1≤500) (h:(zcs dep good m).2.2=0):good=true∧(zcs dep good m).1=m.1+1∧m.1+1≤500:=by
 have hw:wrap64 (m.1+1)=m.1+1:=by unfold wrap64;omega
 unfold zcs at h ⊢
 rw[hw]at h ⊢
 simp only at h ⊢
 split at h
 ·cases h
 ·split at h
  ·cases h
  ·split at h
   ·rename_i a b c;exact⟨c,by first|rfl|trivial,kq1⟩
   ·cases h
mutual
theorem zc4:∀(t:S66) (dep:Int) (m:Int × Int × Int),0≤m.1→m.1≤500→(zcj t dep m).2.2=0→zdS t∧(zcj t dep m).1=m.1+cntT t∧m.1+cntT t≤500
 |⟨a,b,s,l⟩,dep,m,h0,h1,h=>by
  rw[zcj]at h ⊢
  rw[cntT,zdS]
  split at h
  ·rename_i hn
   obtain⟨f,D,G⟩:=zgj h0 h1 hn
   obtain⟨r,I,J⟩:=zei l (wrap64 (dep+1)) _ kq1 kq1 h
   rw[if_pos hn]
   exact⟨⟨f,r⟩,kq1,kq1⟩
  ·rename_i hn;exact absurd h hn
theorem zei:∀(l:List S66) (dep:Int) (m:Int × Int × Int),0≤m.1→m.1≤500→(zb1 l dep m).2.2=0→zde l∧(zb1 l dep m).1=m.1+zdz l∧m.1+zdz l≤500
 | [],dep,m,h0,h1,h=>by rw[zb1,zdz,zde];exact⟨trivial,kq1,kq1⟩
 |t::l,dep,m,h0,h1,h=>by
  rw[zb1]at h ⊢
  rw[zdz,zde]
  split at h
  ·rename_i hn
   obtain⟨f,D,G⟩:=zc4 t dep m h0 h1 hn
   obtain⟨r,I,J⟩:=zei l dep _ kq1 kq1 h
   rw[if_pos hn]
   exact⟨⟨f,r⟩,kq1,kq1⟩
  ·rename_i hn;exact absurd h hn
end
theorem zcx:∀{l:List S66},zde l→∀t ∈ l,zdS t
 |x::l,h,t,ht=>by
  rw[zde]at h
  rcases List.mem_cons.1 ht with rfl|ht
  ·exact h.1
  ·exact zcx h.2 t ht
theorem zdT:∀{l:List S66},∀t ∈ l,cntT t≤zdz l
 |x::l,t,ht=>by
  rw[zdz]
  rcases List.mem_cons.1 ht with rfl|ht
  ·omega
  ·have:=zdT t ht;omega
end Go.Proofs.Ytjknpmibdkoklaa.Q
set_option maxRecDepth 100000
namespace Go.Proofs.Ytjknpmibdkoklaa.Q
open Go.RowKit Go.Proofs.YtjknpmibdkoklaaW.PrintWords Go.Proofs.YtjknpmibdkoklaaW.PrintLast Go.Proofs.YtjknpmibdkoklaaW.PrintMore
theorem zeH {t:S66} (h:zdS t):okT t=true∧zde t.f3:=by cases t;rw[zdS]at h;exact h
end Go.Proofs.Ytjknpmibdkoklaa.Q
set_option maxRecDepth 100000
namespace Go.Proofs.Ytjknpmibdkoklaa.Q
open Go.ChangeShapes Go.WideShapes Go.RowKit Go.Proofs.YtjknpmibdkoklaaW.PrintWords Go.Proofs.YtjknpmibdkoklaaW.PrintLast Go.Proofs.YtjknpmibdkoklaaW.PrintMore
def fitI (n:Int):Prop:= -9223372036854775808≤n∧n≤9223372036854775807
inductive FitT:S66→Prop
 |mk {t:S66} (h0:fitI t.f0) (h1:fitI t.f1) (h2:t.f2.size≤140737488351232) (h3:t.f3.length*56≤140737488351232) (h:∀u ∈ t.f3,FitT u):FitT t
theorem ze7:∀{l:List S66},(∀t ∈ l,zdM t=true)→zdy l=true
 | [],_=>rfl
 |t::l,h=>by
  rw[zdy,h t (List.mem_cons_self ..),ze7 (fun x hx=>h x (List.mem_cons_of_mem _ hx))]
  rfl
theorem FitT.sized {t:S66} (h:FitT t):zdM t=true:=by
 induction h with
 | @mk t _ _ h2 _ _ ih=>rw[zfJ,ze7 ih];simpa using h2
theorem zhX {α:Type} {R:Nat→α→Prop}:∀n,(∀i,i<n→∃p,R i p)→∃l:List α,l.length=n∧∀i p,l[i]?=some p→R i p
 |0,_=>⟨[],rfl,fun i p h=>by simp at h⟩
 |n+1,h=>by
  obtain⟨l,hl,hr⟩:=zhX n (fun i hi=>h i kq1)
  obtain⟨p,hp⟩:=h n kq1
  refine⟨l++[p],by simp [hl],fun i q hq=>?_⟩
  by_cases hi:i<l.length
  ·rw[List.getElem?_append_left hi]at hq
   exact hr i q hq
  ·have h2:=(List.getElem?_eq_some_iff.1 hq).1
   simp at h2
   obtain rfl:i=n:=by omega
   rw[List.getElem?_append_right kq1,hl]at hq
   simp at hq
   subst hq
   exact hp
section
variable {H : Type} {enc : TypeId × Value → H} {W : World} {base : Nat} {spare : Nat → Bool} {held : Bool}
theorem zja {α:Type} {P:Program} (d:Kd α) (Q:α→Prop) (B:Nat) {t e:TypeId} {fuel:Nat} {cs:List Value} {x:DataW H × List MemPlace} (hu:P.underlying t=some (.slice e)) (hsz:P.cellsOf e=d.sz) (hB:P.bytesOf e=B)
 (ih:∀n,n<fuel→∀cs x,DataW.trod enc P W base spare held n e cs=some x→(∀m ∈ x.1.weights P e,m≤reachBytes)→∃p,d.K W p cs∧cs.length=d.sz∧Q p)
 (h:DataW.trod enc P W base spare held fuel t cs=some x) (hw:∀m ∈ x.1.weights P t,m≤reachBytes) :
 ∃A l c,cs=[.slice A l.length c]∧l.length≤c∧d.C W A l.length l∧l.length*B≤140737488351232∧∀p ∈ l,Q p:=by
 rcases DataW.trod_slice hu h with⟨rfl,_⟩|⟨a,len,cap,elems,rest,n,rfl,rfl,rfl,_,hl,hm,hlen,hel,_,_⟩
 ·exact⟨none,[],0,rfl,by simp,⟨rfl,Nat.zero_le _,fun h=>absurd h (Nat.lt_irrefl 0)⟩,by simp,fun p hp=>absurd hp List.not_mem_nil⟩
 ·have hm2:maxLen=9223372036854775807:=rfl
  have hr:reachBytes=140737488351232:=rfl
  obtain⟨l,hll,hR⟩:=zhX (R:=fun i p=>∃c,c.length=d.sz∧d.K W p c∧(∀j u,c[j]?=some u→W.cell? (a.add (i*d.sz+j))=some u)∧Q p) len (fun i hi=>by
   have h1:=hel i hi
   rw[List.getElem?_eq_getElem kq1,Option.bind_eq_some_iff]at h1
   obtain⟨c,hc,ht⟩:=h1
   obtain⟨_,hcl,hcc⟩:=World.cells?_some hc
   obtain⟨p,hK,hl,hQ⟩:=ih n kq1 c _ ht (fun m hmm=>hw m (Open.mem_weights_slice hu (List.mem_map.2 ⟨_,List.getElem_mem kq1,rfl⟩) hmm))
   refine⟨p,c,hl,hK,fun j u hj=>?_,hQ⟩
   have hjl:=(List.getElem?_eq_some_iff.1 hj).1
   have:=hcc j kq1
   rw[Addr.add_add,hsz,hj]at this
   exact this)
  have hb:=hw ((elems.map (·.1)).length*B+(rest.map (·.1)).length*B) (by
   simp only[DataW.weights,hu,hB]
   rw[←Nat.add_mul]
   exact List.mem_cons_self ..)
  rw[List.length_map,hlen,hr]at hb
  refine⟨some a,l,cap,by rw[hll],kq1,⟨rfl,kq1,fun _=>⟨a,rfl,fun j p hj=>?_⟩⟩,by rw[hll];omega,fun p hp=>?_⟩
  ·obtain⟨c,h1,h2,f,_⟩:=hR j p hj
   exact⟨c,h1,h2,f⟩
  ·obtain⟨j,hj⟩:=List.mem_iff_getElem?.1 hp
   obtain⟨c,_,_,_,r⟩:=hR j p hj
   exact r
theorem zhY {P:Program} {t:TypeId} {n:Nat} {cs:List Value} {x:DataW H × List MemPlace} (hu:P.underlying t=some (.int .i64)) (h:DataW.trod enc P W base spare held n t cs=some x):∃a,cs=[.int .i64 a]∧fitI a:=by
 obtain⟨a,h1,_,f⟩:=DataW.trod_int hu h
 exact⟨a,h1,(Lit.wf_int_iff .i64 a).1 f⟩
theorem zjb {P:Program} {t:TypeId} {n:Nat} {cs:List Value} {x:DataW H × List MemPlace} (hu:P.underlying t=some .string) (h:DataW.trod enc P W base spare held n t cs=some x) (hw:∀m ∈ x.1.weights P t,m≤reachBytes):∃s,cs=[.string s]∧s.size≤140737488351232:=by
 obtain⟨s,h1,rfl,_⟩:=DataW.trod_string hu h
 refine⟨s,h1,?_⟩
 have z:=hw s.data.toList.length (by simp [DataW.weights])
 have hr:reachBytes=140737488351232:=rfl
 have f:s.size=s.data.toList.length:=by simp
 omega
theorem four {α:Type} {l:List α} (h:l.length=4):∃a b c d,l=[a,b,c,d]:=by
 match l,h with
 | [a,b,c,d],_=>exact⟨a,b,c,d,rfl⟩
theorem zis (fuel:Nat):∀(cs:List Value) (x:DataW H × List MemPlace),DataW.trod enc Try.prog W base spare held fuel 66 cs=some x→(∀m ∈ x.1.weights Try.prog 66,m≤reachBytes)→∃t:S66,k66.K W t cs∧cs.length=k66.sz∧FitT t:=by
 induction fuel using Nat.strongRecOn with
 |_ fuel ih=>
 intro cs x h hw
 obtain⟨xs,n,rfl,rfl,hcl,hxl,hf⟩:=DataW.trod_struct Try.underlying66 h
 rw[show Try.prog.cellsOf 66=4 by kernel_rfl]at hcl
 obtain⟨r,D,G,I,rfl⟩:=four hcl
 obtain⟨J,L,M,U,rfl⟩:=four (show xs.length=4 from hxl)
 have hw':∀(j:Nat) (t:TypeId) (y:DataW H),([64,2,9,36]:List TypeId)[j]?=some t→([J.1,L.1,M.1,U.1]:List (DataW H))[j]?=some y→∀m ∈ y.weights Try.prog t,m≤reachBytes:=fun j t y ht hy m hm=>hw m (by
  simp only[DataW.weights,Try.underlying66]
  exact DataW.weights_mem_each ht hy m hm)
 obtain⟨a0,X,w0⟩:=zhY Try.underlying64 (hf 0 _ rfl)
 obtain⟨f,Y,w1⟩:=zhY Try.underlying2 (hf 1 _ rfl)
 obtain⟨s,Z,w2⟩:=zjb Try.underlying9 (hf 2 _ rfl) (hw' 2 _ _ rfl rfl)
 obtain⟨A,l,c,e3,lc,hC,hl,hQ⟩:=zja k66 FitT 56 Try.underlying36 kq0 kq0 (fun m hm=>ih m kq1) (hf 3 _ rfl) (hw' 3 _ _ rfl rfl)
 have f0:r= .int .i64 a0:=by simpa [show Try.prog.cellsOf 64=1 by kernel_rfl]using X
 have f1:D= .int .i64 f:=by simpa [show Try.prog.cellsOf 2=1 by kernel_rfl]using Y
 have f2:G= .string s:=by simpa [show Try.prog.cellsOf 9=1 by kernel_rfl]using Z
 have f3:I= .slice A l.length c:=by simpa [show Try.prog.cellsOf 36=1 by kernel_rfl]using e3
 subst f0 f1 f2 f3
 exact⟨⟨a0,f,s,l⟩,zjA W ⟨a0,f,s,l⟩ lc hC,rfl,.mk w0 w1 w2 hl hQ⟩
theorem open_term {v:Value} {d:DataW H} {ps:List MemPlace} {r:Reach} {G:Nat} (hv:Value.okWide Try.prog W r G 66 v) (h:DataW.Trod enc Try.prog W base spare held 66 v d ps) (hw:∀m ∈ d.weights Try.prog 66,m≤reachBytes) :
 ∃(t:S66) (f:Option Addr) (D:Nat),v= .agg #[.int .i64 t.f0,.int .i64 t.f1,.string t.f2,.slice f t.f3.length D]∧t.f3.length≤D∧Kd.C k66 W f t.f3.length t.f3∧FitT t:=by
 obtain⟨cs,rfl,_⟩:=okWide_struct Try.underlying66 hv
 obtain⟨fuel,hf⟩:=h
 obtain⟨t,hK,_,hF⟩:=zis fuel _ _ hf hw
 obtain⟨f,D,he,I,J⟩:=zgT hK
 refine⟨t,f,D,?_,I,J,hF⟩
 rw[show cs=(Value.agg cs).cells.toList.toArray by simp [Value.cells],he]
end
end Go.Proofs.Ytjknpmibdkoklaa.Q
namespace Go.Proofs.Ytjknpmibdkoklaa.Q
open Go.RowKit Go.Proofs.YtjknpmibdkoklaaW.PrintWords Go.Proofs.YtjknpmibdkoklaaW.PrintLast Go.Proofs.YtjknpmibdkoklaaW.PrintMore
open Aside0 (mk)
open List (setIfInBounds_toArray set_cons_zero set_cons_succ)
attribute [local go_sem] zbw zbz zbP zbQ zbm zbn zbA zbB
set_option linter.unusedVariables false
set_option linter.unusedSimpArgs false
attribute [local go_sem] zbS zbD zbE zbF
def zbL.f (k:Nat) (a0_0 a0_1:Int) (a0_2:ByteArray) (l0_3:List (S66)):Option (List ByteArray × List Int × Int × Int):=(zbl.f a0_0 a0_1 a0_2 l0_3).bind fun t940=>(if t940=0 then((zau.f k a0_0 a0_1 a0_2 l0_3).bind fun bt941=>(if bt941.2.2.2=0 then(some (bt941.1,bt941.2.1,bt941.2.2.1,0))else(some (([]:List ByteArray),([]:List Int),0,bt941.2.2.2))))else(some (([]:List ByteArray),([]:List Int),0,t940)))
theorem zbL.mono:∀a0 r D a3 k,LeO (zbL.f k a0 r D a3) (zbL.f (k+1) a0 r D a3):=by
 intro a0 r D a3 k
 unfold zbL.f
 repeat' first
  |(with_reducible exact zau.mono _ _ _ _ _)
  |(with_reducible exact LeO.refl _)
  |(with_reducible exact LeO.none _)
  |(with_reducible refine LeO.ite ?_ ?_)
  |(with_reducible refine LeO.bind ?_ (fun _=>?_))
  |exact zau.mono _ _ _ _ _
  |exact LeO.none _
  |refine LeO.ite ?_ ?_
  |refine LeO.bind ?_ (fun _=>?_)
set_option maxHeartbeats 8000000 in
set_option maxRecDepth 100000 in
theorem zbL.calls (k:Nat) (I a0_1:Int) (a0_2:ByteArray) (ae:Option Addr) (af:Nat) (G:List (S66)) (r1:List ByteArray) (r2:List Int) (r3 r4:Int) (w:World) (ak:Kd.C k66 w ae G.length G) (hc0_3:G.length≤af) (h:zbL.f k I a0_1 a0_2 G=some (r1,r2,r3,r4)) :
 Calls Try.prog 49 #[.agg #[.int .i64 I,.int .i64 a0_1,.string a0_2,.slice ae G.length af]] w fun e w'=>∃am an:Value,e= .returned (.tuple #[am,an,.int .i64 r3,.int .i64 r4])∧Kd.R Kd.string 9 w' w.heap.size (fun _=>True) am r1∧Kd.R (Kd.int .i64) 2 w' w.heap.size (fun _=>True) an r2∧Below w.heap.size w w':=by
 have aM:=Try.underlying66
 have aG:=Try.underlying107
 have J:=mk ak
 have L:=mk hc0_3
 clear ak hc0_3
 have HB:=mk (Below.refl w.heap.size w)
 have H:((zbl.f I a0_1 a0_2 G).bind fun X=>(if X=0 then((zau.f k I a0_1 a0_2 G).bind fun Y=>(if Y.2.2.2=0 then(some (Y.1,Y.2.1,Y.2.2.1,0))else(some (([]:List ByteArray),([]:List Int),0,Y.2.2.2))))else(some (([]:List ByteArray),([]:List Int),0,X))))=some (r1,r2,r3,r4):=h
 clear h
 replace H:=Option.bind_eq_some_iff.mp H
 obtain⟨X,ao,H⟩:=H
 replace H:(if X=0 then((zau.f k I a0_1 a0_2 G).bind fun Y=>(if Y.2.2.2=0 then(some (Y.1,Y.2.1,Y.2.2.1,0))else(some (([]:List ByteArray),([]:List Int),0,Y.2.2.2))))else(some (([]:List ByteArray),([]:List Int),0,X)))=some (r1,r2,r3,r4):=H
 have A2:=mk ao
 clear ao
 by_cases c3:X=0
 ·rw[if_pos c3]at H
  have ap:=eT_ c3
  have aq:=nF_ c3
  clear c3
  replace H:=Option.bind_eq_some_iff.mp H
  obtain⟨⟨t941,t944,t947,t948⟩,ar,H⟩:=H
  replace H:(if t948=0 then(some (t941,t944,t947,0))else(some (([]:List ByteArray),([]:List Int),0,t948)))=some (r1,r2,r3,r4):=H
  have A4:=mk ar
  clear ar
  replace H:=ic_ H;obtain⟨c5,H⟩|⟨c5,H⟩:=H
  ·obtain⟨au,av⟩:=eTn_ c5;clear c5;simp only[Option.some.injEq,Prod.mk.injEq]at H;obtain⟨rfl,rfl,rfl,rfl⟩:=H;(go_enter Try.func49,Try.ntmps49);(go_wp2_with (first|((with_reducible refine zao (N:=1) rfl ?_);refine zal ?hg (N:=1) ?hd (cs:=#[.int .i64 I,.int .i64 a0_1,.string a0_2,.slice ae G.length af]) (t:=66) ?hr ?_;(case hd=>rfl);(case hg=>rfl);(case hr=>exact kq21);intro al hg w6 hbox hb;have r:=mk (hbox);have ab:=(gs_ hg kq8);have D:=ab;replace HB:=mk (zaa kq8 hb);clear hb hbox hg;obtain⟨_,_,_,_,_,_,_,_⟩:=cz4_ r.out)|(go_at_call 88;(with_reducible refine(zbl.calls I a0_1 a0_2 _ _ G X _ ?side1 ?side2 A2.out).mono ?_);(case side1=>exact kq25 J);(case side2=>exact L.out);rintro e w8 ⟨rfl,hb⟩;replace r:=(bb_ r hb);replace HB:=mk (zaa (kq20 D) hb);obtain⟨_,_,_,_,_,_,_,_⟩:=cz4_ r.out)|(go_at_call 81;(with_reducible refine(zau.calls k I a0_1 a0_2 _ _ G t941 t944 t947 t948 _ ?side1 ?side2 A4.out).mono ?_);(case side1=>exact kq25 J);(case side2=>exact L.out);rintro e aw ⟨ag,ah,rfl,ho0,ho1,hb⟩;have M:=mk (Kd.R_lower ho0 (zad (kq20 D)));have U:=mk (Kd.R_lower ho1 (zad (kq20 D)));replace r:=(bb_ r hb);replace HB:=mk (zaa (kq20 D) hb))|((with_reducible refine zao (N:=7) rfl ?_);refine zal ?hg (N:=7) ?hd (cs:=#[.slice none 0 0,.slice none 0 0,.int .i64 0,.int .i64 0]) (t:=107) ?hr ?_;(case hd=>rfl);(case hg=>rfl);(case hr=>exact kq21);intro gb949 hg aV hbox hb;have ac:=mk (hbox);have ai:=(gs_ hg (kq20 D));have aj:=ai;have Z:=(nl_ hg r);have aa:=(ng_ hg r);replace M:=mk (Kd.R_below (kq9 M) hb);replace U:=mk (Kd.R_below (kq9 U) hb);replace r:=(bb_ r hb);replace HB:=mk (zaa (kq20 D) hb);clear hb hbox hg;obtain⟨Ao12,co12,ax⟩:=Kd.R_slice M.out;subst ax;have aH:=aa.out;have aI:=Z.out;obtain⟨_,_,_,_,_,_,_,_⟩:=cz4_ ac.out;obtain⟨Ao15,co15,ay⟩:=Kd.R_slice U.out;subst ay)));(repeat(go_quiet (first|(go_at_call 88;(with_reducible refine(zbl.calls I a0_1 a0_2 _ _ G X _ ?side1 ?side2 A2.out).mono ?_);(case side1=>exact kq25 J);(case side2=>exact L.out);rintro e w8 ⟨rfl,hb⟩;replace r:=(bb_ r hb);replace HB:=mk (zaa (kq20 D) hb);obtain⟨_,_,_,_,_,_,_,_⟩:=cz4_ r.out)|(go_at_call 81;(with_reducible refine(zau.calls k I a0_1 a0_2 _ _ G t941 t944 t947 t948 _ ?side1 ?side2 A4.out).mono ?_);(case side1=>exact kq25 J);(case side2=>exact L.out);rintro e aw ⟨ag,ah,rfl,ho0,ho1,hb⟩;have M:=mk (Kd.R_lower ho0 (zad (kq20 D)));have U:=mk (Kd.R_lower ho1 (zad (kq20 D)));replace r:=(bb_ r hb);replace HB:=mk (zaa (kq20 D) hb)));try go_wp2_with (first|(go_at_call 88;(with_reducible refine(zbl.calls I a0_1 a0_2 _ _ G X _ ?side1 ?side2 A2.out).mono ?_);(case side1=>exact kq25 J);(case side2=>exact L.out);rintro e w8 ⟨rfl,hb⟩;replace r:=(bb_ r hb);replace HB:=mk (zaa (kq20 D) hb);obtain⟨_,_,_,_,_,_,_,_⟩:=cz4_ r.out)|(go_at_call 81;(with_reducible refine(zau.calls k I a0_1 a0_2 _ _ G t941 t944 t947 t948 _ ?side1 ?side2 A4.out).mono ?_);(case side1=>exact kq25 J);(case side2=>exact L.out);rintro e aw ⟨ag,ah,rfl,ho0,ho1,hb⟩;have M:=mk (Kd.R_lower ho0 (zad (kq20 D)));have U:=mk (Kd.R_lower ho1 (zad (kq20 D)));replace r:=(bb_ r hb);replace HB:=mk (zaa (kq20 D) hb)))));refine bodyPost_ret (zc9 (rs:=[.tmp 2,.tmp 3,.tmp 4,.tmp 5]) rfl (by simp) (.tmp (.tmp (.tmp (.tmp .nil))))) rfl ?_;exact⟨_,_,kq18,(zjI M ac),(zjI U ac),(kq31 D aj)⟩
  ·obtain⟨au,av⟩:=eFn_ c5;simp only[Option.some.injEq,Prod.mk.injEq]at H;obtain⟨rfl,rfl,rfl,rfl⟩:=H;(go_enter Try.func49,Try.ntmps49);(go_wp2_with (first|((with_reducible refine zao (N:=1) rfl ?_);refine zal ?hg (N:=1) ?hd (cs:=#[.int .i64 I,.int .i64 a0_1,.string a0_2,.slice ae G.length af]) (t:=66) ?hr ?_;(case hd=>rfl);(case hg=>rfl);(case hr=>exact kq21);intro al hg aW hbox hb;have r:=mk (hbox);have ab:=(gs_ hg kq8);have D:=ab;replace HB:=mk (zaa kq8 hb);clear hb hbox hg;obtain⟨_,_,_,_,_,_,_,_⟩:=cz4_ r.out)|(go_at_call 88;(with_reducible refine(zbl.calls I a0_1 a0_2 _ _ G X _ ?side1 ?side2 A2.out).mono ?_);(case side1=>exact kq25 J);(case side2=>exact L.out);rintro e az ⟨rfl,hb⟩;replace r:=(bb_ r hb);replace HB:=mk (zaa (kq20 D) hb);obtain⟨_,_,_,_,_,_,_,_⟩:=cz4_ r.out)|(go_at_call 81;(with_reducible refine(zau.calls k I a0_1 a0_2 _ _ G t941 t944 t947 t948 _ ?side1 ?side2 A4.out).mono ?_);(case side1=>exact kq25 J);(case side2=>exact L.out);rintro e aA ⟨ag,ah,rfl,ho0,ho1,hb⟩;have M:=mk (Kd.R_lower ho0 (zad (kq20 D)));have U:=mk (Kd.R_lower ho1 (zad (kq20 D)));replace r:=(bb_ r hb);replace HB:=mk (zaa (kq20 D) hb))|((with_reducible refine zao (N:=7) rfl ?_);refine zal ?hg (N:=7) ?hd (cs:=#[.slice none 0 0,.slice none 0 0,.int .i64 0,.int .i64 0]) (t:=107) ?hr ?_;(case hd=>rfl);(case hg=>rfl);(case hr=>exact kq21);intro gb949 hg aX hbox hb;have ac:=mk (hbox);have ai:=(gs_ hg (kq20 D));have aj:=ai;have Z:=(nl_ hg r);have aa:=(ng_ hg r);replace M:=mk (Kd.R_below (kq9 M) hb);replace U:=mk (Kd.R_below (kq9 U) hb);replace r:=(bb_ r hb);replace HB:=mk (zaa (kq20 D) hb);clear hb hbox hg;obtain⟨aN,aQ,aC⟩:=Kd.R_slice M.out;subst aC;have aJ:=aa.out;have aK:=Z.out;obtain⟨_,_,_,_,_,_,_,_⟩:=cz4_ ac.out;obtain⟨aT,aU,aD⟩:=Kd.R_slice U.out;subst aD)));(repeat(go_quiet (first|(go_at_call 88;(with_reducible refine(zbl.calls I a0_1 a0_2 _ _ G X _ ?side1 ?side2 A2.out).mono ?_);(case side1=>exact kq25 J);(case side2=>exact L.out);rintro e az ⟨rfl,hb⟩;replace r:=(bb_ r hb);replace HB:=mk (zaa (kq20 D) hb);obtain⟨_,_,_,_,_,_,_,_⟩:=cz4_ r.out)|(go_at_call 81;(with_reducible refine(zau.calls k I a0_1 a0_2 _ _ G t941 t944 t947 t948 _ ?side1 ?side2 A4.out).mono ?_);(case side1=>exact kq25 J);(case side2=>exact L.out);rintro e aA ⟨ag,ah,rfl,ho0,ho1,hb⟩;have M:=mk (Kd.R_lower ho0 (zad (kq20 D)));have U:=mk (Kd.R_lower ho1 (zad (kq20 D)));replace r:=(bb_ r hb);replace HB:=mk (zaa (kq20 D) hb)));try go_wp2_with (first|(go_at_call 88;(with_reducible refine(zbl.calls I a0_1 a0_2 _ _ G X _ ?side1 ?side2 A2.out).mono ?_);(case side1=>exact kq25 J);(case side2=>exact L.out);rintro e az ⟨rfl,hb⟩;replace r:=(bb_ r hb);replace HB:=mk (zaa (kq20 D) hb);obtain⟨_,_,_,_,_,_,_,_⟩:=cz4_ r.out)|(go_at_call 81;(with_reducible refine(zau.calls k I a0_1 a0_2 _ _ G t941 t944 t947 t948 _ ?side1 ?side2 A4.out).mono ?_);(case side1=>exact kq25 J);(case side2=>exact L.out);rintro e aA ⟨ag,ah,rfl,ho0,ho1,hb⟩;have M:=mk (Kd.R_lower ho0 (zad (kq20 D)));have U:=mk (Kd.R_lower ho1 (zad (kq20 D)));replace r:=(bb_ r hb);replace HB:=mk (zaa (kq20 D) hb)))));refine bodyPost_ret (zc9 (rs:=[.tmp 2,.tmp 3,.tmp 4,.tmp 5]) rfl (by simp) (.tmp (.tmp (.tmp (.tmp .nil))))) rfl ?_;exact⟨_,_,kq18,kq16,kq16,(kq31 D aj)⟩
 ·rw[if_neg c3]at H
  have ap:=eF_ c3
  have aq:=nT_ c3
  simp only[Option.some.injEq,Prod.mk.injEq]at H
  obtain⟨rfl,rfl,rfl,rfl⟩:=H
  go_enter Try.func49,Try.ntmps49
  go_wp2_with (first|((with_reducible refine zao (N:=1) rfl ?_);refine zal ?hg (N:=1) ?hd (cs:=#[.int .i64 I,.int .i64 a0_1,.string a0_2,.slice ae G.length af]) (t:=66) ?hr ?_;(case hd=>rfl);(case hg=>rfl);(case hr=>exact kq21);intro al hg aY hbox hb;have r:=mk (hbox);have ab:=(gs_ hg kq8);have D:=ab;replace HB:=mk (zaa kq8 hb);clear hb hbox hg;obtain⟨_,_,_,_,_,_,_,_⟩:=cz4_ r.out)|(go_at_call 88;(with_reducible refine(zbl.calls I a0_1 a0_2 _ _ G X _ ?side1 ?side2 A2.out).mono ?_);(case side1=>exact kq25 J);(case side2=>exact L.out);rintro e aE ⟨rfl,hb⟩;replace r:=(bb_ r hb);replace HB:=mk (zaa (kq20 D) hb)))
  repeat(go_quiet (first|(go_at_call 88;(with_reducible refine(zbl.calls I a0_1 a0_2 _ _ G X _ ?side1 ?side2 A2.out).mono ?_);(case side1=>exact kq25 J);(case side2=>exact L.out);rintro e aE ⟨rfl,hb⟩;replace r:=(bb_ r hb);replace HB:=mk (zaa (kq20 D) hb)));try go_wp2_with (first|(go_at_call 88;(with_reducible refine(zbl.calls I a0_1 a0_2 _ _ G X _ ?side1 ?side2 A2.out).mono ?_);(case side1=>exact kq25 J);(case side2=>exact L.out);rintro e aE ⟨rfl,hb⟩;replace r:=(bb_ r hb);replace HB:=mk (zaa (kq20 D) hb))))
  refine bodyPost_ret (zc9 (rs:=[.tmp 2,.tmp 3,.tmp 4,.tmp 5]) rfl (by simp) (.tmp (.tmp (.tmp (.tmp .nil))))) rfl ?_
  exact⟨_,_,kq18,kq16,kq16,(kq20 D)⟩
end Go.Proofs.Ytjknpmibdkoklaa.Q
set_option maxRecDepth 100000
namespace Go.Proofs.Ytjknpmibdkoklaa.Q
open Go.RowKit Go.Proofs.YtjknpmibdkoklaaW.PrintWords Go.Proofs.YtjknpmibdkoklaaW.PrintLast Go.Proofs.YtjknpmibdkoklaaW.PrintMore
theorem ziT (o:Int) (a:Sm):zdl o [a]=if a.2.2.2≠0 then a else zem (fun x y=>x-y) ([],[],0,0) a:=rfl
theorem ze8 (o:Int) (a b:Sm):zdl o [a,b]=if a.2.2.2≠0 then a else if b.2.2.2≠0 then b else if o=3 then zem (fun x y=>x+y) a b else if o=4 then zem (fun x y=>x-y) a b else zfT a b:=rfl
theorem zit (t:S66):okT t=if t.f0=0 then decide (t.f1≥0)&&(decide (t.f2.toList=([]:List UInt8))&&((t.f3.length:Int)==0))else if t.f0=1 then(t.f1==0)&&(zcE t.f2&&((t.f3.length:Int)==0))else if t.f0=2 then(t.f1==0)&&(decide (t.f2.toList=([]:List UInt8))&&((t.f3.length:Int)==1))else if 3≤t.f0∧t.f0≤5 then(t.f1==0)&&(decide (t.f2.toList=([]:List UInt8))&&((t.f3.length:Int)==2))else false:=by
 have fin:∀(x p:Int),(if t.f1=0 then(if t.f2.toList=([]:List UInt8)then(some (x==p))else(some false))else(some false)).getD false=((t.f1==0)&&(decide (t.f2.toList=([]:List UInt8))&&(x==p))):=by
  intro x p
  by_cases h1:t.f1=0
  ·rw[if_pos h1]
   by_cases h2:t.f2.toList=([]:List UInt8)
   ·rw[if_pos h2];simp [h1,h2]
   ·rw[if_neg h2];simp [h2]
  ·rw[if_neg h1];simp [h1]
 unfold okT zcu.f
 by_cases h0:t.f0=0
 ·rw[if_pos h0,if_pos h0]
  by_cases h1:t.f1≥0
  ·rw[if_pos h1,decide_eq_true h1]
   by_cases h2:t.f2.toList=([]:List UInt8)
   ·rw[if_pos h2];simp [h2]
   ·rw[if_neg h2];simp [h2]
  ·rw[if_neg h1,decide_eq_false h1];rfl
 ·rw[if_neg h0,if_neg h0]
  by_cases h1:t.f0=1
  ·rw[if_pos h1,if_pos h1]
   by_cases h2:t.f1=0
   ·rw[if_pos h2,h2]
    unfold za5.f
    rw[Option.bind_some]
    cases zcE t.f2<;>rfl
   ·rw[if_neg h2,beq_eq_false_iff_ne.2 h2];rfl
  ·rw[if_neg h1,if_neg h1]
   by_cases h2:t.f0=2
   ·rw[if_pos h2,if_pos h2];exact fin _ _
   ·rw[if_neg h2,if_neg h2]
    by_cases r:t.f0=3
    ·rw[if_pos r,if_pos (show 3≤t.f0∧t.f0≤5 by omega)];exact fin _ _
    ·rw[if_neg r]
     by_cases D:t.f0=4
     ·rw[if_pos D,if_pos (show 3≤t.f0∧t.f0≤5 by omega)];exact fin _ _
     ·rw[if_neg D]
      by_cases G:t.f0=5
      ·rw[if_pos G,if_pos (show 3≤t.f0∧t.f0≤5 by omega)];exact fin _ _
      ·rw[if_neg G,if_neg (show ¬(3≤t.f0∧t.f0≤5) by omega)];rfl
theorem zeI {t:S66} (h:okT t=true):(t.f0=0∧t.f3=[])∨(t.f0=1∧zcE t.f2=true∧t.f3=[])∨(t.f0=2∧∃u,t.f3=[u])∨((t.f0=3∨t.f0=4∨t.f0=5)∧∃u v,t.f3=[u,v]):=by
 have f:((t.f3.length:Int)==0)=true→t.f3=[]:=fun h=>List.eq_nil_of_length_eq_zero (by have:=beq_iff_eq.1 h;omega)
 have D:((t.f3.length:Int)==1)=true→∃u,t.f3=[u]:=fun h=>List.length_eq_one_iff.1 (by have:=beq_iff_eq.1 h;omega)
 have G:((t.f3.length:Int)==2)=true→∃u v,t.f3=[u,v]:=fun h=>by
  have hl:t.f3.length=2:=by have:=beq_iff_eq.1 h;omega
  match t.f3,hl with
  | [u,v],_=>exact⟨u,v,rfl⟩
 rw[zit]at h
 by_cases h0:t.f0=0
 ·rw[if_pos h0]at h
  simp only[Bool.and_eq_true]at h
  exact .inl ⟨h0,f h.2.2⟩
 ·rw[if_neg h0]at h
  by_cases h1:t.f0=1
  ·rw[if_pos h1]at h
   simp only[Bool.and_eq_true]at h
   exact .inr (.inl ⟨h1,h.2.1,f h.2.2⟩)
  ·rw[if_neg h1]at h
   by_cases h2:t.f0=2
   ·rw[if_pos h2]at h
    simp only[Bool.and_eq_true]at h
    exact .inr (.inr (.inl ⟨h2,D h.2.2⟩))
   ·rw[if_neg h2]at h
    by_cases r:3≤t.f0∧t.f0≤5
    ·rw[if_pos r]at h
     simp only[Bool.and_eq_true]at h
     exact .inr (.inr (.inr ⟨kq1,G h.2.2⟩))
    ·rw[if_neg r]at h
     cases h
theorem FitT.num {t:S66} (h:FitT t):In64 t.f1:=by cases h with|mk h0 h1 h2 f h=>exact h1
theorem FitT.sub {t:S66} (h:FitT t):∀u ∈ t.f3,FitT u:=by cases h with|mk h0 h1 h2 f h=>exact h
theorem zjx:In64 1:=⟨kq2,kq2⟩
theorem Wf.name {s:ByteArray} (h:zcE s=true) (n:Nat) (hn:1≤n):Wf ([s],[1],0,0) n:=⟨fun x hx=>by rw[List.mem_singleton.1 hx];exact h,by simp [Rise],rfl,fun c hc=>by rw[List.mem_singleton.1 hc];exact zjx,zdC,hn⟩
theorem zfo:∀(n:Nat) (t:S66),zdS t→FitT t→cntT t≤n→Wf (sumT t) (cntT t)
 |0,t,_,_,h=>absurd (zdR t) kq1
 |n+1,t,hr,hf,h=>by
  have hc:cntT t=1+zdz t.f3:=by cases t;rw[cntT]
  obtain⟨ho,hs⟩:=zeH hr
  have ih:∀u ∈ t.f3,Wf (sumT u) (cntT u):=fun u hu=>zfo n u (zcx hs u hu) (hf.sub u hu) (by have:=zdT u hu;omega)
  rw[zgg]
  rcases zeI ho with⟨h0,hl⟩|⟨h1,hn,hl⟩|⟨h2,u,hl⟩|⟨f,u,v,hl⟩
  ·rw[if_pos h0]
   exact Wf.num hf.num _
  ·rw[if_neg kq1,if_pos h1]
   exact Wf.name hn _ (zdR t)
  ·rw[if_neg kq1,if_neg kq1]
   rw[hl]at ih hc ⊢
   rw[hc]
   have hu:=ih u (.head _)
   simp only[zhS,zdl,zdz]
   split
   ·exact hu.up kq1
   ·exact(Wf.both (Wf.num zdC 0) hu).up kq1
  ·rw[if_neg kq1,if_neg kq1]
   rw[hl]at ih hc ⊢
   rw[hc]
   have hu:=ih u (.head _)
   have hv:=ih v (.tail _ (.head _))
   simp only[zhS,zdl,zdz]
   split
   ·exact hu.up kq1
   ·split
    ·exact hv.up kq1
    ·split
     ·exact(Wf.both hu hv).up kq1
     ·split
      ·exact(Wf.both hu hv).up kq1
      ·exact(Wf.prod hu hv).up kq1
theorem ziU (u:S66):zaN [u] 0=u:=rfl
theorem zgk (u v:S66):zaN [u,v] 0=u:=rfl
theorem zgl (u v:S66):zaN [u,v] 1=v:=rfl
theorem zg8 {s r:Sm} {n:Nat} (h:nrm s=r) (hr:r.2.2.2=0) (hw:Wf r n):Wf s n∧s=r:=by
 have:=zjt h hr
 exact⟨this▸hw,this⟩
theorem zfV:∀(n:Nat) (t:S66),zdS t→FitT t→cntT t≤n→n≤1000→∃s:Sm,Ev (fun k=>zau.f k t.f0 t.f1 t.f2 t.f3) s∧nrm s=sumT t∧Raw s (cntT t)
 |0,t,_,_,h,_=>absurd (zdR t) kq1
 |n+1,t,hr,hf,h,hn=>by
  have hc:cntT t=1+zdz t.f3:=by cases t;rw[cntT]
  obtain⟨ho,hs⟩:=zeH hr
  have ih:∀u ∈ t.f3,(∃s:Sm,Ev (fun k=>zau.f k u.f0 u.f1 u.f2 u.f3) s∧nrm s=sumT u∧Raw s (cntT u))∧Wf (sumT u) (cntT u):=fun u hu=>by
   have:=zdT u hu
   exact⟨zfV n u (zcx hs u hu) (hf.sub u hu) kq1 kq1,zfo n u (zcx hs u hu) (hf.sub u hu) kq1⟩
  rw[zgg]
  rcases zeI ho with⟨h0,hl⟩|⟨h1,hn,hl⟩|⟨h2,u,hl⟩|⟨h3,u,v,hl⟩
  ·rw[if_pos h0]
   refine⟨([],[],t.f1,0),Ev.step (f:=fun _=>some ([],[],t.f1,0)) (fun k=>?_) (Ev.now _),rfl,(Wf.num hf.num _).raw⟩
   show zau.f (k+1) t.f0 t.f1 t.f2 t.f3=_
   conv=>lhs;unfold zau.f
   rw[if_pos h0]
  ·rw[if_neg kq1,if_pos h1]
   refine⟨([t.f2],[1],0,0),Ev.step (f:=fun _=>some ([t.f2],[1],0,0)) (fun k=>?_) (Ev.now _),rfl,(Wf.name hn _ (zdR t)).raw⟩
   show zau.f (k+1) t.f0 t.f1 t.f2 t.f3=_
   conv=>lhs;unfold zau.f
   rw[if_neg kq1,if_pos h1]
  ·rw[if_neg kq1,if_neg kq1]
   rw[hl]at ih hc ⊢
   simp only[zdz]at hc
   obtain⟨⟨s,es,ns,rs⟩,wu⟩:=ih u (.head _)
   have key:∃z:Sm,zbc.f [] [] 0 0 s.1 s.2.1 s.2.2.1 s.2.2.2 1=some z∧nrm z=zdl t.f0 [sumT u]∧Raw z (cntT t):=by
    rw[ziT]
    by_cases hb:(sumT u).2.2.2=0
    ·obtain⟨ws,rfl⟩:=zg8 ns hb wu
     rw[if_neg (fun h=>h hb)]
     obtain⟨z,D,G,z3⟩:=zgP (a:=([],[],0,0)) (Wf.num zdC 0) wu kq1 kq1 rfl hb
     exact⟨z,D,G,z3.up kq1⟩
    ·rw[if_pos hb]
     exact⟨s,zhU (a:=([],[],0,0)) 1 rfl (zd6 ns hb),ns,rs.up kq1⟩
   obtain⟨z,hz,nz⟩:=key
   refine⟨z,Ev.step (f:=fun k=>(zau.f k u.f0 u.f1 u.f2 u.f3).bind fun bt=>(zbc.f [] [] 0 0 bt.1 bt.2.1 bt.2.2.1 bt.2.2.2 1).bind fun b=>some (b.1,b.2.1,b.2.2.1,b.2.2.2)) (fun k=>?_) (Ev.bind es ?_),nz⟩
   ·show zau.f (k+1) t.f0 t.f1 t.f2 [u]=_
    conv=>lhs;unfold zau.f
    rw[if_neg kq1,if_neg kq1,if_pos h2,if_pos (by simp),ziU]
   ·refine Ev.congr (fun k=>?_) (Ev.now z)
    rw[hz]
    rfl
  ·rw[if_neg kq1,if_neg kq1]
   rw[hl]at ih hc ⊢
   simp only[zdz]at hc
   obtain⟨⟨s,es,ns,rs⟩,wu⟩:=ih u (.head _)
   obtain⟨⟨s',es',ns',rs'⟩,wv⟩:=ih v (.tail _ (.head _))
   have last:∀p q:Sm,(∃z:Sm,zbc.f p.1 p.2.1 p.2.2.1 p.2.2.2 q.1 q.2.1 q.2.2.1 q.2.2.2 0=some z∧(t.f0=3→nrm z=zdl t.f0 [sumT u,sumT v]∧Raw z (cntT t)))→
    (∃z:Sm,zbc.f p.1 p.2.1 p.2.2.1 p.2.2.2 q.1 q.2.1 q.2.2.1 q.2.2.2 1=some z∧(t.f0=4→nrm z=zdl t.f0 [sumT u,sumT v]∧Raw z (cntT t)))→
    (∃z:Sm,Ev (fun k=>zaW.f k p.1 p.2.1 p.2.2.1 p.2.2.2 q.1 q.2.1 q.2.2.1 q.2.2.2) z∧(t.f0=5→nrm z=zdl t.f0 [sumT u,sumT v]∧Raw z (cntT t)))→
    ∃z:Sm,Ev (fun k=>zau.j0 k t.f0 t.f1 t.f2 [u,v] p.1 p.2.1 p.2.2.1 p.2.2.2 q.1 q.2.1 q.2.2.1 q.2.2.2) z∧nrm z=zdl t.f0 [sumT u,sumT v]∧Raw z (cntT t):=by
    intro p q h1 h2 h3'
    by_cases r:t.f0=3
    ·obtain⟨z,hz,nz⟩:=h1
     refine⟨z,Ev.step (f:=fun _=>some z) (fun k=>?_) (Ev.now _),nz r⟩
     conv=>lhs;rw[zau.j0]
     rw[if_pos r,hz]
     rfl
    ·by_cases I:t.f0=4
     ·obtain⟨z,hz,nz⟩:=h2
      refine⟨z,Ev.step (f:=fun _=>some z) (fun k=>?_) (Ev.now _),nz I⟩
      conv=>lhs;rw[zau.j0]
      rw[if_neg r,if_pos I,hz]
      rfl
     ·obtain⟨z,hz,nz⟩:=h3'
      refine⟨z,Ev.step (f:=fun k=>(zaW.f k p.1 p.2.1 p.2.2.1 p.2.2.2 q.1 q.2.1 q.2.2.1 q.2.2.2).bind fun b=>some (b.1,b.2.1,b.2.2.1,b.2.2.2)) (fun k=>?_) (Ev.bind hz (Ev.now _)),nz kq1⟩
      conv=>lhs;rw[zau.j0]
      rw[if_neg r,if_neg I]
   by_cases ha:(sumT u).2.2.2=0
   ·obtain⟨ws,J⟩:=zg8 ns ha wu
    subst J
    have hz:∃z:Sm,Ev (fun k=>zau.j0 k t.f0 t.f1 t.f2 [u,v] (sumT u).1 (sumT u).2.1 (sumT u).2.2.1 (sumT u).2.2.2 s'.1 s'.2.1 s'.2.2.1 s'.2.2.2) z∧nrm z=zdl t.f0 [sumT u,sumT v]∧Raw z (cntT t):=by
     by_cases hb:(sumT v).2.2.2=0
     ·obtain⟨ws',L⟩:=zg8 ns' hb wv
      subst L
      obtain⟨D,M,U,X⟩:=zir wu wv kq1 kq1 ha hb
      obtain⟨G,Y,Z,r2⟩:=zgP wu wv kq1 kq1 ha hb
      obtain⟨z3,a3,b3,r3⟩:=zju wu wv kq1 kq1 ha hb
      refine last _ _ ⟨D,M,fun c=>?_⟩ ⟨G,Y,fun c=>?_⟩ ⟨z3,a3,fun c=>?_⟩
      ·rw[ze8];rw[if_neg (fun h=>h ha),if_neg (fun h=>h hb),if_pos c];exact⟨U,X.up kq1⟩
      ·rw[ze8];rw[if_neg (fun h=>h ha),if_neg (fun h=>h hb),if_neg kq1,if_pos c];exact⟨Z,r2.up kq1⟩
      ·rw[ze8];rw[if_neg (fun h=>h ha),if_neg (fun h=>h hb),if_neg kq1,if_neg kq1];exact⟨b3,r3.up kq1⟩
     ·have hb':=zd6 ns' hb
      have hr':nrm s'=zdl t.f0 [sumT u,sumT v]∧Raw s' (cntT t):=by rw[ze8];rw[if_neg (fun h=>h ha),if_pos hb];exact⟨ns',rs'.up kq1⟩
      exact last _ _ ⟨s',zhU 0 ha hb',fun _=>hr'⟩ ⟨s',zhU 1 ha hb',fun _=>hr'⟩ ⟨s',Ev.congr (fun k=>zjw k ha hb') (Ev.now s'),fun _=>hr'⟩
    obtain⟨z,ez,nz⟩:=hz
    refine⟨z,Ev.step (f:=fun k=>(zau.f k u.f0 u.f1 u.f2 u.f3).bind fun bt=>(if bt.2.2.2=0 then((zau.f k v.f0 v.f1 v.f2 v.f3).bind fun b=>(zau.j0 k t.f0 t.f1 t.f2 [u,v] bt.1 bt.2.1 bt.2.2.1 bt.2.2.2 b.1 b.2.1 b.2.2.1 b.2.2.2))else(zau.j0 k t.f0 t.f1 t.f2 [u,v] bt.1 bt.2.1 bt.2.2.1 bt.2.2.2 [] [] 0 0))) (fun k=>?_) (Ev.bind es (Ev.congr (fun k=>if_pos ha) (Ev.bind es' ez))),nz⟩
    show zau.f (k+1) t.f0 t.f1 t.f2 [u,v]=_
    conv=>lhs;unfold zau.f
    rw[if_neg kq1,if_neg kq1,if_neg kq1,if_pos (by simp),zgk,zgl]
    congr 1
   ·have ha':=zd6 ns ha
    have hr':nrm s=zdl t.f0 [sumT u,sumT v]∧Raw s (cntT t):=by rw[ze8];rw[if_pos ha];exact⟨ns,rs.up kq1⟩
    obtain⟨z,ez,nz⟩:=last s ([],[],0,0) ⟨s,ziS 0 ha',fun _=>hr'⟩ ⟨s,ziS 1 ha',fun _=>hr'⟩ ⟨s,Ev.congr (fun k=>zjv k ha') (Ev.now s),fun _=>hr'⟩
    refine⟨z,Ev.step (f:=fun k=>(zau.f k u.f0 u.f1 u.f2 u.f3).bind fun bt=>(if bt.2.2.2=0 then((zau.f k v.f0 v.f1 v.f2 v.f3).bind fun b=>(zau.j0 k t.f0 t.f1 t.f2 [u,v] bt.1 bt.2.1 bt.2.2.1 bt.2.2.2 b.1 b.2.1 b.2.2.1 b.2.2.2))else(zau.j0 k t.f0 t.f1 t.f2 [u,v] bt.1 bt.2.1 bt.2.2.1 bt.2.2.2 [] [] 0 0))) (fun k=>?_) (Ev.bind es (Ev.congr (fun k=>if_neg ha') ez)),nz⟩
    show zau.f (k+1) t.f0 t.f1 t.f2 [u,v]=_
    conv=>lhs;unfold zau.f
    rw[if_neg kq1,if_neg kq1,if_neg kq1,if_pos (by simp),zgk,zgl]
    congr 1
theorem ziu (s:Sm):(if s.2.2.2=0 then some (s.1,s.2.1,s.2.2.1,(0:Int))else some (([]:List ByteArray),([]:List Int),(0:Int),s.2.2.2))=some (nrm s):=by
 unfold nrm
 by_cases h:s.2.2.2=0
 ·rw[if_pos h,if_pos h,←h]
 ·rw[if_neg h,if_neg h]
def linA (t:S66):Sm:=if(zcj t 1 (0,0,0)).2.2=0 then sumT t else([],[],0,(zcj t 1 (0,0,0)).2.2)
theorem zhZ {t:S66} (hf:FitT t):Ev (fun k=>zbL.f k t.f0 t.f1 t.f2 t.f3) (linA t):=by
 unfold zbL.f zbl.f linA
 have et:(⟨t.f0,t.f1,t.f2,t.f3⟩:S66)=t:=by cases t;rfl
 rw[et]
 refine Ev.congr (fun k=>Option.bind_some _ _) ?_
 by_cases h:(zcj t 1 (0,0,0)).2.2=0
 ·obtain⟨hr,_,hc⟩:=zc4 t 1 (0,0,0) kq2 kq2 h
  obtain⟨s,es,ns,_⟩:=zfV 500 t hr hf (by simp at hc;omega) kq2
  refine Ev.congr (fun k=>if_pos h) ?_
  rw[if_pos h]
  rw[←ns]
  exact Ev.bind es (Ev.congr (fun k=>ziu s) (Ev.now _))
 ·refine Ev.congr (fun k=>if_neg h) ?_
  rw[if_neg h]
  exact Ev.now _
end Go.Proofs.Ytjknpmibdkoklaa.Q
