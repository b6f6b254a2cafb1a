/- Functions of the given program as Lean functions, each with its contract, and what they answer; words for it. No condition but those of each. -/
import Derived.Test.YtjknpmibdkoklaaMNS
import Derived.Test.YtjknpmibdkoklaaMN13
import Derived.Test.YtjknpmibdkoklaaMN5
import Derived.LoopTactic
import Derived.Shelf.Abstract
import Derived.Test.YtjknpmibdkoklaaMN6
import Derived.Test.YtjknpmibdkoklaaMN7
import Derived.Test.YtjknpmibdkoklaaMN3
import Derived.Test.YtjknpmibdkoklaaMN8
import Derived.Test.YtjknpmibdkoklaaMN4
import Derived.Test.YtjknpmibdkoklaaMN2
import Derived.Deep.RegionHeld3
set_option linter.unusedVariables false
set_option linter.unusedSimpArgs false
set_option maxRecDepth 100000
namespace Go.Proofs.Ytjknpmibdkoklaa.Q
open Go.RowKit Go.Proofs.YtjknpmibdkoklaaW.PrintWords Go.Proofs.YtjknpmibdkoklaaW.PrintLast Go.Proofs.YtjknpmibdkoklaaW.PrintMore
open Aside0 (mk)
def okT (t:S66):Bool:=(zcu.f t.f0 t.f1 t.f2 t.f3).getD false
theorem zjr (t:S66):zcu.f t.f0 t.f1 t.f2 t.f3=some (okT t):=by
 unfold okT zcu.f
 simp only[za5.f,Option.bind_some]
 (repeat' split)<;>rfl
mutual
def zcj:S66→Int→Int × Int × Int→Int × Int × Int
 |⟨a,b,s,l⟩,dep,m=>if(zcs dep (okT ⟨a,b,s,l⟩) m).2.2=0 then zb1 l (wrap64 (dep+1)) (zcs dep (okT ⟨a,b,s,l⟩) m)else zcs dep (okT ⟨a,b,s,l⟩) m
def zb1:List S66→Int→Int × Int × Int→Int × Int × Int
 | [],_,m=>m
 |t::l,dep,m=>if(zcj t dep m).2.2=0 then zb1 l dep (zcj t dep m)else zcj t dep m
end
theorem zgG (t:S66) (dep:Int) (m:Int × Int × Int):zcj t dep m=if(zcs dep (okT t) m).2.2=0 then zb1 t.f3 (wrap64 (dep+1)) (zcs dep (okT t) m)else zcs dep (okT t) m:=by
 cases t;rw[zcj]
theorem zdw {l:List S66} {i:Nat} (h:i<l.length) (dep:Int) (m:Int × Int × Int):zb1 (l.drop i) dep m=if(zcj l[i] dep m).2.2=0 then zb1 (l.drop (i+1)) dep (zcj l[i] dep m)else zcj l[i] dep m:=by
 rw[List.drop_eq_getElem_cons h,zb1]
structure Going (w0 w W:World) (c g:Nat) (m:Int × Int × Int):Prop where
 st:StM 103 W g m
 cl:ClM W c g
 keep:za6 w W g none
 below:Below w0.heap.size w0 W
theorem Going.ne {w0 w W:World} {c g:Nat} {m:Int × Int × Int} (h:Going w0 w W c g m):c≠g:=zcz h.cl h.st kq2
theorem Going.then_ {w0 w W W':World} {c g:Nat} {m:Int × Int × Int} (h:Going w0 w W c g m) (hb:Below W.heap.size W W'):Going w0 w W' c g m:=
 ⟨h.st.below hb,zai h.cl hb,h.keep.trans (za6.of_below hb g none) (.inl rfl),zaa h.below hb⟩
theorem Going.step {w0 w W W':World} {c g:Nat} {m m':Int × Int × Int} (h:Going w0 w W c g m) (hs:StM 103 W' g m') (hk:za6 W W' g none) (hb:Below w0.heap.size w0 W'):Going w0 w W' c g m':=
 ⟨hs,hk.blk h.cl h.ne (by simp),h.keep.trans hk (.inl rfl),hb⟩
theorem Going.self {w0 w W:World} {c g:Nat} {m:Int × Int × Int} (h:Going w0 w W c g m):Going w0 W W c g m:=⟨h.st,h.cl,za6.refl W g none,h.below⟩
theorem Going.drewN {w0 w W:World} {c g:Nat} {m:Int × Int × Int} (h:Going w0 w W c g m) (n:Nat):Going w0 w (W.drewN n) c g m:=h.then_ (zbb (Below.refl _ _) n)
set_option maxHeartbeats 8000000 in
theorem zdx:∀(n:Nat) (t:S66),SizeOf.sizeOf t<n→∀(A:Option Addr) (L:Nat) (dep:Int) (m:Int × Int × Int) (w0 w:World) (c g:Nat),w0.heap.size≤g→Going w0 w w c g m→Kd.C k66 w0 A t.f3.length t.f3→t.f3.length≤L→
 Calls Try.prog 126 #[.func (.func 161) #[] #[.pointer (some ⟨c,0,none⟩)],.agg #[.int .i64 t.f0,.int .i64 t.f1,.string t.f2,.slice A t.f3.length L],.int .i64 dep] w fun en w'=>en= .returned (.bool ((zcj t dep m).2.2==0))∧Going w0 w w' c g (zcj t dep m):=by
 intro n
 induction n with
 |zero=>exact fun t h=>absurd h (Nat.not_lt_zero _)
 |succ n ih=>
 intro t ht A L dep m w0 w c g hwg hG hr hc0
 have ae:=Try.underlying66
 have HR:=mk hr
 have HC:=mk hc0
 have HG:=mk hG
 have HT:=mk ht
 clear hr hc0 hG ht
 have hok:=mk (zjr t)
 rw[zgG]
 have hlen:=HR.out.2.1
 generalize hN:zcs dep (okT t) m=nm
 have HN:=mk hN
 clear hN
 obtain⟨s1,d1,e1⟩:=nm
 by_cases he:e1=0
 ·subst he
  rw[if_pos rfl]
  go_enter Try.func126,Try.ntmps126
  go_wp2_with (first|((with_reducible refine zao (N:=4) rfl ?_);refine zal ?hg (N:=4) ?hd (cs:=#[.int .i64 t.f0,.int .i64 t.f1,.string t.f2,.slice A t.f3.length L]) (t:=66) ?hr ?_;(case hd=>rfl);(case hg=>rfl);(case hr=>exact kq21);intro gb hgb w1 hbox hb;have HG1:=mk (HG.out.then_ hb);have BK:=mk hbox;have GE:=mk (Nat.le_of_eq hgb.symm);clear HG hb hbox hgb;obtain⟨_,_,_,_⟩:=cy4_ BK.out)|(go_at_call 165;(with_reducible refine(zcu.calls t.f0 t.f1 t.f2 A L t.f3 (okT t) _ ?side1 ?side2 hok.out).mono ?_);(case side1=>exact Kd.C_below HR.out HG1.out.below);(case side2=>exact HC.out);rintro e w2 ⟨rfl,hb⟩;have HG2:=mk (HG1.out.then_ hb);have f:=mk (zai BK.out hb);clear HG1 BK hb)|(go_at_call 161;refine(zdL c g m.1 m.2.1 m.2.2 dep (okT t) w0 _ hwg HG2.out.below HG2.out.st HG2.out.cl).mono ?_;rw[show((m.1,m.2.1,m.2.2):Int × Int × Int)=m from rfl,HN.out];rintro e w3 ⟨rfl,hs,hk,hb⟩;have M:=mk (hk.blk f.out (zcz f.out HG2.out.st kq2) (by simp));have HG3:=mk (HG2.out.step hs hk hb);clear HG2 f hs hk hb;have r3:w3.cell? ⟨gb,3,none⟩=some (.slice A t.f3.length L):=bk_ M 3))
  go_loopg [18] t.f3.length (fun gq aa wr=>∃(i:Nat) (mm:Int × Int × Int),aa= .int .i64 i∧Aside0 (i≤t.f3.length)∧Aside0 (t.f3.length-i≤gq)∧Aside0 (zb1 (t.f3.drop i) (wrap64 (dep+1)) mm=zb1 t.f3 (wrap64 (dep+1)) (s1,d1,0))∧Aside0 (mm.2.2=0)∧Aside0 (wr.heap[gb]?=some (.cells #[.int .i64 t.f0,.int .i64 t.f1,.string t.f2,.slice A t.f3.length L] 66 (0,0)))∧Aside0 (Going w0 w wr c g mm))
  case atStart=>exact⟨0,(s1,d1,0),rfl,⟨Nat.zero_le _⟩,⟨kq1⟩,⟨by rw[List.drop_zero]⟩,⟨rfl⟩,⟨M.out⟩,⟨HG3.out⟩⟩
  case round=>
   obtain⟨i,mm,rfl,HI,HQ,HM,HZ,BK,HG⟩:=hrel
   by_cases hi:i<t.f3.length
   ·have hiz:(i:Int)<(t.f3.length:Int):=by omega
    have ab:(0:Int)≤(i:Int):=by omega
    obtain⟨ad,A2,c2,ead,D,G,I,J,hl3,U⟩:=zdr HR.out (i:Int) ab hiz
    cases ead
    have hx:zaN t.f3 (i:Int)=t.f3[i]:=by simp [zaN,hi]
    rw[hx]at D G I J hl3 U
    rw[Int.toNat_natCast]at D G I J
    have hB:=HG.out.below
    replace D:=(hB.cell (World.block_lt_of_cell? _ _ D)).trans D
    replace G:=(hB.cell (World.block_lt_of_cell? _ _ G)).trans G
    replace I:=(hB.cell (World.block_lt_of_cell? _ _ I)).trans I
    replace J:=(hB.cell (World.block_lt_of_cell? _ _ J)).trans J
    have X:=mk hl3
    have HI3:=mk U
    have HMD:=mk ((zdw hi (wrap64 (dep+1)) mm).symm.trans HM.out)
    have HSZ:=mk (show SizeOf.sizeOf t.f3[i]<n by
     have h1:=List.sizeOf_lt_of_mem (List.getElem_mem hi)
     have h2:SizeOf.sizeOf t.f3<SizeOf.sizeOf t:=by cases t;simp;omega
     have:=HT.out
     omega)
    clear hl3 U hB hx HM
    generalize t.f3[i]=y at D G I J X HI3 HMD HSZ
    by_cases hy:(zcj y (wrap64 (dep+1)) mm).2.2=0
    ·have hyb:((zcj y (wrap64 (dep+1)) mm).2.2==0)=true:=beq_iff_eq.2 hy
     have HY:=mk hy
     rw[if_pos hy]at HMD
     clear hy
     go_wp2_with (first|((with_reducible refine zao (N:=8) rfl ?_);refine zal ?hg (N:=8) ?hd (cs:=#[.int .i64 0,.int .i64 0,.string (⟨#[]⟩:ByteArray),.slice none 0 0]) (t:=66) ?hr ?_;(case hd=>rfl);(case hg=>rfl);(case hr=>exact kq21);intro ac hgb2 w4 hbox hb;have Y:=mk hbox;have HB4:=mk hb;have r:=mk (Nat.le_of_eq hgb2.symm);clear hb hbox hgb2;obtain⟨_,_,_,_,y0,y1,y2,_⟩:=cz4_ Y.out)|(go_at_call 126;refine(ih y HSZ.out A2 c2 (wrap64 (dep+1)) mm w0 _ c g hwg ?s1 HI3.out X.out).mono ?_;(case s1=>exact kq40 r);rw[hyb];rintro e w5 ⟨rfl,hg5⟩;have HG5:=mk ((HG.out.then_ (kq39 r)).step hg5.st hg5.keep hg5.below);have Z:=mk (hg5.keep.blk (zai BK.out (kq39 r)) (zcz BK.out HG.out.st kq2) (by simp));clear hg5))
     go_roundg (t.f3.length-(i+1))
     case measure=>have:=HQ.out;omega
     case rel=>exact⟨i+1,_,kq41,⟨kq1⟩,⟨kq1⟩,HMD,HY,Z,HG5⟩
    ·have hyb:((zcj y (wrap64 (dep+1)) mm).2.2==0)=false:=beq_eq_false_iff_ne.2 hy
     rw[if_neg hy]at HMD
     clear hy
     go_wp2_with (first|((with_reducible refine zao (N:=8) rfl ?_);refine zal ?hg (N:=8) ?hd (cs:=#[.int .i64 0,.int .i64 0,.string (⟨#[]⟩:ByteArray),.slice none 0 0]) (t:=66) ?hr ?_;(case hd=>rfl);(case hg=>rfl);(case hr=>exact kq21);intro ac hgb2 w4 hbox hb;have Y:=mk hbox;have HB4:=mk hb;have r:=mk (Nat.le_of_eq hgb2.symm);clear hb hbox hgb2;obtain⟨_,_,_,_,y0,y1,y2,_⟩:=cz4_ Y.out)|(go_at_call 126;refine(ih y HSZ.out A2 c2 (wrap64 (dep+1)) mm w0 _ c g hwg ?s1 HI3.out X.out).mono ?_;(case s1=>exact kq40 r);rw[hyb];rintro e w5 ⟨rfl,hg5⟩;have HG5:=mk ((HG.out.then_ (kq39 r)).step hg5.st hg5.keep hg5.below);have Z:=mk (hg5.keep.blk (zai BK.out (kq39 r)) (zcz BK.out HG.out.st kq2) (by simp));clear hg5))
     go_ret
     exact⟨by rw[←HMD.out,hyb];rfl,by rw[←HMD.out];exact HG5.out⟩
   ·have hiz:¬(i:Int)<(t.f3.length:Int):=by omega
    have hil:i=t.f3.length:=by have:=HI.out;omega
    have HE:=mk (show mm=zb1 t.f3 (wrap64 (dep+1)) (s1,d1,0) by rw[←HM.out,hil,List.drop_length];rfl)
    clear hil HM hi
    go_wp2
    go_ret
    exact⟨by rw[←HE.out,beq_iff_eq.2 HZ.out];rfl,by rw[←HE.out];exact HG.out⟩
 ·have he1:(e1==0)=false:=beq_eq_false_iff_ne.2 he
  rw[if_neg he]
  go_enter Try.func126,Try.ntmps126
  go_wp2_with (first|((with_reducible refine zao (N:=4) rfl ?_);refine zal ?hg (N:=4) ?hd (cs:=#[.int .i64 t.f0,.int .i64 t.f1,.string t.f2,.slice A t.f3.length L]) (t:=66) ?hr ?_;(case hd=>rfl);(case hg=>rfl);(case hr=>exact kq21);intro gb hgb w1 hbox hb;have HG1:=mk (HG.out.then_ hb);have BK:=mk hbox;have GE:=mk (Nat.le_of_eq hgb.symm);clear HG hb hbox hgb;obtain⟨_,_,_,_⟩:=cy4_ BK.out)|(go_at_call 165;(with_reducible refine(zcu.calls t.f0 t.f1 t.f2 A L t.f3 (okT t) _ ?side1 ?side2 hok.out).mono ?_);(case side1=>exact Kd.C_below HR.out HG1.out.below);(case side2=>exact HC.out);rintro e w2 ⟨rfl,hb⟩;have HG2:=mk (HG1.out.then_ hb);have f:=mk (zai BK.out hb);clear HG1 BK hb)|(go_at_call 161;refine(zdL c g m.1 m.2.1 m.2.2 dep (okT t) w0 _ hwg HG2.out.below HG2.out.st HG2.out.cl).mono ?_;rw[show((m.1,m.2.1,m.2.2):Int × Int × Int)=m from rfl,HN.out];rintro e w3 ⟨rfl,hs,hk,hb⟩;have M:=mk (hk.blk f.out (zcz f.out HG2.out.st kq2) (by simp));have HG3:=mk (HG2.out.step hs hk hb);clear HG2 f hs hk hb;have r3:w3.cell? ⟨gb,3,none⟩=some (.slice A t.f3.length L):=bk_ M 3))
  go_ret
  exact⟨by rw[he1];rfl,HG3.out⟩
end Go.Proofs.Ytjknpmibdkoklaa.Q
set_option maxRecDepth 100000
namespace Go.Proofs.Ytjknpmibdkoklaa.Q
open Go.RowKit Go.Proofs.YtjknpmibdkoklaaW.PrintWords Go.Proofs.YtjknpmibdkoklaaW.PrintLast Go.Proofs.YtjknpmibdkoklaaW.PrintMore
open Aside0 (mk)
def okF (t:S39):Bool:=(zaw.f 6 t.f0 t.f1 t.f2 t.f3 t.f4).getD false
theorem zhG {o:Option Bool} (h:o.isSome=true):o=some (o.getD false):=by cases o<;>simp_all
theorem zi4 (a0:Bool) (r D:Int) (a3:Bool) (a4:Int) (a5:ByteArray) (G:Int) (I:List S66) (J:List S39):(zaw.j4 2 a0 r D a3 a4 a5 G I J).isSome=true:=by
 simp only[zaw.j4,za5.f,Option.bind_some]
 repeat' split
 all_goals first|rfl
theorem zi5 (a0:Bool) (r D:Int) (a3:Bool) (a4:Int) (a5:ByteArray) (G:Int) (I:List S66) (J:List S39):(zaw.j3 3 a0 r D a3 a4 a5 G I J).isSome=true:=by
 simp only[zaw.j3,za5.f,Option.bind_some]
 repeat' split
 all_goals first|rfl|exact zi4 ..
theorem zi6 (a0:Bool) (r D:Int) (a3:Bool) (a4:Int) (a5:ByteArray) (G:Int) (I:List S66) (J:List S39):(zaw.j2 4 a0 r D a3 a4 a5 G I J).isSome=true:=by
 simp only[zaw.j2,za5.f,Option.bind_some]
 repeat' split
 all_goals first|rfl|exact zi5 ..
theorem zi7 (a0:Bool) (r D:Int) (a3:Bool) (a4:Int) (a5:ByteArray) (G:Int) (I:List S66) (J:List S39):(zaw.j1 5 a0 r D a3 a4 a5 G I J).isSome=true:=by
 simp only[zaw.j1,za5.f,Option.bind_some]
 repeat' split
 all_goals first|rfl|exact zi6 ..
theorem zi8 (a0:Bool) (r:Int) (D:ByteArray) (a3:Int) (a4:List S66) (a5:List S39):(zaw.j0 6 a0 r D a3 a4 a5).isSome=true:=by
 simp only[zaw.j0,za5.f,Option.bind_some]
 repeat' split
 all_goals first|rfl|exact zi7 ..
theorem zjs (t:S39):zaw.f 6 t.f0 t.f1 t.f2 t.f3 t.f4=some (okF t):=by
 refine zhG ?_
 unfold zaw.f
 split
 all_goals exact zi8 ..
mutual
def zc8:S39→Int→Int × Int × Int→Int × Int × Int
 |⟨a,s,b,l,q⟩,dep,m=>if(zcs dep (okF ⟨a,s,b,l,q⟩) m).2.2=0 then(if(zb1 l (wrap64 (dep+1)) (zcs dep (okF ⟨a,s,b,l,q⟩) m)).2.2=0 then zdc q (wrap64 (dep+1)) (zb1 l (wrap64 (dep+1)) (zcs dep (okF ⟨a,s,b,l,q⟩) m))else zb1 l (wrap64 (dep+1)) (zcs dep (okF ⟨a,s,b,l,q⟩) m))else zcs dep (okF ⟨a,s,b,l,q⟩) m
def zdc:List S39→Int→Int × Int × Int→Int × Int × Int
 | [],_,m=>m
 |t::l,dep,m=>if(zc8 t dep m).2.2=0 then zdc l dep (zc8 t dep m)else zc8 t dep m
end
theorem zio (t:S39) (dep:Int) (m:Int × Int × Int):zc8 t dep m=if(zcs dep (okF t) m).2.2=0 then(if(zb1 t.f3 (wrap64 (dep+1)) (zcs dep (okF t) m)).2.2=0 then zdc t.f4 (wrap64 (dep+1)) (zb1 t.f3 (wrap64 (dep+1)) (zcs dep (okF t) m))else zb1 t.f3 (wrap64 (dep+1)) (zcs dep (okF t) m))else zcs dep (okF t) m:=by
 cases t;rw[zc8]
theorem zga {l:List S39} {i:Nat} (h:i<l.length) (dep:Int) (m:Int × Int × Int):zdc (l.drop i) dep m=if(zc8 l[i] dep m).2.2=0 then zdc (l.drop (i+1)) dep (zc8 l[i] dep m)else zc8 l[i] dep m:=by
 rw[List.drop_eq_getElem_cons h,zdc]
set_option maxHeartbeats 8000000 in
theorem zgb:∀(n:Nat) (t:S39),SizeOf.sizeOf t<n→∀(A:Option Addr) (X:Nat) (B:Option Addr) (Z:Nat) (dep:Int) (m:Int × Int × Int) (w0 w:World) (c g:Nat),w0.heap.size≤g→Going w0 w w c g m→Kd.C k66 w0 A t.f3.length t.f3→t.f3.length≤X→Kd.C k39 w0 B t.f4.length t.f4→t.f4.length≤Z→
 Calls Try.prog 118 #[.func (.func 161) #[] #[.pointer (some ⟨c,0,none⟩)],.agg #[.int .i64 t.f0,.string t.f1,.int .i64 t.f2,.slice A t.f3.length X,.slice B t.f4.length Z],.int .i64 dep] w fun en w'=>en= .returned (.bool ((zc8 t dep m).2.2==0))∧Going w0 w w' c g (zc8 t dep m):=by
 intro n
 induction n with
 |zero=>exact fun t h=>absurd h (Nat.not_lt_zero _)
 |succ n ih=>
 intro t ht A X B Z dep m w0 w c g hwg hG hr hc0 ag hc1
 have ai:=Try.underlying66
 have aj:=Try.underlying39
 have HR:=mk hr
 have HC:=mk hc0
 have aa:=mk ag
 have ah:=mk hc1
 have HG:=mk hG
 have HT:=mk ht
 clear hr hc0 ag hc1 hG ht
 have hok:=mk (zjs t)
 rw[zio]
 have hlen:=HR.out.2.1
 have hlen4:=aa.out.2.1
 generalize hN:zcs dep (okF t) m=nm
 have HN:=mk hN
 clear hN
 obtain⟨s1,d1,e1⟩:=nm
 by_cases he:e1=0
 ·subst he
  rw[if_pos rfl]
  generalize hRR:(if(zb1 t.f3 (wrap64 (dep+1)) (s1,d1,0)).2.2=0 then zdc t.f4 (wrap64 (dep+1)) (zb1 t.f3 (wrap64 (dep+1)) (s1,d1,0))else zb1 t.f3 (wrap64 (dep+1)) (s1,d1,0))=R
  have HRR:=mk hRR
  clear hRR
  go_enter Try.func118,Try.ntmps118
  go_wp2_with (first|((with_reducible refine zao (N:=4) rfl ?_);refine zal ?hg (N:=4) ?hd (cs:=#[.int .i64 t.f0,.string t.f1,.int .i64 t.f2,.slice A t.f3.length X,.slice B t.f4.length Z]) (t:=39) ?hr ?_;(case hd=>rfl);(case hg=>rfl);(case hr=>exact kq21);intro gb hgb w1 hbox hb;have HG1:=mk (HG.out.then_ hb);have BK:=mk hbox;clear HG hb hbox hgb;obtain⟨_,_,_,_,_⟩:=cy5_ BK.out)|(go_at_call 162;(with_reducible refine(zaw.calls 6 t.f0 t.f1 t.f2 A X t.f3 B Z t.f4 (okF t) _ ?side1 ?side2 ?side3 ?side4 hok.out).mono ?_);(case side1=>exact Kd.C_below HR.out HG1.out.below);(case side2=>exact HC.out);(case side3=>exact Kd.C_below aa.out HG1.out.below);(case side4=>exact ah.out);rintro e w2 ⟨rfl,hb⟩;have HG2:=mk (HG1.out.then_ hb);have J:=mk (zai BK.out hb);clear HG1 BK hb)|(go_at_call 161;refine(zdL c g m.1 m.2.1 m.2.2 dep (okF t) w0 _ hwg HG2.out.below HG2.out.st HG2.out.cl).mono ?_;rw[show((m.1,m.2.1,m.2.2):Int × Int × Int)=m from rfl,HN.out];rintro e w3 ⟨rfl,hs,hk,hb⟩;have ab:=mk (hk.blk J.out (zcz J.out HG2.out.st kq2) (by simp));have HG3:=mk (HG2.out.step hs hk hb);clear HG2 J hs hk hb;have r3:w3.cell? ⟨gb,3,none⟩=some (.slice A t.f3.length X):=bk_ ab 3))
  go_loopg [20] t.f3.length (fun gq v wr=>∃(i:Nat) (mm:Int × Int × Int),v= .int .i64 i∧Aside0 (i≤t.f3.length)∧Aside0 (t.f3.length-i≤gq)∧Aside0 (zb1 (t.f3.drop i) (wrap64 (dep+1)) mm=zb1 t.f3 (wrap64 (dep+1)) (s1,d1,0))∧Aside0 (mm.2.2=0)∧Aside0 (wr.heap[gb]?=some (.cells #[.int .i64 t.f0,.string t.f1,.int .i64 t.f2,.slice A t.f3.length X,.slice B t.f4.length Z] 39 (0,0)))∧Aside0 (Going w0 w wr c g mm))
  case atStart=>exact⟨0,(s1,d1,0),rfl,⟨Nat.zero_le _⟩,⟨kq1⟩,⟨by rw[List.drop_zero]⟩,⟨rfl⟩,⟨ab.out⟩,⟨HG3.out⟩⟩
  case round=>
   obtain⟨i,mm,rfl,HI,HQ,HM,HZ,BK,HG⟩:=hrel
   by_cases hi:i<t.f3.length
   ·have hiz:(i:Int)<(t.f3.length:Int):=by omega
    have ac:(0:Int)≤(i:Int):=by omega
    obtain⟨ad,A2,c2,ead,r,D,G,I,hl3,L⟩:=zdr HR.out (i:Int) ac hiz
    cases ead
    have hx:zaN t.f3 (i:Int)=t.f3[i]:=by simp [zaN,hi]
    rw[hx]at r D G I hl3 L
    rw[Int.toNat_natCast]at r D G I
    have hB:=HG.out.below
    replace r:=(hB.cell (World.block_lt_of_cell? _ _ r)).trans r
    replace D:=(hB.cell (World.block_lt_of_cell? _ _ D)).trans D
    replace G:=(hB.cell (World.block_lt_of_cell? _ _ G)).trans G
    replace I:=(hB.cell (World.block_lt_of_cell? _ _ I)).trans I
    have Hhl3:=mk hl3
    have Hhi3:=mk L
    have HMD:=mk ((zdw hi (wrap64 (dep+1)) mm).symm.trans HM.out)
    clear hl3 L hB hx HM
    generalize t.f3[i]=y at r D G I Hhl3 Hhi3 HMD
    by_cases hy:(zcj y (wrap64 (dep+1)) mm).2.2=0
    ·have hyb:((zcj y (wrap64 (dep+1)) mm).2.2==0)=true:=beq_iff_eq.2 hy
     have HY:=mk hy
     rw[if_pos hy]at HMD
     clear hy
     go_wp2_with (first|((with_reducible refine zao (N:=8) rfl ?_);refine zal ?hg (N:=8) ?hd (cs:=#[.int .i64 0,.int .i64 0,.string (⟨#[]⟩:ByteArray),.slice none 0 0]) (t:=66) ?hr ?_;(case hd=>rfl);(case hg=>rfl);(case hr=>exact kq21);intro ae hgb2 w4 hbox hb;have M:=mk hbox;have HB4:=mk hb;have f:=mk (Nat.le_of_eq hgb2.symm);clear hb hbox hgb2;obtain⟨_,_,_,_,y0,y1,y2,_⟩:=cz4_ M.out)|(go_at_call 126;refine(zdx _ y (Nat.lt_succ_self _) A2 c2 (wrap64 (dep+1)) mm w0 _ c g hwg ?s1 Hhi3.out Hhl3.out).mono ?_;(case s1=>exact kq40 f);rw[hyb];rintro e w5 ⟨rfl,hg5⟩;have HG5:=mk ((HG.out.then_ (kq39 f)).step hg5.st hg5.keep hg5.below);have Y:=mk (hg5.keep.blk (zai BK.out (kq39 f)) (zcz BK.out HG.out.st kq2) (by simp));clear hg5))
     go_roundg (t.f3.length-(i+1))
     case measure=>have:=HQ.out;omega
     case rel=>exact⟨i+1,_,kq41,⟨kq1⟩,⟨kq1⟩,HMD,HY,Y,HG5⟩
    ·have hyb:((zcj y (wrap64 (dep+1)) mm).2.2==0)=false:=beq_eq_false_iff_ne.2 hy
     rw[if_neg hy]at HMD
     have HRS:=mk (show zcj y (wrap64 (dep+1)) mm=R by rw[←HRR.out,if_neg (by rw[←HMD.out];exact hy),HMD.out])
     clear hy
     go_wp2_with (first|((with_reducible refine zao (N:=8) rfl ?_);refine zal ?hg (N:=8) ?hd (cs:=#[.int .i64 0,.int .i64 0,.string (⟨#[]⟩:ByteArray),.slice none 0 0]) (t:=66) ?hr ?_;(case hd=>rfl);(case hg=>rfl);(case hr=>exact kq21);intro ae hgb2 w4 hbox hb;have M:=mk hbox;have HB4:=mk hb;have f:=mk (Nat.le_of_eq hgb2.symm);clear hb hbox hgb2;obtain⟨_,_,_,_,y0,y1,y2,_⟩:=cz4_ M.out)|(go_at_call 126;refine(zdx _ y (Nat.lt_succ_self _) A2 c2 (wrap64 (dep+1)) mm w0 _ c g hwg ?s1 Hhi3.out Hhl3.out).mono ?_;(case s1=>exact kq40 f);rw[hyb];rintro e w5 ⟨rfl,hg5⟩;have HG5:=mk ((HG.out.then_ (kq39 f)).step hg5.st hg5.keep hg5.below);have Y:=mk (hg5.keep.blk (zai BK.out (kq39 f)) (zcz BK.out HG.out.st kq2) (by simp));clear hg5))
     go_ret
     exact⟨by rw[←HRS.out,hyb];rfl,by rw[←HRS.out];exact HG5.out⟩
   ·have hiz:¬(i:Int)<(t.f3.length:Int):=by omega
    have hil:i=t.f3.length:=by have:=HI.out;omega
    have HE:=mk (show mm=zb1 t.f3 (wrap64 (dep+1)) (s1,d1,0) by rw[←HM.out,hil,List.drop_length];rfl)
    clear hil HM hi
    have r4:wr.cell? ⟨gb,4,none⟩=some (.slice B t.f4.length Z):=bk_ BK 4
    have hz1:(zb1 t.f3 (wrap64 (dep+1)) (s1,d1,0)).2.2=0:=by rw[←HE.out];exact HZ.out
    have HRF:=mk (show R=zdc t.f4 (wrap64 (dep+1)) mm by rw[←HRR.out,if_pos hz1,HE.out])
    clear hz1 HE HRR
    rename Int × Int × Int=>m0
    go_wp2
    go_loopg [34] t.f4.length (fun gq v wr=>∃(i:Nat) (mm:Int × Int × Int),v= .int .i64 i∧Aside0 (i≤t.f4.length)∧Aside0 (t.f4.length-i≤gq)∧Aside0 (zdc (t.f4.drop i) (wrap64 (dep+1)) mm=zdc t.f4 (wrap64 (dep+1)) m0)∧Aside0 (mm.2.2=0)∧Aside0 (wr.heap[gb]?=some (.cells #[.int .i64 t.f0,.string t.f1,.int .i64 t.f2,.slice A t.f3.length X,.slice B t.f4.length Z] 39 (0,0)))∧Aside0 (Going w0 w wr c g mm))
    case atStart=>exact⟨0,m0,rfl,⟨Nat.zero_le _⟩,⟨kq1⟩,⟨by rw[List.drop_zero]⟩,HZ,⟨BK.out⟩,⟨HG.out⟩⟩
    case round=>
     clear BK HG HZ HQ HI
     obtain⟨i,mm,rfl,HI,HQ,HM,HZ,BK,HG⟩:=hrel
     by_cases hi:i<t.f4.length
     ·have hiz:(i:Int)<(t.f4.length:Int):=by omega
      have ac:(0:Int)≤(i:Int):=by omega
      obtain⟨ad,A2,c2,A3,c3,ead,r,D,G,I,U,hl3,L,hl4,af⟩:=zjB aa.out (i:Int) ac hiz
      cases ead
      have hx:zcX t.f4 (i:Int)=t.f4[i]:=by simp [zcX,hi]
      rw[hx]at r D G I U hl3 L hl4 af
      rw[Int.toNat_natCast]at r D G I U
      have hB:=HG.out.below
      replace r:=(hB.cell (World.block_lt_of_cell? _ _ r)).trans r
      replace D:=(hB.cell (World.block_lt_of_cell? _ _ D)).trans D
      replace G:=(hB.cell (World.block_lt_of_cell? _ _ G)).trans G
      replace I:=(hB.cell (World.block_lt_of_cell? _ _ I)).trans I
      replace U:=(hB.cell (World.block_lt_of_cell? _ _ U)).trans U
      have Hhl3:=mk hl3
      have Hhi3:=mk L
      have Hhl4:=mk hl4
      have Hhi4:=mk af
      have HMD:=mk ((zga hi (wrap64 (dep+1)) mm).symm.trans HM.out)
      have HSZ:=mk (show SizeOf.sizeOf t.f4[i]<n by
       have h1:=List.sizeOf_lt_of_mem (List.getElem_mem hi)
       have h2:SizeOf.sizeOf t.f4<SizeOf.sizeOf t:=by cases t;simp;omega
       have:=HT.out
       omega)
      clear hl3 L hl4 af hB hx HM
      generalize t.f4[i]=y at r D G I U Hhl3 Hhi3 Hhl4 Hhi4 HMD HSZ
      by_cases hy:(zc8 y (wrap64 (dep+1)) mm).2.2=0
      ·have hyb:((zc8 y (wrap64 (dep+1)) mm).2.2==0)=true:=beq_iff_eq.2 hy
       have HY:=mk hy
       rw[if_pos hy]at HMD
       clear hy
       go_wp2_with (first|((with_reducible refine zao (N:=10) rfl ?_);refine zal ?hg (N:=10) ?hd (cs:=#[.int .i64 0,.string (⟨#[]⟩:ByteArray),.int .i64 0,.slice none 0 0,.slice none 0 0]) (t:=39) ?hr ?_;(case hd=>rfl);(case hg=>rfl);(case hr=>exact kq21);intro ae hgb2 w4 hbox hb;have M:=mk hbox;have HB4:=mk hb;have f:=mk (Nat.le_of_eq hgb2.symm);clear hb hbox hgb2;obtain⟨_,_,_,_,_,y0,y1,y2,_,_⟩:=cz5_ M.out)|(go_at_call 118;refine(ih y HSZ.out A2 c2 A3 c3 (wrap64 (dep+1)) mm w0 _ c g hwg ?s1 Hhi3.out Hhl3.out Hhi4.out Hhl4.out).mono ?_;(case s1=>exact kq40 f);rw[hyb];rintro e w5 ⟨rfl,hg5⟩;have HG5:=mk ((HG.out.then_ (kq39 f)).step hg5.st hg5.keep hg5.below);have Y:=mk (hg5.keep.blk (zai BK.out (kq39 f)) (zcz BK.out HG.out.st kq2) (by simp));clear hg5))
       go_roundg (t.f4.length-(i+1))
       case measure=>have:=HQ.out;omega
       case rel=>exact⟨i+1,_,kq41,⟨kq1⟩,⟨kq1⟩,HMD,HY,Y,HG5⟩
      ·have hyb:((zc8 y (wrap64 (dep+1)) mm).2.2==0)=false:=beq_eq_false_iff_ne.2 hy
       rw[if_neg hy]at HMD
       have HRS:=mk (HMD.out.trans HRF.out.symm)
       clear hy
       go_wp2_with (first|((with_reducible refine zao (N:=10) rfl ?_);refine zal ?hg (N:=10) ?hd (cs:=#[.int .i64 0,.string (⟨#[]⟩:ByteArray),.int .i64 0,.slice none 0 0,.slice none 0 0]) (t:=39) ?hr ?_;(case hd=>rfl);(case hg=>rfl);(case hr=>exact kq21);intro ae hgb2 w4 hbox hb;have M:=mk hbox;have HB4:=mk hb;have f:=mk (Nat.le_of_eq hgb2.symm);clear hb hbox hgb2;obtain⟨_,_,_,_,_,y0,y1,y2,_,_⟩:=cz5_ M.out)|(go_at_call 118;refine(ih y HSZ.out A2 c2 A3 c3 (wrap64 (dep+1)) mm w0 _ c g hwg ?s1 Hhi3.out Hhl3.out Hhi4.out Hhl4.out).mono ?_;(case s1=>exact kq40 f);rw[hyb];rintro e w5 ⟨rfl,hg5⟩;have HG5:=mk ((HG.out.then_ (kq39 f)).step hg5.st hg5.keep hg5.below);have Y:=mk (hg5.keep.blk (zai BK.out (kq39 f)) (zcz BK.out HG.out.st kq2) (by simp));clear hg5))
       go_ret
       exact⟨by rw[←HRS.out,hyb];rfl,by rw[←HRS.out];exact HG5.out⟩
     ·have hiz:¬(i:Int)<(t.f4.length:Int):=by omega
      have hil:i=t.f4.length:=by have:=HI.out;omega
      have HE:=mk (show mm=zdc t.f4 (wrap64 (dep+1)) m0 by rw[←HM.out,hil,List.drop_length];rfl)
      clear hil HM hi
      have HRS:=mk (HE.out.trans HRF.out.symm)
      go_wp2
      go_ret
      exact⟨by rw[←HRS.out,beq_iff_eq.2 HZ.out];rfl,by rw[←HRS.out];exact HG.out⟩
 ·have he1:(e1==0)=false:=beq_eq_false_iff_ne.2 he
  rw[if_neg he]
  go_enter Try.func118,Try.ntmps118
  go_wp2_with (first|((with_reducible refine zao (N:=4) rfl ?_);refine zal ?hg (N:=4) ?hd (cs:=#[.int .i64 t.f0,.string t.f1,.int .i64 t.f2,.slice A t.f3.length X,.slice B t.f4.length Z]) (t:=39) ?hr ?_;(case hd=>rfl);(case hg=>rfl);(case hr=>exact kq21);intro gb hgb w1 hbox hb;have HG1:=mk (HG.out.then_ hb);have BK:=mk hbox;clear HG hb hbox hgb;obtain⟨_,_,_,_,_⟩:=cy5_ BK.out)|(go_at_call 162;(with_reducible refine(zaw.calls 6 t.f0 t.f1 t.f2 A X t.f3 B Z t.f4 (okF t) _ ?side1 ?side2 ?side3 ?side4 hok.out).mono ?_);(case side1=>exact Kd.C_below HR.out HG1.out.below);(case side2=>exact HC.out);(case side3=>exact Kd.C_below aa.out HG1.out.below);(case side4=>exact ah.out);rintro e w2 ⟨rfl,hb⟩;have HG2:=mk (HG1.out.then_ hb);have J:=mk (zai BK.out hb);clear HG1 BK hb)|(go_at_call 161;refine(zdL c g m.1 m.2.1 m.2.2 dep (okF t) w0 _ hwg HG2.out.below HG2.out.st HG2.out.cl).mono ?_;rw[show((m.1,m.2.1,m.2.2):Int × Int × Int)=m from rfl,HN.out];rintro e w3 ⟨rfl,hs,hk,hb⟩;have ab:=mk (hk.blk J.out (zcz J.out HG2.out.st kq2) (by simp));have HG3:=mk (HG2.out.step hs hk hb);clear HG2 J hs hk hb;have r3:w3.cell? ⟨gb,3,none⟩=some (.slice A t.f3.length X):=bk_ ab 3))
  go_ret
  exact⟨by rw[he1];rfl,HG3.out⟩
end Go.Proofs.Ytjknpmibdkoklaa.Q
namespace Go.Proofs.Ytjknpmibdkoklaa.Q
open Go.RowKit Go.Proofs.YtjknpmibdkoklaaW.PrintWords Go.Proofs.YtjknpmibdkoklaaW.PrintLast Go.Proofs.YtjknpmibdkoklaaW.PrintMore
theorem zhH (t:S66) (hs:t.f2.size≤140737488351232):Ev (fun k=>zaH.f k t.f0 t.f1 t.f2 t.f3) (okT t):=by
 obtain⟨op,num,s,l⟩:=t
 have hn:=zic s hs
 unfold okT zcu.f zaH.f
 simp only[za5.f,Option.bind_some]
 by_cases h0:op<0
 ·refine Ev.congr (fun k=>if_pos h0) ?_
  rw[if_neg kq1,if_neg kq1,if_neg kq1,if_neg kq1,if_neg kq1,if_neg kq1]
  exact Ev.now false
 ·by_cases r:op>5
  ·refine Ev.congr (fun k=>(if_neg h0).trans (if_pos r)) ?_
   rw[if_neg kq1,if_neg kq1,if_neg kq1,if_neg kq1,if_neg kq1,if_neg kq1]
   exact Ev.now false
  ·have hop:op=0∨op=1∨op=2∨op=3∨op=4∨op=5:=by omega
   have ev:∀{g:Nat→Option Bool} {b:Bool},(∀k,g k=some b)→Ev g b:=fun h=>⟨0,fun k _=>h k⟩
   rcases hop with rfl|rfl|rfl|rfl|rfl|rfl
   case inr.inl=>
    by_cases hnum:num=0
    ·subst hnum
     by_cases hl0:(l.length:Int)=0
     ·have e:(if(1:Int)=0 then(if(0:Int)≥0 then(if s.toList=([]:List UInt8)then(some ((l.length:Int)==0))else(some false))else(some false))else(if(1:Int)=1 then(if(0:Int)=0 then(if zcE s=true then(some ((l.length:Int)==0))else(some false))else(some false))else some false):Option Bool)=some (zcE s):=by
       cases zcE s<;>simp [hl0]
      refine Ev.congr (f:=fun k=>(zaC.f k s).bind fun t=>some t) (fun k=>by simp [hl0,rd]) (Ev.bind hn ?_)
      have D:((if zcE s=true then some ((l.length:Int)==0)else some false).getD false)=zcE s:=by cases zcE s<;>simp [hl0]
      simp only[reduceIte,show ¬(1:Int)=0 by decide]
      rw[D]
      exact Ev.now _
     ·have hle:¬l=[]:=fun e=>hl0 (by rw[e];rfl)
      refine ev (fun k=>?_)
      cases zcE s<;>simp [hl0,hle,rd]
    ·refine ev (fun k=>?_)
     simp [hnum]
   all_goals
    by_cases hl0:(l.length:Int)=0<;>by_cases hl1:(l.length:Int)=1<;>by_cases hl2:(l.length:Int)=2<;>by_cases hnum:num=0<;>by_cases hg:num≥0<;>by_cases he:s.toList=[]
    all_goals (first|(refine ev (fun k=>?_);simp [hl0,hl1,hl2,hnum,hg,he,rd];done)|(have hle:¬l=[]:=fun e=>hl0 (by rw[e];rfl);refine ev (fun k=>?_);simp [hle,hl0,hl1,hl2,hnum,hg,he,rd];done)|(exfalso;omega))
end Go.Proofs.Ytjknpmibdkoklaa.Q
set_option maxRecDepth 100000
namespace Go.Proofs.Ytjknpmibdkoklaa.Q
open Go.RowKit Go.Proofs.YtjknpmibdkoklaaW.PrintWords Go.Proofs.YtjknpmibdkoklaaW.PrintLast Go.Proofs.YtjknpmibdkoklaaW.PrintMore
open Aside0 (mk)
theorem zeY (g:Nat) (w:World):Calls Try.prog 117 #[.pointer (some ⟨g,0,none⟩)] w fun e w'=>∃c,e= .returned (.func (.func 161) #[] #[.pointer (some ⟨c,0,none⟩)])∧w.heap.size≤c∧ClM w' c g∧Below w.heap.size w w':=by
 go_enter Try.func117,Try.ntmps117
 go_wp2_with ((with_reducible refine zao (N:=1) rfl ?_);refine zal ?hg (N:=1) ?hd (cs:=#[.pointer (some ⟨g,0,none⟩)]) (t:=191) ?hr ?_;(case hd=>rfl);(case hg=>rfl);(case hr=>exact kq21);intro gb hgb w1 hbox hb;have BK:=mk hbox;have HB:=mk hb;have GE:=mk (Nat.le_of_eq hgb.symm);clear hbox hb hgb)
 go_ret
 exact⟨gb,rfl,GE.out,BK.out,HB.out⟩
set_option maxHeartbeats 8000000 in
theorem zeS (t:S39) (A:Option Addr) (r:Nat) (B:Option Addr) (D:Nat) (w:World) (hr:Kd.C k66 w A t.f3.length t.f3) (hc:t.f3.length≤r) (G:Kd.C k39 w B t.f4.length t.f4) (hc4:t.f4.length≤D) :
 Calls Try.prog 76 #[.agg #[.int .i64 t.f0,.string t.f1,.int .i64 t.f2,.slice A t.f3.length r,.slice B t.f4.length D]] w fun e w'=>e= .returned (.agg #[.int .i64 (zc8 t 1 (0,0,0)).1,.int .i64 (zc8 t 1 (0,0,0)).2.1,.int .i64 (zc8 t 1 (0,0,0)).2.2])∧Below w.heap.size w w':=by
 have aa:=Try.underlying66
 have ab:=Try.underlying39
 have HR:=mk hr
 have HC:=mk hc
 have L:=mk G
 have M:=mk hc4
 clear hr hc G hc4
 go_enter Try.func76,Try.ntmps76
 go_wp2_with (first|((with_reducible refine zao (N:=1) rfl ?_);refine zal ?hg (N:=1) ?hd (cs:=#[.int .i64 t.f0,.string t.f1,.int .i64 t.f2,.slice A t.f3.length r,.slice B t.f4.length D]) (t:=39) ?hr ?_;(case hd=>rfl);(case hg=>rfl);(case hr=>exact kq21);intro g1 hg1 w1 hbox hb;have BKf:=mk hbox;have HWf:=mk hb;have GEf:=mk (Nat.le_of_eq hg1.symm);skip;clear hb hbox hg1;have fz0:=zaD BKf.out 0;have fz1:=zaD BKf.out 1;have fz2:=zaD BKf.out 2;have fz3:=zaD BKf.out 3;have fz4:=zaD BKf.out 4;obtain⟨fc0,fc1,fc2,fc3,fc4⟩:=cy5_ BKf.out)|((with_reducible refine zao (N:=2) rfl ?_);refine zal ?hg (N:=2) ?hd (cs:=#[.int .i64 0,.int .i64 0,.int .i64 0]) (t:=103) ?hr ?_;(case hd=>rfl);(case hg=>rfl);(case hr=>exact kq21);intro I hg2 w2 hbox hb;have BKr:=mk hbox;have HWr:=mk hb;have GEr:=mk (Nat.le_of_eq hg2.symm);have BKf2:=mk (zai BKf.out hb);clear hb hbox hg2;have rz0:=zaD BKr.out 0;have rz1:=zaD BKr.out 1;have rz2:=zaD BKr.out 2;obtain⟨rc0,rc1,rc2⟩:=cy3_ BKr.out)|((with_reducible refine zao (N:=3) rfl ?_);refine zal ?hg (N:=3) ?hd (cs:=#[.int .i64 0,.int .i64 0,.int .i64 0]) (t:=103) ?hr ?_;(case hd=>rfl);(case hg=>rfl);(case hr=>exact kq21);intro f hg3 w3 hbox hb;have BKm:=mk hbox;have HWm:=mk hb;have GEm:=mk (Nat.le_of_eq hg3.symm);skip;clear hb hbox hg3;have mz0:=zaD BKm.out 0;have mz1:=zaD BKm.out 1;have mz2:=zaD BKm.out 2;obtain⟨mc0,mc1,mc2⟩:=cy3_ BKm.out))
 generalize hW:((w3.setCell ⟨f,0,none⟩ (.int .i64 0)).setCell ⟨f,1,none⟩ (.int .i64 0)).setCell ⟨f,2,none⟩ (.int .i64 0)=W
 have B1:=mk (show Below w.heap.size w W by rw[←hW];exact zav (zav (zav (zaa (zaa HWf.out HWr.out) HWm.out) (by have:=GEm.out;have:=HWr.out.size;have:=HWf.out.size;omega)) (by have:=GEm.out;have:=HWr.out.size;have:=HWf.out.size;omega)) (by have:=GEm.out;have:=HWr.out.size;have:=HWf.out.size;omega))
 have N13:=mk (show g1≠f from zcz (zai BKf2.out HWm.out) BKm.out kq2)
 have N23:=mk (show I≠f from fun e=>by have:=GEm.out;have:=za0 BKr.out;omega)
 have K3:=mk (show StM 103 W f (0,0,0)from by rw[←hW];exact StM.set2 (StM.set1 (StM.set0 (a:=0) (b:=0) (c:=0) BKm.out 0) 0) 0)
 have K1:=mk (show W.heap[g1]?=some (.cells #[.int .i64 t.f0,.string t.f1,.int .i64 t.f2,.slice A t.f3.length r,.slice B t.f4.length D] 39 (0,0)) by rw[←hW];exact zaj (zaj (zaj (zai BKf2.out HWm.out) N13.out _) N13.out _) N13.out _)
 have K2:=mk (show StM 103 W I (0,0,0)from by rw[←hW];exact zaj (zaj (zaj (zai BKr.out HWm.out) N23.out _) N23.out _) N23.out _)
 have HG3:=mk (show w.heap.size≤f by have:=GEm.out;have:=HWr.out.size;have:=HWf.out.size;omega)
 have HG2:=mk (show w.heap.size≤I by have:=GEr.out;have:=HWf.out.size;omega)
 clear hW BKf BKf2 BKr BKm HWf HWr HWm GEf GEr GEm fz0 fz1 fz2 fz3 fz4 rz0 rz1 rz2 mz0 mz1 mz2 fc0 fc1 fc2 fc3 fc4 rc0 rc1 rc2 mc0 mc1 mc2
 obtain⟨x0,x1,_,_,_⟩:=cy5_ K1.out
 go_region_with (first|(go_at_call 117;refine(zeY f _).mono ?_;rintro e w5 ⟨cc,rfl,hcc,hcl,hb⟩;have CC:=mk hcl;have HGC:=mk (Nat.le_trans B1.out.size hcc);have B5:=mk (zaa (by repeat(first|exact B1.out|(with_reducible first|apply zbb|apply zaP))) hb);have U:=mk (StM.below (StM.drew K3.out) hb);have X:=mk (zai (zaf K1.out) hb);have Y:=mk (StM.below (StM.drew K2.out) hb);clear hcl hb hcc;obtain⟨_,_,_,_,_⟩:=cy5_ X.out)|(go_at_call 118;refine(zgb _ t (Nat.lt_succ_self _) A r B D 1 (0,0,0) w _ cc f HG3.out ⟨U.out,CC.out,za6.refl _ _ _,B5.out⟩ HR.out HC.out L.out M.out).mono ?_;rintro e w6 ⟨rfl,hg⟩;have KG:=mk hg;have Z:=mk (hg.keep.blk Y.out N23.out (by simp));clear hg))
 all_goals
  generalize hRR0:zc8 t 1 (0,0,0)=R at KG ⊢
  have hRR:=mk hRR0
  clear hRR0
  obtain⟨r1,r2,r3⟩:=R
  obtain⟨⟨s0,s1,s2⟩,_,_,_⟩:=KG.out.st.cells
  have J:StM 103 w6 I (0,0,0):=Z.out
  obtain⟨⟨p0,p1,p2⟩,e0,e1,e2⟩:=StM.cells J
  go_wp2
  refine bodyPost_ret (results_cell_row rfl _ _ I 103 #[.int .i64 r1,.int .i64 r2,.int .i64 r3] (0,0) _ rfl (StM.set2 (StM.set1 (StM.set0 J r1) r2) r3) Try.underlying103 rfl kq0) rfl ?_
  exact⟨by rw[hRR.out],zav (zav (zav KG.out.below HG2.out) HG2.out) HG2.out⟩
set_option maxHeartbeats 8000000 in
theorem zeD (t:S66) (A:Option Addr) (r:Nat) (w:World) (hr:Kd.C k66 w A t.f3.length t.f3) (hc:t.f3.length≤r) :
 Calls Try.prog 88 #[.agg #[.int .i64 t.f0,.int .i64 t.f1,.string t.f2,.slice A t.f3.length r]] w fun e w'=>e= .returned (.int .i64 (zcj t 1 (0,0,0)).2.2)∧Below w.heap.size w w':=by
 have I:=Try.underlying66
 have J:=Try.underlying39
 have HR:=mk hr
 have HC:=mk hc
 clear hr hc
 go_enter Try.func88,Try.ntmps88
 go_wp2_with (first|((with_reducible refine zao (N:=1) rfl ?_);refine zal ?hg (N:=1) ?hd (cs:=#[.int .i64 t.f0,.int .i64 t.f1,.string t.f2,.slice A t.f3.length r]) (t:=66) ?hr ?_;(case hd=>rfl);(case hg=>rfl);(case hr=>exact kq21);intro L hg1 w1 hbox hb;have BKf:=mk hbox;have HWf:=mk hb;have GEf:=mk (Nat.le_of_eq hg1.symm);skip;clear hb hbox hg1;have fz0:=zaD BKf.out 0;have fz1:=zaD BKf.out 1;have fz2:=zaD BKf.out 2;have fz3:=zaD BKf.out 3;obtain⟨fc0,fc1,fc2,fc3⟩:=cy4_ BKf.out)|((with_reducible refine zao (N:=3) rfl ?_);refine zal ?hg (N:=3) ?hd (cs:=#[.int .i64 0,.int .i64 0,.int .i64 0]) (t:=103) ?hr ?_;(case hd=>rfl);(case hg=>rfl);(case hr=>exact kq21);intro f hg3 U hbox hb;have BKm:=mk hbox;have HWm:=mk hb;have GEm:=mk (Nat.le_of_eq hg3.symm);skip;clear hb hbox hg3;have mz0:=zaD BKm.out 0;have mz1:=zaD BKm.out 1;have mz2:=zaD BKm.out 2;obtain⟨mc0,mc1,mc2⟩:=cy3_ BKm.out))
 generalize hW:((U.setCell ⟨f,0,none⟩ (.int .i64 0)).setCell ⟨f,1,none⟩ (.int .i64 0)).setCell ⟨f,2,none⟩ (.int .i64 0)=W
 have B1:=mk (show Below w.heap.size w W by rw[←hW];exact zav (zav (zav (zaa HWf.out HWm.out) (by have:=GEm.out;have:=HWf.out.size;omega)) (by have:=GEm.out;have:=HWf.out.size;omega)) (by have:=GEm.out;have:=HWf.out.size;omega))
 have N13:=mk (show L≠f from zcz (zai BKf.out HWm.out) BKm.out kq2)
 have X:=mk (show StM 103 W f (0,0,0)from by rw[←hW];exact StM.set2 (StM.set1 (StM.set0 (a:=0) (b:=0) (c:=0) BKm.out 0) 0) 0)
 have M:=mk (show W.heap[L]?=some (.cells #[.int .i64 t.f0,.int .i64 t.f1,.string t.f2,.slice A t.f3.length r] 66 (0,0)) by rw[←hW];exact zaj (zaj (zaj (zai BKf.out HWm.out) N13.out _) N13.out _) N13.out _)
 have HG3:=mk (show w.heap.size≤f by have:=GEm.out;have:=HWf.out.size;omega)
 clear hW BKf BKm HWf HWm GEf GEm fz0 fz1 fz2 fz3 mz0 mz1 mz2 fc0 fc1 fc2 fc3 mc0 mc1 mc2
 obtain⟨x0,x1,_,_⟩:=cy4_ M.out
 go_region_with (first|(go_at_call 117;refine(zeY f _).mono ?_;rintro e Y ⟨cc,rfl,hcc,hcl,hb⟩;have CC:=mk hcl;have HGC:=mk (Nat.le_trans B1.out.size hcc);have B5:=mk (zaa (by repeat(first|exact B1.out|(with_reducible first|apply zbb|apply zaP))) hb);have D:=mk (StM.below (StM.drew X.out) hb);have G:=mk (zai (zaf M.out) hb);clear hcl hb hcc;obtain⟨_,_,_,_⟩:=cy4_ G.out)|(go_at_call 126;refine(zdx _ t (Nat.lt_succ_self _) A r 1 (0,0,0) w _ cc f HG3.out ⟨D.out,CC.out,za6.refl _ _ _,B5.out⟩ HR.out HC.out).mono ?_;rintro e Z ⟨rfl,hg⟩;have KG:=mk hg;clear hg))
 all_goals
  generalize hRR0:zcj t 1 (0,0,0)=R at KG ⊢
  have hRR:=mk hRR0
  clear hRR0
  obtain⟨r1,r2,r3⟩:=R
  obtain⟨⟨s0,s1,s2⟩,_,_,_⟩:=KG.out.st.cells
  go_wp2
  go_ret
  exact⟨by rw[hRR.out];rfl,KG.out.below⟩
end Go.Proofs.Ytjknpmibdkoklaa.Q
set_option maxRecDepth 100000
namespace Go.Proofs.Ytjknpmibdkoklaa.Q
open Go.RowKit Go.Proofs.YtjknpmibdkoklaaW.PrintWords Go.Proofs.YtjknpmibdkoklaaW.PrintLast Go.Proofs.YtjknpmibdkoklaaW.PrintMore
open Aside0 (mk)
mutual
def zdM:S66→Bool
 |⟨_,_,s,l⟩=>decide (s.size≤140737488351232)&&zdy l
def zdy:List S66→Bool
 | []=>true
 |t::l=>zdM t&&zdy l
end
theorem zeE:∀{l:List S66},zdy l=true→∀t ∈ l,zdM t=true
 |t::l,h,x,hx=>by
  rw[zdy,Bool.and_eq_true]at h
  rcases List.mem_cons.1 hx with rfl|hx
  ·exact h.1
  ·exact zeE h.2 x hx
theorem zfJ (t:S66):zdM t=(decide (t.f2.size≤140737488351232)&&zdy t.f3):=by cases t;rw[zdM]
theorem zi9 (m:Int × Int × Int) (dep:Int) (good:Bool):zbK.f m.1 m.2.1 m.2.2 dep good=some ((zcs dep good m).1,(zcs dep good m).2.1,(zcs dep good m).2.2):=by
 unfold zbK.f zcs
 (repeat' split)<;>rfl
structure Goes (w0 w W:World) (g:Nat) (m:Int × Int × Int):Prop where
 st:StM 99 W g m
 keep:za6 w W g none
 below:Below w0.heap.size w0 W
theorem Goes.then_ {w0 w W W':World} {g:Nat} {m:Int × Int × Int} (h:Goes w0 w W g m) (hb:Below W.heap.size W W'):Goes w0 w W' g m:=
 ⟨h.st.below hb,h.keep.trans (za6.of_below hb g none) (.inl rfl),zaa h.below hb⟩
theorem Goes.step {w0 w W W':World} {g:Nat} {m m':Int × Int × Int} (h:Goes w0 w W g m) (hs:StM 99 W' g m') (hk:za6 W W' g none) (hb:Below w0.heap.size w0 W'):Goes w0 w W' g m':=
 ⟨hs,h.keep.trans hk (.inl rfl),hb⟩
theorem Goes.self {w0 w W:World} {g:Nat} {m:Int × Int × Int} (h:Goes w0 w W g m):Goes w0 W W g m:=⟨h.st,za6.refl W g none,h.below⟩
set_option maxHeartbeats 8000000 in
theorem zfK:∀(n:Nat) (t:S66),SizeOf.sizeOf t<n→zdM t=true→∀(A:Option Addr) (I:Nat) (dep:Int) (m:Int × Int × Int) (w0 w:World) (g:Nat),w0.heap.size≤g→Goes w0 w w g m→Kd.C k66 w0 A t.f3.length t.f3→t.f3.length≤I→
 Calls Try.prog 127 #[.pointer (some ⟨g,0,none⟩),.agg #[.int .i64 t.f0,.int .i64 t.f1,.string t.f2,.slice A t.f3.length I],.int .i64 dep] w fun en w'=>en= .returned (.tuple #[])∧Goes w0 w w' g (zcj t dep m):=by
 intro n
 induction n with
 |zero=>exact fun t h=>absurd h (Nat.not_lt_zero _)
 |succ n ih=>
 intro t ht hs A I dep m w0 w g hwg hG hr hc0
 have Y:=Try.underlying66
 have HR:=mk hr
 have HC:=mk hc0
 have HG:=mk hG
 have HT:=mk ht
 rw[zfJ,Bool.and_eq_true]at hs
 obtain⟨kw,hkw⟩:=(zhH t (of_decide_eq_true hs.1)).rounds
 have hok:=mk hkw
 have HSS:=mk hs.2
 clear hr hc0 hG ht hkw hs
 have hlen:=HR.out.2.1
 have HRR:=mk (zgG t dep m)
 generalize zcj t dep m=R at HRR ⊢
 go_enter Try.func127,Try.ntmps127
 go_wp2_with (first|((with_reducible refine zao (N:=4) rfl ?_);refine zal ?hg (N:=4) ?hd (cs:=#[.int .i64 t.f0,.int .i64 t.f1,.string t.f2,.slice A t.f3.length I]) (t:=66) ?hr ?_;(case hd=>rfl);(case hg=>rfl);(case hr=>exact kq21);intro gb hgb w1 hbox hb;have HG1:=mk (HG.out.then_ hb);have BK:=mk hbox;clear HG hb hbox hgb;obtain⟨_,_,_,_⟩:=cy4_ BK.out)|(go_at_call 166;refine(zaH.calls kw t.f0 t.f1 t.f2 A I t.f3 (okT t) _ ?side1 ?side2 hok.out).mono ?_;(case side1=>exact Kd.C_below HR.out HG1.out.below);(case side2=>exact HC.out);rintro e w2 ⟨rfl,hb⟩;have HG2:=mk (HG1.out.then_ hb);have J:=mk (zai BK.out hb);clear HG1 BK hb)|(go_at_call 159;refine(zbK.calls g m.1 m.2.1 m.2.2 dep (okT t) _ _ _ w0 _ ⟨HG2.out.st,hwg⟩ HG2.out.below (zi9 m dep (okT t))).mono ?_;rintro e w3 ⟨rfl,hs,hb,hk⟩;have M:=mk (hk.blk J.out (zcz J.out HG2.out.st kq2) (by simp));have HG3:=mk (HG2.out.step (m':=zcs dep (okT t) m) hs.1 hk hb);clear HG2 J hs hk hb))
 go_loopg [6] t.f3.length (fun gq v wr=>∃(i:Nat) (mm:Int × Int × Int),v= .int .i64 i∧Aside0 (i≤t.f3.length)∧Aside0 (t.f3.length-i≤gq)∧Aside0 ((if mm.2.2=0 then zb1 (t.f3.drop i) (wrap64 (dep+1)) mm else mm)=R)∧Aside0 (wr.heap[gb]?=some (.cells #[.int .i64 t.f0,.int .i64 t.f1,.string t.f2,.slice A t.f3.length I] 66 (0,0)))∧Aside0 (Goes w0 w wr g mm))
 case atStart=>exact⟨0,_,rfl,⟨Nat.zero_le _⟩,⟨kq1⟩,⟨by rw[List.drop_zero];exact HRR.out.symm⟩,⟨M.out⟩,⟨HG3.out⟩⟩
 case round=>
  obtain⟨i,mm,rfl,HI,HQ,HM,BK,HG⟩:=hrel
  obtain⟨⟨d0,d1,d2⟩,_,_,_⟩:=HG.out.st.cells
  have q3:wr.cell? ⟨gb,3,none⟩=some (.slice A t.f3.length I):=bk_ BK 3
  by_cases hi:i<t.f3.length
  ·have hiz:(i:Int)<(t.f3.length:Int):=by omega
   by_cases hz:mm.2.2=0
   ·have hzb:(mm.2.2==0)=true:=beq_iff_eq.2 hz
    have U:(0:Int)≤(i:Int):=by omega
    obtain⟨ad,Z,c2,ead,f,r,D,G,hl3,L⟩:=zdr HR.out (i:Int) U hiz
    cases ead
    have hx:zaN t.f3 (i:Int)=t.f3[i]:=by simp [zaN,hi]
    rw[hx]at f r D G hl3 L
    rw[Int.toNat_natCast]at f r D G
    have hB:=HG.out.below
    replace f:=(hB.cell (World.block_lt_of_cell? _ _ f)).trans f
    replace r:=(hB.cell (World.block_lt_of_cell? _ _ r)).trans r
    replace D:=(hB.cell (World.block_lt_of_cell? _ _ D)).trans D
    replace G:=(hB.cell (World.block_lt_of_cell? _ _ G)).trans G
    have Hhl3:=mk hl3
    have Hhi3:=mk L
    have HMD:=mk (show(if(zcj t.f3[i] (wrap64 (dep+1)) mm).2.2=0 then zb1 (t.f3.drop (i+1)) (wrap64 (dep+1)) (zcj t.f3[i] (wrap64 (dep+1)) mm)else zcj t.f3[i] (wrap64 (dep+1)) mm)=R by rw[←HM.out,if_pos hz,zdw hi])
    have HZS:=mk (zeE HSS.out t.f3[i] (List.getElem_mem hi))
    have HSZ:=mk (show SizeOf.sizeOf t.f3[i]<n by
     have h1:=List.sizeOf_lt_of_mem (List.getElem_mem hi)
     have h2:SizeOf.sizeOf t.f3<SizeOf.sizeOf t:=by cases t;simp;omega
     have:=HT.out
     omega)
    clear hl3 L hB hx HM
    generalize t.f3[i]=y at f r D G Hhl3 Hhi3 HMD HZS HSZ
    go_wp2_with (go_at_call 127;refine(ih y HSZ.out HZS.out Z c2 (wrap64 (dep+1)) mm w0 wr g hwg HG.out.self Hhi3.out Hhl3.out).mono ?_;rintro e w5 ⟨rfl,hg5⟩;have HG5:=mk (HG.out.step hg5.st hg5.keep hg5.below);have X:=mk (hg5.keep.blk BK.out (zcz BK.out HG.out.st kq2) (by simp));clear hg5)
    go_roundg (t.f3.length-(i+1))
    case measure=>have:=HQ.out;omega
    case rel=>exact⟨i+1,_,kq41,⟨kq1⟩,⟨kq1⟩,HMD,X,HG5⟩
   ·have hzb:(mm.2.2==0)=false:=beq_eq_false_iff_ne.2 hz
    have HE:=mk (show mm=R by rw[←HM.out,if_neg hz])
    clear HM hi hz HQ HI
    go_wp2
    first|go_end0|((try simp only[Exit.inBlock,Exit.then]);refine bodyPost_ret (results_none rfl _ _ _) rfl ?_)
    exact⟨rfl,by rw[←HE.out];exact HG.out⟩
  ·have hiz:¬(i:Int)<(t.f3.length:Int):=by omega
   have hil:i=t.f3.length:=by have:=HI.out;omega
   have HE:=mk (show mm=R by rw[←HM.out,hil,List.drop_length];split<;>rfl)
   clear hil HM hi HQ HI
   go_wp2
   first|go_end0|((try simp only[Exit.inBlock,Exit.then]);refine bodyPost_ret (results_none rfl _ _ _) rfl ?_)
   exact⟨rfl,by rw[←HE.out];exact HG.out⟩
end Go.Proofs.Ytjknpmibdkoklaa.Q
set_option maxRecDepth 100000
namespace Go.Proofs.Ytjknpmibdkoklaa.Q
open Go.RowKit Go.Proofs.YtjknpmibdkoklaaW.PrintWords Go.Proofs.YtjknpmibdkoklaaW.PrintLast Go.Proofs.YtjknpmibdkoklaaW.PrintMore
open Aside0 (mk)
set_option maxHeartbeats 8000000 in
theorem zel (t:S66) (hs:zdM t=true) (A:Option Addr) (f:Nat) (w:World) (hr:Kd.C k66 w A t.f3.length t.f3) (hc:t.f3.length≤f) :
 Calls Try.prog 89 #[.agg #[.int .i64 t.f0,.int .i64 t.f1,.string t.f2,.slice A t.f3.length f]] w fun e w'=>e= .returned (.int .i64 (zcj t 1 (0,0,0)).2.2)∧Below w.heap.size w w':=by
 have r:=Try.underlying66
 have HR:=mk hr
 have HC:=mk hc
 have HS:=mk hs
 obtain⟨R,hRR0⟩:∃R,zcj t 1 (0,0,0)=R:=⟨_,rfl⟩
 have HRR:=mk hRR0
 rw[hRR0]
 clear hr hc hs hRR0
 go_enter Try.func89,Try.ntmps89
 go_wp2_with (first|((with_reducible refine zao (N:=1) rfl ?_);refine zal ?hg (N:=1) ?hd (cs:=#[.int .i64 t.f0,.int .i64 t.f1,.string t.f2,.slice A t.f3.length f]) (t:=66) ?hr ?_;(case hd=>rfl);(case hg=>rfl);(case hr=>exact kq21);intro I hg1 w1 hbox hb;have BKf:=mk hbox;have HWf:=mk hb;have GEf:=mk (Nat.le_of_eq hg1.symm);skip;clear hb hbox hg1;have fz0:=zaD BKf.out 0;have fz1:=zaD BKf.out 1;have fz2:=zaD BKf.out 2;have fz3:=zaD BKf.out 3;obtain⟨fc0,fc1,fc2,fc3⟩:=cy4_ BKf.out)|((with_reducible refine zao (N:=5) rfl ?_);refine zal ?hg (N:=5) ?hd (cs:=#[.int .i64 0,.int .i64 0,.int .i64 0]) (t:=99) ?hr ?_;(case hd=>rfl);(case hg=>rfl);(case hr=>exact kq21);intro D hg3 J hbox hb;have BKm:=mk hbox;have HWm:=mk hb;have GEm:=mk (Nat.le_of_eq hg3.symm);have BKf3:=mk (zai BKf.out hb);have B3:=mk (zaa HWf.out hb);have G:=mk (show w.heap.size≤D by have:=HWf.out.size;omega);clear hb hbox hg3;have mz0:=zaD BKm.out 0;have mz1:=zaD BKm.out 1;have mz2:=zaD BKm.out 2;obtain⟨mc0,mc1,mc2⟩:=cy3_ BKm.out;obtain⟨x0,x1,_,_⟩:=cy4_ BKf3.out)|(go_at_call 127;refine(zfK _ t (Nat.lt_succ_self _) HS.out A f 1 (0,0,0) w _ D G.out ⟨BKm.out,za6.refl _ _ _,B3.out⟩ HR.out HC.out).mono ?_;rw[HRR.out];rintro e L ⟨rfl,hg⟩;have KG:=mk hg;obtain⟨⟨M,U,X⟩,_,_,_⟩:=hg.st.cells;clear hg))
 go_ret
 exact⟨rfl,KG.out.below⟩
def zct.f (a0_0:Int) (a0_1:ByteArray) (a0_2:Int) (l0_3:List (S66)) (l0_4:List (S39)):Option (Int × Int × Int):=some (zc8 ⟨a0_0,a0_1,a0_2,l0_3,l0_4⟩ 1 (0,0,0))
theorem zct.calls (G:Int) (a0_1:ByteArray) (a0_2:Int) (I:Option Addr) (J:Nat) (r:List (S66)) (L:Option Addr) (M:Nat) (D:List (S39)) (Y Z r3:Int) (w:World) (U:Kd.C k66 w I r.length r) (hc0_3:r.length≤J) (X:Kd.C k39 w L D.length D) (hc0_4:D.length≤M) (h:zct.f G a0_1 a0_2 r D=some (Y,Z,r3)) :
 Calls Try.prog 76 #[.agg #[.int .i64 G,.string a0_1,.int .i64 a0_2,.slice I r.length J,.slice L D.length M]] w fun e w'=>e= .returned (.agg #[.int .i64 Y,.int .i64 Z,.int .i64 r3])∧Below w.heap.size w w':=by
 have h1:=Option.some.inj h
 have:=zeS ⟨G,a0_1,a0_2,r,D⟩ I J L M w U hc0_3 X hc0_4
 rw[h1]at this
 exact this
def zbl.f (a0_0 a0_1:Int) (a0_2:ByteArray) (l0_3:List (S66)):Option (Int):=some (zcj ⟨a0_0,a0_1,a0_2,l0_3⟩ 1 (0,0,0)).2.2
theorem zbl.calls (G a0_1:Int) (a0_2:ByteArray) (I:Option Addr) (J:Nat) (D:List (S66)) (r:Int) (w:World) (L:Kd.C k66 w I D.length D) (hc0_3:D.length≤J) (h:zbl.f G a0_1 a0_2 D=some r) :
 Calls Try.prog 88 #[.agg #[.int .i64 G,.int .i64 a0_1,.string a0_2,.slice I D.length J]] w fun e w'=>e= .returned (.int .i64 r)∧Below w.heap.size w w':=by
 have h1:=Option.some.inj h
 have:=zeD ⟨G,a0_1,a0_2,D⟩ I J w L hc0_3
 rw[h1]at this
 exact this
def zbh.f (a0_0 a0_1:Int) (a0_2:ByteArray) (l0_3:List (S66)):Option (Int):=if zdM ⟨a0_0,a0_1,a0_2,l0_3⟩=true then some (zcj ⟨a0_0,a0_1,a0_2,l0_3⟩ 1 (0,0,0)).2.2 else none
theorem zbh.calls (G a0_1:Int) (a0_2:ByteArray) (I:Option Addr) (J:Nat) (D:List (S66)) (r:Int) (w:World) (L:Kd.C k66 w I D.length D) (hc0_3:D.length≤J) (h:zbh.f G a0_1 a0_2 D=some r) :
 Calls Try.prog 89 #[.agg #[.int .i64 G,.int .i64 a0_1,.string a0_2,.slice I D.length J]] w fun e w'=>e= .returned (.int .i64 r)∧Below w.heap.size w w':=by
 unfold zbh.f at h
 split at h
 ·rename_i hs
  have h1:=Option.some.inj h
  have:=zel ⟨G,a0_1,a0_2,D⟩ hs I J w L hc0_3
  rw[h1]at this
  exact this
 ·cases h
end Go.Proofs.Ytjknpmibdkoklaa.Q
namespace Go.Proofs.Ytjknpmibdkoklaa.Q
open Go.RowKit Go.Proofs.YtjknpmibdkoklaaW.PrintWords Go.Proofs.YtjknpmibdkoklaaW.PrintLast Go.Proofs.YtjknpmibdkoklaaW.PrintMore
open Aside0 (mk)
open List (setIfInBounds_toArray set_cons_zero set_cons_succ)
attribute [local go_sem] zbw zbz zbP zbQ zbm zbn zbA zbB
set_option linter.unusedVariables false
set_option linter.unusedSimpArgs false
attribute [local go_sem] zbS zbD zbE zbF
def za3.j0:Nat→List ByteArray→List ByteArray→Bool→Option (List ByteArray × Int)
 |0,_,_,_=>none
 |k+1,x0,x1,x14=>if x14=true then(some (([]:List ByteArray),3))else((zbg.f x0).bind fun t541=>(if t541.length+x1.length<8796093022208 then((zba.f (t541++x1)).bind fun t547=>((za4.f t547).bind fun t548=>(some (t548,0))))else(none)))
def za3.f (k:Nat) (l0 l1:List ByteArray):Option (List ByteArray × Int):=(zaT.f k l0).bind fun t539=>(if t539=true then((zaT.f k l1).bind fun t540=>(za3.j0 k l0 l1 (!t540)))else(za3.j0 k l0 l1 true))
theorem za3.mono_l:∀k,(∀f D G,LeO (za3.j0 k f D G) (za3.j0 (k+1) f D G))
 |0=>fun _ _ _ r h=>by simp [za3.j0]at h
 |k+1=>by
  have ih0:=za3.mono_l k
  ·intro f D G;unfold za3.j0
   repeat' first
   |(with_reducible exact ih0 _ _ _)
   |(with_reducible exact zaT.mono _ _)
   |(with_reducible exact LeO.refl _)
   |(with_reducible exact LeO.none _)
   |(with_reducible refine LeO.ite ?_ ?_)
   |(with_reducible refine LeO.bind ?_ (fun _=>?_))
   |exact ih0 _ _ _
   |exact zaT.mono _ _
   |exact LeO.none _
   |refine LeO.ite ?_ ?_
   |refine LeO.bind ?_ (fun _=>?_)
theorem za3.mono:∀a0 r k,LeO (za3.f k a0 r) (za3.f (k+1) a0 r):=by
 intro a0 r k
 have ih0:=za3.mono_l k
 unfold za3.f
 repeat' first
  |(with_reducible exact ih0 _ _ _)
  |(with_reducible exact zaT.mono _ _)
  |(with_reducible exact LeO.refl _)
  |(with_reducible exact LeO.none _)
  |(with_reducible refine LeO.ite ?_ ?_)
  |(with_reducible refine LeO.bind ?_ (fun _=>?_))
  |exact ih0 _ _ _
  |exact zaT.mono _ _
  |exact LeO.none _
  |refine LeO.ite ?_ ?_
  |refine LeO.bind ?_ (fun _=>?_)
set_option maxHeartbeats 8000000 in
set_option maxRecDepth 100000 in
theorem za3.calls (k:Nat) (A0:Option Addr) (c0:Nat) (X:List ByteArray) (A1:Option Addr) (c1:Nat) (M Z:List ByteArray) (r2:Int) (w:World) (ao:Kd.C Kd.string w A0 X.length X) (hc0:X.length≤c0) (ap:Kd.C Kd.string w A1 M.length M) (hc1:M.length≤c1) (h:za3.f k X M=some (Z,r2)) :
 Calls Try.prog 21 #[.slice A0 X.length c0,.slice A1 M.length c1] w fun e w'=>∃aq:Value,e= .returned (.tuple #[aq,.int .i64 r2])∧Kd.R Kd.string 9 w' w.heap.size (fun _=>True) aq Z∧Below w.heap.size w w':=by
 have ah:=mk ao
 have ai:=mk hc0
 clear ao hc0
 have ar:=mk ap
 have ay:=mk hc1
 clear ap hc1
 have HB:=mk (Below.refl w.heap.size w)
 have H:((zaT.f k X).bind fun aa=>(if aa=true then((zaT.f k M).bind fun D=>(za3.j0 k X M (!D)))else(za3.j0 k X M true)))=some (Z,r2):=h
 clear h
 have aj:=mk H
 clear H
 go_enter Try.func21,Try.ntmps21
 go_upto_region 1 with(fail)
 go_cut [14] (fun az wc=>∃(kq:Nat) (Y:Bool),az= .bool Y∧Aside0 (za3.j0 kq X M Y=some (Z,r2))∧Aside0 (kq≤k)∧Aside0 (Below w.heap.size w wc))
 case first=>
  have H:=aj.out
  clear aj
  replace H:=Option.bind_eq_some_iff.mp H
  obtain⟨aa,au,H⟩:=H
  replace H:(if aa=true then((zaT.f k M).bind fun D=>(za3.j0 k X M (!D)))else(za3.j0 k X M true))=some (Z,r2):=H
  have A4:=mk au
  clear au
  by_cases c5:aa=true
  ·subst c5;(have H1:((zaT.f k M).bind fun D=>(za3.j0 k X M (!D)))=some (Z,r2):=by rw[if_pos rfl]at H;exact H);clear H;have H:=H1;clear H1;replace H:=Option.bind_eq_some_iff.mp H;obtain⟨D,av,H⟩:=H;replace H:(za3.j0 k X M (!D))=some (Z,r2):=H;have A6:=mk av;clear av;have H':=mk H;clear H;(go_wp2_with (first|((with_reducible refine zaE (f:=25) rfl ?_);refine za7 (some 8) rfl rfl Try.func25 kq0 rfl #[.slice A0 X.length c0] rfl kq10 ?_;(with_reducible refine(zaT.calls k _ _ X true _ ?side1 ?side2 A4.out).mono ?_);(case side1=>exact kq25 ah);(case side2=>exact ai.out);rintro e w7 ⟨rfl,hb⟩;refine⟨_,rfl,?_⟩;replace HB:=mk (zaa kq8 hb))|(go_at_call 25;(with_reducible refine(zaT.calls k _ _ M D _ ?side1 ?side2 A6.out).mono ?_);(case side1=>exact kq25 ar);(case side2=>exact ay.out);rintro e w8 ⟨rfl,hb⟩;replace HB:=mk (zaa kq8 hb))));(go_meet)
   case rel=>exact⟨_,(!D),kq3,H',⟨kq4⟩,⟨kq8⟩⟩
  ·replace c5:=Bool.eq_false_iff.mpr c5;subst c5;(have H1:(za3.j0 k X M true)=some (Z,r2):=by rw[if_neg (show ¬(false=true) by decide)]at H;exact H);clear H;have H:=H1;clear H1;have H':=mk H;clear H;(go_wp2_with (first|((with_reducible refine zaE (f:=25) rfl ?_);refine za7 (some 8) rfl rfl Try.func25 kq0 rfl #[.slice A0 X.length c0] rfl kq10 ?_;(with_reducible refine(zaT.calls k _ _ X false _ ?side1 ?side2 A4.out).mono ?_);(case side1=>exact kq25 ah);(case side2=>exact ai.out);rintro e w9 ⟨rfl,hb⟩;refine⟨_,rfl,?_⟩;replace HB:=mk (zaa kq8 hb))));(go_meet)
   case rel=>exact⟨_,(true),kq3,H',⟨kq4⟩,⟨kq8⟩⟩
 case rest=>
  clear aj
  obtain⟨kq,Y,rfl,HA,HJ2,HB⟩:=hcut
  cases kq with
  |zero=>exact absurd HA.out (by simp [za3.j0])
  |succ aI=>
   have H:=HA.out;clear HA;simp only[za3.j0]at H;(by_cases ac:Y=true)
   ·subst ac;(have H1:(some (([]:List ByteArray),3))=some (Z,r2):=by rw[if_pos rfl]at H;exact H);clear H;have H:=H1;clear H1;simp only[Option.some.injEq,Prod.mk.injEq]at H;obtain⟨rfl,rfl⟩:=H;go_wp2;go_ret2;exact⟨_,kq18,kq16,kq8⟩
   ·replace ac:=Bool.eq_false_iff.mpr ac;subst ac;(have H1:((zbg.f X).bind fun J=>(if J.length+M.length<8796093022208 then((zba.f (J++M)).bind fun G=>((za4.f G).bind fun r=>(some (r,0))))else(none)))=some (Z,r2):=by rw[if_neg (show ¬(false=true) by decide)]at H;exact H);clear H;have H:=H1;clear H1;replace H:=Option.bind_eq_some_iff.mp H;obtain⟨J,ae,H⟩:=H;replace H:(if J.length+M.length<8796093022208 then((zba.f (J++M)).bind fun G=>((za4.f G).bind fun r=>(some (r,0))))else(none))=some (Z,r2):=H;have aA:=mk ae;clear ae;replace H:=ic_ H;obtain⟨ak,H⟩|⟨ak,H⟩:=H
    ·have al:=mk ak;clear ak;obtain⟨L,U⟩:∃y_:List ByteArray,y_=(J++M):=⟨_,rfl⟩;(replace H:((zba.f L).bind fun G=>((za4.f G).bind fun r=>(some (r,0))))=some (Z,r2):=by first|(rw[U];with_reducible exact H)|(have am:=(Option.bind_some _ _).symm.trans H;rw[U];with_reducible exact am)|(have am:=(Option.bind_some _ _).symm.trans H;with_reducible exact am)|with_reducible exact H|(rw[U];exact H)|exact H);have Ny544:=mk U;clear U;replace H:=Option.bind_eq_some_iff.mp H;obtain⟨G,af,H⟩:=H;replace H:((za4.f G).bind fun r=>(some (r,0)))=some (Z,r2):=H;have aC:=mk af;clear af;replace H:=Option.bind_eq_some_iff.mp H;obtain⟨r,ag,H⟩:=H;replace H:(some (r,0))=some (Z,r2):=H;have aD:=mk ag;clear ag;simp only[Option.some.injEq,Prod.mk.injEq]at H;obtain⟨rfl,rfl⟩:=H;(go_wp2_with (first|((with_reducible refine zaE (f:=62) rfl ?_);refine za7 (some 16) rfl rfl Try.func62 kq0 rfl #[.slice A0 X.length c0] rfl kq10 ?_;(with_reducible refine(zbg.calls _ _ X J _ ?side1 ?side2 aA.out).mono ?_);(case side1=>exact kq25 ah);(case side2=>exact ai.out);rintro e aJ ⟨aw,rfl,ho0,hb⟩;refine⟨_,rfl,?_⟩;have ab:=mk (Kd.R_lower ho0 (zad kq8));replace HB:=mk (zaa kq8 hb))|((with_reducible refine zbV (b:=.append) (xs:=#[.tmp 16,.tmp 17]) rfl ?_);at_builtin;refine Kd.R_append_rows Kd.string (w0:=w) w.heap.size rfl (.tmp 16) (.tmp 17) 22 9 (.string ⟨#[]⟩) 16 rfl Try.underlying22 zcW rfl kq2 kq1 aw J M _ _ _ (fun _=>True) (fun _=>False) rfl rfl ?aO ?aR (fun _ _ h=>h) (fun _ h=>h.elim) ?aF ?aB ?aS ?aL ?_;(case aR=>exact kq25 ar);(case aB=>exact kq12);(case aF=>exact(fun _ _=>trivial));(case aO=>exact kq13 ab);(case aS=>exact kq14);(case aL=>have:=al.out;omega);intro aG aK ho hb hg hat;rw[←Ny544.out]at ho;have I:=mk (ho);replace HB:=mk (hb);clear ab;clear ho hb hg hat;obtain⟨Ao17,co17,ax⟩:=Kd.R_slice I.out;subst ax)|((with_reducible refine zaE (f:=63) rfl ?_);refine za7 (some 20) rfl rfl Try.func63 kq0 rfl #[.slice Ao17 L.length co17] rfl kq10 ?_;(with_reducible refine(zba.calls (fun k_=>some k_=(.slice Ao17 L.length co17:Value).ownBlock) (.slice Ao17 L.length co17) L G w _ ?side1 ?side2 aC.out).mono ?_);(case side1=>exact kq8);(case side2=>exact Kd.R_tight rfl I.out);rintro e aM ⟨rfl,aE,hb,hkp⟩;refine⟨_,rfl,?_⟩;replace I:=mk (Kd.R_reok rfl aE (fun k_ e_=>I.out.1 k_ e_));replace HB:=mk (hb))|((with_reducible refine zaE (f:=66) rfl ?_);refine za7 (some 22) rfl rfl Try.func66 kq0 rfl #[.slice Ao17 L.length co17] rfl kq10 ?_;(with_reducible refine(za4.calls (fun k_=>some k_=(.slice Ao17 L.length co17:Value).ownBlock) (.slice Ao17 L.length co17) G r w _ ?side1 ?side2 aD.out).mono ?_);(case side1=>exact kq8);(case side2=>exact Kd.R_tight rfl I.out);rintro e aN ⟨aH,rfl,ho0,hb,hkp⟩;refine⟨_,rfl,?_⟩;have an:=mk (Kd.R_mono (ok':=fun k_=>True) ho0 (fun k_ hk_=>trivial));replace HB:=mk (hb);clear I)));go_ret2;exact⟨_,kq18,(kq9 an),kq8⟩
    ·exact absurd H (by simp)
end Go.Proofs.Ytjknpmibdkoklaa.Q
set_option maxRecDepth 100000
namespace Go.Proofs.Ytjknpmibdkoklaa.Q
open Go.RowKit Go.Proofs.YtjknpmibdkoklaaW.PrintWords Go.Proofs.YtjknpmibdkoklaaW.PrintLast Go.Proofs.YtjknpmibdkoklaaW.PrintMore
def zcL:Option ByteArray→List ByteArray→Bool
 |_,[]=>true
 |p,x::l=>zcE x&&((match p with|none=>true|some y=>decide (bl y<bl x))&&zcL (some x) l)
theorem zeF:∀(l:List ByteArray) (y:ByteArray),zcL (some y) l=true↔(∀x ∈ l,zcE x=true)∧Rise (y::l)
 | [],y=>by simp [zcL,Rise]
 |x::l,y=>by
  unfold zcL
  rw[Bool.and_eq_true,Bool.and_eq_true,zeF l x]
  simp only[decide_eq_true_eq,Rise,List.pairwise_cons]
  constructor
  ·rintro⟨h1,h2,D,f,r⟩
   refine⟨fun z hz=>?_,fun z hz=>?_,f,r⟩
   ·rcases List.mem_cons.1 hz with rfl|hz
    ·exact h1
    ·exact D z hz
   ·rcases List.mem_cons.1 hz with rfl|hz
    ·exact h2
    ·exact ltt h2 (f z hz)
  ·rintro⟨h1,h2,f,r⟩
   exact⟨h1 x (List.mem_cons_self ..),h2 x (List.mem_cons_self ..),fun z hz=>h1 z (List.mem_cons_of_mem _ hz),f,r⟩
theorem zc2 (l:List ByteArray):zcL none l=true↔(∀x ∈ l,zcE x=true)∧Rise l:=by
 cases l with
 |nil=>simp [zcL,Rise]
 |cons x l=>
  unfold zcL
  rw[Bool.and_eq_true,Bool.and_eq_true,zeF l x]
  constructor
  ·rintro⟨h1,_,r,f⟩
   refine⟨fun z hz=>?_,f⟩
   rcases List.mem_cons.1 hz with rfl|hz
   ·exact h1
   ·exact r z hz
  ·rintro⟨h1,f⟩
   exact⟨h1 x (List.mem_cons_self ..),rfl,fun z hz=>h1 z (List.mem_cons_of_mem _ hz),f⟩
theorem zcM {l:List ByteArray} {i:Nat} (h:i<l.length):rdOf ByteArray.empty l (i:Int)=l[i]:=by rw[zet,List.getD_eq_getElem?_getD,List.getElem?_eq_getElem h];rfl
def zfL (l:List ByteArray) (i:Nat):Option ByteArray:=if i=0 then none else l[i-1]?
theorem zg5 {l:List ByteArray} {i:Nat} (h:i<l.length):zfL l (i+1)=some l[i]:=by
 unfold zfL
 rw[if_neg kq1]
 exact List.getElem?_eq_getElem h
theorem zeZ (l:List ByteArray) (hl:l.length<4611686018427387904):∀(n i:Nat),i≤l.length→l.length-i=n→Ev (fun k=>zaT.l0 k l l (l.length:Int) (i:Int)) (zcL (zfL l i) (l.drop i))
 |0,i,hi,hn=>by
  rw[List.drop_of_length_le kq1]
  exact Ev.step (f:=fun _=>some true) (fun k=>by
   show zaT.l0 (k+1) l l (l.length:Int) (i:Int)=_
   conv=>lhs;unfold zaT.l0
   rw[if_neg kq1]) (Ev.now _)
 |n+1,i,hi,hn=>by
  have hlt:i<l.length:=by omega
  have ih:=zeZ l hl n (i+1) kq1 kq1
  rw[zg5 hlt]at ih
  rw[List.drop_eq_getElem_cons hlt]
  have hw:wrap64 ((i:Int)+1)=((i+1:Nat):Int):=by unfold wrap64;omega
  have hw2:wrap64 ((i:Int)-1)=(i:Int)-1:=by unfold wrap64;omega
  have step:∀k,zaT.l0 (k+1) l l (l.length:Int) (i:Int)=(if zcE l[i]=true then(if(match zfL l i with|none=>true|some y=>decide (bl y<bl l[i]))=true then zaT.l0 k l l (l.length:Int) ((i+1:Nat):Int)else some false)else some false):=fun k=>by
   conv=>lhs;unfold zaT.l0
   rw[if_pos kq1,if_pos kq1,if_pos kq1,zcM hlt,hw]
   unfold za5.f
   rw[Option.bind_some]
   by_cases hnm:zcE l[i]=true
   ·rw[if_pos hnm,if_pos hnm]
    by_cases h0:i=0
    ·subst h0
     rw[if_neg kq1]
     simp [zfL]
    ·have hp:zfL l i=some l[i-1]:=by
      unfold zfL
      rw[if_neg h0]
      exact List.getElem?_eq_getElem kq1
     rw[if_pos kq1,hw2,if_pos kq1,if_pos kq1,show(i:Int)-1=((i-1:Nat):Int) by omega,zcM kq1,zgr,hp]
   ·rw[if_neg hnm,if_neg hnm]
  refine Ev.step step ?_
  unfold zcL
  by_cases h1:zcE l[i]=true
  ·refine Ev.congr (fun k=>if_pos h1) ?_
   rw[h1,Bool.true_and]
   by_cases h2:(match zfL l i with|none=>true|some y=>decide (bl y<bl l[i]))=true
   ·refine Ev.congr (fun k=>if_pos h2) ?_
    rw[h2,Bool.true_and]
    exact ih
   ·refine Ev.congr (fun k=>if_neg h2) ?_
    rw[Bool.eq_false_iff.mpr h2,Bool.false_and]
    exact Ev.now _
  ·refine Ev.congr (fun k=>if_neg h1) ?_
   rw[Bool.eq_false_iff.mpr h1,Bool.false_and]
   exact Ev.now _
theorem zgH (l:List ByteArray) (hl:l.length<4611686018427387904):Ev (fun k=>zaT.f k l) (zcL none l):=zeZ l hl _ 0 (Nat.zero_le _) rfl
def zch (a b:List ByteArray):List ByteArray × Int:=if zcL none a=true then(if zcL none b=true then(zce (a++b),0)else([],3))else([],3)
theorem zgI (a b:List ByteArray) (ha:a.length≤1000000) (hb:b.length≤1000000):Ev (fun k=>za3.f k a b) (zch a b):=by
 have stop:∀r,r=true→Ev (fun k=>za3.j0 k a b r) ([],3):=fun r hr=>Ev.step (f:=fun _=>some ([],3)) (fun k=>by
  show za3.j0 (k+1) a b r=_
  simp only[za3.j0]
  rw[if_pos hr]) (Ev.now _)
 refine Ev.bind (zgH a kq1) ?_
 unfold zch
 by_cases h1:zcL none a=true
 ·rw[if_pos h1]
  refine Ev.congr (fun k=>if_pos h1) (Ev.bind (zgH b kq1) ?_)
  by_cases h2:zcL none b=true
  ·rw[if_pos h2,h2]
   refine Ev.step (f:=fun _=>some (zce (a++b),0)) (fun k=>?_) (Ev.now _)
   show za3.j0 (k+1) a b (!true)=_
   simp only[za3.j0]
   unfold zbg.f zba.f za4.f
   rw[if_neg kq2,if_pos kq1,Option.bind_some,if_pos kq1,if_pos (by rw[List.length_append];omega),Option.bind_some,if_pos (by rw[zcS,List.length_append];omega),Option.bind_some]
   rfl
  ·rw[if_neg h2]
   exact stop _ (by rw[Bool.eq_false_iff.mpr h2];rfl)
 ·rw[if_neg h1]
  exact Ev.congr (fun k=>if_neg h1) (stop true rfl)
end Go.Proofs.Ytjknpmibdkoklaa.Q
set_option maxRecDepth 100000
namespace Go.Proofs.Ytjknpmibdkoklaa.Q
open Go.RowKit Go.Proofs.YtjknpmibdkoklaaW.PrintWords Go.Proofs.YtjknpmibdkoklaaW.PrintLast Go.Proofs.YtjknpmibdkoklaaW.PrintMore
def zbX (s:ByteArray):Int→List ByteArray→Int
 |_,[]=> -1
 |i,x::l=>if x=s then i else zbX s (i+1) l
theorem zc3 (s:ByteArray):∀(l:List ByteArray) (i:Int),0≤i→zbX s i l= -1∨(i≤zbX s i l∧zbX s i l<i+l.length)
 | [],i,h=>.inl rfl
 |x::l,i,h=>by
  unfold zbX
  split
  ·right;rw[List.length_cons];omega
  ·rcases zc3 s l (i+1) kq1 with e|e
   ·exact .inl e
   ·right;rw[List.length_cons];omega
theorem ze0 (l:List ByteArray) (s:ByteArray) (hl:l.length<4611686018427387904):∀(n i:Nat),i≤l.length→l.length-i=n→Ev (fun k=>zat.l0 k l s (l.length:Int) (i:Int)) (zbX s (i:Int) (l.drop i))
 |0,i,hi,hn=>by
  rw[List.drop_of_length_le kq1]
  exact Ev.step (f:=fun _=>some (-1)) (fun k=>by
   show zat.l0 (k+1) l s (l.length:Int) (i:Int)=_
   rw[zat.l0,if_neg kq1]) (Ev.now _)
 |n+1,i,hi,hn=>by
  have hlt:i<l.length:=by omega
  have ih:=ze0 l s hl n (i+1) kq1 kq1
  rw[List.drop_eq_getElem_cons hlt]
  unfold zbX
  have hw:wrap64 ((i:Int)+1)=((i+1:Nat):Int):=by unfold wrap64;omega
  by_cases h:l[i]=s
  ·rw[if_pos h]
   refine Ev.step (f:=fun _=>some (i:Int)) (fun k=>?_) (Ev.now _)
   show zat.l0 (k+1) l s (l.length:Int) (i:Int)=_
   rw[zat.l0,if_pos kq1,if_pos kq1,if_pos kq1,zcM hlt,if_pos (by rw[h])]
  ·rw[if_neg h,show(i:Int)+1=((i+1:Nat):Int) by omega]
   refine Ev.step (f:=fun k=>zat.l0 k l s (l.length:Int) ((i+1:Nat):Int)) (fun k=>?_) ih
   show zat.l0 (k+1) l s (l.length:Int) (i:Int)=_
   rw[zat.l0,if_pos kq1,if_pos kq1,if_pos kq1,zcM hlt,if_neg (fun e=>h (zgU (by rw[←zfX,←zfX,e]))),hw]
theorem zip (l:List ByteArray) (s:ByteArray) (hl:l.length<4611686018427387904):Ev (fun k=>zbM.f k l s) (zbX s 0 l):=by
 refine Ev.bind (a:=zbX s 0 l) ?_ (Ev.now _)
 exact ze0 l s hl _ 0 (Nat.zero_le _) rfl
def ofS (l0:List ByteArray) (l1:List Int) (s:ByteArray):Int:=if zbX s 0 l0≥0 then rd l1 (zbX s 0 l0)else 0
theorem zjP (r:List ByteArray) (D:List Int) (ka ea:Int) (s:ByteArray) (hl:r.length≤1000000) (h:r.length≤D.length):Ev (fun k=>zbT.f k r D ka ea s) (ofS r D s):=by
 refine Ev.bind (zip r s kq1) ?_
 by_cases h0:zbX s 0 r≥0
 ·rw[show ofS r D s=rd D (zbX s 0 r)from if_pos h0]
  refine Ev.congr (f:=fun _=>some (rd D (zbX s 0 r))) (fun k=>?_) (Ev.now _)
  rcases zc3 s r 0 kq1 with e|e
  ·omega
  ·rw[if_pos h0,if_pos kq1,if_pos kq1]
 ·rw[show ofS r D s=0 from if_neg h0]
  exact Ev.congr (fun k=>if_neg h0) (Ev.now _)
theorem ziq (r:List ByteArray) (D:List Int) (ka ea:Int) (s:ByteArray) (hl:r.length≤1000000) (h:r.length≤D.length):∃k,zbT.f k r D ka ea s=some (ofS r D s):=(zjP r D ka ea s hl h).rounds
end Go.Proofs.Ytjknpmibdkoklaa.Q
set_option maxRecDepth 100000
namespace Go.Proofs.Ytjknpmibdkoklaa.Q
open Go.RowKit Go.Proofs.YtjknpmibdkoklaaW.PrintWords Go.Proofs.YtjknpmibdkoklaaW.PrintLast Go.Proofs.YtjknpmibdkoklaaW.PrintMore
open Aside0 (mk)
def zbu (er e:Int):Int:=if e=0 then er else if er=0 then 91 else er
def zcB (er e:Int):Int:=if e=0 then er else 91
set_option maxHeartbeats 4000000 in
theorem zbZ (g:Nat) (nm cf:Value) (ko er v e:Int) (w0 w:World) (hw:w0.heap.size≤g) (hB:Below w0.heap.size w0 w) (hg:w.heap[g]?=some (.cells #[nm,cf,.int .i64 ko,.int .i64 er] 107 (0,0))) :
 Calls Try.prog 84 #[.pointer (some ⟨g,0,none⟩),.int .i64 v,.int .i64 e] w fun en w'=>en= .returned (.int .i64 v)∧w'.heap[g]?=some (.cells #[nm,cf,.int .i64 ko,.int .i64 (zbu er e)] 107 (0,0))∧za6 w w' g none∧Below w0.heap.size w0 w':=by
 have r:w.cell? ⟨g,3,none⟩=some (.int .i64 er):=(za1 hg 3).trans rfl
 have hf:=zaD hg 3
 have HG:=mk hg
 have HB:=mk hB
 have HK:=mk (za6.refl w g none)
 clear hg hB
 by_cases he:e=0
 ·have he0:(e != 0)=false:=bne_eq_false_iff_eq.mpr he
  have he1:(e==0)=true:=beq_iff_eq.mpr he
  have HE:=mk he
  clear he
  go_enter Try.func84,Try.ntmps84
  go_wp2
  go_ret
  exact⟨rfl,by unfold zbu;rw[if_pos HE.out];exact HG.out,HK.out,HB.out⟩
 ·have he0:(e != 0)=true:=bne_iff_ne.mpr he
  have he1:(e==0)=false:=beq_eq_false_iff_ne.mpr he
  have HE:=mk he
  clear he
  by_cases hr:er=0
  ·have f:(er==0)=true:=beq_iff_eq.mpr hr
   have HR:=mk hr
   clear hr
   go_enter Try.func84,Try.ntmps84
   go_wp2
   go_ret
   exact⟨rfl,by unfold zbu;rw[if_neg HE.out,if_pos HR.out];exact zak HG.out 3 _ rfl,za6.set_ HK.out _ _,zav HB.out hw⟩
  ·have f:(er==0)=false:=beq_eq_false_iff_ne.mpr hr
   have HR:=mk hr
   clear hr
   go_enter Try.func84,Try.ntmps84
   go_wp2
   go_ret
   exact⟨rfl,by unfold zbu;rw[if_neg HE.out,if_neg HR.out];exact HG.out,HK.out,HB.out⟩
set_option maxHeartbeats 4000000 in
theorem zcF (g:Nat) (nm cf:Value) (ko er v e:Int) (w0 w:World) (hw:w0.heap.size≤g) (hB:Below w0.heap.size w0 w) (hg:w.heap[g]?=some (.cells #[nm,cf,.int .i64 ko,.int .i64 er] 74 (0,0))) :
 Calls Try.prog 93 #[.pointer (some ⟨g,0,none⟩),.int .i64 v,.int .i64 e] w fun en w'=>en= .returned (.int .i64 v)∧w'.heap[g]?=some (.cells #[nm,cf,.int .i64 ko,.int .i64 (zcB er e)] 74 (0,0))∧za6 w w' g none∧Below w0.heap.size w0 w':=by
 have f:w.cell? ⟨g,3,none⟩=some (.int .i64 er):=(za1 hg 3).trans rfl
 have hf:=zaD hg 3
 have HG:=mk hg
 have HB:=mk hB
 have HK:=mk (za6.refl w g none)
 clear hg hB
 by_cases he:e=0
 ·have he0:(e != 0)=false:=bne_eq_false_iff_eq.mpr he
  have he1:(e==0)=true:=beq_iff_eq.mpr he
  have HE:=mk he
  clear he
  go_enter Try.func93,Try.ntmps93
  go_wp2
  go_ret
  exact⟨rfl,by unfold zcB;rw[if_pos HE.out];exact HG.out,HK.out,HB.out⟩
 ·have he0:(e != 0)=true:=bne_iff_ne.mpr he
  have he1:(e==0)=false:=beq_eq_false_iff_ne.mpr he
  have HE:=mk he
  clear he
  go_enter Try.func93,Try.ntmps93
  go_wp2
  go_ret
  exact⟨rfl,by unfold zcB;rw[if_neg HE.out];exact zak HG.out 3 _ rfl,za6.set_ HK.out _ _,zav HB.out hw⟩
end Go.Proofs.Ytjknpmibdkoklaa.Q
