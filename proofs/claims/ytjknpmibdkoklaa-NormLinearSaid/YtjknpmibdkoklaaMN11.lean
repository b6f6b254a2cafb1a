/- Functions of the given program as Lean functions, each with its contract, and what they answer; words for it. No condition but those of each. -/
import Derived.Test.YtjknpmibdkoklaaMNS
import Derived.Test.YtjknpmibdkoklaaMNR
import Derived.Test.YtjknpmibdkoklaaMN3
import Derived.Test.YtjknpmibdkoklaaMN9
import Derived.Test.YtjknpmibdkoklaaMN10
import Derived.Test.YtjknpmibdkoklaaMN8
set_option maxRecDepth 100000
set_option linter.unusedVariables false
set_option linter.unusedSimpArgs false
namespace Go.Proofs.Ytjknpmibdkoklaa.Q
open Go.RowKit Go.Proofs.YtjknpmibdkoklaaW.PrintWords Go.Proofs.YtjknpmibdkoklaaW.PrintLast Go.Proofs.YtjknpmibdkoklaaW.PrintMore
open Aside0 (mk)
open List (setIfInBounds_toArray set_cons_zero set_cons_succ)
attribute [local go_sem] zbw zbz zbP zbQ zbm zbn zbA zbB
set_option linter.unusedVariables false
set_option linter.unusedSimpArgs false
attribute [local go_sem] zbS zbD zbE zbF
def zaQ.f (k:Nat) (a0_0:Bool) (l0_1:List Int):Option (Int × Int):=(zap.f k a0_0 l0_1).bind fun bt1064=>(if bt1064.2=true then(some (bt1064.1,0))else(some (0,10)))
theorem zaQ.mono:∀a0 r k,LeO (zaQ.f k a0 r) (zaQ.f (k+1) a0 r):=by
 intro a0 r k
 unfold zaQ.f
 repeat' first
  |(with_reducible exact zap.mono _ _ _)
  |(with_reducible exact LeO.refl _)
  |(with_reducible exact LeO.none _)
  |(with_reducible refine LeO.ite ?_ ?_)
  |(with_reducible refine LeO.bind ?_ (fun _=>?_))
  |exact zap.mono _ _ _
  |exact LeO.none _
  |refine LeO.ite ?_ ?_
  |refine LeO.bind ?_ (fun _=>?_)
set_option maxHeartbeats 8000000 in
theorem zaQ.calls (k:Nat) (D:Bool) (I:Option Addr) (J:Nat) (l0_1:List Int) (r1 r2:Int) (w:World) (X:Kd.C (Kd.int .u64) w I l0_1.length l0_1) (hc0_1:l0_1.length≤J) (h:zaQ.f k D l0_1=some (r1,r2)) :
 Calls Try.prog 131 #[.agg #[.bool D,.slice I l0_1.length J]] w fun e w'=>e= .returned (.tuple #[.int .i64 r1,.int .i64 r2])∧Below w.heap.size w w':=by
 have ae:=Try.underlying160
 have Y:=mk X
 have Z:=mk hc0_1
 clear X hc0_1
 have HB:=mk (Below.refl w.heap.size w)
 have H:((zap.f k D l0_1).bind fun U=>(if U.2=true then(some (U.1,0))else(some (0,10))))=some (r1,r2):=h
 clear h
 replace H:=Option.bind_eq_some_iff.mp H
 obtain⟨⟨L,aa⟩,ac,H⟩:=H
 replace H:(if aa=true then(some (L,0))else(some (0,10)))=some (r1,r2):=H
 have A2:=mk ac
 clear ac
 by_cases c3:aa=true
 ·subst c3
  have H1:(some (L,0))=some (r1,r2):=by rw[if_pos rfl]at H;exact H
  clear H
  have H:=H1
  clear H1
  simp only[Option.some.injEq,Prod.mk.injEq]at H
  obtain⟨rfl,rfl⟩:=H
  go_enter Try.func131,Try.ntmps131
  go_wp2_with (first|((with_reducible refine zao (N:=1) rfl ?_);refine zal ?hg (N:=1) ?hd (cs:=#[.bool D,.slice I l0_1.length J]) (t:=160) ?hr ?_;(case hd=>rfl);(case hg=>rfl);(case hr=>exact kq21);intro ab hg w4 hbox hb;have r:=mk (hbox);have M:=(gs_ hg kq8);have G:=M;replace HB:=mk (zaa kq8 hb);clear hb hbox hg;obtain⟨_,_,_,_⟩:=cz2_ r.out)|((with_reducible refine zaE (f:=168) rfl ?_);refine za7 (some 8) rfl rfl Try.func168 kq0 rfl #[.agg #[.bool D,.slice I l0_1.length J]] rfl kq10 ?_;(with_reducible refine(zap.calls k D _ _ l0_1 L true _ ?side1 ?side2 A2.out).mono ?_);(case side1=>exact kq25 Y);(case side2=>exact Z.out);rintro e w6 ⟨rfl,hb⟩;refine⟨_,rfl,?_⟩;replace r:=(bb_ r hb);replace HB:=mk (zaa (kq20 G) hb)))
  go_ret2
  exact⟨kq18,(kq20 G)⟩
 ·replace c3:=Bool.eq_false_iff.mpr c3
  subst c3
  have H1:(some (0,10))=some (r1,r2):=by rw[if_neg (show ¬(false=true) by decide)]at H;exact H
  clear H
  have H:=H1
  clear H1
  simp only[Option.some.injEq,Prod.mk.injEq]at H
  obtain⟨rfl,rfl⟩:=H
  go_enter Try.func131,Try.ntmps131
  go_wp2_with (first|((with_reducible refine zao (N:=1) rfl ?_);refine zal ?hg (N:=1) ?hd (cs:=#[.bool D,.slice I l0_1.length J]) (t:=160) ?hr ?_;(case hd=>rfl);(case hg=>rfl);(case hr=>exact kq21);intro ab hg w7 hbox hb;have r:=mk (hbox);have M:=(gs_ hg kq8);have G:=M;replace HB:=mk (zaa kq8 hb);clear hb hbox hg;obtain⟨_,_,_,_⟩:=cz2_ r.out)|((with_reducible refine zaE (f:=168) rfl ?_);refine za7 (some 8) rfl rfl Try.func168 kq0 rfl #[.agg #[.bool D,.slice I l0_1.length J]] rfl kq10 ?_;(with_reducible refine(zap.calls k D _ _ l0_1 L false _ ?side1 ?side2 A2.out).mono ?_);(case side1=>exact kq25 Y);(case side2=>exact Z.out);rintro e w9 ⟨rfl,hb⟩;refine⟨_,rfl,?_⟩;replace r:=(bb_ r hb);replace HB:=mk (zaa (kq20 G) hb)))
  go_ret2
  exact⟨kq18,(kq20 G)⟩
def zbs.f (k:Nat) (a0 a1:Int):Option (Int × Int):=(zaL.f k a0).bind fun bt1066=>((zaL.f k a1).bind fun bt1070=>((zaZ.f k bt1070.1 bt1070.2).bind fun bt1074=>((zax.f k bt1066.1 bt1066.2 bt1074.1 bt1074.2).bind fun bt1078=>((zaQ.f k bt1078.1 bt1078.2).bind fun bt1082=>(some (bt1082.1,bt1082.2))))))
theorem zbs.mono:∀a0 r k,LeO (zbs.f k a0 r) (zbs.f (k+1) a0 r):=by
 intro a0 r k
 unfold zbs.f
 repeat' first
  |(with_reducible exact zaZ.mono _ _ _)
  |(with_reducible exact zaL.mono _ _)
  |(with_reducible exact zax.mono _ _ _ _ _)
  |(with_reducible exact zaQ.mono _ _ _)
  |(with_reducible exact LeO.refl _)
  |(with_reducible exact LeO.none _)
  |(with_reducible refine LeO.ite ?_ ?_)
  |(with_reducible refine LeO.bind ?_ (fun _=>?_))
  |exact zaZ.mono _ _ _
  |exact zaL.mono _ _
  |exact zax.mono _ _ _ _ _
  |exact zaQ.mono _ _ _
  |exact LeO.none _
  |refine LeO.ite ?_ ?_
  |refine LeO.bind ?_ (fun _=>?_)
set_option maxHeartbeats 8000000 in
theorem zbs.calls (k:Nat) (a0 a1 r1 r2:Int) (w:World) (h:zbs.f k a0 a1=some (r1,r2)) :
 Calls Try.prog 92 #[.int .i64 a0,.int .i64 a1] w fun e w'=>e= .returned (.tuple #[.int .i64 r1,.int .i64 r2])∧Below w.heap.size w w':=by
 have HB:=mk (Below.refl w.heap.size w)
 have H:((zaL.f k a0).bind fun ag=>((zaL.f k a1).bind fun M=>((zaZ.f k M.1 M.2).bind fun I=>((zax.f k ag.1 ag.2 I.1 I.2).bind fun D=>((zaQ.f k D.1 D.2).bind fun r=>(some (r.1,r.2)))))))=some (r1,r2):=h
 clear h
 replace H:=Option.bind_eq_some_iff.mp H
 obtain⟨⟨X,Y⟩,aj,H⟩:=H
 replace H:((zaL.f k a1).bind fun M=>((zaZ.f k M.1 M.2).bind fun I=>((zax.f k X Y I.1 I.2).bind fun D=>((zaQ.f k D.1 D.2).bind fun r=>(some (r.1,r.2))))))=some (r1,r2):=H
 have A3:=mk aj
 clear aj
 replace H:=Option.bind_eq_some_iff.mp H
 obtain⟨⟨Z,aa⟩,ak,H⟩:=H
 replace H:((zaZ.f k Z aa).bind fun I=>((zax.f k X Y I.1 I.2).bind fun D=>((zaQ.f k D.1 D.2).bind fun r=>(some (r.1,r.2)))))=some (r1,r2):=H
 have A4:=mk ak
 clear ak
 replace H:=Option.bind_eq_some_iff.mp H
 obtain⟨⟨ab,ac⟩,al,H⟩:=H
 replace H:((zax.f k X Y ab ac).bind fun D=>((zaQ.f k D.1 D.2).bind fun r=>(some (r.1,r.2))))=some (r1,r2):=H
 have A5:=mk al
 clear al
 replace H:=Option.bind_eq_some_iff.mp H
 obtain⟨⟨ae,af⟩,am,H⟩:=H
 replace H:((zaQ.f k ae af).bind fun r=>(some (r.1,r.2)))=some (r1,r2):=H
 have A6:=mk am
 clear am
 replace H:=Option.bind_eq_some_iff.mp H
 obtain⟨⟨ah,ai⟩,an,H⟩:=H
 replace H:(some (ah,ai))=some (r1,r2):=H
 have A7:=mk an
 clear an
 simp only[Option.some.injEq,Prod.mk.injEq]at H
 obtain⟨rfl,rfl⟩:=H
 go_enter Try.func92,Try.ntmps92
 go_wp2_with (first|((with_reducible refine zaE (f:=133) rfl ?_);refine za7 (some 7) rfl rfl Try.func133 kq0 rfl #[.int .i64 a0] rfl kq10 ?_;(with_reducible refine(zaL.calls k a0 X Y _ A3.out).mono ?_);rintro e w8 ⟨ay,rfl,ho0,hb⟩;refine⟨_,rfl,?_⟩;have G:=mk (Kd.V_lower (Kd.V_mono (ok':=fun k_=>True) ho0 (fun k_ hk_=>trivial)) (zad kq8));replace HB:=mk (zaa kq8 hb))|((with_reducible refine zaE (f:=133) rfl ?_);refine za7 (some 9) rfl rfl Try.func133 kq0 rfl #[.int .i64 a1] rfl kq10 ?_;(with_reducible refine(zaL.calls k a1 Z aa _ A4.out).mono ?_);rintro e w9 ⟨az,rfl,ho0,hb⟩;refine⟨_,rfl,?_⟩;have J:=mk (Kd.V_lower (Kd.V_mono (ok':=fun k_=>True) ho0 (fun k_ hk_=>trivial)) (zad kq8));replace G:=mk (Kd.V_below (kq23 G) hb);replace HB:=mk (zaa kq8 hb);obtain⟨ao,ap,aq⟩:=Kd.V_slice J.out;subst aq)|((with_reducible refine zaE (f:=134) rfl ?_);refine za7 (some 10) rfl rfl Try.func134 kq0 rfl #[.agg #[.bool Z,.slice ao aa.length ap]] rfl kq10 ?_;(with_reducible refine(zaZ.calls k Z (fun k_=>True) _ _ aa ab ac _ ?side1 A5.out).mono ?_);(case side1=>exact J.out);rintro e aD ⟨aA,rfl,ho0,hb⟩;refine⟨_,rfl,?_⟩;have L:=mk (Kd.V_lower (Kd.V_mono (ok':=fun k_=>True) ho0 (fun k_ hk_=>trivial)) (zad kq8));replace G:=mk (Kd.V_below (kq23 G) hb);replace J:=mk (Kd.V_below (kq23 J) hb);replace HB:=mk (zaa kq8 hb);obtain⟨Ao12,co12,ar⟩:=Kd.V_slice G.out;subst ar;obtain⟨au,av,aw⟩:=Kd.V_slice L.out;subst aw)|((with_reducible refine zaE (f:=132) rfl ?_);refine za7 (some 11) rfl rfl Try.func132 kq0 rfl #[.agg #[.bool X,.slice Ao12 Y.length co12],.agg #[.bool ab,.slice au ac.length av]] rfl kq10 ?_;(with_reducible refine(zax.calls k X _ _ Y ab _ _ ac ae af _ ?side1 ?side2 ?side3 ?side4 A6.out).mono ?_);(case side1=>exact kq38 G);(case side2=>exact(Kd.V_reads' G.out).2.1);(case side3=>exact kq38 L);(case side4=>exact(Kd.V_reads' L.out).2.1);rintro e aE ⟨aC,rfl,ho0,hb⟩;refine⟨_,rfl,?_⟩;have U:=mk (Kd.V_lower (Kd.V_mono (ok':=fun k_=>True) ho0 (fun k_ hk_=>trivial)) (zad kq8));replace G:=mk (Kd.V_below (kq23 G) hb);replace J:=mk (Kd.V_below (kq23 J) hb);replace L:=mk (Kd.V_below (kq23 L) hb);replace HB:=mk (zaa kq8 hb);obtain⟨Ao15,co15,ax⟩:=Kd.V_slice U.out;subst ax)|((with_reducible refine zaE (f:=131) rfl ?_);refine za7 (some 12) rfl rfl Try.func131 kq0 rfl #[.agg #[.bool ae,.slice Ao15 af.length co15]] rfl kq10 ?_;(with_reducible refine(zaQ.calls k ae _ _ af ah ai _ ?side1 ?side2 A7.out).mono ?_);(case side1=>exact kq38 U);(case side2=>exact(Kd.V_reads' U.out).2.1);rintro e aG ⟨rfl,hb⟩;refine⟨_,rfl,?_⟩;replace G:=mk (Kd.V_below (kq23 G) hb);replace J:=mk (Kd.V_below (kq23 J) hb);replace L:=mk (Kd.V_below (kq23 L) hb);replace U:=mk (Kd.V_below (kq23 U) hb);replace HB:=mk (zaa kq8 hb)))
 go_ret2
 exact⟨kq18,kq8⟩
end Go.Proofs.Ytjknpmibdkoklaa.Q
namespace Go.Proofs.Ytjknpmibdkoklaa.Q
open Go.RowKit Go.Proofs.YtjknpmibdkoklaaW.PrintWords Go.Proofs.YtjknpmibdkoklaaW.PrintLast Go.Proofs.YtjknpmibdkoklaaW.PrintMore
theorem zeX (l:List Int) (i:Nat):val l=val (l.take i)+65536^i*val (l.drop i):=by
 by_cases h:i≤l.length
 ·exact zfD l i h
 ·rw[List.take_of_length_le kq1,List.drop_eq_nil_of_le kq1,show val []=0 from rfl,Int.mul_zero,Int.add_zero]
theorem zgF {i j:Nat} (h:i≤j):(65536:Int)^i≤65536^j:=by
 obtain⟨d,rfl⟩:=Nat.exists_eq_add_of_le h
 rw[Int.pow_add]
 have:(65536:Int)^i*1≤65536^i*65536^d:=Int.mul_le_mul_of_nonneg_left (by have:=pow_pos d;omega) (Int.le_of_lt (pow_pos i))
 omega
theorem zeA {l:List Int} (h:D16 l) (i:Nat):val (l.take i)<65536^i:=by
 refine Int.lt_of_lt_of_le (zhp (zdj h i)) (zgF ?_)
 rw[List.length_take]
 omega
theorem zfF (a b:Nat):mx (a:Int) (b:Int)=((max a b:Nat):Int):=by unfold mx;split<;>omega
theorem zhw {a b:List Int} (ha:D16 a) (hb:D16 b) (sa sb:Bool) (M:Nat) (hM:max a.length b.length=M) (hM2:M<1000000000000) :
 ∀(d i:Nat) (out:List Int) (c:Int),i+d=M+1→out.length=i→D16 out→0≤c→c≤1→(i=M+1→c=0)→
  ∃r,Ev (fun k=>zas.l0 k out c (i:Int) sa a sb b) r∧D16 r∧r.length≤M+1∧val r=val out+65536^i*(c+val (a.drop i)+val (b.drop i)):=by
 intro d
 induction d with
 |zero=>
  intro i out c hi ho hd h0 h1 hc
  refine⟨out,zee 1 (fun k hk=>?_),hd,kq1,?_⟩
  ·obtain⟨k,rfl⟩:∃m,k=m+2:=⟨k-2,kq1⟩
   simp only[zas.l0,zfF]
   rw[if_neg kq1]
   simp only[zas.j1]
   have:c=0:=hc kq1
   subst this
   simp
  ·have:c=0:=hc kq1
   subst this
   rw[List.drop_eq_nil_of_le kq1,List.drop_eq_nil_of_le kq1]
   simp [val]
 |succ d ih=>
  intro i out c hi ho hd h0 h1 hc
  have ra:=zdK ha i
  have rb:=zdK hb i
  have step:∃r,Ev (fun k=>zas.j1 k out c (i:Int) true sa a sb b) r∧D16 r∧r.length≤M+1∧val r=val out+65536^i*(c+val (a.drop i)+val (b.drop i)):=by
   have hs:IntKind.u64.wrap ((IntKind.u64.wrap (rd a i+rd b i))+c)=rd a i+rd b i+c:=by
    rw[zci (n:=rd a i+rd b i) kq1 kq1,zci kq1 kq1]
   generalize hse:rd a (i:Int)+rd b (i:Int)+c=s at hs
   obtain⟨r,hr,D,G,I⟩:=ih (i+1) (out++[s % 65536]) (s / 65536) kq1 (by simp [ho]) (zeV hd (zf7 kq1 kq1)) kq1 kq1 (by
    intro he
    have:rd a (i:Int)=0:=zf8 kq1
    have:rd b (i:Int)=0:=zf8 kq1
    omega)
   refine⟨r,?_,D,G,?_⟩
   ·refine Ev.step (f:=fun k=>zas.l0 k (out++[s % 65536]) (s / 65536) ((i+1:Nat):Int) sa a sb b) (fun k=>?_) hr
    simp only[zas.j1,zcU,Option.bind_some,if_true]
    rw[if_pos kq1,hs,zez kq1 kq1,zcY kq1]
   ·rw[I,zdi,ho,zc1 a i,zc1 b i]
    have e:c+(rd a (i:Int)+65536*val (a.drop (i+1)))+(rd b (i:Int)+65536*val (b.drop (i+1)))=s % 65536+65536*(s / 65536+val (a.drop (i+1))+val (b.drop (i+1))):=by omega
    rw[e,Int.pow_succ]
    simp only[val]
    grind
  by_cases hlt:i<M
  ·obtain⟨r,hr,h⟩:=step
   refine⟨r,Ev.step (fun k=>?_) hr,h⟩
   simp only[zas.l0,zfF]
   rw[if_pos kq1]
  ·by_cases hc0:c=0
   ·subst hc0
    refine⟨out,zee 1 (fun k hk=>?_),hd,kq1,?_⟩
    ·obtain⟨k,rfl⟩:∃m,k=m+2:=⟨k-2,kq1⟩
     simp only[zas.l0,zfF]
     rw[if_neg kq1]
     simp only[zas.j1]
     simp
    ·rw[List.drop_eq_nil_of_le kq1,List.drop_eq_nil_of_le kq1]
     simp [val]
   ·obtain⟨r,hr,h⟩:=step
    refine⟨r,Ev.step (fun k=>?_) hr,h⟩
    simp only[zas.l0,zfF]
    rw[if_neg kq1,show decide (c>0)=true from decide_eq_true kq1]
theorem zf9 {a b:List Int} (ha:D16 a) (hb:D16 b) (sa sb:Bool) (hla:a.length<1000000000000) (hlb:b.length<1000000000000) :
 ∃r,Ev (fun k=>zas.f k sa a sb b) r∧D16 r∧r.length≤1000000000000∧val r=val a+val b:=by
 obtain⟨r,h1,h2,G,D⟩:=zhw ha hb sa sb _ rfl kq1 (max a.length b.length+1) 0 [] 0 kq1 rfl zfj kq1 kq1 kq1
 refine⟨r,h1,h2,kq1,?_⟩
 rw[D]
 simp [val]
theorem zg1 {a b:List Int} (ha:D16 a) (hb:D16 b) (sa sb:Bool) (hM2:a.length<1000000000000) :
 ∀(d i:Nat) (out:List Int) (c:Int),i+d=a.length→out.length=i→D16 out→0≤c→c≤1→
  ∃r e,Ev (fun k=>zaB.l0 k out c (i:Int) sa a sb b) r∧D16 r∧r.length=a.length∧0≤e∧val r=val out+65536^i*(val (a.drop i)-val (b.drop i)-c)+65536^a.length*e:=by
 intro d
 induction d with
 |zero=>
  intro i out c hi ho hd h0 h1
  refine⟨out,val (b.drop i)+c,zee 0 (fun k hk=>?_),hd,kq1,?_,?_⟩
  ·obtain⟨k,rfl⟩:∃m,k=m+1:=⟨k-1,kq1⟩
   simp only[zaB.l0]
   rw[if_neg kq1]
  ·have:=zb5 (zfk hb i)
   omega
  ·have:a.length=i:=by omega
   rw[this,List.drop_eq_nil_of_le kq1]
   rw[Int.add_assoc,←Int.mul_add,show val []-val (b.drop i)-c+(val (b.drop i)+c)=0 by simp [val];omega]
   simp
 |succ d ih=>
  intro i out c hi ho hd h0 h1
  have ra:=zdK ha i
  have rb:=zdK hb i
  have hs:IntKind.u64.wrap ((IntKind.u64.wrap ((IntKind.u64.wrap (rd a (i:Int)+65536))-rd b (i:Int)))-c)=rd a (i:Int)+65536-rd b (i:Int)-c:=by
   rw[zci (n:=rd a (i:Int)+65536) kq1 kq1,zci (n:=rd a (i:Int)+65536-rd b (i:Int)) kq1 kq1,zci kq1 kq1]
  generalize hse:rd a (i:Int)+65536-rd b (i:Int)-c=s at hs
  obtain⟨r,e,hr,D,G,I,J⟩:=ih (i+1) (out++[s % 65536]) (1-s / 65536) kq1 (by simp [ho]) (zeV hd (zf7 kq1 kq1)) kq1 kq1
  refine⟨r,e,?_,D,G,I,?_⟩
  ·refine Ev.step (f:=fun k=>zaB.l0 k (out++[s % 65536]) (1-s / 65536) ((i+1:Nat):Int) sa a sb b) (fun k=>?_) hr
   simp only[zaB.l0,zcU,Option.bind_some]
   rw[if_pos kq1,if_pos kq1,hs,zez kq1 kq1,zcY kq1,zci (n:=1-s / 65536) kq1 kq1]
  ·rw[J,zdi,ho,zc1 a i,zc1 b i]
   have L:(rd a (i:Int)+65536*val (a.drop (i+1)))-(rd b (i:Int)+65536*val (b.drop (i+1)))-c=s % 65536+65536*(val (a.drop (i+1))-val (b.drop (i+1))-(1-s / 65536)):=by omega
   rw[L,Int.pow_succ]
   simp only[val]
   grind
theorem zeg {a b:List Int} (ha:D16 a) (hb:D16 b) (sa sb:Bool) (hla:a.length<1000000000000) (hle:val b≤val a) :
 ∃r,Ev (fun k=>zaB.f k sa a sb b) r∧D16 r∧r.length≤1000000000000∧val r=val a-val b:=by
 obtain⟨r,e,h1,h2,G,I,D⟩:=zg1 ha hb sa sb hla a.length 0 [] 0 kq1 rfl zfj kq1 kq1
 refine⟨r,h1,h2,kq1,?_⟩
 have hlt:=zhp h2
 rw[G]at hlt
 simp [val]at D
 have he:e=0:=by
  by_cases h:0<e
  ·have:65536^a.length*1≤65536^a.length*e:=Int.mul_le_mul_of_nonneg_left kq1 (Int.le_of_lt (pow_pos _))
   omega
  ·omega
 rw[D,he]
 simp
def cmp (x y:Int):Int:=if x<y then -1 else if x>y then 1 else 0
theorem zjq {a b:List Int} (ha:D16 a) (hb:D16 b) (j:Nat) (h:val (a.drop j)<val (b.drop j)):val a<val b:=by
 have h1:=zeX a j
 have h2:=zeX b j
 have r:=zeA ha j
 have D:=zb5 (zdj hb j)
 have f:(65536:Int)^j*(val (a.drop j)+1)≤65536^j*val (b.drop j):=Int.mul_le_mul_of_nonneg_left kq1 (Int.le_of_lt (pow_pos _))
 rw[Int.mul_add]at f
 omega
theorem zhx {a b:List Int} (ha:D16 a) (hb:D16 b) (sa sb:Bool) (j:Nat) (hj:j<1000000000000) (h:val (a.drop j)=val (b.drop j)) :
 ∀k,j<k→zaO.l0 k ((j:Int)-1) sa a sb b=some (cmp (val a) (val b)):=by
 induction j with
 |zero=>
  intro k hk
  obtain⟨k,rfl⟩:∃m,k=m+1:=⟨k-1,kq1⟩
  simp only[zaO.l0]
  rw[if_neg kq1]
  simp at h
  unfold cmp
  rw[if_neg kq1,if_neg kq1]
 |succ j ih=>
  intro k hk
  obtain⟨k,rfl⟩:∃m,k=m+1:=⟨k-1,kq1⟩
  rw[show((j+1:Nat):Int)-1=(j:Int) by omega]
  simp only[zaO.l0,zcU,Option.bind_some]
  have h1:=zc1 a j
  have h2:=zc1 b j
  rw[if_pos kq1]
  by_cases hlt:rd a (j:Int)<rd b (j:Int)
  ·rw[if_pos hlt]
   have:=zjq ha hb j kq1
   unfold cmp
   rw[if_pos this]
  ·rw[if_neg hlt]
   by_cases hgt:rd a (j:Int)>rd b (j:Int)
   ·rw[if_pos hgt]
    have:=zjq hb ha j kq1
    unfold cmp
    rw[if_neg kq1,if_pos this]
   ·rw[if_neg hgt,zcH ⟨kq1,kq1⟩]
    exact ih kq1 kq1 k kq1
theorem zfG {a b:List Int} (ha:D16 a) (hb:D16 b) (sa sb:Bool) (hla:a.length<1000000000000) (hlb:b.length<1000000000000) :
 Ev (fun k=>zaO.f k sa a sb b) (cmp (val a) (val b)):=by
 refine zee (max a.length b.length) (fun k hk=>?_)
 unfold zaO.f
 rw[zfF,zcH ⟨kq1,kq1⟩]
 exact zhx ha hb sa sb _ kq1 (by rw[List.drop_eq_nil_of_le kq1,List.drop_eq_nil_of_le kq1]) k hk
theorem Wd (z:Int):D16 (W z).2:=zhs _
theorem Wv (z:Int):val (W z).2=z.natAbs:=zht _
theorem zeB {a b:Int} (ha:Small a) (hb:Small b):Ev (fun k=>zax.f k (W a).1 (W a).2 (W b).1 (W b).2) (W (a+b)):=by
 have sa:(W a).2.length<1000000000000:=ha
 have sb:(W b).2.length<1000000000000:=hb
 unfold zax.f
 by_cases hs:((W a).1==(W b).1)=true
 ·obtain⟨r,h1,h2,J,D⟩:=zf9 (Wd a) (Wd b) (W a).1 (W b).1 sa sb
  refine Ev.congr (fun k=>if_pos hs) (Ev.bind h1 ?_)
  refine zee r.length (fun k hk=>?_)
  rw[zcm h2 _ kq1 k hk,D,Wv,Wv]
  have:(if(W a).1=true then -((a.natAbs:Int)+b.natAbs)else(a.natAbs:Int)+b.natAbs)=a+b:=by
   simp only[W]at hs ⊢
   by_cases G:a<0<;>by_cases I:b<0<;>simp [G,I]at hs ⊢ <;>omega
  rw[this]
  rfl
 ·by_cases hge:(b.natAbs:Int)≤a.natAbs
  ·obtain⟨r,h1,h2,J,D⟩:=zeg (Wd a) (Wd b) (W a).1 (W b).1 sa (by rw[Wv,Wv];exact hge)
   refine Ev.congr (fun k=>if_neg hs) (Ev.bind (zfG (Wd a) (Wd b) _ _ sa sb) ?_)
   have hc:cmp (val (W a).2) (val (W b).2)≥0:=by rw[Wv,Wv];unfold cmp;split<;>(try split)<;>omega
   refine Ev.congr (fun k=>if_pos hc) (Ev.bind h1 ?_)
   refine zee r.length (fun k hk=>?_)
   rw[zcm h2 _ kq1 k hk,D,Wv,Wv]
   have:(if(W a).1=true then -((a.natAbs:Int)-b.natAbs)else(a.natAbs:Int)-b.natAbs)=a+b:=by
    simp only[W]at hs ⊢
    by_cases G:a<0<;>by_cases I:b<0<;>simp [G,I]at hs ⊢ <;>omega
   rw[this]
   rfl
  ·obtain⟨r,h1,h2,J,D⟩:=zeg (Wd b) (Wd a) (W b).1 (W a).1 sb (by rw[Wv,Wv];omega)
   refine Ev.congr (fun k=>if_neg hs) (Ev.bind (zfG (Wd a) (Wd b) _ _ sa sb) ?_)
   have hc:¬cmp (val (W a).2) (val (W b).2)≥0:=by rw[Wv,Wv];unfold cmp;split<;>(try split)<;>omega
   refine Ev.congr (fun k=>if_neg hc) (Ev.bind h1 ?_)
   refine zee r.length (fun k hk=>?_)
   rw[zcm h2 _ kq1 k hk,D,Wv,Wv]
   have:(if(W b).1=true then -((b.natAbs:Int)-a.natAbs)else(b.natAbs:Int)-a.natAbs)=a+b:=by
    simp only[W]at hs ⊢
    by_cases G:a<0<;>by_cases I:b<0<;>simp [G,I]at hs ⊢ <;>omega
   rw[this]
   rfl
theorem zfH {a:Int} (h:Small a):Small (-a):=by unfold Small at *;rw[Int.natAbs_neg];exact h
theorem zep {a:Int} (j:Nat) (hj:j<1000000000000) (h:a.natAbs<65536^j):Small a:=Nat.lt_of_le_of_lt (zi1 _ j h) hj
theorem zcA {a:Int} (h:In64 a):Small a:=by
 obtain⟨h1,h2⟩:=h
 refine zep 4 kq2 ?_
 have:(65536:Nat)^4=18446744073709551616:=by decide
 omega
theorem zfI {a b:Int} (ha:Small a) (hb:Small b):Ev (fun k=>zaY.f k (W a).1 (W a).2 (W b).1 (W b).2) (decide (a<b)):=by
 unfold zaY.f
 refine Ev.bind (zeW hb) (Ev.bind (zeB ha (zfH hb)) ?_)
 have:(W (a+ -b)).1=decide (a<b):=by
  simp only[W]
  by_cases h:a<b<;>simp [h]<;>omega
 exact Ev.congr (fun k=>by rw[this]) (Ev.now _)
theorem zhy {l:List Int} (hd:D16 l) (s:Bool) (hl:l.length<1000000000000) (hv:val l<18446744073709551616) (j:Nat) (hj:j≤l.length) :
 ∀k,j<k→zap.l0 k (val (l.drop j)) ((j:Int)-1) s l=some (wrap64 (if s=true then -(val l)else val l),true):=by
 induction j with
 |zero=>
  intro k hk
  obtain⟨k,rfl⟩:∃m,k=m+1:=⟨k-1,kq1⟩
  simp only[zap.l0,List.drop_zero]
  rw[if_neg kq1]
  cases s
  ·simp
  ·simp only[if_true]
   have:=zb5 hd
   rw[zif]
   simp only[Option.some.injEq,Prod.mk.injEq,and_true]
   unfold wrap64
   omega
 |succ j ih=>
  intro k hk
  obtain⟨k,rfl⟩:∃m,k=m+1:=⟨k-1,kq1⟩
  rw[show((j+1:Nat):Int)-1=(j:Int) by omega]
  simp only[zap.l0]
  have h1:=zc1 l j
  have h2:=zfD l j kq1
  have r:=zb5 (zdj hd j)
  have f:=zb5 (zfk hd j)
  have D:=zb5 (zfk hd (j+1))
  have G:1*val (l.drop j)≤65536^j*val (l.drop j):=Int.mul_le_mul_of_nonneg_right (by have:=pow_pos j;omega) f
  have I:=zdK hd j
  rw[if_pos kq1,if_pos kq1,if_pos kq1,zcH ⟨kq1,kq1⟩,zci kq1 kq1]
  rw[bits_join .u64 64 kq2 (fun n h h'=>zhv 64 kq2 n h h') 16 _ _ kq1 kq1 kq1 kq1 kq1 kq1]
  rw[show val (l.drop (j+1))*65536+rd l (j:Int)=val (l.drop j) by omega]
  exact ih kq1 k kq1
theorem zhz {z:Int} (hz:Small z):Ev (fun k=>zap.f k (W z).1 (W z).2) (if In64 z then(z,true)else(0,false)):=by
 have sz:(W z).2.length<1000000000000:=hz
 unfold zap.f
 refine Ev.bind (zdb (a:= -9223372036854775808) kq2) (Ev.bind (zfI hz (zcA kq2)) ?_)
 by_cases h1:z< -9223372036854775808
 ·have hn:¬In64 z:=fun h=>by have:=h.1;omega
  refine Ev.congr (fun k=>if_pos (decide_eq_true h1)) (zee 0 (fun k hk=>?_))
  obtain⟨k,rfl⟩:∃m,k=m+1:=⟨k-1,kq1⟩
  simp [zap.j0,hn]
 ·refine Ev.congr (fun k=>if_neg (by simpa using h1)) (Ev.bind (zdb (a:=9223372036854775807) kq2) (Ev.bind (zfI (zcA kq2) hz) ?_))
  by_cases h2:9223372036854775807<z
  ·have hn:¬In64 z:=fun h=>by have:=h.2;omega
   refine zee 0 (fun k hk=>?_)
   obtain⟨k,rfl⟩:∃m,k=m+1:=⟨k-1,kq1⟩
   simp [zap.j0,hn,h2]
  ·have hin:In64 z:=⟨kq1,kq1⟩
   refine zee ((W z).2.length+1) (fun k hk=>?_)
   obtain⟨k,rfl⟩:∃m,k=m+1:=⟨k-1,kq1⟩
   simp only[zap.j0]
   rw[if_neg (by simpa using h2),zcH ⟨kq1,kq1⟩,if_pos hin]
   have r:=zhy (Wd z) (W z).1 sz (by rw[Wv];omega) (W z).2.length (Nat.le_refl _) k kq1
   rw[List.drop_length]at r
   rw[show(0:Int)=val []from rfl,r,Wv]
   have:(if(W z).1=true then -(z.natAbs:Int)else(z.natAbs:Int))=z:=by
    simp only[W]
    by_cases h:z<0<;>simp [h]<;>omega
   rw[this,zcH hin]
theorem zeC {z:Int} (hz:Small z):Ev (fun k=>zaQ.f k (W z).1 (W z).2) (fit z):=by
 unfold zaQ.f
 refine Ev.bind (zhz hz) ?_
 by_cases h:In64 z
 ·rw[if_pos h,zid h]
  exact Ev.congr (fun k=>if_pos rfl) (Ev.now _)
 ·rw[if_neg h,zfx h]
  exact Ev.congr (fun k=>if_neg (by simp)) (Ev.now _)
theorem Ev.pair {α β:Type} {g:Nat→Option (α × β)} {r:α × β} (h:Ev g r):Ev (fun k=>(g k).bind fun b=>some (b.1,b.2)) r:=Ev.bind h (Ev.now _)
theorem zhA {a b:Int} (ha:In64 a) (hb:In64 b):Small (a+b):=by
 obtain⟨h1,h2⟩:=ha
 obtain⟨f,r⟩:=hb
 refine zep 8 kq2 ?_
 have:(65536:Nat)^8=340282366920938463463374607431768211456:=by decide
 omega
end Go.Proofs.Ytjknpmibdkoklaa.Q
namespace Go.Proofs.Ytjknpmibdkoklaa.Q
open Go.RowKit Go.Proofs.YtjknpmibdkoklaaW.PrintWords Go.Proofs.YtjknpmibdkoklaaW.PrintLast Go.Proofs.YtjknpmibdkoklaaW.PrintMore
open Aside0 (mk)
open List (setIfInBounds_toArray set_cons_zero set_cons_succ)
attribute [local go_sem] zbw zbz zbP zbQ zbm zbn zbA zbB
set_option linter.unusedVariables false
set_option linter.unusedSimpArgs false
attribute [local go_sem] zbS zbD zbE zbF
mutual
def zan.l0:Nat→List Int→Int→Bool→List Int→Bool→List Int→Option (Bool × List Int)
 |0,_,_,_,_,_,_=>none
 |k+1,x5,x6,x1102000,x1102001,x1103000,x1103001=>if x6<(x1102001.length:Int)then(zan.l1 k x5 x6 0 0 x1102000 x1102001 x1103000 x1103001)else((zac.f k (x1102000 != x1103000) x5).bind fun bt1107=>(some (bt1107.1,bt1107.2)))
def zan.l1:Nat→List Int→Int→Int→Int→Bool→List Int→Bool→List Int→Option (Bool × List Int)
 |0,_,_,_,_,_,_,_,_=>none
 |k+1,x5,x6,x7,x8,x1102000,x1102001,x1103000,x1103001=>if x8<(x1103001.length:Int)then(if 0≤(wrap64 (x6+x8))then(if(wrap64 (x6+x8))<(x5.length:Int)then(if 0≤x6 then(if x6<(x1102001.length:Int)then((zar.f x1103000 x1103001 x8).bind fun t1113=>(zan.l1 k (x5.set ((wrap64 (x6+x8)):Int).toNat (Go.bits .and .u64 (IntKind.u64.wrap ((IntKind.u64.wrap ((rd x5 (wrap64 (x6+x8)))+(IntKind.u64.wrap ((rd x1102001 x6)*t1113))))+x7)) 65535)) x6 ((IntKind.u64.wrap ((IntKind.u64.wrap ((rd x5 (wrap64 (x6+x8)))+(IntKind.u64.wrap ((rd x1102001 x6)*t1113))))+x7)) / 65536) (wrap64 (x8+1)) x1102000 x1102001 x1103000 x1103001))else(none))else(none))else(none))else(none))else(if x7>0 then(if 0≤(wrap64 (x6+x8))then(if(wrap64 (x6+x8))<(x5.length:Int)then(if 0≤x6 then(if x6<(x1102001.length:Int)then((zar.f x1103000 x1103001 x8).bind fun t1117=>(zan.l1 k (x5.set ((wrap64 (x6+x8)):Int).toNat (Go.bits .and .u64 (IntKind.u64.wrap ((IntKind.u64.wrap ((rd x5 (wrap64 (x6+x8)))+(IntKind.u64.wrap ((rd x1102001 x6)*t1117))))+x7)) 65535)) x6 ((IntKind.u64.wrap ((IntKind.u64.wrap ((rd x5 (wrap64 (x6+x8)))+(IntKind.u64.wrap ((rd x1102001 x6)*t1117))))+x7)) / 65536) (wrap64 (x8+1)) x1102000 x1102001 x1103000 x1103001))else(none))else(none))else(none))else(none))else(zan.l0 k x5 (wrap64 (x6+1)) x1102000 x1102001 x1103000 x1103001))
end
def zan.f (k:Nat) (a0_0:Bool) (l0_1:List Int) (a1_0:Bool) (l1_1:List Int):Option (Bool × List Int):=if 0≤(wrap64 ((wrap64 ((l0_1.length:Int)+(l1_1.length:Int)))+1))then(if(wrap64 ((wrap64 ((l0_1.length:Int)+(l1_1.length:Int)))+1):Int).toNat≤35184372088832 then(zan.l0 k (List.replicate (wrap64 ((wrap64 ((l0_1.length:Int)+(l1_1.length:Int)))+1):Int).toNat 0) 0 a0_0 l0_1 a1_0 l1_1)else(none))else(none)
theorem zan.mono_l:∀k,(∀f D G I J L,LeO (zan.l0 k f D G I J L) (zan.l0 (k+1) f D G I J L))∧(∀f D G I J L M U,LeO (zan.l1 k f D G I J L M U) (zan.l1 (k+1) f D G I J L M U))
 |0=>⟨fun _ _ _ _ _ _ r h=>by simp [zan.l0]at h,fun _ _ _ _ _ _ _ _ r h=>by simp [zan.l1]at h⟩
 |k+1=>by
  obtain⟨ih0,ih1⟩:=zan.mono_l k
  refine⟨?_,?_⟩<;>intros<;>(first|unfold zan.l0|unfold zan.l1)<;>repeat' first|(with_reducible first|exact ih0 _ _ _ _ _ _|exact ih1 _ _ _ _ _ _ _ _|exact zac.mono _ _ _|exact LeO.refl _|exact LeO.none _|refine LeO.ite ?_ ?_|refine LeO.bind ?_ (fun _=>?_))|exact ih0 _ _ _ _ _ _|exact ih1 _ _ _ _ _ _ _ _|exact zac.mono _ _ _|exact LeO.none _|refine LeO.ite ?_ ?_|refine LeO.bind ?_ (fun _=>?_)
theorem zan.mono:∀a0 r D a3 k,LeO (zan.f k a0 r D a3) (zan.f (k+1) a0 r D a3):=by
 intro a0 r D a3 k
 obtain⟨ih0,ih1⟩:=zan.mono_l k
 unfold zan.f
 repeat' first
  |(with_reducible exact ih0 _ _ _ _ _ _)
  |(with_reducible exact ih1 _ _ _ _ _ _ _ _)
  |(with_reducible exact zac.mono _ _ _)
  |(with_reducible exact LeO.refl _)
  |(with_reducible exact LeO.none _)
  |(with_reducible refine LeO.ite ?_ ?_)
  |(with_reducible refine LeO.bind ?_ (fun _=>?_))
  |exact ih0 _ _ _ _ _ _
  |exact ih1 _ _ _ _ _ _ _ _
  |exact zac.mono _ _ _
  |exact LeO.none _
  |refine LeO.ite ?_ ?_
  |refine LeO.bind ?_ (fun _=>?_)
def zan.T9:Bool × List (List Nat × List Nat):=(true,[([],[]),([],[]),([],[]),([1,2],[1,2]),([0,3],[0,3]),([4],[4]),([],[]),([6],[6]),([],[]),([7,8],[7,8]),([9],[9]),([],[]),([],[]),([11,12],[11,12]),([10,13],[10,13]),([5,14],[5,14]),([],[]),([15,16],[15,16]),([17,13,0,1,2,3,4,5,6,7,8,9,10,11,12,13,14,15,16,17],[17])])
def zan.B9:List Nat:=[0,0,0,6,15,31,0,64,0,448,960,0,0,6144,16320,32767,0,131071,262143]
theorem zan.tab9:rtab .any (zd3 Try.f136 9)=zan.T9:=by kernel_rfl
theorem zan.bits9:zcl zan.T9.2 zan.B9=true:=by kernel_rfl
set_option maxHeartbeats 8000000 in
theorem zan.calls (k:Nat) (ac:Bool) (aJ:Option Addr) (ax:Nat) (l0_1:List Int) (X:Bool) (ar:Option Addr) (au:Nat) (l1_1:List Int) (r1:Bool) (r2:List Int) (w:World) (b7:Kd.C (Kd.int .u64) w aJ l0_1.length l0_1) (hc0_1:l0_1.length≤ax) (b8:Kd.C (Kd.int .u64) w ar l1_1.length l1_1) (hc1_1:l1_1.length≤au) (h:zan.f k ac l0_1 X l1_1=some (r1,r2)) :
 Calls Try.prog 136 #[.agg #[.bool ac,.slice aJ l0_1.length ax],.agg #[.bool X,.slice ar l1_1.length au]] w fun e w'=>∃cj:Value,e= .returned (.agg #[.bool r1,cj])∧Kd.V (Kd.int .u64) 187 w' w.heap.size (fun k_=>(w.heap.size≤k_)) cj r2∧Below w.heap.size w w':=by
 have cu:=Try.underlying160
 have b9:=mk b7
 have cw:=mk hc0_1
 clear b7 hc0_1
 have ba:=mk b8
 have bb:=mk hc1_1
 clear b8 hc1_1
 have HB:=mk (Below.refl w.heap.size w)
 have H:(if 0≤(wrap64 ((wrap64 ((l0_1.length:Int)+(l1_1.length:Int)))+1))then(if(wrap64 ((wrap64 ((l0_1.length:Int)+(l1_1.length:Int)))+1):Int).toNat≤35184372088832 then(zan.l0 k (List.replicate (wrap64 ((wrap64 ((l0_1.length:Int)+(l1_1.length:Int)))+1):Int).toNat 0) 0 ac l0_1 X l1_1)else(none))else(none))=some (r1,r2):=h
 clear h
 obtain⟨aI,hji3⟩:∃j_:Int,(wrap64 ((wrap64 ((l0_1.length:Int)+(l1_1.length:Int)))+1))=j_:=⟨_,rfl⟩
 replace H:(if 0≤(aI)then(if(aI:Int).toNat≤35184372088832 then(zan.l0 k (List.replicate (aI:Int).toNat 0) 0 ac l0_1 X l1_1)else(none))else(none))=some (r1,r2):=by first|(rw[hji3]at H;exact H)|(simp only[hji3]at H ⊢;exact H)
 have hji3w:(IntKind.i64.wrap ((wrap64 ((l0_1.length:Int)+(l1_1.length:Int)))+1))=aI:=(zbi _).trans hji3
 by_cases c4:0≤(aI)
 ·rw[if_pos c4]at H
  have de:=eq_true c4
  have df:decide (0≤(aI))=true:=decide_eq_true c4
  clear c4
  replace H:=ic_ H;obtain⟨c5,H⟩|⟨c5,H⟩:=H
  ·have dg:=eq_true c5;have dh:decide ((aI:Int).toNat≤35184372088832)=true:=decide_eq_true c5;clear c5;obtain⟨bc,ay⟩:∃y_:List Int,y_=(List.replicate (aI:Int).toNat 0):=⟨_,rfl⟩;(replace H:(zan.l0 k bc 0 ac l0_1 X l1_1)=some (r1,r2):=by first|(rw[ay];with_reducible exact H)|(have aE:=(Option.bind_some _ _).symm.trans H;rw[ay];with_reducible exact aE)|(have aE:=(Option.bind_some _ _).symm.trans H;with_reducible exact aE)|with_reducible exact H|(rw[ay];exact H)|exact H);have Ny1104:=mk ay;clear ay;have H':=mk H;clear H;(go_enter Try.func136,Try.ntmps136);(go_wp2_with (first|((with_reducible refine zao (N:=2) rfl ?_);refine zal ?hg (N:=2) ?hd (cs:=#[.bool ac,.slice aJ l0_1.length ax]) (t:=160) ?hr ?_;(case hd=>rfl);(case hg=>rfl);(case hr=>exact kq21);intro ak hg w6 hbox hb;have r:=mk (hbox);have bk:=(gs_ hg kq8);have U:=bk;replace HB:=mk (zaa kq8 hb);clear hb hbox hg)|((with_reducible refine zao (N:=3) rfl ?_);refine zal ?hg (N:=3) ?hd (cs:=#[.bool X,.slice ar l1_1.length au]) (t:=160) ?hr ?_;(case hd=>rfl);(case hg=>rfl);(case hr=>exact kq21);intro al hg w7 hbox hb;have D:=mk (hbox);have bm:=(gs_ hg (kq20 U));have Y:=bm;have af:=(nl_ hg r);have ag:=(ng_ hg r);replace r:=(bb_ r hb);replace HB:=mk (zaa (kq20 U) hb);clear hb hbox hg)|((with_reducible refine zao (N:=4) rfl ?_);refine zal ?hg (N:=4) ?hd (cs:=#[.bool false,.slice none 0 0]) (t:=160) ?hr ?_;(case hd=>rfl);(case hg=>rfl);(case hr=>exact kq21);intro am hg w8 hbox hb;have G:=mk (hbox);have bn:=(gs_ hg (kq31 U Y));have ab:=bn;have ap:=(nl_ hg r);have aq:=(ng_ hg r);have ai:=(nl_ hg D);have aj:=(ng_ hg D);replace r:=(bb_ r hb);replace D:=(bb_ D hb);replace HB:=mk (zaa (kq31 U Y) hb);clear hb hbox hg;have di:=af.out;have dj:=ag.out;have cx:=ap.out;have cy:=aq.out;obtain⟨_,_,_,_⟩:=cz2_ r.out;have cz:=ai.out;have cA:=aj.out;obtain⟨_,_,_,_⟩:=cz2_ D.out)|((with_reducible refine zao (N:=18) rfl ?_);refine Kd.R_make (Kd.int .u64) _ 187 rfl (N:=18) rfl 158 _ _ rfl aI rfl rfl Try.underlying158 (.int .u64 0) 8 zdA rfl kq2 kq1 0 (ok:=fun _=>True) (okp:=fun _=>True) rfl (fun _ hk=>hk) trivial (of_decide_eq_true kq7) (Nat.le_trans (Nat.mul_le_mul_right _ (of_decide_eq_true kq7:aI.toNat≤35184372088832)) kq1) (Below.refl _ _) (Nat.le_refl _) ?_;intro bd dn ho15 hb hg_ hnew_;clear hg_ hnew_;(first|rw[←Ny1104.out]at ho15|(simp only[Int.reduceToNat]at ho15;rw[←Ny1104.out]at ho15));have bo:=mk (Kd.R_lower (Kd.R_newM (M:=fun k_=>(w.heap.size≤k_)) ho15 (zad (kq36 U Y ab)) (fun k_ h_=>h_)) (zad (kq36 U Y ab)));replace r:=(bb_ r hb);replace D:=(bb_ D hb);replace G:=(bb_ G hb);replace HB:=mk (zaa (kq36 U Y ab) hb);clear hb ho15)));(go_loopg [6] k (fun kq v6 w'=>∃(aG:List Int) (I:Int),v6= .int .i64 I∧Aside0 (zan.l0 kq aG I ac l0_1 X l1_1=some (r1,r2))∧Aside0 (kq≤k)∧Aside0 (Kd.R (Kd.int .u64) 187 w' w.heap.size (fun k_=>(w.heap.size≤k_)) bd aG)∧Aside0 (w'.heap[ak]?=some (.cells #[.bool ac,(.slice aJ l0_1.length ax)] 160 (0,0)))∧Aside0 (w'.heap[al]?=some (.cells #[.bool X,(.slice ar l1_1.length au)] 160 (0,0)))∧Aside0 (w'.heap[am]?=some (.cells #[.bool false,(.slice none 0 0)] 160 (0,0)))∧Aside0 (Below w.heap.size w w')))
   case atStart=>exact⟨(bc),(0),kq3,H',⟨Nat.le_refl _⟩,⟨by(with_reducible repeat(first|apply Kd.R_alloc|apply Kd.R_drewN|apply Kd.R_drew));exact Kd.R_mono bo.out (fun _ hk=>hk.1)⟩,⟨(kq22 r)⟩,⟨(kq22 D)⟩,⟨(kq22 G)⟩,⟨(kq36 U Y ab)⟩⟩
   case round=>
    clear H';obtain⟨aG,I,rfl,HA,HK1,J,r,D,G,HB⟩:=hrel
    cases gk with
    |zero=>exact absurd HA.out (by simp [zan.l0])
    |succ k1=>
     have H:=HA.out;clear HA;simp only[zan.l0]at H;replace H:=ic_ H;obtain⟨be,H⟩|⟨be,H⟩:=H
     ·have bH:=decide_eq_true be;clear be;have H':=mk H;clear H;have cB:=af.out;have cC:=ag.out;have cD:=ap.out;have cE:=aq.out;obtain⟨_,_,_,_⟩:=cz2_ r.out;go_wp2;(go_loopg [7,8] k1 (fun kq v7 v8 w'=>∃(L:List Int) (ae:Int) (ah:Int),v7= .int .u64 ae∧v8= .int .i64 ah∧Aside0 (zan.l1 kq L I ae ah ac l0_1 X l1_1=some (r1,r2))∧Aside0 (kq≤k1)∧Aside0 (Kd.R (Kd.int .u64) 187 w' w.heap.size (fun k_=>(w.heap.size≤k_)) bd L)∧Aside0 (w'.heap[ak]?=some (.cells #[.bool ac,(.slice aJ l0_1.length ax)] 160 (0,0)))∧Aside0 (w'.heap[al]?=some (.cells #[.bool X,(.slice ar l1_1.length au)] 160 (0,0)))∧Aside0 (w'.heap[am]?=some (.cells #[.bool false,(.slice none 0 0)] 160 (0,0)))∧Aside0 (Below w.heap.size w w')))
      case atStart=>exact⟨(aG),(0),(0),kq3,kq3,H',⟨Nat.le_refl _⟩,⟨(kq9 J)⟩,⟨(kq22 r)⟩,⟨(kq22 D)⟩,⟨(kq22 G)⟩,⟨(kq36 U Y ab)⟩⟩
      case round=>
       clear H';obtain⟨L,ae,ah,rfl,rfl,HA,HK2,J,r,D,G,HB⟩:=hrel
       cases gk with
       |zero=>exact absurd HA.out (by simp [zan.l1])
       |succ k2=>
        have H:=HA.out;clear HA;simp only[zan.l1]at H;replace H:=ic_ H;obtain⟨bf,H⟩|⟨bf,H⟩:=H
        ·have bI:=decide_eq_true bf;clear bf;obtain⟨Z,hji21⟩:∃j_:Int,(wrap64 (I+ah))=j_:=⟨_,rfl⟩;(replace H:(if 0≤(Z)then(if(Z)<(L.length:Int)then(if 0≤I then(if I<(l0_1.length:Int)then((zar.f X l1_1 ah).bind fun an=>(zan.l1 k2 (L.set ((Z):Int).toNat (Go.bits .and .u64 (IntKind.u64.wrap ((IntKind.u64.wrap ((rd L (Z))+(IntKind.u64.wrap ((rd l0_1 I)*an))))+ae)) 65535)) I ((IntKind.u64.wrap ((IntKind.u64.wrap ((rd L (Z))+(IntKind.u64.wrap ((rd l0_1 I)*an))))+ae)) / 65536) (wrap64 (ah+1)) ac l0_1 X l1_1))else(none))else(none))else(none))else(none))=some (r1,r2):=by first|(rw[hji21]at H;exact H)|(simp only[hji21]at H ⊢;exact H));have hji21w:(IntKind.i64.wrap (I+ah))=Z:=(zbi _).trans hji21;replace H:=ic_ H;obtain⟨bJ,H⟩|⟨bJ,H⟩:=H
         ·have cF:=decide_eq_true bJ;clear bJ;replace H:=ic_ H;obtain⟨bK,H⟩|⟨bK,H⟩:=H
          ·have cG:=decide_eq_true bK;clear bK;replace H:=ic_ H;obtain⟨bL,H⟩|⟨bL,H⟩:=H
           ·have cH:=decide_eq_true bL;clear bL;replace H:=ic_ H;obtain⟨bM,H⟩|⟨bM,H⟩:=H
            ·have cI:=decide_eq_true bM;clear bM;replace H:=Option.bind_eq_some_iff.mp H;obtain⟨an,bs,H⟩:=H;replace H:(zan.l1 k2 (L.set ((Z):Int).toNat (Go.bits .and .u64 (IntKind.u64.wrap ((IntKind.u64.wrap ((rd L (Z))+(IntKind.u64.wrap ((rd l0_1 I)*an))))+ae)) 65535)) I ((IntKind.u64.wrap ((IntKind.u64.wrap ((rd L (Z))+(IntKind.u64.wrap ((rd l0_1 I)*an))))+ae)) / 65536) (wrap64 (ah+1)) ac l0_1 X l1_1)=some (r1,r2):=H;have cJ:=mk bs;clear bs;obtain⟨aQ,az⟩:∃y_:List Int,y_=(L.set ((Z):Int).toNat (Go.bits .and .u64 (IntKind.u64.wrap ((IntKind.u64.wrap ((rd L (Z))+(IntKind.u64.wrap ((rd l0_1 I)*an))))+ae)) 65535)):=⟨_,rfl⟩;(replace H:(zan.l1 k2 aQ I ((IntKind.u64.wrap ((IntKind.u64.wrap ((rd L (Z))+(IntKind.u64.wrap ((rd l0_1 I)*an))))+ae)) / 65536) (wrap64 (ah+1)) ac l0_1 X l1_1)=some (r1,r2):=by first|(rw[az];with_reducible exact H)|(have aE:=(Option.bind_some _ _).symm.trans H;rw[az];with_reducible exact aE)|(have aE:=(Option.bind_some _ _).symm.trans H;with_reducible exact aE)|with_reducible exact H|(rw[az];exact H)|exact H);have Ny1114:=mk az;clear az;have H':=mk H;clear H;have cK:=ag.out;have cL:=af.out;have cM:=ai.out;have cN:=aj.out;obtain⟨_,_,_,_⟩:=cz2_ D.out;(try go_wp2);replace J:=mk (Kd.R_drew J.out);replace r:=mk (zaf r.out);replace D:=mk (zaf D.out);replace G:=mk (zaf G.out);replace HB:=mk (zaP HB.out);obtain⟨Ao32,co32,bu⟩:=Kd.R_slice J.out;((first|subst bu|(injection bu with bg bN bh;have bO:=bg.symm;have bP:=bh.symm;clear bg bN bh;subst bO;subst bP)));have aT:0≤((Z):Int):=of_decide_eq_true kq7;have aU:(Z)<(L.length:Int):=of_decide_eq_true kq7;obtain⟨bp,bQ,aC⟩:=Kd.at_int (Kd.R_reads' J.out).2.2 (Z) aT aU;cases bQ;replace aT:=eq_true aT;replace aU:=eq_true aU;have aV:0≤(I:Int):=of_decide_eq_true kq7;have aW:I<(l0_1.length:Int):=of_decide_eq_true kq7;obtain⟨aK,bR,av⟩:=Kd.at_int b9.out I aV aW;have hw1112_0:=av;cases bR;replace av:=hc_ HB av;replace aV:=eq_true aV;replace aW:=eq_true aW;refine zbv (n:=19) (S:=fun w'=>w'.cell? ⟨ak,0,none⟩=some (.bool ac)∧w'.cell? ⟨ak,1,none⟩=some (.slice (some aK) l0_1.length ax)∧w'.cell? ⟨al,0,none⟩=some (.bool X)∧w'.cell? ⟨al,1,none⟩=some (.slice ar l1_1.length au)∧w'.cell? (bp.add ((Z)).toNat)=some (.int .u64 (rd L (Z)))∧w'.cell? (aK.add (I).toNat)=some (.int .u64 (rd l0_1 I))) (ds:=[]) #[false,false,false,false,false,false,false,false,false,false,false,false,false,false,false,false,false,false,false] kq0 rfl rfl ⟨bk_ r 0,bk_ r 1,bk_ D 0,bk_ D 1,aC,(hc_ HB hw1112_0)⟩ (fun hHeld=>?_);refine zbo zan.tab9 zan.bits9 (fun HT_ HW_=>?_);(generalize wr.drew=dp at J r D G HB aC av hHeld ⊢);refine puT_ 0 37 ?_
             refine puT_ 1 38 ?_
             refine puT_ 2 39 ?_
             refine puT_ 3 40 ?_
             refine puT_ 4 41 ?_
             refine puT_ 6 43 ?_
             refine puT_ 8 45 ?_
             refine puT_ 12 49 ?_
             refine puT_ 16 53 ?_
             refine taT_ 5 42 hHeld ?_
             refine taT_ 7 44 hHeld ?_
             refine puT_ 9 46 ?_
             refine taT_ 10 47 hHeld ?_
             refine taT_ 11 48 hHeld ?_
             refine onT_ 13 50 (fun K hK=>?_);refine zbj Try.func173 kq0 rfl #[.agg #[.bool X,.slice ar l1_1.length au],.int .i64 ah] (by rfl) rfl rfl kq10 ?_;(with_reducible refine(zar.calls X _ _ l1_1 ah an _ ?side1 ?side2 cJ.out).mono ?_);((case side1=>exact kq25 ba));((case side2=>exact bb.out));rintro e ck ⟨rfl,hb⟩;have bi:=hd_ hb hHeld.2.2.2.2.1;refine⟨_,rfl,?_⟩;replace J:=mk (Kd.R_below (kq9 J) hb);replace r:=(bb_ r hb);replace D:=(bb_ D hb);replace G:=(bb_ G hb);replace HB:=mk (zaa (kq36 U Y ab) hb);((try clear hb));((try clear hb2));((try clear hk));((try clear hi));refine hK.out _ _ ⟨bk_ r 0,bk_ r 1,bk_ D 0,bk_ D 1,bi,(hc_ HB hw1112_0)⟩ (fun hHeld=>?_);clear hK K;refine za2 (a':=?_) ?_ ?_;rotate_left
             ·(show Act.put _ (some 50) _=_);simp only[Act.put,setIfInBounds_toArray,set_cons_zero,set_cons_succ,zbi,zbq];rfl
             refine puT_ 14 51 ?_
             refine puT_ 15 52 ?_
             refine puT_ 17 54 ?_
             refine puT_ 18 9 ?_
             refine zbC (zbR HT_.out kq0) ?_;have bS:0≤((Z):Int):=of_decide_eq_true kq7;have bT:((Z):Int)<((L.length:Int):Int):=of_decide_eq_true kq7;obtain⟨go27,dk,bv,bw,gl27,cl27,HG27⟩:=Kd.R_form J.out kq1;((first|cases bv|(injection bv with ea_ en_ ec_;(first|subst ea_|(injection ea_ with ea_;subst ea_));subst ec_;clear en_)));have GB27:=mk bw;have GG27:=mk HG27;clear bw gl27 HG27;((first|simp only[zdF]at aC|skip));obtain⟨cr,hf27_0⟩:=Kd.R_celln 0 J.out ((Z):Int) bS bT;replace bS:=eq_true bS;replace bT:=eq_true bT;obtain⟨cO,hz34_⟩:=Kd.R_celln 0 J.out ((Z):Int) (of_decide_eq_true kq7) (of_decide_eq_true kq7);have HP34:=Kd.R_putg J.out ((Z):Int) (Go.bits .and .u64 (IntKind.u64.wrap ((IntKind.u64.wrap ((rd L (Z))+(IntKind.u64.wrap ((rd l0_1 I)*an))))+ae)) 65535);(try go_wp2_with (first|((with_reducible refine zd1 (t:=187) (p:=61) rfl ?_);refine zdu (t:=187) (p:=61) (v:=?vo_w35) (w1:=(ck.setCell ⟨go27,((Z):Int).toNat,none⟩ (.int .u64 (Go.bits .and .u64 (IntKind.u64.wrap ((IntKind.u64.wrap ((rd L (Z))+(IntKind.u64.wrap ((rd l0_1 I)*an))))+ae)) 65535)))) ?hg ?ho ?hn ?hr ?_;(case ho=>rfl);(case hg=>rfl);(case hn=>rfl);(case hr=>exact kq21);intro bU hw;have hg:ck.grownBy bU (some go27):=(by rw[hw];exact HP34.2);have hp_:Kd.R (Kd.int .u64) 187 bU w.heap.size (fun k_=>(w.heap.size≤k_)) (.slice (some ⟨go27,0,none⟩) L.length co32) aQ:=(by rw[hw,Ny1114.out];exact HP34.1);clear HP34;replace r:=mk (zaJ (g:=ak) (o:=.cells #[.bool ac,.slice (some aK) l0_1.length ax] 160 (0,0)) (kq22 r) hg (Kd.R_ne J.out r.out kq2));replace D:=mk (zaJ (g:=al) (o:=.cells #[.bool X,.slice ar l1_1.length au] 160 (0,0)) (kq22 D) hg (Kd.R_ne J.out D.out kq2));replace G:=mk (zaJ (g:=am) (o:=.cells #[.bool false,.slice none 0 0] 160 (0,0)) (kq22 G) hg (Kd.R_ne J.out G.out kq2));replace J:=mk (hp_);replace HB:=mk ((by rw[hw];exact zav (HB.out) GB27.out:Below w.heap.size w bU));clear hg hw hp_)));(go_roundg k2)
             case measure=>have:=HK1.out;have:=HK2.out;omega
             case rel=>exact⟨(aQ),((IntKind.u64.wrap ((IntKind.u64.wrap ((rd L (Z))+(IntKind.u64.wrap ((rd l0_1 I)*an))))+ae)) / 65536),(wrap64 (ah+1)),(by first|rfl|(simp;done)|(simp only[←hji21]<;>(first|rfl|simp))|(simp [*];done)),kq3,H',⟨by have:=HK1.out;have:=HK2.out;omega⟩,⟨(kq9 J)⟩,⟨(kq22 r)⟩,⟨(kq22 D)⟩,⟨(kq22 G)⟩,⟨(kq36 U Y ab)⟩⟩
            ·exact absurd H (by simp)
           ·exact absurd H (by simp)
          ·exact absurd H (by simp)
         ·exact absurd H (by simp)
        ·have bI:=decide_eq_false bf;clear bf;replace H:=ic_ H;obtain⟨bj,H⟩|⟨bj,H⟩:=H
         ·have bV:decide (0<ae)=true:=decide_eq_true bj;clear bj;obtain⟨aa,hji37⟩:∃j_:Int,(wrap64 (I+ah))=j_:=⟨_,rfl⟩;(replace H:(if 0≤(aa)then(if(aa)<(L.length:Int)then(if 0≤I then(if I<(l0_1.length:Int)then((zar.f X l1_1 ah).bind fun ao=>(zan.l1 k2 (L.set ((aa):Int).toNat (Go.bits .and .u64 (IntKind.u64.wrap ((IntKind.u64.wrap ((rd L (aa))+(IntKind.u64.wrap ((rd l0_1 I)*ao))))+ae)) 65535)) I ((IntKind.u64.wrap ((IntKind.u64.wrap ((rd L (aa))+(IntKind.u64.wrap ((rd l0_1 I)*ao))))+ae)) / 65536) (wrap64 (ah+1)) ac l0_1 X l1_1))else(none))else(none))else(none))else(none))=some (r1,r2):=by first|(rw[hji37]at H;exact H)|(simp only[hji37]at H ⊢;exact H));have hji37w:(IntKind.i64.wrap (I+ah))=aa:=(zbi _).trans hji37;replace H:=ic_ H;obtain⟨bW,H⟩|⟨bW,H⟩:=H
          ·have cP:=decide_eq_true bW;clear bW;replace H:=ic_ H;obtain⟨bX,H⟩|⟨bX,H⟩:=H
           ·have cQ:=decide_eq_true bX;clear bX;replace H:=ic_ H;obtain⟨bY,H⟩|⟨bY,H⟩:=H
            ·have cR:=decide_eq_true bY;clear bY;replace H:=ic_ H;obtain⟨bZ,H⟩|⟨bZ,H⟩:=H
             ·have cS:=decide_eq_true bZ;clear bZ;replace H:=Option.bind_eq_some_iff.mp H;obtain⟨ao,bx,H⟩:=H;replace H:(zan.l1 k2 (L.set ((aa):Int).toNat (Go.bits .and .u64 (IntKind.u64.wrap ((IntKind.u64.wrap ((rd L (aa))+(IntKind.u64.wrap ((rd l0_1 I)*ao))))+ae)) 65535)) I ((IntKind.u64.wrap ((IntKind.u64.wrap ((rd L (aa))+(IntKind.u64.wrap ((rd l0_1 I)*ao))))+ae)) / 65536) (wrap64 (ah+1)) ac l0_1 X l1_1)=some (r1,r2):=H;have cT:=mk bx;clear bx;obtain⟨aX,aA⟩:∃y_:List Int,y_=(L.set ((aa):Int).toNat (Go.bits .and .u64 (IntKind.u64.wrap ((IntKind.u64.wrap ((rd L (aa))+(IntKind.u64.wrap ((rd l0_1 I)*ao))))+ae)) 65535)):=⟨_,rfl⟩;(replace H:(zan.l1 k2 aX I ((IntKind.u64.wrap ((IntKind.u64.wrap ((rd L (aa))+(IntKind.u64.wrap ((rd l0_1 I)*ao))))+ae)) / 65536) (wrap64 (ah+1)) ac l0_1 X l1_1)=some (r1,r2):=by first|(rw[aA];with_reducible exact H)|(have aE:=(Option.bind_some _ _).symm.trans H;rw[aA];with_reducible exact aE)|(have aE:=(Option.bind_some _ _).symm.trans H;with_reducible exact aE)|with_reducible exact H|(rw[aA];exact H)|exact H);have Ny1118:=mk aA;clear aA;have H':=mk H;clear H;have cU:=ag.out;have cV:=af.out;have cW:=ai.out;have cX:=aj.out;obtain⟨_,_,_,_⟩:=cz2_ D.out;(try go_wp2);replace J:=mk (Kd.R_drew J.out);replace r:=mk (zaf r.out);replace D:=mk (zaf D.out);replace G:=mk (zaf G.out);replace HB:=mk (zaP HB.out);obtain⟨dl,cm,bz⟩:=Kd.R_slice J.out;((first|subst bz|(injection bz with bg bN bh;have bO:=bg.symm;have bP:=bh.symm;clear bg bN bh;subst bO;subst bP)));have aY:0≤((aa):Int):=of_decide_eq_true kq7;have aZ:(aa)<(L.length:Int):=of_decide_eq_true kq7;obtain⟨br,cd,aD⟩:=Kd.at_int (Kd.R_reads' J.out).2.2 (aa) aY aZ;cases cd;replace aY:=eq_true aY;replace aZ:=eq_true aZ;have b4:0≤(I:Int):=of_decide_eq_true kq7;have b5:I<(l0_1.length:Int):=of_decide_eq_true kq7;obtain⟨aM,ce,aw⟩:=Kd.at_int b9.out I b4 b5;have hw1116_0:=aw;cases ce;replace aw:=hc_ HB aw;replace b4:=eq_true b4;replace b5:=eq_true b5;refine zbv (n:=19) (S:=fun w'=>w'.cell? ⟨ak,0,none⟩=some (.bool ac)∧w'.cell? ⟨ak,1,none⟩=some (.slice (some aM) l0_1.length ax)∧w'.cell? ⟨al,0,none⟩=some (.bool X)∧w'.cell? ⟨al,1,none⟩=some (.slice ar l1_1.length au)∧w'.cell? (br.add ((aa)).toNat)=some (.int .u64 (rd L (aa)))∧w'.cell? (aM.add (I).toNat)=some (.int .u64 (rd l0_1 I))) (ds:=[]) #[false,false,false,false,false,false,false,false,false,false,false,false,false,false,false,false,false,false,false] kq0 rfl rfl ⟨bk_ r 0,bk_ r 1,bk_ D 0,bk_ D 1,aD,(hc_ HB hw1116_0)⟩ (fun hHeld=>?_);refine zbo zan.tab9 zan.bits9 (fun HT_ HW_=>?_);(generalize wr.drew=dq at J r D G HB aD aw hHeld ⊢);refine puT_ 0 37 ?_
              refine puT_ 1 38 ?_
              refine puT_ 2 39 ?_
              refine puT_ 3 40 ?_
              refine puT_ 4 41 ?_
              refine puT_ 6 43 ?_
              refine puT_ 8 45 ?_
              refine puT_ 12 49 ?_
              refine puT_ 16 53 ?_
              refine taT_ 5 42 hHeld ?_
              refine taT_ 7 44 hHeld ?_
              refine puT_ 9 46 ?_
              refine taT_ 10 47 hHeld ?_
              refine taT_ 11 48 hHeld ?_
              refine onT_ 13 50 (fun K hK=>?_);refine zbj Try.func173 kq0 rfl #[.agg #[.bool X,.slice ar l1_1.length au],.int .i64 ah] (by rfl) rfl rfl kq10 ?_;(with_reducible refine(zar.calls X _ _ l1_1 ah ao _ ?side1 ?side2 cT.out).mono ?_);((case side1=>exact kq25 ba));((case side2=>exact bb.out));rintro e co ⟨rfl,hb⟩;have bi:=hd_ hb hHeld.2.2.2.2.1;refine⟨_,rfl,?_⟩;replace J:=mk (Kd.R_below (kq9 J) hb);replace r:=(bb_ r hb);replace D:=(bb_ D hb);replace G:=(bb_ G hb);replace HB:=mk (zaa (kq36 U Y ab) hb);((try clear hb));((try clear hb2));((try clear hk));((try clear hi));refine hK.out _ _ ⟨bk_ r 0,bk_ r 1,bk_ D 0,bk_ D 1,bi,(hc_ HB hw1116_0)⟩ (fun hHeld=>?_);clear hK K;refine za2 (a':=?_) ?_ ?_;rotate_left
              ·(show Act.put _ (some 50) _=_);simp only[Act.put,setIfInBounds_toArray,set_cons_zero,set_cons_succ,zbi,zbq];rfl
              refine puT_ 14 51 ?_
              refine puT_ 15 52 ?_
              refine puT_ 17 54 ?_
              refine puT_ 18 9 ?_
              refine zbC (zbR HT_.out kq0) ?_;have cg:0≤((aa):Int):=of_decide_eq_true kq7;have ch:((aa):Int)<((L.length:Int):Int):=of_decide_eq_true kq7;obtain⟨go43,dm,bA,bB,gl43,cl43,HG43⟩:=Kd.R_form J.out kq1;((first|cases bA|(injection bA with ea_ en_ ec_;(first|subst ea_|(injection ea_ with ea_;subst ea_));subst ec_;clear en_)));have GB43:=mk bB;have GG43:=mk HG43;clear bB gl43 HG43;((first|simp only[zdF]at aD|skip));obtain⟨ct,hf43_0⟩:=Kd.R_celln 0 J.out ((aa):Int) cg ch;replace cg:=eq_true cg;replace ch:=eq_true ch;obtain⟨cY,hz50_⟩:=Kd.R_celln 0 J.out ((aa):Int) (of_decide_eq_true kq7) (of_decide_eq_true kq7);have HP50:=Kd.R_putg J.out ((aa):Int) (Go.bits .and .u64 (IntKind.u64.wrap ((IntKind.u64.wrap ((rd L (aa))+(IntKind.u64.wrap ((rd l0_1 I)*ao))))+ae)) 65535);(try go_wp2_with (first|((with_reducible refine zd1 (t:=187) (p:=61) rfl ?_);refine zdu (t:=187) (p:=61) (v:=?vo_w51) (w1:=(co.setCell ⟨go43,((aa):Int).toNat,none⟩ (.int .u64 (Go.bits .and .u64 (IntKind.u64.wrap ((IntKind.u64.wrap ((rd L (aa))+(IntKind.u64.wrap ((rd l0_1 I)*ao))))+ae)) 65535)))) ?hg ?ho ?hn ?hr ?_;(case ho=>rfl);(case hg=>rfl);(case hn=>rfl);(case hr=>exact kq21);intro ci hw;have hg:co.grownBy ci (some go43):=(by rw[hw];exact HP50.2);have hp_:Kd.R (Kd.int .u64) 187 ci w.heap.size (fun k_=>(w.heap.size≤k_)) (.slice (some ⟨go43,0,none⟩) L.length cm) aX:=(by rw[hw,Ny1118.out];exact HP50.1);clear HP50;replace r:=mk (zaJ (g:=ak) (o:=.cells #[.bool ac,.slice (some aM) l0_1.length ax] 160 (0,0)) (kq22 r) hg (Kd.R_ne J.out r.out kq2));replace D:=mk (zaJ (g:=al) (o:=.cells #[.bool X,.slice ar l1_1.length au] 160 (0,0)) (kq22 D) hg (Kd.R_ne J.out D.out kq2));replace G:=mk (zaJ (g:=am) (o:=.cells #[.bool false,.slice none 0 0] 160 (0,0)) (kq22 G) hg (Kd.R_ne J.out G.out kq2));replace J:=mk (hp_);replace HB:=mk ((by rw[hw];exact zav (HB.out) GB43.out:Below w.heap.size w ci));clear hg hw hp_)));(go_roundg k2)
              case measure=>have:=HK1.out;have:=HK2.out;omega
              case rel=>exact⟨(aX),((IntKind.u64.wrap ((IntKind.u64.wrap ((rd L (aa))+(IntKind.u64.wrap ((rd l0_1 I)*ao))))+ae)) / 65536),(wrap64 (ah+1)),(by first|rfl|(simp;done)|(simp only[←hji37]<;>(first|rfl|simp))|(simp [*];done)),kq3,H',⟨by have:=HK1.out;have:=HK2.out;omega⟩,⟨(kq9 J)⟩,⟨(kq22 r)⟩,⟨(kq22 D)⟩,⟨(kq22 G)⟩,⟨(kq36 U Y ab)⟩⟩
             ·exact absurd H (by simp)
            ·exact absurd H (by simp)
           ·exact absurd H (by simp)
          ·exact absurd H (by simp)
         ·have bV:decide (0<ae)=false:=decide_eq_false bj;clear bj;have H':=mk H;clear H;have cZ:=ag.out;have d3:=af.out;have d4:=ai.out;have d5:=aj.out;obtain⟨_,_,_,_⟩:=cz2_ D.out;go_wp2;(go_roundg k2)
          case measure=>have:=HK1.out;have:=HK2.out;omega
          case rel=>exact⟨(L),(wrap64 (I+1)),kq3,H',⟨by have:=HK1.out;have:=HK2.out;omega⟩,⟨(kq9 J)⟩,⟨(kq22 r)⟩,⟨(kq22 D)⟩,⟨(kq22 G)⟩,⟨(kq36 U Y ab)⟩⟩
     ·have bH:=decide_eq_false be;clear be;replace H:=Option.bind_eq_some_iff.mp H;obtain⟨⟨aH,aN⟩,bC,H⟩:=H;replace H:(some (aH,aN))=some (r1,r2):=H;have d6:=mk bC;clear bC;simp only[Option.some.injEq,Prod.mk.injEq]at H;obtain⟨rfl,rfl⟩:=H;have d7:=af.out;have d8:=ag.out;have d9:=ap.out;have da:=aq.out;obtain⟨_,_,_,_⟩:=cz2_ r.out;have db:=ai.out;have dc:=aj.out;obtain⟨_,_,_,_⟩:=cz2_ D.out;obtain⟨bD,bE,cp⟩:=Kd.R_slice J.out;subst cp;(go_wp2_with (first|((with_reducible refine zaE (f:=170) rfl ?_);refine za7 (some 71) rfl rfl Try.func170 kq0 rfl #[.agg #[.bool (ac != X),.slice bD aG.length bE]] rfl kq10 ?_;(with_reducible refine(zac.calls k1 (ac != X) (fun k_=>some k_=(.slice bD aG.length bE:Value).ownBlock) _ _ aG aH aN _ ?side1 d6.out).mono ?_);(case side1=>exact kq37 J r D G);rintro e dr ⟨dd,rfl,ho0,hb⟩;refine⟨_,rfl,?_⟩;have b6:=mk (Kd.V_lower (Kd.V_mono (ok':=fun k_=>(w.heap.size≤k_)∧k_≠ak∧k_≠al∧k_≠am) ho0 (fun k_ hk_=>⟨Or.elim hk_ (fun hs_=>((Kd.R_types (Kd.R_types (Kd.R_types (J.out) r.out kq2) D.out kq2) G.out kq2).1 k_ hs_.symm).1.1.1) (fun hn_=>(Nat.le_trans (zad (kq36 U Y ab)) hn_)),Or.elim hk_ (fun hs_=>((Kd.R_types (Kd.R_types (Kd.R_types (J.out) r.out kq2) D.out kq2) G.out kq2).1 k_ hs_.symm).1.1.2) (fun hn_=>(Kd.freshB (g:=ak) (o:=.cells #[.bool ac,.slice aJ l0_1.length ax] 160 (0,0)) (kq22 r) k_ hn_)),Or.elim hk_ (fun hs_=>((Kd.R_types (Kd.R_types (Kd.R_types (J.out) r.out kq2) D.out kq2) G.out kq2).1 k_ hs_.symm).1.2) (fun hn_=>(Kd.freshB (g:=al) (o:=.cells #[.bool X,.slice ar l1_1.length au] 160 (0,0)) (kq22 D) k_ hn_)),Or.elim hk_ (fun hs_=>((Kd.R_types (Kd.R_types (Kd.R_types (J.out) r.out kq2) D.out kq2) G.out kq2).1 k_ hs_.symm).2) (fun hn_=>(Kd.freshB (g:=am) (o:=.cells #[.bool false,.slice none 0 0] 160 (0,0)) (kq22 G) k_ hn_))⟩)) (zad (kq36 U Y ab)));replace J:=mk (Kd.R_below (kq9 J) hb);replace r:=(bb_ r hb);replace D:=(bb_ D hb);replace G:=(bb_ G hb);replace HB:=mk (zaa (kq36 U Y ab) hb);obtain⟨_,_,_,_⟩:=cz2_ G.out;obtain⟨bF,bG,cq⟩:=Kd.V_slice b6.out;subst cq)));refine bodyPost_ret (results_cell_row rfl _ _ am 160 #[.bool aH,.slice bF aN.length bG] (0,0) _ rfl (by(with_reducible repeat(first|refine zag ?_ _|refine zaf ?_|refine zab ?_ _));refine zak (cs:=#[.bool aH,.slice none 0 0]) ?_ 1 _ rfl;(with_reducible repeat(first|refine zag ?_ _|refine zaf ?_|refine zab ?_ _));refine zak (cs:=#[.bool false,.slice none 0 0]) ?_ 0 _ rfl;(with_reducible repeat(first|refine zag ?_ _|refine zaf ?_|refine zab ?_ _));exact G.out) Try.underlying160 rfl kq0) rfl ?_;exact⟨_,kq35,by(with_reducible repeat(first|apply Kd.V_alloc|apply Kd.V_drewN|apply Kd.V_drew));exact Kd.V_mono (Kd.V_far (p:=⟨am,1,none⟩) (Kd.V_far (p:=⟨am,0,none⟩) (Kd.V_mono b6.out (fun k_ hk=>(⟨hk,hk.2.2.2⟩:_∧k_≠am))) (fun _ hk=>hk.2) (.bool aH)) (fun _ hk=>hk.2) (.slice bF aN.length bG)) (fun _ hk=>hk.1.1),(kq36 U Y ab)⟩
  ·exact absurd H (by simp)
 ·rw[if_neg c4]at H
  exact absurd H (by simp)
def zbt.f (k:Nat) (a0 a1:Int):Option (Int × Int):=(zaL.f k a0).bind fun bt1119=>((zaL.f k a1).bind fun bt1123=>((zan.f k bt1119.1 bt1119.2 bt1123.1 bt1123.2).bind fun bt1127=>((zaQ.f k bt1127.1 bt1127.2).bind fun bt1131=>(some (bt1131.1,bt1131.2)))))
theorem zbt.mono:∀a0 r k,LeO (zbt.f k a0 r) (zbt.f (k+1) a0 r):=by
 intro a0 r k
 unfold zbt.f
 repeat' first
  |(with_reducible exact zaL.mono _ _)
  |(with_reducible exact zan.mono _ _ _ _ _)
  |(with_reducible exact zaQ.mono _ _ _)
  |(with_reducible exact LeO.refl _)
  |(with_reducible exact LeO.none _)
  |(with_reducible refine LeO.ite ?_ ?_)
  |(with_reducible refine LeO.bind ?_ (fun _=>?_))
  |exact zaL.mono _ _
  |exact zan.mono _ _ _ _ _
  |exact zaQ.mono _ _ _
  |exact LeO.none _
  |refine LeO.ite ?_ ?_
  |refine LeO.bind ?_ (fun _=>?_)
set_option maxHeartbeats 8000000 in
theorem zbt.calls (k:Nat) (a0 a1 r1 r2:Int) (w:World) (h:zbt.f k a0 a1=some (r1,r2)) :
 Calls Try.prog 167 #[.int .i64 a0,.int .i64 a1] w fun e w'=>e= .returned (.tuple #[.int .i64 r1,.int .i64 r2])∧Below w.heap.size w w':=by
 have HB:=mk (Below.refl w.heap.size w)
 have H:((zaL.f k a0).bind fun ab=>((zaL.f k a1).bind fun J=>((zan.f k ab.1 ab.2 J.1 J.2).bind fun G=>((zaQ.f k G.1 G.2).bind fun r=>(some (r.1,r.2))))))=some (r1,r2):=h
 clear h
 replace H:=Option.bind_eq_some_iff.mp H
 obtain⟨⟨M,U⟩,af,H⟩:=H
 replace H:((zaL.f k a1).bind fun J=>((zan.f k M U J.1 J.2).bind fun G=>((zaQ.f k G.1 G.2).bind fun r=>(some (r.1,r.2)))))=some (r1,r2):=H
 have A3:=mk af
 clear af
 replace H:=Option.bind_eq_some_iff.mp H
 obtain⟨⟨X,Y⟩,ag,H⟩:=H
 replace H:((zan.f k M U X Y).bind fun G=>((zaQ.f k G.1 G.2).bind fun r=>(some (r.1,r.2))))=some (r1,r2):=H
 have A4:=mk ag
 clear ag
 replace H:=Option.bind_eq_some_iff.mp H
 obtain⟨⟨Z,aa⟩,ah,H⟩:=H
 replace H:((zaQ.f k Z aa).bind fun r=>(some (r.1,r.2)))=some (r1,r2):=H
 have A5:=mk ah
 clear ah
 replace H:=Option.bind_eq_some_iff.mp H
 obtain⟨⟨ac,ae⟩,ai,H⟩:=H
 replace H:(some (ac,ae))=some (r1,r2):=H
 have A6:=mk ai
 clear ai
 simp only[Option.some.injEq,Prod.mk.injEq]at H
 obtain⟨rfl,rfl⟩:=H
 go_enter Try.func167,Try.ntmps167
 go_wp2_with (first|((with_reducible refine zaE (f:=133) rfl ?_);refine za7 (some 7) rfl rfl Try.func133 kq0 rfl #[.int .i64 a0] rfl kq10 ?_;(with_reducible refine(zaL.calls k a0 M U _ A3.out).mono ?_);rintro e w7 ⟨an,rfl,ho0,hb⟩;refine⟨_,rfl,?_⟩;have D:=mk (Kd.V_lower (Kd.V_mono (ok':=fun k_=>True) ho0 (fun k_ hk_=>trivial)) (zad kq8));replace HB:=mk (zaa kq8 hb))|((with_reducible refine zaE (f:=133) rfl ?_);refine za7 (some 9) rfl rfl Try.func133 kq0 rfl #[.int .i64 a1] rfl kq10 ?_;(with_reducible refine(zaL.calls k a1 X Y _ A4.out).mono ?_);rintro e w8 ⟨ao,rfl,ho0,hb⟩;refine⟨_,rfl,?_⟩;have I:=mk (Kd.V_lower (Kd.V_mono (ok':=fun k_=>True) ho0 (fun k_ hk_=>trivial)) (zad kq8));replace D:=mk (Kd.V_below (kq23 D) hb);replace HB:=mk (zaa kq8 hb);obtain⟨ap,aq,ar⟩:=Kd.V_slice D.out;subst ar;obtain⟨aj,ak,al⟩:=Kd.V_slice I.out;subst al)|((with_reducible refine zaE (f:=136) rfl ?_);refine za7 (some 10) rfl rfl Try.func136 kq0 rfl #[.agg #[.bool M,.slice ap U.length aq],.agg #[.bool X,.slice aj Y.length ak]] rfl kq10 ?_;(with_reducible refine(zan.calls k M _ _ U X _ _ Y Z aa _ ?side1 ?side2 ?side3 ?side4 A5.out).mono ?_);(case side1=>exact kq38 D);(case side2=>exact(Kd.V_reads' D.out).2.1);(case side3=>exact kq38 I);(case side4=>exact(Kd.V_reads' I.out).2.1);rintro e av ⟨au,rfl,ho0,hb⟩;refine⟨_,rfl,?_⟩;have L:=mk (Kd.V_lower (Kd.V_mono (ok':=fun k_=>True) ho0 (fun k_ hk_=>trivial)) (zad kq8));replace D:=mk (Kd.V_below (kq23 D) hb);replace I:=mk (Kd.V_below (kq23 I) hb);replace HB:=mk (zaa kq8 hb);obtain⟨Ao12,co12,am⟩:=Kd.V_slice L.out;subst am)|((with_reducible refine zaE (f:=131) rfl ?_);refine za7 (some 11) rfl rfl Try.func131 kq0 rfl #[.agg #[.bool Z,.slice Ao12 aa.length co12]] rfl kq10 ?_;(with_reducible refine(zaQ.calls k Z _ _ aa ac ae _ ?side1 ?side2 A6.out).mono ?_);(case side1=>exact kq38 L);(case side2=>exact(Kd.V_reads' L.out).2.1);rintro e aw ⟨rfl,hb⟩;refine⟨_,rfl,?_⟩;replace D:=mk (Kd.V_below (kq23 D) hb);replace I:=mk (Kd.V_below (kq23 I) hb);replace L:=mk (Kd.V_below (kq23 L) hb);replace HB:=mk (zaa kq8 hb)))
 go_ret2
 exact⟨kq18,kq8⟩
end Go.Proofs.Ytjknpmibdkoklaa.Q
namespace Go.Proofs.Ytjknpmibdkoklaa.Q
open Go.RowKit Go.Proofs.YtjknpmibdkoklaaW.PrintWords Go.Proofs.YtjknpmibdkoklaaW.PrintLast Go.Proofs.YtjknpmibdkoklaaW.PrintMore
theorem zi2 (l:List Int) (p:Nat) (v:Int) (hp:p<l.length):val (l.set p v)=val l+(v-rd l (p:Int))*65536^p:=by
 induction l generalizing p with
 |nil=>simp at hp
 |cons d l ih=>
  cases p with
  |zero=>simp [val,rd];omega
  |succ p=>
   have h1:=ih p (by simpa using hp)
   have h2:rd (d::l) ((p+1:Nat):Int)=rd l (p:Int):=by
    unfold rd
    rw[Int.toNat_natCast,Int.toNat_natCast]
    simp [List.getD_eq_getElem?_getD]
   rw[List.set_cons_succ,h2]
   simp only[val]
   rw[h1,Int.pow_succ,Int.mul_add,←Int.mul_assoc,←Int.mul_assoc,Int.mul_comm 65536 (v-rd l (p:Int)),Int.mul_assoc,Int.mul_assoc,Int.mul_comm 65536 (65536^p)]
   omega
theorem zi3 {l:List Int} (h:D16 l) (p:Nat) {v:Int} (h0:0≤v) (h1:v<65536):D16 (l.set p v):=fun d hd=>by
 rcases List.mem_or_eq_of_mem_set hd with hd|rfl
 ·exact h d hd
 ·exact⟨h0,h1⟩
theorem zdv (l:List Int) (i:Nat):val (l.take (i+1))=val (l.take i)+65536^i*rd l (i:Int):=by
 by_cases h:i<l.length
 ·exact zgE l i h
 ·rw[List.take_of_length_le kq1,List.take_of_length_le kq1,zf8 kq1]
  simp
theorem zg2 {x y:Int} {m n:Nat} (f:0≤x) (hx:x<65536^m) (hy:y<65536^n):x*y<65536^(m+n):=by
 rw[Int.pow_add]
 have h1:x*y≤x*65536^n:=Int.mul_le_mul_of_nonneg_left kq1 f
 have h2:x*65536^n<65536^m*65536^n:=Int.mul_lt_mul_of_pos_right hx (pow_pos n)
 omega
theorem zg3 {a b:List Int} (ha:D16 a) (hb:D16 b) (sa sb:Bool) (hla:a.length<1000000000000) (hlb:b.length<1000000000000) :
 ∀(e i:Nat) (out:List Int),i+e=a.length→out.length=a.length+b.length+1→D16 out→val out=val (a.take i)*val b→
  Ev (fun k=>zan.l0 k out (i:Int) sa a sb b) (W (if(sa != sb)=true then -(val a*val b)else val a*val b)):=by
 intro e
 induction e with
 |zero=>
  intro i out hi ho hd hv
  refine zee (out.length+1) (fun k hk=>?_)
  obtain⟨k,rfl⟩:∃m,k=m+1:=⟨k-1,kq1⟩
  simp only[zan.l0]
  rw[if_neg kq1,zcm hd _ kq1 k kq1,hv,List.take_of_length_le kq1]
  rfl
 |succ e ihe=>
  intro i out hi ho hd hv
  have hai:=zdK ha i
  have inner:∀(f j:Nat) (out:List Int) (c:Int),j+f=b.length+1→out.length=a.length+b.length+1→D16 out→0≤c→c<65536→val out+c*65536^(i+j)=val (a.take i)*val b+rd a (i:Int)*val (b.take j)*65536^i→
   Ev (fun k=>zan.l1 k out (i:Int) c (j:Int) sa a sb b) (W (if(sa != sb)=true then -(val a*val b)else val a*val b)):=by
   intro f
   induction f with
   |zero=>
    intro j out c hj ho hd h0 h1 hv
    have hbt:b.take j=b:=List.take_of_length_le kq1
    rw[hbt]at hv
    have hvt:val (a.take (i+1))*val b=val (a.take i)*val b+rd a (i:Int)*val b*65536^i:=by
     rw[zdv,Int.add_mul,Int.mul_comm (65536^i) (rd a (i:Int)),Int.mul_assoc,Int.mul_assoc,Int.mul_comm (65536^i) (val b)]
    have hlt:=zg2 (zb5 (zdj ha (i+1))) (zeA ha (i+1)) (zhp hb)
    have hc:c=0:=by
     by_cases h:0<c
     ·have h2:1*(65536:Int)^(i+j)≤c*65536^(i+j):=Int.mul_le_mul_of_nonneg_right kq1 (Int.le_of_lt (pow_pos _))
      have G:=zgF (show i+1+b.length≤i+j by omega)
      have I:=zb5 hd
      omega
     ·omega
    subst hc
    have:=ihe (i+1) out kq1 ho hd (by rw[hvt];simpa using hv)
    refine Ev.step (fun k=>?_) this
    simp only[zan.l1]
    rw[if_neg kq1,if_neg kq1,zcY kq1]
   |succ f ihf=>
    intro j out c hj ho hd h0 h1 hv
    have hbj:=zdK hb j
    have hoj:=zdK hd (i+j)
    have hprod:0≤rd a (i:Int)*rd b (j:Int):=Int.mul_nonneg hai.1 hbj.1
    have hprod2:rd a (i:Int)*rd b (j:Int)≤65535*65535:=Int.mul_le_mul kq1 kq1 hbj.1 kq1
    have go:Ev (fun k=>zan.l1 k (out.set (i+j) ((rd out ((i+j:Nat):Int)+rd a (i:Int)*rd b (j:Int)+c) % 65536)) (i:Int) ((rd out ((i+j:Nat):Int)+rd a (i:Int)*rd b (j:Int)+c) / 65536) ((j+1:Nat):Int) sa a sb b) (W (if(sa != sb)=true then -(val a*val b)else val a*val b)):=by
     generalize hs:rd out ((i+j:Nat):Int)+rd a (i:Int)*rd b (j:Int)+c=s
     refine ihf (j+1) _ _ kq1 (by simp [ho]) (zi3 hd _ kq1 kq1) kq1 kq1 ?_
     rw[zi2 _ _ _ kq1,zdv b j]
     have r:s % 65536=s-65536*(s / 65536):=by omega
     rw[r,show i+(j+1)=(i+j)+1 by omega,Int.pow_succ (65536:Int) (i+j)]
     have D:val out=val (a.take i)*val b+rd a (i:Int)*val (b.take j)*65536^i-c*65536^(i+j):=by omega
     rw[D,←hs,Int.pow_add]
     grind
    by_cases hjl:j<b.length
    ·refine Ev.step (fun k=>?_) go
     simp only[zan.l1,zcU,Option.bind_some]
     rw[if_pos kq1,show((i:Int)+(j:Int))=((i+j:Nat):Int) by omega,zeu kq1,if_pos kq1,if_pos kq1,if_pos kq1,if_pos kq1,zcY kq1]
     rw[zci hprod kq1,zci (n:=rd out ((i+j:Nat):Int)+rd a (i:Int)*rd b (j:Int)) kq1 kq1,zci (n:=rd out ((i+j:Nat):Int)+rd a (i:Int)*rd b (j:Int)+c) kq1 kq1,zez kq1 kq1,Int.toNat_natCast]
    ·by_cases hc0:c>0
     ·have hz:rd b (j:Int)=0:=zf8 kq1
      refine Ev.step (fun k=>?_) go
      simp only[zan.l1,zcU,Option.bind_some]
      rw[if_neg kq1,if_pos hc0,show((i:Int)+(j:Int))=((i+j:Nat):Int) by omega,zeu kq1,if_pos kq1,if_pos kq1,if_pos kq1,if_pos kq1,zcY kq1]
      rw[zci hprod kq1,zci (n:=rd out ((i+j:Nat):Int)+rd a (i:Int)*rd b (j:Int)) kq1 kq1,zci (n:=rd out ((i+j:Nat):Int)+rd a (i:Int)*rd b (j:Int)+c) kq1 kq1,zez kq1 kq1,Int.toNat_natCast]
     ·have hc:c=0:=by omega
      subst hc
      have hbt:b.take j=b:=List.take_of_length_le kq1
      rw[hbt]at hv
      have hvt:val (a.take (i+1))*val b=val (a.take i)*val b+rd a (i:Int)*val b*65536^i:=by
       rw[zdv,Int.add_mul,Int.mul_comm (65536^i) (rd a (i:Int)),Int.mul_assoc,Int.mul_assoc,Int.mul_comm (65536^i) (val b)]
      have:=ihe (i+1) out kq1 ho hd (by rw[hvt];simpa using hv)
      refine Ev.step (fun k=>?_) this
      simp only[zan.l1]
      rw[if_neg kq1,if_neg kq1,zcY kq1]
  have:=inner (b.length+1) 0 out 0 kq1 ho hd kq1 kq1 (by simp [hv,val])
  refine Ev.step (fun k=>?_) this
  simp only[zan.l0]
  rw[if_pos kq1]
  rfl
theorem zg4 {a b:Int} (ha:Small a) (hb:Small b):Ev (fun k=>zan.f k (W a).1 (W a).2 (W b).1 (W b).2) (W (a*b)):=by
 have sa:(W a).2.length<1000000000000:=ha
 have sb:(W b).2.length<1000000000000:=hb
 have h:=zg3 (Wd a) (Wd b) (W a).1 (W b).1 sa sb (W a).2.length 0 (List.replicate ((W a).2.length+(W b).2.length+1) 0) kq1 (by simp) (zhr _) (by simp [zhq,val])
 unfold zan.f
 have e:wrap64 ((wrap64 (((W a).2.length:Int)+((W b).2.length:Int)))+1)=(((W a).2.length+(W b).2.length+1:Nat):Int):=by
  rw[zcH (a:=((W a).2.length:Int)+((W b).2.length:Int)) ⟨kq1,kq1⟩,zcH ⟨kq1,kq1⟩]
  omega
 have r:(if((W a).1 != (W b).1)=true then -(val (W a).2*val (W b).2)else val (W a).2*val (W b).2)=a*b:=by
  rw[Wv,Wv]
  simp only[W]
  have ha2:(a.natAbs:Int)=if a<0 then -a else a:=by split<;>omega
  have hb2:(b.natAbs:Int)=if b<0 then -b else b:=by split<;>omega
  rw[ha2,hb2]
  by_cases D:a<0<;>by_cases G:b<0<;>simp [D,G,Int.neg_mul,Int.mul_neg]
 rw[r]at h
 refine Ev.congr (fun k=>?_) h
 rw[e,if_pos kq1,if_pos kq1,Int.toNat_natCast]
 rfl
theorem zhB {a b:Int} (ha:In64 a) (hb:In64 b):Small (a*b):=by
 refine zep 8 kq2 ?_
 rw[Int.natAbs_mul]
 have h1:a.natAbs≤9223372036854775808:=by obtain⟨h1,h2⟩:=ha;omega
 have h2:b.natAbs≤9223372036854775808:=by obtain⟨h1,h2⟩:=hb;omega
 have f:=Nat.mul_le_mul h1 h2
 have:(65536:Nat)^8=340282366920938463463374607431768211456:=by decide
 omega
theorem zhC {a b:Int} (ha:In64 a) (hb:In64 b):Ev (fun k=>zbt.f k a b) (fit (a*b)):=by
 unfold zbt.f
 exact Ev.bind (zdb ha) (Ev.bind (zdb hb) (Ev.bind (zg4 (zcA ha) (zcA hb)) (Ev.pair (zeC (zhB ha hb)))))
end Go.Proofs.Ytjknpmibdkoklaa.Q
