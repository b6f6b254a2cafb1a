/- Functions of the given program as Lean functions, each with its contract, and what they answer; words for it. No condition but those of each. -/
import Derived.Test.YtjknpmibdkoklaaMNS
import Derived.Test.YtjknpmibdkoklaaMN3
import Derived.Test.YtjknpmibdkoklaaMN4
set_option maxRecDepth 100000
set_option linter.unusedVariables false
set_option linter.unusedSimpArgs false
namespace Go.Proofs.Ytjknpmibdkoklaa.Q
open Go.RowKit Go.Proofs.YtjknpmibdkoklaaW.PrintWords Go.Proofs.YtjknpmibdkoklaaW.PrintLast Go.Proofs.YtjknpmibdkoklaaW.PrintMore
open Aside0 (mk)
open List (setIfInBounds_toArray set_cons_zero set_cons_succ)
attribute [local go_sem] zbw zbz zbP zbQ zbm zbn zbA zbB
set_option linter.unusedVariables false
set_option linter.unusedSimpArgs false
attribute [local go_sem] zbS zbD zbE zbF
def zaG.l0:Nat→Int→List Int→Int→Option (Bool)
 |0,_,_,_=>none
 |k+1,x0,x1,x5=>if(wrap64 (x5+1))<(x1.length:Int)then(if 0≤x5 then(if x5<(x1.length:Int)then(if x0≥(rd x1 x5)then(if 0≤(wrap64 (x5+1))then(if x0≤(rd x1 (wrap64 (x5+1)))then(some true)else(zaG.l0 k x0 x1 (wrap64 (x5+2))))else(none))else(zaG.l0 k x0 x1 (wrap64 (x5+2))))else(none))else(none))else(some false)
def zaG.f (k:Nat) (a0:Int) (l1:List Int):Option (Bool):=zaG.l0 k a0 l1 0
theorem zaG.mono_l:∀k,(∀f D G,LeO (zaG.l0 k f D G) (zaG.l0 (k+1) f D G))
 |0=>fun _ _ _ r h=>by simp [zaG.l0]at h
 |k+1=>by
  have ih0:=zaG.mono_l k
  ·intro f D G;unfold zaG.l0
   repeat' first
   |(with_reducible exact ih0 _ _ _)
   |(with_reducible exact LeO.refl _)
   |(with_reducible exact LeO.none _)
   |(with_reducible refine LeO.ite ?_ ?_)
   |(with_reducible refine LeO.bind ?_ (fun _=>?_))
   |exact ih0 _ _ _
   |exact LeO.none _
   |refine LeO.ite ?_ ?_
   |refine LeO.bind ?_ (fun _=>?_)
theorem zaG.mono:∀a0 r k,LeO (zaG.f k a0 r) (zaG.f (k+1) a0 r):=by
 intro a0 r k
 have ih0:=zaG.mono_l k
 unfold zaG.f
 repeat' first
  |(with_reducible exact ih0 _ _ _)
  |(with_reducible exact LeO.refl _)
  |(with_reducible exact LeO.none _)
  |(with_reducible refine LeO.ite ?_ ?_)
  |(with_reducible refine LeO.bind ?_ (fun _=>?_))
  |exact ih0 _ _ _
  |exact LeO.none _
  |refine LeO.ite ?_ ?_
  |refine LeO.bind ?_ (fun _=>?_)
set_option maxHeartbeats 8000000 in
theorem zaG.calls (k:Nat) (a0:Int) (A1:Option Addr) (c1:Nat) (U:List Int) (r:Bool) (w:World) (ag:Kd.C (Kd.int .i64) w A1 U.length U) (hc1:U.length≤c1) (h:zaG.f k a0 U=some r) :
 Calls Try.prog 158 #[.int .i64 a0,.slice A1 U.length c1] w fun e w'=>e= .returned (.bool r)∧Drawn0 w w':=by
 have ab:=mk ag
 have am:=mk hc1
 clear ag hc1
 have H:(zaG.l0 k a0 U 0)=some r:=h
 clear h
 have H':=mk H
 clear H
 go_enter Try.func158,Try.ntmps158
 go_wp2
 go_loopg [5] k (fun kq v5 w'=>∃(D:Int),v5= .int .i64 D∧Aside0 (zaG.l0 kq a0 U D=some r)∧Aside0 (kq≤k)∧Drawn0 w w')
 case atStart=>exact⟨(0),kq3,H',⟨Nat.le_refl _⟩,kq5⟩
 case round=>
  clear H'
  obtain⟨D,rfl,HA,HK1,⟨m1,rfl⟩⟩:=hrel
  cases gk with
  |zero=>exact absurd HA.out (by simp [zaG.l0])
  |succ k1=>
   have H:=HA.out;clear HA;simp only[zaG.l0]at H;replace H:=ic_ H;obtain⟨c3,H⟩|⟨c3,H⟩:=H
   ·have af:=decide_eq_true c3;clear c3;replace H:=ic_ H;obtain⟨c4,H⟩|⟨c4,H⟩:=H
    ·have aj:decide (0≤D)=true:=decide_eq_true c4;clear c4;replace H:=ic_ H;obtain⟨c5,H⟩|⟨c5,H⟩:=H
     ·have ak:decide (D<(U.length:Int))=true:=decide_eq_true c5;clear c5;replace H:=ic_ H;obtain⟨c6,H⟩|⟨c6,H⟩:=H
      ·have ah:decide ((rd U D)≤a0)=true:=decide_eq_true c6;clear c6;obtain⟨J,hji7⟩:∃j_:Int,(wrap64 (D+1))=j_:=⟨_,rfl⟩;(replace H:(if 0≤(J)then(if a0≤(rd U (J))then(some true)else(zaG.l0 k1 a0 U (wrap64 (D+2))))else(none))=some r:=by first|(rw[hji7]at H;exact H)|(simp only[hji7]at H ⊢;exact H));((try rw[hji7]at af));have hji7w:(IntKind.i64.wrap (D+1))=J:=(zbi _).trans hji7;replace H:=ic_ H;obtain⟨c8,H⟩|⟨c8,H⟩:=H
       ·have al:=decide_eq_true c8;clear c8;replace H:=ic_ H;obtain⟨c9,H⟩|⟨c9,H⟩:=H
        ·have ai:decide (a0≤(rd U (J)))=true:=decide_eq_true c9;clear c9;obtain rfl:=Option.some.inj H;have G:0≤(D:Int):=of_decide_eq_true kq7;have I:D<(U.length:Int):=of_decide_eq_true kq7;obtain⟨X,Y,Z⟩:=Kd.at_int ab.out D G I;cases Y;replace G:=eq_true G;replace I:=eq_true I;have L:0≤((J):Int):=of_decide_eq_true kq7;have M:(J)<(U.length:Int):=of_decide_eq_true kq7;obtain⟨aa,ac,ae⟩:=Kd.at_int ab.out (J) L M;obtain rfl:X=aa:=(by injection ac);replace L:=eq_true L;replace M:=eq_true M;go_wp2;go_ret;exact⟨by first|rfl|(simp;done)|(simp only[←hji7]<;>(first|rfl|simp))|(simp [*];done),kq5⟩
        ·have ai:decide (a0≤(rd U (J)))=false:=decide_eq_false c9;clear c9;have H':=mk H;clear H;have G:0≤(D:Int):=of_decide_eq_true kq7;have I:D<(U.length:Int):=of_decide_eq_true kq7;obtain⟨X,Y,Z⟩:=Kd.at_int ab.out D G I;cases Y;replace G:=eq_true G;replace I:=eq_true I;have L:0≤((J):Int):=of_decide_eq_true kq7;have M:(J)<(U.length:Int):=of_decide_eq_true kq7;obtain⟨aa,ac,ae⟩:=Kd.at_int ab.out (J) L M;obtain rfl:X=aa:=(by injection ac);replace L:=eq_true L;replace M:=eq_true M;go_wp2;(go_roundg k1)
         case measure=>have:=HK1.out;omega
         case rel=>exact⟨(wrap64 (D+2)),kq3,H',⟨kq19⟩,kq5⟩
       ·exact absurd H (by simp)
      ·have ah:decide ((rd U D)≤a0)=false:=decide_eq_false c6;clear c6;have H':=mk H;clear H;have G:0≤(D:Int):=of_decide_eq_true kq7;have I:D<(U.length:Int):=of_decide_eq_true kq7;obtain⟨X,Y,Z⟩:=Kd.at_int ab.out D G I;cases Y;replace G:=eq_true G;replace I:=eq_true I;go_wp2;(go_roundg k1)
       case measure=>have:=HK1.out;omega
       case rel=>exact⟨(wrap64 (D+2)),kq3,H',⟨kq19⟩,kq5⟩
     ·exact absurd H (by simp)
    ·exact absurd H (by simp)
   ·have af:=decide_eq_false c3;clear c3;obtain rfl:=Option.some.inj H;go_wp2;go_ret;exact⟨kq3,kq5⟩
def zaR.f (k:Nat) (a0:Int):Option (Bool):=(zaG.f k a0 (([65,90,97,122,95,95,913,929,931,937,945,969]:List Int))).bind fun t327=>(some t327)
theorem zaR.mono:∀a0 k,LeO (zaR.f k a0) (zaR.f (k+1) a0):=by
 intro a0 k
 unfold zaR.f
 repeat' first
  |(with_reducible exact zaG.mono _ _ _)
  |(with_reducible exact LeO.refl _)
  |(with_reducible exact LeO.none _)
  |(with_reducible refine LeO.ite ?_ ?_)
  |(with_reducible refine LeO.bind ?_ (fun _=>?_))
  |exact zaG.mono _ _ _
  |exact LeO.none _
  |refine LeO.ite ?_ ?_
  |refine LeO.bind ?_ (fun _=>?_)
set_option maxHeartbeats 8000000 in
theorem zaR.calls (k:Nat) (a0:Int) (r:Bool) (w:World) (h:zaR.f k a0=some r) :
 Calls Try.prog 106 #[.int .i64 a0] w fun e w'=>e= .returned (.bool r)∧Below w.heap.size w w':=by
 have HB:=mk (Below.refl w.heap.size w)
 have H:((zaG.f k a0 (([65,90,97,122,95,95,913,929,931,937,945,969]:List Int))).bind fun G=>(some G))=some r:=h
 clear h
 obtain⟨J,D⟩:∃y_:List Int,y_=(([65,90,97,122,95,95,913,929,931,937,945,969]:List Int)):=⟨_,rfl⟩
 replace H:((zaG.f k a0 J).bind fun G=>(some G))=some r:=by first|(rw[D];with_reducible exact H)|(have L:=(Option.bind_some _ _).symm.trans H;rw[D];with_reducible exact L)|(have L:=(Option.bind_some _ _).symm.trans H;with_reducible exact L)|with_reducible exact H|(rw[D];exact H)|exact H
 have Ny324:=mk D
 clear D
 replace H:=Option.bind_eq_some_iff.mp H
 obtain⟨G,U,H⟩:=H
 replace H:(some G)=some r:=H
 have A2:=mk U
 clear U
 obtain rfl:=Option.some.inj H
 go_enter Try.func106,Try.ntmps106
 go_wp2_with (first|((with_reducible refine zao (N:=4) rfl ?_);refine Kd.R_lit (Kd.int .i64) _ 3 ?hg (N:=4) ?hd (xs:=([65,90,97,122,95,95,913,929,931,937,945,969]:List Int)) (inner:=[.int .i64 65,.int .i64 90,.int .i64 97,.int .i64 122,.int .i64 95,.int .i64 95,.int .i64 913,.int .i64 929,.int .i64 931,.int .i64 937,.int .i64 945,.int .i64 969]) (ok:=fun _=>True) (okp:=fun _=>True) ?hr ?hp (fun _ hk=>hk) trivial (Below.refl _ _) (Nat.le_refl _) (by simp) ?_;(case hd=>rfl);(case hg=>rfl);(case hr=>exact kq21);(case hp=>exact(Reps.one (show Kd.M (Kd.int .i64) _ _ _ 65 [.int .i64 65]from rfl) (Reps.one (show Kd.M (Kd.int .i64) _ _ _ 90 [.int .i64 90]from rfl) (Reps.one (show Kd.M (Kd.int .i64) _ _ _ 97 [.int .i64 97]from rfl) (Reps.one (show Kd.M (Kd.int .i64) _ _ _ 122 [.int .i64 122]from rfl) (Reps.one (show Kd.M (Kd.int .i64) _ _ _ 95 [.int .i64 95]from rfl) (Reps.one (show Kd.M (Kd.int .i64) _ _ _ 95 [.int .i64 95]from rfl) (Reps.one (show Kd.M (Kd.int .i64) _ _ _ 913 [.int .i64 913]from rfl) (Reps.one (show Kd.M (Kd.int .i64) _ _ _ 929 [.int .i64 929]from rfl) (Reps.one (show Kd.M (Kd.int .i64) _ _ _ 931 [.int .i64 931]from rfl) (Reps.one (show Kd.M (Kd.int .i64) _ _ _ 937 [.int .i64 937]from rfl) (Reps.one (show Kd.M (Kd.int .i64) _ _ _ 945 [.int .i64 945]from rfl) (Reps.one (show Kd.M (Kd.int .i64) _ _ _ 969 [.int .i64 969]from rfl) (Reps.none _ _))))))))))))));intro aa w3 ho4 hb hg_ hnew_;clear hg_ hnew_;(first|rw[←Ny324.out]at ho4|(simp only[Int.reduceToNat]at ho4;rw[←Ny324.out]at ho4));have I:=mk (Kd.R_lower ho4 (zad kq8));replace HB:=mk (zaa kq8 hb);clear hb ho4;obtain⟨X,Y,Z⟩:=Kd.R_slice I.out;subst Z)|((with_reducible refine zaE (f:=158) rfl ?_);refine za7 (some 5) rfl rfl Try.func158 kq0 rfl #[.int .i64 a0,.slice X J.length Y] rfl kq10 ?_;(with_reducible refine(zaG.calls k a0 _ _ J G _ ?side1 ?side2 A2.out).mono ?_);(case side1=>exact kq15 I);(case side2=>exact(Kd.R_reads' I.out).2.1);rintro e w' ⟨rfl,⟨nd,rfl⟩⟩;refine⟨_,rfl,?_⟩))
 go_ret
 exact⟨kq18,kq8⟩
def zaU.f (k:Nat) (a0:Int):Option (Bool):=(zaR.f k a0).bind fun t328=>(if t328=true then(some true)else((zaG.f k a0 (([48,57,8242,8242,8320,8329]:List Int))).bind fun t332=>(some t332)))
theorem zaU.mono:∀a0 k,LeO (zaU.f k a0) (zaU.f (k+1) a0):=by
 intro a0 k
 unfold zaU.f
 repeat' first
  |(with_reducible exact zaR.mono _ _)
  |(with_reducible exact zaG.mono _ _ _)
  |(with_reducible exact LeO.refl _)
  |(with_reducible exact LeO.none _)
  |(with_reducible refine LeO.ite ?_ ?_)
  |(with_reducible refine LeO.bind ?_ (fun _=>?_))
  |exact zaR.mono _ _
  |exact zaG.mono _ _ _
  |exact LeO.none _
  |refine LeO.ite ?_ ?_
  |refine LeO.bind ?_ (fun _=>?_)
set_option maxHeartbeats 8000000 in
theorem zaU.calls (k:Nat) (a0:Int) (r:Bool) (w:World) (h:zaU.f k a0=some r) :
 Calls Try.prog 107 #[.int .i64 a0] w fun e w'=>e= .returned (.bool r)∧Below w.heap.size w w':=by
 have HB:=mk (Below.refl w.heap.size w)
 have H:((zaR.f k a0).bind fun J=>(if J=true then(some true)else((zaG.f k a0 (([48,57,8242,8242,8320,8329]:List Int))).bind fun D=>(some D))))=some r:=h
 clear h
 replace H:=Option.bind_eq_some_iff.mp H
 obtain⟨J,X,H⟩:=H
 replace H:(if J=true then(some true)else((zaG.f k a0 (([48,57,8242,8242,8320,8329]:List Int))).bind fun D=>(some D)))=some r:=H
 have A2:=mk X
 clear X
 by_cases c3:J=true
 ·subst c3
  have Y:(some true)=some r:=by rw[if_pos rfl]at H;exact H
  clear H
  have H:=Y
  clear Y
  obtain rfl:=Option.some.inj H
  go_enter Try.func107,Try.ntmps107
  go_wp2_with (first|((with_reducible refine zaE (f:=106) rfl ?_);refine za7 (some 4) rfl rfl Try.func106 kq0 rfl #[.int .i64 a0] rfl kq10 ?_;(with_reducible refine(zaR.calls k a0 true _ A2.out).mono ?_);rintro e w4 ⟨rfl,hb⟩;refine⟨_,rfl,?_⟩;replace HB:=mk (zaa kq8 hb)))
  go_ret
  exact⟨kq18,kq8⟩
 ·replace c3:=Bool.eq_false_iff.mpr c3
  subst c3
  have Y:((zaG.f k a0 (([48,57,8242,8242,8320,8329]:List Int))).bind fun D=>(some D))=some r:=by rw[if_neg (show ¬(false=true) by decide)]at H;exact H
  clear H
  have H:=Y
  clear Y
  obtain⟨L,G⟩:∃y_:List Int,y_=(([48,57,8242,8242,8320,8329]:List Int)):=⟨_,rfl⟩
  replace H:((zaG.f k a0 L).bind fun D=>(some D))=some r:=by first|(rw[G];with_reducible exact H)|(have U:=(Option.bind_some _ _).symm.trans H;rw[G];with_reducible exact U)|(have U:=(Option.bind_some _ _).symm.trans H;with_reducible exact U)|with_reducible exact H|(rw[G];exact H)|exact H
  have Ny329:=mk G
  clear G
  replace H:=Option.bind_eq_some_iff.mp H
  obtain⟨D,Z,H⟩:=H
  replace H:(some D)=some r:=H
  have A5:=mk Z
  clear Z
  obtain rfl:=Option.some.inj H
  go_enter Try.func107,Try.ntmps107
  go_wp2_with (first|((with_reducible refine zaE (f:=106) rfl ?_);refine za7 (some 4) rfl rfl Try.func106 kq0 rfl #[.int .i64 a0] rfl kq10 ?_;(with_reducible refine(zaR.calls k a0 false _ A2.out).mono ?_);rintro e w6 ⟨rfl,hb⟩;refine⟨_,rfl,?_⟩;replace HB:=mk (zaa kq8 hb))|((with_reducible refine zao (N:=7) rfl ?_);(try(refine zbf (by rfl) ?_;dsimp only));refine Kd.R_lit (Kd.int .i64) _ 3 ?hg (N:=7) ?hd (xs:=([48,57,8242,8242,8320,8329]:List Int)) (inner:=[.int .i64 48,.int .i64 57,.int .i64 8242,.int .i64 8242,.int .i64 8320,.int .i64 8329]) (ok:=fun _=>True) (okp:=fun _=>True) ?hr ?hp (fun _ hk=>hk) trivial (Below.refl _ _) (Nat.le_refl _) (by simp) ?_;(case hd=>rfl);(case hg=>rfl);(case hr=>exact kq21);(case hp=>exact(Reps.one (show Kd.M (Kd.int .i64) _ _ _ 48 [.int .i64 48]from rfl) (Reps.one (show Kd.M (Kd.int .i64) _ _ _ 57 [.int .i64 57]from rfl) (Reps.one (show Kd.M (Kd.int .i64) _ _ _ 8242 [.int .i64 8242]from rfl) (Reps.one (show Kd.M (Kd.int .i64) _ _ _ 8242 [.int .i64 8242]from rfl) (Reps.one (show Kd.M (Kd.int .i64) _ _ _ 8320 [.int .i64 8320]from rfl) (Reps.one (show Kd.M (Kd.int .i64) _ _ _ 8329 [.int .i64 8329]from rfl) (Reps.none _ _))))))));intro ab w7 ho8 hb hg_ hnew_;clear hg_ hnew_;(first|rw[←Ny329.out]at ho8|(simp only[Int.reduceToNat]at ho8;rw[←Ny329.out]at ho8));have I:=mk (Kd.R_lower ho8 (zad kq8));replace HB:=mk (zaa kq8 hb);clear hb ho8;obtain⟨ac,ae,aa⟩:=Kd.R_slice I.out;subst aa)|(go_at_call 158;(with_reducible refine(zaG.calls k a0 _ _ L D _ ?side1 ?side2 A5.out).mono ?_);(case side1=>exact kq15 I);(case side2=>exact(Kd.R_reads' I.out).2.1);rintro e w' ⟨rfl,⟨nd,rfl⟩⟩))
  go_ret
  exact⟨kq18,kq8⟩
def zaI.l0:Nat→ByteArray→List ByteArray→Int→Option (Bool)
 |0,_,_,_=>none
 |k+1,x0,x3,x4=>if x4<(x3.length:Int)then(if 0≤x4 then(if(rdOf ByteArray.empty x3 x4).toList=x0.toList then(some true)else(zaI.l0 k x0 x3 (wrap64 (x4+1))))else(none))else(some false)
def zaI.f (k:Nat) (a0:ByteArray):Option (Bool):=zaI.l0 k a0 (([(⟨#[97,110,100]⟩:ByteArray),(⟨#[111,114]⟩:ByteArray),(⟨#[110,111,116]⟩:ByteArray),(⟨#[101,120]⟩:ByteArray),(⟨#[97,108,108]⟩:ByteArray),(⟨#[109,111,100]⟩:ByteArray),(⟨#[116,114,117,101]⟩:ByteArray),(⟨#[102,97,108,115,101]⟩:ByteArray)]:List ByteArray)) 0
theorem zaI.mono_l:∀k,(∀f D G,LeO (zaI.l0 k f D G) (zaI.l0 (k+1) f D G))
 |0=>fun _ _ _ r h=>by simp [zaI.l0]at h
 |k+1=>by
  have ih0:=zaI.mono_l k
  ·intro f D G;unfold zaI.l0
   repeat' first
   |(with_reducible exact ih0 _ _ _)
   |(with_reducible exact LeO.refl _)
   |(with_reducible exact LeO.none _)
   |(with_reducible refine LeO.ite ?_ ?_)
   |(with_reducible refine LeO.bind ?_ (fun _=>?_))
   |exact ih0 _ _ _
   |exact LeO.none _
   |refine LeO.ite ?_ ?_
   |refine LeO.bind ?_ (fun _=>?_)
theorem zaI.mono:∀a0 k,LeO (zaI.f k a0) (zaI.f (k+1) a0):=by
 intro a0 k
 have ih0:=zaI.mono_l k
 unfold zaI.f
 repeat' first
  |(with_reducible exact ih0 _ _ _)
  |(with_reducible exact LeO.refl _)
  |(with_reducible exact LeO.none _)
  |(with_reducible refine LeO.ite ?_ ?_)
  |(with_reducible refine LeO.bind ?_ (fun _=>?_))
  |exact ih0 _ _ _
  |exact LeO.none _
  |refine LeO.ite ?_ ?_
  |refine LeO.bind ?_ (fun _=>?_)
set_option maxHeartbeats 8000000 in
theorem zaI.calls (k:Nat) (a0:ByteArray) (r:Bool) (w:World) (h:zaI.f k a0=some r) :
 Calls Try.prog 108 #[.string a0] w fun e w'=>e= .returned (.bool r)∧Below w.heap.size w w':=by
 have HB:=mk (Below.refl w.heap.size w)
 have H:(zaI.l0 k a0 (([(⟨#[97,110,100]⟩:ByteArray),(⟨#[111,114]⟩:ByteArray),(⟨#[110,111,116]⟩:ByteArray),(⟨#[101,120]⟩:ByteArray),(⟨#[97,108,108]⟩:ByteArray),(⟨#[109,111,100]⟩:ByteArray),(⟨#[116,114,117,101]⟩:ByteArray),(⟨#[102,97,108,115,101]⟩:ByteArray)]:List ByteArray)) 0)=some r:=h
 clear h
 obtain⟨G,I⟩:∃y_:List ByteArray,y_=(([(⟨#[97,110,100]⟩:ByteArray),(⟨#[111,114]⟩:ByteArray),(⟨#[110,111,116]⟩:ByteArray),(⟨#[101,120]⟩:ByteArray),(⟨#[97,108,108]⟩:ByteArray),(⟨#[109,111,100]⟩:ByteArray),(⟨#[116,114,117,101]⟩:ByteArray),(⟨#[102,97,108,115,101]⟩:ByteArray)]:List ByteArray)):=⟨_,rfl⟩
 replace H:(zaI.l0 k a0 G 0)=some r:=by first|(rw[I];with_reducible exact H)|(have Z:=(Option.bind_some _ _).symm.trans H;rw[I];with_reducible exact Z)|(have Z:=(Option.bind_some _ _).symm.trans H;with_reducible exact Z)|with_reducible exact H|(rw[I];exact H)|exact H
 have Ny333:=mk I
 clear I
 have H':=mk H
 clear H
 go_enter Try.func108,Try.ntmps108
 go_wp2_with (first|((with_reducible refine zao (N:=5) rfl ?_);refine Kd.R_lit Kd.string _ 9 ?hg (N:=5) ?hd (xs:=([(⟨#[97,110,100]⟩:ByteArray),(⟨#[111,114]⟩:ByteArray),(⟨#[110,111,116]⟩:ByteArray),(⟨#[101,120]⟩:ByteArray),(⟨#[97,108,108]⟩:ByteArray),(⟨#[109,111,100]⟩:ByteArray),(⟨#[116,114,117,101]⟩:ByteArray),(⟨#[102,97,108,115,101]⟩:ByteArray)]:List ByteArray)) (inner:=[.string (⟨#[97,110,100]⟩:ByteArray),.string (⟨#[111,114]⟩:ByteArray),.string (⟨#[110,111,116]⟩:ByteArray),.string (⟨#[101,120]⟩:ByteArray),.string (⟨#[97,108,108]⟩:ByteArray),.string (⟨#[109,111,100]⟩:ByteArray),.string (⟨#[116,114,117,101]⟩:ByteArray),.string (⟨#[102,97,108,115,101]⟩:ByteArray)]) (ok:=fun _=>True) (okp:=fun _=>True) ?hr ?hp (fun _ hk=>hk) trivial (Below.refl _ _) (Nat.le_refl _) (by simp) ?_;(case hd=>rfl);(case hg=>rfl);(case hr=>exact kq21);(case hp=>exact(Reps.one (show Kd.M Kd.string _ _ _ (⟨#[97,110,100]⟩:ByteArray) [.string (⟨#[97,110,100]⟩:ByteArray)]from rfl) (Reps.one (show Kd.M Kd.string _ _ _ (⟨#[111,114]⟩:ByteArray) [.string (⟨#[111,114]⟩:ByteArray)]from rfl) (Reps.one (show Kd.M Kd.string _ _ _ (⟨#[110,111,116]⟩:ByteArray) [.string (⟨#[110,111,116]⟩:ByteArray)]from rfl) (Reps.one (show Kd.M Kd.string _ _ _ (⟨#[101,120]⟩:ByteArray) [.string (⟨#[101,120]⟩:ByteArray)]from rfl) (Reps.one (show Kd.M Kd.string _ _ _ (⟨#[97,108,108]⟩:ByteArray) [.string (⟨#[97,108,108]⟩:ByteArray)]from rfl) (Reps.one (show Kd.M Kd.string _ _ _ (⟨#[109,111,100]⟩:ByteArray) [.string (⟨#[109,111,100]⟩:ByteArray)]from rfl) (Reps.one (show Kd.M Kd.string _ _ _ (⟨#[116,114,117,101]⟩:ByteArray) [.string (⟨#[116,114,117,101]⟩:ByteArray)]from rfl) (Reps.one (show Kd.M Kd.string _ _ _ (⟨#[102,97,108,115,101]⟩:ByteArray) [.string (⟨#[102,97,108,115,101]⟩:ByteArray)]from rfl) (Reps.none _ _))))))))));intro ac w2 ho3 hb hg_ hnew_;clear hg_ hnew_;(first|rw[←Ny333.out]at ho3|(simp only[Int.reduceToNat]at ho3;rw[←Ny333.out]at ho3));have aa:=mk (Kd.R_lower ho3 (zad kq8));replace HB:=mk (zaa kq8 hb);clear hb ho3))
 go_loopg [4] k (fun kq v4 w'=>∃(D:Int),v4= .int .i64 D∧Aside0 (zaI.l0 kq a0 G D=some r)∧Aside0 (kq≤k)∧Aside0 (Kd.R Kd.string 9 w' w.heap.size (fun _=>True) ac G)∧Aside0 (Below w.heap.size w w'))
 case atStart=>exact⟨(0),kq3,H',⟨Nat.le_refl _⟩,⟨(kq9 aa)⟩,⟨kq8⟩⟩
 case round=>
  clear H'
  obtain⟨D,rfl,HA,HK1,U,HB⟩:=hrel
  cases gk with
  |zero=>exact absurd HA.out (by simp [zaI.l0])
  |succ k1=>
   have H:=HA.out;clear HA;simp only[zaI.l0]at H;replace H:=ic_ H;obtain⟨c4,H⟩|⟨c4,H⟩:=H
   ·have ae:decide (D<(G.length:Int))=true:=decide_eq_true c4;clear c4;replace H:=ic_ H;obtain⟨c5,H⟩|⟨c5,H⟩:=H
    ·have ak:decide (0≤D)=true:=decide_eq_true c5;clear c5;replace H:=ic_ H;obtain⟨c6,H⟩|⟨c6,H⟩:=H
     ·obtain⟨af,ag⟩:=eTn_ c6;clear c6;obtain rfl:=Option.some.inj H;obtain⟨al,am,ah⟩:=Kd.R_slice U.out;subst ah;have J:0≤(D:Int):=of_decide_eq_true kq7;have L:D<(G.length:Int):=of_decide_eq_true kq7;obtain⟨ab,X,Y⟩:=Kd.at_string (Kd.R_reads' U.out).2.2 D J L;cases X;replace J:=eq_true J;replace L:=eq_true L;go_wp2;go_ret;exact⟨kq18,kq8⟩
     ·obtain⟨af,ag⟩:=eFn_ c6;have H':=mk H;clear H;obtain⟨an,ao,ai⟩:=Kd.R_slice U.out;subst ai;have J:0≤(D:Int):=of_decide_eq_true kq7;have L:D<(G.length:Int):=of_decide_eq_true kq7;obtain⟨ab,X,Y⟩:=Kd.at_string (Kd.R_reads' U.out).2.2 D J L;cases X;replace J:=eq_true J;replace L:=eq_true L;go_wp2;(go_roundg k1)
      case measure=>have:=HK1.out;omega
      case rel=>exact⟨(wrap64 (D+1)),kq3,H',⟨kq19⟩,⟨(kq9 U)⟩,⟨kq8⟩⟩
    ·exact absurd H (by simp)
   ·have ae:decide (D<(G.length:Int))=false:=decide_eq_false c4;clear c4;obtain rfl:=Option.some.inj H;obtain⟨ap,aq,aj⟩:=Kd.R_slice U.out;subst aj;go_wp2;go_ret;exact⟨kq18,kq8⟩
def zaC.l0:Nat→ByteArray→Int→Int→Option (Bool)
 |0,_,_,_=>none
 |k+1,x0,x3,x4=>if x4<(x0.size:Int)then((zah.f k x0 x4).bind fun bt338=>(if bt338.2.2=true then(if x3=0 then((zaR.f k bt338.1).bind fun t341=>(if t341=true then((zaU.f k bt338.1).bind fun t342=>(if t342=true then(zaC.l0 k x0 (wrap64 (x3+1)) (wrap64 (x4+bt338.2.1)))else(some false)))else(some false)))else((zaU.f k bt338.1).bind fun t343=>(if t343=true then(zaC.l0 k x0 (wrap64 (x3+1)) (wrap64 (x4+bt338.2.1)))else(some false))))else(some false)))else(if x3≥1 then(if x3≤16 then((zaI.f k x0).bind fun t337=>(some (!t337)))else(some false))else(some false))
def zaC.f (k:Nat) (a0:ByteArray):Option (Bool):=zaC.l0 k a0 0 0
theorem zaC.mono_l:∀k,(∀f D G,LeO (zaC.l0 k f D G) (zaC.l0 (k+1) f D G))
 |0=>fun _ _ _ r h=>by simp [zaC.l0]at h
 |k+1=>by
  have ih0:=zaC.mono_l k
  ·intro f D G;unfold zaC.l0
   repeat' first
   |(with_reducible exact ih0 _ _ _)
   |(with_reducible exact zah.mono _ _ _)
   |(with_reducible exact zaI.mono _ _)
   |(with_reducible exact zaU.mono _ _)
   |(with_reducible exact zaR.mono _ _)
   |(with_reducible exact LeO.refl _)
   |(with_reducible exact LeO.none _)
   |(with_reducible refine LeO.ite ?_ ?_)
   |(with_reducible refine LeO.bind ?_ (fun _=>?_))
   |exact ih0 _ _ _
   |exact zah.mono _ _ _
   |exact zaI.mono _ _
   |exact zaU.mono _ _
   |exact zaR.mono _ _
   |exact LeO.none _
   |refine LeO.ite ?_ ?_
   |refine LeO.bind ?_ (fun _=>?_)
theorem zaC.mono:∀a0 k,LeO (zaC.f k a0) (zaC.f (k+1) a0):=by
 intro a0 k
 have ih0:=zaC.mono_l k
 unfold zaC.f
 repeat' first
  |(with_reducible exact ih0 _ _ _)
  |(with_reducible exact zah.mono _ _ _)
  |(with_reducible exact zaI.mono _ _)
  |(with_reducible exact zaU.mono _ _)
  |(with_reducible exact zaR.mono _ _)
  |(with_reducible exact LeO.refl _)
  |(with_reducible exact LeO.none _)
  |(with_reducible refine LeO.ite ?_ ?_)
  |(with_reducible refine LeO.bind ?_ (fun _=>?_))
  |exact ih0 _ _ _
  |exact zah.mono _ _ _
  |exact zaI.mono _ _
  |exact zaU.mono _ _
  |exact zaR.mono _ _
  |exact LeO.none _
  |refine LeO.ite ?_ ?_
  |refine LeO.bind ?_ (fun _=>?_)
set_option maxHeartbeats 8000000 in
theorem zaC.calls (k:Nat) (a0:ByteArray) (r:Bool) (w:World) (h:zaC.f k a0=some r) :
 Calls Try.prog 64 #[.string a0] w fun e w'=>e= .returned (.bool r)∧Below w.heap.size w w':=by
 have HB:=mk (Below.refl w.heap.size w)
 have H:(zaC.l0 k a0 0 0)=some r:=h
 clear h
 have H':=mk H
 clear H
 go_enter Try.func64,Try.ntmps64
 go_wp2
 go_loopg [3,4] k (fun kq v3 v4 w'=>∃(I:Int) (D:Int),v3= .int .i64 I∧v4= .int .i64 D∧Aside0 (zaC.l0 kq a0 I D=some r)∧Aside0 (kq≤k)∧Aside0 (Below w.heap.size w w'))
 case atStart=>exact⟨(0),(0),kq3,kq3,H',⟨Nat.le_refl _⟩,⟨kq8⟩⟩
 case round=>
  clear H'
  obtain⟨I,D,rfl,rfl,HA,HK1,HB⟩:=hrel
  cases gk with
  |zero=>exact absurd HA.out (by simp [zaC.l0])
  |succ L=>
   have H:=HA.out;clear HA;simp only[zaC.l0]at H;replace H:=ic_ H;obtain⟨c2,H⟩|⟨c2,H⟩:=H
   ·have aj:=decide_eq_true c2;clear c2;replace H:=Option.bind_eq_some_iff.mp H;obtain⟨⟨G,J,ac⟩,ak,H⟩:=H;replace H:(if ac=true then(if I=0 then((zaR.f L G).bind fun X=>(if X=true then((zaU.f L G).bind fun M=>(if M=true then(zaC.l0 L a0 (wrap64 (I+1)) (wrap64 (D+J)))else(some false)))else(some false)))else((zaU.f L G).bind fun Y=>(if Y=true then(zaC.l0 L a0 (wrap64 (I+1)) (wrap64 (D+J)))else(some false))))else(some false))=some r:=H;have A3:=mk ak;clear ak;(by_cases c4:ac=true)
    ·subst c4;(have U:(if I=0 then((zaR.f L G).bind fun X=>(if X=true then((zaU.f L G).bind fun M=>(if M=true then(zaC.l0 L a0 (wrap64 (I+1)) (wrap64 (D+J)))else(some false)))else(some false)))else((zaU.f L G).bind fun Y=>(if Y=true then(zaC.l0 L a0 (wrap64 (I+1)) (wrap64 (D+J)))else(some false))))=some r:=by rw[if_pos rfl]at H;exact H);clear H;have H:=U;clear U;replace H:=ic_ H;obtain⟨c5,H⟩|⟨c5,H⟩:=H
     ·obtain⟨al,am⟩:=eTn_ c5;clear c5;replace H:=Option.bind_eq_some_iff.mp H;obtain⟨X,an,H⟩:=H;replace H:(if X=true then((zaU.f L G).bind fun M=>(if M=true then(zaC.l0 L a0 (wrap64 (I+1)) (wrap64 (D+J)))else(some false)))else(some false))=some r:=H;have A6:=mk an;clear an;(by_cases c7:X=true)
      ·subst c7;(have U:((zaU.f L G).bind fun M=>(if M=true then(zaC.l0 L a0 (wrap64 (I+1)) (wrap64 (D+J)))else(some false)))=some r:=by rw[if_pos rfl]at H;exact H);clear H;have H:=U;clear U;replace H:=Option.bind_eq_some_iff.mp H;obtain⟨M,ao,H⟩:=H;replace H:(if M=true then(zaC.l0 L a0 (wrap64 (I+1)) (wrap64 (D+J)))else(some false))=some r:=H;have A8:=mk ao;clear ao;(by_cases c9:M=true)
       ·subst c9;(have U:(zaC.l0 L a0 (wrap64 (I+1)) (wrap64 (D+J)))=some r:=by rw[if_pos rfl]at H;exact H);clear H;have H:=U;clear U;have H':=mk H;clear H;(go_wp2_with (first|((with_reducible refine zaE (f:=105) rfl ?_);refine za7 (some 15) rfl rfl Try.func105 kq0 rfl #[.string a0,.int .i64 D] rfl kq10 ?_;(with_reducible refine(zah.calls L a0 D G J true _ A3.out).mono ?_);rintro e w' ⟨rfl,⟨nd,rfl⟩⟩;refine⟨_,rfl,?_⟩)|(go_at_call 106;(with_reducible refine(zaR.calls L G true _ A6.out).mono ?_);rintro e ar ⟨rfl,hb⟩;replace HB:=mk (zaa kq8 hb))|(go_at_call 107;(with_reducible refine(zaU.calls L G true _ A8.out).mono ?_);rintro e au ⟨rfl,hb⟩;replace HB:=mk (zaa kq8 hb))));(go_roundg L)
        case measure=>have:=HK1.out;omega
        case rel=>exact⟨(wrap64 (I+1)),(wrap64 (D+J)),kq3,kq3,H',⟨kq19⟩,⟨kq8⟩⟩
       ·replace c9:=Bool.eq_false_iff.mpr c9;subst c9;(have U:(some false)=some r:=by rw[if_neg (show ¬(false=true) by decide)]at H;exact H);clear H;have H:=U;clear U;obtain rfl:=Option.some.inj H;(go_wp2_with (first|((with_reducible refine zaE (f:=105) rfl ?_);refine za7 (some 15) rfl rfl Try.func105 kq0 rfl #[.string a0,.int .i64 D] rfl kq10 ?_;(with_reducible refine(zah.calls L a0 D G J true _ A3.out).mono ?_);rintro e w' ⟨rfl,⟨nd,rfl⟩⟩;refine⟨_,rfl,?_⟩)|(go_at_call 106;(with_reducible refine(zaR.calls L G true _ A6.out).mono ?_);rintro e av ⟨rfl,hb⟩;replace HB:=mk (zaa kq8 hb))|(go_at_call 107;(with_reducible refine(zaU.calls L G false _ A8.out).mono ?_);rintro e aw ⟨rfl,hb⟩;replace HB:=mk (zaa kq8 hb))));go_ret;exact⟨kq18,kq8⟩
      ·replace c7:=Bool.eq_false_iff.mpr c7;subst c7;(have U:(some false)=some r:=by rw[if_neg (show ¬(false=true) by decide)]at H;exact H);clear H;have H:=U;clear U;obtain rfl:=Option.some.inj H;(go_wp2_with (first|((with_reducible refine zaE (f:=105) rfl ?_);refine za7 (some 15) rfl rfl Try.func105 kq0 rfl #[.string a0,.int .i64 D] rfl kq10 ?_;(with_reducible refine(zah.calls L a0 D G J true _ A3.out).mono ?_);rintro e w' ⟨rfl,⟨nd,rfl⟩⟩;refine⟨_,rfl,?_⟩)|(go_at_call 106;(with_reducible refine(zaR.calls L G false _ A6.out).mono ?_);rintro e ax ⟨rfl,hb⟩;replace HB:=mk (zaa kq8 hb))));go_ret;exact⟨kq18,kq8⟩
     ·obtain⟨al,am⟩:=eFn_ c5;replace H:=Option.bind_eq_some_iff.mp H;obtain⟨Y,ae,H⟩:=H;replace H:(if Y=true then(zaC.l0 L a0 (wrap64 (I+1)) (wrap64 (D+J)))else(some false))=some r:=H;have ap:=mk ae;clear ae;(by_cases ab:Y=true)
      ·subst ab;(have U:(zaC.l0 L a0 (wrap64 (I+1)) (wrap64 (D+J)))=some r:=by rw[if_pos rfl]at H;exact H);clear H;have H:=U;clear U;have H':=mk H;clear H;(go_wp2_with (first|((with_reducible refine zaE (f:=105) rfl ?_);refine za7 (some 15) rfl rfl Try.func105 kq0 rfl #[.string a0,.int .i64 D] rfl kq10 ?_;(with_reducible refine(zah.calls L a0 D G J true _ A3.out).mono ?_);rintro e w' ⟨rfl,⟨nd,rfl⟩⟩;refine⟨_,rfl,?_⟩)|(go_at_call 107;(with_reducible refine(zaU.calls L G true _ ap.out).mono ?_);rintro e ay ⟨rfl,hb⟩;replace HB:=mk (zaa kq8 hb))));(go_roundg L)
       case measure=>have:=HK1.out;omega
       case rel=>exact⟨(wrap64 (I+1)),(wrap64 (D+J)),kq3,kq3,H',⟨kq19⟩,⟨kq8⟩⟩
      ·replace ab:=Bool.eq_false_iff.mpr ab;subst ab;(have U:(some false)=some r:=by rw[if_neg (show ¬(false=true) by decide)]at H;exact H);clear H;have H:=U;clear U;obtain rfl:=Option.some.inj H;(go_wp2_with (first|((with_reducible refine zaE (f:=105) rfl ?_);refine za7 (some 15) rfl rfl Try.func105 kq0 rfl #[.string a0,.int .i64 D] rfl kq10 ?_;(with_reducible refine(zah.calls L a0 D G J true _ A3.out).mono ?_);rintro e w' ⟨rfl,⟨nd,rfl⟩⟩;refine⟨_,rfl,?_⟩)|(go_at_call 107;(with_reducible refine(zaU.calls L G false _ ap.out).mono ?_);rintro e az ⟨rfl,hb⟩;replace HB:=mk (zaa kq8 hb))));go_ret;exact⟨kq18,kq8⟩
    ·replace c4:=Bool.eq_false_iff.mpr c4;subst c4;(have U:(some false)=some r:=by rw[if_neg (show ¬(false=true) by decide)]at H;exact H);clear H;have H:=U;clear U;obtain rfl:=Option.some.inj H;(go_wp2_with (first|((with_reducible refine zaE (f:=105) rfl ?_);refine za7 (some 15) rfl rfl Try.func105 kq0 rfl #[.string a0,.int .i64 D] rfl kq10 ?_;(with_reducible refine(zah.calls L a0 D G J false _ A3.out).mono ?_);rintro e w' ⟨rfl,⟨nd,rfl⟩⟩;refine⟨_,rfl,?_⟩)));go_ret;exact⟨kq18,kq8⟩
   ·have aj:=decide_eq_false c2;clear c2;replace H:=ic_ H;obtain⟨Z,H⟩|⟨Z,H⟩:=H
    ·have ah:decide (1≤I)=true:=decide_eq_true Z;clear Z;replace H:=ic_ H;obtain⟨aa,H⟩|⟨aa,H⟩:=H
     ·have ai:=decide_eq_true aa;clear aa;replace H:=Option.bind_eq_some_iff.mp H;obtain⟨af,ag,H⟩:=H;replace H:(some (!af))=some r:=H;have aq:=mk ag;clear ag;obtain rfl:=Option.some.inj H;(go_wp2_with (first|(go_at_call 108;(with_reducible refine(zaI.calls L a0 af _ aq.out).mono ?_);rintro e aA ⟨rfl,hb⟩;replace HB:=mk (zaa kq8 hb))));go_ret;exact⟨kq18,kq8⟩
     ·have ai:=decide_eq_false aa;clear aa;obtain rfl:=Option.some.inj H;go_wp2;go_ret;exact⟨kq18,kq8⟩
    ·have ah:decide (1≤I)=false:=decide_eq_false Z;clear Z;obtain rfl:=Option.some.inj H;go_wp2;go_ret;exact⟨kq18,kq8⟩
end Go.Proofs.Ytjknpmibdkoklaa.Q
namespace Go.Proofs.Ytjknpmibdkoklaa.Q
open Go.RowKit Go.Proofs.YtjknpmibdkoklaaW.PrintWords Go.Proofs.YtjknpmibdkoklaaW.PrintLast Go.Proofs.YtjknpmibdkoklaaW.PrintMore
def zec (x:Int):List Int→Bool
 |a::b::t=>decide (a≤x∧x≤b)||zec x t
 |_=>false
theorem rdl {l:List Int} {i:Nat} (h:i<l.length):rd l (i:Int)=l[i]:=by
 unfold rd
 simp [List.getD_eq_getElem?_getD,h]
theorem zgx (x:Int) (l:List Int) (hl:l.length<1000):∀(d i:Nat),l.length-i≤d→i≤l.length+1→∀k,d<k→zaG.l0 k x l (i:Int)=some (zec x (l.drop i)):=by
 intro d
 induction d with
 |zero=>
  intro i hi f k hk
  obtain⟨k,rfl⟩:∃m,k=m+1:=⟨k-1,kq1⟩
  simp only[zaG.l0]
  rw[w64 (a:=(i:Int)+1) kq1 kq1,if_neg kq1,List.drop_eq_nil_of_le kq1]
  rfl
 |succ d ih=>
  intro i hi f k hk
  obtain⟨k,rfl⟩:∃m,k=m+1:=⟨k-1,kq1⟩
  simp only[zaG.l0]
  by_cases h:i+1<l.length
  ·rw[w64 (a:=(i:Int)+1) kq1 kq1,if_pos kq1,if_pos kq1,if_pos kq1,rdl kq1,show((i:Int)+1)=((i+1:Nat):Int) by omega,rdl h]
   rw[List.drop_eq_getElem_cons (show i<l.length by omega),List.drop_eq_getElem_cons h]
   have next:=ih (i+2) kq1 kq1 k kq1
   rw[w64 (a:=(i:Int)+2) kq1 kq1,show((i:Int)+2)=((i+2:Nat):Int) by omega,next]
   simp only[zec]
   by_cases h1:x≥l[i]
   ·rw[if_pos h1,if_pos kq1]
    by_cases h2:x≤l[i+1]
    ·rw[if_pos h2,decide_eq_true (show l[i]≤x∧x≤l[i+1]from⟨h1,h2⟩)]
     rfl
    ·rw[if_neg h2,decide_eq_false (fun h=>h2 h.2)]
     rfl
   ·rw[if_neg h1,decide_eq_false (fun h=>h1 h.1)]
    rfl
  ·rw[w64 (a:=(i:Int)+1) kq1 kq1,if_neg kq1]
   by_cases h1:i<l.length
   ·have:l.drop i=[l[i]]:=by rw[List.drop_eq_getElem_cons h1,List.drop_eq_nil_of_le kq1]
    rw[this]
    rfl
   ·rw[List.drop_eq_nil_of_le kq1]
    rfl
theorem zeN (x:Int) (l:List Int) (hl:l.length<1000) (k:Nat) (hk:l.length<k):zaG.f k x l=some (zec x l):=zgx x l hl l.length 0 kq1 kq1 k hk
theorem zf3 (k:Nat) (x:Int):zaR.f (k+13) x=some (zcO x):=by
 unfold zaR.f
 rw[zeN _ _ kq2 _ (by simp)]
 simp only[Option.bind_some,zec,zcO,Bool.or_false]
 congr 1
 rw[Bool.eq_iff_iff]
 simp only[Bool.or_eq_true,decide_eq_true_eq]
 omega
theorem ziI (k:Nat) (x:Int):zaU.f (k+13) x=some (zd9 x):=by
 unfold zaU.f
 rw[zf3]
 unfold zd9
 cases zcO x
 ·simp only[Option.bind_some]
  rw[if_neg kq2,zeN _ _ kq2 _ (by simp)]
  simp only[Option.bind_some,zec,Bool.or_false,Bool.false_or]
  congr 1
  rw[Bool.eq_iff_iff]
  simp only[Bool.or_eq_true,decide_eq_true_eq]
  omega
 ·rfl
theorem zfw (s:ByteArray) (l:List ByteArray) (hl:l.length<1000):∀(d i:Nat),i+d=l.length→∀k,d<k→zaI.l0 k s l (i:Int)=some ((l.drop i).any fun w=>w.toList==s.toList):=by
 intro d
 induction d with
 |zero=>
  intro i hi k hk
  obtain⟨k,rfl⟩:∃m,k=m+1:=⟨k-1,kq1⟩
  simp only[zaI.l0]
  rw[if_neg kq1,List.drop_of_length_le kq1]
  rfl
 |succ d ih=>
  intro i hi k hk
  obtain⟨k,rfl⟩:∃m,k=m+1:=⟨k-1,kq1⟩
  simp only[zaI.l0]
  have hx:rdOf ByteArray.empty l (i:Int)=l[i]'kq1:=by simp [rdOf,show i<l.length by omega]
  rw[if_pos kq1,if_pos kq1,hx,w64 kq1 kq1,show((i:Int)+1)=((i+1:Nat):Int) by omega,ih (i+1) kq1 k kq1,List.drop_eq_getElem_cons (i:=i) (show i<l.length by omega),List.any_cons]
  by_cases h:(l[i]'kq1).toList=s.toList
  ·rw[if_pos h,beq_iff_eq.2 h];rfl
  ·rw[if_neg h,beq_eq_false_iff_ne.2 h];rfl
theorem zek (k:Nat) (s:ByteArray):zaI.f (k+9) s=some (zcy s):=by
 unfold zaI.f
 rw[show(0:Int)=((0:Nat):Int)from rfl,zfw s _ kq2 8 0 rfl _ kq1,List.drop_zero]
 refine congrArg some ?_
 unfold zcy zb0.f
 have e:∀a:List UInt8,(a==s.toList)=decide (s.toList=a):=fun a=>by
  by_cases h:s.toList=a
  ·subst h;simp
  ·rw[decide_eq_false h,beq_eq_false_iff_ne.2 (fun e=>h e.symm)]
 simp only[List.any_cons,List.any_nil,e]
 rw[show(⟨#[97,110,100]⟩:ByteArray).toList=[97,110,100]from by decide +kernel,show(⟨#[111,114]⟩:ByteArray).toList=[111,114]from by decide +kernel,show(⟨#[110,111,116]⟩:ByteArray).toList=[110,111,116]from by decide +kernel,show(⟨#[101,120]⟩:ByteArray).toList=[101,120]from by decide +kernel,show(⟨#[97,108,108]⟩:ByteArray).toList=[97,108,108]from by decide +kernel,show(⟨#[109,111,100]⟩:ByteArray).toList=[109,111,100]from by decide +kernel,show(⟨#[116,114,117,101]⟩:ByteArray).toList=[116,114,117,101]from by decide +kernel,show(⟨#[102,97,108,115,101]⟩:ByteArray).toList=[102,97,108,115,101]from by decide +kernel]
 generalize s.toList=l
 (repeat' split)<;>simp_all
theorem zib (s:ByteArray) (hs:s.size≤140737488351232):∀(d pos n:Nat),s.size-pos≤d→n≤pos→(n=0↔pos=0)→pos≤s.size+4→Ev (fun k=>zaC.l0 k s (n:Int) (pos:Int)) ((zb2 s pos (n:Int)).1&&decide ((zb2 s pos (n:Int)).2>0)&&decide ((zb2 s pos (n:Int)).2≤16)&& !zcy s):=by
 intro d
 induction d with
 |zero=>
  intro pos n hd hn h0 hp
  refine EvK 10 (fun k=>?_)
  simp only[zaC.l0]
  rw[if_neg kq1,zb2,dif_neg kq1,zek]
  by_cases h1:(n:Int)≥1<;>by_cases h2:(n:Int)≤16<;>simp [h1,h2]<;>omega
 |succ d ih=>
  intro pos n hd hn h0 hp
  by_cases h:pos<s.size
  ·have h1:=zea s pos h
   obtain⟨h2,hbad,_⟩:=zgw s pos
   have hw:(zcw s pos).2.1=(Utf8.decode s pos).2:=by rw[h2]
   have hr:(zcw s pos).1=(Utf8.decode s pos).1:=by rw[h2]
   have hw4:(zcw s pos).2.1≤4:=by
    unfold zcw zeM
    repeat' split
    all_goals simp
   have next:=ih (pos+(Utf8.decode s pos).2) (n+1) kq1 kq1 kq1 kq1
   rw[zb2,dif_pos h]
   have hz:(pos==0)=decide ((n:Int)=0):=by
    by_cases r:n=0
    ·rw[h0.1 r,decide_eq_true (show(n:Int)=0 by omega)];rfl
    ·rw[decide_eq_false (show ¬(n:Int)=0 by omega),beq_eq_false_iff_ne.2 (fun e=>r (h0.2 e))]
   rw[hz,←hr]
   have rd0:Ev (fun k=>zah.f k s (pos:Int)) (((zcw s pos).1:Int),((zcw s pos).2.1:Int),(zcw s pos).2.2):=EvK 8 (fun k=>zjk hs h k)
   have st0:Ev (fun k=>zaR.f k ((zcw s pos).1:Int)) (zcO ((zcw s pos).1:Int)):=EvK 13 (fun k=>zf3 k _)
   have rt0:Ev (fun k=>zaU.f k ((zcw s pos).1:Int)) (zd9 ((zcw s pos).1:Int)):=EvK 13 (fun k=>ziI k _)
   have hstep:∀k,zaC.l0 (k+1) s (n:Int) (pos:Int)=(zah.f k s (pos:Int)).bind fun b=>(if b.2.2=true then(if(n:Int)=0 then((zaR.f k b.1).bind fun t=>(if t=true then((zaU.f k b.1).bind fun u=>(if u=true then zaC.l0 k s (wrap64 ((n:Int)+1)) (wrap64 ((pos:Int)+b.2.1))else some false))else some false))else((zaU.f k b.1).bind fun u=>(if u=true then zaC.l0 k s (wrap64 ((n:Int)+1)) (wrap64 ((pos:Int)+b.2.1))else some false)))else some false):=fun k=>by
    simp only[zaC.l0]
    rw[if_pos kq1]
   have hnx:Ev (fun k=>zaC.l0 k s (wrap64 ((n:Int)+1)) (wrap64 ((pos:Int)+((zcw s pos).2.1:Int)))) ((zb2 s (pos+(Utf8.decode s pos).2) (wrap64 ((n:Int)+1))).1&&decide ((zb2 s (pos+(Utf8.decode s pos).2) (wrap64 ((n:Int)+1))).2>0)&&decide ((zb2 s (pos+(Utf8.decode s pos).2) (wrap64 ((n:Int)+1))).2≤16)&& !zcy s):=by
    rw[w64 (a:=(n:Int)+1) kq1 kq1,hw,w64 kq1 kq1,show((n:Int)+1)=((n+1:Nat):Int) by omega,show((pos:Int)+(((Utf8.decode s pos).2:Nat):Int))=((pos+(Utf8.decode s pos).2:Nat):Int) by omega]
    exact next
   refine Ev.step hstep (Ev.bind rd0 ?_)
   cases hok:(zcw s pos).2.2 with
   |false=>
    have D:(zcw s pos).1=65533:=by rw[hbad hok]
    rw[D,show zd9 ((65533:Nat):Int)=false from by decide]
    simp only[Bool.not_false,Bool.or_true,if_true,Bool.false_and]
    exact Ev.congr (fun k=>if_neg kq2) (Ev.now false)
   |true=>
    refine Ev.congr (fun k=>if_pos rfl) ?_
    by_cases r:(n:Int)=0
    ·refine Ev.congr (fun k=>if_pos r) (Ev.bind st0 ?_)
     rw[decide_eq_true r]
     cases zcO ((zcw s pos).1:Int)with
     |false=>exact Ev.congr (fun k=>if_neg kq2) (Ev.now false)
     |true=>
      refine Ev.congr (fun k=>if_pos rfl) (Ev.bind rt0 ?_)
      cases zd9 ((zcw s pos).1:Int)with
      |false=>exact Ev.congr (fun k=>if_neg kq2) (Ev.now false)
      |true=>exact Ev.congr (fun k=>if_pos rfl) hnx
    ·refine Ev.congr (fun k=>if_neg r) (Ev.bind rt0 ?_)
     rw[decide_eq_false r]
     cases zd9 ((zcw s pos).1:Int)with
     |false=>exact Ev.congr (fun k=>if_neg kq2) (Ev.now false)
     |true=>exact Ev.congr (fun k=>if_pos rfl) hnx
  ·refine EvK 10 (fun k=>?_)
   simp only[zaC.l0]
   rw[if_neg kq1,zb2,dif_neg kq1,zek]
   by_cases h1:(n:Int)≥1<;>by_cases h2:(n:Int)≤16<;>simp [h1,h2]<;>omega
theorem zic (s:ByteArray) (hs:s.size≤140737488351232):Ev (fun k=>zaC.f k s) (zcE s):=zib s hs s.size 0 0 kq1 kq1 kq1 kq1
end Go.Proofs.Ytjknpmibdkoklaa.Q
namespace Go.Proofs.Ytjknpmibdkoklaa.Q
open Go.RowKit Go.Proofs.YtjknpmibdkoklaaW.PrintWords Go.Proofs.YtjknpmibdkoklaaW.PrintLast Go.Proofs.YtjknpmibdkoklaaW.PrintMore
open Aside0 (mk)
open List (setIfInBounds_toArray set_cons_zero set_cons_succ)
attribute [local go_sem] zbw zbz zbP zbQ zbm zbn zbA zbB
set_option linter.unusedVariables false
set_option linter.unusedSimpArgs false
attribute [local go_sem] zbS zbD zbE zbF
def zcu.f (a0_0 a0_1:Int) (a0_2:ByteArray) (l0_3:List (S66)):Option (Bool):=if a0_0=0 then(if a0_1≥0 then(if a0_2.toList=([]:List UInt8)then(some ((l0_3.length:Int)==0))else(some false))else(some false))else(if a0_0=1 then(if a0_1=0 then((za5.f a0_2).bind fun t103=>(if t103=true then(some ((l0_3.length:Int)==0))else(some false)))else(some false))else(if a0_0=2 then(if a0_1=0 then(if a0_2.toList=([]:List UInt8)then(some ((l0_3.length:Int)==1))else(some false))else(some false))else(if a0_0=3 then(if a0_1=0 then(if a0_2.toList=([]:List UInt8)then(some ((l0_3.length:Int)==2))else(some false))else(some false))else(if a0_0=4 then(if a0_1=0 then(if a0_2.toList=([]:List UInt8)then(some ((l0_3.length:Int)==2))else(some false))else(some false))else(if a0_0=5 then(if a0_1=0 then(if a0_2.toList=([]:List UInt8)then(some ((l0_3.length:Int)==2))else(some false))else(some false))else(some false))))))
set_option maxHeartbeats 8000000 in
theorem zcu.calls (L a0_1:Int) (a0_2:ByteArray) (U:Option Addr) (X:Nat) (J:List (S66)) (r:Bool) (w:World) (aa:Kd.C k66 w U J.length J) (hc0_3:J.length≤X) (h:zcu.f L a0_1 a0_2 J=some r) :
 Calls Try.prog 165 #[.agg #[.int .i64 L,.int .i64 a0_1,.string a0_2,.slice U J.length X]] w fun e w'=>e= .returned (.bool r)∧Below w.heap.size w w':=by
 have bg:=Try.underlying66
 have be:=mk aa
 have bf:=mk hc0_3
 clear aa hc0_3
 have HB:=mk (Below.refl w.heap.size w)
 have H:(if L=0 then(if a0_1≥0 then(if a0_2.toList=([]:List UInt8)then(some ((J.length:Int)==0))else(some false))else(some false))else(if L=1 then(if a0_1=0 then((za5.f a0_2).bind fun Y=>(if Y=true then(some ((J.length:Int)==0))else(some false)))else(some false))else(if L=2 then(if a0_1=0 then(if a0_2.toList=([]:List UInt8)then(some ((J.length:Int)==1))else(some false))else(some false))else(if L=3 then(if a0_1=0 then(if a0_2.toList=([]:List UInt8)then(some ((J.length:Int)==2))else(some false))else(some false))else(if L=4 then(if a0_1=0 then(if a0_2.toList=([]:List UInt8)then(some ((J.length:Int)==2))else(some false))else(some false))else(if L=5 then(if a0_1=0 then(if a0_2.toList=([]:List UInt8)then(some ((J.length:Int)==2))else(some false))else(some false))else(some false)))))))=some r:=h
 clear h
 by_cases c2:L=0
 ·rw[if_pos c2]at H
  have b7:=eT_ c2
  have b8:=nF_ c2
  clear c2
  replace H:=ic_ H;obtain⟨c3,H⟩|⟨c3,H⟩:=H
  ·have b9:decide (0≤a0_1)=true:=decide_eq_true c3;clear c3;replace H:=ic_ H;obtain⟨c4,H⟩|⟨c4,H⟩:=H
   ·obtain⟨ba,bb⟩:=eTn_ c4;clear c4;obtain rfl:=Option.some.inj H;(go_enter Try.func165,Try.ntmps165);(go_wp2_with (first|((with_reducible refine zao (N:=1) rfl ?_);refine zal ?hg (N:=1) ?hd (cs:=#[.int .i64 L,.int .i64 a0_1,.string a0_2,.slice U J.length X]) (t:=66) ?hr ?_;(case hd=>rfl);(case hg=>rfl);(case hr=>exact kq21);intro M hg w5 hbox hb;have D:=mk (hbox);have I:=(gs_ hg kq8);have G:=I;replace HB:=mk (zaa kq8 hb);clear hb hbox hg;obtain⟨_,_,_,_,_,_,_,_⟩:=cz4_ D.out)));(repeat(go_quiet (fail);try go_wp2));go_ret;exact⟨kq18,(kq20 G)⟩
   ·obtain⟨ba,bb⟩:=eFn_ c4;obtain rfl:=Option.some.inj H;(go_enter Try.func165,Try.ntmps165);(go_wp2_with (first|((with_reducible refine zao (N:=1) rfl ?_);refine zal ?hg (N:=1) ?hd (cs:=#[.int .i64 L,.int .i64 a0_1,.string a0_2,.slice U J.length X]) (t:=66) ?hr ?_;(case hd=>rfl);(case hg=>rfl);(case hr=>exact kq21);intro M hg w7 hbox hb;have D:=mk (hbox);have I:=(gs_ hg kq8);have G:=I;replace HB:=mk (zaa kq8 hb);clear hb hbox hg;obtain⟨_,_,_,_,_,_,_,_⟩:=cz4_ D.out)));(repeat(go_quiet (fail);try go_wp2));go_ret;exact⟨kq18,(kq20 G)⟩
  ·have b9:decide (0≤a0_1)=false:=decide_eq_false c3;clear c3;obtain rfl:=Option.some.inj H;(go_enter Try.func165,Try.ntmps165);(go_wp2_with (first|((with_reducible refine zao (N:=1) rfl ?_);refine zal ?hg (N:=1) ?hd (cs:=#[.int .i64 L,.int .i64 a0_1,.string a0_2,.slice U J.length X]) (t:=66) ?hr ?_;(case hd=>rfl);(case hg=>rfl);(case hr=>exact kq21);intro M hg w9 hbox hb;have D:=mk (hbox);have I:=(gs_ hg kq8);have G:=I;replace HB:=mk (zaa kq8 hb);clear hb hbox hg;obtain⟨_,_,_,_,_,_,_,_⟩:=cz4_ D.out)));(repeat(go_quiet (fail);try go_wp2));go_ret;exact⟨kq18,(kq20 G)⟩
 ·rw[if_neg c2]at H
  have b7:=eF_ c2
  have b8:=nT_ c2
  replace H:=ic_ H;obtain⟨ab,H⟩|⟨ab,H⟩:=H
  ·obtain⟨au,av⟩:=eTn_ ab;clear ab;replace H:=ic_ H;obtain⟨ac,H⟩|⟨ac,H⟩:=H
   ·obtain⟨aw,ax⟩:=eTn_ ac;clear ac;replace H:=Option.bind_eq_some_iff.mp H;obtain⟨Y,ar,H⟩:=H;replace H:(if Y=true then(some ((J.length:Int)==0))else(some false))=some r:=H;have Z:=mk ar;clear ar;(by_cases ae:Y=true)
    ·subst ae;(have H1:(some ((J.length:Int)==0))=some r:=by rw[if_pos rfl]at H;exact H);clear H;have H:=H1;clear H1;obtain rfl:=Option.some.inj H;(go_enter Try.func165,Try.ntmps165);(go_wp2_with (first|((with_reducible refine zao (N:=1) rfl ?_);refine zal ?hg (N:=1) ?hd (cs:=#[.int .i64 L,.int .i64 a0_1,.string a0_2,.slice U J.length X]) (t:=66) ?hr ?_;(case hd=>rfl);(case hg=>rfl);(case hr=>exact kq21);intro M hg bh hbox hb;have D:=mk (hbox);have I:=(gs_ hg kq8);have G:=I;replace HB:=mk (zaa kq8 hb);clear hb hbox hg;obtain⟨_,_,_,_,_,_,_,_⟩:=cz4_ D.out)|(go_at_call 41;(with_reducible refine(za5.calls a0_2 true _ Z.out).mono ?_);rintro e bc ⟨rfl,hb⟩;replace D:=(bb_ D hb);replace HB:=mk (zaa (kq20 G) hb))));(repeat(go_quiet (first|(go_at_call 41;(with_reducible refine(za5.calls a0_2 true _ Z.out).mono ?_);rintro e bc ⟨rfl,hb⟩;replace D:=(bb_ D hb);replace HB:=mk (zaa (kq20 G) hb)));try go_wp2_with (first|(go_at_call 41;(with_reducible refine(za5.calls a0_2 true _ Z.out).mono ?_);rintro e bc ⟨rfl,hb⟩;replace D:=(bb_ D hb);replace HB:=mk (zaa (kq20 G) hb)))));go_ret;exact⟨kq18,(kq20 G)⟩
    ·replace ae:=Bool.eq_false_iff.mpr ae;subst ae;(have H1:(some false)=some r:=by rw[if_neg (show ¬(false=true) by decide)]at H;exact H);clear H;have H:=H1;clear H1;obtain rfl:=Option.some.inj H;(go_enter Try.func165,Try.ntmps165);(go_wp2_with (first|((with_reducible refine zao (N:=1) rfl ?_);refine zal ?hg (N:=1) ?hd (cs:=#[.int .i64 L,.int .i64 a0_1,.string a0_2,.slice U J.length X]) (t:=66) ?hr ?_;(case hd=>rfl);(case hg=>rfl);(case hr=>exact kq21);intro M hg bi hbox hb;have D:=mk (hbox);have I:=(gs_ hg kq8);have G:=I;replace HB:=mk (zaa kq8 hb);clear hb hbox hg;obtain⟨_,_,_,_,_,_,_,_⟩:=cz4_ D.out)|(go_at_call 41;(with_reducible refine(za5.calls a0_2 false _ Z.out).mono ?_);rintro e bd ⟨rfl,hb⟩;replace D:=(bb_ D hb);replace HB:=mk (zaa (kq20 G) hb))));(repeat(go_quiet (first|(go_at_call 41;(with_reducible refine(za5.calls a0_2 false _ Z.out).mono ?_);rintro e bd ⟨rfl,hb⟩;replace D:=(bb_ D hb);replace HB:=mk (zaa (kq20 G) hb)));try go_wp2_with (first|(go_at_call 41;(with_reducible refine(za5.calls a0_2 false _ Z.out).mono ?_);rintro e bd ⟨rfl,hb⟩;replace D:=(bb_ D hb);replace HB:=mk (zaa (kq20 G) hb)))));go_ret;exact⟨kq18,(kq20 G)⟩
   ·obtain⟨aw,ax⟩:=eFn_ ac;obtain rfl:=Option.some.inj H;(go_enter Try.func165,Try.ntmps165);(go_wp2_with (first|((with_reducible refine zao (N:=1) rfl ?_);refine zal ?hg (N:=1) ?hd (cs:=#[.int .i64 L,.int .i64 a0_1,.string a0_2,.slice U J.length X]) (t:=66) ?hr ?_;(case hd=>rfl);(case hg=>rfl);(case hr=>exact kq21);intro M hg bj hbox hb;have D:=mk (hbox);have I:=(gs_ hg kq8);have G:=I;replace HB:=mk (zaa kq8 hb);clear hb hbox hg;obtain⟨_,_,_,_,_,_,_,_⟩:=cz4_ D.out)));(repeat(go_quiet (fail);try go_wp2));go_ret;exact⟨kq18,(kq20 G)⟩
  ·obtain⟨au,av⟩:=eFn_ ab;replace H:=ic_ H;obtain⟨af,H⟩|⟨af,H⟩:=H
   ·obtain⟨ay,az⟩:=eTn_ af;clear af;replace H:=ic_ H;obtain⟨ag,H⟩|⟨ag,H⟩:=H
    ·obtain⟨aA,aC⟩:=eTn_ ag;clear ag;replace H:=ic_ H;obtain⟨ah,H⟩|⟨ah,H⟩:=H
     ·obtain⟨aD,aE⟩:=eTn_ ah;clear ah;obtain rfl:=Option.some.inj H;(go_enter Try.func165,Try.ntmps165);(go_wp2_with (first|((with_reducible refine zao (N:=1) rfl ?_);refine zal ?hg (N:=1) ?hd (cs:=#[.int .i64 L,.int .i64 a0_1,.string a0_2,.slice U J.length X]) (t:=66) ?hr ?_;(case hd=>rfl);(case hg=>rfl);(case hr=>exact kq21);intro M hg bk hbox hb;have D:=mk (hbox);have I:=(gs_ hg kq8);have G:=I;replace HB:=mk (zaa kq8 hb);clear hb hbox hg;obtain⟨_,_,_,_,_,_,_,_⟩:=cz4_ D.out)));(repeat(go_quiet (fail);try go_wp2));go_ret;exact⟨kq18,(kq20 G)⟩
     ·obtain⟨aD,aE⟩:=eFn_ ah;obtain rfl:=Option.some.inj H;(go_enter Try.func165,Try.ntmps165);(go_wp2_with (first|((with_reducible refine zao (N:=1) rfl ?_);refine zal ?hg (N:=1) ?hd (cs:=#[.int .i64 L,.int .i64 a0_1,.string a0_2,.slice U J.length X]) (t:=66) ?hr ?_;(case hd=>rfl);(case hg=>rfl);(case hr=>exact kq21);intro M hg bm hbox hb;have D:=mk (hbox);have I:=(gs_ hg kq8);have G:=I;replace HB:=mk (zaa kq8 hb);clear hb hbox hg;obtain⟨_,_,_,_,_,_,_,_⟩:=cz4_ D.out)));(repeat(go_quiet (fail);try go_wp2));go_ret;exact⟨kq18,(kq20 G)⟩
    ·obtain⟨aA,aC⟩:=eFn_ ag;obtain rfl:=Option.some.inj H;(go_enter Try.func165,Try.ntmps165);(go_wp2_with (first|((with_reducible refine zao (N:=1) rfl ?_);refine zal ?hg (N:=1) ?hd (cs:=#[.int .i64 L,.int .i64 a0_1,.string a0_2,.slice U J.length X]) (t:=66) ?hr ?_;(case hd=>rfl);(case hg=>rfl);(case hr=>exact kq21);intro M hg bn hbox hb;have D:=mk (hbox);have I:=(gs_ hg kq8);have G:=I;replace HB:=mk (zaa kq8 hb);clear hb hbox hg;obtain⟨_,_,_,_,_,_,_,_⟩:=cz4_ D.out)));(repeat(go_quiet (fail);try go_wp2));go_ret;exact⟨kq18,(kq20 G)⟩
   ·obtain⟨ay,az⟩:=eFn_ af;replace H:=ic_ H;obtain⟨ai,H⟩|⟨ai,H⟩:=H
    ·obtain⟨aG,aH⟩:=eTn_ ai;clear ai;replace H:=ic_ H;obtain⟨aj,H⟩|⟨aj,H⟩:=H
     ·obtain⟨aI,aJ⟩:=eTn_ aj;clear aj;replace H:=ic_ H;obtain⟨ak,H⟩|⟨ak,H⟩:=H
      ·obtain⟨aK,aM⟩:=eTn_ ak;clear ak;obtain rfl:=Option.some.inj H;(go_enter Try.func165,Try.ntmps165);(go_wp2_with (first|((with_reducible refine zao (N:=1) rfl ?_);refine zal ?hg (N:=1) ?hd (cs:=#[.int .i64 L,.int .i64 a0_1,.string a0_2,.slice U J.length X]) (t:=66) ?hr ?_;(case hd=>rfl);(case hg=>rfl);(case hr=>exact kq21);intro M hg bo hbox hb;have D:=mk (hbox);have I:=(gs_ hg kq8);have G:=I;replace HB:=mk (zaa kq8 hb);clear hb hbox hg;obtain⟨_,_,_,_,_,_,_,_⟩:=cz4_ D.out)));(repeat(go_quiet (fail);try go_wp2));go_ret;exact⟨kq18,(kq20 G)⟩
      ·obtain⟨aK,aM⟩:=eFn_ ak;obtain rfl:=Option.some.inj H;(go_enter Try.func165,Try.ntmps165);(go_wp2_with (first|((with_reducible refine zao (N:=1) rfl ?_);refine zal ?hg (N:=1) ?hd (cs:=#[.int .i64 L,.int .i64 a0_1,.string a0_2,.slice U J.length X]) (t:=66) ?hr ?_;(case hd=>rfl);(case hg=>rfl);(case hr=>exact kq21);intro M hg bp hbox hb;have D:=mk (hbox);have I:=(gs_ hg kq8);have G:=I;replace HB:=mk (zaa kq8 hb);clear hb hbox hg;obtain⟨_,_,_,_,_,_,_,_⟩:=cz4_ D.out)));(repeat(go_quiet (fail);try go_wp2));go_ret;exact⟨kq18,(kq20 G)⟩
     ·obtain⟨aI,aJ⟩:=eFn_ aj;obtain rfl:=Option.some.inj H;(go_enter Try.func165,Try.ntmps165);(go_wp2_with (first|((with_reducible refine zao (N:=1) rfl ?_);refine zal ?hg (N:=1) ?hd (cs:=#[.int .i64 L,.int .i64 a0_1,.string a0_2,.slice U J.length X]) (t:=66) ?hr ?_;(case hd=>rfl);(case hg=>rfl);(case hr=>exact kq21);intro M hg br hbox hb;have D:=mk (hbox);have I:=(gs_ hg kq8);have G:=I;replace HB:=mk (zaa kq8 hb);clear hb hbox hg;obtain⟨_,_,_,_,_,_,_,_⟩:=cz4_ D.out)));(repeat(go_quiet (fail);try go_wp2));go_ret;exact⟨kq18,(kq20 G)⟩
    ·obtain⟨aG,aH⟩:=eFn_ ai;replace H:=ic_ H;obtain⟨al,H⟩|⟨al,H⟩:=H
     ·obtain⟨aN,aQ⟩:=eTn_ al;clear al;replace H:=ic_ H;obtain⟨am,H⟩|⟨am,H⟩:=H
      ·obtain⟨aT,aU⟩:=eTn_ am;clear am;replace H:=ic_ H;obtain⟨an,H⟩|⟨an,H⟩:=H
       ·obtain⟨aV,aW⟩:=eTn_ an;clear an;obtain rfl:=Option.some.inj H;(go_enter Try.func165,Try.ntmps165);(go_wp2_with (first|((with_reducible refine zao (N:=1) rfl ?_);refine zal ?hg (N:=1) ?hd (cs:=#[.int .i64 L,.int .i64 a0_1,.string a0_2,.slice U J.length X]) (t:=66) ?hr ?_;(case hd=>rfl);(case hg=>rfl);(case hr=>exact kq21);intro M hg bs hbox hb;have D:=mk (hbox);have I:=(gs_ hg kq8);have G:=I;replace HB:=mk (zaa kq8 hb);clear hb hbox hg;obtain⟨_,_,_,_,_,_,_,_⟩:=cz4_ D.out)));(repeat(go_quiet (fail);try go_wp2));go_ret;exact⟨kq18,(kq20 G)⟩
       ·obtain⟨aV,aW⟩:=eFn_ an;obtain rfl:=Option.some.inj H;(go_enter Try.func165,Try.ntmps165);(go_wp2_with (first|((with_reducible refine zao (N:=1) rfl ?_);refine zal ?hg (N:=1) ?hd (cs:=#[.int .i64 L,.int .i64 a0_1,.string a0_2,.slice U J.length X]) (t:=66) ?hr ?_;(case hd=>rfl);(case hg=>rfl);(case hr=>exact kq21);intro M hg bu hbox hb;have D:=mk (hbox);have I:=(gs_ hg kq8);have G:=I;replace HB:=mk (zaa kq8 hb);clear hb hbox hg;obtain⟨_,_,_,_,_,_,_,_⟩:=cz4_ D.out)));(repeat(go_quiet (fail);try go_wp2));go_ret;exact⟨kq18,(kq20 G)⟩
      ·obtain⟨aT,aU⟩:=eFn_ am;obtain rfl:=Option.some.inj H;(go_enter Try.func165,Try.ntmps165);(go_wp2_with (first|((with_reducible refine zao (N:=1) rfl ?_);refine zal ?hg (N:=1) ?hd (cs:=#[.int .i64 L,.int .i64 a0_1,.string a0_2,.slice U J.length X]) (t:=66) ?hr ?_;(case hd=>rfl);(case hg=>rfl);(case hr=>exact kq21);intro M hg bv hbox hb;have D:=mk (hbox);have I:=(gs_ hg kq8);have G:=I;replace HB:=mk (zaa kq8 hb);clear hb hbox hg;obtain⟨_,_,_,_,_,_,_,_⟩:=cz4_ D.out)));(repeat(go_quiet (fail);try go_wp2));go_ret;exact⟨kq18,(kq20 G)⟩
     ·obtain⟨aN,aQ⟩:=eFn_ al;replace H:=ic_ H;obtain⟨ao,H⟩|⟨ao,H⟩:=H
      ·obtain⟨aX,aY⟩:=eTn_ ao;clear ao;replace H:=ic_ H;obtain⟨ap,H⟩|⟨ap,H⟩:=H
       ·obtain⟨aZ,b4⟩:=eTn_ ap;clear ap;replace H:=ic_ H;obtain⟨aq,H⟩|⟨aq,H⟩:=H
        ·obtain⟨b5,b6⟩:=eTn_ aq;clear aq;obtain rfl:=Option.some.inj H;(go_enter Try.func165,Try.ntmps165);(go_wp2_with (first|((with_reducible refine zao (N:=1) rfl ?_);refine zal ?hg (N:=1) ?hd (cs:=#[.int .i64 L,.int .i64 a0_1,.string a0_2,.slice U J.length X]) (t:=66) ?hr ?_;(case hd=>rfl);(case hg=>rfl);(case hr=>exact kq21);intro M hg bw hbox hb;have D:=mk (hbox);have I:=(gs_ hg kq8);have G:=I;replace HB:=mk (zaa kq8 hb);clear hb hbox hg;obtain⟨_,_,_,_,_,_,_,_⟩:=cz4_ D.out)));(repeat(go_quiet (fail);try go_wp2));go_ret;exact⟨kq18,(kq20 G)⟩
        ·obtain⟨b5,b6⟩:=eFn_ aq;obtain rfl:=Option.some.inj H;(go_enter Try.func165,Try.ntmps165);(go_wp2_with (first|((with_reducible refine zao (N:=1) rfl ?_);refine zal ?hg (N:=1) ?hd (cs:=#[.int .i64 L,.int .i64 a0_1,.string a0_2,.slice U J.length X]) (t:=66) ?hr ?_;(case hd=>rfl);(case hg=>rfl);(case hr=>exact kq21);intro M hg bx hbox hb;have D:=mk (hbox);have I:=(gs_ hg kq8);have G:=I;replace HB:=mk (zaa kq8 hb);clear hb hbox hg;obtain⟨_,_,_,_,_,_,_,_⟩:=cz4_ D.out)));(repeat(go_quiet (fail);try go_wp2));go_ret;exact⟨kq18,(kq20 G)⟩
       ·obtain⟨aZ,b4⟩:=eFn_ ap;obtain rfl:=Option.some.inj H;(go_enter Try.func165,Try.ntmps165);(go_wp2_with (first|((with_reducible refine zao (N:=1) rfl ?_);refine zal ?hg (N:=1) ?hd (cs:=#[.int .i64 L,.int .i64 a0_1,.string a0_2,.slice U J.length X]) (t:=66) ?hr ?_;(case hd=>rfl);(case hg=>rfl);(case hr=>exact kq21);intro M hg bz hbox hb;have D:=mk (hbox);have I:=(gs_ hg kq8);have G:=I;replace HB:=mk (zaa kq8 hb);clear hb hbox hg;obtain⟨_,_,_,_,_,_,_,_⟩:=cz4_ D.out)));(repeat(go_quiet (fail);try go_wp2));go_ret;exact⟨kq18,(kq20 G)⟩
      ·obtain⟨aX,aY⟩:=eFn_ ao;obtain rfl:=Option.some.inj H;(go_enter Try.func165,Try.ntmps165);(go_wp2_with (first|((with_reducible refine zao (N:=1) rfl ?_);refine zal ?hg (N:=1) ?hd (cs:=#[.int .i64 L,.int .i64 a0_1,.string a0_2,.slice U J.length X]) (t:=66) ?hr ?_;(case hd=>rfl);(case hg=>rfl);(case hr=>exact kq21);intro M hg bA hbox hb;have D:=mk (hbox);have I:=(gs_ hg kq8);have G:=I;replace HB:=mk (zaa kq8 hb);clear hb hbox hg;obtain⟨_,_,_,_,_,_,_,_⟩:=cz4_ D.out)));(repeat(go_quiet (fail);try go_wp2));go_ret;exact⟨kq18,(kq20 G)⟩
end Go.Proofs.Ytjknpmibdkoklaa.Q
