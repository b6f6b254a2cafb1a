/- Functions of the given program as Lean functions, each with its contract, and what they answer; words for it. No condition but those of each. -/
import Derived.Test.YtjknpmibdkoklaaMNS
import Derived.Test.YtjknpmibdkoklaaMNR
import Derived.Test.YtjknpmibdkoklaaMN3
set_option maxRecDepth 100000
set_option linter.unusedVariables false
set_option linter.unusedSimpArgs false
namespace Go.Proofs.Ytjknpmibdkoklaa.Q
open Go.RowKit Go.Proofs.YtjknpmibdkoklaaW.PrintWords Go.Proofs.YtjknpmibdkoklaaW.PrintLast Go.Proofs.YtjknpmibdkoklaaW.PrintMore
open Aside0 (mk)
open List (setIfInBounds_toArray set_cons_zero set_cons_succ)
attribute [local go_sem] zbw zbz zbP zbQ zbm zbn zbA zbB
set_option linter.unusedVariables false
set_option linter.unusedSimpArgs false
attribute [local go_sem] zbS zbD zbE zbF
def zbW (w0 W:World) (g:Nat) (f0 f1 f2:Int):Prop:=W.heap[g]?=some (.cells #[.int .i64 f0,.int .i64 f1,.int .i64 f2] 99 (0,0))∧w0.heap.size≤g
theorem zbW.grown {w0 W:World} {g:Nat} {f:Int} {r:Int} {D:Int} {W1:World} {row:Option Nat} (h:zbW w0 W g f r D) (hw:W.grownBy W1 row) (hne:some g≠row):zbW w0 W1 g f r D:=by
 obtain⟨hb,hg⟩:=h
 exact⟨zaJ hb hw hne,hg⟩
theorem zbW.kept {w0 W:World} {g:Nat} {f:Int} {r:Int} {D:Int} {W1:World} {S:Nat→Prop} (h:zbW w0 W g f r D) (hk:Kept W W1 S) (hne:¬S g):zbW w0 W1 g f r D:=by
 obtain⟨hb,hg⟩:=h
 exact⟨zbN hb hk hne,hg⟩
theorem zbW.below {w0 W:World} {g:Nat} {f:Int} {r:Int} {D:Int} {W1:World} (h:zbW w0 W g f r D) (hw:Below W.heap.size W W1):zbW w0 W1 g f r D:=h.grown (zdp hw none) (by simp)
theorem zbW.alloc {w0 W:World} {g:Nat} {f:Int} {r:Int} {D:Int} (h:zbW w0 W g f r D) (o:Obj):zbW w0 (W.alloc o) g f r D:=h.below (zaS (Below.refl _ _) o)
theorem zbW.drewN {w0 W:World} {g:Nat} {f:Int} {r:Int} {D:Int} (h:zbW w0 W g f r D) (m:Nat):zbW w0 (W.drewN m) g f r D:=h
theorem zbW.drew {w0 W:World} {g:Nat} {f:Int} {r:Int} {D:Int} (h:zbW w0 W g f r D):zbW w0 W.drew g f r D:=h
theorem zbW.at_ {w0 W:World} {g:Nat} {f:Int} {r:Int} {D:Int} {w':World} {m:Nat} (hq:W.drewN m=w') (h:zbW w0 W g f r D):zbW w0 w' g f r D:=by subst hq;exact zbW.drewN h m
theorem zbW.apart {w0 W:World} {g:Nat} {f:Int} {r:Int} {D:Int} {α:Type} {d:Kd α} {e:Nat} {base:Nat} {ok:Nat→Prop} {v:Value} {xs:List α} (h:zbW w0 W g f r D) (ho:d.R e W base ok v xs) (ht:∀q,q ∈ e::d.E→q≠99):d.R e W base (fun k=>ok k∧k≠g) v xs:=by
 obtain⟨hb,hg⟩:=h
 exact Kd.R_types ho hb ht
theorem zbW.own_ne {w0 W:World} {g:Nat} {f:Int} {r:Int} {D:Int} {α:Type} {d:Kd α} {e:Nat} {base:Nat} {ok:Nat→Prop} {v:Value} {xs:List α} (h:zbW w0 W g f r D) (ho:d.R e W base ok v xs) (ht:e≠99):some g≠v.ownBlock:=by
 obtain⟨hb,hg⟩:=h
 exact Kd.R_ne ho hb ht
theorem zbW.ge {w0 W:World} {g:Nat} {f:Int} {r:Int} {D:Int} (h:zbW w0 W g f r D):w0.heap.size≤g:=by
 obtain⟨hb,hg⟩:=h
 exact hg
theorem zdW {W:World} {g:Nat} {f:Int} {r:Int} {D:Int} (h:W.heap[g]?=some (.cells #[.int .i64 f,.int .i64 r,.int .i64 D] 99 (0,0))):W.cell? ⟨g,0,none⟩=some (.int .i64 f):=(za1 h 0).trans rfl
theorem zbW.set_0 {w0 W:World} {g:Nat} {D:Int} {f:Int} {r:Int} (h:zbW w0 W g D f r) (x:Int):zbW w0 (W.setCell ⟨g,0,none⟩ (.int .i64 x)) g x f r:=by
 obtain⟨hb,hg⟩:=h
 exact⟨by simpa using zdt hb 0 (.int .i64 x),hg⟩
theorem zdX {W:World} {g:Nat} {r:Int} {f:Int} {D:Int} (h:W.heap[g]?=some (.cells #[.int .i64 r,.int .i64 f,.int .i64 D] 99 (0,0))):W.cell? ⟨g,1,none⟩=some (.int .i64 f):=(za1 h 1).trans rfl
theorem zbW.set_1 {w0 W:World} {g:Nat} {f:Int} {D:Int} {r:Int} (h:zbW w0 W g f D r) (x:Int):zbW w0 (W.setCell ⟨g,1,none⟩ (.int .i64 x)) g f x r:=by
 obtain⟨hb,hg⟩:=h
 exact⟨by simpa using zdt hb 1 (.int .i64 x),hg⟩
theorem zdY {W:World} {g:Nat} {r:Int} {D:Int} {f:Int} (h:W.heap[g]?=some (.cells #[.int .i64 r,.int .i64 D,.int .i64 f] 99 (0,0))):W.cell? ⟨g,2,none⟩=some (.int .i64 f):=(za1 h 2).trans rfl
theorem zbW.set_2 {w0 W:World} {g:Nat} {f:Int} {r:Int} {D:Int} (h:zbW w0 W g f r D) (x:Int):zbW w0 (W.setCell ⟨g,2,none⟩ (.int .i64 x)) g f r x:=by
 obtain⟨hb,hg⟩:=h
 exact⟨by simpa using zdt hb 2 (.int .i64 x),hg⟩
def zbK.f (s0_0 s0_1 s0_2 a1:Int) (a2:Bool):Option (Int × Int × Int):=if(wrap64 (s0_0+1))>500 then(some (wrap64 (s0_0+1),mx s0_1 a1,73))else(if a1>40 then(some (wrap64 (s0_0+1),mx s0_1 a1,72))else(if a2=true then(some (wrap64 (s0_0+1),mx s0_1 a1,s0_2))else(some (wrap64 (s0_0+1),mx s0_1 a1,3))))
set_option maxHeartbeats 8000000 in
theorem zbK.calls (g:Nat) (r I M X:Int) (a2:Bool) (Y Z r3:Int) (w0 w:World) (hI:zbW w0 w g r I M) (hB:Below w0.heap.size w0 w) (h:zbK.f r I M X a2=some (Y,Z,r3)) :
 Calls Try.prog 159 #[.pointer (some ⟨g,0,none⟩),.int .i64 X,.bool a2] w fun e w'=>e= .returned (.tuple #[])∧zbW w0 w' g Y Z r3∧Below w0.heap.size w0 w'∧za6 w w' g none:=by
 have HI0:=mk hI
 have HK:=mk (za6.refl w g none)
 have HL:=mk hB.size
 clear hI
 have HW0:=mk hB.size
 have HB:=mk hB
 clear hB
 have H:(if(wrap64 (r+1))>500 then(some (wrap64 (r+1),mx I X,73))else(if X>40 then(some (wrap64 (r+1),mx I X,72))else(if a2=true then(some (wrap64 (r+1),mx I X,M))else(some (wrap64 (r+1),mx I X,3)))))=some (Y,Z,r3):=h
 clear h
 obtain⟨U,hji4⟩:∃j_:Int,(mx I X)=j_:=⟨_,rfl⟩
 replace H:(if(wrap64 (r+1))>500 then(some (wrap64 (r+1),U,73))else(if X>40 then(some (wrap64 (r+1),U,72))else(if a2=true then(some (wrap64 (r+1),U,M))else(some (wrap64 (r+1),U,3)))))=some (Y,Z,r3):=by first|(rw[hji4]at H;exact H)|(simp only[hji4]at H ⊢;exact H)
 have hji4_:(if I<X then X else I)=U:=hji4
 by_cases c5:(wrap64 (r+1))>500
 ·rw[if_pos c5]at H
  have aa:decide (500<(wrap64 (r+1)))=true:=decide_eq_true c5
  clear c5
  simp only[Option.some.injEq,Prod.mk.injEq]at H
  obtain⟨rfl,rfl,rfl⟩:=H
  obtain⟨J,hgz6⟩:=HI0.out
  have hcz6_0:=zdW J
  have hcz6_1:=zdX J
  have hcz6_2:=zdY J
  have hfz6_0:=zaD J 0
  have hfz6_1:=zaD J 1
  have hfz6_2:=zaD J 2
  clear J hgz6
  go_enter Try.func159,Try.ntmps159
  go_wp2
  first|go_end0|((try simp only[Exit.inBlock,Exit.then]);refine bodyPost_ret (results_none rfl _ _ _) rfl ?_)
  exact⟨kq26,kq27,kq28,kq29⟩
 ·rw[if_neg c5]at H
  have aa:decide (500<(wrap64 (r+1)))=false:=decide_eq_false c5
  clear c5
  replace H:=ic_ H;obtain⟨c7,H⟩|⟨c7,H⟩:=H
  ·have ab:decide (40<X)=true:=decide_eq_true c7;clear c7;simp only[Option.some.injEq,Prod.mk.injEq]at H;obtain⟨rfl,rfl,rfl⟩:=H;obtain⟨L,hgz8⟩:=HI0.out;have hcz8_0:=zdW L;have hcz8_1:=zdX L;have hcz8_2:=zdY L;have hfz8_0:=zaD L 0;have hfz8_1:=zaD L 1;have hfz8_2:=zaD L 2;clear L hgz8;(go_enter Try.func159,Try.ntmps159);go_wp2;(first|go_end0|((try simp only[Exit.inBlock,Exit.then]);refine bodyPost_ret (results_none rfl _ _ _) rfl ?_));exact⟨kq26,kq27,kq28,kq29⟩
  ·have ab:decide (40<X)=false:=decide_eq_false c7;clear c7;(by_cases c9:a2=true)
   ·subst c9;(have H1:(some (wrap64 (r+1),U,M))=some (Y,Z,r3):=by rw[if_pos rfl]at H;exact H);clear H;have H:=H1;clear H1;simp only[Option.some.injEq,Prod.mk.injEq]at H;obtain⟨rfl,rfl,rfl⟩:=H;obtain⟨D,hgz10⟩:=HI0.out;have hcz10_0:=zdW D;have hcz10_1:=zdX D;have hcz10_2:=zdY D;have hfz10_0:=zaD D 0;have hfz10_1:=zaD D 1;have hfz10_2:=zaD D 2;clear D hgz10;(go_enter Try.func159,Try.ntmps159);go_wp2;(first|go_end0|((try simp only[Exit.inBlock,Exit.then]);refine bodyPost_ret (results_none rfl _ _ _) rfl ?_));exact⟨kq26,kq27,kq28,kq29⟩
   ·replace c9:=Bool.eq_false_iff.mpr c9;subst c9;(have H1:(some (wrap64 (r+1),U,3))=some (Y,Z,r3):=by rw[if_neg (show ¬(false=true) by decide)]at H;exact H);clear H;have H:=H1;clear H1;simp only[Option.some.injEq,Prod.mk.injEq]at H;obtain⟨rfl,rfl,rfl⟩:=H;obtain⟨G,hgz11⟩:=HI0.out;have hcz11_0:=zdW G;have hcz11_1:=zdX G;have hcz11_2:=zdY G;have hfz11_0:=zaD G 0;have hfz11_1:=zaD G 1;have hfz11_2:=zaD G 2;clear G hgz11;(go_enter Try.func159,Try.ntmps159);go_wp2;(first|go_end0|((try simp only[Exit.inBlock,Exit.then]);refine bodyPost_ret (results_none rfl _ _ _) rfl ?_));exact⟨kq26,kq27,kq28,kq29⟩
def zat.l0:Nat→List ByteArray→ByteArray→Int→Int→Option (Int)
 |0,_,_,_,_=>none
 |k+1,x0,x1,x7,x8=>if x8<x7 then(if 0≤x8 then(if x8<(x0.length:Int)then(if x1.toList=(rdOf ByteArray.empty x0 x8).toList then(some x8)else(zat.l0 k x0 x1 x7 (wrap64 (x8+1))))else(none))else(none))else(some (-1))
def zat.f (k:Nat) (l0:List ByteArray) (a1:ByteArray):Option (Int):=zat.l0 k l0 a1 (l0.length:Int) 0
theorem zat.mono_l:∀k,(∀f D G I,LeO (zat.l0 k f D G I) (zat.l0 (k+1) f D G I))
 |0=>fun _ _ _ _ r h=>by simp [zat.l0]at h
 |k+1=>by
  have ih0:=zat.mono_l k
  ·intro f D G I;unfold zat.l0
   repeat' first
   |(with_reducible exact ih0 _ _ _ _)
   |(with_reducible exact LeO.refl _)
   |(with_reducible exact LeO.none _)
   |(with_reducible refine LeO.ite ?_ ?_)
   |(with_reducible refine LeO.bind ?_ (fun _=>?_))
   |exact ih0 _ _ _ _
   |exact LeO.none _
   |refine LeO.ite ?_ ?_
   |refine LeO.bind ?_ (fun _=>?_)
theorem zat.mono:∀a0 r k,LeO (zat.f k a0 r) (zat.f (k+1) a0 r):=by
 intro a0 r k
 have ih0:=zat.mono_l k
 unfold zat.f
 repeat' first
  |(with_reducible exact ih0 _ _ _ _)
  |(with_reducible exact LeO.refl _)
  |(with_reducible exact LeO.none _)
  |(with_reducible refine LeO.ite ?_ ?_)
  |(with_reducible refine LeO.bind ?_ (fun _=>?_))
  |exact ih0 _ _ _ _
  |exact LeO.none _
  |refine LeO.ite ?_ ?_
  |refine LeO.bind ?_ (fun _=>?_)
set_option maxHeartbeats 8000000 in
theorem zat.calls (k:Nat) (A0:Option Addr) (c0:Nat) (l0:List ByteArray) (a1:ByteArray) (r:Int) (w:World) (U:Kd.C Kd.string w A0 l0.length l0) (hc0:l0.length≤c0) (h:zat.f k l0 a1=some r) :
 Calls Try.prog 69 #[.slice A0 l0.length c0,.string a1] w fun e w'=>e= .returned (.int .i64 r)∧Drawn0 w w':=by
 have X:=mk U
 have af:=mk hc0
 clear U hc0
 have H:(zat.l0 k l0 a1 (l0.length:Int) 0)=some r:=h
 clear h
 have H':=mk H
 clear H
 go_enter Try.func69,Try.ntmps69
 go_wp2
 go_loopg [8] k (fun kq v8 w'=>∃(D:Int),v8= .int .i64 D∧Aside0 (zat.l0 kq l0 a1 (l0.length:Int) D=some r)∧Aside0 (kq≤k)∧Drawn0 w w')
 case atStart=>exact⟨(0),kq3,H',⟨Nat.le_refl _⟩,kq5⟩
 case round=>
  clear H'
  obtain⟨D,rfl,HA,HK1,⟨m1,rfl⟩⟩:=hrel
  cases gk with
  |zero=>exact absurd HA.out (by simp [zat.l0])
  |succ k1=>
   have H:=HA.out;clear HA;simp only[zat.l0]at H;replace H:=ic_ H;obtain⟨Y,H⟩|⟨Y,H⟩:=H
   ·have Z:decide (D<(l0.length:Int))=true:=decide_eq_true Y;clear Y;replace H:=ic_ H;obtain⟨c4,H⟩|⟨c4,H⟩:=H
    ·have ac:decide (0≤D)=true:=decide_eq_true c4;clear c4;replace H:=ic_ H;obtain⟨c5,H⟩|⟨c5,H⟩:=H
     ·have ae:decide (D<(l0.length:Int))=true:=decide_eq_true c5;clear c5;replace H:=ic_ H;obtain⟨c6,H⟩|⟨c6,H⟩:=H
      ·obtain⟨aa,ab⟩:=eTn_ c6;clear c6;obtain rfl:=Option.some.inj H;have G:0≤(D:Int):=of_decide_eq_true kq7;have I:D<(l0.length:Int):=of_decide_eq_true kq7;obtain⟨M,J,L⟩:=Kd.at_string X.out D G I;cases J;replace G:=eq_true G;replace I:=eq_true I;go_wp2;go_ret;exact⟨kq3,kq5⟩
      ·obtain⟨aa,ab⟩:=eFn_ c6;have H':=mk H;clear H;have G:0≤(D:Int):=of_decide_eq_true kq7;have I:D<(l0.length:Int):=of_decide_eq_true kq7;obtain⟨M,J,L⟩:=Kd.at_string X.out D G I;cases J;replace G:=eq_true G;replace I:=eq_true I;go_wp2;(go_roundg k1)
       case measure=>have:=HK1.out;omega
       case rel=>exact⟨(wrap64 (D+1)),kq3,H',⟨kq19⟩,kq5⟩
     ·exact absurd H (by simp)
    ·exact absurd H (by simp)
   ·have Z:decide (D<(l0.length:Int))=false:=decide_eq_false Y;clear Y;obtain rfl:=Option.some.inj H;go_wp2;go_ret;exact⟨kq3,kq5⟩
def zbM.f (k:Nat) (l0:List ByteArray) (a1:ByteArray):Option (Int):=(zat.f k l0 a1).bind fun t668=>(some t668)
theorem zbM.mono:∀a0 r k,LeO (zbM.f k a0 r) (zbM.f (k+1) a0 r):=by
 intro a0 r k
 unfold zbM.f
 repeat' first
  |(with_reducible exact zat.mono _ _ _)
  |(with_reducible exact LeO.refl _)
  |(with_reducible exact LeO.none _)
  |(with_reducible refine LeO.ite ?_ ?_)
  |(with_reducible refine LeO.bind ?_ (fun _=>?_))
  |exact zat.mono _ _ _
  |exact LeO.none _
  |refine LeO.ite ?_ ?_
  |refine LeO.bind ?_ (fun _=>?_)
set_option maxHeartbeats 8000000 in
theorem zbM.calls (k:Nat) (M:Option Addr) (U:Nat) (G:List ByteArray) (I:ByteArray) (r:Int) (w:World) (J:Kd.C Kd.string w M G.length G) (hc0:G.length≤U) (h:zbM.f k G I=some r) :
 Calls Try.prog 27 #[.slice M G.length U,.string I] w fun e w'=>e= .returned (.int .i64 r)∧Drawn0 w w':=by
 have X:=mk J
 have Y:=mk hc0
 clear J hc0
 have H:((zat.f k G I).bind fun D=>(some D))=some r:=h
 clear h
 replace H:=Option.bind_eq_some_iff.mp H
 obtain⟨D,L,H⟩:=H
 replace H:(some D)=some r:=H
 have Z:=mk L
 clear L
 obtain rfl:=Option.some.inj H
 go_enter Try.func27,Try.ntmps27
 go_wp2_with (first|((with_reducible refine zaE (f:=69) rfl ?_);refine za7 (some 7) rfl rfl Try.func69 kq0 rfl #[.slice M G.length U,.string I] rfl kq10 ?_;(with_reducible refine(zat.calls k _ _ G I D _ ?side1 ?side2 Z.out).mono ?_);(case side1=>repeat(first|exact X.out|(with_reducible refine Kd.C_alloc ?_ _)|(with_reducible refine Kd.C_drewN ?_ _)|(with_reducible refine Kd.C_drew ?_)));(case side2=>exact Y.out);rintro e w' ⟨rfl,⟨nd,rfl⟩⟩;refine⟨_,rfl,?_⟩))
 go_ret
 exact⟨kq3,kq5⟩
def zbT.f (k:Nat) (l0_0:List ByteArray) (l0_1:List Int) (a0_2 a0_3:Int) (a1:ByteArray):Option (Int):=(zbM.f k l0_0 a1).bind fun t670=>(if t670≥0 then(if 0≤t670 then(if t670<(l0_1.length:Int)then(some (rd l0_1 t670))else(none))else(none))else(some 0))
theorem zbT.mono:∀a0 r D a3 a4 k,LeO (zbT.f k a0 r D a3 a4) (zbT.f (k+1) a0 r D a3 a4):=by
 intro a0 r D a3 a4 k
 unfold zbT.f
 repeat' first
  |(with_reducible exact zbM.mono _ _ _)
  |(with_reducible exact LeO.refl _)
  |(with_reducible exact LeO.none _)
  |(with_reducible refine LeO.ite ?_ ?_)
  |(with_reducible refine LeO.bind ?_ (fun _=>?_))
  |exact zbM.mono _ _ _
  |exact LeO.none _
  |refine LeO.ite ?_ ?_
  |refine LeO.bind ?_ (fun _=>?_)
set_option maxHeartbeats 8000000 in
theorem zbT.calls (k:Nat) (G:Option Addr) (I:Nat) (l0_0:List ByteArray) (X:Option Addr) (Y:Nat) (l0_1:List Int) (a0_2 a0_3:Int) (a1:ByteArray) (r:Int) (w:World) (Z:Kd.C Kd.string w G l0_0.length l0_0) (hc0_0:l0_0.length≤I) (aa:Kd.C (Kd.int .i64) w X l0_1.length l0_1) (hc0_1:l0_1.length≤Y) (h:zbT.f k l0_0 l0_1 a0_2 a0_3 a1=some r) :
 Calls Try.prog 123 #[.agg #[.slice G l0_0.length I,.slice X l0_1.length Y,.int .i64 a0_2,.int .i64 a0_3],.string a1] w fun e w'=>e= .returned (.int .i64 r)∧Below w.heap.size w w':=by
 have al:=Try.underlying107
 have ab:=mk Z
 have ac:=mk hc0_0
 clear Z hc0_0
 have ag:=mk aa
 have am:=mk hc0_1
 clear aa hc0_1
 have HB:=mk (Below.refl w.heap.size w)
 have H:((zbM.f k l0_0 a1).bind fun D=>(if D≥0 then(if 0≤D then(if D<(l0_1.length:Int)then(some (rd l0_1 D))else(none))else(none))else(some 0)))=some r:=h
 clear h
 replace H:=Option.bind_eq_some_iff.mp H
 obtain⟨D,ai,H⟩:=H
 replace H:(if D≥0 then(if 0≤D then(if D<(l0_1.length:Int)then(some (rd l0_1 D))else(none))else(none))else(some 0))=some r:=H
 have A3:=mk ai
 clear ai
 by_cases c4:D≥0
 ·rw[if_pos c4]at H
  have aj:decide (0≤D)=true:=decide_eq_true c4
  clear c4
  replace H:=ic_ H;obtain⟨c5,H⟩|⟨c5,H⟩:=H
  ·have ao:decide (0≤D)=true:=decide_eq_true c5;clear c5;replace H:=ic_ H;obtain⟨c6,H⟩|⟨c6,H⟩:=H
   ·have ap:decide (D<(l0_1.length:Int))=true:=decide_eq_true c6;clear c6;obtain rfl:=Option.some.inj H;(go_enter Try.func123,Try.ntmps123);(go_wp2_with (first|((with_reducible refine zao (N:=2) rfl ?_);refine zal ?hg (N:=2) ?hd (cs:=#[.slice G l0_0.length I,.slice X l0_1.length Y,.int .i64 a0_2,.int .i64 a0_3]) (t:=107) ?hr ?_;(case hd=>rfl);(case hg=>rfl);(case hr=>exact kq21);intro ah hg w7 hbox hb;have L:=mk (hbox);have M:=(gs_ hg kq8);have U:=M;replace HB:=mk (zaa kq8 hb);clear hb hbox hg;obtain⟨hcz8_0,hcz8_1,hcz8_2,_,hfz8_0,hfz8_1,hfz8_2,_⟩:=cz4_ L.out)|((with_reducible refine zaE (f:=27) rfl ?_);refine za7 (some 9) rfl rfl Try.func27 kq0 rfl #[.slice G l0_0.length I,.string a1] rfl kq10 ?_;(with_reducible refine(zbM.calls k _ _ l0_0 a1 D _ ?side1 ?side2 A3.out).mono ?_);(case side1=>exact kq25 ab);(case side2=>exact ac.out);rintro e w' ⟨rfl,⟨nd,rfl⟩⟩;refine⟨_,rfl,?_⟩;have ae:0≤(D:Int):=of_decide_eq_true kq7;have af:D<(l0_1.length:Int):=of_decide_eq_true kq7;obtain⟨an,ak,J⟩:=Kd.at_int ag.out D ae af;cases ak;replace J:=hc_ HB J;replace ae:=eq_true ae;replace af:=eq_true af)));go_ret;exact⟨kq18,(kq20 U)⟩
   ·exact absurd H (by simp)
  ·exact absurd H (by simp)
 ·rw[if_neg c4]at H
  have aj:decide (0≤D)=false:=decide_eq_false c4
  clear c4
  obtain rfl:=Option.some.inj H
  go_enter Try.func123,Try.ntmps123
  go_wp2_with (first|((with_reducible refine zao (N:=2) rfl ?_);refine zal ?hg (N:=2) ?hd (cs:=#[.slice G l0_0.length I,.slice X l0_1.length Y,.int .i64 a0_2,.int .i64 a0_3]) (t:=107) ?hr ?_;(case hd=>rfl);(case hg=>rfl);(case hr=>exact kq21);intro ah hg w9 hbox hb;have L:=mk (hbox);have M:=(gs_ hg kq8);have U:=M;replace HB:=mk (zaa kq8 hb);clear hb hbox hg;obtain⟨hcz10_0,hcz10_1,hcz10_2,_,hfz10_0,hfz10_1,hfz10_2,_⟩:=cz4_ L.out)|((with_reducible refine zaE (f:=27) rfl ?_);refine za7 (some 9) rfl rfl Try.func27 kq0 rfl #[.slice G l0_0.length I,.string a1] rfl kq10 ?_;(with_reducible refine(zbM.calls k _ _ l0_0 a1 D _ ?side1 ?side2 A3.out).mono ?_);(case side1=>exact kq25 ab);(case side2=>exact ac.out);rintro e w' ⟨rfl,⟨nd,rfl⟩⟩;refine⟨_,rfl,?_⟩))
  go_ret
  exact⟨kq18,(kq20 U)⟩
def zcq.f (a0 a1:Int):Option (Int × Int):=if((decide (a0≥0)) != (decide (a1≥0)))=true then(if((decide ((wrap64 (a0-a1))≥0)) != (decide (a0≥0)))=true then(some (0,10))else(some (wrap64 (a0-a1),0)))else(some (wrap64 (a0-a1),0))
set_option maxHeartbeats 8000000 in
theorem zcq.calls (a0 r Y Z:Int) (w:World) (h:zcq.f a0 r=some (Y,Z)) :
 Calls Try.prog 83 #[.int .i64 a0,.int .i64 r] w fun e w'=>e= .returned (.tuple #[.int .i64 Y,.int .i64 Z])∧Drawn0 w w':=by
 have H:(if((decide (a0≥0)) != (decide (r≥0)))=true then(if((decide ((wrap64 (a0-r))≥0)) != (decide (a0≥0)))=true then(some (0,10))else(some (wrap64 (a0-r),0)))else(some (wrap64 (a0-r),0)))=some (Y,Z):=h
 clear h
 by_cases D:((decide (a0≥0)) != (decide (r≥0)))=true
 ·rw[if_pos D]at H
  have I:((decide (a0≥0)) != (decide (r≥0)))=true:=D
  (try(have J:decide ((decide (a0≥0))=(decide (r≥0)))=false:=by simpa using D))
  (try(have L:((decide (a0≥0))==(decide (r≥0)))=false:=by simpa using D))
  (try(have aa:¬((decide (a0≥0))=(decide (r≥0))):=by simpa using D))
  clear D
  replace H:=ic_ H;obtain⟨G,H⟩|⟨G,H⟩:=H
  ·have M:((decide ((wrap64 (a0-r))≥0)) != (decide (a0≥0)))=true:=G;((try(have U:decide ((decide ((wrap64 (a0-r))≥0))=(decide (a0≥0)))=false:=by simpa using G)));((try(have X:((decide ((wrap64 (a0-r))≥0))==(decide (a0≥0)))=false:=by simpa using G)));((try(have ab:¬((decide ((wrap64 (a0-r))≥0))=(decide (a0≥0))):=by simpa using G)));clear G;simp only[Option.some.injEq,Prod.mk.injEq]at H;obtain⟨rfl,rfl⟩:=H;(go_enter Try.func83,Try.ntmps83);go_wp2;go_ret2;exact⟨kq3,kq5⟩
  ·(have M:((decide ((wrap64 (a0-r))≥0)) != (decide (a0≥0)))=false:=by simpa using G);((try(have U:decide ((decide ((wrap64 (a0-r))≥0))=(decide (a0≥0)))=true:=by simpa using G)));((try(have X:((decide ((wrap64 (a0-r))≥0))==(decide (a0≥0)))=true:=by simpa using G)));clear G;simp only[Option.some.injEq,Prod.mk.injEq]at H;obtain⟨rfl,rfl⟩:=H;(go_enter Try.func83,Try.ntmps83);go_wp2;go_ret2;exact⟨kq3,kq5⟩
 ·rw[if_neg D]at H
  have I:((decide (a0≥0)) != (decide (r≥0)))=false:=by simpa using D
  (try(have J:decide ((decide (a0≥0))=(decide (r≥0)))=true:=by simpa using D))
  (try(have L:((decide (a0≥0))==(decide (r≥0)))=true:=by simpa using D))
  clear D
  simp only[Option.some.injEq,Prod.mk.injEq]at H
  obtain⟨rfl,rfl⟩:=H
  go_enter Try.func83,Try.ntmps83
  go_wp2
  go_ret2
  exact⟨kq3,kq5⟩
def zcv.f (a0 a1:Int):Option (Int × Int):=if((decide (a0≥0))==(decide (a1≥0)))=true then(if((decide ((wrap64 (a0+a1))≥0)) != (decide (a0≥0)))=true then(some (0,10))else(some (wrap64 (a0+a1),0)))else(some (wrap64 (a0+a1),0))
set_option maxHeartbeats 8000000 in
theorem zcv.calls (a0 r Y Z:Int) (w:World) (h:zcv.f a0 r=some (Y,Z)) :
 Calls Try.prog 121 #[.int .i64 a0,.int .i64 r] w fun e w'=>e= .returned (.tuple #[.int .i64 Y,.int .i64 Z])∧Drawn0 w w':=by
 have H:(if((decide (a0≥0))==(decide (r≥0)))=true then(if((decide ((wrap64 (a0+r))≥0)) != (decide (a0≥0)))=true then(some (0,10))else(some (wrap64 (a0+r),0)))else(some (wrap64 (a0+r),0)))=some (Y,Z):=h
 clear h
 by_cases D:((decide (a0≥0))==(decide (r≥0)))=true
 ·rw[if_pos D]at H
  have I:((decide (a0≥0))==(decide (r≥0)))=true:=D
  (try(have J:decide ((decide (a0≥0))=(decide (r≥0)))=true:=by simpa using D))
  (try(have L:((decide (a0≥0))==(decide (r≥0)))=true:=by simpa using D))
  clear D
  replace H:=ic_ H;obtain⟨G,H⟩|⟨G,H⟩:=H
  ·have M:((decide ((wrap64 (a0+r))≥0)) != (decide (a0≥0)))=true:=G;((try(have U:decide ((decide ((wrap64 (a0+r))≥0))=(decide (a0≥0)))=false:=by simpa using G)));((try(have X:((decide ((wrap64 (a0+r))≥0))==(decide (a0≥0)))=false:=by simpa using G)));((try(have aa:¬((decide ((wrap64 (a0+r))≥0))=(decide (a0≥0))):=by simpa using G)));clear G;simp only[Option.some.injEq,Prod.mk.injEq]at H;obtain⟨rfl,rfl⟩:=H;(go_enter Try.func121,Try.ntmps121);go_wp2;go_ret2;exact⟨kq3,kq5⟩
  ·(have M:((decide ((wrap64 (a0+r))≥0)) != (decide (a0≥0)))=false:=by simpa using G);((try(have U:decide ((decide ((wrap64 (a0+r))≥0))=(decide (a0≥0)))=true:=by simpa using G)));((try(have X:((decide ((wrap64 (a0+r))≥0))==(decide (a0≥0)))=true:=by simpa using G)));clear G;simp only[Option.some.injEq,Prod.mk.injEq]at H;obtain⟨rfl,rfl⟩:=H;(go_enter Try.func121,Try.ntmps121);go_wp2;go_ret2;exact⟨kq3,kq5⟩
 ·rw[if_neg D]at H
  have I:((decide (a0≥0))==(decide (r≥0)))=false:=by simpa using D
  (try(have J:decide ((decide (a0≥0))=(decide (r≥0)))=false:=by simpa using D))
  (try(have L:((decide (a0≥0))==(decide (r≥0)))=false:=by simpa using D))
  (try(have ab:¬((decide (a0≥0))=(decide (r≥0))):=by simpa using D))
  clear D
  simp only[Option.some.injEq,Prod.mk.injEq]at H
  obtain⟨rfl,rfl⟩:=H
  go_enter Try.func121,Try.ntmps121
  go_wp2
  go_ret2
  exact⟨kq3,kq5⟩
mutual
def za8.j0:Nat→Int→Int→Bool→Option (Int × Int)
 |0,_,_,_=>none
 |k+1,x0,x1,x12=>if x12=true then(some (0,0))else(if x0=(-1)then(if x1=(-9223372036854775808)then(za8.j1 k x0 x1 true)else(if x1=(-1)then(za8.j1 k x0 x1 (x0==(-9223372036854775808)))else(za8.j1 k x0 x1 false)))else(if x1=(-1)then(za8.j1 k x0 x1 (x0==(-9223372036854775808)))else(za8.j1 k x0 x1 false)))
def za8.j1:Nat→Int→Int→Bool→Option (Int × Int)
 |0,_,_,_=>none
 |k+1,x0,x1,x26=>if x26=true then(some (0,10))else(if x1=0 then(none)else(if(wrap64 (Int.tdiv (wrap64 (x0*x1)) x1))=x0 then(some (wrap64 (x0*x1),0))else(some (0,10))))
end
def za8.f (k:Nat) (a0 a1:Int):Option (Int × Int):=if a0=0 then(za8.j0 k a0 a1 true)else(za8.j0 k a0 a1 (a1==0))
theorem za8.mono_l:∀k,(∀f D G,LeO (za8.j0 k f D G) (za8.j0 (k+1) f D G))∧(∀f D G,LeO (za8.j1 k f D G) (za8.j1 (k+1) f D G))
 |0=>⟨fun _ _ _ r h=>by simp [za8.j0]at h,fun _ _ _ r h=>by simp [za8.j1]at h⟩
 |k+1=>by
  obtain⟨ih0,ih1⟩:=za8.mono_l k
  refine⟨?_,?_⟩<;>intros<;>(first|unfold za8.j0|unfold za8.j1)<;>repeat' first|(with_reducible first|exact ih0 _ _ _|exact ih1 _ _ _|exact LeO.refl _|exact LeO.none _|refine LeO.ite ?_ ?_|refine LeO.bind ?_ (fun _=>?_))|exact ih0 _ _ _|exact ih1 _ _ _|exact LeO.none _|refine LeO.ite ?_ ?_|refine LeO.bind ?_ (fun _=>?_)
theorem za8.mono:∀a0 r k,LeO (za8.f k a0 r) (za8.f (k+1) a0 r):=by
 intro a0 r k
 obtain⟨ih0,ih1⟩:=za8.mono_l k
 unfold za8.f
 repeat' first
  |(with_reducible exact ih0 _ _ _)
  |(with_reducible exact ih1 _ _ _)
  |(with_reducible exact LeO.refl _)
  |(with_reducible exact LeO.none _)
  |(with_reducible refine LeO.ite ?_ ?_)
  |(with_reducible refine LeO.bind ?_ (fun _=>?_))
  |exact ih0 _ _ _
  |exact ih1 _ _ _
  |exact LeO.none _
  |refine LeO.ite ?_ ?_
  |refine LeO.bind ?_ (fun _=>?_)
set_option maxHeartbeats 8000000 in
theorem za8.calls (k:Nat) (a0 r U X:Int) (w:World) (h:za8.f k a0 r=some (U,X)) :
 Calls Try.prog 187 #[.int .i64 a0,.int .i64 r] w fun e w'=>e= .returned (.tuple #[.int .i64 U,.int .i64 X])∧Drawn0 w w':=by
 have H:(if a0=0 then(za8.j0 k a0 r true)else(za8.j0 k a0 r (r==0)))=some (U,X):=h
 clear h
 have ab:=mk H
 clear H
 go_enter Try.func187,Try.ntmps187
 go_upto_region 1 with(fail)
 go_cut [12] (fun ap wc=>∃(kq:Nat) (D:Bool),ap= .bool D∧Aside0 (za8.j0 kq a0 r D=some (U,X))∧Aside0 (kq≤k)∧Drawn0 w wc)
 case first=>
  have H:=ab.out
  clear ab
  replace H:=ic_ H;obtain⟨c4,H⟩|⟨c4,H⟩:=H
  ·obtain⟨I,ai⟩:=eTn_ c4;clear c4;((first|rw[I]|(simp only[zbi,zbq];rw[I])|skip));have H':=mk H;clear H;go_wp2;(go_meet)
   case rel=>exact⟨_,(true),kq3,H',⟨kq4⟩,kq5⟩
  ·obtain⟨I,ai⟩:=eFn_ c4;((first|rw[I]|(simp only[zbi,zbq];rw[I])|skip));have H':=mk H;clear H;go_wp2;(go_meet)
   case rel=>exact⟨_,((r==0)),kq3,H',⟨kq4⟩,kq5⟩
 case rest=>
  clear ab
  obtain⟨kq,D,rfl,HA,HJ2,⟨mc2,rfl⟩⟩:=hcut
  cases kq with
  |zero=>exact absurd HA.out (by simp [za8.j0])
  |succ L=>
   have H:=HA.out;clear HA;simp only[za8.j0]at H;(by_cases c5:D=true)
   ·subst c5;(have M:(some (0,0))=some (U,X):=by rw[if_pos rfl]at H;exact H);clear H;have H:=M;clear M;simp only[Option.some.injEq,Prod.mk.injEq]at H;obtain⟨rfl,rfl⟩:=H;go_wp2;go_ret2;exact⟨kq3,kq5⟩
   ·replace c5:=Bool.eq_false_iff.mpr c5;subst c5;(have M:(if a0=(-1)then(if r=(-9223372036854775808)then(za8.j1 L a0 r true)else(if r=(-1)then(za8.j1 L a0 r (a0==(-9223372036854775808)))else(za8.j1 L a0 r false)))else(if r=(-1)then(za8.j1 L a0 r (a0==(-9223372036854775808)))else(za8.j1 L a0 r false)))=some (U,X):=by rw[if_neg (show ¬(false=true) by decide)]at H;exact H);clear H;have H:=M;clear M;have ac:=mk H;clear H;(go_upto_region 3 with(fail));(go_cut [26] (fun aq wc=>∃(kq:Nat) (G:Bool),aq= .bool G∧Aside0 (za8.j1 kq a0 r G=some (U,X))∧Aside0 (kq≤L)∧Drawn0 w wc))
    case first=>
     have H:=ac.out;clear ac;replace H:=ic_ H;obtain⟨c7,H⟩|⟨c7,H⟩:=H
     ·obtain⟨J,aj⟩:=eTn_ c7;clear c7;((first|rw[J]|(simp only[zbi,zbq];rw[J])|skip));replace H:=ic_ H;obtain⟨c8,H⟩|⟨c8,H⟩:=H
      ·obtain⟨ak,al⟩:=eTn_ c8;clear c8;have H':=mk H;clear H;go_wp2;(go_meet)
       case rel=>exact⟨_,(true),kq3,H',⟨kq30⟩,kq5⟩
      ·obtain⟨ak,al⟩:=eFn_ c8;replace H:=ic_ H;obtain⟨c9,H⟩|⟨c9,H⟩:=H
       ·obtain⟨am,an⟩:=eTn_ c9;clear c9;have H':=mk H;clear H;go_wp2;(go_meet)
        case rel=>exact⟨_,((a0==(-9223372036854775808))),kq3,H',⟨kq30⟩,kq5⟩
       ·obtain⟨am,an⟩:=eFn_ c9;have H':=mk H;clear H;go_wp2;(go_meet)
        case rel=>exact⟨_,(false),kq3,H',⟨kq30⟩,kq5⟩
     ·obtain⟨J,aj⟩:=eFn_ c7;((first|rw[J]|(simp only[zbi,zbq];rw[J])|skip));replace H:=ic_ H;obtain⟨Y,H⟩|⟨Y,H⟩:=H
      ·obtain⟨ae,af⟩:=eTn_ Y;clear Y;have H':=mk H;clear H;go_wp2;(go_meet)
       case rel=>exact⟨_,((a0==(-9223372036854775808))),kq3,H',⟨kq30⟩,kq5⟩
      ·obtain⟨ae,af⟩:=eFn_ Y;have H':=mk H;clear H;go_wp2;(go_meet)
       case rel=>exact⟨_,(false),kq3,H',⟨kq30⟩,kq5⟩
    case rest=>
     clear ac;obtain⟨kq,G,rfl,HA,av,⟨mc5,rfl⟩⟩:=hcut
     cases kq with
     |zero=>exact absurd HA.out (by simp [za8.j1])
     |succ aw=>
      have H:=HA.out;clear HA;simp only[za8.j1]at H;(by_cases Z:G=true)
      ·subst Z;(have M:(some (0,10))=some (U,X):=by rw[if_pos rfl]at H;exact H);clear H;have H:=M;clear M;simp only[Option.some.injEq,Prod.mk.injEq]at H;obtain⟨rfl,rfl⟩:=H;go_wp2;go_ret2;exact⟨kq3,kq5⟩
      ·replace Z:=Bool.eq_false_iff.mpr Z;subst Z;(have M:(if r=0 then(none)else(if(wrap64 (Int.tdiv (wrap64 (a0*r)) r))=a0 then(some (wrap64 (a0*r),0))else(some (0,10))))=some (U,X):=by rw[if_neg (show ¬(false=true) by decide)]at H;exact H);clear H;have H:=M;clear M;replace H:=ic_ H;obtain⟨ao,H⟩|⟨ao,H⟩:=H
       ·exact absurd H (by simp)
       ·obtain⟨ar,au⟩:=eFn_ ao;replace H:=ic_ H;obtain⟨aa,H⟩|⟨aa,H⟩:=H
        ·obtain⟨ag,ah⟩:=eTn_ aa;clear aa;simp only[Option.some.injEq,Prod.mk.injEq]at H;obtain⟨rfl,rfl⟩:=H;go_wp2;go_ret2;exact⟨kq3,kq5⟩
        ·obtain⟨ag,ah⟩:=eFn_ aa;simp only[Option.some.injEq,Prod.mk.injEq]at H;obtain⟨rfl,rfl⟩:=H;go_wp2;go_ret2;exact⟨kq3,kq5⟩
def zc5.f (a0:Int):Option (Int × Int):=(zcq.f 0 a0).bind fun bt760=>(some (bt760.1,bt760.2))
set_option maxHeartbeats 8000000 in
theorem zc5.calls (a0 J L:Int) (w:World) (h:zc5.f a0=some (J,L)) :
 Calls Try.prog 85 #[.int .i64 a0] w fun e w'=>e= .returned (.tuple #[.int .i64 J,.int .i64 L])∧Drawn0 w w':=by
 have H:((zcq.f 0 a0).bind fun r=>(some (r.1,r.2)))=some (J,L):=h
 clear h
 replace H:=Option.bind_eq_some_iff.mp H
 obtain⟨⟨D,G⟩,I,H⟩:=H
 replace H:(some (D,G))=some (J,L):=H
 have M:=mk I
 clear I
 simp only[Option.some.injEq,Prod.mk.injEq]at H
 obtain⟨rfl,rfl⟩:=H
 go_enter Try.func85,Try.ntmps85
 go_wp2_with (first|((with_reducible refine zaE (f:=83) rfl ?_);refine za7 (some 5) rfl rfl Try.func83 kq0 rfl #[.int .i64 0,.int .i64 a0] rfl kq10 ?_;(with_reducible refine(zcq.calls 0 a0 D G _ M.out).mono ?_);rintro e w' ⟨rfl,⟨nd,rfl⟩⟩;refine⟨_,rfl,?_⟩))
 go_ret2
 exact⟨kq3,kq5⟩
def zcP.f (a0 a1:Int):Option (Int × Int):=if a1<1 then(some (0,2))else(if a1=0 then(none)else(if(Int.tmod a0 a1)<0 then(some (wrap64 ((Int.tmod a0 a1)+a1),0))else(some (Int.tmod a0 a1,0))))
set_option maxHeartbeats 8000000 in
theorem zcP.calls (a0 r L M:Int) (w:World) (h:zcP.f a0 r=some (L,M)) :
 Calls Try.prog 124 #[.int .i64 a0,.int .i64 r] w fun e w'=>e= .returned (.tuple #[.int .i64 L,.int .i64 M])∧Drawn0 w w':=by
 have H:(if r<1 then(some (0,2))else(if r=0 then(none)else(if(Int.tmod a0 r)<0 then(some (wrap64 ((Int.tmod a0 r)+r),0))else(some (Int.tmod a0 r,0)))))=some (L,M):=h
 clear h
 by_cases D:r<1
 ·rw[if_pos D]at H
  have G:decide (r<1)=true:=decide_eq_true D
  clear D
  simp only[Option.some.injEq,Prod.mk.injEq]at H
  obtain⟨rfl,rfl⟩:=H
  go_enter Try.func124,Try.ntmps124
  go_wp2
  go_ret2
  exact⟨kq3,kq5⟩
 ·rw[if_neg D]at H
  have G:decide (r<1)=false:=decide_eq_false D
  clear D
  replace H:=ic_ H;obtain⟨U,H⟩|⟨U,H⟩:=H
  ·exact absurd H (by simp)
  ·obtain⟨X,Y⟩:=eFn_ U;replace H:=ic_ H;obtain⟨I,H⟩|⟨I,H⟩:=H
   ·have J:decide ((Int.tmod a0 r)<0)=true:=decide_eq_true I;clear I;simp only[Option.some.injEq,Prod.mk.injEq]at H;obtain⟨rfl,rfl⟩:=H;(go_enter Try.func124,Try.ntmps124);go_wp2;go_ret2;exact⟨kq3,kq5⟩
   ·have J:decide ((Int.tmod a0 r)<0)=false:=decide_eq_false I;clear I;simp only[Option.some.injEq,Prod.mk.injEq]at H;obtain⟨rfl,rfl⟩:=H;(go_enter Try.func124,Try.ntmps124);go_wp2;go_ret2;exact⟨kq3,kq5⟩
def zed.f (a0:Int):Option (Int × Int):=if a0<0 then((zc5.f a0).bind fun bt765=>(some (bt765.1,bt765.2)))else(some (a0,0))
set_option maxHeartbeats 8000000 in
theorem zed.calls (a0 M U:Int) (w:World) (h:zed.f a0=some (M,U)) :
 Calls Try.prog 125 #[.int .i64 a0] w fun e w'=>e= .returned (.tuple #[.int .i64 M,.int .i64 U])∧Drawn0 w w':=by
 have H:(if a0<0 then((zc5.f a0).bind fun r=>(some (r.1,r.2)))else(some (a0,0)))=some (M,U):=h
 clear h
 by_cases I:a0<0
 ·rw[if_pos I]at H
  have J:decide (a0<0)=true:=decide_eq_true I
  clear I
  replace H:=Option.bind_eq_some_iff.mp H
  obtain⟨⟨D,G⟩,L,H⟩:=H
  replace H:(some (D,G))=some (M,U):=H
  have X:=mk L
  clear L
  simp only[Option.some.injEq,Prod.mk.injEq]at H
  obtain⟨rfl,rfl⟩:=H
  go_enter Try.func125,Try.ntmps125
  go_wp2_with (first|((with_reducible refine zaE (f:=85) rfl ?_);refine za7 (some 7) rfl rfl Try.func85 kq0 rfl #[.int .i64 a0] rfl kq10 ?_;(with_reducible refine(zc5.calls a0 D G _ X.out).mono ?_);rintro e w' ⟨rfl,⟨nd,rfl⟩⟩;refine⟨_,rfl,?_⟩))
  go_ret2
  exact⟨kq3,kq5⟩
 ·rw[if_neg I]at H
  have J:decide (a0<0)=false:=decide_eq_false I
  clear I
  simp only[Option.some.injEq,Prod.mk.injEq]at H
  obtain⟨rfl,rfl⟩:=H
  go_enter Try.func125,Try.ntmps125
  go_wp2
  go_ret2
  exact⟨kq3,kq5⟩
def zbp.l0:Nat→Int→List Int→Int→Int→Option (Int × Int)
 |0,_,_,_,_=>none
 |k+1,x4,x9,x10,x11=>if x11<x10 then(if 0≤x11 then(if x11<(x9.length:Int)then((zed.f (rd x9 x11)).bind fun bt768=>(if bt768.2=0 then((zcv.f x4 bt768.1).bind fun bt770=>(if bt770.2=0 then(zbp.l0 k bt770.1 x9 x10 (wrap64 (x11+1)))else(some (0,bt770.2))))else(some (0,bt768.2))))else(none))else(none))else(some (x4,0))
def zbp.f (k:Nat) (l0:List Int):Option (Int × Int):=zbp.l0 k 0 l0 (l0.length:Int) 0
theorem zbp.mono_l:∀k,(∀f D G I,LeO (zbp.l0 k f D G I) (zbp.l0 (k+1) f D G I))
 |0=>fun _ _ _ _ r h=>by simp [zbp.l0]at h
 |k+1=>by
  have ih0:=zbp.mono_l k
  ·intro f D G I;unfold zbp.l0
   repeat' first
   |(with_reducible exact ih0 _ _ _ _)
   |(with_reducible exact LeO.refl _)
   |(with_reducible exact LeO.none _)
   |(with_reducible refine LeO.ite ?_ ?_)
   |(with_reducible refine LeO.bind ?_ (fun _=>?_))
   |exact ih0 _ _ _ _
   |exact LeO.none _
   |refine LeO.ite ?_ ?_
   |refine LeO.bind ?_ (fun _=>?_)
theorem zbp.mono:∀a0 k,LeO (zbp.f k a0) (zbp.f (k+1) a0):=by
 intro a0 k
 have ih0:=zbp.mono_l k
 unfold zbp.f
 repeat' first
  |(with_reducible exact ih0 _ _ _ _)
  |(with_reducible exact LeO.refl _)
  |(with_reducible exact LeO.none _)
  |(with_reducible refine LeO.ite ?_ ?_)
  |(with_reducible refine LeO.bind ?_ (fun _=>?_))
  |exact ih0 _ _ _ _
  |exact LeO.none _
  |refine LeO.ite ?_ ?_
  |refine LeO.bind ?_ (fun _=>?_)
set_option maxHeartbeats 8000000 in
theorem zbp.calls (k:Nat) (A0:Option Addr) (c0:Nat) (l0:List Int) (r1 r2:Int) (w:World) (ac:Kd.C (Kd.int .i64) w A0 l0.length l0) (hc0:l0.length≤c0) (h:zbp.f k l0=some (r1,r2)) :
 Calls Try.prog 87 #[.slice A0 l0.length c0] w fun e w'=>e= .returned (.tuple #[.int .i64 r1,.int .i64 r2])∧Drawn0 w w':=by
 have ab:=mk ac
 have ao:=mk hc0
 clear ac hc0
 have H:(zbp.l0 k 0 l0 (l0.length:Int) 0)=some (r1,r2):=h
 clear h
 have H':=mk H
 clear H
 go_enter Try.func87,Try.ntmps87
 go_wp2
 go_loopg [4,11] k (fun kq v4 al w'=>∃(I:Int) (r:Int),v4= .int .i64 I∧al= .int .i64 r∧Aside0 (zbp.l0 kq I l0 (l0.length:Int) r=some (r1,r2))∧Aside0 (kq≤k)∧Drawn0 w w')
 case atStart=>exact⟨(0),(0),kq3,kq3,H',⟨Nat.le_refl _⟩,kq5⟩
 case round=>
  clear H'
  obtain⟨I,r,rfl,rfl,HA,HK1,⟨m1,rfl⟩⟩:=hrel
  cases gk with
  |zero=>exact absurd HA.out (by simp [zbp.l0])
  |succ k1=>
   have H:=HA.out;clear HA;simp only[zbp.l0]at H;replace H:=ic_ H;obtain⟨c2,H⟩|⟨c2,H⟩:=H
   ·have ae:=decide_eq_true c2;clear c2;replace H:=ic_ H;obtain⟨c3,H⟩|⟨c3,H⟩:=H
    ·have am:decide (0≤r)=true:=decide_eq_true c3;clear c3;replace H:=ic_ H;obtain⟨c4,H⟩|⟨c4,H⟩:=H
     ·have an:decide (r<(l0.length:Int))=true:=decide_eq_true c4;clear c4;replace H:=Option.bind_eq_some_iff.mp H;obtain⟨⟨J,L⟩,af,H⟩:=H;replace H:(if L=0 then((zcv.f I J).bind fun X=>(if X.2=0 then(zbp.l0 k1 X.1 l0 (l0.length:Int) (wrap64 (r+1)))else(some (0,X.2))))else(some (0,L)))=some (r1,r2):=H;have A5:=mk af;clear af;replace H:=ic_ H;obtain⟨c6,H⟩|⟨c6,H⟩:=H
      ·obtain⟨ag,ah⟩:=eTn_ c6;clear c6;replace H:=Option.bind_eq_some_iff.mp H;obtain⟨⟨Y,Z⟩,ai,H⟩:=H;replace H:(if Z=0 then(zbp.l0 k1 Y l0 (l0.length:Int) (wrap64 (r+1)))else(some (0,Z)))=some (r1,r2):=H;have A7:=mk ai;clear ai;replace H:=ic_ H;obtain⟨c8,H⟩|⟨c8,H⟩:=H
       ·obtain⟨aj,ak⟩:=eTn_ c8;clear c8;have H':=mk H;clear H;have D:0≤(r:Int):=of_decide_eq_true kq7;have G:r<(l0.length:Int):=of_decide_eq_true kq7;obtain⟨aa,M,U⟩:=Kd.at_int ab.out r D G;cases M;replace D:=eq_true D;replace G:=eq_true G;(go_wp2_with (first|((with_reducible refine zaE (f:=125) rfl ?_);refine za7 (some 17) rfl rfl Try.func125 kq0 rfl #[.int .i64 (rd l0 r)] rfl kq10 ?_;(with_reducible refine(zed.calls (rd l0 r) J L _ A5.out).mono ?_);rintro e w' ⟨rfl,⟨nd,rfl⟩⟩;refine⟨_,rfl,?_⟩)|((with_reducible refine zaE (f:=121) rfl ?_);refine za7 (some 26) rfl rfl Try.func121 kq0 rfl #[.int .i64 I,.int .i64 J] rfl kq10 ?_;(with_reducible refine(zcv.calls I J Y Z _ A7.out).mono ?_);rintro e w' ⟨rfl,⟨nd,rfl⟩⟩;refine⟨_,rfl,?_⟩)));(go_roundg k1)
        case measure=>have:=HK1.out;omega
        case rel=>exact⟨(Y),(wrap64 (r+1)),kq3,kq3,H',⟨kq19⟩,kq5⟩
       ·obtain⟨aj,ak⟩:=eFn_ c8;simp only[Option.some.injEq,Prod.mk.injEq]at H;obtain⟨rfl,rfl⟩:=H;have D:0≤(r:Int):=of_decide_eq_true kq7;have G:r<(l0.length:Int):=of_decide_eq_true kq7;obtain⟨aa,M,U⟩:=Kd.at_int ab.out r D G;cases M;replace D:=eq_true D;replace G:=eq_true G;(go_wp2_with (first|((with_reducible refine zaE (f:=125) rfl ?_);refine za7 (some 17) rfl rfl Try.func125 kq0 rfl #[.int .i64 (rd l0 r)] rfl kq10 ?_;(with_reducible refine(zed.calls (rd l0 r) J L _ A5.out).mono ?_);rintro e w' ⟨rfl,⟨nd,rfl⟩⟩;refine⟨_,rfl,?_⟩)|((with_reducible refine zaE (f:=121) rfl ?_);refine za7 (some 26) rfl rfl Try.func121 kq0 rfl #[.int .i64 I,.int .i64 J] rfl kq10 ?_;(with_reducible refine(zcv.calls I J Y Z _ A7.out).mono ?_);rintro e w' ⟨rfl,⟨nd,rfl⟩⟩;refine⟨_,rfl,?_⟩)));go_ret2;exact⟨kq3,kq5⟩
      ·obtain⟨ag,ah⟩:=eFn_ c6;simp only[Option.some.injEq,Prod.mk.injEq]at H;obtain⟨rfl,rfl⟩:=H;have D:0≤(r:Int):=of_decide_eq_true kq7;have G:r<(l0.length:Int):=of_decide_eq_true kq7;obtain⟨aa,M,U⟩:=Kd.at_int ab.out r D G;cases M;replace D:=eq_true D;replace G:=eq_true G;(go_wp2_with (first|((with_reducible refine zaE (f:=125) rfl ?_);refine za7 (some 17) rfl rfl Try.func125 kq0 rfl #[.int .i64 (rd l0 r)] rfl kq10 ?_;(with_reducible refine(zed.calls (rd l0 r) J L _ A5.out).mono ?_);rintro e w' ⟨rfl,⟨nd,rfl⟩⟩;refine⟨_,rfl,?_⟩)));go_ret2;exact⟨kq3,kq5⟩
     ·exact absurd H (by simp)
    ·exact absurd H (by simp)
   ·have ae:=decide_eq_false c2;clear c2;simp only[Option.some.injEq,Prod.mk.injEq]at H;obtain⟨rfl,rfl⟩:=H;go_wp2;go_ret2;exact⟨kq3,kq5⟩
end Go.Proofs.Ytjknpmibdkoklaa.Q
namespace Go.Proofs.Ytjknpmibdkoklaa.Q
open Go.RowKit Go.Proofs.YtjknpmibdkoklaaW.PrintWords Go.Proofs.YtjknpmibdkoklaaW.PrintLast Go.Proofs.YtjknpmibdkoklaaW.PrintMore
def In64 (a:Int):Prop:= -9223372036854775808≤a∧a≤9223372036854775807
instance (a:Int):Decidable (In64 a):=by unfold In64;infer_instance
def fit (z:Int):Int × Int:=if -9223372036854775808≤z∧z≤9223372036854775807 then(z,0)else(0,10)
theorem zid {z:Int} (h:In64 z):fit z=(z,0):=if_pos h
theorem zfx {z:Int} (h:¬In64 z):fit z=(0,10):=if_neg h
theorem zcH {a:Int} (h:In64 a):wrap64 a=a:=by
 obtain⟨h1,h2⟩:=h
 unfold wrap64;omega
theorem zie (a:Int):In64 (wrap64 a):=by unfold In64 wrap64;omega
theorem zif (n:Int):IntKind.u64.wrap n=n % 18446744073709551616:=by simp [IntKind.wrap,IntKind.bits,IntKind.signed]
theorem zci {n:Int} (h0:0≤n) (h1:n<18446744073709551616):IntKind.u64.wrap n=n:=by rw[zif];omega
theorem ziJ {a b:Int} (ha:In64 a) (hb:In64 b):zcv.f a b=some (fit (a+b)):=by
 obtain⟨ha1,ha2⟩:=ha
 obtain⟨hb1,hb2⟩:=hb
 unfold zcv.f fit
 have hw:wrap64 (a+b)=(a+b+9223372036854775808) % 18446744073709551616-9223372036854775808:=by unfold wrap64;rfl
 generalize wrap64 (a+b)=w at hw
 by_cases h1:a≥0<;>by_cases h2:b≥0<;>by_cases r:w≥0<;>simp [h1,h2,r]<;>
  first|omega|(rw[if_pos kq1];simp;omega)|(rw[if_neg kq1])
theorem ziK {a b:Int} (ha:In64 a) (hb:In64 b):zcq.f a b=some (fit (a-b)):=by
 obtain⟨ha1,ha2⟩:=ha
 obtain⟨hb1,hb2⟩:=hb
 unfold zcq.f fit
 have hw:wrap64 (a-b)=(a-b+9223372036854775808) % 18446744073709551616-9223372036854775808:=by unfold wrap64;rfl
 generalize wrap64 (a-b)=w at hw
 by_cases h1:a≥0<;>by_cases h2:b≥0<;>by_cases r:w≥0<;>simp [h1,h2,r]<;>
  first|omega|(rw[if_pos kq1];simp;omega)|(rw[if_neg kq1])
theorem zdC:In64 0:=⟨kq2,kq2⟩
theorem ziL {a b p m:Int} (hp:p=a*b-m*18446744073709551616) (hb:In64 b) (hb0:b≠0) (h:Int.tdiv p b=a):m=0:=by
 obtain⟨hb1,hb2⟩:=hb
 have h1:=Int.tdiv_mul_add_tmod p b
 rw[h]at h1
 have h2:(p.tmod b).natAbs<b.natAbs:=by
  rw[Int.natAbs_tmod]
  exact Nat.mod_lt _ kq1
 omega
theorem ziM {a b:Int} (ha:In64 a) (hb:In64 b):Ev (fun k=>za8.f k a b) (fit (a*b)):=by
 have ha':=ha
 have hb':=hb
 obtain⟨ha1,ha2⟩:=ha
 obtain⟨hb1,hb2⟩:=hb
 refine⟨2,fun k hk=>?_⟩
 obtain⟨k,rfl⟩:∃m,k=m+2:=⟨k-2,kq1⟩
 show za8.f (k+2) a b=_
 unfold za8.f
 by_cases h1:a=0
 ·subst h1
  simp [za8.j0,fit]
 rw[if_neg h1]
 by_cases h2:b=0
 ·subst h2
  simp [za8.j0,fit]
 have L:(b==0)=false:=by simpa using h2
 simp only[za8.j0,L]
 rw[if_neg kq2]
 have key:∀x:Bool,(x=true→¬In64 (a*b))→(x=false→¬(a= -1∧b= -9223372036854775808)∧¬(b= -1∧a= -9223372036854775808))→za8.j1 (k+1) a b x=some (fit (a*b)):=by
  intro x hx hy
  simp only[za8.j1]
  cases x with
  |true=>rw[if_pos rfl,zfx (hx rfl)]
  |false=>
   obtain⟨M,U⟩:=hy rfl
   rw[if_neg kq2,if_neg h2]
   by_cases hin:In64 (a*b)
   ·rw[zcH hin,Int.mul_tdiv_cancel _ h2,zcH ha',if_pos rfl,zid hin]
   ·rw[zfx hin]
    obtain⟨m,hm⟩:∃m,wrap64 (a*b)=a*b-m*18446744073709551616:=by
     refine⟨(a*b+9223372036854775808) / 18446744073709551616,?_⟩
     unfold wrap64
     omega
    have hwi:=zie (a*b)
    rw[if_neg]
    intro hc
    have hq:wrap64 (Int.tdiv (wrap64 (a*b)) b)=Int.tdiv (wrap64 (a*b)) b:=by
     apply zcH
     have hb4:b≠ -1:=by
      intro hb4
      subst hb4
      apply hin
      constructor<;>omega
     have G:(Int.tdiv (wrap64 (a*b)) b).natAbs=(wrap64 (a*b)).natAbs / b.natAbs:=Int.natAbs_tdiv (wrap64 (a*b)) b
     have r:(wrap64 (a*b)).natAbs / b.natAbs≤(wrap64 (a*b)).natAbs:=Nat.div_le_self _ _
     obtain⟨hw1,hw2⟩:=hwi
     by_cases hb5:b=1
     ·subst hb5
      rw[Int.tdiv_one]
      exact⟨hw1,hw2⟩
     ·have D:(wrap64 (a*b)).natAbs / b.natAbs≤(wrap64 (a*b)).natAbs / 2:=Nat.div_le_div_left kq1 kq1
      constructor<;>omega
    rw[hq]at hc
    have:=ziL hm hb' h2 hc
    subst this
    apply hin
    rw[show a*b=wrap64 (a*b) by omega]
    exact hwi
 by_cases I:a= -1
 ·rw[if_pos I]
  by_cases G:b= -9223372036854775808
  ·rw[if_pos G]
   refine key true (fun _=>?_) (fun h=>by cases h)
   subst I G
   decide
  ·rw[if_neg G]
   by_cases r:b= -1
   ·rw[if_pos r]
    have D:(a== -9223372036854775808)=false:=by subst I;rfl
    rw[D]
    exact key false (fun h=>by cases h) (fun _=>⟨fun h=>G h.2,fun h=>by omega⟩)
   ·rw[if_neg r]
    exact key false (fun h=>by cases h) (fun _=>⟨fun h=>G h.2,fun h=>r h.1⟩)
 ·rw[if_neg I]
  by_cases r:b= -1
  ·rw[if_pos r]
   by_cases D:a= -9223372036854775808
   ·have J:(a== -9223372036854775808)=true:=by simpa using D
    rw[J]
    refine key true (fun _=>?_) (fun h=>by cases h)
    subst r D
    decide
   ·have J:(a== -9223372036854775808)=false:=by simpa using D
    rw[J]
    exact key false (fun h=>by cases h) (fun _=>⟨fun h=>I h.1,fun h=>D h.2⟩)
  ·rw[if_neg r]
   exact key false (fun h=>by cases h) (fun _=>⟨fun h=>I h.1,fun h=>r h.1⟩)
theorem zcQ {l:List Int} {i:Nat} (h:i<l.length):rd l (i:Int)=l[i]:=by
 unfold rd
 simp [List.getD_eq_getElem?_getD,h]
theorem zee {α:Type} {g:Nat→Option α} {r:α} (K:Nat) (h:∀k,K<k→g k=some r):Ev g r:=⟨K+1,fun k hk=>h k kq1⟩
theorem zeu {i:Nat} (h:i<9223372036854775808):wrap64 (i:Int)=i:=zcH ⟨kq1,kq1⟩
theorem zcY {i:Nat} (h:i+1<9223372036854775808):wrap64 ((i:Int)+1)=((i+1:Nat):Int):=by
 rw[show((i:Int)+1)=((i+1:Nat):Int) by omega]
 exact zeu h
end Go.Proofs.Ytjknpmibdkoklaa.Q
namespace Go.Proofs.Ytjknpmibdkoklaa.Q
open Go.RowKit Go.Proofs.YtjknpmibdkoklaaW.PrintWords Go.Proofs.YtjknpmibdkoklaaW.PrintLast Go.Proofs.YtjknpmibdkoklaaW.PrintMore
open Aside0 (mk)
open List (setIfInBounds_toArray set_cons_zero set_cons_succ)
attribute [local go_sem] zbw zbz zbP zbQ zbm zbn zbA zbB
set_option linter.unusedVariables false
set_option linter.unusedSimpArgs false
attribute [local go_sem] zbS zbD zbE zbF
def zac.l0:Nat→Int→Bool→List Int→Option (Bool × List Int)
 |0,_,_,_=>none
 |k+1,x3,x951000,x951001=>if x3>0 then(if 0≤(wrap64 (x3-1))then(if(wrap64 (x3-1))<(x951001.length:Int)then(if(rd x951001 (wrap64 (x3-1)))=0 then(zac.l0 k (wrap64 (x3-1)) x951000 x951001)else(if x951000=true then(if 0≤x3 then(if x3≤(x951001.length:Int)then(some (true,(x951001.take (x3:Int).toNat)))else(none))else(none))else(if 0≤x3 then(if x3≤(x951001.length:Int)then(some (false,(x951001.take (x3:Int).toNat)))else(none))else(none))))else(none))else(none))else(if x951000=true then(if 0≤x3 then(if x3≤(x951001.length:Int)then(some (false,(x951001.take (x3:Int).toNat)))else(none))else(none))else(if 0≤x3 then(if x3≤(x951001.length:Int)then(some (false,(x951001.take (x3:Int).toNat)))else(none))else(none)))
def zac.f (k:Nat) (a0_0:Bool) (l0_1:List Int):Option (Bool × List Int):=zac.l0 k (l0_1.length:Int) a0_0 l0_1
theorem zac.mono_l:∀k,(∀f D G,LeO (zac.l0 k f D G) (zac.l0 (k+1) f D G))
 |0=>fun _ _ _ r h=>by simp [zac.l0]at h
 |k+1=>by
  have ih0:=zac.mono_l k
  ·intro f D G;unfold zac.l0
   repeat' first
   |(with_reducible exact ih0 _ _ _)
   |(with_reducible exact LeO.refl _)
   |(with_reducible exact LeO.none _)
   |(with_reducible refine LeO.ite ?_ ?_)
   |(with_reducible refine LeO.bind ?_ (fun _=>?_))
   |exact ih0 _ _ _
   |exact LeO.none _
   |refine LeO.ite ?_ ?_
   |refine LeO.bind ?_ (fun _=>?_)
theorem zac.mono:∀a0 r k,LeO (zac.f k a0 r) (zac.f (k+1) a0 r):=by
 intro a0 r k
 have ih0:=zac.mono_l k
 unfold zac.f
 repeat' first
  |(with_reducible exact ih0 _ _ _)
  |(with_reducible exact LeO.refl _)
  |(with_reducible exact LeO.none _)
  |(with_reducible refine LeO.ite ?_ ?_)
  |(with_reducible refine LeO.bind ?_ (fun _=>?_))
  |exact ih0 _ _ _
  |exact LeO.none _
  |refine LeO.ite ?_ ?_
  |refine LeO.bind ?_ (fun _=>?_)
def zac.T4:Bool × List (List Nat × List Nat):=(true,[([],[]),([0],[0]),([1],[1]),([2],[2]),([3,2],[2,3]),([2,4],[2,4]),([],[]),([6],[6]),([],[]),([],[]),([7,8,9],[7,8,9]),([5,10],[5,10]),([11,2,0,1,2,3,4,5,6,7,8,9,10,11],[11])])
def zac.B4:List Nat:=[0,1,3,7,15,31,0,64,0,0,960,2047,4095]
theorem zac.tab4:rtab .any (zd3 Try.f170 4)=zac.T4:=by kernel_rfl
theorem zac.bits4:zcl zac.T4.2 zac.B4=true:=by kernel_rfl
set_option maxHeartbeats 8000000 in
theorem zac.calls (k:Nat) (aj:Bool) (P0_1_:Nat→Prop) (X:Option Addr) (Y:Nat) (l0_1:List Int) (r1:Bool) (r2:List Int) (w:World) (b7:Kd.V (Kd.int .u64) 187 w w.heap.size (fun k_=>P0_1_ k_) (.slice X l0_1.length Y) l0_1) (h:zac.f k aj l0_1=some (r1,r2)) :
 Calls Try.prog 170 #[.agg #[.bool aj,.slice X l0_1.length Y]] w fun e w'=>∃bg:Value,e= .returned (.agg #[.bool r1,bg])∧Kd.V (Kd.int .u64) 187 w' w.heap.size (fun k_=>(P0_1_ k_∨w.heap.size≤k_)) bg r2∧Below w.heap.size w w':=by
 have bG:=Try.underlying160
 have am:=mk (show Kd.V (Kd.int .u64) 187 w w.heap.size (fun k_=>(P0_1_ k_∨w.heap.size≤k_)) (.slice X l0_1.length Y) l0_1 from Kd.V_mono b7 (fun k_ hk=>.inl hk))
 have HB:=mk (Below.refl w.heap.size w)
 have H:(zac.l0 k (l0_1.length:Int) aj l0_1)=some (r1,r2):=h
 clear h
 have H':=mk H
 clear H
 go_enter Try.func170,Try.ntmps170
 go_wp2_with (first|((with_reducible refine zao (N:=1) rfl ?_);refine zal ?hg (N:=1) ?hd (cs:=#[.bool aj,.slice X l0_1.length Y]) (t:=160) ?hr ?_;(case hd=>rfl);(case hg=>rfl);(case hr=>exact kq21);intro Z hg w2 hbox hb;have L:=mk (hbox);have b8:=(gs_ hg kq8);have aa:=b8;replace am:=mk (Kd.V_below (Kd.V_elderB (kq23 am) Z (Nat.le_of_eq hg.symm)) hb);replace HB:=mk (zaa kq8 hb);clear hb hbox hg)|((with_reducible refine zao (N:=2) rfl ?_);refine zal ?hg (N:=2) ?hd (cs:=#[.bool false,.slice none 0 0]) (t:=160) ?hr ?_;(case hd=>rfl);(case hg=>rfl);(case hr=>exact kq21);intro G hg w3 hbox hb;have I:=mk (hbox);have b9:=(gs_ hg (kq20 aa));have al:=b9;have r:=(nl_ hg L);have M:=(ng_ hg L);replace am:=mk (Kd.V_below (Kd.V_elderB (kq23 am) G (Nat.le_of_eq hg.symm)) hb);replace L:=(bb_ L hb);replace HB:=mk (zaa (kq20 aa) hb);clear hb hbox hg;have cx:=r.out;have cy:=M.out;obtain⟨_,_,_,_⟩:=cz2_ L.out))
 go_loopg [3] k (fun kq v3 w'=>∃(J:Int),v3= .int .i64 J∧Aside0 (zac.l0 kq J aj l0_1=some (r1,r2))∧Aside0 (kq≤k)∧Aside0 (Kd.V (Kd.int .u64) 187 w' w.heap.size (fun k_=>(P0_1_ k_∨w.heap.size≤k_)∧k_≠Z∧k_≠G) (.slice X l0_1.length Y) l0_1)∧Aside0 (w'.heap[Z]?=some (.cells #[.bool aj,(.slice X l0_1.length Y)] 160 (0,0)))∧Aside0 (w'.heap[G]?=some (.cells #[.bool false,(.slice none 0 0)] 160 (0,0)))∧Aside0 (Below w.heap.size w w'))
 case atStart=>exact⟨((l0_1.length:Int)),kq3,H',⟨Nat.le_refl _⟩,⟨by(with_reducible repeat(first|apply Kd.V_alloc|apply Kd.V_drewN|apply Kd.V_drew));exact Kd.V_mono am.out (fun _ hk=>⟨hk.1.1,⟨hk.1.2,hk.2⟩⟩)⟩,⟨(kq22 L)⟩,⟨(kq22 I)⟩,⟨(kq31 aa al)⟩⟩
 case round=>
  clear H'
  obtain⟨J,rfl,HA,HK1,D,L,I,HB⟩:=hrel
  cases gk with
  |zero=>exact absurd HA.out (by simp [zac.l0])
  |succ k1=>
   have H:=HA.out;clear HA;simp only[zac.l0]at H;replace H:=ic_ H;obtain⟨c6,H⟩|⟨c6,H⟩:=H
   ·have bh:decide (0<J)=true:=decide_eq_true c6;clear c6;obtain⟨ab,hji7⟩:∃j_:Int,(wrap64 (J-1))=j_:=⟨_,rfl⟩;(replace H:(if 0≤(ab)then(if(ab)<(l0_1.length:Int)then(if(rd l0_1 (ab))=0 then(zac.l0 k1 ab aj l0_1)else(if aj=true then(if 0≤J then(if J≤(l0_1.length:Int)then(some (true,(l0_1.take (J:Int).toNat)))else(none))else(none))else(if 0≤J then(if J≤(l0_1.length:Int)then(some (false,(l0_1.take (J:Int).toNat)))else(none))else(none))))else(none))else(none))=some (r1,r2):=by first|(rw[hji7]at H;exact H)|(simp only[hji7]at H ⊢;exact H));have hji7w:(IntKind.i64.wrap (J-1))=ab:=(zbi _).trans hji7;replace H:=ic_ H;obtain⟨c8,H⟩|⟨c8,H⟩:=H
    ·have cz:decide (0≤(ab))=true:=decide_eq_true c8;clear c8;replace H:=ic_ H;obtain⟨c9,H⟩|⟨c9,H⟩:=H
     ·have cA:decide ((ab)<(l0_1.length:Int))=true:=decide_eq_true c9;clear c9;replace H:=ic_ H;obtain⟨aQ,H⟩|⟨aQ,H⟩:=H
      ·obtain⟨ba,bb⟩:=eTn_ aQ;clear aQ;have H':=mk H;clear H;have bH:=r.out;have bI:=M.out;obtain⟨_,_,_,_⟩:=cz2_ L.out;have ac:0≤((ab):Int):=of_decide_eq_true kq7;have ae:(ab)<(l0_1.length:Int):=of_decide_eq_true kq7;obtain⟨U,ar,au⟩:=Kd.at_int (Kd.V_reads' D.out).2.2 (ab) ac ae;cases ar;replace ac:=eq_true ac;replace ae:=eq_true ae;go_wp2;(go_roundg k1)
       case measure=>have:=HK1.out;omega
       case rel=>exact⟨(ab),(by first|rfl|(simp;done)|(simp only[←hji7]<;>(first|rfl|simp))|(simp [*];done)),H',⟨kq19⟩,⟨(kq23 D)⟩,⟨(kq22 L)⟩,⟨(kq22 I)⟩,⟨(kq31 aa al)⟩⟩
      ·obtain⟨ba,bb⟩:=eFn_ aQ;(by_cases aT:aj=true)
       ·subst aT;(have H1:(if 0≤J then(if J≤(l0_1.length:Int)then(some (true,(l0_1.take (J:Int).toNat)))else(none))else(none))=some (r1,r2):=by rw[if_pos rfl]at H;exact H);clear H;have H:=H1;clear H1;replace H:=ic_ H;obtain⟨aU,H⟩|⟨aU,H⟩:=H
        ·have bJ:=eq_true aU;have bK:=decide_eq_true aU;clear aU;replace H:=ic_ H;obtain⟨aV,H⟩|⟨aV,H⟩:=H
         ·have bL:=eq_true aV;have bM:=decide_eq_true aV;clear aV;obtain⟨af,an⟩:∃y_:List Int,y_=(l0_1.take (J:Int).toNat):=⟨_,rfl⟩;(replace H:(some (true,af))=some (r1,r2):=by first|(rw[an];with_reducible exact H)|(have ak:=(Option.bind_some _ _).symm.trans H;rw[an];with_reducible exact ak)|(have ak:=(Option.bind_some _ _).symm.trans H;with_reducible exact ak)|with_reducible exact H|(rw[an];exact H)|exact H);have Ny953:=mk an;clear an;simp only[Option.some.injEq,Prod.mk.injEq]at H;obtain⟨rfl,rfl⟩:=H;have bN:=r.out;have bO:=M.out;obtain⟨_,_,_,_⟩:=cz2_ L.out;have ac:0≤((ab):Int):=of_decide_eq_true kq7;have ae:(ab)<(l0_1.length:Int):=of_decide_eq_true kq7;obtain⟨U,ar,au⟩:=Kd.at_int (Kd.V_reads' D.out).2.2 (ab) ac ae;cases ar;replace ac:=eq_true ac;replace ae:=eq_true ae;(try go_wp2);replace D:=mk (Kd.V_drew D.out);replace L:=mk (zaf L.out);replace I:=mk (zaf I.out);replace HB:=mk (zaP HB.out);have bc:(J:Int)≤((l0_1.length:Int):Int):=of_decide_eq_true kq7;obtain⟨cB,av,_,hsz19,_⟩:=info_parts zdA;have hroom19:l0_1.length≤Y:=(Kd.V_reads' D.out).2.1;have hC19:Kd.F (Kd.int .u64) _ _ (some U) l0_1.length l0_1:=(Kd.V_at (base:=w.heap.size) D.out).2.2;have hcut19:=zfr (P:=Try.prog) 158 187 .i64 Try.underlying158 av (some U) l0_1.length Y J (of_decide_eq_true kq7) bc hroom19;have aw:=Kd.F_take (m:=(J:Int).toNat) hC19 kq1;have ax:af.length=(J:Int).toNat:=(by rw[Ny953.out,List.length_take];omega);rw[←Ny953.out]at aw;rw[←ax]at hcut19;have ay:=mk (show Kd.V (Kd.int .u64) 187 _ w.heap.size _ (.slice (some U) af.length af.length) af from Kd.V_mk kq1 aw);have bP:=mk (show af.length≤af.length from by omega);clear aw hC19 hroom19 av hsz19;have KY19:=mk ax;clear ax;replace bc:=eq_true bc;refine zbv (n:=13) (S:=fun w'=>w'.cell? ⟨Z,0,none⟩=some (.bool true)∧w'.cell? ⟨Z,1,none⟩=some (.slice (some U) l0_1.length Y)) (ds:=[]) #[false,false,false,false,false,false,false,false,false,false,false,false,false] kq0 rfl rfl ⟨bk_ L 0,bk_ L 1⟩ (fun hHeld=>?_);refine zbo zac.tab4 zac.bits4 (fun HT_ HW_=>?_);(generalize wr.drew=bi at D L I HB ay hHeld ⊢);refine puT_ 0 20 ?_
          refine puT_ 6 26 ?_
          refine puT_ 8 28 ?_
          refine puT_ 9 29 ?_
          refine taT_ 1 21 hHeld ?_
          refine puT_ 2 22 ?_
          refine puT_ 3 23 ?_
          refine puT_ 4 24 ?_
          refine puT_ 5 25 ?_
          refine taT_ 7 27 hHeld ?_
          refine puT_ 10 30 ?_
          refine puT_ 11 31 ?_
          refine one_ (i:=12) (N:=none) #[true,true,true,true,true,true,true,true,true,true,true,true,true] rfl rfl (zc7 HT_.out kq0) kq2 (fun K hK=>?_);have cC:bi.cell? ⟨G,0,none⟩=some (.bool false):=bk_ I 0;have bQ:=zaD I.out 0;have bj:=r.out;have bk:=M.out;have cD:bi.cell? ⟨G,1,none⟩=some (.slice none 0 0):=bk_ I 1;have bR:=zaD I.out 1;have bm:=r.out;have bn:=M.out;refine zbO (w1:=?_) (by rfl) rfl ?_ ?_;rotate_left
          ·go_simp;rfl
          refine hK.out _ _ ⟨((zam (p:=⟨G,_,none⟩) r.out _).trans (((zam (p:=⟨G,_,none⟩) r.out _).trans (hHeld.1)))),((zam (p:=⟨G,_,none⟩) r.out _).trans (((zam (p:=⟨G,_,none⟩) r.out _).trans (hHeld.2))))⟩ (fun hHeld=>?_);clear hK K;refine zbC (zbR HT_.out kq0) ?_;(try go_wp2);refine bodyPost_ret (results_cell_row rfl _ _ G 160 #[.bool true,.slice (some U) af.length af.length] (0,0) _ rfl (by(with_reducible repeat(first|refine zag ?_ _|refine zaf ?_|refine zab ?_ _));refine zak (cs:=#[.bool true,.slice none 0 0]) ?_ 1 _ rfl;(with_reducible repeat(first|refine zag ?_ _|refine zaf ?_|refine zab ?_ _));refine zak (cs:=#[.bool false,.slice none 0 0]) ?_ 0 _ rfl;(with_reducible repeat(first|refine zag ?_ _|refine zaf ?_|refine zab ?_ _));exact I.out) Try.underlying160 rfl kq0) rfl ?_;exact⟨_,kq32,by(with_reducible repeat(first|apply Kd.V_alloc|apply Kd.V_drewN|apply Kd.V_drew));exact Kd.V_mono (Kd.V_far (p:=⟨G,1,none⟩) (Kd.V_far (p:=⟨G,0,none⟩) (Kd.V_mono ay.out (fun k_ hk=>(⟨hk,hk.2.2⟩:_∧k_≠G))) (fun _ hk=>hk.2) (.bool true)) (fun _ hk=>hk.2) (.slice (some U) af.length af.length)) (fun _ hk=>hk.1.1),(kq31 aa al)⟩
         ·exact absurd H (by simp)
        ·exact absurd H (by simp)
       ·replace aT:=Bool.eq_false_iff.mpr aT;subst aT;(have H1:(if 0≤J then(if J≤(l0_1.length:Int)then(some (false,(l0_1.take (J:Int).toNat)))else(none))else(none))=some (r1,r2):=by rw[if_neg (show ¬(false=true) by decide)]at H;exact H);clear H;have H:=H1;clear H1;replace H:=ic_ H;obtain⟨aW,H⟩|⟨aW,H⟩:=H
        ·have bS:=eq_true aW;have bT:=decide_eq_true aW;clear aW;replace H:=ic_ H;obtain⟨aX,H⟩|⟨aX,H⟩:=H
         ·have bU:=eq_true aX;have bV:=decide_eq_true aX;clear aX;obtain⟨ag,ao⟩:∃y_:List Int,y_=(l0_1.take (J:Int).toNat):=⟨_,rfl⟩;(replace H:(some (false,ag))=some (r1,r2):=by first|(rw[ao];with_reducible exact H)|(have ak:=(Option.bind_some _ _).symm.trans H;rw[ao];with_reducible exact ak)|(have ak:=(Option.bind_some _ _).symm.trans H;with_reducible exact ak)|with_reducible exact H|(rw[ao];exact H)|exact H);have Ny958:=mk ao;clear ao;simp only[Option.some.injEq,Prod.mk.injEq]at H;obtain⟨rfl,rfl⟩:=H;have bW:=r.out;have bX:=M.out;obtain⟨_,_,_,_⟩:=cz2_ L.out;have ac:0≤((ab):Int):=of_decide_eq_true kq7;have ae:(ab)<(l0_1.length:Int):=of_decide_eq_true kq7;obtain⟨U,ar,au⟩:=Kd.at_int (Kd.V_reads' D.out).2.2 (ab) ac ae;cases ar;replace ac:=eq_true ac;replace ae:=eq_true ae;(try go_wp2);replace D:=mk (Kd.V_drew D.out);replace L:=mk (zaf L.out);replace I:=mk (zaf I.out);replace HB:=mk (zaP HB.out);have bd:(J:Int)≤((l0_1.length:Int):Int):=of_decide_eq_true kq7;obtain⟨cE,az,_,hsz27,_⟩:=info_parts zdA;have hroom27:l0_1.length≤Y:=(Kd.V_reads' D.out).2.1;have hC27:Kd.F (Kd.int .u64) _ _ (some U) l0_1.length l0_1:=(Kd.V_at (base:=w.heap.size) D.out).2.2;have hcut27:=zfr (P:=Try.prog) 158 187 .i64 Try.underlying158 az (some U) l0_1.length Y J (of_decide_eq_true kq7) bd hroom27;have aA:=Kd.F_take (m:=(J:Int).toNat) hC27 kq1;have aC:ag.length=(J:Int).toNat:=(by rw[Ny958.out,List.length_take];omega);rw[←Ny958.out]at aA;rw[←aC]at hcut27;have aD:=mk (show Kd.V (Kd.int .u64) 187 _ w.heap.size _ (.slice (some U) ag.length ag.length) ag from Kd.V_mk kq1 aA);have bY:=mk (show ag.length≤ag.length from by omega);clear aA hC27 hroom27 az hsz27;have KY27:=mk aC;clear aC;replace bd:=eq_true bd;refine zbv (n:=13) (S:=fun w'=>w'.cell? ⟨Z,0,none⟩=some (.bool false)∧w'.cell? ⟨Z,1,none⟩=some (.slice (some U) l0_1.length Y)) (ds:=[]) #[false,false,false,false,false,false,false,false,false,false,false,false,false] kq0 rfl rfl ⟨bk_ L 0,bk_ L 1⟩ (fun hHeld=>?_);refine zbo zac.tab4 zac.bits4 (fun HT_ HW_=>?_);(generalize wr.drew=bo at D L I HB aD hHeld ⊢);refine puT_ 0 20 ?_
          refine puT_ 6 26 ?_
          refine puT_ 8 28 ?_
          refine puT_ 9 29 ?_
          refine taT_ 1 21 hHeld ?_
          refine puT_ 2 22 ?_
          refine pvT_ 3 23 ?_
          refine pvT_ 4 24 ?_
          refine puT_ 5 25 ?_
          refine taT_ 7 27 hHeld ?_
          refine puT_ 10 30 ?_
          refine puT_ 11 31 ?_
          refine one_ (i:=12) (N:=none) #[true,true,true,true,true,true,true,true,true,true,true,true,true] rfl rfl (zc7 HT_.out kq0) kq2 (fun K hK=>?_);have cF:bo.cell? ⟨G,0,none⟩=some (.bool false):=bk_ I 0;have bZ:=zaD I.out 0;have bp:=r.out;have br:=M.out;have cG:bo.cell? ⟨G,1,none⟩=some (.slice none 0 0):=bk_ I 1;have cd:=zaD I.out 1;have bs:=r.out;have bu:=M.out;refine zbO (w1:=?_) (by rfl) rfl ?_ ?_;rotate_left
          ·go_simp;rfl
          refine hK.out _ _ ⟨((zam (p:=⟨G,_,none⟩) r.out _).trans (((zam (p:=⟨G,_,none⟩) r.out _).trans (hHeld.1)))),((zam (p:=⟨G,_,none⟩) r.out _).trans (((zam (p:=⟨G,_,none⟩) r.out _).trans (hHeld.2))))⟩ (fun hHeld=>?_);clear hK K;refine zbC (zbR HT_.out kq0) ?_;(try go_wp2);refine bodyPost_ret (results_cell_row rfl _ _ G 160 #[.bool false,.slice (some U) ag.length ag.length] (0,0) _ rfl (kq24 I) Try.underlying160 rfl kq0) rfl ?_;exact⟨_,kq32,by(with_reducible repeat(first|apply Kd.V_alloc|apply Kd.V_drewN|apply Kd.V_drew));exact Kd.V_mono (Kd.V_far (p:=⟨G,1,none⟩) (Kd.V_far (p:=⟨G,0,none⟩) (Kd.V_mono aD.out (fun k_ hk=>(⟨hk,hk.2.2⟩:_∧k_≠G))) (fun _ hk=>hk.2) (.bool false)) (fun _ hk=>hk.2) (.slice (some U) ag.length ag.length)) (fun _ hk=>hk.1.1),(kq31 aa al)⟩
         ·exact absurd H (by simp)
        ·exact absurd H (by simp)
     ·exact absurd H (by simp)
    ·exact absurd H (by simp)
   ·have bh:decide (0<J)=false:=decide_eq_false c6;clear c6;(by_cases aY:aj=true)
    ·subst aY;(have H1:(if 0≤J then(if J≤(l0_1.length:Int)then(some (false,(l0_1.take (J:Int).toNat)))else(none))else(none))=some (r1,r2):=by rw[if_pos rfl]at H;exact H);clear H;have H:=H1;clear H1;replace H:=ic_ H;obtain⟨aZ,H⟩|⟨aZ,H⟩:=H
     ·have ce:=eq_true aZ;have cg:=decide_eq_true aZ;clear aZ;replace H:=ic_ H;obtain⟨b4,H⟩|⟨b4,H⟩:=H
      ·have ch:=eq_true b4;have ci:=decide_eq_true b4;clear b4;obtain⟨ah,ap⟩:∃y_:List Int,y_=(l0_1.take (J:Int).toNat):=⟨_,rfl⟩;(replace H:(some (false,ah))=some (r1,r2):=by first|(rw[ap];with_reducible exact H)|(have ak:=(Option.bind_some _ _).symm.trans H;rw[ap];with_reducible exact ak)|(have ak:=(Option.bind_some _ _).symm.trans H;with_reducible exact ak)|with_reducible exact H|(rw[ap];exact H)|exact H);have Ny963:=mk ap;clear ap;simp only[Option.some.injEq,Prod.mk.injEq]at H;obtain⟨rfl,rfl⟩:=H;(try go_wp2);replace D:=mk (Kd.V_drew D.out);replace L:=mk (zaf L.out);replace I:=mk (zaf I.out);replace HB:=mk (zaP HB.out);have be:(J:Int)≤((l0_1.length:Int):Int):=of_decide_eq_true kq7;obtain⟨cH,aE,_,hsz34,_⟩:=info_parts zdA;have hroom34:l0_1.length≤Y:=(Kd.V_reads' D.out).2.1;have hC34:Kd.F (Kd.int .u64) _ _ X l0_1.length l0_1:=(Kd.V_at (base:=w.heap.size) D.out).2.2;have hcut34:=zfr (P:=Try.prog) 158 187 .i64 Try.underlying158 aE X l0_1.length Y J (of_decide_eq_true kq7) be hroom34;have aG:=Kd.F_take (m:=(J:Int).toNat) hC34 kq1;have aH:ah.length=(J:Int).toNat:=(by rw[Ny963.out,List.length_take];omega);rw[←Ny963.out]at aG;rw[←aH]at hcut34;have aI:=mk (show Kd.V (Kd.int .u64) 187 _ w.heap.size _ (.slice X ah.length ah.length) ah from Kd.V_mk kq1 aG);have cj:=mk (show ah.length≤ah.length from by omega);clear aG hC34 hroom34 aE hsz34;have KY34:=mk aH;clear aH;replace be:=eq_true be;refine zbv (n:=13) (S:=fun w'=>w'.cell? ⟨Z,0,none⟩=some (.bool true)∧w'.cell? ⟨Z,1,none⟩=some (.slice X l0_1.length Y)) (ds:=[]) #[false,false,false,false,false,false,false,false,false,false,false,false,false] kq0 rfl rfl ⟨bk_ L 0,bk_ L 1⟩ (fun hHeld=>?_);refine zbo zac.tab4 zac.bits4 (fun HT_ HW_=>?_);(generalize wr.drew=bv at D L I HB aI hHeld ⊢);refine puT_ 0 20 ?_
       refine puT_ 6 26 ?_
       refine puT_ 8 28 ?_
       refine puT_ 9 29 ?_
       refine taT_ 1 21 hHeld ?_
       refine puT_ 2 22 ?_
       refine puT_ 3 23 ?_
       refine puT_ 4 24 ?_
       refine puT_ 5 25 ?_
       refine taT_ 7 27 hHeld ?_
       refine puT_ 10 30 ?_
       refine puT_ 11 31 ?_
       refine one_ (i:=12) (N:=none) #[true,true,true,true,true,true,true,true,true,true,true,true,true] rfl rfl (zc7 HT_.out kq0) kq2 (fun K hK=>?_);have cI:bv.cell? ⟨G,0,none⟩=some (.bool false):=bk_ I 0;have ck:=zaD I.out 0;have bw:=r.out;have bx:=M.out;have cJ:bv.cell? ⟨G,1,none⟩=some (.slice none 0 0):=bk_ I 1;have cm:=zaD I.out 1;have bz:=r.out;have bA:=M.out;refine zbO (w1:=?_) (by rfl) rfl ?_ ?_;rotate_left
       ·go_simp;rfl
       refine hK.out _ _ ⟨((zam (p:=⟨G,_,none⟩) r.out _).trans (((zam (p:=⟨G,_,none⟩) r.out _).trans (hHeld.1)))),((zam (p:=⟨G,_,none⟩) r.out _).trans (((zam (p:=⟨G,_,none⟩) r.out _).trans (hHeld.2))))⟩ (fun hHeld=>?_);clear hK K;refine zbC (zbR HT_.out kq0) ?_;(try go_wp2);refine bodyPost_ret (results_cell_row rfl _ _ G 160 #[.bool false,.slice X ah.length ah.length] (0,0) _ rfl (kq24 I) Try.underlying160 rfl kq0) rfl ?_;exact⟨_,kq18,by(with_reducible repeat(first|apply Kd.V_alloc|apply Kd.V_drewN|apply Kd.V_drew));exact Kd.V_mono (Kd.V_far (p:=⟨G,1,none⟩) (Kd.V_far (p:=⟨G,0,none⟩) (Kd.V_mono aI.out (fun k_ hk=>(⟨hk,hk.2.2⟩:_∧k_≠G))) (fun _ hk=>hk.2) (.bool false)) (fun _ hk=>hk.2) (.slice X ah.length ah.length)) (fun _ hk=>hk.1.1),(kq31 aa al)⟩
      ·exact absurd H (by simp)
     ·exact absurd H (by simp)
    ·replace aY:=Bool.eq_false_iff.mpr aY;subst aY;(have H1:(if 0≤J then(if J≤(l0_1.length:Int)then(some (false,(l0_1.take (J:Int).toNat)))else(none))else(none))=some (r1,r2):=by rw[if_neg (show ¬(false=true) by decide)]at H;exact H);clear H;have H:=H1;clear H1;replace H:=ic_ H;obtain⟨b5,H⟩|⟨b5,H⟩:=H
     ·have co:=eq_true b5;have cp:=decide_eq_true b5;clear b5;replace H:=ic_ H;obtain⟨b6,H⟩|⟨b6,H⟩:=H
      ·have cq:=eq_true b6;have cr:=decide_eq_true b6;clear b6;obtain⟨ai,aq⟩:∃y_:List Int,y_=(l0_1.take (J:Int).toNat):=⟨_,rfl⟩;(replace H:(some (false,ai))=some (r1,r2):=by first|(rw[aq];with_reducible exact H)|(have ak:=(Option.bind_some _ _).symm.trans H;rw[aq];with_reducible exact ak)|(have ak:=(Option.bind_some _ _).symm.trans H;with_reducible exact ak)|with_reducible exact H|(rw[aq];exact H)|exact H);have Ny968:=mk aq;clear aq;simp only[Option.some.injEq,Prod.mk.injEq]at H;obtain⟨rfl,rfl⟩:=H;(try go_wp2);replace D:=mk (Kd.V_drew D.out);replace L:=mk (zaf L.out);replace I:=mk (zaf I.out);replace HB:=mk (zaP HB.out);have bf:(J:Int)≤((l0_1.length:Int):Int):=of_decide_eq_true kq7;obtain⟨cK,aJ,_,hsz40,_⟩:=info_parts zdA;have hroom40:l0_1.length≤Y:=(Kd.V_reads' D.out).2.1;have hC40:Kd.F (Kd.int .u64) _ _ X l0_1.length l0_1:=(Kd.V_at (base:=w.heap.size) D.out).2.2;have hcut40:=zfr (P:=Try.prog) 158 187 .i64 Try.underlying158 aJ X l0_1.length Y J (of_decide_eq_true kq7) bf hroom40;have aK:=Kd.F_take (m:=(J:Int).toNat) hC40 kq1;have aM:ai.length=(J:Int).toNat:=(by rw[Ny968.out,List.length_take];omega);rw[←Ny968.out]at aK;rw[←aM]at hcut40;have aN:=mk (show Kd.V (Kd.int .u64) 187 _ w.heap.size _ (.slice X ai.length ai.length) ai from Kd.V_mk kq1 aK);have ct:=mk (show ai.length≤ai.length from by omega);clear aK hC40 hroom40 aJ hsz40;have KY40:=mk aM;clear aM;replace bf:=eq_true bf;refine zbv (n:=13) (S:=fun w'=>w'.cell? ⟨Z,0,none⟩=some (.bool false)∧w'.cell? ⟨Z,1,none⟩=some (.slice X l0_1.length Y)) (ds:=[]) #[false,false,false,false,false,false,false,false,false,false,false,false,false] kq0 rfl rfl ⟨bk_ L 0,bk_ L 1⟩ (fun hHeld=>?_);refine zbo zac.tab4 zac.bits4 (fun HT_ HW_=>?_);(generalize wr.drew=bB at D L I HB aN hHeld ⊢);refine puT_ 0 20 ?_
       refine puT_ 6 26 ?_
       refine puT_ 8 28 ?_
       refine puT_ 9 29 ?_
       refine taT_ 1 21 hHeld ?_
       refine puT_ 2 22 ?_
       refine pvT_ 3 23 ?_
       refine pvT_ 4 24 ?_
       refine puT_ 5 25 ?_
       refine taT_ 7 27 hHeld ?_
       refine puT_ 10 30 ?_
       refine puT_ 11 31 ?_
       refine one_ (i:=12) (N:=none) #[true,true,true,true,true,true,true,true,true,true,true,true,true] rfl rfl (zc7 HT_.out kq0) kq2 (fun K hK=>?_);have cL:bB.cell? ⟨G,0,none⟩=some (.bool false):=bk_ I 0;have cu:=zaD I.out 0;have bC:=r.out;have bD:=M.out;have cM:bB.cell? ⟨G,1,none⟩=some (.slice none 0 0):=bk_ I 1;have cw:=zaD I.out 1;have bE:=r.out;have bF:=M.out;refine zbO (w1:=?_) (by rfl) rfl ?_ ?_;rotate_left
       ·go_simp;rfl
       refine hK.out _ _ ⟨((zam (p:=⟨G,_,none⟩) r.out _).trans (((zam (p:=⟨G,_,none⟩) r.out _).trans (hHeld.1)))),((zam (p:=⟨G,_,none⟩) r.out _).trans (((zam (p:=⟨G,_,none⟩) r.out _).trans (hHeld.2))))⟩ (fun hHeld=>?_);clear hK K;refine zbC (zbR HT_.out kq0) ?_;(try go_wp2);refine bodyPost_ret (results_cell_row rfl _ _ G 160 #[.bool false,.slice X ai.length ai.length] (0,0) _ rfl (kq24 I) Try.underlying160 rfl kq0) rfl ?_;exact⟨_,kq18,by(with_reducible repeat(first|apply Kd.V_alloc|apply Kd.V_drewN|apply Kd.V_drew));exact Kd.V_mono (Kd.V_far (p:=⟨G,1,none⟩) (Kd.V_far (p:=⟨G,0,none⟩) (Kd.V_mono aN.out (fun k_ hk=>(⟨hk,hk.2.2⟩:_∧k_≠G))) (fun _ hk=>hk.2) (.bool false)) (fun _ hk=>hk.2) (.slice X ai.length ai.length)) (fun _ hk=>hk.1.1),(kq31 aa al)⟩
      ·exact absurd H (by simp)
     ·exact absurd H (by simp)
end Go.Proofs.Ytjknpmibdkoklaa.Q
