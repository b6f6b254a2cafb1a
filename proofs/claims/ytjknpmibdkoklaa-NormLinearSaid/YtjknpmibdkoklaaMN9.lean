/- Functions of the given program as Lean functions, each with its contract, and what they answer; words for it. No condition but those of each. -/
import Derived.Test.YtjknpmibdkoklaaMNS
import Derived.Test.YtjknpmibdkoklaaMNR
import Derived.Test.YtjknpmibdkoklaaMN3
import Derived.Test.YtjknpmibdkoklaaMN8
set_option maxRecDepth 100000
set_option linter.unusedVariables false
set_option linter.unusedSimpArgs false
namespace Go.Proofs.Ytjknpmibdkoklaa.Q
open Go.RowKit Go.Proofs.YtjknpmibdkoklaaW.PrintWords Go.Proofs.YtjknpmibdkoklaaW.PrintLast Go.Proofs.YtjknpmibdkoklaaW.PrintMore
open Aside0 (mk)
open List (setIfInBounds_toArray set_cons_zero set_cons_succ)
attribute [local go_sem] zbw zbz zbP zbQ zbm zbn zbA zbB
set_option linter.unusedVariables false
set_option linter.unusedSimpArgs false
attribute [local go_sem] zbS zbD zbE zbF
def zaL.f (k:Nat) (a0:Int):Option (Bool × List Int):=if a0<0 then((zac.f k true (([Go.bits .and .u64 (IntKind.u64.wrap (-(IntKind.u64.wrap (a0)))) 65535,Go.bits .and .u64 ((IntKind.u64.wrap (-(IntKind.u64.wrap (a0)))) / 65536) 65535,Go.bits .and .u64 ((IntKind.u64.wrap (-(IntKind.u64.wrap (a0)))) / 4294967296) 65535,(IntKind.u64.wrap (-(IntKind.u64.wrap (a0)))) / 281474976710656]:List Int))).bind fun bt977=>(some (bt977.1,bt977.2)))else((zac.f k false (([Go.bits .and .u64 (IntKind.u64.wrap (a0)) 65535,Go.bits .and .u64 ((IntKind.u64.wrap (a0)) / 65536) 65535,Go.bits .and .u64 ((IntKind.u64.wrap (a0)) / 4294967296) 65535,(IntKind.u64.wrap (a0)) / 281474976710656]:List Int))).bind fun bt984=>(some (bt984.1,bt984.2)))
theorem zaL.mono:∀a0 k,LeO (zaL.f k a0) (zaL.f (k+1) a0):=by
 intro a0 k
 unfold zaL.f
 repeat' first
  |(with_reducible exact zac.mono _ _ _)
  |(with_reducible exact LeO.refl _)
  |(with_reducible exact LeO.none _)
  |(with_reducible refine LeO.ite ?_ ?_)
  |(with_reducible refine LeO.bind ?_ (fun _=>?_))
  |exact zac.mono _ _ _
  |exact LeO.none _
  |refine LeO.ite ?_ ?_
  |refine LeO.bind ?_ (fun _=>?_)
set_option maxHeartbeats 8000000 in
theorem zaL.calls (k:Nat) (a0:Int) (r1:Bool) (r2:List Int) (w:World) (h:zaL.f k a0=some (r1,r2)) :
 Calls Try.prog 133 #[.int .i64 a0] w fun e w'=>∃an:Value,e= .returned (.agg #[.bool r1,an])∧Kd.V (Kd.int .u64) 187 w' w.heap.size (fun k_=>(w.heap.size≤k_)) an r2∧Below w.heap.size w w':=by
 have ax:=Try.underlying160
 have HB:=mk (Below.refl w.heap.size w)
 have H:(if a0<0 then((zac.f k true (([Go.bits .and .u64 (IntKind.u64.wrap (-(IntKind.u64.wrap (a0)))) 65535,Go.bits .and .u64 ((IntKind.u64.wrap (-(IntKind.u64.wrap (a0)))) / 65536) 65535,Go.bits .and .u64 ((IntKind.u64.wrap (-(IntKind.u64.wrap (a0)))) / 4294967296) 65535,(IntKind.u64.wrap (-(IntKind.u64.wrap (a0)))) / 281474976710656]:List Int))).bind fun L=>(some (L.1,L.2)))else((zac.f k false (([Go.bits .and .u64 (IntKind.u64.wrap (a0)) 65535,Go.bits .and .u64 ((IntKind.u64.wrap (a0)) / 65536) 65535,Go.bits .and .u64 ((IntKind.u64.wrap (a0)) / 4294967296) 65535,(IntKind.u64.wrap (a0)) / 281474976710656]:List Int))).bind fun U=>(some (U.1,U.2))))=some (r1,r2):=h
 clear h
 by_cases c2:a0<0
 ·rw[if_pos c2]at H
  have ao:decide (a0<0)=true:=decide_eq_true c2
  clear c2
  obtain⟨ae,X⟩:∃y_:List Int,y_=(([Go.bits .and .u64 (IntKind.u64.wrap (-(IntKind.u64.wrap (a0)))) 65535,Go.bits .and .u64 ((IntKind.u64.wrap (-(IntKind.u64.wrap (a0)))) / 65536) 65535,Go.bits .and .u64 ((IntKind.u64.wrap (-(IntKind.u64.wrap (a0)))) / 4294967296) 65535,(IntKind.u64.wrap (-(IntKind.u64.wrap (a0)))) / 281474976710656]:List Int)):=⟨_,rfl⟩
  replace H:((zac.f k true ae).bind fun L=>(some (L.1,L.2)))=some (r1,r2):=by first|(rw[X];with_reducible exact H)|(have ab:=(Option.bind_some _ _).symm.trans H;rw[X];with_reducible exact ab)|(have ab:=(Option.bind_some _ _).symm.trans H;with_reducible exact ab)|with_reducible exact H|(rw[X];exact H)|exact H
  have Ny974:=mk X
  clear X
  replace H:=Option.bind_eq_some_iff.mp H
  obtain⟨⟨Z,af⟩,ap,H⟩:=H
  replace H:(some (Z,af))=some (r1,r2):=H
  have A3:=mk ap
  clear ap
  simp only[Option.some.injEq,Prod.mk.injEq]at H
  obtain⟨rfl,rfl⟩:=H
  go_enter Try.func133,Try.ntmps133
  go_wp2_with (first|((with_reducible refine zao (N:=2) rfl ?_);refine zal ?hg (N:=2) ?hd (cs:=#[.bool false,.slice none 0 0]) (t:=160) ?hr ?_;(case hd=>rfl);(case hg=>rfl);(case hr=>exact kq21);intro G hg w4 hbox hb;have r:=mk (hbox);have ac:=(gs_ hg kq8);have D:=ac;replace HB:=mk (zaa kq8 hb);clear hb hbox hg)|((with_reducible refine zao (N:=22) rfl ?_);refine Kd.R_lit (Kd.int .u64) _ 187 ?hg (N:=22) ?hd (xs:=([Go.bits .and .u64 (IntKind.u64.wrap (-(IntKind.u64.wrap (a0)))) 65535,Go.bits .and .u64 ((IntKind.u64.wrap (-(IntKind.u64.wrap (a0)))) / 65536) 65535,Go.bits .and .u64 ((IntKind.u64.wrap (-(IntKind.u64.wrap (a0)))) / 4294967296) 65535,(IntKind.u64.wrap (-(IntKind.u64.wrap (a0)))) / 281474976710656]:List Int)) (inner:=[.int .u64 (Go.bits .and .u64 (IntKind.u64.wrap (-(IntKind.u64.wrap (a0)))) 65535),.int .u64 (Go.bits .and .u64 ((IntKind.u64.wrap (-(IntKind.u64.wrap (a0)))) / 65536) 65535),.int .u64 (Go.bits .and .u64 ((IntKind.u64.wrap (-(IntKind.u64.wrap (a0)))) / 4294967296) 65535),.int .u64 ((IntKind.u64.wrap (-(IntKind.u64.wrap (a0)))) / 281474976710656)]) (ok:=fun _=>True) (okp:=fun _=>True) ?hr ?hp (fun _ hk=>hk) trivial (Below.refl _ _) (Nat.le_refl _) (by simp) ?_;(case hd=>rfl);(case hg=>rfl);(case hr=>exact kq21);(case hp=>exact(Reps.one (show Kd.M (Kd.int .u64) _ _ _ (Go.bits .and .u64 (IntKind.u64.wrap (-(IntKind.u64.wrap (a0)))) 65535) [.int .u64 (Go.bits .and .u64 (IntKind.u64.wrap (-(IntKind.u64.wrap (a0)))) 65535)]from rfl) (Reps.one (show Kd.M (Kd.int .u64) _ _ _ (Go.bits .and .u64 ((IntKind.u64.wrap (-(IntKind.u64.wrap (a0)))) / 65536) 65535) [.int .u64 (Go.bits .and .u64 ((IntKind.u64.wrap (-(IntKind.u64.wrap (a0)))) / 65536) 65535)]from rfl) (Reps.one (show Kd.M (Kd.int .u64) _ _ _ (Go.bits .and .u64 ((IntKind.u64.wrap (-(IntKind.u64.wrap (a0)))) / 4294967296) 65535) [.int .u64 (Go.bits .and .u64 ((IntKind.u64.wrap (-(IntKind.u64.wrap (a0)))) / 4294967296) 65535)]from rfl) (Reps.one (show Kd.M (Kd.int .u64) _ _ _ ((IntKind.u64.wrap (-(IntKind.u64.wrap (a0)))) / 281474976710656) [.int .u64 ((IntKind.u64.wrap (-(IntKind.u64.wrap (a0)))) / 281474976710656)]from rfl) (Reps.none _ _))))));intro aA w5 ho6 hb hg_ hnew_;clear hg_ hnew_;(first|rw[←Ny974.out]at ho6|(simp only[Int.reduceToNat]at ho6;rw[←Ny974.out]at ho6));have I:=mk (Kd.R_lower (Kd.R_newM (M:=fun k_=>(w.heap.size≤k_)) ho6 (zad (kq20 D)) (fun k_ h_=>h_)) (zad (kq20 D)));replace r:=(bb_ r hb);replace HB:=mk (zaa (kq20 D) hb);clear hb ho6;obtain⟨aq,ar,ay⟩:=Kd.R_slice I.out;subst ay)|((with_reducible refine zaE (f:=170) rfl ?_);refine za7 (some 24) rfl rfl Try.func170 kq0 rfl #[.agg #[.bool true,.slice aq ae.length ar]] rfl kq10 ?_;(with_reducible refine(zac.calls k true (fun k_=>some k_=(.slice aq ae.length ar:Value).ownBlock) _ _ ae Z af _ ?side1 A3.out).mono ?_);(case side1=>exact Kd.R_V (Kd.R_tight rfl (Kd.R_types (I.out) r.out kq2)));rintro e w8 ⟨aC,rfl,ho0,hb⟩;refine⟨_,rfl,?_⟩;have ai:=mk (Kd.V_lower (Kd.V_mono (ok':=fun k_=>(w.heap.size≤k_)∧k_≠G) ho0 (fun k_ hk_=>⟨Or.elim hk_ (fun hs_=>((Kd.R_types (I.out) r.out kq2).1 k_ hs_.symm).1.1) (fun hn_=>(Nat.le_trans (zad (kq20 D)) hn_)),Or.elim hk_ (fun hs_=>((Kd.R_types (I.out) r.out kq2).1 k_ hs_.symm).2) (fun hn_=>(Kd.freshB (g:=G) (o:=.cells #[.bool false,.slice none 0 0] 160 (0,0)) (kq22 r) k_ hn_))⟩)) (zad (kq20 D)));replace I:=mk (Kd.R_below (kq9 I) hb);replace r:=(bb_ r hb);replace HB:=mk (zaa (kq20 D) hb);obtain⟨_,_,_,_⟩:=cz2_ r.out;obtain⟨ak,al,au⟩:=Kd.V_slice ai.out;subst au))
  refine bodyPost_ret (results_cell_row rfl _ _ G 160 #[.bool Z,.slice ak af.length al] (0,0) _ rfl (by(with_reducible repeat(first|refine zag ?_ _|refine zaf ?_|refine zab ?_ _));refine zak (cs:=#[.bool Z,.slice none 0 0]) ?_ 1 _ rfl;(with_reducible repeat(first|refine zag ?_ _|refine zaf ?_|refine zab ?_ _));refine zak (cs:=#[.bool false,.slice none 0 0]) ?_ 0 _ rfl;(with_reducible repeat(first|refine zag ?_ _|refine zaf ?_|refine zab ?_ _));exact r.out) Try.underlying160 rfl kq0) rfl ?_
  exact⟨_,kq18,by(with_reducible repeat(first|apply Kd.V_alloc|apply Kd.V_drewN|apply Kd.V_drew));exact Kd.V_mono (Kd.V_far (p:=⟨G,1,none⟩) (Kd.V_far (p:=⟨G,0,none⟩) (Kd.V_mono ai.out (fun k_ hk=>(⟨hk,hk.2⟩:_∧k_≠G))) (fun _ hk=>hk.2) (.bool Z)) (fun _ hk=>hk.2) (.slice ak af.length al)) (fun _ hk=>hk.1.1),(kq20 D)⟩
 ·rw[if_neg c2]at H
  have ao:decide (a0<0)=false:=decide_eq_false c2
  clear c2
  obtain⟨ag,Y⟩:∃y_:List Int,y_=(([Go.bits .and .u64 (IntKind.u64.wrap (a0)) 65535,Go.bits .and .u64 ((IntKind.u64.wrap (a0)) / 65536) 65535,Go.bits .and .u64 ((IntKind.u64.wrap (a0)) / 4294967296) 65535,(IntKind.u64.wrap (a0)) / 281474976710656]:List Int)):=⟨_,rfl⟩
  replace H:((zac.f k false ag).bind fun U=>(some (U.1,U.2)))=some (r1,r2):=by first|(rw[Y];with_reducible exact H)|(have ab:=(Option.bind_some _ _).symm.trans H;rw[Y];with_reducible exact ab)|(have ab:=(Option.bind_some _ _).symm.trans H;with_reducible exact ab)|with_reducible exact H|(rw[Y];exact H)|exact H
  have Ny981:=mk Y
  clear Y
  replace H:=Option.bind_eq_some_iff.mp H
  obtain⟨⟨aa,ah⟩,am,H⟩:=H
  replace H:(some (aa,ah))=some (r1,r2):=H
  have az:=mk am
  clear am
  simp only[Option.some.injEq,Prod.mk.injEq]at H
  obtain⟨rfl,rfl⟩:=H
  go_enter Try.func133,Try.ntmps133
  go_wp2_with (first|((with_reducible refine zao (N:=2) rfl ?_);refine zal ?hg (N:=2) ?hd (cs:=#[.bool false,.slice none 0 0]) (t:=160) ?hr ?_;(case hd=>rfl);(case hg=>rfl);(case hr=>exact kq21);intro G hg aG hbox hb;have r:=mk (hbox);have ac:=(gs_ hg kq8);have D:=ac;replace HB:=mk (zaa kq8 hb);clear hb hbox hg)|((with_reducible refine zao (N:=22) rfl ?_);refine Kd.R_lit (Kd.int .u64) _ 187 ?hg (N:=22) ?hd (xs:=([Go.bits .and .u64 (IntKind.u64.wrap (a0)) 65535,Go.bits .and .u64 ((IntKind.u64.wrap (a0)) / 65536) 65535,Go.bits .and .u64 ((IntKind.u64.wrap (a0)) / 4294967296) 65535,(IntKind.u64.wrap (a0)) / 281474976710656]:List Int)) (inner:=[.int .u64 (Go.bits .and .u64 (IntKind.u64.wrap (a0)) 65535),.int .u64 (Go.bits .and .u64 ((IntKind.u64.wrap (a0)) / 65536) 65535),.int .u64 (Go.bits .and .u64 ((IntKind.u64.wrap (a0)) / 4294967296) 65535),.int .u64 ((IntKind.u64.wrap (a0)) / 281474976710656)]) (ok:=fun _=>True) (okp:=fun _=>True) ?hr ?hp (fun _ hk=>hk) trivial (Below.refl _ _) (Nat.le_refl _) (by simp) ?_;(case hd=>rfl);(case hg=>rfl);(case hr=>exact kq21);(case hp=>exact(Reps.one (show Kd.M (Kd.int .u64) _ _ _ (Go.bits .and .u64 (IntKind.u64.wrap (a0)) 65535) [.int .u64 (Go.bits .and .u64 (IntKind.u64.wrap (a0)) 65535)]from rfl) (Reps.one (show Kd.M (Kd.int .u64) _ _ _ (Go.bits .and .u64 ((IntKind.u64.wrap (a0)) / 65536) 65535) [.int .u64 (Go.bits .and .u64 ((IntKind.u64.wrap (a0)) / 65536) 65535)]from rfl) (Reps.one (show Kd.M (Kd.int .u64) _ _ _ (Go.bits .and .u64 ((IntKind.u64.wrap (a0)) / 4294967296) 65535) [.int .u64 (Go.bits .and .u64 ((IntKind.u64.wrap (a0)) / 4294967296) 65535)]from rfl) (Reps.one (show Kd.M (Kd.int .u64) _ _ _ ((IntKind.u64.wrap (a0)) / 281474976710656) [.int .u64 ((IntKind.u64.wrap (a0)) / 281474976710656)]from rfl) (Reps.none _ _))))));intro aD aH ho14 hb hg_ hnew_;clear hg_ hnew_;(first|rw[←Ny981.out]at ho14|(simp only[Int.reduceToNat]at ho14;rw[←Ny981.out]at ho14));have J:=mk (Kd.R_lower (Kd.R_newM (M:=fun k_=>(w.heap.size≤k_)) ho14 (zad (kq20 D)) (fun k_ h_=>h_)) (zad (kq20 D)));replace r:=(bb_ r hb);replace HB:=mk (zaa (kq20 D) hb);clear hb ho14;obtain⟨Ao15,co15,av⟩:=Kd.R_slice J.out;subst av)|((with_reducible refine zaE (f:=170) rfl ?_);refine za7 (some 24) rfl rfl Try.func170 kq0 rfl #[.agg #[.bool false,.slice Ao15 ag.length co15]] rfl kq10 ?_;(with_reducible refine(zac.calls k false (fun k_=>some k_=(.slice Ao15 ag.length co15:Value).ownBlock) _ _ ag aa ah _ ?side1 az.out).mono ?_);(case side1=>exact Kd.R_V (Kd.R_tight rfl (Kd.R_types (J.out) r.out kq2)));rintro e aI ⟨aE,rfl,ho0,hb⟩;refine⟨_,rfl,?_⟩;have aj:=mk (Kd.V_lower (Kd.V_mono (ok':=fun k_=>(w.heap.size≤k_)∧k_≠G) ho0 (fun k_ hk_=>⟨Or.elim hk_ (fun hs_=>((Kd.R_types (J.out) r.out kq2).1 k_ hs_.symm).1.1) (fun hn_=>(Nat.le_trans (zad (kq20 D)) hn_)),Or.elim hk_ (fun hs_=>((Kd.R_types (J.out) r.out kq2).1 k_ hs_.symm).2) (fun hn_=>(Kd.freshB (g:=G) (o:=.cells #[.bool false,.slice none 0 0] 160 (0,0)) (kq22 r) k_ hn_))⟩)) (zad (kq20 D)));replace J:=mk (Kd.R_below (kq9 J) hb);replace r:=(bb_ r hb);replace HB:=mk (zaa (kq20 D) hb);obtain⟨_,_,_,_⟩:=cz2_ r.out;obtain⟨Ao18,co18,aw⟩:=Kd.V_slice aj.out;subst aw))
  refine bodyPost_ret (results_cell_row rfl _ _ G 160 #[.bool aa,.slice Ao18 ah.length co18] (0,0) _ rfl (by(with_reducible repeat(first|refine zag ?_ _|refine zaf ?_|refine zab ?_ _));refine zak (cs:=#[.bool aa,.slice none 0 0]) ?_ 1 _ rfl;(with_reducible repeat(first|refine zag ?_ _|refine zaf ?_|refine zab ?_ _));refine zak (cs:=#[.bool false,.slice none 0 0]) ?_ 0 _ rfl;(with_reducible repeat(first|refine zag ?_ _|refine zaf ?_|refine zab ?_ _));exact r.out) Try.underlying160 rfl kq0) rfl ?_
  exact⟨_,kq18,by(with_reducible repeat(first|apply Kd.V_alloc|apply Kd.V_drewN|apply Kd.V_drew));exact Kd.V_mono (Kd.V_far (p:=⟨G,1,none⟩) (Kd.V_far (p:=⟨G,0,none⟩) (Kd.V_mono aj.out (fun k_ hk=>(⟨hk,hk.2⟩:_∧k_≠G))) (fun _ hk=>hk.2) (.bool aa)) (fun _ hk=>hk.2) (.slice Ao18 ah.length co18)) (fun _ hk=>hk.1.1),(kq20 D)⟩
def zar.f (a0_0:Bool) (l0_1:List Int) (a1:Int):Option (Int):=if a1<(l0_1.length:Int)then(if 0≤a1 then(some (rd l0_1 a1))else(none))else(some 0)
set_option maxHeartbeats 8000000 in
theorem zar.calls (L:Bool) (M:Option Addr) (U:Nat) (l0_1:List Int) (X r:Int) (w:World) (Y:Kd.C (Kd.int .u64) w M l0_1.length l0_1) (hc0_1:l0_1.length≤U) (h:zar.f L l0_1 X=some r) :
 Calls Try.prog 173 #[.agg #[.bool L,.slice M l0_1.length U],.int .i64 X] w fun e w'=>e= .returned (.int .u64 r)∧Below w.heap.size w w':=by
 have ag:=Try.underlying160
 have ab:=mk Y
 have ah:=mk hc0_1
 clear Y hc0_1
 have HB:=mk (Below.refl w.heap.size w)
 have H:(if X<(l0_1.length:Int)then(if 0≤X then(some (rd l0_1 X))else(none))else(some 0))=some r:=h
 clear h
 by_cases c3:X<(l0_1.length:Int)
 ·rw[if_pos c3]at H
  have ae:decide (X<(l0_1.length:Int))=true:=decide_eq_true c3
  clear c3
  replace H:=ic_ H;obtain⟨c4,H⟩|⟨c4,H⟩:=H
  ·have aj:decide (0≤X)=true:=decide_eq_true c4;clear c4;obtain rfl:=Option.some.inj H;(go_enter Try.func173,Try.ntmps173);(go_wp2_with (first|((with_reducible refine zao (N:=2) rfl ?_);refine zal ?hg (N:=2) ?hd (cs:=#[.bool L,.slice M l0_1.length U]) (t:=160) ?hr ?_;(case hd=>rfl);(case hg=>rfl);(case hr=>exact kq21);intro ac hg w5 hbox hb;have G:=mk (hbox);have I:=(gs_ hg kq8);have J:=I;replace HB:=mk (zaa kq8 hb);clear hb hbox hg;obtain⟨_,_,_,_⟩:=cz2_ G.out;have Z:0≤(X:Int):=of_decide_eq_true kq7;have aa:X<(l0_1.length:Int):=of_decide_eq_true kq7;obtain⟨ai,af,D⟩:=Kd.at_int ab.out X Z aa;cases af;replace D:=hc_ HB D;replace Z:=eq_true Z;replace aa:=eq_true aa)));go_ret;exact⟨kq18,(kq20 J)⟩
  ·exact absurd H (by simp)
 ·rw[if_neg c3]at H
  have ae:decide (X<(l0_1.length:Int))=false:=decide_eq_false c3
  clear c3
  obtain rfl:=Option.some.inj H
  go_enter Try.func173,Try.ntmps173
  go_wp2_with (first|((with_reducible refine zao (N:=2) rfl ?_);refine zal ?hg (N:=2) ?hd (cs:=#[.bool L,.slice M l0_1.length U]) (t:=160) ?hr ?_;(case hd=>rfl);(case hg=>rfl);(case hr=>exact kq21);intro ac hg w7 hbox hb;have G:=mk (hbox);have I:=(gs_ hg kq8);have J:=I;replace HB:=mk (zaa kq8 hb);clear hb hbox hg;obtain⟨_,_,_,_⟩:=cz2_ G.out))
  go_ret
  exact⟨kq18,(kq20 J)⟩
mutual
def zas.l0:Nat→List Int→Int→Int→Bool→List Int→Bool→List Int→Option (List Int)
 |0,_,_,_,_,_,_,_=>none
 |k+1,x5,x6,x7,x991000,x991001,x992000,x992001=>if x7<(mx (x991001.length:Int) (x992001.length:Int))then(zas.j1 k x5 x6 x7 true x991000 x991001 x992000 x992001)else(zas.j1 k x5 x6 x7 (decide (x6>0)) x991000 x991001 x992000 x992001)
def zas.j1:Nat→List Int→Int→Int→Bool→Bool→List Int→Bool→List Int→Option (List Int)
 |0,_,_,_,_,_,_,_,_=>none
 |k+1,x5,x6,x7,x21,x991000,x991001,x992000,x992001=>if x21=true then((zar.f x991000 x991001 x7).bind fun t992=>((zar.f x992000 x992001 x7).bind fun t993=>(if x5.length<17592186044416 then(zas.l0 k (x5++[Go.bits .and .u64 (IntKind.u64.wrap ((IntKind.u64.wrap (t992+t993))+x6)) 65535]) ((IntKind.u64.wrap ((IntKind.u64.wrap (t992+t993))+x6)) / 65536) (wrap64 (x7+1)) x991000 x991001 x992000 x992001)else(none))))else(some x5)
end
def zas.f (k:Nat) (a0_0:Bool) (l0_1:List Int) (a1_0:Bool) (l1_1:List Int):Option (List Int):=zas.l0 k ([]:List Int) 0 0 a0_0 l0_1 a1_0 l1_1
theorem zas.mono_l:∀k,(∀f D G I J L M,LeO (zas.l0 k f D G I J L M) (zas.l0 (k+1) f D G I J L M))∧(∀f D G I J L M U,LeO (zas.j1 k f D G I J L M U) (zas.j1 (k+1) f D G I J L M U))
 |0=>⟨fun _ _ _ _ _ _ _ r h=>by simp [zas.l0]at h,fun _ _ _ _ _ _ _ _ r h=>by simp [zas.j1]at h⟩
 |k+1=>by
  obtain⟨ih0,ih1⟩:=zas.mono_l k
  refine⟨?_,?_⟩<;>intros<;>(first|unfold zas.l0|unfold zas.j1)<;>repeat' first|(with_reducible first|exact ih0 _ _ _ _ _ _ _|exact ih1 _ _ _ _ _ _ _ _|exact LeO.refl _|exact LeO.none _|refine LeO.ite ?_ ?_|refine LeO.bind ?_ (fun _=>?_))|exact ih0 _ _ _ _ _ _ _|exact ih1 _ _ _ _ _ _ _ _|exact LeO.none _|refine LeO.ite ?_ ?_|refine LeO.bind ?_ (fun _=>?_)
theorem zas.mono:∀a0 r D a3 k,LeO (zas.f k a0 r D a3) (zas.f (k+1) a0 r D a3):=by
 intro a0 r D a3 k
 obtain⟨ih0,ih1⟩:=zas.mono_l k
 unfold zas.f
 repeat' first
  |(with_reducible exact ih0 _ _ _ _ _ _ _)
  |(with_reducible exact ih1 _ _ _ _ _ _ _ _)
  |(with_reducible exact LeO.refl _)
  |(with_reducible exact LeO.none _)
  |(with_reducible refine LeO.ite ?_ ?_)
  |(with_reducible refine LeO.bind ?_ (fun _=>?_))
  |exact ih0 _ _ _ _ _ _ _
  |exact ih1 _ _ _ _ _ _ _ _
  |exact LeO.none _
  |refine LeO.ite ?_ ?_
  |refine LeO.bind ?_ (fun _=>?_)
def zas.T6:Bool × List (List Nat × List Nat):=(true,[([],[]),([],[]),([0,1],[0,1]),([],[]),([],[]),([3,4,2],[3,4]),([2,5],[2,5]),([],[]),([6,7],[6,7]),([8,5,0,1,2,3,4,5,6,7,8],[8])])
def zas.B6:List Nat:=[0,0,3,0,0,31,63,0,255,511]
theorem zas.tab6:rtab .any (zd3 Try.f169 6)=zas.T6:=by kernel_rfl
theorem zas.bits6:zcl zas.T6.2 zas.B6=true:=by kernel_rfl
set_option maxHeartbeats 8000000 in
theorem zas.calls (k:Nat) (J:Bool) (ac:Option Addr) (ae:Nat) (l0_1:List Int) (I:Bool) (af:Option Addr) (ag:Nat) (l1_1 r:List Int) (w:World) (ao:Kd.C (Kd.int .u64) w ac l0_1.length l0_1) (hc0_1:l0_1.length≤ae) (ap:Kd.C (Kd.int .u64) w af l1_1.length l1_1) (hc1_1:l1_1.length≤ag) (h:zas.f k J l0_1 I l1_1=some r) :
 Calls Try.prog 169 #[.agg #[.bool J,.slice ac l0_1.length ae],.agg #[.bool I,.slice af l1_1.length ag]] w fun e w'=>∃aM:Value,e= .returned (aM)∧Kd.R (Kd.int .u64) 187 w' w.heap.size (fun _=>True) aM r∧Below w.heap.size w w':=by
 have aQ:=Try.underlying160
 have ax:=mk ao
 have ay:=mk hc0_1
 clear ao hc0_1
 have az:=mk ap
 have aA:=mk hc1_1
 clear ap hc1_1
 have HB:=mk (Below.refl w.heap.size w)
 have H:(zas.l0 k ([]:List Int) 0 0 J l0_1 I l1_1)=some r:=h
 clear h
 have H':=mk H
 clear H
 go_enter Try.func169,Try.ntmps169
 go_wp2_with (first|((with_reducible refine zao (N:=2) rfl ?_);refine zal ?hg (N:=2) ?hd (cs:=#[.bool J,.slice ac l0_1.length ae]) (t:=160) ?hr ?_;(case hd=>rfl);(case hg=>rfl);(case hr=>exact kq21);intro ah hg w3 hbox hb;have D:=mk (hbox);have aC:=(gs_ hg kq8);have X:=aC;replace HB:=mk (zaa kq8 hb);clear hb hbox hg)|((with_reducible refine zao (N:=3) rfl ?_);refine zal ?hg (N:=3) ?hd (cs:=#[.bool I,.slice af l1_1.length ag]) (t:=160) ?hr ?_;(case hd=>rfl);(case hg=>rfl);(case hr=>exact kq21);intro ai hg w4 hbox hb;have G:=mk (hbox);have aD:=(gs_ hg (kq20 X));have ab:=aD;have aj:=(nl_ hg D);have ak:=(ng_ hg D);replace D:=(bb_ D hb);replace HB:=mk (zaa (kq20 X) hb);clear hb hbox hg))
 go_loopg [5,6,7] k (fun kq v5 v6 v7 w'=>∃(U:List Int) (L:Int) (M:Int),v6= .int .u64 L∧v7= .int .i64 M∧Aside0 (zas.l0 kq U L M J l0_1 I l1_1=some r)∧Aside0 (kq≤k)∧Aside0 (Kd.R (Kd.int .u64) 187 w' w.heap.size (fun _=>True) v5 U)∧Aside0 (w'.heap[ah]?=some (.cells #[.bool J,(.slice ac l0_1.length ae)] 160 (0,0)))∧Aside0 (w'.heap[ai]?=some (.cells #[.bool I,(.slice af l1_1.length ag)] 160 (0,0)))∧Aside0 (Below w.heap.size w w'))
 case atStart=>exact⟨(([]:List Int)),(0),(0),kq3,kq3,H',⟨Nat.le_refl _⟩,⟨kq16⟩,⟨(kq22 D)⟩,⟨(kq22 G)⟩,⟨(kq31 X ab)⟩⟩
 case round=>
  clear H'
  obtain⟨U,L,M,rfl,rfl,HA,HK1,Y,D,G,HB⟩:=hrel
  cases gk with
  |zero=>exact absurd HA.out (by simp [zas.l0])
  |succ k1=>
   have H:=HA.out;clear HA;simp only[zas.l0]at H;have aE:=mk H;clear H;(go_upto_region 4 with(fail));(go_cut [21] (fun aT wc=>∃(kq:Nat) (am:Bool),aT= .bool am∧Aside0 (zas.j1 kq U L M am J l0_1 I l1_1=some r)∧Aside0 (kq≤k1)∧Aside0 (Kd.R (Kd.int .u64) 187 wc w.heap.size (fun _=>True) u5 U)∧Aside0 (wc.heap[ah]?=some (.cells #[.bool J,(.slice ac l0_1.length ae)] 160 (0,0)))∧Aside0 (wc.heap[ai]?=some (.cells #[.bool I,(.slice af l1_1.length ag)] 160 (0,0)))∧Aside0 (Below w.heap.size w wc)))
   case first=>
    have H:=aE.out;clear aE;obtain⟨aG,hji6⟩:∃j_:Int,(mx (l0_1.length:Int) (l1_1.length:Int))=j_:=⟨_,rfl⟩;(replace H:(if M<(aG)then(zas.j1 k1 U L M true J l0_1 I l1_1)else(zas.j1 k1 U L M (decide (L>0)) J l0_1 I l1_1))=some r:=by first|(rw[hji6]at H;exact H)|(simp only[hji6]at H ⊢;exact H));have hji6_:(if(l0_1.length:Int)<(l1_1.length:Int)then(l1_1.length:Int)else(l0_1.length:Int))=aG:=hji6;((try(have hji6n:(if l0_1.length<l1_1.length then(l1_1.length:Int)else(l0_1.length:Int))=aG:=by rw[←hji6];unfold mx;(repeat' split)<;>omega)));replace H:=ic_ H;obtain⟨c7,H⟩|⟨c7,H⟩:=H
    ·have an:=decide_eq_true c7;clear c7;((first|rw[an]|(simp only[zbi,zbq];rw[an])|skip));have H':=mk H;clear H;have aY:=aj.out;have aZ:=ak.out;obtain⟨_,_,_,_⟩:=cz2_ D.out;obtain⟨_,_,_,_⟩:=cz2_ G.out;go_wp2;(go_meet)
     case rel=>exact⟨_,(true),kq3,H',⟨kq17⟩,⟨(kq9 Y)⟩,⟨(kq22 D)⟩,⟨(kq22 G)⟩,⟨(kq31 X ab)⟩⟩
    ·have an:=decide_eq_false c7;clear c7;((first|rw[an]|(simp only[zbi,zbq];rw[an])|skip));have H':=mk H;clear H;have aU:=aj.out;have aV:=ak.out;obtain⟨_,_,_,_⟩:=cz2_ D.out;obtain⟨_,_,_,_⟩:=cz2_ G.out;go_wp2;(go_meet)
     case rel=>exact⟨_,(decide (L>0)),kq3,H',⟨kq17⟩,⟨(kq9 Y)⟩,⟨(kq22 D)⟩,⟨(kq22 G)⟩,⟨(kq31 X ab)⟩⟩
   case rest=>
    clear aE;obtain⟨kq,am,rfl,HA,aN,Y,D,G,HB⟩:=hcut
    cases kq with
    |zero=>exact absurd HA.out (by simp [zas.j1])
    |succ aq=>
     have H:=HA.out;clear HA;simp only[zas.j1]at H;(by_cases ar:am=true)
     ·subst ar;(have H1:((zar.f J l0_1 M).bind fun aa=>((zar.f I l1_1 M).bind fun Z=>(if U.length<17592186044416 then(zas.l0 aq (U++[Go.bits .and .u64 (IntKind.u64.wrap ((IntKind.u64.wrap (aa+Z))+L)) 65535]) ((IntKind.u64.wrap ((IntKind.u64.wrap (aa+Z))+L)) / 65536) (wrap64 (M+1)) J l0_1 I l1_1)else(none))))=some r:=by rw[if_pos rfl]at H;exact H);clear H;have H:=H1;clear H1;replace H:=Option.bind_eq_some_iff.mp H;obtain⟨aa,au,H⟩:=H;replace H:((zar.f I l1_1 M).bind fun Z=>(if U.length<17592186044416 then(zas.l0 aq (U++[Go.bits .and .u64 (IntKind.u64.wrap ((IntKind.u64.wrap (aa+Z))+L)) 65535]) ((IntKind.u64.wrap ((IntKind.u64.wrap (aa+Z))+L)) / 65536) (wrap64 (M+1)) J l0_1 I l1_1)else(none)))=some r:=H;have aW:=mk au;clear au;replace H:=Option.bind_eq_some_iff.mp H;obtain⟨Z,av,H⟩:=H;replace H:(if U.length<17592186044416 then(zas.l0 aq (U++[Go.bits .and .u64 (IntKind.u64.wrap ((IntKind.u64.wrap (aa+Z))+L)) 65535]) ((IntKind.u64.wrap ((IntKind.u64.wrap (aa+Z))+L)) / 65536) (wrap64 (M+1)) J l0_1 I l1_1)else(none))=some r:=H;have aX:=mk av;clear av;replace H:=ic_ H;obtain⟨aH,H⟩|⟨aH,H⟩:=H
      ·have aI:=mk aH;clear aH;obtain⟨aw,al⟩:∃y_:List Int,y_=(U++[Go.bits .and .u64 (IntKind.u64.wrap ((IntKind.u64.wrap (aa+Z))+L)) 65535]):=⟨_,rfl⟩;(replace H:(zas.l0 aq aw ((IntKind.u64.wrap ((IntKind.u64.wrap (aa+Z))+L)) / 65536) (wrap64 (M+1)) J l0_1 I l1_1)=some r:=by first|(rw[al];with_reducible exact H)|(have aJ:=(Option.bind_some _ _).symm.trans H;rw[al];with_reducible exact aJ)|(have aJ:=(Option.bind_some _ _).symm.trans H;with_reducible exact aJ)|with_reducible exact H|(rw[al];exact H)|exact H);have Ny994:=mk al;clear al;have H':=mk H;clear H;(try go_wp2);replace Y:=mk (Kd.R_drew Y.out);replace D:=mk (zaf D.out);replace G:=mk (zaf G.out);replace HB:=mk (zaP HB.out);refine zbv (n:=10) (S:=fun w'=>w'.cell? ⟨ah,0,none⟩=some (.bool J)∧w'.cell? ⟨ah,1,none⟩=some (.slice ac l0_1.length ae)∧w'.cell? ⟨ai,0,none⟩=some (.bool I)∧w'.cell? ⟨ai,1,none⟩=some (.slice af l1_1.length ag)) (ds:=[]) #[false,false,false,false,false,false,false,false,false,false] kq0 rfl rfl ⟨bk_ D 0,bk_ D 1,bk_ G 0,bk_ G 1⟩ (fun hHeld=>?_);refine zbo zas.tab6 zas.bits6 (fun HT_ HW_=>?_);(generalize wc.drew=b5 at Y D G HB hHeld ⊢);refine puT_ 1 25 ?_
       refine puT_ 4 28 ?_
       refine puT_ 7 31 ?_
       refine taT_ 0 24 hHeld ?_
       refine taT_ 3 27 hHeld ?_
       refine onT_ 2 26 (fun K hK=>?_);refine zbj Try.func173 kq0 rfl #[.agg #[.bool J,.slice ac l0_1.length ae],.int .i64 M] (by rfl) rfl rfl kq10 ?_;(with_reducible refine(zar.calls J _ _ l0_1 M aa _ ?side1 ?side2 aW.out).mono ?_);((case side1=>exact kq25 ax));((case side2=>exact ay.out));rintro e b6 ⟨rfl,hb⟩;refine⟨_,rfl,?_⟩;replace Y:=mk (Kd.R_below (kq9 Y) hb);replace D:=(bb_ D hb);replace G:=(bb_ G hb);replace HB:=mk (zaa (kq31 X ab) hb);((try clear hb));((try clear hb2));((try clear hk));((try clear hi));refine hK.out _ _ ⟨bk_ D 0,bk_ D 1,bk_ G 0,bk_ G 1⟩ (fun hHeld=>?_);clear hK K;refine za2 (a':=?_) ?_ ?_;rotate_left
       ·(show Act.put _ (some 26) _=_);simp only[Act.put,setIfInBounds_toArray,set_cons_zero,set_cons_succ,zbi,zbq];rfl
       refine onT_ 5 29 (fun K hK=>?_);refine zbj Try.func173 kq0 rfl #[.agg #[.bool I,.slice af l1_1.length ag],.int .i64 M] (by rfl) rfl rfl kq10 ?_;(with_reducible refine(zar.calls I _ _ l1_1 M Z _ ?side1 ?side2 aX.out).mono ?_);((case side1=>exact kq25 az));((case side2=>exact aA.out));rintro e b7 ⟨rfl,hb⟩;refine⟨_,rfl,?_⟩;replace Y:=mk (Kd.R_below (kq9 Y) hb);replace D:=(bb_ D hb);replace G:=(bb_ G hb);replace HB:=mk (zaa (kq31 X ab) hb);((try clear hb));((try clear hb2));((try clear hk));((try clear hi));refine hK.out _ _ ⟨bk_ D 0,bk_ D 1,bk_ G 0,bk_ G 1⟩ (fun hHeld=>?_);clear hK K;refine za2 (a':=?_) ?_ ?_;rotate_left
       ·(show Act.put _ (some 29) _=_);simp only[Act.put,setIfInBounds_toArray,set_cons_zero,set_cons_succ,zbi,zbq];rfl
       refine puT_ 6 30 ?_
       refine puT_ 8 32 ?_
       refine puT_ 9 8 ?_
       refine zbC (zbR HT_.out kq0) ?_;(try go_wp2_with (first|((with_reducible refine zbV (b:=.append) (xs:=#[.tmp 33,.tmp 36]) rfl ?_);at_builtin;refine Kd.R_append (Kd.int .u64) (w0:=w) w.heap.size rfl (.tmp 33) (.tmp 36) 158 187 (.int .u64 0) 8 rfl Try.underlying158 zdA rfl kq2 kq1 u5 U (Go.bits .and .u64 (IntKind.u64.wrap ((IntKind.u64.wrap (aa+Z))+L)) 65535) [.int .u64 (Go.bits .and .u64 (IntKind.u64.wrap ((IntKind.u64.wrap (aa+Z))+L)) 65535)] (fun _=>True) (fun _=>False) rfl rfl ?aP (fun _ hk=>hk.elim) ?aF ?aO ?aB ?aS ?aL ?_;(case aP=>exact rfl);(case aB=>exact kq33 X ab);(case aF=>exact(fun _ _=>trivial));(case aO=>exact kq13 Y);(case aS=>exact kq34 X ab);(case aL=>have:=aI.out;omega);intro b4 b8 ho hb hg hat;rw[←Ny994.out]at ho;have aK:=mk (ho);replace D:=mk (zaJ (g:=ah) (o:=.cells #[.bool J,.slice ac l0_1.length ae] 160 (0,0)) (kq22 D) hg (Kd.R_ne Y.out D.out kq2));replace G:=mk (zaJ (g:=ai) (o:=.cells #[.bool I,.slice af l1_1.length ag] 160 (0,0)) (kq22 G) hg (Kd.R_ne Y.out G.out kq2));replace HB:=mk (hb);clear Y;clear ho hb hg hat)));(go_roundg aq)
       case measure=>have:=HK1.out;have:=aN.out;omega
       case rel=>exact⟨(aw),((IntKind.u64.wrap ((IntKind.u64.wrap (aa+Z))+L)) / 65536),(wrap64 (M+1)),kq3,kq3,H',⟨by have:=HK1.out;have:=aN.out;omega⟩,⟨(kq9 aK)⟩,⟨(kq22 D)⟩,⟨(kq22 G)⟩,⟨(kq31 X ab)⟩⟩
      ·exact absurd H (by simp)
     ·replace ar:=Bool.eq_false_iff.mpr ar;subst ar;(have H1:(some U)=some r:=by rw[if_neg (show ¬(false=true) by decide)]at H;exact H);clear H;have H:=H1;clear H1;obtain rfl:=Option.some.inj H;go_wp2;go_ret;exact⟨_,kq18,(kq9 Y),(kq31 X ab)⟩
def zaO.l0:Nat→Int→Bool→List Int→Bool→List Int→Option (Int)
 |0,_,_,_,_,_=>none
 |k+1,x5,x998000,x998001,x999000,x999001=>if x5≥0 then((zar.f x998000 x998001 x5).bind fun t999=>((zar.f x999000 x999001 x5).bind fun t1000=>(if t999<t1000 then(some (-1))else((zar.f x998000 x998001 x5).bind fun t1001=>((zar.f x999000 x999001 x5).bind fun t1002=>(if t1001>t1002 then(some 1)else(zaO.l0 k (wrap64 (x5-1)) x998000 x998001 x999000 x999001)))))))else(some 0)
def zaO.f (k:Nat) (a0_0:Bool) (l0_1:List Int) (a1_0:Bool) (l1_1:List Int):Option (Int):=zaO.l0 k (wrap64 ((mx (l0_1.length:Int) (l1_1.length:Int))-1)) a0_0 l0_1 a1_0 l1_1
theorem zaO.mono_l:∀k,(∀f D G I J,LeO (zaO.l0 k f D G I J) (zaO.l0 (k+1) f D G I J))
 |0=>fun _ _ _ _ _ r h=>by simp [zaO.l0]at h
 |k+1=>by
  have ih0:=zaO.mono_l k
  ·intro f D G I J;unfold zaO.l0
   repeat' first
   |(with_reducible exact ih0 _ _ _ _ _)
   |(with_reducible exact LeO.refl _)
   |(with_reducible exact LeO.none _)
   |(with_reducible refine LeO.ite ?_ ?_)
   |(with_reducible refine LeO.bind ?_ (fun _=>?_))
   |exact ih0 _ _ _ _ _
   |exact LeO.none _
   |refine LeO.ite ?_ ?_
   |refine LeO.bind ?_ (fun _=>?_)
theorem zaO.mono:∀a0 r D a3 k,LeO (zaO.f k a0 r D a3) (zaO.f (k+1) a0 r D a3):=by
 intro a0 r D a3 k
 have ih0:=zaO.mono_l k
 unfold zaO.f
 repeat' first
  |(with_reducible exact ih0 _ _ _ _ _)
  |(with_reducible exact LeO.refl _)
  |(with_reducible exact LeO.none _)
  |(with_reducible refine LeO.ite ?_ ?_)
  |(with_reducible refine LeO.bind ?_ (fun _=>?_))
  |exact ih0 _ _ _ _ _
  |exact LeO.none _
  |refine LeO.ite ?_ ?_
  |refine LeO.bind ?_ (fun _=>?_)
set_option maxHeartbeats 8000000 in
theorem zaO.calls (k:Nat) (L:Bool) (aa:Option Addr) (ab:Nat) (l0_1:List Int) (J:Bool) (ac:Option Addr) (ae:Nat) (l1_1:List Int) (r:Int) (w:World) (ap:Kd.C (Kd.int .u64) w aa l0_1.length l0_1) (hc0_1:l0_1.length≤ab) (aq:Kd.C (Kd.int .u64) w ac l1_1.length l1_1) (hc1_1:l1_1.length≤ae) (h:zaO.f k L l0_1 J l1_1=some r) :
 Calls Try.prog 171 #[.agg #[.bool L,.slice aa l0_1.length ab],.agg #[.bool J,.slice ac l1_1.length ae]] w fun e w'=>e= .returned (.int .i64 r)∧Below w.heap.size w w':=by
 have aK:=Try.underlying160
 have ah:=mk ap
 have ai:=mk hc0_1
 clear ap hc0_1
 have aj:=mk aq
 have ak:=mk hc1_1
 clear aq hc1_1
 have HB:=mk (Below.refl w.heap.size w)
 have H:(zaO.l0 k (wrap64 ((mx (l0_1.length:Int) (l1_1.length:Int))-1)) L l0_1 J l1_1)=some r:=h
 clear h
 obtain⟨ao,hji3⟩:∃j_:Int,(mx (l0_1.length:Int) (l1_1.length:Int))=j_:=⟨_,rfl⟩
 replace H:(zaO.l0 k (wrap64 ((ao)-1)) L l0_1 J l1_1)=some r:=by first|(rw[hji3]at H;exact H)|(simp only[hji3]at H ⊢;exact H)
 (try(have hji3l:0≤ao:=by(rw[←hji3];unfold mx;(repeat' split)<;>omega)))
 (try(have hji3m:0≤ao:=by omega))
 have hji3_:(if(l0_1.length:Int)<(l1_1.length:Int)then(l1_1.length:Int)else(l0_1.length:Int))=ao:=hji3
 (try(have hji3n:(if l0_1.length<l1_1.length then(l1_1.length:Int)else(l0_1.length:Int))=ao:=by rw[←hji3];unfold mx;(repeat' split)<;>omega))
 have H':=mk H
 clear H
 go_enter Try.func171,Try.ntmps171
 go_wp2_with (first|((with_reducible refine zao (N:=2) rfl ?_);refine zal ?hg (N:=2) ?hd (cs:=#[.bool L,.slice aa l0_1.length ab]) (t:=160) ?hr ?_;(case hd=>rfl);(case hg=>rfl);(case hr=>exact kq21);intro X hg w4 hbox hb;have D:=mk (hbox);have az:=(gs_ hg kq8);have M:=az;replace HB:=mk (zaa kq8 hb);clear hb hbox hg)|((with_reducible refine zao (N:=3) rfl ?_);refine zal ?hg (N:=3) ?hd (cs:=#[.bool J,.slice ac l1_1.length ae]) (t:=160) ?hr ?_;(case hd=>rfl);(case hg=>rfl);(case hr=>exact kq21);intro Y hg w5 hbox hb;have G:=mk (hbox);have aA:=(gs_ hg (kq20 M));have U:=aA;have am:=(nl_ hg D);have an:=(ng_ hg D);replace D:=(bb_ D hb);replace HB:=mk (zaa (kq20 M) hb);clear hb hbox hg;have aQ:=am.out;have aT:=an.out;obtain⟨_,_,_,_⟩:=cz2_ D.out;obtain⟨_,_,_,_⟩:=cz2_ G.out))
 go_loopg [5] k (fun kq v5 w'=>∃(I:Int),v5= .int .i64 I∧Aside0 (zaO.l0 kq I L l0_1 J l1_1=some r)∧Aside0 (kq≤k)∧Aside0 (w'.heap[X]?=some (.cells #[.bool L,(.slice aa l0_1.length ab)] 160 (0,0)))∧Aside0 (w'.heap[Y]?=some (.cells #[.bool J,(.slice ac l1_1.length ae)] 160 (0,0)))∧Aside0 (Below w.heap.size w w'))
 case atStart=>exact⟨(wrap64 ((ao)-1)),(by first|rfl|(simp;done)|(simp only[←hji3]<;>(first|rfl|simp))|(simp [*];done)),H',⟨Nat.le_refl _⟩,⟨(kq22 D)⟩,⟨(kq22 G)⟩,⟨(kq31 M U)⟩⟩
 case round=>
  clear H'
  obtain⟨I,rfl,HA,HK1,D,G,HB⟩:=hrel
  cases gk with
  |zero=>exact absurd HA.out (by simp [zaO.l0])
  |succ k1=>
   have H:=HA.out;clear HA;simp only[zaO.l0]at H;replace H:=ic_ H;obtain⟨c9,H⟩|⟨c9,H⟩:=H
   ·have aH:decide (0≤I)=true:=decide_eq_true c9;clear c9;replace H:=Option.bind_eq_some_iff.mp H;obtain⟨al,av,H⟩:=H;replace H:((zar.f J l1_1 I).bind fun ag=>(if al<ag then(some (-1))else((zar.f L l0_1 I).bind fun af=>((zar.f J l1_1 I).bind fun Z=>(if af>Z then(some 1)else(zaO.l0 k1 (wrap64 (I-1)) L l0_1 J l1_1))))))=some r:=H;have aC:=mk av;clear av;replace H:=Option.bind_eq_some_iff.mp H;obtain⟨ag,aw,H⟩:=H;replace H:(if al<ag then(some (-1))else((zar.f L l0_1 I).bind fun af=>((zar.f J l1_1 I).bind fun Z=>(if af>Z then(some 1)else(zaO.l0 k1 (wrap64 (I-1)) L l0_1 J l1_1)))))=some r:=H;have aD:=mk aw;clear aw;replace H:=ic_ H;obtain⟨ar,H⟩|⟨ar,H⟩:=H
    ·have aE:=decide_eq_true ar;clear ar;obtain rfl:=Option.some.inj H;(try go_wp2);replace D:=mk (zaf D.out);replace G:=mk (zaf G.out);replace HB:=mk (zaP HB.out);refine zbv (n:=7) (S:=fun w'=>w'.cell? ⟨X,0,none⟩=some (.bool L)∧w'.cell? ⟨X,1,none⟩=some (.slice aa l0_1.length ab)∧w'.cell? ⟨Y,0,none⟩=some (.bool J)∧w'.cell? ⟨Y,1,none⟩=some (.slice ac l1_1.length ae)) (ds:=[]) #[false,false,false,false,false,false,false] kq0 rfl rfl ⟨bk_ D 0,bk_ D 1,bk_ G 0,bk_ G 1⟩ (fun hHeld=>?_);(generalize wr.drew=aU at D G HB hHeld ⊢);refine pu_ 1 19 ?_
     refine pu_ 4 22 ?_
     refine ta_ 0 18 hHeld ?_
     refine ta_ 3 21 hHeld ?_
     refine on_ 2 20 (fun K hK=>?_);refine zbj Try.func173 kq0 rfl #[.agg #[.bool L,.slice aa l0_1.length ab],.int .i64 I] (by rfl) rfl rfl kq10 ?_;(with_reducible refine(zar.calls L _ _ l0_1 I al _ ?side1 ?side2 aC.out).mono ?_);((case side1=>exact kq25 ah));((case side2=>exact ai.out));rintro e aV ⟨rfl,hb⟩;refine⟨_,rfl,?_⟩;replace D:=(bb_ D hb);replace G:=(bb_ G hb);replace HB:=mk (zaa (kq31 M U) hb);((try clear hb));((try clear hb2));((try clear hk));((try clear hi));refine hK.out _ _ ⟨bk_ D 0,bk_ D 1,bk_ G 0,bk_ G 1⟩ (fun hHeld=>?_);clear hK K;refine za2 (a':=?_) ?_ ?_;rotate_left
     ·(show Act.put _ (some 20) _=_);simp only[Act.put,setIfInBounds_toArray,set_cons_zero,set_cons_succ,zbi,zbq];rfl
     refine on_ 5 23 (fun K hK=>?_);refine zbj Try.func173 kq0 rfl #[.agg #[.bool J,.slice ac l1_1.length ae],.int .i64 I] (by rfl) rfl rfl kq10 ?_;(with_reducible refine(zar.calls J _ _ l1_1 I ag _ ?side1 ?side2 aD.out).mono ?_);((case side1=>exact kq25 aj));((case side2=>exact ak.out));rintro e aW ⟨rfl,hb⟩;refine⟨_,rfl,?_⟩;replace D:=(bb_ D hb);replace G:=(bb_ G hb);replace HB:=mk (zaa (kq31 M U) hb);((try clear hb));((try clear hb2));((try clear hk));((try clear hi));refine hK.out _ _ ⟨bk_ D 0,bk_ D 1,bk_ G 0,bk_ G 1⟩ (fun hHeld=>?_);clear hK K;refine za2 (a':=?_) ?_ ?_;rotate_left
     ·(show Act.put _ (some 23) _=_);simp only[Act.put,setIfInBounds_toArray,set_cons_zero,set_cons_succ,zbi,zbq];rfl
     refine pu_ 6 24 ?_
     refine zbC kq0 ?_;(try go_wp2);go_ret;exact⟨kq35,(kq31 M U)⟩
    ·have aE:=decide_eq_false ar;clear ar;replace H:=Option.bind_eq_some_iff.mp H;obtain⟨af,ax,H⟩:=H;replace H:((zar.f J l1_1 I).bind fun Z=>(if af>Z then(some 1)else(zaO.l0 k1 (wrap64 (I-1)) L l0_1 J l1_1)))=some r:=H;have aI:=mk ax;clear ax;replace H:=Option.bind_eq_some_iff.mp H;obtain⟨Z,ay,H⟩:=H;replace H:(if af>Z then(some 1)else(zaO.l0 k1 (wrap64 (I-1)) L l0_1 J l1_1))=some r:=H;have aJ:=mk ay;clear ay;replace H:=ic_ H;obtain⟨au,H⟩|⟨au,H⟩:=H
     ·have aG:decide (Z<af)=true:=decide_eq_true au;clear au;obtain rfl:=Option.some.inj H;(try go_wp2);replace D:=mk (zaf D.out);replace G:=mk (zaf G.out);replace HB:=mk (zaP HB.out);refine zbv (n:=7) (S:=fun w'=>w'.cell? ⟨X,0,none⟩=some (.bool L)∧w'.cell? ⟨X,1,none⟩=some (.slice aa l0_1.length ab)∧w'.cell? ⟨Y,0,none⟩=some (.bool J)∧w'.cell? ⟨Y,1,none⟩=some (.slice ac l1_1.length ae)) (ds:=[]) #[false,false,false,false,false,false,false] kq0 rfl rfl ⟨bk_ D 0,bk_ D 1,bk_ G 0,bk_ G 1⟩ (fun hHeld=>?_);(generalize wr.drew=aX at D G HB hHeld ⊢);refine pu_ 1 19 ?_
      refine pu_ 4 22 ?_
      refine ta_ 0 18 hHeld ?_
      refine ta_ 3 21 hHeld ?_
      refine on_ 2 20 (fun K hK=>?_);refine zbj Try.func173 kq0 rfl #[.agg #[.bool L,.slice aa l0_1.length ab],.int .i64 I] (by rfl) rfl rfl kq10 ?_;(with_reducible refine(zar.calls L _ _ l0_1 I al _ ?side1 ?side2 aC.out).mono ?_);((case side1=>exact kq25 ah));((case side2=>exact ai.out));rintro e aY ⟨rfl,hb⟩;refine⟨_,rfl,?_⟩;replace D:=(bb_ D hb);replace G:=(bb_ G hb);replace HB:=mk (zaa (kq31 M U) hb);((try clear hb));((try clear hb2));((try clear hk));((try clear hi));refine hK.out _ _ ⟨bk_ D 0,bk_ D 1,bk_ G 0,bk_ G 1⟩ (fun hHeld=>?_);clear hK K;refine za2 (a':=?_) ?_ ?_;rotate_left
      ·(show Act.put _ (some 20) _=_);simp only[Act.put,setIfInBounds_toArray,set_cons_zero,set_cons_succ,zbi,zbq];rfl
      refine on_ 5 23 (fun K hK=>?_);refine zbj Try.func173 kq0 rfl #[.agg #[.bool J,.slice ac l1_1.length ae],.int .i64 I] (by rfl) rfl rfl kq10 ?_;(with_reducible refine(zar.calls J _ _ l1_1 I ag _ ?side1 ?side2 aD.out).mono ?_);((case side1=>exact kq25 aj));((case side2=>exact ak.out));rintro e aM ⟨rfl,hb⟩;refine⟨_,rfl,?_⟩;replace D:=(bb_ D hb);replace G:=(bb_ G hb);replace HB:=mk (zaa (kq31 M U) hb);((try clear hb));((try clear hb2));((try clear hk));((try clear hi));refine hK.out _ _ ⟨bk_ D 0,bk_ D 1,bk_ G 0,bk_ G 1⟩ (fun hHeld=>?_);clear hK K;refine za2 (a':=?_) ?_ ?_;rotate_left
      ·(show Act.put _ (some 23) _=_);simp only[Act.put,setIfInBounds_toArray,set_cons_zero,set_cons_succ,zbi,zbq];rfl
      refine pu_ 6 24 ?_
      refine zbC kq0 ?_;(try go_wp2);replace D:=mk (zaf D.out);replace G:=mk (zaf G.out);replace HB:=mk (zaP HB.out);refine zbv (n:=7) (S:=fun w'=>w'.cell? ⟨X,0,none⟩=some (.bool L)∧w'.cell? ⟨X,1,none⟩=some (.slice aa l0_1.length ab)∧w'.cell? ⟨Y,0,none⟩=some (.bool J)∧w'.cell? ⟨Y,1,none⟩=some (.slice ac l1_1.length ae)) (ds:=[]) #[false,false,false,false,false,false,false] kq0 rfl rfl ⟨bk_ D 0,bk_ D 1,bk_ G 0,bk_ G 1⟩ (fun hHeld=>?_);(generalize aM.drew=aZ at D G HB hHeld ⊢);refine pu_ 1 26 ?_
      refine pu_ 4 29 ?_
      refine ta_ 0 25 hHeld ?_
      refine ta_ 3 28 hHeld ?_
      refine on_ 2 27 (fun K hK=>?_);refine zbj Try.func173 kq0 rfl #[.agg #[.bool L,.slice aa l0_1.length ab],.int .i64 I] (by rfl) rfl rfl kq10 ?_;(with_reducible refine(zar.calls L _ _ l0_1 I af _ ?side1 ?side2 aI.out).mono ?_);((case side1=>exact kq25 ah));((case side2=>exact ai.out));rintro e b4 ⟨rfl,hb⟩;refine⟨_,rfl,?_⟩;replace D:=(bb_ D hb);replace G:=(bb_ G hb);replace HB:=mk (zaa (kq31 M U) hb);((try clear hb));((try clear hb2));((try clear hk));((try clear hi));refine hK.out _ _ ⟨bk_ D 0,bk_ D 1,bk_ G 0,bk_ G 1⟩ (fun hHeld=>?_);clear hK K;refine za2 (a':=?_) ?_ ?_;rotate_left
      ·(show Act.put _ (some 27) _=_);simp only[Act.put,setIfInBounds_toArray,set_cons_zero,set_cons_succ,zbi,zbq];rfl
      refine on_ 5 30 (fun K hK=>?_);refine zbj Try.func173 kq0 rfl #[.agg #[.bool J,.slice ac l1_1.length ae],.int .i64 I] (by rfl) rfl rfl kq10 ?_;(with_reducible refine(zar.calls J _ _ l1_1 I Z _ ?side1 ?side2 aJ.out).mono ?_);((case side1=>exact kq25 aj));((case side2=>exact ak.out));rintro e b5 ⟨rfl,hb⟩;refine⟨_,rfl,?_⟩;replace D:=(bb_ D hb);replace G:=(bb_ G hb);replace HB:=mk (zaa (kq31 M U) hb);((try clear hb));((try clear hb2));((try clear hk));((try clear hi));refine hK.out _ _ ⟨bk_ D 0,bk_ D 1,bk_ G 0,bk_ G 1⟩ (fun hHeld=>?_);clear hK K;refine za2 (a':=?_) ?_ ?_;rotate_left
      ·(show Act.put _ (some 30) _=_);simp only[Act.put,setIfInBounds_toArray,set_cons_zero,set_cons_succ,zbi,zbq];rfl
      refine pu_ 6 31 ?_
      refine zbC kq0 ?_;(try go_wp2);go_ret;exact⟨kq35,(kq31 M U)⟩
     ·have aG:decide (Z<af)=false:=decide_eq_false au;clear au;have H':=mk H;clear H;(try go_wp2);replace D:=mk (zaf D.out);replace G:=mk (zaf G.out);replace HB:=mk (zaP HB.out);refine zbv (n:=7) (S:=fun w'=>w'.cell? ⟨X,0,none⟩=some (.bool L)∧w'.cell? ⟨X,1,none⟩=some (.slice aa l0_1.length ab)∧w'.cell? ⟨Y,0,none⟩=some (.bool J)∧w'.cell? ⟨Y,1,none⟩=some (.slice ac l1_1.length ae)) (ds:=[]) #[false,false,false,false,false,false,false] kq0 rfl rfl ⟨bk_ D 0,bk_ D 1,bk_ G 0,bk_ G 1⟩ (fun hHeld=>?_);(generalize wr.drew=b6 at D G HB hHeld ⊢);refine pu_ 1 19 ?_
      refine pu_ 4 22 ?_
      refine ta_ 0 18 hHeld ?_
      refine ta_ 3 21 hHeld ?_
      refine on_ 2 20 (fun K hK=>?_);refine zbj Try.func173 kq0 rfl #[.agg #[.bool L,.slice aa l0_1.length ab],.int .i64 I] (by rfl) rfl rfl kq10 ?_;(with_reducible refine(zar.calls L _ _ l0_1 I al _ ?side1 ?side2 aC.out).mono ?_);((case side1=>exact kq25 ah));((case side2=>exact ai.out));rintro e b7 ⟨rfl,hb⟩;refine⟨_,rfl,?_⟩;replace D:=(bb_ D hb);replace G:=(bb_ G hb);replace HB:=mk (zaa (kq31 M U) hb);((try clear hb));((try clear hb2));((try clear hk));((try clear hi));refine hK.out _ _ ⟨bk_ D 0,bk_ D 1,bk_ G 0,bk_ G 1⟩ (fun hHeld=>?_);clear hK K;refine za2 (a':=?_) ?_ ?_;rotate_left
      ·(show Act.put _ (some 20) _=_);simp only[Act.put,setIfInBounds_toArray,set_cons_zero,set_cons_succ,zbi,zbq];rfl
      refine on_ 5 23 (fun K hK=>?_);refine zbj Try.func173 kq0 rfl #[.agg #[.bool J,.slice ac l1_1.length ae],.int .i64 I] (by rfl) rfl rfl kq10 ?_;(with_reducible refine(zar.calls J _ _ l1_1 I ag _ ?side1 ?side2 aD.out).mono ?_);((case side1=>exact kq25 aj));((case side2=>exact ak.out));rintro e aN ⟨rfl,hb⟩;refine⟨_,rfl,?_⟩;replace D:=(bb_ D hb);replace G:=(bb_ G hb);replace HB:=mk (zaa (kq31 M U) hb);((try clear hb));((try clear hb2));((try clear hk));((try clear hi));refine hK.out _ _ ⟨bk_ D 0,bk_ D 1,bk_ G 0,bk_ G 1⟩ (fun hHeld=>?_);clear hK K;refine za2 (a':=?_) ?_ ?_;rotate_left
      ·(show Act.put _ (some 23) _=_);simp only[Act.put,setIfInBounds_toArray,set_cons_zero,set_cons_succ,zbi,zbq];rfl
      refine pu_ 6 24 ?_
      refine zbC kq0 ?_;(try go_wp2);replace D:=mk (zaf D.out);replace G:=mk (zaf G.out);replace HB:=mk (zaP HB.out);refine zbv (n:=7) (S:=fun w'=>w'.cell? ⟨X,0,none⟩=some (.bool L)∧w'.cell? ⟨X,1,none⟩=some (.slice aa l0_1.length ab)∧w'.cell? ⟨Y,0,none⟩=some (.bool J)∧w'.cell? ⟨Y,1,none⟩=some (.slice ac l1_1.length ae)) (ds:=[]) #[false,false,false,false,false,false,false] kq0 rfl rfl ⟨bk_ D 0,bk_ D 1,bk_ G 0,bk_ G 1⟩ (fun hHeld=>?_);(generalize aN.drew=b8 at D G HB hHeld ⊢);refine pu_ 1 26 ?_
      refine pu_ 4 29 ?_
      refine ta_ 0 25 hHeld ?_
      refine ta_ 3 28 hHeld ?_
      refine on_ 2 27 (fun K hK=>?_);refine zbj Try.func173 kq0 rfl #[.agg #[.bool L,.slice aa l0_1.length ab],.int .i64 I] (by rfl) rfl rfl kq10 ?_;(with_reducible refine(zar.calls L _ _ l0_1 I af _ ?side1 ?side2 aI.out).mono ?_);((case side1=>exact kq25 ah));((case side2=>exact ai.out));rintro e b9 ⟨rfl,hb⟩;refine⟨_,rfl,?_⟩;replace D:=(bb_ D hb);replace G:=(bb_ G hb);replace HB:=mk (zaa (kq31 M U) hb);((try clear hb));((try clear hb2));((try clear hk));((try clear hi));refine hK.out _ _ ⟨bk_ D 0,bk_ D 1,bk_ G 0,bk_ G 1⟩ (fun hHeld=>?_);clear hK K;refine za2 (a':=?_) ?_ ?_;rotate_left
      ·(show Act.put _ (some 27) _=_);simp only[Act.put,setIfInBounds_toArray,set_cons_zero,set_cons_succ,zbi,zbq];rfl
      refine on_ 5 30 (fun K hK=>?_);refine zbj Try.func173 kq0 rfl #[.agg #[.bool J,.slice ac l1_1.length ae],.int .i64 I] (by rfl) rfl rfl kq10 ?_;(with_reducible refine(zar.calls J _ _ l1_1 I Z _ ?side1 ?side2 aJ.out).mono ?_);((case side1=>exact kq25 aj));((case side2=>exact ak.out));rintro e ba ⟨rfl,hb⟩;refine⟨_,rfl,?_⟩;replace D:=(bb_ D hb);replace G:=(bb_ G hb);replace HB:=mk (zaa (kq31 M U) hb);((try clear hb));((try clear hb2));((try clear hk));((try clear hi));refine hK.out _ _ ⟨bk_ D 0,bk_ D 1,bk_ G 0,bk_ G 1⟩ (fun hHeld=>?_);clear hK K;refine za2 (a':=?_) ?_ ?_;rotate_left
      ·(show Act.put _ (some 30) _=_);simp only[Act.put,setIfInBounds_toArray,set_cons_zero,set_cons_succ,zbi,zbq];rfl
      refine pu_ 6 31 ?_
      refine zbC kq0 ?_;(try go_wp2);(go_roundg k1)
      case measure=>have:=HK1.out;omega
      case rel=>exact⟨(wrap64 (I-1)),kq3,H',⟨kq19⟩,⟨(kq22 D)⟩,⟨(kq22 G)⟩,⟨(kq31 M U)⟩⟩
   ·have aH:decide (0≤I)=false:=decide_eq_false c9;clear c9;obtain rfl:=Option.some.inj H;go_wp2;go_ret;exact⟨kq35,(kq31 M U)⟩
def zaB.l0:Nat→List Int→Int→Int→Bool→List Int→Bool→List Int→Option (List Int)
 |0,_,_,_,_,_,_,_=>none
 |k+1,x5,x6,x7,x1004000,x1004001,x1005000,x1005001=>if x7<(x1004001.length:Int)then((zar.f x1004000 x1004001 x7).bind fun t1005=>((zar.f x1005000 x1005001 x7).bind fun t1006=>(if x5.length<17592186044416 then(zaB.l0 k (x5++[Go.bits .and .u64 (IntKind.u64.wrap ((IntKind.u64.wrap ((IntKind.u64.wrap (t1005+65536))-t1006))-x6)) 65535]) (IntKind.u64.wrap (1-((IntKind.u64.wrap ((IntKind.u64.wrap ((IntKind.u64.wrap (t1005+65536))-t1006))-x6)) / 65536))) (wrap64 (x7+1)) x1004000 x1004001 x1005000 x1005001)else(none))))else(some x5)
def zaB.f (k:Nat) (a0_0:Bool) (l0_1:List Int) (a1_0:Bool) (l1_1:List Int):Option (List Int):=zaB.l0 k ([]:List Int) 0 0 a0_0 l0_1 a1_0 l1_1
theorem zaB.mono_l:∀k,(∀f D G I J L M,LeO (zaB.l0 k f D G I J L M) (zaB.l0 (k+1) f D G I J L M))
 |0=>fun _ _ _ _ _ _ _ r h=>by simp [zaB.l0]at h
 |k+1=>by
  have ih0:=zaB.mono_l k
  ·intro f D G I J L M;unfold zaB.l0
   repeat' first
   |(with_reducible exact ih0 _ _ _ _ _ _ _)
   |(with_reducible exact LeO.refl _)
   |(with_reducible exact LeO.none _)
   |(with_reducible refine LeO.ite ?_ ?_)
   |(with_reducible refine LeO.bind ?_ (fun _=>?_))
   |exact ih0 _ _ _ _ _ _ _
   |exact LeO.none _
   |refine LeO.ite ?_ ?_
   |refine LeO.bind ?_ (fun _=>?_)
theorem zaB.mono:∀a0 r D a3 k,LeO (zaB.f k a0 r D a3) (zaB.f (k+1) a0 r D a3):=by
 intro a0 r D a3 k
 have ih0:=zaB.mono_l k
 unfold zaB.f
 repeat' first
  |(with_reducible exact ih0 _ _ _ _ _ _ _)
  |(with_reducible exact LeO.refl _)
  |(with_reducible exact LeO.none _)
  |(with_reducible refine LeO.ite ?_ ?_)
  |(with_reducible refine LeO.bind ?_ (fun _=>?_))
  |exact ih0 _ _ _ _ _ _ _
  |exact LeO.none _
  |refine LeO.ite ?_ ?_
  |refine LeO.bind ?_ (fun _=>?_)
def zaB.T6:Bool × List (List Nat × List Nat):=(true,[([],[]),([],[]),([0,1],[0,1]),([2],[2]),([],[]),([],[]),([4,5,2],[4,5]),([3,6],[3,6]),([],[]),([7,8],[7,8]),([9,6,0,1,2,3,4,5,6,7,8,9],[9])])
def zaB.B6:List Nat:=[0,0,3,7,0,0,55,127,0,511,1023]
theorem zaB.tab6:rtab .any (zd3 Try.f172 6)=zaB.T6:=by kernel_rfl
theorem zaB.bits6:zcl zaB.T6.2 zaB.B6=true:=by kernel_rfl
set_option maxHeartbeats 8000000 in
theorem zaB.calls (k:Nat) (U:Bool) (ai:Option Addr) (aj:Nat) (l0_1:List Int) (L:Bool) (ak:Option Addr) (al:Nat) (l1_1 r:List Int) (w:World) (am:Kd.C (Kd.int .u64) w ai l0_1.length l0_1) (hc0_1:l0_1.length≤aj) (an:Kd.C (Kd.int .u64) w ak l1_1.length l1_1) (hc1_1:l1_1.length≤al) (h:zaB.f k U l0_1 L l1_1=some r) :
 Calls Try.prog 172 #[.agg #[.bool U,.slice ai l0_1.length aj],.agg #[.bool L,.slice ak l1_1.length al]] w fun e w'=>∃az:Value,e= .returned (az)∧Kd.R (Kd.int .u64) 187 w' w.heap.size (fun _=>True) az r∧Below w.heap.size w w':=by
 have aG:=Try.underlying160
 have au:=mk am
 have av:=mk hc0_1
 clear am hc0_1
 have aw:=mk an
 have ax:=mk hc1_1
 clear an hc1_1
 have HB:=mk (Below.refl w.heap.size w)
 have H:(zaB.l0 k ([]:List Int) 0 0 U l0_1 L l1_1)=some r:=h
 clear h
 have H':=mk H
 clear H
 go_enter Try.func172,Try.ntmps172
 go_wp2_with (first|((with_reducible refine zao (N:=2) rfl ?_);refine zal ?hg (N:=2) ?hd (cs:=#[.bool U,.slice ai l0_1.length aj]) (t:=160) ?hr ?_;(case hd=>rfl);(case hg=>rfl);(case hr=>exact kq21);intro ag hg w3 hbox hb;have D:=mk (hbox);have ap:=(gs_ hg kq8);have I:=ap;replace HB:=mk (zaa kq8 hb);clear hb hbox hg)|((with_reducible refine zao (N:=3) rfl ?_);refine zal ?hg (N:=3) ?hd (cs:=#[.bool L,.slice ak l1_1.length al]) (t:=160) ?hr ?_;(case hd=>rfl);(case hg=>rfl);(case hr=>exact kq21);intro ah hg w4 hbox hb;have G:=mk (hbox);have aq:=(gs_ hg (kq20 I));have X:=aq;have ab:=(nl_ hg D);have ac:=(ng_ hg D);replace D:=(bb_ D hb);replace HB:=mk (zaa (kq20 I) hb);clear hb hbox hg))
 go_loopg [5,6,7] k (fun kq v5 v6 v7 w'=>∃(ae:List Int) (Y:Int) (Z:Int),v6= .int .u64 Y∧v7= .int .i64 Z∧Aside0 (zaB.l0 kq ae Y Z U l0_1 L l1_1=some r)∧Aside0 (kq≤k)∧Aside0 (Kd.R (Kd.int .u64) 187 w' w.heap.size (fun _=>True) v5 ae)∧Aside0 (w'.heap[ag]?=some (.cells #[.bool U,(.slice ai l0_1.length aj)] 160 (0,0)))∧Aside0 (w'.heap[ah]?=some (.cells #[.bool L,(.slice ak l1_1.length al)] 160 (0,0)))∧Aside0 (Below w.heap.size w w'))
 case atStart=>exact⟨(([]:List Int)),(0),(0),kq3,kq3,H',⟨Nat.le_refl _⟩,⟨kq16⟩,⟨(kq22 D)⟩,⟨(kq22 G)⟩,⟨(kq31 I X)⟩⟩
 case round=>
  clear H'
  obtain⟨ae,Y,Z,rfl,rfl,HA,HK1,aa,D,G,HB⟩:=hrel
  cases gk with
  |zero=>exact absurd HA.out (by simp [zaB.l0])
  |succ k1=>
   have H:=HA.out;clear HA;simp only[zaB.l0]at H;replace H:=ic_ H;obtain⟨c5,H⟩|⟨c5,H⟩:=H
   ·have aA:=decide_eq_true c5;clear c5;replace H:=Option.bind_eq_some_iff.mp H;obtain⟨M,aC,H⟩:=H;replace H:((zar.f L l1_1 Z).bind fun J=>(if ae.length<17592186044416 then(zaB.l0 k1 (ae++[Go.bits .and .u64 (IntKind.u64.wrap ((IntKind.u64.wrap ((IntKind.u64.wrap (M+65536))-J))-Y)) 65535]) (IntKind.u64.wrap (1-((IntKind.u64.wrap ((IntKind.u64.wrap ((IntKind.u64.wrap (M+65536))-J))-Y)) / 65536))) (wrap64 (Z+1)) U l0_1 L l1_1)else(none)))=some r:=H;have A6:=mk aC;clear aC;replace H:=Option.bind_eq_some_iff.mp H;obtain⟨J,aD,H⟩:=H;replace H:(if ae.length<17592186044416 then(zaB.l0 k1 (ae++[Go.bits .and .u64 (IntKind.u64.wrap ((IntKind.u64.wrap ((IntKind.u64.wrap (M+65536))-J))-Y)) 65535]) (IntKind.u64.wrap (1-((IntKind.u64.wrap ((IntKind.u64.wrap ((IntKind.u64.wrap (M+65536))-J))-Y)) / 65536))) (wrap64 (Z+1)) U l0_1 L l1_1)else(none))=some r:=H;have A7:=mk aD;clear aD;replace H:=ic_ H;obtain⟨c8,H⟩|⟨c8,H⟩:=H
    ·have aE:=mk c8;clear c8;obtain⟨ao,af⟩:∃y_:List Int,y_=(ae++[Go.bits .and .u64 (IntKind.u64.wrap ((IntKind.u64.wrap ((IntKind.u64.wrap (M+65536))-J))-Y)) 65535]):=⟨_,rfl⟩;(replace H:(zaB.l0 k1 ao (IntKind.u64.wrap (1-((IntKind.u64.wrap ((IntKind.u64.wrap ((IntKind.u64.wrap (M+65536))-J))-Y)) / 65536))) (wrap64 (Z+1)) U l0_1 L l1_1)=some r:=by first|(rw[af];with_reducible exact H)|(have ay:=(Option.bind_some _ _).symm.trans H;rw[af];with_reducible exact ay)|(have ay:=(Option.bind_some _ _).symm.trans H;with_reducible exact ay)|with_reducible exact H|(rw[af];exact H)|exact H);have Ny1007:=mk af;clear af;have H':=mk H;clear H;have aK:=ab.out;have aM:=ac.out;obtain⟨_,_,_,_⟩:=cz2_ D.out;(try go_wp2);replace aa:=mk (Kd.R_drew aa.out);replace D:=mk (zaf D.out);replace G:=mk (zaf G.out);replace HB:=mk (zaP HB.out);refine zbv (n:=11) (S:=fun w'=>w'.cell? ⟨ag,0,none⟩=some (.bool U)∧w'.cell? ⟨ag,1,none⟩=some (.slice ai l0_1.length aj)∧w'.cell? ⟨ah,0,none⟩=some (.bool L)∧w'.cell? ⟨ah,1,none⟩=some (.slice ak l1_1.length al)) (ds:=[]) #[false,false,false,false,false,false,false,false,false,false,false] kq0 rfl rfl ⟨bk_ D 0,bk_ D 1,bk_ G 0,bk_ G 1⟩ (fun hHeld=>?_);refine zbo zaB.tab6 zaB.bits6 (fun HT_ HW_=>?_);(generalize wr.drew=aN at aa D G HB hHeld ⊢);refine puT_ 1 17 ?_
     refine puT_ 5 21 ?_
     refine puT_ 8 24 ?_
     refine taT_ 0 16 hHeld ?_
     refine taT_ 4 20 hHeld ?_
     refine onT_ 2 18 (fun K hK=>?_);refine zbj Try.func173 kq0 rfl #[.agg #[.bool U,.slice ai l0_1.length aj],.int .i64 Z] (by rfl) rfl rfl kq10 ?_;(with_reducible refine(zar.calls U _ _ l0_1 Z M _ ?side1 ?side2 A6.out).mono ?_);((case side1=>exact kq25 au));((case side2=>exact av.out));rintro e aQ ⟨rfl,hb⟩;refine⟨_,rfl,?_⟩;replace aa:=mk (Kd.R_below (kq9 aa) hb);replace D:=(bb_ D hb);replace G:=(bb_ G hb);replace HB:=mk (zaa (kq31 I X) hb);((try clear hb));((try clear hb2));((try clear hk));((try clear hi));refine hK.out _ _ ⟨bk_ D 0,bk_ D 1,bk_ G 0,bk_ G 1⟩ (fun hHeld=>?_);clear hK K;refine za2 (a':=?_) ?_ ?_;rotate_left
     ·(show Act.put _ (some 18) _=_);simp only[Act.put,setIfInBounds_toArray,set_cons_zero,set_cons_succ,zbi,zbq];rfl
     refine puT_ 3 19 ?_
     refine onT_ 6 22 (fun K hK=>?_);refine zbj Try.func173 kq0 rfl #[.agg #[.bool L,.slice ak l1_1.length al],.int .i64 Z] (by rfl) rfl rfl kq10 ?_;(with_reducible refine(zar.calls L _ _ l1_1 Z J _ ?side1 ?side2 A7.out).mono ?_);((case side1=>exact kq25 aw));((case side2=>exact ax.out));rintro e aT ⟨rfl,hb⟩;refine⟨_,rfl,?_⟩;replace aa:=mk (Kd.R_below (kq9 aa) hb);replace D:=(bb_ D hb);replace G:=(bb_ G hb);replace HB:=mk (zaa (kq31 I X) hb);((try clear hb));((try clear hb2));((try clear hk));((try clear hi));refine hK.out _ _ ⟨bk_ D 0,bk_ D 1,bk_ G 0,bk_ G 1⟩ (fun hHeld=>?_);clear hK K;refine za2 (a':=?_) ?_ ?_;rotate_left
     ·(show Act.put _ (some 22) _=_);simp only[Act.put,setIfInBounds_toArray,set_cons_zero,set_cons_succ,zbi,zbq];rfl
     refine puT_ 7 23 ?_
     refine puT_ 9 25 ?_
     refine puT_ 10 8 ?_
     refine zbC (zbR HT_.out kq0) ?_;(try go_wp2_with (first|((with_reducible refine zbV (b:=.append) (xs:=#[.tmp 26,.tmp 29]) rfl ?_);at_builtin;refine Kd.R_append (Kd.int .u64) (w0:=w) w.heap.size rfl (.tmp 26) (.tmp 29) 158 187 (.int .u64 0) 8 rfl Try.underlying158 zdA rfl kq2 kq1 u5 ae (Go.bits .and .u64 (IntKind.u64.wrap ((IntKind.u64.wrap ((IntKind.u64.wrap (M+65536))-J))-Y)) 65535) [.int .u64 (Go.bits .and .u64 (IntKind.u64.wrap ((IntKind.u64.wrap ((IntKind.u64.wrap (M+65536))-J))-Y)) 65535)] (fun _=>True) (fun _=>False) rfl rfl ?aP (fun _ hk=>hk.elim) ?aF ?aO ?aB ?aS ?aL ?_;(case aP=>exact rfl);(case aB=>exact kq33 I X);(case aF=>exact(fun _ _=>trivial));(case aO=>exact kq13 aa);(case aS=>exact kq34 I X);(case aL=>have:=aE.out;omega);intro aH aU ho hb hg hat;rw[←Ny1007.out]at ho;have ar:=mk (ho);replace D:=mk (zaJ (g:=ag) (o:=.cells #[.bool U,.slice ai l0_1.length aj] 160 (0,0)) (kq22 D) hg (Kd.R_ne aa.out D.out kq2));replace G:=mk (zaJ (g:=ah) (o:=.cells #[.bool L,.slice ak l1_1.length al] 160 (0,0)) (kq22 G) hg (Kd.R_ne aa.out G.out kq2));replace HB:=mk (hb);clear aa;clear ho hb hg hat)));(go_roundg k1)
     case measure=>have:=HK1.out;omega
     case rel=>exact⟨(ao),(IntKind.u64.wrap (1-((IntKind.u64.wrap ((IntKind.u64.wrap ((IntKind.u64.wrap (M+65536))-J))-Y)) / 65536))),(wrap64 (Z+1)),kq3,kq3,H',⟨kq19⟩,⟨(kq9 ar)⟩,⟨(kq22 D)⟩,⟨(kq22 G)⟩,⟨(kq31 I X)⟩⟩
    ·exact absurd H (by simp)
   ·have aA:=decide_eq_false c5;clear c5;obtain rfl:=Option.some.inj H;have aI:=ab.out;have aJ:=ac.out;obtain⟨_,_,_,_⟩:=cz2_ D.out;go_wp2;go_ret;exact⟨_,kq18,(kq9 aa),(kq31 I X)⟩
end Go.Proofs.Ytjknpmibdkoklaa.Q
