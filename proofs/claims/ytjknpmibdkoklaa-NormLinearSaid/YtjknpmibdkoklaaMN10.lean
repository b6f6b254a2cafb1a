/- Functions of the given program as Lean functions, each with its contract, and what they answer; words for it. No condition but those of each. -/
import Derived.Test.YtjknpmibdkoklaaMNS
import Derived.Test.YtjknpmibdkoklaaMNR
import Derived.Test.YtjknpmibdkoklaaMN3
import Derived.Test.YtjknpmibdkoklaaMN8
import Derived.Test.YtjknpmibdkoklaaMN9
set_option maxRecDepth 100000
set_option linter.unusedVariables false
set_option linter.unusedSimpArgs false
namespace Go.Proofs.Ytjknpmibdkoklaa.Q
open Go.RowKit Go.Proofs.YtjknpmibdkoklaaW.PrintWords Go.Proofs.YtjknpmibdkoklaaW.PrintLast Go.Proofs.YtjknpmibdkoklaaW.PrintMore
open Aside0 (mk)
open List (setIfInBounds_toArray set_cons_zero set_cons_succ)
attribute [local go_sem] zbw zbz zbP zbQ zbm zbn zbA zbB
set_option linter.unusedVariables false
set_option linter.unusedSimpArgs false
attribute [local go_sem] zbS zbD zbE zbF
def zax.f (k:Nat) (a0_0:Bool) (l0_1:List Int) (a1_0:Bool) (l1_1:List Int):Option (Bool × List Int):=if(a0_0==a1_0)=true then((zas.f k a0_0 l0_1 a1_0 l1_1).bind fun t1013=>((zac.f k a0_0 t1013).bind fun bt1016=>(some (bt1016.1,bt1016.2))))else((zaO.f k a0_0 l0_1 a1_0 l1_1).bind fun t1020=>(if t1020≥0 then((zaB.f k a0_0 l0_1 a1_0 l1_1).bind fun t1021=>((zac.f k a0_0 t1021).bind fun bt1024=>(some (bt1024.1,bt1024.2))))else((zaB.f k a1_0 l1_1 a0_0 l0_1).bind fun t1028=>((zac.f k a1_0 t1028).bind fun bt1031=>(some (bt1031.1,bt1031.2))))))
theorem zax.mono:∀a0 r D a3 k,LeO (zax.f k a0 r D a3) (zax.f (k+1) a0 r D a3):=by
 intro a0 r D a3 k
 unfold zax.f
 repeat' first
  |(with_reducible exact zaO.mono _ _ _ _ _)
  |(with_reducible exact zac.mono _ _ _)
  |(with_reducible exact zaB.mono _ _ _ _ _)
  |(with_reducible exact zas.mono _ _ _ _ _)
  |(with_reducible exact LeO.refl _)
  |(with_reducible exact LeO.none _)
  |(with_reducible refine LeO.ite ?_ ?_)
  |(with_reducible refine LeO.bind ?_ (fun _=>?_))
  |exact zaO.mono _ _ _ _ _
  |exact zac.mono _ _ _
  |exact zaB.mono _ _ _ _ _
  |exact zas.mono _ _ _ _ _
  |exact LeO.none _
  |refine LeO.ite ?_ ?_
  |refine LeO.bind ?_ (fun _=>?_)
def zax.T2:Bool × List (List Nat × List Nat):=(true,[([],[]),([0],[0]),([],[]),([],[]),([2,3],[2,3]),([1,4],[1,4]),([5,4],[5]),([6,6,0,1,2,3,4,5,6],[6])])
def zax.B2:List Nat:=[0,1,0,0,12,31,63,127]
theorem zax.tab2:rtab .any (zd3 Try.f132 2)=zax.T2:=by kernel_rfl
theorem zax.bits2:zcl zax.T2.2 zax.B2=true:=by kernel_rfl
def zax.T4:Bool × List (List Nat × List Nat):=(true,[([],[]),([0],[0]),([],[]),([],[]),([2,3],[2,3]),([1,4],[1,4]),([5,4],[5]),([6,6,0,1,2,3,4,5,6],[6])])
def zax.B4:List Nat:=[0,1,0,0,12,31,63,127]
theorem zax.tab4:rtab .any (zd3 Try.f132 4)=zax.T4:=by kernel_rfl
theorem zax.bits4:zcl zax.T4.2 zax.B4=true:=by kernel_rfl
def zax.T5:Bool × List (List Nat × List Nat):=(true,[([],[]),([0],[0]),([],[]),([],[]),([2,3],[2,3]),([1,4],[1,4]),([5,4],[5]),([6,6,0,1,2,3,4,5,6],[6])])
def zax.B5:List Nat:=[0,1,0,0,12,31,63,127]
theorem zax.tab5:rtab .any (zd3 Try.f132 5)=zax.T5:=by kernel_rfl
theorem zax.bits5:zcl zax.T5.2 zax.B5=true:=by kernel_rfl
set_option maxHeartbeats 8000000 in
theorem zax.calls (k:Nat) (Y:Bool) (ai:Option Addr) (aj:Nat) (l0_1:List Int) (aa:Bool) (ak:Option Addr) (al:Nat) (l1_1:List Int) (r1:Bool) (r2:List Int) (w:World) (b8:Kd.C (Kd.int .u64) w ai l0_1.length l0_1) (hc0_1:l0_1.length≤aj) (b9:Kd.C (Kd.int .u64) w ak l1_1.length l1_1) (hc1_1:l1_1.length≤al) (h:zax.f k Y l0_1 aa l1_1=some (r1,r2)) :
 Calls Try.prog 132 #[.agg #[.bool Y,.slice ai l0_1.length aj],.agg #[.bool aa,.slice ak l1_1.length al]] w fun e w'=>∃bA:Value,e= .returned (.agg #[.bool r1,bA])∧Kd.V (Kd.int .u64) 187 w' w.heap.size (fun k_=>(w.heap.size≤k_)) bA r2∧Below w.heap.size w w':=by
 have cp:=Try.underlying160
 have aE:=mk b8
 have aG:=mk hc0_1
 clear b8 hc0_1
 have aH:=mk b9
 have aI:=mk hc1_1
 clear b9 hc1_1
 have HB:=mk (Below.refl w.heap.size w)
 have H:(if(Y==aa)=true then((zas.f k Y l0_1 aa l1_1).bind fun ax=>((zac.f k Y ax).bind fun az=>(some (az.1,az.2))))else((zaO.f k Y l0_1 aa l1_1).bind fun ay=>(if ay≥0 then((zaB.f k Y l0_1 aa l1_1).bind fun ar=>((zac.f k Y ar).bind fun an=>(some (an.1,an.2))))else((zaB.f k aa l1_1 Y l0_1).bind fun au=>((zac.f k aa au).bind fun ao=>(some (ao.1,ao.2)))))))=some (r1,r2):=h
 clear h
 by_cases c3:(Y==aa)=true
 ·rw[if_pos c3]at H
  have bB:(Y==aa)=true:=c3
  (try(have bC:decide (Y=aa)=true:=by simpa using c3))
  (try(have bD:(Y==aa)=true:=by simpa using c3))
  clear c3
  replace H:=Option.bind_eq_some_iff.mp H
  obtain⟨ax,bE,H⟩:=H
  replace H:((zac.f k Y ax).bind fun az=>(some (az.1,az.2)))=some (r1,r2):=H
  have A4:=mk bE
  clear bE
  replace H:=Option.bind_eq_some_iff.mp H
  obtain⟨⟨aJ,aU⟩,bF,H⟩:=H
  replace H:(some (aJ,aU))=some (r1,r2):=H
  have A5:=mk bF
  clear bF
  simp only[Option.some.injEq,Prod.mk.injEq]at H
  obtain⟨rfl,rfl⟩:=H
  go_enter Try.func132,Try.ntmps132
  try go_wp2_with (first|((with_reducible refine zao (N:=2) rfl ?_);refine zal ?hg (N:=2) ?hd (cs:=#[.bool Y,.slice ai l0_1.length aj]) (t:=160) ?hr ?_;(case hd=>rfl);(case hg=>rfl);(case hr=>exact kq21);intro ae hg w6 hbox hb;have r:=mk (hbox);have aA:=(gs_ hg kq8);have U:=aA;replace HB:=mk (zaa kq8 hb);clear hb hbox hg)|((with_reducible refine zao (N:=3) rfl ?_);refine zal ?hg (N:=3) ?hd (cs:=#[.bool aa,.slice ak l1_1.length al]) (t:=160) ?hr ?_;(case hd=>rfl);(case hg=>rfl);(case hr=>exact kq21);intro af hg w7 hbox hb;have D:=mk (hbox);have aC:=(gs_ hg (kq20 U));have X:=aC;have ag:=(nl_ hg r);have ah:=(ng_ hg r);replace r:=(bb_ r hb);replace HB:=mk (zaa (kq20 U) hb);clear hb hbox hg)|((with_reducible refine zao (N:=4) rfl ?_);refine zal ?hg (N:=4) ?hd (cs:=#[.bool false,.slice none 0 0]) (t:=160) ?hr ?_;(case hd=>rfl);(case hg=>rfl);(case hr=>exact kq21);intro I hg w8 hbox hb;have G:=mk (hbox);have aD:=(gs_ hg (kq31 U X));have Z:=aD;have J:=(nl_ hg r);have ab:=(ng_ hg r);have L:=(nl_ hg D);have ac:=(ng_ hg D);replace r:=(bb_ r hb);replace D:=(bb_ D hb);replace HB:=mk (zaa (kq31 U X) hb);clear hb hbox hg;have d3:=ag.out;have d4:=ah.out;have cq:=J.out;have cr:=ab.out;obtain⟨_,_,_,_⟩:=cz2_ r.out;have ct:=L.out;have cu:=ac.out;obtain⟨_,_,_,_⟩:=cz2_ D.out))
  have aX:=mk (zaf r.out)
  have aY:=mk (zaf D.out)
  have aZ:=mk (zaf G.out)
  have b4:=mk (zaP HB.out)
  clear r
  clear D
  clear G
  clear HB
  have r:=aX
  have D:=aY
  have G:=aZ
  have HB:=b4
  clear aX aY aZ b4
  refine zbv (n:=8) (S:=fun w'=>w'.cell? ⟨ae,0,none⟩=some (.bool Y)∧w'.cell? ⟨ae,1,none⟩=some (.slice ai l0_1.length aj)∧w'.cell? ⟨af,0,none⟩=some (.bool aa)∧w'.cell? ⟨af,1,none⟩=some (.slice ak l1_1.length al)) (ds:=[]) #[false,false,false,false,false,false,false,false] kq0 rfl rfl ⟨bk_ r 0,bk_ r 1,bk_ D 0,bk_ D 1⟩ (fun hHeld=>?_);refine zbo zax.tab2 zax.bits2 (fun HT_ HW_=>?_)
  generalize w8.drew=dc at r D G HB hHeld ⊢
  refine puT_ 0 10 ?_
  refine taT_ 1 11 hHeld ?_
  refine taT_ 2 12 hHeld ?_
  refine taT_ 3 13 hHeld ?_
  refine onT_ 4 14 (fun K hK=>?_)
  refine zbj Try.func169 kq0 rfl #[.agg #[.bool Y,.slice ai l0_1.length aj],.agg #[.bool aa,.slice ak l1_1.length al]] (by rfl) rfl rfl kq10 ?_
  with_reducible refine(zas.calls k Y _ _ l0_1 aa _ _ l1_1 ax _ ?side1 ?side2 ?side3 ?side4 A4.out).mono ?_
  (case side1=>exact kq25 aE)
  (case side2=>exact aG.out)
  (case side3=>exact kq25 aH)
  (case side4=>exact aI.out)
  rintro e dd ⟨cw,rfl,ho0,hb⟩
  refine⟨_,rfl,?_⟩
  have aX:=mk (Kd.R_lower (Kd.R_newM (M:=fun k_=>(w.heap.size≤k_)) ho0 (zad (kq36 U X Z)) (fun k_ h_=>h_)) (zad (kq36 U X Z)))
  have aY:=(bb_ r hb)
  have aZ:=(bb_ D hb)
  have b4:=(bb_ G hb)
  have ba:=mk (zaa (kq36 U X Z) hb)
  clear r
  clear D
  clear G
  clear HB
  have am:=aX
  have r:=aY
  have D:=aZ
  have G:=b4
  have HB:=ba
  clear aX aY aZ b4 ba
  obtain⟨bc,bd,be⟩:=Kd.R_slice am.out
  (first|subst be|(injection be with av aK aw;have aM:=av.symm;have aN:=aw.symm;clear av aK aw;subst aM;subst aN))
  refine hK.out _ _ ⟨bk_ r 0,bk_ r 1,bk_ D 0,bk_ D 1⟩ (fun hHeld=>?_)
  clear hK K
  refine za2 (a':=?_) ?_ ?_
  rotate_left
  ·(show Act.put _ (some 14) _=_);simp only[Act.put,setIfInBounds_toArray,set_cons_zero,set_cons_succ,zbi,zbq];rfl
  refine puT_ 5 15 ?_
  refine onT_ 6 16 (fun K hK=>?_)
  refine zbj Try.func170 kq0 rfl #[.agg #[.bool Y,.slice bc ax.length bd]] (by rfl) rfl rfl kq10 ?_
  with_reducible refine(zac.calls k Y (fun k_=>some k_=(.slice bc ax.length bd:Value).ownBlock) _ _ ax aJ aU _ ?side1 A5.out).mono ?_
  (case side1=>exact kq37 am r D G)
  rintro e bG ⟨cx,rfl,ho0,hb⟩
  refine⟨_,rfl,?_⟩
  have aX:=mk (Kd.R_below (kq9 am) hb)
  have aY:=mk (Kd.V_lower (Kd.V_mono (ok':=fun k_=>(w.heap.size≤k_)∧k_≠ae∧k_≠af∧k_≠I) ho0 (fun k_ hk_=>⟨Or.elim hk_ (fun hs_=>((Kd.R_types (Kd.R_types (Kd.R_types (am.out) r.out kq2) D.out kq2) G.out kq2).1 k_ hs_.symm).1.1.1.1) (fun hn_=>(Nat.le_trans (zad (kq36 U X Z)) hn_)),Or.elim hk_ (fun hs_=>((Kd.R_types (Kd.R_types (Kd.R_types (am.out) r.out kq2) D.out kq2) G.out kq2).1 k_ hs_.symm).1.1.2) (fun hn_=>(Kd.freshB (g:=ae) (o:=.cells #[.bool Y,.slice ai l0_1.length aj] 160 (0,0)) (kq22 r) k_ hn_)),Or.elim hk_ (fun hs_=>((Kd.R_types (Kd.R_types (Kd.R_types (am.out) r.out kq2) D.out kq2) G.out kq2).1 k_ hs_.symm).1.2) (fun hn_=>(Kd.freshB (g:=af) (o:=.cells #[.bool aa,.slice ak l1_1.length al] 160 (0,0)) (kq22 D) k_ hn_)),Or.elim hk_ (fun hs_=>((Kd.R_types (Kd.R_types (Kd.R_types (am.out) r.out kq2) D.out kq2) G.out kq2).1 k_ hs_.symm).2) (fun hn_=>(Kd.freshB (g:=I) (o:=.cells #[.bool false,.slice none 0 0] 160 (0,0)) (kq22 G) k_ hn_))⟩)) (zad (kq36 U X Z)))
  have aZ:=(bb_ r hb)
  have b4:=(bb_ D hb)
  have ba:=(bb_ G hb)
  have bH:=mk (zaa (kq36 U X Z) hb)
  clear am
  clear r
  clear D
  clear G
  clear HB
  have am:=aX
  have b5:=aY
  have r:=aZ
  have D:=b4
  have G:=ba
  have HB:=bH
  clear aX aY aZ b4 ba bH
  obtain⟨Ao19,co19,bf⟩:=Kd.V_slice b5.out
  (first|subst bf|(injection bf with av aK aw;have aM:=av.symm;have aN:=aw.symm;clear av aK aw;subst aM;subst aN))
  refine hK.out _ _ ⟨bk_ r 0,bk_ r 1,bk_ D 0,bk_ D 1⟩ (fun hHeld=>?_)
  clear hK K
  refine za2 (a':=?_) ?_ ?_
  rotate_left
  ·(show Act.put _ (some 16) _=_);simp only[Act.put,setIfInBounds_toArray,set_cons_zero,set_cons_succ,zbi,zbq];rfl
  refine one_ (i:=7) (N:=none) #[true,true,true,true,true,true,true,true] rfl rfl (zc7 HT_.out kq0) kq2 (fun K hK=>?_)
  have d5:bG.cell? ⟨I,0,none⟩=some (.bool false):=bk_ G 0
  have cy:=zaD G.out 0
  have bI:=J.out
  have bJ:=L.out
  have bK:=ab.out
  have bL:=ac.out
  have d6:bG.cell? ⟨I,1,none⟩=some (.slice none 0 0):=bk_ G 1
  have cz:=zaD G.out 1
  have bM:=J.out
  have bN:=L.out
  have bO:=ab.out
  have bP:=ac.out
  refine zbO (w1:=?_) (by rfl) rfl ?_ ?_
  rotate_left
  ·go_simp;rfl
  refine hK.out _ _ ⟨((zam (p:=⟨I,_,none⟩) J.out _).trans (((zam (p:=⟨I,_,none⟩) J.out _).trans (hHeld.1)))),((zam (p:=⟨I,_,none⟩) J.out _).trans (((zam (p:=⟨I,_,none⟩) J.out _).trans (hHeld.2.1)))),((zam (p:=⟨I,_,none⟩) L.out _).trans (((zam (p:=⟨I,_,none⟩) L.out _).trans (hHeld.2.2.1)))),((zam (p:=⟨I,_,none⟩) L.out _).trans (((zam (p:=⟨I,_,none⟩) L.out _).trans (hHeld.2.2.2))))⟩ (fun hHeld=>?_)
  clear hK K
  refine zbC (zbR HT_.out kq0) ?_
  try go_wp2
  refine bodyPost_ret (results_cell_row rfl _ _ I 160 #[.bool aJ,.slice Ao19 aU.length co19] (0,0) _ rfl (by(with_reducible repeat(first|refine zag ?_ _|refine zaf ?_|refine zab ?_ _));refine zak (cs:=#[.bool aJ,.slice none 0 0]) ?_ 1 _ rfl;(with_reducible repeat(first|refine zag ?_ _|refine zaf ?_|refine zab ?_ _));refine zak (cs:=#[.bool false,.slice none 0 0]) ?_ 0 _ rfl;(with_reducible repeat(first|refine zag ?_ _|refine zaf ?_|refine zab ?_ _));exact G.out) Try.underlying160 rfl kq0) rfl ?_
  exact⟨_,kq18,by(with_reducible repeat(first|apply Kd.V_alloc|apply Kd.V_drewN|apply Kd.V_drew));exact Kd.V_mono (Kd.V_far (p:=⟨I,1,none⟩) (Kd.V_far (p:=⟨I,0,none⟩) (Kd.V_mono b5.out (fun k_ hk=>(⟨hk,hk.2.2.2⟩:_∧k_≠I))) (fun _ hk=>hk.2) (.bool aJ)) (fun _ hk=>hk.2) (.slice Ao19 aU.length co19)) (fun _ hk=>hk.1.1),(kq36 U X Z)⟩
 ·rw[if_neg c3]at H
  have bB:(Y==aa)=false:=by simpa using c3
  (try(have bC:decide (Y=aa)=false:=by simpa using c3))
  (try(have bD:(Y==aa)=false:=by simpa using c3))
  (try(have d7:¬(Y=aa):=by simpa using c3))
  clear c3
  replace H:=Option.bind_eq_some_iff.mp H
  obtain⟨ay,bg,H⟩:=H
  replace H:(if ay≥0 then((zaB.f k Y l0_1 aa l1_1).bind fun ar=>((zac.f k Y ar).bind fun an=>(some (an.1,an.2))))else((zaB.f k aa l1_1 Y l0_1).bind fun au=>((zac.f k aa au).bind fun ao=>(some (ao.1,ao.2)))))=some (r1,r2):=H
  have bQ:=mk bg
  clear bg
  replace H:=ic_ H;obtain⟨bb,H⟩|⟨bb,H⟩:=H
  ·have bz:decide (0≤ay)=true:=decide_eq_true bb;clear bb;replace H:=Option.bind_eq_some_iff.mp H;obtain⟨ar,bh,H⟩:=H;replace H:((zac.f k Y ar).bind fun an=>(some (an.1,an.2)))=some (r1,r2):=H;have cA:=mk bh;clear bh;replace H:=Option.bind_eq_some_iff.mp H;obtain⟨⟨aQ,aV⟩,bi,H⟩:=H;replace H:(some (aQ,aV))=some (r1,r2):=H;have cB:=mk bi;clear bi;simp only[Option.some.injEq,Prod.mk.injEq]at H;obtain⟨rfl,rfl⟩:=H;(go_enter Try.func132,Try.ntmps132);(try go_wp2_with (first|((with_reducible refine zao (N:=2) rfl ?_);refine zal ?hg (N:=2) ?hd (cs:=#[.bool Y,.slice ai l0_1.length aj]) (t:=160) ?hr ?_;(case hd=>rfl);(case hg=>rfl);(case hr=>exact kq21);intro ae hg de hbox hb;have r:=mk (hbox);have aA:=(gs_ hg kq8);have U:=aA;replace HB:=mk (zaa kq8 hb);clear hb hbox hg)|((with_reducible refine zao (N:=3) rfl ?_);refine zal ?hg (N:=3) ?hd (cs:=#[.bool aa,.slice ak l1_1.length al]) (t:=160) ?hr ?_;(case hd=>rfl);(case hg=>rfl);(case hr=>exact kq21);intro af hg df hbox hb;have D:=mk (hbox);have aC:=(gs_ hg (kq20 U));have X:=aC;have ag:=(nl_ hg r);have ah:=(ng_ hg r);replace r:=(bb_ r hb);replace HB:=mk (zaa (kq20 U) hb);clear hb hbox hg)|((with_reducible refine zao (N:=4) rfl ?_);refine zal ?hg (N:=4) ?hd (cs:=#[.bool false,.slice none 0 0]) (t:=160) ?hr ?_;(case hd=>rfl);(case hg=>rfl);(case hr=>exact kq21);intro I hg dg hbox hb;have G:=mk (hbox);have aD:=(gs_ hg (kq31 U X));have Z:=aD;have J:=(nl_ hg r);have ab:=(ng_ hg r);have L:=(nl_ hg D);have ac:=(ng_ hg D);replace r:=(bb_ r hb);replace D:=(bb_ D hb);replace HB:=mk (zaa (kq31 U X) hb);clear hb hbox hg;have cC:=ag.out;have cD:=ah.out;have cE:=J.out;have cF:=ab.out;obtain⟨_,_,_,_⟩:=cz2_ r.out;have cG:=L.out;have cH:=ac.out;obtain⟨_,_,_,_⟩:=cz2_ D.out)|((with_reducible refine zaE (f:=171) rfl ?_);refine za7 (some 19) rfl rfl Try.func171 kq0 rfl #[.agg #[.bool Y,.slice ai l0_1.length aj],.agg #[.bool aa,.slice ak l1_1.length al]] rfl kq10 ?_;(with_reducible refine(zaO.calls k Y _ _ l0_1 aa _ _ l1_1 ay _ ?side1 ?side2 ?side3 ?side4 bQ.out).mono ?_);(case side1=>exact kq25 aE);(case side2=>exact aG.out);(case side3=>exact kq25 aH);(case side4=>exact aI.out);rintro e cI ⟨rfl,hb⟩;refine⟨_,rfl,?_⟩;replace r:=(bb_ r hb);replace D:=(bb_ D hb);replace G:=(bb_ G hb);replace HB:=mk (zaa (kq36 U X Z) hb))));replace r:=mk (zaf r.out);replace D:=mk (zaf D.out);replace G:=mk (zaf G.out);replace HB:=mk (zaP HB.out);refine zbv (n:=8) (S:=fun w'=>w'.cell? ⟨ae,0,none⟩=some (.bool Y)∧w'.cell? ⟨ae,1,none⟩=some (.slice ai l0_1.length aj)∧w'.cell? ⟨af,0,none⟩=some (.bool aa)∧w'.cell? ⟨af,1,none⟩=some (.slice ak l1_1.length al)) (ds:=[]) #[false,false,false,false,false,false,false,false] kq0 rfl rfl ⟨bk_ r 0,bk_ r 1,bk_ D 0,bk_ D 1⟩ (fun hHeld=>?_);refine zbo zax.tab4 zax.bits4 (fun HT_ HW_=>?_);(generalize cI.drew=dh at r D G HB hHeld ⊢);refine puT_ 0 21 ?_
   refine taT_ 1 22 hHeld ?_
   refine taT_ 2 23 hHeld ?_
   refine taT_ 3 24 hHeld ?_
   refine onT_ 4 25 (fun K hK=>?_);refine zbj Try.func172 kq0 rfl #[.agg #[.bool Y,.slice ai l0_1.length aj],.agg #[.bool aa,.slice ak l1_1.length al]] (by rfl) rfl rfl kq10 ?_;(with_reducible refine(zaB.calls k Y _ _ l0_1 aa _ _ l1_1 ar _ ?side1 ?side2 ?side3 ?side4 cA.out).mono ?_);((case side1=>exact kq25 aE));((case side2=>exact aG.out));((case side3=>exact kq25 aH));((case side4=>exact aI.out));rintro e di ⟨cJ,rfl,ho0,hb⟩;refine⟨_,rfl,?_⟩;have ap:=mk (Kd.R_lower (Kd.R_newM (M:=fun k_=>(w.heap.size≤k_)) ho0 (zad (kq36 U X Z)) (fun k_ h_=>h_)) (zad (kq36 U X Z)));replace r:=(bb_ r hb);replace D:=(bb_ D hb);replace G:=(bb_ G hb);replace HB:=mk (zaa (kq36 U X Z) hb);((try clear hb));((try clear hb2));((try clear hk));((try clear hi));((try clear ho0));obtain⟨bj,bk,bm⟩:=Kd.R_slice ap.out;((first|subst bm|(injection bm with av aK aw;have aM:=av.symm;have aN:=aw.symm;clear av aK aw;subst aM;subst aN)));refine hK.out _ _ ⟨bk_ r 0,bk_ r 1,bk_ D 0,bk_ D 1⟩ (fun hHeld=>?_);clear hK K;refine za2 (a':=?_) ?_ ?_;rotate_left
   ·(show Act.put _ (some 25) _=_);simp only[Act.put,setIfInBounds_toArray,set_cons_zero,set_cons_succ,zbi,zbq];rfl
   refine puT_ 5 26 ?_
   refine onT_ 6 27 (fun K hK=>?_);refine zbj Try.func170 kq0 rfl #[.agg #[.bool Y,.slice bj ar.length bk]] (by rfl) rfl rfl kq10 ?_;(with_reducible refine(zac.calls k Y (fun k_=>some k_=(.slice bj ar.length bk:Value).ownBlock) _ _ ar aQ aV _ ?side1 cB.out).mono ?_);((case side1=>exact kq37 ap r D G));rintro e bR ⟨cK,rfl,ho0,hb⟩;refine⟨_,rfl,?_⟩;have b6:=mk (Kd.V_lower (Kd.V_mono (ok':=fun k_=>(w.heap.size≤k_)∧k_≠ae∧k_≠af∧k_≠I) ho0 (fun k_ hk_=>⟨Or.elim hk_ (fun hs_=>((Kd.R_types (Kd.R_types (Kd.R_types (ap.out) r.out kq2) D.out kq2) G.out kq2).1 k_ hs_.symm).1.1.1.1) (fun hn_=>(Nat.le_trans (zad (kq36 U X Z)) hn_)),Or.elim hk_ (fun hs_=>((Kd.R_types (Kd.R_types (Kd.R_types (ap.out) r.out kq2) D.out kq2) G.out kq2).1 k_ hs_.symm).1.1.2) (fun hn_=>(Kd.freshB (g:=ae) (o:=.cells #[.bool Y,.slice ai l0_1.length aj] 160 (0,0)) (kq22 r) k_ hn_)),Or.elim hk_ (fun hs_=>((Kd.R_types (Kd.R_types (Kd.R_types (ap.out) r.out kq2) D.out kq2) G.out kq2).1 k_ hs_.symm).1.2) (fun hn_=>(Kd.freshB (g:=af) (o:=.cells #[.bool aa,.slice ak l1_1.length al] 160 (0,0)) (kq22 D) k_ hn_)),Or.elim hk_ (fun hs_=>((Kd.R_types (Kd.R_types (Kd.R_types (ap.out) r.out kq2) D.out kq2) G.out kq2).1 k_ hs_.symm).2) (fun hn_=>(Kd.freshB (g:=I) (o:=.cells #[.bool false,.slice none 0 0] 160 (0,0)) (kq22 G) k_ hn_))⟩)) (zad (kq36 U X Z)));replace ap:=mk (Kd.R_below (kq9 ap) hb);replace r:=(bb_ r hb);replace D:=(bb_ D hb);replace G:=(bb_ G hb);replace HB:=mk (zaa (kq36 U X Z) hb);((try clear hb));((try clear hb2));((try clear hk));((try clear hi));((try clear ho0));obtain⟨Ao39,co39,bn⟩:=Kd.V_slice b6.out;((first|subst bn|(injection bn with av aK aw;have aM:=av.symm;have aN:=aw.symm;clear av aK aw;subst aM;subst aN)));refine hK.out _ _ ⟨bk_ r 0,bk_ r 1,bk_ D 0,bk_ D 1⟩ (fun hHeld=>?_);clear hK K;refine za2 (a':=?_) ?_ ?_;rotate_left
   ·(show Act.put _ (some 27) _=_);simp only[Act.put,setIfInBounds_toArray,set_cons_zero,set_cons_succ,zbi,zbq];rfl
   refine one_ (i:=7) (N:=none) #[true,true,true,true,true,true,true,true] rfl rfl (zc7 HT_.out kq0) kq2 (fun K hK=>?_);have d8:bR.cell? ⟨I,0,none⟩=some (.bool false):=bk_ G 0;have cL:=zaD G.out 0;have bS:=J.out;have bT:=L.out;have bU:=ab.out;have bV:=ac.out;have d9:bR.cell? ⟨I,1,none⟩=some (.slice none 0 0):=bk_ G 1;have cM:=zaD G.out 1;have bW:=J.out;have bX:=L.out;have bY:=ab.out;have bZ:=ac.out;refine zbO (w1:=?_) (by rfl) rfl ?_ ?_;rotate_left
   ·go_simp;rfl
   refine hK.out _ _ ⟨((zam (p:=⟨I,_,none⟩) J.out _).trans (((zam (p:=⟨I,_,none⟩) J.out _).trans (hHeld.1)))),((zam (p:=⟨I,_,none⟩) J.out _).trans (((zam (p:=⟨I,_,none⟩) J.out _).trans (hHeld.2.1)))),((zam (p:=⟨I,_,none⟩) L.out _).trans (((zam (p:=⟨I,_,none⟩) L.out _).trans (hHeld.2.2.1)))),((zam (p:=⟨I,_,none⟩) L.out _).trans (((zam (p:=⟨I,_,none⟩) L.out _).trans (hHeld.2.2.2))))⟩ (fun hHeld=>?_);clear hK K;refine zbC (zbR HT_.out kq0) ?_;(try go_wp2);refine bodyPost_ret (results_cell_row rfl _ _ I 160 #[.bool aQ,.slice Ao39 aV.length co39] (0,0) _ rfl (by(with_reducible repeat(first|refine zag ?_ _|refine zaf ?_|refine zab ?_ _));refine zak (cs:=#[.bool aQ,.slice none 0 0]) ?_ 1 _ rfl;(with_reducible repeat(first|refine zag ?_ _|refine zaf ?_|refine zab ?_ _));refine zak (cs:=#[.bool false,.slice none 0 0]) ?_ 0 _ rfl;(with_reducible repeat(first|refine zag ?_ _|refine zaf ?_|refine zab ?_ _));exact G.out) Try.underlying160 rfl kq0) rfl ?_;exact⟨_,kq18,by(with_reducible repeat(first|apply Kd.V_alloc|apply Kd.V_drewN|apply Kd.V_drew));exact Kd.V_mono (Kd.V_far (p:=⟨I,1,none⟩) (Kd.V_far (p:=⟨I,0,none⟩) (Kd.V_mono b6.out (fun k_ hk=>(⟨hk,hk.2.2.2⟩:_∧k_≠I))) (fun _ hk=>hk.2) (.bool aQ)) (fun _ hk=>hk.2) (.slice Ao39 aV.length co39)) (fun _ hk=>hk.1.1),(kq36 U X Z)⟩
  ·have bz:decide (0≤ay)=false:=decide_eq_false bb;clear bb;replace H:=Option.bind_eq_some_iff.mp H;obtain⟨au,bo,H⟩:=H;replace H:((zac.f k aa au).bind fun ao=>(some (ao.1,ao.2)))=some (r1,r2):=H;have cN:=mk bo;clear bo;replace H:=Option.bind_eq_some_iff.mp H;obtain⟨⟨aT,aW⟩,bp,H⟩:=H;replace H:(some (aT,aW))=some (r1,r2):=H;have cO:=mk bp;clear bp;simp only[Option.some.injEq,Prod.mk.injEq]at H;obtain⟨rfl,rfl⟩:=H;(go_enter Try.func132,Try.ntmps132);(try go_wp2_with (first|((with_reducible refine zao (N:=2) rfl ?_);refine zal ?hg (N:=2) ?hd (cs:=#[.bool Y,.slice ai l0_1.length aj]) (t:=160) ?hr ?_;(case hd=>rfl);(case hg=>rfl);(case hr=>exact kq21);intro ae hg dj hbox hb;have r:=mk (hbox);have aA:=(gs_ hg kq8);have U:=aA;replace HB:=mk (zaa kq8 hb);clear hb hbox hg)|((with_reducible refine zao (N:=3) rfl ?_);refine zal ?hg (N:=3) ?hd (cs:=#[.bool aa,.slice ak l1_1.length al]) (t:=160) ?hr ?_;(case hd=>rfl);(case hg=>rfl);(case hr=>exact kq21);intro af hg dk hbox hb;have D:=mk (hbox);have aC:=(gs_ hg (kq20 U));have X:=aC;have ag:=(nl_ hg r);have ah:=(ng_ hg r);replace r:=(bb_ r hb);replace HB:=mk (zaa (kq20 U) hb);clear hb hbox hg)|((with_reducible refine zao (N:=4) rfl ?_);refine zal ?hg (N:=4) ?hd (cs:=#[.bool false,.slice none 0 0]) (t:=160) ?hr ?_;(case hd=>rfl);(case hg=>rfl);(case hr=>exact kq21);intro I hg dl hbox hb;have G:=mk (hbox);have aD:=(gs_ hg (kq31 U X));have Z:=aD;have J:=(nl_ hg r);have ab:=(ng_ hg r);have L:=(nl_ hg D);have ac:=(ng_ hg D);replace r:=(bb_ r hb);replace D:=(bb_ D hb);replace HB:=mk (zaa (kq31 U X) hb);clear hb hbox hg;have cP:=ag.out;have cQ:=ah.out;have cR:=J.out;have cS:=ab.out;obtain⟨_,_,_,_⟩:=cz2_ r.out;have cT:=L.out;have cU:=ac.out;obtain⟨_,_,_,_⟩:=cz2_ D.out)|((with_reducible refine zaE (f:=171) rfl ?_);refine za7 (some 19) rfl rfl Try.func171 kq0 rfl #[.agg #[.bool Y,.slice ai l0_1.length aj],.agg #[.bool aa,.slice ak l1_1.length al]] rfl kq10 ?_;(with_reducible refine(zaO.calls k Y _ _ l0_1 aa _ _ l1_1 ay _ ?side1 ?side2 ?side3 ?side4 bQ.out).mono ?_);(case side1=>exact kq25 aE);(case side2=>exact aG.out);(case side3=>exact kq25 aH);(case side4=>exact aI.out);rintro e cV ⟨rfl,hb⟩;refine⟨_,rfl,?_⟩;replace r:=(bb_ r hb);replace D:=(bb_ D hb);replace G:=(bb_ G hb);replace HB:=mk (zaa (kq36 U X Z) hb))));replace r:=mk (zaf r.out);replace D:=mk (zaf D.out);replace G:=mk (zaf G.out);replace HB:=mk (zaP HB.out);refine zbv (n:=8) (S:=fun w'=>w'.cell? ⟨af,0,none⟩=some (.bool aa)∧w'.cell? ⟨af,1,none⟩=some (.slice ak l1_1.length al)∧w'.cell? ⟨ae,0,none⟩=some (.bool Y)∧w'.cell? ⟨ae,1,none⟩=some (.slice ai l0_1.length aj)) (ds:=[]) #[false,false,false,false,false,false,false,false] kq0 rfl rfl ⟨bk_ D 0,bk_ D 1,bk_ r 0,bk_ r 1⟩ (fun hHeld=>?_);refine zbo zax.tab5 zax.bits5 (fun HT_ HW_=>?_);(generalize cV.drew=dm at r D G HB hHeld ⊢);refine puT_ 0 28 ?_
   refine taT_ 1 29 hHeld ?_
   refine taT_ 2 30 hHeld ?_
   refine taT_ 3 31 hHeld ?_
   refine onT_ 4 32 (fun K hK=>?_);refine zbj Try.func172 kq0 rfl #[.agg #[.bool aa,.slice ak l1_1.length al],.agg #[.bool Y,.slice ai l0_1.length aj]] (by rfl) rfl rfl kq10 ?_;(with_reducible refine(zaB.calls k aa _ _ l1_1 Y _ _ l0_1 au _ ?side1 ?side2 ?side3 ?side4 cN.out).mono ?_);((case side1=>exact kq25 aH));((case side2=>exact aI.out));((case side3=>exact kq25 aE));((case side4=>exact aG.out));rintro e dn ⟨cW,rfl,ho0,hb⟩;refine⟨_,rfl,?_⟩;have aq:=mk (Kd.R_lower (Kd.R_newM (M:=fun k_=>(w.heap.size≤k_)) ho0 (zad (kq36 U X Z)) (fun k_ h_=>h_)) (zad (kq36 U X Z)));replace r:=(bb_ r hb);replace D:=(bb_ D hb);replace G:=(bb_ G hb);replace HB:=mk (zaa (kq36 U X Z) hb);((try clear hb));((try clear hb2));((try clear hk));((try clear hi));((try clear ho0));obtain⟨br,bs,bu⟩:=Kd.R_slice aq.out;((first|subst bu|(injection bu with av aK aw;have aM:=av.symm;have aN:=aw.symm;clear av aK aw;subst aM;subst aN)));refine hK.out _ _ ⟨bk_ D 0,bk_ D 1,bk_ r 0,bk_ r 1⟩ (fun hHeld=>?_);clear hK K;refine za2 (a':=?_) ?_ ?_;rotate_left
   ·(show Act.put _ (some 32) _=_);simp only[Act.put,setIfInBounds_toArray,set_cons_zero,set_cons_succ,zbi,zbq];rfl
   refine puT_ 5 33 ?_
   refine onT_ 6 34 (fun K hK=>?_);refine zbj Try.func170 kq0 rfl #[.agg #[.bool aa,.slice br au.length bs]] (by rfl) rfl rfl kq10 ?_;(with_reducible refine(zac.calls k aa (fun k_=>some k_=(.slice br au.length bs:Value).ownBlock) _ _ au aT aW _ ?side1 cO.out).mono ?_);((case side1=>exact kq37 aq r D G));rintro e cd ⟨cX,rfl,ho0,hb⟩;refine⟨_,rfl,?_⟩;have b7:=mk (Kd.V_lower (Kd.V_mono (ok':=fun k_=>(w.heap.size≤k_)∧k_≠ae∧k_≠af∧k_≠I) ho0 (fun k_ hk_=>⟨Or.elim hk_ (fun hs_=>((Kd.R_types (Kd.R_types (Kd.R_types (aq.out) r.out kq2) D.out kq2) G.out kq2).1 k_ hs_.symm).1.1.1.1) (fun hn_=>(Nat.le_trans (zad (kq36 U X Z)) hn_)),Or.elim hk_ (fun hs_=>((Kd.R_types (Kd.R_types (Kd.R_types (aq.out) r.out kq2) D.out kq2) G.out kq2).1 k_ hs_.symm).1.1.2) (fun hn_=>(Kd.freshB (g:=ae) (o:=.cells #[.bool Y,.slice ai l0_1.length aj] 160 (0,0)) (kq22 r) k_ hn_)),Or.elim hk_ (fun hs_=>((Kd.R_types (Kd.R_types (Kd.R_types (aq.out) r.out kq2) D.out kq2) G.out kq2).1 k_ hs_.symm).1.2) (fun hn_=>(Kd.freshB (g:=af) (o:=.cells #[.bool aa,.slice ak l1_1.length al] 160 (0,0)) (kq22 D) k_ hn_)),Or.elim hk_ (fun hs_=>((Kd.R_types (Kd.R_types (Kd.R_types (aq.out) r.out kq2) D.out kq2) G.out kq2).1 k_ hs_.symm).2) (fun hn_=>(Kd.freshB (g:=I) (o:=.cells #[.bool false,.slice none 0 0] 160 (0,0)) (kq22 G) k_ hn_))⟩)) (zad (kq36 U X Z)));replace aq:=mk (Kd.R_below (kq9 aq) hb);replace r:=(bb_ r hb);replace D:=(bb_ D hb);replace G:=(bb_ G hb);replace HB:=mk (zaa (kq36 U X Z) hb);((try clear hb));((try clear hb2));((try clear hk));((try clear hi));((try clear ho0));obtain⟨bv,bw,bx⟩:=Kd.V_slice b7.out;((first|subst bx|(injection bx with av aK aw;have aM:=av.symm;have aN:=aw.symm;clear av aK aw;subst aM;subst aN)));refine hK.out _ _ ⟨bk_ D 0,bk_ D 1,bk_ r 0,bk_ r 1⟩ (fun hHeld=>?_);clear hK K;refine za2 (a':=?_) ?_ ?_;rotate_left
   ·(show Act.put _ (some 34) _=_);simp only[Act.put,setIfInBounds_toArray,set_cons_zero,set_cons_succ,zbi,zbq];rfl
   refine one_ (i:=7) (N:=none) #[true,true,true,true,true,true,true,true] rfl rfl (zc7 HT_.out kq0) kq2 (fun K hK=>?_);have da:cd.cell? ⟨I,0,none⟩=some (.bool false):=bk_ G 0;have cY:=zaD G.out 0;have ce:=J.out;have cg:=L.out;have ch:=ab.out;have ci:=ac.out;have db:cd.cell? ⟨I,1,none⟩=some (.slice none 0 0):=bk_ G 1;have cZ:=zaD G.out 1;have cj:=J.out;have ck:=L.out;have cm:=ab.out;have co:=ac.out;refine zbO (w1:=?_) (by rfl) rfl ?_ ?_;rotate_left
   ·go_simp;rfl
   refine hK.out _ _ ⟨((zam (p:=⟨I,_,none⟩) L.out _).trans (((zam (p:=⟨I,_,none⟩) L.out _).trans (hHeld.1)))),((zam (p:=⟨I,_,none⟩) L.out _).trans (((zam (p:=⟨I,_,none⟩) L.out _).trans (hHeld.2.1)))),((zam (p:=⟨I,_,none⟩) J.out _).trans (((zam (p:=⟨I,_,none⟩) J.out _).trans (hHeld.2.2.1)))),((zam (p:=⟨I,_,none⟩) J.out _).trans (((zam (p:=⟨I,_,none⟩) J.out _).trans (hHeld.2.2.2))))⟩ (fun hHeld=>?_);clear hK K;refine zbC (zbR HT_.out kq0) ?_;(try go_wp2);refine bodyPost_ret (results_cell_row rfl _ _ I 160 #[.bool aT,.slice bv aW.length bw] (0,0) _ rfl (by(with_reducible repeat(first|refine zag ?_ _|refine zaf ?_|refine zab ?_ _));refine zak (cs:=#[.bool aT,.slice none 0 0]) ?_ 1 _ rfl;(with_reducible repeat(first|refine zag ?_ _|refine zaf ?_|refine zab ?_ _));refine zak (cs:=#[.bool false,.slice none 0 0]) ?_ 0 _ rfl;(with_reducible repeat(first|refine zag ?_ _|refine zaf ?_|refine zab ?_ _));exact G.out) Try.underlying160 rfl kq0) rfl ?_;exact⟨_,kq18,by(with_reducible repeat(first|apply Kd.V_alloc|apply Kd.V_drewN|apply Kd.V_drew));exact Kd.V_mono (Kd.V_far (p:=⟨I,1,none⟩) (Kd.V_far (p:=⟨I,0,none⟩) (Kd.V_mono b7.out (fun k_ hk=>(⟨hk,hk.2.2.2⟩:_∧k_≠I))) (fun _ hk=>hk.2) (.bool aT)) (fun _ hk=>hk.2) (.slice bv aW.length bw)) (fun _ hk=>hk.1.1),(kq36 U X Z)⟩
def zaZ.f (k:Nat) (a0_0:Bool) (l0_1:List Int):Option (Bool × List Int):=(zac.f k (!a0_0) l0_1).bind fun bt1037=>(some (bt1037.1,bt1037.2))
theorem zaZ.mono:∀a0 r k,LeO (zaZ.f k a0 r) (zaZ.f (k+1) a0 r):=by
 intro a0 r k
 unfold zaZ.f
 repeat' first
  |(with_reducible exact zac.mono _ _ _)
  |(with_reducible exact LeO.refl _)
  |(with_reducible exact LeO.none _)
  |(with_reducible refine LeO.ite ?_ ?_)
  |(with_reducible refine LeO.bind ?_ (fun _=>?_))
  |exact zac.mono _ _ _
  |exact LeO.none _
  |refine LeO.ite ?_ ?_
  |refine LeO.bind ?_ (fun _=>?_)
set_option maxHeartbeats 8000000 in
theorem zaZ.calls (k:Nat) (U:Bool) (P0_1_:Nat→Prop) (Y:Option Addr) (Z:Nat) (l0_1:List Int) (r1:Bool) (r2:List Int) (w:World) (ai:Kd.V (Kd.int .u64) 187 w w.heap.size (fun k_=>P0_1_ k_) (.slice Y l0_1.length Z) l0_1) (h:zaZ.f k U l0_1=some (r1,r2)) :
 Calls Try.prog 134 #[.agg #[.bool U,.slice Y l0_1.length Z]] w fun e w'=>∃aj:Value,e= .returned (.agg #[.bool r1,aj])∧Kd.V (Kd.int .u64) 187 w' w.heap.size (fun k_=>(P0_1_ k_∨w.heap.size≤k_)) aj r2∧Below w.heap.size w w':=by
 have an:=Try.underlying160
 have I:=mk (show Kd.V (Kd.int .u64) 187 w w.heap.size (fun k_=>(P0_1_ k_∨w.heap.size≤k_)) (.slice Y l0_1.length Z) l0_1 from Kd.V_mono ai (fun k_ hk=>.inl hk))
 have HB:=mk (Below.refl w.heap.size w)
 have H:((zac.f k (!U) l0_1).bind fun ae=>(some (ae.1,ae.2)))=some (r1,r2):=h
 clear h
 replace H:=Option.bind_eq_some_iff.mp H
 obtain⟨⟨X,aa⟩,ak,H⟩:=H
 replace H:(some (X,aa))=some (r1,r2):=H
 have A2:=mk ak
 clear ak
 simp only[Option.some.injEq,Prod.mk.injEq]at H
 obtain⟨rfl,rfl⟩:=H
 go_enter Try.func134,Try.ntmps134
 go_wp2_with (first|((with_reducible refine zao (N:=1) rfl ?_);refine zal ?hg (N:=1) ?hd (cs:=#[.bool U,.slice Y l0_1.length Z]) (t:=160) ?hr ?_;(case hd=>rfl);(case hg=>rfl);(case hr=>exact kq21);intro L hg w3 hbox hb;have r:=mk (hbox);have ag:=(gs_ hg kq8);have G:=ag;replace I:=mk (Kd.V_below (Kd.V_elderB (kq23 I) L (Nat.le_of_eq hg.symm)) hb);replace HB:=mk (zaa kq8 hb);clear hb hbox hg)|((with_reducible refine zao (N:=2) rfl ?_);refine zal ?hg (N:=2) ?hd (cs:=#[.bool false,.slice none 0 0]) (t:=160) ?hr ?_;(case hd=>rfl);(case hg=>rfl);(case hr=>exact kq21);intro D hg w4 hbox hb;have J:=mk (hbox);have ah:=(gs_ hg (kq20 G));have M:=ah;have ab:=(nl_ hg r);have ac:=(ng_ hg r);replace I:=mk (Kd.V_below (Kd.V_elderB (kq23 I) D (Nat.le_of_eq hg.symm)) hb);replace r:=(bb_ r hb);replace HB:=mk (zaa (kq20 G) hb);clear hb hbox hg;have aq:=ab.out;have ar:=ac.out;obtain⟨_,_,_,_⟩:=cz2_ r.out)|((with_reducible refine zaE (f:=170) rfl ?_);refine za7 (some 9) rfl rfl Try.func170 kq0 rfl #[.agg #[.bool (!U),.slice Y l0_1.length Z]] rfl kq10 ?_;(with_reducible refine(zac.calls k (!U) (fun k_=>(((P0_1_ k_∨w.heap.size≤k_)∧k_≠L)∧k_≠D)) _ _ l0_1 X aa _ ?side1 A2.out).mono ?_);(case side1=>exact I.out);rintro e w7 ⟨ao,rfl,ho0,hb⟩;refine⟨_,rfl,?_⟩;have af:=mk (Kd.V_lower (Kd.V_mono (ok':=fun k_=>(P0_1_ k_∨w.heap.size≤k_)∧k_≠L∧k_≠D) ho0 (fun k_ hk_=>⟨Or.elim hk_ (fun hs_=>hs_.1.1) (fun hn_=>(.inr (Nat.le_trans (zad (kq31 G M)) hn_))),Or.elim hk_ (fun hs_=>hs_.1.2) (fun hn_=>(Kd.freshB (g:=L) (o:=.cells #[.bool U,.slice Y l0_1.length Z] 160 (0,0)) (kq22 r) k_ hn_)),Or.elim hk_ (fun hs_=>hs_.2) (fun hn_=>(Kd.freshB (g:=D) (o:=.cells #[.bool false,.slice none 0 0] 160 (0,0)) (kq22 J) k_ hn_))⟩)) (zad (kq31 G M)));replace I:=mk (Kd.V_below (kq23 I) hb);replace r:=(bb_ r hb);replace J:=(bb_ J hb);replace HB:=mk (zaa (kq31 G M) hb);obtain⟨_,_,_,_⟩:=cz2_ J.out;obtain⟨al,am,ap⟩:=Kd.V_slice af.out;subst ap))
 refine bodyPost_ret (results_cell_row rfl _ _ D 160 #[.bool X,.slice al aa.length am] (0,0) _ rfl (by(with_reducible repeat(first|refine zag ?_ _|refine zaf ?_|refine zab ?_ _));refine zak (cs:=#[.bool X,.slice none 0 0]) ?_ 1 _ rfl;(with_reducible repeat(first|refine zag ?_ _|refine zaf ?_|refine zab ?_ _));refine zak (cs:=#[.bool false,.slice none 0 0]) ?_ 0 _ rfl;(with_reducible repeat(first|refine zag ?_ _|refine zaf ?_|refine zab ?_ _));exact J.out) Try.underlying160 rfl kq0) rfl ?_
 exact⟨_,kq18,by(with_reducible repeat(first|apply Kd.V_alloc|apply Kd.V_drewN|apply Kd.V_drew));exact Kd.V_mono (Kd.V_far (p:=⟨D,1,none⟩) (Kd.V_far (p:=⟨D,0,none⟩) (Kd.V_mono af.out (fun k_ hk=>(⟨hk,hk.2.2⟩:_∧k_≠D))) (fun _ hk=>hk.2) (.bool X)) (fun _ hk=>hk.2) (.slice al aa.length am)) (fun _ hk=>hk.1.1),(kq31 G M)⟩
def zaY.f (k:Nat) (a0_0:Bool) (l0_1:List Int) (a1_0:Bool) (l1_1:List Int):Option (Bool):=(zaZ.f k a1_0 l1_1).bind fun bt1043=>((zax.f k a0_0 l0_1 bt1043.1 bt1043.2).bind fun bt1047=>(some bt1047.1))
theorem zaY.mono:∀a0 r D a3 k,LeO (zaY.f k a0 r D a3) (zaY.f (k+1) a0 r D a3):=by
 intro a0 r D a3 k
 unfold zaY.f
 repeat' first
  |(with_reducible exact zaZ.mono _ _ _)
  |(with_reducible exact zax.mono _ _ _ _ _)
  |(with_reducible exact LeO.refl _)
  |(with_reducible exact LeO.none _)
  |(with_reducible refine LeO.ite ?_ ?_)
  |(with_reducible refine LeO.bind ?_ (fun _=>?_))
  |exact zaZ.mono _ _ _
  |exact zax.mono _ _ _ _ _
  |exact LeO.none _
  |refine LeO.ite ?_ ?_
  |refine LeO.bind ?_ (fun _=>?_)
set_option maxHeartbeats 8000000 in
theorem zaY.calls (k:Nat) (X:Bool) (Z:Option Addr) (aa:Nat) (l0_1:List Int) (Y:Bool) (ab:Option Addr) (ac:Nat) (l1_1:List Int) (r:Bool) (w:World) (an:Kd.C (Kd.int .u64) w Z l0_1.length l0_1) (hc0_1:l0_1.length≤aa) (ao:Kd.C (Kd.int .u64) w ab l1_1.length l1_1) (hc1_1:l1_1.length≤ac) (h:zaY.f k X l0_1 Y l1_1=some r) :
 Calls Try.prog 188 #[.agg #[.bool X,.slice Z l0_1.length aa],.agg #[.bool Y,.slice ab l1_1.length ac]] w fun e w'=>e= .returned (.bool r)∧Below w.heap.size w w':=by
 have aQ:=Try.underlying160
 have az:=mk an
 have aA:=mk hc0_1
 clear an hc0_1
 have aC:=mk ao
 have aD:=mk hc1_1
 clear ao hc1_1
 have HB:=mk (Below.refl w.heap.size w)
 have H:((zaZ.f k Y l1_1).bind fun ak=>((zax.f k X l0_1 ak.1 ak.2).bind fun ae=>(some ae.1)))=some r:=h
 clear h
 replace H:=Option.bind_eq_some_iff.mp H
 obtain⟨⟨af,ag⟩,aJ,H⟩:=H
 replace H:((zax.f k X l0_1 af ag).bind fun ae=>(some ae.1))=some r:=H
 have A3:=mk aJ
 clear aJ
 replace H:=Option.bind_eq_some_iff.mp H
 obtain⟨⟨ap,aE⟩,aK,H⟩:=H
 replace H:(some ap)=some r:=H
 have A4:=mk aK
 clear aK
 obtain rfl:=Option.some.inj H
 go_enter Try.func188,Try.ntmps188
 try go_wp2_with (first|((with_reducible refine zao (N:=2) rfl ?_);refine zal ?hg (N:=2) ?hd (cs:=#[.bool X,.slice Z l0_1.length aa]) (t:=160) ?hr ?_;(case hd=>rfl);(case hg=>rfl);(case hr=>exact kq21);intro J hg w5 hbox hb;have D:=mk (hbox);have al:=(gs_ hg kq8);have I:=al;replace HB:=mk (zaa kq8 hb);clear hb hbox hg)|((with_reducible refine zao (N:=3) rfl ?_);refine zal ?hg (N:=3) ?hd (cs:=#[.bool Y,.slice ab l1_1.length ac]) (t:=160) ?hr ?_;(case hd=>rfl);(case hg=>rfl);(case hr=>exact kq21);intro L hg w6 hbox hb;have G:=mk (hbox);have am:=(gs_ hg (kq20 I));have M:=am;have av:=(nl_ hg D);have aw:=(ng_ hg D);replace D:=(bb_ D hb);replace HB:=mk (zaa (kq20 I) hb);clear hb hbox hg))
 have ah:=mk (zaf D.out)
 have ai:=mk (zaf G.out)
 have aj:=mk (zaP HB.out)
 clear D
 clear G
 clear HB
 have D:=ah
 have G:=ai
 have HB:=aj
 clear ah ai aj
 refine zbv (n:=6) (S:=fun w'=>w'.cell? ⟨J,0,none⟩=some (.bool X)∧w'.cell? ⟨J,1,none⟩=some (.slice Z l0_1.length aa)∧w'.cell? ⟨L,0,none⟩=some (.bool Y)∧w'.cell? ⟨L,1,none⟩=some (.slice ab l1_1.length ac)) (ds:=[]) #[false,false,false,false,false,false] kq0 rfl rfl ⟨bk_ D 0,bk_ D 1,bk_ G 0,bk_ G 1⟩ (fun hHeld=>?_)
 generalize w6.drew=w7 at D G HB hHeld ⊢
 refine ta_ 0 5 hHeld ?_
 refine ta_ 1 6 hHeld ?_
 refine on_ 2 7 (fun K hK=>?_)
 refine zbj Try.func134 kq0 rfl #[.agg #[.bool Y,.slice ab l1_1.length ac]] (by rfl) rfl rfl kq10 ?_
 with_reducible refine(zaZ.calls k Y (fun k_=>k_<w.heap.size) _ _ l1_1 af ag _ ?side1 A3.out).mono ?_
 (case side1=>exact Kd.V_mk aD.out (Kd.F_below (Kd.C_F (Kd.heap_int .u64) aC.out) (kq31 I M)))
 rintro e w8 ⟨aT,rfl,ho0,hb⟩
 refine⟨_,rfl,?_⟩
 have ah:=mk (Kd.V_lower (Kd.V_mono (ok':=fun k_=>k_≠J∧k_≠L) ho0 (fun k_ hk_=>⟨Or.elim hk_ (fun hs_=>fun e_=>Nat.not_le.2 hs_ (by rw[e_];exact al.out)) (fun hn_=>(Kd.freshB (g:=J) (o:=.cells #[.bool X,.slice Z l0_1.length aa] 160 (0,0)) (kq22 D) k_ hn_)),Or.elim hk_ (fun hs_=>fun e_=>Nat.not_le.2 hs_ (by rw[e_];exact am.out)) (fun hn_=>(Kd.freshB (g:=L) (o:=.cells #[.bool Y,.slice ab l1_1.length ac] 160 (0,0)) (kq22 G) k_ hn_))⟩)) (zad (kq31 I M)))
 have ai:=(bb_ D hb)
 have aj:=(bb_ G hb)
 have aq:=mk (zaa (kq31 I M) hb)
 clear D
 clear G
 clear HB
 have U:=ah
 have D:=ai
 have G:=aj
 have HB:=aq
 clear ah ai aj aq
 obtain⟨aU,aV,aM⟩:=Kd.V_slice U.out
 (first|subst aM|(injection aM with ar aG au;have aH:=ar.symm;have aI:=au.symm;clear ar aG au;subst aH;subst aI))
 refine hK.out _ _ ⟨bk_ D 0,bk_ D 1,bk_ G 0,bk_ G 1⟩ (fun hHeld=>?_)
 clear hK K
 refine za2 (a':=?_) ?_ ?_
 rotate_left
 ·show Act.put _ (some 7) _=_
  simp only[Act.put,setIfInBounds_toArray,set_cons_zero,set_cons_succ,zbi,zbq]
  rfl
 refine on_ 3 8 (fun K hK=>?_)
 refine zbj Try.func132 kq0 rfl #[.agg #[.bool X,.slice Z l0_1.length aa],.agg #[.bool af,.slice aU ag.length aV]] (by rfl) rfl rfl kq10 ?_
 with_reducible refine(zax.calls k X _ _ l0_1 af _ _ ag ap aE _ ?side1 ?side2 ?side3 ?side4 A4.out).mono ?_
 (case side1=>exact kq25 az)
 (case side2=>exact aA.out)
 (case side3=>exact kq38 U)
 (case side4=>exact(Kd.V_reads' U.out).2.1)
 rintro e aZ ⟨aW,rfl,ho0,hb⟩
 refine⟨_,rfl,?_⟩
 have ah:=mk (Kd.V_below (kq23 U) hb)
 have ai:=mk (Kd.V_lower (Kd.V_mono (ok':=fun k_=>k_≠J∧k_≠L) ho0 (fun k_ hk_=>⟨(Kd.freshB (g:=J) (o:=.cells #[.bool X,.slice Z l0_1.length aa] 160 (0,0)) (kq22 D) k_ hk_),(Kd.freshB (g:=L) (o:=.cells #[.bool Y,.slice ab l1_1.length ac] 160 (0,0)) (kq22 G) k_ hk_)⟩)) (zad (kq31 I M)))
 have aj:=(bb_ D hb)
 have aq:=(bb_ G hb)
 have aN:=mk (zaa (kq31 I M) hb)
 clear U
 clear D
 clear G
 clear HB
 have U:=ah
 have ax:=ai
 have D:=aj
 have G:=aq
 have HB:=aN
 clear ah ai aj aq aN
 obtain⟨aX,aY,ay⟩:=Kd.V_slice ax.out
 (first|subst ay|(injection ay with ar aG au;have aH:=ar.symm;have aI:=au.symm;clear ar aG au;subst aH;subst aI))
 refine hK.out _ _ ⟨bk_ D 0,bk_ D 1,bk_ G 0,bk_ G 1⟩ (fun hHeld=>?_)
 clear hK K
 refine za2 (a':=?_) ?_ ?_
 rotate_left
 ·show Act.put _ (some 8) _=_
  simp only[Act.put,setIfInBounds_toArray,set_cons_zero,set_cons_succ,zbi,zbq]
  rfl
 refine pu_ 4 9 ?_
 refine pu_ 5 4 ?_
 refine zbC kq0 ?_
 try go_wp2
 go_ret
 exact⟨kq18,(kq31 I M)⟩
end Go.Proofs.Ytjknpmibdkoklaa.Q
namespace Go.Proofs.Ytjknpmibdkoklaa.Q
open Go.RowKit Go.Proofs.YtjknpmibdkoklaaW.PrintWords Go.Proofs.YtjknpmibdkoklaaW.PrintLast Go.Proofs.YtjknpmibdkoklaaW.PrintMore
def val:List Int→Int
 | []=>0
 |d::l=>d+65536*val l
def dig (n:Nat):List Int:=if h:n=0 then[]else((n % 65536:Nat):Int)::dig (n / 65536)
termination_by n
decreasing_by omega
def D16 (l:List Int):Prop:=∀d ∈ l,0≤d∧d<65536
theorem zc0:dig 0=[]:=by rw[dig,dif_pos rfl]
theorem zfi {n:Nat} (h:n≠0):dig n=((n % 65536:Nat):Int)::dig (n / 65536):=by rw[dig,dif_neg h]
theorem zfj:D16 []:=fun d h=>by cases h
theorem zdJ {d:Int} {l:List Int} (h0:0≤d) (h1:d<65536) (hl:D16 l):D16 (d::l):=fun x hx=>by
 rcases List.mem_cons.1 hx with rfl|hx
 ·exact⟨h0,h1⟩
 ·exact hl x hx
theorem zeo {d:Int} {l:List Int} (h:D16 (d::l)):D16 l:=fun x hx=>h x (List.mem_cons_of_mem _ hx)
theorem zeV {l m:List Int} (h:D16 l) (h':D16 m):D16 (l++m):=fun x hx=>by
 rcases List.mem_append.1 hx with hx|hx
 ·exact h x hx
 ·exact h' x hx
theorem zf7 {d:Int} (h0:0≤d) (h1:d<65536):D16 [d]:=zdJ h0 h1 zfj
theorem zb5 {l:List Int} (h:D16 l):0≤val l:=by
 induction l with
 |nil=>exact Int.le_refl _
 |cons d l ih=>
  have:=ih (zeo h)
  have:=h d List.mem_cons_self
  simp only[val]
  omega
theorem zhp {l:List Int} (h:D16 l):val l<65536^l.length:=by
 induction l with
 |nil=>simp [val]
 |cons d l ih=>
  have h1:=ih (zeo h)
  have h2:=h d List.mem_cons_self
  simp only[val,List.length_cons,Int.pow_succ]
  omega
theorem zdi (l m:List Int):val (l++m)=val l+65536^l.length*val m:=by
 induction l with
 |nil=>simp [val]
 |cons d l ih=>
  simp only[List.cons_append,val,ih,List.length_cons,Int.pow_succ,Int.mul_add,←Int.mul_assoc]
  rw[Int.mul_comm 65536 (65536^l.length)]
  omega
theorem zhq (n:Nat):val (List.replicate n 0)=0:=by
 induction n with
 |zero=>rfl
 |succ n ih=>simp [List.replicate_succ,val,ih]
theorem zhr (n:Nat):D16 (List.replicate n 0):=fun d hd=>by
 have:=List.eq_of_mem_replicate hd
 omega
theorem zhs (n:Nat):D16 (dig n):=by
 induction n using Nat.strongRecOn with
 |_ n ih=>
  by_cases h:n=0
  ·rw[h,zc0];exact zfj
  ·rw[zfi h]
   exact zdJ kq1 kq1 (ih _ kq1)
theorem zht (n:Nat):val (dig n)=n:=by
 induction n using Nat.strongRecOn with
 |_ n ih=>
  by_cases h:n=0
  ·rw[h,zc0];rfl
  ·rw[zfi h]
   simp only[val]
   rw[ih _ kq1]
   omega
theorem zjp {l:List Int} (h:D16 l) (hl:l=[]∨∃m d,l=m++[d]∧d≠0):dig (val l).toNat=l:=by
 induction l with
 |nil=>simp [val,zc0]
 |cons d l ih=>
  have h1:=zb5 (zeo h)
  have h2:=h d List.mem_cons_self
  have hl':l=[]∨∃m d,l=m++[d]∧d≠0:=by
   rcases hl with hl|⟨m,e,hl,he⟩
   ·cases hl
   ·cases m with
    |nil=>
     simp at hl
     exact .inl hl.2
    |cons x m=>
     simp at hl
     exact .inr ⟨m,e,hl.2,he⟩
  have f:=ih (zeo h) hl'
  have hne:(val (d::l)).toNat≠0:=by
   simp only[val]
   rcases hl' with hn|hn
   ·subst hn
    rcases hl with hl|⟨m,e,hl,he⟩
    ·cases hl
    ·cases m with
     |nil=>
      simp at hl
      simp only[val]
      omega
     |cons x m=>simp at hl
   ·have:(val l).toNat≠0:=by
     intro hz
     rw[hz,zc0]at f
     obtain⟨m,e,hm,_⟩:=hn
     rw[hm]at f
     simp at f
    omega
  rw[zfi hne]
  have r:((val (d::l)).toNat % 65536:Nat)=d.toNat:=by simp only[val];omega
  have D:(val (d::l)).toNat / 65536=(val l).toNat:=by simp only[val];omega
  rw[r,D,f]
  congr 1
  omega
theorem zi1 (n j:Nat) (h:n<65536^j):(dig n).length≤j:=by
 induction j generalizing n with
 |zero=>
  have:n=0:=by simpa using h
  rw[this,zc0]
  simp
 |succ j ih=>
  by_cases h0:n=0
  ·rw[h0,zc0];simp
  ·rw[zfi h0]
   have:n / 65536<65536^j:=by
    rw[Nat.pow_succ]at h
    exact Nat.div_lt_of_lt_mul (by rw[Nat.mul_comm];exact h)
   have:=ih _ this
   simp
   exact this
def W (z:Int):Bool × List Int:=(decide (z<0),dig z.natAbs)
theorem zf8 {l:List Int} {i:Nat} (h:l.length≤i):rd l (i:Int)=0:=by
 unfold rd
 simp [List.getD_eq_getElem?_getD,h]
theorem zdK {l:List Int} (h:D16 l) (i:Nat):0≤rd l (i:Int)∧rd l (i:Int)<65536:=by
 by_cases hi:i<l.length
 ·rw[zcQ hi]
  exact h _ (List.getElem_mem hi)
 ·rw[zf8 kq1]
  omega
theorem zc1 (l:List Int) (i:Nat):val (l.drop i)=rd l (i:Int)+65536*val (l.drop (i+1)):=by
 by_cases hi:i<l.length
 ·rw[zcQ hi,List.drop_eq_getElem_cons hi]
  rfl
 ·rw[zf8 kq1,List.drop_eq_nil_of_le kq1,List.drop_eq_nil_of_le kq1]
  rfl
theorem zgE (l:List Int) (i:Nat) (hi:i<l.length):val (l.take (i+1))=val (l.take i)+65536^i*rd l (i:Int):=by
 rw[List.take_succ_eq_append_getElem hi,zdi,List.length_take,Nat.min_eq_left kq1,zcQ hi]
 simp [val]
theorem zfD (l:List Int) (i:Nat) (hi:i≤l.length):val l=val (l.take i)+65536^i*val (l.drop i):=by
 have:=zdi (l.take i) (l.drop i)
 rw[List.take_append_drop,List.length_take,Nat.min_eq_left hi]at this
 exact this
theorem zdj {l:List Int} (h:D16 l) (i:Nat):D16 (l.take i):=fun d hd=>h d (List.mem_of_mem_take hd)
theorem zfk {l:List Int} (h:D16 l) (i:Nat):D16 (l.drop i):=fun d hd=>h d (List.mem_of_mem_drop hd)
theorem pow_pos (i:Nat):(0:Int)<65536^i:=Int.pow_pos kq2
theorem zhu {i:Nat} (h:i<9223372036854775808):wrap64 (((i+1:Nat):Int)-1)=i:=by
 rw[show(((i+1:Nat):Int)-1)=i by omega]
 exact zeu h
theorem zcU (s:Bool) (l:List Int) (i:Nat):zar.f s l (i:Int)=some (rd l (i:Int)):=by
 unfold zar.f
 by_cases h:(i:Int)<l.length
 ·rw[if_pos h,if_pos kq1]
 ·rw[if_neg h,zf8 kq1]
theorem zhv (j:Nat) (hj:j≤64) (n:Int) (h0:0≤n) (h1:n<2^j):IntKind.u64.wrap n=n:=by
 refine zci h0 (Int.lt_of_lt_of_le h1 ?_)
 have:(2:Int)^j≤2^64:=by exact_mod_cast Nat.pow_le_pow_right (n:=2) kq2 hj
 simpa using this
theorem zez {n:Int} (h0:0≤n) (h1:n<18446744073709551616):Go.bits .and .u64 n 65535=n % 65536:=
 bits_mask .u64 64 kq2 (fun n h h'=>zhv 64 kq2 n h h') 16 kq2 n h0 (by simpa using h1)
theorem zfE {l:List Int} (hd:D16 l) (s:Bool) (hl:l.length<9223372036854775808) (j:Nat) (hj:j≤l.length) :
 ∀k,j<k→zac.l0 k (j:Int) s l=some (s&&decide (val (l.take j)≠0),dig (val (l.take j)).toNat):=by
 induction j with
 |zero=>
  intro k hk
  obtain⟨k,rfl⟩:∃m,k=m+1:=⟨k-1,kq1⟩
  simp only[zac.l0]
  cases s<;>simp [val,zc0]
 |succ j ih=>
  intro k hk
  obtain⟨k,rfl⟩:∃m,k=m+1:=⟨k-1,kq1⟩
  simp only[zac.l0]
  rw[zhu kq1,if_pos kq1,if_pos kq1,if_pos kq1]
  have hv:=zgE l j kq1
  by_cases h0:rd l (j:Int)=0
  ·rw[if_pos h0,ih kq1 k kq1,hv,h0]
   simp
  ·rw[if_neg h0]
   have h1:=zdK hd j
   have h2:=zb5 (zdj hd j)
   have J:0<65536^j*rd l (j:Int):=Int.mul_pos (pow_pos j) kq1
   have D:val (l.take (j+1))≠0:=by omega
   have G:dig (val (l.take (j+1))).toNat=l.take (j+1):=by
    refine zjp (zdj hd _) (.inr ⟨l.take j,l[j],List.take_succ_eq_append_getElem kq1,?_⟩)
    rw[←zcQ]
    exact h0
   rw[G]
   have I:(((j+1:Nat):Int)).toNat=j+1:=by omega
   have f:(0:Int)≤((j+1:Nat):Int):=by omega
   have r:((j+1:Nat):Int)≤l.length:=by omega
   have L:((j+1:Nat):Int)>0:=by omega
   rw[if_pos f,if_pos r,if_pos f,if_pos r,I]
   cases s<;>simp [D]<;>omega
theorem zcm {l:List Int} (hd:D16 l) (s:Bool) (hl:l.length<9223372036854775808) (k:Nat) (hk:l.length<k) :
 zac.f k s l=some (W (if s=true then -(val l)else val l)):=by
 unfold zac.f
 rw[zfE hd s hl l.length (Nat.le_refl _) k hk,List.take_length]
 have:=zb5 hd
 unfold W
 cases s
 ·simp
  have:¬val l<0:=by omega
  refine⟨kq1,by congr 1;omega⟩
 ·simp
  refine⟨by by_cases h:val l=0<;>simp [h]<;>omega,by congr 1;omega⟩
theorem zdb {a:Int} (ha:In64 a):Ev (fun k=>zaL.f k a) (W a):=by
 refine zee 4 (fun k hk=>?_)
 obtain⟨ha1,ha2⟩:=ha
 unfold zaL.f
 have key:∀n:Int,0≤n→n<18446744073709551616→D16 [Go.bits .and .u64 n 65535,Go.bits .and .u64 (n / 65536) 65535,Go.bits .and .u64 (n / 4294967296) 65535,n / 281474976710656]∧val [Go.bits .and .u64 n 65535,Go.bits .and .u64 (n / 65536) 65535,Go.bits .and .u64 (n / 4294967296) 65535,n / 281474976710656]=n:=by
  intro n h0 h1
  rw[zez h0 h1,zez kq1 kq1,zez kq1 kq1]
  refine⟨zdJ kq1 kq1 (zdJ kq1 kq1 (zdJ kq1 kq1 (zf7 kq1 kq1))),?_⟩
  simp only[val]
  omega
 by_cases h:a<0
 ·rw[if_pos h]
  have e:IntKind.u64.wrap (-(IntKind.u64.wrap a))= -a:=by rw[zif,zif];omega
  rw[e]
  obtain⟨r,D⟩:=key (-a) kq1 kq1
  rw[zcm r _ (by simp) k (by simpa using hk),D]
  simp
 ·rw[if_neg h]
  have e:IntKind.u64.wrap a=a:=by rw[zif];omega
  rw[e]
  obtain⟨r,D⟩:=key a kq1 kq1
  rw[zcm r _ (by simp) k (by simpa using hk),D]
  simp
def Small (z:Int):Prop:=(dig z.natAbs).length<1000000000000
theorem zeW {a:Int} (ha:Small a):Ev (fun k=>zaZ.f k (W a).1 (W a).2) (W (-a)):=by
 refine zee (dig a.natAbs).length (fun k hk=>?_)
 unfold zaZ.f
 unfold Small at ha
 rw[show(W a).2=dig a.natAbs from rfl,zcm (zhs _) _ kq1 k hk,zht]
 have:(if(!(W a).1)=true then -(a.natAbs:Int)else(a.natAbs:Int))= -a:=by
  simp only[W,Bool.not_eq_true',decide_eq_false_iff_not]
  split<;>omega
 rw[this]
 rfl
end Go.Proofs.Ytjknpmibdkoklaa.Q
namespace Go.Proofs.Ytjknpmibdkoklaa.Q
open Go.RowKit Go.Proofs.YtjknpmibdkoklaaW.PrintWords Go.Proofs.YtjknpmibdkoklaaW.PrintLast Go.Proofs.YtjknpmibdkoklaaW.PrintMore
open Aside0 (mk)
open List (setIfInBounds_toArray set_cons_zero set_cons_succ)
attribute [local go_sem] zbw zbz zbP zbQ zbm zbn zbA zbB
set_option linter.unusedVariables false
set_option linter.unusedSimpArgs false
attribute [local go_sem] zbS zbD zbE zbF
mutual
def zap.j0:Nat→Bool→Bool→List Int→Option (Int × Bool)
 |0,_,_,_=>none
 |k+1,x13,x1052000,x1052001=>if x13=true then(some (0,false))else(zap.l0 k 0 (wrap64 ((x1052001.length:Int)-1)) x1052000 x1052001)
def zap.l0:Nat→Int→Int→Bool→List Int→Option (Int × Bool)
 |0,_,_,_,_=>none
 |k+1,x4,x5,x1052000,x1052001=>if x5≥0 then(if 0≤x5 then(if x5<(x1052001.length:Int)then(zap.l0 k (Go.bits .or .u64 (IntKind.u64.wrap (x4*65536)) (rd x1052001 x5)) (wrap64 (x5-1)) x1052000 x1052001)else(none))else(none))else(if x1052000=true then(some (wrap64 (IntKind.u64.wrap (-x4)),true))else(some (wrap64 (x4),true)))
end
def zap.f (k:Nat) (a0_0:Bool) (l0_1:List Int):Option (Int × Bool):=(zaL.f k (-9223372036854775808)).bind fun bt1052=>((zaY.f k a0_0 l0_1 bt1052.1 bt1052.2).bind fun t1056=>(if t1056=true then(zap.j0 k true a0_0 l0_1)else((zaL.f k 9223372036854775807).bind fun bt1057=>((zaY.f k bt1057.1 bt1057.2 a0_0 l0_1).bind fun t1061=>(zap.j0 k t1061 a0_0 l0_1)))))
theorem zap.mono_l:∀k,(∀f D G,LeO (zap.j0 k f D G) (zap.j0 (k+1) f D G))∧(∀f D G I,LeO (zap.l0 k f D G I) (zap.l0 (k+1) f D G I))
 |0=>⟨fun _ _ _ r h=>by simp [zap.j0]at h,fun _ _ _ _ r h=>by simp [zap.l0]at h⟩
 |k+1=>by
  obtain⟨ih0,ih1⟩:=zap.mono_l k
  refine⟨?_,?_⟩<;>intros<;>(first|unfold zap.j0|unfold zap.l0)<;>repeat' first|(with_reducible first|exact ih0 _ _ _|exact ih1 _ _ _ _|exact zaY.mono _ _ _ _ _|exact zaL.mono _ _|exact LeO.refl _|exact LeO.none _|refine LeO.ite ?_ ?_|refine LeO.bind ?_ (fun _=>?_))|exact ih0 _ _ _|exact ih1 _ _ _ _|exact zaY.mono _ _ _ _ _|exact zaL.mono _ _|exact LeO.none _|refine LeO.ite ?_ ?_|refine LeO.bind ?_ (fun _=>?_)
theorem zap.mono:∀a0 r k,LeO (zap.f k a0 r) (zap.f (k+1) a0 r):=by
 intro a0 r k
 obtain⟨ih0,ih1⟩:=zap.mono_l k
 unfold zap.f
 repeat' first
  |(with_reducible exact ih0 _ _ _)
  |(with_reducible exact ih1 _ _ _ _)
  |(with_reducible exact zaY.mono _ _ _ _ _)
  |(with_reducible exact zaL.mono _ _)
  |(with_reducible exact LeO.refl _)
  |(with_reducible exact LeO.none _)
  |(with_reducible refine LeO.ite ?_ ?_)
  |(with_reducible refine LeO.bind ?_ (fun _=>?_))
  |exact ih0 _ _ _
  |exact ih1 _ _ _ _
  |exact zaY.mono _ _ _ _ _
  |exact zaL.mono _ _
  |exact LeO.none _
  |refine LeO.ite ?_ ?_
  |refine LeO.bind ?_ (fun _=>?_)
def zap.T1:Bool × List (List Nat × List Nat):=(true,[([],[]),([],[]),([0,1,1],[0,1]),([2,2],[2]),([3,3],[3]),([3],[3]),([4,5,4,3],[3,4,5]),([3,6],[3,6])])
def zap.B1:List Nat:=[0,0,3,7,15,15,63,127]
theorem zap.tab1:rtab .any (zd3 Try.f168 1)=zap.T1:=by kernel_rfl
theorem zap.bits1:zcl zap.T1.2 zap.B1=true:=by kernel_rfl
set_option maxHeartbeats 8000000 in
theorem zap.calls (k:Nat) (D:Bool) (U:Option Addr) (X:Nat) (l0_1:List Int) (r1:Int) (r2:Bool) (w:World) (aq:Kd.C (Kd.int .u64) w U l0_1.length l0_1) (hc0_1:l0_1.length≤X) (h:zap.f k D l0_1=some (r1,r2)) :
 Calls Try.prog 168 #[.agg #[.bool D,.slice U l0_1.length X]] w fun e w'=>e= .returned (.tuple #[.int .i64 r1,.bool r2])∧Below w.heap.size w w':=by
 have aW:=Try.underlying160
 have ag:=mk aq
 have am:=mk hc0_1
 clear aq hc0_1
 have HB:=mk (Below.refl w.heap.size w)
 have H:((zaL.f k (-9223372036854775808)).bind fun ap=>((zaY.f k D l0_1 ap.1 ap.2).bind fun ac=>(if ac=true then(zap.j0 k true D l0_1)else((zaL.f k 9223372036854775807).bind fun L=>((zaY.f k L.1 L.2 D l0_1).bind fun M=>(zap.j0 k M D l0_1))))))=some (r1,r2):=h
 clear h
 have aG:=mk H
 clear H
 go_enter Try.func168,Try.ntmps168
 go_upto_region 1 with(first|((with_reducible refine zao (N:=1) rfl ?_);refine zal ?hg (N:=1) ?hd (cs:=#[.bool D,.slice U l0_1.length X]) (t:=160) ?hr ?_;(case hd=>rfl);(case hg=>rfl);(case hr=>exact kq21);intro J hg w3 hbox hb;have r:=mk (hbox);have ax:=(gs_ hg kq8);have G:=ax;replace HB:=mk (zaa kq8 hb);clear hb hbox hg))
 (try simp only[Act.put,setIfInBounds_toArray,set_cons_zero,set_cons_succ])
 go_cut [13] (fun aX wc=>∃(kq:Nat) (ah:Bool),aX= .bool ah∧Aside0 (zap.j0 kq ah D l0_1=some (r1,r2))∧Aside0 (kq≤k)∧Aside0 (wc.heap[J]?=some (.cells #[.bool D,(.slice U l0_1.length X)] 160 (0,0)))∧Aside0 (Below w.heap.size w wc))
 case first=>
  have H:=aG.out
  clear aG
  replace H:=Option.bind_eq_some_iff.mp H
  obtain⟨⟨Z,aa⟩,aQ,H⟩:=H
  replace H:((zaY.f k D l0_1 Z aa).bind fun ac=>(if ac=true then(zap.j0 k true D l0_1)else((zaL.f k 9223372036854775807).bind fun L=>((zaY.f k L.1 L.2 D l0_1).bind fun M=>(zap.j0 k M D l0_1)))))=some (r1,r2):=H
  have A4:=mk aQ
  clear aQ
  replace H:=Option.bind_eq_some_iff.mp H
  obtain⟨ac,aT,H⟩:=H
  replace H:(if ac=true then(zap.j0 k true D l0_1)else((zaL.f k 9223372036854775807).bind fun L=>((zaY.f k L.1 L.2 D l0_1).bind fun M=>(zap.j0 k M D l0_1))))=some (r1,r2):=H
  have A5:=mk aT
  clear aT
  by_cases c6:ac=true
  ·subst c6;(have H1:(zap.j0 k true D l0_1)=some (r1,r2):=by rw[if_pos rfl]at H;exact H);clear H;have H:=H1;clear H1;have H':=mk H;clear H;(try go_wp2);replace r:=mk (zaf r.out);replace HB:=mk (zaP HB.out);refine zbv (n:=8) (S:=fun w'=>w'.cell? ⟨J,0,none⟩=some (.bool D)∧w'.cell? ⟨J,1,none⟩=some (.slice U l0_1.length X)) (ds:=[]) #[false,false,false,false,false,false,false,false] kq0 rfl rfl ⟨bk_ r 0,bk_ r 1⟩ (fun hHeld=>?_);refine zbo zap.tab1 zap.bits1 (fun HT_ HW_=>?_);(generalize w3.drew=w7 at r HB hHeld ⊢);refine taT_ 0 6 hHeld ?_
   refine onT_ 1 7 (fun K hK=>?_);refine zbj Try.func133 kq0 rfl #[.int .i64 (-9223372036854775808)] (by rfl) rfl rfl kq10 ?_;(with_reducible refine(zaL.calls k (-9223372036854775808) Z aa _ A4.out).mono ?_);rintro e w8 ⟨aH,rfl,ho0,hb⟩;refine⟨_,rfl,?_⟩;have I:=mk (Kd.V_lower (Kd.V_mono (ok':=fun k_=>k_≠J) ho0 (fun k_ hk_=>(Kd.freshB (g:=J) (o:=.cells #[.bool D,.slice U l0_1.length X] 160 (0,0)) (kq22 r) k_ hk_))) (zad (kq20 G)));replace r:=(bb_ r hb);replace HB:=mk (zaa (kq20 G) hb);((try clear hb));((try clear hb2));((try clear hk));((try clear hi));((try clear ho0));obtain⟨aY,aZ,aU⟩:=Kd.V_slice I.out;((first|subst aU|(injection aU with ak ar al;have au:=ak.symm;have av:=al.symm;clear ak ar al;subst au;subst av)));refine hK.out _ _ ⟨bk_ r 0,bk_ r 1⟩ (fun hHeld=>?_);clear hK K;refine za2 (a':=?_) ?_ ?_;rotate_left
   ·(show Act.put _ (some 7) _=_);simp only[Act.put,setIfInBounds_toArray,set_cons_zero,set_cons_succ,zbi,zbq];rfl
   refine onT_ 2 8 (fun K hK=>?_);refine zbj Try.func188 kq0 rfl #[.agg #[.bool D,.slice U l0_1.length X],.agg #[.bool Z,.slice aY aa.length aZ]] (by rfl) rfl rfl kq10 ?_;(with_reducible refine(zaY.calls k D _ _ l0_1 Z _ _ aa true _ ?side1 ?side2 ?side3 ?side4 A5.out).mono ?_);((case side1=>exact kq25 ag));((case side2=>exact am.out));((case side3=>exact kq38 I));((case side4=>exact(Kd.V_reads' I.out).2.1));rintro e b9 ⟨rfl,hb⟩;refine⟨_,rfl,?_⟩;replace I:=mk (Kd.V_below (kq23 I) hb);replace r:=(bb_ r hb);replace HB:=mk (zaa (kq20 G) hb);((try clear hb));((try clear hb2));((try clear hk));((try clear hi));refine hK.out _ _ ⟨bk_ r 0,bk_ r 1⟩ (fun hHeld=>?_);clear hK K;refine za2 (a':=?_) ?_ ?_;rotate_left
   ·(show Act.put _ (some 8) _=_);simp only[Act.put,setIfInBounds_toArray,set_cons_zero,set_cons_succ,zbi,zbq];rfl
   refine puT_ 3 9 ?_
   refine pvT_ 4 10 ?_
   refine pvT_ 5 11 ?_
   refine pvT_ 6 12 ?_
   refine puT_ 7 13 ?_
   refine zbC (zbR HT_.out kq0) ?_;(try go_wp2);(go_meet)
   case rel=>exact⟨_,(true),kq3,H',⟨kq4⟩,⟨(kq22 r)⟩,⟨(kq20 G)⟩⟩
  ·replace c6:=Bool.eq_false_iff.mpr c6;subst c6;(have H1:((zaL.f k 9223372036854775807).bind fun L=>((zaY.f k L.1 L.2 D l0_1).bind fun M=>(zap.j0 k M D l0_1)))=some (r1,r2):=by rw[if_neg (show ¬(false=true) by decide)]at H;exact H);clear H;have H:=H1;clear H1;replace H:=Option.bind_eq_some_iff.mp H;obtain⟨⟨ai,aj⟩,aA,H⟩:=H;replace H:((zaY.f k ai aj D l0_1).bind fun M=>(zap.j0 k M D l0_1))=some (r1,r2):=H;have b4:=mk aA;clear aA;replace H:=Option.bind_eq_some_iff.mp H;obtain⟨M,aC,H⟩:=H;replace H:(zap.j0 k M D l0_1)=some (r1,r2):=H;have b5:=mk aC;clear aC;have H':=mk H;clear H;(try go_wp2);replace r:=mk (zaf r.out);replace HB:=mk (zaP HB.out);refine zbv (n:=8) (S:=fun w'=>w'.cell? ⟨J,0,none⟩=some (.bool D)∧w'.cell? ⟨J,1,none⟩=some (.slice U l0_1.length X)) (ds:=[]) #[false,false,false,false,false,false,false,false] kq0 rfl rfl ⟨bk_ r 0,bk_ r 1⟩ (fun hHeld=>?_);refine zbo zap.tab1 zap.bits1 (fun HT_ HW_=>?_);(generalize w3.drew=ba at r HB hHeld ⊢);refine taT_ 0 6 hHeld ?_
   refine onT_ 1 7 (fun K hK=>?_);refine zbj Try.func133 kq0 rfl #[.int .i64 (-9223372036854775808)] (by rfl) rfl rfl kq10 ?_;(with_reducible refine(zaL.calls k (-9223372036854775808) Z aa _ A4.out).mono ?_);rintro e bb ⟨aH,rfl,ho0,hb⟩;refine⟨_,rfl,?_⟩;have I:=mk (Kd.V_lower (Kd.V_mono (ok':=fun k_=>k_≠J) ho0 (fun k_ hk_=>(Kd.freshB (g:=J) (o:=.cells #[.bool D,.slice U l0_1.length X] 160 (0,0)) (kq22 r) k_ hk_))) (zad (kq20 G)));replace r:=(bb_ r hb);replace HB:=mk (zaa (kq20 G) hb);((try clear hb));((try clear hb2));((try clear hk));((try clear hi));((try clear ho0));obtain⟨Ao15,co15,aD⟩:=Kd.V_slice I.out;((first|subst aD|(injection aD with ak ar al;have au:=ak.symm;have av:=al.symm;clear ak ar al;subst au;subst av)));refine hK.out _ _ ⟨bk_ r 0,bk_ r 1⟩ (fun hHeld=>?_);clear hK K;refine za2 (a':=?_) ?_ ?_;rotate_left
   ·(show Act.put _ (some 7) _=_);simp only[Act.put,setIfInBounds_toArray,set_cons_zero,set_cons_succ,zbi,zbq];rfl
   refine onT_ 2 8 (fun K hK=>?_);refine zbj Try.func188 kq0 rfl #[.agg #[.bool D,.slice U l0_1.length X],.agg #[.bool Z,.slice Ao15 aa.length co15]] (by rfl) rfl rfl kq10 ?_;(with_reducible refine(zaY.calls k D _ _ l0_1 Z _ _ aa false _ ?side1 ?side2 ?side3 ?side4 A5.out).mono ?_);((case side1=>exact kq25 ag));((case side2=>exact am.out));((case side3=>exact kq38 I));((case side4=>exact(Kd.V_reads' I.out).2.1));rintro e bc ⟨rfl,hb⟩;refine⟨_,rfl,?_⟩;replace I:=mk (Kd.V_below (kq23 I) hb);replace r:=(bb_ r hb);replace HB:=mk (zaa (kq20 G) hb);((try clear hb));((try clear hb2));((try clear hk));((try clear hi));refine hK.out _ _ ⟨bk_ r 0,bk_ r 1⟩ (fun hHeld=>?_);clear hK K;refine za2 (a':=?_) ?_ ?_;rotate_left
   ·(show Act.put _ (some 8) _=_);simp only[Act.put,setIfInBounds_toArray,set_cons_zero,set_cons_succ,zbi,zbq];rfl
   refine puT_ 3 9 ?_
   refine taT_ 5 11 hHeld ?_
   refine onT_ 4 10 (fun K hK=>?_);refine zbj Try.func133 kq0 rfl #[.int .i64 9223372036854775807] (by rfl) rfl rfl kq10 ?_;(with_reducible refine(zaL.calls k 9223372036854775807 ai aj _ b4.out).mono ?_);rintro e bd ⟨b6,rfl,ho0,hb⟩;refine⟨_,rfl,?_⟩;have ab:=mk (Kd.V_lower (Kd.V_mono (ok':=fun k_=>k_≠J) ho0 (fun k_ hk_=>(Kd.freshB (g:=J) (o:=.cells #[.bool D,.slice U l0_1.length X] 160 (0,0)) (kq22 r) k_ hk_))) (zad (kq20 G)));replace I:=mk (Kd.V_below (kq23 I) hb);replace r:=(bb_ r hb);replace HB:=mk (zaa (kq20 G) hb);((try clear hb));((try clear hb2));((try clear hk));((try clear hi));((try clear ho0));obtain⟨Ao18,co18,aE⟩:=Kd.V_slice ab.out;((first|subst aE|(injection aE with ak ar al;have au:=ak.symm;have av:=al.symm;clear ak ar al;subst au;subst av)));refine hK.out _ _ ⟨bk_ r 0,bk_ r 1⟩ (fun hHeld=>?_);clear hK K;refine za2 (a':=?_) ?_ ?_;rotate_left
   ·(show Act.put _ (some 10) _=_);simp only[Act.put,setIfInBounds_toArray,set_cons_zero,set_cons_succ,zbi,zbq];rfl
   refine onT_ 6 12 (fun K hK=>?_);refine zbj Try.func188 kq0 rfl #[.agg #[.bool ai,.slice Ao18 aj.length co18],.agg #[.bool D,.slice U l0_1.length X]] (by rfl) rfl rfl kq10 ?_;(with_reducible refine(zaY.calls k ai _ _ aj D _ _ l0_1 M _ ?side1 ?side2 ?side3 ?side4 b5.out).mono ?_);((case side1=>exact kq38 ab));((case side2=>exact(Kd.V_reads' ab.out).2.1));((case side3=>exact kq25 ag));((case side4=>exact am.out));rintro e be ⟨rfl,hb⟩;refine⟨_,rfl,?_⟩;replace I:=mk (Kd.V_below (kq23 I) hb);replace ab:=mk (Kd.V_below (kq23 ab) hb);replace r:=(bb_ r hb);replace HB:=mk (zaa (kq20 G) hb);((try clear hb));((try clear hb2));((try clear hk));((try clear hi));refine hK.out _ _ ⟨bk_ r 0,bk_ r 1⟩ (fun hHeld=>?_);clear hK K;refine za2 (a':=?_) ?_ ?_;rotate_left
   ·(show Act.put _ (some 12) _=_);simp only[Act.put,setIfInBounds_toArray,set_cons_zero,set_cons_succ,zbi,zbq];rfl
   refine puT_ 7 13 ?_
   refine zbC (zbR HT_.out kq0) ?_;(try go_wp2);(go_meet)
   case rel=>exact⟨_,(M),kq3,H',⟨kq4⟩,⟨(kq22 r)⟩,⟨(kq20 G)⟩⟩
 case rest=>
  clear aG
  obtain⟨kq,ah,rfl,HA,HJ1,r,HB⟩:=hcut
  cases kq with
  |zero=>exact absurd HA.out (by simp [zap.j0])
  |succ aI=>
   have H:=HA.out;clear HA;simp only[zap.j0]at H;(by_cases ay:ah=true)
   ·subst ay;(have H1:(some (0,false))=some (r1,r2):=by rw[if_pos rfl]at H;exact H);clear H;have H:=H1;clear H1;simp only[Option.some.injEq,Prod.mk.injEq]at H;obtain⟨rfl,rfl⟩:=H;go_wp2;go_ret2;exact⟨kq18,(kq20 G)⟩
   ·replace ay:=Bool.eq_false_iff.mpr ay;subst ay;(have H1:(zap.l0 aI 0 (wrap64 ((l0_1.length:Int)-1)) D l0_1)=some (r1,r2):=by rw[if_neg (show ¬(false=true) by decide)]at H;exact H);clear H;have H:=H1;clear H1;have H':=mk H;clear H;obtain⟨_,_,_,_⟩:=cz2_ r.out;go_wp2;(go_loopg [4,5] aI (fun kq v4 v5 w'=>∃(ae:Int) (Y:Int),v4= .int .u64 ae∧v5= .int .i64 Y∧Aside0 (zap.l0 kq ae Y D l0_1=some (r1,r2))∧Aside0 (kq≤aI)∧Aside0 (w'.heap[J]?=some (.cells #[.bool D,(.slice U l0_1.length X)] 160 (0,0)))∧Aside0 (Below w.heap.size w w')))
    case atStart=>exact⟨(0),(wrap64 ((l0_1.length:Int)-1)),kq3,kq3,H',⟨Nat.le_refl _⟩,⟨(kq22 r)⟩,⟨(kq20 G)⟩⟩
    case round=>
     clear H';obtain⟨ae,Y,rfl,rfl,HA,HK2,r,HB⟩:=hrel
     cases gk with
     |zero=>exact absurd HA.out (by simp [zap.l0])
     |succ k2=>
      have H:=HA.out;clear HA;simp only[zap.l0]at H;replace H:=ic_ H;obtain⟨aw,H⟩|⟨aw,H⟩:=H
      ·have aJ:decide (0≤Y)=true:=decide_eq_true aw;clear aw;replace H:=ic_ H;obtain⟨aK,H⟩|⟨aK,H⟩:=H
       ·have b7:=decide_eq_true aK;clear aK;replace H:=ic_ H;obtain⟨aM,H⟩|⟨aM,H⟩:=H
        ·have b8:=decide_eq_true aM;clear aM;have H':=mk H;clear H;obtain⟨_,_,_,_⟩:=cz2_ r.out;have an:0≤(Y:Int):=of_decide_eq_true kq7;have ao:Y<(l0_1.length:Int):=of_decide_eq_true kq7;obtain⟨aV,aN,af⟩:=Kd.at_int ag.out Y an ao;cases aN;replace af:=hc_ HB af;replace an:=eq_true an;replace ao:=eq_true ao;go_wp2;(go_roundg k2)
         case measure=>have:=HJ1.out;have:=HK2.out;omega
         case rel=>exact⟨(Go.bits .or .u64 (IntKind.u64.wrap (ae*65536)) (rd l0_1 Y)),(wrap64 (Y-1)),kq3,kq3,H',⟨by have:=HJ1.out;have:=HK2.out;omega⟩,⟨(kq22 r)⟩,⟨(kq20 G)⟩⟩
        ·exact absurd H (by simp)
       ·exact absurd H (by simp)
      ·have aJ:decide (0≤Y)=false:=decide_eq_false aw;clear aw;(by_cases az:D=true)
       ·subst az;(have H1:(some (wrap64 (IntKind.u64.wrap (-ae)),true))=some (r1,r2):=by rw[if_pos rfl]at H;exact H);clear H;have H:=H1;clear H1;simp only[Option.some.injEq,Prod.mk.injEq]at H;obtain⟨rfl,rfl⟩:=H;obtain⟨_,_,_,_⟩:=cz2_ r.out;go_wp2;go_ret2;exact⟨kq18,(kq20 G)⟩
       ·replace az:=Bool.eq_false_iff.mpr az;subst az;(have H1:(some (wrap64 (ae),true))=some (r1,r2):=by rw[if_neg (show ¬(false=true) by decide)]at H;exact H);clear H;have H:=H1;clear H1;simp only[Option.some.injEq,Prod.mk.injEq]at H;obtain⟨rfl,rfl⟩:=H;obtain⟨_,_,_,_⟩:=cz2_ r.out;go_wp2;go_ret2;exact⟨kq18,(kq20 G)⟩
end Go.Proofs.Ytjknpmibdkoklaa.Q
