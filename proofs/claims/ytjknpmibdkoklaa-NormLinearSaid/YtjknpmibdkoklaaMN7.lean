/- Functions of the given program as Lean functions, each with its contract, and what they answer; words for it. No condition but those of each. -/
import Derived.Test.YtjknpmibdkoklaaMNS
import Derived.Test.YtjknpmibdkoklaaMNR
import Derived.Test.YtjknpmibdkoklaaMN3
import Derived.Test.YtjknpmibdkoklaaMN5
set_option linter.unusedVariables false
set_option linter.unusedSimpArgs false
namespace Go.Proofs.Ytjknpmibdkoklaa.Q
open Go.RowKit Go.Proofs.YtjknpmibdkoklaaW.PrintWords Go.Proofs.YtjknpmibdkoklaaW.PrintLast Go.Proofs.YtjknpmibdkoklaaW.PrintMore
open Aside0 (mk)
open List (setIfInBounds_toArray set_cons_zero set_cons_succ)
attribute [local go_sem] zbw zbz zbP zbQ zbm zbn zbA zbB
set_option linter.unusedVariables false
set_option linter.unusedSimpArgs false
attribute [local go_sem] zbS zbD zbE zbF
def zaH.f (k:Nat) (a0_0 a0_1:Int) (a0_2:ByteArray) (l0_3:List (S66)):Option (Bool):=if a0_0<0 then(some false)else(if a0_0>5 then(some false)else(if a0_0=0 then(if a0_0=1 then((some (([0,0,1,2,2,2]:List Int):List Int)).bind fun y345=>(if 0≤a0_0 then(if a0_0<(y345.length:Int)then(if(l0_3.length:Int)=(rd y345 a0_0)then(if a0_1≥0 then((zaC.f k a0_2).bind fun t349=>(some t349))else(some false))else(some false))else(none))else(none)))else(if a0_2.toList=([]:List UInt8)then((some (([0,0,1,2,2,2]:List Int):List Int)).bind fun y350=>(if 0≤a0_0 then(if a0_0<(y350.length:Int)then(if(l0_3.length:Int)=(rd y350 a0_0)then(if a0_1≥0 then(some true)else(some false))else(some false))else(none))else(none)))else(some false)))else(if a0_1=0 then(if a0_0=1 then((some (([0,0,1,2,2,2]:List Int):List Int)).bind fun y354=>(if 0≤a0_0 then(if a0_0<(y354.length:Int)then(if(l0_3.length:Int)=(rd y354 a0_0)then(if a0_1≥0 then((zaC.f k a0_2).bind fun t358=>(some t358))else(some false))else(some false))else(none))else(none)))else(if a0_2.toList=([]:List UInt8)then((some (([0,0,1,2,2,2]:List Int):List Int)).bind fun y359=>(if 0≤a0_0 then(if a0_0<(y359.length:Int)then(if(l0_3.length:Int)=(rd y359 a0_0)then(if a0_1≥0 then(some true)else(some false))else(some false))else(none))else(none)))else(some false)))else(some false))))
theorem zaH.mono:∀a0 r D a3 k,LeO (zaH.f k a0 r D a3) (zaH.f (k+1) a0 r D a3):=by
 intro a0 r D a3 k
 unfold zaH.f
 repeat' first
  |(with_reducible exact zaC.mono _ _)
  |(with_reducible exact LeO.refl _)
  |(with_reducible exact LeO.none _)
  |(with_reducible refine LeO.ite ?_ ?_)
  |(with_reducible refine LeO.bind ?_ (fun _=>?_))
  |exact zaC.mono _ _
  |exact LeO.none _
  |refine LeO.ite ?_ ?_
  |refine LeO.bind ?_ (fun _=>?_)
def zaH.T5:Bool × List (List Nat × List Nat):=(true,[([],[]),([0],[0]),([1],[1]),([],[]),([],[]),([3,4],[3,4]),([5],[5]),([2,6],[2,6]),([7],[7]),([8],[8]),([9,8],[8,9]),([10,8],[8,10]),([8,11],[8,11]),([12,8],[12]),([13],[13]),([14,13],[13,14]),([15,13,13],[13,15]),([16],[16]),([17,16],[16,17]),([18,16,16],[16,18]),([16,19,13],[13,16,19]),([13,20],[13,20]),([21,19,0,1,2,3,4,5,6,7,8,9,10,11,12,13,14,15,16,17,18,19,20,21],[21])])
def zaH.B5:List Nat:=[0,1,3,0,0,24,56,127,255,511,1023,2047,4095,8191,16383,32767,65535,131071,262143,524287,1048575,2097151,4194303]
theorem zaH.tab5:rtab .any (zd3 Try.f166 5)=zaH.T5:=by kernel_rfl
theorem zaH.bits5:zcl zaH.T5.2 zaH.B5=true:=by kernel_rfl
set_option maxHeartbeats 8000000 in
set_option maxRecDepth 100000 in
theorem zaH.calls (k:Nat) (G a0_1:Int) (a0_2:ByteArray) (Y:Option Addr) (Z:Nat) (U:List (S66)) (r:Bool) (w:World) (aN:Kd.C k66 w Y U.length U) (hc0_3:U.length≤Z) (h:zaH.f k G a0_1 a0_2 U=some r) :
 Calls Try.prog 166 #[.agg #[.int .i64 G,.int .i64 a0_1,.string a0_2,.slice Y U.length Z]] w fun e w'=>e= .returned (.bool r)∧Below w.heap.size w w':=by
 have cF:=Try.underlying66
 have cd:=mk aN
 have ce:=mk hc0_3
 clear aN hc0_3
 have HB:=mk (Below.refl w.heap.size w)
 have H:(if G<0 then(some false)else(if G>5 then(some false)else(if G=0 then(if G=1 then((some (([0,0,1,2,2,2]:List Int):List Int)).bind fun aH=>(if 0≤G then(if G<(aH.length:Int)then(if(U.length:Int)=(rd aH G)then(if a0_1≥0 then((zaC.f k a0_2).bind fun aI=>(some aI))else(some false))else(some false))else(none))else(none)))else(if a0_2.toList=([]:List UInt8)then((some (([0,0,1,2,2,2]:List Int):List Int)).bind fun ai=>(if 0≤G then(if G<(ai.length:Int)then(if(U.length:Int)=(rd ai G)then(if a0_1≥0 then(some true)else(some false))else(some false))else(none))else(none)))else(some false)))else(if a0_1=0 then(if G=1 then((some (([0,0,1,2,2,2]:List Int):List Int)).bind fun aj=>(if 0≤G then(if G<(aj.length:Int)then(if(U.length:Int)=(rd aj G)then(if a0_1≥0 then((zaC.f k a0_2).bind fun aG=>(some aG))else(some false))else(some false))else(none))else(none)))else(if a0_2.toList=([]:List UInt8)then((some (([0,0,1,2,2,2]:List Int):List Int)).bind fun ak=>(if 0≤G then(if G<(ak.length:Int)then(if(U.length:Int)=(rd ak G)then(if a0_1≥0 then(some true)else(some false))else(some false))else(none))else(none)))else(some false)))else(some false)))))=some r:=h
 clear h
 by_cases c2:G<0
 ·rw[if_pos c2]at H
  have bS:decide (G<0)=true:=decide_eq_true c2
  clear c2
  obtain rfl:=Option.some.inj H
  go_enter Try.func166,Try.ntmps166
  go_wp2_with (first|((with_reducible refine zao (N:=1) rfl ?_);refine zal ?hg (N:=1) ?hd (cs:=#[.int .i64 G,.int .i64 a0_1,.string a0_2,.slice Y U.length Z]) (t:=66) ?hr ?_;(case hd=>rfl);(case hg=>rfl);(case hr=>exact kq21);intro I hg w3 hbox hb;have D:=mk (hbox);have L:=(gs_ hg kq8);have J:=L;replace HB:=mk (zaa kq8 hb);clear hb hbox hg;obtain⟨_,_,_,_,_,_,_,_⟩:=cz4_ D.out))
  go_ret
  exact⟨kq18,(kq20 J)⟩
 ·rw[if_neg c2]at H
  have bS:decide (G<0)=false:=decide_eq_false c2
  clear c2
  replace H:=ic_ H;obtain⟨c5,H⟩|⟨c5,H⟩:=H
  ·have bT:decide (5<G)=true:=decide_eq_true c5;clear c5;obtain rfl:=Option.some.inj H;(go_enter Try.func166,Try.ntmps166);(go_wp2_with (first|((with_reducible refine zao (N:=1) rfl ?_);refine zal ?hg (N:=1) ?hd (cs:=#[.int .i64 G,.int .i64 a0_1,.string a0_2,.slice Y U.length Z]) (t:=66) ?hr ?_;(case hd=>rfl);(case hg=>rfl);(case hr=>exact kq21);intro I hg w6 hbox hb;have D:=mk (hbox);have L:=(gs_ hg kq8);have J:=L;replace HB:=mk (zaa kq8 hb);clear hb hbox hg;obtain⟨_,_,_,_,_,_,_,_⟩:=cz4_ D.out)));go_ret;exact⟨kq18,(kq20 J)⟩
  ·have bT:decide (5<G)=false:=decide_eq_false c5;clear c5;replace H:=ic_ H;obtain⟨c8,H⟩|⟨c8,H⟩:=H
   ·obtain⟨bU,bV⟩:=eTn_ c8;clear c8;replace H:=ic_ H;obtain⟨c9,H⟩|⟨c9,H⟩:=H
    ·obtain⟨bW,bX⟩:=eTn_ c9;clear c9;obtain⟨aH,ax⟩:∃y_:List Int,y_=(([0,0,1,2,2,2]:List Int)):=⟨_,rfl⟩;(replace H:(if 0≤G then(if G<(aH.length:Int)then(if(U.length:Int)=(rd aH G)then(if a0_1≥0 then((zaC.f k a0_2).bind fun aI=>(some aI))else(some false))else(some false))else(none))else(none))=some r:=by first|(rw[ax];with_reducible exact H)|(have aw:=(Option.bind_some _ _).symm.trans H;rw[ax];with_reducible exact aw)|(have aw:=(Option.bind_some _ _).symm.trans H;with_reducible exact aw)|with_reducible exact H|(rw[ax];exact H)|exact H);have Ny345:=mk ax;clear ax;replace H:=ic_ H;obtain⟨bn,H⟩|⟨bn,H⟩:=H
     ·have cg:=decide_eq_true bn;clear bn;replace H:=ic_ H;obtain⟨bo,H⟩|⟨bo,H⟩:=H
      ·have ch:=decide_eq_true bo;clear bo;replace H:=ic_ H;obtain⟨aY,H⟩|⟨aY,H⟩:=H
       ·obtain⟨bp,br⟩:=eTn_ aY;clear aY;replace H:=ic_ H;obtain⟨aQ,H⟩|⟨aQ,H⟩:=H
        ·have bs:decide (0≤a0_1)=true:=decide_eq_true aQ;clear aQ;replace H:=Option.bind_eq_some_iff.mp H;obtain⟨aI,ba,H⟩:=H;replace H:(some aI)=some r:=H;have cV:=mk ba;clear ba;(exfalso;simp only[beq_iff_eq,bne_iff_ne,beq_eq_false_iff_ne,bne_eq_false_iff_eq,ne_eq]at *;omega)
        ·have bs:decide (0≤a0_1)=false:=decide_eq_false aQ;clear aQ;(exfalso;simp only[beq_iff_eq,bne_iff_ne,beq_eq_false_iff_ne,bne_eq_false_iff_eq,ne_eq]at *;omega)
       ·obtain⟨bp,br⟩:=eFn_ aY;(exfalso;simp only[beq_iff_eq,bne_iff_ne,beq_eq_false_iff_ne,bne_eq_false_iff_eq,ne_eq]at *;omega)
      ·exact absurd H (by simp)
     ·exact absurd H (by simp)
    ·obtain⟨bW,bX⟩:=eFn_ c9;replace H:=ic_ H;obtain⟨aZ,H⟩|⟨aZ,H⟩:=H
     ·obtain⟨bu,bv⟩:=eTn_ aZ;clear aZ;obtain⟨ai,ay⟩:∃y_:List Int,y_=(([0,0,1,2,2,2]:List Int)):=⟨_,rfl⟩;(replace H:(if 0≤G then(if G<(ai.length:Int)then(if(U.length:Int)=(rd ai G)then(if a0_1≥0 then(some true)else(some false))else(some false))else(none))else(none))=some r:=by first|(rw[ay];with_reducible exact H)|(have aw:=(Option.bind_some _ _).symm.trans H;rw[ay];with_reducible exact aw)|(have aw:=(Option.bind_some _ _).symm.trans H;with_reducible exact aw)|with_reducible exact H|(rw[ay];exact H)|exact H);have Ny350:=mk ay;clear ay;replace H:=ic_ H;obtain⟨bw,H⟩|⟨bw,H⟩:=H
      ·have ci:=decide_eq_true bw;clear bw;replace H:=ic_ H;obtain⟨bx,H⟩|⟨bx,H⟩:=H
       ·have cj:=decide_eq_true bx;clear bx;replace H:=ic_ H;obtain⟨b4,H⟩|⟨b4,H⟩:=H
        ·obtain⟨bz,bA⟩:=eTn_ b4;clear b4;replace H:=ic_ H;obtain⟨aT,H⟩|⟨aT,H⟩:=H
         ·have bB:decide (0≤a0_1)=true:=decide_eq_true aT;clear aT;obtain rfl:=Option.some.inj H;(go_enter Try.func166,Try.ntmps166);(try go_wp2_with (first|((with_reducible refine zao (N:=1) rfl ?_);refine zal ?hg (N:=1) ?hd (cs:=#[.int .i64 G,.int .i64 a0_1,.string a0_2,.slice Y U.length Z]) (t:=66) ?hr ?_;(case hd=>rfl);(case hg=>rfl);(case hr=>exact kq21);intro I hg cW hbox hb;have D:=mk (hbox);have L:=(gs_ hg kq8);have J:=L;replace HB:=mk (zaa kq8 hb);clear hb hbox hg;obtain⟨_,_,_,_,_,_,_,_⟩:=cz4_ D.out)|((with_reducible refine zao (N:=31) rfl ?_);refine Kd.R_lit (Kd.int .i64) _ 3 ?hg (N:=31) ?hd (xs:=([0,0,1,2,2,2]:List Int)) (inner:=[.int .i64 0,.int .i64 0,.int .i64 1,.int .i64 2,.int .i64 2,.int .i64 2]) (ok:=fun _=>True) (okp:=fun _=>True) ?hr ?hp (fun _ hk=>hk) trivial (Below.refl _ _) (Nat.le_refl _) (by simp) ?_;(case hd=>rfl);(case hg=>rfl);(case hr=>exact kq21);(case hp=>exact(Reps.one (show Kd.M (Kd.int .i64) _ _ _ 0 [.int .i64 0]from rfl) (Reps.one (show Kd.M (Kd.int .i64) _ _ _ 0 [.int .i64 0]from rfl) (Reps.one (show Kd.M (Kd.int .i64) _ _ _ 1 [.int .i64 1]from rfl) (Reps.one (show Kd.M (Kd.int .i64) _ _ _ 2 [.int .i64 2]from rfl) (Reps.one (show Kd.M (Kd.int .i64) _ _ _ 2 [.int .i64 2]from rfl) (Reps.one (show Kd.M (Kd.int .i64) _ _ _ 2 [.int .i64 2]from rfl) (Reps.none _ _))))))));intro bb ck ho42 hb hg_ hnew_;clear hg_ hnew_;(first|rw[←Ny350.out]at ho42|(simp only[Int.reduceToNat]at ho42;rw[←Ny350.out]at ho42));have aa:=mk (Kd.R_lower ho42 (zad (kq20 J)));replace D:=(bb_ D hb);replace HB:=mk (zaa (kq20 J) hb);clear hb ho42)));replace aa:=mk (Kd.R_drew aa.out);replace D:=mk (zaf D.out);replace HB:=mk (zaP HB.out);obtain⟨cG,cH,bc⟩:=Kd.R_slice aa.out;((first|subst bc|(injection bc with ac al ae;have am:=ac.symm;have an:=ae.symm;clear ac al ae;subst am;subst an)));have ao:0≤(G:Int):=of_decide_eq_true kq7;have ap:G<(ai.length:Int):=of_decide_eq_true kq7;obtain⟨az,aJ,af⟩:=Kd.at_int (Kd.R_reads' aa.out).2.2 G ao ap;cases aJ;replace ao:=eq_true ao;replace ap:=eq_true ap;refine zbv (n:=23) (S:=fun w'=>w'.cell? ⟨I,0,none⟩=some (.int .i64 G)∧w'.cell? ⟨I,1,none⟩=some (.int .i64 a0_1)∧w'.cell? ⟨I,2,none⟩=some (.string a0_2)∧w'.cell? ⟨I,3,none⟩=some (.slice Y U.length Z)∧w'.cell? (az.add (G).toNat)=some (.int .i64 (rd ai G))) (ds:=[]) #[false,false,false,false,false,false,false,false,false,false,false,false,false,false,false,false,false,false,false,false,false,false,false] kq0 rfl rfl ⟨bk_ D 0,bk_ D 1,bk_ D 2,bk_ D 3,af⟩ (fun hHeld=>?_);refine zbo zaH.tab5 zaH.bits5 (fun HT_ HW_=>?_);(generalize ck.drew=cX at aa D HB af hHeld ⊢);refine puT_ 0 32 ?_
          refine puT_ 3 35 ?_
          refine puT_ 4 36 ?_
          refine puT_ 5 37 ?_
          refine taT_ 1 33 hHeld ?_
          refine puT_ 2 34 ?_
          refine taT_ 6 38 hHeld ?_
          refine puT_ 7 39 ?_
          refine puT_ 8 40 ?_
          refine puT_ 9 41 ?_
          refine taT_ 10 42 hHeld ?_
          refine puT_ 11 43 ?_
          refine puT_ 12 44 ?_
          refine puT_ 13 45 ?_
          refine puT_ 14 46 ?_
          refine puT_ 15 47 ?_
          refine puT_ 16 48 ?_
          refine pvT_ 17 49 ?_
          refine pvT_ 18 50 ?_
          refine pvT_ 19 51 ?_
          refine puT_ 20 52 ?_
          refine puT_ 21 53 ?_
          refine puT_ 22 2 ?_
          refine zbC (zbR HT_.out kq0) ?_;(try go_wp2);go_ret;exact⟨kq18,(kq20 J)⟩
         ·have bB:decide (0≤a0_1)=false:=decide_eq_false aT;clear aT;obtain rfl:=Option.some.inj H;(go_enter Try.func166,Try.ntmps166);(try go_wp2_with (first|((with_reducible refine zao (N:=1) rfl ?_);refine zal ?hg (N:=1) ?hd (cs:=#[.int .i64 G,.int .i64 a0_1,.string a0_2,.slice Y U.length Z]) (t:=66) ?hr ?_;(case hd=>rfl);(case hg=>rfl);(case hr=>exact kq21);intro I hg cY hbox hb;have D:=mk (hbox);have L:=(gs_ hg kq8);have J:=L;replace HB:=mk (zaa kq8 hb);clear hb hbox hg;obtain⟨_,_,_,_,_,_,_,_⟩:=cz4_ D.out)|((with_reducible refine zao (N:=31) rfl ?_);refine Kd.R_lit (Kd.int .i64) _ 3 ?hg (N:=31) ?hd (xs:=([0,0,1,2,2,2]:List Int)) (inner:=[.int .i64 0,.int .i64 0,.int .i64 1,.int .i64 2,.int .i64 2,.int .i64 2]) (ok:=fun _=>True) (okp:=fun _=>True) ?hr ?hp (fun _ hk=>hk) trivial (Below.refl _ _) (Nat.le_refl _) (by simp) ?_;(case hd=>rfl);(case hg=>rfl);(case hr=>exact kq21);(case hp=>exact(Reps.one (show Kd.M (Kd.int .i64) _ _ _ 0 [.int .i64 0]from rfl) (Reps.one (show Kd.M (Kd.int .i64) _ _ _ 0 [.int .i64 0]from rfl) (Reps.one (show Kd.M (Kd.int .i64) _ _ _ 1 [.int .i64 1]from rfl) (Reps.one (show Kd.M (Kd.int .i64) _ _ _ 2 [.int .i64 2]from rfl) (Reps.one (show Kd.M (Kd.int .i64) _ _ _ 2 [.int .i64 2]from rfl) (Reps.one (show Kd.M (Kd.int .i64) _ _ _ 2 [.int .i64 2]from rfl) (Reps.none _ _))))))));intro bb cm ho48 hb hg_ hnew_;clear hg_ hnew_;(first|rw[←Ny350.out]at ho48|(simp only[Int.reduceToNat]at ho48;rw[←Ny350.out]at ho48));have aa:=mk (Kd.R_lower ho48 (zad (kq20 J)));replace D:=(bb_ D hb);replace HB:=mk (zaa (kq20 J) hb);clear hb ho48)));replace aa:=mk (Kd.R_drew aa.out);replace D:=mk (zaf D.out);replace HB:=mk (zaP HB.out);obtain⟨Ao50,co50,bd⟩:=Kd.R_slice aa.out;((first|subst bd|(injection bd with ac al ae;have am:=ac.symm;have an:=ae.symm;clear ac al ae;subst am;subst an)));have ao:0≤(G:Int):=of_decide_eq_true kq7;have ap:G<(ai.length:Int):=of_decide_eq_true kq7;obtain⟨az,aJ,af⟩:=Kd.at_int (Kd.R_reads' aa.out).2.2 G ao ap;cases aJ;replace ao:=eq_true ao;replace ap:=eq_true ap;refine zbv (n:=23) (S:=fun w'=>w'.cell? ⟨I,0,none⟩=some (.int .i64 G)∧w'.cell? ⟨I,1,none⟩=some (.int .i64 a0_1)∧w'.cell? ⟨I,2,none⟩=some (.string a0_2)∧w'.cell? ⟨I,3,none⟩=some (.slice Y U.length Z)∧w'.cell? (az.add (G).toNat)=some (.int .i64 (rd ai G))) (ds:=[]) #[false,false,false,false,false,false,false,false,false,false,false,false,false,false,false,false,false,false,false,false,false,false,false] kq0 rfl rfl ⟨bk_ D 0,bk_ D 1,bk_ D 2,bk_ D 3,af⟩ (fun hHeld=>?_);refine zbo zaH.tab5 zaH.bits5 (fun HT_ HW_=>?_);(generalize cm.drew=cZ at aa D HB af hHeld ⊢);refine puT_ 0 32 ?_
          refine puT_ 3 35 ?_
          refine puT_ 4 36 ?_
          refine puT_ 5 37 ?_
          refine taT_ 1 33 hHeld ?_
          refine puT_ 2 34 ?_
          refine taT_ 6 38 hHeld ?_
          refine puT_ 7 39 ?_
          refine puT_ 8 40 ?_
          refine puT_ 9 41 ?_
          refine taT_ 10 42 hHeld ?_
          refine puT_ 11 43 ?_
          refine puT_ 12 44 ?_
          refine puT_ 13 45 ?_
          refine pvT_ 14 46 ?_
          refine pvT_ 15 47 ?_
          refine pvT_ 16 48 ?_
          refine pvT_ 17 49 ?_
          refine pvT_ 18 50 ?_
          refine pvT_ 19 51 ?_
          refine pvT_ 20 52 ?_
          refine puT_ 21 53 ?_
          refine puT_ 22 2 ?_
          refine zbC (zbR HT_.out kq0) ?_;(try go_wp2);go_ret;exact⟨kq18,(kq20 J)⟩
        ·obtain⟨bz,bA⟩:=eFn_ b4;obtain rfl:=Option.some.inj H;(go_enter Try.func166,Try.ntmps166);(try go_wp2_with (first|((with_reducible refine zao (N:=1) rfl ?_);refine zal ?hg (N:=1) ?hd (cs:=#[.int .i64 G,.int .i64 a0_1,.string a0_2,.slice Y U.length Z]) (t:=66) ?hr ?_;(case hd=>rfl);(case hg=>rfl);(case hr=>exact kq21);intro I hg d3 hbox hb;have D:=mk (hbox);have L:=(gs_ hg kq8);have J:=L;replace HB:=mk (zaa kq8 hb);clear hb hbox hg;obtain⟨_,_,_,_,_,_,_,_⟩:=cz4_ D.out)|((with_reducible refine zao (N:=31) rfl ?_);refine Kd.R_lit (Kd.int .i64) _ 3 ?hg (N:=31) ?hd (xs:=([0,0,1,2,2,2]:List Int)) (inner:=[.int .i64 0,.int .i64 0,.int .i64 1,.int .i64 2,.int .i64 2,.int .i64 2]) (ok:=fun _=>True) (okp:=fun _=>True) ?hr ?hp (fun _ hk=>hk) trivial (Below.refl _ _) (Nat.le_refl _) (by simp) ?_;(case hd=>rfl);(case hg=>rfl);(case hr=>exact kq21);(case hp=>exact(Reps.one (show Kd.M (Kd.int .i64) _ _ _ 0 [.int .i64 0]from rfl) (Reps.one (show Kd.M (Kd.int .i64) _ _ _ 0 [.int .i64 0]from rfl) (Reps.one (show Kd.M (Kd.int .i64) _ _ _ 1 [.int .i64 1]from rfl) (Reps.one (show Kd.M (Kd.int .i64) _ _ _ 2 [.int .i64 2]from rfl) (Reps.one (show Kd.M (Kd.int .i64) _ _ _ 2 [.int .i64 2]from rfl) (Reps.one (show Kd.M (Kd.int .i64) _ _ _ 2 [.int .i64 2]from rfl) (Reps.none _ _))))))));intro bb co ho54 hb hg_ hnew_;clear hg_ hnew_;(first|rw[←Ny350.out]at ho54|(simp only[Int.reduceToNat]at ho54;rw[←Ny350.out]at ho54));have aa:=mk (Kd.R_lower ho54 (zad (kq20 J)));replace D:=(bb_ D hb);replace HB:=mk (zaa (kq20 J) hb);clear hb ho54)));replace aa:=mk (Kd.R_drew aa.out);replace D:=mk (zaf D.out);replace HB:=mk (zaP HB.out);obtain⟨Ao56,co56,be⟩:=Kd.R_slice aa.out;((first|subst be|(injection be with ac al ae;have am:=ac.symm;have an:=ae.symm;clear ac al ae;subst am;subst an)));have ao:0≤(G:Int):=of_decide_eq_true kq7;have ap:G<(ai.length:Int):=of_decide_eq_true kq7;obtain⟨az,aJ,af⟩:=Kd.at_int (Kd.R_reads' aa.out).2.2 G ao ap;cases aJ;replace ao:=eq_true ao;replace ap:=eq_true ap;refine zbv (n:=23) (S:=fun w'=>w'.cell? ⟨I,0,none⟩=some (.int .i64 G)∧w'.cell? ⟨I,1,none⟩=some (.int .i64 a0_1)∧w'.cell? ⟨I,2,none⟩=some (.string a0_2)∧w'.cell? ⟨I,3,none⟩=some (.slice Y U.length Z)∧w'.cell? (az.add (G).toNat)=some (.int .i64 (rd ai G))) (ds:=[]) #[false,false,false,false,false,false,false,false,false,false,false,false,false,false,false,false,false,false,false,false,false,false,false] kq0 rfl rfl ⟨bk_ D 0,bk_ D 1,bk_ D 2,bk_ D 3,af⟩ (fun hHeld=>?_);refine zbo zaH.tab5 zaH.bits5 (fun HT_ HW_=>?_);(generalize co.drew=d4 at aa D HB af hHeld ⊢);refine puT_ 0 32 ?_
         refine puT_ 3 35 ?_
         refine puT_ 4 36 ?_
         refine puT_ 5 37 ?_
         refine taT_ 1 33 hHeld ?_
         refine puT_ 2 34 ?_
         refine taT_ 6 38 hHeld ?_
         refine puT_ 7 39 ?_
         refine puT_ 8 40 ?_
         refine pvT_ 9 41 ?_
         refine pvT_ 10 42 ?_
         refine pvT_ 11 43 ?_
         refine puT_ 12 44 ?_
         refine puT_ 13 45 ?_
         refine pvT_ 14 46 ?_
         refine pvT_ 15 47 ?_
         refine pvT_ 16 48 ?_
         refine pvT_ 17 49 ?_
         refine pvT_ 18 50 ?_
         refine pvT_ 19 51 ?_
         refine pvT_ 20 52 ?_
         refine puT_ 21 53 ?_
         refine puT_ 22 2 ?_
         refine zbC (zbR HT_.out kq0) ?_;(try go_wp2);go_ret;exact⟨kq18,(kq20 J)⟩
       ·exact absurd H (by simp)
      ·exact absurd H (by simp)
     ·obtain⟨bu,bv⟩:=eFn_ aZ;obtain rfl:=Option.some.inj H;(go_enter Try.func166,Try.ntmps166);(go_wp2_with (first|((with_reducible refine zao (N:=1) rfl ?_);refine zal ?hg (N:=1) ?hd (cs:=#[.int .i64 G,.int .i64 a0_1,.string a0_2,.slice Y U.length Z]) (t:=66) ?hr ?_;(case hd=>rfl);(case hg=>rfl);(case hr=>exact kq21);intro I hg d5 hbox hb;have D:=mk (hbox);have L:=(gs_ hg kq8);have J:=L;replace HB:=mk (zaa kq8 hb);clear hb hbox hg;obtain⟨_,_,_,_,_,_,_,_⟩:=cz4_ D.out)));go_ret;exact⟨kq18,(kq20 J)⟩
   ·obtain⟨bU,bV⟩:=eFn_ c8;replace H:=ic_ H;obtain⟨b5,H⟩|⟨b5,H⟩:=H
    ·obtain⟨bC,bD⟩:=eTn_ b5;clear b5;replace H:=ic_ H;obtain⟨b6,H⟩|⟨b6,H⟩:=H
     ·obtain⟨bE,bF⟩:=eTn_ b6;clear b6;obtain⟨aj,aA⟩:∃y_:List Int,y_=(([0,0,1,2,2,2]:List Int)):=⟨_,rfl⟩;(replace H:(if 0≤G then(if G<(aj.length:Int)then(if(U.length:Int)=(rd aj G)then(if a0_1≥0 then((zaC.f k a0_2).bind fun aG=>(some aG))else(some false))else(some false))else(none))else(none))=some r:=by first|(rw[aA];with_reducible exact H)|(have aw:=(Option.bind_some _ _).symm.trans H;rw[aA];with_reducible exact aw)|(have aw:=(Option.bind_some _ _).symm.trans H;with_reducible exact aw)|with_reducible exact H|(rw[aA];exact H)|exact H);have Ny354:=mk aA;clear aA;replace H:=ic_ H;obtain⟨bG,H⟩|⟨bG,H⟩:=H
      ·have cp:=decide_eq_true bG;clear bG;replace H:=ic_ H;obtain⟨bH,H⟩|⟨bH,H⟩:=H
       ·have cq:=decide_eq_true bH;clear bH;replace H:=ic_ H;obtain⟨b7,H⟩|⟨b7,H⟩:=H
        ·obtain⟨bI,bJ⟩:=eTn_ b7;clear b7;replace H:=ic_ H;obtain⟨aU,H⟩|⟨aU,H⟩:=H
         ·have bK:decide (0≤a0_1)=true:=decide_eq_true aU;clear aU;replace H:=Option.bind_eq_some_iff.mp H;obtain⟨aG,bf,H⟩:=H;replace H:(some aG)=some r:=H;have cr:=mk bf;clear bf;obtain rfl:=Option.some.inj H;(go_enter Try.func166,Try.ntmps166);(try go_wp2_with (first|((with_reducible refine zao (N:=1) rfl ?_);refine zal ?hg (N:=1) ?hd (cs:=#[.int .i64 G,.int .i64 a0_1,.string a0_2,.slice Y U.length Z]) (t:=66) ?hr ?_;(case hd=>rfl);(case hg=>rfl);(case hr=>exact kq21);intro I hg d6 hbox hb;have D:=mk (hbox);have L:=(gs_ hg kq8);have J:=L;replace HB:=mk (zaa kq8 hb);clear hb hbox hg;obtain⟨_,_,_,_,_,_,_,_⟩:=cz4_ D.out)|((with_reducible refine zao (N:=31) rfl ?_);refine Kd.R_lit (Kd.int .i64) _ 3 ?hg (N:=31) ?hd (xs:=([0,0,1,2,2,2]:List Int)) (inner:=[.int .i64 0,.int .i64 0,.int .i64 1,.int .i64 2,.int .i64 2,.int .i64 2]) (ok:=fun _=>True) (okp:=fun _=>True) ?hr ?hp (fun _ hk=>hk) trivial (Below.refl _ _) (Nat.le_refl _) (by simp) ?_;(case hd=>rfl);(case hg=>rfl);(case hr=>exact kq21);(case hp=>exact(Reps.one (show Kd.M (Kd.int .i64) _ _ _ 0 [.int .i64 0]from rfl) (Reps.one (show Kd.M (Kd.int .i64) _ _ _ 0 [.int .i64 0]from rfl) (Reps.one (show Kd.M (Kd.int .i64) _ _ _ 1 [.int .i64 1]from rfl) (Reps.one (show Kd.M (Kd.int .i64) _ _ _ 2 [.int .i64 2]from rfl) (Reps.one (show Kd.M (Kd.int .i64) _ _ _ 2 [.int .i64 2]from rfl) (Reps.one (show Kd.M (Kd.int .i64) _ _ _ 2 [.int .i64 2]from rfl) (Reps.none _ _))))))));intro bg ct ho69 hb hg_ hnew_;clear hg_ hnew_;(first|rw[←Ny354.out]at ho69|(simp only[Int.reduceToNat]at ho69;rw[←Ny354.out]at ho69));have X:=mk (Kd.R_lower ho69 (zad (kq20 J)));replace D:=(bb_ D hb);replace HB:=mk (zaa (kq20 J) hb);clear hb ho69)));replace X:=mk (Kd.R_drew X.out);replace D:=mk (zaf D.out);replace HB:=mk (zaP HB.out);obtain⟨cI,cJ,bh⟩:=Kd.R_slice X.out;((first|subst bh|(injection bh with ac al ae;have am:=ac.symm;have an:=ae.symm;clear ac al ae;subst am;subst an)));have aq:0≤(G:Int):=of_decide_eq_true kq7;have ar:G<(aj.length:Int):=of_decide_eq_true kq7;obtain⟨aC,aK,ag⟩:=Kd.at_int (Kd.R_reads' X.out).2.2 G aq ar;cases aK;replace aq:=eq_true aq;replace ar:=eq_true ar;refine zbv (n:=23) (S:=fun w'=>w'.cell? ⟨I,0,none⟩=some (.int .i64 G)∧w'.cell? ⟨I,1,none⟩=some (.int .i64 a0_1)∧w'.cell? ⟨I,2,none⟩=some (.string a0_2)∧w'.cell? ⟨I,3,none⟩=some (.slice Y U.length Z)∧w'.cell? (aC.add (G).toNat)=some (.int .i64 (rd aj G))) (ds:=[]) #[false,false,false,false,false,false,false,false,false,false,false,false,false,false,false,false,false,false,false,false,false,false,false] kq0 rfl rfl ⟨bk_ D 0,bk_ D 1,bk_ D 2,bk_ D 3,ag⟩ (fun hHeld=>?_);refine zbo zaH.tab5 zaH.bits5 (fun HT_ HW_=>?_);(generalize ct.drew=d7 at X D HB ag hHeld ⊢);refine puT_ 0 32 ?_
          refine puT_ 3 35 ?_
          refine puT_ 4 36 ?_
          refine puT_ 5 37 ?_
          refine taT_ 1 33 hHeld ?_
          refine puT_ 2 34 ?_
          refine taT_ 6 38 hHeld ?_
          refine puT_ 7 39 ?_
          refine puT_ 8 40 ?_
          refine puT_ 9 41 ?_
          refine taT_ 10 42 hHeld ?_
          refine puT_ 11 43 ?_
          refine puT_ 12 44 ?_
          refine puT_ 13 45 ?_
          refine puT_ 14 46 ?_
          refine puT_ 15 47 ?_
          refine puT_ 16 48 ?_
          refine puT_ 17 49 ?_
          refine taT_ 18 50 hHeld ?_
          refine onT_ 19 51 (fun K hK=>?_);refine zbj Try.func64 kq0 rfl #[.string a0_2] (by rfl) rfl rfl kq10 ?_;(with_reducible refine(zaC.calls k a0_2 aG _ cr.out).mono ?_);rintro e d8 ⟨rfl,hb⟩;have bY:=hd_ hb hHeld.2.2.2.2;refine⟨_,rfl,?_⟩;replace X:=mk (Kd.R_below (kq9 X) hb);replace D:=(bb_ D hb);replace HB:=mk (zaa (kq20 J) hb);((try clear hb));((try clear hb2));((try clear hk));((try clear hi));refine hK.out _ _ ⟨bk_ D 0,bk_ D 1,bk_ D 2,bk_ D 3,bY⟩ (fun hHeld=>?_);clear hK K;refine za2 (a':=?_) ?_ ?_;rotate_left
          ·(show Act.put _ (some 51) _=_);simp only[Act.put,setIfInBounds_toArray,set_cons_zero,set_cons_succ,zbi,zbq];rfl
          refine puT_ 20 52 ?_
          refine puT_ 21 53 ?_
          refine puT_ 22 2 ?_
          refine zbC (zbR HT_.out kq0) ?_;(try go_wp2);go_ret;exact⟨kq18,(kq20 J)⟩
         ·have bK:decide (0≤a0_1)=false:=decide_eq_false aU;clear aU;obtain rfl:=Option.some.inj H;(go_enter Try.func166,Try.ntmps166);(try go_wp2_with (first|((with_reducible refine zao (N:=1) rfl ?_);refine zal ?hg (N:=1) ?hd (cs:=#[.int .i64 G,.int .i64 a0_1,.string a0_2,.slice Y U.length Z]) (t:=66) ?hr ?_;(case hd=>rfl);(case hg=>rfl);(case hr=>exact kq21);intro I hg d9 hbox hb;have D:=mk (hbox);have L:=(gs_ hg kq8);have J:=L;replace HB:=mk (zaa kq8 hb);clear hb hbox hg;obtain⟨_,_,_,_,_,_,_,_⟩:=cz4_ D.out)|((with_reducible refine zao (N:=31) rfl ?_);refine Kd.R_lit (Kd.int .i64) _ 3 ?hg (N:=31) ?hd (xs:=([0,0,1,2,2,2]:List Int)) (inner:=[.int .i64 0,.int .i64 0,.int .i64 1,.int .i64 2,.int .i64 2,.int .i64 2]) (ok:=fun _=>True) (okp:=fun _=>True) ?hr ?hp (fun _ hk=>hk) trivial (Below.refl _ _) (Nat.le_refl _) (by simp) ?_;(case hd=>rfl);(case hg=>rfl);(case hr=>exact kq21);(case hp=>exact(Reps.one (show Kd.M (Kd.int .i64) _ _ _ 0 [.int .i64 0]from rfl) (Reps.one (show Kd.M (Kd.int .i64) _ _ _ 0 [.int .i64 0]from rfl) (Reps.one (show Kd.M (Kd.int .i64) _ _ _ 1 [.int .i64 1]from rfl) (Reps.one (show Kd.M (Kd.int .i64) _ _ _ 2 [.int .i64 2]from rfl) (Reps.one (show Kd.M (Kd.int .i64) _ _ _ 2 [.int .i64 2]from rfl) (Reps.one (show Kd.M (Kd.int .i64) _ _ _ 2 [.int .i64 2]from rfl) (Reps.none _ _))))))));intro bg cu ho76 hb hg_ hnew_;clear hg_ hnew_;(first|rw[←Ny354.out]at ho76|(simp only[Int.reduceToNat]at ho76;rw[←Ny354.out]at ho76));have X:=mk (Kd.R_lower ho76 (zad (kq20 J)));replace D:=(bb_ D hb);replace HB:=mk (zaa (kq20 J) hb);clear hb ho76)));replace X:=mk (Kd.R_drew X.out);replace D:=mk (zaf D.out);replace HB:=mk (zaP HB.out);obtain⟨cK,cL,bi⟩:=Kd.R_slice X.out;((first|subst bi|(injection bi with ac al ae;have am:=ac.symm;have an:=ae.symm;clear ac al ae;subst am;subst an)));have aq:0≤(G:Int):=of_decide_eq_true kq7;have ar:G<(aj.length:Int):=of_decide_eq_true kq7;obtain⟨aC,aK,ag⟩:=Kd.at_int (Kd.R_reads' X.out).2.2 G aq ar;cases aK;replace aq:=eq_true aq;replace ar:=eq_true ar;refine zbv (n:=23) (S:=fun w'=>w'.cell? ⟨I,0,none⟩=some (.int .i64 G)∧w'.cell? ⟨I,1,none⟩=some (.int .i64 a0_1)∧w'.cell? ⟨I,2,none⟩=some (.string a0_2)∧w'.cell? ⟨I,3,none⟩=some (.slice Y U.length Z)∧w'.cell? (aC.add (G).toNat)=some (.int .i64 (rd aj G))) (ds:=[]) #[false,false,false,false,false,false,false,false,false,false,false,false,false,false,false,false,false,false,false,false,false,false,false] kq0 rfl rfl ⟨bk_ D 0,bk_ D 1,bk_ D 2,bk_ D 3,ag⟩ (fun hHeld=>?_);refine zbo zaH.tab5 zaH.bits5 (fun HT_ HW_=>?_);(generalize cu.drew=da at X D HB ag hHeld ⊢);refine puT_ 0 32 ?_
          refine puT_ 3 35 ?_
          refine puT_ 4 36 ?_
          refine puT_ 5 37 ?_
          refine taT_ 1 33 hHeld ?_
          refine puT_ 2 34 ?_
          refine taT_ 6 38 hHeld ?_
          refine puT_ 7 39 ?_
          refine puT_ 8 40 ?_
          refine puT_ 9 41 ?_
          refine taT_ 10 42 hHeld ?_
          refine puT_ 11 43 ?_
          refine puT_ 12 44 ?_
          refine puT_ 13 45 ?_
          refine pvT_ 14 46 ?_
          refine pvT_ 15 47 ?_
          refine pvT_ 16 48 ?_
          refine pvT_ 17 49 ?_
          refine pvT_ 18 50 ?_
          refine pvT_ 19 51 ?_
          refine pvT_ 20 52 ?_
          refine puT_ 21 53 ?_
          refine puT_ 22 2 ?_
          refine zbC (zbR HT_.out kq0) ?_;(try go_wp2);go_ret;exact⟨kq18,(kq20 J)⟩
        ·obtain⟨bI,bJ⟩:=eFn_ b7;obtain rfl:=Option.some.inj H;(go_enter Try.func166,Try.ntmps166);(try go_wp2_with (first|((with_reducible refine zao (N:=1) rfl ?_);refine zal ?hg (N:=1) ?hd (cs:=#[.int .i64 G,.int .i64 a0_1,.string a0_2,.slice Y U.length Z]) (t:=66) ?hr ?_;(case hd=>rfl);(case hg=>rfl);(case hr=>exact kq21);intro I hg db hbox hb;have D:=mk (hbox);have L:=(gs_ hg kq8);have J:=L;replace HB:=mk (zaa kq8 hb);clear hb hbox hg;obtain⟨_,_,_,_,_,_,_,_⟩:=cz4_ D.out)|((with_reducible refine zao (N:=31) rfl ?_);refine Kd.R_lit (Kd.int .i64) _ 3 ?hg (N:=31) ?hd (xs:=([0,0,1,2,2,2]:List Int)) (inner:=[.int .i64 0,.int .i64 0,.int .i64 1,.int .i64 2,.int .i64 2,.int .i64 2]) (ok:=fun _=>True) (okp:=fun _=>True) ?hr ?hp (fun _ hk=>hk) trivial (Below.refl _ _) (Nat.le_refl _) (by simp) ?_;(case hd=>rfl);(case hg=>rfl);(case hr=>exact kq21);(case hp=>exact(Reps.one (show Kd.M (Kd.int .i64) _ _ _ 0 [.int .i64 0]from rfl) (Reps.one (show Kd.M (Kd.int .i64) _ _ _ 0 [.int .i64 0]from rfl) (Reps.one (show Kd.M (Kd.int .i64) _ _ _ 1 [.int .i64 1]from rfl) (Reps.one (show Kd.M (Kd.int .i64) _ _ _ 2 [.int .i64 2]from rfl) (Reps.one (show Kd.M (Kd.int .i64) _ _ _ 2 [.int .i64 2]from rfl) (Reps.one (show Kd.M (Kd.int .i64) _ _ _ 2 [.int .i64 2]from rfl) (Reps.none _ _))))))));intro bg cw ho82 hb hg_ hnew_;clear hg_ hnew_;(first|rw[←Ny354.out]at ho82|(simp only[Int.reduceToNat]at ho82;rw[←Ny354.out]at ho82));have X:=mk (Kd.R_lower ho82 (zad (kq20 J)));replace D:=(bb_ D hb);replace HB:=mk (zaa (kq20 J) hb);clear hb ho82)));replace X:=mk (Kd.R_drew X.out);replace D:=mk (zaf D.out);replace HB:=mk (zaP HB.out);obtain⟨cM,cN,bj⟩:=Kd.R_slice X.out;((first|subst bj|(injection bj with ac al ae;have am:=ac.symm;have an:=ae.symm;clear ac al ae;subst am;subst an)));have aq:0≤(G:Int):=of_decide_eq_true kq7;have ar:G<(aj.length:Int):=of_decide_eq_true kq7;obtain⟨aC,aK,ag⟩:=Kd.at_int (Kd.R_reads' X.out).2.2 G aq ar;cases aK;replace aq:=eq_true aq;replace ar:=eq_true ar;refine zbv (n:=23) (S:=fun w'=>w'.cell? ⟨I,0,none⟩=some (.int .i64 G)∧w'.cell? ⟨I,1,none⟩=some (.int .i64 a0_1)∧w'.cell? ⟨I,2,none⟩=some (.string a0_2)∧w'.cell? ⟨I,3,none⟩=some (.slice Y U.length Z)∧w'.cell? (aC.add (G).toNat)=some (.int .i64 (rd aj G))) (ds:=[]) #[false,false,false,false,false,false,false,false,false,false,false,false,false,false,false,false,false,false,false,false,false,false,false] kq0 rfl rfl ⟨bk_ D 0,bk_ D 1,bk_ D 2,bk_ D 3,ag⟩ (fun hHeld=>?_);refine zbo zaH.tab5 zaH.bits5 (fun HT_ HW_=>?_);(generalize cw.drew=dc at X D HB ag hHeld ⊢);refine puT_ 0 32 ?_
         refine puT_ 3 35 ?_
         refine puT_ 4 36 ?_
         refine puT_ 5 37 ?_
         refine taT_ 1 33 hHeld ?_
         refine puT_ 2 34 ?_
         refine taT_ 6 38 hHeld ?_
         refine puT_ 7 39 ?_
         refine puT_ 8 40 ?_
         refine pvT_ 9 41 ?_
         refine pvT_ 10 42 ?_
         refine pvT_ 11 43 ?_
         refine puT_ 12 44 ?_
         refine puT_ 13 45 ?_
         refine pvT_ 14 46 ?_
         refine pvT_ 15 47 ?_
         refine pvT_ 16 48 ?_
         refine pvT_ 17 49 ?_
         refine pvT_ 18 50 ?_
         refine pvT_ 19 51 ?_
         refine pvT_ 20 52 ?_
         refine puT_ 21 53 ?_
         refine puT_ 22 2 ?_
         refine zbC (zbR HT_.out kq0) ?_;(try go_wp2);go_ret;exact⟨kq18,(kq20 J)⟩
       ·exact absurd H (by simp)
      ·exact absurd H (by simp)
     ·obtain⟨bE,bF⟩:=eFn_ b6;replace H:=ic_ H;obtain⟨b8,H⟩|⟨b8,H⟩:=H
      ·obtain⟨bL,bM⟩:=eTn_ b8;clear b8;obtain⟨ak,aD⟩:∃y_:List Int,y_=(([0,0,1,2,2,2]:List Int)):=⟨_,rfl⟩;(replace H:(if 0≤G then(if G<(ak.length:Int)then(if(U.length:Int)=(rd ak G)then(if a0_1≥0 then(some true)else(some false))else(some false))else(none))else(none))=some r:=by first|(rw[aD];with_reducible exact H)|(have aw:=(Option.bind_some _ _).symm.trans H;rw[aD];with_reducible exact aw)|(have aw:=(Option.bind_some _ _).symm.trans H;with_reducible exact aw)|with_reducible exact H|(rw[aD];exact H)|exact H);have Ny359:=mk aD;clear aD;replace H:=ic_ H;obtain⟨bN,H⟩|⟨bN,H⟩:=H
       ·have cx:=decide_eq_true bN;clear bN;replace H:=ic_ H;obtain⟨bO,H⟩|⟨bO,H⟩:=H
        ·have cy:=decide_eq_true bO;clear bO;replace H:=ic_ H;obtain⟨b9,H⟩|⟨b9,H⟩:=H
         ·obtain⟨bP,bQ⟩:=eTn_ b9;clear b9;replace H:=ic_ H;obtain⟨aV,H⟩|⟨aV,H⟩:=H
          ·have bR:decide (0≤a0_1)=true:=decide_eq_true aV;clear aV;obtain rfl:=Option.some.inj H;(go_enter Try.func166,Try.ntmps166);(try go_wp2_with (first|((with_reducible refine zao (N:=1) rfl ?_);refine zal ?hg (N:=1) ?hd (cs:=#[.int .i64 G,.int .i64 a0_1,.string a0_2,.slice Y U.length Z]) (t:=66) ?hr ?_;(case hd=>rfl);(case hg=>rfl);(case hr=>exact kq21);intro I hg dd hbox hb;have D:=mk (hbox);have L:=(gs_ hg kq8);have J:=L;replace HB:=mk (zaa kq8 hb);clear hb hbox hg;obtain⟨_,_,_,_,_,_,_,_⟩:=cz4_ D.out)|((with_reducible refine zao (N:=31) rfl ?_);refine Kd.R_lit (Kd.int .i64) _ 3 ?hg (N:=31) ?hd (xs:=([0,0,1,2,2,2]:List Int)) (inner:=[.int .i64 0,.int .i64 0,.int .i64 1,.int .i64 2,.int .i64 2,.int .i64 2]) (ok:=fun _=>True) (okp:=fun _=>True) ?hr ?hp (fun _ hk=>hk) trivial (Below.refl _ _) (Nat.le_refl _) (by simp) ?_;(case hd=>rfl);(case hg=>rfl);(case hr=>exact kq21);(case hp=>exact(Reps.one (show Kd.M (Kd.int .i64) _ _ _ 0 [.int .i64 0]from rfl) (Reps.one (show Kd.M (Kd.int .i64) _ _ _ 0 [.int .i64 0]from rfl) (Reps.one (show Kd.M (Kd.int .i64) _ _ _ 1 [.int .i64 1]from rfl) (Reps.one (show Kd.M (Kd.int .i64) _ _ _ 2 [.int .i64 2]from rfl) (Reps.one (show Kd.M (Kd.int .i64) _ _ _ 2 [.int .i64 2]from rfl) (Reps.one (show Kd.M (Kd.int .i64) _ _ _ 2 [.int .i64 2]from rfl) (Reps.none _ _))))))));intro bk cz ho93 hb hg_ hnew_;clear hg_ hnew_;(first|rw[←Ny359.out]at ho93|(simp only[Int.reduceToNat]at ho93;rw[←Ny359.out]at ho93));have ab:=mk (Kd.R_lower ho93 (zad (kq20 J)));replace D:=(bb_ D hb);replace HB:=mk (zaa (kq20 J) hb);clear hb ho93)));replace ab:=mk (Kd.R_drew ab.out);replace D:=mk (zaf D.out);replace HB:=mk (zaP HB.out);obtain⟨cO,cP,bm⟩:=Kd.R_slice ab.out;((first|subst bm|(injection bm with ac al ae;have am:=ac.symm;have an:=ae.symm;clear ac al ae;subst am;subst an)));have au:0≤(G:Int):=of_decide_eq_true kq7;have av:G<(ak.length:Int):=of_decide_eq_true kq7;obtain⟨aE,aM,ah⟩:=Kd.at_int (Kd.R_reads' ab.out).2.2 G au av;cases aM;replace au:=eq_true au;replace av:=eq_true av;refine zbv (n:=23) (S:=fun w'=>w'.cell? ⟨I,0,none⟩=some (.int .i64 G)∧w'.cell? ⟨I,1,none⟩=some (.int .i64 a0_1)∧w'.cell? ⟨I,2,none⟩=some (.string a0_2)∧w'.cell? ⟨I,3,none⟩=some (.slice Y U.length Z)∧w'.cell? (aE.add (G).toNat)=some (.int .i64 (rd ak G))) (ds:=[]) #[false,false,false,false,false,false,false,false,false,false,false,false,false,false,false,false,false,false,false,false,false,false,false] kq0 rfl rfl ⟨bk_ D 0,bk_ D 1,bk_ D 2,bk_ D 3,ah⟩ (fun hHeld=>?_);refine zbo zaH.tab5 zaH.bits5 (fun HT_ HW_=>?_);(generalize cz.drew=de at ab D HB ah hHeld ⊢);refine puT_ 0 32 ?_
           refine puT_ 3 35 ?_
           refine puT_ 4 36 ?_
           refine puT_ 5 37 ?_
           refine taT_ 1 33 hHeld ?_
           refine puT_ 2 34 ?_
           refine taT_ 6 38 hHeld ?_
           refine puT_ 7 39 ?_
           refine puT_ 8 40 ?_
           refine puT_ 9 41 ?_
           refine taT_ 10 42 hHeld ?_
           refine puT_ 11 43 ?_
           refine puT_ 12 44 ?_
           refine puT_ 13 45 ?_
           refine puT_ 14 46 ?_
           refine puT_ 15 47 ?_
           refine puT_ 16 48 ?_
           refine pvT_ 17 49 ?_
           refine pvT_ 18 50 ?_
           refine pvT_ 19 51 ?_
           refine puT_ 20 52 ?_
           refine puT_ 21 53 ?_
           refine puT_ 22 2 ?_
           refine zbC (zbR HT_.out kq0) ?_;(try go_wp2);go_ret;exact⟨kq18,(kq20 J)⟩
          ·have bR:decide (0≤a0_1)=false:=decide_eq_false aV;clear aV;obtain rfl:=Option.some.inj H;(go_enter Try.func166,Try.ntmps166);(try go_wp2_with (first|((with_reducible refine zao (N:=1) rfl ?_);refine zal ?hg (N:=1) ?hd (cs:=#[.int .i64 G,.int .i64 a0_1,.string a0_2,.slice Y U.length Z]) (t:=66) ?hr ?_;(case hd=>rfl);(case hg=>rfl);(case hr=>exact kq21);intro I hg df hbox hb;have D:=mk (hbox);have L:=(gs_ hg kq8);have J:=L;replace HB:=mk (zaa kq8 hb);clear hb hbox hg;obtain⟨_,_,_,_,_,_,_,_⟩:=cz4_ D.out)|((with_reducible refine zao (N:=31) rfl ?_);refine Kd.R_lit (Kd.int .i64) _ 3 ?hg (N:=31) ?hd (xs:=([0,0,1,2,2,2]:List Int)) (inner:=[.int .i64 0,.int .i64 0,.int .i64 1,.int .i64 2,.int .i64 2,.int .i64 2]) (ok:=fun _=>True) (okp:=fun _=>True) ?hr ?hp (fun _ hk=>hk) trivial (Below.refl _ _) (Nat.le_refl _) (by simp) ?_;(case hd=>rfl);(case hg=>rfl);(case hr=>exact kq21);(case hp=>exact(Reps.one (show Kd.M (Kd.int .i64) _ _ _ 0 [.int .i64 0]from rfl) (Reps.one (show Kd.M (Kd.int .i64) _ _ _ 0 [.int .i64 0]from rfl) (Reps.one (show Kd.M (Kd.int .i64) _ _ _ 1 [.int .i64 1]from rfl) (Reps.one (show Kd.M (Kd.int .i64) _ _ _ 2 [.int .i64 2]from rfl) (Reps.one (show Kd.M (Kd.int .i64) _ _ _ 2 [.int .i64 2]from rfl) (Reps.one (show Kd.M (Kd.int .i64) _ _ _ 2 [.int .i64 2]from rfl) (Reps.none _ _))))))));intro bk cA ho99 hb hg_ hnew_;clear hg_ hnew_;(first|rw[←Ny359.out]at ho99|(simp only[Int.reduceToNat]at ho99;rw[←Ny359.out]at ho99));have ab:=mk (Kd.R_lower ho99 (zad (kq20 J)));replace D:=(bb_ D hb);replace HB:=mk (zaa (kq20 J) hb);clear hb ho99)));replace ab:=mk (Kd.R_drew ab.out);replace D:=mk (zaf D.out);replace HB:=mk (zaP HB.out);obtain⟨cB,cC,aW⟩:=Kd.R_slice ab.out;((first|subst aW|(injection aW with ac al ae;have am:=ac.symm;have an:=ae.symm;clear ac al ae;subst am;subst an)));have au:0≤(G:Int):=of_decide_eq_true kq7;have av:G<(ak.length:Int):=of_decide_eq_true kq7;obtain⟨aE,aM,ah⟩:=Kd.at_int (Kd.R_reads' ab.out).2.2 G au av;cases aM;replace au:=eq_true au;replace av:=eq_true av;refine zbv (n:=23) (S:=fun w'=>w'.cell? ⟨I,0,none⟩=some (.int .i64 G)∧w'.cell? ⟨I,1,none⟩=some (.int .i64 a0_1)∧w'.cell? ⟨I,2,none⟩=some (.string a0_2)∧w'.cell? ⟨I,3,none⟩=some (.slice Y U.length Z)∧w'.cell? (aE.add (G).toNat)=some (.int .i64 (rd ak G))) (ds:=[]) #[false,false,false,false,false,false,false,false,false,false,false,false,false,false,false,false,false,false,false,false,false,false,false] kq0 rfl rfl ⟨bk_ D 0,bk_ D 1,bk_ D 2,bk_ D 3,ah⟩ (fun hHeld=>?_);refine zbo zaH.tab5 zaH.bits5 (fun HT_ HW_=>?_);(generalize cA.drew=cQ at ab D HB ah hHeld ⊢);refine puT_ 0 32 ?_
           refine puT_ 3 35 ?_
           refine puT_ 4 36 ?_
           refine puT_ 5 37 ?_
           refine taT_ 1 33 hHeld ?_
           refine puT_ 2 34 ?_
           refine taT_ 6 38 hHeld ?_
           refine puT_ 7 39 ?_
           refine puT_ 8 40 ?_
           refine puT_ 9 41 ?_
           refine taT_ 10 42 hHeld ?_
           refine puT_ 11 43 ?_
           refine puT_ 12 44 ?_
           refine puT_ 13 45 ?_
           refine pvT_ 14 46 ?_
           refine pvT_ 15 47 ?_
           refine pvT_ 16 48 ?_
           refine pvT_ 17 49 ?_
           refine pvT_ 18 50 ?_
           refine pvT_ 19 51 ?_
           refine pvT_ 20 52 ?_
           refine puT_ 21 53 ?_
           refine puT_ 22 2 ?_
           refine zbC (zbR HT_.out kq0) ?_;(try go_wp2);go_ret;exact⟨kq18,(kq20 J)⟩
         ·obtain⟨bP,bQ⟩:=eFn_ b9;obtain rfl:=Option.some.inj H;(go_enter Try.func166,Try.ntmps166);(try go_wp2_with (first|((with_reducible refine zao (N:=1) rfl ?_);refine zal ?hg (N:=1) ?hd (cs:=#[.int .i64 G,.int .i64 a0_1,.string a0_2,.slice Y U.length Z]) (t:=66) ?hr ?_;(case hd=>rfl);(case hg=>rfl);(case hr=>exact kq21);intro I hg cR hbox hb;have D:=mk (hbox);have L:=(gs_ hg kq8);have J:=L;replace HB:=mk (zaa kq8 hb);clear hb hbox hg;obtain⟨_,_,_,_,_,_,_,_⟩:=cz4_ D.out)|((with_reducible refine zao (N:=31) rfl ?_);refine Kd.R_lit (Kd.int .i64) _ 3 ?hg (N:=31) ?hd (xs:=([0,0,1,2,2,2]:List Int)) (inner:=[.int .i64 0,.int .i64 0,.int .i64 1,.int .i64 2,.int .i64 2,.int .i64 2]) (ok:=fun _=>True) (okp:=fun _=>True) ?hr ?hp (fun _ hk=>hk) trivial (Below.refl _ _) (Nat.le_refl _) (by simp) ?_;(case hd=>rfl);(case hg=>rfl);(case hr=>exact kq21);(case hp=>exact(Reps.one (show Kd.M (Kd.int .i64) _ _ _ 0 [.int .i64 0]from rfl) (Reps.one (show Kd.M (Kd.int .i64) _ _ _ 0 [.int .i64 0]from rfl) (Reps.one (show Kd.M (Kd.int .i64) _ _ _ 1 [.int .i64 1]from rfl) (Reps.one (show Kd.M (Kd.int .i64) _ _ _ 2 [.int .i64 2]from rfl) (Reps.one (show Kd.M (Kd.int .i64) _ _ _ 2 [.int .i64 2]from rfl) (Reps.one (show Kd.M (Kd.int .i64) _ _ _ 2 [.int .i64 2]from rfl) (Reps.none _ _))))))));intro bk bZ ho105 hb hg_ hnew_;clear hg_ hnew_;(first|rw[←Ny359.out]at ho105|(simp only[Int.reduceToNat]at ho105;rw[←Ny359.out]at ho105));have ab:=mk (Kd.R_lower ho105 (zad (kq20 J)));replace D:=(bb_ D hb);replace HB:=mk (zaa (kq20 J) hb);clear hb ho105)));replace ab:=mk (Kd.R_drew ab.out);replace D:=mk (zaf D.out);replace HB:=mk (zaP HB.out);obtain⟨cD,cE,aX⟩:=Kd.R_slice ab.out;((first|subst aX|(injection aX with ac al ae;have am:=ac.symm;have an:=ae.symm;clear ac al ae;subst am;subst an)));have au:0≤(G:Int):=of_decide_eq_true kq7;have av:G<(ak.length:Int):=of_decide_eq_true kq7;obtain⟨aE,aM,ah⟩:=Kd.at_int (Kd.R_reads' ab.out).2.2 G au av;cases aM;replace au:=eq_true au;replace av:=eq_true av;refine zbv (n:=23) (S:=fun w'=>w'.cell? ⟨I,0,none⟩=some (.int .i64 G)∧w'.cell? ⟨I,1,none⟩=some (.int .i64 a0_1)∧w'.cell? ⟨I,2,none⟩=some (.string a0_2)∧w'.cell? ⟨I,3,none⟩=some (.slice Y U.length Z)∧w'.cell? (aE.add (G).toNat)=some (.int .i64 (rd ak G))) (ds:=[]) #[false,false,false,false,false,false,false,false,false,false,false,false,false,false,false,false,false,false,false,false,false,false,false] kq0 rfl rfl ⟨bk_ D 0,bk_ D 1,bk_ D 2,bk_ D 3,ah⟩ (fun hHeld=>?_);refine zbo zaH.tab5 zaH.bits5 (fun HT_ HW_=>?_);(generalize bZ.drew=cS at ab D HB ah hHeld ⊢);refine puT_ 0 32 ?_
          refine puT_ 3 35 ?_
          refine puT_ 4 36 ?_
          refine puT_ 5 37 ?_
          refine taT_ 1 33 hHeld ?_
          refine puT_ 2 34 ?_
          refine taT_ 6 38 hHeld ?_
          refine puT_ 7 39 ?_
          refine puT_ 8 40 ?_
          refine pvT_ 9 41 ?_
          refine pvT_ 10 42 ?_
          refine pvT_ 11 43 ?_
          refine puT_ 12 44 ?_
          refine puT_ 13 45 ?_
          refine pvT_ 14 46 ?_
          refine pvT_ 15 47 ?_
          refine pvT_ 16 48 ?_
          refine pvT_ 17 49 ?_
          refine pvT_ 18 50 ?_
          refine pvT_ 19 51 ?_
          refine pvT_ 20 52 ?_
          refine puT_ 21 53 ?_
          refine puT_ 22 2 ?_
          refine zbC (zbR HT_.out kq0) ?_;(try go_wp2);go_ret;exact⟨kq18,(kq20 J)⟩
        ·exact absurd H (by simp)
       ·exact absurd H (by simp)
      ·obtain⟨bL,bM⟩:=eFn_ b8;obtain rfl:=Option.some.inj H;(go_enter Try.func166,Try.ntmps166);(go_wp2_with (first|((with_reducible refine zao (N:=1) rfl ?_);refine zal ?hg (N:=1) ?hd (cs:=#[.int .i64 G,.int .i64 a0_1,.string a0_2,.slice Y U.length Z]) (t:=66) ?hr ?_;(case hd=>rfl);(case hg=>rfl);(case hr=>exact kq21);intro I hg cT hbox hb;have D:=mk (hbox);have L:=(gs_ hg kq8);have J:=L;replace HB:=mk (zaa kq8 hb);clear hb hbox hg;obtain⟨_,_,_,_,_,_,_,_⟩:=cz4_ D.out)));go_ret;exact⟨kq18,(kq20 J)⟩
    ·obtain⟨bC,bD⟩:=eFn_ b5;obtain rfl:=Option.some.inj H;(go_enter Try.func166,Try.ntmps166);(go_wp2_with (first|((with_reducible refine zao (N:=1) rfl ?_);refine zal ?hg (N:=1) ?hd (cs:=#[.int .i64 G,.int .i64 a0_1,.string a0_2,.slice Y U.length Z]) (t:=66) ?hr ?_;(case hd=>rfl);(case hg=>rfl);(case hr=>exact kq21);intro I hg cU hbox hb;have D:=mk (hbox);have L:=(gs_ hg kq8);have J:=L;replace HB:=mk (zaa kq8 hb);clear hb hbox hg;obtain⟨_,_,_,_,_,_,_,_⟩:=cz4_ D.out)));go_ret;exact⟨kq18,(kq20 J)⟩
end Go.Proofs.Ytjknpmibdkoklaa.Q
