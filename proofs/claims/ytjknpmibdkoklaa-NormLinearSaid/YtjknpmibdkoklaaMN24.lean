/- Functions of the given program as Lean functions, each with its contract, and what they answer; words for it. No condition but those of each. -/
import Derived.Test.YtjknpmibdkoklaaMNS
import Derived.Test.YtjknpmibdkoklaaMN23
import Derived.LoopTactic
import Derived.Shelf.Abstract
import Derived.Test.YtjknpmibdkoklaaMN3
import Derived.Test.YtjknpmibdkoklaaMN12
import Derived.Test.YtjknpmibdkoklaaMN14
import Derived.Test.YtjknpmibdkoklaaMN5
import Derived.Test.YtjknpmibdkoklaaMN8
import Derived.Test.YtjknpmibdkoklaaMN4
import Derived.Test.YtjknpmibdkoklaaMN20
import Derived.Test.YtjknpmibdkoklaaMN21
import Derived.Test.YtjknpmibdkoklaaMN22
set_option maxRecDepth 100000
set_option linter.unusedVariables false
set_option linter.unusedSimpArgs false
namespace Go.Proofs.Ytjknpmibdkoklaa.Q
open Go.RowKit Go.Proofs.YtjknpmibdkoklaaW.PrintWords Go.Proofs.YtjknpmibdkoklaaW.PrintLast Go.Proofs.YtjknpmibdkoklaaW.PrintMore
open Aside0 (mk)
def zb7.f (k:Nat) (op:Int) (nm:ByteArray) (md:Int) (l3:List S66) (l4:List S39):Option (Int × List ByteArray × List Int × Int × Int × Int):=
 (zco.f op nm md l3 l4).bind fun e=>if e≠0 then some (0,[],[],0,0,e)else if op<9 then some (0,[],[],0,0,3)else if 1<l3.length then
  ((zau.f k (zaN l3 0).f0 (zaN l3 0).f1 (zaN l3 0).f2 (zaN l3 0).f3).bind fun a=>
   (zau.f k (zaN l3 1).f0 (zaN l3 1).f1 (zaN l3 1).f2 (zaN l3 1).f3).bind fun b=>
   (zbc.f a.1 a.2.1 a.2.2.1 a.2.2.2 b.1 b.2.1 b.2.2.1 b.2.2.2 1).bind fun s0=>
   (if a.2.2.2=0∧b.2.2.2=0∧(op=11∨op=12)then zbc.f b.1 b.2.1 b.2.2.1 b.2.2.2 a.1 a.2.1 a.2.2.1 a.2.2.2 1 else some s0).bind fun s=>
   if s.2.1.length≤1000000 then((zbp.f k ([zcC op md s.2.2.1]++zcD op md s.2.1)).bind fun t=>some (zfq op md s.1 s.2.1 s.2.2.1 s.2.2.2 t.2))else none)
  else none
theorem zb7.mono:∀a0 r D a3 a4 k,LeO (zb7.f k a0 r D a3 a4) (zb7.f (k+1) a0 r D a3 a4):=by
 intro a0 r D a3 a4 k
 unfold zb7.f
 exact LeO.bind (LeO.refl _) fun _=>LeO.ite (LeO.refl _) (LeO.ite (LeO.refl _) (LeO.ite (LeO.bind (zau.mono _ _ _ _ _) fun _=>LeO.bind (zau.mono _ _ _ _ _) fun _=>LeO.bind (LeO.refl _) fun _=>LeO.bind (LeO.refl _) fun _=>LeO.ite (LeO.bind (zbp.mono _ _) fun _=>LeO.refl _) (LeO.refl _)) (LeO.refl _)))
theorem zb7.calls (k:Nat) (op:Int) (nm:ByteArray) (md:Int) (J:Option Addr) (L:Nat) (r:List S66) (M:Option Addr) (U:Nat) (D:List S39) (Y:Int) (Z:List ByteArray) (r3:List Int) (r4 r5 r6:Int) (w:World) (G:Kd.C k66 w J r.length r) (hc3:r.length≤L) (I:Kd.C k39 w M D.length D) (hc4:D.length≤U) (h:zb7.f k op nm md r D=some (Y,Z,r3,r4,r5,r6)) :
 Calls Try.prog 44 #[.agg #[.int .i64 op,.string nm,.int .i64 md,.slice J r.length L,.slice M D.length U]] w fun e w'=>∃v0 v1:Value,e= .returned (.tuple #[.agg #[.int .i64 Y,v0,v1,.int .i64 r4,.int .i64 r5],.int .i64 r6])∧Kd.R Kd.string 9 w' w.heap.size (fun _=>True) v0 Z∧Kd.R (Kd.int .i64) 2 w' w.heap.size (fun _=>True) v1 r3∧Below w.heap.size w w':=by
 unfold zb7.f at h
 obtain⟨ev,hck,h⟩:=Option.bind_eq_some_iff.1 h
 by_cases he:ev=0
 ·subst he
  rw[if_neg kq2]at h
  by_cases ho:op<9
  ·rw[if_pos ho]at h
   simp only[Option.some.injEq,Prod.mk.injEq]at h
   obtain⟨rfl,rfl,rfl,rfl,rfl,rfl⟩:=h
   refine(zhb op nm md J L r M U D w G hc3 I hc4 hck ho).mono ?_
   rintro e w' ⟨rfl,hb⟩
   exact⟨_,_,rfl,Kd.R_nil _ _ _ _ _,Kd.R_nil _ _ _ _ _,hb⟩
  ·rw[if_neg ho]at h
   by_cases h2:1<r.length
   ·rw[if_pos h2]at h
    obtain⟨⟨na,ca,ka,ea⟩,hwa,h⟩:=Option.bind_eq_some_iff.1 h
    obtain⟨⟨nb,cb,kb,eb⟩,hwb,h⟩:=Option.bind_eq_some_iff.1 h
    obtain⟨⟨n0,z0,k0,e0⟩,X,h⟩:=Option.bind_eq_some_iff.1 h
    obtain⟨⟨ns,cs,ks,es⟩,hs,h⟩:=Option.bind_eq_some_iff.1 h
    dsimp only at X hs h
    by_cases hl:cs.length≤1000000
    ·rw[if_pos hl]at h
     obtain⟨⟨tt,te⟩,ht,h⟩:=Option.bind_eq_some_iff.1 h
     refine(zh2 k op nm md J L r M U D w G hc3 I hc4 hck ho h2 na ca ka ea nb cb kb eb n0 z0 k0 e0 ns cs ks es tt te hwa hwb X (fun hc=>by rw[if_pos hc]at hs;exact hs) (fun hc=>by rw[if_neg hc]at hs;simpa only[Option.some.injEq,Prod.mk.injEq]using hs) hl ht).mono ?_
     have hR:=Option.some.inj h
     dsimp only at hR
     rw[hR]
     exact fun e w' he=>he
    ·rw[if_neg hl]at h
     cases h
   ·rw[if_neg h2]at h
    cases h
 ·rw[if_pos he]at h
  simp only[Option.some.injEq,Prod.mk.injEq]at h
  obtain⟨rfl,rfl,rfl,rfl,rfl,rfl⟩:=h
  refine(ziw op nm md J L r M U D ev w G hc3 I hc4 hck he).mono ?_
  rintro e w' ⟨rfl,hb⟩
  exact⟨_,_,rfl,Kd.R_nil _ _ _ _ _,Kd.R_nil _ _ _ _ _,hb⟩
end Go.Proofs.Ytjknpmibdkoklaa.Q
namespace Go.Proofs.Ytjknpmibdkoklaa.Q
open Go.RowKit Go.Proofs.YtjknpmibdkoklaaW.PrintWords Go.Proofs.YtjknpmibdkoklaaW.PrintLast Go.Proofs.YtjknpmibdkoklaaW.PrintMore
open Aside0 (mk)
open List (setIfInBounds_toArray set_cons_zero set_cons_succ)
attribute [local go_sem] zbw zbz zbP zbQ zbm zbn zbA zbB
set_option linter.unusedVariables false
set_option linter.unusedSimpArgs false
attribute [local go_sem] zbS zbD zbE zbF
def zaX.f (k:Nat):Option (Bool):=(zb7.f k 12 (⟨#[]⟩:ByteArray) 0 (([(⟨1,0,(⟨#[120]⟩:ByteArray),([]:List (S66))⟩:S66),(⟨0,1,(⟨#[]⟩:ByteArray),([]:List (S66))⟩:S66)]:List (S66))) ([]:List (S39))).bind fun bt780=>(if bt780.2.2.2.2.2=0 then(if bt780.1=0 then((zaF.f k bt780.2.1 (([(⟨#[120]⟩:ByteArray)]:List ByteArray))).bind fun t794=>(if t794=true then((zaq.f k bt780.2.2.1 (([(-1)]:List Int))).bind fun t798=>(if t798=true then(if bt780.2.2.2.1=(-2)then(some true)else(some false))else(some false)))else(some false)))else(some false))else(some false))
theorem zaX.mono:∀k,LeO (zaX.f k) (zaX.f (k+1)):=by
 intro  k
 unfold zaX.f
 repeat' first
  |(with_reducible exact zb7.mono _ _ _ _ _ _)
  |(with_reducible exact zaq.mono _ _ _)
  |(with_reducible exact zaF.mono _ _ _)
  |(with_reducible exact LeO.refl _)
  |(with_reducible exact LeO.none _)
  |(with_reducible refine LeO.ite ?_ ?_)
  |(with_reducible refine LeO.bind ?_ (fun _=>?_))
  |exact zb7.mono _ _ _ _ _ _
  |exact zaq.mono _ _ _
  |exact zaF.mono _ _ _
  |exact LeO.none _
  |refine LeO.ite ?_ ?_
  |refine LeO.bind ?_ (fun _=>?_)
theorem zaX.only {k:Nat} {r:Bool} (h:zaX.f k=some r):r=true:=by
 obtain⟨K,hK⟩:=Ev.of (fun k=>zaX.mono k) h
 obtain⟨D,hK2⟩:=Ev.of (g:=fun k=>zaX.f k) (fun k=>zaX.mono k) (show zaX.f 20=some true by decide +kernel)
 exact Option.some.inj ((hK (K+D) kq1).symm.trans (hK2 (K+D) kq1))
set_option maxHeartbeats 8000000 in
theorem zaX.calls (k:Nat)  (r:Bool) (w:World) (h:zaX.f k=some r) :
 Calls Try.prog 43 #[] w fun e w'=>e= .returned (.bool r)∧Below w.heap.size w w':=by
 have HRt_:=mk (zaX.only h)
 have aQ:=Try.underlying66
 have aT:=Try.underlying39
 have aU:=Try.underlying58
 have HB:=mk (Below.refl w.heap.size w)
 have H:((zb7.f k 12 (⟨#[]⟩:ByteArray) 0 (([(⟨1,0,(⟨#[120]⟩:ByteArray),([]:List (S66))⟩:S66),(⟨0,1,(⟨#[]⟩:ByteArray),([]:List (S66))⟩:S66)]:List (S66))) ([]:List (S39))).bind fun L=>(if L.2.2.2.2.2=0 then(if L.1=0 then((zaF.f k L.2.1 (([(⟨#[120]⟩:ByteArray)]:List ByteArray))).bind fun aa=>(if aa=true then((zaq.f k L.2.2.1 (([(-1)]:List Int))).bind fun J=>(if J=true then(if L.2.2.2.1=(-2)then(some true)else(some false))else(some false)))else(some false)))else(some false))else(some false)))=some r:=h
 clear h
 obtain⟨al,ab⟩:∃y_:List (S66),y_=(([(⟨1,0,(⟨#[120]⟩:ByteArray),([]:List (S66))⟩:S66),(⟨0,1,(⟨#[]⟩:ByteArray),([]:List (S66))⟩:S66)]:List (S66))):=⟨_,rfl⟩
 replace H:((zb7.f k 12 (⟨#[]⟩:ByteArray) 0 al ([]:List (S39))).bind fun L=>(if L.2.2.2.2.2=0 then(if L.1=0 then((zaF.f k L.2.1 (([(⟨#[120]⟩:ByteArray)]:List ByteArray))).bind fun aa=>(if aa=true then((zaq.f k L.2.2.1 (([(-1)]:List Int))).bind fun J=>(if J=true then(if L.2.2.2.1=(-2)then(some true)else(some false))else(some false)))else(some false)))else(some false))else(some false)))=some r:=by first|(rw[ab];with_reducible exact H)|(have ac:=(Option.bind_some _ _).symm.trans H;rw[ab];with_reducible exact ac)|(have ac:=(Option.bind_some _ _).symm.trans H;with_reducible exact ac)|with_reducible exact H|(rw[ab];exact H)|exact H
 have Ny777:=mk ab
 clear ab
 replace H:=Option.bind_eq_some_iff.mp H
 obtain⟨⟨t780,t781,t784,t787,t788,am⟩,ar,H⟩:=H
 replace H:(if am=0 then(if t780=0 then((zaF.f k t781 (([(⟨#[120]⟩:ByteArray)]:List ByteArray))).bind fun aa=>(if aa=true then((zaq.f k t784 (([(-1)]:List Int))).bind fun J=>(if J=true then(if t787=(-2)then(some true)else(some false))else(some false)))else(some false)))else(some false))else(some false))=some r:=H
 have A1:=mk ar
 clear ar
 by_cases c2:am=0
 ·rw[if_pos c2]at H
  have au:=eT_ c2
  have av:=nF_ c2
  clear c2
  replace H:=ic_ H;obtain⟨c3,H⟩|⟨c3,H⟩:=H
  ·obtain⟨aw,ax⟩:=eTn_ c3;clear c3;obtain⟨an,ae⟩:∃y_:List ByteArray,y_=(([(⟨#[120]⟩:ByteArray)]:List ByteArray)):=⟨_,rfl⟩;(replace H:((zaF.f k t781 an).bind fun aa=>(if aa=true then((zaq.f k t784 (([(-1)]:List Int))).bind fun J=>(if J=true then(if t787=(-2)then(some true)else(some false))else(some false)))else(some false)))=some r:=by first|(rw[ae];with_reducible exact H)|(have ac:=(Option.bind_some _ _).symm.trans H;rw[ae];with_reducible exact ac)|(have ac:=(Option.bind_some _ _).symm.trans H;with_reducible exact ac)|with_reducible exact H|(rw[ae];exact H)|exact H);have Ny791:=mk ae;clear ae;replace H:=Option.bind_eq_some_iff.mp H;obtain⟨aa,ay,H⟩:=H;replace H:(if aa=true then((zaq.f k t784 (([(-1)]:List Int))).bind fun J=>(if J=true then(if t787=(-2)then(some true)else(some false))else(some false)))else(some false))=some r:=H;have A4:=mk ay;clear ay;(by_cases c5:aa=true)
   ·subst c5;(have H1:((zaq.f k t784 (([(-1)]:List Int))).bind fun J=>(if J=true then(if t787=(-2)then(some true)else(some false))else(some false)))=some r:=by rw[if_pos rfl]at H;exact H);clear H;have H:=H1;clear H1;obtain⟨ao,af⟩:∃y_:List Int,y_=(([(-1)]:List Int)):=⟨_,rfl⟩;(replace H:((zaq.f k t784 ao).bind fun J=>(if J=true then(if t787=(-2)then(some true)else(some false))else(some false)))=some r:=by first|(rw[af];with_reducible exact H)|(have ac:=(Option.bind_some _ _).symm.trans H;rw[af];with_reducible exact ac)|(have ac:=(Option.bind_some _ _).symm.trans H;with_reducible exact ac)|with_reducible exact H|(rw[af];exact H)|exact H);have Ny795:=mk af;clear af;replace H:=Option.bind_eq_some_iff.mp H;obtain⟨J,az,H⟩:=H;replace H:(if J=true then(if t787=(-2)then(some true)else(some false))else(some false))=some r:=H;have A6:=mk az;clear az;(by_cases c7:J=true)
    ·subst c7;(have H1:(if t787=(-2)then(some true)else(some false))=some r:=by rw[if_pos rfl]at H;exact H);clear H;have H:=H1;clear H1;replace H:=ic_ H;obtain⟨c8,H⟩|⟨c8,H⟩:=H
     ·obtain⟨aA,aC⟩:=eTn_ c8;clear c8;obtain rfl:=Option.some.inj H;(go_enter Try.func43,Try.ntmps43);(go_wp2_with (first|((with_reducible refine zao (N:=1) rfl ?_);(try(refine zbf (by rfl) ?_;dsimp only));refine zal ?hg (N:=1) ?hd (cs:=#[.int .i64 0,.int .i64 0,.string (⟨#[]⟩:ByteArray),.slice none 0 0]) (t:=66) ?hr ?_;(case hd=>rfl);(case hg=>rfl);(case hr=>exact kq21);intro ai hg w9 hbox hb;have D:=mk (hbox);have ap:=(gs_ hg kq8);have I:=ap;replace HB:=mk (zaa kq8 hb);clear hb hbox hg;obtain⟨_,_,_,_,_,_,_,_⟩:=cz4_ D.out)|((with_reducible refine zao (N:=8) rfl ?_);(try(refine zbf (by rfl) ?_;dsimp only));refine Kd.R_lit k66 _ 66 ?hg (N:=8) ?hd (xs:=([(⟨1,0,(⟨#[120]⟩:ByteArray),([]:List (S66))⟩:S66),(⟨0,1,(⟨#[]⟩:ByteArray),([]:List (S66))⟩:S66)]:List (S66))) (inner:=[.int .i64 1,.int .i64 0,.string (⟨#[120]⟩:ByteArray),.slice none 0 0,.int .i64 0,.int .i64 1,.string (⟨#[]⟩:ByteArray),.slice none 0 0]) (ok:=fun _=>True) (okp:=fun _=>True) ?hr ?hp (fun _ hk=>hk) trivial (Below.refl _ _) (Nat.le_refl _) (by simp) ?_;(case hd=>rfl);(case hg=>rfl);(case hr=>exact kq21);(case hp=>exact(Reps.c4 (show Kd.M k66 _ _ _ (⟨1,0,(⟨#[120]⟩:ByteArray),([]:List (S66))⟩:S66) [.int .i64 1,.int .i64 0,.string (⟨#[120]⟩:ByteArray),.slice none 0 0]from(zh5 _ _ _ (⟨1,0,(⟨#[120]⟩:ByteArray),([]:List (S66))⟩:S66) (Kd.R_nil _ _ _ _ _))) (Reps.c4 (show Kd.M k66 _ _ _ (⟨0,1,(⟨#[]⟩:ByteArray),([]:List (S66))⟩:S66) [.int .i64 0,.int .i64 1,.string (⟨#[]⟩:ByteArray),.slice none 0 0]from(zh5 _ _ _ (⟨0,1,(⟨#[]⟩:ByteArray),([]:List (S66))⟩:S66) (Kd.R_nil _ _ _ _ _))) (Reps.none _ _))));intro aV b8 ho12 hb hg_ hnew_;clear hg_ hnew_;(first|rw[←Ny777.out]at ho12|(simp only[Int.reduceToNat]at ho12;rw[←Ny777.out]at ho12));have U:=mk (Kd.R_lower (Kd.R_newB ho12 (g:=ai) (o:=.cells #[.int .i64 1,.int .i64 0,.string (⟨#[120]⟩:ByteArray),.slice none 0 0] 66 (0,0)) (zjO D)) (zad (kq20 I)));replace D:=mk (zai (g:=ai) (o:=.cells #[.int .i64 1,.int .i64 0,.string (⟨#[120]⟩:ByteArray),.slice none 0 0] 66 (0,0)) (zjO D) hb);replace HB:=mk (zaa (kq20 I) hb);clear hb ho12;obtain⟨aD,aE,aG⟩:=Kd.R_slice U.out;subst aG)|((with_reducible refine zaE (f:=44) rfl ?_);refine za7 (some 10) rfl rfl Try.func44 kq0 rfl #[.agg #[.int .i64 12,.string (⟨#[]⟩:ByteArray),.int .i64 0,.slice aD al.length aE,.slice none 0 0]] rfl kq10 ?_;refine(zb7.calls k 12 (⟨#[]⟩:ByteArray) 0 _ _ al _ _ ([]:List (S39)) t780 t781 t784 t787 t788 am _ ?side1 ?side2 ?side3 ?side4 A1.out).mono ?_;(case side1=>exact kq15 U);(case side2=>exact(Kd.R_reads' U.out).2.1);(case side3=>exact Kd.C_nil _ _);(case side4=>exact Nat.le_refl _);rintro e b9 ⟨aW,aX,rfl,ho0,ho1,hb⟩;refine⟨_,rfl,?_⟩;have Y:=mk (Kd.R_lower ho0 (zad (kq20 I)));have Z:=mk (Kd.R_lower ho1 (zad (kq20 I)));replace U:=mk (Kd.R_below (kq9 U) hb);replace D:=(bb_ D hb);replace HB:=mk (zaa (kq20 I) hb))|((with_reducible refine zao (N:=2) rfl ?_);(try(refine zbf (by rfl) ?_;dsimp only));refine zal ?hg (N:=2) ?hd (cs:=#[.int .i64 0,.slice none 0 0,.slice none 0 0,.int .i64 0,.int .i64 0]) (t:=58) ?hr ?_;(case hd=>rfl);(case hg=>rfl);(case hr=>exact kq21);intro gb790 hg ba hbox hb;have X:=mk (hbox);have aq:=(gs_ hg (kq20 I));have ag:=aq;have G:=(nl_ hg D);have aj:=(ng_ hg D);replace U:=mk (Kd.R_below (kq9 U) hb);replace Y:=mk (Kd.R_below (kq9 Y) hb);replace Z:=mk (Kd.R_below (kq9 Z) hb);replace D:=(bb_ D hb);replace HB:=mk (zaa (kq20 I) hb);clear hb hbox hg;have aM:=aj.out;have aN:=G.out;obtain⟨_,_,_,_,_,_,_,_,_,_⟩:=cz5_ X.out;obtain⟨Ao18,co18,aH⟩:=Kd.R_slice Y.out;subst aH;obtain⟨Ao19,co19,aI⟩:=Kd.R_slice Z.out;subst aI)|((with_reducible refine zao (N:=23) rfl ?_);(try(refine zbf (by rfl) ?_;dsimp only));refine Kd.R_lit Kd.string _ 9 ?hg (N:=23) ?hd (xs:=([(⟨#[120]⟩:ByteArray)]:List ByteArray)) (inner:=[.string (⟨#[120]⟩:ByteArray)]) (ok:=fun _=>True) (okp:=fun _=>True) ?hr ?hp (fun _ hk=>hk) trivial (Below.refl _ _) (Nat.le_refl _) (by simp) ?_;(case hd=>rfl);(case hg=>rfl);(case hr=>exact kq21);(case hp=>exact(Reps.one (show Kd.M Kd.string _ _ _ (⟨#[120]⟩:ByteArray) [.string (⟨#[120]⟩:ByteArray)]from rfl) (Reps.none _ _)));intro aY bb ho21 hb hg_ hnew_;clear hg_ hnew_;(first|rw[←Ny791.out]at ho21|(simp only[Int.reduceToNat]at ho21;rw[←Ny791.out]at ho21));have ah:=mk (Kd.R_lower (Kd.R_new' ho21 (Kd.R_lt (ziO Y X))) (zad (kq31 I ag)));replace U:=mk (Kd.R_below (ziO U X) hb);replace Y:=mk (Kd.R_elder' (ziO Y X) (Kd.R_base ho21) hb);replace Z:=mk (Kd.R_below (ziO Z X) hb);replace D:=mk (zai (g:=ai) (o:=.cells #[.int .i64 1,.int .i64 0,.string (⟨#[120]⟩:ByteArray),.slice none 0 0] 66 (0,0)) (by(with_reducible repeat(first|refine zag ?_ _|refine zaf ?_|refine zab ?_ _));refine zaj ?_ G.out _;(with_reducible repeat(first|refine zag ?_ _|refine zaf ?_|refine zab ?_ _));refine zaj ?_ G.out _;(with_reducible repeat(first|refine zag ?_ _|refine zaf ?_|refine zab ?_ _));refine zaj ?_ G.out _;(with_reducible repeat(first|refine zag ?_ _|refine zaf ?_|refine zab ?_ _));refine zaj ?_ G.out _;(with_reducible repeat(first|refine zag ?_ _|refine zaf ?_|refine zab ?_ _));refine zaj ?_ G.out _;(with_reducible repeat(first|refine zag ?_ _|refine zaf ?_|refine zab ?_ _));exact D.out) hb);replace X:=mk (zai (g:=gb790) (o:=.cells #[.int .i64 t780,.slice Ao18 t781.length co18,.slice Ao19 t784.length co19,.int .i64 t787,.int .i64 t788] 58 (0,0)) (by(with_reducible repeat(first|refine zag ?_ _|refine zaf ?_|refine zab ?_ _));refine zak (cs:=#[.int .i64 t780,.slice Ao18 t781.length co18,.slice Ao19 t784.length co19,.int .i64 t787,.int .i64 0]) ?_ 4 _ rfl;(with_reducible repeat(first|refine zag ?_ _|refine zaf ?_|refine zab ?_ _));refine zak (cs:=#[.int .i64 t780,.slice Ao18 t781.length co18,.slice Ao19 t784.length co19,.int .i64 0,.int .i64 0]) ?_ 3 _ rfl;(with_reducible repeat(first|refine zag ?_ _|refine zaf ?_|refine zab ?_ _));refine zak (cs:=#[.int .i64 t780,.slice Ao18 t781.length co18,.slice none 0 0,.int .i64 0,.int .i64 0]) ?_ 2 _ rfl;(with_reducible repeat(first|refine zag ?_ _|refine zaf ?_|refine zab ?_ _));refine zak (cs:=#[.int .i64 t780,.slice none 0 0,.slice none 0 0,.int .i64 0,.int .i64 0]) ?_ 1 _ rfl;(with_reducible repeat(first|refine zag ?_ _|refine zaf ?_|refine zab ?_ _));refine zak (cs:=#[.int .i64 0,.slice none 0 0,.slice none 0 0,.int .i64 0,.int .i64 0]) ?_ 0 _ rfl;(with_reducible repeat(first|refine zag ?_ _|refine zaf ?_|refine zab ?_ _));exact X.out) hb);replace HB:=mk (zaa (kq31 I ag) hb);clear hb ho21;obtain⟨aZ,b4,aJ⟩:=Kd.R_slice ah.out;subst aJ)|(go_at_call 51;(with_reducible refine(zaF.calls k _ _ t781 _ _ an true _ ?side1 ?side2 ?side3 ?side4 A4.out).mono ?_);(case side1=>exact kq15 Y);(case side2=>exact(Kd.R_reads' Y.out).2.1);(case side3=>exact kq15 ah);(case side4=>exact(Kd.R_reads' ah.out).2.1);rintro e w' ⟨rfl,⟨nd,rfl⟩⟩;obtain⟨_,_,_,_,_,_,_,_,_,_⟩:=cz5_ X.out)|((with_reducible refine zao (N:=29) rfl ?_);(try(refine zbf (by rfl) ?_;dsimp only));refine Kd.R_lit (Kd.int .i64) _ 2 ?hg (N:=29) ?hd (xs:=([(-1)]:List Int)) (inner:=[.int .i64 (-1)]) (ok:=fun _=>True) (okp:=fun _=>True) ?hr ?hp (fun _ hk=>hk) trivial (Below.refl _ _) (Nat.le_refl _) (by simp) ?_;(case hd=>rfl);(case hg=>rfl);(case hr=>exact kq21);(case hp=>exact(Reps.one (show Kd.M (Kd.int .i64) _ _ _ (-1) [.int .i64 (-1)]from rfl) (Reps.none _ _)));intro b5 bc ho25 hb hg_ hnew_;clear hg_ hnew_;(first|rw[←Ny795.out]at ho25|(simp only[Int.reduceToNat]at ho25;rw[←Ny795.out]at ho25));have ak:=mk (Kd.R_lower (Kd.R_new' ho25 (Kd.R_lt (kq9 Z))) (zad (kq31 I ag)));replace U:=mk (Kd.R_below (kq9 U) hb);replace Y:=mk (Kd.R_below (kq9 Y) hb);replace Z:=mk (Kd.R_elder' (kq9 Z) (Kd.R_base ho25) hb);replace ah:=mk (Kd.R_below (kq9 ah) hb);replace D:=(bb_ D hb);replace X:=(bb_ X hb);replace HB:=mk (zaa (kq31 I ag) hb);clear hb ho25;obtain⟨b6,b7,aK⟩:=Kd.R_slice ak.out;subst aK)|(go_at_call 52;(with_reducible refine(zaq.calls k _ _ t784 _ _ ao true _ ?side1 ?side2 ?side3 ?side4 A6.out).mono ?_);(case side1=>exact kq15 Z);(case side2=>exact(Kd.R_reads' Z.out).2.1);(case side3=>exact kq15 ak);(case side4=>exact(Kd.R_reads' ak.out).2.1);rintro e w' ⟨rfl,⟨nd,rfl⟩⟩;obtain⟨_,_,_,_,_,_,_,_,_,_⟩:=cz5_ X.out)));go_ret;exact⟨kq18,(kq31 I ag)⟩
     ·obtain⟨aA,aC⟩:=eFn_ c8;cases (Option.some.inj H).trans HRt_.out
    ·replace c7:=Bool.eq_false_iff.mpr c7;subst c7;(have H1:(some false)=some r:=by rw[if_neg (show ¬(false=true) by decide)]at H;exact H);clear H;have H:=H1;clear H1;cases (Option.some.inj H).trans HRt_.out
   ·replace c5:=Bool.eq_false_iff.mpr c5;subst c5;(have H1:(some false)=some r:=by rw[if_neg (show ¬(false=true) by decide)]at H;exact H);clear H;have H:=H1;clear H1;cases (Option.some.inj H).trans HRt_.out
  ·obtain⟨aw,ax⟩:=eFn_ c3;cases (Option.some.inj H).trans HRt_.out
 ·rw[if_neg c2]at H
  have au:=eF_ c2
  have av:=nT_ c2
  cases (Option.some.inj H).trans HRt_.out
end Go.Proofs.Ytjknpmibdkoklaa.Q
namespace Go.Proofs.Ytjknpmibdkoklaa.Q
open Go.RowKit Go.Proofs.YtjknpmibdkoklaaW.PrintWords Go.Proofs.YtjknpmibdkoklaaW.PrintLast Go.Proofs.YtjknpmibdkoklaaW.PrintMore
theorem zgo:zaX.f 20=some true:=by decide +kernel
theorem zh3:Ev (fun k=>zaX.f k) true:=Ev.of (fun k=>zaX.mono k) zgo
theorem ze9 (a b:List ByteArray) (hab:a.length=b.length) (hl:a.length<4611686018427387904):∀(n i:Nat),i≤a.length→a.length-i=n→Ev (fun k=>zaF.l0 k a b (a.length:Int) (i:Int)) (decide (a.drop i=b.drop i))
 |0,i,hi,hn=>by
  rw[List.drop_of_length_le kq1,List.drop_of_length_le kq1]
  exact Ev.step (f:=fun _=>some true) (fun k=>by
   show zaF.l0 (k+1) a b (a.length:Int) (i:Int)=_
   rw[zaF.l0,if_neg kq1]) (Ev.now _)
 |n+1,i,hi,hn=>by
  have hlt:i<a.length:=by omega
  have ih:=ze9 a b hab hl n (i+1) kq1 kq1
  have hw:wrap64 ((i:Int)+1)=((i+1:Nat):Int):=by unfold wrap64;omega
  rw[List.drop_eq_getElem_cons hlt,List.drop_eq_getElem_cons (show i<b.length by omega)]
  by_cases h:a[i]=b[i]
  ·refine Ev.step (f:=fun k=>zaF.l0 k a b (a.length:Int) ((i+1:Nat):Int)) (fun k=>?_) ?_
   ·show zaF.l0 (k+1) a b (a.length:Int) (i:Int)=_
    rw[zaF.l0,if_pos kq1,if_pos kq1,if_pos kq1,if_pos kq1,zcM hlt,zcM (show i<b.length by omega),if_pos (by rw[h]),hw]
   ·rw[h,show decide (b[i]::a.drop (i+1)=b[i]::b.drop (i+1))=decide (a.drop (i+1)=b.drop (i+1))from decide_eq_decide.2 ⟨fun e=>(List.cons.inj e).2,fun e=>by rw[e]⟩]
    exact ih
  ·refine Ev.step (f:=fun _=>some false) (fun k=>?_) ?_
   ·show zaF.l0 (k+1) a b (a.length:Int) (i:Int)=_
    rw[zaF.l0,if_pos kq1,if_pos kq1,if_pos kq1,if_pos kq1,zcM hlt,zcM (show i<b.length by omega),if_neg (fun e=>h (zgU (by rw[←zfX,←zfX,e])))]
   ·rw[decide_eq_false (fun e=>h (List.cons.inj e).1)]
    exact Ev.now _
theorem zix (a b:List ByteArray) (hl:a.length<4611686018427387904):Ev (fun k=>zaF.f k a b) (decide (a=b)):=by
 unfold zaF.f
 by_cases h:a.length=b.length
 ·refine Ev.congr (fun k=>if_pos kq1) ?_
  exact ze9 a b h hl _ 0 (Nat.zero_le _) rfl
 ·refine Ev.congr (fun k=>if_neg kq1) ?_
  rw[decide_eq_false (fun e=>h (by rw[e]))]
  exact Ev.now _
theorem zdU (a b:List Int) (hab:a.length=b.length) (hl:a.length<4611686018427387904):∀(n i:Nat),i≤a.length→a.length-i=n→Ev (fun k=>zaq.l0 k a b (a.length:Int) (i:Int)) (decide (a.drop i=b.drop i))
 |0,i,hi,hn=>by
  rw[List.drop_of_length_le kq1,List.drop_of_length_le kq1]
  exact Ev.step (f:=fun _=>some true) (fun k=>by
   show zaq.l0 (k+1) a b (a.length:Int) (i:Int)=_
   rw[zaq.l0,if_neg kq1]) (Ev.now _)
 |n+1,i,hi,hn=>by
  have hlt:i<a.length:=by omega
  have ih:=zdU a b hab hl n (i+1) kq1 kq1
  have hw:wrap64 ((i:Int)+1)=((i+1:Nat):Int):=by unfold wrap64;omega
  rw[List.drop_eq_getElem_cons hlt,List.drop_eq_getElem_cons (show i<b.length by omega)]
  by_cases h:a[i]=b[i]
  ·refine Ev.step (f:=fun k=>zaq.l0 k a b (a.length:Int) ((i+1:Nat):Int)) (fun k=>?_) ?_
   ·show zaq.l0 (k+1) a b (a.length:Int) (i:Int)=_
    rw[zaq.l0,if_pos kq1,if_pos kq1,if_pos kq1,if_pos kq1,zcQ hlt,zcQ (show i<b.length by omega),if_pos h,hw]
   ·rw[h,show decide (b[i]::a.drop (i+1)=b[i]::b.drop (i+1))=decide (a.drop (i+1)=b.drop (i+1))from decide_eq_decide.2 ⟨fun e=>(List.cons.inj e).2,fun e=>by rw[e]⟩]
    exact ih
  ·refine Ev.step (f:=fun _=>some false) (fun k=>?_) ?_
   ·show zaq.l0 (k+1) a b (a.length:Int) (i:Int)=_
    rw[zaq.l0,if_pos kq1,if_pos kq1,if_pos kq1,if_pos kq1,zcQ hlt,zcQ (show i<b.length by omega),if_neg h]
   ·rw[decide_eq_false (fun e=>h (List.cons.inj e).1)]
    exact Ev.now _
theorem zgp (a b:List Int) (hl:a.length<4611686018427387904):Ev (fun k=>zaq.f k a b) (decide (a=b)):=by
 unfold zaq.f
 by_cases h:a.length=b.length
 ·refine Ev.congr (fun k=>if_pos kq1) ?_
  exact zdU a b h hl _ 0 (Nat.zero_le _) rfl
 ·refine Ev.congr (fun k=>if_neg kq1) ?_
  rw[decide_eq_false (fun e=>h (by rw[e]))]
  exact Ev.now _
end Go.Proofs.Ytjknpmibdkoklaa.Q
namespace Go.Proofs.Ytjknpmibdkoklaa.Q
open Go.RowKit Go.Proofs.YtjknpmibdkoklaaW.PrintWords Go.Proofs.YtjknpmibdkoklaaW.PrintLast Go.Proofs.YtjknpmibdkoklaaW.PrintMore
open Aside0 (mk)
open List (setIfInBounds_toArray set_cons_zero set_cons_succ)
attribute [local go_sem] zbw zbz zbP zbQ zbm zbn zbA zbB
set_option linter.unusedVariables false
set_option linter.unusedSimpArgs false
attribute [local go_sem] zbS zbD zbE zbF
def za9.f (k:Nat) (a0_0 a0_1:Int) (a0_2:ByteArray) (l0_3:List (S66)):Option (List ByteArray × List Int × Int × Int):=(zbh.f a0_0 a0_1 a0_2 l0_3).bind fun t1208=>(if t1208=0 then((zae.f k a0_0 a0_1 a0_2 l0_3).bind fun bt1209=>(if bt1209.2.2.2=0 then(some (bt1209.1,bt1209.2.1,bt1209.2.2.1,bt1209.2.2.2))else(some (([]:List ByteArray),([]:List Int),0,bt1209.2.2.2))))else(some (([]:List ByteArray),([]:List Int),0,t1208)))
theorem za9.mono:∀a0 r D a3 k,LeO (za9.f k a0 r D a3) (za9.f (k+1) a0 r D a3):=by
 intro a0 r D a3 k
 unfold za9.f
 repeat' first
  |(with_reducible exact zae.mono _ _ _ _ _)
  |(with_reducible exact LeO.refl _)
  |(with_reducible exact LeO.none _)
  |(with_reducible refine LeO.ite ?_ ?_)
  |(with_reducible refine LeO.bind ?_ (fun _=>?_))
  |exact zae.mono _ _ _ _ _
  |exact LeO.none _
  |refine LeO.ite ?_ ?_
  |refine LeO.bind ?_ (fun _=>?_)
set_option maxHeartbeats 8000000 in
theorem za9.calls (k:Nat) (Z a0_1:Int) (a0_2:ByteArray) (an:Option Addr) (ao:Nat) (U:List (S66)) (r1:List ByteArray) (r2:List Int) (r3 r4:Int) (w:World) (aD:Kd.C k66 w an U.length U) (hc0_3:U.length≤ao) (h:za9.f k Z a0_1 a0_2 U=some (r1,r2,r3,r4)) :
 Calls Try.prog 50 #[.agg #[.int .i64 Z,.int .i64 a0_1,.string a0_2,.slice an U.length ao]] w fun e w'=>∃aH aE:Value,e= .returned (.agg #[aH,aE,.int .i64 r3,.int .i64 r4])∧Kd.V Kd.string 9 w' w.heap.size (fun k_=>(w.heap.size≤k_)∧some k_≠(aE:Value).ownBlock) aH r1∧Kd.R (Kd.int .i64) 2 w' w.heap.size (fun k_=>(w.heap.size≤k_)) aE r2∧Below w.heap.size w w':=by
 have bd:=Try.underlying66
 have be:=Try.underlying74
 have ax:=mk aD
 have ay:=mk hc0_3
 clear aD hc0_3
 have HB:=mk (Below.refl w.heap.size w)
 have H:((zbh.f Z a0_1 a0_2 U).bind fun ah=>(if ah=0 then((zae.f k Z a0_1 a0_2 U).bind fun X=>(if X.2.2.2=0 then(some (X.1,X.2.1,X.2.2.1,X.2.2.2))else(some (([]:List ByteArray),([]:List Int),0,X.2.2.2))))else(some (([]:List ByteArray),([]:List Int),0,ah))))=some (r1,r2,r3,r4):=h
 clear h
 replace H:=Option.bind_eq_some_iff.mp H
 obtain⟨ah,aI,H⟩:=H
 replace H:(if ah=0 then((zae.f k Z a0_1 a0_2 U).bind fun X=>(if X.2.2.2=0 then(some (X.1,X.2.1,X.2.2.1,X.2.2.2))else(some (([]:List ByteArray),([]:List Int),0,X.2.2.2))))else(some (([]:List ByteArray),([]:List Int),0,ah)))=some (r1,r2,r3,r4):=H
 have A2:=mk aI
 clear aI
 by_cases c3:ah=0
 ·rw[if_pos c3]at H
  have aJ:=eT_ c3
  have aK:=nF_ c3
  clear c3
  replace H:=Option.bind_eq_some_iff.mp H
  obtain⟨⟨ac,ai,aj,ae⟩,aM,H⟩:=H
  replace H:(if ae=0 then(some (ac,ai,aj,ae))else(some (([]:List ByteArray),([]:List Int),0,ae)))=some (r1,r2,r3,r4):=H
  have A4:=mk aM
  clear aM
  replace H:=ic_ H;obtain⟨c5,H⟩|⟨c5,H⟩:=H
  ·obtain⟨aN,aQ⟩:=eTn_ c5;clear c5;simp only[Option.some.injEq,Prod.mk.injEq]at H;obtain⟨rfl,rfl,rfl,rfl⟩:=H;(go_enter Try.func50,Try.ntmps50);(go_wp2_with (first|((with_reducible refine zao (N:=1) rfl ?_);refine zal ?hg (N:=1) ?hd (cs:=#[.int .i64 Z,.int .i64 a0_1,.string a0_2,.slice an U.length ao]) (t:=66) ?hr ?_;(case hd=>rfl);(case hg=>rfl);(case hr=>exact kq21);intro ap hg w6 hbox hb;have r:=mk (hbox);have aq:=(gs_ hg kq8);have G:=aq;replace HB:=mk (zaa kq8 hb);clear hb hbox hg)|((with_reducible refine zao (N:=2) rfl ?_);refine zal ?hg (N:=2) ?hd (cs:=#[.slice none 0 0,.slice none 0 0,.int .i64 0,.int .i64 0]) (t:=74) ?hr ?_;(case hd=>rfl);(case hg=>rfl);(case hr=>exact kq21);intro J hg w7 hbox hb;have D:=mk (hbox);have ar:=(gs_ hg (kq20 G));have I:=ar;have aa:=(nl_ hg r);have ab:=(ng_ hg r);replace r:=(bb_ r hb);replace HB:=mk (zaa (kq20 G) hb);clear hb hbox hg;have bf:=aa.out;have bg:=ab.out;obtain⟨_,_,_,_,_,_,_,_⟩:=cz4_ r.out)|((with_reducible refine zaE (f:=89) rfl ?_);refine za7 (some 6) rfl rfl Try.func89 kq0 rfl #[.agg #[.int .i64 Z,.int .i64 a0_1,.string a0_2,.slice an U.length ao]] rfl kq10 ?_;(with_reducible refine(zbh.calls Z a0_1 a0_2 _ _ U ah _ ?side1 ?side2 A2.out).mono ?_);(case side1=>exact kq25 ax);(case side2=>exact ay.out);rintro e bj ⟨rfl,hb⟩;refine⟨_,rfl,?_⟩;replace r:=(bb_ r hb);replace D:=(bb_ D hb);replace HB:=mk (zaa (kq31 G I) hb);obtain⟨_,_,_,_,_,_,_,_⟩:=cz4_ r.out)|((with_reducible refine zaE (f:=90) rfl ?_);refine za7 (some 12) rfl rfl Try.func90 kq0 rfl #[.agg #[.int .i64 Z,.int .i64 a0_1,.string a0_2,.slice an U.length ao]] rfl kq10 ?_;(with_reducible refine(zae.calls k Z a0_1 a0_2 _ _ U ac ai aj ae _ ?side1 ?side2 A4.out).mono ?_);(case side1=>exact kq25 ax);(case side2=>exact ay.out);rintro e bk ⟨aG,aC,rfl,ho0,ho1,hb⟩;refine⟨_,rfl,?_⟩;have af:=mk (Kd.V_lower (Kd.V_mono (ok':=fun k_=>(w.heap.size≤k_)∧some k_≠(aC:Value).ownBlock∧k_≠ap∧k_≠J) ho0 (fun k_ hk_=>⟨(Nat.le_trans (zad (kq31 G I)) hk_.1),hk_.2,(Kd.freshB (g:=ap) (o:=.cells #[.int .i64 Z,.int .i64 a0_1,.string a0_2,.slice an U.length ao] 66 (0,0)) (kq22 r) k_ hk_.1),(Kd.freshB (g:=J) (o:=.cells #[.slice none 0 0,.slice none 0 0,.int .i64 0,.int .i64 0] 74 (0,0)) (kq22 D) k_ hk_.1)⟩)) (zad (kq31 G I)));have ag:=mk (Kd.R_lower (Kd.R_newM (M:=fun k_=>(w.heap.size≤k_)) (Kd.R_mono (ok':=fun k_=>True) ho1 (fun _ hk_=>trivial)) (zad (kq31 G I)) (fun k_ h_=>h_)) (zad (kq31 G I)));replace r:=(bb_ r hb);replace D:=(bb_ D hb);replace HB:=mk (zaa (kq31 G I) hb))|((with_reducible refine zao (N:=4) rfl ?_);refine zal ?hg (N:=4) ?hd (cs:=#[.slice none 0 0,.slice none 0 0,.int .i64 0,.int .i64 0]) (t:=74) ?hr ?_;(case hd=>rfl);(case hg=>rfl);(case hr=>exact kq21);intro Y hg bm hbox hb;have aw:=mk (hbox);have az:=(gs_ hg (kq31 G I));have aA:=az;have ak:=(nl_ hg r);have al:=(ng_ hg r);have L:=(nl_ hg D);have am:=(ng_ hg D);replace af:=mk (Kd.V_below (Kd.V_elderB (kq23 af) Y (Nat.le_of_eq hg.symm)) hb);replace ag:=mk (Kd.R_below (kq9 ag) hb);replace r:=(bb_ r hb);replace D:=(bb_ D hb);replace HB:=mk (zaa (kq31 G I) hb);clear hb hbox hg;obtain⟨au,av,aT⟩:=Kd.V_slice af.out;subst aT;have aX:=al.out;have aY:=ak.out;have aZ:=am.out;have b4:=L.out;obtain⟨_,_,_,_,_,_,_,_⟩:=cz4_ aw.out;obtain⟨Ao18,co18,aU⟩:=Kd.R_slice ag.out;subst aU;obtain⟨_,_,_,_,_,_,_,_⟩:=cz4_ D.out)));refine bodyPost_ret (results_cell_row rfl _ _ J 74 #[.slice au ac.length av,.slice Ao18 ai.length co18,.int .i64 aj,.int .i64 ae] (0,0) _ rfl (by(with_reducible repeat(first|refine zag ?_ _|refine zaf ?_|refine zab ?_ _));refine zak (cs:=#[.slice au ac.length av,.slice Ao18 ai.length co18,.int .i64 aj,.int .i64 0]) ?_ 3 _ rfl;(with_reducible repeat(first|refine zag ?_ _|refine zaf ?_|refine zab ?_ _));refine zak (cs:=#[.slice au ac.length av,.slice Ao18 ai.length co18,.int .i64 0,.int .i64 0]) ?_ 2 _ rfl;(with_reducible repeat(first|refine zag ?_ _|refine zaf ?_|refine zab ?_ _));refine zak (cs:=#[.slice au ac.length av,.slice none 0 0,.int .i64 0,.int .i64 0]) ?_ 1 _ rfl;(with_reducible repeat(first|refine zag ?_ _|refine zaf ?_|refine zab ?_ _));refine zak (cs:=#[.slice none 0 0,.slice none 0 0,.int .i64 0,.int .i64 0]) ?_ 0 _ rfl;(with_reducible repeat(first|refine zag ?_ _|refine zaf ?_|refine zab ?_ _));refine zaj ?_ L.out _;(with_reducible repeat(first|refine zag ?_ _|refine zaf ?_|refine zab ?_ _));refine zaj ?_ L.out _;(with_reducible repeat(first|refine zag ?_ _|refine zaf ?_|refine zab ?_ _));refine zaj ?_ L.out _;(with_reducible repeat(first|refine zag ?_ _|refine zaf ?_|refine zab ?_ _));refine zaj ?_ L.out _;(with_reducible repeat(first|refine zag ?_ _|refine zaf ?_|refine zab ?_ _));exact D.out) Try.underlying74 rfl kq0) rfl ?_;exact⟨_,_,kq18,by(with_reducible repeat(first|apply Kd.V_alloc|apply Kd.V_drewN|apply Kd.V_drew));exact Kd.V_mono (Kd.V_far (p:=⟨J,3,none⟩) (Kd.V_far (p:=⟨J,2,none⟩) (Kd.V_far (p:=⟨J,1,none⟩) (Kd.V_far (p:=⟨J,0,none⟩) (Kd.V_far (p:=⟨Y,3,none⟩) (Kd.V_far (p:=⟨Y,2,none⟩) (Kd.V_far (p:=⟨Y,1,none⟩) (Kd.V_far (p:=⟨Y,0,none⟩) (Kd.V_mono (Kd.V_mono af.out (fun k_ hk=>(⟨hk,hk.2⟩:_∧k_≠Y))) (fun k_ hk=>(⟨hk,hk.1.1.2.2.2⟩:_∧k_≠J))) (fun _ hk=>hk.1.2) (.slice au ac.length av)) (fun _ hk=>hk.1.2) (.slice Ao18 ai.length co18)) (fun _ hk=>hk.1.2) (.int .i64 aj)) (fun _ hk=>hk.1.2) (.int .i64 ae)) (fun _ hk=>hk.2) (.slice au ac.length av)) (fun _ hk=>hk.2) (.slice Ao18 ai.length co18)) (fun _ hk=>hk.2) (.int .i64 aj)) (fun _ hk=>hk.2) (.int .i64 ae)) (fun _ hk=>⟨hk.1.1.1.1,hk.1.1.1.2.1⟩),by(with_reducible repeat(first|apply Kd.R_alloc|apply Kd.R_drewN|apply Kd.R_drew));exact Kd.R_mono (Kd.R_far (p:=⟨J,3,none⟩) (Kd.R_far (p:=⟨J,2,none⟩) (Kd.R_far (p:=⟨J,1,none⟩) (Kd.R_far (p:=⟨J,0,none⟩) (Kd.R_far (p:=⟨Y,3,none⟩) (Kd.R_far (p:=⟨Y,2,none⟩) (Kd.R_far (p:=⟨Y,1,none⟩) (Kd.R_far (p:=⟨Y,0,none⟩) (Kd.R_types (Kd.R_types ag.out aw.out kq2) D.out kq2) (fun _ hk=>hk.1.2) (.slice au ac.length av)) (fun _ hk=>hk.1.2) (.slice Ao18 ai.length co18)) (fun _ hk=>hk.1.2) (.int .i64 aj)) (fun _ hk=>hk.1.2) (.int .i64 ae)) (fun _ hk=>hk.2) (.slice au ac.length av)) (fun _ hk=>hk.2) (.slice Ao18 ai.length co18)) (fun _ hk=>hk.2) (.int .i64 aj)) (fun _ hk=>hk.2) (.int .i64 ae)) (fun _ hk=>hk.1.1.1),(kq36 G I aA)⟩
  ·obtain⟨aN,aQ⟩:=eFn_ c5;simp only[Option.some.injEq,Prod.mk.injEq]at H;obtain⟨rfl,rfl,rfl,rfl⟩:=H;(go_enter Try.func50,Try.ntmps50);(go_wp2_with (first|((with_reducible refine zao (N:=1) rfl ?_);refine zal ?hg (N:=1) ?hd (cs:=#[.int .i64 Z,.int .i64 a0_1,.string a0_2,.slice an U.length ao]) (t:=66) ?hr ?_;(case hd=>rfl);(case hg=>rfl);(case hr=>exact kq21);intro ap hg bn hbox hb;have r:=mk (hbox);have aq:=(gs_ hg kq8);have G:=aq;replace HB:=mk (zaa kq8 hb);clear hb hbox hg)|((with_reducible refine zao (N:=2) rfl ?_);refine zal ?hg (N:=2) ?hd (cs:=#[.slice none 0 0,.slice none 0 0,.int .i64 0,.int .i64 0]) (t:=74) ?hr ?_;(case hd=>rfl);(case hg=>rfl);(case hr=>exact kq21);intro J hg bo hbox hb;have D:=mk (hbox);have ar:=(gs_ hg (kq20 G));have I:=ar;have aa:=(nl_ hg r);have ab:=(ng_ hg r);replace r:=(bb_ r hb);replace HB:=mk (zaa (kq20 G) hb);clear hb hbox hg;have b5:=aa.out;have b6:=ab.out;obtain⟨_,_,_,_,_,_,_,_⟩:=cz4_ r.out)|((with_reducible refine zaE (f:=89) rfl ?_);refine za7 (some 6) rfl rfl Try.func89 kq0 rfl #[.agg #[.int .i64 Z,.int .i64 a0_1,.string a0_2,.slice an U.length ao]] rfl kq10 ?_;(with_reducible refine(zbh.calls Z a0_1 a0_2 _ _ U ah _ ?side1 ?side2 A2.out).mono ?_);(case side1=>exact kq25 ax);(case side2=>exact ay.out);rintro e bp ⟨rfl,hb⟩;refine⟨_,rfl,?_⟩;replace r:=(bb_ r hb);replace D:=(bb_ D hb);replace HB:=mk (zaa (kq31 G I) hb);obtain⟨_,_,_,_,_,_,_,_⟩:=cz4_ r.out)|((with_reducible refine zaE (f:=90) rfl ?_);refine za7 (some 12) rfl rfl Try.func90 kq0 rfl #[.agg #[.int .i64 Z,.int .i64 a0_1,.string a0_2,.slice an U.length ao]] rfl kq10 ?_;(with_reducible refine(zae.calls k Z a0_1 a0_2 _ _ U ac ai aj ae _ ?side1 ?side2 A4.out).mono ?_);(case side1=>exact kq25 ax);(case side2=>exact ay.out);rintro e br ⟨aG,aC,rfl,ho0,ho1,hb⟩;refine⟨_,rfl,?_⟩;have af:=mk (Kd.V_lower (Kd.V_mono (ok':=fun k_=>(w.heap.size≤k_)∧some k_≠(aC:Value).ownBlock∧k_≠ap∧k_≠J) ho0 (fun k_ hk_=>⟨(Nat.le_trans (zad (kq31 G I)) hk_.1),hk_.2,(Kd.freshB (g:=ap) (o:=.cells #[.int .i64 Z,.int .i64 a0_1,.string a0_2,.slice an U.length ao] 66 (0,0)) (kq22 r) k_ hk_.1),(Kd.freshB (g:=J) (o:=.cells #[.slice none 0 0,.slice none 0 0,.int .i64 0,.int .i64 0] 74 (0,0)) (kq22 D) k_ hk_.1)⟩)) (zad (kq31 G I)));have ag:=mk (Kd.R_lower (Kd.R_newM (M:=fun k_=>(w.heap.size≤k_)) (Kd.R_mono (ok':=fun k_=>True) ho1 (fun _ hk_=>trivial)) (zad (kq31 G I)) (fun k_ h_=>h_)) (zad (kq31 G I)));replace r:=(bb_ r hb);replace D:=(bb_ D hb);replace HB:=mk (zaa (kq31 G I) hb))|((with_reducible refine zao (N:=4) rfl ?_);refine zal ?hg (N:=4) ?hd (cs:=#[.slice none 0 0,.slice none 0 0,.int .i64 0,.int .i64 0]) (t:=74) ?hr ?_;(case hd=>rfl);(case hg=>rfl);(case hr=>exact kq21);intro Y hg bs hbox hb;have aw:=mk (hbox);have az:=(gs_ hg (kq31 G I));have aA:=az;have ak:=(nl_ hg r);have al:=(ng_ hg r);have L:=(nl_ hg D);have am:=(ng_ hg D);replace af:=mk (Kd.V_below (Kd.V_elderB (kq23 af) Y (Nat.le_of_eq hg.symm)) hb);replace ag:=mk (Kd.R_below (kq9 ag) hb);replace r:=(bb_ r hb);replace D:=(bb_ D hb);replace HB:=mk (zaa (kq31 G I) hb);clear hb hbox hg;obtain⟨bh,bi,aV⟩:=Kd.V_slice af.out;subst aV;have b7:=al.out;have b8:=ak.out;have b9:=am.out;have ba:=L.out;obtain⟨_,_,_,_,_,_,_,_⟩:=cz4_ aw.out;obtain⟨Ao32,co32,aW⟩:=Kd.R_slice ag.out;subst aW;obtain⟨_,_,_,_,_,_,_,_⟩:=cz4_ D.out)));refine bodyPost_ret (results_cell_row rfl _ _ J 74 #[.slice none 0 0,.slice none 0 0,.int .i64 0,.int .i64 ae] (0,0) _ rfl (kq95 L D) Try.underlying74 rfl kq0) rfl ?_;exact⟨_,_,kq18,Kd.V_nil _ _ _ _ _,kq16,(kq36 G I aA)⟩
 ·rw[if_neg c3]at H
  have aJ:=eF_ c3
  have aK:=nT_ c3
  simp only[Option.some.injEq,Prod.mk.injEq]at H
  obtain⟨rfl,rfl,rfl,rfl⟩:=H
  go_enter Try.func50,Try.ntmps50
  go_wp2_with (first|((with_reducible refine zao (N:=1) rfl ?_);refine zal ?hg (N:=1) ?hd (cs:=#[.int .i64 Z,.int .i64 a0_1,.string a0_2,.slice an U.length ao]) (t:=66) ?hr ?_;(case hd=>rfl);(case hg=>rfl);(case hr=>exact kq21);intro ap hg bu hbox hb;have r:=mk (hbox);have aq:=(gs_ hg kq8);have G:=aq;replace HB:=mk (zaa kq8 hb);clear hb hbox hg)|((with_reducible refine zao (N:=2) rfl ?_);refine zal ?hg (N:=2) ?hd (cs:=#[.slice none 0 0,.slice none 0 0,.int .i64 0,.int .i64 0]) (t:=74) ?hr ?_;(case hd=>rfl);(case hg=>rfl);(case hr=>exact kq21);intro J hg bv hbox hb;have D:=mk (hbox);have ar:=(gs_ hg (kq20 G));have I:=ar;have aa:=(nl_ hg r);have ab:=(ng_ hg r);replace r:=(bb_ r hb);replace HB:=mk (zaa (kq20 G) hb);clear hb hbox hg;have bb:=aa.out;have bc:=ab.out;obtain⟨_,_,_,_,_,_,_,_⟩:=cz4_ r.out)|((with_reducible refine zaE (f:=89) rfl ?_);refine za7 (some 6) rfl rfl Try.func89 kq0 rfl #[.agg #[.int .i64 Z,.int .i64 a0_1,.string a0_2,.slice an U.length ao]] rfl kq10 ?_;(with_reducible refine(zbh.calls Z a0_1 a0_2 _ _ U ah _ ?side1 ?side2 A2.out).mono ?_);(case side1=>exact kq25 ax);(case side2=>exact ay.out);rintro e bw ⟨rfl,hb⟩;refine⟨_,rfl,?_⟩;replace r:=(bb_ r hb);replace D:=(bb_ D hb);replace HB:=mk (zaa (kq31 G I) hb);obtain⟨_,_,_,_,_,_,_,_⟩:=cz4_ D.out))
  refine bodyPost_ret (results_cell_row rfl _ _ J 74 #[.slice none 0 0,.slice none 0 0,.int .i64 0,.int .i64 ah] (0,0) _ rfl (kq74 D) Try.underlying74 rfl kq0) rfl ?_
  exact⟨_,_,kq18,Kd.V_nil _ _ _ _ _,kq16,(kq31 G I)⟩
def tabardlaw09_NormLinear.f (k:Nat) (a0_0 a0_1:Int) (a0_2:ByteArray) (l0_3:List (S66)):Option (Bool):=(zbL.f k a0_0 a0_1 a0_2 l0_3).bind fun bt1219=>((za9.f k a0_0 a0_1 a0_2 l0_3).bind fun bt1227=>((zaX.f k).bind fun t1236=>(if t1236=true then(if bt1219.2.2.2=bt1227.2.2.2 then((zaF.f k bt1219.1 bt1227.1).bind fun t1237=>(if t1237=true then((zaq.f k bt1219.2.1 bt1227.2.1).bind fun t1238=>(if t1238=true then(some (bt1219.2.2.1==bt1227.2.2.1))else(some false)))else(some false)))else(some false))else(some false))))
theorem tabardlaw09_NormLinear.mono:∀a0 r D a3 k,LeO (tabardlaw09_NormLinear.f k a0 r D a3) (tabardlaw09_NormLinear.f (k+1) a0 r D a3):=by
 intro a0 r D a3 k
 unfold tabardlaw09_NormLinear.f
 repeat' first
  |(with_reducible exact zbL.mono _ _ _ _ _)
  |(with_reducible exact zaX.mono _)
  |(with_reducible exact zaq.mono _ _ _)
  |(with_reducible exact zaF.mono _ _ _)
  |(with_reducible exact za9.mono _ _ _ _ _)
  |(with_reducible exact LeO.refl _)
  |(with_reducible exact LeO.none _)
  |(with_reducible refine LeO.ite ?_ ?_)
  |(with_reducible refine LeO.bind ?_ (fun _=>?_))
  |exact zbL.mono _ _ _ _ _
  |exact zaX.mono _
  |exact zaq.mono _ _ _
  |exact zaF.mono _ _ _
  |exact za9.mono _ _ _ _ _
  |exact LeO.none _
  |refine LeO.ite ?_ ?_
  |refine LeO.bind ?_ (fun _=>?_)
set_option maxHeartbeats 8000000 in
theorem tabardlaw09_NormLinear.calls (k:Nat) (ac a0_1:Int) (a0_2:ByteArray) (aj:Option Addr) (ak:Nat) (X:List (S66)) (r:Bool) (w:World) (ap:Kd.C k66 w aj X.length X) (hc0_3:X.length≤ak) (h:tabardlaw09_NormLinear.f k ac a0_1 a0_2 X=some r) (hr:r=true) :
 Calls Try.prog 13 #[.agg #[.int .i64 ac,.int .i64 a0_1,.string a0_2,.slice aj X.length ak]] w fun e w'=>e= .returned (.bool r)∧Below w.heap.size w w':=by
 have HRt_:=mk hr
 clear hr
 have aV:=Try.underlying66
 have aW:=Try.underlying74
 have aq:=mk ap
 have ar:=mk hc0_3
 clear ap hc0_3
 have HB:=mk (Below.refl w.heap.size w)
 have H:((zbL.f k ac a0_1 a0_2 X).bind fun ai=>((za9.f k ac a0_1 a0_2 X).bind fun U=>((zaX.f k).bind fun ae=>(if ae=true then(if ai.2.2.2=U.2.2.2 then((zaF.f k ai.1 U.1).bind fun M=>(if M=true then((zaq.f k ai.2.1 U.2.1).bind fun G=>(if G=true then(some (ai.2.2.1==U.2.2.1))else(some false)))else(some false)))else(some false))else(some false)))))=some r:=h
 clear h
 replace H:=Option.bind_eq_some_iff.mp H
 obtain⟨⟨ah,af,Y,al⟩,aA,H⟩:=H
 replace H:((za9.f k ac a0_1 a0_2 X).bind fun U=>((zaX.f k).bind fun ae=>(if ae=true then(if al=U.2.2.2 then((zaF.f k ah U.1).bind fun M=>(if M=true then((zaq.f k af U.2.1).bind fun G=>(if G=true then(some (Y==U.2.2.1))else(some false)))else(some false)))else(some false))else(some false))))=some r:=H
 have A2:=mk aA
 clear aA
 replace H:=Option.bind_eq_some_iff.mp H
 obtain⟨⟨t1227,t1230,t1233,t1234⟩,aC,H⟩:=H
 replace H:((zaX.f k).bind fun ae=>(if ae=true then(if al=t1234 then((zaF.f k ah t1227).bind fun M=>(if M=true then((zaq.f k af t1230).bind fun G=>(if G=true then(some (Y==t1233))else(some false)))else(some false)))else(some false))else(some false)))=some r:=H
 have A3:=mk aC
 clear aC
 replace H:=Option.bind_eq_some_iff.mp H
 obtain⟨ae,aD,H⟩:=H
 replace H:(if ae=true then(if al=t1234 then((zaF.f k ah t1227).bind fun M=>(if M=true then((zaq.f k af t1230).bind fun G=>(if G=true then(some (Y==t1233))else(some false)))else(some false)))else(some false))else(some false))=some r:=H
 have A4:=mk aD
 clear aD
 by_cases c5:ae=true
 ·subst c5
  have H1:(if al=t1234 then((zaF.f k ah t1227).bind fun M=>(if M=true then((zaq.f k af t1230).bind fun G=>(if G=true then(some (Y==t1233))else(some false)))else(some false)))else(some false))=some r:=by rw[if_pos rfl]at H;exact H
  clear H
  have H:=H1
  clear H1
  replace H:=ic_ H;obtain⟨c6,H⟩|⟨c6,H⟩:=H
  ·obtain⟨aE,aG⟩:=eTn_ c6;clear c6;replace H:=Option.bind_eq_some_iff.mp H;obtain⟨M,aH,H⟩:=H;replace H:(if M=true then((zaq.f k af t1230).bind fun G=>(if G=true then(some (Y==t1233))else(some false)))else(some false))=some r:=H;have A7:=mk aH;clear aH;(by_cases c8:M=true)
   ·subst c8;(have H1:((zaq.f k af t1230).bind fun G=>(if G=true then(some (Y==t1233))else(some false)))=some r:=by rw[if_pos rfl]at H;exact H);clear H;have H:=H1;clear H1;replace H:=Option.bind_eq_some_iff.mp H;obtain⟨G,aI,H⟩:=H;replace H:(if G=true then(some (Y==t1233))else(some false))=some r:=H;have A9:=mk aI;clear aI;(by_cases au:G=true)
    ·subst au;(have H1:(some (Y==t1233))=some r:=by rw[if_pos rfl]at H;exact H);clear H;have H:=H1;clear H1;obtain rfl:=Option.some.inj H;(go_enter Try.func13,Try.ntmps13);(go_wp2_with (first|((with_reducible refine zao (N:=1) rfl ?_);refine zal ?hg (N:=1) ?hd (cs:=#[.int .i64 ac,.int .i64 a0_1,.string a0_2,.slice aj X.length ak]) (t:=66) ?hr ?_;(case hd=>rfl);(case hg=>rfl);(case hr=>exact kq21);intro am hg b5 hbox hb;have D:=mk (hbox);have av:=(gs_ hg kq8);have J:=av;replace HB:=mk (zaa kq8 hb);clear hb hbox hg;obtain⟨_,_,_,_,_,_,_,_⟩:=cz4_ D.out)|((with_reducible refine zaE (f:=49) rfl ?_);refine za7 (some 10) rfl rfl Try.func49 kq0 rfl #[.agg #[.int .i64 ac,.int .i64 a0_1,.string a0_2,.slice aj X.length ak]] rfl kq10 ?_;(with_reducible refine(zbL.calls k ac a0_1 a0_2 _ _ X ah af Y al _ ?side1 ?side2 A2.out).mono ?_);(case side1=>exact kq25 aq);(case side2=>exact ar.out);rintro e b6 ⟨ax,ay,rfl,ho0,ho1,hb⟩;refine⟨_,rfl,?_⟩;have L:=mk (Kd.R_lower ho0 (zad (kq20 J)));have I:=mk (Kd.R_lower ho1 (zad (kq20 J)));replace D:=(bb_ D hb);replace HB:=mk (zaa (kq20 J) hb);obtain⟨_,_,_,_,_,_,_,_⟩:=cz4_ D.out)|((with_reducible refine zaE (f:=50) rfl ?_);refine za7 (some 16) rfl rfl Try.func50 kq0 rfl #[.agg #[.int .i64 ac,.int .i64 a0_1,.string a0_2,.slice aj X.length ak]] rfl kq10 ?_;(with_reducible refine(za9.calls k ac a0_1 a0_2 _ _ X t1227 t1230 t1233 t1234 _ ?side1 ?side2 A3.out).mono ?_);(case side1=>exact kq25 aq);(case side2=>exact ar.out);rintro e b7 ⟨aQ,az,rfl,ho0,ho1,hb⟩;refine⟨_,rfl,?_⟩;have Z:=mk (Kd.V_lower (Kd.V_mono (ok':=fun k_=>some k_≠(az:Value).ownBlock∧some k_≠(ax:Value).ownBlock∧some k_≠(ay:Value).ownBlock∧k_≠am) ho0 (fun k_ hk_=>⟨hk_.2,(Kd.fresh' (Kd.R_lt (kq9 L)) k_ hk_.1),(Kd.fresh' (Kd.R_lt (kq9 I)) k_ hk_.1),(Kd.freshB (g:=am) (o:=.cells #[.int .i64 ac,.int .i64 a0_1,.string a0_2,.slice aj X.length ak] 66 (0,0)) (kq22 D) k_ hk_.1)⟩)) (zad (kq20 J)));have aa:=mk (Kd.R_lower (Kd.R_new' (Kd.R_mono (ok':=fun k_=>True) ho1 (fun _ hk_=>trivial)) (Kd.R_lt (kq9 I))) (zad (kq20 J)));replace L:=mk (Kd.R_below (kq9 L) hb);replace I:=mk (Kd.R_elder' (kq9 I) (Kd.R_base ho1) hb);replace D:=(bb_ D hb);replace HB:=mk (zaa (kq20 J) hb))|((with_reducible refine zao (N:=7) rfl ?_);refine zal ?hg (N:=7) ?hd (cs:=#[.slice none 0 0,.slice none 0 0,.int .i64 0,.int .i64 0]) (t:=74) ?hr ?_;(case hd=>rfl);(case hg=>rfl);(case hr=>exact kq21);intro gb1235 hg b8 hbox hb;have ab:=mk (hbox);have aw:=(gs_ hg (kq20 J));have ao:=aw;have ag:=(nl_ hg D);have an:=(ng_ hg D);replace L:=mk (Kd.R_below (kq9 L) hb);replace I:=mk (Kd.R_below (kq9 I) hb);replace Z:=mk (Kd.V_below (Kd.V_elderB (kq23 Z) gb1235 (Nat.le_of_eq hg.symm)) hb);replace aa:=mk (Kd.R_below (kq9 aa) hb);replace D:=(bb_ D hb);replace HB:=mk (zaa (kq20 J) hb);clear hb hbox hg;obtain⟨Ao17,co17,aJ⟩:=Kd.V_slice Z.out;subst aJ;have aT:=an.out;have aU:=ag.out;obtain⟨_,_,_,_,_,_,_,_⟩:=cz4_ ab.out;obtain⟨Ao20,co20,aK⟩:=Kd.R_slice aa.out;subst aK)|((with_reducible refine zaE (f:=43) rfl ?_);refine za7 (some 17) rfl rfl Try.func43 kq0 rfl #[] rfl kq10 ?_;(with_reducible refine(zaX.calls k  true _ A4.out).mono ?_);rintro e b9 ⟨rfl,hb⟩;refine⟨_,rfl,?_⟩;replace L:=mk (Kd.R_below (zjl L ab) hb);replace I:=mk (Kd.R_below (zjl I ab) hb);replace Z:=mk (Kd.V_below (by(with_reducible repeat(first|apply Kd.V_alloc|apply Kd.V_drewN|apply Kd.V_drew));exact(Kd.V_mono (Kd.V_far (p:=⟨gb1235,3,none⟩) (Kd.V_far (p:=⟨gb1235,2,none⟩) (Kd.V_far (p:=⟨gb1235,1,none⟩) (Kd.V_far (p:=⟨gb1235,0,none⟩) (Kd.V_mono Z.out (fun k_ hk=>(⟨hk,hk.2⟩:_∧k_≠gb1235))) (fun _ hk=>hk.2) (.slice Ao17 t1227.length co17)) (fun _ hk=>hk.2) (.slice Ao20 t1230.length co20)) (fun _ hk=>hk.2) (.int .i64 t1233)) (fun _ hk=>hk.2) (.int .i64 t1234)) (fun _ h_=>h_.1))) hb);replace aa:=mk (Kd.R_below (zjl aa ab) hb);replace D:=mk (zai (g:=am) (o:=.cells #[.int .i64 ac,.int .i64 a0_1,.string a0_2,.slice aj X.length ak] 66 (0,0)) (kq99 ag D) hb);replace ab:=mk (zai (g:=gb1235) (o:=.cells #[.slice Ao17 t1227.length co17,.slice Ao20 t1230.length co20,.int .i64 t1233,.int .i64 t1234] 74 (0,0)) (by(with_reducible repeat(first|refine zag ?_ _|refine zaf ?_|refine zab ?_ _));refine zak (cs:=#[.slice Ao17 t1227.length co17,.slice Ao20 t1230.length co20,.int .i64 t1233,.int .i64 0]) ?_ 3 _ rfl;(with_reducible repeat(first|refine zag ?_ _|refine zaf ?_|refine zab ?_ _));refine zak (cs:=#[.slice Ao17 t1227.length co17,.slice Ao20 t1230.length co20,.int .i64 0,.int .i64 0]) ?_ 2 _ rfl;(with_reducible repeat(first|refine zag ?_ _|refine zaf ?_|refine zab ?_ _));refine zak (cs:=#[.slice Ao17 t1227.length co17,.slice none 0 0,.int .i64 0,.int .i64 0]) ?_ 1 _ rfl;(with_reducible repeat(first|refine zag ?_ _|refine zaf ?_|refine zab ?_ _));refine zak (cs:=#[.slice none 0 0,.slice none 0 0,.int .i64 0,.int .i64 0]) ?_ 0 _ rfl;(with_reducible repeat(first|refine zag ?_ _|refine zaf ?_|refine zab ?_ _));exact ab.out) hb);replace HB:=mk (zaa (kq31 J ao) hb);obtain⟨_,_,_,_,_,_,_,_⟩:=cz4_ ab.out;obtain⟨aX,aY,aM⟩:=Kd.R_slice L.out;subst aM)|(go_at_call 51;(with_reducible refine(zaF.calls k _ _ ah _ _ t1227 true _ ?side1 ?side2 ?side3 ?side4 A7.out).mono ?_);(case side1=>exact kq15 L);(case side2=>exact(Kd.R_reads' L.out).2.1);(case side3=>exact kq38 Z);(case side4=>exact(Kd.V_reads' Z.out).2.1);rintro e w' ⟨rfl,⟨nd,rfl⟩⟩;obtain⟨aZ,b4,aN⟩:=Kd.R_slice I.out;subst aN)|(go_at_call 52;(with_reducible refine(zaq.calls k _ _ af _ _ t1230 true _ ?side1 ?side2 ?side3 ?side4 A9.out).mono ?_);(case side1=>exact kq15 I);(case side2=>exact(Kd.R_reads' I.out).2.1);(case side3=>exact kq15 aa);(case side4=>exact(Kd.R_reads' aa.out).2.1);rintro e w' ⟨rfl,⟨nd,rfl⟩⟩)));go_ret;exact⟨kq18,(kq31 J ao)⟩
    ·replace au:=Bool.eq_false_iff.mpr au;subst au;(have H1:(some false)=some r:=by rw[if_neg (show ¬(false=true) by decide)]at H;exact H);clear H;have H:=H1;clear H1;cases (Option.some.inj H).trans HRt_.out
   ·replace c8:=Bool.eq_false_iff.mpr c8;subst c8;(have H1:(some false)=some r:=by rw[if_neg (show ¬(false=true) by decide)]at H;exact H);clear H;have H:=H1;clear H1;cases (Option.some.inj H).trans HRt_.out
  ·obtain⟨aE,aG⟩:=eFn_ c6;cases (Option.some.inj H).trans HRt_.out
 ·replace c5:=Bool.eq_false_iff.mpr c5
  subst c5
  have H1:(some false)=some r:=by rw[if_neg (show ¬(false=true) by decide)]at H;exact H
  clear H
  have H:=H1
  clear H1
  cases (Option.some.inj H).trans HRt_.out
end Go.Proofs.Ytjknpmibdkoklaa.Q
namespace Go.Proofs.Ytjknpmibdkoklaa.Q
open Go.RowKit Go.Proofs.YtjknpmibdkoklaaW.PrintWords Go.Proofs.YtjknpmibdkoklaaW.PrintLast Go.Proofs.YtjknpmibdkoklaaW.PrintMore
theorem zh4 (s:Sm):(if s.2.2.2=0 then some (s.1,s.2.1,s.2.2.1,s.2.2.2)else some (([]:List ByteArray),([]:List Int),(0:Int),s.2.2.2))=some (nrm s):=by
 unfold nrm
 by_cases h:s.2.2.2=0
 ·rw[if_pos h,if_pos h]
 ·rw[if_neg h,if_neg h]
theorem zhc {t:S66} (hf:FitT t):Ev (fun k=>za9.f k t.f0 t.f1 t.f2 t.f3) (linA t):=by
 unfold za9.f zbh.f linA
 have et:(⟨t.f0,t.f1,t.f2,t.f3⟩:S66)=t:=by cases t;rfl
 rw[et,if_pos hf.sized]
 refine Ev.congr (fun k=>Option.bind_some _ _) ?_
 by_cases h:(zcj t 1 (0,0,0)).2.2=0
 ·obtain⟨hr,_,hc⟩:=zc4 t 1 (0,0,0) kq2 kq2 h
  obtain⟨s,es,ns⟩:=zh0 500 t hr hf (by simp at hc;omega) kq2
  refine Ev.congr (fun k=>if_pos h) ?_
  rw[if_pos h]
  rw[←ns]
  exact Ev.bind es (Ev.congr (fun k=>zh4 s) (Ev.now _))
 ·refine Ev.congr (fun k=>if_neg h) ?_
  rw[if_neg h]
  exact Ev.now _
theorem ziy {t:S66} (hf:FitT t):(linA t).1.length≤1000∧(linA t).2.1.length≤1000:=by
 unfold linA
 by_cases h:(zcj t 1 (0,0,0)).2.2=0
 ·rw[if_pos h]
  obtain⟨hr,_,hc⟩:=zc4 t 1 (0,0,0) kq2 kq2 h
  have w:=zfo 500 t hr hf (by simp at hc;omega)
  have:=w.few
  have:=w.len
  simp at hc
  omega
 ·rw[if_neg h]
  exact⟨Nat.zero_le _,Nat.zero_le _⟩
theorem NormLinear_ev {t:S66} (hf:FitT t):Ev (fun k=>tabardlaw09_NormLinear.f k t.f0 t.f1 t.f2 t.f3) true:=by
 have hl:=ziy hf
 unfold tabardlaw09_NormLinear.f
 refine Ev.bind (zhZ hf) (Ev.bind (zhc hf) (Ev.bind zh3 ?_))
 refine Ev.congr (fun k=>if_pos rfl) (Ev.congr (fun k=>if_pos rfl) ?_)
 refine Ev.bind (zix _ _ kq1) (Ev.congr (fun k=>if_pos (by simp)) (Ev.bind (zgp _ _ kq1) (Ev.congr (fun k=>if_pos (by simp)) ?_)))
 rw[show((linA t).2.2.1==(linA t).2.2.1)=true from beq_self_eq_true _]
 exact Ev.now _
end Go.Proofs.Ytjknpmibdkoklaa.Q
