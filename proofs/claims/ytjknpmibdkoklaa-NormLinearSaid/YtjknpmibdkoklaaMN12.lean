/- Functions of the given program as Lean functions, each with its contract, and what they answer; words for it. No condition but those of each. -/
import Derived.Test.YtjknpmibdkoklaaMNS
import Derived.Test.YtjknpmibdkoklaaMN3
import Derived.Test.YtjknpmibdkoklaaMN9
import Derived.Test.YtjknpmibdkoklaaMN10
import Derived.Test.YtjknpmibdkoklaaMN11
set_option maxRecDepth 100000
set_option linter.unusedVariables false
set_option linter.unusedSimpArgs false
namespace Go.Proofs.Ytjknpmibdkoklaa.Q
open Go.RowKit Go.Proofs.YtjknpmibdkoklaaW.PrintWords Go.Proofs.YtjknpmibdkoklaaW.PrintLast Go.Proofs.YtjknpmibdkoklaaW.PrintMore
open Aside0 (mk)
open List (setIfInBounds_toArray set_cons_zero set_cons_succ)
attribute [local go_sem] zbw zbz zbP zbQ zbm zbn zbA zbB
set_option linter.unusedVariables false
set_option linter.unusedSimpArgs false
attribute [local go_sem] zbS zbD zbE zbF
def zbk.f (k:Nat) (a0 a1:Int):Option (Int × Int):=(zaL.f k a0).bind fun bt1084=>((zaL.f k a1).bind fun bt1088=>((zax.f k bt1084.1 bt1084.2 bt1088.1 bt1088.2).bind fun bt1092=>((zaQ.f k bt1092.1 bt1092.2).bind fun bt1096=>(some (bt1096.1,bt1096.2)))))
theorem zbk.mono:∀a0 r k,LeO (zbk.f k a0 r) (zbk.f (k+1) a0 r):=by
 intro a0 r k
 unfold zbk.f
 repeat' first
  |(with_reducible exact zaL.mono _ _)
  |(with_reducible exact zax.mono _ _ _ _ _)
  |(with_reducible exact zaQ.mono _ _ _)
  |(with_reducible exact LeO.refl _)
  |(with_reducible exact LeO.none _)
  |(with_reducible refine LeO.ite ?_ ?_)
  |(with_reducible refine LeO.bind ?_ (fun _=>?_))
  |exact zaL.mono _ _
  |exact zax.mono _ _ _ _ _
  |exact zaQ.mono _ _ _
  |exact LeO.none _
  |refine LeO.ite ?_ ?_
  |refine LeO.bind ?_ (fun _=>?_)
set_option maxHeartbeats 8000000 in
theorem zbk.calls (k:Nat) (a0 a1 r1 r2:Int) (w:World) (h:zbk.f k a0 a1=some (r1,r2)) :
 Calls Try.prog 129 #[.int .i64 a0,.int .i64 a1] w fun e w'=>e= .returned (.tuple #[.int .i64 r1,.int .i64 r2])∧Below w.heap.size w w':=by
 have HB:=mk (Below.refl w.heap.size w)
 have H:((zaL.f k a0).bind fun ab=>((zaL.f k a1).bind fun J=>((zax.f k ab.1 ab.2 J.1 J.2).bind fun G=>((zaQ.f k G.1 G.2).bind fun r=>(some (r.1,r.2))))))=some (r1,r2):=h
 clear h
 replace H:=Option.bind_eq_some_iff.mp H
 obtain⟨⟨M,U⟩,af,H⟩:=H
 replace H:((zaL.f k a1).bind fun J=>((zax.f k M U J.1 J.2).bind fun G=>((zaQ.f k G.1 G.2).bind fun r=>(some (r.1,r.2)))))=some (r1,r2):=H
 have A3:=mk af
 clear af
 replace H:=Option.bind_eq_some_iff.mp H
 obtain⟨⟨X,Y⟩,ag,H⟩:=H
 replace H:((zax.f k M U X Y).bind fun G=>((zaQ.f k G.1 G.2).bind fun r=>(some (r.1,r.2))))=some (r1,r2):=H
 have A4:=mk ag
 clear ag
 replace H:=Option.bind_eq_some_iff.mp H
 obtain⟨⟨Z,aa⟩,ah,H⟩:=H
 replace H:((zaQ.f k Z aa).bind fun r=>(some (r.1,r.2)))=some (r1,r2):=H
 have A5:=mk ah
 clear ah
 replace H:=Option.bind_eq_some_iff.mp H
 obtain⟨⟨ac,ae⟩,ai,H⟩:=H
 replace H:(some (ac,ae))=some (r1,r2):=H
 have A6:=mk ai
 clear ai
 simp only[Option.some.injEq,Prod.mk.injEq]at H
 obtain⟨rfl,rfl⟩:=H
 go_enter Try.func129,Try.ntmps129
 go_wp2_with (first|((with_reducible refine zaE (f:=133) rfl ?_);refine za7 (some 7) rfl rfl Try.func133 kq0 rfl #[.int .i64 a0] rfl kq10 ?_;(with_reducible refine(zaL.calls k a0 M U _ A3.out).mono ?_);rintro e w7 ⟨an,rfl,ho0,hb⟩;refine⟨_,rfl,?_⟩;have D:=mk (Kd.V_lower (Kd.V_mono (ok':=fun k_=>True) ho0 (fun k_ hk_=>trivial)) (zad kq8));replace HB:=mk (zaa kq8 hb))|((with_reducible refine zaE (f:=133) rfl ?_);refine za7 (some 9) rfl rfl Try.func133 kq0 rfl #[.int .i64 a1] rfl kq10 ?_;(with_reducible refine(zaL.calls k a1 X Y _ A4.out).mono ?_);rintro e w8 ⟨ao,rfl,ho0,hb⟩;refine⟨_,rfl,?_⟩;have I:=mk (Kd.V_lower (Kd.V_mono (ok':=fun k_=>True) ho0 (fun k_ hk_=>trivial)) (zad kq8));replace D:=mk (Kd.V_below (kq23 D) hb);replace HB:=mk (zaa kq8 hb);obtain⟨ap,aq,ar⟩:=Kd.V_slice D.out;subst ar;obtain⟨aj,ak,al⟩:=Kd.V_slice I.out;subst al)|((with_reducible refine zaE (f:=132) rfl ?_);refine za7 (some 10) rfl rfl Try.func132 kq0 rfl #[.agg #[.bool M,.slice ap U.length aq],.agg #[.bool X,.slice aj Y.length ak]] rfl kq10 ?_;(with_reducible refine(zax.calls k M _ _ U X _ _ Y Z aa _ ?side1 ?side2 ?side3 ?side4 A5.out).mono ?_);(case side1=>exact kq38 D);(case side2=>exact(Kd.V_reads' D.out).2.1);(case side3=>exact kq38 I);(case side4=>exact(Kd.V_reads' I.out).2.1);rintro e av ⟨au,rfl,ho0,hb⟩;refine⟨_,rfl,?_⟩;have L:=mk (Kd.V_lower (Kd.V_mono (ok':=fun k_=>True) ho0 (fun k_ hk_=>trivial)) (zad kq8));replace D:=mk (Kd.V_below (kq23 D) hb);replace I:=mk (Kd.V_below (kq23 I) hb);replace HB:=mk (zaa kq8 hb);obtain⟨Ao12,co12,am⟩:=Kd.V_slice L.out;subst am)|((with_reducible refine zaE (f:=131) rfl ?_);refine za7 (some 11) rfl rfl Try.func131 kq0 rfl #[.agg #[.bool Z,.slice Ao12 aa.length co12]] rfl kq10 ?_;(with_reducible refine(zaQ.calls k Z _ _ aa ac ae _ ?side1 ?side2 A6.out).mono ?_);(case side1=>exact kq38 L);(case side2=>exact(Kd.V_reads' L.out).2.1);rintro e aw ⟨rfl,hb⟩;refine⟨_,rfl,?_⟩;replace D:=mk (Kd.V_below (kq23 D) hb);replace I:=mk (Kd.V_below (kq23 I) hb);replace L:=mk (Kd.V_below (kq23 L) hb);replace HB:=mk (zaa kq8 hb)))
 go_ret2
 exact⟨kq18,kq8⟩
def zaM.l0:Nat→ByteArray→Int→List ByteArray→List Int→Int→Int→Option (Int)
 |0,_,_,_,_,_,_=>none
 |k+1,x1,x5,x1099000,x1099001,x1099002,x1099003=>if x5<(x1099000.length:Int)then(if 0≤x5 then(if(rdOf ByteArray.empty x1099000 x5).toList=x1.toList then(if x5<(x1099001.length:Int)then(some (rd x1099001 x5))else(none))else(zaM.l0 k x1 (wrap64 (x5+1)) x1099000 x1099001 x1099002 x1099003))else(none))else(some 0)
def zaM.f (k:Nat) (l0_0:List ByteArray) (l0_1:List Int) (a0_2 a0_3:Int) (a1:ByteArray):Option (Int):=zaM.l0 k a1 0 l0_0 l0_1 a0_2 a0_3
theorem zaM.mono_l:∀k,(∀f D G I J L,LeO (zaM.l0 k f D G I J L) (zaM.l0 (k+1) f D G I J L))
 |0=>fun _ _ _ _ _ _ r h=>by simp [zaM.l0]at h
 |k+1=>by
  have ih0:=zaM.mono_l k
  ·intro f D G I J L;unfold zaM.l0
   repeat' first
   |(with_reducible exact ih0 _ _ _ _ _ _)
   |(with_reducible exact LeO.refl _)
   |(with_reducible exact LeO.none _)
   |(with_reducible refine LeO.ite ?_ ?_)
   |(with_reducible refine LeO.bind ?_ (fun _=>?_))
   |exact ih0 _ _ _ _ _ _
   |exact LeO.none _
   |refine LeO.ite ?_ ?_
   |refine LeO.bind ?_ (fun _=>?_)
theorem zaM.mono:∀a0 r D a3 a4 k,LeO (zaM.f k a0 r D a3 a4) (zaM.f (k+1) a0 r D a3 a4):=by
 intro a0 r D a3 a4 k
 have ih0:=zaM.mono_l k
 unfold zaM.f
 repeat' first
  |(with_reducible exact ih0 _ _ _ _ _ _)
  |(with_reducible exact LeO.refl _)
  |(with_reducible exact LeO.none _)
  |(with_reducible refine LeO.ite ?_ ?_)
  |(with_reducible refine LeO.bind ?_ (fun _=>?_))
  |exact ih0 _ _ _ _ _ _
  |exact LeO.none _
  |refine LeO.ite ?_ ?_
  |refine LeO.bind ?_ (fun _=>?_)
set_option maxHeartbeats 8000000 in
theorem zaM.calls (k:Nat) (aa:Option Addr) (ab:Nat) (l0_0:List ByteArray) (ac:Option Addr) (ae:Nat) (l0_1:List Int) (a0_2 a0_3:Int) (a1:ByteArray) (r:Int) (w:World) (af:Kd.C Kd.string w aa l0_0.length l0_0) (hc0_0:l0_0.length≤ab) (ag:Kd.C (Kd.int .i64) w ac l0_1.length l0_1) (hc0_1:l0_1.length≤ae) (h:zaM.f k l0_0 l0_1 a0_2 a0_3 a1=some r) :
 Calls Try.prog 130 #[.agg #[.slice aa l0_0.length ab,.slice ac l0_1.length ae,.int .i64 a0_2,.int .i64 a0_3],.string a1] w fun e w'=>e= .returned (.int .i64 r)∧Below w.heap.size w w':=by
 have av:=Try.underlying74
 have ah:=mk af
 have ar:=mk hc0_0
 clear af hc0_0
 have al:=mk ag
 have au:=mk hc0_1
 clear ag hc0_1
 have HB:=mk (Below.refl w.heap.size w)
 have H:(zaM.l0 k a1 0 l0_0 l0_1 a0_2 a0_3)=some r:=h
 clear h
 have H':=mk H
 clear H
 go_enter Try.func130,Try.ntmps130
 go_wp2_with (first|((with_reducible refine zao (N:=2) rfl ?_);refine zal ?hg (N:=2) ?hd (cs:=#[.slice aa l0_0.length ab,.slice ac l0_1.length ae,.int .i64 a0_2,.int .i64 a0_3]) (t:=74) ?hr ?_;(case hd=>rfl);(case hg=>rfl);(case hr=>exact kq21);intro ai hg w3 hbox hb;have I:=mk (hbox);have aj:=(gs_ hg kq8);have M:=aj;replace HB:=mk (zaa kq8 hb);clear hb hbox hg))
 go_loopg [5] k (fun kq v5 w'=>∃(D:Int),v5= .int .i64 D∧Aside0 (zaM.l0 kq a1 D l0_0 l0_1 a0_2 a0_3=some r)∧Aside0 (kq≤k)∧Aside0 (w'.heap[ai]?=some (.cells #[(.slice aa l0_0.length ab),(.slice ac l0_1.length ae),.int .i64 a0_2,.int .i64 a0_3] 74 (0,0)))∧Aside0 (Below w.heap.size w w'))
 case atStart=>exact⟨(0),kq3,H',⟨Nat.le_refl _⟩,⟨(kq22 I)⟩,⟨(kq20 M)⟩⟩
 case round=>
  clear H'
  obtain⟨D,rfl,HA,HK1,I,HB⟩:=hrel
  cases gk with
  |zero=>exact absurd HA.out (by simp [zaM.l0])
  |succ k1=>
   have H:=HA.out;clear HA;simp only[zaM.l0]at H;replace H:=ic_ H;obtain⟨c4,H⟩|⟨c4,H⟩:=H
   ·have an:decide (D<(l0_0.length:Int))=true:=decide_eq_true c4;clear c4;replace H:=ic_ H;obtain⟨c5,H⟩|⟨c5,H⟩:=H
    ·have aw:decide (0≤D)=true:=decide_eq_true c5;clear c5;replace H:=ic_ H;obtain⟨c6,H⟩|⟨c6,H⟩:=H
     ·obtain⟨ao,ap⟩:=eTn_ c6;clear c6;replace H:=ic_ H;obtain⟨c7,H⟩|⟨c7,H⟩:=H
      ·have ax:decide (D<(l0_1.length:Int))=true:=decide_eq_true c7;clear c7;obtain rfl:=Option.some.inj H;obtain⟨_,_,_,_,_,_,_,_⟩:=cz4_ I.out;have J:0≤(D:Int):=of_decide_eq_true kq7;have L:D<(l0_0.length:Int):=of_decide_eq_true kq7;obtain⟨ak,X,G⟩:=Kd.at_string ah.out D J L;cases X;replace G:=hc_ HB G;replace J:=eq_true J;replace L:=eq_true L;have Y:0≤(D:Int):=of_decide_eq_true kq7;have Z:D<(l0_1.length:Int):=of_decide_eq_true kq7;obtain⟨aq,am,U⟩:=Kd.at_int al.out D Y Z;cases am;replace U:=hc_ HB U;replace Y:=eq_true Y;replace Z:=eq_true Z;go_wp2;go_ret;exact⟨kq18,(kq20 M)⟩
      ·exact absurd H (by simp)
     ·obtain⟨ao,ap⟩:=eFn_ c6;have H':=mk H;clear H;obtain⟨_,_,_,_,_,_,_,_⟩:=cz4_ I.out;have J:0≤(D:Int):=of_decide_eq_true kq7;have L:D<(l0_0.length:Int):=of_decide_eq_true kq7;obtain⟨ak,X,G⟩:=Kd.at_string ah.out D J L;cases X;replace G:=hc_ HB G;replace J:=eq_true J;replace L:=eq_true L;go_wp2;(go_roundg k1)
      case measure=>have:=HK1.out;omega
      case rel=>exact⟨(wrap64 (D+1)),kq3,H',⟨kq19⟩,⟨(kq22 I)⟩,⟨(kq20 M)⟩⟩
    ·exact absurd H (by simp)
   ·have an:decide (D<(l0_0.length:Int))=false:=decide_eq_false c4;clear c4;obtain rfl:=Option.some.inj H;obtain⟨_,_,_,_,_,_,_,_⟩:=cz4_ I.out;go_wp2;go_ret;exact⟨kq18,(kq20 M)⟩
end Go.Proofs.Ytjknpmibdkoklaa.Q
namespace Go.Proofs.Ytjknpmibdkoklaa.Q
open Go.RowKit Go.Proofs.YtjknpmibdkoklaaW.PrintWords Go.Proofs.YtjknpmibdkoklaaW.PrintLast Go.Proofs.YtjknpmibdkoklaaW.PrintMore
theorem zhD {a b:Int} (ha:In64 a) (hb:In64 b):Ev (fun k=>zbk.f k a b) (fit (a+b)):=by
 unfold zbk.f
 exact Ev.bind (zdb ha) (Ev.bind (zdb hb) (Ev.bind (zeB (zcA ha) (zcA hb)) (Ev.pair (zeC (zhA ha hb)))))
theorem zhE {a b:Int} (ha:In64 a) (hb:In64 b):Small (a+ -b):=by
 obtain⟨h1,h2⟩:=ha
 obtain⟨f,r⟩:=hb
 refine zep 8 kq2 ?_
 have:(65536:Nat)^8=340282366920938463463374607431768211456:=by decide
 omega
theorem zhF {a b:Int} (ha:In64 a) (hb:In64 b):Ev (fun k=>zbs.f k a b) (fit (a-b)):=by
 unfold zbs.f
 rw[Int.sub_eq_add_neg]
 exact Ev.bind (zdb ha) (Ev.bind (zdb hb) (Ev.bind (zeW (zcA hb)) (Ev.bind (zeB (zcA ha) (zfH (zcA hb))) (Ev.pair (zeC (zhE ha hb))))))
end Go.Proofs.Ytjknpmibdkoklaa.Q
namespace Go.Proofs.Ytjknpmibdkoklaa.Q
open Go.RowKit Go.Proofs.YtjknpmibdkoklaaW.PrintWords Go.Proofs.YtjknpmibdkoklaaW.PrintLast Go.Proofs.YtjknpmibdkoklaaW.PrintMore
open Aside0 (mk)
open List (setIfInBounds_toArray set_cons_zero set_cons_succ)
attribute [local go_sem] zbw zbz zbP zbQ zbm zbn zbA zbB
set_option linter.unusedVariables false
set_option linter.unusedSimpArgs false
attribute [local go_sem] zbS zbD zbE zbF
def zaF.l0:Nat→List ByteArray→List ByteArray→Int→Int→Option (Bool)
 |0,_,_,_,_=>none
 |k+1,x0,x1,x12,x13=>if x13<x12 then(if 0≤x13 then(if x13<(x0.length:Int)then(if x13<(x1.length:Int)then(if(rdOf ByteArray.empty x0 x13).toList=(rdOf ByteArray.empty x1 x13).toList then(zaF.l0 k x0 x1 x12 (wrap64 (x13+1)))else(some false))else(none))else(none))else(none))else(some true)
def zaF.f (k:Nat) (l0 l1:List ByteArray):Option (Bool):=if(l0.length:Int)=(l1.length:Int)then(zaF.l0 k l0 l1 (l0.length:Int) 0)else(some false)
theorem zaF.mono_l:∀k,(∀f D G I,LeO (zaF.l0 k f D G I) (zaF.l0 (k+1) f D G I))
 |0=>fun _ _ _ _ r h=>by simp [zaF.l0]at h
 |k+1=>by
  have ih0:=zaF.mono_l k
  ·intro f D G I;unfold zaF.l0
   repeat' first
   |(with_reducible exact ih0 _ _ _ _)
   |(with_reducible exact LeO.refl _)
   |(with_reducible exact LeO.none _)
   |(with_reducible refine LeO.ite ?_ ?_)
   |(with_reducible refine LeO.bind ?_ (fun _=>?_))
   |exact ih0 _ _ _ _
   |exact LeO.none _
   |refine LeO.ite ?_ ?_
   |refine LeO.bind ?_ (fun _=>?_)
theorem zaF.mono:∀a0 r k,LeO (zaF.f k a0 r) (zaF.f (k+1) a0 r):=by
 intro a0 r k
 have ih0:=zaF.mono_l k
 unfold zaF.f
 repeat' first
  |(with_reducible exact ih0 _ _ _ _)
  |(with_reducible exact LeO.refl _)
  |(with_reducible exact LeO.none _)
  |(with_reducible refine LeO.ite ?_ ?_)
  |(with_reducible refine LeO.bind ?_ (fun _=>?_))
  |exact ih0 _ _ _ _
  |exact LeO.none _
  |refine LeO.ite ?_ ?_
  |refine LeO.bind ?_ (fun _=>?_)
set_option maxHeartbeats 8000000 in
theorem zaF.calls (k:Nat) (A0:Option Addr) (c0:Nat) (l0:List ByteArray) (A1:Option Addr) (c1:Nat) (M:List ByteArray) (r:Bool) (w:World) (ae:Kd.C Kd.string w A0 l0.length l0) (hc0:l0.length≤c0) (af:Kd.C Kd.string w A1 M.length M) (hc1:M.length≤c1) (h:zaF.f k l0 M=some r) :
 Calls Try.prog 51 #[.slice A0 l0.length c0,.slice A1 M.length c1] w fun e w'=>e= .returned (.bool r)∧Drawn0 w w':=by
 have ag:=mk ae
 have au:=mk hc0
 clear ae hc0
 have ah:=mk af
 have av:=mk hc1
 clear af hc1
 have H:(if(l0.length:Int)=(M.length:Int)then(zaF.l0 k l0 M (l0.length:Int) 0)else(some false))=some r:=h
 clear h
 by_cases U:(l0.length:Int)=(M.length:Int)
 ·rw[if_pos U]at H
  have ai:=eT_ U
  have aj:=nF_ U
  have ak:(l0.length==M.length)=true:=by first|simpa using U|(simp at U ⊢;omega)
  clear U
  have H':=mk H
  clear H
  go_enter Try.func51,Try.ntmps51
  go_wp2
  repeat(go_quiet (fail);try go_wp2)
  go_loopg [13] k (fun kq ao w'=>∃(D:Int),ao= .int .i64 D∧Aside0 (zaF.l0 kq l0 M (l0.length:Int) D=some r)∧Aside0 (kq≤k)∧Drawn0 w w')
  case atStart=>exact⟨(0),kq3,H',⟨Nat.le_refl _⟩,kq5⟩
  case round=>
   clear H';obtain⟨D,rfl,HA,HK1,⟨m1,rfl⟩⟩:=hrel
   cases gk with
   |zero=>exact absurd HA.out (by simp [zaF.l0])
   |succ k1=>
    have H:=HA.out;clear HA;simp only[zaF.l0]at H;replace H:=ic_ H;obtain⟨c4,H⟩|⟨c4,H⟩:=H
    ·have al:decide (D<(l0.length:Int))=true:=decide_eq_true c4;clear c4;replace H:=ic_ H;obtain⟨c5,H⟩|⟨c5,H⟩:=H
     ·have ap:decide (0≤D)=true:=decide_eq_true c5;clear c5;replace H:=ic_ H;obtain⟨c6,H⟩|⟨c6,H⟩:=H
      ·have aq:decide (D<(l0.length:Int))=true:=decide_eq_true c6;clear c6;replace H:=ic_ H;obtain⟨c7,H⟩|⟨c7,H⟩:=H
       ·have ar:decide (D<(M.length:Int))=true:=decide_eq_true c7;clear c7;replace H:=ic_ H;obtain⟨c8,H⟩|⟨c8,H⟩:=H
        ·obtain⟨am,an⟩:=eTn_ c8;clear c8;have H':=mk H;clear H;have G:0≤(D:Int):=of_decide_eq_true kq7;have I:D<(l0.length:Int):=of_decide_eq_true kq7;obtain⟨ab,X,Y⟩:=Kd.at_string ag.out D G I;cases X;replace G:=eq_true G;replace I:=eq_true I;have J:0≤(D:Int):=of_decide_eq_true kq7;have L:D<(M.length:Int):=of_decide_eq_true kq7;obtain⟨ac,Z,aa⟩:=Kd.at_string ah.out D J L;cases Z;replace J:=eq_true J;replace L:=eq_true L;go_wp2;(repeat(go_quiet (fail);try go_wp2));(go_roundg k1)
         case measure=>have:=HK1.out;omega
         case rel=>exact⟨(wrap64 (D+1)),kq3,H',⟨kq19⟩,kq5⟩
        ·obtain⟨am,an⟩:=eFn_ c8;obtain rfl:=Option.some.inj H;have G:0≤(D:Int):=of_decide_eq_true kq7;have I:D<(l0.length:Int):=of_decide_eq_true kq7;obtain⟨ab,X,Y⟩:=Kd.at_string ag.out D G I;cases X;replace G:=eq_true G;replace I:=eq_true I;have J:0≤(D:Int):=of_decide_eq_true kq7;have L:D<(M.length:Int):=of_decide_eq_true kq7;obtain⟨ac,Z,aa⟩:=Kd.at_string ah.out D J L;cases Z;replace J:=eq_true J;replace L:=eq_true L;go_wp2;(repeat(go_quiet (fail);try go_wp2));go_ret;exact⟨kq3,kq5⟩
       ·exact absurd H (by simp)
      ·exact absurd H (by simp)
     ·exact absurd H (by simp)
    ·have al:decide (D<(l0.length:Int))=false:=decide_eq_false c4;clear c4;obtain rfl:=Option.some.inj H;go_wp2;(repeat(go_quiet (fail);try go_wp2));go_ret;exact⟨kq3,kq5⟩
 ·rw[if_neg U]at H
  have ai:=eF_ U
  have aj:=nT_ U
  have ak:(l0.length==M.length)=false:=by first|simpa using U|(simp at U ⊢;omega)
  obtain rfl:=Option.some.inj H
  go_enter Try.func51,Try.ntmps51
  go_wp2
  repeat(go_quiet (fail);try go_wp2)
  go_ret
  exact⟨kq3,kq5⟩
def zaq.l0:Nat→List Int→List Int→Int→Int→Option (Bool)
 |0,_,_,_,_=>none
 |k+1,x0,x1,x12,x13=>if x13<x12 then(if 0≤x13 then(if x13<(x0.length:Int)then(if x13<(x1.length:Int)then(if(rd x0 x13)=(rd x1 x13)then(zaq.l0 k x0 x1 x12 (wrap64 (x13+1)))else(some false))else(none))else(none))else(none))else(some true)
def zaq.f (k:Nat) (l0 l1:List Int):Option (Bool):=if(l0.length:Int)=(l1.length:Int)then(zaq.l0 k l0 l1 (l0.length:Int) 0)else(some false)
theorem zaq.mono_l:∀k,(∀f D G I,LeO (zaq.l0 k f D G I) (zaq.l0 (k+1) f D G I))
 |0=>fun _ _ _ _ r h=>by simp [zaq.l0]at h
 |k+1=>by
  have ih0:=zaq.mono_l k
  ·intro f D G I;unfold zaq.l0
   repeat' first
   |(with_reducible exact ih0 _ _ _ _)
   |(with_reducible exact LeO.refl _)
   |(with_reducible exact LeO.none _)
   |(with_reducible refine LeO.ite ?_ ?_)
   |(with_reducible refine LeO.bind ?_ (fun _=>?_))
   |exact ih0 _ _ _ _
   |exact LeO.none _
   |refine LeO.ite ?_ ?_
   |refine LeO.bind ?_ (fun _=>?_)
theorem zaq.mono:∀a0 r k,LeO (zaq.f k a0 r) (zaq.f (k+1) a0 r):=by
 intro a0 r k
 have ih0:=zaq.mono_l k
 unfold zaq.f
 repeat' first
  |(with_reducible exact ih0 _ _ _ _)
  |(with_reducible exact LeO.refl _)
  |(with_reducible exact LeO.none _)
  |(with_reducible refine LeO.ite ?_ ?_)
  |(with_reducible refine LeO.bind ?_ (fun _=>?_))
  |exact ih0 _ _ _ _
  |exact LeO.none _
  |refine LeO.ite ?_ ?_
  |refine LeO.bind ?_ (fun _=>?_)
set_option maxHeartbeats 8000000 in
theorem zaq.calls (k:Nat) (A0:Option Addr) (c0:Nat) (l0:List Int) (A1:Option Addr) (c1:Nat) (M:List Int) (r:Bool) (w:World) (ae:Kd.C (Kd.int .i64) w A0 l0.length l0) (hc0:l0.length≤c0) (af:Kd.C (Kd.int .i64) w A1 M.length M) (hc1:M.length≤c1) (h:zaq.f k l0 M=some r) :
 Calls Try.prog 52 #[.slice A0 l0.length c0,.slice A1 M.length c1] w fun e w'=>e= .returned (.bool r)∧Drawn0 w w':=by
 have ag:=mk ae
 have au:=mk hc0
 clear ae hc0
 have ah:=mk af
 have av:=mk hc1
 clear af hc1
 have H:(if(l0.length:Int)=(M.length:Int)then(zaq.l0 k l0 M (l0.length:Int) 0)else(some false))=some r:=h
 clear h
 by_cases U:(l0.length:Int)=(M.length:Int)
 ·rw[if_pos U]at H
  have ai:=eT_ U
  have aj:=nF_ U
  have ak:(l0.length==M.length)=true:=by first|simpa using U|(simp at U ⊢;omega)
  clear U
  have H':=mk H
  clear H
  go_enter Try.func52,Try.ntmps52
  go_wp2
  repeat(go_quiet (fail);try go_wp2)
  go_loopg [13] k (fun kq ao w'=>∃(D:Int),ao= .int .i64 D∧Aside0 (zaq.l0 kq l0 M (l0.length:Int) D=some r)∧Aside0 (kq≤k)∧Drawn0 w w')
  case atStart=>exact⟨(0),kq3,H',⟨Nat.le_refl _⟩,kq5⟩
  case round=>
   clear H';obtain⟨D,rfl,HA,HK1,⟨m1,rfl⟩⟩:=hrel
   cases gk with
   |zero=>exact absurd HA.out (by simp [zaq.l0])
   |succ k1=>
    have H:=HA.out;clear HA;simp only[zaq.l0]at H;replace H:=ic_ H;obtain⟨c4,H⟩|⟨c4,H⟩:=H
    ·have al:decide (D<(l0.length:Int))=true:=decide_eq_true c4;clear c4;replace H:=ic_ H;obtain⟨c5,H⟩|⟨c5,H⟩:=H
     ·have ap:decide (0≤D)=true:=decide_eq_true c5;clear c5;replace H:=ic_ H;obtain⟨c6,H⟩|⟨c6,H⟩:=H
      ·have aq:decide (D<(l0.length:Int))=true:=decide_eq_true c6;clear c6;replace H:=ic_ H;obtain⟨c7,H⟩|⟨c7,H⟩:=H
       ·have ar:decide (D<(M.length:Int))=true:=decide_eq_true c7;clear c7;replace H:=ic_ H;obtain⟨c8,H⟩|⟨c8,H⟩:=H
        ·obtain⟨am,an⟩:=eTn_ c8;clear c8;have H':=mk H;clear H;have G:0≤(D:Int):=of_decide_eq_true kq7;have I:D<(l0.length:Int):=of_decide_eq_true kq7;obtain⟨ab,X,Y⟩:=Kd.at_int ag.out D G I;cases X;replace G:=eq_true G;replace I:=eq_true I;have J:0≤(D:Int):=of_decide_eq_true kq7;have L:D<(M.length:Int):=of_decide_eq_true kq7;obtain⟨ac,Z,aa⟩:=Kd.at_int ah.out D J L;cases Z;replace J:=eq_true J;replace L:=eq_true L;go_wp2;(repeat(go_quiet (fail);try go_wp2));(go_roundg k1)
         case measure=>have:=HK1.out;omega
         case rel=>exact⟨(wrap64 (D+1)),kq3,H',⟨kq19⟩,kq5⟩
        ·obtain⟨am,an⟩:=eFn_ c8;obtain rfl:=Option.some.inj H;have G:0≤(D:Int):=of_decide_eq_true kq7;have I:D<(l0.length:Int):=of_decide_eq_true kq7;obtain⟨ab,X,Y⟩:=Kd.at_int ag.out D G I;cases X;replace G:=eq_true G;replace I:=eq_true I;have J:0≤(D:Int):=of_decide_eq_true kq7;have L:D<(M.length:Int):=of_decide_eq_true kq7;obtain⟨ac,Z,aa⟩:=Kd.at_int ah.out D J L;cases Z;replace J:=eq_true J;replace L:=eq_true L;go_wp2;(repeat(go_quiet (fail);try go_wp2));go_ret;exact⟨kq3,kq5⟩
       ·exact absurd H (by simp)
      ·exact absurd H (by simp)
     ·exact absurd H (by simp)
    ·have al:decide (D<(l0.length:Int))=false:=decide_eq_false c4;clear c4;obtain rfl:=Option.some.inj H;go_wp2;(repeat(go_quiet (fail);try go_wp2));go_ret;exact⟨kq3,kq5⟩
 ·rw[if_neg U]at H
  have ai:=eF_ U
  have aj:=nT_ U
  have ak:(l0.length==M.length)=false:=by first|simpa using U|(simp at U ⊢;omega)
  obtain rfl:=Option.some.inj H
  go_enter Try.func52,Try.ntmps52
  go_wp2
  repeat(go_quiet (fail);try go_wp2)
  go_ret
  exact⟨kq3,kq5⟩
end Go.Proofs.Ytjknpmibdkoklaa.Q
