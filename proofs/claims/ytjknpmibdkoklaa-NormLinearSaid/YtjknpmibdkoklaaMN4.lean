/- Functions of the given program as Lean functions, each with its contract, and what they answer; words for it. No condition but those of each. -/
import Derived.Test.YtjknpmibdkoklaaMNS
import Derived.Test.YtjknpmibdkoklaaMN3
import Derived.Test.YtjknpmibdkoklaaMN2
import Derived.Laws.Strings
import Derived.Lib.OthersKept
import Derived.Laws.RangeAny
import Derived.LoopTactic
set_option maxRecDepth 100000
set_option linter.unusedVariables false
set_option linter.unusedSimpArgs false
namespace Go.Proofs.Ytjknpmibdkoklaa.Q
open Go.RowKit Go.Proofs.YtjknpmibdkoklaaW.PrintWords Go.Proofs.YtjknpmibdkoklaaW.PrintLast Go.Proofs.YtjknpmibdkoklaaW.PrintMore
open Aside0 (mk)
open List (setIfInBounds_toArray set_cons_zero set_cons_succ)
attribute [local go_sem] zbw zbz zbP zbQ zbm zbn zbA zbB
set_option linter.unusedVariables false
set_option linter.unusedSimpArgs false
attribute [local go_sem] zbS zbD zbE zbF
mutual
def zay.l0:Nat→List ByteArray→ByteArray→List ByteArray→Bool→Int→Option (List ByteArray)
 |0,_,_,_,_,_=>none
 |k+1,x0,x1,x5,x6,x7=>if x7<(x0.length:Int)then(if x6=true then(zay.j1 k x0 x1 x5 x6 x7 false)else(if 0≤x7 then(zay.j1 k x0 x1 x5 x6 x7 (!(Op.bytesLess ((rdOf ByteArray.empty x0 x7).toList) x1.toList)))else(none)))else(if x6=true then(some x5)else(if x5.length<8796093022208 then(some (x5++[x1]))else(none)))
def zay.j1:Nat→List ByteArray→ByteArray→List ByteArray→Bool→Int→Bool→Option (List ByteArray)
 |0,_,_,_,_,_,_=>none
 |k+1,x0,x1,x5,x6,x7,x23=>if x23=true then(if 0≤x7 then(if x7<(x0.length:Int)then(if(Op.bytesLess x1.toList ((rdOf ByteArray.empty x0 x7).toList))=true then(if x5.length<8796093022208 then((some (x5++[x1]:List ByteArray)).bind fun y394=>(if y394.length<8796093022208 then(zay.l0 k x0 x1 (y394++[rdOf ByteArray.empty x0 x7]) true (wrap64 (x7+1)))else(none)))else(none))else(if x5.length<8796093022208 then(zay.l0 k x0 x1 (x5++[rdOf ByteArray.empty x0 x7]) true (wrap64 (x7+1)))else(none)))else(none))else(none))else(if 0≤x7 then(if x7<(x0.length:Int)then(if x5.length<8796093022208 then(zay.l0 k x0 x1 (x5++[rdOf ByteArray.empty x0 x7]) x6 (wrap64 (x7+1)))else(none))else(none))else(none))
end
def zay.f (k:Nat) (l0:List ByteArray) (a1:ByteArray):Option (List ByteArray):=zay.l0 k l0 a1 ([]:List ByteArray) false 0
theorem zay.mono_l:∀k,(∀f D G I J,LeO (zay.l0 k f D G I J) (zay.l0 (k+1) f D G I J))∧(∀f D G I J L,LeO (zay.j1 k f D G I J L) (zay.j1 (k+1) f D G I J L))
 |0=>⟨fun _ _ _ _ _ r h=>by simp [zay.l0]at h,fun _ _ _ _ _ _ r h=>by simp [zay.j1]at h⟩
 |k+1=>by
  obtain⟨ih0,ih1⟩:=zay.mono_l k
  refine⟨?_,?_⟩<;>intros<;>(first|unfold zay.l0|unfold zay.j1)<;>repeat' first|(with_reducible first|exact ih0 _ _ _ _ _|exact ih1 _ _ _ _ _ _|exact LeO.refl _|exact LeO.none _|refine LeO.ite ?_ ?_|refine LeO.bind ?_ (fun _=>?_))|exact ih0 _ _ _ _ _|exact ih1 _ _ _ _ _ _|exact LeO.none _|refine LeO.ite ?_ ?_|refine LeO.bind ?_ (fun _=>?_)
theorem zay.mono:∀a0 r k,LeO (zay.f k a0 r) (zay.f (k+1) a0 r):=by
 intro a0 r k
 obtain⟨ih0,ih1⟩:=zay.mono_l k
 unfold zay.f
 repeat' first
  |(with_reducible exact ih0 _ _ _ _ _)
  |(with_reducible exact ih1 _ _ _ _ _ _)
  |(with_reducible exact LeO.refl _)
  |(with_reducible exact LeO.none _)
  |(with_reducible refine LeO.ite ?_ ?_)
  |(with_reducible refine LeO.bind ?_ (fun _=>?_))
  |exact ih0 _ _ _ _ _
  |exact ih1 _ _ _ _ _ _
  |exact LeO.none _
  |refine LeO.ite ?_ ?_
  |refine LeO.bind ?_ (fun _=>?_)
set_option maxHeartbeats 8000000 in
theorem zay.calls (k:Nat) (A0:Option Addr) (c0:Nat) (l0:List ByteArray) (U:ByteArray) (r:List ByteArray) (w:World) (bc:Kd.C Kd.string w A0 l0.length l0) (hc0:l0.length≤c0) (h:zay.f k l0 U=some r) :
 Calls Try.prog 109 #[.slice A0 l0.length c0,.string U] w fun e w'=>∃bd:Value,e= .returned (bd)∧Kd.R Kd.string 9 w' w.heap.size (fun _=>True) bd r∧Below w.heap.size w w':=by
 have an:=mk bc
 have bA:=mk hc0
 clear bc hc0
 have HB:=mk (Below.refl w.heap.size w)
 have H:(zay.l0 k l0 U ([]:List ByteArray) false 0)=some r:=h
 clear h
 have H':=mk H
 clear H
 go_enter Try.func109,Try.ntmps109
 go_wp2
 go_loopg [5,6,7] k (fun kq v5 v6 v7 w'=>∃(G:List ByteArray) (M:Bool) (D:Int),v6= .bool M∧v7= .int .i64 D∧Aside0 (zay.l0 kq l0 U G M D=some r)∧Aside0 (kq≤k)∧Aside0 (Kd.R Kd.string 9 w' w.heap.size (fun _=>True) v5 G)∧Aside0 (Below w.heap.size w w'))
 case atStart=>exact⟨(([]:List ByteArray)),(false),(0),kq3,kq3,H',⟨Nat.le_refl _⟩,⟨kq16⟩,⟨kq8⟩⟩
 case round=>
  clear H'
  obtain⟨G,M,D,rfl,rfl,HA,HK1,J,HB⟩:=hrel
  cases gk with
  |zero=>exact absurd HA.out (by simp [zay.l0])
  |succ k1=>
   have H:=HA.out;clear HA;simp only[zay.l0]at H;replace H:=ic_ H;obtain⟨c3,H⟩|⟨c3,H⟩:=H
   ·have be:decide (D<(l0.length:Int))=true:=decide_eq_true c3;clear c3;have aJ:=mk H;clear H;(go_upto_region 6 with(fail));(go_cut [23] (fun bm wc=>∃(kq:Nat) (ah:Bool),bm= .bool ah∧Aside0 (zay.j1 kq l0 U G M D ah=some r)∧Aside0 (kq≤k1)∧Aside0 (Kd.R Kd.string 9 wc w.heap.size (fun _=>True) u5 G)∧Aside0 (Below w.heap.size w wc)))
    case first=>
     have H:=aJ.out;clear aJ;(by_cases c5:M=true)
     ·subst c5;(have H1:(zay.j1 k1 l0 U G true D false)=some r:=by rw[if_pos rfl]at H;exact H);clear H;have H:=H1;clear H1;have H':=mk H;clear H;go_wp2;(go_meet)
      case rel=>exact⟨_,(false),kq3,H',⟨kq17⟩,⟨(kq9 J)⟩,⟨kq8⟩⟩
     ·replace c5:=Bool.eq_false_iff.mpr c5;subst c5;(have H1:(if 0≤D then(zay.j1 k1 l0 U G false D (!(Op.bytesLess ((rdOf ByteArray.empty l0 D).toList) U.toList)))else(none))=some r:=by rw[if_neg (show ¬(false=true) by decide)]at H;exact H);clear H;have H:=H1;clear H1;replace H:=ic_ H;obtain⟨c6,H⟩|⟨c6,H⟩:=H
      ·have aE:decide (0≤D)=true:=decide_eq_true c6;clear c6;((first|rw[aE]|(simp only[zbi,zbq];rw[aE])|skip));have H':=mk H;clear H;have ap:0≤(D:Int):=of_decide_eq_true kq7;have aq:D<(l0.length:Int):=of_decide_eq_true kq7;obtain⟨bn,bf,ai⟩:=Kd.at_string an.out D ap aq;cases bf;replace ai:=hc_ HB ai;replace ap:=eq_true ap;replace aq:=eq_true aq;go_wp2;(go_meet)
       case rel=>exact⟨_,(!(Op.bytesLess ((rdOf ByteArray.empty l0 D).toList) U.toList)),kq3,H',⟨kq17⟩,⟨(kq9 J)⟩,⟨kq8⟩⟩
      ·exact absurd H (by simp)
    case rest=>
     clear aJ;obtain⟨kq,ah,rfl,HA,ao,J,HB⟩:=hcut
     cases kq with
     |zero=>exact absurd HA.out (by simp [zay.j1])
     |succ ag=>
      have H:=HA.out;clear HA;simp only[zay.j1]at H;(by_cases c7:ah=true)
      ·subst c7;(have H1:(if 0≤D then(if D<(l0.length:Int)then(if(Op.bytesLess U.toList ((rdOf ByteArray.empty l0 D).toList))=true then(if G.length<8796093022208 then((some (G++[U]:List ByteArray)).bind fun X=>(if X.length<8796093022208 then(zay.l0 ag l0 U (X++[rdOf ByteArray.empty l0 D]) true (wrap64 (D+1)))else(none)))else(none))else(if G.length<8796093022208 then(zay.l0 ag l0 U (G++[rdOf ByteArray.empty l0 D]) true (wrap64 (D+1)))else(none)))else(none))else(none))=some r:=by rw[if_pos rfl]at H;exact H);clear H;have H:=H1;clear H1;replace H:=ic_ H;obtain⟨c8,H⟩|⟨c8,H⟩:=H
       ·have bs:decide (0≤D)=true:=decide_eq_true c8;clear c8;replace H:=ic_ H;obtain⟨c9,H⟩|⟨c9,H⟩:=H
        ·have bu:decide (D<(l0.length:Int))=true:=decide_eq_true c9;clear c9;replace H:=ic_ H;obtain⟨ar,H⟩|⟨ar,H⟩:=H
         ·have aK:(Op.bytesLess U.toList ((rdOf ByteArray.empty l0 D).toList))=true:=ar;clear ar;replace H:=ic_ H;obtain⟨aM,H⟩|⟨aM,H⟩:=H
          ·have aN:=mk aM;clear aM;obtain⟨X,Y⟩:∃y_:List ByteArray,y_=(G++[U]):=⟨_,rfl⟩;(replace H:(if X.length<8796093022208 then(zay.l0 ag l0 U (X++[rdOf ByteArray.empty l0 D]) true (wrap64 (D+1)))else(none))=some r:=by first|(rw[Y];with_reducible exact H)|(have I:=(Option.bind_some _ _).symm.trans H;rw[Y];with_reducible exact I)|(have I:=(Option.bind_some _ _).symm.trans H;with_reducible exact I)|with_reducible exact H|(rw[Y];exact H)|exact H);have Ny394:=mk Y;clear Y;replace H:=ic_ H;obtain⟨aQ,H⟩|⟨aQ,H⟩:=H
           ·have aT:=mk aQ;clear aQ;obtain⟨aG,Z⟩:∃y_:List ByteArray,y_=(X++[rdOf ByteArray.empty l0 D]):=⟨_,rfl⟩;(replace H:(zay.l0 ag l0 U aG true (wrap64 (D+1)))=some r:=by first|(rw[Z];with_reducible exact H)|(have I:=(Option.bind_some _ _).symm.trans H;rw[Z];with_reducible exact I)|(have I:=(Option.bind_some _ _).symm.trans H;with_reducible exact I)|with_reducible exact H|(rw[Z];exact H)|exact H);have Ny398:=mk Z;clear Z;have H':=mk H;clear H;have aa:0≤(D:Int):=of_decide_eq_true kq7;have ab:D<(l0.length:Int):=of_decide_eq_true kq7;obtain⟨am,au,L⟩:=Kd.at_string an.out D aa ab;cases au;replace L:=hc_ HB L;replace aa:=eq_true aa;replace ab:=eq_true ab;(go_wp2_with (first|((with_reducible refine zbV (b:=.append) (xs:=#[.tmp 30,.tmp 32]) rfl ?_);at_builtin;refine Kd.R_append Kd.string (w0:=w) w.heap.size rfl (.tmp 30) (.tmp 32) 22 9 (.string ⟨#[]⟩) 16 rfl Try.underlying22 zcW rfl kq2 kq1 u5 G U [.string U] (fun _=>True) (fun _=>False) rfl rfl ?aP (fun _ hk=>hk.elim) ?aF ?aO ?aB ?aS ?aL ?_;(case aP=>exact rfl);(case aB=>exact kq12);(case aF=>exact(fun _ _=>trivial));(case aO=>exact kq13 J);(case aS=>exact kq14);(case aL=>have:=aN.out;omega);intro bg bB ho hb hg hat;rw[←Ny394.out]at ho;have av:=mk (ho);replace HB:=mk (hb);clear J;clear ho hb hg hat;have aw:0≤(D:Int):=of_decide_eq_true kq7;have ax:D<(l0.length:Int):=of_decide_eq_true kq7;obtain⟨aU,bh,aj⟩:=Kd.at_string an.out D aw ax;obtain rfl:am=aU:=(by injection bh);replace aj:=hc_ HB aj;replace aw:=eq_true aw;replace ax:=eq_true ax)|((with_reducible refine zbV (b:=.append) (xs:=#[.tmp 34,.tmp 39]) rfl ?_);at_builtin;refine Kd.R_append Kd.string (w0:=w) w.heap.size rfl (.tmp 34) (.tmp 39) 22 9 (.string ⟨#[]⟩) 16 rfl Try.underlying22 zcW rfl kq2 kq1 bg X (rdOf ByteArray.empty l0 D) [.string (rdOf ByteArray.empty l0 D)] (fun _=>True) (fun _=>False) rfl rfl ?aP (fun _ hk=>hk.elim) ?aF ?aO ?aB ?aS ?aL ?_;(case aP=>exact rfl);(case aB=>exact kq12);(case aF=>exact(fun _ _=>trivial));(case aO=>exact kq13 av);(case aS=>exact kq14);(case aL=>have:=aT.out;omega);intro bv bC ho hb hg hat;rw[←Ny398.out]at ho;have aV:=mk (ho);replace HB:=mk (hb);clear av;clear ho hb hg hat)));(go_roundg ag)
            case measure=>have:=HK1.out;have:=ao.out;omega
            case rel=>exact⟨(aG),(true),(wrap64 (D+1)),kq3,kq3,H',⟨by have:=HK1.out;have:=ao.out;omega⟩,⟨(kq9 aV)⟩,⟨kq8⟩⟩
           ·exact absurd H (by simp)
          ·exact absurd H (by simp)
         ·(have aK:(Op.bytesLess U.toList ((rdOf ByteArray.empty l0 D).toList))=false:=by simpa using ar);clear ar;replace H:=ic_ H;obtain⟨aW,H⟩|⟨aW,H⟩:=H
          ·have aX:=mk aW;clear aW;obtain⟨aH,ac⟩:∃y_:List ByteArray,y_=(G++[rdOf ByteArray.empty l0 D]):=⟨_,rfl⟩;(replace H:(zay.l0 ag l0 U aH true (wrap64 (D+1)))=some r:=by first|(rw[ac];with_reducible exact H)|(have I:=(Option.bind_some _ _).symm.trans H;rw[ac];with_reducible exact I)|(have I:=(Option.bind_some _ _).symm.trans H;with_reducible exact I)|with_reducible exact H|(rw[ac];exact H)|exact H);have Ny402:=mk ac;clear ac;have H':=mk H;clear H;have aa:0≤(D:Int):=of_decide_eq_true kq7;have ab:D<(l0.length:Int):=of_decide_eq_true kq7;obtain⟨am,au,L⟩:=Kd.at_string an.out D aa ab;cases au;replace L:=hc_ HB L;replace aa:=eq_true aa;replace ab:=eq_true ab;have ay:0≤(D:Int):=of_decide_eq_true kq7;have az:D<(l0.length:Int):=of_decide_eq_true kq7;obtain⟨aY,bi,ak⟩:=Kd.at_string an.out D ay az;obtain rfl:am=aY:=(by injection bi);replace ak:=hc_ HB ak;replace ay:=eq_true ay;replace az:=eq_true az;(go_wp2_with (first|((with_reducible refine zbV (b:=.append) (xs:=#[.tmp 34,.tmp 39]) rfl ?_);at_builtin;refine Kd.R_append Kd.string (w0:=w) w.heap.size rfl (.tmp 34) (.tmp 39) 22 9 (.string ⟨#[]⟩) 16 rfl Try.underlying22 zcW rfl kq2 kq1 u5 G (rdOf ByteArray.empty l0 D) [.string (rdOf ByteArray.empty l0 D)] (fun _=>True) (fun _=>False) rfl rfl ?aP (fun _ hk=>hk.elim) ?aF ?aO ?aB ?aS ?aL ?_;(case aP=>exact rfl);(case aB=>exact kq12);(case aF=>exact(fun _ _=>trivial));(case aO=>exact kq13 J);(case aS=>exact kq14);(case aL=>have:=aX.out;omega);intro bw bD ho hb hg hat;rw[←Ny402.out]at ho;have aZ:=mk (ho);replace HB:=mk (hb);clear J;clear ho hb hg hat)));(go_roundg ag)
           case measure=>have:=HK1.out;have:=ao.out;omega
           case rel=>exact⟨(aH),(true),(wrap64 (D+1)),kq3,kq3,H',⟨by have:=HK1.out;have:=ao.out;omega⟩,⟨(kq9 aZ)⟩,⟨kq8⟩⟩
          ·exact absurd H (by simp)
        ·exact absurd H (by simp)
       ·exact absurd H (by simp)
      ·replace c7:=Bool.eq_false_iff.mpr c7;subst c7;(have H1:(if 0≤D then(if D<(l0.length:Int)then(if G.length<8796093022208 then(zay.l0 ag l0 U (G++[rdOf ByteArray.empty l0 D]) M (wrap64 (D+1)))else(none))else(none))else(none))=some r:=by rw[if_neg (show ¬(false=true) by decide)]at H;exact H);clear H;have H:=H1;clear H1;replace H:=ic_ H;obtain⟨b4,H⟩|⟨b4,H⟩:=H
       ·have bo:decide (0≤D)=true:=decide_eq_true b4;clear b4;replace H:=ic_ H;obtain⟨b5,H⟩|⟨b5,H⟩:=H
        ·have bp:=decide_eq_true b5;clear b5;replace H:=ic_ H;obtain⟨b6,H⟩|⟨b6,H⟩:=H
         ·have b7:=mk b6;clear b6;obtain⟨aI,ae⟩:∃y_:List ByteArray,y_=(G++[rdOf ByteArray.empty l0 D]):=⟨_,rfl⟩;(replace H:(zay.l0 ag l0 U aI M (wrap64 (D+1)))=some r:=by first|(rw[ae];with_reducible exact H)|(have I:=(Option.bind_some _ _).symm.trans H;rw[ae];with_reducible exact I)|(have I:=(Option.bind_some _ _).symm.trans H;with_reducible exact I)|with_reducible exact H|(rw[ae];exact H)|exact H);have Ny406:=mk ae;clear ae;have H':=mk H;clear H;have aA:0≤(D:Int):=of_decide_eq_true kq7;have aC:D<(l0.length:Int):=of_decide_eq_true kq7;obtain⟨br,bj,al⟩:=Kd.at_string an.out D aA aC;cases bj;replace al:=hc_ HB al;replace aA:=eq_true aA;replace aC:=eq_true aC;(go_wp2_with (first|((with_reducible refine zbV (b:=.append) (xs:=#[.tmp 34,.tmp 39]) rfl ?_);at_builtin;refine Kd.R_append Kd.string (w0:=w) w.heap.size rfl (.tmp 34) (.tmp 39) 22 9 (.string ⟨#[]⟩) 16 rfl Try.underlying22 zcW rfl kq2 kq1 u5 G (rdOf ByteArray.empty l0 D) [.string (rdOf ByteArray.empty l0 D)] (fun _=>True) (fun _=>False) rfl rfl ?aP (fun _ hk=>hk.elim) ?aF ?aO ?aB ?aS ?aL ?_;(case aP=>exact rfl);(case aB=>exact kq12);(case aF=>exact(fun _ _=>trivial));(case aO=>exact kq13 J);(case aS=>exact kq14);(case aL=>have:=b7.out;omega);intro bx bE ho hb hg hat;rw[←Ny406.out]at ho;have b8:=mk (ho);replace HB:=mk (hb);clear J;clear ho hb hg hat)));(go_roundg ag)
          case measure=>have:=HK1.out;have:=ao.out;omega
          case rel=>exact⟨(aI),(M),(wrap64 (D+1)),kq3,kq3,H',⟨by have:=HK1.out;have:=ao.out;omega⟩,⟨(kq9 b8)⟩,⟨kq8⟩⟩
         ·exact absurd H (by simp)
        ·exact absurd H (by simp)
       ·exact absurd H (by simp)
   ·have be:decide (D<(l0.length:Int))=false:=decide_eq_false c3;clear c3;(by_cases aD:M=true)
    ·subst aD;(have H1:(some G)=some r:=by rw[if_pos rfl]at H;exact H);clear H;have H:=H1;clear H1;obtain rfl:=Option.some.inj H;go_wp2;go_ret;exact⟨_,kq18,(kq9 J),kq8⟩
    ·replace aD:=Bool.eq_false_iff.mpr aD;subst aD;(have H1:(if G.length<8796093022208 then(some (G++[U]))else(none))=some r:=by rw[if_neg (show ¬(false=true) by decide)]at H;exact H);clear H;have H:=H1;clear H1;replace H:=ic_ H;obtain⟨b9,H⟩|⟨b9,H⟩:=H
     ·have ba:=mk b9;clear b9;obtain⟨bk,af⟩:∃y_:List ByteArray,y_=(G++[U]):=⟨_,rfl⟩;(replace H:(some bk)=some r:=by first|(rw[af];with_reducible exact H)|(have I:=(Option.bind_some _ _).symm.trans H;rw[af];with_reducible exact I)|(have I:=(Option.bind_some _ _).symm.trans H;with_reducible exact I)|with_reducible exact H|(rw[af];exact H)|exact H);have Ny389:=mk af;clear af;obtain rfl:=Option.some.inj H;(go_wp2_with (first|((with_reducible refine zbV (b:=.append) (xs:=#[.tmp 43,.tmp 45]) rfl ?_);at_builtin;refine Kd.R_append Kd.string (w0:=w) w.heap.size rfl (.tmp 43) (.tmp 45) 22 9 (.string ⟨#[]⟩) 16 rfl Try.underlying22 zcW rfl kq2 kq1 u5 G U [.string U] (fun _=>True) (fun _=>False) rfl rfl ?aP (fun _ hk=>hk.elim) ?aF ?aO ?aB ?aS ?aL ?_;(case aP=>exact rfl);(case aB=>exact kq12);(case aF=>exact(fun _ _=>trivial));(case aO=>exact kq13 J);(case aS=>exact kq14);(case aL=>have:=ba.out;omega);intro bz bF ho hb hg hat;rw[←Ny389.out]at ho;have bb:=mk (ho);replace HB:=mk (hb);clear J;clear ho hb hg hat)));go_ret;exact⟨_,kq18,(kq9 bb),kq8⟩
     ·exact absurd H (by simp)
def zaA.l0:Nat→List ByteArray→List ByteArray→Int→Option (List ByteArray)
 |0,_,_,_=>none
 |k+1,x0,x3,x4=>if x4<(x0.length:Int)then(if 0≤x4 then((zay.f k x3 (rdOf ByteArray.empty x0 x4)).bind fun t410=>(zaA.l0 k x0 t410 (wrap64 (x4+1))))else(none))else(some x3)
def zaA.f (k:Nat) (l0:List ByteArray):Option (List ByteArray):=zaA.l0 k l0 ([]:List ByteArray) 0
theorem zaA.mono_l:∀k,(∀f D G,LeO (zaA.l0 k f D G) (zaA.l0 (k+1) f D G))
 |0=>fun _ _ _ r h=>by simp [zaA.l0]at h
 |k+1=>by
  have ih0:=zaA.mono_l k
  ·intro f D G;unfold zaA.l0
   repeat' first
   |(with_reducible exact ih0 _ _ _)
   |(with_reducible exact zay.mono _ _ _)
   |(with_reducible exact LeO.refl _)
   |(with_reducible exact LeO.none _)
   |(with_reducible refine LeO.ite ?_ ?_)
   |(with_reducible refine LeO.bind ?_ (fun _=>?_))
   |exact ih0 _ _ _
   |exact zay.mono _ _ _
   |exact LeO.none _
   |refine LeO.ite ?_ ?_
   |refine LeO.bind ?_ (fun _=>?_)
theorem zaA.mono:∀a0 k,LeO (zaA.f k a0) (zaA.f (k+1) a0):=by
 intro a0 k
 have ih0:=zaA.mono_l k
 unfold zaA.f
 repeat' first
  |(with_reducible exact ih0 _ _ _)
  |(with_reducible exact zay.mono _ _ _)
  |(with_reducible exact LeO.refl _)
  |(with_reducible exact LeO.none _)
  |(with_reducible refine LeO.ite ?_ ?_)
  |(with_reducible refine LeO.bind ?_ (fun _=>?_))
  |exact ih0 _ _ _
  |exact zay.mono _ _ _
  |exact LeO.none _
  |refine LeO.ite ?_ ?_
  |refine LeO.bind ?_ (fun _=>?_)
set_option maxHeartbeats 8000000 in
theorem zaA.calls (k:Nat) (A0:Option Addr) (c0:Nat) (l0 r:List ByteArray) (w:World) (Y:Kd.C Kd.string w A0 l0.length l0) (hc0:l0.length≤c0) (h:zaA.f k l0=some r) :
 Calls Try.prog 65 #[.slice A0 l0.length c0] w fun e w'=>∃Z:Value,e= .returned (Z)∧Kd.R Kd.string 9 w' w.heap.size (fun _=>True) Z r∧Below w.heap.size w w':=by
 have ae:=mk Y
 have al:=mk hc0
 clear Y hc0
 have HB:=mk (Below.refl w.heap.size w)
 have H:(zaA.l0 k l0 ([]:List ByteArray) 0)=some r:=h
 clear h
 have H':=mk H
 clear H
 go_enter Try.func65,Try.ntmps65
 go_wp2
 go_loopg [3,4] k (fun kq v3 v4 w'=>∃(I:List ByteArray) (D:Int),v4= .int .i64 D∧Aside0 (zaA.l0 kq l0 I D=some r)∧Aside0 (kq≤k)∧Aside0 (Kd.R Kd.string 9 w' w.heap.size (fun _=>True) v3 I)∧Aside0 (Below w.heap.size w w'))
 case atStart=>exact⟨(([]:List ByteArray)),(0),kq3,H',⟨Nat.le_refl _⟩,⟨kq16⟩,⟨kq8⟩⟩
 case round=>
  clear H'
  obtain⟨I,D,rfl,HA,HK1,G,HB⟩:=hrel
  cases gk with
  |zero=>exact absurd HA.out (by simp [zaA.l0])
  |succ k1=>
   have H:=HA.out;clear HA;simp only[zaA.l0]at H;replace H:=ic_ H;obtain⟨c2,H⟩|⟨c2,H⟩:=H
   ·have aa:decide (D<(l0.length:Int))=true:=decide_eq_true c2;clear c2;replace H:=ic_ H;obtain⟨c3,H⟩|⟨c3,H⟩:=H
    ·have aj:decide (0≤D)=true:=decide_eq_true c3;clear c3;replace H:=Option.bind_eq_some_iff.mp H;obtain⟨L,ab,H⟩:=H;replace H:(zaA.l0 k1 l0 L (wrap64 (D+1)))=some r:=H;have A4:=mk ab;clear ab;have H':=mk H;clear H;have M:0≤(D:Int):=of_decide_eq_true kq7;have U:D<(l0.length:Int):=of_decide_eq_true kq7;obtain⟨af,ac,J⟩:=Kd.at_string ae.out D M U;cases ac;replace J:=hc_ HB J;replace M:=eq_true M;replace U:=eq_true U;obtain⟨ag,ah,ai⟩:=Kd.R_slice G.out;subst ai;(go_wp2_with (first|((with_reducible refine zaE (f:=109) rfl ?_);refine za7 (some 16) rfl rfl Try.func109 kq0 rfl #[.slice ag I.length ah,.string (rdOf ByteArray.empty l0 D)] rfl kq10 ?_;(with_reducible refine(zay.calls k1 _ _ I (rdOf ByteArray.empty l0 D) L _ ?side1 ?side2 A4.out).mono ?_);(case side1=>exact kq15 G);(case side2=>exact(Kd.R_reads' G.out).2.1);rintro e w6 ⟨ak,rfl,ho0,hb⟩;refine⟨_,rfl,?_⟩;have X:=mk (Kd.R_lower (Kd.R_new' ho0 (Kd.R_lt (kq9 G))) (zad kq8));replace G:=mk (Kd.R_elder' (kq9 G) (Kd.R_base ho0) hb);replace HB:=mk (zaa kq8 hb))));(go_roundg k1)
     case measure=>have:=HK1.out;omega
     case rel=>exact⟨(L),(wrap64 (D+1)),kq3,H',⟨kq19⟩,⟨by(with_reducible repeat(first|apply Kd.R_alloc|apply Kd.R_drewN|apply Kd.R_drew));exact Kd.R_mono X.out (fun _ hk=>trivial)⟩,⟨kq8⟩⟩
    ·exact absurd H (by simp)
   ·have aa:decide (D<(l0.length:Int))=false:=decide_eq_false c2;clear c2;obtain rfl:=Option.some.inj H;go_wp2;go_ret;exact⟨_,kq18,(kq9 G),kq8⟩
end Go.Proofs.Ytjknpmibdkoklaa.Q
namespace Go.Proofs.Ytjknpmibdkoklaa.Q
open Go.RowKit Go.Sort Go.Lib Go.Proofs.YtjknpmibdkoklaaW.PrintWords Go.Proofs.YtjknpmibdkoklaaW.PrintLast Go.Proofs.YtjknpmibdkoklaaW.PrintMore
theorem zfX (s:ByteArray):s.toList=bl s:=by unfold bl;rw[ByteArray.toList_eq]
theorem zh6 (l:List UInt8):bl (lb l)=l:=by simp [bl,lb]
theorem zgU {a b:ByteArray} (h:bl a=bl b):a=b:=by rw[←zgd a,h,zgd]
theorem zgr (a b:ByteArray):Op.bytesLess a.toList b.toList=decide (bl a<bl b):=by rw[bytesLess_eq,zfX,zfX]
theorem ltt {a b c:List UInt8} (h:a<b) (k:b<c):a<c:=List.lt_trans h k
theorem lti (a:List UInt8):¬a<a:=List.lt_irrefl a
theorem tri {a b:List UInt8} (h:¬a<b) (k:¬b<a):a=b:=List.le_antisymm (List.not_lt.1 k) (List.not_lt.1 h)
theorem lle {a b:List UInt8} (h:a≤b) (k:a≠b):a<b:=Classical.byContradiction fun n=>k (List.le_antisymm h (List.not_lt.1 n))
abbrev Rise (l:List ByteArray):Prop:=l.Pairwise fun a b=>bl a<bl b
theorem zeJ:∀{l m:List ByteArray},Rise l→Rise m→(∀x,x ∈ l↔x ∈ m)→l=m
 | [],[],_,_,_=>rfl
 | [],y::m,_,_,h=>absurd ((h y).2 (List.mem_cons_self ..)) List.not_mem_nil
 |x::l,[],_,_,h=>absurd ((h x).1 (List.mem_cons_self ..)) List.not_mem_nil
 |x::l,y::m,hl,hm,h=>by
  rw[Rise,List.pairwise_cons]at hl hm
  have e:x=y:=by
   rcases List.mem_cons.1 ((h x).1 (List.mem_cons_self ..))with e|e
   ·exact e
   ·rcases List.mem_cons.1 ((h y).2 (List.mem_cons_self ..))with f|f
    ·exact f.symm
    ·exact absurd (ltt (hm.1 x e) (hl.1 y f)) (lti _)
  subst e
  refine congrArg (x:: ·) (zeJ hl.2 hm.2 fun z=>⟨fun hz=>?_,fun hz=>?_⟩)
  ·rcases List.mem_cons.1 ((h z).1 (List.mem_cons_of_mem _ hz))with e|e
   ·subst e;exact absurd (hl.1 _ hz) (lti _)
   ·exact e
  ·rcases List.mem_cons.1 ((h z).2 (List.mem_cons_of_mem _ hz))with e|e
   ·subst e;exact absurd (hm.1 _ hz) (lti _)
   ·exact e
def putS:List ByteArray→ByteArray→List ByteArray
 | [],x=>[x]
 |y::l,x=>if bl y<bl x then y::putS l x else if bl x<bl y then x::y::l else y::l
theorem zfs {x z:ByteArray}:∀{l:List ByteArray},z ∈ putS l x↔z=x∨z ∈ l
 | []=>by simp [putS]
 |y::l=>by
  unfold putS
  split
  ·rw[List.mem_cons,zfs,List.mem_cons]
   constructor
   ·rintro(h|h|h)<;>simp [h]
   ·rintro(h|h|h)<;>simp [h]
  ·split
   ·simp
   ·rename_i h1 h2
    have:=zgU (tri h1 h2)
    subst this
    simp
theorem zfY {x:ByteArray}:∀{l:List ByteArray},Rise l→Rise (putS l x)
 | [],_=>by simp [putS,Rise]
 |y::l,h=>by
  have h':=h
  rw[Rise,List.pairwise_cons]at h
  unfold putS
  split
  ·rename_i h1
   rw[Rise,List.pairwise_cons]
   refine⟨fun z hz=>?_,zfY h.2⟩
   rcases zfs.1 hz with e|e
   ·subst e;exact h1
   ·exact h.1 z e
  ·split
   ·rename_i h1
    rw[Rise,List.pairwise_cons]
    refine⟨fun z hz=>?_,h'⟩
    rcases List.mem_cons.1 hz with e|e
    ·subst e;exact h1
    ·exact ltt h1 (h.1 z e)
   ·exact h'
theorem zdB {x:ByteArray}:∀{l:List ByteArray},(putS l x).length≤l.length+1
 | []=>by simp [putS]
 |y::l=>by
  unfold putS
  have:=zdB (x:=x) (l:=l)
  split
  ·simp;omega
  ·split<;>simp
def zh7 (l:List ByteArray):List ByteArray:=l.foldl putS []
theorem zfZ:∀(l acc:List ByteArray),Rise acc→Rise (l.foldl putS acc)∧(∀z,z ∈ l.foldl putS acc↔z ∈ acc∨z ∈ l)∧(l.foldl putS acc).length≤acc.length+l.length
 | [],acc,h=>⟨h,by simp,by simp⟩
 |x::l,acc,h=>by
  obtain⟨h1,h2,f⟩:=zfZ l (putS acc x) (zfY h)
  refine⟨h1,fun z=>?_,?_⟩
  ·rw[List.foldl_cons,h2,zfs,List.mem_cons]
   constructor
   ·rintro((h|h)|h)<;>simp [h]
   ·rintro(h|h|h)<;>simp [h]
  ·have:=zdB (x:=x) (l:=acc)
   simp only[List.foldl_cons,List.length_cons]
   omega
theorem zf0 (zs:List (List UInt8)) (x:List UInt8):Lib.compact (zs++[x])=Lib.compact zs++(if zs.getLast?=some x then[]else[x]):=by
 unfold Lib.compact
 rw[List.length_append,List.length_singleton,compactUpTo_succ]
 have h1:∀j,j<zs.length→(zs++[x]).toArray[j]! =zs.toArray[j]! :=fun j hj=>by simp [getElem!_pos,hj,List.getElem_append_left hj,show j<zs.length+1 by omega]
 have h2:(zs++[x]).toArray[zs.length]! =x:=by simp
 congr 1
 ·unfold compactUpTo
  have e:(List.range zs.length).filter (keeps (zs++[x]).toArray)=(List.range zs.length).filter (keeps zs.toArray):=List.filter_congr fun j hj=>by
   have:=List.mem_range.1 hj
   unfold keeps
   rw[h1 j this,h1 (j-1) kq1]
  rw[e]
  exact List.map_congr_left fun j hj=>h1 j (List.mem_range.1 (List.mem_filter.1 hj).1)
 ·rw[h2]
  unfold keeps
  rw[h2]
  cases hz:zs.length with
  |zero=>
   obtain rfl:=List.eq_nil_of_length_eq_zero hz
   simp
  |succ n=>
   rw[h1 (n+1-1) kq1]
   have e:zs.getLast?=some zs.toArray[n]! :=by rw[List.getLast?_eq_getElem?,hz,List.getElem?_eq_getElem kq1];simp [getElem!_pos,show n<zs.length by omega]
   rw[show n+1-1=n from rfl,e]
   generalize zs.toArray[n]! =y
   by_cases hx:x=y
   ·subst hx;simp
   ·have f:¬y=x:=fun h=>hx h.symm
    simp [hx,f]
theorem ziA {α:Type} {P:List α→Prop} (h0:P []) (h1:∀l x,P l→P (l++[x])) (l:List α):P l:=by
 have:∀r:List α,P r.reverse:=fun r=>by
  induction r with
  |nil=>exact h0
  |cons x r ih=>rw[List.reverse_cons];exact h1 _ _ ih
 simpa using this l.reverse
theorem zej (zs:List (List UInt8)):zs.Pairwise (· ≤ ·)→(Lib.compact zs).Pairwise (· < ·)∧∀y,y ∈ Lib.compact zs↔y ∈ zs:=by
 induction zs using ziA with
 |h0=>exact fun _=>⟨List.Pairwise.nil,fun y=>Iff.rfl⟩
 |h1 l x ih=>
  intro h
  rw[List.pairwise_append]at h
  obtain⟨r,f⟩:=ih h.1
  rw[zf0]
  split
  ·rename_i e
   refine⟨by simpa using r,fun y=>?_⟩
   have hx:x ∈ l:=List.mem_of_getLast? e
   rw[List.append_nil,f,List.mem_append,List.mem_singleton]
   constructor
   ·exact .inl
   ·rintro(k|rfl)<;>assumption
  ·rename_i e
   refine⟨List.pairwise_append.2 ⟨r,by simp,fun a ha b hb=>?_⟩,fun y=>by rw[List.mem_append,List.mem_append,f]⟩
   obtain rfl:=List.mem_singleton.1 hb
   have ha2:=(f a).1 ha
   refine lle (h.2.2 a ha2 b (List.mem_singleton_self _)) fun hab=>?_
   subst hab
   cases hl:l.getLast? with
   |none=>rw[List.getLast?_eq_none_iff]at hl;subst hl;cases ha2
   |some z=>
    obtain⟨l',rfl⟩:=List.getLast?_eq_some_iff.1 hl
    have hz:z≤a:=h.2.2 z (by simp) a (List.mem_singleton_self _)
    rcases List.mem_append.1 ha2 with k|k
    ·have:=(List.pairwise_append.1 h.1).2.2 a k z (List.mem_singleton_self _)
     exact e (by rw[hl,List.le_antisymm hz this])
    ·obtain rfl:=List.mem_singleton.1 k
     exact e hl
def zce (l:List ByteArray):List ByteArray:=zcp (zcR l)
theorem zh8 (l:List (List UInt8)):(l.map lb).map bl=l:=by
 rw[List.map_map]
 exact(congrArg (fun q=>List.map q l) (funext fun s=>zh6 s)).trans (List.map_id l)
theorem zeK {x:ByteArray} {l:List ByteArray}:x ∈ zcR l↔x ∈ l:=by
 unfold zcR
 rw[List.mem_map]
 constructor
 ·rintro⟨a,ha,rfl⟩
  obtain⟨b,hb,rfl⟩:=List.mem_map.1 (List.mem_mergeSort.1 ha)
  rwa [zgd]
 ·exact fun h=>⟨bl x,List.mem_mergeSort.2 (List.mem_map.2 ⟨x,h,rfl⟩),zgd x⟩
theorem zfa (l:List ByteArray):((zcR l).map bl).Pairwise (· ≤ ·):=by
 unfold zcR
 rw[zh8]
 have:=List.pairwise_mergeSort (le:=fun x y:List UInt8=>decide (x≤y)) (fun a b c h1 h2=>by simp at *;exact List.le_trans h1 h2) (fun a b=>by simp;exact List.le_total a b) (l.map bl)
 exact this.imp (fun h=>of_decide_eq_true h)
theorem zfb (l:List ByteArray):Rise (zce l):=by
 have h:=(zej _ (zfa l)).1
 unfold zce zcp
 rw[Rise,List.pairwise_map]
 exact h.imp (fun {a b} h=>by rw[zh6,zh6];exact h)
theorem zf1 {x:ByteArray} {l:List ByteArray}:x ∈ zce l↔x ∈ l:=by
 have h:=(zej _ (zfa l)).2
 unfold zce zcp
 rw[List.mem_map]
 constructor
 ·rintro⟨a,ha,rfl⟩
  obtain⟨b,hb,rfl⟩:=List.mem_map.1 ((h a).1 ha)
  rw[zgd]
  exact zeK.1 hb
 ·exact fun hx=>⟨bl x,(h _).2 (List.mem_map.2 ⟨x,zeK.2 hx,rfl⟩),zgd x⟩
theorem zcn (l:List ByteArray):(zce l).length≤l.length:=by
 unfold zce zcp
 rw[List.length_map]
 exact Nat.le_trans (ze5 _) (by rw[List.length_map,zcS];exact Nat.le_refl _)
theorem zeT (l:List ByteArray):zh7 l=zce l:=by
 obtain⟨h1,h2,_⟩:=zfZ l [] List.Pairwise.nil
 exact zeJ h1 (zfb l) fun x=>by rw[zf1];exact(h2 x).trans (by simp)
theorem zdV {i n:Nat} (h:i<n) (hn:n<4611686018427387904):wrap64 ((i:Int)+1)=((i+1:Nat):Int):=by
 unfold wrap64
 omega
theorem zet {α:Type} (d:α) (l:List α) (i:Nat):rdOf d l (i:Int)=l.getD i d:=rfl
theorem zft (l:List ByteArray) (x:ByteArray) (hl:l.length<4398046511104):∀(n i:Nat) (out:List ByteArray) (k:Nat),i≤l.length→l.length-i=n→out.length≤i+1→zay.l0 (k+(2*n+1)) l x out true (i:Int)=some (out++l.drop i)
 |0,i,out,k,hi,hn,ho=>by
  rw[show k+(2*0+1)=k+1 by omega]
  unfold zay.l0
  rw[if_neg kq1,if_pos rfl,List.drop_of_length_le kq1,List.append_nil]
 |n+1,i,out,k,hi,hn,ho=>by
  have hlt:i<l.length:=by omega
  rw[show k+(2*(n+1)+1)=(k+(2*n+1))+1+1 by omega]
  unfold zay.l0
  rw[if_pos kq1,if_pos rfl]
  unfold zay.j1
  rw[if_neg kq2,if_pos kq1,if_pos kq1,if_pos kq1,zdV hlt kq1,zft l x hl n (i+1) _ k kq1 kq1 (by simp;omega)]
  rw[zet,List.append_assoc,List.singleton_append,List.drop_eq_getElem_cons hlt,List.getD_eq_getElem?_getD,List.getElem?_eq_getElem hlt]
  rfl
theorem zf2 (l:List ByteArray) (x:ByteArray) (hl:l.length<4398046511104):∀(n i:Nat) (out:List ByteArray) (k:Nat),i≤l.length→l.length-i=n→out.length≤i→zay.l0 (k+(2*n+1)) l x out false (i:Int)=some (out++putS (l.drop i) x)
 |0,i,out,k,hi,hn,ho=>by
  rw[show k+(2*0+1)=k+1 by omega]
  unfold zay.l0
  rw[if_neg kq1,if_neg kq2,if_pos kq1,List.drop_of_length_le kq1,putS]
 |n+1,i,out,k,hi,hn,ho=>by
  have hlt:i<l.length:=by omega
  have hrd:rdOf ByteArray.empty l (i:Int)=l[i]:=by rw[zet,List.getD_eq_getElem?_getD,List.getElem?_eq_getElem hlt];rfl
  rw[show k+(2*(n+1)+1)=(k+(2*n+1))+1+1 by omega]
  unfold zay.l0
  rw[if_pos kq1,if_neg kq2,if_pos kq1,hrd,zgr,List.drop_eq_getElem_cons hlt]
  unfold zay.j1
  rw[hrd,zgr]
  unfold putS
  by_cases h1:bl l[i]<bl x
  ·rw[if_neg (by simp [h1]),if_pos h1,if_pos kq1,if_pos kq1,if_pos kq1,zdV hlt kq1,zf2 l x hl n (i+1) _ k kq1 kq1 (by simp;omega),List.append_assoc,List.singleton_append]
  ·rw[if_pos (by simp [h1]),if_neg h1,if_pos kq1,if_pos kq1]
   by_cases h2:bl x<bl l[i]
   ·rw[if_pos (by simp [h2]),if_pos h2,if_pos kq1,Option.bind_some,if_pos (by simp;omega),zdV hlt kq1,zft l x hl n (i+1) _ k kq1 kq1 (by simp;omega)]
    simp
   ·rw[if_neg (by simp [h2]),if_neg h2,if_pos kq1,zdV hlt kq1,zft l x hl n (i+1) _ k kq1 kq1 (by simp;omega)]
    simp
theorem zjD (l:List ByteArray) (x:ByteArray) (hl:l.length<4398046511104):Ev (fun k=>zay.f k l x) (putS l x):=⟨2*l.length+1,fun k hk=>by
 have:=zf2 l x hl l.length 0 [] (k-(2*l.length+1)) (Nat.zero_le _) rfl (Nat.zero_le _)
 rw[show k-(2*l.length+1)+(2*l.length+1)=k by omega]at this
 exact this⟩
theorem zds (l:List ByteArray) (hl:l.length<2199023255552):∀(n i:Nat) (acc:List ByteArray),i≤l.length→l.length-i=n→acc.length≤i→Ev (fun k=>zaA.l0 k l acc (i:Int)) ((l.drop i).foldl putS acc)
 |0,i,acc,hi,hn,ho=>Ev.step (f:=fun _=>some acc) (fun k=>by
  unfold zaA.l0
  rw[if_neg kq1]) (by rw[List.drop_of_length_le kq1];exact Ev.now acc)
 |n+1,i,acc,hi,hn,ho=>by
  have hlt:i<l.length:=by omega
  have hrd:rdOf ByteArray.empty l (i:Int)=l[i]:=by rw[zet,List.getD_eq_getElem?_getD,List.getElem?_eq_getElem hlt];rfl
  refine Ev.step (f:=fun k=>(zay.f k acc l[i]).bind fun t=>zaA.l0 k l t ((i+1:Nat):Int)) (fun k=>by
   show zaA.l0 (k+1) l acc (i:Int)=_
   conv=>lhs;unfold zaA.l0
   rw[if_pos kq1,if_pos kq1,hrd,zdV hlt kq1]) ?_
  rw[List.drop_eq_getElem_cons hlt,List.foldl_cons]
  exact Ev.bind (zjD acc l[i] kq1) (zds l hl n (i+1) _ kq1 kq1 (by have:=zdB (x:=l[i]) (l:=acc);omega))
theorem zeL (l:List ByteArray) (hl:l.length<2199023255552):Ev (fun k=>zaA.f k l) (zce l):=by
 rw[←zeT]
 exact zds l hl l.length 0 [] (Nat.zero_le _) rfl (Nat.zero_le _)
end Go.Proofs.Ytjknpmibdkoklaa.Q
namespace Go.Proofs.Ytjknpmibdkoklaa.Q
open Go.RowKit Go.Proofs.YtjknpmibdkoklaaW.PrintWords Go.Proofs.YtjknpmibdkoklaaW.PrintLast Go.Proofs.YtjknpmibdkoklaaW.PrintMore
open Aside0 (mk)
open List (setIfInBounds_toArray set_cons_zero set_cons_succ)
attribute [local go_sem] zbw zbz zbP zbQ zbm zbn zbA zbB
set_option linter.unusedVariables false
set_option linter.unusedSimpArgs false
attribute [local go_sem] zbS zbD zbE zbF
def zcf.f (k:Nat) (a0:Int):Option (Bool):=(zaz.f k a0).bind fun t101=>(if t101=true then(some true)else(if a0≥48 then(if a0≤57 then(some true)else(if a0=8242 then(some true)else(if a0≥8320 then(some (decide (a0≤8329)))else(some false))))else(if a0=8242 then(some true)else(if a0≥8320 then(some (decide (a0≤8329)))else(some false)))))
theorem zcf.mono:∀a0 k,LeO (zcf.f k a0) (zcf.f (k+1) a0):=by
 intro a0 k
 unfold zcf.f
 repeat' first
  |(with_reducible exact zaz.mono _ _)
  |(with_reducible exact LeO.refl _)
  |(with_reducible exact LeO.none _)
  |(with_reducible refine LeO.ite ?_ ?_)
  |(with_reducible refine LeO.bind ?_ (fun _=>?_))
  |exact zaz.mono _ _
  |exact LeO.none _
  |refine LeO.ite ?_ ?_
  |refine LeO.bind ?_ (fun _=>?_)
set_option maxHeartbeats 8000000 in
theorem zcf.calls (k:Nat) (a0:Int) (r:Bool) (w:World) (h:zcf.f k a0=some r) :
 Calls Try.prog 78 #[.int .i32 a0] w fun e w'=>e= .returned (.bool r)∧Drawn0 w w':=by
 have H:((zaz.f k a0).bind fun D=>(if D=true then(some true)else(if a0≥48 then(if a0≤57 then(some true)else(if a0=8242 then(some true)else(if a0≥8320 then(some (decide (a0≤8329)))else(some false))))else(if a0=8242 then(some true)else(if a0≥8320 then(some (decide (a0≤8329)))else(some false))))))=some r:=h
 clear h
 replace H:=Option.bind_eq_some_iff.mp H
 obtain⟨D,I,H⟩:=H
 replace H:(if D=true then(some true)else(if a0≥48 then(if a0≤57 then(some true)else(if a0=8242 then(some true)else(if a0≥8320 then(some (decide (a0≤8329)))else(some false))))else(if a0=8242 then(some true)else(if a0≥8320 then(some (decide (a0≤8329)))else(some false)))))=some r:=H
 have G:=mk I
 clear I
 by_cases c3:D=true
 ·subst c3
  have J:(some true)=some r:=by rw[if_pos rfl]at H;exact H
  clear H
  have H:=J
  clear J
  obtain rfl:=Option.some.inj H
  go_enter Try.func78,Try.ntmps78
  go_wp2_with (first|((with_reducible refine zaE (f:=77) rfl ?_);refine za7 (some 4) rfl rfl Try.func77 kq0 rfl #[.int .i32 a0] rfl kq10 ?_;(with_reducible refine(zaz.calls k a0 true _ G.out).mono ?_);rintro e w' ⟨rfl,⟨nd,rfl⟩⟩;refine⟨_,rfl,?_⟩))
  go_ret
  exact⟨kq3,kq5⟩
 ·replace c3:=Bool.eq_false_iff.mpr c3
  subst c3
  have J:(if a0≥48 then(if a0≤57 then(some true)else(if a0=8242 then(some true)else(if a0≥8320 then(some (decide (a0≤8329)))else(some false))))else(if a0=8242 then(some true)else(if a0≥8320 then(some (decide (a0≤8329)))else(some false))))=some r:=by rw[if_neg (show ¬(false=true) by decide)]at H;exact H
  clear H
  have H:=J
  clear J
  replace H:=ic_ H;obtain⟨L,H⟩|⟨L,H⟩:=H
  ·have M:decide (48≤a0)=true:=decide_eq_true L;clear L;replace H:=ic_ H;obtain⟨U,H⟩|⟨U,H⟩:=H
   ·have X:decide (a0≤57)=true:=decide_eq_true U;clear U;obtain rfl:=Option.some.inj H;(go_enter Try.func78,Try.ntmps78);(go_wp2_with (first|((with_reducible refine zaE (f:=77) rfl ?_);refine za7 (some 4) rfl rfl Try.func77 kq0 rfl #[.int .i32 a0] rfl kq10 ?_;(with_reducible refine(zaz.calls k a0 false _ G.out).mono ?_);rintro e w' ⟨rfl,⟨nd,rfl⟩⟩;refine⟨_,rfl,?_⟩)));go_ret;exact⟨kq3,kq5⟩
   ·have X:decide (a0≤57)=false:=decide_eq_false U;clear U;replace H:=ic_ H;obtain⟨c6,H⟩|⟨c6,H⟩:=H
    ·obtain⟨Y,Z⟩:=eTn_ c6;clear c6;obtain rfl:=Option.some.inj H;(go_enter Try.func78,Try.ntmps78);(go_wp2_with (first|((with_reducible refine zaE (f:=77) rfl ?_);refine za7 (some 4) rfl rfl Try.func77 kq0 rfl #[.int .i32 a0] rfl kq10 ?_;(with_reducible refine(zaz.calls k a0 false _ G.out).mono ?_);rintro e w' ⟨rfl,⟨nd,rfl⟩⟩;refine⟨_,rfl,?_⟩)));go_ret;exact⟨kq3,kq5⟩
    ·obtain⟨Y,Z⟩:=eFn_ c6;replace H:=ic_ H;obtain⟨c7,H⟩|⟨c7,H⟩:=H
     ·have aa:decide (8320≤a0)=true:=decide_eq_true c7;clear c7;obtain rfl:=Option.some.inj H;(go_enter Try.func78,Try.ntmps78);(go_wp2_with (first|((with_reducible refine zaE (f:=77) rfl ?_);refine za7 (some 4) rfl rfl Try.func77 kq0 rfl #[.int .i32 a0] rfl kq10 ?_;(with_reducible refine(zaz.calls k a0 false _ G.out).mono ?_);rintro e w' ⟨rfl,⟨nd,rfl⟩⟩;refine⟨_,rfl,?_⟩)));go_ret;exact⟨kq3,kq5⟩
     ·have aa:decide (8320≤a0)=false:=decide_eq_false c7;clear c7;obtain rfl:=Option.some.inj H;(go_enter Try.func78,Try.ntmps78);(go_wp2_with (first|((with_reducible refine zaE (f:=77) rfl ?_);refine za7 (some 4) rfl rfl Try.func77 kq0 rfl #[.int .i32 a0] rfl kq10 ?_;(with_reducible refine(zaz.calls k a0 false _ G.out).mono ?_);rintro e w' ⟨rfl,⟨nd,rfl⟩⟩;refine⟨_,rfl,?_⟩)));go_ret;exact⟨kq3,kq5⟩
  ·have M:decide (48≤a0)=false:=decide_eq_false L;clear L;replace H:=ic_ H;obtain⟨c8,H⟩|⟨c8,H⟩:=H
   ·obtain⟨ab,ac⟩:=eTn_ c8;clear c8;obtain rfl:=Option.some.inj H;(go_enter Try.func78,Try.ntmps78);(go_wp2_with (first|((with_reducible refine zaE (f:=77) rfl ?_);refine za7 (some 4) rfl rfl Try.func77 kq0 rfl #[.int .i32 a0] rfl kq10 ?_;(with_reducible refine(zaz.calls k a0 false _ G.out).mono ?_);rintro e w' ⟨rfl,⟨nd,rfl⟩⟩;refine⟨_,rfl,?_⟩)));go_ret;exact⟨kq3,kq5⟩
   ·obtain⟨ab,ac⟩:=eFn_ c8;replace H:=ic_ H;obtain⟨c9,H⟩|⟨c9,H⟩:=H
    ·have ae:decide (8320≤a0)=true:=decide_eq_true c9;clear c9;obtain rfl:=Option.some.inj H;(go_enter Try.func78,Try.ntmps78);(go_wp2_with (first|((with_reducible refine zaE (f:=77) rfl ?_);refine za7 (some 4) rfl rfl Try.func77 kq0 rfl #[.int .i32 a0] rfl kq10 ?_;(with_reducible refine(zaz.calls k a0 false _ G.out).mono ?_);rintro e w' ⟨rfl,⟨nd,rfl⟩⟩;refine⟨_,rfl,?_⟩)));go_ret;exact⟨kq3,kq5⟩
    ·have ae:decide (8320≤a0)=false:=decide_eq_false c9;clear c9;obtain rfl:=Option.some.inj H;(go_enter Try.func78,Try.ntmps78);(go_wp2_with (first|((with_reducible refine zaE (f:=77) rfl ?_);refine za7 (some 4) rfl rfl Try.func77 kq0 rfl #[.int .i32 a0] rfl kq10 ?_;(with_reducible refine(zaz.calls k a0 false _ G.out).mono ?_);rintro e w' ⟨rfl,⟨nd,rfl⟩⟩;refine⟨_,rfl,?_⟩)));go_ret;exact⟨kq3,kq5⟩
def zb0.f (a0:ByteArray):Option (Bool):=if a0.toList=([97,110,100]:List UInt8)then(some true)else(if a0.toList=([111,114]:List UInt8)then(some true)else(if a0.toList=([110,111,116]:List UInt8)then(some true)else(if a0.toList=([101,120]:List UInt8)then(some true)else(if a0.toList=([97,108,108]:List UInt8)then(some true)else(if a0.toList=([109,111,100]:List UInt8)then(some true)else(if a0.toList=([116,114,117,101]:List UInt8)then(some true)else(if a0.toList=([102,97,108,115,101]:List UInt8)then(some true)else(some false))))))))
set_option maxHeartbeats 8000000 in
theorem zb0.calls (a0:ByteArray) (r:Bool) (w:World) (h:zb0.f a0=some r) :
 Calls Try.prog 79 #[.string a0] w fun e w'=>e= .returned (.bool r)∧Drawn0 w w':=by
 have H:(if a0.toList=([97,110,100]:List UInt8)then(some true)else(if a0.toList=([111,114]:List UInt8)then(some true)else(if a0.toList=([110,111,116]:List UInt8)then(some true)else(if a0.toList=([101,120]:List UInt8)then(some true)else(if a0.toList=([97,108,108]:List UInt8)then(some true)else(if a0.toList=([109,111,100]:List UInt8)then(some true)else(if a0.toList=([116,114,117,101]:List UInt8)then(some true)else(if a0.toList=([102,97,108,115,101]:List UInt8)then(some true)else(some false)))))))))=some r:=h
 clear h
 by_cases D:a0.toList=([97,110,100]:List UInt8)
 ·rw[if_pos D]at H
  have G:=eT_ D
  have I:=nF_ D
  clear D
  obtain rfl:=Option.some.inj H
  go_enter Try.func79,Try.ntmps79
  go_wp2
  go_ret
  exact⟨kq3,kq5⟩
 ·rw[if_neg D]at H
  have G:=eF_ D
  have I:=nT_ D
  replace H:=ic_ H;obtain⟨c3,H⟩|⟨c3,H⟩:=H
  ·obtain⟨J,L⟩:=eTn_ c3;clear c3;obtain rfl:=Option.some.inj H;(go_enter Try.func79,Try.ntmps79);go_wp2;go_ret;exact⟨kq3,kq5⟩
  ·obtain⟨J,L⟩:=eFn_ c3;replace H:=ic_ H;obtain⟨c4,H⟩|⟨c4,H⟩:=H
   ·obtain⟨M,U⟩:=eTn_ c4;clear c4;obtain rfl:=Option.some.inj H;(go_enter Try.func79,Try.ntmps79);go_wp2;go_ret;exact⟨kq3,kq5⟩
   ·obtain⟨M,U⟩:=eFn_ c4;replace H:=ic_ H;obtain⟨c5,H⟩|⟨c5,H⟩:=H
    ·obtain⟨X,Y⟩:=eTn_ c5;clear c5;obtain rfl:=Option.some.inj H;(go_enter Try.func79,Try.ntmps79);go_wp2;go_ret;exact⟨kq3,kq5⟩
    ·obtain⟨X,Y⟩:=eFn_ c5;replace H:=ic_ H;obtain⟨c6,H⟩|⟨c6,H⟩:=H
     ·obtain⟨Z,aa⟩:=eTn_ c6;clear c6;obtain rfl:=Option.some.inj H;(go_enter Try.func79,Try.ntmps79);go_wp2;go_ret;exact⟨kq3,kq5⟩
     ·obtain⟨Z,aa⟩:=eFn_ c6;replace H:=ic_ H;obtain⟨c7,H⟩|⟨c7,H⟩:=H
      ·obtain⟨ab,ac⟩:=eTn_ c7;clear c7;obtain rfl:=Option.some.inj H;(go_enter Try.func79,Try.ntmps79);go_wp2;go_ret;exact⟨kq3,kq5⟩
      ·obtain⟨ab,ac⟩:=eFn_ c7;replace H:=ic_ H;obtain⟨c8,H⟩|⟨c8,H⟩:=H
       ·obtain⟨ae,af⟩:=eTn_ c8;clear c8;obtain rfl:=Option.some.inj H;(go_enter Try.func79,Try.ntmps79);go_wp2;go_ret;exact⟨kq3,kq5⟩
       ·obtain⟨ae,af⟩:=eFn_ c8;replace H:=ic_ H;obtain⟨c9,H⟩|⟨c9,H⟩:=H
        ·obtain⟨ag,ah⟩:=eTn_ c9;clear c9;obtain rfl:=Option.some.inj H;(go_enter Try.func79,Try.ntmps79);go_wp2;go_ret;exact⟨kq3,kq5⟩
        ·obtain⟨ag,ah⟩:=eFn_ c9;obtain rfl:=Option.some.inj H;(go_enter Try.func79,Try.ntmps79);go_wp2;go_ret;exact⟨kq3,kq5⟩
end Go.Proofs.Ytjknpmibdkoklaa.Q
namespace Go.Proofs.Ytjknpmibdkoklaa.Q
open Go.RowKit Go.Proofs.YtjknpmibdkoklaaW.PrintWords Go.Proofs.YtjknpmibdkoklaaW.PrintLast Go.Proofs.YtjknpmibdkoklaaW.PrintMore
open Aside0 (mk)
def zcO (r:Int):Bool:=decide ((65≤r∧r≤90)∨(97≤r∧r≤122)∨r=95∨(913≤r∧r≤929)∨(931≤r∧r≤937)∨(945≤r∧r≤969))
def zd9 (r:Int):Bool:=zcO r||decide ((48≤r∧r≤57)∨r=8242∨(8320≤r∧r≤8329))
theorem ziB (k:Nat) (r:Int) (b:Bool):zaz.j3 (k+1) r b=some (b||decide (945≤r∧r≤969)):=by
 simp only[zaz.j3]
 cases b
 ·by_cases h1:r≥945<;>by_cases h2:r≤969<;>simp [h1,h2]<;>omega
 ·simp
theorem ziC (k:Nat) (r:Int) (b:Bool):zaz.j2 (k+2) r b=some (b||decide ((931≤r∧r≤937)∨(945≤r∧r≤969))):=by
 simp only[zaz.j2,ziB]
 cases b
 ·by_cases h1:r≥931<;>by_cases h2:r≤937<;>simp [h1,h2]<;>omega
 ·simp
theorem ziD (k:Nat) (r:Int) (b:Bool):zaz.j1 (k+3) r b=some (b||decide ((913≤r∧r≤929)∨(931≤r∧r≤937)∨(945≤r∧r≤969))):=by
 simp only[zaz.j1,ziC]
 cases b
 ·by_cases h1:r≥913<;>by_cases h2:r≤929<;>simp [h1,h2]<;>omega
 ·simp
theorem ziE (k:Nat) (r:Int) (b:Bool):zaz.j0 (k+4) r b=some (b||decide ((97≤r∧r≤122)∨r=95∨(913≤r∧r≤929)∨(931≤r∧r≤937)∨(945≤r∧r≤969))):=by
 simp only[zaz.j0,ziD]
 cases b
 ·by_cases h1:r≥97<;>by_cases h2:r≤122<;>by_cases f:r=95<;>simp [h1,h2,f]<;>omega
 ·simp
theorem zgV (k:Nat) (r:Int):zaz.f (k+4) r=some (zcO r):=by
 simp only[zaz.f,ziE,zcO]
 by_cases h1:r≥65<;>by_cases h2:r≤90<;>simp [h1,h2]<;>omega
theorem ziF (r:Int):zaz.f 6 r=some (zcO r):=zgV 2 r
theorem zje (k:Nat) (r:Int):zcf.f (k+4) r=some (zd9 r):=by
 unfold zcf.f
 rw[zgV]
 unfold zd9
 cases h:zcO r
 ·simp only[Option.bind_some,Bool.false_or]
  by_cases h1:r≥48<;>by_cases h2:r≤57<;>by_cases D:r=8242<;>by_cases G:r≥8320<;>by_cases I:r≤8329<;>simp [h1,h2,D,G,I]<;>omega
 ·simp
theorem zjf (r:Int):zcf.f 6 r=some (zd9 r):=zje 2 r
def zcy (s:ByteArray):Bool:=(zb0.f s).getD false
theorem zgs (s:ByteArray):zb0.f s=some (zcy s):=by
 unfold zcy zb0.f
 repeat' split
 all_goals rfl
theorem zea (s:ByteArray) (p:Nat) (h:p<s.size):1≤(Utf8.decode s p).2:=by
 by_cases ha:(s[p]'h).toNat<128
 ·rw[decode_ascii s p h ha]
  exact Nat.le_refl 1
 ·exact(decode_high s p h kq1).2
def zb2 (s:ByteArray) (pos:Nat) (n:Int):Bool × Int:=
 if h:pos<s.size then
  if((pos==0&& !zcO ((Utf8.decode s pos).1:Nat))|| !zd9 ((Utf8.decode s pos).1:Nat))=true then(false,0)else zb2 s (pos+(Utf8.decode s pos).2) (wrap64 (n+1))
 else(true,n)
termination_by s.size-pos
decreasing_by
 have:=zea s pos h
 omega
def zcE (s:ByteArray):Bool:=(zb2 s 0 0).1&&decide ((zb2 s 0 0).2>0)&&decide ((zb2 s 0 0).2≤16)&& !zcy s
def za5.f (a0:ByteArray):Option Bool:=some (zcE a0)
theorem ziG {s:ByteArray} {pos:Nat} {n:Int} (h:¬pos<s.size) (e:zb2 s pos n=zb2 s 0 0):zb2 s 0 0=(true,n):=by
 rw[←e,zb2,dif_neg h]
theorem ziH {s:ByteArray} {pos:Nat} {n:Int} (h:pos<s.size) (e:zb2 s pos n=zb2 s 0 0) (hb:((pos==0&& !zcO ((Utf8.decode s pos).1:Nat))|| !zd9 ((Utf8.decode s pos).1:Nat))=true):zcE s=false:=by
 unfold zcE
 rw[←e,zb2,dif_pos h,if_pos hb]
 rfl
theorem zjg {s:ByteArray} {pos:Nat} {n:Int} (h:pos<s.size) (e:zb2 s pos n=zb2 s 0 0) (hb:((pos==0&& !zcO ((Utf8.decode s pos).1:Nat))|| !zd9 ((Utf8.decode s pos).1:Nat))=false):zb2 s (pos+(Utf8.decode s pos).2) (wrap64 (n+1))=zb2 s 0 0:=by
 rw[←e]
 conv=>rhs;rw[zb2,dif_pos h,if_neg (by rw[hb];decide)]
theorem zfu {s:ByteArray} {m:Int} (e:zb2 s 0 0=(true,m)):zcE s=(decide (m>0)&&decide (m≤16)&& !zcy s):=by
 unfold zcE
 rw[e]
 rfl
theorem zgt {B:Nat} {a w w':World} (h:Below B a w) (hd:Drawn0 w w'):Below B a w':=by
 obtain⟨n,rfl⟩:=hd
 exact zbb h n
set_option maxHeartbeats 4000000 in
theorem za5.calls (a0:ByteArray) (r:Bool) (w:World) (h:za5.f a0=some r) :
 Calls Try.prog 41 #[.string a0] w fun e w'=>e= .returned (.bool r)∧Below w.heap.size w w':=by
 have HR:=mk (Option.some.inj h)
 clear h
 go_enter Try.func41,Try.ntmps41
 go_wp2
 go_loopw [3] (fun n wr=>∃(pos:Nat) (m:Int),n= .int .i64 m∧Aside0 (zb2 a0 pos m=zb2 a0 0 0)∧Aside0 (wr.heap[w.heap.size]?=some (.stringIter a0 pos))∧Aside0 (Below w.heap.size w wr)) (fun _ wr=>a0.size-wr.iterPos w.heap.size)
 case atStart=>exact⟨0,0,rfl,⟨rfl⟩,⟨World.iter_heap w a0 0⟩,⟨zaS (Below.refl _ _) _⟩⟩
 case round=>
  obtain⟨pos,m,rfl,HN,HI,HB⟩:=hrel
  by_cases hp:pos<a0.size
  ·have hnx:=fun ty=>Lib.run_next_any_at (P:=Try.prog) wr w.heap.size a0 pos ty HI.out hp
   have HI2:=mk (Lib.iterAt_heap wr w.heap.size a0 pos (pos+(Utf8.decode a0 pos).2) HI.out)
   have HB2:=mk (Lib.below_iterAt HB.out (Nat.le_refl _) a0 (pos+(Utf8.decode a0 pos).2))
   have hd:=zea a0 pos hp
   have HM:=mk (show a0.size-(pos+(Utf8.decode a0 pos).2)<a0.size-pos by omega)
   have HG:=mk (zjg hp HN.out)
   have HX:=mk (ziH hp HN.out)
   have HS:=mk (ziF ((Utf8.decode a0 pos).1:Nat))
   have HT:=mk (zjf ((Utf8.decode a0 pos).1:Nat))
   clear HN HB hd hp
   have hz:(pos==0)=((pos:Int)==0):=by
    by_cases h:pos=0
    ·subst h;rfl
    ·rw[beq_eq_false_iff_ne.2 h,beq_eq_false_iff_ne.2 kq1]
   rw[hz]at HG HX
   clear hz
   generalize zcO ((Utf8.decode a0 pos).1:Nat)=sb at HS HG HX
   generalize zd9 ((Utf8.decode a0 pos).1:Nat)=rb at HT HG HX
   cases hz:((pos:Int)==0)<;>cases sb<;>cases rb<;>rw[hz]at HG HX
   all_goals
    go_wp2_with (first|(go_at_call 77;(with_reducible refine(zaz.calls 6 _ _ _ HS.out).mono ?_);rintro e w' ⟨rfl,⟨nd,rfl⟩⟩)|(go_at_call 78;(with_reducible refine(zcf.calls 6 _ _ _ HT.out).mono ?_);rintro e w' ⟨rfl,⟨nd,rfl⟩⟩))
    first
     |(go_ret;exact⟨by rw[←HR.out,HX.out rfl];rfl,by repeat(first|exact HB2.out|apply zbb)⟩)
     |(go_roundw;(case rel=>exact⟨_,_,rfl,⟨HG.out rfl⟩,⟨HI2.out⟩,⟨by repeat(first|exact HB2.out|apply zbb)⟩⟩);(case measure=>simpa [World.iterPos,HI.out,HI2.out]using HM.out))
  ·have hnx:=fun ty=>Lib.run_next_end_at (P:=Try.prog) wr w.heap.size a0 pos ty HI.out hp
   have HE:=mk (ziG hp HN.out)
   have HV:=mk (zgs a0)
   clear hp
   go_wp2_with (go_at_call 79;(with_reducible refine(zb0.calls a0 _ _ HV.out).mono ?_);rintro e w' ⟨rfl,HD⟩)
   all_goals go_ret
   ·exact⟨by rw[←HR.out,zfu HE.out,decide_eq_true (show m>0 by assumption),decide_eq_true (show m≤16 by assumption)];rfl,zgt HB.out HD⟩
   ·exact⟨by rw[←HR.out,zfu HE.out,decide_eq_true (show m>0 by assumption),decide_eq_false (show ¬m≤16 by omega)];rfl,HB.out⟩
   ·exact⟨by rw[←HR.out,zfu HE.out,decide_eq_false (show ¬m>0 by omega)];rfl,HB.out⟩
end Go.Proofs.Ytjknpmibdkoklaa.Q
namespace Go.Proofs.Ytjknpmibdkoklaa.Q
open Go.RowKit Go.Proofs.YtjknpmibdkoklaaW.PrintWords Go.Proofs.YtjknpmibdkoklaaW.PrintLast Go.Proofs.YtjknpmibdkoklaaW.PrintMore
open Aside0 (mk)
open List (setIfInBounds_toArray set_cons_zero set_cons_succ)
attribute [local go_sem] zbw zbz zbP zbQ zbm zbn zbA zbB
set_option linter.unusedVariables false
set_option linter.unusedSimpArgs false
attribute [local go_sem] zbS zbD zbE zbF
def zaT.l0:Nat→List ByteArray→List ByteArray→Int→Int→Option (Bool)
 |0,_,_,_,_=>none
 |k+1,x0,x5,x6,x7=>if x7<x6 then(if 0≤x7 then(if x7<(x5.length:Int)then((za5.f (rdOf ByteArray.empty x5 x7)).bind fun t537=>(if t537=true then(if x7>0 then(if 0≤(wrap64 (x7-1))then(if(wrap64 (x7-1))<(x0.length:Int)then(if((Op.bytesLess ((rdOf ByteArray.empty x0 (wrap64 (x7-1))).toList) ((rdOf ByteArray.empty x5 x7).toList))=true)then(zaT.l0 k x0 x5 x6 (wrap64 (x7+1)))else(some false))else(none))else(none))else(zaT.l0 k x0 x5 x6 (wrap64 (x7+1))))else(some false)))else(none))else(none))else(some true)
def zaT.f (k:Nat) (l0:List ByteArray):Option (Bool):=zaT.l0 k l0 l0 (l0.length:Int) 0
theorem zaT.mono_l:∀k,(∀f D G I,LeO (zaT.l0 k f D G I) (zaT.l0 (k+1) f D G I))
 |0=>fun _ _ _ _ r h=>by simp [zaT.l0]at h
 |k+1=>by
  have ih0:=zaT.mono_l k
  ·intro f D G I;unfold zaT.l0
   repeat' first
   |(with_reducible exact ih0 _ _ _ _)
   |(with_reducible exact LeO.refl _)
   |(with_reducible exact LeO.none _)
   |(with_reducible refine LeO.ite ?_ ?_)
   |(with_reducible refine LeO.bind ?_ (fun _=>?_))
   |exact ih0 _ _ _ _
   |exact LeO.none _
   |refine LeO.ite ?_ ?_
   |refine LeO.bind ?_ (fun _=>?_)
theorem zaT.mono:∀a0 k,LeO (zaT.f k a0) (zaT.f (k+1) a0):=by
 intro a0 k
 have ih0:=zaT.mono_l k
 unfold zaT.f
 repeat' first
  |(with_reducible exact ih0 _ _ _ _)
  |(with_reducible exact LeO.refl _)
  |(with_reducible exact LeO.none _)
  |(with_reducible refine LeO.ite ?_ ?_)
  |(with_reducible refine LeO.bind ?_ (fun _=>?_))
  |exact ih0 _ _ _ _
  |exact LeO.none _
  |refine LeO.ite ?_ ?_
  |refine LeO.bind ?_ (fun _=>?_)
set_option maxHeartbeats 8000000 in
theorem zaT.calls (k:Nat) (A0:Option Addr) (c0:Nat) (l0:List ByteArray) (r:Bool) (w:World) (ai:Kd.C Kd.string w A0 l0.length l0) (hc0:l0.length≤c0) (h:zaT.f k l0=some r) :
 Calls Try.prog 25 #[.slice A0 l0.length c0] w fun e w'=>e= .returned (.bool r)∧Below w.heap.size w w':=by
 have ab:=mk ai
 have aq:=mk hc0
 clear ai hc0
 have HB:=mk (Below.refl w.heap.size w)
 have H:(zaT.l0 k l0 l0 (l0.length:Int) 0)=some r:=h
 clear h
 have H':=mk H
 clear H
 go_enter Try.func25,Try.ntmps25
 go_wp2
 go_loopg [7] k (fun kq v7 w'=>∃(D:Int),v7= .int .i64 D∧Aside0 (zaT.l0 kq l0 l0 (l0.length:Int) D=some r)∧Aside0 (kq≤k)∧Aside0 (Below w.heap.size w w'))
 case atStart=>exact⟨(0),kq3,H',⟨Nat.le_refl _⟩,⟨kq8⟩⟩
 case round=>
  clear H'
  obtain⟨D,rfl,HA,HK1,HB⟩:=hrel
  cases gk with
  |zero=>exact absurd HA.out (by simp [zaT.l0])
  |succ k1=>
   have H:=HA.out;clear HA;simp only[zaT.l0]at H;replace H:=ic_ H;obtain⟨c2,H⟩|⟨c2,H⟩:=H
   ·have aj:decide (D<(l0.length:Int))=true:=decide_eq_true c2;clear c2;replace H:=ic_ H;obtain⟨c3,H⟩|⟨c3,H⟩:=H
    ·have an:decide (0≤D)=true:=decide_eq_true c3;clear c3;replace H:=ic_ H;obtain⟨c4,H⟩|⟨c4,H⟩:=H
     ·have ao:decide (D<(l0.length:Int))=true:=decide_eq_true c4;clear c4;replace H:=Option.bind_eq_some_iff.mp H;obtain⟨af,ak,H⟩:=H;replace H:(if af=true then(if D>0 then(if 0≤(wrap64 (D-1))then(if(wrap64 (D-1))<(l0.length:Int)then(if((Op.bytesLess ((rdOf ByteArray.empty l0 (wrap64 (D-1))).toList) ((rdOf ByteArray.empty l0 D).toList))=true)then(zaT.l0 k1 l0 l0 (l0.length:Int) (wrap64 (D+1)))else(some false))else(none))else(none))else(zaT.l0 k1 l0 l0 (l0.length:Int) (wrap64 (D+1))))else(some false))=some r:=H;have A5:=mk ak;clear ak;(by_cases c6:af=true)
      ·subst c6;(have H1:(if D>0 then(if 0≤(wrap64 (D-1))then(if(wrap64 (D-1))<(l0.length:Int)then(if((Op.bytesLess ((rdOf ByteArray.empty l0 (wrap64 (D-1))).toList) ((rdOf ByteArray.empty l0 D).toList))=true)then(zaT.l0 k1 l0 l0 (l0.length:Int) (wrap64 (D+1)))else(some false))else(none))else(none))else(zaT.l0 k1 l0 l0 (l0.length:Int) (wrap64 (D+1))))=some r:=by rw[if_pos rfl]at H;exact H);clear H;have H:=H1;clear H1;replace H:=ic_ H;obtain⟨c7,H⟩|⟨c7,H⟩:=H
       ·have al:decide (0<D)=true:=decide_eq_true c7;clear c7;obtain⟨M,hji8⟩:∃j_:Int,(wrap64 (D-1))=j_:=⟨_,rfl⟩;(replace H:(if 0≤(M)then(if(M)<(l0.length:Int)then(if((Op.bytesLess ((rdOf ByteArray.empty l0 (M)).toList) ((rdOf ByteArray.empty l0 D).toList))=true)then(zaT.l0 k1 l0 l0 (l0.length:Int) (wrap64 (D+1)))else(some false))else(none))else(none))=some r:=by first|(rw[hji8]at H;exact H)|(simp only[hji8]at H ⊢;exact H));((try rw[hji8]at A5));have hji8w:(IntKind.i64.wrap (D-1))=M:=(zbi _).trans hji8;replace H:=ic_ H;obtain⟨c9,H⟩|⟨c9,H⟩:=H
        ·have ap:decide (0≤(M))=true:=decide_eq_true c9;clear c9;replace H:=ic_ H;obtain⟨ag,H⟩|⟨ag,H⟩:=H
         ·have am:decide ((M)<(l0.length:Int))=true:=decide_eq_true ag;clear ag;replace H:=ic_ H;obtain⟨ac,H⟩|⟨ac,H⟩:=H
          ·have ah:(Op.bytesLess ((rdOf ByteArray.empty l0 (M)).toList) ((rdOf ByteArray.empty l0 D).toList))=true:=ac;clear ac;have H':=mk H;clear H;have I:0≤(D:Int):=of_decide_eq_true kq7;have J:D<(l0.length:Int):=of_decide_eq_true kq7;obtain⟨U,X,G⟩:=Kd.at_string ab.out D I J;cases X;replace G:=hc_ HB G;replace I:=eq_true I;replace J:=eq_true J;(go_wp2_with (first|((with_reducible refine zaE (f:=41) rfl ?_);refine za7 (some 13) rfl rfl Try.func41 kq0 rfl #[.string (rdOf ByteArray.empty l0 D)] rfl kq10 ?_;(with_reducible refine(za5.calls (rdOf ByteArray.empty l0 D) true _ A5.out).mono ?_);rintro e ar ⟨rfl,hb⟩;refine⟨_,rfl,?_⟩;replace HB:=mk (zaa kq8 hb);have Y:0≤((M):Int):=of_decide_eq_true kq7;have Z:(M)<(l0.length:Int):=of_decide_eq_true kq7;obtain⟨aa,ae,L⟩:=Kd.at_string ab.out (M) Y Z;obtain rfl:U=aa:=(by injection ae);replace L:=hc_ HB L;replace Y:=eq_true Y;replace Z:=eq_true Z)));(go_roundg k1)
           case measure=>have:=HK1.out;omega
           case rel=>exact⟨(wrap64 (D+1)),kq3,H',⟨kq19⟩,⟨kq8⟩⟩
          ·(have ah:(Op.bytesLess ((rdOf ByteArray.empty l0 (M)).toList) ((rdOf ByteArray.empty l0 D).toList))=false:=by simpa using ac);clear ac;obtain rfl:=Option.some.inj H;have I:0≤(D:Int):=of_decide_eq_true kq7;have J:D<(l0.length:Int):=of_decide_eq_true kq7;obtain⟨U,X,G⟩:=Kd.at_string ab.out D I J;cases X;replace G:=hc_ HB G;replace I:=eq_true I;replace J:=eq_true J;(go_wp2_with (first|((with_reducible refine zaE (f:=41) rfl ?_);refine za7 (some 13) rfl rfl Try.func41 kq0 rfl #[.string (rdOf ByteArray.empty l0 D)] rfl kq10 ?_;(with_reducible refine(za5.calls (rdOf ByteArray.empty l0 D) true _ A5.out).mono ?_);rintro e au ⟨rfl,hb⟩;refine⟨_,rfl,?_⟩;replace HB:=mk (zaa kq8 hb);have Y:0≤((M):Int):=of_decide_eq_true kq7;have Z:(M)<(l0.length:Int):=of_decide_eq_true kq7;obtain⟨aa,ae,L⟩:=Kd.at_string ab.out (M) Y Z;obtain rfl:U=aa:=(by injection ae);replace L:=hc_ HB L;replace Y:=eq_true Y;replace Z:=eq_true Z)));go_ret;exact⟨by first|rfl|(simp [zb8,zb9]<;>rfl)|(simp only[←hji8];first|rfl|(simp [zb8,zb9]<;>rfl))|(simp [*,zb8,zb9]<;>rfl),kq8⟩
         ·exact absurd H (by simp)
        ·exact absurd H (by simp)
       ·have al:decide (0<D)=false:=decide_eq_false c7;clear c7;have H':=mk H;clear H;have I:0≤(D:Int):=of_decide_eq_true kq7;have J:D<(l0.length:Int):=of_decide_eq_true kq7;obtain⟨U,X,G⟩:=Kd.at_string ab.out D I J;cases X;replace G:=hc_ HB G;replace I:=eq_true I;replace J:=eq_true J;(go_wp2_with (first|((with_reducible refine zaE (f:=41) rfl ?_);refine za7 (some 13) rfl rfl Try.func41 kq0 rfl #[.string (rdOf ByteArray.empty l0 D)] rfl kq10 ?_;(with_reducible refine(za5.calls (rdOf ByteArray.empty l0 D) true _ A5.out).mono ?_);rintro e av ⟨rfl,hb⟩;refine⟨_,rfl,?_⟩;replace HB:=mk (zaa kq8 hb))));(go_roundg k1)
        case measure=>have:=HK1.out;omega
        case rel=>exact⟨(wrap64 (D+1)),kq3,H',⟨kq19⟩,⟨kq8⟩⟩
      ·replace c6:=Bool.eq_false_iff.mpr c6;subst c6;(have H1:(some false)=some r:=by rw[if_neg (show ¬(false=true) by decide)]at H;exact H);clear H;have H:=H1;clear H1;obtain rfl:=Option.some.inj H;have I:0≤(D:Int):=of_decide_eq_true kq7;have J:D<(l0.length:Int):=of_decide_eq_true kq7;obtain⟨U,X,G⟩:=Kd.at_string ab.out D I J;cases X;replace G:=hc_ HB G;replace I:=eq_true I;replace J:=eq_true J;(go_wp2_with (first|((with_reducible refine zaE (f:=41) rfl ?_);refine za7 (some 13) rfl rfl Try.func41 kq0 rfl #[.string (rdOf ByteArray.empty l0 D)] rfl kq10 ?_;(with_reducible refine(za5.calls (rdOf ByteArray.empty l0 D) false _ A5.out).mono ?_);rintro e aw ⟨rfl,hb⟩;refine⟨_,rfl,?_⟩;replace HB:=mk (zaa kq8 hb))));go_ret;exact⟨kq18,kq8⟩
     ·exact absurd H (by simp)
    ·exact absurd H (by simp)
   ·have aj:decide (D<(l0.length:Int))=false:=decide_eq_false c2;clear c2;obtain rfl:=Option.some.inj H;go_wp2;go_ret;exact⟨kq18,kq8⟩
mutual
def zah.j2:Nat→ByteArray→Int→Int→Int→Int→Option (Int × Int × Bool)
 |0,_,_,_,_,_=>none
 |k+1,x0,x1,x7,x8,x9=>if(wrap64 ((x0.size:Int)-x1))<x8 then(some (65533,1,false))else(zah.l0 k x0 x1 x7 x8 x9 1)
def zah.l0:Nat→ByteArray→Int→Int→Int→Int→Int→Option (Int × Int × Bool)
 |0,_,_,_,_,_,_=>none
 |k+1,x0,x1,x7,x8,x9,x10=>if x10<x8 then(if 0≤(wrap64 (x1+x10))then(if(wrap64 (x1+x10))<(x0.size:Int)then(if(wrap64 (bt x0 (wrap64 (x1+x10))))<128 then(some (65533,1,false))else(if(wrap64 (bt x0 (wrap64 (x1+x10))))>191 then(some (65533,1,false))else(zah.l0 k x0 x1 (wrap64 ((wrap64 ((wrap64 (x7*64))+(wrap64 (bt x0 (wrap64 (x1+x10))))))-128)) x8 x9 (wrap64 (x10+1)))))else(none))else(none))else(if x7<x9 then(some (65533,1,false))else(if x7>1114111 then(some (65533,1,false))else(if x7≥55296 then(if x7≤57343 then(some (65533,1,false))else(some (x7,x8,true)))else(some (x7,x8,true)))))
def zah.j0:Nat→ByteArray→Int→Int→Bool→Option (Int × Int × Bool)
 |0,_,_,_,_=>none
 |k+1,x0,x1,x7,x20=>if x20=true then(zah.j2 k x0 x1 (wrap64 (x7-192)) 2 128)else(if x7≥224 then(zah.j1 k x0 x1 x7 (decide (x7<240)))else(zah.j1 k x0 x1 x7 false))
def zah.j1:Nat→ByteArray→Int→Int→Bool→Option (Int × Int × Bool)
 |0,_,_,_,_=>none
 |k+1,x0,x1,x7,x29=>if x29=true then(zah.j2 k x0 x1 (wrap64 (x7-224)) 3 2048)else(if x7≥240 then(if x7<245 then(zah.j2 k x0 x1 (wrap64 (x7-240)) 4 65536)else(some (65533,1,false)))else(some (65533,1,false)))
end
def zah.f (k:Nat) (a0:ByteArray) (a1:Int):Option (Int × Int × Bool):=if 0≤a1 then(if a1<(a0.size:Int)then(if(wrap64 (bt a0 a1))<128 then(some (wrap64 (bt a0 a1),1,true))else(if(wrap64 (bt a0 a1))≥194 then(zah.j0 k a0 a1 (wrap64 (bt a0 a1)) (decide ((wrap64 (bt a0 a1))<224)))else(zah.j0 k a0 a1 (wrap64 (bt a0 a1)) false)))else(none))else(none)
theorem zah.mono_l:∀k,(∀f D G I J,LeO (zah.j2 k f D G I J) (zah.j2 (k+1) f D G I J))∧(∀f D G I J L,LeO (zah.l0 k f D G I J L) (zah.l0 (k+1) f D G I J L))∧(∀f D G I,LeO (zah.j0 k f D G I) (zah.j0 (k+1) f D G I))∧(∀f D G I,LeO (zah.j1 k f D G I) (zah.j1 (k+1) f D G I))
 |0=>⟨fun _ _ _ _ _ r h=>by simp [zah.j2]at h,fun _ _ _ _ _ _ r h=>by simp [zah.l0]at h,fun _ _ _ _ r h=>by simp [zah.j0]at h,fun _ _ _ _ r h=>by simp [zah.j1]at h⟩
 |k+1=>by
  obtain⟨ih0,ih1,ih2,ih3⟩:=zah.mono_l k
  refine⟨?_,?_,?_,?_⟩<;>intros<;>(first|unfold zah.j2|unfold zah.l0|unfold zah.j0|unfold zah.j1)<;>repeat' first|(with_reducible first|exact ih0 _ _ _ _ _|exact ih1 _ _ _ _ _ _|exact ih2 _ _ _ _|exact ih3 _ _ _ _|exact LeO.refl _|exact LeO.none _|refine LeO.ite ?_ ?_|refine LeO.bind ?_ (fun _=>?_))|exact ih0 _ _ _ _ _|exact ih1 _ _ _ _ _ _|exact ih2 _ _ _ _|exact ih3 _ _ _ _|exact LeO.none _|refine LeO.ite ?_ ?_|refine LeO.bind ?_ (fun _=>?_)
theorem zah.mono:∀a0 r k,LeO (zah.f k a0 r) (zah.f (k+1) a0 r):=by
 intro a0 r k
 obtain⟨ih0,ih1,ih2,ih3⟩:=zah.mono_l k
 unfold zah.f
 repeat' first
  |(with_reducible exact ih0 _ _ _ _ _)
  |(with_reducible exact ih1 _ _ _ _ _ _)
  |(with_reducible exact ih2 _ _ _ _)
  |(with_reducible exact ih3 _ _ _ _)
  |(with_reducible exact LeO.refl _)
  |(with_reducible exact LeO.none _)
  |(with_reducible refine LeO.ite ?_ ?_)
  |(with_reducible refine LeO.bind ?_ (fun _=>?_))
  |exact ih0 _ _ _ _ _
  |exact ih1 _ _ _ _ _ _
  |exact ih2 _ _ _ _
  |exact ih3 _ _ _ _
  |exact LeO.none _
  |refine LeO.ite ?_ ?_
  |refine LeO.bind ?_ (fun _=>?_)
set_option maxHeartbeats 8000000 in
theorem zah.calls (k:Nat) (a0:ByteArray) (D r1 r2:Int) (r3:Bool) (w:World) (h:zah.f k a0 D=some (r1,r2,r3)) :
 Calls Try.prog 105 #[.string a0,.int .i64 D] w fun e w'=>e= .returned (.tuple #[.int .i64 r1,.int .i64 r2,.bool r3])∧Drawn0 w w':=by
 have H:(if 0≤D then(if D<(a0.size:Int)then(if(wrap64 (bt a0 D))<128 then(some (wrap64 (bt a0 D),1,true))else(if(wrap64 (bt a0 D))≥194 then(zah.j0 k a0 D (wrap64 (bt a0 D)) (decide ((wrap64 (bt a0 D))<224)))else(zah.j0 k a0 D (wrap64 (bt a0 D)) false)))else(none))else(none))=some (r1,r2,r3):=h
 clear h
 by_cases c3:0≤D
 ·rw[if_pos c3]at H
  have b5:decide (0≤D)=true:=decide_eq_true c3
  clear c3
  replace H:=ic_ H;obtain⟨c4,H⟩|⟨c4,H⟩:=H
  ·have b6:decide (D<(a0.size:Int))=true:=decide_eq_true c4;clear c4;have az:=mk H;clear H;have p5:0≤(D:Int):=of_decide_eq_true kq7;have q5:D<(a0.size:Int):=of_decide_eq_true kq7;have b7:=zig a0 D;replace p5:=eq_true p5;replace q5:=eq_true q5;(go_enter Try.func105,Try.ntmps105);(go_upto_block 0 with(fail));(go_cut [7,8,9] (fun v7 v8 v9 wc=>∃(kq:Nat) (ac:Int) (L:Int) (X:Int),v7= .int .i64 ac∧v8= .int .i64 L∧v9= .int .i64 X∧Aside0 (zah.j2 kq a0 D ac L X=some (r1,r2,r3))∧Aside0 (kq≤k)∧Drawn0 w wc))
   case first=>
    have H:=az.out;clear az;replace H:=ic_ H;obtain⟨c7,H⟩|⟨c7,H⟩:=H
    ·have Y:decide ((wrap64 (bt a0 D))<128)=true:=decide_eq_true c7;clear c7;((first|rw[Y]|(simp only[zbi,zbq];rw[Y])|skip));simp only[Option.some.injEq,Prod.mk.injEq]at H;obtain⟨rfl,rfl,rfl⟩:=H;go_wp2;(go_ret3);exact⟨kq3,kq5⟩
    ·have Y:decide ((wrap64 (bt a0 D))<128)=false:=decide_eq_false c7;clear c7;((first|rw[Y]|(simp only[zbi,zbq];rw[Y])|skip));have aA:=mk H;clear H;(go_upto_region 6 with(fail));(go_cut [20] (fun aW wc=>∃(kq:Nat) (U:Bool),aW= .bool U∧Aside0 (zah.j0 kq a0 D (wrap64 (bt a0 D)) U=some (r1,r2,r3))∧Aside0 (kq≤k)∧Drawn0 w wc))
     case first=>
      have H:=aA.out;clear aA;replace H:=ic_ H;obtain⟨c9,H⟩|⟨c9,H⟩:=H
      ·have Z:decide (194≤(wrap64 (bt a0 D)))=true:=decide_eq_true c9;clear c9;((first|rw[Z]|(simp only[zbi,zbq];rw[Z])|skip));have H':=mk H;clear H;go_wp2;(go_meet)
       case rel=>exact⟨_,(decide ((wrap64 (bt a0 D))<224)),kq3,H',⟨kq4⟩,kq5⟩
      ·have Z:decide (194≤(wrap64 (bt a0 D)))=false:=decide_eq_false c9;clear c9;((first|rw[Z]|(simp only[zbi,zbq];rw[Z])|skip));have H':=mk H;clear H;go_wp2;(go_meet)
       case rel=>exact⟨_,(false),kq3,H',⟨kq4⟩,kq5⟩
     case rest=>
      clear aA;obtain⟨kq,U,rfl,HA,ae,⟨mc7,rfl⟩⟩:=hcut
      cases kq with
      |zero=>exact absurd HA.out (by simp [zah.j0])
      |succ ar=>
       have H:=HA.out;clear HA;simp only[zah.j0]at H;(by_cases au:U=true)
       ·subst au;(have H1:(zah.j2 ar a0 D (wrap64 ((wrap64 (bt a0 D))-192)) 2 128)=some (r1,r2,r3):=by rw[if_pos rfl]at H;exact H);clear H;have H:=H1;clear H1;have H':=mk H;clear H;go_wp2;(go_meet)
        case rel=>exact⟨_,(wrap64 ((wrap64 (bt a0 D))-192)),(2),(128),kq3,kq3,kq3,H',⟨by have:=ae.out;first|omega|exact Nat.le_refl _⟩,kq5⟩
       ·replace au:=Bool.eq_false_iff.mpr au;subst au;(have H1:(if(wrap64 (bt a0 D))≥224 then(zah.j1 ar a0 D (wrap64 (bt a0 D)) (decide ((wrap64 (bt a0 D))<240)))else(zah.j1 ar a0 D (wrap64 (bt a0 D)) false))=some (r1,r2,r3):=by rw[if_neg (show ¬(false=true) by decide)]at H;exact H);clear H;have H:=H1;clear H1;have af:=mk H;clear H;(go_upto_region 8 with(fail));(go_cut [29] (fun aX wc=>∃(kq:Nat) (J:Bool),aX= .bool J∧Aside0 (zah.j1 kq a0 D (wrap64 (bt a0 D)) J=some (r1,r2,r3))∧Aside0 (kq≤ar)∧Drawn0 w wc))
        case first=>
         have H:=af.out;clear af;replace H:=ic_ H;obtain⟨ag,H⟩|⟨ag,H⟩:=H
         ·have M:decide (224≤(wrap64 (bt a0 D)))=true:=decide_eq_true ag;clear ag;((first|rw[M]|(simp only[zbi,zbq];rw[M])|skip));have H':=mk H;clear H;go_wp2;(go_meet)
          case rel=>exact⟨_,(decide ((wrap64 (bt a0 D))<240)),kq3,H',⟨by have:=ae.out;first|omega|exact Nat.le_refl _⟩,kq5⟩
         ·have M:decide (224≤(wrap64 (bt a0 D)))=false:=decide_eq_false ag;clear ag;((first|rw[M]|(simp only[zbi,zbq];rw[M])|skip));have H':=mk H;clear H;go_wp2;(go_meet)
          case rel=>exact⟨_,(false),kq3,H',⟨by have:=ae.out;first|omega|exact Nat.le_refl _⟩,kq5⟩
        case rest=>
         clear af;obtain⟨kq,J,rfl,HA,aw,⟨mc10,rfl⟩⟩:=hcut
         cases kq with
         |zero=>exact absurd HA.out (by simp [zah.j1])
         |succ ax=>
          have H:=HA.out;clear HA;simp only[zah.j1]at H;(by_cases av:J=true)
          ·subst av;(have H1:(zah.j2 ax a0 D (wrap64 ((wrap64 (bt a0 D))-224)) 3 2048)=some (r1,r2,r3):=by rw[if_pos rfl]at H;exact H);clear H;have H:=H1;clear H1;have H':=mk H;clear H;go_wp2;(go_meet)
           case rel=>exact⟨_,(wrap64 ((wrap64 (bt a0 D))-224)),(3),(2048),kq3,kq3,kq3,H',⟨by have:=ae.out;have:=aw.out;first|omega|exact Nat.le_refl _⟩,kq5⟩
          ·replace av:=Bool.eq_false_iff.mpr av;subst av;(have H1:(if(wrap64 (bt a0 D))≥240 then(if(wrap64 (bt a0 D))<245 then(zah.j2 ax a0 D (wrap64 ((wrap64 (bt a0 D))-240)) 4 65536)else(some (65533,1,false)))else(some (65533,1,false)))=some (r1,r2,r3):=by rw[if_neg (show ¬(false=true) by decide)]at H;exact H);clear H;have H:=H1;clear H1;replace H:=ic_ H;obtain⟨ah,H⟩|⟨ah,H⟩:=H
           ·have aC:decide (240≤(wrap64 (bt a0 D)))=true:=decide_eq_true ah;clear ah;replace H:=ic_ H;obtain⟨ai,H⟩|⟨ai,H⟩:=H
            ·have aD:decide ((wrap64 (bt a0 D))<245)=true:=decide_eq_true ai;clear ai;have H':=mk H;clear H;go_wp2;(go_meet)
             case rel=>exact⟨_,(wrap64 ((wrap64 (bt a0 D))-240)),(4),(65536),kq3,kq3,kq3,H',⟨by have:=ae.out;have:=aw.out;first|omega|exact Nat.le_refl _⟩,kq5⟩
            ·have aD:decide ((wrap64 (bt a0 D))<245)=false:=decide_eq_false ai;clear ai;simp only[Option.some.injEq,Prod.mk.injEq]at H;obtain⟨rfl,rfl,rfl⟩:=H;go_wp2;(go_ret3);exact⟨kq3,kq5⟩
           ·have aC:decide (240≤(wrap64 (bt a0 D)))=false:=decide_eq_false ah;clear ah;simp only[Option.some.injEq,Prod.mk.injEq]at H;obtain⟨rfl,rfl,rfl⟩:=H;go_wp2;(go_ret3);exact⟨kq3,kq5⟩
   case rest=>
    clear az;obtain⟨kq,ac,L,X,rfl,rfl,rfl,HA,aU,⟨mc5,rfl⟩⟩:=hcut
    cases kq with
    |zero=>exact absurd HA.out (by simp [zah.j2])
    |succ aV=>
     have H:=HA.out;clear HA;simp only[zah.j2]at H;replace H:=ic_ H;obtain⟨aj,H⟩|⟨aj,H⟩:=H
     ·have aE:=decide_eq_true aj;clear aj;simp only[Option.some.injEq,Prod.mk.injEq]at H;obtain⟨rfl,rfl,rfl⟩:=H;go_wp2;(go_ret3);exact⟨kq3,kq5⟩
     ·have aE:=decide_eq_false aj;clear aj;have H':=mk H;clear H;go_wp2;(go_loopg [7,10] aV (fun kq v7 aY w'=>∃(I:Int) (G:Int),v7= .int .i64 I∧aY= .int .i64 G∧Aside0 (zah.l0 kq a0 D I L X G=some (r1,r2,r3))∧Aside0 (kq≤aV)∧Drawn0 w w'))
      case atStart=>exact⟨(ac),(1),kq3,kq3,H',⟨Nat.le_refl _⟩,kq5⟩
      case round=>
       clear H';obtain⟨I,G,rfl,rfl,HA,HK2,⟨m2,rfl⟩⟩:=hrel
       cases gk with
       |zero=>exact absurd HA.out (by simp [zah.l0])
       |succ k2=>
        have H:=HA.out;clear HA;simp only[zah.l0]at H;replace H:=ic_ H;obtain⟨ak,H⟩|⟨ak,H⟩:=H
        ·have aG:decide (G<L)=true:=decide_eq_true ak;clear ak;obtain⟨r,hji18⟩:∃j_:Int,(wrap64 (D+G))=j_:=⟨_,rfl⟩;(replace H:(if 0≤(r)then(if(r)<(a0.size:Int)then(if(wrap64 (bt a0 (r)))<128 then(some (65533,1,false))else(if(wrap64 (bt a0 (r)))>191 then(some (65533,1,false))else(zah.l0 k2 a0 D (wrap64 ((wrap64 ((wrap64 (I*64))+(wrap64 (bt a0 (r)))))-128)) L X (wrap64 (G+1)))))else(none))else(none))=some (r1,r2,r3):=by first|(rw[hji18]at H;exact H)|(simp only[hji18]at H ⊢;exact H));have hji18w:(IntKind.i64.wrap (D+G))=r:=(zbi _).trans hji18;replace H:=ic_ H;obtain⟨aH,H⟩|⟨aH,H⟩:=H
         ·have aZ:decide (0≤(r))=true:=decide_eq_true aH;clear aH;replace H:=ic_ H;obtain⟨aI,H⟩|⟨aI,H⟩:=H
          ·have b4:=decide_eq_true aI;clear aI;replace H:=ic_ H;obtain⟨al,H⟩|⟨al,H⟩:=H
           ·have aJ:decide ((wrap64 (bt a0 (r)))<128)=true:=decide_eq_true al;clear al;simp only[Option.some.injEq,Prod.mk.injEq]at H;obtain⟨rfl,rfl,rfl⟩:=H;have aa:0≤((r):Int):=of_decide_eq_true kq7;have ab:(r)<(a0.size:Int):=of_decide_eq_true kq7;have ay:=zig a0 (r);replace aa:=eq_true aa;replace ab:=eq_true ab;go_wp2;(go_ret3);exact⟨kq11,kq5⟩
           ·have aJ:decide ((wrap64 (bt a0 (r)))<128)=false:=decide_eq_false al;clear al;replace H:=ic_ H;obtain⟨am,H⟩|⟨am,H⟩:=H
            ·have aK:decide (191<(wrap64 (bt a0 (r))))=true:=decide_eq_true am;clear am;simp only[Option.some.injEq,Prod.mk.injEq]at H;obtain⟨rfl,rfl,rfl⟩:=H;have aa:0≤((r):Int):=of_decide_eq_true kq7;have ab:(r)<(a0.size:Int):=of_decide_eq_true kq7;have ay:=zig a0 (r);replace aa:=eq_true aa;replace ab:=eq_true ab;go_wp2;(go_ret3);exact⟨kq11,kq5⟩
            ·have aK:decide (191<(wrap64 (bt a0 (r))))=false:=decide_eq_false am;clear am;have H':=mk H;clear H;have aa:0≤((r):Int):=of_decide_eq_true kq7;have ab:(r)<(a0.size:Int):=of_decide_eq_true kq7;have ay:=zig a0 (r);replace aa:=eq_true aa;replace ab:=eq_true ab;go_wp2;(go_roundg k2)
             case measure=>have:=aU.out;have:=HK2.out;omega
             case rel=>exact⟨(wrap64 ((wrap64 ((wrap64 (I*64))+(wrap64 (bt a0 (r)))))-128)),(wrap64 (G+1)),kq11,kq3,H',⟨by have:=aU.out;have:=HK2.out;omega⟩,kq5⟩
          ·exact absurd H (by simp)
         ·exact absurd H (by simp)
        ·have aG:decide (G<L)=false:=decide_eq_false ak;clear ak;replace H:=ic_ H;obtain⟨an,H⟩|⟨an,H⟩:=H
         ·have aM:=decide_eq_true an;clear an;simp only[Option.some.injEq,Prod.mk.injEq]at H;obtain⟨rfl,rfl,rfl⟩:=H;go_wp2;(go_ret3);exact⟨kq3,kq5⟩
         ·have aM:=decide_eq_false an;clear an;replace H:=ic_ H;obtain⟨ao,H⟩|⟨ao,H⟩:=H
          ·have aN:decide (1114111<I)=true:=decide_eq_true ao;clear ao;simp only[Option.some.injEq,Prod.mk.injEq]at H;obtain⟨rfl,rfl,rfl⟩:=H;go_wp2;(go_ret3);exact⟨kq3,kq5⟩
          ·have aN:decide (1114111<I)=false:=decide_eq_false ao;clear ao;replace H:=ic_ H;obtain⟨ap,H⟩|⟨ap,H⟩:=H
           ·have aQ:decide (55296≤I)=true:=decide_eq_true ap;clear ap;replace H:=ic_ H;obtain⟨aq,H⟩|⟨aq,H⟩:=H
            ·have aT:=decide_eq_true aq;clear aq;simp only[Option.some.injEq,Prod.mk.injEq]at H;obtain⟨rfl,rfl,rfl⟩:=H;go_wp2;(go_ret3);exact⟨kq3,kq5⟩
            ·have aT:=decide_eq_false aq;clear aq;simp only[Option.some.injEq,Prod.mk.injEq]at H;obtain⟨rfl,rfl,rfl⟩:=H;go_wp2;(go_ret3);exact⟨kq3,kq5⟩
           ·have aQ:decide (55296≤I)=false:=decide_eq_false ap;clear ap;simp only[Option.some.injEq,Prod.mk.injEq]at H;obtain⟨rfl,rfl,rfl⟩:=H;go_wp2;(go_ret3);exact⟨kq3,kq5⟩
  ·exact absurd H (by simp)
 ·rw[if_neg c3]at H
  exact absurd H (by simp)
end Go.Proofs.Ytjknpmibdkoklaa.Q
namespace Go.Proofs.Ytjknpmibdkoklaa.Q
open Go.RowKit Go.Proofs.YtjknpmibdkoklaaW.PrintWords Go.Proofs.YtjknpmibdkoklaaW.PrintLast Go.Proofs.YtjknpmibdkoklaaW.PrintMore
theorem w64 {a:Int} (h0: -9223372036854775808≤a) (h1:a≤9223372036854775807):wrap64 a=a:=by unfold wrap64;omega
theorem zh9 (s:ByteArray) (p:Nat) (h:p<s.size):bt s (p:Int)=((s.get! p).toNat:Int):=by
 unfold bt
 rw[dif_pos (by simpa using h)]
 have e:s.get! p=s[p]'h:=get_at s p h
 rw[e]
 rfl
theorem EvK {α:Type} {g:Nat→Option α} {r:α} (K:Nat) (h:∀k,g (k+K)=some r):Ev g r:=⟨K,fun k hk=>by
 obtain⟨m,rfl⟩:∃m,k=m+K:=⟨k-K,kq1⟩
 exact h m⟩
section
variable {s : ByteArray} {p : Nat} (hs : s.size ≤ 140737488351232) (hp : p < s.size)
include hs
theorem zeb (k x f:Nat) (r:Int) (i:Nat) (hi:i<f) (D:f≤4) (hpi:p+i<s.size) (hx:x≤100000000) (h1:128≤(s.get! (p+i)).toNat) (h2:(s.get! (p+i)).toNat≤191) :
 zah.l0 (k+1) s (p:Int) (x:Int) (f:Int) r (i:Int)=zah.l0 k s (p:Int) ((x*64+(s.get! (p+i)).toNat-128:Nat):Int) (f:Int) r ((i+1:Nat):Int):=by
 have hb:=zh9 s (p+i) hpi
 have hlt:=(s.get! (p+i)).toNat_lt
 simp only[zah.l0]
 rw[show((p:Int)+(i:Int))=((p+i:Nat):Int) by omega,w64 (a:=((p+i:Nat):Int)) kq1 kq1,hb,w64 (a:=((s.get! (p+i)).toNat:Int)) kq1 kq1]
 rw[if_pos kq1,if_pos kq1,if_pos kq1,if_neg kq1,if_neg kq1]
 rw[w64 (a:=(x:Int)*64) kq1 kq1,w64 (a:=(x:Int)*64+_) kq1 kq1,w64 (a:=(x:Int)*64+_-128) kq1 kq1,w64 (a:=(i:Int)+1) kq1 kq1]
 congr 1
 omega
theorem zdk (k x f:Nat) (r:Int) (i:Nat) (hi:i<f) (hpi:p+i<s.size) (h1:(s.get! (p+i)).toNat<128∨191<(s.get! (p+i)).toNat) :
 zah.l0 (k+1) s (p:Int) (x:Int) (f:Int) r (i:Int)=some (65533,1,false):=by
 have hb:=zh9 s (p+i) hpi
 have hlt:=(s.get! (p+i)).toNat_lt
 simp only[zah.l0]
 rw[show((p:Int)+(i:Int))=((p+i:Nat):Int) by omega,w64 (a:=((p+i:Nat):Int)) kq1 kq1,hb,w64 (a:=((s.get! (p+i)).toNat:Int)) kq1 kq1]
 rw[if_pos kq1,if_pos kq1,if_pos kq1]
 by_cases h:(s.get! (p+i)).toNat<128
 ·rw[if_pos kq1]
 ·rw[if_neg kq1,if_pos kq1]
omit hs in
theorem zfv (k x f r i:Nat) (hi:¬i<f) :
 zah.l0 (k+1) s (p:Int) (x:Int) (f:Int) (r:Int) (i:Int)=if r≤x∧x≤1114111∧¬(55296≤x∧x≤57343)then some ((x:Int),(f:Int),true)else some (65533,1,false):=by
 simp only[zah.l0]
 rw[if_neg kq1]
 by_cases h1:x<r
 ·rw[if_pos kq1,if_neg kq1]
 ·rw[if_neg kq1]
  by_cases h2:x>1114111
  ·rw[if_pos kq1,if_neg kq1]
  ·rw[if_neg kq1]
   by_cases D:55296≤x
   ·rw[if_pos kq1]
    by_cases G:x≤57343
    ·rw[if_pos kq1,if_neg kq1]
    ·rw[if_neg kq1,if_pos kq1]
   ·rw[if_neg kq1,if_pos kq1]
def zeM (n p b0 b1 b2 b3:Nat):Nat × Nat × Bool:=
 if b0<128 then(b0,1,true)
 else if 194≤b0∧b0<224 then
  if p+1<n∧(128≤b1∧b1≤191)∧128≤(b0-192)*64+b1-128∧(b0-192)*64+b1-128≤1114111∧¬(55296≤(b0-192)*64+b1-128∧(b0-192)*64+b1-128≤57343)then((b0-192)*64+b1-128,2,true)else(65533,1,false)
 else if 224≤b0∧b0<240 then
  if p+2<n∧(128≤b1∧b1≤191)∧(128≤b2∧b2≤191)∧2048≤((b0-224)*64+b1-128)*64+b2-128∧((b0-224)*64+b1-128)*64+b2-128≤1114111∧¬(55296≤((b0-224)*64+b1-128)*64+b2-128∧((b0-224)*64+b1-128)*64+b2-128≤57343)then(((b0-224)*64+b1-128)*64+b2-128,3,true)else(65533,1,false)
 else if 240≤b0∧b0<245 then
  if p+3<n∧(128≤b1∧b1≤191)∧(128≤b2∧b2≤191)∧(128≤b3∧b3≤191)∧65536≤(((b0-240)*64+b1-128)*64+b2-128)*64+b3-128∧(((b0-240)*64+b1-128)*64+b2-128)*64+b3-128≤1114111∧¬(55296≤(((b0-240)*64+b1-128)*64+b2-128)*64+b3-128∧(((b0-240)*64+b1-128)*64+b2-128)*64+b3-128≤57343)then((((b0-240)*64+b1-128)*64+b2-128)*64+b3-128,4,true)else(65533,1,false)
 else(65533,1,false)
def zcw (s:ByteArray) (p:Nat):Nat × Nat × Bool:=zeM s.size p (s.get! (p+0)).toNat (s.get! (p+1)).toNat (s.get! (p+2)).toNat (s.get! (p+3)).toNat
include hp
theorem zgu (k x f r:Nat):zah.j2 (k+1) s (p:Int) (x:Int) (f:Int) (r:Int)=if p+f≤s.size then zah.l0 k s (p:Int) (x:Int) (f:Int) (r:Int) ((1:Nat):Int)else some (65533,1,false):=by
 simp only[zah.j2]
 rw[w64 kq1 kq1]
 by_cases h:p+f≤s.size
 ·rw[if_neg kq1,if_pos h]
  rfl
 ·rw[if_pos kq1,if_neg h]
omit hp in
theorem zjh (k x f:Nat) (hx:x≤64) (h:p+2≤s.size):zah.l0 (k+2) s (p:Int) (x:Int) ((2:Nat):Int) (f:Int) ((1:Nat):Int) =
 if(128≤(s.get! (p+1)).toNat∧(s.get! (p+1)).toNat≤191)∧f≤x*64+(s.get! (p+1)).toNat-128∧x*64+(s.get! (p+1)).toNat-128≤1114111∧¬(55296≤x*64+(s.get! (p+1)).toNat-128∧x*64+(s.get! (p+1)).toNat-128≤57343)then some (((x*64+(s.get! (p+1)).toNat-128:Nat):Int),((2:Nat):Int),true)else some (65533,1,false):=by
 by_cases h1:128≤(s.get! (p+1)).toNat∧(s.get! (p+1)).toNat≤191
 ·rw[zeb hs (k+1) x 2 (f:Int) 1 kq1 kq1 kq1 kq1 h1.1 h1.2,zfv k _ 2 f 2 kq1]
  simp only[h1,and_self,true_and]
 ·rw[zdk hs (k+1) x 2 (f:Int) 1 kq1 kq1 kq1,if_neg (fun h=>h1 h.1)]
omit hp in
theorem zji (k x f:Nat) (hx:x≤64) (h:p+3≤s.size):zah.l0 (k+3) s (p:Int) (x:Int) ((3:Nat):Int) (f:Int) ((1:Nat):Int) =
 if(128≤(s.get! (p+1)).toNat∧(s.get! (p+1)).toNat≤191)∧(128≤(s.get! (p+2)).toNat∧(s.get! (p+2)).toNat≤191)∧f≤(x*64+(s.get! (p+1)).toNat-128)*64+(s.get! (p+2)).toNat-128∧(x*64+(s.get! (p+1)).toNat-128)*64+(s.get! (p+2)).toNat-128≤1114111∧¬(55296≤(x*64+(s.get! (p+1)).toNat-128)*64+(s.get! (p+2)).toNat-128∧(x*64+(s.get! (p+1)).toNat-128)*64+(s.get! (p+2)).toNat-128≤57343)then some ((((x*64+(s.get! (p+1)).toNat-128)*64+(s.get! (p+2)).toNat-128:Nat):Int),((3:Nat):Int),true)else some (65533,1,false):=by
 have r:=(s.get! (p+1)).toNat_lt
 by_cases h1:128≤(s.get! (p+1)).toNat∧(s.get! (p+1)).toNat≤191
 ·rw[zeb hs (k+2) x 3 (f:Int) 1 kq1 kq1 kq1 kq1 h1.1 h1.2]
  by_cases h2:128≤(s.get! (p+2)).toNat∧(s.get! (p+2)).toNat≤191
  ·rw[zeb hs (k+1) _ 3 (f:Int) 2 kq1 kq1 kq1 kq1 h2.1 h2.2,zfv k _ 3 f 3 kq1]
   simp only[h1,h2,and_self,true_and]
  ·rw[zdk hs (k+1) _ 3 (f:Int) 2 kq1 kq1 kq1,if_neg (fun h=>h2 h.2.1)]
 ·rw[zdk hs (k+2) x 3 (f:Int) 1 kq1 kq1 kq1,if_neg (fun h=>h1 h.1)]
omit hp in
theorem zjj (k x f:Nat) (hx:x≤64) (h:p+4≤s.size):zah.l0 (k+4) s (p:Int) (x:Int) ((4:Nat):Int) (f:Int) ((1:Nat):Int) =
 if(128≤(s.get! (p+1)).toNat∧(s.get! (p+1)).toNat≤191)∧(128≤(s.get! (p+2)).toNat∧(s.get! (p+2)).toNat≤191)∧(128≤(s.get! (p+3)).toNat∧(s.get! (p+3)).toNat≤191)∧f≤((x*64+(s.get! (p+1)).toNat-128)*64+(s.get! (p+2)).toNat-128)*64+(s.get! (p+3)).toNat-128∧((x*64+(s.get! (p+1)).toNat-128)*64+(s.get! (p+2)).toNat-128)*64+(s.get! (p+3)).toNat-128≤1114111∧¬(55296≤((x*64+(s.get! (p+1)).toNat-128)*64+(s.get! (p+2)).toNat-128)*64+(s.get! (p+3)).toNat-128∧((x*64+(s.get! (p+1)).toNat-128)*64+(s.get! (p+2)).toNat-128)*64+(s.get! (p+3)).toNat-128≤57343)then some (((((x*64+(s.get! (p+1)).toNat-128)*64+(s.get! (p+2)).toNat-128)*64+(s.get! (p+3)).toNat-128:Nat):Int),((4:Nat):Int),true)else some (65533,1,false):=by
 have D:=(s.get! (p+1)).toNat_lt
 have G:=(s.get! (p+2)).toNat_lt
 by_cases h1:128≤(s.get! (p+1)).toNat∧(s.get! (p+1)).toNat≤191
 ·rw[zeb hs (k+3) x 4 (f:Int) 1 kq1 kq1 kq1 kq1 h1.1 h1.2]
  by_cases h2:128≤(s.get! (p+2)).toNat∧(s.get! (p+2)).toNat≤191
  ·rw[zeb hs (k+2) _ 4 (f:Int) 2 kq1 kq1 kq1 kq1 h2.1 h2.2]
   by_cases r:128≤(s.get! (p+3)).toNat∧(s.get! (p+3)).toNat≤191
   ·rw[zeb hs (k+1) _ 4 (f:Int) 3 kq1 kq1 kq1 kq1 r.1 r.2,zfv k _ 4 f 4 kq1]
    simp only[h1,h2,r,and_self,true_and]
   ·rw[zdk hs (k+1) _ 4 (f:Int) 3 kq1 kq1 kq1,if_neg (fun h=>r h.2.2.1)]
  ·rw[zdk hs (k+2) _ 4 (f:Int) 2 kq1 kq1 kq1,if_neg (fun h=>h2 h.2.1)]
 ·rw[zdk hs (k+3) x 4 (f:Int) 1 kq1 kq1 kq1,if_neg (fun h=>h1 h.1)]
theorem zjk (k:Nat):zah.f (k+8) s (p:Int)=some (((zcw s p).1:Int),((zcw s p).2.1:Int),(zcw s p).2.2):=by
 have hb:=zh9 s p hp
 have L:=(s.get! p).toNat_lt
 unfold zah.f
 rw[if_pos kq1,if_pos kq1,hb,w64 (a:=((s.get! p).toNat:Int)) kq1 kq1]
 unfold zcw zeM
 simp only[Nat.add_zero]
 by_cases h0:(s.get! p).toNat<128
 ·rw[if_pos kq1,if_pos h0]
  rfl
 rw[if_neg kq1,if_neg h0]
 by_cases h1:194≤(s.get! p).toNat∧(s.get! p).toNat<224
 ·rw[if_pos kq1,if_pos h1,decide_eq_true kq1]
  simp only[zah.j0]
  rw[if_pos trivial,w64 kq1 kq1,show((s.get! p).toNat:Int)-192=(((s.get! p).toNat-192:Nat):Int) by omega]
  refine(zgu hs hp (k+6) _ 2 128).trans ?_
  by_cases h2:p+1<s.size
  ·rw[if_pos kq1,zjh hs (k+4) _ 128 kq1 kq1]
   simp only[h2,true_and]
   split<;>rfl
  ·rw[if_neg kq1,if_neg (fun h=>h2 h.1)]
   rfl
 rw[if_neg h1]
 have r:zah.j0 (k+8) s (p:Int) ((s.get! p).toNat:Int) false=(if 194≤(s.get! p).toNat∨True then zah.j0 (k+8) s (p:Int) ((s.get! p).toNat:Int) false else none):=by simp
 have D:(if((s.get! p).toNat:Int)≥194 then zah.j0 (k+8) s (p:Int) ((s.get! p).toNat:Int) (decide (((s.get! p).toNat:Int)<224))else zah.j0 (k+8) s (p:Int) ((s.get! p).toNat:Int) false)=zah.j0 (k+8) s (p:Int) ((s.get! p).toNat:Int) false:=by
  split
  ·rw[decide_eq_false kq1]
  ·rfl
 rw[D]
 clear r D
 simp only[zah.j0]
 rw[if_neg kq2]
 by_cases G:224≤(s.get! p).toNat∧(s.get! p).toNat<240
 ·rw[if_pos G,if_pos kq1,decide_eq_true kq1]
  simp only[zah.j1]
  rw[if_pos trivial,w64 kq1 kq1,show((s.get! p).toNat:Int)-224=(((s.get! p).toNat-224:Nat):Int) by omega]
  refine(zgu hs hp (k+5) _ 3 2048).trans ?_
  by_cases h2:p+2<s.size
  ·rw[if_pos kq1,zji hs (k+2) _ 2048 kq1 kq1]
   simp only[h2,true_and]
   split<;>rfl
  ·rw[if_neg kq1,if_neg (fun h=>h2 h.1)]
   rfl
 rw[if_neg G]
 have I:(if((s.get! p).toNat:Int)≥224 then zah.j1 (k+7) s (p:Int) ((s.get! p).toNat:Int) (decide (((s.get! p).toNat:Int)<240))else zah.j1 (k+7) s (p:Int) ((s.get! p).toNat:Int) false)=zah.j1 (k+7) s (p:Int) ((s.get! p).toNat:Int) false:=by
  split
  ·rw[decide_eq_false kq1]
  ·rfl
 rw[I]
 clear I
 simp only[zah.j1]
 rw[if_neg kq2]
 by_cases J:240≤(s.get! p).toNat∧(s.get! p).toNat<245
 ·rw[if_pos J,if_pos kq1,if_pos kq1]
  rw[w64 kq1 kq1,show((s.get! p).toNat:Int)-240=(((s.get! p).toNat-240:Nat):Int) by omega]
  refine(zgu hs hp (k+5) _ 4 65536).trans ?_
  by_cases h2:p+3<s.size
  ·rw[if_pos kq1,zjj hs (k+1) _ 65536 kq1 kq1]
   simp only[h2,true_and]
   split<;>rfl
  ·rw[if_neg kq1,if_neg (fun h=>h2 h.1)]
   rfl
 ·rw[if_neg J]
  split
  ·rw[if_neg kq1]
   rfl
  ·rfl
end
def decN (n p b0 b1 b2 b3:Nat):Nat × Nat:=
 if b0<128 then(b0,1)
 else if b0 / 32=6∧p+1<n∧b1 / 64=2 then(if 128≤b0 % 32*64+b1 % 64 then(b0 % 32*64+b1 % 64,2)else(65533,1))
 else if(b0 / 16=14∧p+1<n∧b1 / 64=2)∧p+2<n∧b2 / 64=2 then
  (if 2048≤b0 % 16*4096+b1 % 64*64+b2 % 64∧Utf8.valid ((b0 % 16*4096+b1 % 64*64+b2 % 64:Nat):Int)=true then(b0 % 16*4096+b1 % 64*64+b2 % 64,3)else(65533,1))
 else if((b0 / 8=30∧p+1<n∧b1 / 64=2)∧p+2<n∧b2 / 64=2)∧p+3<n∧b3 / 64=2 then
  (if 65536≤b0 % 8*262144+b1 % 64*4096+b2 % 64*64+b3 % 64∧Utf8.valid ((b0 % 8*262144+b1 % 64*4096+b2 % 64*64+b3 % 64:Nat):Int)=true then(b0 % 8*262144+b1 % 64*4096+b2 % 64*64+b3 % 64,4)else(65533,1))
 else(65533,1)
theorem zia (c:Nat):Utf8.valid (c:Int)=true↔c<55296∨(57344≤c∧c≤1114111):=by
 simp only[Utf8.valid,Bool.or_eq_true,Bool.and_eq_true,decide_eq_true_eq]
 omega
theorem zgv (s:ByteArray) (p:Nat):Utf8.decode s p=decN s.size p (s.get! (p+0)).toNat (s.get! (p+1)).toNat (s.get! (p+2)).toNat (s.get! (p+3)).toNat:=by
 simp only[Utf8.decode,decN,Utf8.runeError,Bool.and_eq_true,decide_eq_true_eq,beq_iff_eq,ge_iff_le]
theorem zhd {n p f r D G:Nat} (l0:f<256) (l1:r<256) (l2:D<256) (l3:G<256):decN n p f r D G=((zeM n p f r D G).1,(zeM n p f r D G).2.1)∧((zeM n p f r D G).2.2=false→zeM n p f r D G=(65533,1,false))∧((zeM n p f r D G).2.2=true→(zeM n p f r D G).2.1=1→(zeM n p f r D G).1<128):=by
 unfold decN zeM
 simp only[zia]
 by_cases h0:f<128
 ·rw[if_pos h0,if_pos h0]
  exact⟨rfl,fun h=>(by cases h),fun _ _=>h0⟩
 rw[if_neg h0,if_neg h0]
 by_cases h1:194≤f∧f<224
 ·rw[if_pos h1]
  by_cases hA:f / 32=6∧p+1<n∧r / 64=2
  ·obtain⟨J,I,a3⟩:=hA
   have e:f % 32*64+r % 64=(f-192)*64+r-128:=by omega
   rw[if_pos ⟨J,I,a3⟩,if_pos kq1,e,if_pos ⟨I,kq1,kq1,kq1,kq1⟩]
   exact⟨rfl,fun h=>(by cases h),fun _ h=>by simp at h⟩
  ·rw[if_neg hA,if_neg kq1,if_neg kq1,if_neg (fun h=>hA ⟨kq1,h.1,kq1⟩)]
   exact⟨rfl,fun _=>rfl,fun h=>(by cases h)⟩
 rw[if_neg h1]
 by_cases h2:224≤f∧f<240
 ·rw[if_pos h2,if_neg kq1]
  by_cases hA:(f / 16=14∧p+1<n∧r / 64=2)∧p+2<n∧D / 64=2
  ·obtain⟨⟨J,I,a3⟩,a4,a5⟩:=hA
   have e:f % 16*4096+r % 64*64+D % 64=((f-224)*64+r-128)*64+D-128:=by omega
   have L:128≤r∧r≤191:=by omega
   have M:128≤D∧D≤191:=by omega
   rw[if_pos ⟨⟨J,I,a3⟩,a4,a5⟩,e]
   simp only[a4,L,M,true_and,and_self]
   generalize ((f-224)*64+r-128)*64+D-128=c
   by_cases hv:2048≤c∧c≤1114111∧¬(55296≤c∧c≤57343)
   ·rw[if_pos hv,if_pos kq1]
    exact⟨rfl,fun h=>(by cases h),fun _ h=>by simp at h⟩
   ·rw[if_neg hv,if_neg kq1]
    exact⟨rfl,fun _=>rfl,fun h=>(by cases h)⟩
  ·rw[if_neg hA,if_neg kq1,if_neg (fun h=>hA ⟨⟨kq1,kq1,kq1⟩,h.1,kq1⟩)]
   exact⟨rfl,fun _=>rfl,fun h=>(by cases h)⟩
 rw[if_neg h2]
 by_cases U:240≤f∧f<245
 ·rw[if_pos U,if_neg kq1,if_neg kq1]
  by_cases hA:((f / 8=30∧p+1<n∧r / 64=2)∧p+2<n∧D / 64=2)∧p+3<n∧G / 64=2
  ·obtain⟨⟨⟨J,I,a3⟩,a4,a5⟩,X,Y⟩:=hA
   have e:f % 8*262144+r % 64*4096+D % 64*64+G % 64=(((f-240)*64+r-128)*64+D-128)*64+G-128:=by omega
   have L:128≤r∧r≤191:=by omega
   have M:128≤D∧D≤191:=by omega
   have Z:128≤G∧G≤191:=by omega
   rw[if_pos ⟨⟨⟨J,I,a3⟩,a4,a5⟩,X,Y⟩,e]
   simp only[X,L,M,Z,true_and,and_self]
   generalize (((f-240)*64+r-128)*64+D-128)*64+G-128=c
   by_cases hv:65536≤c∧c≤1114111∧¬(55296≤c∧c≤57343)
   ·rw[if_pos hv,if_pos kq1]
    exact⟨rfl,fun h=>(by cases h),fun _ h=>by simp at h⟩
   ·rw[if_neg hv,if_neg kq1]
    exact⟨rfl,fun _=>rfl,fun h=>(by cases h)⟩
  ·rw[if_neg hA,if_neg (fun h=>hA ⟨⟨⟨kq1,kq1,kq1⟩,kq1,kq1⟩,h.1,kq1⟩)]
   exact⟨rfl,fun _=>rfl,fun h=>(by cases h)⟩
 rw[if_neg U]
 refine⟨?_,fun _=>rfl,fun h=>(by cases h)⟩
 by_cases hA:f / 32=6∧p+1<n∧r / 64=2
 ·rw[if_pos hA,if_neg kq1]
 rw[if_neg hA,if_neg kq1]
 by_cases hB:((f / 8=30∧p+1<n∧r / 64=2)∧p+2<n∧D / 64=2)∧p+3<n∧G / 64=2
 ·rw[if_pos hB,if_neg kq1]
 ·rw[if_neg hB]
theorem zgw (s:ByteArray) (p:Nat):Utf8.decode s p=((zcw s p).1,(zcw s p).2.1)∧((zcw s p).2.2=false→zcw s p=(65533,1,false))∧((zcw s p).2.2=true→(zcw s p).2.1=1→(zcw s p).1<128):=by
 rw[zgv]
 exact zhd (s.get! (p+0)).toNat_lt (s.get! (p+1)).toNat_lt (s.get! (p+2)).toNat_lt (s.get! (p+3)).toNat_lt
end Go.Proofs.Ytjknpmibdkoklaa.Q
