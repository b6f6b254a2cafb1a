/- Functions of the given program as Lean functions, each with its contract, and what they answer; words for it. No condition but those of each. -/
import Derived.Test.YtjknpmibdkoklaaMNS
import Derived.Test.YtjknpmibdkoklaaMNR
import Derived.Test.YtjknpmibdkoklaaMN22
import Derived.Test.YtjknpmibdkoklaaMN19
import Derived.Test.YtjknpmibdkoklaaMN8
import Derived.LoopTactic
import Derived.Shelf.Abstract
set_option linter.unusedVariables false
set_option linter.unusedSimpArgs false
set_option maxRecDepth 100000
namespace Go.Proofs.Ytjknpmibdkoklaa.Q
open Go.RowKit Go.Proofs.YtjknpmibdkoklaaW.PrintWords Go.Proofs.YtjknpmibdkoklaaW.PrintLast Go.Proofs.YtjknpmibdkoklaaW.PrintMore
open Aside0 (mk)
def Z107:Obj:=.cells #[.slice none 0 0,.slice none 0 0,.int .i64 0,.int .i64 0] 107
theorem zjc {w W:World} {base g:Nat} {t:TypeId} {cells:Array Value} {u v:Value} {xs:List ByteArray} {ys:List Int} (h:Kd.R Kd.string 9 w base (fun _=>True) u xs) (hb:w.heap[g]?=some (.cells cells t (0,0))) (ht:∀q,q ∈ 9::Kd.string.E→q≠t) (hv:Kd.R (Kd.int .i64) 2 w base (fun _=>True) v ys) (ht2:∀q,q ∈ 9::Kd.string.E→q≠2) {w0:World} (hk:za6 w0 W g v.ownBlock) (h0:w0.heap.size=w.heap.size) (h1:∀i,i≠g→w0.heap[i]?=w.heap[i]?):Kd.R Kd.string 9 W base (fun _=>True) u xs:=
 Kd.R_mono (Kd.R_step (Kd.R_apartR (Kd.R_types h hb ht) hv ht2) (fun k f hlt=>(hk.2 k (by rw[h0];exact hlt) f.1.2 f.2).trans (h1 k f.1.2))) (fun _ _=>trivial)
set_option maxHeartbeats 4000000 in
theorem end6 {w W:World} {Y Z f r:Nat} {q1 q2:Array Value} {D G L M I J U X:Value} {na nb:List ByteArray} {ca cb:List Int} (G5:w.heap.size≤f) (G6:w.heap.size≤r) (N15:Y≠f) (N16:Y≠r) (N25:Z≠f) (N26:Z≠r) (N56:f≠r) (B1:W.heap[Y]?=some (.cells q1 39 (0,0))) (B2:W.heap[Z]?=some (.cells q2 58 (0,0))) (B5:W.heap[f]?=some (.cells #[.slice none 0 0,.slice none 0 0,.int .i64 0,.int .i64 0] 107 (0,0))) (B6:W.heap[r]?=some (.cells #[.slice none 0 0,.slice none 0 0,.int .i64 0,.int .i64 0] 107 (0,0))) (A0:Kd.R Kd.string 9 W w.heap.size (fun _=>True) (D) (na)) (A1:Kd.R (Kd.int .i64) 2 W w.heap.size (fun _=>True) (G) (ca)) (A2:Kd.R Kd.string 9 W w.heap.size (fun _=>True) (I) (nb)) (A3:Kd.R (Kd.int .i64) 2 W w.heap.size (fun _=>True) (J) (cb)) (B:Below w.heap.size w W) :
 Aside0 (((((((((W.setCell ⟨f,0,none⟩ D).setCell ⟨f,1,none⟩ G).setCell ⟨f,2,none⟩ L).setCell ⟨f,3,none⟩ M).setCell ⟨r,0,none⟩ I).setCell ⟨r,1,none⟩ J).setCell ⟨r,2,none⟩ U).setCell ⟨r,3,none⟩ X).heap[Y]?=some (.cells q1 39 (0,0)))∧Aside0 (((((((((W.setCell ⟨f,0,none⟩ D).setCell ⟨f,1,none⟩ G).setCell ⟨f,2,none⟩ L).setCell ⟨f,3,none⟩ M).setCell ⟨r,0,none⟩ I).setCell ⟨r,1,none⟩ J).setCell ⟨r,2,none⟩ U).setCell ⟨r,3,none⟩ X).heap[Z]?=some (.cells q2 58 (0,0)))∧Aside0 (((((((((W.setCell ⟨f,0,none⟩ D).setCell ⟨f,1,none⟩ G).setCell ⟨f,2,none⟩ L).setCell ⟨f,3,none⟩ M).setCell ⟨r,0,none⟩ I).setCell ⟨r,1,none⟩ J).setCell ⟨r,2,none⟩ U).setCell ⟨r,3,none⟩ X).heap[f]?=some (.cells #[D,G,L,M] 107 (0,0)))∧Aside0 (((((((((W.setCell ⟨f,0,none⟩ D).setCell ⟨f,1,none⟩ G).setCell ⟨f,2,none⟩ L).setCell ⟨f,3,none⟩ M).setCell ⟨r,0,none⟩ I).setCell ⟨r,1,none⟩ J).setCell ⟨r,2,none⟩ U).setCell ⟨r,3,none⟩ X).heap[r]?=some (.cells #[I,J,U,X] 107 (0,0)))∧Aside0 (Kd.R Kd.string 9 ((((((((W.setCell ⟨f,0,none⟩ D).setCell ⟨f,1,none⟩ G).setCell ⟨f,2,none⟩ L).setCell ⟨f,3,none⟩ M).setCell ⟨r,0,none⟩ I).setCell ⟨r,1,none⟩ J).setCell ⟨r,2,none⟩ U).setCell ⟨r,3,none⟩ X) w.heap.size (fun _=>True) (D) (na))∧Aside0 (Kd.R (Kd.int .i64) 2 ((((((((W.setCell ⟨f,0,none⟩ D).setCell ⟨f,1,none⟩ G).setCell ⟨f,2,none⟩ L).setCell ⟨f,3,none⟩ M).setCell ⟨r,0,none⟩ I).setCell ⟨r,1,none⟩ J).setCell ⟨r,2,none⟩ U).setCell ⟨r,3,none⟩ X) w.heap.size (fun _=>True) (G) (ca))∧Aside0 (Kd.R Kd.string 9 ((((((((W.setCell ⟨f,0,none⟩ D).setCell ⟨f,1,none⟩ G).setCell ⟨f,2,none⟩ L).setCell ⟨f,3,none⟩ M).setCell ⟨r,0,none⟩ I).setCell ⟨r,1,none⟩ J).setCell ⟨r,2,none⟩ U).setCell ⟨r,3,none⟩ X) w.heap.size (fun _=>True) (I) (nb))∧Aside0 (Kd.R (Kd.int .i64) 2 ((((((((W.setCell ⟨f,0,none⟩ D).setCell ⟨f,1,none⟩ G).setCell ⟨f,2,none⟩ L).setCell ⟨f,3,none⟩ M).setCell ⟨r,0,none⟩ I).setCell ⟨r,1,none⟩ J).setCell ⟨r,2,none⟩ U).setCell ⟨r,3,none⟩ X) w.heap.size (fun _=>True) (J) (cb))∧Aside0 (Below w.heap.size w ((((((((W.setCell ⟨f,0,none⟩ D).setCell ⟨f,1,none⟩ G).setCell ⟨f,2,none⟩ L).setCell ⟨f,3,none⟩ M).setCell ⟨r,0,none⟩ I).setCell ⟨r,1,none⟩ J).setCell ⟨r,2,none⟩ U).setCell ⟨r,3,none⟩ X)):=by
 have BKg1:=mk B1
 have BKg2:=mk B2
 have BKg5:=mk B5
 have BKg6:=mk B6
 have HA0:=mk A0
 have HA1:=mk A1
 have HB0:=mk A2
 have HB1:=mk A3
 have GEg5:=mk G5
 have GEg6:=mk G6
 have NBg1g5:=mk N15
 have NBg1g6:=mk N16
 have NBg2g5:=mk N25
 have NBg2g6:=mk N26
 have NBg5g6:=mk N56
 have NBg6g5:=mk (Ne.symm N56)
 have HB:=mk B
 exact⟨⟨(zaj (zaj (zaj (zaj (zaj (zaj (zaj (zaj (kq45 BKg1) NBg1g5.out _) NBg1g5.out _) NBg1g5.out _) NBg1g5.out _) NBg1g6.out _) NBg1g6.out _) NBg1g6.out _) NBg1g6.out _)⟩,⟨(zaj (zaj (zaj (zaj (zaj (zaj (zaj (zaj (kq45 BKg2) NBg2g5.out _) NBg2g5.out _) NBg2g5.out _) NBg2g5.out _) NBg2g6.out _) NBg2g6.out _) NBg2g6.out _) NBg2g6.out _)⟩,⟨(zaj (zaj (zaj (zaj (zak (zak (zak (zak (kq45 BKg5) 0 _ rfl) 1 _ rfl) 2 _ rfl) 3 _ rfl) NBg5g6.out _) NBg5g6.out _) NBg5g6.out _) NBg5g6.out _)⟩,⟨(zak (zak (zak (zak (zaj (zaj (zaj (zaj (kq45 BKg6) NBg6g5.out _) NBg6g5.out _) NBg6g5.out _) NBg6g5.out _) 0 _ rfl) 1 _ rfl) 2 _ rfl) 3 _ rfl)⟩,⟨Kd.R_mono (Kd.R_far (p:=⟨r,3,none⟩) (Kd.R_far (p:=⟨r,2,none⟩) (Kd.R_far (p:=⟨r,1,none⟩) (Kd.R_far (p:=⟨r,0,none⟩) (Kd.R_far (p:=⟨f,3,none⟩) (Kd.R_far (p:=⟨f,2,none⟩) (Kd.R_far (p:=⟨f,1,none⟩) (Kd.R_far (p:=⟨f,0,none⟩) (Kd.R_types (Kd.R_types zgy BKg5.out kq2) BKg6.out kq2) (fun _ h=>h.1.2) _) (fun _ h=>h.1.2) _) (fun _ h=>h.1.2) _) (fun _ h=>h.1.2) _) (fun _ h=>h.2) _) (fun _ h=>h.2) _) (fun _ h=>h.2) _) (fun _ h=>h.2) _) (fun _ _=>trivial)⟩,⟨Kd.R_mono (Kd.R_far (p:=⟨r,3,none⟩) (Kd.R_far (p:=⟨r,2,none⟩) (Kd.R_far (p:=⟨r,1,none⟩) (Kd.R_far (p:=⟨r,0,none⟩) (Kd.R_far (p:=⟨f,3,none⟩) (Kd.R_far (p:=⟨f,2,none⟩) (Kd.R_far (p:=⟨f,1,none⟩) (Kd.R_far (p:=⟨f,0,none⟩) (Kd.R_types (Kd.R_types zgz BKg5.out kq2) BKg6.out kq2) (fun _ h=>h.1.2) _) (fun _ h=>h.1.2) _) (fun _ h=>h.1.2) _) (fun _ h=>h.1.2) _) (fun _ h=>h.2) _) (fun _ h=>h.2) _) (fun _ h=>h.2) _) (fun _ h=>h.2) _) (fun _ _=>trivial)⟩,⟨Kd.R_mono (Kd.R_far (p:=⟨r,3,none⟩) (Kd.R_far (p:=⟨r,2,none⟩) (Kd.R_far (p:=⟨r,1,none⟩) (Kd.R_far (p:=⟨r,0,none⟩) (Kd.R_far (p:=⟨f,3,none⟩) (Kd.R_far (p:=⟨f,2,none⟩) (Kd.R_far (p:=⟨f,1,none⟩) (Kd.R_far (p:=⟨f,0,none⟩) (Kd.R_types (Kd.R_types zgA BKg5.out kq2) BKg6.out kq2) (fun _ h=>h.1.2) _) (fun _ h=>h.1.2) _) (fun _ h=>h.1.2) _) (fun _ h=>h.1.2) _) (fun _ h=>h.2) _) (fun _ h=>h.2) _) (fun _ h=>h.2) _) (fun _ h=>h.2) _) (fun _ _=>trivial)⟩,⟨Kd.R_mono (Kd.R_far (p:=⟨r,3,none⟩) (Kd.R_far (p:=⟨r,2,none⟩) (Kd.R_far (p:=⟨r,1,none⟩) (Kd.R_far (p:=⟨r,0,none⟩) (Kd.R_far (p:=⟨f,3,none⟩) (Kd.R_far (p:=⟨f,2,none⟩) (Kd.R_far (p:=⟨f,1,none⟩) (Kd.R_far (p:=⟨f,0,none⟩) (Kd.R_types (Kd.R_types zgB BKg5.out kq2) BKg6.out kq2) (fun _ h=>h.1.2) _) (fun _ h=>h.1.2) _) (fun _ h=>h.1.2) _) (fun _ h=>h.1.2) _) (fun _ h=>h.2) _) (fun _ h=>h.2) _) (fun _ h=>h.2) _) (fun _ h=>h.2) _) (fun _ _=>trivial)⟩,⟨(zav (zav (zav (zav (zav (zav (zav (zav kq43 GEg5.out) GEg5.out) GEg5.out) GEg5.out) GEg6.out) GEg6.out) GEg6.out) GEg6.out)⟩⟩
set_option maxHeartbeats 8000000 in
theorem ziw (op:Int) (nm:ByteArray) (md:Int) (J:Option Addr) (L:Nat) (r:List S66) (M:Option Addr) (U:Nat) (D:List S39) (ev:Int) (w:World) (G:Kd.C k66 w J r.length r) (hc3:r.length≤L) (I:Kd.C k39 w M D.length D) (hc4:D.length≤U) (hck:zco.f op nm md r D=some ev) (he:ev≠0) :
 Calls Try.prog 44 #[.agg #[.int .i64 op,.string nm,.int .i64 md,.slice J r.length L,.slice M D.length U]] w fun e w'=>e= .returned (.tuple #[.agg #[.int .i64 0,.slice none 0 0,.slice none 0 0,.int .i64 0,.int .i64 0],.int .i64 ev])∧Below w.heap.size w w':=by
 have he0:(ev != 0)=true:=bne_iff_ne.mpr he
 have he1:(ev==0)=false:=beq_eq_false_iff_ne.mpr he
 have HCK:=mk hck
 clear hck he
 have ae:=Try.underlying39
 have af:=Try.underlying58
 have ag:=Try.underlying66
 have Y:=Try.underlying107
 have Z:=mk G
 have aa:=mk hc3
 have ab:=mk I
 have ac:=mk hc4
 clear G hc3 I hc4
 have HB:=mk (Below.refl w.heap.size w)
 go_enter Try.func44,Try.ntmps44
 go_wp2_with (first|((with_reducible refine zao (N:=1) rfl ?_);refine zal ?hg (N:=1) ?hd (cs:=#[.int .i64 op,.string nm,.int .i64 md,.slice J r.length L,.slice M D.length U]) (t:=39) ?hr ?_;(case hd=>rfl);(case hg=>rfl);(case hr=>exact kq21);intro g1 hg w1 hbox hb;have BKg1:=mk hbox;have GEg1:=mk (kq42:w.heap.size≤g1);replace HB:=mk (zaa kq43 hb);clear hb hbox hg;obtain⟨_,_,_,_,_,_,_,_,_,_⟩:=cz5_ BKg1.out)|((with_reducible refine zao (N:=2) rfl ?_);refine zal ?hg (N:=2) ?hd (cs:=#[.int .i64 0,.slice none 0 0,.slice none 0 0,.int .i64 0,.int .i64 0]) (t:=58) ?hr ?_;(case hd=>rfl);(case hg=>rfl);(case hr=>exact kq21);intro X hg w2 hbox hb;have BKg2:=mk hbox;have GEg2:=mk (kq42:w.heap.size≤X);have NBg1g2:=mk ((kq44 BKg1):g1≠X);have NBg2g1:=mk ((kq46 BKg1):X≠g1);replace BKg1:=(bc_ BKg1 hb (kq45 BKg1));replace HB:=mk (zaa kq43 hb);clear hb hbox hg;have ne_g1g2:=NBg1g2.out;have ne_g2g1:=NBg2g1.out;obtain⟨_,_,_,_,_,_,_,_,_,_⟩:=cz5_ BKg1.out;obtain⟨_,_,_,_,_,_,_,_,_,_⟩:=cz5_ BKg2.out)|((go_at_call 36;(with_reducible refine(zco.calls op nm md J L r M U D ev _ ?s1 aa.out ?s3 ac.out HCK.out).mono ?_);(case s1=>exact zhe Z);(case s3=>exact zhe ab);rintro e w3 ⟨rfl,hb⟩;replace BKg1:=(bc_ BKg1 hb (kq48 BKg1 NBg1g2));replace BKg2:=(bc_ BKg2 hb (kq48 BKg2 NBg2g1));replace HB:=mk (zaa kq43 hb);clear hb;obtain⟨_,_,_,_,_,_,_,_,_,_⟩:=cz5_ BKg1.out;obtain⟨_,_,_,_,_,_,_,_,_,_⟩:=cz5_ BKg2.out)))
 refine bodyPost_ret (zdh rfl _ _ X 58 #[.int .i64 0,.slice none 0 0,.slice none 0 0,.int .i64 0,.int .i64 0] (0,0) _ rfl (zak (zak (zak (zak (zak BKg2.out 0 _ rfl) 1 _ rfl) 2 _ rfl) 3 _ rfl) 4 _ rfl) Try.underlying58 rfl kq0) rfl ?_
 exact⟨rfl,by repeat(first|exact HB.out|refine zav ?_ GEg2.out)⟩
set_option maxHeartbeats 8000000 in
theorem zhb (op:Int) (nm:ByteArray) (md:Int) (J:Option Addr) (L:Nat) (r:List S66) (M:Option Addr) (U:Nat) (D:List S39) (w:World) (G:Kd.C k66 w J r.length r) (hc3:r.length≤L) (I:Kd.C k39 w M D.length D) (hc4:D.length≤U) (hck:zco.f op nm md r D=some 0) (ho:op<9) :
 Calls Try.prog 44 #[.agg #[.int .i64 op,.string nm,.int .i64 md,.slice J r.length L,.slice M D.length U]] w fun e w'=>e= .returned (.tuple #[.agg #[.int .i64 0,.slice none 0 0,.slice none 0 0,.int .i64 0,.int .i64 0],.int .i64 3])∧Below w.heap.size w w':=by
 have ho1:decide (op<9)=true:=decide_eq_true ho
 have HCK:=mk hck
 clear hck
 have ae:=Try.underlying39
 have af:=Try.underlying58
 have ag:=Try.underlying66
 have Y:=Try.underlying107
 have Z:=mk G
 have aa:=mk hc3
 have ab:=mk I
 have ac:=mk hc4
 clear G hc3 I hc4
 have HB:=mk (Below.refl w.heap.size w)
 go_enter Try.func44,Try.ntmps44
 go_wp2_with (first|((with_reducible refine zao (N:=1) rfl ?_);refine zal ?hg (N:=1) ?hd (cs:=#[.int .i64 op,.string nm,.int .i64 md,.slice J r.length L,.slice M D.length U]) (t:=39) ?hr ?_;(case hd=>rfl);(case hg=>rfl);(case hr=>exact kq21);intro g1 hg w1 hbox hb;have BKg1:=mk hbox;have GEg1:=mk (kq42:w.heap.size≤g1);replace HB:=mk (zaa kq43 hb);clear hb hbox hg;obtain⟨_,_,_,_,_,_,_,_,_,_⟩:=cz5_ BKg1.out)|((with_reducible refine zao (N:=2) rfl ?_);refine zal ?hg (N:=2) ?hd (cs:=#[.int .i64 0,.slice none 0 0,.slice none 0 0,.int .i64 0,.int .i64 0]) (t:=58) ?hr ?_;(case hd=>rfl);(case hg=>rfl);(case hr=>exact kq21);intro X hg w2 hbox hb;have BKg2:=mk hbox;have GEg2:=mk (kq42:w.heap.size≤X);have NBg1g2:=mk ((kq44 BKg1):g1≠X);have NBg2g1:=mk ((kq46 BKg1):X≠g1);replace BKg1:=(bc_ BKg1 hb (kq45 BKg1));replace HB:=mk (zaa kq43 hb);clear hb hbox hg;have ne_g1g2:=NBg1g2.out;have ne_g2g1:=NBg2g1.out;obtain⟨_,_,_,_,_,_,_,_,_,_⟩:=cz5_ BKg1.out;obtain⟨_,_,_,_,_,_,_,_,_,_⟩:=cz5_ BKg2.out)|((go_at_call 36;(with_reducible refine(zco.calls op nm md J L r M U D 0 _ ?s1 aa.out ?s3 ac.out HCK.out).mono ?_);(case s1=>exact zhe Z);(case s3=>exact zhe ab);rintro e w3 ⟨rfl,hb⟩;replace BKg1:=(bc_ BKg1 hb (kq48 BKg1 NBg1g2));replace BKg2:=(bc_ BKg2 hb (kq48 BKg2 NBg2g1));replace HB:=mk (zaa kq43 hb);clear hb;obtain⟨_,_,_,_,_,_,_,_,_,_⟩:=cz5_ BKg1.out;obtain⟨_,_,_,_,_,_,_,_,_,_⟩:=cz5_ BKg2.out)))
 refine bodyPost_ret (zdh rfl _ _ X 58 #[.int .i64 0,.slice none 0 0,.slice none 0 0,.int .i64 0,.int .i64 0] (0,0) _ rfl (zak (zak (zak (zak (zak BKg2.out 0 _ rfl) 1 _ rfl) 2 _ rfl) 3 _ rfl) 4 _ rfl) Try.underlying58 rfl kq0) rfl ?_
 exact⟨rfl,by repeat(first|exact HB.out|refine zav ?_ GEg2.out)⟩
def zdn (op:Int):Int:=if op=13∨op=14 then 1 else if op=15 then 2 else 0
def zcC (op md ks:Int):Int:=if op=10∨op=12 then(subP (negP ks).1 1).1 else if op=15 then(zdm (negP ks).1 md).1 else(negP ks).1
def zcI (op ks es:Int):Int:=if op=10∨op=12 then zbu (zbu es (negP ks).2) (subP (negP ks).1 1).2 else zbu es (negP ks).2
def zcD (op md:Int) (cs:List Int):List Int:=if op=15 then cs.map (fun c=>(zdm c md).1)else cs
theorem zfW (op md:Int) (cs:List Int):(zcD op md cs).length=cs.length:=by unfold zcD;split<;>simp
def zfq (op md:Int) (ns:List ByteArray) (cs:List Int) (ks es te:Int):Int × List ByteArray × List Int × Int × Int × Int:=
 if zbu (zcI op ks es) te=0 then(zdn op,ns,zcD op md cs,zcC op md ks,md,0)else(0,[],[],0,0,zbu (zcI op ks es) te)
set_option maxHeartbeats 40000000 in
theorem zh2 (k:Nat) (op:Int) (nm:ByteArray) (md:Int) (A3:Option Addr) (c3:Nat) (l3:List S66) (A4:Option Addr) (c4:Nat) (l4:List S39) (w:World) (aG:Kd.C k66 w A3 l3.length l3) (hc3:l3.length≤c3) (aH:Kd.C k39 w A4 l4.length l4) (hc4:l4.length≤c4) (hck:zco.f op nm md l3 l4=some 0) (ho:¬op<9) (h2:1<l3.length) (na:List ByteArray) (ca:List Int) (ka ea:Int) (nb:List ByteArray) (cb:List Int) (kb eb:Int) (n0:List ByteArray) (z0:List Int) (k0 e0:Int) (ns:List ByteArray) (cs:List Int) (ks es tt te:Int)
 (hwa:zau.f k (zaN l3 0).f0 (zaN l3 0).f1 (zaN l3 0).f2 (zaN l3 0).f3=some (na,ca,ka,ea)) (hwb:zau.f k (zaN l3 1).f0 (zaN l3 1).f1 (zaN l3 1).f2 (zaN l3 1).f3=some (nb,cb,kb,eb)) (aI:zbc.f na ca ka ea nb cb kb eb 1=some (n0,z0,k0,e0))
 (aJ:(ea=0∧eb=0∧(op=11∨op=12))→zbc.f nb cb kb eb na ca ka ea 1=some (ns,cs,ks,es)) (aK:¬(ea=0∧eb=0∧(op=11∨op=12))→n0=ns∧z0=cs∧k0=ks∧e0=es) (hl:cs.length≤1000000) (htt:zbp.f k ([zcC op md ks]++zcD op md cs)=some (tt,te)) :
 Calls Try.prog 44 #[.agg #[.int .i64 op,.string nm,.int .i64 md,.slice A3 l3.length c3,.slice A4 l4.length c4]] w fun e w'=>∃v0 v1:Value,e= .returned (.tuple #[.agg #[.int .i64 (zfq op md ns cs ks es te).1,v0,v1,.int .i64 (zfq op md ns cs ks es te).2.2.2.1,.int .i64 (zfq op md ns cs ks es te).2.2.2.2.1],.int .i64 (zfq op md ns cs ks es te).2.2.2.2.2])∧Kd.R Kd.string 9 w' w.heap.size (fun _=>True) v0 (zfq op md ns cs ks es te).2.1∧Kd.R (Kd.int .i64) 2 w' w.heap.size (fun _=>True) v1 (zfq op md ns cs ks es te).2.2.1∧Below w.heap.size w w':=by
 have ho1:decide (op<9)=false:=decide_eq_false ho
 have HCK:=mk hck
 have H2:=mk h2
 have HWA:=mk hwa
 have HWB:=mk hwb
 have aM:=mk aI
 have aN:=mk aJ
 have aQ:=mk aK
 have HL:=mk hl
 have HTT:=mk htt
 clear hck h2 hwa hwb aI aJ aK hl htt
 have bj:=Try.underlying39
 have bk:=Try.underlying58
 have bm:=Try.underlying66
 have aY:=Try.underlying107
 have aE:=mk aG
 have aZ:=mk hc3
 have b4:=mk aH
 have b5:=mk hc4
 clear aG hc3 aH hc4
 have HB:=mk (Below.refl w.heap.size w)
 go_enter Try.func44,Try.ntmps44
 go_upto_region 6 with(first|((with_reducible refine zao (N:=1) rfl ?_);refine zal ?hg (N:=1) ?hd (cs:=#[.int .i64 op,.string nm,.int .i64 md,.slice A3 l3.length c3,.slice A4 l4.length c4]) (t:=39) ?hr ?_;(case hd=>rfl);(case hg=>rfl);(case hr=>exact kq21);intro g1 hg w1 hbox hb;have BKg1:=mk hbox;have GEg1:=mk (kq42:w.heap.size≤g1);replace HB:=mk (zaa kq43 hb);clear hb hbox hg;obtain⟨_,_,_,_,_,_,_,_,_,_⟩:=cz5_ BKg1.out)|((with_reducible refine zao (N:=2) rfl ?_);refine zal ?hg (N:=2) ?hd (cs:=#[.int .i64 0,.slice none 0 0,.slice none 0 0,.int .i64 0,.int .i64 0]) (t:=58) ?hr ?_;(case hd=>rfl);(case hg=>rfl);(case hr=>exact kq21);intro g2 hg w2 hbox hb;have BKg2:=mk hbox;have GEg2:=mk (kq42:w.heap.size≤g2);have NBg1g2:=mk ((kq44 BKg1):g1≠g2);have NBg2g1:=mk ((kq46 BKg1):g2≠g1);replace BKg1:=(bc_ BKg1 hb (kq45 BKg1));replace HB:=mk (zaa kq43 hb);clear hb hbox hg;have ne_g1g2:=NBg1g2.out;have ne_g2g1:=NBg2g1.out;obtain⟨_,_,_,_,_,_,_,_,_,_⟩:=cz5_ BKg1.out;obtain⟨_,_,_,_,_,_,_,_,_,_⟩:=cz5_ BKg2.out)|((go_at_call 36;(with_reducible refine(zco.calls op nm md A3 c3 l3 A4 c4 l4 0 _ ?s1 aZ.out ?s3 b5.out HCK.out).mono ?_);(case s1=>exact zhe aE);(case s3=>exact zhe b4);rintro e w3 ⟨rfl,hb⟩;replace BKg1:=(bc_ BKg1 hb (kq48 BKg1 NBg1g2));replace BKg2:=(bc_ BKg2 hb (kq48 BKg2 NBg2g1));replace HB:=mk (zaa kq43 hb);clear hb;obtain⟨_,_,_,_,_,_,_,_,_,_⟩:=cz5_ BKg1.out;obtain⟨_,_,_,_,_,_,_,_,_,_⟩:=cz5_ BKg2.out)))
 (try simp only[Act.put,List.setIfInBounds_toArray,List.set_cons_zero,List.set_cons_succ])
 go_cut [5,6] (fun v5 v6 wc=>∃(g5 g6:Nat) (Aa:Option Addr) (xa:Nat) (Ab:Option Addr) (xb:Nat) (Ba:Option Addr) (ya:Nat) (Bb:Option Addr) (yb:Nat),v5= .pointer (some ⟨g5,0,none⟩)∧v6= .pointer (some ⟨g6,0,none⟩)∧Aside0 (w.heap.size≤g5)∧Aside0 (w.heap.size≤g6)∧Aside0 (g1≠g5)∧Aside0 (g1≠g6)∧Aside0 (g2≠g5)∧Aside0 (g2≠g6)∧Aside0 (g5≠g6)∧Aside0 (wc.heap[g1]?=some (.cells #[.int .i64 op,.string nm,.int .i64 md,.slice A3 l3.length c3,.slice A4 l4.length c4] 39 (0,0)))∧Aside0 (wc.heap[g2]?=some (.cells #[.int .i64 0,.slice none 0 0,.slice none 0 0,.int .i64 0,.int .i64 0] 58 (0,0)))∧Aside0 (wc.heap[g5]?=some (.cells #[.slice Aa na.length xa,.slice Ab ca.length xb,.int .i64 ka,.int .i64 ea] 107 (0,0)))∧Aside0 (wc.heap[g6]?=some (.cells #[.slice Ba nb.length ya,.slice Bb cb.length yb,.int .i64 kb,.int .i64 eb] 107 (0,0)))∧Aside0 (Kd.R Kd.string 9 wc w.heap.size (fun _=>True) (.slice Aa na.length xa) (na))∧Aside0 (Kd.R (Kd.int .i64) 2 wc w.heap.size (fun _=>True) (.slice Ab ca.length xb) (ca))∧Aside0 (Kd.R Kd.string 9 wc w.heap.size (fun _=>True) (.slice Ba nb.length ya) (nb))∧Aside0 (Kd.R (Kd.int .i64) 2 wc w.heap.size (fun _=>True) (.slice Bb cb.length yb) (cb))∧Aside0 (Below w.heap.size w wc))
 case first=>
  have aT:(0:Int)<(l3.length:Int):=by have:=H2.out;omega
  have aU:(1:Int)<(l3.length:Int):=by have:=H2.out;omega
  have bn:decide ((0:Int)<(l3.length:Int))=true:=decide_eq_true aT
  have bo:decide ((1:Int)<(l3.length:Int))=true:=decide_eq_true aU
  have bp:(0<l3.length)=True:=eq_true kq1
  have br:(1<l3.length)=True:=eq_true kq1
  obtain⟨ad,E0,d0,b6,J,L,U,X,hl0,aV⟩:=zdr aE.out 0 kq1 aT
  cases b6
  rw[show((0:Int)).toNat=0 from rfl,show 0*4=0 from rfl,Addr.add_zero']at J
  rw[show((0:Int)).toNat=0 from rfl,show 0*4=0 from rfl,Addr.add_zero']at L
  rw[show((0:Int)).toNat=0 from rfl,show 0*4=0 from rfl,Addr.add_zero']at U
  rw[show((0:Int)).toNat=0 from rfl,show 0*4=0 from rfl,Addr.add_zero']at X
  obtain⟨b7,E1,d1,aW,r,D,G,I,hl1,aX⟩:=zdr aE.out 1 kq1 aU
  obtain rfl:ad=b7:=by injection aW
  rw[show((1:Int)).toNat=1 from rfl,show 1*4=4 from rfl]at r
  rw[show((1:Int)).toNat=1 from rfl,show 1*4=4 from rfl]at D
  rw[show((1:Int)).toNat=1 from rfl,show 1*4=4 from rfl]at G
  rw[show((1:Int)).toNat=1 from rfl,show 1*4=4 from rfl]at I
  rw[show ad.add 4=⟨ad.block,ad.off+4,none⟩from rfl]at r
  rw[show ad.add 4=⟨ad.block,ad.off+4,none⟩from rfl]at D
  rw[show ad.add 4=⟨ad.block,ad.off+4,none⟩from rfl]at G
  rw[show ad.add 4=⟨ad.block,ad.off+4,none⟩from rfl]at I
  have HI0:=mk aV
  have HI1:=mk aX
  have aC:=mk hl0
  have an:=mk hl1
  clear aV aX hl0 hl1 aW
  refine zbv (n:=14) (S:=fun w'=>w'.cell? ⟨g1,3,none⟩=some (.slice (some ad) l3.length c3)∧w'.cell? ad=some (.int .i64 (zaN l3 0).f0)∧w'.cell? ⟨ad.block,ad.off+1,none⟩=some (.int .i64 (zaN l3 0).f1)∧w'.cell? ⟨ad.block,ad.off+2,none⟩=some (.string (zaN l3 0).f2)∧w'.cell? ⟨ad.block,ad.off+3,none⟩=some (.slice E0 (zaN l3 0).f3.length d0)∧w'.cell? ⟨ad.block,ad.off+4,none⟩=some (.int .i64 (zaN l3 1).f0)∧w'.cell? ⟨ad.block,ad.off+4+1,none⟩=some (.int .i64 (zaN l3 1).f1)∧w'.cell? ⟨ad.block,ad.off+4+2,none⟩=some (.string (zaN l3 1).f2)∧w'.cell? ⟨ad.block,ad.off+4+3,none⟩=some (.slice E1 (zaN l3 1).f3.length d1)) (ds:=[12,13]) #[false,false,false,false,false,false,false,false,false,false,false,false,false,false] kq0 rfl rfl ⟨bk_ BKg1 3,(hc_ HB J :),(hc_ HB L :),(hc_ HB U :),(hc_ HB X :),(hc_ HB r :),(hc_ HB D :),(hc_ HB G :),(hc_ HB I :)⟩ (fun hHeld=>?_)
  replace BKg1:Aside0 (w3.drew.heap[g1]?=some (.cells #[.int .i64 op,.string nm,.int .i64 md,.slice (some ad) l3.length c3,.slice A4 l4.length c4] 39 (0,0))):=⟨BKg1.out⟩
  replace BKg2:Aside0 (w3.drew.heap[g2]?=some (.cells #[.int .i64 0,.slice none 0 0,.slice none 0 0,.int .i64 0,.int .i64 0] 58 (0,0))):=⟨BKg2.out⟩
  replace HB:Aside0 (Below w.heap.size w w3.drew):=⟨zaP HB.out⟩
  generalize w3.drew=w9 at BKg1 BKg2 HB hHeld ⊢
  refine pu_ 0 19 ?_
  refine pu_ 5 24 ?_
  refine ta_ 1 20 hHeld ?_
  refine ta_ 6 25 hHeld ?_
  refine pu_ 2 21 ?_
  refine pu_ 7 26 ?_
  refine ta_ 3 22 hHeld ?_
  refine ta_ 8 27 hHeld ?_
  refine ziQ (i:=4) (j:=10) (k:=11) (Ni:=some 23) (Nj:=some 5) (Nk:=some 6) #[true,true,true,true,true,true,true,true,true,false,false,false,false,false] #[true,true,true,true,false,true,true,true,true,false,true,false,false,false] #[true,true,true,true,false,true,true,true,true,false,false,true,false,false] rfl rfl rfl rfl rfl rfl kq0 kq2 kq2 kq2 (fun K hK=>?_) (fun K hK=>?_) (fun K hK=>?_)
  ·refine zbj Try.func81 kq0 rfl #[.agg #[.int .i64 (zaN l3 0).f0,.int .i64 (zaN l3 0).f1,.string (zaN l3 0).f2,.slice E0 (zaN l3 0).f3.length d0]] (by rfl) rfl rfl kq54 ?_
   refine(zau.calls k _ _ _ E0 d0 _ na ca ka ea _ (Kd.C_below HI0.out HB.out) aC.out HWA.out).mono ?_
   rintro e ai ⟨aj,ak,rfl,Y,Z,hb⟩
   obtain⟨Aa,xa,en_⟩:=Kd.R_slice Y
   subst en_
   obtain⟨Ab,xb,en_⟩:=Kd.R_slice Z
   subst en_
   refine⟨_,rfl,?_⟩
   have HA0:=mk (Kd.R_lower Y (zad HB.out))
   have HA1:=mk (Kd.R_lower Z (zad HB.out))
   have aa:=mk (zai BKg1.out hb)
   have ab:=mk (zai BKg2.out hb)
   have ac:=mk (zaa HB.out hb)
   clear BKg1 BKg2 HB
   have BKg1:=aa
   have BKg2:=ab
   have HB:=ac
   clear aa ab ac
   clear hb Y Z
   refine hK.out _ _ ⟨bk_ BKg1 3,hc_ HB J,hc_ HB L,hc_ HB U,hc_ HB X,hc_ HB r,hc_ HB D,hc_ HB G,hc_ HB I⟩ (fun hHeld=>?_)
   clear hK K
   refine za2 (a':=?_) ?_ ?_
   rotate_left
   ·show Act.put _ (some 23) _=_
    simp only[Act.put,List.setIfInBounds_toArray,List.set_cons_zero,List.set_cons_succ]
    rfl
   refine ziQ (i:=9) (j:=10) (k:=11) (Ni:=some 28) (Nj:=some 5) (Nk:=some 6) #[true,true,true,true,true,true,true,true,true,true,false,false,false,false] #[true,true,true,true,true,true,true,true,true,false,true,false,false,false] #[true,true,true,true,true,true,true,true,true,false,false,true,false,false] rfl rfl rfl rfl rfl rfl kq0 kq2 kq2 kq2 (fun K hK=>?_) (fun K hK=>?_) (fun K hK=>?_)
   ·refine zbj Try.func81 kq0 rfl #[.agg #[.int .i64 (zaN l3 1).f0,.int .i64 (zaN l3 1).f1,.string (zaN l3 1).f2,.slice E1 (zaN l3 1).f3.length d1]] (by rfl) rfl rfl kq54 ?_
    refine(zau.calls k _ _ _ E1 d1 _ nb cb kb eb _ (Kd.C_below HI1.out HB.out) an.out HWB.out).mono ?_
    rintro e al ⟨aj,ak,rfl,Y,Z,hb⟩
    obtain⟨Ba,ya,en_⟩:=Kd.R_slice Y
    subst en_
    obtain⟨Bb,yb,en_⟩:=Kd.R_slice Z
    subst en_
    refine⟨_,rfl,?_⟩
    have HB0:=mk (Kd.R_lower Y (zad HB.out))
    have HB1:=mk (Kd.R_lower Z (zad HB.out))
    have aa:=mk (zai BKg1.out hb)
    have ab:=mk (zai BKg2.out hb)
    have ac:=mk (Kd.R_below HA0.out hb)
    have ae:=mk (Kd.R_below HA1.out hb)
    have af:=mk (zaa HB.out hb)
    clear BKg1 BKg2 HA0 HA1 HB
    have BKg1:=aa
    have BKg2:=ab
    have HA0:=ac
    have HA1:=ae
    have HB:=af
    clear aa ab ac ae af
    clear hb Y Z
    refine hK.out _ _ ⟨bk_ BKg1 3,hc_ HB J,hc_ HB L,hc_ HB U,hc_ HB X,hc_ HB r,hc_ HB D,hc_ HB G,hc_ HB I⟩ (fun hHeld=>?_)
    clear hK K
    refine za2 (a':=?_) ?_ ?_
    rotate_left
    ·show Act.put _ (some 28) _=_
     simp only[Act.put,List.setIfInBounds_toArray,List.set_cons_zero,List.set_cons_succ]
     rfl
    refine tw_ 10 11 5 6 (fun K hK=>?_) (fun K hK=>?_)
    ·refine zbU (v:=.pointer (some ⟨al.heap.size,0,none⟩)) (w1:=al.alloc Z107) (by rfl) rfl ?_ ?_
     ·unfold Z107
      go_simp
      all_goals first|done|rfl|exact⟨rfl,rfl⟩
     have NBg1g5:=mk (Nat.ne_of_lt (za0 BKg1.out))
     have NBg2g5:=mk (Nat.ne_of_lt (za0 BKg2.out))
     have GEg5:=mk (zad HB.out)
     have BKg5:Aside0 ((al.alloc Z107).heap[al.heap.size]?=some (.cells #[.slice none 0 0,.slice none 0 0,.int .i64 0,.int .i64 0] 107 (0,0))):=⟨zbJ al _⟩
     replace BKg1:=mk (zab BKg1.out Z107)
     replace BKg2:=mk (zab BKg2.out Z107)
     replace HA0:=mk (Kd.R_alloc HA0.out Z107)
     replace HA1:=mk (Kd.R_alloc HA1.out Z107)
     replace HB0:=mk (Kd.R_alloc HB0.out Z107)
     replace HB1:=mk (Kd.R_alloc HB1.out Z107)
     replace HB:=mk (zaS HB.out Z107)
     generalize al.alloc Z107=ap at BKg5 BKg1 BKg2 HA0 HA1 HB0 HB1 HB ⊢
     generalize al.heap.size=g5 at BKg5 GEg5 NBg1g5 NBg2g5 ⊢
     refine hK.out _ _ ⟨bk_ BKg1 3,hc_ HB J,hc_ HB L,hc_ HB U,hc_ HB X,hc_ HB r,hc_ HB D,hc_ HB G,hc_ HB I⟩ (fun hHeld=>?_)
     clear hK K
     refine za2 (a':=?_) ?_ ?_
     rotate_left
     ·show Act.put _ (some 5) _=_
      simp only[Act.put,List.setIfInBounds_toArray,List.set_cons_zero,List.set_cons_succ]
      rfl
     refine on_ 11 6 (fun K hK=>?_)
     refine zbU (v:=.pointer (some ⟨ap.heap.size,0,none⟩)) (w1:=ap.alloc Z107) (by rfl) rfl ?_ ?_
     ·unfold Z107
      go_simp
      all_goals first|done|rfl|exact⟨rfl,rfl⟩
     have NBg1g6:=mk (Nat.ne_of_lt (za0 BKg1.out))
     have NBg2g6:=mk (Nat.ne_of_lt (za0 BKg2.out))
     have NBg5g6:=mk (Nat.ne_of_lt (za0 BKg5.out))
     have GEg6:=mk (zad HB.out)
     have BKg6:Aside0 ((ap.alloc Z107).heap[ap.heap.size]?=some (.cells #[.slice none 0 0,.slice none 0 0,.int .i64 0,.int .i64 0] 107 (0,0))):=⟨zbJ ap _⟩
     replace BKg1:=mk (zab BKg1.out Z107)
     replace BKg2:=mk (zab BKg2.out Z107)
     replace BKg5:=mk (zab BKg5.out Z107)
     replace HA0:=mk (Kd.R_alloc HA0.out Z107)
     replace HA1:=mk (Kd.R_alloc HA1.out Z107)
     replace HB0:=mk (Kd.R_alloc HB0.out Z107)
     replace HB1:=mk (Kd.R_alloc HB1.out Z107)
     replace HB:=mk (zaS HB.out Z107)
     generalize ap.alloc Z107=bs at BKg6 BKg1 BKg2 BKg5 HA0 HA1 HB0 HB1 HB ⊢
     generalize ap.heap.size=g6 at BKg6 GEg6 NBg1g6 NBg2g6 NBg5g6 ⊢
     refine hK.out _ _ ⟨bk_ BKg1 3,hc_ HB J,hc_ HB L,hc_ HB U,hc_ HB X,hc_ HB r,hc_ HB D,hc_ HB G,hc_ HB I⟩ (fun hHeld=>?_)
     clear hK K
     refine za2 (a':=?_) ?_ ?_
     rotate_left
     ·show Act.put _ (some 6) _=_
      simp only[Act.put,List.setIfInBounds_toArray,List.set_cons_zero,List.set_cons_succ]
      rfl
     (first|(have NBg6g5:=mk (Ne.symm NBg5g6.out))|(have NBg5g6:=mk (Ne.symm NBg6g5.out)))
     have ne_a:=NBg5g6.out
     have ne_b:=NBg6g5.out
     obtain⟨_,_,_,_,_,_,_,_⟩:=cz4_ BKg5.out
     obtain⟨_,_,_,_,_,_,_,_⟩:=cz4_ BKg6.out
     refine zb4 (i:=12) (N:=none) #[true,true,true,true,true,true,true,true,true,true,true,true,true,false] rfl rfl kq0 kq2 (fun K hK=>?_)
     refine zbO (w1:=?_) (by rfl) rfl ?_ ?_
     rotate_left
     ·go_simp
      rfl
     refine hK.out _ _ ?_
     clear hK K
     refine zb4 (i:=13) (N:=none) #[true,true,true,true,true,true,true,true,true,true,true,true,true,true] rfl rfl kq0 kq2 (fun K hK=>?_)
     refine zbO (w1:=?_) (by rfl) rfl ?_ ?_
     rotate_left
     ·go_simp
      rfl
     refine hK.out _ _ ?_
     clear hK K
     refine zbC kq0 ?_
     try go_wp2
     go_meet
     case rel=>exact⟨g5,g6,Aa,xa,Ab,xb,Ba,ya,Bb,yb,rfl,rfl,GEg5,GEg6,NBg1g5,NBg1g6,NBg2g5,NBg2g6,NBg5g6,end6 GEg5.out GEg6.out NBg1g5.out NBg1g6.out NBg2g5.out NBg2g6.out NBg5g6.out BKg1.out BKg2.out BKg5.out BKg6.out HA0.out HA1.out HB0.out HB1.out HB.out⟩
    ·refine zbU (v:=.pointer (some ⟨al.heap.size,0,none⟩)) (w1:=al.alloc Z107) (by rfl) rfl ?_ ?_
     ·unfold Z107
      go_simp
      all_goals first|done|rfl|exact⟨rfl,rfl⟩
     have NBg1g6:=mk (Nat.ne_of_lt (za0 BKg1.out))
     have NBg2g6:=mk (Nat.ne_of_lt (za0 BKg2.out))
     have GEg6:=mk (zad HB.out)
     have BKg6:Aside0 ((al.alloc Z107).heap[al.heap.size]?=some (.cells #[.slice none 0 0,.slice none 0 0,.int .i64 0,.int .i64 0] 107 (0,0))):=⟨zbJ al _⟩
     replace BKg1:=mk (zab BKg1.out Z107)
     replace BKg2:=mk (zab BKg2.out Z107)
     replace HA0:=mk (Kd.R_alloc HA0.out Z107)
     replace HA1:=mk (Kd.R_alloc HA1.out Z107)
     replace HB0:=mk (Kd.R_alloc HB0.out Z107)
     replace HB1:=mk (Kd.R_alloc HB1.out Z107)
     replace HB:=mk (zaS HB.out Z107)
     generalize al.alloc Z107=aq at BKg6 BKg1 BKg2 HA0 HA1 HB0 HB1 HB ⊢
     generalize al.heap.size=g6 at BKg6 GEg6 NBg1g6 NBg2g6 ⊢
     refine hK.out _ _ ⟨bk_ BKg1 3,hc_ HB J,hc_ HB L,hc_ HB U,hc_ HB X,hc_ HB r,hc_ HB D,hc_ HB G,hc_ HB I⟩ (fun hHeld=>?_)
     clear hK K
     refine za2 (a':=?_) ?_ ?_
     rotate_left
     ·show Act.put _ (some 6) _=_
      simp only[Act.put,List.setIfInBounds_toArray,List.set_cons_zero,List.set_cons_succ]
      rfl
     refine on_ 10 5 (fun K hK=>?_)
     refine zbU (v:=.pointer (some ⟨aq.heap.size,0,none⟩)) (w1:=aq.alloc Z107) (by rfl) rfl ?_ ?_
     ·unfold Z107
      go_simp
      all_goals first|done|rfl|exact⟨rfl,rfl⟩
     have NBg1g5:=mk (Nat.ne_of_lt (za0 BKg1.out))
     have NBg2g5:=mk (Nat.ne_of_lt (za0 BKg2.out))
     have NBg6g5:=mk (Nat.ne_of_lt (za0 BKg6.out))
     have GEg5:=mk (zad HB.out)
     have BKg5:Aside0 ((aq.alloc Z107).heap[aq.heap.size]?=some (.cells #[.slice none 0 0,.slice none 0 0,.int .i64 0,.int .i64 0] 107 (0,0))):=⟨zbJ aq _⟩
     replace BKg1:=mk (zab BKg1.out Z107)
     replace BKg2:=mk (zab BKg2.out Z107)
     replace BKg6:=mk (zab BKg6.out Z107)
     replace HA0:=mk (Kd.R_alloc HA0.out Z107)
     replace HA1:=mk (Kd.R_alloc HA1.out Z107)
     replace HB0:=mk (Kd.R_alloc HB0.out Z107)
     replace HB1:=mk (Kd.R_alloc HB1.out Z107)
     replace HB:=mk (zaS HB.out Z107)
     generalize aq.alloc Z107=bu at BKg5 BKg1 BKg2 BKg6 HA0 HA1 HB0 HB1 HB ⊢
     generalize aq.heap.size=g5 at BKg5 GEg5 NBg1g5 NBg2g5 NBg6g5 ⊢
     refine hK.out _ _ ⟨bk_ BKg1 3,hc_ HB J,hc_ HB L,hc_ HB U,hc_ HB X,hc_ HB r,hc_ HB D,hc_ HB G,hc_ HB I⟩ (fun hHeld=>?_)
     clear hK K
     refine za2 (a':=?_) ?_ ?_
     rotate_left
     ·show Act.put _ (some 5) _=_
      simp only[Act.put,List.setIfInBounds_toArray,List.set_cons_zero,List.set_cons_succ]
      rfl
     (first|(have NBg6g5:=mk (Ne.symm NBg5g6.out))|(have NBg5g6:=mk (Ne.symm NBg6g5.out)))
     have ne_a:=NBg5g6.out
     have ne_b:=NBg6g5.out
     obtain⟨_,_,_,_,_,_,_,_⟩:=cz4_ BKg5.out
     obtain⟨_,_,_,_,_,_,_,_⟩:=cz4_ BKg6.out
     refine zb4 (i:=12) (N:=none) #[true,true,true,true,true,true,true,true,true,true,true,true,true,false] rfl rfl kq0 kq2 (fun K hK=>?_)
     refine zbO (w1:=?_) (by rfl) rfl ?_ ?_
     rotate_left
     ·go_simp
      rfl
     refine hK.out _ _ ?_
     clear hK K
     refine zb4 (i:=13) (N:=none) #[true,true,true,true,true,true,true,true,true,true,true,true,true,true] rfl rfl kq0 kq2 (fun K hK=>?_)
     refine zbO (w1:=?_) (by rfl) rfl ?_ ?_
     rotate_left
     ·go_simp
      rfl
     refine hK.out _ _ ?_
     clear hK K
     refine zbC kq0 ?_
     try go_wp2
     go_meet
     case rel=>exact⟨g5,g6,Aa,xa,Ab,xb,Ba,ya,Bb,yb,rfl,rfl,GEg5,GEg6,NBg1g5,NBg1g6,NBg2g5,NBg2g6,NBg5g6,end6 GEg5.out GEg6.out NBg1g5.out NBg1g6.out NBg2g5.out NBg2g6.out NBg5g6.out BKg1.out BKg2.out BKg5.out BKg6.out HA0.out HA1.out HB0.out HB1.out HB.out⟩
   ·refine zbU (v:=.pointer (some ⟨ai.heap.size,0,none⟩)) (w1:=ai.alloc Z107) (by rfl) rfl ?_ ?_
    ·unfold Z107
     go_simp
     all_goals first|done|rfl|exact⟨rfl,rfl⟩
    have NBg1g5:=mk (Nat.ne_of_lt (za0 BKg1.out))
    have NBg2g5:=mk (Nat.ne_of_lt (za0 BKg2.out))
    have GEg5:=mk (zad HB.out)
    have BKg5:Aside0 ((ai.alloc Z107).heap[ai.heap.size]?=some (.cells #[.slice none 0 0,.slice none 0 0,.int .i64 0,.int .i64 0] 107 (0,0))):=⟨zbJ ai _⟩
    replace BKg1:=mk (zab BKg1.out Z107)
    replace BKg2:=mk (zab BKg2.out Z107)
    replace HA0:=mk (Kd.R_alloc HA0.out Z107)
    replace HA1:=mk (Kd.R_alloc HA1.out Z107)
    replace HB:=mk (zaS HB.out Z107)
    generalize ai.alloc Z107=ar at BKg5 BKg1 BKg2 HA0 HA1 HB ⊢
    generalize ai.heap.size=g5 at BKg5 GEg5 NBg1g5 NBg2g5 ⊢
    refine hK.out _ _ ⟨bk_ BKg1 3,hc_ HB J,hc_ HB L,hc_ HB U,hc_ HB X,hc_ HB r,hc_ HB D,hc_ HB G,hc_ HB I⟩ (fun hHeld=>?_)
    clear hK K
    refine za2 (a':=?_) ?_ ?_
    rotate_left
    ·show Act.put _ (some 5) _=_
     simp only[Act.put,List.setIfInBounds_toArray,List.set_cons_zero,List.set_cons_succ]
     rfl
    refine tw_ 9 11 28 6 (fun K hK=>?_) (fun K hK=>?_)
    ·refine zbj Try.func81 kq0 rfl #[.agg #[.int .i64 (zaN l3 1).f0,.int .i64 (zaN l3 1).f1,.string (zaN l3 1).f2,.slice E1 (zaN l3 1).f3.length d1]] (by rfl) rfl rfl kq54 ?_
     refine(zau.calls k _ _ _ E1 d1 _ nb cb kb eb _ (Kd.C_below HI1.out HB.out) an.out HWB.out).mono ?_
     rintro e au ⟨aj,ak,rfl,Y,Z,hb⟩
     obtain⟨Ba,ya,en_⟩:=Kd.R_slice Y
     subst en_
     obtain⟨Bb,yb,en_⟩:=Kd.R_slice Z
     subst en_
     refine⟨_,rfl,?_⟩
     have HB0:=mk (Kd.R_lower Y (zad HB.out))
     have HB1:=mk (Kd.R_lower Z (zad HB.out))
     have aa:=mk (zai BKg1.out hb)
     have ab:=mk (zai BKg2.out hb)
     have ac:=mk (zai BKg5.out hb)
     have ae:=mk (Kd.R_below HA0.out hb)
     have af:=mk (Kd.R_below HA1.out hb)
     have ag:=mk (zaa HB.out hb)
     clear BKg1 BKg2 BKg5 HA0 HA1 HB
     have BKg1:=aa
     have BKg2:=ab
     have BKg5:=ac
     have HA0:=ae
     have HA1:=af
     have HB:=ag
     clear aa ab ac ae af ag
     clear hb Y Z
     refine hK.out _ _ ⟨bk_ BKg1 3,hc_ HB J,hc_ HB L,hc_ HB U,hc_ HB X,hc_ HB r,hc_ HB D,hc_ HB G,hc_ HB I⟩ (fun hHeld=>?_)
     clear hK K
     refine za2 (a':=?_) ?_ ?_
     rotate_left
     ·show Act.put _ (some 28) _=_
      simp only[Act.put,List.setIfInBounds_toArray,List.set_cons_zero,List.set_cons_succ]
      rfl
     refine on_ 11 6 (fun K hK=>?_)
     refine zbU (v:=.pointer (some ⟨au.heap.size,0,none⟩)) (w1:=au.alloc Z107) (by rfl) rfl ?_ ?_
     ·unfold Z107
      go_simp
      all_goals first|done|rfl|exact⟨rfl,rfl⟩
     have NBg1g6:=mk (Nat.ne_of_lt (za0 BKg1.out))
     have NBg2g6:=mk (Nat.ne_of_lt (za0 BKg2.out))
     have NBg5g6:=mk (Nat.ne_of_lt (za0 BKg5.out))
     have GEg6:=mk (zad HB.out)
     have BKg6:Aside0 ((au.alloc Z107).heap[au.heap.size]?=some (.cells #[.slice none 0 0,.slice none 0 0,.int .i64 0,.int .i64 0] 107 (0,0))):=⟨zbJ au _⟩
     replace BKg1:=mk (zab BKg1.out Z107)
     replace BKg2:=mk (zab BKg2.out Z107)
     replace BKg5:=mk (zab BKg5.out Z107)
     replace HA0:=mk (Kd.R_alloc HA0.out Z107)
     replace HA1:=mk (Kd.R_alloc HA1.out Z107)
     replace HB0:=mk (Kd.R_alloc HB0.out Z107)
     replace HB1:=mk (Kd.R_alloc HB1.out Z107)
     replace HB:=mk (zaS HB.out Z107)
     generalize au.alloc Z107=bv at BKg6 BKg1 BKg2 BKg5 HA0 HA1 HB0 HB1 HB ⊢
     generalize au.heap.size=g6 at BKg6 GEg6 NBg1g6 NBg2g6 NBg5g6 ⊢
     refine hK.out _ _ ⟨bk_ BKg1 3,hc_ HB J,hc_ HB L,hc_ HB U,hc_ HB X,hc_ HB r,hc_ HB D,hc_ HB G,hc_ HB I⟩ (fun hHeld=>?_)
     clear hK K
     refine za2 (a':=?_) ?_ ?_
     rotate_left
     ·show Act.put _ (some 6) _=_
      simp only[Act.put,List.setIfInBounds_toArray,List.set_cons_zero,List.set_cons_succ]
      rfl
     (first|(have NBg6g5:=mk (Ne.symm NBg5g6.out))|(have NBg5g6:=mk (Ne.symm NBg6g5.out)))
     have ne_a:=NBg5g6.out
     have ne_b:=NBg6g5.out
     obtain⟨_,_,_,_,_,_,_,_⟩:=cz4_ BKg5.out
     obtain⟨_,_,_,_,_,_,_,_⟩:=cz4_ BKg6.out
     refine zb4 (i:=12) (N:=none) #[true,true,true,true,true,true,true,true,true,true,true,true,true,false] rfl rfl kq0 kq2 (fun K hK=>?_)
     refine zbO (w1:=?_) (by rfl) rfl ?_ ?_
     rotate_left
     ·go_simp
      rfl
     refine hK.out _ _ ?_
     clear hK K
     refine zb4 (i:=13) (N:=none) #[true,true,true,true,true,true,true,true,true,true,true,true,true,true] rfl rfl kq0 kq2 (fun K hK=>?_)
     refine zbO (w1:=?_) (by rfl) rfl ?_ ?_
     rotate_left
     ·go_simp
      rfl
     refine hK.out _ _ ?_
     clear hK K
     refine zbC kq0 ?_
     try go_wp2
     go_meet
     case rel=>exact⟨g5,g6,Aa,xa,Ab,xb,Ba,ya,Bb,yb,rfl,rfl,GEg5,GEg6,NBg1g5,NBg1g6,NBg2g5,NBg2g6,NBg5g6,end6 GEg5.out GEg6.out NBg1g5.out NBg1g6.out NBg2g5.out NBg2g6.out NBg5g6.out BKg1.out BKg2.out BKg5.out BKg6.out HA0.out HA1.out HB0.out HB1.out HB.out⟩
    ·refine zbU (v:=.pointer (some ⟨ar.heap.size,0,none⟩)) (w1:=ar.alloc Z107) (by rfl) rfl ?_ ?_
     ·unfold Z107
      go_simp
      all_goals first|done|rfl|exact⟨rfl,rfl⟩
     have NBg1g6:=mk (Nat.ne_of_lt (za0 BKg1.out))
     have NBg2g6:=mk (Nat.ne_of_lt (za0 BKg2.out))
     have NBg5g6:=mk (Nat.ne_of_lt (za0 BKg5.out))
     have GEg6:=mk (zad HB.out)
     have BKg6:Aside0 ((ar.alloc Z107).heap[ar.heap.size]?=some (.cells #[.slice none 0 0,.slice none 0 0,.int .i64 0,.int .i64 0] 107 (0,0))):=⟨zbJ ar _⟩
     replace BKg1:=mk (zab BKg1.out Z107)
     replace BKg2:=mk (zab BKg2.out Z107)
     replace BKg5:=mk (zab BKg5.out Z107)
     replace HA0:=mk (Kd.R_alloc HA0.out Z107)
     replace HA1:=mk (Kd.R_alloc HA1.out Z107)
     replace HB:=mk (zaS HB.out Z107)
     generalize ar.alloc Z107=b8 at BKg6 BKg1 BKg2 BKg5 HA0 HA1 HB ⊢
     generalize ar.heap.size=g6 at BKg6 GEg6 NBg1g6 NBg2g6 NBg5g6 ⊢
     refine hK.out _ _ ⟨bk_ BKg1 3,hc_ HB J,hc_ HB L,hc_ HB U,hc_ HB X,hc_ HB r,hc_ HB D,hc_ HB G,hc_ HB I⟩ (fun hHeld=>?_)
     clear hK K
     refine za2 (a':=?_) ?_ ?_
     rotate_left
     ·show Act.put _ (some 6) _=_
      simp only[Act.put,List.setIfInBounds_toArray,List.set_cons_zero,List.set_cons_succ]
      rfl
     refine on_ 9 28 (fun K hK=>?_)
     refine zbj Try.func81 kq0 rfl #[.agg #[.int .i64 (zaN l3 1).f0,.int .i64 (zaN l3 1).f1,.string (zaN l3 1).f2,.slice E1 (zaN l3 1).f3.length d1]] (by rfl) rfl rfl kq54 ?_
     refine(zau.calls k _ _ _ E1 d1 _ nb cb kb eb _ (Kd.C_below HI1.out HB.out) an.out HWB.out).mono ?_
     rintro e b9 ⟨aj,ak,rfl,Y,Z,hb⟩
     obtain⟨Ba,ya,en_⟩:=Kd.R_slice Y
     subst en_
     obtain⟨Bb,yb,en_⟩:=Kd.R_slice Z
     subst en_
     refine⟨_,rfl,?_⟩
     have HB0:=mk (Kd.R_lower Y (zad HB.out))
     have HB1:=mk (Kd.R_lower Z (zad HB.out))
     have aa:=mk (zai BKg1.out hb)
     have ab:=mk (zai BKg2.out hb)
     have ac:=mk (zai BKg5.out hb)
     have ae:=mk (zai BKg6.out hb)
     have af:=mk (Kd.R_below HA0.out hb)
     have ag:=mk (Kd.R_below HA1.out hb)
     have ah:=mk (zaa HB.out hb)
     clear BKg1 BKg2 BKg5 BKg6 HA0 HA1 HB
     have BKg1:=aa
     have BKg2:=ab
     have BKg5:=ac
     have BKg6:=ae
     have HA0:=af
     have HA1:=ag
     have HB:=ah
     clear aa ab ac ae af ag ah
     clear hb Y Z
     refine hK.out _ _ ⟨bk_ BKg1 3,hc_ HB J,hc_ HB L,hc_ HB U,hc_ HB X,hc_ HB r,hc_ HB D,hc_ HB G,hc_ HB I⟩ (fun hHeld=>?_)
     clear hK K
     refine za2 (a':=?_) ?_ ?_
     rotate_left
     ·show Act.put _ (some 28) _=_
      simp only[Act.put,List.setIfInBounds_toArray,List.set_cons_zero,List.set_cons_succ]
      rfl
     (first|(have NBg6g5:=mk (Ne.symm NBg5g6.out))|(have NBg5g6:=mk (Ne.symm NBg6g5.out)))
     have ne_a:=NBg5g6.out
     have ne_b:=NBg6g5.out
     obtain⟨_,_,_,_,_,_,_,_⟩:=cz4_ BKg5.out
     obtain⟨_,_,_,_,_,_,_,_⟩:=cz4_ BKg6.out
     refine zb4 (i:=12) (N:=none) #[true,true,true,true,true,true,true,true,true,true,true,true,true,false] rfl rfl kq0 kq2 (fun K hK=>?_)
     refine zbO (w1:=?_) (by rfl) rfl ?_ ?_
     rotate_left
     ·go_simp
      rfl
     refine hK.out _ _ ?_
     clear hK K
     refine zb4 (i:=13) (N:=none) #[true,true,true,true,true,true,true,true,true,true,true,true,true,true] rfl rfl kq0 kq2 (fun K hK=>?_)
     refine zbO (w1:=?_) (by rfl) rfl ?_ ?_
     rotate_left
     ·go_simp
      rfl
     refine hK.out _ _ ?_
     clear hK K
     refine zbC kq0 ?_
     try go_wp2
     go_meet
     case rel=>exact⟨g5,g6,Aa,xa,Ab,xb,Ba,ya,Bb,yb,rfl,rfl,GEg5,GEg6,NBg1g5,NBg1g6,NBg2g5,NBg2g6,NBg5g6,end6 GEg5.out GEg6.out NBg1g5.out NBg1g6.out NBg2g5.out NBg2g6.out NBg5g6.out BKg1.out BKg2.out BKg5.out BKg6.out HA0.out HA1.out HB0.out HB1.out HB.out⟩
   ·refine zbU (v:=.pointer (some ⟨ai.heap.size,0,none⟩)) (w1:=ai.alloc Z107) (by rfl) rfl ?_ ?_
    ·unfold Z107
     go_simp
     all_goals first|done|rfl|exact⟨rfl,rfl⟩
    have NBg1g6:=mk (Nat.ne_of_lt (za0 BKg1.out))
    have NBg2g6:=mk (Nat.ne_of_lt (za0 BKg2.out))
    have GEg6:=mk (zad HB.out)
    have BKg6:Aside0 ((ai.alloc Z107).heap[ai.heap.size]?=some (.cells #[.slice none 0 0,.slice none 0 0,.int .i64 0,.int .i64 0] 107 (0,0))):=⟨zbJ ai _⟩
    replace BKg1:=mk (zab BKg1.out Z107)
    replace BKg2:=mk (zab BKg2.out Z107)
    replace HA0:=mk (Kd.R_alloc HA0.out Z107)
    replace HA1:=mk (Kd.R_alloc HA1.out Z107)
    replace HB:=mk (zaS HB.out Z107)
    generalize ai.alloc Z107=ao at BKg6 BKg1 BKg2 HA0 HA1 HB ⊢
    generalize ai.heap.size=g6 at BKg6 GEg6 NBg1g6 NBg2g6 ⊢
    refine hK.out _ _ ⟨bk_ BKg1 3,hc_ HB J,hc_ HB L,hc_ HB U,hc_ HB X,hc_ HB r,hc_ HB D,hc_ HB G,hc_ HB I⟩ (fun hHeld=>?_)
    clear hK K
    refine za2 (a':=?_) ?_ ?_
    rotate_left
    ·show Act.put _ (some 6) _=_
     simp only[Act.put,List.setIfInBounds_toArray,List.set_cons_zero,List.set_cons_succ]
     rfl
    refine tw_ 9 10 28 5 (fun K hK=>?_) (fun K hK=>?_)
    ·refine zbj Try.func81 kq0 rfl #[.agg #[.int .i64 (zaN l3 1).f0,.int .i64 (zaN l3 1).f1,.string (zaN l3 1).f2,.slice E1 (zaN l3 1).f3.length d1]] (by rfl) rfl rfl kq54 ?_
     refine(zau.calls k _ _ _ E1 d1 _ nb cb kb eb _ (Kd.C_below HI1.out HB.out) an.out HWB.out).mono ?_
     rintro e am ⟨aj,ak,rfl,Y,Z,hb⟩
     obtain⟨Ba,ya,en_⟩:=Kd.R_slice Y
     subst en_
     obtain⟨Bb,yb,en_⟩:=Kd.R_slice Z
     subst en_
     refine⟨_,rfl,?_⟩
     have HB0:=mk (Kd.R_lower Y (zad HB.out))
     have HB1:=mk (Kd.R_lower Z (zad HB.out))
     have aa:=mk (zai BKg1.out hb)
     have ab:=mk (zai BKg2.out hb)
     have ac:=mk (zai BKg6.out hb)
     have ae:=mk (Kd.R_below HA0.out hb)
     have af:=mk (Kd.R_below HA1.out hb)
     have ag:=mk (zaa HB.out hb)
     clear BKg1 BKg2 BKg6 HA0 HA1 HB
     have BKg1:=aa
     have BKg2:=ab
     have BKg6:=ac
     have HA0:=ae
     have HA1:=af
     have HB:=ag
     clear aa ab ac ae af ag
     clear hb Y Z
     refine hK.out _ _ ⟨bk_ BKg1 3,hc_ HB J,hc_ HB L,hc_ HB U,hc_ HB X,hc_ HB r,hc_ HB D,hc_ HB G,hc_ HB I⟩ (fun hHeld=>?_)
     clear hK K
     refine za2 (a':=?_) ?_ ?_
     rotate_left
     ·show Act.put _ (some 28) _=_
      simp only[Act.put,List.setIfInBounds_toArray,List.set_cons_zero,List.set_cons_succ]
      rfl
     refine on_ 10 5 (fun K hK=>?_)
     refine zbU (v:=.pointer (some ⟨am.heap.size,0,none⟩)) (w1:=am.alloc Z107) (by rfl) rfl ?_ ?_
     ·unfold Z107
      go_simp
      all_goals first|done|rfl|exact⟨rfl,rfl⟩
     have NBg1g5:=mk (Nat.ne_of_lt (za0 BKg1.out))
     have NBg2g5:=mk (Nat.ne_of_lt (za0 BKg2.out))
     have NBg6g5:=mk (Nat.ne_of_lt (za0 BKg6.out))
     have GEg5:=mk (zad HB.out)
     have BKg5:Aside0 ((am.alloc Z107).heap[am.heap.size]?=some (.cells #[.slice none 0 0,.slice none 0 0,.int .i64 0,.int .i64 0] 107 (0,0))):=⟨zbJ am _⟩
     replace BKg1:=mk (zab BKg1.out Z107)
     replace BKg2:=mk (zab BKg2.out Z107)
     replace BKg6:=mk (zab BKg6.out Z107)
     replace HA0:=mk (Kd.R_alloc HA0.out Z107)
     replace HA1:=mk (Kd.R_alloc HA1.out Z107)
     replace HB0:=mk (Kd.R_alloc HB0.out Z107)
     replace HB1:=mk (Kd.R_alloc HB1.out Z107)
     replace HB:=mk (zaS HB.out Z107)
     generalize am.alloc Z107=w64 at BKg5 BKg1 BKg2 BKg6 HA0 HA1 HB0 HB1 HB ⊢
     generalize am.heap.size=g5 at BKg5 GEg5 NBg1g5 NBg2g5 NBg6g5 ⊢
     refine hK.out _ _ ⟨bk_ BKg1 3,hc_ HB J,hc_ HB L,hc_ HB U,hc_ HB X,hc_ HB r,hc_ HB D,hc_ HB G,hc_ HB I⟩ (fun hHeld=>?_)
     clear hK K
     refine za2 (a':=?_) ?_ ?_
     rotate_left
     ·show Act.put _ (some 5) _=_
      simp only[Act.put,List.setIfInBounds_toArray,List.set_cons_zero,List.set_cons_succ]
      rfl
     (first|(have NBg6g5:=mk (Ne.symm NBg5g6.out))|(have NBg5g6:=mk (Ne.symm NBg6g5.out)))
     have ne_a:=NBg5g6.out
     have ne_b:=NBg6g5.out
     obtain⟨_,_,_,_,_,_,_,_⟩:=cz4_ BKg5.out
     obtain⟨_,_,_,_,_,_,_,_⟩:=cz4_ BKg6.out
     refine zb4 (i:=12) (N:=none) #[true,true,true,true,true,true,true,true,true,true,true,true,true,false] rfl rfl kq0 kq2 (fun K hK=>?_)
     refine zbO (w1:=?_) (by rfl) rfl ?_ ?_
     rotate_left
     ·go_simp
      rfl
     refine hK.out _ _ ?_
     clear hK K
     refine zb4 (i:=13) (N:=none) #[true,true,true,true,true,true,true,true,true,true,true,true,true,true] rfl rfl kq0 kq2 (fun K hK=>?_)
     refine zbO (w1:=?_) (by rfl) rfl ?_ ?_
     rotate_left
     ·go_simp
      rfl
     refine hK.out _ _ ?_
     clear hK K
     refine zbC kq0 ?_
     try go_wp2
     go_meet
     case rel=>exact⟨g5,g6,Aa,xa,Ab,xb,Ba,ya,Bb,yb,rfl,rfl,GEg5,GEg6,NBg1g5,NBg1g6,NBg2g5,NBg2g6,NBg5g6,end6 GEg5.out GEg6.out NBg1g5.out NBg1g6.out NBg2g5.out NBg2g6.out NBg5g6.out BKg1.out BKg2.out BKg5.out BKg6.out HA0.out HA1.out HB0.out HB1.out HB.out⟩
    ·refine zbU (v:=.pointer (some ⟨ao.heap.size,0,none⟩)) (w1:=ao.alloc Z107) (by rfl) rfl ?_ ?_
     ·unfold Z107
      go_simp
      all_goals first|done|rfl|exact⟨rfl,rfl⟩
     have NBg1g5:=mk (Nat.ne_of_lt (za0 BKg1.out))
     have NBg2g5:=mk (Nat.ne_of_lt (za0 BKg2.out))
     have NBg6g5:=mk (Nat.ne_of_lt (za0 BKg6.out))
     have GEg5:=mk (zad HB.out)
     have BKg5:Aside0 ((ao.alloc Z107).heap[ao.heap.size]?=some (.cells #[.slice none 0 0,.slice none 0 0,.int .i64 0,.int .i64 0] 107 (0,0))):=⟨zbJ ao _⟩
     replace BKg1:=mk (zab BKg1.out Z107)
     replace BKg2:=mk (zab BKg2.out Z107)
     replace BKg6:=mk (zab BKg6.out Z107)
     replace HA0:=mk (Kd.R_alloc HA0.out Z107)
     replace HA1:=mk (Kd.R_alloc HA1.out Z107)
     replace HB:=mk (zaS HB.out Z107)
     generalize ao.alloc Z107=bw at BKg5 BKg1 BKg2 BKg6 HA0 HA1 HB ⊢
     generalize ao.heap.size=g5 at BKg5 GEg5 NBg1g5 NBg2g5 NBg6g5 ⊢
     refine hK.out _ _ ⟨bk_ BKg1 3,hc_ HB J,hc_ HB L,hc_ HB U,hc_ HB X,hc_ HB r,hc_ HB D,hc_ HB G,hc_ HB I⟩ (fun hHeld=>?_)
     clear hK K
     refine za2 (a':=?_) ?_ ?_
     rotate_left
     ·show Act.put _ (some 5) _=_
      simp only[Act.put,List.setIfInBounds_toArray,List.set_cons_zero,List.set_cons_succ]
      rfl
     refine on_ 9 28 (fun K hK=>?_)
     refine zbj Try.func81 kq0 rfl #[.agg #[.int .i64 (zaN l3 1).f0,.int .i64 (zaN l3 1).f1,.string (zaN l3 1).f2,.slice E1 (zaN l3 1).f3.length d1]] (by rfl) rfl rfl kq54 ?_
     refine(zau.calls k _ _ _ E1 d1 _ nb cb kb eb _ (Kd.C_below HI1.out HB.out) an.out HWB.out).mono ?_
     rintro e bx ⟨aj,ak,rfl,Y,Z,hb⟩
     obtain⟨Ba,ya,en_⟩:=Kd.R_slice Y
     subst en_
     obtain⟨Bb,yb,en_⟩:=Kd.R_slice Z
     subst en_
     refine⟨_,rfl,?_⟩
     have HB0:=mk (Kd.R_lower Y (zad HB.out))
     have HB1:=mk (Kd.R_lower Z (zad HB.out))
     have aa:=mk (zai BKg1.out hb)
     have ab:=mk (zai BKg2.out hb)
     have ac:=mk (zai BKg5.out hb)
     have ae:=mk (zai BKg6.out hb)
     have af:=mk (Kd.R_below HA0.out hb)
     have ag:=mk (Kd.R_below HA1.out hb)
     have ah:=mk (zaa HB.out hb)
     clear BKg1 BKg2 BKg5 BKg6 HA0 HA1 HB
     have BKg1:=aa
     have BKg2:=ab
     have BKg5:=ac
     have BKg6:=ae
     have HA0:=af
     have HA1:=ag
     have HB:=ah
     clear aa ab ac ae af ag ah
     clear hb Y Z
     refine hK.out _ _ ⟨bk_ BKg1 3,hc_ HB J,hc_ HB L,hc_ HB U,hc_ HB X,hc_ HB r,hc_ HB D,hc_ HB G,hc_ HB I⟩ (fun hHeld=>?_)
     clear hK K
     refine za2 (a':=?_) ?_ ?_
     rotate_left
     ·show Act.put _ (some 28) _=_
      simp only[Act.put,List.setIfInBounds_toArray,List.set_cons_zero,List.set_cons_succ]
      rfl
     (first|(have NBg6g5:=mk (Ne.symm NBg5g6.out))|(have NBg5g6:=mk (Ne.symm NBg6g5.out)))
     have ne_a:=NBg5g6.out
     have ne_b:=NBg6g5.out
     obtain⟨_,_,_,_,_,_,_,_⟩:=cz4_ BKg5.out
     obtain⟨_,_,_,_,_,_,_,_⟩:=cz4_ BKg6.out
     refine zb4 (i:=12) (N:=none) #[true,true,true,true,true,true,true,true,true,true,true,true,true,false] rfl rfl kq0 kq2 (fun K hK=>?_)
     refine zbO (w1:=?_) (by rfl) rfl ?_ ?_
     rotate_left
     ·go_simp
      rfl
     refine hK.out _ _ ?_
     clear hK K
     refine zb4 (i:=13) (N:=none) #[true,true,true,true,true,true,true,true,true,true,true,true,true,true] rfl rfl kq0 kq2 (fun K hK=>?_)
     refine zbO (w1:=?_) (by rfl) rfl ?_ ?_
     rotate_left
     ·go_simp
      rfl
     refine hK.out _ _ ?_
     clear hK K
     refine zbC kq0 ?_
     try go_wp2
     go_meet
     case rel=>exact⟨g5,g6,Aa,xa,Ab,xb,Ba,ya,Bb,yb,rfl,rfl,GEg5,GEg6,NBg1g5,NBg1g6,NBg2g5,NBg2g6,NBg5g6,end6 GEg5.out GEg6.out NBg1g5.out NBg1g6.out NBg2g5.out NBg2g6.out NBg5g6.out BKg1.out BKg2.out BKg5.out BKg6.out HA0.out HA1.out HB0.out HB1.out HB.out⟩
  ·refine zbU (v:=.pointer (some ⟨w9.heap.size,0,none⟩)) (w1:=w9.alloc Z107) (by rfl) rfl ?_ ?_
   ·unfold Z107
    go_simp
    all_goals first|done|rfl|exact⟨rfl,rfl⟩
   have NBg1g5:=mk (Nat.ne_of_lt (za0 BKg1.out))
   have NBg2g5:=mk (Nat.ne_of_lt (za0 BKg2.out))
   have GEg5:=mk (zad HB.out)
   have BKg5:Aside0 ((w9.alloc Z107).heap[w9.heap.size]?=some (.cells #[.slice none 0 0,.slice none 0 0,.int .i64 0,.int .i64 0] 107 (0,0))):=⟨zbJ w9 _⟩
   replace BKg1:=mk (zab BKg1.out Z107)
   replace BKg2:=mk (zab BKg2.out Z107)
   replace HB:=mk (zaS HB.out Z107)
   generalize w9.alloc Z107=av at BKg5 BKg1 BKg2 HB ⊢
   generalize w9.heap.size=g5 at BKg5 GEg5 NBg1g5 NBg2g5 ⊢
   refine hK.out _ _ ⟨bk_ BKg1 3,hc_ HB J,hc_ HB L,hc_ HB U,hc_ HB X,hc_ HB r,hc_ HB D,hc_ HB G,hc_ HB I⟩ (fun hHeld=>?_)
   clear hK K
   refine za2 (a':=?_) ?_ ?_
   rotate_left
   ·show Act.put _ (some 5) _=_
    simp only[Act.put,List.setIfInBounds_toArray,List.set_cons_zero,List.set_cons_succ]
    rfl
   refine tw_ 4 11 23 6 (fun K hK=>?_) (fun K hK=>?_)
   ·refine zbj Try.func81 kq0 rfl #[.agg #[.int .i64 (zaN l3 0).f0,.int .i64 (zaN l3 0).f1,.string (zaN l3 0).f2,.slice E0 (zaN l3 0).f3.length d0]] (by rfl) rfl rfl kq54 ?_
    refine(zau.calls k _ _ _ E0 d0 _ na ca ka ea _ (Kd.C_below HI0.out HB.out) aC.out HWA.out).mono ?_
    rintro e aw ⟨aj,ak,rfl,Y,Z,hb⟩
    obtain⟨Aa,xa,en_⟩:=Kd.R_slice Y
    subst en_
    obtain⟨Ab,xb,en_⟩:=Kd.R_slice Z
    subst en_
    refine⟨_,rfl,?_⟩
    have HA0:=mk (Kd.R_lower Y (zad HB.out))
    have HA1:=mk (Kd.R_lower Z (zad HB.out))
    have aa:=mk (zai BKg1.out hb)
    have ab:=mk (zai BKg2.out hb)
    have ac:=mk (zai BKg5.out hb)
    have ae:=mk (zaa HB.out hb)
    clear BKg1 BKg2 BKg5 HB
    have BKg1:=aa
    have BKg2:=ab
    have BKg5:=ac
    have HB:=ae
    clear aa ab ac ae
    clear hb Y Z
    refine hK.out _ _ ⟨bk_ BKg1 3,hc_ HB J,hc_ HB L,hc_ HB U,hc_ HB X,hc_ HB r,hc_ HB D,hc_ HB G,hc_ HB I⟩ (fun hHeld=>?_)
    clear hK K
    refine za2 (a':=?_) ?_ ?_
    rotate_left
    ·show Act.put _ (some 23) _=_
     simp only[Act.put,List.setIfInBounds_toArray,List.set_cons_zero,List.set_cons_succ]
     rfl
    refine tw_ 9 11 28 6 (fun K hK=>?_) (fun K hK=>?_)
    ·refine zbj Try.func81 kq0 rfl #[.agg #[.int .i64 (zaN l3 1).f0,.int .i64 (zaN l3 1).f1,.string (zaN l3 1).f2,.slice E1 (zaN l3 1).f3.length d1]] (by rfl) rfl rfl kq54 ?_
     refine(zau.calls k _ _ _ E1 d1 _ nb cb kb eb _ (Kd.C_below HI1.out HB.out) an.out HWB.out).mono ?_
     rintro e ax ⟨aj,ak,rfl,Y,Z,hb⟩
     obtain⟨Ba,ya,en_⟩:=Kd.R_slice Y
     subst en_
     obtain⟨Bb,yb,en_⟩:=Kd.R_slice Z
     subst en_
     refine⟨_,rfl,?_⟩
     have HB0:=mk (Kd.R_lower Y (zad HB.out))
     have HB1:=mk (Kd.R_lower Z (zad HB.out))
     have aa:=mk (zai BKg1.out hb)
     have ab:=mk (zai BKg2.out hb)
     have ac:=mk (zai BKg5.out hb)
     have ae:=mk (Kd.R_below HA0.out hb)
     have af:=mk (Kd.R_below HA1.out hb)
     have ag:=mk (zaa HB.out hb)
     clear BKg1 BKg2 BKg5 HA0 HA1 HB
     have BKg1:=aa
     have BKg2:=ab
     have BKg5:=ac
     have HA0:=ae
     have HA1:=af
     have HB:=ag
     clear aa ab ac ae af ag
     clear hb Y Z
     refine hK.out _ _ ⟨bk_ BKg1 3,hc_ HB J,hc_ HB L,hc_ HB U,hc_ HB X,hc_ HB r,hc_ HB D,hc_ HB G,hc_ HB I⟩ (fun hHeld=>?_)
     clear hK K
     refine za2 (a':=?_) ?_ ?_
     rotate_left
     ·show Act.put _ (some 28) _=_
      simp only[Act.put,List.setIfInBounds_toArray,List.set_cons_zero,List.set_cons_succ]
      rfl
     refine on_ 11 6 (fun K hK=>?_)
     refine zbU (v:=.pointer (some ⟨ax.heap.size,0,none⟩)) (w1:=ax.alloc Z107) (by rfl) rfl ?_ ?_
     ·unfold Z107
      go_simp
      all_goals first|done|rfl|exact⟨rfl,rfl⟩
     have NBg1g6:=mk (Nat.ne_of_lt (za0 BKg1.out))
     have NBg2g6:=mk (Nat.ne_of_lt (za0 BKg2.out))
     have NBg5g6:=mk (Nat.ne_of_lt (za0 BKg5.out))
     have GEg6:=mk (zad HB.out)
     have BKg6:Aside0 ((ax.alloc Z107).heap[ax.heap.size]?=some (.cells #[.slice none 0 0,.slice none 0 0,.int .i64 0,.int .i64 0] 107 (0,0))):=⟨zbJ ax _⟩
     replace BKg1:=mk (zab BKg1.out Z107)
     replace BKg2:=mk (zab BKg2.out Z107)
     replace BKg5:=mk (zab BKg5.out Z107)
     replace HA0:=mk (Kd.R_alloc HA0.out Z107)
     replace HA1:=mk (Kd.R_alloc HA1.out Z107)
     replace HB0:=mk (Kd.R_alloc HB0.out Z107)
     replace HB1:=mk (Kd.R_alloc HB1.out Z107)
     replace HB:=mk (zaS HB.out Z107)
     generalize ax.alloc Z107=bz at BKg6 BKg1 BKg2 BKg5 HA0 HA1 HB0 HB1 HB ⊢
     generalize ax.heap.size=g6 at BKg6 GEg6 NBg1g6 NBg2g6 NBg5g6 ⊢
     refine hK.out _ _ ⟨bk_ BKg1 3,hc_ HB J,hc_ HB L,hc_ HB U,hc_ HB X,hc_ HB r,hc_ HB D,hc_ HB G,hc_ HB I⟩ (fun hHeld=>?_)
     clear hK K
     refine za2 (a':=?_) ?_ ?_
     rotate_left
     ·show Act.put _ (some 6) _=_
      simp only[Act.put,List.setIfInBounds_toArray,List.set_cons_zero,List.set_cons_succ]
      rfl
     (first|(have NBg6g5:=mk (Ne.symm NBg5g6.out))|(have NBg5g6:=mk (Ne.symm NBg6g5.out)))
     have ne_a:=NBg5g6.out
     have ne_b:=NBg6g5.out
     obtain⟨_,_,_,_,_,_,_,_⟩:=cz4_ BKg5.out
     obtain⟨_,_,_,_,_,_,_,_⟩:=cz4_ BKg6.out
     refine zb4 (i:=12) (N:=none) #[true,true,true,true,true,true,true,true,true,true,true,true,true,false] rfl rfl kq0 kq2 (fun K hK=>?_)
     refine zbO (w1:=?_) (by rfl) rfl ?_ ?_
     rotate_left
     ·go_simp
      rfl
     refine hK.out _ _ ?_
     clear hK K
     refine zb4 (i:=13) (N:=none) #[true,true,true,true,true,true,true,true,true,true,true,true,true,true] rfl rfl kq0 kq2 (fun K hK=>?_)
     refine zbO (w1:=?_) (by rfl) rfl ?_ ?_
     rotate_left
     ·go_simp
      rfl
     refine hK.out _ _ ?_
     clear hK K
     refine zbC kq0 ?_
     try go_wp2
     go_meet
     case rel=>exact⟨g5,g6,Aa,xa,Ab,xb,Ba,ya,Bb,yb,rfl,rfl,GEg5,GEg6,NBg1g5,NBg1g6,NBg2g5,NBg2g6,NBg5g6,end6 GEg5.out GEg6.out NBg1g5.out NBg1g6.out NBg2g5.out NBg2g6.out NBg5g6.out BKg1.out BKg2.out BKg5.out BKg6.out HA0.out HA1.out HB0.out HB1.out HB.out⟩
    ·refine zbU (v:=.pointer (some ⟨aw.heap.size,0,none⟩)) (w1:=aw.alloc Z107) (by rfl) rfl ?_ ?_
     ·unfold Z107
      go_simp
      all_goals first|done|rfl|exact⟨rfl,rfl⟩
     have NBg1g6:=mk (Nat.ne_of_lt (za0 BKg1.out))
     have NBg2g6:=mk (Nat.ne_of_lt (za0 BKg2.out))
     have NBg5g6:=mk (Nat.ne_of_lt (za0 BKg5.out))
     have GEg6:=mk (zad HB.out)
     have BKg6:Aside0 ((aw.alloc Z107).heap[aw.heap.size]?=some (.cells #[.slice none 0 0,.slice none 0 0,.int .i64 0,.int .i64 0] 107 (0,0))):=⟨zbJ aw _⟩
     replace BKg1:=mk (zab BKg1.out Z107)
     replace BKg2:=mk (zab BKg2.out Z107)
     replace BKg5:=mk (zab BKg5.out Z107)
     replace HA0:=mk (Kd.R_alloc HA0.out Z107)
     replace HA1:=mk (Kd.R_alloc HA1.out Z107)
     replace HB:=mk (zaS HB.out Z107)
     generalize aw.alloc Z107=bA at BKg6 BKg1 BKg2 BKg5 HA0 HA1 HB ⊢
     generalize aw.heap.size=g6 at BKg6 GEg6 NBg1g6 NBg2g6 NBg5g6 ⊢
     refine hK.out _ _ ⟨bk_ BKg1 3,hc_ HB J,hc_ HB L,hc_ HB U,hc_ HB X,hc_ HB r,hc_ HB D,hc_ HB G,hc_ HB I⟩ (fun hHeld=>?_)
     clear hK K
     refine za2 (a':=?_) ?_ ?_
     rotate_left
     ·show Act.put _ (some 6) _=_
      simp only[Act.put,List.setIfInBounds_toArray,List.set_cons_zero,List.set_cons_succ]
      rfl
     refine on_ 9 28 (fun K hK=>?_)
     refine zbj Try.func81 kq0 rfl #[.agg #[.int .i64 (zaN l3 1).f0,.int .i64 (zaN l3 1).f1,.string (zaN l3 1).f2,.slice E1 (zaN l3 1).f3.length d1]] (by rfl) rfl rfl kq54 ?_
     refine(zau.calls k _ _ _ E1 d1 _ nb cb kb eb _ (Kd.C_below HI1.out HB.out) an.out HWB.out).mono ?_
     rintro e bB ⟨aj,ak,rfl,Y,Z,hb⟩
     obtain⟨Ba,ya,en_⟩:=Kd.R_slice Y
     subst en_
     obtain⟨Bb,yb,en_⟩:=Kd.R_slice Z
     subst en_
     refine⟨_,rfl,?_⟩
     have HB0:=mk (Kd.R_lower Y (zad HB.out))
     have HB1:=mk (Kd.R_lower Z (zad HB.out))
     have aa:=mk (zai BKg1.out hb)
     have ab:=mk (zai BKg2.out hb)
     have ac:=mk (zai BKg5.out hb)
     have ae:=mk (zai BKg6.out hb)
     have af:=mk (Kd.R_below HA0.out hb)
     have ag:=mk (Kd.R_below HA1.out hb)
     have ah:=mk (zaa HB.out hb)
     clear BKg1 BKg2 BKg5 BKg6 HA0 HA1 HB
     have BKg1:=aa
     have BKg2:=ab
     have BKg5:=ac
     have BKg6:=ae
     have HA0:=af
     have HA1:=ag
     have HB:=ah
     clear aa ab ac ae af ag ah
     clear hb Y Z
     refine hK.out _ _ ⟨bk_ BKg1 3,hc_ HB J,hc_ HB L,hc_ HB U,hc_ HB X,hc_ HB r,hc_ HB D,hc_ HB G,hc_ HB I⟩ (fun hHeld=>?_)
     clear hK K
     refine za2 (a':=?_) ?_ ?_
     rotate_left
     ·show Act.put _ (some 28) _=_
      simp only[Act.put,List.setIfInBounds_toArray,List.set_cons_zero,List.set_cons_succ]
      rfl
     (first|(have NBg6g5:=mk (Ne.symm NBg5g6.out))|(have NBg5g6:=mk (Ne.symm NBg6g5.out)))
     have ne_a:=NBg5g6.out
     have ne_b:=NBg6g5.out
     obtain⟨_,_,_,_,_,_,_,_⟩:=cz4_ BKg5.out
     obtain⟨_,_,_,_,_,_,_,_⟩:=cz4_ BKg6.out
     refine zb4 (i:=12) (N:=none) #[true,true,true,true,true,true,true,true,true,true,true,true,true,false] rfl rfl kq0 kq2 (fun K hK=>?_)
     refine zbO (w1:=?_) (by rfl) rfl ?_ ?_
     rotate_left
     ·go_simp
      rfl
     refine hK.out _ _ ?_
     clear hK K
     refine zb4 (i:=13) (N:=none) #[true,true,true,true,true,true,true,true,true,true,true,true,true,true] rfl rfl kq0 kq2 (fun K hK=>?_)
     refine zbO (w1:=?_) (by rfl) rfl ?_ ?_
     rotate_left
     ·go_simp
      rfl
     refine hK.out _ _ ?_
     clear hK K
     refine zbC kq0 ?_
     try go_wp2
     go_meet
     case rel=>exact⟨g5,g6,Aa,xa,Ab,xb,Ba,ya,Bb,yb,rfl,rfl,GEg5,GEg6,NBg1g5,NBg1g6,NBg2g5,NBg2g6,NBg5g6,end6 GEg5.out GEg6.out NBg1g5.out NBg1g6.out NBg2g5.out NBg2g6.out NBg5g6.out BKg1.out BKg2.out BKg5.out BKg6.out HA0.out HA1.out HB0.out HB1.out HB.out⟩
   ·refine zbU (v:=.pointer (some ⟨av.heap.size,0,none⟩)) (w1:=av.alloc Z107) (by rfl) rfl ?_ ?_
    ·unfold Z107
     go_simp
     all_goals first|done|rfl|exact⟨rfl,rfl⟩
    have NBg1g6:=mk (Nat.ne_of_lt (za0 BKg1.out))
    have NBg2g6:=mk (Nat.ne_of_lt (za0 BKg2.out))
    have NBg5g6:=mk (Nat.ne_of_lt (za0 BKg5.out))
    have GEg6:=mk (zad HB.out)
    have BKg6:Aside0 ((av.alloc Z107).heap[av.heap.size]?=some (.cells #[.slice none 0 0,.slice none 0 0,.int .i64 0,.int .i64 0] 107 (0,0))):=⟨zbJ av _⟩
    replace BKg1:=mk (zab BKg1.out Z107)
    replace BKg2:=mk (zab BKg2.out Z107)
    replace BKg5:=mk (zab BKg5.out Z107)
    replace HB:=mk (zaS HB.out Z107)
    generalize av.alloc Z107=bC at BKg6 BKg1 BKg2 BKg5 HB ⊢
    generalize av.heap.size=g6 at BKg6 GEg6 NBg1g6 NBg2g6 NBg5g6 ⊢
    refine hK.out _ _ ⟨bk_ BKg1 3,hc_ HB J,hc_ HB L,hc_ HB U,hc_ HB X,hc_ HB r,hc_ HB D,hc_ HB G,hc_ HB I⟩ (fun hHeld=>?_)
    clear hK K
    refine za2 (a':=?_) ?_ ?_
    rotate_left
    ·show Act.put _ (some 6) _=_
     simp only[Act.put,List.setIfInBounds_toArray,List.set_cons_zero,List.set_cons_succ]
     rfl
    refine on_ 4 23 (fun K hK=>?_)
    refine zbj Try.func81 kq0 rfl #[.agg #[.int .i64 (zaN l3 0).f0,.int .i64 (zaN l3 0).f1,.string (zaN l3 0).f2,.slice E0 (zaN l3 0).f3.length d0]] (by rfl) rfl rfl kq54 ?_
    refine(zau.calls k _ _ _ E0 d0 _ na ca ka ea _ (Kd.C_below HI0.out HB.out) aC.out HWA.out).mono ?_
    rintro e bD ⟨aj,ak,rfl,Y,Z,hb⟩
    obtain⟨Aa,xa,en_⟩:=Kd.R_slice Y
    subst en_
    obtain⟨Ab,xb,en_⟩:=Kd.R_slice Z
    subst en_
    refine⟨_,rfl,?_⟩
    have HA0:=mk (Kd.R_lower Y (zad HB.out))
    have HA1:=mk (Kd.R_lower Z (zad HB.out))
    have aa:=mk (zai BKg1.out hb)
    have ab:=mk (zai BKg2.out hb)
    have ac:=mk (zai BKg5.out hb)
    have ae:=mk (zai BKg6.out hb)
    have af:=mk (zaa HB.out hb)
    clear BKg1 BKg2 BKg5 BKg6 HB
    have BKg1:=aa
    have BKg2:=ab
    have BKg5:=ac
    have BKg6:=ae
    have HB:=af
    clear aa ab ac ae af
    clear hb Y Z
    refine hK.out _ _ ⟨bk_ BKg1 3,hc_ HB J,hc_ HB L,hc_ HB U,hc_ HB X,hc_ HB r,hc_ HB D,hc_ HB G,hc_ HB I⟩ (fun hHeld=>?_)
    clear hK K
    refine za2 (a':=?_) ?_ ?_
    rotate_left
    ·show Act.put _ (some 23) _=_
     simp only[Act.put,List.setIfInBounds_toArray,List.set_cons_zero,List.set_cons_succ]
     rfl
    refine on_ 9 28 (fun K hK=>?_)
    refine zbj Try.func81 kq0 rfl #[.agg #[.int .i64 (zaN l3 1).f0,.int .i64 (zaN l3 1).f1,.string (zaN l3 1).f2,.slice E1 (zaN l3 1).f3.length d1]] (by rfl) rfl rfl kq54 ?_
    refine(zau.calls k _ _ _ E1 d1 _ nb cb kb eb _ (Kd.C_below HI1.out HB.out) an.out HWB.out).mono ?_
    rintro e bE ⟨aj,ak,rfl,Y,Z,hb⟩
    obtain⟨Ba,ya,en_⟩:=Kd.R_slice Y
    subst en_
    obtain⟨Bb,yb,en_⟩:=Kd.R_slice Z
    subst en_
    refine⟨_,rfl,?_⟩
    have HB0:=mk (Kd.R_lower Y (zad HB.out))
    have HB1:=mk (Kd.R_lower Z (zad HB.out))
    have aa:=mk (zai BKg1.out hb)
    have ab:=mk (zai BKg2.out hb)
    have ac:=mk (zai BKg5.out hb)
    have ae:=mk (zai BKg6.out hb)
    have af:=mk (Kd.R_below HA0.out hb)
    have ag:=mk (Kd.R_below HA1.out hb)
    have ah:=mk (zaa HB.out hb)
    clear BKg1 BKg2 BKg5 BKg6 HA0 HA1 HB
    have BKg1:=aa
    have BKg2:=ab
    have BKg5:=ac
    have BKg6:=ae
    have HA0:=af
    have HA1:=ag
    have HB:=ah
    clear aa ab ac ae af ag ah
    clear hb Y Z
    refine hK.out _ _ ⟨bk_ BKg1 3,hc_ HB J,hc_ HB L,hc_ HB U,hc_ HB X,hc_ HB r,hc_ HB D,hc_ HB G,hc_ HB I⟩ (fun hHeld=>?_)
    clear hK K
    refine za2 (a':=?_) ?_ ?_
    rotate_left
    ·show Act.put _ (some 28) _=_
     simp only[Act.put,List.setIfInBounds_toArray,List.set_cons_zero,List.set_cons_succ]
     rfl
    (first|(have NBg6g5:=mk (Ne.symm NBg5g6.out))|(have NBg5g6:=mk (Ne.symm NBg6g5.out)))
    have ne_a:=NBg5g6.out
    have ne_b:=NBg6g5.out
    obtain⟨_,_,_,_,_,_,_,_⟩:=cz4_ BKg5.out
    obtain⟨_,_,_,_,_,_,_,_⟩:=cz4_ BKg6.out
    refine zb4 (i:=12) (N:=none) #[true,true,true,true,true,true,true,true,true,true,true,true,true,false] rfl rfl kq0 kq2 (fun K hK=>?_)
    refine zbO (w1:=?_) (by rfl) rfl ?_ ?_
    rotate_left
    ·go_simp
     rfl
    refine hK.out _ _ ?_
    clear hK K
    refine zb4 (i:=13) (N:=none) #[true,true,true,true,true,true,true,true,true,true,true,true,true,true] rfl rfl kq0 kq2 (fun K hK=>?_)
    refine zbO (w1:=?_) (by rfl) rfl ?_ ?_
    rotate_left
    ·go_simp
     rfl
    refine hK.out _ _ ?_
    clear hK K
    refine zbC kq0 ?_
    try go_wp2
    go_meet
    case rel=>exact⟨g5,g6,Aa,xa,Ab,xb,Ba,ya,Bb,yb,rfl,rfl,GEg5,GEg6,NBg1g5,NBg1g6,NBg2g5,NBg2g6,NBg5g6,end6 GEg5.out GEg6.out NBg1g5.out NBg1g6.out NBg2g5.out NBg2g6.out NBg5g6.out BKg1.out BKg2.out BKg5.out BKg6.out HA0.out HA1.out HB0.out HB1.out HB.out⟩
  ·refine zbU (v:=.pointer (some ⟨w9.heap.size,0,none⟩)) (w1:=w9.alloc Z107) (by rfl) rfl ?_ ?_
   ·unfold Z107
    go_simp
    all_goals first|done|rfl|exact⟨rfl,rfl⟩
   have NBg1g6:=mk (Nat.ne_of_lt (za0 BKg1.out))
   have NBg2g6:=mk (Nat.ne_of_lt (za0 BKg2.out))
   have GEg6:=mk (zad HB.out)
   have BKg6:Aside0 ((w9.alloc Z107).heap[w9.heap.size]?=some (.cells #[.slice none 0 0,.slice none 0 0,.int .i64 0,.int .i64 0] 107 (0,0))):=⟨zbJ w9 _⟩
   replace BKg1:=mk (zab BKg1.out Z107)
   replace BKg2:=mk (zab BKg2.out Z107)
   replace HB:=mk (zaS HB.out Z107)
   generalize w9.alloc Z107=ay at BKg6 BKg1 BKg2 HB ⊢
   generalize w9.heap.size=g6 at BKg6 GEg6 NBg1g6 NBg2g6 ⊢
   refine hK.out _ _ ⟨bk_ BKg1 3,hc_ HB J,hc_ HB L,hc_ HB U,hc_ HB X,hc_ HB r,hc_ HB D,hc_ HB G,hc_ HB I⟩ (fun hHeld=>?_)
   clear hK K
   refine za2 (a':=?_) ?_ ?_
   rotate_left
   ·show Act.put _ (some 6) _=_
    simp only[Act.put,List.setIfInBounds_toArray,List.set_cons_zero,List.set_cons_succ]
    rfl
   refine tw_ 4 10 23 5 (fun K hK=>?_) (fun K hK=>?_)
   ·refine zbj Try.func81 kq0 rfl #[.agg #[.int .i64 (zaN l3 0).f0,.int .i64 (zaN l3 0).f1,.string (zaN l3 0).f2,.slice E0 (zaN l3 0).f3.length d0]] (by rfl) rfl rfl kq54 ?_
    refine(zau.calls k _ _ _ E0 d0 _ na ca ka ea _ (Kd.C_below HI0.out HB.out) aC.out HWA.out).mono ?_
    rintro e az ⟨aj,ak,rfl,Y,Z,hb⟩
    obtain⟨Aa,xa,en_⟩:=Kd.R_slice Y
    subst en_
    obtain⟨Ab,xb,en_⟩:=Kd.R_slice Z
    subst en_
    refine⟨_,rfl,?_⟩
    have HA0:=mk (Kd.R_lower Y (zad HB.out))
    have HA1:=mk (Kd.R_lower Z (zad HB.out))
    have aa:=mk (zai BKg1.out hb)
    have ab:=mk (zai BKg2.out hb)
    have ac:=mk (zai BKg6.out hb)
    have ae:=mk (zaa HB.out hb)
    clear BKg1 BKg2 BKg6 HB
    have BKg1:=aa
    have BKg2:=ab
    have BKg6:=ac
    have HB:=ae
    clear aa ab ac ae
    clear hb Y Z
    refine hK.out _ _ ⟨bk_ BKg1 3,hc_ HB J,hc_ HB L,hc_ HB U,hc_ HB X,hc_ HB r,hc_ HB D,hc_ HB G,hc_ HB I⟩ (fun hHeld=>?_)
    clear hK K
    refine za2 (a':=?_) ?_ ?_
    rotate_left
    ·show Act.put _ (some 23) _=_
     simp only[Act.put,List.setIfInBounds_toArray,List.set_cons_zero,List.set_cons_succ]
     rfl
    refine tw_ 9 10 28 5 (fun K hK=>?_) (fun K hK=>?_)
    ·refine zbj Try.func81 kq0 rfl #[.agg #[.int .i64 (zaN l3 1).f0,.int .i64 (zaN l3 1).f1,.string (zaN l3 1).f2,.slice E1 (zaN l3 1).f3.length d1]] (by rfl) rfl rfl kq54 ?_
     refine(zau.calls k _ _ _ E1 d1 _ nb cb kb eb _ (Kd.C_below HI1.out HB.out) an.out HWB.out).mono ?_
     rintro e aA ⟨aj,ak,rfl,Y,Z,hb⟩
     obtain⟨Ba,ya,en_⟩:=Kd.R_slice Y
     subst en_
     obtain⟨Bb,yb,en_⟩:=Kd.R_slice Z
     subst en_
     refine⟨_,rfl,?_⟩
     have HB0:=mk (Kd.R_lower Y (zad HB.out))
     have HB1:=mk (Kd.R_lower Z (zad HB.out))
     have aa:=mk (zai BKg1.out hb)
     have ab:=mk (zai BKg2.out hb)
     have ac:=mk (zai BKg6.out hb)
     have ae:=mk (Kd.R_below HA0.out hb)
     have af:=mk (Kd.R_below HA1.out hb)
     have ag:=mk (zaa HB.out hb)
     clear BKg1 BKg2 BKg6 HA0 HA1 HB
     have BKg1:=aa
     have BKg2:=ab
     have BKg6:=ac
     have HA0:=ae
     have HA1:=af
     have HB:=ag
     clear aa ab ac ae af ag
     clear hb Y Z
     refine hK.out _ _ ⟨bk_ BKg1 3,hc_ HB J,hc_ HB L,hc_ HB U,hc_ HB X,hc_ HB r,hc_ HB D,hc_ HB G,hc_ HB I⟩ (fun hHeld=>?_)
     clear hK K
     refine za2 (a':=?_) ?_ ?_
     rotate_left
     ·show Act.put _ (some 28) _=_
      simp only[Act.put,List.setIfInBounds_toArray,List.set_cons_zero,List.set_cons_succ]
      rfl
     refine on_ 10 5 (fun K hK=>?_)
     refine zbU (v:=.pointer (some ⟨aA.heap.size,0,none⟩)) (w1:=aA.alloc Z107) (by rfl) rfl ?_ ?_
     ·unfold Z107
      go_simp
      all_goals first|done|rfl|exact⟨rfl,rfl⟩
     have NBg1g5:=mk (Nat.ne_of_lt (za0 BKg1.out))
     have NBg2g5:=mk (Nat.ne_of_lt (za0 BKg2.out))
     have NBg6g5:=mk (Nat.ne_of_lt (za0 BKg6.out))
     have GEg5:=mk (zad HB.out)
     have BKg5:Aside0 ((aA.alloc Z107).heap[aA.heap.size]?=some (.cells #[.slice none 0 0,.slice none 0 0,.int .i64 0,.int .i64 0] 107 (0,0))):=⟨zbJ aA _⟩
     replace BKg1:=mk (zab BKg1.out Z107)
     replace BKg2:=mk (zab BKg2.out Z107)
     replace BKg6:=mk (zab BKg6.out Z107)
     replace HA0:=mk (Kd.R_alloc HA0.out Z107)
     replace HA1:=mk (Kd.R_alloc HA1.out Z107)
     replace HB0:=mk (Kd.R_alloc HB0.out Z107)
     replace HB1:=mk (Kd.R_alloc HB1.out Z107)
     replace HB:=mk (zaS HB.out Z107)
     generalize aA.alloc Z107=bF at BKg5 BKg1 BKg2 BKg6 HA0 HA1 HB0 HB1 HB ⊢
     generalize aA.heap.size=g5 at BKg5 GEg5 NBg1g5 NBg2g5 NBg6g5 ⊢
     refine hK.out _ _ ⟨bk_ BKg1 3,hc_ HB J,hc_ HB L,hc_ HB U,hc_ HB X,hc_ HB r,hc_ HB D,hc_ HB G,hc_ HB I⟩ (fun hHeld=>?_)
     clear hK K
     refine za2 (a':=?_) ?_ ?_
     rotate_left
     ·show Act.put _ (some 5) _=_
      simp only[Act.put,List.setIfInBounds_toArray,List.set_cons_zero,List.set_cons_succ]
      rfl
     (first|(have NBg6g5:=mk (Ne.symm NBg5g6.out))|(have NBg5g6:=mk (Ne.symm NBg6g5.out)))
     have ne_a:=NBg5g6.out
     have ne_b:=NBg6g5.out
     obtain⟨_,_,_,_,_,_,_,_⟩:=cz4_ BKg5.out
     obtain⟨_,_,_,_,_,_,_,_⟩:=cz4_ BKg6.out
     refine zb4 (i:=12) (N:=none) #[true,true,true,true,true,true,true,true,true,true,true,true,true,false] rfl rfl kq0 kq2 (fun K hK=>?_)
     refine zbO (w1:=?_) (by rfl) rfl ?_ ?_
     rotate_left
     ·go_simp
      rfl
     refine hK.out _ _ ?_
     clear hK K
     refine zb4 (i:=13) (N:=none) #[true,true,true,true,true,true,true,true,true,true,true,true,true,true] rfl rfl kq0 kq2 (fun K hK=>?_)
     refine zbO (w1:=?_) (by rfl) rfl ?_ ?_
     rotate_left
     ·go_simp
      rfl
     refine hK.out _ _ ?_
     clear hK K
     refine zbC kq0 ?_
     try go_wp2
     go_meet
     case rel=>exact⟨g5,g6,Aa,xa,Ab,xb,Ba,ya,Bb,yb,rfl,rfl,GEg5,GEg6,NBg1g5,NBg1g6,NBg2g5,NBg2g6,NBg5g6,end6 GEg5.out GEg6.out NBg1g5.out NBg1g6.out NBg2g5.out NBg2g6.out NBg5g6.out BKg1.out BKg2.out BKg5.out BKg6.out HA0.out HA1.out HB0.out HB1.out HB.out⟩
    ·refine zbU (v:=.pointer (some ⟨az.heap.size,0,none⟩)) (w1:=az.alloc Z107) (by rfl) rfl ?_ ?_
     ·unfold Z107
      go_simp
      all_goals first|done|rfl|exact⟨rfl,rfl⟩
     have NBg1g5:=mk (Nat.ne_of_lt (za0 BKg1.out))
     have NBg2g5:=mk (Nat.ne_of_lt (za0 BKg2.out))
     have NBg6g5:=mk (Nat.ne_of_lt (za0 BKg6.out))
     have GEg5:=mk (zad HB.out)
     have BKg5:Aside0 ((az.alloc Z107).heap[az.heap.size]?=some (.cells #[.slice none 0 0,.slice none 0 0,.int .i64 0,.int .i64 0] 107 (0,0))):=⟨zbJ az _⟩
     replace BKg1:=mk (zab BKg1.out Z107)
     replace BKg2:=mk (zab BKg2.out Z107)
     replace BKg6:=mk (zab BKg6.out Z107)
     replace HA0:=mk (Kd.R_alloc HA0.out Z107)
     replace HA1:=mk (Kd.R_alloc HA1.out Z107)
     replace HB:=mk (zaS HB.out Z107)
     generalize az.alloc Z107=bG at BKg5 BKg1 BKg2 BKg6 HA0 HA1 HB ⊢
     generalize az.heap.size=g5 at BKg5 GEg5 NBg1g5 NBg2g5 NBg6g5 ⊢
     refine hK.out _ _ ⟨bk_ BKg1 3,hc_ HB J,hc_ HB L,hc_ HB U,hc_ HB X,hc_ HB r,hc_ HB D,hc_ HB G,hc_ HB I⟩ (fun hHeld=>?_)
     clear hK K
     refine za2 (a':=?_) ?_ ?_
     rotate_left
     ·show Act.put _ (some 5) _=_
      simp only[Act.put,List.setIfInBounds_toArray,List.set_cons_zero,List.set_cons_succ]
      rfl
     refine on_ 9 28 (fun K hK=>?_)
     refine zbj Try.func81 kq0 rfl #[.agg #[.int .i64 (zaN l3 1).f0,.int .i64 (zaN l3 1).f1,.string (zaN l3 1).f2,.slice E1 (zaN l3 1).f3.length d1]] (by rfl) rfl rfl kq54 ?_
     refine(zau.calls k _ _ _ E1 d1 _ nb cb kb eb _ (Kd.C_below HI1.out HB.out) an.out HWB.out).mono ?_
     rintro e bH ⟨aj,ak,rfl,Y,Z,hb⟩
     obtain⟨Ba,ya,en_⟩:=Kd.R_slice Y
     subst en_
     obtain⟨Bb,yb,en_⟩:=Kd.R_slice Z
     subst en_
     refine⟨_,rfl,?_⟩
     have HB0:=mk (Kd.R_lower Y (zad HB.out))
     have HB1:=mk (Kd.R_lower Z (zad HB.out))
     have aa:=mk (zai BKg1.out hb)
     have ab:=mk (zai BKg2.out hb)
     have ac:=mk (zai BKg5.out hb)
     have ae:=mk (zai BKg6.out hb)
     have af:=mk (Kd.R_below HA0.out hb)
     have ag:=mk (Kd.R_below HA1.out hb)
     have ah:=mk (zaa HB.out hb)
     clear BKg1 BKg2 BKg5 BKg6 HA0 HA1 HB
     have BKg1:=aa
     have BKg2:=ab
     have BKg5:=ac
     have BKg6:=ae
     have HA0:=af
     have HA1:=ag
     have HB:=ah
     clear aa ab ac ae af ag ah
     clear hb Y Z
     refine hK.out _ _ ⟨bk_ BKg1 3,hc_ HB J,hc_ HB L,hc_ HB U,hc_ HB X,hc_ HB r,hc_ HB D,hc_ HB G,hc_ HB I⟩ (fun hHeld=>?_)
     clear hK K
     refine za2 (a':=?_) ?_ ?_
     rotate_left
     ·show Act.put _ (some 28) _=_
      simp only[Act.put,List.setIfInBounds_toArray,List.set_cons_zero,List.set_cons_succ]
      rfl
     (first|(have NBg6g5:=mk (Ne.symm NBg5g6.out))|(have NBg5g6:=mk (Ne.symm NBg6g5.out)))
     have ne_a:=NBg5g6.out
     have ne_b:=NBg6g5.out
     obtain⟨_,_,_,_,_,_,_,_⟩:=cz4_ BKg5.out
     obtain⟨_,_,_,_,_,_,_,_⟩:=cz4_ BKg6.out
     refine zb4 (i:=12) (N:=none) #[true,true,true,true,true,true,true,true,true,true,true,true,true,false] rfl rfl kq0 kq2 (fun K hK=>?_)
     refine zbO (w1:=?_) (by rfl) rfl ?_ ?_
     rotate_left
     ·go_simp
      rfl
     refine hK.out _ _ ?_
     clear hK K
     refine zb4 (i:=13) (N:=none) #[true,true,true,true,true,true,true,true,true,true,true,true,true,true] rfl rfl kq0 kq2 (fun K hK=>?_)
     refine zbO (w1:=?_) (by rfl) rfl ?_ ?_
     rotate_left
     ·go_simp
      rfl
     refine hK.out _ _ ?_
     clear hK K
     refine zbC kq0 ?_
     try go_wp2
     go_meet
     case rel=>exact⟨g5,g6,Aa,xa,Ab,xb,Ba,ya,Bb,yb,rfl,rfl,GEg5,GEg6,NBg1g5,NBg1g6,NBg2g5,NBg2g6,NBg5g6,end6 GEg5.out GEg6.out NBg1g5.out NBg1g6.out NBg2g5.out NBg2g6.out NBg5g6.out BKg1.out BKg2.out BKg5.out BKg6.out HA0.out HA1.out HB0.out HB1.out HB.out⟩
   ·refine zbU (v:=.pointer (some ⟨ay.heap.size,0,none⟩)) (w1:=ay.alloc Z107) (by rfl) rfl ?_ ?_
    ·unfold Z107
     go_simp
     all_goals first|done|rfl|exact⟨rfl,rfl⟩
    have NBg1g5:=mk (Nat.ne_of_lt (za0 BKg1.out))
    have NBg2g5:=mk (Nat.ne_of_lt (za0 BKg2.out))
    have NBg6g5:=mk (Nat.ne_of_lt (za0 BKg6.out))
    have GEg5:=mk (zad HB.out)
    have BKg5:Aside0 ((ay.alloc Z107).heap[ay.heap.size]?=some (.cells #[.slice none 0 0,.slice none 0 0,.int .i64 0,.int .i64 0] 107 (0,0))):=⟨zbJ ay _⟩
    replace BKg1:=mk (zab BKg1.out Z107)
    replace BKg2:=mk (zab BKg2.out Z107)
    replace BKg6:=mk (zab BKg6.out Z107)
    replace HB:=mk (zaS HB.out Z107)
    generalize ay.alloc Z107=bI at BKg5 BKg1 BKg2 BKg6 HB ⊢
    generalize ay.heap.size=g5 at BKg5 GEg5 NBg1g5 NBg2g5 NBg6g5 ⊢
    refine hK.out _ _ ⟨bk_ BKg1 3,hc_ HB J,hc_ HB L,hc_ HB U,hc_ HB X,hc_ HB r,hc_ HB D,hc_ HB G,hc_ HB I⟩ (fun hHeld=>?_)
    clear hK K
    refine za2 (a':=?_) ?_ ?_
    rotate_left
    ·show Act.put _ (some 5) _=_
     simp only[Act.put,List.setIfInBounds_toArray,List.set_cons_zero,List.set_cons_succ]
     rfl
    refine on_ 4 23 (fun K hK=>?_)
    refine zbj Try.func81 kq0 rfl #[.agg #[.int .i64 (zaN l3 0).f0,.int .i64 (zaN l3 0).f1,.string (zaN l3 0).f2,.slice E0 (zaN l3 0).f3.length d0]] (by rfl) rfl rfl kq54 ?_
    refine(zau.calls k _ _ _ E0 d0 _ na ca ka ea _ (Kd.C_below HI0.out HB.out) aC.out HWA.out).mono ?_
    rintro e bJ ⟨aj,ak,rfl,Y,Z,hb⟩
    obtain⟨Aa,xa,en_⟩:=Kd.R_slice Y
    subst en_
    obtain⟨Ab,xb,en_⟩:=Kd.R_slice Z
    subst en_
    refine⟨_,rfl,?_⟩
    have HA0:=mk (Kd.R_lower Y (zad HB.out))
    have HA1:=mk (Kd.R_lower Z (zad HB.out))
    have aa:=mk (zai BKg1.out hb)
    have ab:=mk (zai BKg2.out hb)
    have ac:=mk (zai BKg5.out hb)
    have ae:=mk (zai BKg6.out hb)
    have af:=mk (zaa HB.out hb)
    clear BKg1 BKg2 BKg5 BKg6 HB
    have BKg1:=aa
    have BKg2:=ab
    have BKg5:=ac
    have BKg6:=ae
    have HB:=af
    clear aa ab ac ae af
    clear hb Y Z
    refine hK.out _ _ ⟨bk_ BKg1 3,hc_ HB J,hc_ HB L,hc_ HB U,hc_ HB X,hc_ HB r,hc_ HB D,hc_ HB G,hc_ HB I⟩ (fun hHeld=>?_)
    clear hK K
    refine za2 (a':=?_) ?_ ?_
    rotate_left
    ·show Act.put _ (some 23) _=_
     simp only[Act.put,List.setIfInBounds_toArray,List.set_cons_zero,List.set_cons_succ]
     rfl
    refine on_ 9 28 (fun K hK=>?_)
    refine zbj Try.func81 kq0 rfl #[.agg #[.int .i64 (zaN l3 1).f0,.int .i64 (zaN l3 1).f1,.string (zaN l3 1).f2,.slice E1 (zaN l3 1).f3.length d1]] (by rfl) rfl rfl kq54 ?_
    refine(zau.calls k _ _ _ E1 d1 _ nb cb kb eb _ (Kd.C_below HI1.out HB.out) an.out HWB.out).mono ?_
    rintro e bK ⟨aj,ak,rfl,Y,Z,hb⟩
    obtain⟨Ba,ya,en_⟩:=Kd.R_slice Y
    subst en_
    obtain⟨Bb,yb,en_⟩:=Kd.R_slice Z
    subst en_
    refine⟨_,rfl,?_⟩
    have HB0:=mk (Kd.R_lower Y (zad HB.out))
    have HB1:=mk (Kd.R_lower Z (zad HB.out))
    have aa:=mk (zai BKg1.out hb)
    have ab:=mk (zai BKg2.out hb)
    have ac:=mk (zai BKg5.out hb)
    have ae:=mk (zai BKg6.out hb)
    have af:=mk (Kd.R_below HA0.out hb)
    have ag:=mk (Kd.R_below HA1.out hb)
    have ah:=mk (zaa HB.out hb)
    clear BKg1 BKg2 BKg5 BKg6 HA0 HA1 HB
    have BKg1:=aa
    have BKg2:=ab
    have BKg5:=ac
    have BKg6:=ae
    have HA0:=af
    have HA1:=ag
    have HB:=ah
    clear aa ab ac ae af ag ah
    clear hb Y Z
    refine hK.out _ _ ⟨bk_ BKg1 3,hc_ HB J,hc_ HB L,hc_ HB U,hc_ HB X,hc_ HB r,hc_ HB D,hc_ HB G,hc_ HB I⟩ (fun hHeld=>?_)
    clear hK K
    refine za2 (a':=?_) ?_ ?_
    rotate_left
    ·show Act.put _ (some 28) _=_
     simp only[Act.put,List.setIfInBounds_toArray,List.set_cons_zero,List.set_cons_succ]
     rfl
    (first|(have NBg6g5:=mk (Ne.symm NBg5g6.out))|(have NBg5g6:=mk (Ne.symm NBg6g5.out)))
    have ne_a:=NBg5g6.out
    have ne_b:=NBg6g5.out
    obtain⟨_,_,_,_,_,_,_,_⟩:=cz4_ BKg5.out
    obtain⟨_,_,_,_,_,_,_,_⟩:=cz4_ BKg6.out
    refine zb4 (i:=12) (N:=none) #[true,true,true,true,true,true,true,true,true,true,true,true,true,false] rfl rfl kq0 kq2 (fun K hK=>?_)
    refine zbO (w1:=?_) (by rfl) rfl ?_ ?_
    rotate_left
    ·go_simp
     rfl
    refine hK.out _ _ ?_
    clear hK K
    refine zb4 (i:=13) (N:=none) #[true,true,true,true,true,true,true,true,true,true,true,true,true,true] rfl rfl kq0 kq2 (fun K hK=>?_)
    refine zbO (w1:=?_) (by rfl) rfl ?_ ?_
    rotate_left
    ·go_simp
     rfl
    refine hK.out _ _ ?_
    clear hK K
    refine zbC kq0 ?_
    try go_wp2
    go_meet
    case rel=>exact⟨g5,g6,Aa,xa,Ab,xb,Ba,ya,Bb,yb,rfl,rfl,GEg5,GEg6,NBg1g5,NBg1g6,NBg2g5,NBg2g6,NBg5g6,end6 GEg5.out GEg6.out NBg1g5.out NBg1g6.out NBg2g5.out NBg2g6.out NBg5g6.out BKg1.out BKg2.out BKg5.out BKg6.out HA0.out HA1.out HB0.out HB1.out HB.out⟩
 case rest=>
  clear BKg1 BKg2 HB
  obtain⟨g5,g6,Aa,xa,Ab,xb,Ba,ya,Bb,yb,rfl,rfl,GEg5,GEg6,NBg1g5,NBg1g6,NBg2g5,NBg2g6,NBg5g6,BKg1,BKg2,BKg5,BKg6,HA0,HA1,HB0,HB1,HB⟩:=hcut
  have NBg5g1:=mk (Ne.symm NBg1g5.out)
  have NBg6g1:=mk (Ne.symm NBg1g6.out)
  have NBg5g2:=mk (Ne.symm NBg2g5.out)
  have NBg6g2:=mk (Ne.symm NBg2g6.out)
  have NBg6g5:=mk (Ne.symm NBg5g6.out)
  obtain⟨_,_,_,_,_,_,_,_,_,_⟩:=cz5_ BKg1.out
  obtain⟨_,_,_,_,_,_,_,_,_,_⟩:=cz5_ BKg2.out
  obtain⟨_,_,_,_,_,_,_,_⟩:=cz4_ BKg5.out
  obtain⟨_,_,_,_,_,_,_,_⟩:=cz4_ BKg6.out
  go_upto_region 7 with fail
  go_cut [7] (fun v7 wd=>∃(g7:Nat) (An:Option Addr) (xn:Nat) (Ac:Option Addr) (xc:Nat),v7= .pointer (some ⟨g7,0,none⟩)∧Aside0 (w.heap.size≤g7)∧Aside0 (g1≠g7)∧Aside0 (g2≠g7)∧Aside0 (g5≠g7)∧Aside0 (g6≠g7)∧Aside0 (wd.heap[g1]?=some (.cells #[.int .i64 op,.string nm,.int .i64 md,.slice A3 l3.length c3,.slice A4 l4.length c4] 39 (0,0)))∧Aside0 (wd.heap[g2]?=some (.cells #[.int .i64 0,.slice none 0 0,.slice none 0 0,.int .i64 0,.int .i64 0] 58 (0,0)))∧Aside0 (wd.heap[g5]?=some (.cells #[.slice Aa na.length xa,.slice Ab ca.length xb,.int .i64 ka,.int .i64 ea] 107 (0,0)))∧Aside0 (wd.heap[g6]?=some (.cells #[.slice Ba nb.length ya,.slice Bb cb.length yb,.int .i64 kb,.int .i64 eb] 107 (0,0)))∧Aside0 (wd.heap[g7]?=some (.cells #[.slice An n0.length xn,.slice Ac z0.length xc,.int .i64 k0,.int .i64 e0] 107 (0,0)))∧Aside0 (Kd.R Kd.string 9 wd w.heap.size (fun _=>True) (.slice Aa na.length xa) (na))∧Aside0 (Kd.R (Kd.int .i64) 2 wd w.heap.size (fun _=>True) (.slice Ab ca.length xb) (ca))∧Aside0 (Kd.R Kd.string 9 wd w.heap.size (fun _=>True) (.slice Ba nb.length ya) (nb))∧Aside0 (Kd.R (Kd.int .i64) 2 wd w.heap.size (fun _=>True) (.slice Bb cb.length yb) (cb))∧Aside0 (Kd.R Kd.string 9 wd w.heap.size (fun _=>True) (.slice An n0.length xn) (n0))∧Aside0 (Kd.R (Kd.int .i64) 2 wd w.heap.size (fun _=>True) (.slice Ac z0.length xc) (z0))∧Aside0 (Below w.heap.size w wd))
  case first=>
   go_wp2_with (first|((go_at_call 82;(with_reducible refine(zgR (.slice Aa na.length xa) na (.slice Ab ca.length xb) ca ka ea (.slice Ba nb.length ya) nb (.slice Bb cb.length yb) cb kb eb n0 z0 k0 e0 w _ ?s1 ?s2 ?s3 ?s4 ?s5 aM.out).mono ?_);(case s1=>exact kq58);(case s2=>exact zgy);(case s3=>exact zgz);(case s4=>exact zgA);(case s5=>exact zgB);rintro e bL ⟨ba,bb,rfl,Y,Z,hb⟩;obtain⟨An,xn,en_⟩:=Kd.R_slice Y;subst en_;obtain⟨Ac,xc,en_⟩:=Kd.R_slice Z;subst en_;have HP:=mk Y;have HQ:=mk Z;replace BKg1:=(bc_ BKg1 hb (kq45 BKg1));replace BKg2:=(bc_ BKg2 hb (kq45 BKg2));replace BKg5:=(bc_ BKg5 hb (kq45 BKg5));replace BKg6:=(bc_ BKg6 hb (kq45 BKg6));replace HA0:=mk (Kd.R_below zgy hb);replace HA1:=mk (Kd.R_below zgz hb);replace HB0:=mk (Kd.R_below zgA hb);replace HB1:=mk (Kd.R_below zgB hb);replace HB:=mk (zaa kq43 hb);clear hb Y Z;obtain⟨_,_,_,_,_,_,_,_,_,_⟩:=cz5_ BKg1.out;obtain⟨_,_,_,_,_,_,_,_,_,_⟩:=cz5_ BKg2.out;obtain⟨_,_,_,_,_,_,_,_⟩:=cz4_ BKg5.out;obtain⟨_,_,_,_,_,_,_,_⟩:=cz4_ BKg6.out))|((with_reducible refine zao (N:=7) rfl ?_);refine zal ?hg (N:=7) ?hd (cs:=#[.slice none 0 0,.slice none 0 0,.int .i64 0,.int .i64 0]) (t:=107) ?hr ?_;(case hd=>rfl);(case hg=>rfl);(case hr=>exact kq21);intro g7 hg bM hbox hb;have GEg7:=mk (kq42:w.heap.size≤g7);have NBg1g7:=mk ((kq44 BKg1):g1≠g7);have NBg7g1:=mk (Ne.symm NBg1g7.out);have NBg2g7:=mk ((kq44 BKg2):g2≠g7);have NBg7g2:=mk (Ne.symm NBg2g7.out);have NBg5g7:=mk ((kq44 BKg5):g5≠g7);have NBg7g5:=mk (Ne.symm NBg5g7.out);have NBg6g7:=mk ((kq44 BKg6):g6≠g7);have NBg7g6:=mk (Ne.symm NBg6g7.out);replace BKg1:=(bc_ BKg1 hb (kq45 BKg1));replace BKg2:=(bc_ BKg2 hb (kq45 BKg2));replace BKg5:=(bc_ BKg5 hb (kq45 BKg5));replace BKg6:=(bc_ BKg6 hb (kq45 BKg6));replace HA0:=mk (Kd.R_below zgy hb);replace HA1:=mk (Kd.R_below zgz hb);replace HB0:=mk (Kd.R_below zgA hb);replace HB1:=mk (Kd.R_below zgB hb);replace HP:=mk (Kd.R_below zc6 hb);replace HQ:=mk (Kd.R_below zdo hb);replace HB:=mk (zaa kq43 hb);clear hb hg;have BKg7:=mk hbox;clear hbox;have ne_g1g7:=NBg1g7.out;have ne_g7g1:=NBg7g1.out;have ne_g2g7:=NBg2g7.out;have ne_g7g2:=NBg7g2.out;have ne_g5g7:=NBg5g7.out;have ne_g7g5:=NBg7g5.out;have ne_g6g7:=NBg6g7.out;have ne_g7g6:=NBg7g6.out;obtain⟨_,_,_,_,_,_,_,_,_,_⟩:=cz5_ BKg1.out;obtain⟨_,_,_,_,_,_,_,_,_,_⟩:=cz5_ BKg2.out;obtain⟨_,_,_,_,_,_,_,_⟩:=cz4_ BKg5.out;obtain⟨_,_,_,_,_,_,_,_⟩:=cz4_ BKg6.out;obtain⟨_,_,_,_,_,_,_,_⟩:=cz4_ BKg7.out))
   go_meet
   case rel=>exact⟨g7,An,xn,Ac,xc,rfl,GEg7,NBg1g7,NBg2g7,NBg5g7,NBg6g7,⟨(zaj (zaj (zaj (zaj (kq45 BKg1) NBg1g7.out _) NBg1g7.out _) NBg1g7.out _) NBg1g7.out _)⟩,⟨(zaj (zaj (zaj (zaj (kq45 BKg2) NBg2g7.out _) NBg2g7.out _) NBg2g7.out _) NBg2g7.out _)⟩,⟨(zaj (zaj (zaj (zaj (kq45 BKg5) NBg5g7.out _) NBg5g7.out _) NBg5g7.out _) NBg5g7.out _)⟩,⟨(zaj (zaj (zaj (zaj (kq45 BKg6) NBg6g7.out _) NBg6g7.out _) NBg6g7.out _) NBg6g7.out _)⟩,⟨(zak (zak (zak (zak (kq45 BKg7) 0 _ rfl) 1 _ rfl) 2 _ rfl) 3 _ rfl)⟩,⟨Kd.R_mono (Kd.R_far (p:=⟨g7,3,none⟩) (Kd.R_far (p:=⟨g7,2,none⟩) (Kd.R_far (p:=⟨g7,1,none⟩) (Kd.R_far (p:=⟨g7,0,none⟩) (Kd.R_types zgy BKg7.out kq2) (fun _ h=>h.2) _) (fun _ h=>h.2) _) (fun _ h=>h.2) _) (fun _ h=>h.2) _) (fun _ _=>trivial)⟩,⟨Kd.R_mono (Kd.R_far (p:=⟨g7,3,none⟩) (Kd.R_far (p:=⟨g7,2,none⟩) (Kd.R_far (p:=⟨g7,1,none⟩) (Kd.R_far (p:=⟨g7,0,none⟩) (Kd.R_types zgz BKg7.out kq2) (fun _ h=>h.2) _) (fun _ h=>h.2) _) (fun _ h=>h.2) _) (fun _ h=>h.2) _) (fun _ _=>trivial)⟩,⟨Kd.R_mono (Kd.R_far (p:=⟨g7,3,none⟩) (Kd.R_far (p:=⟨g7,2,none⟩) (Kd.R_far (p:=⟨g7,1,none⟩) (Kd.R_far (p:=⟨g7,0,none⟩) (Kd.R_types zgA BKg7.out kq2) (fun _ h=>h.2) _) (fun _ h=>h.2) _) (fun _ h=>h.2) _) (fun _ h=>h.2) _) (fun _ _=>trivial)⟩,⟨Kd.R_mono (Kd.R_far (p:=⟨g7,3,none⟩) (Kd.R_far (p:=⟨g7,2,none⟩) (Kd.R_far (p:=⟨g7,1,none⟩) (Kd.R_far (p:=⟨g7,0,none⟩) (Kd.R_types zgB BKg7.out kq2) (fun _ h=>h.2) _) (fun _ h=>h.2) _) (fun _ h=>h.2) _) (fun _ h=>h.2) _) (fun _ _=>trivial)⟩,⟨Kd.R_mono (Kd.R_far (p:=⟨g7,3,none⟩) (Kd.R_far (p:=⟨g7,2,none⟩) (Kd.R_far (p:=⟨g7,1,none⟩) (Kd.R_far (p:=⟨g7,0,none⟩) (Kd.R_types zc6 BKg7.out kq2) (fun _ h=>h.2) _) (fun _ h=>h.2) _) (fun _ h=>h.2) _) (fun _ h=>h.2) _) (fun _ _=>trivial)⟩,⟨Kd.R_mono (Kd.R_far (p:=⟨g7,3,none⟩) (Kd.R_far (p:=⟨g7,2,none⟩) (Kd.R_far (p:=⟨g7,1,none⟩) (Kd.R_far (p:=⟨g7,0,none⟩) (Kd.R_types zdo BKg7.out kq2) (fun _ h=>h.2) _) (fun _ h=>h.2) _) (fun _ h=>h.2) _) (fun _ h=>h.2) _) (fun _ _=>trivial)⟩,⟨(zav (zav (zav (zav kq43 GEg7.out) GEg7.out) GEg7.out) GEg7.out)⟩⟩
  case rest=>
   clear BKg1 BKg2 BKg5 BKg6 HA0 HA1 HB0 HB1 HB
   obtain⟨g7,An,xn,Ac,xc,rfl,GEg7,NBg1g7,NBg2g7,NBg5g7,NBg6g7,BKg1,BKg2,BKg5,BKg6,BKg7,HA0,HA1,HB0,HB1,HP,HQ,HB⟩:=hcut
   have NBg7g1:=mk (Ne.symm NBg1g7.out)
   have NBg7g2:=mk (Ne.symm NBg2g7.out)
   have NBg7g5:=mk (Ne.symm NBg5g7.out)
   have NBg7g6:=mk (Ne.symm NBg6g7.out)
   have ne_g1g2:=NBg1g2.out
   have ne_g1g5:=NBg1g5.out
   have ne_g1g6:=NBg1g6.out
   have ne_g1g7:=NBg1g7.out
   have ne_g2g1:=NBg2g1.out
   have ne_g2g5:=NBg2g5.out
   have ne_g2g6:=NBg2g6.out
   have ne_g2g7:=NBg2g7.out
   have ne_g5g1:=NBg5g1.out
   have ne_g5g2:=NBg5g2.out
   have ne_g5g6:=NBg5g6.out
   have ne_g5g7:=NBg5g7.out
   have ne_g6g1:=NBg6g1.out
   have ne_g6g2:=NBg6g2.out
   have ne_g6g5:=NBg6g5.out
   have ne_g6g7:=NBg6g7.out
   have ne_g7g1:=NBg7g1.out
   have ne_g7g2:=NBg7g2.out
   have ne_g7g5:=NBg7g5.out
   have ne_g7g6:=NBg7g6.out
   obtain⟨_,_,_,_,_,_,_,_,_,_⟩:=cz5_ BKg1.out
   obtain⟨_,_,_,_,_,_,_,_,_,_⟩:=cz5_ BKg2.out
   obtain⟨_,_,_,_,_,_,_,_⟩:=cz4_ BKg5.out
   obtain⟨_,_,_,_,_,_,_,_⟩:=cz4_ BKg6.out
   obtain⟨_,_,_,_,_,_,_,_⟩:=cz4_ BKg7.out
   go_upto_region 8 with fail
   go_cut [49] (fun bc we=>∃bq:Bool,bc= .bool bq∧Aside0 (bq=decide (ea=0∧eb=0∧(op=11∨op=12)))∧we=wc)
   case first=>
    by_cases hea0:ea=0
    ·have eea0_:(ea==0)=true:=beq_iff_eq.mpr hea0
     by_cases heb0:eb=0
     ·have eeb0_:(eb==0)=true:=beq_iff_eq.mpr heb0
      by_cases hop11:op=11
      ·have eop11_:(op==11)=true:=beq_iff_eq.mpr hop11
       go_wp2
       go_meet
       case rel=>exact⟨true,rfl,⟨(decide_eq_true (p:=ea=0∧eb=0∧(op=11∨op=12)) (by exact⟨hea0,heb0,kq1⟩)).symm⟩,rfl⟩
      ·have eop11_:(op==11)=false:=beq_eq_false_iff_ne.mpr hop11
       by_cases hop12:op=12
       ·have eop12_:(op==12)=true:=beq_iff_eq.mpr hop12
        go_wp2
        go_meet
        case rel=>exact⟨true,rfl,⟨(decide_eq_true (p:=ea=0∧eb=0∧(op=11∨op=12)) (by exact⟨hea0,heb0,kq1⟩)).symm⟩,rfl⟩
       ·have eop12_:(op==12)=false:=beq_eq_false_iff_ne.mpr hop12
        go_wp2
        go_meet
        case rel=>exact⟨false,rfl,⟨(decide_eq_false (p:=ea=0∧eb=0∧(op=11∨op=12)) kq1).symm⟩,rfl⟩
     ·have eeb0_:(eb==0)=false:=beq_eq_false_iff_ne.mpr heb0
      go_wp2
      go_meet
      case rel=>exact⟨false,rfl,⟨(decide_eq_false (p:=ea=0∧eb=0∧(op=11∨op=12)) kq1).symm⟩,rfl⟩
    ·have eea0_:(ea==0)=false:=beq_eq_false_iff_ne.mpr hea0
     go_wp2
     go_meet
     case rel=>exact⟨false,rfl,⟨(decide_eq_false (p:=ea=0∧eb=0∧(op=11∨op=12)) kq1).symm⟩,rfl⟩
   case rest=>
    obtain⟨bq,rfl,HBQ,rfl⟩:=hcut
    go_upto_if 49 with fail
    go_cut [] (fun wf=>∃(As:Option Addr) (zn:Nat) (At:Option Addr) (zc:Nat),Aside0 (wf.heap[g1]?=some (.cells #[.int .i64 op,.string nm,.int .i64 md,.slice A3 l3.length c3,.slice A4 l4.length c4] 39 (0,0)))∧Aside0 (wf.heap[g2]?=some (.cells #[.int .i64 0,.slice none 0 0,.slice none 0 0,.int .i64 0,.int .i64 0] 58 (0,0)))∧Aside0 (wf.heap[g7]?=some (.cells #[.slice As ns.length zn,.slice At cs.length zc,.int .i64 ks,.int .i64 es] 107 (0,0)))∧Aside0 (Kd.R Kd.string 9 wf w.heap.size (fun _=>True) (.slice As ns.length zn) (ns))∧Aside0 (Kd.R (Kd.int .i64) 2 wf w.heap.size (fun _=>True) (.slice At cs.length zc) (cs))∧Aside0 (Below w.heap.size w wf))
    case first=>
     cases bq with
     |true=>
      have bd:=mk (of_decide_eq_true HBQ.out.symm)
      clear HBQ
      clear HP HQ
      go_wp2_with (first|((go_at_call 82;(with_reducible refine(zgR (.slice Ba nb.length ya) nb (.slice Bb cb.length yb) cb kb eb (.slice Aa na.length xa) na (.slice Ab ca.length xb) ca ka ea ns cs ks es w _ ?s1 ?s2 ?s3 ?s4 ?s5 (aN.out bd.out)).mono ?_);(case s1=>exact kq58);(case s2=>exact zgA);(case s3=>exact zgB);(case s4=>exact zgy);(case s5=>exact zgz);rintro e bN ⟨ba,bb,rfl,Y,Z,hb⟩;obtain⟨As,zn,en_⟩:=Kd.R_slice Y;subst en_;obtain⟨At,zc,en_⟩:=Kd.R_slice Z;subst en_;have HP:=mk Y;have HQ:=mk Z;replace BKg1:=(bc_ BKg1 hb (kq45 BKg1));replace BKg2:=(bc_ BKg2 hb (kq45 BKg2));replace BKg5:=(bc_ BKg5 hb (kq45 BKg5));replace BKg6:=(bc_ BKg6 hb (kq45 BKg6));replace BKg7:=(bc_ BKg7 hb (kq45 BKg7));replace HA0:=mk (Kd.R_below zgy hb);replace HA1:=mk (Kd.R_below zgz hb);replace HB0:=mk (Kd.R_below zgA hb);replace HB1:=mk (Kd.R_below zgB hb);replace HB:=mk (zaa kq43 hb);clear hb Y Z;obtain⟨_,_,_,_,_,_,_,_,_,_⟩:=cz5_ BKg1.out;obtain⟨_,_,_,_,_,_,_,_,_,_⟩:=cz5_ BKg2.out;obtain⟨_,_,_,_,_,_,_,_⟩:=cz4_ BKg5.out;obtain⟨_,_,_,_,_,_,_,_⟩:=cz4_ BKg6.out;obtain⟨_,_,_,_,_,_,_,_⟩:=cz4_ BKg7.out)))
      go_meet
      case rel=>exact⟨As,zn,At,zc,⟨(zaj (zaj (zaj (zaj (kq45 BKg1) NBg1g7.out _) NBg1g7.out _) NBg1g7.out _) NBg1g7.out _)⟩,⟨(zaj (zaj (zaj (zaj (kq45 BKg2) NBg2g7.out _) NBg2g7.out _) NBg2g7.out _) NBg2g7.out _)⟩,⟨(zak (zak (zak (zak (kq45 BKg7) 0 _ rfl) 1 _ rfl) 2 _ rfl) 3 _ rfl)⟩,⟨Kd.R_mono (Kd.R_far (p:=⟨g7,3,none⟩) (Kd.R_far (p:=⟨g7,2,none⟩) (Kd.R_far (p:=⟨g7,1,none⟩) (Kd.R_far (p:=⟨g7,0,none⟩) (Kd.R_types zc6 BKg7.out kq2) (fun _ h=>h.2) _) (fun _ h=>h.2) _) (fun _ h=>h.2) _) (fun _ h=>h.2) _) (fun _ _=>trivial)⟩,⟨Kd.R_mono (Kd.R_far (p:=⟨g7,3,none⟩) (Kd.R_far (p:=⟨g7,2,none⟩) (Kd.R_far (p:=⟨g7,1,none⟩) (Kd.R_far (p:=⟨g7,0,none⟩) (Kd.R_types zdo BKg7.out kq2) (fun _ h=>h.2) _) (fun _ h=>h.2) _) (fun _ h=>h.2) _) (fun _ h=>h.2) _) (fun _ _=>trivial)⟩,⟨(zav (zav (zav (zav kq43 GEg7.out) GEg7.out) GEg7.out) GEg7.out)⟩⟩
     |false=>
      obtain⟨rfl,rfl,rfl,rfl⟩:=aQ.out (of_decide_eq_false HBQ.out.symm)
      clear HBQ
      go_wp2
      go_meet
      case rel=>exact⟨An,xn,Ac,xc,BKg1,BKg2,BKg7,HP,HQ,HB⟩
    case rest=>
     clear BKg1 BKg2 BKg5 BKg6 BKg7 HA0 HA1 HB0 HB1 HP HQ HB
     clear aM aN aQ HWA HWB
     obtain⟨As,zn,At,zc,BKg1,BKg2,BKg7,HP,HQ,HB⟩:=hcut
     obtain⟨_,_,_,_,_,_,_,_,_,_⟩:=cz5_ BKg1.out
     obtain⟨_,_,_,_,_,_,_,_,_,_⟩:=cz5_ BKg2.out
     obtain⟨_,_,_,_,_,_,_,_⟩:=cz4_ BKg7.out
     go_upto_region 10 with fail
     go_cut [8] (fun v8 wg=>∃(g8:Nat),v8= .pointer (some ⟨g8,0,none⟩)∧Aside0 (w.heap.size≤g8)∧Aside0 (g1≠g8)∧Aside0 (g2≠g8)∧Aside0 (g7≠g8)∧Aside0 (wg.heap[g1]?=some (.cells #[.int .i64 op,.string nm,.int .i64 md,.slice A3 l3.length c3,.slice A4 l4.length c4] 39 (0,0)))∧Aside0 (wg.heap[g2]?=some (.cells #[.int .i64 0,.slice none 0 0,.slice none 0 0,.int .i64 0,.int .i64 0] 58 (0,0)))∧Aside0 (wg.heap[g7]?=some (.cells #[.slice As ns.length zn,.slice At cs.length zc,.int .i64 ks,.int .i64 es] 107 (0,0)))∧Aside0 (wg.heap[g8]?=some (.cells #[.int .i64 0,.slice As ns.length zn,.slice At cs.length zc,.int .i64 0,.int .i64 md] 58 (0,0)))∧Aside0 (Kd.R Kd.string 9 wg w.heap.size (fun _=>True) (.slice As ns.length zn) (ns))∧Aside0 (Kd.R (Kd.int .i64) 2 wg w.heap.size (fun _=>True) (.slice At cs.length zc) (cs))∧Aside0 (Below w.heap.size w wg))
     case first=>
      go_wp2_with (first|((with_reducible refine zao (N:=8) rfl ?_);refine zal ?hg (N:=8) ?hd (cs:=#[.int .i64 0,.slice none 0 0,.slice none 0 0,.int .i64 0,.int .i64 0]) (t:=58) ?hr ?_;(case hd=>rfl);(case hg=>rfl);(case hr=>exact kq21);intro g8 hg bO hbox hb;have GEg8:=mk (kq42:w.heap.size≤g8);have NBg1g8:=mk ((kq44 BKg1):g1≠g8);have NBg8g1:=mk (Ne.symm NBg1g8.out);have NBg2g8:=mk ((kq44 BKg2):g2≠g8);have NBg8g2:=mk (Ne.symm NBg2g8.out);have NBg7g8:=mk ((kq44 BKg7):g7≠g8);have NBg8g7:=mk (Ne.symm NBg7g8.out);replace BKg1:=(bc_ BKg1 hb (kq45 BKg1));replace BKg2:=(bc_ BKg2 hb (kq45 BKg2));replace BKg7:=(bc_ BKg7 hb (kq45 BKg7));replace HP:=mk (Kd.R_below zc6 hb);replace HQ:=mk (Kd.R_below zdo hb);replace HB:=mk (zaa kq43 hb);clear hb hg;have BKg8:=mk hbox;clear hbox;have ne_g1g8:=NBg1g8.out;have ne_g8g1:=NBg8g1.out;have ne_g2g8:=NBg2g8.out;have ne_g8g2:=NBg8g2.out;have ne_g7g8:=NBg7g8.out;have ne_g8g7:=NBg8g7.out;obtain⟨_,_,_,_,_,_,_,_,_,_⟩:=cz5_ BKg1.out;obtain⟨_,_,_,_,_,_,_,_,_,_⟩:=cz5_ BKg2.out;obtain⟨_,_,_,_,_,_,_,_⟩:=cz4_ BKg7.out;obtain⟨_,_,_,_,_,_,_,_,_,_⟩:=cz5_ BKg8.out))
      go_meet
      case rel=>exact⟨g8,rfl,GEg8,NBg1g8,NBg2g8,NBg7g8,⟨(zaj (zaj (zaj (zaj (zaj (kq45 BKg1) NBg1g8.out _) NBg1g8.out _) NBg1g8.out _) NBg1g8.out _) NBg1g8.out _)⟩,⟨(zaj (zaj (zaj (zaj (zaj (kq45 BKg2) NBg2g8.out _) NBg2g8.out _) NBg2g8.out _) NBg2g8.out _) NBg2g8.out _)⟩,⟨(zaj (zaj (zaj (zaj (zaj (kq45 BKg7) NBg7g8.out _) NBg7g8.out _) NBg7g8.out _) NBg7g8.out _) NBg7g8.out _)⟩,⟨(zak (zak (zak (zak (zak (kq45 BKg8) 0 _ rfl) 1 _ rfl) 2 _ rfl) 3 _ rfl) 4 _ rfl)⟩,⟨Kd.R_mono (Kd.R_far (p:=⟨g8,4,none⟩) (Kd.R_far (p:=⟨g8,3,none⟩) (Kd.R_far (p:=⟨g8,2,none⟩) (Kd.R_far (p:=⟨g8,1,none⟩) (Kd.R_far (p:=⟨g8,0,none⟩) (Kd.R_types zc6 BKg8.out kq2) (fun _ h=>h.2) _) (fun _ h=>h.2) _) (fun _ h=>h.2) _) (fun _ h=>h.2) _) (fun _ h=>h.2) _) (fun _ _=>trivial)⟩,⟨Kd.R_mono (Kd.R_far (p:=⟨g8,4,none⟩) (Kd.R_far (p:=⟨g8,3,none⟩) (Kd.R_far (p:=⟨g8,2,none⟩) (Kd.R_far (p:=⟨g8,1,none⟩) (Kd.R_far (p:=⟨g8,0,none⟩) (Kd.R_types zdo BKg8.out kq2) (fun _ h=>h.2) _) (fun _ h=>h.2) _) (fun _ h=>h.2) _) (fun _ h=>h.2) _) (fun _ h=>h.2) _) (fun _ _=>trivial)⟩,⟨(zav (zav (zav (zav (zav kq43 GEg8.out) GEg8.out) GEg8.out) GEg8.out) GEg8.out)⟩⟩
     case rest=>
      clear BKg1 BKg2 BKg7 HP HQ HB
      obtain⟨g8,rfl,GEg8,NBg1g8,NBg2g8,NBg7g8,BKg1,BKg2,BKg7,BKg8,HP,HQ,HB⟩:=hcut
      have NBg8g1:=mk (Ne.symm NBg1g8.out)
      have NBg8g2:=mk (Ne.symm NBg2g8.out)
      have NBg8g7:=mk (Ne.symm NBg7g8.out)
      have ne_g1g8:=NBg1g8.out
      have ne_g2g8:=NBg2g8.out
      have ne_g7g8:=NBg7g8.out
      have ne_g8g1:=NBg8g1.out
      have ne_g8g2:=NBg8g2.out
      have ne_g8g7:=NBg8g7.out
      obtain⟨_,_,_,_,_,_,_,_,_,_⟩:=cz5_ BKg1.out
      obtain⟨_,_,_,_,_,_,_,_,_,_⟩:=cz5_ BKg2.out
      obtain⟨_,_,_,_,_,_,_,_⟩:=cz4_ BKg7.out
      obtain⟨_,_,_,_,_,_,_,_,_,_⟩:=cz5_ BKg8.out
      go_upto_region 11 with fail
      go_cut [] (fun wh=>Aside0 (wh.heap[g1]?=some (.cells #[.int .i64 op,.string nm,.int .i64 md,.slice A3 l3.length c3,.slice A4 l4.length c4] 39 (0,0)))∧Aside0 (wh.heap[g2]?=some (.cells #[.int .i64 0,.slice none 0 0,.slice none 0 0,.int .i64 0,.int .i64 0] 58 (0,0)))∧Aside0 (wh.heap[g7]?=some (.cells #[.slice As ns.length zn,.slice At cs.length zc,.int .i64 ks,.int .i64 (zbu es (negP ks).2)] 107 (0,0)))∧Aside0 (wh.heap[g8]?=some (.cells #[.int .i64 0,.slice As ns.length zn,.slice At cs.length zc,.int .i64 (negP ks).1,.int .i64 md] 58 (0,0)))∧Aside0 (Kd.R Kd.string 9 wh w.heap.size (fun _=>True) (.slice As ns.length zn) (ns))∧Aside0 (Kd.R (Kd.int .i64) 2 wh w.heap.size (fun _=>True) (.slice At cs.length zc) (cs))∧Aside0 (Below w.heap.size w wh))
      case first=>
       go_wp2_with (first|((go_at_call 85;(with_reducible refine(zc5.calls ks _ _ _ (zjy ks)).mono ?_);rintro e bP ⟨rfl,hd⟩;have hb:=hd.below;clear hd;replace BKg1:=(bc_ BKg1 hb (kq45 BKg1));replace BKg2:=(bc_ BKg2 hb (kq45 BKg2));replace BKg7:=(bc_ BKg7 hb (kq45 BKg7));replace BKg8:=(bc_ BKg8 hb (kq45 BKg8));replace HP:=mk (Kd.R_below zc6 hb);replace HQ:=mk (Kd.R_below zdo hb);replace HB:=mk (zaa kq43 hb);clear hb;obtain⟨_,_,_,_,_,_,_,_,_,_⟩:=cz5_ BKg1.out;obtain⟨_,_,_,_,_,_,_,_,_,_⟩:=cz5_ BKg2.out;obtain⟨_,_,_,_,_,_,_,_⟩:=cz4_ BKg7.out;obtain⟨_,_,_,_,_,_,_,_,_,_⟩:=cz5_ BKg8.out))|((go_at_call 84;(with_reducible refine(zbZ g7 (.slice As ns.length zn) (.slice At cs.length zc) ks (es) (negP ks).1 (negP ks).2 w _ GEg7.out ?s1 ?s2).mono ?_);(case s1=>exact kq58);(case s2=>exact kq59 BKg7);rintro e bQ ⟨rfl,hg,hk,hb⟩;replace BKg1:=mk (hk.blk (kq45 BKg1) ne_g1g7 (by simp));replace BKg2:=mk (hk.blk (kq45 BKg2) ne_g2g7 (by simp));replace BKg8:=mk (hk.blk (kq45 BKg8) ne_g8g7 (by simp));replace HP:=mk (Kd.R_mono (Kd.R_keep (Kd.R_types zc6 (kq45 BKg7) kq2) hk (fun _ h=>h.2)) (fun _ _=>trivial));replace HQ:=mk (Kd.R_mono (Kd.R_keep (Kd.R_types zdo (kq45 BKg7) kq2) hk (fun _ h=>h.2)) (fun _ _=>trivial));replace BKg7:=mk (hg);replace HB:=mk (hb);clear hg hk hb;obtain⟨_,_,_,_,_,_,_,_,_,_⟩:=cz5_ BKg1.out;obtain⟨_,_,_,_,_,_,_,_,_,_⟩:=cz5_ BKg2.out;obtain⟨_,_,_,_,_,_,_,_⟩:=cz4_ BKg7.out;obtain⟨_,_,_,_,_,_,_,_,_,_⟩:=cz5_ BKg8.out)))
       go_meet
       case rel=>exact⟨⟨(zaj (kq45 BKg1) NBg1g8.out _)⟩,⟨(zaj (kq45 BKg2) NBg2g8.out _)⟩,⟨(zaj (kq45 BKg7) NBg7g8.out _)⟩,⟨(zak (kq45 BKg8) 3 _ rfl)⟩,⟨Kd.R_mono (Kd.R_far (p:=⟨g8,3,none⟩) (Kd.R_types zc6 BKg8.out kq2) (fun _ h=>h.2) _) (fun _ _=>trivial)⟩,⟨Kd.R_mono (Kd.R_far (p:=⟨g8,3,none⟩) (Kd.R_types zdo BKg8.out kq2) (fun _ h=>h.2) _) (fun _ _=>trivial)⟩,⟨(zav kq43 GEg8.out)⟩⟩
      case rest=>
       clear BKg1 BKg2 BKg7 BKg8 HP HQ HB
       obtain⟨BKg1,BKg2,BKg7,BKg8,HP,HQ,HB⟩:=hcut
       obtain⟨_,_,_,_,_,_,_,_,_,_⟩:=cz5_ BKg1.out
       obtain⟨_,_,_,_,_,_,_,_,_,_⟩:=cz5_ BKg2.out
       obtain⟨_,_,_,_,_,_,_,_⟩:=cz4_ BKg7.out
       obtain⟨_,_,_,_,_,_,_,_,_,_⟩:=cz5_ BKg8.out
       go_upto_block 0 with fail
       go_cut [] (fun wi=>∃aD:Value,Aside0 (wi.heap[g1]?=some (.cells #[.int .i64 op,.string nm,.int .i64 md,.slice A3 l3.length c3,.slice A4 l4.length c4] 39 (0,0)))∧Aside0 (wi.heap[g2]?=some (.cells #[.int .i64 0,.slice none 0 0,.slice none 0 0,.int .i64 0,.int .i64 0] 58 (0,0)))∧Aside0 (wi.heap[g7]?=some (.cells #[.slice As ns.length zn,aD,.int .i64 ks,.int .i64 (zcI op ks es)] 107 (0,0)))∧Aside0 (wi.heap[g8]?=some (.cells #[.int .i64 (zdn op),.slice As ns.length zn,.slice At (zcD op md cs).length zc,.int .i64 (zcC op md ks),.int .i64 md] 58 (0,0)))∧Aside0 (Kd.R Kd.string 9 wi w.heap.size (fun _=>True) (.slice As ns.length zn) (ns))∧Aside0 (Kd.R (Kd.int .i64) 2 wi w.heap.size (fun _=>True) (.slice At (zcD op md cs).length zc) (zcD op md cs))∧Aside0 (Below w.heap.size w wi))
       case first=>
        by_cases hop10:op=10
        ·have eop10_:(op==10)=true:=beq_iff_eq.mpr hop10
         have HK_:=mk (show zdn op=0 by unfold zdn;simp [*])
         have HB_:=mk (show zcC op md ks=(subP (negP ks).1 1).1 by unfold zcC;simp [*])
         have HE_:=mk (show zcI op ks es=zbu (zbu es (negP ks).2) (subP (negP ks).1 1).2 by unfold zcI;simp [*])
         have HC_:=mk (show zcD op md cs=cs by unfold zcD;simp [*])
         (try clear hop10)
         (try clear hop12)
         (try clear hop13)
         (try clear hop14)
         (try clear hop15)
         go_wp2_with (first|((go_at_call 83;(with_reducible refine(zcq.calls (negP ks).1 1 _ _ _ (zfM (negP ks).1 1)).mono ?_);rintro e be ⟨rfl,hd⟩;have hb:=hd.below;clear hd;replace BKg1:=(bc_ BKg1 hb (kq45 BKg1));replace BKg2:=(bc_ BKg2 hb (kq45 BKg2));replace BKg7:=(bc_ BKg7 hb (kq45 BKg7));replace BKg8:=(bc_ BKg8 hb (kq45 BKg8));replace HP:=mk (Kd.R_below zc6 hb);replace HQ:=mk (Kd.R_below zdo hb);replace HB:=mk (zaa kq43 hb);clear hb;obtain⟨_,_,_,_,_,_,_,_,_,_⟩:=cz5_ BKg1.out;obtain⟨_,_,_,_,_,_,_,_,_,_⟩:=cz5_ BKg2.out;obtain⟨_,_,_,_,_,_,_,_⟩:=cz4_ BKg7.out;obtain⟨_,_,_,_,_,_,_,_,_,_⟩:=cz5_ BKg8.out))|((go_at_call 84;(with_reducible refine(zbZ g7 (.slice As ns.length zn) (.slice At cs.length zc) ks (zbu es (negP ks).2) (subP (negP ks).1 1).1 (subP (negP ks).1 1).2 w _ GEg7.out ?s1 ?s2).mono ?_);(case s1=>exact kq58);(case s2=>exact kq59 BKg7);rintro e ai ⟨rfl,hg,hk,hb⟩;replace BKg1:=mk (hk.blk (kq45 BKg1) ne_g1g7 (by simp));replace BKg2:=mk (hk.blk (kq45 BKg2) ne_g2g7 (by simp));replace BKg8:=mk (hk.blk (kq45 BKg8) ne_g8g7 (by simp));replace HP:=mk (Kd.R_mono (Kd.R_keep (Kd.R_types zc6 (kq45 BKg7) kq2) hk (fun _ h=>h.2)) (fun _ _=>trivial));replace HQ:=mk (Kd.R_mono (Kd.R_keep (Kd.R_types zdo (kq45 BKg7) kq2) hk (fun _ h=>h.2)) (fun _ _=>trivial));replace BKg7:=mk (hg);replace HB:=mk (hb);clear hg hk hb;obtain⟨_,_,_,_,_,_,_,_,_,_⟩:=cz5_ BKg1.out;obtain⟨_,_,_,_,_,_,_,_,_,_⟩:=cz5_ BKg2.out;obtain⟨_,_,_,_,_,_,_,_⟩:=cz4_ BKg7.out;obtain⟨_,_,_,_,_,_,_,_,_,_⟩:=cz5_ BKg8.out)))
         go_meet
         case rel=>exact⟨.slice At cs.length zc,⟨(zaj (kq45 BKg1) NBg1g8.out _)⟩,⟨(zaj (kq45 BKg2) NBg2g8.out _)⟩,⟨(ziN BKg7 NBg7g8)⟩,⟨(zjK HC_ BKg8)⟩,⟨Kd.R_mono (Kd.R_far (p:=⟨g8,3,none⟩) (Kd.R_types zc6 BKg8.out kq2) (fun _ h=>h.2) _) (fun _ _=>trivial)⟩,⟨(zjL HC_ BKg8)⟩,⟨(zav kq43 GEg8.out)⟩⟩
        ·have eop10_:(op==10)=false:=beq_eq_false_iff_ne.mpr hop10
         by_cases hop12:op=12
         ·have eop12_:(op==12)=true:=beq_iff_eq.mpr hop12
          have HK_:=mk (show zdn op=0 by unfold zdn;simp [*])
          have HB_:=mk (show zcC op md ks=(subP (negP ks).1 1).1 by unfold zcC;simp [*])
          have HE_:=mk (show zcI op ks es=zbu (zbu es (negP ks).2) (subP (negP ks).1 1).2 by unfold zcI;simp [*])
          have HC_:=mk (show zcD op md cs=cs by unfold zcD;simp [*])
          (try clear hop10)
          (try clear hop12)
          (try clear hop13)
          (try clear hop14)
          (try clear hop15)
          go_wp2_with (first|((go_at_call 83;(with_reducible refine(zcq.calls (negP ks).1 1 _ _ _ (zfM (negP ks).1 1)).mono ?_);rintro e be ⟨rfl,hd⟩;have hb:=hd.below;clear hd;replace BKg1:=(bc_ BKg1 hb (kq45 BKg1));replace BKg2:=(bc_ BKg2 hb (kq45 BKg2));replace BKg7:=(bc_ BKg7 hb (kq45 BKg7));replace BKg8:=(bc_ BKg8 hb (kq45 BKg8));replace HP:=mk (Kd.R_below zc6 hb);replace HQ:=mk (Kd.R_below zdo hb);replace HB:=mk (zaa kq43 hb);clear hb;obtain⟨_,_,_,_,_,_,_,_,_,_⟩:=cz5_ BKg1.out;obtain⟨_,_,_,_,_,_,_,_,_,_⟩:=cz5_ BKg2.out;obtain⟨_,_,_,_,_,_,_,_⟩:=cz4_ BKg7.out;obtain⟨_,_,_,_,_,_,_,_,_,_⟩:=cz5_ BKg8.out))|((go_at_call 84;(with_reducible refine(zbZ g7 (.slice As ns.length zn) (.slice At cs.length zc) ks (zbu es (negP ks).2) (subP (negP ks).1 1).1 (subP (negP ks).1 1).2 w _ GEg7.out ?s1 ?s2).mono ?_);(case s1=>exact kq58);(case s2=>exact kq59 BKg7);rintro e ai ⟨rfl,hg,hk,hb⟩;replace BKg1:=mk (hk.blk (kq45 BKg1) ne_g1g7 (by simp));replace BKg2:=mk (hk.blk (kq45 BKg2) ne_g2g7 (by simp));replace BKg8:=mk (hk.blk (kq45 BKg8) ne_g8g7 (by simp));replace HP:=mk (Kd.R_mono (Kd.R_keep (Kd.R_types zc6 (kq45 BKg7) kq2) hk (fun _ h=>h.2)) (fun _ _=>trivial));replace HQ:=mk (Kd.R_mono (Kd.R_keep (Kd.R_types zdo (kq45 BKg7) kq2) hk (fun _ h=>h.2)) (fun _ _=>trivial));replace BKg7:=mk (hg);replace HB:=mk (hb);clear hg hk hb;obtain⟨_,_,_,_,_,_,_,_,_,_⟩:=cz5_ BKg1.out;obtain⟨_,_,_,_,_,_,_,_,_,_⟩:=cz5_ BKg2.out;obtain⟨_,_,_,_,_,_,_,_⟩:=cz4_ BKg7.out;obtain⟨_,_,_,_,_,_,_,_,_,_⟩:=cz5_ BKg8.out)))
          go_meet
          case rel=>exact⟨.slice At cs.length zc,⟨(zaj (kq45 BKg1) NBg1g8.out _)⟩,⟨(zaj (kq45 BKg2) NBg2g8.out _)⟩,⟨(ziN BKg7 NBg7g8)⟩,⟨(zjK HC_ BKg8)⟩,⟨Kd.R_mono (Kd.R_far (p:=⟨g8,3,none⟩) (Kd.R_types zc6 BKg8.out kq2) (fun _ h=>h.2) _) (fun _ _=>trivial)⟩,⟨(zjL HC_ BKg8)⟩,⟨(zav kq43 GEg8.out)⟩⟩
         ·have eop12_:(op==12)=false:=beq_eq_false_iff_ne.mpr hop12
          by_cases hop13:op=13
          ·have eop13_:(op==13)=true:=beq_iff_eq.mpr hop13
           have HK_:=mk (show zdn op=1 by unfold zdn;simp [*])
           have HB_:=mk (show zcC op md ks=(negP ks).1 by unfold zcC;simp [*])
           have HE_:=mk (show zcI op ks es=zbu es (negP ks).2 by unfold zcI;simp [*])
           have HC_:=mk (show zcD op md cs=cs by unfold zcD;simp [*])
           (try clear hop10)
           (try clear hop12)
           (try clear hop13)
           (try clear hop14)
           (try clear hop15)
           go_wp2
           go_meet
           case rel=>exact⟨.slice At cs.length zc,⟨(zaj (kq45 BKg1) NBg1g8.out _)⟩,⟨(zaj (kq45 BKg2) NBg2g8.out _)⟩,⟨(ziN BKg7 NBg7g8)⟩,⟨(zjM HC_ BKg8)⟩,⟨Kd.R_mono (Kd.R_far (p:=⟨g8,0,none⟩) (Kd.R_types zc6 BKg8.out kq2) (fun _ h=>h.2) _) (fun _ _=>trivial)⟩,⟨(zjN HC_ BKg8)⟩,⟨(zav kq43 GEg8.out)⟩⟩
          ·have eop13_:(op==13)=false:=beq_eq_false_iff_ne.mpr hop13
           by_cases hop14:op=14
           ·have eop14_:(op==14)=true:=beq_iff_eq.mpr hop14
            have HK_:=mk (show zdn op=1 by unfold zdn;simp [*])
            have HB_:=mk (show zcC op md ks=(negP ks).1 by unfold zcC;simp [*])
            have HE_:=mk (show zcI op ks es=zbu es (negP ks).2 by unfold zcI;simp [*])
            have HC_:=mk (show zcD op md cs=cs by unfold zcD;simp [*])
            (try clear hop10)
            (try clear hop12)
            (try clear hop13)
            (try clear hop14)
            (try clear hop15)
            go_wp2
            go_meet
            case rel=>exact⟨.slice At cs.length zc,⟨(zaj (kq45 BKg1) NBg1g8.out _)⟩,⟨(zaj (kq45 BKg2) NBg2g8.out _)⟩,⟨(ziN BKg7 NBg7g8)⟩,⟨(zjM HC_ BKg8)⟩,⟨Kd.R_mono (Kd.R_far (p:=⟨g8,0,none⟩) (Kd.R_types zc6 BKg8.out kq2) (fun _ h=>h.2) _) (fun _ _=>trivial)⟩,⟨(zjN HC_ BKg8)⟩,⟨(zav kq43 GEg8.out)⟩⟩
           ·have eop14_:(op==14)=false:=beq_eq_false_iff_ne.mpr hop14
            by_cases hop15:op=15
            ·have eop15_:(op==15)=true:=beq_iff_eq.mpr hop15
             have HK_:=mk (show zdn op=2 by unfold zdn;simp [*])
             have HB_:=mk (show zcC op md ks=(zdm (negP ks).1 md).1 by unfold zcC;simp [*])
             have HE_:=mk (show zcI op ks es=zbu es (negP ks).2 by unfold zcI;simp [*])
             have HC_:=mk (show zcD op md cs=cs.map (fun c=>(zdm c md).1) by unfold zcD;simp [*])
             (try clear hop10)
             (try clear hop12)
             (try clear hop13)
             (try clear hop14)
             (try clear hop15)
             go_wp2_with (first|((go_at_call 86;(with_reducible refine(zgn g8 2 (negP ks).1 md (.slice As ns.length zn) (.slice At cs.length zc) cs w _ GEg8.out ?s1 ?s2 ?s3 HL.out).mono ?_);(case s1=>exact(zav kq43 GEg8.out));(case s2=>exact(zak (kq45 BKg8) 0 _ rfl));(case s3=>exact Kd.R_mono (Kd.R_far (p:=⟨g8,0,none⟩) (Kd.R_types zdo BKg8.out kq2) (fun _ h=>h.2) _) (fun _ _=>trivial));rintro e al ⟨rfl,hg,hq,hk,hb⟩;replace BKg1:=mk (hk.blk (zaj (kq45 BKg1) NBg1g8.out _) ne_g1g8 (Kd.R_ne HQ.out BKg1.out kq2));replace BKg2:=mk (hk.blk (zaj (kq45 BKg2) NBg2g8.out _) ne_g2g8 (Kd.R_ne HQ.out BKg2.out kq2));replace BKg7:=mk (hk.blk (zaj (kq45 BKg7) NBg7g8.out _) ne_g7g8 (Kd.R_ne HQ.out BKg7.out kq2));replace HP:=mk (zjc HP.out BKg8.out kq2 HQ.out kq2 hk (by simp [World.setCell]) (fun i hi=>Below.heap_setCell _ _ _ i hi));replace BKg8:=mk (hg);replace HQ:=mk (hq);replace HB:=mk (hb);clear hg hq hk hb)))
             go_meet
             have hCl:(cs.map (fun c=>(zdm c md).1)).length=cs.length:=List.length_map _
             case rel=>exact⟨.slice At cs.length zc,BKg1,BKg2,⟨by rw[HE_.out];exact BKg7.out⟩,⟨by rw[HK_.out,HC_.out,HB_.out,hCl];exact BKg8.out⟩,HP,⟨by rw[HC_.out,hCl];exact HQ.out⟩,HB⟩
            ·have eop15_:(op==15)=false:=beq_eq_false_iff_ne.mpr hop15
             have HK_:=mk (show zdn op=0 by unfold zdn;simp [*])
             have HB_:=mk (show zcC op md ks=(negP ks).1 by unfold zcC;simp [*])
             have HE_:=mk (show zcI op ks es=zbu es (negP ks).2 by unfold zcI;simp [*])
             have HC_:=mk (show zcD op md cs=cs by unfold zcD;simp [*])
             (try clear hop10)
             (try clear hop12)
             (try clear hop13)
             (try clear hop14)
             (try clear hop15)
             go_wp2
             go_meet
             case rel=>exact⟨.slice At cs.length zc,⟨BKg1.out⟩,⟨BKg2.out⟩,⟨by rw[HE_.out];exact BKg7.out⟩,⟨by rw[HK_.out,HC_.out,HB_.out];exact BKg8.out⟩,⟨HP.out⟩,⟨by rw[HC_.out];exact HQ.out⟩,⟨HB.out⟩⟩
       case rest=>
        clear BKg1 BKg2 BKg7 BKg8 HP HQ HB
        obtain⟨aD,BKg1,BKg2,BKg7,BKg8,HP,HQ,HB⟩:=hcut
        have HCL:=mk (zfW op md cs)
        obtain⟨_,_,_,_,_,_,_,_,_,_⟩:=cz5_ BKg1.out
        obtain⟨_,_,_,_,_,_,_,_,_,_⟩:=cz5_ BKg2.out
        obtain⟨_,_,_,_,_,_,_,_⟩:=cz4_ BKg7.out
        obtain⟨_,_,_,_,_,_,_,_,_,_⟩:=cz5_ BKg8.out
        obtain⟨yl,hyl⟩:∃y_:List Int,y_=[(zcC op md ks)]++zcD op md cs:=⟨_,rfl⟩
        have HTY:=HTT.out
        rw[←hyl]at HTY
        have HTZ:=mk HTY
        have Ny:=mk hyl
        clear HTT HTY hyl
        go_upto_region 23 with(first|((with_reducible refine zao (N:=89) rfl ?_);refine Kd.R_lit (Kd.int .i64) _ 2 ?hg (N:=89) ?hd (xs:=([(zcC op md ks)]:List Int)) (inner:=[.int .i64 (zcC op md ks)]) (ok:=fun _=>True) (okp:=fun _=>True) ?hr ?hp (fun _ hk=>hk) trivial (Below.refl _ _) (Nat.le_refl _) (by simp) ?_;(case hd=>rfl);(case hg=>rfl);(case hr=>exact kq21);(case hp=>exact(Reps.one (show Kd.M (Kd.int .i64) _ _ _ (zcC op md ks) [.int .i64 (zcC op md ks)]from rfl) (Reps.none _ _)));intro bf b8 ho hb hg_ hnew_;clear hg_ hnew_;have HO:=mk (Kd.R_lower ho (zad HB.out));have HQ2:=mk (Kd.R_elder' HQ.out (Kd.R_base ho) hb);replace BKg1:=mk (zai BKg1.out hb);replace BKg2:=mk (zai BKg2.out hb);replace BKg7:=mk (zai BKg7.out hb);replace BKg8:=mk (zai BKg8.out hb);replace HP:=mk (Kd.R_below HP.out hb);replace HQ:=mk (Kd.R_below HQ.out hb);replace HB:=mk (zaa HB.out hb);clear hb ho;obtain⟨_,_,_,_,_,_,_,_,_,_⟩:=cz5_ BKg1.out;obtain⟨_,_,_,_,_,_,_,_,_,_⟩:=cz5_ BKg2.out;obtain⟨_,_,_,_,_,_,_,_⟩:=cz4_ BKg7.out;obtain⟨_,_,_,_,_,_,_,_,_,_⟩:=cz5_ BKg8.out)|((with_reducible refine zbV (b:=.append) (xs:=#[.tmp 89,.tmp 91]) rfl ?_);at_builtin;refine Kd.R_append_rows (Kd.int .i64) (w0:=w) w.heap.size rfl (.tmp 89) (.tmp 91) 55 2 (.int .i64 0) 8 rfl Try.underlying55 zgq rfl kq2 kq1 bf ([(zcC op md ks)]:List Int) (zcD op md cs) _ _ _ (fun _=>True) (fun _=>False) rfl rfl ?aO ?aR (fun _ _ h=>h) (fun _ h=>h.elim) ?aF ?aB ?aS ?aL ?_;(case aR=>exact(Kd.R_reads' HQ.out).2.2);(case aB=>exact HB.out);(case aF=>exact(fun _ _=>trivial));(case aO=>exact HO.out);(case aS=>exact zad HB.out);(case aL=>have:=HCL.out;have:=HL.out;simp only[List.length_cons,List.length_nil];omega);intro bR b9 ho hb hg hat;rw[←Ny.out]at ho;replace BKg1:=mk (zaJ BKg1.out hg (Kd.R_ne HO.out BKg1.out kq2));replace BKg2:=mk (zaJ BKg2.out hg (Kd.R_ne HO.out BKg2.out kq2));replace BKg7:=mk (zaJ BKg7.out hg (Kd.R_ne HO.out BKg7.out kq2));replace BKg8:=mk (zaJ BKg8.out hg (Kd.R_ne HO.out BKg8.out kq2));replace HP:=mk (Kd.R_over HP.out HO.out kq2 hg);replace HQ:=mk (Kd.R_mono (Kd.R_after HQ2.out hg hat) (fun _ _=>trivial));replace HO:=mk (ho);replace HB:=mk (hb);clear HQ2 ho hb hg hat;obtain⟨bg,bh,bi⟩:=Kd.R_slice HO.out;subst bi;obtain⟨_,_,_,_,_,_,_,_,_,_⟩:=cz5_ BKg1.out;obtain⟨_,_,_,_,_,_,_,_,_,_⟩:=cz5_ BKg2.out;obtain⟨_,_,_,_,_,_,_,_⟩:=cz4_ BKg7.out;obtain⟨_,_,_,_,_,_,_,_,_,_⟩:=cz5_ BKg8.out)|((go_at_call 87;(with_reducible refine(zbp.calls k bg bh yl tt te _ ?s1 ?s2 HTZ.out).mono ?_);(case s1=>exact(Kd.R_reads' HO.out).2.2);(case s2=>exact(Kd.R_reads' HO.out).2.1);rintro e ao ⟨rfl,hd⟩;have hb:=hd.below;clear hd HO;replace BKg1:=(bc_ BKg1 hb (kq45 BKg1));replace BKg2:=(bc_ BKg2 hb (kq45 BKg2));replace BKg7:=(bc_ BKg7 hb (kq45 BKg7));replace BKg8:=(bc_ BKg8 hb (kq45 BKg8));replace HP:=mk (Kd.R_below zc6 hb);replace HQ:=mk (Kd.R_below zdo hb);replace HB:=mk (zaa kq43 hb);clear hb;obtain⟨_,_,_,_,_,_,_,_,_,_⟩:=cz5_ BKg1.out;obtain⟨_,_,_,_,_,_,_,_,_,_⟩:=cz5_ BKg2.out;obtain⟨_,_,_,_,_,_,_,_⟩:=cz4_ BKg7.out;obtain⟨_,_,_,_,_,_,_,_,_,_⟩:=cz5_ BKg8.out))|((go_at_call 84;(with_reducible refine(zbZ g7 (.slice As ns.length zn) aD ks (zcI op ks es) tt te w _ GEg7.out ?s1 ?s2).mono ?_);(case s1=>exact kq58);(case s2=>exact kq59 BKg7);rintro e am ⟨rfl,hg,hk,hb⟩;replace BKg1:=mk (hk.blk (kq45 BKg1) ne_g1g7 (by simp));replace BKg2:=mk (hk.blk (kq45 BKg2) ne_g2g7 (by simp));replace BKg8:=mk (hk.blk (kq45 BKg8) ne_g8g7 (by simp));replace HP:=mk (Kd.R_mono (Kd.R_keep (Kd.R_types zc6 (kq45 BKg7) kq2) hk (fun _ h=>h.2)) (fun _ _=>trivial));replace HQ:=mk (Kd.R_mono (Kd.R_keep (Kd.R_types zdo (kq45 BKg7) kq2) hk (fun _ h=>h.2)) (fun _ _=>trivial));replace BKg7:=mk (hg);replace HB:=mk (hb);clear hg hk hb;obtain⟨_,_,_,_,_,_,_,_,_,_⟩:=cz5_ BKg1.out;obtain⟨_,_,_,_,_,_,_,_,_,_⟩:=cz5_ BKg2.out;obtain⟨_,_,_,_,_,_,_,_⟩:=cz4_ BKg7.out;obtain⟨_,_,_,_,_,_,_,_,_,_⟩:=cz5_ BKg8.out)))
        by_cases hz:zbu (zcI op ks es) te=0
        ·have hz0:(zbu (zcI op ks es) te != 0)=false:=bne_eq_false_iff_eq.mpr hz
         have hR:zfq op md ns cs ks es te=(zdn op,ns,zcD op md cs,zcC op md ks,md,0):=if_pos hz
         clear hz
         go_wp2
         refine bodyPost_ret (zdh rfl _ _ g2 58 #[.int .i64 (zdn op),.slice As ns.length zn,.slice At (zcD op md cs).length zc,.int .i64 (zcC op md ks),.int .i64 md] (0,0) _ rfl (zak (zak (zak (zak (zak (kq45 BKg2) 0 _ rfl) 1 _ rfl) 2 _ rfl) 3 _ rfl) 4 _ rfl) Try.underlying58 rfl kq0) rfl ?_
         rw[hR]
         exact⟨_,_,rfl,Kd.R_mono (Kd.R_far (p:=⟨g2,4,none⟩) (Kd.R_far (p:=⟨g2,3,none⟩) (Kd.R_far (p:=⟨g2,2,none⟩) (Kd.R_far (p:=⟨g2,1,none⟩) (Kd.R_far (p:=⟨g2,0,none⟩) (Kd.R_types zc6 BKg2.out kq2) (fun _ h=>h.2) _) (fun _ h=>h.2) _) (fun _ h=>h.2) _) (fun _ h=>h.2) _) (fun _ h=>h.2) _) (fun _ _=>trivial),Kd.R_mono (Kd.R_far (p:=⟨g2,4,none⟩) (Kd.R_far (p:=⟨g2,3,none⟩) (Kd.R_far (p:=⟨g2,2,none⟩) (Kd.R_far (p:=⟨g2,1,none⟩) (Kd.R_far (p:=⟨g2,0,none⟩) (Kd.R_types zdo BKg2.out kq2) (fun _ h=>h.2) _) (fun _ h=>h.2) _) (fun _ h=>h.2) _) (fun _ h=>h.2) _) (fun _ h=>h.2) _) (fun _ _=>trivial),(zav (zav (zav (zav (zav kq43 GEg2.out) GEg2.out) GEg2.out) GEg2.out) GEg2.out)⟩
        ·have hz0:(zbu (zcI op ks es) te != 0)=true:=bne_iff_ne.mpr hz
         have hR:zfq op md ns cs ks es te=(0,[],[],0,0,zbu (zcI op ks es) te):=if_neg hz
         clear hz
         go_upto_region 24 with fail
         refine zbv (n:=5) (S:=fun w'=>w'.cell? ⟨g7,3,none⟩=some (.int .i64 (zbu (zcI op ks es) te))) (ds:=[]) #[false,false,false,false,false] kq0 rfl rfl (bk_ BKg7 3) (fun hHeld=>?_)
         replace BKg2:Aside0 (am.drew.heap[g2]?=some (.cells #[.int .i64 0,.slice none 0 0,.slice none 0 0,.int .i64 0,.int .i64 0] 58 (0,0))):=⟨BKg2.out⟩
         replace BKg7:Aside0 (am.drew.heap[g7]?=some (.cells #[.slice As ns.length zn,aD,.int .i64 ks,.int .i64 (zbu (zcI op ks es) te)] 107 (0,0))):=⟨BKg7.out⟩
         replace HB:Aside0 (Below w.heap.size w am.drew):=⟨zaP HB.out⟩
         generalize am.drew=w64 at BKg2 BKg7 HB hHeld ⊢
         refine pu_ 0 100 ?_
         refine pu_ 1 101 ?_
         refine ta_ 2 102 hHeld ?_
         obtain⟨_,_,_,_,_,_,_,_,_,_⟩:=cz5_ BKg2.out
         refine one_ (i:=3) (N:=none) #[true,true,true,true,false] rfl rfl kq0 kq2 (fun K hK=>?_)
         refine zbO (w1:=?_) (by rfl) rfl ?_ ?_
         rotate_left
         ·go_simp
          rfl
         refine hK.out _ _ ((za1 (zaj (zaj (zaj (zaj (zaj BKg7.out NBg7g2.out _) NBg7g2.out _) NBg7g2.out _) NBg7g2.out _) NBg7g2.out _) 3).trans rfl) (fun hHeld=>?_)
         clear hK K
         refine pu_ 4 3 ?_
         refine zbC kq0 ?_
         try go_wp2
         refine bodyPost_ret (zdh rfl _ _ g2 58 #[.int .i64 0,.slice none 0 0,.slice none 0 0,.int .i64 0,.int .i64 0] (0,0) _ rfl (zak (zak (zak (zak (zak (kq45 BKg2) 0 _ rfl) 1 _ rfl) 2 _ rfl) 3 _ rfl) 4 _ rfl) Try.underlying58 rfl kq0) rfl ?_
         rw[hR]
         exact⟨_,_,rfl,Kd.R_nil _ _ _ _ _,Kd.R_nil _ _ _ _ _,(zav (zav (zav (zav (zav kq43 GEg2.out) GEg2.out) GEg2.out) GEg2.out) GEg2.out)⟩
end Go.Proofs.Ytjknpmibdkoklaa.Q
