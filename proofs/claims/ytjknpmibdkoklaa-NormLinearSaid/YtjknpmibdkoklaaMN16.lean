/- Functions of the given program as Lean functions, each with its contract, and what they answer; words for it. No condition but those of each. -/
import Derived.Test.YtjknpmibdkoklaaMNS
import Derived.Test.YtjknpmibdkoklaaMNR
import Derived.Test.YtjknpmibdkoklaaMN14
import Derived.Test.YtjknpmibdkoklaaMN11
import Derived.LoopTactic
import Derived.Shelf.Abstract
import Derived.Test.YtjknpmibdkoklaaMN12
set_option linter.unusedVariables false
set_option linter.unusedSimpArgs false
set_option maxRecDepth 100000
namespace Go.Proofs.Ytjknpmibdkoklaa.Q
open Go.RowKit Go.Proofs.YtjknpmibdkoklaaW.PrintWords Go.Proofs.YtjknpmibdkoklaaW.PrintLast Go.Proofs.YtjknpmibdkoklaaW.PrintMore
open Aside0 (mk)
theorem rdI {l:List Int} {i:Nat} (h:i<l.length):rd l (i:Int)=l[i]:=by unfold rd;rw[Int.toNat_natCast,List.getD_eq_getElem?_getD,List.getElem?_eq_getElem h];rfl
def zbx (c:Int):Bool:=decide (-9223372036854775808≤c∧c≤9223372036854775807)
theorem zcb {c:Int} (h:zbx c=true):In64 c:=of_decide_eq_true h
def errT (n er:Int):List Int→Int
 | []=>er
 |c::l=>errT n (zcB er (fit (c*n)).2) l
theorem zhI (n:Int) (l:List Int) (er:Int) (i:Nat) (h:i<l.length):errT n er (l.take (i+1))=zcB (errT n er (l.take i)) (fit (l[i]*n)).2:=by
 induction l generalizing er i with
 |nil=>exact absurd h (Nat.not_lt_zero _)
 |cons c l ih=>
  cases i with
  |zero=>rfl
  |succ i=>exact ih _ i (by simpa using h)
def fitL (n:Int) (l:List Int):List Int:=l.map fun c=>(fit (c*n)).1
theorem zhJ (n:Int) (l:List Int) (i:Nat) (h:i<l.length):fitL n (l.take (i+1))=fitL n (l.take i)++[(fit (l[i]*n)).1]:=by
 unfold fitL
 rw[List.take_succ_eq_append_getElem h,List.map_append]
 rfl
theorem zhK {c n:Int} (hc:In64 c) (hn:In64 n):∃k,zbt.f k c n=some ((fit (c*n)).1,(fit (c*n)).2):=(zhC hc hn).rounds
set_option maxHeartbeats 16000000 in
theorem zgc (G:Option Addr) (I:Nat) (J:List ByteArray) (A1:Option Addr) (c1:Nat) (f:List Int) (ko er n:Int) (w:World) (aa:Kd.C (Kd.int .i64) w A1 f.length f) (hc1:f.length≤c1) (hl:f.length≤1000000) (hn:In64 n) (hk:In64 ko) (Z:f.all zbx=true) :
 Calls Try.prog 128 #[.agg #[.slice G J.length I,.slice A1 f.length c1,.int .i64 ko,.int .i64 er],.int .i64 n] w fun e w'=>∃v1:Value,e= .returned (.agg #[.slice G J.length I,v1,.int .i64 (fit (ko*n)).1,.int .i64 (zcB (errT n 0 f) (fit (ko*n)).2)])∧Kd.R (Kd.int .i64) 2 w' w.heap.size (fun _=>True) v1 (fitL n f)∧Below w.heap.size w w':=by
 have ai:=Try.underlying74
 obtain⟨kk,hkk⟩:=zhK hk hn
 have HKK:=mk hkk
 have HMU:=mk (fun c (h:c ∈ f)=>zhK (zcb (List.all_eq_true.1 Z c h)) hn)
 have af:=mk aa
 have aj:=mk hc1
 have HLL:=mk hl
 have hlen1:=aa.2.1
 clear aa hc1 hl hn hk Z hkk
 generalize hpk:fit (ko*n)=pk at HKK
 obtain⟨pk1,pk2⟩:=pk
 clear hpk
 dsimp only at HKK ⊢
 have HB:=mk (Below.refl w.heap.size w)
 go_enter Try.func128,Try.ntmps128
 go_wp2_with (first|((with_reducible refine zao (N:=2) rfl ?_);refine zal ?hg (N:=2) ?hd (cs:=#[.slice G J.length I,.slice A1 f.length c1,.int .i64 ko,.int .i64 er]) (t:=74) ?hr ?_;(case hd=>rfl);(case hg=>rfl);(case hr=>exact kq21);intro g2 hg w2 hbox hb;have BKg2:=mk hbox;have GEg2:=mk (kq42:w.heap.size≤g2);replace HB:=mk (zaa kq43 hb);clear hb hbox hg;obtain⟨_,_,_,_,_,_,_,_⟩:=cz4_ BKg2.out)|((with_reducible refine zao (N:=4) rfl ?_);refine zal ?hg (N:=4) ?hd (cs:=#[.slice none 0 0,.slice none 0 0,.int .i64 0,.int .i64 0]) (t:=74) ?hr ?_;(case hd=>rfl);(case hg=>rfl);(case hr=>exact kq21);intro D hg w4 hbox hb;have BKg4:=mk hbox;have GEg4:=mk (kq42:w.heap.size≤D);have NBg2g4:=mk ((kq44 BKg2):g2≠D);have NBg4g2:=mk ((kq46 BKg2):D≠g2);replace BKg2:=(bc_ BKg2 hb (kq45 BKg2));replace HB:=mk (zaa kq43 hb);clear hb hbox hg;have ne_g2g4:=NBg2g4.out;have ne_g4g2:=NBg4g2.out;obtain⟨_,_,_,_,_,_,_,_⟩:=cz4_ BKg2.out;obtain⟨_,_,_,_,_,_,_,_⟩:=cz4_ BKg4.out)|((with_reducible refine zao (N:=5) rfl ?_);refine zal ?hg (N:=5) ?hd (cs:=#[.slice none 0 0,.slice none 0 0,.int .i64 0,.int .i64 0]) (t:=74) ?hr ?_;(case hd=>rfl);(case hg=>rfl);(case hr=>exact kq21);intro r hg w5 hbox hb;have BKg5:=mk hbox;have GEg5:=mk (kq42:w.heap.size≤r);have NBg2g5:=mk ((kq47 BKg2 NBg2g4):g2≠r);have NBg5g2:=mk ((kq49 BKg2 NBg2g4):r≠g2);have NBg4g5:=mk ((kq47 BKg4 NBg4g2):D≠r);have NBg5g4:=mk ((kq49 BKg4 NBg4g2):r≠D);replace BKg2:=(bc_ BKg2 hb (kq48 BKg2 NBg2g4));replace BKg4:=(bc_ BKg4 hb (kq48 BKg4 NBg4g2));replace HB:=mk (zaa kq43 hb);clear hb hbox hg;have ne_g2g5:=NBg2g5.out;have ne_g5g2:=NBg5g2.out;have ne_g4g5:=NBg4g5.out;have ne_g5g4:=NBg5g4.out;obtain⟨_,_,_,_,_,_,_,_⟩:=cz4_ BKg2.out;obtain⟨_,_,_,_,_,_,_,_⟩:=cz4_ BKg4.out;obtain⟨_,_,_,_,_,_,_,_⟩:=cz4_ BKg5.out))
 go_loopg [6] f.length (fun gq v6 wr=>∃(i:Nat) (vc:Value),v6= .int .i64 i∧Aside0 (i≤f.length)∧Aside0 (f.length-i≤gq)∧Aside0 (wr.heap[r]?=some (.cells #[.slice G J.length I,vc,.int .i64 0,.int .i64 (errT n 0 (f.take i))] 74 (0,0)))∧Aside0 (Kd.R (Kd.int .i64) 2 wr w.heap.size (fun _=>True) vc (fitL n (f.take i)))∧Aside0 (wr.heap[g2]?=some (.cells #[.slice G J.length I,.slice A1 f.length c1,.int .i64 ko,.int .i64 er] 74 (0,0)))∧Aside0 (wr.heap[D]?=some (.cells #[.slice none 0 0,.slice none 0 0,.int .i64 0,.int .i64 0] 74 (0,0)))∧Aside0 (Below w.heap.size w wr))
 case atStart=>exact⟨0,.slice none 0 0,rfl,⟨Nat.zero_le _⟩,⟨kq1⟩,⟨zak (zak (zak (zak BKg5.out 0 _ rfl) 1 _ rfl) 2 _ rfl) 3 _ rfl⟩,⟨kq60⟩,⟨(kq48 BKg2 NBg2g5)⟩,⟨(kq48 BKg4 NBg4g5)⟩,⟨(kq53 GEg5)⟩⟩
 case round=>
  clear BKg5 BKg2 BKg4 HB
  obtain⟨i,vc,rfl,HI,HQ,BKg5,HRc,BKg2,BKg4,HB⟩:=hrel
  by_cases hi:i<f.length
  ·have hiz:(i:Int)<(f.length:Int):=by omega
   have ag:(0:Int)≤(i:Int):=by omega
   obtain⟨ad,ead,hx⟩:=Kd.at_int af.out (i:Int) ag hiz
   cases ead
   rw[Int.toNat_natCast,rdI hi]at hx
   replace hx:=(HB.out.cell (World.block_lt_of_cell? _ _ hx)).trans hx
   have HE:=mk (zhI n f 0 i hi)
   have HM:=mk (zhJ n f i hi)
   have HLT:=mk (show(fitL n (f.take i)).length≤1000000 by have:=HLL.out;unfold fitL;rw[List.length_map,List.length_take];omega)
   obtain⟨kx,hkx⟩:=HMU.out f[i] (List.getElem_mem hi)
   have HX:=mk hkx
   clear hkx
   generalize f[i]=c at hx HE HM HX
   generalize hp:fit (c*n)=p at HE HM HX
   obtain⟨p1,p2⟩:=p
   clear hp
   dsimp only at HE HM HX
   obtain⟨_,_,_,_,_,_,_,_⟩:=cz4_ BKg2.out
   go_wp2_with (first|((go_at_call 167;(with_reducible refine(zbt.calls kx c n p1 p2 _ HX.out).mono ?_);rintro e w6 ⟨rfl,hb⟩;replace BKg2:=(bc_ BKg2 hb (kq45 BKg2));replace BKg4:=(bc_ BKg4 hb (kq45 BKg4));replace BKg5:=(bc_ BKg5 hb (kq45 BKg5));replace HRc:=mk (Kd.R_below (kq56 HRc) hb);replace HB:=mk (zaa kq43 hb);clear hb)))
   refine zbv (n:=9) (S:=fun w'=>w'.cell? ⟨r,1,none⟩=some vc) (ds:=[8]) #[false,false,false,false,false,false,false,false,false] kq0 rfl rfl (bk_ BKg5 1) (fun hHeld=>?_)
   replace BKg2:Aside0 (w6.drew.heap[g2]?=some (.cells #[.slice G J.length I,.slice (some ad) f.length c1,.int .i64 ko,.int .i64 er] 74 (0,0))):=⟨BKg2.out⟩
   replace BKg4:Aside0 (w6.drew.heap[D]?=some (.cells #[.slice none 0 0,.slice none 0 0,.int .i64 0,.int .i64 0] 74 (0,0))):=⟨BKg4.out⟩
   replace BKg5:Aside0 (w6.drew.heap[r]?=some (.cells #[.slice G J.length I,vc,.int .i64 0,.int .i64 (errT n 0 (f.take i))] 74 (0,0))):=⟨BKg5.out⟩
   replace HRc:Aside0 (Kd.R (Kd.int .i64) 2 w6.drew w.heap.size (fun _=>True) vc (fitL n (f.take i))):=⟨HRc.out⟩
   replace HB:Aside0 (Below w.heap.size w w6.drew):=⟨zaP HB.out⟩
   generalize w6.drew=w9 at BKg2 BKg4 BKg5 HRc HB hHeld ⊢
   refine pu_ 0 31 ?_
   refine pu_ 2 33 ?_
   refine pu_ 3 34 ?_
   refine ta_ 1 32 hHeld ?_
   refine on_ 4 35 (fun K hK=>?_)
   refine zbj Try.func93 kq0 rfl #[.pointer (some ⟨r,0,none⟩),.int .i64 p1,.int .i64 p2] (by rfl) rfl rfl kq54 ?_
   refine(zcF r (.slice G J.length I) vc 0 (errT n 0 (f.take i)) p1 p2 w _ GEg5.out HB.out BKg5.out).mono ?_
   rintro e ac ⟨rfl,hg,hk,hb⟩
   refine⟨_,rfl,?_⟩
   have L:=mk (hk.blk BKg2.out ne_g2g5 (by simp))
   have M:=mk (hk.blk BKg4.out ne_g4g5 (by simp))
   have U:=mk (Kd.R_mono (Kd.R_keep (Kd.R_types HRc.out BKg5.out kq2) hk (fun _ h=>h.2)) (fun _ h=>h.1))
   have X:=mk (hg)
   have Y:=mk (hb)
   clear BKg2 BKg4 HRc BKg5 HB
   have BKg2:=L
   have BKg4:=M
   have HRc:=U
   have BKg5:=X
   have HB:=Y
   clear L M U X Y
   clear hg hk hb
   refine hK.out _ _ (bk_ BKg5 1) (fun hHeld=>?_)
   clear hK K
   refine za2 (a':=?_) ?_ ?_
   rotate_left
   ·show Act.put _ (some 35) _=_
    simp only[Act.put,List.setIfInBounds_toArray,List.set_cons_zero,List.set_cons_succ]
    rfl
   refine on_ 5 36 (fun K hK=>?_)
   refine zbU (v:=.slice (some ⟨ac.heap.size,0,none⟩) 1 1) (w1:=ac.alloc (.cells #[.int .i64 p1] 2)) (by rfl) rfl ?_ ?_
   ·go_simp
    all_goals first|done|rfl|exact⟨rfl,rfl⟩
   refine hK.out _ _ ((za1 (zab BKg5.out _) 1).trans rfl) (fun hHeld=>?_)
   clear hK K
   refine za2 (a':=?_) ?_ ?_
   rotate_left
   ·show Act.put _ (some 36) _=_
    simp only[Act.put,List.setIfInBounds_toArray,List.set_cons_zero,List.set_cons_succ]
    rfl
   refine on_ 6 37 (fun K hK=>?_)
   refine Kd.R_append_step (Kd.int .i64) (w0:=w) w.heap.size (by rfl) (.tmp 32) (.tmp 36) 55 2 (.int .i64 0) 8 (by rfl) Try.underlying55 zgq rfl kq2 kq2 vc (fitL n (f.take i)) p1 [.int .i64 p1] (fun _=>True) (fun _=>False) (by rfl) (by rfl) rfl (fun _ hk=>hk.elim) (fun _ _=>trivial) HRc.out HB.out (zad HB.out) (by have:=HLT.out;omega) ?_
   intro v8 ah ab hb8 hg8 hat8
   obtain⟨A8,c8,ev8⟩:=Kd.R_slice ab
   subst ev8
   have L:=mk (zaJ BKg2.out hg8 (Kd.R_ne HRc.out BKg2.out kq2))
   have M:=mk (zaJ BKg4.out hg8 (Kd.R_ne HRc.out BKg4.out kq2))
   have U:=mk (zaJ BKg5.out hg8 (Kd.R_ne HRc.out BKg5.out kq2))
   have X:=mk (ab)
   have Y:=mk (hb8)
   clear BKg2 BKg4 BKg5 HRc HB
   have BKg2:=L
   have BKg4:=M
   have BKg5:=U
   have HRc:=X
   have HB:=Y
   clear L M U X Y
   clear ab hb8 hg8 hat8
   refine hK.out _ _ (bk_ BKg5 1) (fun hHeld=>?_)
   clear hK K
   refine za2 (a':=?_) ?_ ?_
   rotate_left
   ·show Act.put _ (some 37) _=_
    simp only[Act.put,List.setIfInBounds_toArray,List.set_cons_zero,List.set_cons_succ]
    rfl
   refine pu_ 7 38 ?_
   have ak:ah.cell? ⟨r,1,none⟩=some vc:=bk_ BKg5 1
   have al:=zaD BKg5.out 1
   refine zb4 (i:=8) (N:=none) #[true,true,true,true,true,true,true,true,true] rfl rfl kq0 kq2 (fun K hK=>?_)
   refine zbO (w1:=?_) (by rfl) rfl ?_ ?_
   rotate_left
   ·go_simp
    rfl
   refine hK.out _ _ ?_
   clear hK K
   refine zbC kq0 ?_
   try go_wp2
   go_roundg (f.length-(i+1))
   case measure=>have:=HQ.out;omega
   case rel=>
    have ae:=HRc.out
    rw[List.length_append,List.length_singleton,←HM.out]at ae
    exact⟨i+1,.slice A8 ((fitL n (f.take i)).length+1) c8,(kq64 HLL),⟨kq1⟩,⟨kq1⟩,⟨by rw[HE.out];exact zak BKg5.out 1 _ rfl⟩,⟨Kd.R_set ae BKg5.out kq2 1 _⟩,⟨zaj BKg2.out ne_g2g5 _⟩,⟨zaj BKg4.out ne_g4g5 _⟩,⟨zav HB.out GEg5.out⟩⟩
  ·have hiz:¬(i:Int)<(f.length:Int):=by omega
   have hil:i=f.length:=by have:=HI.out;omega
   have HX:=mk (show errT n 0 (f.take i)=errT n 0 f by rw[hil,List.take_length])
   have HY:=mk (show fitL n (f.take i)=fitL n f by rw[hil,List.take_length])
   clear hil hi
   obtain⟨Av,cv,ev⟩:=Kd.R_slice HRc.out
   subst ev
   obtain⟨_,_,_,_,_,_,_,_⟩:=cz4_ BKg2.out
   obtain⟨_,_,_,_,_,_,_,_⟩:=cz4_ BKg4.out
   obtain⟨_,_,_,_,_,_,_,_⟩:=cz4_ BKg5.out
   go_wp2_with (first|((go_at_call 167;(with_reducible refine(zbt.calls kk ko n pk1 pk2 _ HKK.out).mono ?_);rintro e am ⟨rfl,hb⟩;replace BKg2:=(bc_ BKg2 hb (kq45 BKg2));replace BKg4:=(bc_ BKg4 hb (kq45 BKg4));replace BKg5:=(bc_ BKg5 hb (kq45 BKg5));replace HRc:=mk (Kd.R_below (kq56 HRc) hb);replace HB:=mk (zaa kq43 hb);clear hb;obtain⟨_,_,_,_,_,_,_,_⟩:=cz4_ BKg4.out;obtain⟨_,_,_,_,_,_,_,_⟩:=cz4_ BKg5.out))|((go_at_call 93;(with_reducible refine(zcF r (.slice G J.length I) (.slice Av (fitL n (f.take i)).length cv) 0 (errT n 0 (f.take i)) pk1 pk2 w _ GEg5.out ?s1 ?s2).mono ?_);(case s1=>exact kq58);(case s2=>exact kq59 BKg5);rintro e an ⟨rfl,hg,hk,hb⟩;replace BKg4:=mk (hk.blk (kq45 BKg4) ne_g4g5 (by simp));replace HRc:=mk (Kd.R_mono (Kd.R_keep (Kd.R_types (kq56 HRc) (kq45 BKg5) kq2) hk (fun _ h=>h.2)) (fun _ h=>h.1));replace BKg5:=mk (hg);replace HB:=mk (hb);clear hg hk hb;obtain⟨_,_,_,_,_,_,_,_⟩:=cz4_ BKg4.out;obtain⟨_,_,_,_,_,_,_,_⟩:=cz4_ BKg5.out)))
   refine bodyPost_ret (results_cell_row rfl _ _ D 74 #[.slice G J.length I,.slice Av (fitL n (f.take i)).length cv,.int .i64 pk1,.int .i64 (zcB (errT n 0 (f.take i)) pk2)] (0,0) _ rfl (zak (zak (zak (zak (zaj BKg4.out ne_g4g5 _) 0 _ rfl) 1 _ rfl) 2 _ rfl) 3 _ rfl) Try.underlying74 rfl kq0) rfl ?_
   have q0:=Kd.R_types (Kd.R_types HRc.out BKg5.out kq2) BKg4.out kq2
   have q1:=Kd.R_far (p:=⟨r,2,none⟩) q0 (fun _ h=>h.1.2) (.int .i64 pk1)
   have q2:=Kd.R_far (p:=⟨D,0,none⟩) q1 (fun _ h=>h.2) (.slice G J.length I)
   have q3:=Kd.R_far (p:=⟨D,1,none⟩) q2 (fun _ h=>h.2) (.slice Av (fitL n (f.take i)).length cv)
   have q4:=Kd.R_far (p:=⟨D,2,none⟩) q3 (fun _ h=>h.2) (.int .i64 pk1)
   have q5:=Kd.R_far (p:=⟨D,3,none⟩) q4 (fun _ h=>h.2) (.int .i64 (zcB (errT n 0 (f.take i)) pk2))
   exact⟨.slice Av (fitL n (f.take i)).length cv,by rw[←HX.out],kq62,(kq63 GEg4 GEg5)⟩
def zbd.f (l0:List ByteArray) (l1:List Int) (ko _er n:Int):Option (List ByteArray × List Int × Int × Int):=if l1.length≤1000000∧zbx n=true∧zbx ko=true∧l1.all zbx=true then some (l0,fitL n l1,(fit (ko*n)).1,zcB (errT n 0 l1) (fit (ko*n)).2)else none
theorem zbd.calls (P0_0_:Nat→Prop) (r:Option Addr) (D:Nat) (l0_0:List ByteArray) (G:Option Addr) (I:Nat) (l0_1:List Int) (a0_2 a0_3 X:Int) (Y:List ByteArray) (Z:List Int) (r3 r4:Int) (w:World) (J:Kd.V Kd.string 9 w w.heap.size (fun k_=>P0_0_ k_) (.slice r l0_0.length D) l0_0) (L:Kd.C (Kd.int .i64) w G l0_1.length l0_1) (hc0_1:l0_1.length≤I) (h:zbd.f l0_0 l0_1 a0_2 a0_3 X=some (Y,Z,r3,r4)) :
 Calls Try.prog 128 #[.agg #[.slice r l0_0.length D,.slice G l0_1.length I,.int .i64 a0_2,.int .i64 a0_3],.int .i64 X] w fun e w'=>∃U M:Value,e= .returned (.agg #[U,M,.int .i64 r3,.int .i64 r4])∧Kd.V Kd.string 9 w' w.heap.size (fun k_=>(P0_0_ k_∨w.heap.size≤k_)∧some k_≠(M:Value).ownBlock) U Y∧Kd.R (Kd.int .i64) 2 w' w.heap.size (fun _=>True) M Z∧Below w.heap.size w w':=by
 unfold zbd.f at h
 split at h
 ·rename_i hl
  simp only[Option.some.injEq,Prod.mk.injEq]at h
  obtain⟨rfl,rfl,rfl,rfl⟩:=h
  refine(zgc r D l0_0 G I l0_1 a0_2 a0_3 X w L hc0_1 hl.1 (zcb hl.2.1) (zcb hl.2.2.1) hl.2.2.2).mono ?_
  rintro e w' ⟨v1,rfl,h1,hw⟩
  exact⟨_,v1,rfl,Kd.V_mono (Kd.V_elder' J (Kd.R_base h1) hw) (fun k hk=>⟨.inl hk.1,hk.2⟩),h1,hw⟩
 ·cases h
end Go.Proofs.Ytjknpmibdkoklaa.Q
set_option maxRecDepth 100000
namespace Go.Proofs.Ytjknpmibdkoklaa.Q
open Go.RowKit Go.Proofs.YtjknpmibdkoklaaW.PrintWords Go.Proofs.YtjknpmibdkoklaaW.PrintLast Go.Proofs.YtjknpmibdkoklaaW.PrintMore
def ze3 (l1:List Int) (s:ByteArray) (i:Nat) (l:List ByteArray):Int:=if zbX s (i:Int) l≥0 then rd l1 (zbX s (i:Int) l)else 0
theorem zgJ (l0:List ByteArray) (r:List Int) (ka ea:Int) (s:ByteArray) (hl:l0.length≤1000000) (h:l0.length≤r.length):∀(n i:Nat),i≤l0.length→l0.length-i=n→Ev (fun k=>zaM.l0 k s (i:Int) l0 r ka ea) (ze3 r s i (l0.drop i))
 |0,i,hi,hn=>by
  rw[List.drop_of_length_le kq1]
  exact Ev.step (f:=fun _=>some 0) (fun k=>by
   show zaM.l0 (k+1) s (i:Int) l0 r ka ea=_
   rw[zaM.l0,if_neg kq1]) (Ev.now _)
 |n+1,i,hi,hn=>by
  have hlt:i<l0.length:=by omega
  have ih:=zgJ l0 r ka ea s hl h n (i+1) kq1 kq1
  rw[List.drop_eq_getElem_cons hlt]
  have hw:wrap64 ((i:Int)+1)=((i+1:Nat):Int):=by unfold wrap64;omega
  by_cases he:l0[i]=s
  ·rw[show ze3 r s i (l0[i]::l0.drop (i+1))=rd r (i:Int) by unfold ze3 zbX;rw[if_pos he,if_pos kq1]]
   refine Ev.step (f:=fun _=>some (rd r (i:Int))) (fun k=>?_) (Ev.now _)
   show zaM.l0 (k+1) s (i:Int) l0 r ka ea=_
   rw[zaM.l0,if_pos kq1,if_pos kq1,zcM hlt,if_pos (by rw[he])]
   first|rfl|(rw[if_pos kq1];done)|(rw[if_pos kq1,if_pos kq1];done)
  ·rw[show ze3 r s i (l0[i]::l0.drop (i+1))=ze3 r s (i+1) (l0.drop (i+1)) by unfold ze3;rw[show zbX s (i:Int) (l0[i]::l0.drop (i+1))=zbX s ((i+1:Nat):Int) (l0.drop (i+1)) by rw[zbX,if_neg he,show((i+1:Nat):Int)=(i:Int)+1 by omega]]]
   refine Ev.step (f:=fun k=>zaM.l0 k s ((i+1:Nat):Int) l0 r ka ea) (fun k=>?_) ih
   show zaM.l0 (k+1) s (i:Int) l0 r ka ea=_
   rw[zaM.l0,if_pos kq1,if_pos kq1,zcM hlt,if_neg (fun e=>he (zgU (by rw[←zfX,←zfX,e]))),hw]
theorem zgK (r:List ByteArray) (D:List Int) (ka ea:Int) (s:ByteArray) (hl:r.length≤1000000) (h:r.length≤D.length):∃k,zaM.f k r D ka ea s=some (ofS r D s):=by
 have:=(zgJ r D ka ea s hl h _ 0 (Nat.zero_le _) rfl).rounds
 exact this
end Go.Proofs.Ytjknpmibdkoklaa.Q
