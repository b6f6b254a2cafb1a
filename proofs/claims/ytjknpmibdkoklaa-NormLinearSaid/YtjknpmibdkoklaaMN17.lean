/- Functions of the given program as Lean functions, each with its contract, and what they answer; words for it. No condition but those of each. -/
import Derived.Test.YtjknpmibdkoklaaMNS
import Derived.Test.YtjknpmibdkoklaaMNR
import Derived.Test.YtjknpmibdkoklaaMN16
import Derived.Test.YtjknpmibdkoklaaMN12
import Derived.Test.YtjknpmibdkoklaaMN4
import Derived.Test.YtjknpmibdkoklaaMN11
import Derived.LoopTactic
import Derived.Shelf.Abstract
set_option linter.unusedVariables false
set_option linter.unusedSimpArgs false
set_option maxRecDepth 100000
namespace Go.Proofs.Ytjknpmibdkoklaa.Q
open Go.RowKit Go.Proofs.YtjknpmibdkoklaaW.PrintWords Go.Proofs.YtjknpmibdkoklaaW.PrintLast Go.Proofs.YtjknpmibdkoklaaW.PrintMore
open Aside0 (mk)
theorem zdN {f:List ByteArray} {r:List Int} (h:r.all zbx=true) (hle:f.length≤r.length) (s:ByteArray):In64 (ofS f r s):=by
 unfold ofS
 split
 ·rcases zc3 s f 0 kq1 with e|e
  ·omega
  ·obtain⟨n,hn⟩:∃n:Nat,zbX s 0 f=(n:Int):=⟨(zbX s 0 f).toNat,kq1⟩
   rw[hn,rdI kq1]
   exact zcb (List.all_eq_true.1 h _ (List.getElem_mem _))
 ·exact zdC
def errP (op:Int→Int→Int) (l0:List ByteArray) (l1:List Int) (m0:List ByteArray) (m1:List Int) (er:Int):List ByteArray→Int
 | []=>er
 |s::l=>errP op l0 l1 m0 m1 (zcB er (fit (op (ofS l0 l1 s) (ofS m0 m1 s))).2) l
theorem zfP (op:Int→Int→Int) (f:List ByteArray) (r:List Int) (D:List ByteArray) (G:List Int) (l:List ByteArray) (er:Int) (i:Nat) (h:i<l.length):errP op f r D G er (l.take (i+1))=zcB (errP op f r D G er (l.take i)) (fit (op (ofS f r l[i]) (ofS D G l[i]))).2:=by
 induction l generalizing er i with
 |nil=>exact absurd h (Nat.not_lt_zero _)
 |cons c l ih=>
  cases i with
  |zero=>rfl
  |succ i=>exact ih _ i (by simpa using h)
def zcc (op:Int→Int→Int) (l0:List ByteArray) (l1:List Int) (m0:List ByteArray) (m1:List Int) (l:List ByteArray):List Int:=l.map fun s=>(fit (op (ofS l0 l1 s) (ofS m0 m1 s))).1
theorem ze4 (op:Int→Int→Int) (f:List ByteArray) (r:List Int) (D:List ByteArray) (G:List Int) (l:List ByteArray) (i:Nat) (h:i<l.length):zcc op f r D G (l.take (i+1))=zcc op f r D G (l.take i)++[(fit (op (ofS f r l[i]) (ofS D G l[i]))).1]:=by
 unfold zcc
 rw[List.take_succ_eq_append_getElem h,List.map_append]
 rfl
theorem zfl {a b:Int} (ha:In64 a) (hb:In64 b):∃k,zbk.f k a b=some ((fit (a+b)).1,(fit (a+b)).2):=(zhD ha hb).rounds
theorem zfm {a b:Int} (ha:In64 a) (hb:In64 b):∃k,zbs.f k a b=some ((fit (a-b)).1,(fit (a-b)).2):=(zhF ha hb).rounds
set_option maxHeartbeats 16000000 in
theorem zfQ (A0:Option Addr) (c0:Nat) (L:List ByteArray) (A1:Option Addr) (c1:Nat) (X:List Int) (ka ea:Int) (B0:Option Addr) (d0:Nat) (M:List ByteArray) (B1:Option Addr) (d1:Nat) (Y:List Int) (kb eb:Int) (w:World)
 (aw:Kd.C Kd.string w A0 L.length L) (hc0:L.length≤c0) (ax:Kd.C (Kd.int .i64) w A1 X.length X) (hc1:X.length≤c1) (ay:Kd.C Kd.string w B0 M.length M) (hd0:M.length≤d0) (az:Kd.C (Kd.int .i64) w B1 Y.length Y) (hd1:Y.length≤d1)
 (hla:L.length≤100000) (hlb:M.length≤100000) (hle:L.length≤X.length) (hlf:M.length≤Y.length) (ar:X.all zbx=true) (au:Y.all zbx=true) (hik:In64 ka) (hjk:In64 kb) :
 Calls Try.prog 91 #[.agg #[.slice A0 L.length c0,.slice A1 X.length c1,.int .i64 ka,.int .i64 ea],.agg #[.slice B0 M.length d0,.slice B1 Y.length d1,.int .i64 kb,.int .i64 eb],.bool true] w fun e w'=>∃v0 v1:Value,e= .returned (.agg #[v0,v1,.int .i64 (fit (ka-kb)).1,.int .i64 (zcB (errP (fun x y=>x-y) L X M Y 0 (zce (L++M))) (fit (ka-kb)).2)])∧Kd.R Kd.string 9 w' w.heap.size (fun _=>True) v0 (zce (L++M))∧Kd.R (Kd.int .i64) 2 w' w.heap.size (fun _=>True) v1 (zcc (fun x y=>x-y) L X M Y (zce (L++M)))∧Below w.heap.size w w':=by
 have aW:=Try.underlying74
 obtain⟨kt,hkt⟩:=(zeL (([]:List ByteArray)++L++M) (by simp only[List.length_append,List.length_nil];omega)).rounds
 rw[List.nil_append]at hkt
 have hul:=zcn (L++M)
 rw[List.length_append]at hul
 have HKT:Aside0 (zaA.f kt (([]:List ByteArray)++L++M)=some (zce (L++M))):=⟨by rw[List.nil_append];exact hkt⟩
 have HUL:=mk (show(zce (L++M)).length≤200000 by omega)
 have HLA:=mk hla
 have HLB:=mk hlb
 have HOA:=mk (fun s=>zgK L X ka ea s kq1 hle)
 have HOB:=mk (fun s=>zgK M Y kb eb s kq1 hlf)
 have HAD:=mk (fun s=>zfl (zdN ar hle s) (zdN au hlf s))
 have HSU:=mk (fun s=>zfm (zdN ar hle s) (zdN au hlf s))
 obtain⟨kka,hka⟩:=zfl hik hjk
 obtain⟨kks,hks⟩:=zfm hik hjk
 have HKA:=mk hka
 have HKS:=mk hks
 generalize zce (L++M)=us at HKT HUL ⊢
 clear hkt hul hla hlb hle hlf ar au hik hjk hka hks
 have ao:=mk aw
 have aA:=mk hc0
 have aC:=mk ax
 have aD:=mk hc1
 have an:=mk ay
 have HD0:=mk hd0
 have aE:=mk az
 have HD1:=mk hd1
 clear aw hc0 ax hc1 ay hd0 az hd1
 have HB:=mk (Below.refl w.heap.size w)
 go_enter Try.func91,Try.ntmps91
 go_wp2_with (first|((with_reducible refine zao (N:=3) rfl ?_);refine zal ?hg (N:=3) ?hd (cs:=#[.slice A0 L.length c0,.slice A1 X.length c1,.int .i64 ka,.int .i64 ea]) (t:=74) ?hr ?_;(case hd=>rfl);(case hg=>rfl);(case hr=>exact kq21);intro g3 hg w3 hbox hb;have BKg3:=mk hbox;have GEg3:=mk (kq42:w.heap.size≤g3);replace HB:=mk (zaa kq43 hb);clear hb hbox hg;obtain⟨_,_,_,_,_,_,_,_⟩:=cz4_ BKg3.out)|((with_reducible refine zao (N:=4) rfl ?_);refine zal ?hg (N:=4) ?hd (cs:=#[.slice B0 M.length d0,.slice B1 Y.length d1,.int .i64 kb,.int .i64 eb]) (t:=74) ?hr ?_;(case hd=>rfl);(case hg=>rfl);(case hr=>exact kq21);intro g4 hg w4 hbox hb;have BKg4:=mk hbox;have GEg4:=mk (kq42:w.heap.size≤g4);have NBg3g4:=mk ((kq44 BKg3):g3≠g4);have NBg4g3:=mk ((kq46 BKg3):g4≠g3);replace BKg3:=(bc_ BKg3 hb (kq45 BKg3));replace HB:=mk (zaa kq43 hb);clear hb hbox hg;have ne_g3g4:=NBg3g4.out;have ne_g4g3:=NBg4g3.out;obtain⟨_,_,_,_,_,_,_,_⟩:=cz4_ BKg3.out;obtain⟨_,_,_,_,_,_,_,_⟩:=cz4_ BKg4.out)|((with_reducible refine zao (N:=6) rfl ?_);refine zal ?hg (N:=6) ?hd (cs:=#[.slice none 0 0,.slice none 0 0,.int .i64 0,.int .i64 0]) (t:=74) ?hr ?_;(case hd=>rfl);(case hg=>rfl);(case hr=>exact kq21);intro g6 hg w6 hbox hb;have BKg6:=mk hbox;have GEg6:=mk (kq42:w.heap.size≤g6);have NBg3g6:=mk ((kq47 BKg3 NBg3g4):g3≠g6);have NBg6g3:=mk ((kq49 BKg3 NBg3g4):g6≠g3);have NBg4g6:=mk ((kq47 BKg4 NBg4g3):g4≠g6);have NBg6g4:=mk ((kq49 BKg4 NBg4g3):g6≠g4);replace BKg3:=(bc_ BKg3 hb (kq48 BKg3 NBg3g4));replace BKg4:=(bc_ BKg4 hb (kq48 BKg4 NBg4g3));replace HB:=mk (zaa kq43 hb);clear hb hbox hg;have ne_g3g6:=NBg3g6.out;have ne_g6g3:=NBg6g3.out;have ne_g4g6:=NBg4g6.out;have ne_g6g4:=NBg6g4.out;obtain⟨_,_,_,_,_,_,_,_⟩:=cz4_ BKg3.out;obtain⟨_,_,_,_,_,_,_,_⟩:=cz4_ BKg4.out;obtain⟨_,_,_,_,_,_,_,_⟩:=cz4_ BKg6.out))
 (try simp only[Act.put,List.setIfInBounds_toArray,List.set_cons_zero,List.set_cons_succ])
 go_cut [7] (fun v7 wc=>∃(Z:Nat) (An:Option Addr) (cn:Nat),v7= .pointer (some ⟨Z,0,none⟩)∧Aside0 (w.heap.size≤Z)∧Aside0 (g3≠Z)∧Aside0 (g4≠Z)∧Aside0 (g6≠Z)∧Aside0 (wc.heap[Z]?=some (.cells #[.slice An us.length cn,.slice none 0 0,.int .i64 0,.int .i64 0] 74 (0,0)))∧Aside0 (Kd.R Kd.string 9 wc w.heap.size (fun _=>True) (.slice An us.length cn) us)∧Aside0 (wc.heap[g3]?=some (.cells #[.slice A0 L.length c0,.slice A1 X.length c1,.int .i64 ka,.int .i64 ea] 74 (0,0)))∧Aside0 (wc.heap[g4]?=some (.cells #[.slice B0 M.length d0,.slice B1 Y.length d1,.int .i64 kb,.int .i64 eb] 74 (0,0)))∧Aside0 (wc.heap[g6]?=some (.cells #[.slice none 0 0,.slice none 0 0,.int .i64 0,.int .i64 0] 74 (0,0)))∧Aside0 (Below w.heap.size w wc))
 case first=>
  refine zbv (n:=11) (S:=fun w'=>w'.cell? ⟨g3,0,none⟩=some (.slice A0 L.length c0)∧w'.cell? ⟨g4,0,none⟩=some (.slice B0 M.length d0)) (ds:=[10]) #[false,false,false,false,false,false,false,false,false,false,false] kq0 rfl rfl ⟨bk_ BKg3 0,bk_ BKg4 0⟩ (fun hHeld=>?_)
  replace BKg3:Aside0 (w6.drew.heap[g3]?=some (.cells #[.slice A0 L.length c0,.slice A1 X.length c1,.int .i64 ka,.int .i64 ea] 74 (0,0))):=⟨BKg3.out⟩
  replace BKg4:Aside0 (w6.drew.heap[g4]?=some (.cells #[.slice B0 M.length d0,.slice B1 Y.length d1,.int .i64 kb,.int .i64 eb] 74 (0,0))):=⟨BKg4.out⟩
  replace BKg6:Aside0 (w6.drew.heap[g6]?=some (.cells #[.slice none 0 0,.slice none 0 0,.int .i64 0,.int .i64 0] 74 (0,0))):=⟨BKg6.out⟩
  replace HB:Aside0 (Below w.heap.size w w6.drew):=⟨zaP HB.out⟩
  generalize w6.drew=w9 at BKg3 BKg4 BKg6 HB hHeld ⊢
  refine pu_ 1 14 ?_
  refine pu_ 4 17 ?_
  refine ta_ 2 15 hHeld ?_
  refine ta_ 5 18 hHeld ?_
  refine tw_ 0 9 13 7 (fun K hK=>?_) (fun K hK=>?_)
  ·refine Kd.R_lit_step Kd.string _ 9 ?hg (N:=13) ?hd (xs:=([]:List ByteArray)) (inner:=[]) (ok:=fun _=>True) (okp:=fun _=>True) ?hr ?hp (fun _ hk=>hk) trivial (Below.refl _ _) (Nat.le_refl _) (by simp) ?_
   (case hd=>rfl)
   (case hg=>rfl)
   (case hr=>exact kq21)
   (case hp=>exact Reps.none _ _)
   intro ap af ho hb hg_ hnew_
   clear hg_ hnew_
   have HO:=mk (Kd.R_lower ho (zad HB.out))
   have r:=mk (zai (g:=g3) (o:=.cells #[.slice A0 L.length c0,.slice A1 X.length c1,.int .i64 ka,.int .i64 ea] 74 (0,0)) BKg3.out hb)
   have D:=mk (zai (g:=g4) (o:=.cells #[.slice B0 M.length d0,.slice B1 Y.length d1,.int .i64 kb,.int .i64 eb] 74 (0,0)) BKg4.out hb)
   have G:=mk (zai (g:=g6) (o:=.cells #[.slice none 0 0,.slice none 0 0,.int .i64 0,.int .i64 0] 74 (0,0)) BKg6.out hb)
   have I:=mk (zaa HB.out hb)
   clear BKg3 BKg4 BKg6 HB
   have BKg3:=r
   have BKg4:=D
   have BKg6:=G
   have HB:=I
   clear r D G I
   clear hb ho
   refine hK.out _ _ ⟨bk_ BKg3 0,bk_ BKg4 0⟩ (fun hHeld=>?_)
   clear hK K
   refine za2 (a':=?_) ?_ ?_
   rotate_left
   ·show Act.put _ (some 13) _=_
    simp only[Act.put,List.setIfInBounds_toArray,List.set_cons_zero,List.set_cons_succ]
    rfl
   refine tw_ 3 9 16 7 (fun K hK=>?_) (fun K hK=>?_)
   ·refine Kd.R_append_rows_step Kd.string (w0:=w) w.heap.size (by rfl) (.tmp 13) (.tmp 15) 22 9 (.string ⟨#[]⟩) 16 (by rfl) Try.underlying22 zcW rfl kq2 kq2 ap ([]:List ByteArray) L _ _ _ (fun _=>True) (fun _=>False) (by rfl) (by rfl) HO.out (Kd.C_below ao.out HB.out) (fun _ _ h=>h) (fun _ h=>h.elim) (fun _ _=>trivial) HB.out (zad HB.out) (kq65 HLA HLB) ?_
    intro am ag ho hb hg hat
    have r:=mk (zaJ BKg3.out hg (Kd.R_ne HO.out BKg3.out kq2))
    have D:=mk (zaJ BKg4.out hg (Kd.R_ne HO.out BKg4.out kq2))
    have G:=mk (zaJ BKg6.out hg (Kd.R_ne HO.out BKg6.out kq2))
    have I:=mk (ho)
    have J:=mk (hb)
    clear BKg3 BKg4 BKg6 HO HB
    have BKg3:=r
    have BKg4:=D
    have BKg6:=G
    have HO:=I
    have HB:=J
    clear r D G I J
    clear ho hb hg hat
    refine hK.out _ _ ⟨bk_ BKg3 0,bk_ BKg4 0⟩ (fun hHeld=>?_)
    clear hK K
    refine za2 (a':=?_) ?_ ?_
    rotate_left
    ·show Act.put _ (some 16) _=_
     simp only[Act.put,List.setIfInBounds_toArray,List.set_cons_zero,List.set_cons_succ]
     rfl
    refine tw_ 6 9 19 7 (fun K hK=>?_) (fun K hK=>?_)
    ·refine Kd.R_append_rows_step Kd.string (w0:=w) w.heap.size (by rfl) (.tmp 16) (.tmp 18) 22 9 (.string ⟨#[]⟩) 16 (by rfl) Try.underlying22 zcW rfl kq2 kq2 am (([]:List ByteArray)++L) M _ _ _ (fun _=>True) (fun _=>False) (by rfl) (by rfl) HO.out (Kd.C_below an.out HB.out) (fun _ _ h=>h) (fun _ h=>h.elim) (fun _ _=>trivial) HB.out (zad HB.out) (kq66 HLA HLB) ?_
     intro aq ah ho hb hg hat
     have r:=mk (zaJ BKg3.out hg (Kd.R_ne HO.out BKg3.out kq2))
     have D:=mk (zaJ BKg4.out hg (Kd.R_ne HO.out BKg4.out kq2))
     have G:=mk (zaJ BKg6.out hg (Kd.R_ne HO.out BKg6.out kq2))
     have I:=mk (ho)
     have J:=mk (hb)
     clear BKg3 BKg4 BKg6 HO HB
     have BKg3:=r
     have BKg4:=D
     have BKg6:=G
     have HO:=I
     have HB:=J
     clear r D G I J
     clear ho hb hg hat
     refine hK.out _ _ ⟨bk_ BKg3 0,bk_ BKg4 0⟩ (fun hHeld=>?_)
     clear hK K
     refine za2 (a':=?_) ?_ ?_
     rotate_left
     ·show Act.put _ (some 19) _=_
      simp only[Act.put,List.setIfInBounds_toArray,List.set_cons_zero,List.set_cons_succ]
      rfl
     refine tw_ 7 9 20 7 (fun K hK=>?_) (fun K hK=>?_)
     ·obtain⟨ac,ae,ak⟩:=Kd.R_slice HO.out
      subst ak
      refine zbj Try.func65 kq0 rfl #[.slice ac (([]:List ByteArray)++L++M).length ae] (by rfl) rfl rfl kq54 ?_
      refine(zaA.calls kt ac ae (([]:List ByteArray)++L++M) us _ (Kd.R_reads' HO.out).2.2 (Kd.R_reads' HO.out).2.1 HKT.out).mono ?_
      rintro e ai ⟨vn,rfl,hn,hb⟩
      obtain⟨An,cn,en⟩:=Kd.R_slice hn
      subst en
      refine⟨_,rfl,?_⟩
      have HN:=mk (Kd.R_lower hn (zad HB.out))
      have r:=mk (zai (g:=g3) (o:=.cells #[.slice A0 L.length c0,.slice A1 X.length c1,.int .i64 ka,.int .i64 ea] 74 (0,0)) BKg3.out hb)
      have D:=mk (zai (g:=g4) (o:=.cells #[.slice B0 M.length d0,.slice B1 Y.length d1,.int .i64 kb,.int .i64 eb] 74 (0,0)) BKg4.out hb)
      have G:=mk (zai (g:=g6) (o:=.cells #[.slice none 0 0,.slice none 0 0,.int .i64 0,.int .i64 0] 74 (0,0)) BKg6.out hb)
      have I:=mk (zaa HB.out hb)
      clear BKg3 BKg4 BKg6 HB
      have BKg3:=r
      have BKg4:=D
      have BKg6:=G
      have HB:=I
      clear r D G I
      clear hb hn HO
      refine hK.out _ _ ⟨bk_ BKg3 0,bk_ BKg4 0⟩ (fun hHeld=>?_)
      clear hK K
      refine za2 (a':=?_) ?_ ?_
      rotate_left
      ·show Act.put _ (some 20) _=_
       simp only[Act.put,List.setIfInBounds_toArray,List.set_cons_zero,List.set_cons_succ]
       rfl
      refine pu_ 8 21 ?_
      refine on_ 9 7 (fun K hK=>?_)
      refine zbU (v:=.pointer (some ⟨ai.heap.size,0,none⟩)) (w1:=ai.alloc (.cells #[.slice none 0 0,.slice none 0 0,.int .i64 0,.int .i64 0] 74)) (by rfl) rfl ?_ ?_
      ·go_simp
       all_goals first|done|rfl|exact⟨rfl,rfl⟩
      have NBg3g7:=mk (Nat.ne_of_lt (za0 BKg3.out))
      have NBg4g7:=mk (Nat.ne_of_lt (za0 BKg4.out))
      have NBg6g7:=mk (Nat.ne_of_lt (za0 BKg6.out))
      have GEg7:=mk (zad HB.out)
      have BKg7:Aside0 ((ai.alloc (.cells #[.slice none 0 0,.slice none 0 0,.int .i64 0,.int .i64 0] 74)).heap[ai.heap.size]?=some (.cells #[.slice none 0 0,.slice none 0 0,.int .i64 0,.int .i64 0] 74 (0,0))):=⟨zbJ ai _⟩
      replace BKg3:Aside0 ((ai.alloc (.cells #[.slice none 0 0,.slice none 0 0,.int .i64 0,.int .i64 0] 74)).heap[g3]?=some (.cells #[.slice A0 L.length c0,.slice A1 X.length c1,.int .i64 ka,.int .i64 ea] 74 (0,0))):=⟨zab BKg3.out _⟩
      replace BKg4:Aside0 ((ai.alloc (.cells #[.slice none 0 0,.slice none 0 0,.int .i64 0,.int .i64 0] 74)).heap[g4]?=some (.cells #[.slice B0 M.length d0,.slice B1 Y.length d1,.int .i64 kb,.int .i64 eb] 74 (0,0))):=⟨zab BKg4.out _⟩
      replace BKg6:Aside0 ((ai.alloc (.cells #[.slice none 0 0,.slice none 0 0,.int .i64 0,.int .i64 0] 74)).heap[g6]?=some (.cells #[.slice none 0 0,.slice none 0 0,.int .i64 0,.int .i64 0] 74 (0,0))):=⟨zab BKg6.out _⟩
      replace HB:Aside0 (Below w.heap.size w (ai.alloc (.cells #[.slice none 0 0,.slice none 0 0,.int .i64 0,.int .i64 0] 74))):=⟨zaS HB.out _⟩
      replace HN:Aside0 (Kd.R Kd.string 9 (ai.alloc (.cells #[.slice none 0 0,.slice none 0 0,.int .i64 0,.int .i64 0] 74)) w.heap.size (fun _=>True) (.slice An us.length cn) us):=⟨Kd.R_alloc HN.out _⟩
      generalize ai.alloc (.cells #[.slice none 0 0,.slice none 0 0,.int .i64 0,.int .i64 0] 74)=aX at BKg7 BKg3 BKg4 BKg6 HB HN ⊢
      generalize ai.heap.size=Z at BKg7 GEg7 NBg3g7 NBg4g7 NBg6g7 ⊢
      refine hK.out _ _ ⟨bk_ BKg3 0,bk_ BKg4 0⟩ (fun hHeld=>?_)
      clear hK K
      refine za2 (a':=?_) ?_ ?_
      rotate_left
      ·show Act.put _ (some 7) _=_
       simp only[Act.put,List.setIfInBounds_toArray,List.set_cons_zero,List.set_cons_succ]
       rfl
      have ne_a:=NBg3g7.out
      have ne_b:=Ne.symm NBg3g7.out
      obtain⟨_,_,_,_,_,_,_,_⟩:=cz4_ BKg7.out
      refine zb4 (i:=10) (N:=none) #[true,true,true,true,true,true,true,true,true,true,true] rfl rfl kq0 kq2 (fun K hK=>?_)
      refine zbO (w1:=?_) (by rfl) rfl ?_ ?_
      rotate_left
      ·go_simp
       rfl
      refine hK.out _ _ ?_
      clear hK K
      refine zbC kq0 ?_
      try go_wp2
      go_meet
      case rel=>exact⟨Z,An,cn,rfl,GEg7,NBg3g7,NBg4g7,NBg6g7,⟨zak (zak (zak (zak BKg7.out 0 _ rfl) 1 _ rfl) 2 _ rfl) 3 _ rfl⟩,⟨Kd.R_mono (Kd.R_far (p:=⟨Z,3,none⟩) (Kd.R_far (p:=⟨Z,2,none⟩) (Kd.R_far (p:=⟨Z,1,none⟩) (Kd.R_far (p:=⟨Z,0,none⟩) (Kd.R_types HN.out BKg7.out kq2) (fun _ h=>h.2) _) (fun _ h=>h.2) _) (fun _ h=>h.2) _) (fun _ h=>h.2) _) (fun _ _=>trivial)⟩,⟨zaj (zaj (zaj (zaj BKg3.out NBg3g7.out _) NBg3g7.out _) NBg3g7.out _) NBg3g7.out _⟩,⟨zaj (zaj (zaj (zaj BKg4.out NBg4g7.out _) NBg4g7.out _) NBg4g7.out _) NBg4g7.out _⟩,⟨zaj (zaj (zaj (zaj BKg6.out NBg6g7.out _) NBg6g7.out _) NBg6g7.out _) NBg6g7.out _⟩,⟨zav (zav (zav (zav HB.out GEg7.out) GEg7.out) GEg7.out) GEg7.out⟩⟩
     ·refine zbU (v:=.pointer (some ⟨ah.heap.size,0,none⟩)) (w1:=ah.alloc (.cells #[.slice none 0 0,.slice none 0 0,.int .i64 0,.int .i64 0] 74)) (by rfl) rfl ?_ ?_
      ·go_simp
       all_goals first|done|rfl|exact⟨rfl,rfl⟩
      have NBg3g7:=mk (Nat.ne_of_lt (za0 BKg3.out))
      have NBg4g7:=mk (Nat.ne_of_lt (za0 BKg4.out))
      have NBg6g7:=mk (Nat.ne_of_lt (za0 BKg6.out))
      have GEg7:=mk (zad HB.out)
      have BKg7:Aside0 ((ah.alloc (.cells #[.slice none 0 0,.slice none 0 0,.int .i64 0,.int .i64 0] 74)).heap[ah.heap.size]?=some (.cells #[.slice none 0 0,.slice none 0 0,.int .i64 0,.int .i64 0] 74 (0,0))):=⟨zbJ ah _⟩
      replace BKg3:Aside0 ((ah.alloc (.cells #[.slice none 0 0,.slice none 0 0,.int .i64 0,.int .i64 0] 74)).heap[g3]?=some (.cells #[.slice A0 L.length c0,.slice A1 X.length c1,.int .i64 ka,.int .i64 ea] 74 (0,0))):=⟨zab BKg3.out _⟩
      replace BKg4:Aside0 ((ah.alloc (.cells #[.slice none 0 0,.slice none 0 0,.int .i64 0,.int .i64 0] 74)).heap[g4]?=some (.cells #[.slice B0 M.length d0,.slice B1 Y.length d1,.int .i64 kb,.int .i64 eb] 74 (0,0))):=⟨zab BKg4.out _⟩
      replace BKg6:Aside0 ((ah.alloc (.cells #[.slice none 0 0,.slice none 0 0,.int .i64 0,.int .i64 0] 74)).heap[g6]?=some (.cells #[.slice none 0 0,.slice none 0 0,.int .i64 0,.int .i64 0] 74 (0,0))):=⟨zab BKg6.out _⟩
      replace HB:Aside0 (Below w.heap.size w (ah.alloc (.cells #[.slice none 0 0,.slice none 0 0,.int .i64 0,.int .i64 0] 74))):=⟨zaS HB.out _⟩
      replace HO:Aside0 (Kd.R Kd.string 9 (ah.alloc (.cells #[.slice none 0 0,.slice none 0 0,.int .i64 0,.int .i64 0] 74)) w.heap.size (fun _=>True) aq (([]:List ByteArray)++L++M)):=⟨Kd.R_alloc HO.out _⟩
      generalize ah.alloc (.cells #[.slice none 0 0,.slice none 0 0,.int .i64 0,.int .i64 0] 74)=aY at BKg7 BKg3 BKg4 BKg6 HB HO ⊢
      generalize ah.heap.size=Z at BKg7 GEg7 NBg3g7 NBg4g7 NBg6g7 ⊢
      refine hK.out _ _ ⟨bk_ BKg3 0,bk_ BKg4 0⟩ (fun hHeld=>?_)
      clear hK K
      refine za2 (a':=?_) ?_ ?_
      rotate_left
      ·show Act.put _ (some 7) _=_
       simp only[Act.put,List.setIfInBounds_toArray,List.set_cons_zero,List.set_cons_succ]
       rfl
      refine on_ 7 20 (fun K hK=>?_)
      obtain⟨ac,ae,ak⟩:=Kd.R_slice HO.out
      subst ak
      refine zbj Try.func65 kq0 rfl #[.slice ac (([]:List ByteArray)++L++M).length ae] (by rfl) rfl rfl kq54 ?_
      refine(zaA.calls kt ac ae (([]:List ByteArray)++L++M) us _ (Kd.R_reads' HO.out).2.2 (Kd.R_reads' HO.out).2.1 HKT.out).mono ?_
      rintro e aZ ⟨vn,rfl,hn,hb⟩
      obtain⟨An,cn,en⟩:=Kd.R_slice hn
      subst en
      refine⟨_,rfl,?_⟩
      have HN:=mk (Kd.R_lower hn (zad HB.out))
      have r:=mk (zai (g:=g3) (o:=.cells #[.slice A0 L.length c0,.slice A1 X.length c1,.int .i64 ka,.int .i64 ea] 74 (0,0)) BKg3.out hb)
      have D:=mk (zai (g:=g4) (o:=.cells #[.slice B0 M.length d0,.slice B1 Y.length d1,.int .i64 kb,.int .i64 eb] 74 (0,0)) BKg4.out hb)
      have G:=mk (zai (g:=g6) (o:=.cells #[.slice none 0 0,.slice none 0 0,.int .i64 0,.int .i64 0] 74 (0,0)) BKg6.out hb)
      have I:=mk (zai (g:=Z) (o:=.cells #[.slice none 0 0,.slice none 0 0,.int .i64 0,.int .i64 0] 74 (0,0)) BKg7.out hb)
      have J:=mk (zaa HB.out hb)
      clear BKg3 BKg4 BKg6 BKg7 HB
      have BKg3:=r
      have BKg4:=D
      have BKg6:=G
      have BKg7:=I
      have HB:=J
      clear r D G I J
      clear hb hn HO
      refine hK.out _ _ ⟨bk_ BKg3 0,bk_ BKg4 0⟩ (fun hHeld=>?_)
      clear hK K
      refine za2 (a':=?_) ?_ ?_
      rotate_left
      ·show Act.put _ (some 20) _=_
       simp only[Act.put,List.setIfInBounds_toArray,List.set_cons_zero,List.set_cons_succ]
       rfl
      refine pu_ 8 21 ?_
      have ne_a:=NBg3g7.out
      have ne_b:=Ne.symm NBg3g7.out
      obtain⟨_,_,_,_,_,_,_,_⟩:=cz4_ BKg7.out
      refine zb4 (i:=10) (N:=none) #[true,true,true,true,true,true,true,true,true,true,true] rfl rfl kq0 kq2 (fun K hK=>?_)
      refine zbO (w1:=?_) (by rfl) rfl ?_ ?_
      rotate_left
      ·go_simp
       rfl
      refine hK.out _ _ ?_
      clear hK K
      refine zbC kq0 ?_
      try go_wp2
      go_meet
      case rel=>exact⟨Z,An,cn,rfl,GEg7,NBg3g7,NBg4g7,NBg6g7,⟨zak (zak (zak (zak BKg7.out 0 _ rfl) 1 _ rfl) 2 _ rfl) 3 _ rfl⟩,⟨Kd.R_mono (Kd.R_far (p:=⟨Z,3,none⟩) (Kd.R_far (p:=⟨Z,2,none⟩) (Kd.R_far (p:=⟨Z,1,none⟩) (Kd.R_far (p:=⟨Z,0,none⟩) (Kd.R_types HN.out BKg7.out kq2) (fun _ h=>h.2) _) (fun _ h=>h.2) _) (fun _ h=>h.2) _) (fun _ h=>h.2) _) (fun _ _=>trivial)⟩,⟨zaj (zaj (zaj (zaj BKg3.out NBg3g7.out _) NBg3g7.out _) NBg3g7.out _) NBg3g7.out _⟩,⟨zaj (zaj (zaj (zaj BKg4.out NBg4g7.out _) NBg4g7.out _) NBg4g7.out _) NBg4g7.out _⟩,⟨zaj (zaj (zaj (zaj BKg6.out NBg6g7.out _) NBg6g7.out _) NBg6g7.out _) NBg6g7.out _⟩,⟨zav (zav (zav (zav HB.out GEg7.out) GEg7.out) GEg7.out) GEg7.out⟩⟩
    ·refine zbU (v:=.pointer (some ⟨ag.heap.size,0,none⟩)) (w1:=ag.alloc (.cells #[.slice none 0 0,.slice none 0 0,.int .i64 0,.int .i64 0] 74)) (by rfl) rfl ?_ ?_
     ·go_simp
      all_goals first|done|rfl|exact⟨rfl,rfl⟩
     have NBg3g7:=mk (Nat.ne_of_lt (za0 BKg3.out))
     have NBg4g7:=mk (Nat.ne_of_lt (za0 BKg4.out))
     have NBg6g7:=mk (Nat.ne_of_lt (za0 BKg6.out))
     have GEg7:=mk (zad HB.out)
     have BKg7:Aside0 ((ag.alloc (.cells #[.slice none 0 0,.slice none 0 0,.int .i64 0,.int .i64 0] 74)).heap[ag.heap.size]?=some (.cells #[.slice none 0 0,.slice none 0 0,.int .i64 0,.int .i64 0] 74 (0,0))):=⟨zbJ ag _⟩
     replace BKg3:Aside0 ((ag.alloc (.cells #[.slice none 0 0,.slice none 0 0,.int .i64 0,.int .i64 0] 74)).heap[g3]?=some (.cells #[.slice A0 L.length c0,.slice A1 X.length c1,.int .i64 ka,.int .i64 ea] 74 (0,0))):=⟨zab BKg3.out _⟩
     replace BKg4:Aside0 ((ag.alloc (.cells #[.slice none 0 0,.slice none 0 0,.int .i64 0,.int .i64 0] 74)).heap[g4]?=some (.cells #[.slice B0 M.length d0,.slice B1 Y.length d1,.int .i64 kb,.int .i64 eb] 74 (0,0))):=⟨zab BKg4.out _⟩
     replace BKg6:Aside0 ((ag.alloc (.cells #[.slice none 0 0,.slice none 0 0,.int .i64 0,.int .i64 0] 74)).heap[g6]?=some (.cells #[.slice none 0 0,.slice none 0 0,.int .i64 0,.int .i64 0] 74 (0,0))):=⟨zab BKg6.out _⟩
     replace HB:Aside0 (Below w.heap.size w (ag.alloc (.cells #[.slice none 0 0,.slice none 0 0,.int .i64 0,.int .i64 0] 74))):=⟨zaS HB.out _⟩
     replace HO:Aside0 (Kd.R Kd.string 9 (ag.alloc (.cells #[.slice none 0 0,.slice none 0 0,.int .i64 0,.int .i64 0] 74)) w.heap.size (fun _=>True) am (([]:List ByteArray)++L)):=⟨Kd.R_alloc HO.out _⟩
     generalize ag.alloc (.cells #[.slice none 0 0,.slice none 0 0,.int .i64 0,.int .i64 0] 74)=b4 at BKg7 BKg3 BKg4 BKg6 HB HO ⊢
     generalize ag.heap.size=Z at BKg7 GEg7 NBg3g7 NBg4g7 NBg6g7 ⊢
     refine hK.out _ _ ⟨bk_ BKg3 0,bk_ BKg4 0⟩ (fun hHeld=>?_)
     clear hK K
     refine za2 (a':=?_) ?_ ?_
     rotate_left
     ·show Act.put _ (some 7) _=_
      simp only[Act.put,List.setIfInBounds_toArray,List.set_cons_zero,List.set_cons_succ]
      rfl
     refine on_ 6 19 (fun K hK=>?_)
     refine Kd.R_append_rows_step Kd.string (w0:=w) w.heap.size (by rfl) (.tmp 16) (.tmp 18) 22 9 (.string ⟨#[]⟩) 16 (by rfl) Try.underlying22 zcW rfl kq2 kq2 am (([]:List ByteArray)++L) M _ _ _ (fun _=>True) (fun _=>False) (by rfl) (by rfl) HO.out (Kd.C_below an.out HB.out) (fun _ _ h=>h) (fun _ h=>h.elim) (fun _ _=>trivial) HB.out (zad HB.out) (kq66 HLA HLB) ?_
     intro aq aJ ho hb hg hat
     have r:=mk (zaJ BKg3.out hg (Kd.R_ne HO.out BKg3.out kq2))
     have D:=mk (zaJ BKg4.out hg (Kd.R_ne HO.out BKg4.out kq2))
     have G:=mk (zaJ BKg6.out hg (Kd.R_ne HO.out BKg6.out kq2))
     have I:=mk (zaJ BKg7.out hg (Kd.R_ne HO.out BKg7.out kq2))
     have J:=mk (ho)
     have U:=mk (hb)
     clear BKg3 BKg4 BKg6 BKg7 HO HB
     have BKg3:=r
     have BKg4:=D
     have BKg6:=G
     have BKg7:=I
     have HO:=J
     have HB:=U
     clear r D G I J U
     clear ho hb hg hat
     refine hK.out _ _ ⟨bk_ BKg3 0,bk_ BKg4 0⟩ (fun hHeld=>?_)
     clear hK K
     refine za2 (a':=?_) ?_ ?_
     rotate_left
     ·show Act.put _ (some 19) _=_
      simp only[Act.put,List.setIfInBounds_toArray,List.set_cons_zero,List.set_cons_succ]
      rfl
     refine on_ 7 20 (fun K hK=>?_)
     obtain⟨ac,ae,ak⟩:=Kd.R_slice HO.out
     subst ak
     refine zbj Try.func65 kq0 rfl #[.slice ac (([]:List ByteArray)++L++M).length ae] (by rfl) rfl rfl kq54 ?_
     refine(zaA.calls kt ac ae (([]:List ByteArray)++L++M) us _ (Kd.R_reads' HO.out).2.2 (Kd.R_reads' HO.out).2.1 HKT.out).mono ?_
     rintro e aK ⟨vn,rfl,hn,hb⟩
     obtain⟨An,cn,en⟩:=Kd.R_slice hn
     subst en
     refine⟨_,rfl,?_⟩
     have HN:=mk (Kd.R_lower hn (zad HB.out))
     have r:=mk (zai (g:=g3) (o:=.cells #[.slice A0 L.length c0,.slice A1 X.length c1,.int .i64 ka,.int .i64 ea] 74 (0,0)) BKg3.out hb)
     have D:=mk (zai (g:=g4) (o:=.cells #[.slice B0 M.length d0,.slice B1 Y.length d1,.int .i64 kb,.int .i64 eb] 74 (0,0)) BKg4.out hb)
     have G:=mk (zai (g:=g6) (o:=.cells #[.slice none 0 0,.slice none 0 0,.int .i64 0,.int .i64 0] 74 (0,0)) BKg6.out hb)
     have I:=mk (zai (g:=Z) (o:=.cells #[.slice none 0 0,.slice none 0 0,.int .i64 0,.int .i64 0] 74 (0,0)) BKg7.out hb)
     have J:=mk (zaa HB.out hb)
     clear BKg3 BKg4 BKg6 BKg7 HB
     have BKg3:=r
     have BKg4:=D
     have BKg6:=G
     have BKg7:=I
     have HB:=J
     clear r D G I J
     clear hb hn HO
     refine hK.out _ _ ⟨bk_ BKg3 0,bk_ BKg4 0⟩ (fun hHeld=>?_)
     clear hK K
     refine za2 (a':=?_) ?_ ?_
     rotate_left
     ·show Act.put _ (some 20) _=_
      simp only[Act.put,List.setIfInBounds_toArray,List.set_cons_zero,List.set_cons_succ]
      rfl
     refine pu_ 8 21 ?_
     have ne_a:=NBg3g7.out
     have ne_b:=Ne.symm NBg3g7.out
     obtain⟨_,_,_,_,_,_,_,_⟩:=cz4_ BKg7.out
     refine zb4 (i:=10) (N:=none) #[true,true,true,true,true,true,true,true,true,true,true] rfl rfl kq0 kq2 (fun K hK=>?_)
     refine zbO (w1:=?_) (by rfl) rfl ?_ ?_
     rotate_left
     ·go_simp
      rfl
     refine hK.out _ _ ?_
     clear hK K
     refine zbC kq0 ?_
     try go_wp2
     go_meet
     case rel=>exact⟨Z,An,cn,rfl,GEg7,NBg3g7,NBg4g7,NBg6g7,⟨zak (zak (zak (zak BKg7.out 0 _ rfl) 1 _ rfl) 2 _ rfl) 3 _ rfl⟩,⟨Kd.R_mono (Kd.R_far (p:=⟨Z,3,none⟩) (Kd.R_far (p:=⟨Z,2,none⟩) (Kd.R_far (p:=⟨Z,1,none⟩) (Kd.R_far (p:=⟨Z,0,none⟩) (Kd.R_types HN.out BKg7.out kq2) (fun _ h=>h.2) _) (fun _ h=>h.2) _) (fun _ h=>h.2) _) (fun _ h=>h.2) _) (fun _ _=>trivial)⟩,⟨zaj (zaj (zaj (zaj BKg3.out NBg3g7.out _) NBg3g7.out _) NBg3g7.out _) NBg3g7.out _⟩,⟨zaj (zaj (zaj (zaj BKg4.out NBg4g7.out _) NBg4g7.out _) NBg4g7.out _) NBg4g7.out _⟩,⟨zaj (zaj (zaj (zaj BKg6.out NBg6g7.out _) NBg6g7.out _) NBg6g7.out _) NBg6g7.out _⟩,⟨zav (zav (zav (zav HB.out GEg7.out) GEg7.out) GEg7.out) GEg7.out⟩⟩
   ·refine zbU (v:=.pointer (some ⟨af.heap.size,0,none⟩)) (w1:=af.alloc (.cells #[.slice none 0 0,.slice none 0 0,.int .i64 0,.int .i64 0] 74)) (by rfl) rfl ?_ ?_
    ·go_simp
     all_goals first|done|rfl|exact⟨rfl,rfl⟩
    have NBg3g7:=mk (Nat.ne_of_lt (za0 BKg3.out))
    have NBg4g7:=mk (Nat.ne_of_lt (za0 BKg4.out))
    have NBg6g7:=mk (Nat.ne_of_lt (za0 BKg6.out))
    have GEg7:=mk (zad HB.out)
    have BKg7:Aside0 ((af.alloc (.cells #[.slice none 0 0,.slice none 0 0,.int .i64 0,.int .i64 0] 74)).heap[af.heap.size]?=some (.cells #[.slice none 0 0,.slice none 0 0,.int .i64 0,.int .i64 0] 74 (0,0))):=⟨zbJ af _⟩
    replace BKg3:Aside0 ((af.alloc (.cells #[.slice none 0 0,.slice none 0 0,.int .i64 0,.int .i64 0] 74)).heap[g3]?=some (.cells #[.slice A0 L.length c0,.slice A1 X.length c1,.int .i64 ka,.int .i64 ea] 74 (0,0))):=⟨zab BKg3.out _⟩
    replace BKg4:Aside0 ((af.alloc (.cells #[.slice none 0 0,.slice none 0 0,.int .i64 0,.int .i64 0] 74)).heap[g4]?=some (.cells #[.slice B0 M.length d0,.slice B1 Y.length d1,.int .i64 kb,.int .i64 eb] 74 (0,0))):=⟨zab BKg4.out _⟩
    replace BKg6:Aside0 ((af.alloc (.cells #[.slice none 0 0,.slice none 0 0,.int .i64 0,.int .i64 0] 74)).heap[g6]?=some (.cells #[.slice none 0 0,.slice none 0 0,.int .i64 0,.int .i64 0] 74 (0,0))):=⟨zab BKg6.out _⟩
    replace HB:Aside0 (Below w.heap.size w (af.alloc (.cells #[.slice none 0 0,.slice none 0 0,.int .i64 0,.int .i64 0] 74))):=⟨zaS HB.out _⟩
    replace HO:Aside0 (Kd.R Kd.string 9 (af.alloc (.cells #[.slice none 0 0,.slice none 0 0,.int .i64 0,.int .i64 0] 74)) w.heap.size (fun _=>True) ap ([]:List ByteArray)):=⟨Kd.R_alloc HO.out _⟩
    generalize af.alloc (.cells #[.slice none 0 0,.slice none 0 0,.int .i64 0,.int .i64 0] 74)=b5 at BKg7 BKg3 BKg4 BKg6 HB HO ⊢
    generalize af.heap.size=Z at BKg7 GEg7 NBg3g7 NBg4g7 NBg6g7 ⊢
    refine hK.out _ _ ⟨bk_ BKg3 0,bk_ BKg4 0⟩ (fun hHeld=>?_)
    clear hK K
    refine za2 (a':=?_) ?_ ?_
    rotate_left
    ·show Act.put _ (some 7) _=_
     simp only[Act.put,List.setIfInBounds_toArray,List.set_cons_zero,List.set_cons_succ]
     rfl
    refine on_ 3 16 (fun K hK=>?_)
    refine Kd.R_append_rows_step Kd.string (w0:=w) w.heap.size (by rfl) (.tmp 13) (.tmp 15) 22 9 (.string ⟨#[]⟩) 16 (by rfl) Try.underlying22 zcW rfl kq2 kq2 ap ([]:List ByteArray) L _ _ _ (fun _=>True) (fun _=>False) (by rfl) (by rfl) HO.out (Kd.C_below ao.out HB.out) (fun _ _ h=>h) (fun _ h=>h.elim) (fun _ _=>trivial) HB.out (zad HB.out) (kq65 HLA HLB) ?_
    intro am aM ho hb hg hat
    have r:=mk (zaJ BKg3.out hg (Kd.R_ne HO.out BKg3.out kq2))
    have D:=mk (zaJ BKg4.out hg (Kd.R_ne HO.out BKg4.out kq2))
    have G:=mk (zaJ BKg6.out hg (Kd.R_ne HO.out BKg6.out kq2))
    have I:=mk (zaJ BKg7.out hg (Kd.R_ne HO.out BKg7.out kq2))
    have J:=mk (ho)
    have U:=mk (hb)
    clear BKg3 BKg4 BKg6 BKg7 HO HB
    have BKg3:=r
    have BKg4:=D
    have BKg6:=G
    have BKg7:=I
    have HO:=J
    have HB:=U
    clear r D G I J U
    clear ho hb hg hat
    refine hK.out _ _ ⟨bk_ BKg3 0,bk_ BKg4 0⟩ (fun hHeld=>?_)
    clear hK K
    refine za2 (a':=?_) ?_ ?_
    rotate_left
    ·show Act.put _ (some 16) _=_
     simp only[Act.put,List.setIfInBounds_toArray,List.set_cons_zero,List.set_cons_succ]
     rfl
    refine on_ 6 19 (fun K hK=>?_)
    refine Kd.R_append_rows_step Kd.string (w0:=w) w.heap.size (by rfl) (.tmp 16) (.tmp 18) 22 9 (.string ⟨#[]⟩) 16 (by rfl) Try.underlying22 zcW rfl kq2 kq2 am (([]:List ByteArray)++L) M _ _ _ (fun _=>True) (fun _=>False) (by rfl) (by rfl) HO.out (Kd.C_below an.out HB.out) (fun _ _ h=>h) (fun _ h=>h.elim) (fun _ _=>trivial) HB.out (zad HB.out) (kq66 HLA HLB) ?_
    intro aq aj ho hb hg hat
    have r:=mk (zaJ BKg3.out hg (Kd.R_ne HO.out BKg3.out kq2))
    have D:=mk (zaJ BKg4.out hg (Kd.R_ne HO.out BKg4.out kq2))
    have G:=mk (zaJ BKg6.out hg (Kd.R_ne HO.out BKg6.out kq2))
    have I:=mk (zaJ BKg7.out hg (Kd.R_ne HO.out BKg7.out kq2))
    have J:=mk (ho)
    have U:=mk (hb)
    clear BKg3 BKg4 BKg6 BKg7 HO HB
    have BKg3:=r
    have BKg4:=D
    have BKg6:=G
    have BKg7:=I
    have HO:=J
    have HB:=U
    clear r D G I J U
    clear ho hb hg hat
    refine hK.out _ _ ⟨bk_ BKg3 0,bk_ BKg4 0⟩ (fun hHeld=>?_)
    clear hK K
    refine za2 (a':=?_) ?_ ?_
    rotate_left
    ·show Act.put _ (some 19) _=_
     simp only[Act.put,List.setIfInBounds_toArray,List.set_cons_zero,List.set_cons_succ]
     rfl
    refine on_ 7 20 (fun K hK=>?_)
    obtain⟨ac,ae,ak⟩:=Kd.R_slice HO.out
    subst ak
    refine zbj Try.func65 kq0 rfl #[.slice ac (([]:List ByteArray)++L++M).length ae] (by rfl) rfl rfl kq54 ?_
    refine(zaA.calls kt ac ae (([]:List ByteArray)++L++M) us _ (Kd.R_reads' HO.out).2.2 (Kd.R_reads' HO.out).2.1 HKT.out).mono ?_
    rintro e aN ⟨vn,rfl,hn,hb⟩
    obtain⟨An,cn,en⟩:=Kd.R_slice hn
    subst en
    refine⟨_,rfl,?_⟩
    have HN:=mk (Kd.R_lower hn (zad HB.out))
    have r:=mk (zai (g:=g3) (o:=.cells #[.slice A0 L.length c0,.slice A1 X.length c1,.int .i64 ka,.int .i64 ea] 74 (0,0)) BKg3.out hb)
    have D:=mk (zai (g:=g4) (o:=.cells #[.slice B0 M.length d0,.slice B1 Y.length d1,.int .i64 kb,.int .i64 eb] 74 (0,0)) BKg4.out hb)
    have G:=mk (zai (g:=g6) (o:=.cells #[.slice none 0 0,.slice none 0 0,.int .i64 0,.int .i64 0] 74 (0,0)) BKg6.out hb)
    have I:=mk (zai (g:=Z) (o:=.cells #[.slice none 0 0,.slice none 0 0,.int .i64 0,.int .i64 0] 74 (0,0)) BKg7.out hb)
    have J:=mk (zaa HB.out hb)
    clear BKg3 BKg4 BKg6 BKg7 HB
    have BKg3:=r
    have BKg4:=D
    have BKg6:=G
    have BKg7:=I
    have HB:=J
    clear r D G I J
    clear hb hn HO
    refine hK.out _ _ ⟨bk_ BKg3 0,bk_ BKg4 0⟩ (fun hHeld=>?_)
    clear hK K
    refine za2 (a':=?_) ?_ ?_
    rotate_left
    ·show Act.put _ (some 20) _=_
     simp only[Act.put,List.setIfInBounds_toArray,List.set_cons_zero,List.set_cons_succ]
     rfl
    refine pu_ 8 21 ?_
    have ne_a:=NBg3g7.out
    have ne_b:=Ne.symm NBg3g7.out
    obtain⟨_,_,_,_,_,_,_,_⟩:=cz4_ BKg7.out
    refine zb4 (i:=10) (N:=none) #[true,true,true,true,true,true,true,true,true,true,true] rfl rfl kq0 kq2 (fun K hK=>?_)
    refine zbO (w1:=?_) (by rfl) rfl ?_ ?_
    rotate_left
    ·go_simp
     rfl
    refine hK.out _ _ ?_
    clear hK K
    refine zbC kq0 ?_
    try go_wp2
    go_meet
    case rel=>exact⟨Z,An,cn,rfl,GEg7,NBg3g7,NBg4g7,NBg6g7,⟨zak (zak (zak (zak BKg7.out 0 _ rfl) 1 _ rfl) 2 _ rfl) 3 _ rfl⟩,⟨Kd.R_mono (Kd.R_far (p:=⟨Z,3,none⟩) (Kd.R_far (p:=⟨Z,2,none⟩) (Kd.R_far (p:=⟨Z,1,none⟩) (Kd.R_far (p:=⟨Z,0,none⟩) (Kd.R_types HN.out BKg7.out kq2) (fun _ h=>h.2) _) (fun _ h=>h.2) _) (fun _ h=>h.2) _) (fun _ h=>h.2) _) (fun _ _=>trivial)⟩,⟨zaj (zaj (zaj (zaj BKg3.out NBg3g7.out _) NBg3g7.out _) NBg3g7.out _) NBg3g7.out _⟩,⟨zaj (zaj (zaj (zaj BKg4.out NBg4g7.out _) NBg4g7.out _) NBg4g7.out _) NBg4g7.out _⟩,⟨zaj (zaj (zaj (zaj BKg6.out NBg6g7.out _) NBg6g7.out _) NBg6g7.out _) NBg6g7.out _⟩,⟨zav (zav (zav (zav HB.out GEg7.out) GEg7.out) GEg7.out) GEg7.out⟩⟩
  ·refine zbU (v:=.pointer (some ⟨w9.heap.size,0,none⟩)) (w1:=w9.alloc (.cells #[.slice none 0 0,.slice none 0 0,.int .i64 0,.int .i64 0] 74)) (by rfl) rfl ?_ ?_
   ·go_simp
    all_goals first|done|rfl|exact⟨rfl,rfl⟩
   have NBg3g7:=mk (Nat.ne_of_lt (za0 BKg3.out))
   have NBg4g7:=mk (Nat.ne_of_lt (za0 BKg4.out))
   have NBg6g7:=mk (Nat.ne_of_lt (za0 BKg6.out))
   have GEg7:=mk (zad HB.out)
   have BKg7:Aside0 ((w9.alloc (.cells #[.slice none 0 0,.slice none 0 0,.int .i64 0,.int .i64 0] 74)).heap[w9.heap.size]?=some (.cells #[.slice none 0 0,.slice none 0 0,.int .i64 0,.int .i64 0] 74 (0,0))):=⟨zbJ w9 _⟩
   replace BKg3:Aside0 ((w9.alloc (.cells #[.slice none 0 0,.slice none 0 0,.int .i64 0,.int .i64 0] 74)).heap[g3]?=some (.cells #[.slice A0 L.length c0,.slice A1 X.length c1,.int .i64 ka,.int .i64 ea] 74 (0,0))):=⟨zab BKg3.out _⟩
   replace BKg4:Aside0 ((w9.alloc (.cells #[.slice none 0 0,.slice none 0 0,.int .i64 0,.int .i64 0] 74)).heap[g4]?=some (.cells #[.slice B0 M.length d0,.slice B1 Y.length d1,.int .i64 kb,.int .i64 eb] 74 (0,0))):=⟨zab BKg4.out _⟩
   replace BKg6:Aside0 ((w9.alloc (.cells #[.slice none 0 0,.slice none 0 0,.int .i64 0,.int .i64 0] 74)).heap[g6]?=some (.cells #[.slice none 0 0,.slice none 0 0,.int .i64 0,.int .i64 0] 74 (0,0))):=⟨zab BKg6.out _⟩
   replace HB:Aside0 (Below w.heap.size w (w9.alloc (.cells #[.slice none 0 0,.slice none 0 0,.int .i64 0,.int .i64 0] 74))):=⟨zaS HB.out _⟩
   generalize w9.alloc (.cells #[.slice none 0 0,.slice none 0 0,.int .i64 0,.int .i64 0] 74)=b6 at BKg7 BKg3 BKg4 BKg6 HB ⊢
   generalize w9.heap.size=Z at BKg7 GEg7 NBg3g7 NBg4g7 NBg6g7 ⊢
   refine hK.out _ _ ⟨bk_ BKg3 0,bk_ BKg4 0⟩ (fun hHeld=>?_)
   clear hK K
   refine za2 (a':=?_) ?_ ?_
   rotate_left
   ·show Act.put _ (some 7) _=_
    simp only[Act.put,List.setIfInBounds_toArray,List.set_cons_zero,List.set_cons_succ]
    rfl
   refine on_ 0 13 (fun K hK=>?_)
   refine Kd.R_lit_step Kd.string _ 9 ?hg (N:=13) ?hd (xs:=([]:List ByteArray)) (inner:=[]) (ok:=fun _=>True) (okp:=fun _=>True) ?hr ?hp (fun _ hk=>hk) trivial (Below.refl _ _) (Nat.le_refl _) (by simp) ?_
   (case hd=>rfl)
   (case hg=>rfl)
   (case hr=>exact kq21)
   (case hp=>exact Reps.none _ _)
   intro ap aQ ho hb hg_ hnew_
   clear hg_ hnew_
   have HO:=mk (Kd.R_lower ho (zad HB.out))
   have r:=mk (zai (g:=g3) (o:=.cells #[.slice A0 L.length c0,.slice A1 X.length c1,.int .i64 ka,.int .i64 ea] 74 (0,0)) BKg3.out hb)
   have D:=mk (zai (g:=g4) (o:=.cells #[.slice B0 M.length d0,.slice B1 Y.length d1,.int .i64 kb,.int .i64 eb] 74 (0,0)) BKg4.out hb)
   have G:=mk (zai (g:=g6) (o:=.cells #[.slice none 0 0,.slice none 0 0,.int .i64 0,.int .i64 0] 74 (0,0)) BKg6.out hb)
   have I:=mk (zai (g:=Z) (o:=.cells #[.slice none 0 0,.slice none 0 0,.int .i64 0,.int .i64 0] 74 (0,0)) BKg7.out hb)
   have J:=mk (zaa HB.out hb)
   clear BKg3 BKg4 BKg6 BKg7 HB
   have BKg3:=r
   have BKg4:=D
   have BKg6:=G
   have BKg7:=I
   have HB:=J
   clear r D G I J
   clear hb ho
   refine hK.out _ _ ⟨bk_ BKg3 0,bk_ BKg4 0⟩ (fun hHeld=>?_)
   clear hK K
   refine za2 (a':=?_) ?_ ?_
   rotate_left
   ·show Act.put _ (some 13) _=_
    simp only[Act.put,List.setIfInBounds_toArray,List.set_cons_zero,List.set_cons_succ]
    rfl
   refine on_ 3 16 (fun K hK=>?_)
   refine Kd.R_append_rows_step Kd.string (w0:=w) w.heap.size (by rfl) (.tmp 13) (.tmp 15) 22 9 (.string ⟨#[]⟩) 16 (by rfl) Try.underlying22 zcW rfl kq2 kq2 ap ([]:List ByteArray) L _ _ _ (fun _=>True) (fun _=>False) (by rfl) (by rfl) HO.out (Kd.C_below ao.out HB.out) (fun _ _ h=>h) (fun _ h=>h.elim) (fun _ _=>trivial) HB.out (zad HB.out) (kq65 HLA HLB) ?_
   intro am aT ho hb hg hat
   have r:=mk (zaJ BKg3.out hg (Kd.R_ne HO.out BKg3.out kq2))
   have D:=mk (zaJ BKg4.out hg (Kd.R_ne HO.out BKg4.out kq2))
   have G:=mk (zaJ BKg6.out hg (Kd.R_ne HO.out BKg6.out kq2))
   have I:=mk (zaJ BKg7.out hg (Kd.R_ne HO.out BKg7.out kq2))
   have J:=mk (ho)
   have U:=mk (hb)
   clear BKg3 BKg4 BKg6 BKg7 HO HB
   have BKg3:=r
   have BKg4:=D
   have BKg6:=G
   have BKg7:=I
   have HO:=J
   have HB:=U
   clear r D G I J U
   clear ho hb hg hat
   refine hK.out _ _ ⟨bk_ BKg3 0,bk_ BKg4 0⟩ (fun hHeld=>?_)
   clear hK K
   refine za2 (a':=?_) ?_ ?_
   rotate_left
   ·show Act.put _ (some 16) _=_
    simp only[Act.put,List.setIfInBounds_toArray,List.set_cons_zero,List.set_cons_succ]
    rfl
   refine on_ 6 19 (fun K hK=>?_)
   refine Kd.R_append_rows_step Kd.string (w0:=w) w.heap.size (by rfl) (.tmp 16) (.tmp 18) 22 9 (.string ⟨#[]⟩) 16 (by rfl) Try.underlying22 zcW rfl kq2 kq2 am (([]:List ByteArray)++L) M _ _ _ (fun _=>True) (fun _=>False) (by rfl) (by rfl) HO.out (Kd.C_below an.out HB.out) (fun _ _ h=>h) (fun _ h=>h.elim) (fun _ _=>trivial) HB.out (zad HB.out) (kq66 HLA HLB) ?_
   intro aq al ho hb hg hat
   have r:=mk (zaJ BKg3.out hg (Kd.R_ne HO.out BKg3.out kq2))
   have D:=mk (zaJ BKg4.out hg (Kd.R_ne HO.out BKg4.out kq2))
   have G:=mk (zaJ BKg6.out hg (Kd.R_ne HO.out BKg6.out kq2))
   have I:=mk (zaJ BKg7.out hg (Kd.R_ne HO.out BKg7.out kq2))
   have J:=mk (ho)
   have U:=mk (hb)
   clear BKg3 BKg4 BKg6 BKg7 HO HB
   have BKg3:=r
   have BKg4:=D
   have BKg6:=G
   have BKg7:=I
   have HO:=J
   have HB:=U
   clear r D G I J U
   clear ho hb hg hat
   refine hK.out _ _ ⟨bk_ BKg3 0,bk_ BKg4 0⟩ (fun hHeld=>?_)
   clear hK K
   refine za2 (a':=?_) ?_ ?_
   rotate_left
   ·show Act.put _ (some 19) _=_
    simp only[Act.put,List.setIfInBounds_toArray,List.set_cons_zero,List.set_cons_succ]
    rfl
   refine on_ 7 20 (fun K hK=>?_)
   obtain⟨ac,ae,ak⟩:=Kd.R_slice HO.out
   subst ak
   refine zbj Try.func65 kq0 rfl #[.slice ac (([]:List ByteArray)++L++M).length ae] (by rfl) rfl rfl kq54 ?_
   refine(zaA.calls kt ac ae (([]:List ByteArray)++L++M) us _ (Kd.R_reads' HO.out).2.2 (Kd.R_reads' HO.out).2.1 HKT.out).mono ?_
   rintro e b7 ⟨vn,rfl,hn,hb⟩
   obtain⟨An,cn,en⟩:=Kd.R_slice hn
   subst en
   refine⟨_,rfl,?_⟩
   have HN:=mk (Kd.R_lower hn (zad HB.out))
   have r:=mk (zai (g:=g3) (o:=.cells #[.slice A0 L.length c0,.slice A1 X.length c1,.int .i64 ka,.int .i64 ea] 74 (0,0)) BKg3.out hb)
   have D:=mk (zai (g:=g4) (o:=.cells #[.slice B0 M.length d0,.slice B1 Y.length d1,.int .i64 kb,.int .i64 eb] 74 (0,0)) BKg4.out hb)
   have G:=mk (zai (g:=g6) (o:=.cells #[.slice none 0 0,.slice none 0 0,.int .i64 0,.int .i64 0] 74 (0,0)) BKg6.out hb)
   have I:=mk (zai (g:=Z) (o:=.cells #[.slice none 0 0,.slice none 0 0,.int .i64 0,.int .i64 0] 74 (0,0)) BKg7.out hb)
   have J:=mk (zaa HB.out hb)
   clear BKg3 BKg4 BKg6 BKg7 HB
   have BKg3:=r
   have BKg4:=D
   have BKg6:=G
   have BKg7:=I
   have HB:=J
   clear r D G I J
   clear hb hn HO
   refine hK.out _ _ ⟨bk_ BKg3 0,bk_ BKg4 0⟩ (fun hHeld=>?_)
   clear hK K
   refine za2 (a':=?_) ?_ ?_
   rotate_left
   ·show Act.put _ (some 20) _=_
    simp only[Act.put,List.setIfInBounds_toArray,List.set_cons_zero,List.set_cons_succ]
    rfl
   refine pu_ 8 21 ?_
   have ne_a:=NBg3g7.out
   have ne_b:=Ne.symm NBg3g7.out
   obtain⟨_,_,_,_,_,_,_,_⟩:=cz4_ BKg7.out
   refine zb4 (i:=10) (N:=none) #[true,true,true,true,true,true,true,true,true,true,true] rfl rfl kq0 kq2 (fun K hK=>?_)
   refine zbO (w1:=?_) (by rfl) rfl ?_ ?_
   rotate_left
   ·go_simp
    rfl
   refine hK.out _ _ ?_
   clear hK K
   refine zbC kq0 ?_
   try go_wp2
   go_meet
   case rel=>exact⟨Z,An,cn,rfl,GEg7,NBg3g7,NBg4g7,NBg6g7,⟨zak (zak (zak (zak BKg7.out 0 _ rfl) 1 _ rfl) 2 _ rfl) 3 _ rfl⟩,⟨Kd.R_mono (Kd.R_far (p:=⟨Z,3,none⟩) (Kd.R_far (p:=⟨Z,2,none⟩) (Kd.R_far (p:=⟨Z,1,none⟩) (Kd.R_far (p:=⟨Z,0,none⟩) (Kd.R_types HN.out BKg7.out kq2) (fun _ h=>h.2) _) (fun _ h=>h.2) _) (fun _ h=>h.2) _) (fun _ h=>h.2) _) (fun _ _=>trivial)⟩,⟨zaj (zaj (zaj (zaj BKg3.out NBg3g7.out _) NBg3g7.out _) NBg3g7.out _) NBg3g7.out _⟩,⟨zaj (zaj (zaj (zaj BKg4.out NBg4g7.out _) NBg4g7.out _) NBg4g7.out _) NBg4g7.out _⟩,⟨zaj (zaj (zaj (zaj BKg6.out NBg6g7.out _) NBg6g7.out _) NBg6g7.out _) NBg6g7.out _⟩,⟨zav (zav (zav (zav HB.out GEg7.out) GEg7.out) GEg7.out) GEg7.out⟩⟩
 case rest=>
  clear BKg3 BKg4 BKg6 HB
  obtain⟨Z,An,cn,rfl,GEg7,NBg3g7,NBg4g7,NBg6g7,BKg7,HN,BKg3,BKg4,BKg6,HB⟩:=hcut
  have ne_g3g7:=NBg3g7.out
  have ne_g7g3:=Ne.symm NBg3g7.out
  have ne_g4g7:=NBg4g7.out
  have ne_g7g4:=Ne.symm NBg4g7.out
  have ne_g6g7:=NBg6g7.out
  have ne_g7g6:=Ne.symm NBg6g7.out
  go_wp2
  go_loopg [8] us.length (fun gq v8 wr=>∃(i:Nat) (vc:Value),v8= .int .i64 i∧Aside0 (i≤us.length)∧Aside0 (us.length-i≤gq)∧Aside0 (wr.heap[Z]?=some (.cells #[.slice An us.length cn,vc,.int .i64 0,.int .i64 (errP (fun x y=>x-y) L X M Y 0 (us.take i))] 74 (0,0)))∧Aside0 (Kd.R Kd.string 9 wr w.heap.size (fun _=>True) (.slice An us.length cn) us)∧Aside0 (Kd.R (Kd.int .i64) 2 wr w.heap.size (fun _=>True) vc (zcc (fun x y=>x-y) L X M Y (us.take i)))∧Aside0 (wr.heap[g3]?=some (.cells #[.slice A0 L.length c0,.slice A1 X.length c1,.int .i64 ka,.int .i64 ea] 74 (0,0)))∧Aside0 (wr.heap[g4]?=some (.cells #[.slice B0 M.length d0,.slice B1 Y.length d1,.int .i64 kb,.int .i64 eb] 74 (0,0)))∧Aside0 (wr.heap[g6]?=some (.cells #[.slice none 0 0,.slice none 0 0,.int .i64 0,.int .i64 0] 74 (0,0)))∧Aside0 (Below w.heap.size w wr))
  case atStart=>exact⟨0,.slice none 0 0,rfl,⟨Nat.zero_le _⟩,⟨kq1⟩,BKg7,HN,⟨kq60⟩,BKg3,BKg4,BKg6,HB⟩
  case round=>
   clear BKg7 BKg3 BKg4 BKg6 HB HN
   obtain⟨i,vc,rfl,HI,HQ,BKg7,HN,HRc,BKg3,BKg4,BKg6,HB⟩:=hrel
   by_cases hi:i<us.length
   ·have hiz:(i:Int)<(us.length:Int):=by omega
    have aU:(0:Int)≤(i:Int):=by omega
    obtain⟨ad,ead,hx⟩:=Kd.at_string (Kd.R_reads' HN.out).2.2 (i:Int) aU hiz
    cases ead
    rw[Int.toNat_natCast,zcM hi]at hx
    have HE:=mk (zfP (fun x y=>x-y) L X M Y us 0 i hi)
    have HM:=mk (ze4 (fun x y=>x-y) L X M Y us i hi)
    have HLT:=mk (show(zcc (fun x y=>x-y) L X M Y (us.take i)).length≤200000 by have:=HUL.out;unfold zcc;rw[List.length_map,List.length_take];omega)
    try dsimp only at HE HM
    generalize us[i]=s at hx HE HM
    obtain⟨kx,hkx⟩:=HOA.out s
    obtain⟨ky,hky⟩:=HOB.out s
    obtain⟨kp,hkp⟩:=HAD.out s
    obtain⟨kq,hkq⟩:=HSU.out s
    have HX:=mk hkx
    have HY:=mk hky
    have HP:=mk hkp
    have HS:=mk hkq
    have HXe:=mk hx
    clear hkx hky hkp hkq hx
    generalize hxa:ofS L X s=x at HX HE HM HP HS
    generalize hxb:ofS M Y s=y at HY HE HM HP HS
    clear hxa hxb
    have aG:wr.cell? ⟨Z,0,none⟩=some (.slice (some ad) us.length cn):=bk_ BKg7 0
    go_wp2
    clear aG
    refine zbv (n:=20) (S:=fun w'=>w'.cell? ⟨g3,0,none⟩=some (.slice A0 L.length c0)∧w'.cell? ⟨g3,1,none⟩=some (.slice A1 X.length c1)∧w'.cell? ⟨g3,2,none⟩=some (.int .i64 ka)∧w'.cell? ⟨g3,3,none⟩=some (.int .i64 ea)∧w'.cell? ⟨g4,0,none⟩=some (.slice B0 M.length d0)∧w'.cell? ⟨g4,1,none⟩=some (.slice B1 Y.length d1)∧w'.cell? ⟨g4,2,none⟩=some (.int .i64 kb)∧w'.cell? ⟨g4,3,none⟩=some (.int .i64 eb)∧w'.cell? ⟨Z,0,none⟩=some (.slice (some ad) us.length cn)∧w'.cell? (ad.add i)=some (.string s)) (ds:=[]) #[false,false,false,false,false,false,false,false,false,false,false,false,false,false,false,false,false,false,false,false] kq0 rfl rfl ⟨bk_ BKg3 0,bk_ BKg3 1,bk_ BKg3 2,bk_ BKg3 3,bk_ BKg4 0,bk_ BKg4 1,bk_ BKg4 2,bk_ BKg4 3,bk_ BKg7 0,HXe.out⟩ (fun hHeld=>?_)
    replace BKg3:Aside0 (wr.drew.heap[g3]?=some (.cells #[.slice A0 L.length c0,.slice A1 X.length c1,.int .i64 ka,.int .i64 ea] 74 (0,0))):=⟨BKg3.out⟩
    replace BKg4:Aside0 (wr.drew.heap[g4]?=some (.cells #[.slice B0 M.length d0,.slice B1 Y.length d1,.int .i64 kb,.int .i64 eb] 74 (0,0))):=⟨BKg4.out⟩
    replace BKg6:Aside0 (wr.drew.heap[g6]?=some (.cells #[.slice none 0 0,.slice none 0 0,.int .i64 0,.int .i64 0] 74 (0,0))):=⟨BKg6.out⟩
    replace BKg7:Aside0 (wr.drew.heap[Z]?=some (.cells #[.slice (some ad) us.length cn,vc,.int .i64 0,.int .i64 (errP (fun x y=>x-y) L X M Y 0 (us.take i))] 74 (0,0))):=⟨BKg7.out⟩
    replace HN:Aside0 (Kd.R Kd.string 9 wr.drew w.heap.size (fun _=>True) (.slice (some ad) us.length cn) us):=⟨HN.out⟩
    replace HRc:Aside0 (Kd.R (Kd.int .i64) 2 wr.drew w.heap.size (fun _=>True) vc (zcc (fun x y=>x-y) L X M Y (us.take i))):=⟨HRc.out⟩
    replace HB:Aside0 (Below w.heap.size w wr.drew):=⟨zaP HB.out⟩
    replace HXe:Aside0 (wr.drew.cell? (ad.add i)=some (.string s)):=⟨HXe.out⟩
    generalize wr.drew=aJ at BKg3 BKg4 BKg6 BKg7 HN HRc HB HXe hHeld ⊢
    refine pu_ 1 31 ?_
    refine pu_ 3 33 ?_
    refine pu_ 8 38 ?_
    refine pu_ 10 40 ?_
    refine ta_ 0 30 hHeld ?_
    refine ta_ 2 32 hHeld ?_
    refine ta_ 7 37 hHeld ?_
    refine ta_ 9 39 hHeld ?_
    refine pu_ 4 34 ?_
    refine pu_ 11 41 ?_
    refine ta_ 5 35 hHeld ?_
    refine ta_ 12 42 hHeld ?_
    refine on_ 6 36 (fun K hK=>?_)
    refine zbj Try.func130 kq0 rfl #[.agg #[.slice A0 L.length c0,.slice A1 X.length c1,.int .i64 ka,.int .i64 ea],.string s] (by rfl) rfl rfl kq54 ?_
    refine(zaM.calls kx A0 c0 L A1 c1 X ka ea s x _ (Kd.C_below ao.out HB.out) aA.out (Kd.C_below aC.out HB.out) aD.out HX.out).mono ?_
    rintro e aK ⟨rfl,hb⟩
    refine⟨_,rfl,?_⟩
    have r:=mk (zai (g:=g3) (o:=.cells #[.slice A0 L.length c0,.slice A1 X.length c1,.int .i64 ka,.int .i64 ea] 74 (0,0)) BKg3.out hb)
    have D:=mk (zai (g:=g4) (o:=.cells #[.slice B0 M.length d0,.slice B1 Y.length d1,.int .i64 kb,.int .i64 eb] 74 (0,0)) BKg4.out hb)
    have G:=mk (zai (g:=g6) (o:=.cells #[.slice none 0 0,.slice none 0 0,.int .i64 0,.int .i64 0] 74 (0,0)) BKg6.out hb)
    have I:=mk (zai (g:=Z) (o:=.cells #[.slice (some ad) us.length cn,vc,.int .i64 0,.int .i64 (errP (fun x y=>x-y) L X M Y 0 (us.take i))] 74 (0,0)) BKg7.out hb)
    have J:=mk (Kd.R_below HN.out hb)
    have U:=mk (Kd.R_below HRc.out hb)
    have aa:=mk ((hb.cell (World.block_lt_of_cell? _ _ HXe.out)).trans HXe.out)
    have ab:=mk (zaa HB.out hb)
    clear BKg3 BKg4 BKg6 BKg7 HN HRc HXe HB
    have BKg3:=r
    have BKg4:=D
    have BKg6:=G
    have BKg7:=I
    have HN:=J
    have HRc:=U
    have HXe:=aa
    have HB:=ab
    clear r D G I J U aa ab
    clear hb
    refine hK.out _ _ ⟨bk_ BKg3 0,bk_ BKg3 1,bk_ BKg3 2,bk_ BKg3 3,bk_ BKg4 0,bk_ BKg4 1,bk_ BKg4 2,bk_ BKg4 3,bk_ BKg7 0,HXe.out⟩ (fun hHeld=>?_)
    clear hK K
    refine za2 (a':=?_) ?_ ?_
    rotate_left
    ·show Act.put _ (some 36) _=_
     simp only[Act.put,List.setIfInBounds_toArray,List.set_cons_zero,List.set_cons_succ]
     rfl
    refine on_ 13 43 (fun K hK=>?_)
    refine zbj Try.func130 kq0 rfl #[.agg #[.slice B0 M.length d0,.slice B1 Y.length d1,.int .i64 kb,.int .i64 eb],.string s] (by rfl) rfl rfl kq54 ?_
    refine(zaM.calls ky B0 d0 M B1 d1 Y kb eb s y _ (Kd.C_below an.out HB.out) HD0.out (Kd.C_below aE.out HB.out) HD1.out HY.out).mono ?_
    rintro e aM ⟨rfl,hb⟩
    refine⟨_,rfl,?_⟩
    have r:=mk (zai (g:=g3) (o:=.cells #[.slice A0 L.length c0,.slice A1 X.length c1,.int .i64 ka,.int .i64 ea] 74 (0,0)) BKg3.out hb)
    have D:=mk (zai (g:=g4) (o:=.cells #[.slice B0 M.length d0,.slice B1 Y.length d1,.int .i64 kb,.int .i64 eb] 74 (0,0)) BKg4.out hb)
    have G:=mk (zai (g:=g6) (o:=.cells #[.slice none 0 0,.slice none 0 0,.int .i64 0,.int .i64 0] 74 (0,0)) BKg6.out hb)
    have I:=mk (zai (g:=Z) (o:=.cells #[.slice (some ad) us.length cn,vc,.int .i64 0,.int .i64 (errP (fun x y=>x-y) L X M Y 0 (us.take i))] 74 (0,0)) BKg7.out hb)
    have J:=mk (Kd.R_below HN.out hb)
    have U:=mk (Kd.R_below HRc.out hb)
    have aa:=mk ((hb.cell (World.block_lt_of_cell? _ _ HXe.out)).trans HXe.out)
    have ab:=mk (zaa HB.out hb)
    clear BKg3 BKg4 BKg6 BKg7 HN HRc HXe HB
    have BKg3:=r
    have BKg4:=D
    have BKg6:=G
    have BKg7:=I
    have HN:=J
    have HRc:=U
    have HXe:=aa
    have HB:=ab
    clear r D G I J U aa ab
    clear hb
    refine hK.out _ _ ⟨bk_ BKg3 0,bk_ BKg3 1,bk_ BKg3 2,bk_ BKg3 3,bk_ BKg4 0,bk_ BKg4 1,bk_ BKg4 2,bk_ BKg4 3,bk_ BKg7 0,HXe.out⟩ (fun hHeld=>?_)
    clear hK K
    refine za2 (a':=?_) ?_ ?_
    rotate_left
    ·show Act.put _ (some 43) _=_
     simp only[Act.put,List.setIfInBounds_toArray,List.set_cons_zero,List.set_cons_succ]
     rfl
    refine on_ 14 44 (fun K hK=>?_)
    refine zbj Try.func129 kq0 rfl #[.int .i64 x,.int .i64 y] (by rfl) rfl rfl kq54 ?_
    refine(zbk.calls kp x y (fit (x+y)).1 (fit (x+y)).2 _ HP.out).mono ?_
    rintro e aj ⟨rfl,hb⟩
    refine⟨_,rfl,?_⟩
    have r:=mk (zai (g:=g3) (o:=.cells #[.slice A0 L.length c0,.slice A1 X.length c1,.int .i64 ka,.int .i64 ea] 74 (0,0)) BKg3.out hb)
    have D:=mk (zai (g:=g4) (o:=.cells #[.slice B0 M.length d0,.slice B1 Y.length d1,.int .i64 kb,.int .i64 eb] 74 (0,0)) BKg4.out hb)
    have G:=mk (zai (g:=g6) (o:=.cells #[.slice none 0 0,.slice none 0 0,.int .i64 0,.int .i64 0] 74 (0,0)) BKg6.out hb)
    have I:=mk (zai (g:=Z) (o:=.cells #[.slice (some ad) us.length cn,vc,.int .i64 0,.int .i64 (errP (fun x y=>x-y) L X M Y 0 (us.take i))] 74 (0,0)) BKg7.out hb)
    have J:=mk (Kd.R_below HN.out hb)
    have U:=mk (Kd.R_below HRc.out hb)
    have aa:=mk ((hb.cell (World.block_lt_of_cell? _ _ HXe.out)).trans HXe.out)
    have ab:=mk (zaa HB.out hb)
    clear BKg3 BKg4 BKg6 BKg7 HN HRc HXe HB
    have BKg3:=r
    have BKg4:=D
    have BKg6:=G
    have BKg7:=I
    have HN:=J
    have HRc:=U
    have HXe:=aa
    have HB:=ab
    clear r D G I J U aa ab
    clear hb
    refine hK.out _ _ ⟨bk_ BKg3 0,bk_ BKg3 1,bk_ BKg3 2,bk_ BKg3 3,bk_ BKg4 0,bk_ BKg4 1,bk_ BKg4 2,bk_ BKg4 3,bk_ BKg7 0,HXe.out⟩ (fun hHeld=>?_)
    clear hK K
    refine za2 (a':=?_) ?_ ?_
    rotate_left
    ·show Act.put _ (some 44) _=_
     simp only[Act.put,List.setIfInBounds_toArray,List.set_cons_zero,List.set_cons_succ]
     rfl
    refine pu_ 15 29 ?_
    refine pu_ 16 45 ?_
    refine pu_ 17 46 ?_
    refine pu_ 18 9 ?_
    refine pu_ 19 10 ?_
    refine zbC kq0 ?_
    try go_wp2
    refine zbv (n:=20) (S:=fun w'=>w'.cell? ⟨g3,0,none⟩=some (.slice A0 L.length c0)∧w'.cell? ⟨g3,1,none⟩=some (.slice A1 X.length c1)∧w'.cell? ⟨g3,2,none⟩=some (.int .i64 ka)∧w'.cell? ⟨g3,3,none⟩=some (.int .i64 ea)∧w'.cell? ⟨g4,0,none⟩=some (.slice B0 M.length d0)∧w'.cell? ⟨g4,1,none⟩=some (.slice B1 Y.length d1)∧w'.cell? ⟨g4,2,none⟩=some (.int .i64 kb)∧w'.cell? ⟨g4,3,none⟩=some (.int .i64 eb)∧w'.cell? ⟨Z,0,none⟩=some (.slice (some ad) us.length cn)∧w'.cell? (ad.add i)=some (.string s)) (ds:=[]) #[false,false,false,false,false,false,false,false,false,false,false,false,false,false,false,false,false,false,false,false] kq0 rfl rfl ⟨bk_ BKg3 0,bk_ BKg3 1,bk_ BKg3 2,bk_ BKg3 3,bk_ BKg4 0,bk_ BKg4 1,bk_ BKg4 2,bk_ BKg4 3,bk_ BKg7 0,HXe.out⟩ (fun hHeld=>?_)
    replace BKg3:Aside0 (aj.drew.heap[g3]?=some (.cells #[.slice A0 L.length c0,.slice A1 X.length c1,.int .i64 ka,.int .i64 ea] 74 (0,0))):=⟨BKg3.out⟩
    replace BKg4:Aside0 (aj.drew.heap[g4]?=some (.cells #[.slice B0 M.length d0,.slice B1 Y.length d1,.int .i64 kb,.int .i64 eb] 74 (0,0))):=⟨BKg4.out⟩
    replace BKg6:Aside0 (aj.drew.heap[g6]?=some (.cells #[.slice none 0 0,.slice none 0 0,.int .i64 0,.int .i64 0] 74 (0,0))):=⟨BKg6.out⟩
    replace BKg7:Aside0 (aj.drew.heap[Z]?=some (.cells #[.slice (some ad) us.length cn,vc,.int .i64 0,.int .i64 (errP (fun x y=>x-y) L X M Y 0 (us.take i))] 74 (0,0))):=⟨BKg7.out⟩
    replace HN:Aside0 (Kd.R Kd.string 9 aj.drew w.heap.size (fun _=>True) (.slice (some ad) us.length cn) us):=⟨HN.out⟩
    replace HRc:Aside0 (Kd.R (Kd.int .i64) 2 aj.drew w.heap.size (fun _=>True) vc (zcc (fun x y=>x-y) L X M Y (us.take i))):=⟨HRc.out⟩
    replace HB:Aside0 (Below w.heap.size w aj.drew):=⟨zaP HB.out⟩
    replace HXe:Aside0 (aj.drew.cell? (ad.add i)=some (.string s)):=⟨HXe.out⟩
    generalize aj.drew=aN at BKg3 BKg4 BKg6 BKg7 HN HRc HB HXe hHeld ⊢
    refine pu_ 1 50 ?_
    refine pu_ 3 52 ?_
    refine pu_ 8 57 ?_
    refine pu_ 10 59 ?_
    refine ta_ 0 49 hHeld ?_
    refine ta_ 2 51 hHeld ?_
    refine ta_ 7 56 hHeld ?_
    refine ta_ 9 58 hHeld ?_
    refine pu_ 4 53 ?_
    refine pu_ 11 60 ?_
    refine ta_ 5 54 hHeld ?_
    refine ta_ 12 61 hHeld ?_
    refine on_ 6 55 (fun K hK=>?_)
    refine zbj Try.func130 kq0 rfl #[.agg #[.slice A0 L.length c0,.slice A1 X.length c1,.int .i64 ka,.int .i64 ea],.string s] (by rfl) rfl rfl kq54 ?_
    refine(zaM.calls kx A0 c0 L A1 c1 X ka ea s x _ (Kd.C_below ao.out HB.out) aA.out (Kd.C_below aC.out HB.out) aD.out HX.out).mono ?_
    rintro e aQ ⟨rfl,hb⟩
    refine⟨_,rfl,?_⟩
    have r:=mk (zai (g:=g3) (o:=.cells #[.slice A0 L.length c0,.slice A1 X.length c1,.int .i64 ka,.int .i64 ea] 74 (0,0)) BKg3.out hb)
    have D:=mk (zai (g:=g4) (o:=.cells #[.slice B0 M.length d0,.slice B1 Y.length d1,.int .i64 kb,.int .i64 eb] 74 (0,0)) BKg4.out hb)
    have G:=mk (zai (g:=g6) (o:=.cells #[.slice none 0 0,.slice none 0 0,.int .i64 0,.int .i64 0] 74 (0,0)) BKg6.out hb)
    have I:=mk (zai (g:=Z) (o:=.cells #[.slice (some ad) us.length cn,vc,.int .i64 0,.int .i64 (errP (fun x y=>x-y) L X M Y 0 (us.take i))] 74 (0,0)) BKg7.out hb)
    have J:=mk (Kd.R_below HN.out hb)
    have U:=mk (Kd.R_below HRc.out hb)
    have aa:=mk ((hb.cell (World.block_lt_of_cell? _ _ HXe.out)).trans HXe.out)
    have ab:=mk (zaa HB.out hb)
    clear BKg3 BKg4 BKg6 BKg7 HN HRc HXe HB
    have BKg3:=r
    have BKg4:=D
    have BKg6:=G
    have BKg7:=I
    have HN:=J
    have HRc:=U
    have HXe:=aa
    have HB:=ab
    clear r D G I J U aa ab
    clear hb
    refine hK.out _ _ ⟨bk_ BKg3 0,bk_ BKg3 1,bk_ BKg3 2,bk_ BKg3 3,bk_ BKg4 0,bk_ BKg4 1,bk_ BKg4 2,bk_ BKg4 3,bk_ BKg7 0,HXe.out⟩ (fun hHeld=>?_)
    clear hK K
    refine za2 (a':=?_) ?_ ?_
    rotate_left
    ·show Act.put _ (some 55) _=_
     simp only[Act.put,List.setIfInBounds_toArray,List.set_cons_zero,List.set_cons_succ]
     rfl
    refine on_ 13 62 (fun K hK=>?_)
    refine zbj Try.func130 kq0 rfl #[.agg #[.slice B0 M.length d0,.slice B1 Y.length d1,.int .i64 kb,.int .i64 eb],.string s] (by rfl) rfl rfl kq54 ?_
    refine(zaM.calls ky B0 d0 M B1 d1 Y kb eb s y _ (Kd.C_below an.out HB.out) HD0.out (Kd.C_below aE.out HB.out) HD1.out HY.out).mono ?_
    rintro e aT ⟨rfl,hb⟩
    refine⟨_,rfl,?_⟩
    have r:=mk (zai (g:=g3) (o:=.cells #[.slice A0 L.length c0,.slice A1 X.length c1,.int .i64 ka,.int .i64 ea] 74 (0,0)) BKg3.out hb)
    have D:=mk (zai (g:=g4) (o:=.cells #[.slice B0 M.length d0,.slice B1 Y.length d1,.int .i64 kb,.int .i64 eb] 74 (0,0)) BKg4.out hb)
    have G:=mk (zai (g:=g6) (o:=.cells #[.slice none 0 0,.slice none 0 0,.int .i64 0,.int .i64 0] 74 (0,0)) BKg6.out hb)
    have I:=mk (zai (g:=Z) (o:=.cells #[.slice (some ad) us.length cn,vc,.int .i64 0,.int .i64 (errP (fun x y=>x-y) L X M Y 0 (us.take i))] 74 (0,0)) BKg7.out hb)
    have J:=mk (Kd.R_below HN.out hb)
    have U:=mk (Kd.R_below HRc.out hb)
    have aa:=mk ((hb.cell (World.block_lt_of_cell? _ _ HXe.out)).trans HXe.out)
    have ab:=mk (zaa HB.out hb)
    clear BKg3 BKg4 BKg6 BKg7 HN HRc HXe HB
    have BKg3:=r
    have BKg4:=D
    have BKg6:=G
    have BKg7:=I
    have HN:=J
    have HRc:=U
    have HXe:=aa
    have HB:=ab
    clear r D G I J U aa ab
    clear hb
    refine hK.out _ _ ⟨bk_ BKg3 0,bk_ BKg3 1,bk_ BKg3 2,bk_ BKg3 3,bk_ BKg4 0,bk_ BKg4 1,bk_ BKg4 2,bk_ BKg4 3,bk_ BKg7 0,HXe.out⟩ (fun hHeld=>?_)
    clear hK K
    refine za2 (a':=?_) ?_ ?_
    rotate_left
    ·show Act.put _ (some 62) _=_
     simp only[Act.put,List.setIfInBounds_toArray,List.set_cons_zero,List.set_cons_succ]
     rfl
    refine on_ 14 63 (fun K hK=>?_)
    refine zbj Try.func92 kq0 rfl #[.int .i64 x,.int .i64 y] (by rfl) rfl rfl kq54 ?_
    refine(zbs.calls kq x y (fit (x-y)).1 (fit (x-y)).2 _ HS.out).mono ?_
    rintro e al ⟨rfl,hb⟩
    refine⟨_,rfl,?_⟩
    have r:=mk (zai (g:=g3) (o:=.cells #[.slice A0 L.length c0,.slice A1 X.length c1,.int .i64 ka,.int .i64 ea] 74 (0,0)) BKg3.out hb)
    have D:=mk (zai (g:=g4) (o:=.cells #[.slice B0 M.length d0,.slice B1 Y.length d1,.int .i64 kb,.int .i64 eb] 74 (0,0)) BKg4.out hb)
    have G:=mk (zai (g:=g6) (o:=.cells #[.slice none 0 0,.slice none 0 0,.int .i64 0,.int .i64 0] 74 (0,0)) BKg6.out hb)
    have I:=mk (zai (g:=Z) (o:=.cells #[.slice (some ad) us.length cn,vc,.int .i64 0,.int .i64 (errP (fun x y=>x-y) L X M Y 0 (us.take i))] 74 (0,0)) BKg7.out hb)
    have J:=mk (Kd.R_below HN.out hb)
    have U:=mk (Kd.R_below HRc.out hb)
    have aa:=mk ((hb.cell (World.block_lt_of_cell? _ _ HXe.out)).trans HXe.out)
    have ab:=mk (zaa HB.out hb)
    clear BKg3 BKg4 BKg6 BKg7 HN HRc HXe HB
    have BKg3:=r
    have BKg4:=D
    have BKg6:=G
    have BKg7:=I
    have HN:=J
    have HRc:=U
    have HXe:=aa
    have HB:=ab
    clear r D G I J U aa ab
    clear hb
    refine hK.out _ _ ⟨bk_ BKg3 0,bk_ BKg3 1,bk_ BKg3 2,bk_ BKg3 3,bk_ BKg4 0,bk_ BKg4 1,bk_ BKg4 2,bk_ BKg4 3,bk_ BKg7 0,HXe.out⟩ (fun hHeld=>?_)
    clear hK K
    refine za2 (a':=?_) ?_ ?_
    rotate_left
    ·show Act.put _ (some 63) _=_
     simp only[Act.put,List.setIfInBounds_toArray,List.set_cons_zero,List.set_cons_succ]
     rfl
    refine pu_ 15 48 ?_
    refine pu_ 16 64 ?_
    refine pu_ 17 65 ?_
    refine pu_ 18 9 ?_
    refine pu_ 19 10 ?_
    refine zbC kq0 ?_
    try go_wp2
    refine zbv (n:=9) (S:=fun w'=>w'.cell? ⟨Z,1,none⟩=some vc) (ds:=[8]) #[false,false,false,false,false,false,false,false,false] kq0 rfl rfl (bk_ BKg7 1) (fun hHeld=>?_)
    replace BKg3:Aside0 (al.drew.heap[g3]?=some (.cells #[.slice A0 L.length c0,.slice A1 X.length c1,.int .i64 ka,.int .i64 ea] 74 (0,0))):=⟨BKg3.out⟩
    replace BKg4:Aside0 (al.drew.heap[g4]?=some (.cells #[.slice B0 M.length d0,.slice B1 Y.length d1,.int .i64 kb,.int .i64 eb] 74 (0,0))):=⟨BKg4.out⟩
    replace BKg6:Aside0 (al.drew.heap[g6]?=some (.cells #[.slice none 0 0,.slice none 0 0,.int .i64 0,.int .i64 0] 74 (0,0))):=⟨BKg6.out⟩
    replace BKg7:Aside0 (al.drew.heap[Z]?=some (.cells #[.slice (some ad) us.length cn,vc,.int .i64 0,.int .i64 (errP (fun x y=>x-y) L X M Y 0 (us.take i))] 74 (0,0))):=⟨BKg7.out⟩
    replace HN:Aside0 (Kd.R Kd.string 9 al.drew w.heap.size (fun _=>True) (.slice (some ad) us.length cn) us):=⟨HN.out⟩
    replace HRc:Aside0 (Kd.R (Kd.int .i64) 2 al.drew w.heap.size (fun _=>True) vc (zcc (fun x y=>x-y) L X M Y (us.take i))):=⟨HRc.out⟩
    replace HB:Aside0 (Below w.heap.size w al.drew):=⟨zaP HB.out⟩
    generalize al.drew=b8 at BKg3 BKg4 BKg6 BKg7 HN HRc HB hHeld ⊢
    refine pu_ 0 66 ?_
    refine pu_ 2 68 ?_
    refine pu_ 3 69 ?_
    refine ta_ 1 67 hHeld ?_
    refine on_ 4 70 (fun K hK=>?_)
    refine zbj Try.func93 kq0 rfl #[.pointer (some ⟨Z,0,none⟩),.int .i64 (fit (x-y)).1,.int .i64 (fit (x-y)).2] (by rfl) rfl rfl kq54 ?_
    refine(zcF Z (.slice (some ad) us.length cn) vc 0 (errP (fun x y=>x-y) L X M Y 0 (us.take i)) (fit (x-y)).1 (fit (x-y)).2 w _ GEg7.out HB.out BKg7.out).mono ?_
    rintro e aH ⟨rfl,hg,hk,hb⟩
    refine⟨_,rfl,?_⟩
    have r:=mk (hk.blk BKg3.out ne_g3g7 (by simp))
    have D:=mk (hk.blk BKg4.out ne_g4g7 (by simp))
    have G:=mk (hk.blk BKg6.out ne_g6g7 (by simp))
    have I:=mk (Kd.R_mono (Kd.R_keep (Kd.R_types HN.out BKg7.out kq2) hk (fun _ h=>h.2)) (fun _ h=>h.1))
    have J:=mk (Kd.R_mono (Kd.R_keep (Kd.R_types HRc.out BKg7.out kq2) hk (fun _ h=>h.2)) (fun _ h=>h.1))
    have U:=mk (hg)
    have aa:=mk (hb)
    clear BKg3 BKg4 BKg6 HN HRc BKg7 HB
    have BKg3:=r
    have BKg4:=D
    have BKg6:=G
    have HN:=I
    have HRc:=J
    have BKg7:=U
    have HB:=aa
    clear r D G I J U aa
    clear hg hk hb
    refine hK.out _ _ (bk_ BKg7 1) (fun hHeld=>?_)
    clear hK K
    refine za2 (a':=?_) ?_ ?_
    rotate_left
    ·show Act.put _ (some 70) _=_
     simp only[Act.put,List.setIfInBounds_toArray,List.set_cons_zero,List.set_cons_succ]
     rfl
    refine on_ 5 71 (fun K hK=>?_)
    refine zbU (v:=.slice (some ⟨aH.heap.size,0,none⟩) 1 1) (w1:=aH.alloc (.cells #[.int .i64 (fit (x-y)).1] 2)) (by rfl) rfl ?_ ?_
    ·go_simp
     all_goals first|done|rfl|exact⟨rfl,rfl⟩
    refine hK.out _ _ ((za1 (zab BKg7.out _) 1).trans rfl) (fun hHeld=>?_)
    clear hK K
    refine za2 (a':=?_) ?_ ?_
    rotate_left
    ·show Act.put _ (some 71) _=_
     simp only[Act.put,List.setIfInBounds_toArray,List.set_cons_zero,List.set_cons_succ]
     rfl
    refine on_ 6 72 (fun K hK=>?_)
    refine Kd.R_append_step (Kd.int .i64) (w0:=w) w.heap.size (by rfl) (.tmp 67) (.tmp 71) 55 2 (.int .i64 0) 8 (by rfl) Try.underlying55 zgq rfl kq2 kq2 vc (zcc (fun x y=>x-y) L X M Y (us.take i)) (fit (x-y)).1 [.int .i64 (fit (x-y)).1] (fun _=>True) (fun _=>False) (by rfl) (by rfl) rfl (fun _ hk=>hk.elim) (fun _ _=>trivial) HRc.out HB.out (zad HB.out) (by have:=HLT.out;omega) ?_
    intro v8 aV av hb8 hg8 hat8
    obtain⟨A8,c8,ev8⟩:=Kd.R_slice av
    subst ev8
    have r:=mk (zaJ BKg3.out hg8 (Kd.R_ne HRc.out BKg3.out kq2))
    have D:=mk (zaJ BKg4.out hg8 (Kd.R_ne HRc.out BKg4.out kq2))
    have G:=mk (zaJ BKg6.out hg8 (Kd.R_ne HRc.out BKg6.out kq2))
    have I:=mk (zaJ BKg7.out hg8 (Kd.R_ne HRc.out BKg7.out kq2))
    have J:=mk (Kd.R_over HN.out HRc.out kq2 hg8)
    have U:=mk (av)
    have aa:=mk (hb8)
    clear BKg3 BKg4 BKg6 BKg7 HN HRc HB
    have BKg3:=r
    have BKg4:=D
    have BKg6:=G
    have BKg7:=I
    have HN:=J
    have HRc:=U
    have HB:=aa
    clear r D G I J U aa
    clear av hb8 hg8 hat8
    refine hK.out _ _ (bk_ BKg7 1) (fun hHeld=>?_)
    clear hK K
    refine za2 (a':=?_) ?_ ?_
    rotate_left
    ·show Act.put _ (some 72) _=_
     simp only[Act.put,List.setIfInBounds_toArray,List.set_cons_zero,List.set_cons_succ]
     rfl
    refine pu_ 7 73 ?_
    have b9:aV.cell? ⟨Z,1,none⟩=some vc:=bk_ BKg7 1
    have ba:=zaD BKg7.out 1
    refine zb4 (i:=8) (N:=none) #[true,true,true,true,true,true,true,true,true] rfl rfl kq0 kq2 (fun K hK=>?_)
    refine zbO (w1:=?_) (by rfl) rfl ?_ ?_
    rotate_left
    ·go_simp
     rfl
    refine hK.out _ _ ?_
    clear hK K
    refine zbC kq0 ?_
    try go_wp2
    go_roundg (us.length-(i+1))
    case measure=>have:=HQ.out;omega
    case rel=>
     have aI:=HRc.out
     rw[List.length_append,List.length_singleton,←HM.out]at aI
     exact⟨i+1,.slice A8 ((zcc (fun x y=>x-y) L X M Y (us.take i)).length+1) c8,kq61,⟨kq1⟩,⟨kq1⟩,⟨by rw[HE.out];exact zak BKg7.out 1 _ rfl⟩,⟨Kd.R_set HN.out BKg7.out kq2 1 _⟩,⟨Kd.R_set aI BKg7.out kq2 1 _⟩,⟨zaj BKg3.out ne_g3g7 _⟩,⟨zaj BKg4.out ne_g4g7 _⟩,⟨zaj BKg6.out ne_g6g7 _⟩,⟨zav HB.out GEg7.out⟩⟩
   ·have hiz:¬(i:Int)<(us.length:Int):=by omega
    have hil:i=us.length:=by have:=HI.out;omega
    have HX:=mk (show errP (fun x y=>x-y) L X M Y 0 (us.take i)=errP (fun x y=>x-y) L X M Y 0 us by rw[hil,List.take_length])
    have HY:=mk (show zcc (fun x y=>x-y) L X M Y (us.take i)=zcc (fun x y=>x-y) L X M Y us by rw[hil,List.take_length])
    clear hil hi
    obtain⟨Av,cv,ev⟩:=Kd.R_slice HRc.out
    subst ev
    obtain⟨_,_,_,_,_,_,_,_⟩:=cz4_ BKg3.out
    obtain⟨_,_,_,_,_,_,_,_⟩:=cz4_ BKg4.out
    obtain⟨_,_,_,_,_,_,_,_⟩:=cz4_ BKg6.out
    obtain⟨_,_,_,_,_,_,_,_⟩:=cz4_ BKg7.out
    go_wp2_with (first|((go_at_call 129;(with_reducible refine(zbk.calls kka ka kb (fit (ka+kb)).1 (fit (ka+kb)).2 _ HKA.out).mono ?_);rintro e bb ⟨rfl,hb⟩;replace BKg3:=(bc_ BKg3 hb (kq45 BKg3));replace BKg4:=(bc_ BKg4 hb (kq45 BKg4));replace BKg6:=(bc_ BKg6 hb (kq45 BKg6));replace BKg7:=(bc_ BKg7 hb (kq45 BKg7));replace HN:=mk (Kd.R_below kq55 hb);replace HRc:=mk (Kd.R_below (kq56 HRc) hb);replace HB:=mk (zaa kq43 hb);clear hb;obtain⟨_,_,_,_,_,_,_,_⟩:=cz4_ BKg3.out;obtain⟨_,_,_,_,_,_,_,_⟩:=cz4_ BKg4.out;obtain⟨_,_,_,_,_,_,_,_⟩:=cz4_ BKg6.out;obtain⟨_,_,_,_,_,_,_,_⟩:=cz4_ BKg7.out))|((go_at_call 92;(with_reducible refine(zbs.calls kks ka kb (fit (ka-kb)).1 (fit (ka-kb)).2 _ HKS.out).mono ?_);rintro e bc ⟨rfl,hb⟩;replace BKg3:=(bc_ BKg3 hb (kq45 BKg3));replace BKg4:=(bc_ BKg4 hb (kq45 BKg4));replace BKg6:=(bc_ BKg6 hb (kq45 BKg6));replace BKg7:=(bc_ BKg7 hb (kq45 BKg7));replace HN:=mk (Kd.R_below kq55 hb);replace HRc:=mk (Kd.R_below (kq56 HRc) hb);replace HB:=mk (zaa kq43 hb);clear hb;obtain⟨_,_,_,_,_,_,_,_⟩:=cz4_ BKg3.out;obtain⟨_,_,_,_,_,_,_,_⟩:=cz4_ BKg4.out;obtain⟨_,_,_,_,_,_,_,_⟩:=cz4_ BKg6.out;obtain⟨_,_,_,_,_,_,_,_⟩:=cz4_ BKg7.out))|((go_at_call 93;(with_reducible refine(zcF Z (.slice An us.length cn) (.slice Av (zcc (fun x y=>x-y) L X M Y (us.take i)).length cv) 0 (errP (fun x y=>x-y) L X M Y 0 (us.take i)) (fit (ka-kb)).1 (fit (ka-kb)).2 w _ GEg7.out ?s1 ?s2).mono ?_);(case s1=>exact kq58);(case s2=>exact kq59 BKg7);rintro e bd ⟨rfl,hg,hk,hb⟩;replace BKg6:=mk (hk.blk (kq45 BKg6) ne_g6g7 (by simp));replace HN:=mk (Kd.R_mono (Kd.R_keep (Kd.R_types kq55 (kq45 BKg7) kq2) hk (fun _ h=>h.2)) (fun _ h=>h.1));replace HRc:=mk (Kd.R_mono (Kd.R_keep (Kd.R_types (kq56 HRc) (kq45 BKg7) kq2) hk (fun _ h=>h.2)) (fun _ h=>h.1));replace BKg7:=mk (hg);replace HB:=mk (hb);clear hg hk hb;obtain⟨_,_,_,_,_,_,_,_⟩:=cz4_ BKg6.out;obtain⟨_,_,_,_,_,_,_,_⟩:=cz4_ BKg7.out)))
    refine bodyPost_ret (results_cell_row rfl _ _ g6 74 #[.slice An us.length cn,.slice Av (zcc (fun x y=>x-y) L X M Y (us.take i)).length cv,.int .i64 (fit (ka-kb)).1,.int .i64 (zcB (errP (fun x y=>x-y) L X M Y 0 (us.take i)) (fit (ka-kb)).2)] (0,0) _ rfl (zak (zak (zak (zak (zaj BKg6.out ne_g6g7 _) 0 _ rfl) 1 _ rfl) 2 _ rfl) 3 _ rfl) Try.underlying74 rfl kq0) rfl ?_
    have p0:=Kd.R_types (Kd.R_types HN.out BKg7.out kq2) BKg6.out kq2
    have p1:=Kd.R_far (p:=⟨Z,2,none⟩) p0 (fun _ h=>h.1.2) (.int .i64 (fit (ka-kb)).1)
    have p2:=Kd.R_far (p:=⟨g6,0,none⟩) p1 (fun _ h=>h.2) (.slice An us.length cn)
    have p3:=Kd.R_far (p:=⟨g6,1,none⟩) p2 (fun _ h=>h.2) (.slice Av (zcc (fun x y=>x-y) L X M Y (us.take i)).length cv)
    have p4:=Kd.R_far (p:=⟨g6,2,none⟩) p3 (fun _ h=>h.2) (.int .i64 (fit (ka-kb)).1)
    have p5:=Kd.R_far (p:=⟨g6,3,none⟩) p4 (fun _ h=>h.2) (.int .i64 (zcB (errP (fun x y=>x-y) L X M Y 0 (us.take i)) (fit (ka-kb)).2))
    have q0:=Kd.R_types (Kd.R_types HRc.out BKg7.out kq2) BKg6.out kq2
    have q1:=Kd.R_far (p:=⟨Z,2,none⟩) q0 (fun _ h=>h.1.2) (.int .i64 (fit (ka-kb)).1)
    have q2:=Kd.R_far (p:=⟨g6,0,none⟩) q1 (fun _ h=>h.2) (.slice An us.length cn)
    have q3:=Kd.R_far (p:=⟨g6,1,none⟩) q2 (fun _ h=>h.2) (.slice Av (zcc (fun x y=>x-y) L X M Y (us.take i)).length cv)
    have q4:=Kd.R_far (p:=⟨g6,2,none⟩) q3 (fun _ h=>h.2) (.int .i64 (fit (ka-kb)).1)
    have q5:=Kd.R_far (p:=⟨g6,3,none⟩) q4 (fun _ h=>h.2) (.int .i64 (zcB (errP (fun x y=>x-y) L X M Y 0 (us.take i)) (fit (ka-kb)).2))
    exact⟨.slice An us.length cn,.slice Av (zcc (fun x y=>x-y) L X M Y (us.take i)).length cv,by rw[←HX.out],Kd.R_mono p5 (fun _ _=>trivial),kq62,(kq63 GEg6 GEg7)⟩
set_option maxHeartbeats 16000000 in
theorem zfR (A0:Option Addr) (c0:Nat) (L:List ByteArray) (A1:Option Addr) (c1:Nat) (U:List Int) (ka ea:Int) (B0:Option Addr) (d0:Nat) (M:List ByteArray) (B1:Option Addr) (d1:Nat) (X:List Int) (kb eb:Int) (w:World)
 (av:Kd.C Kd.string w A0 L.length L) (hc0:L.length≤c0) (aw:Kd.C (Kd.int .i64) w A1 U.length U) (hc1:U.length≤c1) (ax:Kd.C Kd.string w B0 M.length M) (hd0:M.length≤d0) (ay:Kd.C (Kd.int .i64) w B1 X.length X) (hd1:X.length≤d1)
 (hla:L.length≤100000) (hlb:M.length≤100000) (hle:L.length≤U.length) (hlf:M.length≤X.length) (aq:U.all zbx=true) (ar:X.all zbx=true) (hik:In64 ka) (hjk:In64 kb) :
 Calls Try.prog 91 #[.agg #[.slice A0 L.length c0,.slice A1 U.length c1,.int .i64 ka,.int .i64 ea],.agg #[.slice B0 M.length d0,.slice B1 X.length d1,.int .i64 kb,.int .i64 eb],.bool false] w fun e w'=>∃v0 v1:Value,e= .returned (.agg #[v0,v1,.int .i64 (fit (ka+kb)).1,.int .i64 (zcB (errP (fun x y=>x+y) L U M X 0 (zce (L++M))) (fit (ka+kb)).2)])∧Kd.R Kd.string 9 w' w.heap.size (fun _=>True) v0 (zce (L++M))∧Kd.R (Kd.int .i64) 2 w' w.heap.size (fun _=>True) v1 (zcc (fun x y=>x+y) L U M X (zce (L++M)))∧Below w.heap.size w w':=by
 have aQ:=Try.underlying74
 obtain⟨kt,hkt⟩:=(zeL (([]:List ByteArray)++L++M) (by simp only[List.length_append,List.length_nil];omega)).rounds
 rw[List.nil_append]at hkt
 have hul:=zcn (L++M)
 rw[List.length_append]at hul
 have HKT:Aside0 (zaA.f kt (([]:List ByteArray)++L++M)=some (zce (L++M))):=⟨by rw[List.nil_append];exact hkt⟩
 have HUL:=mk (show(zce (L++M)).length≤200000 by omega)
 have HLA:=mk hla
 have HLB:=mk hlb
 have HOA:=mk (fun s=>zgK L U ka ea s kq1 hle)
 have HOB:=mk (fun s=>zgK M X kb eb s kq1 hlf)
 have HAD:=mk (fun s=>zfl (zdN aq hle s) (zdN ar hlf s))
 have HSU:=mk (fun s=>zfm (zdN aq hle s) (zdN ar hlf s))
 obtain⟨kka,hka⟩:=zfl hik hjk
 obtain⟨kks,hks⟩:=zfm hik hjk
 have HKA:=mk hka
 have HKS:=mk hks
 generalize zce (L++M)=us at HKT HUL ⊢
 clear hkt hul hla hlb hle hlf aq ar hik hjk hka hks
 have ao:=mk av
 have aD:=mk hc0
 have aE:=mk aw
 have aG:=mk hc1
 have am:=mk ax
 have HD0:=mk hd0
 have aH:=mk ay
 have HD1:=mk hd1
 clear av hc0 aw hc1 ax hd0 ay hd1
 have HB:=mk (Below.refl w.heap.size w)
 go_enter Try.func91,Try.ntmps91
 go_wp2_with (first|((with_reducible refine zao (N:=3) rfl ?_);refine zal ?hg (N:=3) ?hd (cs:=#[.slice A0 L.length c0,.slice A1 U.length c1,.int .i64 ka,.int .i64 ea]) (t:=74) ?hr ?_;(case hd=>rfl);(case hg=>rfl);(case hr=>exact kq21);intro g3 hg w3 hbox hb;have BKg3:=mk hbox;have GEg3:=mk (kq42:w.heap.size≤g3);replace HB:=mk (zaa kq43 hb);clear hb hbox hg;obtain⟨_,_,_,_,_,_,_,_⟩:=cz4_ BKg3.out)|((with_reducible refine zao (N:=4) rfl ?_);refine zal ?hg (N:=4) ?hd (cs:=#[.slice B0 M.length d0,.slice B1 X.length d1,.int .i64 kb,.int .i64 eb]) (t:=74) ?hr ?_;(case hd=>rfl);(case hg=>rfl);(case hr=>exact kq21);intro g4 hg w4 hbox hb;have BKg4:=mk hbox;have GEg4:=mk (kq42:w.heap.size≤g4);have NBg3g4:=mk ((kq44 BKg3):g3≠g4);have NBg4g3:=mk ((kq46 BKg3):g4≠g3);replace BKg3:=(bc_ BKg3 hb (kq45 BKg3));replace HB:=mk (zaa kq43 hb);clear hb hbox hg;have ne_g3g4:=NBg3g4.out;have ne_g4g3:=NBg4g3.out;obtain⟨_,_,_,_,_,_,_,_⟩:=cz4_ BKg3.out;obtain⟨_,_,_,_,_,_,_,_⟩:=cz4_ BKg4.out)|((with_reducible refine zao (N:=6) rfl ?_);refine zal ?hg (N:=6) ?hd (cs:=#[.slice none 0 0,.slice none 0 0,.int .i64 0,.int .i64 0]) (t:=74) ?hr ?_;(case hd=>rfl);(case hg=>rfl);(case hr=>exact kq21);intro g6 hg w6 hbox hb;have BKg6:=mk hbox;have GEg6:=mk (kq42:w.heap.size≤g6);have NBg3g6:=mk ((kq47 BKg3 NBg3g4):g3≠g6);have NBg6g3:=mk ((kq49 BKg3 NBg3g4):g6≠g3);have NBg4g6:=mk ((kq47 BKg4 NBg4g3):g4≠g6);have NBg6g4:=mk ((kq49 BKg4 NBg4g3):g6≠g4);replace BKg3:=(bc_ BKg3 hb (kq48 BKg3 NBg3g4));replace BKg4:=(bc_ BKg4 hb (kq48 BKg4 NBg4g3));replace HB:=mk (zaa kq43 hb);clear hb hbox hg;have ne_g3g6:=NBg3g6.out;have ne_g6g3:=NBg6g3.out;have ne_g4g6:=NBg4g6.out;have ne_g6g4:=NBg6g4.out;obtain⟨_,_,_,_,_,_,_,_⟩:=cz4_ BKg3.out;obtain⟨_,_,_,_,_,_,_,_⟩:=cz4_ BKg4.out;obtain⟨_,_,_,_,_,_,_,_⟩:=cz4_ BKg6.out))
 (try simp only[Act.put,List.setIfInBounds_toArray,List.set_cons_zero,List.set_cons_succ])
 go_cut [7] (fun v7 wc=>∃(Z:Nat) (An:Option Addr) (cn:Nat),v7= .pointer (some ⟨Z,0,none⟩)∧Aside0 (w.heap.size≤Z)∧Aside0 (g3≠Z)∧Aside0 (g4≠Z)∧Aside0 (g6≠Z)∧Aside0 (wc.heap[Z]?=some (.cells #[.slice An us.length cn,.slice none 0 0,.int .i64 0,.int .i64 0] 74 (0,0)))∧Aside0 (Kd.R Kd.string 9 wc w.heap.size (fun _=>True) (.slice An us.length cn) us)∧Aside0 (wc.heap[g3]?=some (.cells #[.slice A0 L.length c0,.slice A1 U.length c1,.int .i64 ka,.int .i64 ea] 74 (0,0)))∧Aside0 (wc.heap[g4]?=some (.cells #[.slice B0 M.length d0,.slice B1 X.length d1,.int .i64 kb,.int .i64 eb] 74 (0,0)))∧Aside0 (wc.heap[g6]?=some (.cells #[.slice none 0 0,.slice none 0 0,.int .i64 0,.int .i64 0] 74 (0,0)))∧Aside0 (Below w.heap.size w wc))
 case first=>
  refine zbv (n:=11) (S:=fun w'=>w'.cell? ⟨g3,0,none⟩=some (.slice A0 L.length c0)∧w'.cell? ⟨g4,0,none⟩=some (.slice B0 M.length d0)) (ds:=[10]) #[false,false,false,false,false,false,false,false,false,false,false] kq0 rfl rfl ⟨bk_ BKg3 0,bk_ BKg4 0⟩ (fun hHeld=>?_)
  replace BKg3:Aside0 (w6.drew.heap[g3]?=some (.cells #[.slice A0 L.length c0,.slice A1 U.length c1,.int .i64 ka,.int .i64 ea] 74 (0,0))):=⟨BKg3.out⟩
  replace BKg4:Aside0 (w6.drew.heap[g4]?=some (.cells #[.slice B0 M.length d0,.slice B1 X.length d1,.int .i64 kb,.int .i64 eb] 74 (0,0))):=⟨BKg4.out⟩
  replace BKg6:Aside0 (w6.drew.heap[g6]?=some (.cells #[.slice none 0 0,.slice none 0 0,.int .i64 0,.int .i64 0] 74 (0,0))):=⟨BKg6.out⟩
  replace HB:Aside0 (Below w.heap.size w w6.drew):=⟨zaP HB.out⟩
  generalize w6.drew=w9 at BKg3 BKg4 BKg6 HB hHeld ⊢
  refine pu_ 1 14 ?_
  refine pu_ 4 17 ?_
  refine ta_ 2 15 hHeld ?_
  refine ta_ 5 18 hHeld ?_
  refine tw_ 0 9 13 7 (fun K hK=>?_) (fun K hK=>?_)
  ·refine Kd.R_lit_step Kd.string _ 9 ?hg (N:=13) ?hd (xs:=([]:List ByteArray)) (inner:=[]) (ok:=fun _=>True) (okp:=fun _=>True) ?hr ?hp (fun _ hk=>hk) trivial (Below.refl _ _) (Nat.le_refl _) (by simp) ?_
   (case hd=>rfl)
   (case hg=>rfl)
   (case hr=>exact kq21)
   (case hp=>exact Reps.none _ _)
   intro an ae ho hb hg_ hnew_
   clear hg_ hnew_
   have HO:=mk (Kd.R_lower ho (zad HB.out))
   have r:=mk (zai (g:=g3) (o:=.cells #[.slice A0 L.length c0,.slice A1 U.length c1,.int .i64 ka,.int .i64 ea] 74 (0,0)) BKg3.out hb)
   have D:=mk (zai (g:=g4) (o:=.cells #[.slice B0 M.length d0,.slice B1 X.length d1,.int .i64 kb,.int .i64 eb] 74 (0,0)) BKg4.out hb)
   have G:=mk (zai (g:=g6) (o:=.cells #[.slice none 0 0,.slice none 0 0,.int .i64 0,.int .i64 0] 74 (0,0)) BKg6.out hb)
   have I:=mk (zaa HB.out hb)
   clear BKg3 BKg4 BKg6 HB
   have BKg3:=r
   have BKg4:=D
   have BKg6:=G
   have HB:=I
   clear r D G I
   clear hb ho
   refine hK.out _ _ ⟨bk_ BKg3 0,bk_ BKg4 0⟩ (fun hHeld=>?_)
   clear hK K
   refine za2 (a':=?_) ?_ ?_
   rotate_left
   ·show Act.put _ (some 13) _=_
    simp only[Act.put,List.setIfInBounds_toArray,List.set_cons_zero,List.set_cons_succ]
    rfl
   refine tw_ 3 9 16 7 (fun K hK=>?_) (fun K hK=>?_)
   ·refine Kd.R_append_rows_step Kd.string (w0:=w) w.heap.size (by rfl) (.tmp 13) (.tmp 15) 22 9 (.string ⟨#[]⟩) 16 (by rfl) Try.underlying22 zcW rfl kq2 kq2 an ([]:List ByteArray) L _ _ _ (fun _=>True) (fun _=>False) (by rfl) (by rfl) HO.out (Kd.C_below ao.out HB.out) (fun _ _ h=>h) (fun _ h=>h.elim) (fun _ _=>trivial) HB.out (zad HB.out) (kq65 HLA HLB) ?_
    intro al af ho hb hg hat
    have r:=mk (zaJ BKg3.out hg (Kd.R_ne HO.out BKg3.out kq2))
    have D:=mk (zaJ BKg4.out hg (Kd.R_ne HO.out BKg4.out kq2))
    have G:=mk (zaJ BKg6.out hg (Kd.R_ne HO.out BKg6.out kq2))
    have I:=mk (ho)
    have J:=mk (hb)
    clear BKg3 BKg4 BKg6 HO HB
    have BKg3:=r
    have BKg4:=D
    have BKg6:=G
    have HO:=I
    have HB:=J
    clear r D G I J
    clear ho hb hg hat
    refine hK.out _ _ ⟨bk_ BKg3 0,bk_ BKg4 0⟩ (fun hHeld=>?_)
    clear hK K
    refine za2 (a':=?_) ?_ ?_
    rotate_left
    ·show Act.put _ (some 16) _=_
     simp only[Act.put,List.setIfInBounds_toArray,List.set_cons_zero,List.set_cons_succ]
     rfl
    refine tw_ 6 9 19 7 (fun K hK=>?_) (fun K hK=>?_)
    ·refine Kd.R_append_rows_step Kd.string (w0:=w) w.heap.size (by rfl) (.tmp 16) (.tmp 18) 22 9 (.string ⟨#[]⟩) 16 (by rfl) Try.underlying22 zcW rfl kq2 kq2 al (([]:List ByteArray)++L) M _ _ _ (fun _=>True) (fun _=>False) (by rfl) (by rfl) HO.out (Kd.C_below am.out HB.out) (fun _ _ h=>h) (fun _ h=>h.elim) (fun _ _=>trivial) HB.out (zad HB.out) (kq66 HLA HLB) ?_
     intro ap ag ho hb hg hat
     have r:=mk (zaJ BKg3.out hg (Kd.R_ne HO.out BKg3.out kq2))
     have D:=mk (zaJ BKg4.out hg (Kd.R_ne HO.out BKg4.out kq2))
     have G:=mk (zaJ BKg6.out hg (Kd.R_ne HO.out BKg6.out kq2))
     have I:=mk (ho)
     have J:=mk (hb)
     clear BKg3 BKg4 BKg6 HO HB
     have BKg3:=r
     have BKg4:=D
     have BKg6:=G
     have HO:=I
     have HB:=J
     clear r D G I J
     clear ho hb hg hat
     refine hK.out _ _ ⟨bk_ BKg3 0,bk_ BKg4 0⟩ (fun hHeld=>?_)
     clear hK K
     refine za2 (a':=?_) ?_ ?_
     rotate_left
     ·show Act.put _ (some 19) _=_
      simp only[Act.put,List.setIfInBounds_toArray,List.set_cons_zero,List.set_cons_succ]
      rfl
     refine tw_ 7 9 20 7 (fun K hK=>?_) (fun K hK=>?_)
     ·obtain⟨aa,ab,ai⟩:=Kd.R_slice HO.out
      subst ai
      refine zbj Try.func65 kq0 rfl #[.slice aa (([]:List ByteArray)++L++M).length ab] (by rfl) rfl rfl kq54 ?_
      refine(zaA.calls kt aa ab (([]:List ByteArray)++L++M) us _ (Kd.R_reads' HO.out).2.2 (Kd.R_reads' HO.out).2.1 HKT.out).mono ?_
      rintro e ah ⟨vn,rfl,hn,hb⟩
      obtain⟨An,cn,en⟩:=Kd.R_slice hn
      subst en
      refine⟨_,rfl,?_⟩
      have HN:=mk (Kd.R_lower hn (zad HB.out))
      have r:=mk (zai (g:=g3) (o:=.cells #[.slice A0 L.length c0,.slice A1 U.length c1,.int .i64 ka,.int .i64 ea] 74 (0,0)) BKg3.out hb)
      have D:=mk (zai (g:=g4) (o:=.cells #[.slice B0 M.length d0,.slice B1 X.length d1,.int .i64 kb,.int .i64 eb] 74 (0,0)) BKg4.out hb)
      have G:=mk (zai (g:=g6) (o:=.cells #[.slice none 0 0,.slice none 0 0,.int .i64 0,.int .i64 0] 74 (0,0)) BKg6.out hb)
      have I:=mk (zaa HB.out hb)
      clear BKg3 BKg4 BKg6 HB
      have BKg3:=r
      have BKg4:=D
      have BKg6:=G
      have HB:=I
      clear r D G I
      clear hb hn HO
      refine hK.out _ _ ⟨bk_ BKg3 0,bk_ BKg4 0⟩ (fun hHeld=>?_)
      clear hK K
      refine za2 (a':=?_) ?_ ?_
      rotate_left
      ·show Act.put _ (some 20) _=_
       simp only[Act.put,List.setIfInBounds_toArray,List.set_cons_zero,List.set_cons_succ]
       rfl
      refine pu_ 8 21 ?_
      refine on_ 9 7 (fun K hK=>?_)
      refine zbU (v:=.pointer (some ⟨ah.heap.size,0,none⟩)) (w1:=ah.alloc (.cells #[.slice none 0 0,.slice none 0 0,.int .i64 0,.int .i64 0] 74)) (by rfl) rfl ?_ ?_
      ·go_simp
       all_goals first|done|rfl|exact⟨rfl,rfl⟩
      have NBg3g7:=mk (Nat.ne_of_lt (za0 BKg3.out))
      have NBg4g7:=mk (Nat.ne_of_lt (za0 BKg4.out))
      have NBg6g7:=mk (Nat.ne_of_lt (za0 BKg6.out))
      have GEg7:=mk (zad HB.out)
      have BKg7:Aside0 ((ah.alloc (.cells #[.slice none 0 0,.slice none 0 0,.int .i64 0,.int .i64 0] 74)).heap[ah.heap.size]?=some (.cells #[.slice none 0 0,.slice none 0 0,.int .i64 0,.int .i64 0] 74 (0,0))):=⟨zbJ ah _⟩
      replace BKg3:Aside0 ((ah.alloc (.cells #[.slice none 0 0,.slice none 0 0,.int .i64 0,.int .i64 0] 74)).heap[g3]?=some (.cells #[.slice A0 L.length c0,.slice A1 U.length c1,.int .i64 ka,.int .i64 ea] 74 (0,0))):=⟨zab BKg3.out _⟩
      replace BKg4:Aside0 ((ah.alloc (.cells #[.slice none 0 0,.slice none 0 0,.int .i64 0,.int .i64 0] 74)).heap[g4]?=some (.cells #[.slice B0 M.length d0,.slice B1 X.length d1,.int .i64 kb,.int .i64 eb] 74 (0,0))):=⟨zab BKg4.out _⟩
      replace BKg6:Aside0 ((ah.alloc (.cells #[.slice none 0 0,.slice none 0 0,.int .i64 0,.int .i64 0] 74)).heap[g6]?=some (.cells #[.slice none 0 0,.slice none 0 0,.int .i64 0,.int .i64 0] 74 (0,0))):=⟨zab BKg6.out _⟩
      replace HB:Aside0 (Below w.heap.size w (ah.alloc (.cells #[.slice none 0 0,.slice none 0 0,.int .i64 0,.int .i64 0] 74))):=⟨zaS HB.out _⟩
      replace HN:Aside0 (Kd.R Kd.string 9 (ah.alloc (.cells #[.slice none 0 0,.slice none 0 0,.int .i64 0,.int .i64 0] 74)) w.heap.size (fun _=>True) (.slice An us.length cn) us):=⟨Kd.R_alloc HN.out _⟩
      generalize ah.alloc (.cells #[.slice none 0 0,.slice none 0 0,.int .i64 0,.int .i64 0] 74)=aT at BKg7 BKg3 BKg4 BKg6 HB HN ⊢
      generalize ah.heap.size=Z at BKg7 GEg7 NBg3g7 NBg4g7 NBg6g7 ⊢
      refine hK.out _ _ ⟨bk_ BKg3 0,bk_ BKg4 0⟩ (fun hHeld=>?_)
      clear hK K
      refine za2 (a':=?_) ?_ ?_
      rotate_left
      ·show Act.put _ (some 7) _=_
       simp only[Act.put,List.setIfInBounds_toArray,List.set_cons_zero,List.set_cons_succ]
       rfl
      have ne_a:=NBg3g7.out
      have ne_b:=Ne.symm NBg3g7.out
      obtain⟨_,_,_,_,_,_,_,_⟩:=cz4_ BKg7.out
      refine zb4 (i:=10) (N:=none) #[true,true,true,true,true,true,true,true,true,true,true] rfl rfl kq0 kq2 (fun K hK=>?_)
      refine zbO (w1:=?_) (by rfl) rfl ?_ ?_
      rotate_left
      ·go_simp
       rfl
      refine hK.out _ _ ?_
      clear hK K
      refine zbC kq0 ?_
      try go_wp2
      go_meet
      case rel=>exact⟨Z,An,cn,rfl,GEg7,NBg3g7,NBg4g7,NBg6g7,⟨zak (zak (zak (zak BKg7.out 0 _ rfl) 1 _ rfl) 2 _ rfl) 3 _ rfl⟩,⟨Kd.R_mono (Kd.R_far (p:=⟨Z,3,none⟩) (Kd.R_far (p:=⟨Z,2,none⟩) (Kd.R_far (p:=⟨Z,1,none⟩) (Kd.R_far (p:=⟨Z,0,none⟩) (Kd.R_types HN.out BKg7.out kq2) (fun _ h=>h.2) _) (fun _ h=>h.2) _) (fun _ h=>h.2) _) (fun _ h=>h.2) _) (fun _ _=>trivial)⟩,⟨zaj (zaj (zaj (zaj BKg3.out NBg3g7.out _) NBg3g7.out _) NBg3g7.out _) NBg3g7.out _⟩,⟨zaj (zaj (zaj (zaj BKg4.out NBg4g7.out _) NBg4g7.out _) NBg4g7.out _) NBg4g7.out _⟩,⟨zaj (zaj (zaj (zaj BKg6.out NBg6g7.out _) NBg6g7.out _) NBg6g7.out _) NBg6g7.out _⟩,⟨zav (zav (zav (zav HB.out GEg7.out) GEg7.out) GEg7.out) GEg7.out⟩⟩
     ·refine zbU (v:=.pointer (some ⟨ag.heap.size,0,none⟩)) (w1:=ag.alloc (.cells #[.slice none 0 0,.slice none 0 0,.int .i64 0,.int .i64 0] 74)) (by rfl) rfl ?_ ?_
      ·go_simp
       all_goals first|done|rfl|exact⟨rfl,rfl⟩
      have NBg3g7:=mk (Nat.ne_of_lt (za0 BKg3.out))
      have NBg4g7:=mk (Nat.ne_of_lt (za0 BKg4.out))
      have NBg6g7:=mk (Nat.ne_of_lt (za0 BKg6.out))
      have GEg7:=mk (zad HB.out)
      have BKg7:Aside0 ((ag.alloc (.cells #[.slice none 0 0,.slice none 0 0,.int .i64 0,.int .i64 0] 74)).heap[ag.heap.size]?=some (.cells #[.slice none 0 0,.slice none 0 0,.int .i64 0,.int .i64 0] 74 (0,0))):=⟨zbJ ag _⟩
      replace BKg3:Aside0 ((ag.alloc (.cells #[.slice none 0 0,.slice none 0 0,.int .i64 0,.int .i64 0] 74)).heap[g3]?=some (.cells #[.slice A0 L.length c0,.slice A1 U.length c1,.int .i64 ka,.int .i64 ea] 74 (0,0))):=⟨zab BKg3.out _⟩
      replace BKg4:Aside0 ((ag.alloc (.cells #[.slice none 0 0,.slice none 0 0,.int .i64 0,.int .i64 0] 74)).heap[g4]?=some (.cells #[.slice B0 M.length d0,.slice B1 X.length d1,.int .i64 kb,.int .i64 eb] 74 (0,0))):=⟨zab BKg4.out _⟩
      replace BKg6:Aside0 ((ag.alloc (.cells #[.slice none 0 0,.slice none 0 0,.int .i64 0,.int .i64 0] 74)).heap[g6]?=some (.cells #[.slice none 0 0,.slice none 0 0,.int .i64 0,.int .i64 0] 74 (0,0))):=⟨zab BKg6.out _⟩
      replace HB:Aside0 (Below w.heap.size w (ag.alloc (.cells #[.slice none 0 0,.slice none 0 0,.int .i64 0,.int .i64 0] 74))):=⟨zaS HB.out _⟩
      replace HO:Aside0 (Kd.R Kd.string 9 (ag.alloc (.cells #[.slice none 0 0,.slice none 0 0,.int .i64 0,.int .i64 0] 74)) w.heap.size (fun _=>True) ap (([]:List ByteArray)++L++M)):=⟨Kd.R_alloc HO.out _⟩
      generalize ag.alloc (.cells #[.slice none 0 0,.slice none 0 0,.int .i64 0,.int .i64 0] 74)=aU at BKg7 BKg3 BKg4 BKg6 HB HO ⊢
      generalize ag.heap.size=Z at BKg7 GEg7 NBg3g7 NBg4g7 NBg6g7 ⊢
      refine hK.out _ _ ⟨bk_ BKg3 0,bk_ BKg4 0⟩ (fun hHeld=>?_)
      clear hK K
      refine za2 (a':=?_) ?_ ?_
      rotate_left
      ·show Act.put _ (some 7) _=_
       simp only[Act.put,List.setIfInBounds_toArray,List.set_cons_zero,List.set_cons_succ]
       rfl
      refine on_ 7 20 (fun K hK=>?_)
      obtain⟨aa,ab,ai⟩:=Kd.R_slice HO.out
      subst ai
      refine zbj Try.func65 kq0 rfl #[.slice aa (([]:List ByteArray)++L++M).length ab] (by rfl) rfl rfl kq54 ?_
      refine(zaA.calls kt aa ab (([]:List ByteArray)++L++M) us _ (Kd.R_reads' HO.out).2.2 (Kd.R_reads' HO.out).2.1 HKT.out).mono ?_
      rintro e aV ⟨vn,rfl,hn,hb⟩
      obtain⟨An,cn,en⟩:=Kd.R_slice hn
      subst en
      refine⟨_,rfl,?_⟩
      have HN:=mk (Kd.R_lower hn (zad HB.out))
      have r:=mk (zai (g:=g3) (o:=.cells #[.slice A0 L.length c0,.slice A1 U.length c1,.int .i64 ka,.int .i64 ea] 74 (0,0)) BKg3.out hb)
      have D:=mk (zai (g:=g4) (o:=.cells #[.slice B0 M.length d0,.slice B1 X.length d1,.int .i64 kb,.int .i64 eb] 74 (0,0)) BKg4.out hb)
      have G:=mk (zai (g:=g6) (o:=.cells #[.slice none 0 0,.slice none 0 0,.int .i64 0,.int .i64 0] 74 (0,0)) BKg6.out hb)
      have I:=mk (zai (g:=Z) (o:=.cells #[.slice none 0 0,.slice none 0 0,.int .i64 0,.int .i64 0] 74 (0,0)) BKg7.out hb)
      have J:=mk (zaa HB.out hb)
      clear BKg3 BKg4 BKg6 BKg7 HB
      have BKg3:=r
      have BKg4:=D
      have BKg6:=G
      have BKg7:=I
      have HB:=J
      clear r D G I J
      clear hb hn HO
      refine hK.out _ _ ⟨bk_ BKg3 0,bk_ BKg4 0⟩ (fun hHeld=>?_)
      clear hK K
      refine za2 (a':=?_) ?_ ?_
      rotate_left
      ·show Act.put _ (some 20) _=_
       simp only[Act.put,List.setIfInBounds_toArray,List.set_cons_zero,List.set_cons_succ]
       rfl
      refine pu_ 8 21 ?_
      have ne_a:=NBg3g7.out
      have ne_b:=Ne.symm NBg3g7.out
      obtain⟨_,_,_,_,_,_,_,_⟩:=cz4_ BKg7.out
      refine zb4 (i:=10) (N:=none) #[true,true,true,true,true,true,true,true,true,true,true] rfl rfl kq0 kq2 (fun K hK=>?_)
      refine zbO (w1:=?_) (by rfl) rfl ?_ ?_
      rotate_left
      ·go_simp
       rfl
      refine hK.out _ _ ?_
      clear hK K
      refine zbC kq0 ?_
      try go_wp2
      go_meet
      case rel=>exact⟨Z,An,cn,rfl,GEg7,NBg3g7,NBg4g7,NBg6g7,⟨zak (zak (zak (zak BKg7.out 0 _ rfl) 1 _ rfl) 2 _ rfl) 3 _ rfl⟩,⟨Kd.R_mono (Kd.R_far (p:=⟨Z,3,none⟩) (Kd.R_far (p:=⟨Z,2,none⟩) (Kd.R_far (p:=⟨Z,1,none⟩) (Kd.R_far (p:=⟨Z,0,none⟩) (Kd.R_types HN.out BKg7.out kq2) (fun _ h=>h.2) _) (fun _ h=>h.2) _) (fun _ h=>h.2) _) (fun _ h=>h.2) _) (fun _ _=>trivial)⟩,⟨zaj (zaj (zaj (zaj BKg3.out NBg3g7.out _) NBg3g7.out _) NBg3g7.out _) NBg3g7.out _⟩,⟨zaj (zaj (zaj (zaj BKg4.out NBg4g7.out _) NBg4g7.out _) NBg4g7.out _) NBg4g7.out _⟩,⟨zaj (zaj (zaj (zaj BKg6.out NBg6g7.out _) NBg6g7.out _) NBg6g7.out _) NBg6g7.out _⟩,⟨zav (zav (zav (zav HB.out GEg7.out) GEg7.out) GEg7.out) GEg7.out⟩⟩
    ·refine zbU (v:=.pointer (some ⟨af.heap.size,0,none⟩)) (w1:=af.alloc (.cells #[.slice none 0 0,.slice none 0 0,.int .i64 0,.int .i64 0] 74)) (by rfl) rfl ?_ ?_
     ·go_simp
      all_goals first|done|rfl|exact⟨rfl,rfl⟩
     have NBg3g7:=mk (Nat.ne_of_lt (za0 BKg3.out))
     have NBg4g7:=mk (Nat.ne_of_lt (za0 BKg4.out))
     have NBg6g7:=mk (Nat.ne_of_lt (za0 BKg6.out))
     have GEg7:=mk (zad HB.out)
     have BKg7:Aside0 ((af.alloc (.cells #[.slice none 0 0,.slice none 0 0,.int .i64 0,.int .i64 0] 74)).heap[af.heap.size]?=some (.cells #[.slice none 0 0,.slice none 0 0,.int .i64 0,.int .i64 0] 74 (0,0))):=⟨zbJ af _⟩
     replace BKg3:Aside0 ((af.alloc (.cells #[.slice none 0 0,.slice none 0 0,.int .i64 0,.int .i64 0] 74)).heap[g3]?=some (.cells #[.slice A0 L.length c0,.slice A1 U.length c1,.int .i64 ka,.int .i64 ea] 74 (0,0))):=⟨zab BKg3.out _⟩
     replace BKg4:Aside0 ((af.alloc (.cells #[.slice none 0 0,.slice none 0 0,.int .i64 0,.int .i64 0] 74)).heap[g4]?=some (.cells #[.slice B0 M.length d0,.slice B1 X.length d1,.int .i64 kb,.int .i64 eb] 74 (0,0))):=⟨zab BKg4.out _⟩
     replace BKg6:Aside0 ((af.alloc (.cells #[.slice none 0 0,.slice none 0 0,.int .i64 0,.int .i64 0] 74)).heap[g6]?=some (.cells #[.slice none 0 0,.slice none 0 0,.int .i64 0,.int .i64 0] 74 (0,0))):=⟨zab BKg6.out _⟩
     replace HB:Aside0 (Below w.heap.size w (af.alloc (.cells #[.slice none 0 0,.slice none 0 0,.int .i64 0,.int .i64 0] 74))):=⟨zaS HB.out _⟩
     replace HO:Aside0 (Kd.R Kd.string 9 (af.alloc (.cells #[.slice none 0 0,.slice none 0 0,.int .i64 0,.int .i64 0] 74)) w.heap.size (fun _=>True) al (([]:List ByteArray)++L)):=⟨Kd.R_alloc HO.out _⟩
     generalize af.alloc (.cells #[.slice none 0 0,.slice none 0 0,.int .i64 0,.int .i64 0] 74)=aW at BKg7 BKg3 BKg4 BKg6 HB HO ⊢
     generalize af.heap.size=Z at BKg7 GEg7 NBg3g7 NBg4g7 NBg6g7 ⊢
     refine hK.out _ _ ⟨bk_ BKg3 0,bk_ BKg4 0⟩ (fun hHeld=>?_)
     clear hK K
     refine za2 (a':=?_) ?_ ?_
     rotate_left
     ·show Act.put _ (some 7) _=_
      simp only[Act.put,List.setIfInBounds_toArray,List.set_cons_zero,List.set_cons_succ]
      rfl
     refine on_ 6 19 (fun K hK=>?_)
     refine Kd.R_append_rows_step Kd.string (w0:=w) w.heap.size (by rfl) (.tmp 16) (.tmp 18) 22 9 (.string ⟨#[]⟩) 16 (by rfl) Try.underlying22 zcW rfl kq2 kq2 al (([]:List ByteArray)++L) M _ _ _ (fun _=>True) (fun _=>False) (by rfl) (by rfl) HO.out (Kd.C_below am.out HB.out) (fun _ _ h=>h) (fun _ h=>h.elim) (fun _ _=>trivial) HB.out (zad HB.out) (kq66 HLA HLB) ?_
     intro ap aI ho hb hg hat
     have r:=mk (zaJ BKg3.out hg (Kd.R_ne HO.out BKg3.out kq2))
     have D:=mk (zaJ BKg4.out hg (Kd.R_ne HO.out BKg4.out kq2))
     have G:=mk (zaJ BKg6.out hg (Kd.R_ne HO.out BKg6.out kq2))
     have I:=mk (zaJ BKg7.out hg (Kd.R_ne HO.out BKg7.out kq2))
     have J:=mk (ho)
     have Y:=mk (hb)
     clear BKg3 BKg4 BKg6 BKg7 HO HB
     have BKg3:=r
     have BKg4:=D
     have BKg6:=G
     have BKg7:=I
     have HO:=J
     have HB:=Y
     clear r D G I J Y
     clear ho hb hg hat
     refine hK.out _ _ ⟨bk_ BKg3 0,bk_ BKg4 0⟩ (fun hHeld=>?_)
     clear hK K
     refine za2 (a':=?_) ?_ ?_
     rotate_left
     ·show Act.put _ (some 19) _=_
      simp only[Act.put,List.setIfInBounds_toArray,List.set_cons_zero,List.set_cons_succ]
      rfl
     refine on_ 7 20 (fun K hK=>?_)
     obtain⟨aa,ab,ai⟩:=Kd.R_slice HO.out
     subst ai
     refine zbj Try.func65 kq0 rfl #[.slice aa (([]:List ByteArray)++L++M).length ab] (by rfl) rfl rfl kq54 ?_
     refine(zaA.calls kt aa ab (([]:List ByteArray)++L++M) us _ (Kd.R_reads' HO.out).2.2 (Kd.R_reads' HO.out).2.1 HKT.out).mono ?_
     rintro e aJ ⟨vn,rfl,hn,hb⟩
     obtain⟨An,cn,en⟩:=Kd.R_slice hn
     subst en
     refine⟨_,rfl,?_⟩
     have HN:=mk (Kd.R_lower hn (zad HB.out))
     have r:=mk (zai (g:=g3) (o:=.cells #[.slice A0 L.length c0,.slice A1 U.length c1,.int .i64 ka,.int .i64 ea] 74 (0,0)) BKg3.out hb)
     have D:=mk (zai (g:=g4) (o:=.cells #[.slice B0 M.length d0,.slice B1 X.length d1,.int .i64 kb,.int .i64 eb] 74 (0,0)) BKg4.out hb)
     have G:=mk (zai (g:=g6) (o:=.cells #[.slice none 0 0,.slice none 0 0,.int .i64 0,.int .i64 0] 74 (0,0)) BKg6.out hb)
     have I:=mk (zai (g:=Z) (o:=.cells #[.slice none 0 0,.slice none 0 0,.int .i64 0,.int .i64 0] 74 (0,0)) BKg7.out hb)
     have J:=mk (zaa HB.out hb)
     clear BKg3 BKg4 BKg6 BKg7 HB
     have BKg3:=r
     have BKg4:=D
     have BKg6:=G
     have BKg7:=I
     have HB:=J
     clear r D G I J
     clear hb hn HO
     refine hK.out _ _ ⟨bk_ BKg3 0,bk_ BKg4 0⟩ (fun hHeld=>?_)
     clear hK K
     refine za2 (a':=?_) ?_ ?_
     rotate_left
     ·show Act.put _ (some 20) _=_
      simp only[Act.put,List.setIfInBounds_toArray,List.set_cons_zero,List.set_cons_succ]
      rfl
     refine pu_ 8 21 ?_
     have ne_a:=NBg3g7.out
     have ne_b:=Ne.symm NBg3g7.out
     obtain⟨_,_,_,_,_,_,_,_⟩:=cz4_ BKg7.out
     refine zb4 (i:=10) (N:=none) #[true,true,true,true,true,true,true,true,true,true,true] rfl rfl kq0 kq2 (fun K hK=>?_)
     refine zbO (w1:=?_) (by rfl) rfl ?_ ?_
     rotate_left
     ·go_simp
      rfl
     refine hK.out _ _ ?_
     clear hK K
     refine zbC kq0 ?_
     try go_wp2
     go_meet
     case rel=>exact⟨Z,An,cn,rfl,GEg7,NBg3g7,NBg4g7,NBg6g7,⟨zak (zak (zak (zak BKg7.out 0 _ rfl) 1 _ rfl) 2 _ rfl) 3 _ rfl⟩,⟨Kd.R_mono (Kd.R_far (p:=⟨Z,3,none⟩) (Kd.R_far (p:=⟨Z,2,none⟩) (Kd.R_far (p:=⟨Z,1,none⟩) (Kd.R_far (p:=⟨Z,0,none⟩) (Kd.R_types HN.out BKg7.out kq2) (fun _ h=>h.2) _) (fun _ h=>h.2) _) (fun _ h=>h.2) _) (fun _ h=>h.2) _) (fun _ _=>trivial)⟩,⟨zaj (zaj (zaj (zaj BKg3.out NBg3g7.out _) NBg3g7.out _) NBg3g7.out _) NBg3g7.out _⟩,⟨zaj (zaj (zaj (zaj BKg4.out NBg4g7.out _) NBg4g7.out _) NBg4g7.out _) NBg4g7.out _⟩,⟨zaj (zaj (zaj (zaj BKg6.out NBg6g7.out _) NBg6g7.out _) NBg6g7.out _) NBg6g7.out _⟩,⟨zav (zav (zav (zav HB.out GEg7.out) GEg7.out) GEg7.out) GEg7.out⟩⟩
   ·refine zbU (v:=.pointer (some ⟨ae.heap.size,0,none⟩)) (w1:=ae.alloc (.cells #[.slice none 0 0,.slice none 0 0,.int .i64 0,.int .i64 0] 74)) (by rfl) rfl ?_ ?_
    ·go_simp
     all_goals first|done|rfl|exact⟨rfl,rfl⟩
    have NBg3g7:=mk (Nat.ne_of_lt (za0 BKg3.out))
    have NBg4g7:=mk (Nat.ne_of_lt (za0 BKg4.out))
    have NBg6g7:=mk (Nat.ne_of_lt (za0 BKg6.out))
    have GEg7:=mk (zad HB.out)
    have BKg7:Aside0 ((ae.alloc (.cells #[.slice none 0 0,.slice none 0 0,.int .i64 0,.int .i64 0] 74)).heap[ae.heap.size]?=some (.cells #[.slice none 0 0,.slice none 0 0,.int .i64 0,.int .i64 0] 74 (0,0))):=⟨zbJ ae _⟩
    replace BKg3:Aside0 ((ae.alloc (.cells #[.slice none 0 0,.slice none 0 0,.int .i64 0,.int .i64 0] 74)).heap[g3]?=some (.cells #[.slice A0 L.length c0,.slice A1 U.length c1,.int .i64 ka,.int .i64 ea] 74 (0,0))):=⟨zab BKg3.out _⟩
    replace BKg4:Aside0 ((ae.alloc (.cells #[.slice none 0 0,.slice none 0 0,.int .i64 0,.int .i64 0] 74)).heap[g4]?=some (.cells #[.slice B0 M.length d0,.slice B1 X.length d1,.int .i64 kb,.int .i64 eb] 74 (0,0))):=⟨zab BKg4.out _⟩
    replace BKg6:Aside0 ((ae.alloc (.cells #[.slice none 0 0,.slice none 0 0,.int .i64 0,.int .i64 0] 74)).heap[g6]?=some (.cells #[.slice none 0 0,.slice none 0 0,.int .i64 0,.int .i64 0] 74 (0,0))):=⟨zab BKg6.out _⟩
    replace HB:Aside0 (Below w.heap.size w (ae.alloc (.cells #[.slice none 0 0,.slice none 0 0,.int .i64 0,.int .i64 0] 74))):=⟨zaS HB.out _⟩
    replace HO:Aside0 (Kd.R Kd.string 9 (ae.alloc (.cells #[.slice none 0 0,.slice none 0 0,.int .i64 0,.int .i64 0] 74)) w.heap.size (fun _=>True) an ([]:List ByteArray)):=⟨Kd.R_alloc HO.out _⟩
    generalize ae.alloc (.cells #[.slice none 0 0,.slice none 0 0,.int .i64 0,.int .i64 0] 74)=aX at BKg7 BKg3 BKg4 BKg6 HB HO ⊢
    generalize ae.heap.size=Z at BKg7 GEg7 NBg3g7 NBg4g7 NBg6g7 ⊢
    refine hK.out _ _ ⟨bk_ BKg3 0,bk_ BKg4 0⟩ (fun hHeld=>?_)
    clear hK K
    refine za2 (a':=?_) ?_ ?_
    rotate_left
    ·show Act.put _ (some 7) _=_
     simp only[Act.put,List.setIfInBounds_toArray,List.set_cons_zero,List.set_cons_succ]
     rfl
    refine on_ 3 16 (fun K hK=>?_)
    refine Kd.R_append_rows_step Kd.string (w0:=w) w.heap.size (by rfl) (.tmp 13) (.tmp 15) 22 9 (.string ⟨#[]⟩) 16 (by rfl) Try.underlying22 zcW rfl kq2 kq2 an ([]:List ByteArray) L _ _ _ (fun _=>True) (fun _=>False) (by rfl) (by rfl) HO.out (Kd.C_below ao.out HB.out) (fun _ _ h=>h) (fun _ h=>h.elim) (fun _ _=>trivial) HB.out (zad HB.out) (kq65 HLA HLB) ?_
    intro al aK ho hb hg hat
    have r:=mk (zaJ BKg3.out hg (Kd.R_ne HO.out BKg3.out kq2))
    have D:=mk (zaJ BKg4.out hg (Kd.R_ne HO.out BKg4.out kq2))
    have G:=mk (zaJ BKg6.out hg (Kd.R_ne HO.out BKg6.out kq2))
    have I:=mk (zaJ BKg7.out hg (Kd.R_ne HO.out BKg7.out kq2))
    have J:=mk (ho)
    have Y:=mk (hb)
    clear BKg3 BKg4 BKg6 BKg7 HO HB
    have BKg3:=r
    have BKg4:=D
    have BKg6:=G
    have BKg7:=I
    have HO:=J
    have HB:=Y
    clear r D G I J Y
    clear ho hb hg hat
    refine hK.out _ _ ⟨bk_ BKg3 0,bk_ BKg4 0⟩ (fun hHeld=>?_)
    clear hK K
    refine za2 (a':=?_) ?_ ?_
    rotate_left
    ·show Act.put _ (some 16) _=_
     simp only[Act.put,List.setIfInBounds_toArray,List.set_cons_zero,List.set_cons_succ]
     rfl
    refine on_ 6 19 (fun K hK=>?_)
    refine Kd.R_append_rows_step Kd.string (w0:=w) w.heap.size (by rfl) (.tmp 16) (.tmp 18) 22 9 (.string ⟨#[]⟩) 16 (by rfl) Try.underlying22 zcW rfl kq2 kq2 al (([]:List ByteArray)++L) M _ _ _ (fun _=>True) (fun _=>False) (by rfl) (by rfl) HO.out (Kd.C_below am.out HB.out) (fun _ _ h=>h) (fun _ h=>h.elim) (fun _ _=>trivial) HB.out (zad HB.out) (kq66 HLA HLB) ?_
    intro ap aj ho hb hg hat
    have r:=mk (zaJ BKg3.out hg (Kd.R_ne HO.out BKg3.out kq2))
    have D:=mk (zaJ BKg4.out hg (Kd.R_ne HO.out BKg4.out kq2))
    have G:=mk (zaJ BKg6.out hg (Kd.R_ne HO.out BKg6.out kq2))
    have I:=mk (zaJ BKg7.out hg (Kd.R_ne HO.out BKg7.out kq2))
    have J:=mk (ho)
    have Y:=mk (hb)
    clear BKg3 BKg4 BKg6 BKg7 HO HB
    have BKg3:=r
    have BKg4:=D
    have BKg6:=G
    have BKg7:=I
    have HO:=J
    have HB:=Y
    clear r D G I J Y
    clear ho hb hg hat
    refine hK.out _ _ ⟨bk_ BKg3 0,bk_ BKg4 0⟩ (fun hHeld=>?_)
    clear hK K
    refine za2 (a':=?_) ?_ ?_
    rotate_left
    ·show Act.put _ (some 19) _=_
     simp only[Act.put,List.setIfInBounds_toArray,List.set_cons_zero,List.set_cons_succ]
     rfl
    refine on_ 7 20 (fun K hK=>?_)
    obtain⟨aa,ab,ai⟩:=Kd.R_slice HO.out
    subst ai
    refine zbj Try.func65 kq0 rfl #[.slice aa (([]:List ByteArray)++L++M).length ab] (by rfl) rfl rfl kq54 ?_
    refine(zaA.calls kt aa ab (([]:List ByteArray)++L++M) us _ (Kd.R_reads' HO.out).2.2 (Kd.R_reads' HO.out).2.1 HKT.out).mono ?_
    rintro e aY ⟨vn,rfl,hn,hb⟩
    obtain⟨An,cn,en⟩:=Kd.R_slice hn
    subst en
    refine⟨_,rfl,?_⟩
    have HN:=mk (Kd.R_lower hn (zad HB.out))
    have r:=mk (zai (g:=g3) (o:=.cells #[.slice A0 L.length c0,.slice A1 U.length c1,.int .i64 ka,.int .i64 ea] 74 (0,0)) BKg3.out hb)
    have D:=mk (zai (g:=g4) (o:=.cells #[.slice B0 M.length d0,.slice B1 X.length d1,.int .i64 kb,.int .i64 eb] 74 (0,0)) BKg4.out hb)
    have G:=mk (zai (g:=g6) (o:=.cells #[.slice none 0 0,.slice none 0 0,.int .i64 0,.int .i64 0] 74 (0,0)) BKg6.out hb)
    have I:=mk (zai (g:=Z) (o:=.cells #[.slice none 0 0,.slice none 0 0,.int .i64 0,.int .i64 0] 74 (0,0)) BKg7.out hb)
    have J:=mk (zaa HB.out hb)
    clear BKg3 BKg4 BKg6 BKg7 HB
    have BKg3:=r
    have BKg4:=D
    have BKg6:=G
    have BKg7:=I
    have HB:=J
    clear r D G I J
    clear hb hn HO
    refine hK.out _ _ ⟨bk_ BKg3 0,bk_ BKg4 0⟩ (fun hHeld=>?_)
    clear hK K
    refine za2 (a':=?_) ?_ ?_
    rotate_left
    ·show Act.put _ (some 20) _=_
     simp only[Act.put,List.setIfInBounds_toArray,List.set_cons_zero,List.set_cons_succ]
     rfl
    refine pu_ 8 21 ?_
    have ne_a:=NBg3g7.out
    have ne_b:=Ne.symm NBg3g7.out
    obtain⟨_,_,_,_,_,_,_,_⟩:=cz4_ BKg7.out
    refine zb4 (i:=10) (N:=none) #[true,true,true,true,true,true,true,true,true,true,true] rfl rfl kq0 kq2 (fun K hK=>?_)
    refine zbO (w1:=?_) (by rfl) rfl ?_ ?_
    rotate_left
    ·go_simp
     rfl
    refine hK.out _ _ ?_
    clear hK K
    refine zbC kq0 ?_
    try go_wp2
    go_meet
    case rel=>exact⟨Z,An,cn,rfl,GEg7,NBg3g7,NBg4g7,NBg6g7,⟨zak (zak (zak (zak BKg7.out 0 _ rfl) 1 _ rfl) 2 _ rfl) 3 _ rfl⟩,⟨Kd.R_mono (Kd.R_far (p:=⟨Z,3,none⟩) (Kd.R_far (p:=⟨Z,2,none⟩) (Kd.R_far (p:=⟨Z,1,none⟩) (Kd.R_far (p:=⟨Z,0,none⟩) (Kd.R_types HN.out BKg7.out kq2) (fun _ h=>h.2) _) (fun _ h=>h.2) _) (fun _ h=>h.2) _) (fun _ h=>h.2) _) (fun _ _=>trivial)⟩,⟨zaj (zaj (zaj (zaj BKg3.out NBg3g7.out _) NBg3g7.out _) NBg3g7.out _) NBg3g7.out _⟩,⟨zaj (zaj (zaj (zaj BKg4.out NBg4g7.out _) NBg4g7.out _) NBg4g7.out _) NBg4g7.out _⟩,⟨zaj (zaj (zaj (zaj BKg6.out NBg6g7.out _) NBg6g7.out _) NBg6g7.out _) NBg6g7.out _⟩,⟨zav (zav (zav (zav HB.out GEg7.out) GEg7.out) GEg7.out) GEg7.out⟩⟩
  ·refine zbU (v:=.pointer (some ⟨w9.heap.size,0,none⟩)) (w1:=w9.alloc (.cells #[.slice none 0 0,.slice none 0 0,.int .i64 0,.int .i64 0] 74)) (by rfl) rfl ?_ ?_
   ·go_simp
    all_goals first|done|rfl|exact⟨rfl,rfl⟩
   have NBg3g7:=mk (Nat.ne_of_lt (za0 BKg3.out))
   have NBg4g7:=mk (Nat.ne_of_lt (za0 BKg4.out))
   have NBg6g7:=mk (Nat.ne_of_lt (za0 BKg6.out))
   have GEg7:=mk (zad HB.out)
   have BKg7:Aside0 ((w9.alloc (.cells #[.slice none 0 0,.slice none 0 0,.int .i64 0,.int .i64 0] 74)).heap[w9.heap.size]?=some (.cells #[.slice none 0 0,.slice none 0 0,.int .i64 0,.int .i64 0] 74 (0,0))):=⟨zbJ w9 _⟩
   replace BKg3:Aside0 ((w9.alloc (.cells #[.slice none 0 0,.slice none 0 0,.int .i64 0,.int .i64 0] 74)).heap[g3]?=some (.cells #[.slice A0 L.length c0,.slice A1 U.length c1,.int .i64 ka,.int .i64 ea] 74 (0,0))):=⟨zab BKg3.out _⟩
   replace BKg4:Aside0 ((w9.alloc (.cells #[.slice none 0 0,.slice none 0 0,.int .i64 0,.int .i64 0] 74)).heap[g4]?=some (.cells #[.slice B0 M.length d0,.slice B1 X.length d1,.int .i64 kb,.int .i64 eb] 74 (0,0))):=⟨zab BKg4.out _⟩
   replace BKg6:Aside0 ((w9.alloc (.cells #[.slice none 0 0,.slice none 0 0,.int .i64 0,.int .i64 0] 74)).heap[g6]?=some (.cells #[.slice none 0 0,.slice none 0 0,.int .i64 0,.int .i64 0] 74 (0,0))):=⟨zab BKg6.out _⟩
   replace HB:Aside0 (Below w.heap.size w (w9.alloc (.cells #[.slice none 0 0,.slice none 0 0,.int .i64 0,.int .i64 0] 74))):=⟨zaS HB.out _⟩
   generalize w9.alloc (.cells #[.slice none 0 0,.slice none 0 0,.int .i64 0,.int .i64 0] 74)=aZ at BKg7 BKg3 BKg4 BKg6 HB ⊢
   generalize w9.heap.size=Z at BKg7 GEg7 NBg3g7 NBg4g7 NBg6g7 ⊢
   refine hK.out _ _ ⟨bk_ BKg3 0,bk_ BKg4 0⟩ (fun hHeld=>?_)
   clear hK K
   refine za2 (a':=?_) ?_ ?_
   rotate_left
   ·show Act.put _ (some 7) _=_
    simp only[Act.put,List.setIfInBounds_toArray,List.set_cons_zero,List.set_cons_succ]
    rfl
   refine on_ 0 13 (fun K hK=>?_)
   refine Kd.R_lit_step Kd.string _ 9 ?hg (N:=13) ?hd (xs:=([]:List ByteArray)) (inner:=[]) (ok:=fun _=>True) (okp:=fun _=>True) ?hr ?hp (fun _ hk=>hk) trivial (Below.refl _ _) (Nat.le_refl _) (by simp) ?_
   (case hd=>rfl)
   (case hg=>rfl)
   (case hr=>exact kq21)
   (case hp=>exact Reps.none _ _)
   intro an b4 ho hb hg_ hnew_
   clear hg_ hnew_
   have HO:=mk (Kd.R_lower ho (zad HB.out))
   have r:=mk (zai (g:=g3) (o:=.cells #[.slice A0 L.length c0,.slice A1 U.length c1,.int .i64 ka,.int .i64 ea] 74 (0,0)) BKg3.out hb)
   have D:=mk (zai (g:=g4) (o:=.cells #[.slice B0 M.length d0,.slice B1 X.length d1,.int .i64 kb,.int .i64 eb] 74 (0,0)) BKg4.out hb)
   have G:=mk (zai (g:=g6) (o:=.cells #[.slice none 0 0,.slice none 0 0,.int .i64 0,.int .i64 0] 74 (0,0)) BKg6.out hb)
   have I:=mk (zai (g:=Z) (o:=.cells #[.slice none 0 0,.slice none 0 0,.int .i64 0,.int .i64 0] 74 (0,0)) BKg7.out hb)
   have J:=mk (zaa HB.out hb)
   clear BKg3 BKg4 BKg6 BKg7 HB
   have BKg3:=r
   have BKg4:=D
   have BKg6:=G
   have BKg7:=I
   have HB:=J
   clear r D G I J
   clear hb ho
   refine hK.out _ _ ⟨bk_ BKg3 0,bk_ BKg4 0⟩ (fun hHeld=>?_)
   clear hK K
   refine za2 (a':=?_) ?_ ?_
   rotate_left
   ·show Act.put _ (some 13) _=_
    simp only[Act.put,List.setIfInBounds_toArray,List.set_cons_zero,List.set_cons_succ]
    rfl
   refine on_ 3 16 (fun K hK=>?_)
   refine Kd.R_append_rows_step Kd.string (w0:=w) w.heap.size (by rfl) (.tmp 13) (.tmp 15) 22 9 (.string ⟨#[]⟩) 16 (by rfl) Try.underlying22 zcW rfl kq2 kq2 an ([]:List ByteArray) L _ _ _ (fun _=>True) (fun _=>False) (by rfl) (by rfl) HO.out (Kd.C_below ao.out HB.out) (fun _ _ h=>h) (fun _ h=>h.elim) (fun _ _=>trivial) HB.out (zad HB.out) (kq65 HLA HLB) ?_
   intro al b5 ho hb hg hat
   have r:=mk (zaJ BKg3.out hg (Kd.R_ne HO.out BKg3.out kq2))
   have D:=mk (zaJ BKg4.out hg (Kd.R_ne HO.out BKg4.out kq2))
   have G:=mk (zaJ BKg6.out hg (Kd.R_ne HO.out BKg6.out kq2))
   have I:=mk (zaJ BKg7.out hg (Kd.R_ne HO.out BKg7.out kq2))
   have J:=mk (ho)
   have Y:=mk (hb)
   clear BKg3 BKg4 BKg6 BKg7 HO HB
   have BKg3:=r
   have BKg4:=D
   have BKg6:=G
   have BKg7:=I
   have HO:=J
   have HB:=Y
   clear r D G I J Y
   clear ho hb hg hat
   refine hK.out _ _ ⟨bk_ BKg3 0,bk_ BKg4 0⟩ (fun hHeld=>?_)
   clear hK K
   refine za2 (a':=?_) ?_ ?_
   rotate_left
   ·show Act.put _ (some 16) _=_
    simp only[Act.put,List.setIfInBounds_toArray,List.set_cons_zero,List.set_cons_succ]
    rfl
   refine on_ 6 19 (fun K hK=>?_)
   refine Kd.R_append_rows_step Kd.string (w0:=w) w.heap.size (by rfl) (.tmp 16) (.tmp 18) 22 9 (.string ⟨#[]⟩) 16 (by rfl) Try.underlying22 zcW rfl kq2 kq2 al (([]:List ByteArray)++L) M _ _ _ (fun _=>True) (fun _=>False) (by rfl) (by rfl) HO.out (Kd.C_below am.out HB.out) (fun _ _ h=>h) (fun _ h=>h.elim) (fun _ _=>trivial) HB.out (zad HB.out) (kq66 HLA HLB) ?_
   intro ap b6 ho hb hg hat
   have r:=mk (zaJ BKg3.out hg (Kd.R_ne HO.out BKg3.out kq2))
   have D:=mk (zaJ BKg4.out hg (Kd.R_ne HO.out BKg4.out kq2))
   have G:=mk (zaJ BKg6.out hg (Kd.R_ne HO.out BKg6.out kq2))
   have I:=mk (zaJ BKg7.out hg (Kd.R_ne HO.out BKg7.out kq2))
   have J:=mk (ho)
   have Y:=mk (hb)
   clear BKg3 BKg4 BKg6 BKg7 HO HB
   have BKg3:=r
   have BKg4:=D
   have BKg6:=G
   have BKg7:=I
   have HO:=J
   have HB:=Y
   clear r D G I J Y
   clear ho hb hg hat
   refine hK.out _ _ ⟨bk_ BKg3 0,bk_ BKg4 0⟩ (fun hHeld=>?_)
   clear hK K
   refine za2 (a':=?_) ?_ ?_
   rotate_left
   ·show Act.put _ (some 19) _=_
    simp only[Act.put,List.setIfInBounds_toArray,List.set_cons_zero,List.set_cons_succ]
    rfl
   refine on_ 7 20 (fun K hK=>?_)
   obtain⟨aa,ab,ai⟩:=Kd.R_slice HO.out
   subst ai
   refine zbj Try.func65 kq0 rfl #[.slice aa (([]:List ByteArray)++L++M).length ab] (by rfl) rfl rfl kq54 ?_
   refine(zaA.calls kt aa ab (([]:List ByteArray)++L++M) us _ (Kd.R_reads' HO.out).2.2 (Kd.R_reads' HO.out).2.1 HKT.out).mono ?_
   rintro e b7 ⟨vn,rfl,hn,hb⟩
   obtain⟨An,cn,en⟩:=Kd.R_slice hn
   subst en
   refine⟨_,rfl,?_⟩
   have HN:=mk (Kd.R_lower hn (zad HB.out))
   have r:=mk (zai (g:=g3) (o:=.cells #[.slice A0 L.length c0,.slice A1 U.length c1,.int .i64 ka,.int .i64 ea] 74 (0,0)) BKg3.out hb)
   have D:=mk (zai (g:=g4) (o:=.cells #[.slice B0 M.length d0,.slice B1 X.length d1,.int .i64 kb,.int .i64 eb] 74 (0,0)) BKg4.out hb)
   have G:=mk (zai (g:=g6) (o:=.cells #[.slice none 0 0,.slice none 0 0,.int .i64 0,.int .i64 0] 74 (0,0)) BKg6.out hb)
   have I:=mk (zai (g:=Z) (o:=.cells #[.slice none 0 0,.slice none 0 0,.int .i64 0,.int .i64 0] 74 (0,0)) BKg7.out hb)
   have J:=mk (zaa HB.out hb)
   clear BKg3 BKg4 BKg6 BKg7 HB
   have BKg3:=r
   have BKg4:=D
   have BKg6:=G
   have BKg7:=I
   have HB:=J
   clear r D G I J
   clear hb hn HO
   refine hK.out _ _ ⟨bk_ BKg3 0,bk_ BKg4 0⟩ (fun hHeld=>?_)
   clear hK K
   refine za2 (a':=?_) ?_ ?_
   rotate_left
   ·show Act.put _ (some 20) _=_
    simp only[Act.put,List.setIfInBounds_toArray,List.set_cons_zero,List.set_cons_succ]
    rfl
   refine pu_ 8 21 ?_
   have ne_a:=NBg3g7.out
   have ne_b:=Ne.symm NBg3g7.out
   obtain⟨_,_,_,_,_,_,_,_⟩:=cz4_ BKg7.out
   refine zb4 (i:=10) (N:=none) #[true,true,true,true,true,true,true,true,true,true,true] rfl rfl kq0 kq2 (fun K hK=>?_)
   refine zbO (w1:=?_) (by rfl) rfl ?_ ?_
   rotate_left
   ·go_simp
    rfl
   refine hK.out _ _ ?_
   clear hK K
   refine zbC kq0 ?_
   try go_wp2
   go_meet
   case rel=>exact⟨Z,An,cn,rfl,GEg7,NBg3g7,NBg4g7,NBg6g7,⟨zak (zak (zak (zak BKg7.out 0 _ rfl) 1 _ rfl) 2 _ rfl) 3 _ rfl⟩,⟨Kd.R_mono (Kd.R_far (p:=⟨Z,3,none⟩) (Kd.R_far (p:=⟨Z,2,none⟩) (Kd.R_far (p:=⟨Z,1,none⟩) (Kd.R_far (p:=⟨Z,0,none⟩) (Kd.R_types HN.out BKg7.out kq2) (fun _ h=>h.2) _) (fun _ h=>h.2) _) (fun _ h=>h.2) _) (fun _ h=>h.2) _) (fun _ _=>trivial)⟩,⟨zaj (zaj (zaj (zaj BKg3.out NBg3g7.out _) NBg3g7.out _) NBg3g7.out _) NBg3g7.out _⟩,⟨zaj (zaj (zaj (zaj BKg4.out NBg4g7.out _) NBg4g7.out _) NBg4g7.out _) NBg4g7.out _⟩,⟨zaj (zaj (zaj (zaj BKg6.out NBg6g7.out _) NBg6g7.out _) NBg6g7.out _) NBg6g7.out _⟩,⟨zav (zav (zav (zav HB.out GEg7.out) GEg7.out) GEg7.out) GEg7.out⟩⟩
 case rest=>
  clear BKg3 BKg4 BKg6 HB
  obtain⟨Z,An,cn,rfl,GEg7,NBg3g7,NBg4g7,NBg6g7,BKg7,HN,BKg3,BKg4,BKg6,HB⟩:=hcut
  have ne_g3g7:=NBg3g7.out
  have ne_g7g3:=Ne.symm NBg3g7.out
  have ne_g4g7:=NBg4g7.out
  have ne_g7g4:=Ne.symm NBg4g7.out
  have ne_g6g7:=NBg6g7.out
  have ne_g7g6:=Ne.symm NBg6g7.out
  go_wp2
  go_loopg [8] us.length (fun gq v8 wr=>∃(i:Nat) (vc:Value),v8= .int .i64 i∧Aside0 (i≤us.length)∧Aside0 (us.length-i≤gq)∧Aside0 (wr.heap[Z]?=some (.cells #[.slice An us.length cn,vc,.int .i64 0,.int .i64 (errP (fun x y=>x+y) L U M X 0 (us.take i))] 74 (0,0)))∧Aside0 (Kd.R Kd.string 9 wr w.heap.size (fun _=>True) (.slice An us.length cn) us)∧Aside0 (Kd.R (Kd.int .i64) 2 wr w.heap.size (fun _=>True) vc (zcc (fun x y=>x+y) L U M X (us.take i)))∧Aside0 (wr.heap[g3]?=some (.cells #[.slice A0 L.length c0,.slice A1 U.length c1,.int .i64 ka,.int .i64 ea] 74 (0,0)))∧Aside0 (wr.heap[g4]?=some (.cells #[.slice B0 M.length d0,.slice B1 X.length d1,.int .i64 kb,.int .i64 eb] 74 (0,0)))∧Aside0 (wr.heap[g6]?=some (.cells #[.slice none 0 0,.slice none 0 0,.int .i64 0,.int .i64 0] 74 (0,0)))∧Aside0 (Below w.heap.size w wr))
  case atStart=>exact⟨0,.slice none 0 0,rfl,⟨Nat.zero_le _⟩,⟨kq1⟩,BKg7,HN,⟨kq60⟩,BKg3,BKg4,BKg6,HB⟩
  case round=>
   clear BKg7 BKg3 BKg4 BKg6 HB HN
   obtain⟨i,vc,rfl,HI,HQ,BKg7,HN,HRc,BKg3,BKg4,BKg6,HB⟩:=hrel
   by_cases hi:i<us.length
   ·have hiz:(i:Int)<(us.length:Int):=by omega
    have aM:(0:Int)≤(i:Int):=by omega
    obtain⟨ad,ead,hx⟩:=Kd.at_string (Kd.R_reads' HN.out).2.2 (i:Int) aM hiz
    cases ead
    rw[Int.toNat_natCast,zcM hi]at hx
    have HE:=mk (zfP (fun x y=>x+y) L U M X us 0 i hi)
    have HM:=mk (ze4 (fun x y=>x+y) L U M X us i hi)
    have HLT:=mk (show(zcc (fun x y=>x+y) L U M X (us.take i)).length≤200000 by have:=HUL.out;unfold zcc;rw[List.length_map,List.length_take];omega)
    try dsimp only at HE HM
    generalize us[i]=s at hx HE HM
    obtain⟨kx,hkx⟩:=HOA.out s
    obtain⟨ky,hky⟩:=HOB.out s
    obtain⟨kp,hkp⟩:=HAD.out s
    obtain⟨kq,hkq⟩:=HSU.out s
    have HX:=mk hkx
    have HY:=mk hky
    have HP:=mk hkp
    have HS:=mk hkq
    have HXe:=mk hx
    clear hkx hky hkp hkq hx
    generalize hxa:ofS L U s=x at HX HE HM HP HS
    generalize hxb:ofS M X s=y at HY HE HM HP HS
    clear hxa hxb
    have az:wr.cell? ⟨Z,0,none⟩=some (.slice (some ad) us.length cn):=bk_ BKg7 0
    go_wp2
    clear az
    refine zbv (n:=20) (S:=fun w'=>w'.cell? ⟨g3,0,none⟩=some (.slice A0 L.length c0)∧w'.cell? ⟨g3,1,none⟩=some (.slice A1 U.length c1)∧w'.cell? ⟨g3,2,none⟩=some (.int .i64 ka)∧w'.cell? ⟨g3,3,none⟩=some (.int .i64 ea)∧w'.cell? ⟨g4,0,none⟩=some (.slice B0 M.length d0)∧w'.cell? ⟨g4,1,none⟩=some (.slice B1 X.length d1)∧w'.cell? ⟨g4,2,none⟩=some (.int .i64 kb)∧w'.cell? ⟨g4,3,none⟩=some (.int .i64 eb)∧w'.cell? ⟨Z,0,none⟩=some (.slice (some ad) us.length cn)∧w'.cell? (ad.add i)=some (.string s)) (ds:=[]) #[false,false,false,false,false,false,false,false,false,false,false,false,false,false,false,false,false,false,false,false] kq0 rfl rfl ⟨bk_ BKg3 0,bk_ BKg3 1,bk_ BKg3 2,bk_ BKg3 3,bk_ BKg4 0,bk_ BKg4 1,bk_ BKg4 2,bk_ BKg4 3,bk_ BKg7 0,HXe.out⟩ (fun hHeld=>?_)
    replace BKg3:Aside0 (wr.drew.heap[g3]?=some (.cells #[.slice A0 L.length c0,.slice A1 U.length c1,.int .i64 ka,.int .i64 ea] 74 (0,0))):=⟨BKg3.out⟩
    replace BKg4:Aside0 (wr.drew.heap[g4]?=some (.cells #[.slice B0 M.length d0,.slice B1 X.length d1,.int .i64 kb,.int .i64 eb] 74 (0,0))):=⟨BKg4.out⟩
    replace BKg6:Aside0 (wr.drew.heap[g6]?=some (.cells #[.slice none 0 0,.slice none 0 0,.int .i64 0,.int .i64 0] 74 (0,0))):=⟨BKg6.out⟩
    replace BKg7:Aside0 (wr.drew.heap[Z]?=some (.cells #[.slice (some ad) us.length cn,vc,.int .i64 0,.int .i64 (errP (fun x y=>x+y) L U M X 0 (us.take i))] 74 (0,0))):=⟨BKg7.out⟩
    replace HN:Aside0 (Kd.R Kd.string 9 wr.drew w.heap.size (fun _=>True) (.slice (some ad) us.length cn) us):=⟨HN.out⟩
    replace HRc:Aside0 (Kd.R (Kd.int .i64) 2 wr.drew w.heap.size (fun _=>True) vc (zcc (fun x y=>x+y) L U M X (us.take i))):=⟨HRc.out⟩
    replace HB:Aside0 (Below w.heap.size w wr.drew):=⟨zaP HB.out⟩
    replace HXe:Aside0 (wr.drew.cell? (ad.add i)=some (.string s)):=⟨HXe.out⟩
    generalize wr.drew=aI at BKg3 BKg4 BKg6 BKg7 HN HRc HB HXe hHeld ⊢
    refine pu_ 1 31 ?_
    refine pu_ 3 33 ?_
    refine pu_ 8 38 ?_
    refine pu_ 10 40 ?_
    refine ta_ 0 30 hHeld ?_
    refine ta_ 2 32 hHeld ?_
    refine ta_ 7 37 hHeld ?_
    refine ta_ 9 39 hHeld ?_
    refine pu_ 4 34 ?_
    refine pu_ 11 41 ?_
    refine ta_ 5 35 hHeld ?_
    refine ta_ 12 42 hHeld ?_
    refine on_ 6 36 (fun K hK=>?_)
    refine zbj Try.func130 kq0 rfl #[.agg #[.slice A0 L.length c0,.slice A1 U.length c1,.int .i64 ka,.int .i64 ea],.string s] (by rfl) rfl rfl kq54 ?_
    refine(zaM.calls kx A0 c0 L A1 c1 U ka ea s x _ (Kd.C_below ao.out HB.out) aD.out (Kd.C_below aE.out HB.out) aG.out HX.out).mono ?_
    rintro e aJ ⟨rfl,hb⟩
    refine⟨_,rfl,?_⟩
    have r:=mk (zai (g:=g3) (o:=.cells #[.slice A0 L.length c0,.slice A1 U.length c1,.int .i64 ka,.int .i64 ea] 74 (0,0)) BKg3.out hb)
    have D:=mk (zai (g:=g4) (o:=.cells #[.slice B0 M.length d0,.slice B1 X.length d1,.int .i64 kb,.int .i64 eb] 74 (0,0)) BKg4.out hb)
    have G:=mk (zai (g:=g6) (o:=.cells #[.slice none 0 0,.slice none 0 0,.int .i64 0,.int .i64 0] 74 (0,0)) BKg6.out hb)
    have I:=mk (zai (g:=Z) (o:=.cells #[.slice (some ad) us.length cn,vc,.int .i64 0,.int .i64 (errP (fun x y=>x+y) L U M X 0 (us.take i))] 74 (0,0)) BKg7.out hb)
    have J:=mk (Kd.R_below HN.out hb)
    have Y:=mk (Kd.R_below HRc.out hb)
    have ac:=mk ((hb.cell (World.block_lt_of_cell? _ _ HXe.out)).trans HXe.out)
    have ak:=mk (zaa HB.out hb)
    clear BKg3 BKg4 BKg6 BKg7 HN HRc HXe HB
    have BKg3:=r
    have BKg4:=D
    have BKg6:=G
    have BKg7:=I
    have HN:=J
    have HRc:=Y
    have HXe:=ac
    have HB:=ak
    clear r D G I J Y ac ak
    clear hb
    refine hK.out _ _ ⟨bk_ BKg3 0,bk_ BKg3 1,bk_ BKg3 2,bk_ BKg3 3,bk_ BKg4 0,bk_ BKg4 1,bk_ BKg4 2,bk_ BKg4 3,bk_ BKg7 0,HXe.out⟩ (fun hHeld=>?_)
    clear hK K
    refine za2 (a':=?_) ?_ ?_
    rotate_left
    ·show Act.put _ (some 36) _=_
     simp only[Act.put,List.setIfInBounds_toArray,List.set_cons_zero,List.set_cons_succ]
     rfl
    refine on_ 13 43 (fun K hK=>?_)
    refine zbj Try.func130 kq0 rfl #[.agg #[.slice B0 M.length d0,.slice B1 X.length d1,.int .i64 kb,.int .i64 eb],.string s] (by rfl) rfl rfl kq54 ?_
    refine(zaM.calls ky B0 d0 M B1 d1 X kb eb s y _ (Kd.C_below am.out HB.out) HD0.out (Kd.C_below aH.out HB.out) HD1.out HY.out).mono ?_
    rintro e aK ⟨rfl,hb⟩
    refine⟨_,rfl,?_⟩
    have r:=mk (zai (g:=g3) (o:=.cells #[.slice A0 L.length c0,.slice A1 U.length c1,.int .i64 ka,.int .i64 ea] 74 (0,0)) BKg3.out hb)
    have D:=mk (zai (g:=g4) (o:=.cells #[.slice B0 M.length d0,.slice B1 X.length d1,.int .i64 kb,.int .i64 eb] 74 (0,0)) BKg4.out hb)
    have G:=mk (zai (g:=g6) (o:=.cells #[.slice none 0 0,.slice none 0 0,.int .i64 0,.int .i64 0] 74 (0,0)) BKg6.out hb)
    have I:=mk (zai (g:=Z) (o:=.cells #[.slice (some ad) us.length cn,vc,.int .i64 0,.int .i64 (errP (fun x y=>x+y) L U M X 0 (us.take i))] 74 (0,0)) BKg7.out hb)
    have J:=mk (Kd.R_below HN.out hb)
    have Y:=mk (Kd.R_below HRc.out hb)
    have ac:=mk ((hb.cell (World.block_lt_of_cell? _ _ HXe.out)).trans HXe.out)
    have ak:=mk (zaa HB.out hb)
    clear BKg3 BKg4 BKg6 BKg7 HN HRc HXe HB
    have BKg3:=r
    have BKg4:=D
    have BKg6:=G
    have BKg7:=I
    have HN:=J
    have HRc:=Y
    have HXe:=ac
    have HB:=ak
    clear r D G I J Y ac ak
    clear hb
    refine hK.out _ _ ⟨bk_ BKg3 0,bk_ BKg3 1,bk_ BKg3 2,bk_ BKg3 3,bk_ BKg4 0,bk_ BKg4 1,bk_ BKg4 2,bk_ BKg4 3,bk_ BKg7 0,HXe.out⟩ (fun hHeld=>?_)
    clear hK K
    refine za2 (a':=?_) ?_ ?_
    rotate_left
    ·show Act.put _ (some 43) _=_
     simp only[Act.put,List.setIfInBounds_toArray,List.set_cons_zero,List.set_cons_succ]
     rfl
    refine on_ 14 44 (fun K hK=>?_)
    refine zbj Try.func129 kq0 rfl #[.int .i64 x,.int .i64 y] (by rfl) rfl rfl kq54 ?_
    refine(zbk.calls kp x y (fit (x+y)).1 (fit (x+y)).2 _ HP.out).mono ?_
    rintro e aj ⟨rfl,hb⟩
    refine⟨_,rfl,?_⟩
    have r:=mk (zai (g:=g3) (o:=.cells #[.slice A0 L.length c0,.slice A1 U.length c1,.int .i64 ka,.int .i64 ea] 74 (0,0)) BKg3.out hb)
    have D:=mk (zai (g:=g4) (o:=.cells #[.slice B0 M.length d0,.slice B1 X.length d1,.int .i64 kb,.int .i64 eb] 74 (0,0)) BKg4.out hb)
    have G:=mk (zai (g:=g6) (o:=.cells #[.slice none 0 0,.slice none 0 0,.int .i64 0,.int .i64 0] 74 (0,0)) BKg6.out hb)
    have I:=mk (zai (g:=Z) (o:=.cells #[.slice (some ad) us.length cn,vc,.int .i64 0,.int .i64 (errP (fun x y=>x+y) L U M X 0 (us.take i))] 74 (0,0)) BKg7.out hb)
    have J:=mk (Kd.R_below HN.out hb)
    have Y:=mk (Kd.R_below HRc.out hb)
    have ac:=mk ((hb.cell (World.block_lt_of_cell? _ _ HXe.out)).trans HXe.out)
    have ak:=mk (zaa HB.out hb)
    clear BKg3 BKg4 BKg6 BKg7 HN HRc HXe HB
    have BKg3:=r
    have BKg4:=D
    have BKg6:=G
    have BKg7:=I
    have HN:=J
    have HRc:=Y
    have HXe:=ac
    have HB:=ak
    clear r D G I J Y ac ak
    clear hb
    refine hK.out _ _ ⟨bk_ BKg3 0,bk_ BKg3 1,bk_ BKg3 2,bk_ BKg3 3,bk_ BKg4 0,bk_ BKg4 1,bk_ BKg4 2,bk_ BKg4 3,bk_ BKg7 0,HXe.out⟩ (fun hHeld=>?_)
    clear hK K
    refine za2 (a':=?_) ?_ ?_
    rotate_left
    ·show Act.put _ (some 44) _=_
     simp only[Act.put,List.setIfInBounds_toArray,List.set_cons_zero,List.set_cons_succ]
     rfl
    refine pu_ 15 29 ?_
    refine pu_ 16 45 ?_
    refine pu_ 17 46 ?_
    refine pu_ 18 9 ?_
    refine pu_ 19 10 ?_
    refine zbC kq0 ?_
    try go_wp2
    refine zbv (n:=9) (S:=fun w'=>w'.cell? ⟨Z,1,none⟩=some vc) (ds:=[8]) #[false,false,false,false,false,false,false,false,false] kq0 rfl rfl (bk_ BKg7 1) (fun hHeld=>?_)
    replace BKg3:Aside0 (aj.drew.heap[g3]?=some (.cells #[.slice A0 L.length c0,.slice A1 U.length c1,.int .i64 ka,.int .i64 ea] 74 (0,0))):=⟨BKg3.out⟩
    replace BKg4:Aside0 (aj.drew.heap[g4]?=some (.cells #[.slice B0 M.length d0,.slice B1 X.length d1,.int .i64 kb,.int .i64 eb] 74 (0,0))):=⟨BKg4.out⟩
    replace BKg6:Aside0 (aj.drew.heap[g6]?=some (.cells #[.slice none 0 0,.slice none 0 0,.int .i64 0,.int .i64 0] 74 (0,0))):=⟨BKg6.out⟩
    replace BKg7:Aside0 (aj.drew.heap[Z]?=some (.cells #[.slice (some ad) us.length cn,vc,.int .i64 0,.int .i64 (errP (fun x y=>x+y) L U M X 0 (us.take i))] 74 (0,0))):=⟨BKg7.out⟩
    replace HN:Aside0 (Kd.R Kd.string 9 aj.drew w.heap.size (fun _=>True) (.slice (some ad) us.length cn) us):=⟨HN.out⟩
    replace HRc:Aside0 (Kd.R (Kd.int .i64) 2 aj.drew w.heap.size (fun _=>True) vc (zcc (fun x y=>x+y) L U M X (us.take i))):=⟨HRc.out⟩
    replace HB:Aside0 (Below w.heap.size w aj.drew):=⟨zaP HB.out⟩
    generalize aj.drew=b8 at BKg3 BKg4 BKg6 BKg7 HN HRc HB hHeld ⊢
    refine pu_ 0 66 ?_
    refine pu_ 2 68 ?_
    refine pu_ 3 69 ?_
    refine ta_ 1 67 hHeld ?_
    refine on_ 4 70 (fun K hK=>?_)
    refine zbj Try.func93 kq0 rfl #[.pointer (some ⟨Z,0,none⟩),.int .i64 (fit (x+y)).1,.int .i64 (fit (x+y)).2] (by rfl) rfl rfl kq54 ?_
    refine(zcF Z (.slice (some ad) us.length cn) vc 0 (errP (fun x y=>x+y) L U M X 0 (us.take i)) (fit (x+y)).1 (fit (x+y)).2 w _ GEg7.out HB.out BKg7.out).mono ?_
    rintro e aA ⟨rfl,hg,hk,hb⟩
    refine⟨_,rfl,?_⟩
    have r:=mk (hk.blk BKg3.out ne_g3g7 (by simp))
    have D:=mk (hk.blk BKg4.out ne_g4g7 (by simp))
    have G:=mk (hk.blk BKg6.out ne_g6g7 (by simp))
    have I:=mk (Kd.R_mono (Kd.R_keep (Kd.R_types HN.out BKg7.out kq2) hk (fun _ h=>h.2)) (fun _ h=>h.1))
    have J:=mk (Kd.R_mono (Kd.R_keep (Kd.R_types HRc.out BKg7.out kq2) hk (fun _ h=>h.2)) (fun _ h=>h.1))
    have Y:=mk (hg)
    have ac:=mk (hb)
    clear BKg3 BKg4 BKg6 HN HRc BKg7 HB
    have BKg3:=r
    have BKg4:=D
    have BKg6:=G
    have HN:=I
    have HRc:=J
    have BKg7:=Y
    have HB:=ac
    clear r D G I J Y ac
    clear hg hk hb
    refine hK.out _ _ (bk_ BKg7 1) (fun hHeld=>?_)
    clear hK K
    refine za2 (a':=?_) ?_ ?_
    rotate_left
    ·show Act.put _ (some 70) _=_
     simp only[Act.put,List.setIfInBounds_toArray,List.set_cons_zero,List.set_cons_succ]
     rfl
    refine on_ 5 71 (fun K hK=>?_)
    refine zbU (v:=.slice (some ⟨aA.heap.size,0,none⟩) 1 1) (w1:=aA.alloc (.cells #[.int .i64 (fit (x+y)).1] 2)) (by rfl) rfl ?_ ?_
    ·go_simp
     all_goals first|done|rfl|exact⟨rfl,rfl⟩
    refine hK.out _ _ ((za1 (zab BKg7.out _) 1).trans rfl) (fun hHeld=>?_)
    clear hK K
    refine za2 (a':=?_) ?_ ?_
    rotate_left
    ·show Act.put _ (some 71) _=_
     simp only[Act.put,List.setIfInBounds_toArray,List.set_cons_zero,List.set_cons_succ]
     rfl
    refine on_ 6 72 (fun K hK=>?_)
    refine Kd.R_append_step (Kd.int .i64) (w0:=w) w.heap.size (by rfl) (.tmp 67) (.tmp 71) 55 2 (.int .i64 0) 8 (by rfl) Try.underlying55 zgq rfl kq2 kq2 vc (zcc (fun x y=>x+y) L U M X (us.take i)) (fit (x+y)).1 [.int .i64 (fit (x+y)).1] (fun _=>True) (fun _=>False) (by rfl) (by rfl) rfl (fun _ hk=>hk.elim) (fun _ _=>trivial) HRc.out HB.out (zad HB.out) (by have:=HLT.out;omega) ?_
    intro v8 aN au hb8 hg8 hat8
    obtain⟨A8,c8,ev8⟩:=Kd.R_slice au
    subst ev8
    have r:=mk (zaJ BKg3.out hg8 (Kd.R_ne HRc.out BKg3.out kq2))
    have D:=mk (zaJ BKg4.out hg8 (Kd.R_ne HRc.out BKg4.out kq2))
    have G:=mk (zaJ BKg6.out hg8 (Kd.R_ne HRc.out BKg6.out kq2))
    have I:=mk (zaJ BKg7.out hg8 (Kd.R_ne HRc.out BKg7.out kq2))
    have J:=mk (Kd.R_over HN.out HRc.out kq2 hg8)
    have Y:=mk (au)
    have ac:=mk (hb8)
    clear BKg3 BKg4 BKg6 BKg7 HN HRc HB
    have BKg3:=r
    have BKg4:=D
    have BKg6:=G
    have BKg7:=I
    have HN:=J
    have HRc:=Y
    have HB:=ac
    clear r D G I J Y ac
    clear au hb8 hg8 hat8
    refine hK.out _ _ (bk_ BKg7 1) (fun hHeld=>?_)
    clear hK K
    refine za2 (a':=?_) ?_ ?_
    rotate_left
    ·show Act.put _ (some 72) _=_
     simp only[Act.put,List.setIfInBounds_toArray,List.set_cons_zero,List.set_cons_succ]
     rfl
    refine pu_ 7 73 ?_
    have b9:aN.cell? ⟨Z,1,none⟩=some vc:=bk_ BKg7 1
    have ba:=zaD BKg7.out 1
    refine zb4 (i:=8) (N:=none) #[true,true,true,true,true,true,true,true,true] rfl rfl kq0 kq2 (fun K hK=>?_)
    refine zbO (w1:=?_) (by rfl) rfl ?_ ?_
    rotate_left
    ·go_simp
     rfl
    refine hK.out _ _ ?_
    clear hK K
    refine zbC kq0 ?_
    try go_wp2
    go_roundg (us.length-(i+1))
    case measure=>have:=HQ.out;omega
    case rel=>
     have aC:=HRc.out
     rw[List.length_append,List.length_singleton,←HM.out]at aC
     exact⟨i+1,.slice A8 ((zcc (fun x y=>x+y) L U M X (us.take i)).length+1) c8,kq61,⟨kq1⟩,⟨kq1⟩,⟨by rw[HE.out];exact zak BKg7.out 1 _ rfl⟩,⟨Kd.R_set HN.out BKg7.out kq2 1 _⟩,⟨Kd.R_set aC BKg7.out kq2 1 _⟩,⟨zaj BKg3.out ne_g3g7 _⟩,⟨zaj BKg4.out ne_g4g7 _⟩,⟨zaj BKg6.out ne_g6g7 _⟩,⟨zav HB.out GEg7.out⟩⟩
   ·have hiz:¬(i:Int)<(us.length:Int):=by omega
    have hil:i=us.length:=by have:=HI.out;omega
    have HX:=mk (show errP (fun x y=>x+y) L U M X 0 (us.take i)=errP (fun x y=>x+y) L U M X 0 us by rw[hil,List.take_length])
    have HY:=mk (show zcc (fun x y=>x+y) L U M X (us.take i)=zcc (fun x y=>x+y) L U M X us by rw[hil,List.take_length])
    clear hil hi
    obtain⟨Av,cv,ev⟩:=Kd.R_slice HRc.out
    subst ev
    obtain⟨_,_,_,_,_,_,_,_⟩:=cz4_ BKg3.out
    obtain⟨_,_,_,_,_,_,_,_⟩:=cz4_ BKg4.out
    obtain⟨_,_,_,_,_,_,_,_⟩:=cz4_ BKg6.out
    obtain⟨_,_,_,_,_,_,_,_⟩:=cz4_ BKg7.out
    go_wp2_with (first|((go_at_call 129;(with_reducible refine(zbk.calls kka ka kb (fit (ka+kb)).1 (fit (ka+kb)).2 _ HKA.out).mono ?_);rintro e bb ⟨rfl,hb⟩;replace BKg3:=(bc_ BKg3 hb (kq45 BKg3));replace BKg4:=(bc_ BKg4 hb (kq45 BKg4));replace BKg6:=(bc_ BKg6 hb (kq45 BKg6));replace BKg7:=(bc_ BKg7 hb (kq45 BKg7));replace HN:=mk (Kd.R_below kq55 hb);replace HRc:=mk (Kd.R_below (kq56 HRc) hb);replace HB:=mk (zaa kq43 hb);clear hb;obtain⟨_,_,_,_,_,_,_,_⟩:=cz4_ BKg3.out;obtain⟨_,_,_,_,_,_,_,_⟩:=cz4_ BKg4.out;obtain⟨_,_,_,_,_,_,_,_⟩:=cz4_ BKg6.out;obtain⟨_,_,_,_,_,_,_,_⟩:=cz4_ BKg7.out))|((go_at_call 93;(with_reducible refine(zcF Z (.slice An us.length cn) (.slice Av (zcc (fun x y=>x+y) L U M X (us.take i)).length cv) 0 (errP (fun x y=>x+y) L U M X 0 (us.take i)) (fit (ka+kb)).1 (fit (ka+kb)).2 w _ GEg7.out ?s1 ?s2).mono ?_);(case s1=>exact kq58);(case s2=>exact kq59 BKg7);rintro e bc ⟨rfl,hg,hk,hb⟩;replace BKg6:=mk (hk.blk (kq45 BKg6) ne_g6g7 (by simp));replace HN:=mk (Kd.R_mono (Kd.R_keep (Kd.R_types kq55 (kq45 BKg7) kq2) hk (fun _ h=>h.2)) (fun _ h=>h.1));replace HRc:=mk (Kd.R_mono (Kd.R_keep (Kd.R_types (kq56 HRc) (kq45 BKg7) kq2) hk (fun _ h=>h.2)) (fun _ h=>h.1));replace BKg7:=mk (hg);replace HB:=mk (hb);clear hg hk hb;obtain⟨_,_,_,_,_,_,_,_⟩:=cz4_ BKg6.out;obtain⟨_,_,_,_,_,_,_,_⟩:=cz4_ BKg7.out)))
    refine bodyPost_ret (results_cell_row rfl _ _ g6 74 #[.slice An us.length cn,.slice Av (zcc (fun x y=>x+y) L U M X (us.take i)).length cv,.int .i64 (fit (ka+kb)).1,.int .i64 (zcB (errP (fun x y=>x+y) L U M X 0 (us.take i)) (fit (ka+kb)).2)] (0,0) _ rfl (zak (zak (zak (zak (zaj BKg6.out ne_g6g7 _) 0 _ rfl) 1 _ rfl) 2 _ rfl) 3 _ rfl) Try.underlying74 rfl kq0) rfl ?_
    have p0:=Kd.R_types (Kd.R_types HN.out BKg7.out kq2) BKg6.out kq2
    have p1:=Kd.R_far (p:=⟨Z,2,none⟩) p0 (fun _ h=>h.1.2) (.int .i64 (fit (ka+kb)).1)
    have p2:=Kd.R_far (p:=⟨g6,0,none⟩) p1 (fun _ h=>h.2) (.slice An us.length cn)
    have p3:=Kd.R_far (p:=⟨g6,1,none⟩) p2 (fun _ h=>h.2) (.slice Av (zcc (fun x y=>x+y) L U M X (us.take i)).length cv)
    have p4:=Kd.R_far (p:=⟨g6,2,none⟩) p3 (fun _ h=>h.2) (.int .i64 (fit (ka+kb)).1)
    have p5:=Kd.R_far (p:=⟨g6,3,none⟩) p4 (fun _ h=>h.2) (.int .i64 (zcB (errP (fun x y=>x+y) L U M X 0 (us.take i)) (fit (ka+kb)).2))
    have q0:=Kd.R_types (Kd.R_types HRc.out BKg7.out kq2) BKg6.out kq2
    have q1:=Kd.R_far (p:=⟨Z,2,none⟩) q0 (fun _ h=>h.1.2) (.int .i64 (fit (ka+kb)).1)
    have q2:=Kd.R_far (p:=⟨g6,0,none⟩) q1 (fun _ h=>h.2) (.slice An us.length cn)
    have q3:=Kd.R_far (p:=⟨g6,1,none⟩) q2 (fun _ h=>h.2) (.slice Av (zcc (fun x y=>x+y) L U M X (us.take i)).length cv)
    have q4:=Kd.R_far (p:=⟨g6,2,none⟩) q3 (fun _ h=>h.2) (.int .i64 (fit (ka+kb)).1)
    have q5:=Kd.R_far (p:=⟨g6,3,none⟩) q4 (fun _ h=>h.2) (.int .i64 (zcB (errP (fun x y=>x+y) L U M X 0 (us.take i)) (fit (ka+kb)).2))
    exact⟨.slice An us.length cn,.slice Av (zcc (fun x y=>x+y) L U M X (us.take i)).length cv,by rw[←HX.out],Kd.R_mono p5 (fun _ _=>trivial),kq62,(kq63 GEg6 GEg7)⟩
def zbe.f (l0:List ByteArray) (l1:List Int) (ka _ea:Int) (m0:List ByteArray) (m1:List Int) (kb _eb:Int) (less:Bool):Option (List ByteArray × List Int × Int × Int):=
 if l0.length≤100000∧m0.length≤100000∧l0.length≤l1.length∧m0.length≤m1.length∧l1.all zbx=true∧m1.all zbx=true∧zbx ka=true∧zbx kb=true then
  (if less=true then some (zce (l0++m0),zcc (fun x y=>x-y) l0 l1 m0 m1 (zce (l0++m0)),(fit (ka-kb)).1,zcB (errP (fun x y=>x-y) l0 l1 m0 m1 0 (zce (l0++m0))) (fit (ka-kb)).2)
  else some (zce (l0++m0),zcc (fun x y=>x+y) l0 l1 m0 m1 (zce (l0++m0)),(fit (ka+kb)).1,zcB (errP (fun x y=>x+y) l0 l1 m0 m1 0 (zce (l0++m0))) (fit (ka+kb)).2))else none
theorem zbe.calls (r:Option Addr) (D:Nat) (l0_0:List ByteArray) (G:Option Addr) (I:Nat) (l0_1:List Int) (a0_2 a0_3:Int) (J:Option Addr) (L:Nat) (l1_0:List ByteArray) (M:Option Addr) (U:Nat) (l1_1:List Int) (a1_2 a1_3:Int) (a2:Bool) (r1:List ByteArray) (r2:List Int) (r3 r4:Int) (w:World)
 (X:Kd.C Kd.string w r l0_0.length l0_0) (hc0_0:l0_0.length≤D) (Y:Kd.C (Kd.int .i64) w G l0_1.length l0_1) (hc0_1:l0_1.length≤I) (Z:Kd.C Kd.string w J l1_0.length l1_0) (hc1_0:l1_0.length≤L) (aa:Kd.C (Kd.int .i64) w M l1_1.length l1_1) (hc1_1:l1_1.length≤U) (h:zbe.f l0_0 l0_1 a0_2 a0_3 l1_0 l1_1 a1_2 a1_3 a2=some (r1,r2,r3,r4)) :
 Calls Try.prog 91 #[.agg #[.slice r l0_0.length D,.slice G l0_1.length I,.int .i64 a0_2,.int .i64 a0_3],.agg #[.slice J l1_0.length L,.slice M l1_1.length U,.int .i64 a1_2,.int .i64 a1_3],.bool a2] w fun e w'=>∃ab ac:Value,e= .returned (.agg #[ab,ac,.int .i64 r3,.int .i64 r4])∧Kd.R Kd.string 9 w' w.heap.size (fun _=>True) ab r1∧Kd.R (Kd.int .i64) 2 w' w.heap.size (fun _=>True) ac r2∧Below w.heap.size w w':=by
 unfold zbe.f at h
 split at h
 ·rename_i hl
  obtain⟨h1,h2,h3,h4,h5,h6,h7,h8⟩:=hl
  cases a2 with
  |true=>
   simp only[if_true,Option.some.injEq,Prod.mk.injEq]at h
   obtain⟨rfl,rfl,rfl,rfl⟩:=h
   exact zfQ r D l0_0 G I l0_1 a0_2 a0_3 J L l1_0 M U l1_1 a1_2 a1_3 w X hc0_0 Y hc0_1 Z hc1_0 aa hc1_1 h1 h2 h3 h4 h5 h6 (zcb h7) (zcb h8)
  |false=>
   simp only[Bool.false_eq_true,if_false,Option.some.injEq,Prod.mk.injEq]at h
   obtain⟨rfl,rfl,rfl,rfl⟩:=h
   exact zfR r D l0_0 G I l0_1 a0_2 a0_3 J L l1_0 M U l1_1 a1_2 a1_3 w X hc0_0 Y hc0_1 Z hc1_0 aa hc1_1 h1 h2 h3 h4 h5 h6 (zcb h7) (zcb h8)
 ·cases h
end Go.Proofs.Ytjknpmibdkoklaa.Q
