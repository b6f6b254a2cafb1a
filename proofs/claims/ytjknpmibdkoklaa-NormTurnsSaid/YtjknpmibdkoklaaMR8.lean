/- Functions of the given program as Lean functions, each with its contract, and what they answer; words for it. No condition but those of each. -/
import Derived.Test.YtjknpmibdkoklaaMRS
import Derived.Test.YtjknpmibdkoklaaMRR
import Derived.Test.YtjknpmibdkoklaaMR7
import Derived.Test.YtjknpmibdkoklaaMR4
import Derived.LoopTactic
import Derived.Shelf.Abstract
import Derived.Test.YtjknpmibdkoklaaMR5
import Derived.Test.YtjknpmibdkoklaaMR2
import Derived.Test.YtjknpmibdkoklaaMR3
set_option linter.unusedVariables false
set_option linter.unusedSimpArgs false
set_option maxRecDepth 100000
namespace Go.Proofs.Ytjknpmibdkoklaa.Q
open Go.RowKit Go.Proofs.YtjknpmibdkoklaaW.PrintWords Go.Proofs.YtjknpmibdkoklaaW.PrintLast Go.Proofs.YtjknpmibdkoklaaW.PrintMore
open Aside0 (mk)
def addP (a b : Int) : Int × Int := (chk_Add.f a b).getD (0, 0)
def subP (a b : Int) : Int × Int := (chk_Sub.f a b).getD (0, 0)
theorem add_at (a b : Int) : chk_Add.f a b = some ((addP a b).1, (addP a b).2) := by
  have h : ∃ p, chk_Add.f a b = some p := by
    unfold chk_Add.f
    (repeat' split) <;> exact ⟨_, rfl⟩
  obtain ⟨p, hp⟩ := h
  unfold addP
  rw [hp]
  rfl
theorem sub_at (a b : Int) : chk_Sub.f a b = some ((subP a b).1, (subP a b).2) := by
  have h : ∃ p, chk_Sub.f a b = some p := by
    unfold chk_Sub.f
    (repeat' split) <;> exact ⟨_, rfl⟩
  obtain ⟨p, hp⟩ := h
  unfold subP
  rw [hp]
  rfl
def errB (op : Int → Int → Int × Int) (l0 : List ByteArray) (l1 : List Int) (m0 : List ByteArray) (m1 : List Int) (er : Int) : List ByteArray → Int
  | [] => er
  | s :: l => errB op l0 l1 m0 m1 (coeffE er (op (ofS l0 l1 s) (ofS m0 m1 s)).2) l
theorem errB_take (op : Int → Int → Int × Int) (l0 : List ByteArray) (l1 : List Int) (m0 : List ByteArray) (m1 : List Int) (l : List ByteArray) (er : Int) (i : Nat) (h : i < l.length) : errB op l0 l1 m0 m1 er (l.take (i + 1)) = coeffE (errB op l0 l1 m0 m1 er (l.take i)) (op (ofS l0 l1 l[i]) (ofS m0 m1 l[i])).2 := by
  induction l generalizing er i with
  | nil => exact absurd h (Nat.not_lt_zero _)
  | cons c l ih =>
    cases i with
    | zero => rfl
    | succ i => exact ih _ i (by simpa using h)
def bothL (op : Int → Int → Int × Int) (l0 : List ByteArray) (l1 : List Int) (m0 : List ByteArray) (m1 : List Int) (l : List ByteArray) : List Int := l.map fun s => (op (ofS l0 l1 s) (ofS m0 m1 s)).1
theorem bothL_take (op : Int → Int → Int × Int) (l0 : List ByteArray) (l1 : List Int) (m0 : List ByteArray) (m1 : List Int) (l : List ByteArray) (i : Nat) (h : i < l.length) : bothL op l0 l1 m0 m1 (l.take (i + 1)) = bothL op l0 l1 m0 m1 (l.take i) ++ [(op (ofS l0 l1 l[i]) (ofS m0 m1 l[i])).1] := by
  unfold bothL
  rw [List.take_succ_eq_append_getElem h, List.map_append]
  rfl
theorem unionA_len (a b : List ByteArray) : (unionA a b).1.length ≤ a.length + b.length := by
  unfold unionA
  split
  · split
    · have := canon_length (a ++ b); rw [List.length_append] at this; exact this
    · exact Nat.zero_le _
  · exact Nat.zero_le _
set_option maxHeartbeats 16000000 in
theorem bothSub_core (A0 : Option Addr) (c0 : Nat) (l0 : List ByteArray) (A1 : Option Addr) (c1 : Nat) (l1 : List Int) (ka ea : Int) (B0 : Option Addr) (d0 : Nat) (m0 : List ByteArray) (B1 : Option Addr) (d1 : Nat) (m1 : List Int) (kb eb : Int) (w : World)
    (hr0 : Kd.C Kd.string w A0 l0.length l0) (hc0 : l0.length ≤ c0) (hr1 : Kd.C (Kd.int .i64) w A1 l1.length l1) (hc1 : l1.length ≤ c1) (hs0 : Kd.C Kd.string w B0 m0.length m0) (hd0 : m0.length ≤ d0) (hs1 : Kd.C (Kd.int .i64) w B1 m1.length m1) (hd1 : m1.length ≤ d1)
    (hla : l0.length ≤ 100000) (hlb : m0.length ≤ 100000) (hle : l0.length ≤ l1.length) (hlf : m0.length ≤ m1.length) (he : ea = 0) (hf : eb = 0) :
    Calls Try.prog 82 #[.agg #[.slice A0 l0.length c0, .slice A1 l1.length c1, .int .i64 ka, .int .i64 ea], .agg #[.slice B0 m0.length d0, .slice B1 m1.length d1, .int .i64 kb, .int .i64 eb], .func (.func 83) #[] #[]] w fun e w' => ∃ v0 v1 : Value, e = .returned (.agg #[v0, v1, .int .i64 (subP ka kb).1, .int .i64 (coeffE (errB subP l0 l1 m0 m1 0 (unionA l0 m0).1) (subP ka kb).2)]) ∧ Kd.R Kd.string 9 w' w.heap.size (fun _ => True) v0 (unionA l0 m0).1 ∧ Kd.R (Kd.int .i64) 2 w' w.heap.size (fun _ => True) v1 (bothL subP l0 l1 m0 m1 (unionA l0 m0).1) ∧ Below w.heap.size w w' := by
  have hu107 := Try.underlying107
  subst he hf
  obtain ⟨ku, hku⟩ := (union_ev l0 m0 kq1 kq1).rounds
  have hul := unionA_len l0 m0
  have HKU := mk hku
  have HUL := mk (show (unionA l0 m0).1.length ≤ 200000 by omega)
  have HOA := mk (fun s => of_at l0 l1 ka 0 s kq1 hle)
  have HOB := mk (fun s => of_at m0 m1 kb 0 s kq1 hlf)
  have HR0 := mk hr0
  have HC0 := mk hc0
  have HR1 := mk hr1
  have HC1 := mk hc1
  have HS0 := mk hs0
  have HD0 := mk hd0
  have HS1 := mk hs1
  have HD1 := mk hd1
  clear hr0 hc0 hr1 hc1 hs0 hd0 hs1 hd1 hku hul hla hlb hle hlf
  generalize hus : unionA l0 m0 = U at HKU HUL
  obtain ⟨us, ue⟩ := U
  clear hus
  dsimp only at HKU HUL ⊢
  have HB := mk (Below.refl w.heap.size w)
  go_enter Try.func82, Try.ntmps82
  go_wp2_with (first | ((with_reducible refine gate_dst (N := 3) rfl ?_); refine box_event ?hg (N := 3) ?hd (cs := #[.slice A0 l0.length c0, .slice A1 l1.length c1, .int .i64 ka, .int .i64 0]) (t := 107) ?hr ?_; (case hd => rfl); (case hg => rfl); (case hr => exact kq11); intro g3 hg w3 hbox hb; have BKg3 := mk hbox; have GEg3 := mk (kq21 : w.heap.size ≤ g3); replace HB := mk (below_step kq22 hb); clear hb hbox hg; obtain ⟨_, _, _, _, _, _, _, _⟩ := cz4_ BKg3.out) | ((with_reducible refine gate_dst (N := 4) rfl ?_); refine box_event ?hg (N := 4) ?hd (cs := #[.slice B0 m0.length d0, .slice B1 m1.length d1, .int .i64 kb, .int .i64 0]) (t := 107) ?hr ?_; (case hd => rfl); (case hg => rfl); (case hr => exact kq11); intro g4 hg w4 hbox hb; have BKg4 := mk hbox; have GEg4 := mk (kq21 : w.heap.size ≤ g4); have NBg3g4 := mk ((kq23 BKg3) : g3 ≠ g4); have NBg4g3 := mk ((kq25 BKg3) : g4 ≠ g3); replace BKg3 := (bc_ BKg3 hb (kq24 BKg3)); replace HB := mk (below_step kq22 hb); clear hb hbox hg; have ne_g3g4 := NBg3g4.out; have ne_g4g3 := NBg4g3.out; obtain ⟨_, _, _, _, _, _, _, _⟩ := cz4_ BKg3.out; obtain ⟨_, _, _, _, _, _, _, _⟩ := cz4_ BKg4.out) | ((with_reducible refine gate_dst (N := 6) rfl ?_); refine box_event ?hg (N := 6) ?hd (cs := #[.slice none 0 0, .slice none 0 0, .int .i64 0, .int .i64 0]) (t := 107) ?hr ?_; (case hd => rfl); (case hg => rfl); (case hr => exact kq11); intro g6 hg w6 hbox hb; have BKg6 := mk hbox; have GEg6 := mk (kq21 : w.heap.size ≤ g6); have NBg3g6 := mk ((kq26 BKg3 NBg3g4) : g3 ≠ g6); have NBg6g3 := mk ((kq28 BKg3 NBg3g4) : g6 ≠ g3); have NBg4g6 := mk ((kq26 BKg4 NBg4g3) : g4 ≠ g6); have NBg6g4 := mk ((kq28 BKg4 NBg4g3) : g6 ≠ g4); replace BKg3 := (bc_ BKg3 hb (kq27 BKg3 NBg3g4)); replace BKg4 := (bc_ BKg4 hb (kq27 BKg4 NBg4g3)); replace HB := mk (below_step kq22 hb); clear hb hbox hg; have ne_g3g6 := NBg3g6.out; have ne_g6g3 := NBg6g3.out; have ne_g4g6 := NBg4g6.out; have ne_g6g4 := NBg6g4.out; obtain ⟨_, _, _, _, _, _, _, _⟩ := cz4_ BKg3.out; obtain ⟨_, _, _, _, _, _, _, _⟩ := cz4_ BKg4.out; obtain ⟨_, _, _, _, _, _, _, _⟩ := cz4_ BKg6.out) | ((with_reducible refine gate_dst (N := 7) rfl ?_); refine box_event ?hg (N := 7) ?hd (cs := #[.slice none 0 0, .slice none 0 0, .int .i64 0, .int .i64 0]) (t := 107) ?hr ?_; (case hd => rfl); (case hg => rfl); (case hr => exact kq11); intro g7 hg w7 hbox hb; have BKg7 := mk hbox; have GEg7 := mk (kq21 : w.heap.size ≤ g7); have NBg3g7 := mk ((kq29 BKg3 NBg3g4 NBg3g6) : g3 ≠ g7); have NBg7g3 := mk ((kq31 BKg3 NBg3g4 NBg3g6) : g7 ≠ g3); have NBg4g7 := mk ((kq29 BKg4 NBg4g3 NBg4g6) : g4 ≠ g7); have NBg7g4 := mk ((kq31 BKg4 NBg4g3 NBg4g6) : g7 ≠ g4); have NBg6g7 := mk ((kq29 BKg6 NBg6g3 NBg6g4) : g6 ≠ g7); have NBg7g6 := mk ((kq31 BKg6 NBg6g3 NBg6g4) : g7 ≠ g6); replace BKg3 := (bc_ BKg3 hb (kq30 BKg3 NBg3g4 NBg3g6)); replace BKg4 := (bc_ BKg4 hb (kq30 BKg4 NBg4g3 NBg4g6)); replace BKg6 := (bc_ BKg6 hb (kq30 BKg6 NBg6g3 NBg6g4)); replace HB := mk (below_step kq22 hb); clear hb hbox hg; have ne_g3g7 := NBg3g7.out; have ne_g7g3 := NBg7g3.out; have ne_g4g7 := NBg4g7.out; have ne_g7g4 := NBg7g4.out; have ne_g6g7 := NBg6g7.out; have ne_g7g6 := NBg7g6.out; obtain ⟨_, _, _, _, _, _, _, _⟩ := cz4_ BKg3.out; obtain ⟨_, _, _, _, _, _, _, _⟩ := cz4_ BKg4.out; obtain ⟨_, _, _, _, _, _, _, _⟩ := cz4_ BKg6.out; obtain ⟨_, _, _, _, _, _, _, _⟩ := cz4_ BKg7.out) | ((go_at_call 21; (with_reducible refine (glyph_Union.calls ku A0 c0 l0 B0 d0 m0 us ue _ ?s1 HC0.out ?s3 HD0.out HKU.out).mono ?_); (case s1 => exact kq36 HR0 GEg7); (case s3 => exact kq36 HS0 GEg7); rintro e w8 ⟨vn, rfl, hn, hb⟩; obtain ⟨An, cn, evn⟩ := Kd.R_slice hn; subst evn; have HN := mk (Kd.R_lower hn (below_size (kq32 GEg7))); replace BKg3 := (bc_ BKg3 hb (kq27 BKg3 NBg3g7)); replace BKg4 := (bc_ BKg4 hb (kq27 BKg4 NBg4g7)); replace BKg6 := (bc_ BKg6 hb (kq27 BKg6 NBg6g7)); replace BKg7 := mk (blk_below (blk_put (blk_put (blk_put (blk_put BKg7.out 0 _ rfl) 1 _ rfl) 2 _ rfl) 3 _ rfl) hb); replace HB := mk (below_step (kq32 GEg7) hb); clear hn hb; obtain ⟨_, _, _, _, _, _, _, _⟩ := cz4_ BKg3.out; obtain ⟨_, _, _, _, _, _, _, _⟩ := cz4_ BKg4.out; obtain ⟨_, _, _, _, _, _, _, _⟩ := cz4_ BKg7.out)))
  go_loopg [33] us.length (fun gq v33 wr => ∃ (i : Nat) (vc : Value), v33 = .int .i64 i ∧ Aside0 (i ≤ us.length) ∧ Aside0 (us.length - i ≤ gq) ∧ Aside0 (wr.heap[g7]? = some (.cells #[.slice An us.length cn, vc, .int .i64 0, .int .i64 (errB subP l0 l1 m0 m1 0 (us.take i))] 107 (0, 0))) ∧ Aside0 (Kd.R Kd.string 9 wr w.heap.size (fun _ => True) (.slice An us.length cn) us) ∧ Aside0 (Kd.R (Kd.int .i64) 2 wr w.heap.size (fun _ => True) vc (bothL subP l0 l1 m0 m1 (us.take i))) ∧ Aside0 (wr.heap[g3]? = some (.cells #[.slice A0 l0.length c0, .slice A1 l1.length c1, .int .i64 ka, .int .i64 0] 107 (0, 0))) ∧ Aside0 (wr.heap[g4]? = some (.cells #[.slice B0 m0.length d0, .slice B1 m1.length d1, .int .i64 kb, .int .i64 0] 107 (0, 0))) ∧ Aside0 (wr.heap[g6]? = some (.cells #[.slice none 0 0, .slice none 0 0, .int .i64 0, .int .i64 0] 107 (0, 0))) ∧ Aside0 (Below w.heap.size w wr))
  case atStart => exact ⟨0, .slice none 0 0, rfl, ⟨Nat.zero_le _⟩, ⟨kq1⟩, ⟨blk_put BKg7.out 0 _ rfl⟩, ⟨Kd.R_set HN.out BKg7.out kq2 0 _⟩, ⟨by rw [List.take_zero]; exact Kd.R_nil _ _ _ _ _⟩, ⟨blk_far BKg3.out ne_g3g7 _⟩, ⟨blk_far BKg4.out ne_g4g7 _⟩, ⟨blk_far BKg6.out ne_g6g7 _⟩, ⟨below_set HB.out GEg7.out⟩⟩
  case round =>
    clear BKg7 BKg3 BKg4 BKg6 HB HN
    obtain ⟨i, vc, rfl, HI, HQ, BKg7, HN, HRc, BKg3, BKg4, BKg6, HB⟩ := hrel
    by_cases hi : i < us.length
    · have hiz : (i : Int) < (us.length : Int) := by omega
      have hi0 : (0 : Int) ≤ (i : Int) := by omega
      obtain ⟨ad, ead, hx⟩ := Kd.at_string (Kd.R_reads' HN.out).2.2 (i : Int) hi0 hiz
      cases ead
      rw [Int.toNat_natCast, rd_nat hi] at hx
      have HE := mk (errB_take subP l0 l1 m0 m1 us 0 i hi)
      have HM := mk (bothL_take subP l0 l1 m0 m1 us i hi)
      have HLT := mk (show (bothL subP l0 l1 m0 m1 (us.take i)).length ≤ 200000 by have := HUL.out; unfold bothL; rw [List.length_map, List.length_take]; omega)
      generalize us[i] = s at hx HE HM
      obtain ⟨kx, hkx⟩ := HOA.out s
      obtain ⟨ky, hky⟩ := HOB.out s
      have HX := mk hkx
      have HY := mk hky
      clear hkx hky
      generalize hxa : ofS l0 l1 s = x at HX HE HM
      generalize hxb : ofS m0 m1 s = y at HY HE HM
      clear hxa hxb
      go_wp2
      refine start_ (n := 17) (S := fun w' => w'.cell? ⟨g3, 0, none⟩ = some (.slice A0 l0.length c0) ∧ w'.cell? ⟨g3, 1, none⟩ = some (.slice A1 l1.length c1) ∧ w'.cell? ⟨g3, 2, none⟩ = some (.int .i64 ka) ∧ w'.cell? ⟨g3, 3, none⟩ = some (.int .i64 0) ∧ w'.cell? ⟨g4, 0, none⟩ = some (.slice B0 m0.length d0) ∧ w'.cell? ⟨g4, 1, none⟩ = some (.slice B1 m1.length d1) ∧ w'.cell? ⟨g4, 2, none⟩ = some (.int .i64 kb) ∧ w'.cell? ⟨g4, 3, none⟩ = some (.int .i64 0) ∧ w'.cell? ⟨g7, 1, none⟩ = some vc) (ds := [16]) #[false,false,false,false,false,false,false,false,false,false,false,false,false,false,false,false,false] kq0 rfl rfl ⟨bk_ BKg3 0, bk_ BKg3 1, bk_ BKg3 2, bk_ BKg3 3, bk_ BKg4 0, bk_ BKg4 1, bk_ BKg4 2, bk_ BKg4 3, bk_ BKg7 1⟩ (fun hHeld => ?_)
      replace BKg3 : Aside0 (wr.drew.heap[g3]? = some (.cells #[.slice A0 l0.length c0, .slice A1 l1.length c1, .int .i64 ka, .int .i64 0] 107 (0, 0))) := ⟨BKg3.out⟩
      replace BKg4 : Aside0 (wr.drew.heap[g4]? = some (.cells #[.slice B0 m0.length d0, .slice B1 m1.length d1, .int .i64 kb, .int .i64 0] 107 (0, 0))) := ⟨BKg4.out⟩
      replace BKg6 : Aside0 (wr.drew.heap[g6]? = some (.cells #[.slice none 0 0, .slice none 0 0, .int .i64 0, .int .i64 0] 107 (0, 0))) := ⟨BKg6.out⟩
      replace BKg7 : Aside0 (wr.drew.heap[g7]? = some (.cells #[.slice (some ad) us.length cn, vc, .int .i64 0, .int .i64 (errB subP l0 l1 m0 m1 0 (us.take i))] 107 (0, 0))) := ⟨BKg7.out⟩
      replace HN : Aside0 (Kd.R Kd.string 9 wr.drew w.heap.size (fun _ => True) (.slice (some ad) us.length cn) us) := ⟨HN.out⟩
      replace HRc : Aside0 (Kd.R (Kd.int .i64) 2 wr.drew w.heap.size (fun _ => True) vc (bothL subP l0 l1 m0 m1 (us.take i))) := ⟨HRc.out⟩
      replace HB : Aside0 (Below w.heap.size w wr.drew) := ⟨below_drew1 HB.out⟩
      generalize wr.drew = w9 at BKg3 BKg4 BKg6 BKg7 HN HRc HB hHeld ⊢
      refine pu_ 0 37 ?_
      refine pu_ 2 39 ?_
      refine pu_ 4 41 ?_
      refine pu_ 7 44 ?_
      refine ta_ 1 38 hHeld ?_
      refine ta_ 3 40 hHeld ?_
      refine ta_ 6 43 hHeld ?_
      refine on_ 5 42 (fun K hK => ?_)
      refine goes_ Try.func123 kq0 rfl #[.agg #[.slice A0 l0.length c0, .slice A1 l1.length c1, .int .i64 ka, .int .i64 0], .string s] (by rfl) rfl rfl kq33 ?_
      refine (norm_sum_of.calls kx A0 c0 l0 A1 c1 l1 ka 0 s x _ (Kd.C_below HR0.out HB.out) HC0.out (Kd.C_below HR1.out HB.out) HC1.out HX.out).mono ?_
      rintro e w10 ⟨rfl, hb⟩
      refine ⟨_, rfl, ?_⟩
      have m0_ := mk (blk_below BKg3.out hb)
      have m1_ := mk (blk_below BKg4.out hb)
      have m2_ := mk (blk_below BKg6.out hb)
      have m3_ := mk (blk_below BKg7.out hb)
      have m4_ := mk (Kd.R_below HN.out hb)
      have m5_ := mk (Kd.R_below HRc.out hb)
      have m6_ := mk (below_step HB.out hb)
      clear BKg3 BKg4 BKg6 BKg7 HN HRc HB
      have BKg3 := m0_
      have BKg4 := m1_
      have BKg6 := m2_
      have BKg7 := m3_
      have HN := m4_
      have HRc := m5_
      have HB := m6_
      clear m0_ m1_ m2_ m3_ m4_ m5_ m6_
      clear hb
      refine hK.out _ _ ⟨bk_ BKg3 0, bk_ BKg3 1, bk_ BKg3 2, bk_ BKg3 3, bk_ BKg4 0, bk_ BKg4 1, bk_ BKg4 2, bk_ BKg4 3, bk_ BKg7 1⟩ (fun hHeld => ?_)
      clear hK K
      refine norm_ (a' := ?_) ?_ ?_
      rotate_left
      · show Act.put _ (some 42) _ = _
        simp only [Act.put, List.setIfInBounds_toArray, List.set_cons_zero, List.set_cons_succ]
        rfl
      refine on_ 8 45 (fun K hK => ?_)
      refine goes_ Try.func123 kq0 rfl #[.agg #[.slice B0 m0.length d0, .slice B1 m1.length d1, .int .i64 kb, .int .i64 0], .string s] (by rfl) rfl rfl kq33 ?_
      refine (norm_sum_of.calls ky B0 d0 m0 B1 d1 m1 kb 0 s y _ (Kd.C_below HS0.out HB.out) HD0.out (Kd.C_below HS1.out HB.out) HD1.out HY.out).mono ?_
      rintro e w11 ⟨rfl, hb⟩
      refine ⟨_, rfl, ?_⟩
      have m0_ := mk (blk_below BKg3.out hb)
      have m1_ := mk (blk_below BKg4.out hb)
      have m2_ := mk (blk_below BKg6.out hb)
      have m3_ := mk (blk_below BKg7.out hb)
      have m4_ := mk (Kd.R_below HN.out hb)
      have m5_ := mk (Kd.R_below HRc.out hb)
      have m6_ := mk (below_step HB.out hb)
      clear BKg3 BKg4 BKg6 BKg7 HN HRc HB
      have BKg3 := m0_
      have BKg4 := m1_
      have BKg6 := m2_
      have BKg7 := m3_
      have HN := m4_
      have HRc := m5_
      have HB := m6_
      clear m0_ m1_ m2_ m3_ m4_ m5_ m6_
      clear hb
      refine hK.out _ _ ⟨bk_ BKg3 0, bk_ BKg3 1, bk_ BKg3 2, bk_ BKg3 3, bk_ BKg4 0, bk_ BKg4 1, bk_ BKg4 2, bk_ BKg4 3, bk_ BKg7 1⟩ (fun hHeld => ?_)
      clear hK K
      refine norm_ (a' := ?_) ?_ ?_
      rotate_left
      · show Act.put _ (some 45) _ = _
        simp only [Act.put, List.setIfInBounds_toArray, List.set_cons_zero, List.set_cons_succ]
        rfl
      refine on_ 9 46 (fun K hK => ?_)
      refine call_ 83 #[.int .i64 x, .int .i64 y] (by rfl) rfl (by have he := enters_ Try.func83 kq0 rfl #[.int .i64 x, .int .i64 y] w11; unfold execOp; simp [resolve, Deferred.ofValue, invoke, Act.eval, he]) ?_
      refine (chk_Sub.calls x y _ _ _ (sub_at x y)).mono ?_
      rintro e w12 ⟨rfl, hd⟩
      have hb := hd.below
      clear hd
      refine ⟨_, rfl, ?_⟩
      have m0_ := mk (blk_below BKg3.out hb)
      have m1_ := mk (blk_below BKg4.out hb)
      have m2_ := mk (blk_below BKg6.out hb)
      have m3_ := mk (blk_below BKg7.out hb)
      have m4_ := mk (Kd.R_below HN.out hb)
      have m5_ := mk (Kd.R_below HRc.out hb)
      have m6_ := mk (below_step HB.out hb)
      clear BKg3 BKg4 BKg6 BKg7 HN HRc HB
      have BKg3 := m0_
      have BKg4 := m1_
      have BKg6 := m2_
      have BKg7 := m3_
      have HN := m4_
      have HRc := m5_
      have HB := m6_
      clear m0_ m1_ m2_ m3_ m4_ m5_ m6_
      clear hb
      refine hK.out _ _ ⟨bk_ BKg3 0, bk_ BKg3 1, bk_ BKg3 2, bk_ BKg3 3, bk_ BKg4 0, bk_ BKg4 1, bk_ BKg4 2, bk_ BKg4 3, bk_ BKg7 1⟩ (fun hHeld => ?_)
      clear hK K
      refine norm_ (a' := ?_) ?_ ?_
      rotate_left
      · show Act.put _ (some 46) _ = _
        simp only [Act.put, List.setIfInBounds_toArray, List.set_cons_zero, List.set_cons_succ]
        rfl
      refine pu_ 10 47 ?_
      refine pu_ 11 48 ?_
      refine on_ 12 49 (fun K hK => ?_)
      refine goes_ Try.func84 kq0 rfl #[.pointer (some ⟨g7, 0, none⟩), .int .i64 (subP x y).1, .int .i64 (subP x y).2] (by rfl) rfl rfl kq33 ?_
      refine (coeff_calls g7 (.slice (some ad) us.length cn) vc 0 (errB subP l0 l1 m0 m1 0 (us.take i)) (subP x y).1 (subP x y).2 w _ GEg7.out HB.out BKg7.out).mono ?_
      rintro e w13 ⟨rfl, hg, hk, hb⟩
      refine ⟨_, rfl, ?_⟩
      have m0_ := mk (hk.blk BKg3.out ne_g3g7 (by simp))
      have m1_ := mk (hk.blk BKg4.out ne_g4g7 (by simp))
      have m2_ := mk (hk.blk BKg6.out ne_g6g7 (by simp))
      have m3_ := mk (Kd.R_mono (Kd.R_keep (Kd.R_types HN.out BKg7.out kq2) hk (fun _ h => h.2)) (fun _ h => h.1))
      have m4_ := mk (Kd.R_mono (Kd.R_keep (Kd.R_types HRc.out BKg7.out kq2) hk (fun _ h => h.2)) (fun _ h => h.1))
      have m5_ := mk (hg)
      have m6_ := mk (hb)
      clear BKg3 BKg4 BKg6 HN HRc BKg7 HB
      have BKg3 := m0_
      have BKg4 := m1_
      have BKg6 := m2_
      have HN := m3_
      have HRc := m4_
      have BKg7 := m5_
      have HB := m6_
      clear m0_ m1_ m2_ m3_ m4_ m5_ m6_
      clear hg hk hb
      refine hK.out _ _ ⟨bk_ BKg3 0, bk_ BKg3 1, bk_ BKg3 2, bk_ BKg3 3, bk_ BKg4 0, bk_ BKg4 1, bk_ BKg4 2, bk_ BKg4 3, bk_ BKg7 1⟩ (fun hHeld => ?_)
      clear hK K
      refine norm_ (a' := ?_) ?_ ?_
      rotate_left
      · show Act.put _ (some 49) _ = _
        simp only [Act.put, List.setIfInBounds_toArray, List.set_cons_zero, List.set_cons_succ]
        rfl
      refine on_ 13 50 (fun K hK => ?_)
      refine value_ (v := .slice (some ⟨w13.heap.size, 0, none⟩) 1 1) (w1 := w13.alloc (.cells #[.int .i64 (subP x y).1] 2)) (by rfl) rfl ?_ ?_
      · go_simp
        all_goals first | done | rfl | exact ⟨rfl, rfl⟩
      refine hK.out _ _ ⟨(blk_cell (blk_alloc BKg3.out _) 0).trans rfl, (blk_cell (blk_alloc BKg3.out _) 1).trans rfl, (blk_cell (blk_alloc BKg3.out _) 2).trans rfl, (blk_cell (blk_alloc BKg3.out _) 3).trans rfl, (blk_cell (blk_alloc BKg4.out _) 0).trans rfl, (blk_cell (blk_alloc BKg4.out _) 1).trans rfl, (blk_cell (blk_alloc BKg4.out _) 2).trans rfl, (blk_cell (blk_alloc BKg4.out _) 3).trans rfl, (blk_cell (blk_alloc BKg7.out _) 1).trans rfl⟩ (fun hHeld => ?_)
      clear hK K
      refine norm_ (a' := ?_) ?_ ?_
      rotate_left
      · show Act.put _ (some 50) _ = _
        simp only [Act.put, List.setIfInBounds_toArray, List.set_cons_zero, List.set_cons_succ]
        rfl
      refine on_ 14 51 (fun K hK => ?_)
      refine Kd.R_append_step (Kd.int .i64) (w0 := w) w.heap.size (by rfl) (.tmp 38) (.tmp 50) 55 2 (.int .i64 0) 8 (by rfl) Try.underlying55 info2 rfl kq2 kq2 vc (bothL subP l0 l1 m0 m1 (us.take i)) (subP x y).1 [.int .i64 (subP x y).1] (fun _ => True) (fun _ => False) (by rfl) (by rfl) rfl (fun _ hk => hk.elim) (fun _ _ => trivial) HRc.out HB.out (below_size HB.out) (by have := HLT.out; omega) ?_
      intro v8 w14 hr8 hb8 hg8 hat8
      obtain ⟨A8, c8, ev8⟩ := Kd.R_slice hr8
      subst ev8
      have m0_ := mk (blk_grown BKg3.out hg8 (Kd.R_ne HRc.out BKg3.out kq2))
      have m1_ := mk (blk_grown BKg4.out hg8 (Kd.R_ne HRc.out BKg4.out kq2))
      have m2_ := mk (blk_grown BKg6.out hg8 (Kd.R_ne HRc.out BKg6.out kq2))
      have m3_ := mk (blk_grown BKg7.out hg8 (Kd.R_ne HRc.out BKg7.out kq2))
      have m4_ := mk (Kd.R_over HN.out HRc.out kq2 hg8)
      have m5_ := mk (hr8)
      have m6_ := mk (hb8)
      clear BKg3 BKg4 BKg6 BKg7 HN HRc HB
      have BKg3 := m0_
      have BKg4 := m1_
      have BKg6 := m2_
      have BKg7 := m3_
      have HN := m4_
      have HRc := m5_
      have HB := m6_
      clear m0_ m1_ m2_ m3_ m4_ m5_ m6_
      clear hr8 hb8 hg8 hat8
      refine hK.out _ _ ⟨bk_ BKg3 0, bk_ BKg3 1, bk_ BKg3 2, bk_ BKg3 3, bk_ BKg4 0, bk_ BKg4 1, bk_ BKg4 2, bk_ BKg4 3, bk_ BKg7 1⟩ (fun hHeld => ?_)
      clear hK K
      refine norm_ (a' := ?_) ?_ ?_
      rotate_left
      · show Act.put _ (some 51) _ = _
        simp only [Act.put, List.setIfInBounds_toArray, List.set_cons_zero, List.set_cons_succ]
        rfl
      refine pu_ 15 52 ?_
      have c7_ : w14.cell? ⟨g7, 1, none⟩ = some vc := bk_ BKg7 1
      have f7_ := blk_frozen BKg7.out 1
      refine last_ (i := 16) (N := none) #[true,true,true,true,true,true,true,true,true,true,true,true,true,true,true,true,true] rfl rfl kq0 kq2 (fun K hK => ?_)
      refine skip_ (w1 := ?_) (by rfl) rfl ?_ ?_
      rotate_left
      · go_simp
        rfl
      refine hK.out _ _ ?_
      clear hK K
      refine done_ kq0 ?_
      try go_wp2
      go_roundg (us.length - (i + 1))
      case measure => have := HQ.out; omega
      case rel =>
        have hr9 := HRc.out
        rw [List.length_append, List.length_singleton, ← HM.out] at hr9
        exact ⟨i + 1, .slice A8 ((bothL subP l0 l1 m0 m1 (us.take i)).length + 1) c8, by first | rfl | rw [show wrap64 ((i : Int) + 1) = ((i + 1 : Nat) : Int) from by have := HUL.out; unfold wrap64; omega], ⟨kq1⟩, ⟨kq1⟩, ⟨by rw [HE.out]; exact blk_put BKg7.out 1 _ rfl⟩, ⟨Kd.R_set HN.out BKg7.out kq2 1 _⟩, ⟨Kd.R_set hr9 BKg7.out kq2 1 _⟩, ⟨blk_far BKg3.out ne_g3g7 _⟩, ⟨blk_far BKg4.out ne_g4g7 _⟩, ⟨blk_far BKg6.out ne_g6g7 _⟩, ⟨below_set HB.out GEg7.out⟩⟩
    · have hiz : ¬ (i : Int) < (us.length : Int) := by omega
      have hil : i = us.length := by have := HI.out; omega
      have HX := mk (show errB subP l0 l1 m0 m1 0 (us.take i) = errB subP l0 l1 m0 m1 0 us by rw [hil, List.take_length])
      have HY := mk (show bothL subP l0 l1 m0 m1 (us.take i) = bothL subP l0 l1 m0 m1 us by rw [hil, List.take_length])
      clear hil hi
      obtain ⟨Av, cv, ev⟩ := Kd.R_slice HRc.out
      subst ev
      obtain ⟨_, _, _, _, _, _, _, _⟩ := cz4_ BKg3.out
      obtain ⟨_, _, _, _, _, _, _, _⟩ := cz4_ BKg4.out
      obtain ⟨_, _, _, _, _, _, _, _⟩ := cz4_ BKg6.out
      obtain ⟨_, _, _, _, _, _, _, _⟩ := cz4_ BKg7.out
      go_wp2_with (first | ((go_at_call 83; (with_reducible refine (chk_Sub.calls ka kb _ _ _ (sub_at ka kb)).mono ?_); rintro e w15 ⟨rfl, hd⟩; have hb := hd.below; clear hd; replace BKg3 := (bc_ BKg3 hb (kq24 BKg3)); replace BKg4 := (bc_ BKg4 hb (kq24 BKg4)); replace BKg6 := (bc_ BKg6 hb (kq24 BKg6)); replace BKg7 := (bc_ BKg7 hb (kq24 BKg7)); replace HN := mk (Kd.R_below kq34 hb); replace HRc := mk (Kd.R_below (kq35 HRc) hb); replace HB := mk (below_step kq22 hb); clear hb; obtain ⟨_, _, _, _, _, _, _, _⟩ := cz4_ BKg6.out; obtain ⟨_, _, _, _, _, _, _, _⟩ := cz4_ BKg7.out)) | ((go_at_call 84; (with_reducible refine (coeff_calls g7 (.slice An us.length cn) (.slice Av (bothL subP l0 l1 m0 m1 (us.take i)).length cv) 0 (errB subP l0 l1 m0 m1 0 (us.take i)) (subP ka kb).1 (subP ka kb).2 w _ GEg7.out ?s1 ?s2).mono ?_); (case s1 => exact kq37); (case s2 => exact kq38 BKg7); rintro e w16 ⟨rfl, hg, hk, hb⟩; replace BKg6 := mk (hk.blk (kq24 BKg6) ne_g6g7 (by simp)); replace HN := mk (Kd.R_mono (Kd.R_keep (Kd.R_types kq34 (kq24 BKg7) kq2) hk (fun _ h => h.2)) (fun _ h => h.1)); replace HRc := mk (Kd.R_mono (Kd.R_keep (Kd.R_types (kq35 HRc) (kq24 BKg7) kq2) hk (fun _ h => h.2)) (fun _ h => h.1)); replace BKg7 := mk (hg); replace HB := mk (hb); clear hg hk hb; obtain ⟨_, _, _, _, _, _, _, _⟩ := cz4_ BKg6.out; obtain ⟨_, _, _, _, _, _, _, _⟩ := cz4_ BKg7.out)))
      refine bodyPost_ret (results_cell_row rfl _ _ g6 107 #[.slice An us.length cn, .slice Av (bothL subP l0 l1 m0 m1 (us.take i)).length cv, .int .i64 (subP ka kb).1, .int .i64 (coeffE (errB subP l0 l1 m0 m1 0 (us.take i)) (subP ka kb).2)] (0, 0) _ rfl (blk_put (blk_put (blk_put (blk_put (blk_far BKg6.out ne_g6g7 _) 0 _ rfl) 1 _ rfl) 2 _ rfl) 3 _ rfl) Try.underlying107 rfl kq0) rfl ?_
      have p0 := Kd.R_types (Kd.R_types HN.out BKg7.out kq2) BKg6.out kq2
      have p1 := Kd.R_far (p := ⟨g7, 2, none⟩) p0 (fun _ h => h.1.2) (.int .i64 (subP ka kb).1)
      have p2 := Kd.R_far (p := ⟨g6, 0, none⟩) p1 (fun _ h => h.2) (.slice An us.length cn)
      have p3 := Kd.R_far (p := ⟨g6, 1, none⟩) p2 (fun _ h => h.2) (.slice Av (bothL subP l0 l1 m0 m1 (us.take i)).length cv)
      have p4 := Kd.R_far (p := ⟨g6, 2, none⟩) p3 (fun _ h => h.2) (.int .i64 (subP ka kb).1)
      have p5 := Kd.R_far (p := ⟨g6, 3, none⟩) p4 (fun _ h => h.2) (.int .i64 (coeffE (errB subP l0 l1 m0 m1 0 (us.take i)) (subP ka kb).2))
      have q0 := Kd.R_types (Kd.R_types HRc.out BKg7.out kq2) BKg6.out kq2
      have q1 := Kd.R_far (p := ⟨g7, 2, none⟩) q0 (fun _ h => h.1.2) (.int .i64 (subP ka kb).1)
      have q2 := Kd.R_far (p := ⟨g6, 0, none⟩) q1 (fun _ h => h.2) (.slice An us.length cn)
      have q3 := Kd.R_far (p := ⟨g6, 1, none⟩) q2 (fun _ h => h.2) (.slice Av (bothL subP l0 l1 m0 m1 (us.take i)).length cv)
      have q4 := Kd.R_far (p := ⟨g6, 2, none⟩) q3 (fun _ h => h.2) (.int .i64 (subP ka kb).1)
      have q5 := Kd.R_far (p := ⟨g6, 3, none⟩) q4 (fun _ h => h.2) (.int .i64 (coeffE (errB subP l0 l1 m0 m1 0 (us.take i)) (subP ka kb).2))
      exact ⟨.slice An us.length cn, .slice Av (bothL subP l0 l1 m0 m1 (us.take i)).length cv, by rw [← HX.out], Kd.R_mono p5 (fun _ _ => trivial), by rw [← HY.out]; exact Kd.R_mono q5 (fun _ _ => trivial), by repeat (first | exact HB.out | refine below_set ?_ GEg6.out | refine below_set ?_ GEg7.out)⟩
set_option maxHeartbeats 16000000 in
theorem bothAdd_core (A0 : Option Addr) (c0 : Nat) (l0 : List ByteArray) (A1 : Option Addr) (c1 : Nat) (l1 : List Int) (ka ea : Int) (B0 : Option Addr) (d0 : Nat) (m0 : List ByteArray) (B1 : Option Addr) (d1 : Nat) (m1 : List Int) (kb eb : Int) (w : World)
    (hr0 : Kd.C Kd.string w A0 l0.length l0) (hc0 : l0.length ≤ c0) (hr1 : Kd.C (Kd.int .i64) w A1 l1.length l1) (hc1 : l1.length ≤ c1) (hs0 : Kd.C Kd.string w B0 m0.length m0) (hd0 : m0.length ≤ d0) (hs1 : Kd.C (Kd.int .i64) w B1 m1.length m1) (hd1 : m1.length ≤ d1)
    (hla : l0.length ≤ 100000) (hlb : m0.length ≤ 100000) (hle : l0.length ≤ l1.length) (hlf : m0.length ≤ m1.length) (he : ea = 0) (hf : eb = 0) :
    Calls Try.prog 82 #[.agg #[.slice A0 l0.length c0, .slice A1 l1.length c1, .int .i64 ka, .int .i64 ea], .agg #[.slice B0 m0.length d0, .slice B1 m1.length d1, .int .i64 kb, .int .i64 eb], .func (.func 121) #[] #[]] w fun e w' => ∃ v0 v1 : Value, e = .returned (.agg #[v0, v1, .int .i64 (addP ka kb).1, .int .i64 (coeffE (errB addP l0 l1 m0 m1 0 (unionA l0 m0).1) (addP ka kb).2)]) ∧ Kd.R Kd.string 9 w' w.heap.size (fun _ => True) v0 (unionA l0 m0).1 ∧ Kd.R (Kd.int .i64) 2 w' w.heap.size (fun _ => True) v1 (bothL addP l0 l1 m0 m1 (unionA l0 m0).1) ∧ Below w.heap.size w w' := by
  have hu107 := Try.underlying107
  subst he hf
  obtain ⟨ku, hku⟩ := (union_ev l0 m0 kq1 kq1).rounds
  have hul := unionA_len l0 m0
  have HKU := mk hku
  have HUL := mk (show (unionA l0 m0).1.length ≤ 200000 by omega)
  have HOA := mk (fun s => of_at l0 l1 ka 0 s kq1 hle)
  have HOB := mk (fun s => of_at m0 m1 kb 0 s kq1 hlf)
  have HR0 := mk hr0
  have HC0 := mk hc0
  have HR1 := mk hr1
  have HC1 := mk hc1
  have HS0 := mk hs0
  have HD0 := mk hd0
  have HS1 := mk hs1
  have HD1 := mk hd1
  clear hr0 hc0 hr1 hc1 hs0 hd0 hs1 hd1 hku hul hla hlb hle hlf
  generalize hus : unionA l0 m0 = U at HKU HUL
  obtain ⟨us, ue⟩ := U
  clear hus
  dsimp only at HKU HUL ⊢
  have HB := mk (Below.refl w.heap.size w)
  go_enter Try.func82, Try.ntmps82
  go_wp2_with (first | ((with_reducible refine gate_dst (N := 3) rfl ?_); refine box_event ?hg (N := 3) ?hd (cs := #[.slice A0 l0.length c0, .slice A1 l1.length c1, .int .i64 ka, .int .i64 0]) (t := 107) ?hr ?_; (case hd => rfl); (case hg => rfl); (case hr => exact kq11); intro g3 hg w3 hbox hb; have BKg3 := mk hbox; have GEg3 := mk (kq21 : w.heap.size ≤ g3); replace HB := mk (below_step kq22 hb); clear hb hbox hg; obtain ⟨_, _, _, _, _, _, _, _⟩ := cz4_ BKg3.out) | ((with_reducible refine gate_dst (N := 4) rfl ?_); refine box_event ?hg (N := 4) ?hd (cs := #[.slice B0 m0.length d0, .slice B1 m1.length d1, .int .i64 kb, .int .i64 0]) (t := 107) ?hr ?_; (case hd => rfl); (case hg => rfl); (case hr => exact kq11); intro g4 hg w4 hbox hb; have BKg4 := mk hbox; have GEg4 := mk (kq21 : w.heap.size ≤ g4); have NBg3g4 := mk ((kq23 BKg3) : g3 ≠ g4); have NBg4g3 := mk ((kq25 BKg3) : g4 ≠ g3); replace BKg3 := (bc_ BKg3 hb (kq24 BKg3)); replace HB := mk (below_step kq22 hb); clear hb hbox hg; have ne_g3g4 := NBg3g4.out; have ne_g4g3 := NBg4g3.out; obtain ⟨_, _, _, _, _, _, _, _⟩ := cz4_ BKg3.out; obtain ⟨_, _, _, _, _, _, _, _⟩ := cz4_ BKg4.out) | ((with_reducible refine gate_dst (N := 6) rfl ?_); refine box_event ?hg (N := 6) ?hd (cs := #[.slice none 0 0, .slice none 0 0, .int .i64 0, .int .i64 0]) (t := 107) ?hr ?_; (case hd => rfl); (case hg => rfl); (case hr => exact kq11); intro g6 hg w6 hbox hb; have BKg6 := mk hbox; have GEg6 := mk (kq21 : w.heap.size ≤ g6); have NBg3g6 := mk ((kq26 BKg3 NBg3g4) : g3 ≠ g6); have NBg6g3 := mk ((kq28 BKg3 NBg3g4) : g6 ≠ g3); have NBg4g6 := mk ((kq26 BKg4 NBg4g3) : g4 ≠ g6); have NBg6g4 := mk ((kq28 BKg4 NBg4g3) : g6 ≠ g4); replace BKg3 := (bc_ BKg3 hb (kq27 BKg3 NBg3g4)); replace BKg4 := (bc_ BKg4 hb (kq27 BKg4 NBg4g3)); replace HB := mk (below_step kq22 hb); clear hb hbox hg; have ne_g3g6 := NBg3g6.out; have ne_g6g3 := NBg6g3.out; have ne_g4g6 := NBg4g6.out; have ne_g6g4 := NBg6g4.out; obtain ⟨_, _, _, _, _, _, _, _⟩ := cz4_ BKg3.out; obtain ⟨_, _, _, _, _, _, _, _⟩ := cz4_ BKg4.out; obtain ⟨_, _, _, _, _, _, _, _⟩ := cz4_ BKg6.out) | ((with_reducible refine gate_dst (N := 7) rfl ?_); refine box_event ?hg (N := 7) ?hd (cs := #[.slice none 0 0, .slice none 0 0, .int .i64 0, .int .i64 0]) (t := 107) ?hr ?_; (case hd => rfl); (case hg => rfl); (case hr => exact kq11); intro g7 hg w7 hbox hb; have BKg7 := mk hbox; have GEg7 := mk (kq21 : w.heap.size ≤ g7); have NBg3g7 := mk ((kq29 BKg3 NBg3g4 NBg3g6) : g3 ≠ g7); have NBg7g3 := mk ((kq31 BKg3 NBg3g4 NBg3g6) : g7 ≠ g3); have NBg4g7 := mk ((kq29 BKg4 NBg4g3 NBg4g6) : g4 ≠ g7); have NBg7g4 := mk ((kq31 BKg4 NBg4g3 NBg4g6) : g7 ≠ g4); have NBg6g7 := mk ((kq29 BKg6 NBg6g3 NBg6g4) : g6 ≠ g7); have NBg7g6 := mk ((kq31 BKg6 NBg6g3 NBg6g4) : g7 ≠ g6); replace BKg3 := (bc_ BKg3 hb (kq30 BKg3 NBg3g4 NBg3g6)); replace BKg4 := (bc_ BKg4 hb (kq30 BKg4 NBg4g3 NBg4g6)); replace BKg6 := (bc_ BKg6 hb (kq30 BKg6 NBg6g3 NBg6g4)); replace HB := mk (below_step kq22 hb); clear hb hbox hg; have ne_g3g7 := NBg3g7.out; have ne_g7g3 := NBg7g3.out; have ne_g4g7 := NBg4g7.out; have ne_g7g4 := NBg7g4.out; have ne_g6g7 := NBg6g7.out; have ne_g7g6 := NBg7g6.out; obtain ⟨_, _, _, _, _, _, _, _⟩ := cz4_ BKg3.out; obtain ⟨_, _, _, _, _, _, _, _⟩ := cz4_ BKg4.out; obtain ⟨_, _, _, _, _, _, _, _⟩ := cz4_ BKg6.out; obtain ⟨_, _, _, _, _, _, _, _⟩ := cz4_ BKg7.out) | ((go_at_call 21; (with_reducible refine (glyph_Union.calls ku A0 c0 l0 B0 d0 m0 us ue _ ?s1 HC0.out ?s3 HD0.out HKU.out).mono ?_); (case s1 => exact kq36 HR0 GEg7); (case s3 => exact kq36 HS0 GEg7); rintro e w8 ⟨vn, rfl, hn, hb⟩; obtain ⟨An, cn, evn⟩ := Kd.R_slice hn; subst evn; have HN := mk (Kd.R_lower hn (below_size (kq32 GEg7))); replace BKg3 := (bc_ BKg3 hb (kq27 BKg3 NBg3g7)); replace BKg4 := (bc_ BKg4 hb (kq27 BKg4 NBg4g7)); replace BKg6 := (bc_ BKg6 hb (kq27 BKg6 NBg6g7)); replace BKg7 := mk (blk_below (blk_put (blk_put (blk_put (blk_put BKg7.out 0 _ rfl) 1 _ rfl) 2 _ rfl) 3 _ rfl) hb); replace HB := mk (below_step (kq32 GEg7) hb); clear hn hb; obtain ⟨_, _, _, _, _, _, _, _⟩ := cz4_ BKg3.out; obtain ⟨_, _, _, _, _, _, _, _⟩ := cz4_ BKg4.out; obtain ⟨_, _, _, _, _, _, _, _⟩ := cz4_ BKg7.out)))
  go_loopg [33] us.length (fun gq v33 wr => ∃ (i : Nat) (vc : Value), v33 = .int .i64 i ∧ Aside0 (i ≤ us.length) ∧ Aside0 (us.length - i ≤ gq) ∧ Aside0 (wr.heap[g7]? = some (.cells #[.slice An us.length cn, vc, .int .i64 0, .int .i64 (errB addP l0 l1 m0 m1 0 (us.take i))] 107 (0, 0))) ∧ Aside0 (Kd.R Kd.string 9 wr w.heap.size (fun _ => True) (.slice An us.length cn) us) ∧ Aside0 (Kd.R (Kd.int .i64) 2 wr w.heap.size (fun _ => True) vc (bothL addP l0 l1 m0 m1 (us.take i))) ∧ Aside0 (wr.heap[g3]? = some (.cells #[.slice A0 l0.length c0, .slice A1 l1.length c1, .int .i64 ka, .int .i64 0] 107 (0, 0))) ∧ Aside0 (wr.heap[g4]? = some (.cells #[.slice B0 m0.length d0, .slice B1 m1.length d1, .int .i64 kb, .int .i64 0] 107 (0, 0))) ∧ Aside0 (wr.heap[g6]? = some (.cells #[.slice none 0 0, .slice none 0 0, .int .i64 0, .int .i64 0] 107 (0, 0))) ∧ Aside0 (Below w.heap.size w wr))
  case atStart => exact ⟨0, .slice none 0 0, rfl, ⟨Nat.zero_le _⟩, ⟨kq1⟩, ⟨blk_put BKg7.out 0 _ rfl⟩, ⟨Kd.R_set HN.out BKg7.out kq2 0 _⟩, ⟨by rw [List.take_zero]; exact Kd.R_nil _ _ _ _ _⟩, ⟨blk_far BKg3.out ne_g3g7 _⟩, ⟨blk_far BKg4.out ne_g4g7 _⟩, ⟨blk_far BKg6.out ne_g6g7 _⟩, ⟨below_set HB.out GEg7.out⟩⟩
  case round =>
    clear BKg7 BKg3 BKg4 BKg6 HB HN
    obtain ⟨i, vc, rfl, HI, HQ, BKg7, HN, HRc, BKg3, BKg4, BKg6, HB⟩ := hrel
    by_cases hi : i < us.length
    · have hiz : (i : Int) < (us.length : Int) := by omega
      have hi0 : (0 : Int) ≤ (i : Int) := by omega
      obtain ⟨ad, ead, hx⟩ := Kd.at_string (Kd.R_reads' HN.out).2.2 (i : Int) hi0 hiz
      cases ead
      rw [Int.toNat_natCast, rd_nat hi] at hx
      have HE := mk (errB_take addP l0 l1 m0 m1 us 0 i hi)
      have HM := mk (bothL_take addP l0 l1 m0 m1 us i hi)
      have HLT := mk (show (bothL addP l0 l1 m0 m1 (us.take i)).length ≤ 200000 by have := HUL.out; unfold bothL; rw [List.length_map, List.length_take]; omega)
      generalize us[i] = s at hx HE HM
      obtain ⟨kx, hkx⟩ := HOA.out s
      obtain ⟨ky, hky⟩ := HOB.out s
      have HX := mk hkx
      have HY := mk hky
      clear hkx hky
      generalize hxa : ofS l0 l1 s = x at HX HE HM
      generalize hxb : ofS m0 m1 s = y at HY HE HM
      clear hxa hxb
      go_wp2
      refine start_ (n := 17) (S := fun w' => w'.cell? ⟨g3, 0, none⟩ = some (.slice A0 l0.length c0) ∧ w'.cell? ⟨g3, 1, none⟩ = some (.slice A1 l1.length c1) ∧ w'.cell? ⟨g3, 2, none⟩ = some (.int .i64 ka) ∧ w'.cell? ⟨g3, 3, none⟩ = some (.int .i64 0) ∧ w'.cell? ⟨g4, 0, none⟩ = some (.slice B0 m0.length d0) ∧ w'.cell? ⟨g4, 1, none⟩ = some (.slice B1 m1.length d1) ∧ w'.cell? ⟨g4, 2, none⟩ = some (.int .i64 kb) ∧ w'.cell? ⟨g4, 3, none⟩ = some (.int .i64 0) ∧ w'.cell? ⟨g7, 1, none⟩ = some vc) (ds := [16]) #[false,false,false,false,false,false,false,false,false,false,false,false,false,false,false,false,false] kq0 rfl rfl ⟨bk_ BKg3 0, bk_ BKg3 1, bk_ BKg3 2, bk_ BKg3 3, bk_ BKg4 0, bk_ BKg4 1, bk_ BKg4 2, bk_ BKg4 3, bk_ BKg7 1⟩ (fun hHeld => ?_)
      replace BKg3 : Aside0 (wr.drew.heap[g3]? = some (.cells #[.slice A0 l0.length c0, .slice A1 l1.length c1, .int .i64 ka, .int .i64 0] 107 (0, 0))) := ⟨BKg3.out⟩
      replace BKg4 : Aside0 (wr.drew.heap[g4]? = some (.cells #[.slice B0 m0.length d0, .slice B1 m1.length d1, .int .i64 kb, .int .i64 0] 107 (0, 0))) := ⟨BKg4.out⟩
      replace BKg6 : Aside0 (wr.drew.heap[g6]? = some (.cells #[.slice none 0 0, .slice none 0 0, .int .i64 0, .int .i64 0] 107 (0, 0))) := ⟨BKg6.out⟩
      replace BKg7 : Aside0 (wr.drew.heap[g7]? = some (.cells #[.slice (some ad) us.length cn, vc, .int .i64 0, .int .i64 (errB addP l0 l1 m0 m1 0 (us.take i))] 107 (0, 0))) := ⟨BKg7.out⟩
      replace HN : Aside0 (Kd.R Kd.string 9 wr.drew w.heap.size (fun _ => True) (.slice (some ad) us.length cn) us) := ⟨HN.out⟩
      replace HRc : Aside0 (Kd.R (Kd.int .i64) 2 wr.drew w.heap.size (fun _ => True) vc (bothL addP l0 l1 m0 m1 (us.take i))) := ⟨HRc.out⟩
      replace HB : Aside0 (Below w.heap.size w wr.drew) := ⟨below_drew1 HB.out⟩
      generalize wr.drew = w9 at BKg3 BKg4 BKg6 BKg7 HN HRc HB hHeld ⊢
      refine pu_ 0 37 ?_
      refine pu_ 2 39 ?_
      refine pu_ 4 41 ?_
      refine pu_ 7 44 ?_
      refine ta_ 1 38 hHeld ?_
      refine ta_ 3 40 hHeld ?_
      refine ta_ 6 43 hHeld ?_
      refine on_ 5 42 (fun K hK => ?_)
      refine goes_ Try.func123 kq0 rfl #[.agg #[.slice A0 l0.length c0, .slice A1 l1.length c1, .int .i64 ka, .int .i64 0], .string s] (by rfl) rfl rfl kq33 ?_
      refine (norm_sum_of.calls kx A0 c0 l0 A1 c1 l1 ka 0 s x _ (Kd.C_below HR0.out HB.out) HC0.out (Kd.C_below HR1.out HB.out) HC1.out HX.out).mono ?_
      rintro e w10 ⟨rfl, hb⟩
      refine ⟨_, rfl, ?_⟩
      have m0_ := mk (blk_below BKg3.out hb)
      have m1_ := mk (blk_below BKg4.out hb)
      have m2_ := mk (blk_below BKg6.out hb)
      have m3_ := mk (blk_below BKg7.out hb)
      have m4_ := mk (Kd.R_below HN.out hb)
      have m5_ := mk (Kd.R_below HRc.out hb)
      have m6_ := mk (below_step HB.out hb)
      clear BKg3 BKg4 BKg6 BKg7 HN HRc HB
      have BKg3 := m0_
      have BKg4 := m1_
      have BKg6 := m2_
      have BKg7 := m3_
      have HN := m4_
      have HRc := m5_
      have HB := m6_
      clear m0_ m1_ m2_ m3_ m4_ m5_ m6_
      clear hb
      refine hK.out _ _ ⟨bk_ BKg3 0, bk_ BKg3 1, bk_ BKg3 2, bk_ BKg3 3, bk_ BKg4 0, bk_ BKg4 1, bk_ BKg4 2, bk_ BKg4 3, bk_ BKg7 1⟩ (fun hHeld => ?_)
      clear hK K
      refine norm_ (a' := ?_) ?_ ?_
      rotate_left
      · show Act.put _ (some 42) _ = _
        simp only [Act.put, List.setIfInBounds_toArray, List.set_cons_zero, List.set_cons_succ]
        rfl
      refine on_ 8 45 (fun K hK => ?_)
      refine goes_ Try.func123 kq0 rfl #[.agg #[.slice B0 m0.length d0, .slice B1 m1.length d1, .int .i64 kb, .int .i64 0], .string s] (by rfl) rfl rfl kq33 ?_
      refine (norm_sum_of.calls ky B0 d0 m0 B1 d1 m1 kb 0 s y _ (Kd.C_below HS0.out HB.out) HD0.out (Kd.C_below HS1.out HB.out) HD1.out HY.out).mono ?_
      rintro e w11 ⟨rfl, hb⟩
      refine ⟨_, rfl, ?_⟩
      have m0_ := mk (blk_below BKg3.out hb)
      have m1_ := mk (blk_below BKg4.out hb)
      have m2_ := mk (blk_below BKg6.out hb)
      have m3_ := mk (blk_below BKg7.out hb)
      have m4_ := mk (Kd.R_below HN.out hb)
      have m5_ := mk (Kd.R_below HRc.out hb)
      have m6_ := mk (below_step HB.out hb)
      clear BKg3 BKg4 BKg6 BKg7 HN HRc HB
      have BKg3 := m0_
      have BKg4 := m1_
      have BKg6 := m2_
      have BKg7 := m3_
      have HN := m4_
      have HRc := m5_
      have HB := m6_
      clear m0_ m1_ m2_ m3_ m4_ m5_ m6_
      clear hb
      refine hK.out _ _ ⟨bk_ BKg3 0, bk_ BKg3 1, bk_ BKg3 2, bk_ BKg3 3, bk_ BKg4 0, bk_ BKg4 1, bk_ BKg4 2, bk_ BKg4 3, bk_ BKg7 1⟩ (fun hHeld => ?_)
      clear hK K
      refine norm_ (a' := ?_) ?_ ?_
      rotate_left
      · show Act.put _ (some 45) _ = _
        simp only [Act.put, List.setIfInBounds_toArray, List.set_cons_zero, List.set_cons_succ]
        rfl
      refine on_ 9 46 (fun K hK => ?_)
      refine call_ 121 #[.int .i64 x, .int .i64 y] (by rfl) rfl (by have he := enters_ Try.func121 kq0 rfl #[.int .i64 x, .int .i64 y] w11; unfold execOp; simp [resolve, Deferred.ofValue, invoke, Act.eval, he]) ?_
      refine (chk_Add.calls x y _ _ _ (add_at x y)).mono ?_
      rintro e w12 ⟨rfl, hd⟩
      have hb := hd.below
      clear hd
      refine ⟨_, rfl, ?_⟩
      have m0_ := mk (blk_below BKg3.out hb)
      have m1_ := mk (blk_below BKg4.out hb)
      have m2_ := mk (blk_below BKg6.out hb)
      have m3_ := mk (blk_below BKg7.out hb)
      have m4_ := mk (Kd.R_below HN.out hb)
      have m5_ := mk (Kd.R_below HRc.out hb)
      have m6_ := mk (below_step HB.out hb)
      clear BKg3 BKg4 BKg6 BKg7 HN HRc HB
      have BKg3 := m0_
      have BKg4 := m1_
      have BKg6 := m2_
      have BKg7 := m3_
      have HN := m4_
      have HRc := m5_
      have HB := m6_
      clear m0_ m1_ m2_ m3_ m4_ m5_ m6_
      clear hb
      refine hK.out _ _ ⟨bk_ BKg3 0, bk_ BKg3 1, bk_ BKg3 2, bk_ BKg3 3, bk_ BKg4 0, bk_ BKg4 1, bk_ BKg4 2, bk_ BKg4 3, bk_ BKg7 1⟩ (fun hHeld => ?_)
      clear hK K
      refine norm_ (a' := ?_) ?_ ?_
      rotate_left
      · show Act.put _ (some 46) _ = _
        simp only [Act.put, List.setIfInBounds_toArray, List.set_cons_zero, List.set_cons_succ]
        rfl
      refine pu_ 10 47 ?_
      refine pu_ 11 48 ?_
      refine on_ 12 49 (fun K hK => ?_)
      refine goes_ Try.func84 kq0 rfl #[.pointer (some ⟨g7, 0, none⟩), .int .i64 (addP x y).1, .int .i64 (addP x y).2] (by rfl) rfl rfl kq33 ?_
      refine (coeff_calls g7 (.slice (some ad) us.length cn) vc 0 (errB addP l0 l1 m0 m1 0 (us.take i)) (addP x y).1 (addP x y).2 w _ GEg7.out HB.out BKg7.out).mono ?_
      rintro e w13 ⟨rfl, hg, hk, hb⟩
      refine ⟨_, rfl, ?_⟩
      have m0_ := mk (hk.blk BKg3.out ne_g3g7 (by simp))
      have m1_ := mk (hk.blk BKg4.out ne_g4g7 (by simp))
      have m2_ := mk (hk.blk BKg6.out ne_g6g7 (by simp))
      have m3_ := mk (Kd.R_mono (Kd.R_keep (Kd.R_types HN.out BKg7.out kq2) hk (fun _ h => h.2)) (fun _ h => h.1))
      have m4_ := mk (Kd.R_mono (Kd.R_keep (Kd.R_types HRc.out BKg7.out kq2) hk (fun _ h => h.2)) (fun _ h => h.1))
      have m5_ := mk (hg)
      have m6_ := mk (hb)
      clear BKg3 BKg4 BKg6 HN HRc BKg7 HB
      have BKg3 := m0_
      have BKg4 := m1_
      have BKg6 := m2_
      have HN := m3_
      have HRc := m4_
      have BKg7 := m5_
      have HB := m6_
      clear m0_ m1_ m2_ m3_ m4_ m5_ m6_
      clear hg hk hb
      refine hK.out _ _ ⟨bk_ BKg3 0, bk_ BKg3 1, bk_ BKg3 2, bk_ BKg3 3, bk_ BKg4 0, bk_ BKg4 1, bk_ BKg4 2, bk_ BKg4 3, bk_ BKg7 1⟩ (fun hHeld => ?_)
      clear hK K
      refine norm_ (a' := ?_) ?_ ?_
      rotate_left
      · show Act.put _ (some 49) _ = _
        simp only [Act.put, List.setIfInBounds_toArray, List.set_cons_zero, List.set_cons_succ]
        rfl
      refine on_ 13 50 (fun K hK => ?_)
      refine value_ (v := .slice (some ⟨w13.heap.size, 0, none⟩) 1 1) (w1 := w13.alloc (.cells #[.int .i64 (addP x y).1] 2)) (by rfl) rfl ?_ ?_
      · go_simp
        all_goals first | done | rfl | exact ⟨rfl, rfl⟩
      refine hK.out _ _ ⟨(blk_cell (blk_alloc BKg3.out _) 0).trans rfl, (blk_cell (blk_alloc BKg3.out _) 1).trans rfl, (blk_cell (blk_alloc BKg3.out _) 2).trans rfl, (blk_cell (blk_alloc BKg3.out _) 3).trans rfl, (blk_cell (blk_alloc BKg4.out _) 0).trans rfl, (blk_cell (blk_alloc BKg4.out _) 1).trans rfl, (blk_cell (blk_alloc BKg4.out _) 2).trans rfl, (blk_cell (blk_alloc BKg4.out _) 3).trans rfl, (blk_cell (blk_alloc BKg7.out _) 1).trans rfl⟩ (fun hHeld => ?_)
      clear hK K
      refine norm_ (a' := ?_) ?_ ?_
      rotate_left
      · show Act.put _ (some 50) _ = _
        simp only [Act.put, List.setIfInBounds_toArray, List.set_cons_zero, List.set_cons_succ]
        rfl
      refine on_ 14 51 (fun K hK => ?_)
      refine Kd.R_append_step (Kd.int .i64) (w0 := w) w.heap.size (by rfl) (.tmp 38) (.tmp 50) 55 2 (.int .i64 0) 8 (by rfl) Try.underlying55 info2 rfl kq2 kq2 vc (bothL addP l0 l1 m0 m1 (us.take i)) (addP x y).1 [.int .i64 (addP x y).1] (fun _ => True) (fun _ => False) (by rfl) (by rfl) rfl (fun _ hk => hk.elim) (fun _ _ => trivial) HRc.out HB.out (below_size HB.out) (by have := HLT.out; omega) ?_
      intro v8 w14 hr8 hb8 hg8 hat8
      obtain ⟨A8, c8, ev8⟩ := Kd.R_slice hr8
      subst ev8
      have m0_ := mk (blk_grown BKg3.out hg8 (Kd.R_ne HRc.out BKg3.out kq2))
      have m1_ := mk (blk_grown BKg4.out hg8 (Kd.R_ne HRc.out BKg4.out kq2))
      have m2_ := mk (blk_grown BKg6.out hg8 (Kd.R_ne HRc.out BKg6.out kq2))
      have m3_ := mk (blk_grown BKg7.out hg8 (Kd.R_ne HRc.out BKg7.out kq2))
      have m4_ := mk (Kd.R_over HN.out HRc.out kq2 hg8)
      have m5_ := mk (hr8)
      have m6_ := mk (hb8)
      clear BKg3 BKg4 BKg6 BKg7 HN HRc HB
      have BKg3 := m0_
      have BKg4 := m1_
      have BKg6 := m2_
      have BKg7 := m3_
      have HN := m4_
      have HRc := m5_
      have HB := m6_
      clear m0_ m1_ m2_ m3_ m4_ m5_ m6_
      clear hr8 hb8 hg8 hat8
      refine hK.out _ _ ⟨bk_ BKg3 0, bk_ BKg3 1, bk_ BKg3 2, bk_ BKg3 3, bk_ BKg4 0, bk_ BKg4 1, bk_ BKg4 2, bk_ BKg4 3, bk_ BKg7 1⟩ (fun hHeld => ?_)
      clear hK K
      refine norm_ (a' := ?_) ?_ ?_
      rotate_left
      · show Act.put _ (some 51) _ = _
        simp only [Act.put, List.setIfInBounds_toArray, List.set_cons_zero, List.set_cons_succ]
        rfl
      refine pu_ 15 52 ?_
      have c7_ : w14.cell? ⟨g7, 1, none⟩ = some vc := bk_ BKg7 1
      have f7_ := blk_frozen BKg7.out 1
      refine last_ (i := 16) (N := none) #[true,true,true,true,true,true,true,true,true,true,true,true,true,true,true,true,true] rfl rfl kq0 kq2 (fun K hK => ?_)
      refine skip_ (w1 := ?_) (by rfl) rfl ?_ ?_
      rotate_left
      · go_simp
        rfl
      refine hK.out _ _ ?_
      clear hK K
      refine done_ kq0 ?_
      try go_wp2
      go_roundg (us.length - (i + 1))
      case measure => have := HQ.out; omega
      case rel =>
        have hr9 := HRc.out
        rw [List.length_append, List.length_singleton, ← HM.out] at hr9
        exact ⟨i + 1, .slice A8 ((bothL addP l0 l1 m0 m1 (us.take i)).length + 1) c8, by first | rfl | rw [show wrap64 ((i : Int) + 1) = ((i + 1 : Nat) : Int) from by have := HUL.out; unfold wrap64; omega], ⟨kq1⟩, ⟨kq1⟩, ⟨by rw [HE.out]; exact blk_put BKg7.out 1 _ rfl⟩, ⟨Kd.R_set HN.out BKg7.out kq2 1 _⟩, ⟨Kd.R_set hr9 BKg7.out kq2 1 _⟩, ⟨blk_far BKg3.out ne_g3g7 _⟩, ⟨blk_far BKg4.out ne_g4g7 _⟩, ⟨blk_far BKg6.out ne_g6g7 _⟩, ⟨below_set HB.out GEg7.out⟩⟩
    · have hiz : ¬ (i : Int) < (us.length : Int) := by omega
      have hil : i = us.length := by have := HI.out; omega
      have HX := mk (show errB addP l0 l1 m0 m1 0 (us.take i) = errB addP l0 l1 m0 m1 0 us by rw [hil, List.take_length])
      have HY := mk (show bothL addP l0 l1 m0 m1 (us.take i) = bothL addP l0 l1 m0 m1 us by rw [hil, List.take_length])
      clear hil hi
      obtain ⟨Av, cv, ev⟩ := Kd.R_slice HRc.out
      subst ev
      obtain ⟨_, _, _, _, _, _, _, _⟩ := cz4_ BKg3.out
      obtain ⟨_, _, _, _, _, _, _, _⟩ := cz4_ BKg4.out
      obtain ⟨_, _, _, _, _, _, _, _⟩ := cz4_ BKg6.out
      obtain ⟨_, _, _, _, _, _, _, _⟩ := cz4_ BKg7.out
      go_wp2_with (first | ((go_at_call 121; (with_reducible refine (chk_Add.calls ka kb _ _ _ (add_at ka kb)).mono ?_); rintro e w15 ⟨rfl, hd⟩; have hb := hd.below; clear hd; replace BKg3 := (bc_ BKg3 hb (kq24 BKg3)); replace BKg4 := (bc_ BKg4 hb (kq24 BKg4)); replace BKg6 := (bc_ BKg6 hb (kq24 BKg6)); replace BKg7 := (bc_ BKg7 hb (kq24 BKg7)); replace HN := mk (Kd.R_below kq34 hb); replace HRc := mk (Kd.R_below (kq35 HRc) hb); replace HB := mk (below_step kq22 hb); clear hb; obtain ⟨_, _, _, _, _, _, _, _⟩ := cz4_ BKg6.out; obtain ⟨_, _, _, _, _, _, _, _⟩ := cz4_ BKg7.out)) | ((go_at_call 84; (with_reducible refine (coeff_calls g7 (.slice An us.length cn) (.slice Av (bothL addP l0 l1 m0 m1 (us.take i)).length cv) 0 (errB addP l0 l1 m0 m1 0 (us.take i)) (addP ka kb).1 (addP ka kb).2 w _ GEg7.out ?s1 ?s2).mono ?_); (case s1 => exact kq37); (case s2 => exact kq38 BKg7); rintro e w16 ⟨rfl, hg, hk, hb⟩; replace BKg6 := mk (hk.blk (kq24 BKg6) ne_g6g7 (by simp)); replace HN := mk (Kd.R_mono (Kd.R_keep (Kd.R_types kq34 (kq24 BKg7) kq2) hk (fun _ h => h.2)) (fun _ h => h.1)); replace HRc := mk (Kd.R_mono (Kd.R_keep (Kd.R_types (kq35 HRc) (kq24 BKg7) kq2) hk (fun _ h => h.2)) (fun _ h => h.1)); replace BKg7 := mk (hg); replace HB := mk (hb); clear hg hk hb; obtain ⟨_, _, _, _, _, _, _, _⟩ := cz4_ BKg6.out; obtain ⟨_, _, _, _, _, _, _, _⟩ := cz4_ BKg7.out)))
      refine bodyPost_ret (results_cell_row rfl _ _ g6 107 #[.slice An us.length cn, .slice Av (bothL addP l0 l1 m0 m1 (us.take i)).length cv, .int .i64 (addP ka kb).1, .int .i64 (coeffE (errB addP l0 l1 m0 m1 0 (us.take i)) (addP ka kb).2)] (0, 0) _ rfl (blk_put (blk_put (blk_put (blk_put (blk_far BKg6.out ne_g6g7 _) 0 _ rfl) 1 _ rfl) 2 _ rfl) 3 _ rfl) Try.underlying107 rfl kq0) rfl ?_
      have p0 := Kd.R_types (Kd.R_types HN.out BKg7.out kq2) BKg6.out kq2
      have p1 := Kd.R_far (p := ⟨g7, 2, none⟩) p0 (fun _ h => h.1.2) (.int .i64 (addP ka kb).1)
      have p2 := Kd.R_far (p := ⟨g6, 0, none⟩) p1 (fun _ h => h.2) (.slice An us.length cn)
      have p3 := Kd.R_far (p := ⟨g6, 1, none⟩) p2 (fun _ h => h.2) (.slice Av (bothL addP l0 l1 m0 m1 (us.take i)).length cv)
      have p4 := Kd.R_far (p := ⟨g6, 2, none⟩) p3 (fun _ h => h.2) (.int .i64 (addP ka kb).1)
      have p5 := Kd.R_far (p := ⟨g6, 3, none⟩) p4 (fun _ h => h.2) (.int .i64 (coeffE (errB addP l0 l1 m0 m1 0 (us.take i)) (addP ka kb).2))
      have q0 := Kd.R_types (Kd.R_types HRc.out BKg7.out kq2) BKg6.out kq2
      have q1 := Kd.R_far (p := ⟨g7, 2, none⟩) q0 (fun _ h => h.1.2) (.int .i64 (addP ka kb).1)
      have q2 := Kd.R_far (p := ⟨g6, 0, none⟩) q1 (fun _ h => h.2) (.slice An us.length cn)
      have q3 := Kd.R_far (p := ⟨g6, 1, none⟩) q2 (fun _ h => h.2) (.slice Av (bothL addP l0 l1 m0 m1 (us.take i)).length cv)
      have q4 := Kd.R_far (p := ⟨g6, 2, none⟩) q3 (fun _ h => h.2) (.int .i64 (addP ka kb).1)
      have q5 := Kd.R_far (p := ⟨g6, 3, none⟩) q4 (fun _ h => h.2) (.int .i64 (coeffE (errB addP l0 l1 m0 m1 0 (us.take i)) (addP ka kb).2))
      exact ⟨.slice An us.length cn, .slice Av (bothL addP l0 l1 m0 m1 (us.take i)).length cv, by rw [← HX.out], Kd.R_mono p5 (fun _ _ => trivial), by rw [← HY.out]; exact Kd.R_mono q5 (fun _ _ => trivial), by repeat (first | exact HB.out | refine below_set ?_ GEg6.out | refine below_set ?_ GEg7.out)⟩
set_option maxHeartbeats 8000000 in
theorem both_stopa (A0 : Option Addr) (c0 : Nat) (l0 : List ByteArray) (A1 : Option Addr) (c1 : Nat) (l1 : List Int) (ka ea : Int) (B0 : Option Addr) (d0 : Nat) (m0 : List ByteArray) (B1 : Option Addr) (d1 : Nat) (m1 : List Int) (kb eb : Int) (fv : Value) (w : World) (he : ea ≠ 0) :
    Calls Try.prog 82 #[.agg #[.slice A0 l0.length c0, .slice A1 l1.length c1, .int .i64 ka, .int .i64 ea], .agg #[.slice B0 m0.length d0, .slice B1 m1.length d1, .int .i64 kb, .int .i64 eb], fv] w fun e w' => e = .returned (.agg #[.slice A0 l0.length c0, .slice A1 l1.length c1, .int .i64 ka, .int .i64 ea]) ∧ Below w.heap.size w w' := by
  have hu107 := Try.underlying107
  have he0 : (ea != 0) = true := bne_iff_ne.mpr he
  have he1 : (ea == 0) = false := beq_eq_false_iff_ne.mpr he
  clear he
  have HB := mk (Below.refl w.heap.size w)
  go_enter Try.func82, Try.ntmps82
  go_wp2_with (first | ((with_reducible refine gate_dst (N := 3) rfl ?_); refine box_event ?hg (N := 3) ?hd (cs := #[.slice A0 l0.length c0, .slice A1 l1.length c1, .int .i64 ka, .int .i64 ea]) (t := 107) ?hr ?_; (case hd => rfl); (case hg => rfl); (case hr => exact kq11); intro g3 hg w3 hbox hb; have BKg3 := mk hbox; have GEg3 := mk (kq21 : w.heap.size ≤ g3); replace HB := mk (below_step kq22 hb); clear hb hbox hg; obtain ⟨_, _, _, _, _, _, _, _⟩ := cz4_ BKg3.out) | ((with_reducible refine gate_dst (N := 4) rfl ?_); refine box_event ?hg (N := 4) ?hd (cs := #[.slice B0 m0.length d0, .slice B1 m1.length d1, .int .i64 kb, .int .i64 eb]) (t := 107) ?hr ?_; (case hd => rfl); (case hg => rfl); (case hr => exact kq11); intro g4 hg w4 hbox hb; have BKg4 := mk hbox; have GEg4 := mk (kq21 : w.heap.size ≤ g4); have NBg3g4 := mk ((kq23 BKg3) : g3 ≠ g4); have NBg4g3 := mk ((kq25 BKg3) : g4 ≠ g3); replace BKg3 := (bc_ BKg3 hb (kq24 BKg3)); replace HB := mk (below_step kq22 hb); clear hb hbox hg; have ne_g3g4 := NBg3g4.out; have ne_g4g3 := NBg4g3.out; obtain ⟨_, _, _, _, _, _, _, _⟩ := cz4_ BKg3.out; obtain ⟨_, _, _, _, _, _, _, _⟩ := cz4_ BKg4.out) | ((with_reducible refine gate_dst (N := 6) rfl ?_); refine box_event ?hg (N := 6) ?hd (cs := #[.slice none 0 0, .slice none 0 0, .int .i64 0, .int .i64 0]) (t := 107) ?hr ?_; (case hd => rfl); (case hg => rfl); (case hr => exact kq11); intro g6 hg w6 hbox hb; have BKg6 := mk hbox; have GEg6 := mk (kq21 : w.heap.size ≤ g6); have NBg3g6 := mk ((kq26 BKg3 NBg3g4) : g3 ≠ g6); have NBg6g3 := mk ((kq28 BKg3 NBg3g4) : g6 ≠ g3); have NBg4g6 := mk ((kq26 BKg4 NBg4g3) : g4 ≠ g6); have NBg6g4 := mk ((kq28 BKg4 NBg4g3) : g6 ≠ g4); replace BKg3 := (bc_ BKg3 hb (kq27 BKg3 NBg3g4)); replace BKg4 := (bc_ BKg4 hb (kq27 BKg4 NBg4g3)); replace HB := mk (below_step kq22 hb); clear hb hbox hg; have ne_g3g6 := NBg3g6.out; have ne_g6g3 := NBg6g3.out; have ne_g4g6 := NBg4g6.out; have ne_g6g4 := NBg6g4.out; obtain ⟨_, _, _, _, _, _, _, _⟩ := cz4_ BKg3.out; obtain ⟨_, _, _, _, _, _, _, _⟩ := cz4_ BKg4.out; obtain ⟨_, _, _, _, _, _, _, _⟩ := cz4_ BKg6.out))
  refine bodyPost_ret (results_cell_row rfl _ _ g6 107 #[.slice A0 l0.length c0, .slice A1 l1.length c1, .int .i64 ka, .int .i64 ea] (0, 0) _ rfl (blk_put (blk_put (blk_put (blk_put BKg6.out 0 _ rfl) 1 _ rfl) 2 _ rfl) 3 _ rfl) Try.underlying107 rfl kq0) rfl ?_
  exact ⟨rfl, by repeat (first | exact HB.out | refine below_set ?_ GEg6.out)⟩
set_option maxHeartbeats 8000000 in
theorem both_stopb (A0 : Option Addr) (c0 : Nat) (l0 : List ByteArray) (A1 : Option Addr) (c1 : Nat) (l1 : List Int) (ka : Int) (B0 : Option Addr) (d0 : Nat) (m0 : List ByteArray) (B1 : Option Addr) (d1 : Nat) (m1 : List Int) (kb eb : Int) (fv : Value) (w : World) (he : eb ≠ 0) :
    Calls Try.prog 82 #[.agg #[.slice A0 l0.length c0, .slice A1 l1.length c1, .int .i64 ka, .int .i64 0], .agg #[.slice B0 m0.length d0, .slice B1 m1.length d1, .int .i64 kb, .int .i64 eb], fv] w fun e w' => e = .returned (.agg #[.slice B0 m0.length d0, .slice B1 m1.length d1, .int .i64 kb, .int .i64 eb]) ∧ Below w.heap.size w w' := by
  have hu107 := Try.underlying107
  have he0 : (eb != 0) = true := bne_iff_ne.mpr he
  have he1 : (eb == 0) = false := beq_eq_false_iff_ne.mpr he
  clear he
  have HB := mk (Below.refl w.heap.size w)
  go_enter Try.func82, Try.ntmps82
  go_wp2_with (first | ((with_reducible refine gate_dst (N := 3) rfl ?_); refine box_event ?hg (N := 3) ?hd (cs := #[.slice A0 l0.length c0, .slice A1 l1.length c1, .int .i64 ka, .int .i64 0]) (t := 107) ?hr ?_; (case hd => rfl); (case hg => rfl); (case hr => exact kq11); intro g3 hg w3 hbox hb; have BKg3 := mk hbox; have GEg3 := mk (kq21 : w.heap.size ≤ g3); replace HB := mk (below_step kq22 hb); clear hb hbox hg; obtain ⟨_, _, _, _, _, _, _, _⟩ := cz4_ BKg3.out) | ((with_reducible refine gate_dst (N := 4) rfl ?_); refine box_event ?hg (N := 4) ?hd (cs := #[.slice B0 m0.length d0, .slice B1 m1.length d1, .int .i64 kb, .int .i64 eb]) (t := 107) ?hr ?_; (case hd => rfl); (case hg => rfl); (case hr => exact kq11); intro g4 hg w4 hbox hb; have BKg4 := mk hbox; have GEg4 := mk (kq21 : w.heap.size ≤ g4); have NBg3g4 := mk ((kq23 BKg3) : g3 ≠ g4); have NBg4g3 := mk ((kq25 BKg3) : g4 ≠ g3); replace BKg3 := (bc_ BKg3 hb (kq24 BKg3)); replace HB := mk (below_step kq22 hb); clear hb hbox hg; have ne_g3g4 := NBg3g4.out; have ne_g4g3 := NBg4g3.out; obtain ⟨_, _, _, _, _, _, _, _⟩ := cz4_ BKg3.out; obtain ⟨_, _, _, _, _, _, _, _⟩ := cz4_ BKg4.out) | ((with_reducible refine gate_dst (N := 6) rfl ?_); refine box_event ?hg (N := 6) ?hd (cs := #[.slice none 0 0, .slice none 0 0, .int .i64 0, .int .i64 0]) (t := 107) ?hr ?_; (case hd => rfl); (case hg => rfl); (case hr => exact kq11); intro g6 hg w6 hbox hb; have BKg6 := mk hbox; have GEg6 := mk (kq21 : w.heap.size ≤ g6); have NBg3g6 := mk ((kq26 BKg3 NBg3g4) : g3 ≠ g6); have NBg6g3 := mk ((kq28 BKg3 NBg3g4) : g6 ≠ g3); have NBg4g6 := mk ((kq26 BKg4 NBg4g3) : g4 ≠ g6); have NBg6g4 := mk ((kq28 BKg4 NBg4g3) : g6 ≠ g4); replace BKg3 := (bc_ BKg3 hb (kq27 BKg3 NBg3g4)); replace BKg4 := (bc_ BKg4 hb (kq27 BKg4 NBg4g3)); replace HB := mk (below_step kq22 hb); clear hb hbox hg; have ne_g3g6 := NBg3g6.out; have ne_g6g3 := NBg6g3.out; have ne_g4g6 := NBg4g6.out; have ne_g6g4 := NBg6g4.out; obtain ⟨_, _, _, _, _, _, _, _⟩ := cz4_ BKg3.out; obtain ⟨_, _, _, _, _, _, _, _⟩ := cz4_ BKg4.out; obtain ⟨_, _, _, _, _, _, _, _⟩ := cz4_ BKg6.out))
  refine bodyPost_ret (results_cell_row rfl _ _ g6 107 #[.slice B0 m0.length d0, .slice B1 m1.length d1, .int .i64 kb, .int .i64 eb] (0, 0) _ rfl (blk_put (blk_put (blk_put (blk_put BKg6.out 0 _ rfl) 1 _ rfl) 2 _ rfl) 3 _ rfl) Try.underlying107 rfl kq0) rfl ?_
  exact ⟨rfl, by repeat (first | exact HB.out | refine below_set ?_ GEg6.out)⟩
def norm_both.f (l0 : List ByteArray) (l1 : List Int) (ka ea : Int) (m0 : List ByteArray) (m1 : List Int) (kb eb : Int) (op : Int) : Option (List ByteArray × List Int × Int × Int) :=
  if ea ≠ 0 then some (l0, l1, ka, ea) else if eb ≠ 0 then some (m0, m1, kb, eb) else if l0.length ≤ 100000 ∧ m0.length ≤ 100000 ∧ l0.length ≤ l1.length ∧ m0.length ≤ m1.length then
    (if op = 1 then some ((unionA l0 m0).1, bothL subP l0 l1 m0 m1 (unionA l0 m0).1, (subP ka kb).1, coeffE (errB subP l0 l1 m0 m1 0 (unionA l0 m0).1) (subP ka kb).2) else if op = 0 then some ((unionA l0 m0).1, bothL addP l0 l1 m0 m1 (unionA l0 m0).1, (addP ka kb).1, coeffE (errB addP l0 l1 m0 m1 0 (unionA l0 m0).1) (addP ka kb).2) else none) else none
theorem norm_both.calls1 (P0_0_ : Nat → Prop) (u9000_ : Value) (l0_0 : List ByteArray) (P0_1_ : Nat → Prop) (u9001_ : Value) (l0_1 : List Int) (a0_2 : Int) (a0_3 : Int) (P1_0_ : Nat → Prop) (u9002_ : Value) (l1_0 : List ByteArray) (P1_1_ : Nat → Prop) (u9003_ : Value) (l1_1 : List Int) (a1_2 : Int) (a1_3 : Int) (r1 : List ByteArray) (r2 : List Int) (r3 : Int) (r4 : Int) (w0 w : World) (hB : Below w0.heap.size w0 w) (ho0_0 : Kd.R Kd.string 9 w w0.heap.size P0_0_ u9000_ l0_0) (_hp0_0_1_0 : ∀ k_, P0_0_ k_ → ¬ P1_0_ k_) (ho0_1 : Kd.R (Kd.int .i64) 2 w w0.heap.size P0_1_ u9001_ l0_1) (_hp0_1_1_1 : ∀ k_, P0_1_ k_ → ¬ P1_1_ k_) (ho1_0 : Kd.R Kd.string 9 w w0.heap.size P1_0_ u9002_ l1_0) (_hp1_0_0_0 : ∀ k_, P1_0_ k_ → ¬ P0_0_ k_) (ho1_1 : Kd.R (Kd.int .i64) 2 w w0.heap.size P1_1_ u9003_ l1_1) (_hp1_1_0_1 : ∀ k_, P1_1_ k_ → ¬ P0_1_ k_) (h : norm_both.f l0_0 l0_1 a0_2 a0_3 l1_0 l1_1 a1_2 a1_3 1 = some (r1, r2, r3, r4)) :
    Calls Try.prog 82 #[.agg #[u9000_, u9001_, .int .i64 a0_2, .int .i64 a0_3], .agg #[u9002_, u9003_, .int .i64 a1_2, .int .i64 a1_3], .func (.func 83) #[] #[]] w fun e w' => ∃ v0_ v1_ : Value, e = .returned (.agg #[v0_, v1_, .int .i64 r3, .int .i64 r4]) ∧ Kd.R Kd.string 9 w' w0.heap.size (fun k_ => ((P0_0_ k_ ∨ P0_1_ k_ ∨ P1_0_ k_ ∨ P1_1_ k_) ∨ w.heap.size ≤ k_)) v0_ r1 ∧ Kd.R (Kd.int .i64) 2 w' w0.heap.size (fun k_ => ((P0_0_ k_ ∨ P0_1_ k_ ∨ P1_0_ k_ ∨ P1_1_ k_) ∨ w.heap.size ≤ k_)) v1_ r2 ∧ Below w0.heap.size w0 w' ∧ Kept w w' (fun k_ => P0_0_ k_ ∨ P0_1_ k_ ∨ P1_0_ k_ ∨ P1_1_ k_) := by
  obtain ⟨A0, c0, rfl⟩ := Kd.R_slice ho0_0
  obtain ⟨A1, c1, rfl⟩ := Kd.R_slice ho0_1
  obtain ⟨B0, d0, rfl⟩ := Kd.R_slice ho1_0
  obtain ⟨B1, d1, rfl⟩ := Kd.R_slice ho1_1
  have kept : ∀ w', Below w.heap.size w w' → Below w0.heap.size w0 w' ∧ Kept w w' (fun k_ => P0_0_ k_ ∨ P0_1_ k_ ∨ P1_0_ k_ ∨ P1_1_ k_) := fun w' hb => ⟨below_step hB hb, hb.size, fun i hi _ => hb.block i hi⟩
  unfold norm_both.f at h
  by_cases ha : a0_3 = 0
  · rw [if_neg (by simp [ha])] at h
    by_cases hb : a1_3 = 0
    · rw [if_neg (by simp [hb])] at h
      split at h
      · rename_i hl
        simp only [if_true, Option.some.injEq, Prod.mk.injEq] at h
        obtain ⟨rfl, rfl, rfl, rfl⟩ := h
        refine (bothSub_core A0 c0 l0_0 A1 c1 l0_1 a0_2 a0_3 B0 d0 l1_0 B1 d1 l1_1 a1_2 a1_3 w (Kd.R_reads' ho0_0).2.2 (Kd.R_reads' ho0_0).2.1 (Kd.R_reads' ho0_1).2.2 (Kd.R_reads' ho0_1).2.1 (Kd.R_reads' ho1_0).2.2 (Kd.R_reads' ho1_0).2.1 (Kd.R_reads' ho1_1).2.2 (Kd.R_reads' ho1_1).2.1 hl.1 hl.2.1 hl.2.2.1 hl.2.2.2 ha hb).mono ?_
        rintro e w' ⟨v0, v1, rfl, h0, h1, hw⟩
        exact ⟨v0, v1, rfl, Kd.R_lower (Kd.R_mono (Kd.R_bound h0) (fun k hk => .inr hk.2.1)) hB.size, Kd.R_lower (Kd.R_mono (Kd.R_bound h1) (fun k hk => .inr hk.2.1)) hB.size, kept w' hw⟩
      · cases h
    · rw [if_pos (by simpa using hb)] at h
      simp only [Option.some.injEq, Prod.mk.injEq] at h
      obtain ⟨rfl, rfl, rfl, rfl⟩ := h
      subst ha
      refine (both_stopb A0 c0 l0_0 A1 c1 l0_1 a0_2 B0 d0 l1_0 B1 d1 l1_1 a1_2 a1_3 _ w hb).mono ?_
      rintro e w' ⟨rfl, hw⟩
      exact ⟨_, _, rfl, Kd.R_mono (Kd.R_below ho1_0 hw) (fun k hk => .inl (.inr (.inr (.inl hk)))), Kd.R_mono (Kd.R_below ho1_1 hw) (fun k hk => .inl (.inr (.inr (.inr hk)))), kept w' hw⟩
  · rw [if_pos (by simpa using ha)] at h
    simp only [Option.some.injEq, Prod.mk.injEq] at h
    obtain ⟨rfl, rfl, rfl, rfl⟩ := h
    refine (both_stopa A0 c0 l0_0 A1 c1 l0_1 a0_2 a0_3 B0 d0 l1_0 B1 d1 l1_1 a1_2 a1_3 _ w ha).mono ?_
    rintro e w' ⟨rfl, hw⟩
    exact ⟨_, _, rfl, Kd.R_mono (Kd.R_below ho0_0 hw) (fun k hk => .inl (.inl hk)), Kd.R_mono (Kd.R_below ho0_1 hw) (fun k hk => .inl (.inr (.inl hk))), kept w' hw⟩
theorem norm_both.calls0 (P0_0_ : Nat → Prop) (u9000_ : Value) (l0_0 : List ByteArray) (P0_1_ : Nat → Prop) (u9001_ : Value) (l0_1 : List Int) (a0_2 : Int) (a0_3 : Int) (P1_0_ : Nat → Prop) (u9002_ : Value) (l1_0 : List ByteArray) (P1_1_ : Nat → Prop) (u9003_ : Value) (l1_1 : List Int) (a1_2 : Int) (a1_3 : Int) (r1 : List ByteArray) (r2 : List Int) (r3 : Int) (r4 : Int) (w0 w : World) (hB : Below w0.heap.size w0 w) (ho0_0 : Kd.R Kd.string 9 w w0.heap.size P0_0_ u9000_ l0_0) (_hp0_0_1_0 : ∀ k_, P0_0_ k_ → ¬ P1_0_ k_) (ho0_1 : Kd.R (Kd.int .i64) 2 w w0.heap.size P0_1_ u9001_ l0_1) (_hp0_1_1_1 : ∀ k_, P0_1_ k_ → ¬ P1_1_ k_) (ho1_0 : Kd.R Kd.string 9 w w0.heap.size P1_0_ u9002_ l1_0) (_hp1_0_0_0 : ∀ k_, P1_0_ k_ → ¬ P0_0_ k_) (ho1_1 : Kd.R (Kd.int .i64) 2 w w0.heap.size P1_1_ u9003_ l1_1) (_hp1_1_0_1 : ∀ k_, P1_1_ k_ → ¬ P0_1_ k_) (h : norm_both.f l0_0 l0_1 a0_2 a0_3 l1_0 l1_1 a1_2 a1_3 0 = some (r1, r2, r3, r4)) :
    Calls Try.prog 82 #[.agg #[u9000_, u9001_, .int .i64 a0_2, .int .i64 a0_3], .agg #[u9002_, u9003_, .int .i64 a1_2, .int .i64 a1_3], .func (.func 121) #[] #[]] w fun e w' => ∃ v0_ v1_ : Value, e = .returned (.agg #[v0_, v1_, .int .i64 r3, .int .i64 r4]) ∧ Kd.R Kd.string 9 w' w0.heap.size (fun k_ => ((P0_0_ k_ ∨ P0_1_ k_ ∨ P1_0_ k_ ∨ P1_1_ k_) ∨ w.heap.size ≤ k_)) v0_ r1 ∧ Kd.R (Kd.int .i64) 2 w' w0.heap.size (fun k_ => ((P0_0_ k_ ∨ P0_1_ k_ ∨ P1_0_ k_ ∨ P1_1_ k_) ∨ w.heap.size ≤ k_)) v1_ r2 ∧ Below w0.heap.size w0 w' ∧ Kept w w' (fun k_ => P0_0_ k_ ∨ P0_1_ k_ ∨ P1_0_ k_ ∨ P1_1_ k_) := by
  obtain ⟨A0, c0, rfl⟩ := Kd.R_slice ho0_0
  obtain ⟨A1, c1, rfl⟩ := Kd.R_slice ho0_1
  obtain ⟨B0, d0, rfl⟩ := Kd.R_slice ho1_0
  obtain ⟨B1, d1, rfl⟩ := Kd.R_slice ho1_1
  have kept : ∀ w', Below w.heap.size w w' → Below w0.heap.size w0 w' ∧ Kept w w' (fun k_ => P0_0_ k_ ∨ P0_1_ k_ ∨ P1_0_ k_ ∨ P1_1_ k_) := fun w' hb => ⟨below_step hB hb, hb.size, fun i hi _ => hb.block i hi⟩
  unfold norm_both.f at h
  by_cases ha : a0_3 = 0
  · rw [if_neg (by simp [ha])] at h
    by_cases hb : a1_3 = 0
    · rw [if_neg (by simp [hb])] at h
      split at h
      · rename_i hl
        simp only [if_true, show ¬ (0 : Int) = 1 by decide, if_false, Option.some.injEq, Prod.mk.injEq] at h
        obtain ⟨rfl, rfl, rfl, rfl⟩ := h
        refine (bothAdd_core A0 c0 l0_0 A1 c1 l0_1 a0_2 a0_3 B0 d0 l1_0 B1 d1 l1_1 a1_2 a1_3 w (Kd.R_reads' ho0_0).2.2 (Kd.R_reads' ho0_0).2.1 (Kd.R_reads' ho0_1).2.2 (Kd.R_reads' ho0_1).2.1 (Kd.R_reads' ho1_0).2.2 (Kd.R_reads' ho1_0).2.1 (Kd.R_reads' ho1_1).2.2 (Kd.R_reads' ho1_1).2.1 hl.1 hl.2.1 hl.2.2.1 hl.2.2.2 ha hb).mono ?_
        rintro e w' ⟨v0, v1, rfl, h0, h1, hw⟩
        exact ⟨v0, v1, rfl, Kd.R_lower (Kd.R_mono (Kd.R_bound h0) (fun k hk => .inr hk.2.1)) hB.size, Kd.R_lower (Kd.R_mono (Kd.R_bound h1) (fun k hk => .inr hk.2.1)) hB.size, kept w' hw⟩
      · cases h
    · rw [if_pos (by simpa using hb)] at h
      simp only [Option.some.injEq, Prod.mk.injEq] at h
      obtain ⟨rfl, rfl, rfl, rfl⟩ := h
      subst ha
      refine (both_stopb A0 c0 l0_0 A1 c1 l0_1 a0_2 B0 d0 l1_0 B1 d1 l1_1 a1_2 a1_3 _ w hb).mono ?_
      rintro e w' ⟨rfl, hw⟩
      exact ⟨_, _, rfl, Kd.R_mono (Kd.R_below ho1_0 hw) (fun k hk => .inl (.inr (.inr (.inl hk)))), Kd.R_mono (Kd.R_below ho1_1 hw) (fun k hk => .inl (.inr (.inr (.inr hk)))), kept w' hw⟩
  · rw [if_pos (by simpa using ha)] at h
    simp only [Option.some.injEq, Prod.mk.injEq] at h
    obtain ⟨rfl, rfl, rfl, rfl⟩ := h
    refine (both_stopa A0 c0 l0_0 A1 c1 l0_1 a0_2 a0_3 B0 d0 l1_0 B1 d1 l1_1 a1_2 a1_3 _ w ha).mono ?_
    rintro e w' ⟨rfl, hw⟩
    exact ⟨_, _, rfl, Kd.R_mono (Kd.R_below ho0_0 hw) (fun k hk => .inl (.inl hk)), Kd.R_mono (Kd.R_below ho0_1 hw) (fun k hk => .inl (.inr (.inl hk))), kept w' hw⟩
end Go.Proofs.Ytjknpmibdkoklaa.Q
set_option maxRecDepth 100000
namespace Go.Proofs.Ytjknpmibdkoklaa.Q
open Go.RowKit Go.Proofs.YtjknpmibdkoklaaW.PrintWords Go.Proofs.YtjknpmibdkoklaaW.PrintLast Go.Proofs.YtjknpmibdkoklaaW.PrintMore
open Aside0 (mk)
theorem rdI {l : List Int} {i : Nat} (h : i < l.length) : rd l (i : Int) = l[i] := by unfold rd; rw [Int.toNat_natCast, List.getD_eq_getElem?_getD, List.getElem?_eq_getElem h]; rfl
def in64B (c : Int) : Bool := decide (-9223372036854775808 ≤ c ∧ c ≤ 9223372036854775807)
theorem in64B_in {c : Int} (h : in64B c = true) : In64 c := of_decide_eq_true h
end Go.Proofs.Ytjknpmibdkoklaa.Q
set_option maxRecDepth 100000
namespace Go.Proofs.Ytjknpmibdkoklaa.Q
open Go.RowKit Go.Proofs.YtjknpmibdkoklaaW.PrintWords Go.Proofs.YtjknpmibdkoklaaW.PrintLast Go.Proofs.YtjknpmibdkoklaaW.PrintMore
open Aside0 (mk)
theorem ofS_in {l0 : List ByteArray} {l1 : List Int} (h : l1.all in64B = true) (hle : l0.length ≤ l1.length) (s : ByteArray) : In64 (ofS l0 l1 s) := by
  unfold ofS
  split
  · rcases idxFrom_range s l0 0 kq1 with e | e
    · omega
    · obtain ⟨n, hn⟩ : ∃ n : Nat, idxFrom s 0 l0 = (n : Int) := ⟨(idxFrom s 0 l0).toNat, kq1⟩
      rw [hn, rdI kq1]
      exact in64B_in (List.all_eq_true.1 h _ (List.getElem_mem _))
  · exact in_zero
end Go.Proofs.Ytjknpmibdkoklaa.Q
