/- Functions of the given program as Lean functions, each with its contract, and what they answer; words for it. No condition but those of each. -/
import Derived.Test.YtjknpmibdkoklaaPCS
import Derived.Test.YtjknpmibdkoklaaPCR
import Derived.Test.YtjknpmibdkoklaaPC8
import Derived.Test.YtjknpmibdkoklaaPC9
import Derived.Test.YtjknpmibdkoklaaPC10
import Derived.Test.YtjknpmibdkoklaaPC7
import Derived.Test.YtjknpmibdkoklaaPC5
import Derived.LoopTactic
import Derived.Shelf.Abstract
import Derived.Defers
import Derived.Recover
import Derived.Laws.Pointers
import Derived.Test.YtjknpmibdkoklaaPC2
import Derived.Sort.OwnSorted
import Derived.Test.YtjknpmibdkoklaaPC3
import Derived.Test.YtjknpmibdkoklaaPC6
set_option linter.unusedVariables false
set_option linter.unusedSimpArgs false
set_option maxRecDepth 100000
namespace Go.Proofs.Ytjknpmibdkoklaa.U
open Go.RowKit Go.Proofs.YtjknpmibdkoklaaW.PrintWords Go.Proofs.YtjknpmibdkoklaaW.PrintLast Go.Proofs.YtjknpmibdkoklaaW.PrintMore
theorem num_abs {n : Bool} {d : List Int} {z : Int} (h : NumOf n d z) : z.natAbs < 4294967296 ^ d.length := by
  have h1 := val_lt32 h.dig
  have h0 := val_nonneg32 h.dig
  have h2 : (z.natAbs : Int) = val32 d := by rw [h.val]; split <;> omega
  have h3 : ((4294967296 ^ d.length : Nat) : Int) = 4294967296 ^ d.length := by simp
  omega
theorem num_zero {n : Bool} {d : List Int} {z : Int} (h : NumOf n d z) : d = [] ↔ z = 0 := by
  constructor
  · intro e
    rw [h.val, e]
    simp [val32]
  · intro e
    by_cases hd : d = []
    · exact hd
    · have h1 := val_top h.dig h.top hd
      have h2 := pow_pos32 (d.length - 1)
      have h3 := h.val
      rw [e] at h3
      split at h3 <;> omega
theorem sign_val {n : Bool} {d : List Int} {z : Int} (h : NumOf n d z) : truth_whole_sign.f n d = some (if z = 0 then 0 else if z < 0 then -1 else 1) := by
  unfold truth_whole_sign.f
  by_cases hd : d = []
  · rw [if_pos (by simp [hd]), if_pos ((num_zero h).1 hd)]
  · have hl : ¬ ((d.length : Int) = 0) := fun e => hd (List.eq_nil_of_length_eq_zero kq1)
    have hz : z ≠ 0 := fun e => hd ((num_zero h).2 e)
    rw [if_neg hl, if_neg hz]
    have h1 := val_nonneg32 h.dig
    have h2 := h.val
    cases n
    · rw [if_neg kq2, if_neg (by simp at h2; omega)]
    · rw [if_pos rfl, if_pos (by simp at h2; omega)]
theorem conn_val {op : Int} (h : op = 3 ∨ op = 4 ∨ op = 5 ∨ op = 6) (a b : Bool) : truth_connected.f op a b = some (connB op a b) := by
  rcases h with rfl | rfl | rfl | rfl <;> cases a <;> cases b <;> rfl
theorem dif_num {n1 n2 : Bool} {d1 d2 : List Int} {a b : Int} (h1 : NumOf n1 d1 a) (h2 : NumOf n2 d2 b) (l1 : d1.length ≤ 1000000) (l2 : d2.length ≤ 1000000) :
    ∃ n' d', truth_whole_minus.f n2 d2 = some (n', d') ∧ ∀ k, d1.length + d2.length < k → ∃ n d, truth_whole_plus.f k n1 d1 n' d' = some (n, d) ∧ NumOf n d (a - b) ∧ d.length ≤ 2000001 := by
  obtain ⟨n', d', hm, hn⟩ := minus_num h2
  have hl : d'.length ≤ d2.length := num_len hn (by rw [Int.natAbs_neg]; exact num_abs h2)
  refine ⟨n', d', hm, fun k hk => ?_⟩
  obtain ⟨n, d, hp, hd⟩ := plus_num h1 hn kq1 kq1 k kq1 kq1
  rw [← Int.sub_eq_add_neg] at hd
  refine ⟨n, d, hp, hd, Nat.le_trans (num_len (m := d1.length + d2.length + 1) hd ?_) kq1⟩
  have ha := num_abs h1
  have hb := num_abs h2
  have e1 : 4294967296 ^ d1.length ≤ 4294967296 ^ (d1.length + d2.length) := Nat.pow_le_pow_right kq2 kq1
  have e2 : 4294967296 ^ d2.length ≤ 4294967296 ^ (d1.length + d2.length) := Nat.pow_le_pow_right kq2 kq1
  have e3 : 4294967296 ^ (d1.length + d2.length + 1) = 4294967296 ^ (d1.length + d2.length) * 4294967296 := Nat.pow_succ _ _
  have := Int.natAbs_sub_le a b
  omega
theorem binary_num {op : Int} {n1 n2 : Bool} {d1 d2 : List Int} {a b : Int} (h1 : NumOf n1 d1 a) (h2 : NumOf n2 d2 b) (l1 : d1.length ≤ 1000000) (l2 : d2.length ≤ 1000000) : ∃ k n d, truth_binary.f k op n1 d1 n2 d2 = some (n, d) ∧ NumOf n d (opZ op a b) := by
  unfold opZ
  by_cases h3 : op = 3
  · obtain ⟨n, d, hp, hn⟩ := plus_num h1 h2 kq1 kq1 (d1.length + d2.length + 1) kq1 kq1
    refine ⟨d1.length + d2.length + 1, n, d, ?_, by rw [if_pos h3]; exact hn⟩
    unfold truth_binary.f
    rw [if_pos h3, hp]
    rfl
  · by_cases h4 : op = 4
    · obtain ⟨n', d', hm, hd⟩ := dif_num h1 h2 l1 l2
      obtain ⟨n, d, hp, hn, _⟩ := hd (d1.length + d2.length + 1) kq1
      refine ⟨d1.length + d2.length + 1, n, d, ?_, by rw [if_neg h3, if_pos h4]; exact hn⟩
      unfold truth_binary.f
      rw [if_neg h3, if_pos h4, hm]
      show ((truth_whole_plus.f _ n1 d1 n' d').bind fun bt => some (bt.1, bt.2)) = _
      rw [hp]
      rfl
    · obtain ⟨r, ⟨K, hK⟩, hn⟩ := times_num h1 h2 kq1 kq1
      refine ⟨K, r.1, r.2, ?_, by rw [if_neg h3, if_neg h4]; exact hn⟩
      unfold truth_binary.f
      have hKK : truth_whole_times.f K n1 d1 n2 d2 = some r := hK K (Nat.le_refl _)
      rw [if_neg h3, if_neg h4, hKK]
      rfl
theorem related_num {op md : Int} {nm : ByteArray} {l : List S66} {q : List S39} {n1 n2 : Bool} {d1 d2 : List Int} {a b : Int} (ho : op = 9 ∨ op = 10 ∨ op = 11 ∨ op = 12 ∨ op = 13 ∨ op = 14 ∨ op = 15 ∧ 1 ≤ md ∧ md < 9223372036854775808) (h1 : NumOf n1 d1 a) (h2 : NumOf n2 d2 b) (l1 : d1.length ≤ 1000000) (l2 : d2.length ≤ 1000000) :
    ∃ k, truth_related.f k op nm md l q n1 d1 n2 d2 = some (relB op md a b) := by
  obtain ⟨n', d', hm, hd⟩ := dif_num h1 h2 l1 l2
  have key : ∀ k, d1.length + d2.length < k → ∃ n d, truth_whole_plus.f k n1 d1 n' d' = some (n, d) ∧ NumOf n d (a - b) ∧ d.length ≤ 2000001 := hd
  rcases (show (op = 9 ∨ op = 10 ∨ op = 11 ∨ op = 12 ∨ op = 13 ∨ op = 14) ∨ (op = 15 ∧ 1 ≤ md ∧ md < 9223372036854775808) by omega) with ho | ⟨rfl, m0, m1⟩
  · obtain ⟨n, d, hp, hn, _⟩ := key (d1.length + d2.length + 1) kq1
    refine ⟨d1.length + d2.length + 1, ?_⟩
    have hs := sign_val hn
    unfold truth_related.f
    rw [hm]
    simp only [Option.bind_some]
    rw [hp]
    simp only [Option.bind_some]
    rw [hs]
    simp only [Option.bind_some]
    rcases ho with rfl | rfl | rfl | rfl | rfl | rfl <;> simp only [relB] <;> (by_cases e0 : a - b = 0 <;> by_cases e1 : a - b < 0 <;> simp [e0, e1] <;> omega)
  · obtain ⟨n0, d0, hp0, hn0, hl0⟩ := key (d1.length + d2.length + 1) kq1
    obtain ⟨K, hK⟩ := multiple_num hn0 m0 m1 kq1
    refine ⟨max K (d1.length + d2.length + 1), ?_⟩
    have hp : truth_whole_plus.f (max K (d1.length + d2.length + 1)) n1 d1 n' d' = some (n0, d0) := at_rounds (g := fun k => truth_whole_plus.f k n1 d1 n' d') (fun k => truth_whole_plus.mono _ _ _ _ k) (Nat.le_max_right _ _) hp0
    have hs := sign_val hn0
    have hmu : truth_whole_multiple.f (max K (d1.length + d2.length + 1)) n0 d0 md = some (decide (md ∣ a - b)) := hK _ (Nat.le_max_left K (d1.length + d2.length + 1))
    unfold truth_related.f
    rw [hm]
    simp only [Option.bind_some]
    rw [hp]
    simp only [Option.bind_some]
    rw [hs]
    simp only [Option.bind_some]
    rw [hmu]
    simp [relB]
end Go.Proofs.Ytjknpmibdkoklaa.U
set_option maxRecDepth 100000
namespace Go.Proofs.Ytjknpmibdkoklaa.U
open Go.RowKit Go.Proofs.YtjknpmibdkoklaaW.PrintWords Go.Proofs.YtjknpmibdkoklaaW.PrintLast Go.Proofs.YtjknpmibdkoklaaW.PrintMore
open Aside0 (mk)
def look (names : List ByteArray) (vals : List Int) (s : ByteArray) : Int := rd vals (idxFrom s 0 names)
def Told (names : List ByteArray) (vals : List Int) (s : ByteArray) : Prop := 0 ≤ idxFrom s 0 names ∧ idxFrom s 0 names < (vals.length : Int)
theorem bkc_ {w : World} {g : Nat} {t : TypeId} {cs : Array Value} {v : Value} (h : w.heap[g]? = some (.cells cs t (0, 0))) (i : Nat) (hv : cs[i]? = some v := by rfl) : w.cell? ⟨g, i, none⟩ = some v := (blk_cell h i).trans hv
theorem d2_ {w : World} {g : Nat} {t : TypeId} {a b : Value} (h : w.heap[g]? = some (.cells #[a, b] t (0, 0))) : w.cell? ⟨g, 0, none⟩ = some a ∧ w.cell? ⟨g, 1, none⟩ = some b ∧ w.frozen? ⟨g, 0, none⟩ = false ∧ w.frozen? ⟨g, 1, none⟩ = false := ⟨(blk_cell h 0).trans rfl, (blk_cell h 1).trans rfl, blk_frozen h 0, blk_frozen h 1⟩
theorem c4_ {w : World} {g : Nat} {t : TypeId} {a b c d : Value} (h : w.heap[g]? = some (.cells #[a, b, c, d] t (0, 0))) : w.cell? ⟨g, 0, none⟩ = some a ∧ w.cell? ⟨g, 1, none⟩ = some b ∧ w.cell? ⟨g, 2, none⟩ = some c ∧ w.cell? ⟨g, 3, none⟩ = some d ∧ w.frozen? ⟨g, 0, none⟩ = false ∧ w.frozen? ⟨g, 1, none⟩ = false ∧ w.frozen? ⟨g, 2, none⟩ = false ∧ w.frozen? ⟨g, 3, none⟩ = false := ⟨(blk_cell h 0).trans rfl, (blk_cell h 1).trans rfl, (blk_cell h 2).trans rfl, (blk_cell h 3).trans rfl, blk_frozen h 0, blk_frozen h 1, blk_frozen h 2, blk_frozen h 3⟩
theorem nums_snoc (w : ByteArray → Int) (xs : List SV) (l : List S66) (i : Nat) (h : i < l.length) : xs ++ (valZs w (l.take i)).map SV.num ++ [SV.num (valZ w l[i])] = xs ++ (valZs w (l.take (i + 1))).map SV.num := by
  rw [valZs_take w l i h, List.map_append, List.append_assoc]; rfl
set_option maxHeartbeats 16000000 in
theorem mterm_calls (w0 : World) (g : Nat) (names : List ByteArray) (vals : List Int) (An Av : Option Addr) (cn cv : Nat) (hn : Kd.C Kd.string w0 An names.length names) (hcn : names.length ≤ cn) (hv : Kd.C (Kd.int .i64) w0 Av vals.length vals) (hcv : vals.length ≤ cv) (hnl : names.length < 4611686018427387904) (hin : ∀ s, -9223372036854775808 ≤ look names vals s ∧ look names vals s < 9223372036854775808) (hbig : ∀ s, (look names vals s).natAbs < 4294967296 ^ 2) :
    ∀ (n : Nat) (t : S66), sizeT t ≤ n → n ≤ 1000 → FineT (Told names vals) t → ∀ (A : Option Addr) (c0 : Nat) (vs : Value) (xs : List SV) (w : World), Mach w0 w g X0 (.slice An names.length cn) (.slice Av vals.length cv) vs (xs) → xs.length + 2 * n ≤ 100000 → Kd.C k66 w0 A t.f3.length t.f3 → t.f3.length ≤ c0 →
    Calls Try.prog 138 #[.pointer (some ⟨g, 0, none⟩), .agg #[.int .i64 t.f0, .int .i64 t.f1, .string t.f2, .slice A t.f3.length c0]] w fun e w' => e = .returned (.tuple #[]) ∧ ∃ vs', Mach w0 w' g X0 (.slice An names.length cn) (.slice Av vals.length cv) vs' (xs ++ [.num (valZ (look names vals) t)]) ∧ Step w w' g vs vs' := by
  intro n
  induction n with
  | zero => intro t ht; exact absurd ht (by rw [sizeT_eq]; omega)
  | succ n ih =>
  intro t ht hn1 hft A c0 vs xs w hM hxl hr hc0
  have hu66 := Try.underlying66
  have hft2 := FineT_eq hft
  have hS0 := okT_shape hft2.1
  have HS := mk hS0
  have HI := mk hft2.2.1
  have HNM := mk hft2.2.2.1
  have HFs := mk hft2.2.2.2
  have HR := mk hr
  have HC := mk hc0
  have HM := mk hM
  have HT := mk (show 1 + sizeTs t.f3 ≤ n + 1 by rw [← sizeT_eq]; exact ht)
  have HXL := mk hxl
  have HFT := mk hft
  have HLL := mk (show t.f3.length ≤ 2 by rcases hS0 with ⟨_, e⟩ | ⟨_, _, e⟩ | ⟨_, u, e⟩ | ⟨_, u, v, e⟩ <;> rw [e] <;> simp)
  clear hS0
  rw [valZ_eq]
  have hlen := HR.out.2.1
  clear hr hc0 hM ht hxl hft hft2
  go_enter Try.func138, Try.ntmps138
  go_wp2_with (first | ((with_reducible refine gate_dst (N := 3) rfl ?_); refine box_event ?hg (N := 3) ?hd (cs := #[.int .i64 t.f0, .int .i64 t.f1, .string t.f2, .slice A t.f3.length c0]) (t := 66) ?hr ?_; (case hd => rfl); (case hg => rfl); (case hr => exact kq6); intro gb hgb w1 hbox hb; have HM1 := mk (HM.out.then_ hb); have BK := mk hbox; have ST1 := mk (Step.below g vs hb); have NBg := mk (show gb ≠ g from by rw [hgb]; exact Nat.ne_of_gt (blk_lt HM.out.cell)); clear HM hb hbox hgb; obtain ⟨q0, _, _, _⟩ := cy4_ BK.out))
  go_loopg [11] t.f3.length (fun gq v11 wr => ∃ (i : Nat) (v1 : Value), v11 = .int .i64 i ∧ Aside0 (i ≤ t.f3.length) ∧ Aside0 (t.f3.length - i ≤ gq) ∧ Aside0 (wr.heap[gb]? = some (.cells #[.int .i64 t.f0, .int .i64 t.f1, .string t.f2, .slice A t.f3.length c0] 66 (0, 0))) ∧ Aside0 (Mach w0 wr g X0 (.slice An names.length cn) (.slice Av vals.length cv) v1 (xs ++ (valZs (look names vals) (t.f3.take i)).map SV.num)) ∧ Aside0 (Step w wr g vs v1))
  case atStart => exact ⟨0, vs, rfl, ⟨Nat.zero_le _⟩, ⟨kq1⟩, ⟨BK.out⟩, ⟨by have h := HM1.out; simpa [valZs] using h⟩, ⟨ST1.out⟩⟩
  case round =>
    obtain ⟨i, v1, rfl, HIL, HQ, BK, HM, ST⟩ := hrel
    by_cases hi : i < t.f3.length
    · have hiz : (i : Int) < (t.f3.length : Int) := by omega
      have hi0 : (0 : Int) ≤ (i : Int) := by omega
      obtain ⟨ad, A2, c2, ead, hx0, hx1, hx2, hx3, hl3, hi3⟩ := at_T66 HR.out (i : Int) hi0 hiz
      cases ead
      have hx : rd_T66 t.f3 (i : Int) = t.f3[i] := by simp [rd_T66, hi]
      rw [hx] at hx0 hx1 hx2 hx3 hl3 hi3
      rw [Int.toNat_natCast] at hx0 hx1 hx2 hx3
      have hB := HM.out.below
      replace hx0 := (hB.cell (World.block_lt_of_cell? _ _ hx0)).trans hx0
      replace hx1 := (hB.cell (World.block_lt_of_cell? _ _ hx1)).trans hx1
      replace hx2 := (hB.cell (World.block_lt_of_cell? _ _ hx2)).trans hx2
      replace hx3 := (hB.cell (World.block_lt_of_cell? _ _ hx3)).trans hx3
      have HL3 := mk hl3
      have HI3 := mk hi3
      have HSN := mk (nums_snoc (look names vals) xs t.f3 i hi)
      have HSZ := mk (show sizeT t.f3[i] ≤ n by have h1 := sizeTs_mem t.f3[i] (List.getElem_mem hi); have := HT.out; omega)
      have HFY := mk (FineTs_mem HFs.out t.f3[i] (List.getElem_mem hi))
      have HXI := mk (show (xs ++ (valZs (look names vals) (t.f3.take i)).map SV.num).length + 2 * n ≤ 100000 by rw [List.length_append, List.length_map, valZs_len, List.length_take]; have := HLL.out; have := HXL.out; omega)
      clear hl3 hi3 hB hx
      generalize t.f3[i] = y at hx0 hx1 hx2 hx3 HL3 HI3 HSN HSZ HFY
      go_wp2_with (first | ((with_reducible refine gate_dst (N := 5) rfl ?_); refine box_event ?hg (N := 5) ?hd (cs := #[.int .i64 0, .int .i64 0, .string (⟨#[]⟩ : ByteArray), .slice none 0 0]) (t := 66) ?hr ?_; (case hd => rfl); (case hg => rfl); (case hr => exact kq6); intro gb2 hgb w4 hbox hb; have BK4 := mk hbox; have HB4 := mk hb; have GE4 := mk (Nat.le_of_eq hgb.symm); clear hb hbox hgb; obtain ⟨_, _, _, _, _, _, _, _⟩ := cz4_ BK4.out) | (go_at_call 138; refine (ih y HSZ.out kq1 HFY.out A2 c2 v1 _ _ ?s1 HXI.out HI3.out HL3.out).mono ?_; (case s1 => exact kq44 GE4); rintro e w5 ⟨rfl, v2, hm5, hs5⟩; rw [HSN.out] at hm5; have HM5 := mk hm5; have ST5 := mk (ST.out.trans ((Step.below g v1 (kq17 GE4)).trans hs5)); have BK5 := mk (hs5.blk (HM.out.then_ (kq17 GE4)) (blk_below BK.out (kq17 GE4)) NBg.out kq2); clear hm5 hs5))
      go_roundg (t.f3.length - (i + 1))
      case measure => have := HQ.out; omega
      case rel => exact ⟨i + 1, v2, kq22, ⟨kq1⟩, ⟨kq1⟩, BK5, HM5, ST5⟩
    · have hil : i = t.f3.length := by have := HIL.out; omega
      subst hil
      have hiz : ¬ ((t.f3.length : Nat) : Int) < (t.f3.length : Int) := by omega
      rw [List.take_length] at HM
      obtain ⟨_, _, _, _, _, _, _, _⟩ := c4_ BK.out
      rcases HS.out with ⟨h0, e3⟩ | ⟨h0, _, e3⟩ | ⟨h0, u, e3⟩ | ⟨h0, u, v, e3⟩
      · have b0 : (t.f0 == 0) = true := by simp [h0]
        have hv : opT t.f0 t.f1 (look names vals t.f2) (valZs (look names vals) t.f3) = t.f1 := by simp [opT, h0]
        have HVL := mk hv
        simp only [e3, valZs, List.map_nil, List.append_nil] at HM
        obtain ⟨neg, ds, hof, hnum⟩ := of_num HI.out.1 HI.out.2
        have HOF := mk hof
        have HNUM := mk hnum
        clear hof hnum hv
        go_wp2_with (first | (go_at_call 174; refine (truth_of.calls _ neg ds _ HOF.out).mono ?_; rintro e w6 ⟨v6, rfl, hv6, hb6⟩; obtain ⟨A6, c6, e6, _⟩ := id hv6; subst e6; have HR6 := mk (fresh_num HM.out hv6 HNUM.out); have HM6 := mk (HM.out.then_ hb6); have ST6 := mk (ST.out.trans (Step.below g v1 hb6)); clear hv6 hb6) | (go_at_call 142; refine (push_calls HM6.out HR6.out (by have := HXL.out; omega)).mono ?_; rintro e w7 ⟨rfl, v7, hm7, hs7⟩; have HM7 := mk hm7; have ST7 := mk (ST6.out.trans hs7); clear hm7 hs7))
        first | go_end0 | ((try simp only [Exit.inBlock, Exit.then]); refine bodyPost_ret (results_none rfl _ _ _) rfl ?_)
        exact ⟨rfl, v7, by rw [HVL.out]; exact HM7.out, ST7.out⟩
      · have b0 : (t.f0 == 0) = false := by simp [h0]
        have b1 : (t.f0 == 1) = true := by simp [h0]
        have HVL := mk (show opT t.f0 t.f1 (look names vals t.f2) (valZs (look names vals) t.f3) = look names vals t.f2 by simp [opT, h0])
        simp only [e3, valZs, List.map_nil, List.append_nil] at HM
        obtain ⟨p0, q0⟩ := HNM.out h0
        obtain ⟨kx, hKx⟩ := index_ev names t.f2 hnl
        have HIX := mk (hKx kx (Nat.le_refl _))
        clear hKx
        have hlk : look names vals t.f2 = rd vals (idxFrom t.f2 0 names) := rfl
        obtain ⟨neg, ds, hof, hnum⟩ := of_num (hin t.f2).1 (hin t.f2).2
        have HOF := mk hof
        have HNUM := mk hnum
        clear hof hnum
        generalize idxFrom t.f2 0 names = i at p0 q0 HIX hlk
        obtain ⟨adv, eA, hxv⟩ := Kd.at_int hv i p0 q0
        rw [← hlk] at hxv
        cases eA
        have HXV := mk hxv
        replace p0 := eq_true p0
        replace q0 := eq_true q0
        clear hxv hlk
        go_wp2
        refine start_ (n := 17) (S := fun w' => w'.cell? ⟨g, 1, none⟩ = some (.slice (some adv) vals.length cv) ∧ w'.cell? ⟨g, 0, none⟩ = some (.slice An names.length cn) ∧ w'.cell? ⟨gb, 2, none⟩ = some (.string t.f2) ∧ w'.cell? (adv.add i.toNat) = some (.int .i64 (look names vals t.f2))) (ds := []) #[false,false,false,false,false,false,false,false,false,false,false,false,false,false,false,false,false] kq0 rfl rfl ⟨bkc_ HM.out.cell 1, bkc_ HM.out.cell 0, bkc_ BK.out 2, (HM.out.below.cell (World.block_lt_of_cell? _ _ HXV.out)).trans HXV.out⟩ (fun hHeld => ?_)
        have hbd : Below wr.heap.size wr wr.drew := below_drew1 (Below.refl _ _)
        replace HM := mk (HM.out.then_ hbd)
        replace BK := mk (blk_below BK.out hbd)
        replace ST := mk (ST.out.trans (Step.below g v1 hbd))
        clear hbd
        generalize wr.drew = w21 at BK HM ST hHeld ⊢
        refine pu_ 0 43 ?_
        refine pu_ 1 44 ?_
        refine pu_ 2 45 ?_
        refine pu_ 3 46 ?_
        refine ta_ 4 47 hHeld ?_
        refine pu_ 5 48 ?_
        refine pu_ 6 49 ?_
        refine pu_ 7 50 ?_
        refine ta_ 8 51 hHeld ?_
        refine pu_ 9 52 ?_
        refine ta_ 10 53 hHeld ?_
        refine on_ 11 54 (fun K hK => ?_)
        refine goes_ Try.func27 kq0 rfl #[.slice An names.length cn, .string t.f2] (by rfl) rfl rfl kq36 ?_
        refine (glyph_Index.calls kx An cn names t.f2 i _ (Kd.C_below hn HM.out.below) hcn HIX.out).mono ?_
        rintro e w22 ⟨rfl, ⟨mm, hw⟩⟩
        refine ⟨_, rfl, ?_⟩
        have hb5 : Below w21.heap.size w21 w22 := (by rw [hw]; exact pw_below_drewN (Below.refl _ _) mm)
        clear hw
        replace HM := mk (HM.out.then_ hb5)
        replace BK := mk (blk_below BK.out hb5)
        replace ST := mk (ST.out.trans (Step.below g v1 hb5))
        clear hb5
        refine hK.out _ _ ⟨bkc_ HM.out.cell 1, bkc_ HM.out.cell 0, bkc_ BK.out 2, (HM.out.below.cell (World.block_lt_of_cell? _ _ HXV.out)).trans HXV.out⟩ (fun hHeld => ?_)
        clear hK K
        refine norm_ (a' := ?_) ?_ ?_
        rotate_left
        · show Act.put _ (some 54) _ = _
          simp only [Act.put, List.setIfInBounds_toArray, List.set_cons_zero, List.set_cons_succ]
          rfl
        refine pu_ 12 55 ?_
        refine ta_ 13 56 hHeld ?_
        refine on_ 14 57 (fun K hK => ?_)
        refine goes_ Try.func174 kq0 rfl #[.int .i64 (look names vals t.f2)] (by rfl) rfl rfl kq36 ?_
        refine (truth_of.calls _ neg ds _ HOF.out).mono ?_
        rintro e w23 ⟨v6, rfl, hv6, hb5⟩
        obtain ⟨A6, c6, e6, _⟩ := id hv6
        subst e6
        refine ⟨_, rfl, ?_⟩
        have HR6 := mk (fresh_num HM.out hv6 HNUM.out)
        clear hv6
        replace HM := mk (HM.out.then_ hb5)
        replace BK := mk (blk_below BK.out hb5)
        replace ST := mk (ST.out.trans (Step.below g v1 hb5))
        clear hb5
        refine hK.out _ _ ⟨bkc_ HM.out.cell 1, bkc_ HM.out.cell 0, bkc_ BK.out 2, (HM.out.below.cell (World.block_lt_of_cell? _ _ HXV.out)).trans HXV.out⟩ (fun hHeld => ?_)
        clear hK K
        refine norm_ (a' := ?_) ?_ ?_
        rotate_left
        · show Act.put _ (some 57) _ = _
          simp only [Act.put, List.setIfInBounds_toArray, List.set_cons_zero, List.set_cons_succ]
          rfl
        refine pu_ 15 58 ?_
        refine on_ 16 59 (fun K hK => ?_)
        refine goes_ Try.func142 kq0 rfl #[.pointer (some ⟨g, 0, none⟩), .iface 172 (.agg #[.bool neg, .slice A6 ds.length c6])] (by rfl) rfl rfl kq36 ?_
        refine (push_calls HM.out HR6.out (by have := HXL.out; omega)).mono ?_
        rintro e w24 ⟨rfl, v7, hm7, hs7⟩
        refine ⟨_, rfl, ?_⟩
        have HM7 := mk hm7
        have ST7 := mk (ST.out.trans hs7)
        have BK7 := mk (hs7.blk HM.out BK.out NBg.out kq2)
        clear hm7 hs7
        refine hK.out _ _ ⟨bkc_ HM7.out.cell 1, bkc_ HM7.out.cell 0, bkc_ BK7.out 2, (HM7.out.below.cell (World.block_lt_of_cell? _ _ HXV.out)).trans HXV.out⟩ (fun hHeld => ?_)
        clear hK K
        refine norm_ (a' := ?_) ?_ ?_
        rotate_left
        · show Act.put _ (some 59) _ = _
          simp only [Act.put, List.setIfInBounds_toArray, List.set_cons_zero, List.set_cons_succ]
          rfl
        refine done_ kq0 ?_
        try go_wp2
        first | go_end0 | ((try simp only [Exit.inBlock, Exit.then]); refine bodyPost_ret (results_none rfl _ _ _) rfl ?_)
        exact ⟨rfl, v7, by rw [HVL.out]; exact HM7.out, ST7.out⟩
      · have b0 : (t.f0 == 0) = false := by simp [h0]
        have b1 : (t.f0 == 1) = false := by simp [h0]
        have b2 : (t.f0 == 2) = true := by simp [h0]
        have HVL := mk (show opT t.f0 t.f1 (look names vals t.f2) (valZs (look names vals) t.f3) = - valZ (look names vals) u by simp [opT, h0, e3, valZs])
        simp only [e3, valZs, List.map_nil, List.map_cons] at HM
        go_wp2_with (first | (go_at_call 145; refine (number_calls HM.out (by have := HXL.out; omega)).mono ?_; rintro e w5 ⟨neg, ds, A5, c5, rfl, hnum, v5, hm5, hv5, hs5⟩; obtain ⟨n6, d6, hmf, hn6⟩ := minus_num hnum; have HM5 := mk hm5; have HV5 := mk hv5; have HMF := mk hmf; have HN6 := mk hn6; have ST5 := mk (ST.out.trans hs5); clear hnum hm5 hv5 hs5 hmf hn6) | (go_at_call 175; refine (truth_whole_minus.calls neg (okD w0.heap.size g X0 v5) A5 c5 ds n6 d6 _ HV5.out HMF.out).mono ?_; rintro e w6 ⟨v6, rfl, hv6, hb6⟩; obtain ⟨A6, c6, e6, _⟩ := id hv6; subst e6; have HR6 := mk (shared_num HM5.out hv6 HN6.out); have HM6 := mk (HM5.out.then_ hb6); have ST6 := mk (ST5.out.trans (Step.below g v5 hb6)); clear hv6 hb6) | (go_at_call 142; refine (push_calls HM6.out HR6.out (by have := HXL.out; omega)).mono ?_; rintro e w7 ⟨rfl, v7, hm7, hs7⟩; have HM7 := mk hm7; have ST7 := mk (ST6.out.trans hs7); clear hm7 hs7))
        first | go_end0 | ((try simp only [Exit.inBlock, Exit.then]); refine bodyPost_ret (results_none rfl _ _ _) rfl ?_)
        exact ⟨rfl, v7, by rw [HVL.out]; exact HM7.out, ST7.out⟩
      · have b0 : (t.f0 == 0) = false := by rcases h0 with h | h | h <;> simp [h]
        have b1 : (t.f0 == 1) = false := by rcases h0 with h | h | h <;> simp [h]
        have b2 : (t.f0 == 2) = false := by rcases h0 with h | h | h <;> simp [h]
        have HVL := mk (show opT t.f0 t.f1 (look names vals t.f2) (valZs (look names vals) t.f3) = opZ t.f0 (valZ (look names vals) u) (valZ (look names vals) v) by rcases h0 with h | h | h <;> simp [opT, h, e3, valZs])
        simp only [e3, valZs, List.map_nil, List.map_cons] at HM
        rw [show xs ++ [SV.num (valZ (look names vals) u), SV.num (valZ (look names vals) v)] = (xs ++ [SV.num (valZ (look names vals) u)]) ++ [SV.num (valZ (look names vals) v)] by simp] at HM
        have HBA := mk (valZ_big (look names vals) hbig _ u (FineTs_mem HFs.out u (by rw [e3]; simp)))
        have HBB := mk (valZ_big (look names vals) hbig _ v (FineTs_mem HFs.out v (by rw [e3]; simp)))
        have HSA := mk (show sizeT u ≤ 1000 by have h1 := sizeTs_mem u (show u ∈ t.f3 by rw [e3]; simp); have := HT.out; omega)
        have HSB := mk (show sizeT v ≤ 1000 by have h1 := sizeTs_mem v (show v ∈ t.f3 by rw [e3]; simp); have := HT.out; omega)
        go_wp2_with (first | (go_at_call 145; refine (number_calls HM.out (by have := HXL.out; simp; omega)).mono ?_; rintro e w5 ⟨nb, db, Ab, cb, rfl, hnb, v5, hm5, hv5, hs5⟩; have HM5 := mk hm5; have HVB := mk hv5; have HNB := mk hnb; have ST5 := mk (ST.out.trans hs5); have BK5 := mk (hs5.blk HM.out BK.out NBg.out kq2); clear hnb hm5 hv5 hs5 HM) | (go_at_call 145; refine (number_calls HM5.out (by have := HXL.out; omega)).mono ?_; rintro e w8 ⟨na, da, Aa, ca, rfl, hna, v8, hm8, hv8, hs8⟩; have HM8 := mk hm8; have HVA := mk hv8; have HVB8 := mk (V_step HVB.out hs8); have HNA := mk hna; have ST8 := mk (ST5.out.trans hs8); have BK8 := mk (hs8.blk HM5.out BK5.out NBg.out kq2); clear hna hm8 hv8 hs8; obtain ⟨_, _, _, _, _, _, _, _⟩ := c4_ BK8.out) | ((with_reducible refine gate_dst (N := 6) rfl ?_); refine box_event ?hg (N := 6) ?hd (cs := #[.bool false, .slice none 0 0]) (t := 172) ?hr ?_; (case hd => rfl); (case hg => rfl); (case hr => exact kq6); intro g6 hgb w9 hbox hb; have BG9 := mk (blk_below BK8.out hb); have hn3 := (show gb ≠ g6 from by rw [hgb]; exact Nat.ne_of_lt (blk_lt BK8.out)); have HB9 := mk hb; have BK6 := mk hbox; have GE6 := mk (Nat.le_of_eq hgb.symm); clear hb hbox hgb; obtain ⟨_, _, _, _⟩ := d2_ BK6.out) | ((with_reducible refine gate_dst (N := 7) rfl ?_); refine box_event ?hg (N := 7) ?hd (cs := #[.bool false, .slice none 0 0]) (t := 172) ?hr ?_; (case hd => rfl); (case hg => rfl); (case hr => exact kq6); intro g7 hgb w10 hbox hb; have hn4 := (show gb ≠ g7 from by rw [hgb]; exact Nat.ne_of_lt (blk_lt BG9.out)); have BG10 := mk (blk_below BG9.out hb); have NB67 := mk (show g6 ≠ g7 from by rw [hgb]; exact Nat.ne_of_lt (blk_lt BK6.out)); have NB76 := mk (Ne.symm NB67.out); have hn1 := NB67.out; have hn2 := NB76.out; have HB10 := mk (below_then HB9.out (below_size HB9.out) hb); have BK7 := mk hbox; have GE7 := mk (Nat.le_trans (below_size HB9.out) (Nat.le_of_eq hgb.symm)); have BK61 := mk (blk_below BK6.out hb); clear hb hbox hgb; obtain ⟨_, _, _, _⟩ := d2_ BK61.out; obtain ⟨_, _, _, _⟩ := d2_ BK7.out; obtain ⟨_, _, _, _, _, _, _, _⟩ := c4_ BG10.out) | (go_at_call 176; obtain ⟨kk, rn, rdd, hbin, hnr⟩ := binary_num (op := t.f0) HNA.out HNB.out (by have := num_len HNA.out HBA.out; have := HSA.out; omega) (by have := num_len HNB.out HBB.out; have := HSB.out; omega); have HBW := mk (show Below w8.heap.size w8 ((((w10.setCell ⟨g6, 0, none⟩ (.bool nb)).setCell ⟨g6, 1, none⟩ (.slice Ab db.length cb)).setCell ⟨g7, 0, none⟩ (.bool na)).setCell ⟨g7, 1, none⟩ (.slice Aa da.length ca)) from below_set (below_set (below_set (below_set HB10.out GE6.out) GE6.out) GE7.out) GE7.out); refine (truth_binary.calls kk t.f0 na Aa ca da nb (okD w0.heap.size g X0 v8) Ab cb db rn rdd _ ((Kd.V_reads' (Kd.V_below HVA.out HBW.out)).2.2) ((Kd.V_reads' HVA.out).2.1) (Kd.V_below HVB8.out HBW.out) hbin).mono ?_; rintro e w12 ⟨v12, rfl, hv12, hb12⟩; obtain ⟨A12, c12, e12, _⟩ := id hv12; subst e12; have HR6 := mk (shared_num (HM8.out.then_ HBW.out) hv12 hnr); have HM6 := mk ((HM8.out.then_ HBW.out).then_ hb12); have ST6 := mk ((ST8.out.trans (Step.below g v8 HBW.out)).trans (Step.below g v8 hb12)); clear hv12 hb12 hbin hnr) | (go_at_call 142; refine (push_calls HM6.out HR6.out (by have := HXL.out; omega)).mono ?_; rintro e w7 ⟨rfl, v7, hm7, hs7⟩; have HM7 := mk hm7; have ST7 := mk (ST6.out.trans hs7); clear hm7 hs7))
        first | go_end0 | ((try simp only [Exit.inBlock, Exit.then]); refine bodyPost_ret (results_none rfl _ _ _) rfl ?_)
        exact ⟨rfl, v7, by rw [HVL.out]; exact HM7.out, ST7.out⟩
end Go.Proofs.Ytjknpmibdkoklaa.U
set_option maxRecDepth 100000
namespace Go.Proofs.Ytjknpmibdkoklaa.U
open Go.RowKit Go.Proofs.YtjknpmibdkoklaaW.PrintWords Go.Proofs.YtjknpmibdkoklaaW.PrintLast Go.Proofs.YtjknpmibdkoklaaW.PrintMore
open Aside0 (mk)
def opF (op md : Int) (vs : List Int) (bs : List Bool) : Bool := if op = 0 then true else if op = 1 then false else if op = 2 then !(bs.getD 0 false) else if op = 3 ∨ op = 4 ∨ op = 5 ∨ op = 6 then connB op (bs.getD 0 false) (bs.getD 1 false) else relB op md (vs.getD 0 0) (vs.getD 1 0)
mutual
def holdZ (w : ByteArray → Int) : S39 → Bool
  | ⟨op, _, md, l, q⟩ => opF op md (valZs w l) (holdZs w q)
def holdZs (w : ByteArray → Int) : List S39 → List Bool
  | [] => []
  | t :: l => holdZ w t :: holdZs w l
end
def ShapeF (op md : Int) (l : List S66) (q : List S39) : Prop :=
  ((op = 0 ∨ op = 1) ∧ l = [] ∧ q = []) ∨ (op = 2 ∧ l = [] ∧ ∃ a, q = [a]) ∨ ((op = 3 ∨ op = 4 ∨ op = 5 ∨ op = 6) ∧ l = [] ∧ ∃ a b, q = [a, b]) ∨ ((op = 9 ∨ op = 10 ∨ op = 11 ∨ op = 12 ∨ op = 13 ∨ op = 14 ∨ op = 15 ∧ 1 ≤ md ∧ md < 9223372036854775808) ∧ (∃ u v, l = [u, v]) ∧ q = [])
mutual
def FineF (p : ByteArray → Prop) : S39 → Prop
  | ⟨op, _, md, l, q⟩ => ShapeF op md l q ∧ FineTs p l ∧ FineFs p q
def FineFs (p : ByteArray → Prop) : List S39 → Prop
  | [] => True
  | t :: l => FineF p t ∧ FineFs p l
end
mutual
def sizeF : S39 → Nat
  | ⟨_, _, _, l, q⟩ => 1 + (sizeTs l + sizeFs q)
def sizeFs : List S39 → Nat
  | [] => 0
  | t :: l => sizeF t + sizeFs l
end
theorem FineF_eq {p : ByteArray → Prop} {t : S39} (h : FineF p t) : ShapeF t.f0 t.f2 t.f3 t.f4 ∧ FineTs p t.f3 ∧ FineFs p t.f4 := by cases t; rw [FineF] at h; exact h
theorem holdZ_eq (w : ByteArray → Int) (t : S39) : holdZ w t = opF t.f0 t.f2 (valZs w t.f3) (holdZs w t.f4) := by cases t; rw [holdZ]
theorem sizeF_eq (t : S39) : sizeF t = 1 + (sizeTs t.f3 + sizeFs t.f4) := by cases t; rw [sizeF]
theorem holdZs_len (w : ByteArray → Int) : ∀ l : List S39, (holdZs w l).length = l.length
  | [] => rfl
  | t :: l => by rw [holdZs, List.length_cons, List.length_cons, holdZs_len w l]
theorem holdZs_take (w : ByteArray → Int) : ∀ (l : List S39) (i : Nat) (h : i < l.length), holdZs w (l.take (i + 1)) = holdZs w (l.take i) ++ [holdZ w l[i]]
  | t :: l, 0, _ => rfl
  | t :: l, i + 1, h => by
    rw [List.take_succ_cons, List.take_succ_cons, holdZs, holdZs, List.cons_append, holdZs_take w l i (by simpa using h)]
    rfl
theorem FineFs_mem {p : ByteArray → Prop} : ∀ {l : List S39}, FineFs p l → ∀ t ∈ l, FineF p t
  | u :: l, h, t, ht => by
    rw [FineFs] at h
    cases ht with
    | head => exact h.1
    | tail _ ht => exact FineFs_mem h.2 t ht
theorem sizeFs_mem : ∀ {l : List S39}, ∀ t ∈ l, sizeF t ≤ sizeFs l
  | u :: l, t, ht => by
    rw [sizeFs]
    cases ht with
    | head => omega
    | tail _ ht => have := sizeFs_mem t ht; omega
theorem trus_snoc (w : ByteArray → Int) (xs : List SV) (l : List S39) (i : Nat) (h : i < l.length) : xs ++ (holdZs w (l.take i)).map SV.tru ++ [SV.tru (holdZ w l[i])] = xs ++ (holdZs w (l.take (i + 1))).map SV.tru := by
  rw [holdZs_take w l i h, List.map_append, List.append_assoc]; rfl
theorem c5_ {w : World} {g : Nat} {t : TypeId} {a b c d e : Value} (h : w.heap[g]? = some (.cells #[a, b, c, d, e] t (0, 0))) : w.cell? ⟨g, 0, none⟩ = some a ∧ w.cell? ⟨g, 1, none⟩ = some b ∧ w.cell? ⟨g, 2, none⟩ = some c ∧ w.cell? ⟨g, 3, none⟩ = some d ∧ w.cell? ⟨g, 4, none⟩ = some e ∧ w.frozen? ⟨g, 0, none⟩ = false ∧ w.frozen? ⟨g, 1, none⟩ = false ∧ w.frozen? ⟨g, 2, none⟩ = false ∧ w.frozen? ⟨g, 3, none⟩ = false ∧ w.frozen? ⟨g, 4, none⟩ = false := ⟨(blk_cell h 0).trans rfl, (blk_cell h 1).trans rfl, (blk_cell h 2).trans rfl, (blk_cell h 3).trans rfl, (blk_cell h 4).trans rfl, blk_frozen h 0, blk_frozen h 1, blk_frozen h 2, blk_frozen h 3, blk_frozen h 4⟩
theorem fresh_tru {w0 W : World} {g : Nat} {vs : Value} (b : Bool) : RD W w0.heap.size (okD w0.heap.size g X0 vs) (4, .bool b) (.tru b) := rfl
theorem ShapeF_len {op md : Int} {l : List S66} {q : List S39} (h : ShapeF op md l q) : l.length ≤ 2 ∧ q.length ≤ 2 ∧ (l = [] ∨ q = []) := by
  rcases h with ⟨_, h, k⟩ | ⟨_, h, a, k⟩ | ⟨_, h, a, b, k⟩ | ⟨_, ⟨a, b, h⟩, k⟩ <;> rw [h, k] <;> simp
end Go.Proofs.Ytjknpmibdkoklaa.U
set_option maxRecDepth 100000
namespace Go.Proofs.Ytjknpmibdkoklaa.U
open Go.RowKit Go.Proofs.YtjknpmibdkoklaaW.PrintWords Go.Proofs.YtjknpmibdkoklaaW.PrintLast Go.Proofs.YtjknpmibdkoklaaW.PrintMore
open Aside0 (mk)
set_option maxHeartbeats 16000000 in
theorem mform_calls (w0 : World) (g : Nat) (names : List ByteArray) (vals : List Int) (An Av : Option Addr) (cn cv : Nat) (hn : Kd.C Kd.string w0 An names.length names) (hcn : names.length ≤ cn) (hv : Kd.C (Kd.int .i64) w0 Av vals.length vals) (hcv : vals.length ≤ cv) (hnl : names.length < 4611686018427387904) (hin : ∀ s, -9223372036854775808 ≤ look names vals s ∧ look names vals s < 9223372036854775808) (hbig : ∀ s, (look names vals s).natAbs < 4294967296 ^ 2) :
    ∀ (n : Nat) (t : S39), sizeF t ≤ n → n ≤ 1000 → FineF (Told names vals) t → ∀ (A : Option Addr) (c0 : Nat) (B : Option Addr) (d0 : Nat) (vs : Value) (xs : List SV) (w : World), Mach w0 w g X0 (.slice An names.length cn) (.slice Av vals.length cv) vs (xs) → xs.length + 2 * n ≤ 100000 → Kd.C k66 w0 A t.f3.length t.f3 → t.f3.length ≤ c0 → Kd.C k39 w0 B t.f4.length t.f4 → t.f4.length ≤ d0 →
    Calls Try.prog 101 #[.pointer (some ⟨g, 0, none⟩), .agg #[.int .i64 t.f0, .string t.f1, .int .i64 t.f2, .slice A t.f3.length c0, .slice B t.f4.length d0]] w fun e w' => e = .returned (.tuple #[]) ∧ ∃ vs', Mach w0 w' g X0 (.slice An names.length cn) (.slice Av vals.length cv) vs' (xs ++ [.tru (holdZ (look names vals) t)]) ∧ Step w w' g vs vs' := by
  intro n
  induction n with
  | zero => intro t ht; exact absurd ht (by rw [sizeF_eq]; omega)
  | succ n ih =>
  intro t ht hn1 hft A c0 B d0 vs xs w hM hxl hr hc0 hq hd0
  have hu39 := Try.underlying39
  have hu66 := Try.underlying66
  have hft2 := FineF_eq hft
  have HS := mk hft2.1
  have HLN := mk (ShapeF_len hft2.1)
  have HFs := mk hft2.2.1
  have HFq := mk hft2.2.2
  have HR := mk hr
  have HC := mk hc0
  have HQR := mk hq
  have HD := mk hd0
  have HM := mk hM
  have HT := mk (show 1 + (sizeTs t.f3 + sizeFs t.f4) ≤ n + 1 by rw [← sizeF_eq]; exact ht)
  have HXL := mk hxl
  rw [holdZ_eq]
  have hlen := HR.out.2.1
  have hlen4 := HQR.out.2.1
  clear hr hc0 hM ht hxl hft hft2 hq hd0
  go_enter Try.func101, Try.ntmps101
  go_wp2_with (first | ((with_reducible refine gate_dst (N := 3) rfl ?_); refine box_event ?hg (N := 3) ?hd (cs := #[.int .i64 t.f0, .string t.f1, .int .i64 t.f2, .slice A t.f3.length c0, .slice B t.f4.length d0]) (t := 39) ?hr ?_; (case hd => rfl); (case hg => rfl); (case hr => exact kq6); intro gb hgb w1 hbox hb; have HM1 := mk (HM.out.then_ hb); have BK := mk hbox; have ST1 := mk (Step.below g vs hb); have NBg := mk (show gb ≠ g from by rw [hgb]; exact Nat.ne_of_gt (blk_lt HM.out.cell)); clear HM hb hbox hgb; obtain ⟨_, _, _, _, _, _, _, _, _, _⟩ := c5_ BK.out))
  go_loopg [15] t.f3.length (fun gq v15 wr => ∃ (i : Nat) (v1 : Value), v15 = .int .i64 i ∧ Aside0 (i ≤ t.f3.length) ∧ Aside0 (t.f3.length - i ≤ gq) ∧ Aside0 (wr.heap[gb]? = some (.cells #[.int .i64 t.f0, .string t.f1, .int .i64 t.f2, .slice A t.f3.length c0, .slice B t.f4.length d0] 39 (0, 0))) ∧ Aside0 (Mach w0 wr g X0 (.slice An names.length cn) (.slice Av vals.length cv) v1 (xs ++ (valZs (look names vals) (t.f3.take i)).map SV.num)) ∧ Aside0 (Step w wr g vs v1))
  case atStart => exact ⟨0, vs, rfl, ⟨Nat.zero_le _⟩, ⟨kq1⟩, ⟨BK.out⟩, ⟨by have h := HM1.out; simpa [valZs] using h⟩, ⟨ST1.out⟩⟩
  case round =>
    obtain ⟨i, v1, rfl, HIL, HQ, BK, HM, ST⟩ := hrel
    by_cases hi : i < t.f3.length
    · have hiz : (i : Int) < (t.f3.length : Int) := by omega
      have hi0 : (0 : Int) ≤ (i : Int) := by omega
      obtain ⟨ad, A2, c2, ead, hx0, hx1, hx2, hx3, hl3, hi3⟩ := at_T66 HR.out (i : Int) hi0 hiz
      cases ead
      have hx : rd_T66 t.f3 (i : Int) = t.f3[i] := by simp [rd_T66, hi]
      rw [hx] at hx0 hx1 hx2 hx3 hl3 hi3
      rw [Int.toNat_natCast] at hx0 hx1 hx2 hx3
      have hB := HM.out.below
      replace hx0 := (hB.cell (World.block_lt_of_cell? _ _ hx0)).trans hx0
      replace hx1 := (hB.cell (World.block_lt_of_cell? _ _ hx1)).trans hx1
      replace hx2 := (hB.cell (World.block_lt_of_cell? _ _ hx2)).trans hx2
      replace hx3 := (hB.cell (World.block_lt_of_cell? _ _ hx3)).trans hx3
      have HL3 := mk hl3
      have HI3 := mk hi3
      have HSN := mk (nums_snoc (look names vals) xs t.f3 i hi)
      have HSZ := mk (show sizeT t.f3[i] ≤ n by have h1 := sizeTs_mem t.f3[i] (List.getElem_mem hi); have := HT.out; omega)
      have HFY := mk (FineTs_mem HFs.out t.f3[i] (List.getElem_mem hi))
      have HXI := mk (show (xs ++ (valZs (look names vals) (t.f3.take i)).map SV.num).length + 2 * n ≤ 100000 by rw [List.length_append, List.length_map, valZs_len, List.length_take]; have := HLN.out.1; have := HXL.out; omega)
      clear hl3 hi3 hB hx
      generalize t.f3[i] = y at hx0 hx1 hx2 hx3 HL3 HI3 HSN HSZ HFY
      go_wp2_with (first | ((with_reducible refine gate_dst (N := 5) rfl ?_); refine box_event ?hg (N := 5) ?hd (cs := #[.int .i64 0, .int .i64 0, .string (⟨#[]⟩ : ByteArray), .slice none 0 0]) (t := 66) ?hr ?_; (case hd => rfl); (case hg => rfl); (case hr => exact kq6); intro gb2 hgb w4 hbox hb; have BK4 := mk hbox; have HB4 := mk hb; have GE4 := mk (Nat.le_of_eq hgb.symm); clear hb hbox hgb; obtain ⟨_, _, _, _, _, _, _, _⟩ := c4_ BK4.out) | (go_at_call 138; refine (mterm_calls w0 g names vals An Av cn cv hn hcn hv hcv hnl hin hbig n y HSZ.out kq1 HFY.out A2 c2 v1 _ _ ?s1 HXI.out HI3.out HL3.out).mono ?_; (case s1 => exact kq44 GE4); rintro e w5 ⟨rfl, v2, hm5, hs5⟩; rw [HSN.out] at hm5; have HM5 := mk hm5; have ST5 := mk (ST.out.trans ((Step.below g v1 (kq17 GE4)).trans hs5)); have BK5 := mk (hs5.blk (HM.out.then_ (kq17 GE4)) (blk_below BK.out (kq17 GE4)) NBg.out kq2); clear hm5 hs5))
      go_roundg (t.f3.length - (i + 1))
      case measure => have := HQ.out; omega
      case rel => exact ⟨i + 1, v2, kq22, ⟨kq1⟩, ⟨kq1⟩, BK5, HM5, ST5⟩
    · have hil : i = t.f3.length := by have := HIL.out; omega
      subst hil
      have hiz : ¬ ((t.f3.length : Nat) : Int) < (t.f3.length : Int) := by omega
      rw [List.take_length] at HM
      obtain ⟨_, _, _, _, _, _, _, _, _, _⟩ := c5_ BK.out
      go_wp2
      go_loopg [26] t.f4.length (fun gq v26 wr => ∃ (i : Nat) (v1 : Value), v26 = .int .i64 i ∧ Aside0 (i ≤ t.f4.length) ∧ Aside0 (t.f4.length - i ≤ gq) ∧ Aside0 (wr.heap[gb]? = some (.cells #[.int .i64 t.f0, .string t.f1, .int .i64 t.f2, .slice A t.f3.length c0, .slice B t.f4.length d0] 39 (0, 0))) ∧ Aside0 (Mach w0 wr g X0 (.slice An names.length cn) (.slice Av vals.length cv) v1 (xs ++ (valZs (look names vals) t.f3).map SV.num ++ (holdZs (look names vals) (t.f4.take i)).map SV.tru)) ∧ Aside0 (Step w wr g vs v1))
      case atStart => exact ⟨0, v1, rfl, ⟨Nat.zero_le _⟩, ⟨kq1⟩, ⟨BK.out⟩, ⟨by have h := HM.out; simpa [holdZs] using h⟩, ⟨ST.out⟩⟩
      case round =>
        clear HM ST BK
        obtain ⟨i, v1, rfl, HIL, HQ, BK, HM, ST⟩ := hrel
        by_cases hi : i < t.f4.length
        · have hiz : (i : Int) < (t.f4.length : Int) := by omega
          have hi0 : (0 : Int) ≤ (i : Int) := by omega
          obtain ⟨ad, A2, c2, A3, c3, ead, hx0, hx1, hx2, hx3, hx4, hl3, hi3, hl4, hi4⟩ := at_T39 HQR.out (i : Int) hi0 hiz
          cases ead
          have hx : rd_T39 t.f4 (i : Int) = t.f4[i] := by simp [rd_T39, hi]
          rw [hx] at hx0 hx1 hx2 hx3 hx4 hl3 hi3 hl4 hi4
          rw [Int.toNat_natCast] at hx0 hx1 hx2 hx3 hx4
          have hB := HM.out.below
          replace hx0 := (hB.cell (World.block_lt_of_cell? _ _ hx0)).trans hx0
          replace hx1 := (hB.cell (World.block_lt_of_cell? _ _ hx1)).trans hx1
          replace hx2 := (hB.cell (World.block_lt_of_cell? _ _ hx2)).trans hx2
          replace hx3 := (hB.cell (World.block_lt_of_cell? _ _ hx3)).trans hx3
          replace hx4 := (hB.cell (World.block_lt_of_cell? _ _ hx4)).trans hx4
          have HL3 := mk hl3
          have HI3 := mk hi3
          have HL4 := mk hl4
          have HI4 := mk hi4
          have HSN := mk (trus_snoc (look names vals) (xs ++ (valZs (look names vals) t.f3).map SV.num) t.f4 i hi)
          have HSZ := mk (show sizeF t.f4[i] ≤ n by have h1 := sizeFs_mem t.f4[i] (List.getElem_mem hi); have := HT.out; omega)
          have HFY := mk (FineFs_mem HFq.out t.f4[i] (List.getElem_mem hi))
          have HXI := mk (show (xs ++ (valZs (look names vals) t.f3).map SV.num ++ (holdZs (look names vals) (t.f4.take i)).map SV.tru).length + 2 * n ≤ 100000 by rw [List.length_append, List.length_append, List.length_map, List.length_map, valZs_len, holdZs_len, List.length_take]; have h2 := HLN.out.2.1; have h3 : t.f3.length = 0 ∨ t.f4.length = 0 := HLN.out.2.2.imp (fun h => by rw [h]; rfl) (fun h => by rw [h]; rfl); have := HXL.out; omega)
          clear hl3 hi3 hl4 hi4 hB hx
          generalize t.f4[i] = y at hx0 hx1 hx2 hx3 hx4 HL3 HI3 HL4 HI4 HSN HSZ HFY
          go_wp2_with (first | ((with_reducible refine gate_dst (N := 7) rfl ?_); refine box_event ?hg (N := 7) ?hd (cs := #[.int .i64 0, .string (⟨#[]⟩ : ByteArray), .int .i64 0, .slice none 0 0, .slice none 0 0]) (t := 39) ?hr ?_; (case hd => rfl); (case hg => rfl); (case hr => exact kq6); intro gb2 hgb w4 hbox hb; have BK4 := mk hbox; have HB4 := mk hb; have GE4 := mk (Nat.le_of_eq hgb.symm); clear hb hbox hgb; obtain ⟨_, _, _, _, _, _, _, _, _, _⟩ := c5_ BK4.out) | (go_at_call 101; refine (ih y HSZ.out kq1 HFY.out A2 c2 A3 c3 v1 _ _ ?s1 HXI.out HI3.out HL3.out HI4.out HL4.out).mono ?_; (case s1 => exact kq44 GE4); rintro e w5 ⟨rfl, v2, hm5, hs5⟩; rw [HSN.out] at hm5; have HM5 := mk hm5; have ST5 := mk (ST.out.trans ((Step.below g v1 (kq17 GE4)).trans hs5)); have BK5 := mk (hs5.blk (HM.out.then_ (kq17 GE4)) (blk_below BK.out (kq17 GE4)) NBg.out kq2); clear hm5 hs5))
          go_roundg (t.f4.length - (i + 1))
          case measure => have := HQ.out; omega
          case rel => exact ⟨i + 1, v2, kq22, ⟨kq1⟩, ⟨kq1⟩, BK5, HM5, ST5⟩
        · have hil : i = t.f4.length := by have := HIL.out; omega
          subst hil
          have hiz : ¬ ((t.f4.length : Nat) : Int) < (t.f4.length : Int) := by omega
          rw [List.take_length] at HM
          obtain ⟨_, _, _, _, _, _, _, _, _, _⟩ := c5_ BK.out
          obtain ⟨s3, s4⟩ : True ∧ True := ⟨trivial, trivial⟩
          rcases HS.out with ⟨h0, e3, e4⟩ | ⟨h0, e3, a, e4⟩ | ⟨h0, e3, a, b, e4⟩ | ⟨h0, ⟨u, v, e3⟩, e4⟩
          · simp only [e3, e4, valZs, holdZs, List.map_nil, List.append_nil] at HM
            have HM6 := HM
            have ST6 := ST
            rcases h0 with h0 | h0
            · have HVL := mk (show opF t.f0 t.f2 (valZs (look names vals) t.f3) (holdZs (look names vals) t.f4) = true by simp [opF, h0])
              have HR6 := mk (fresh_tru (w0 := w0) (W := wr) (g := g) (vs := v1) true)
              clear HM ST
              have b0 : (t.f0 == 0) = true := by simp [h0]
              have b1 : (t.f0 == 1) = false := by simp [h0]
              have b2 : (t.f0 == 2) = false := by simp [h0]
              have b3 : (t.f0 == 3) = false := by simp [h0]
              have b4 : (t.f0 == 4) = false := by simp [h0]
              have b5 : (t.f0 == 5) = false := by simp [h0]
              have b6 : (t.f0 == 6) = false := by simp [h0]
              go_wp2_with (first | (go_at_call 142; refine (push_calls HM6.out HR6.out (by have := HXL.out; omega)).mono ?_; rintro e w7 ⟨rfl, v7, hm7, hs7⟩; have HM7 := mk hm7; have ST7 := mk (ST6.out.trans hs7); clear hm7 hs7))
              first | go_end0 | ((try simp only [Exit.inBlock, Exit.then]); refine bodyPost_ret (results_none rfl _ _ _) rfl ?_)
              exact ⟨rfl, v7, by rw [HVL.out]; exact HM7.out, ST7.out⟩
            · have HVL := mk (show opF t.f0 t.f2 (valZs (look names vals) t.f3) (holdZs (look names vals) t.f4) = false by simp [opF, h0])
              have HR6 := mk (fresh_tru (w0 := w0) (W := wr) (g := g) (vs := v1) false)
              clear HM ST
              have b0 : (t.f0 == 0) = false := by simp [h0]
              have b1 : (t.f0 == 1) = true := by simp [h0]
              have b2 : (t.f0 == 2) = false := by simp [h0]
              have b3 : (t.f0 == 3) = false := by simp [h0]
              have b4 : (t.f0 == 4) = false := by simp [h0]
              have b5 : (t.f0 == 5) = false := by simp [h0]
              have b6 : (t.f0 == 6) = false := by simp [h0]
              go_wp2_with (first | (go_at_call 142; refine (push_calls HM6.out HR6.out (by have := HXL.out; omega)).mono ?_; rintro e w7 ⟨rfl, v7, hm7, hs7⟩; have HM7 := mk hm7; have ST7 := mk (ST6.out.trans hs7); clear hm7 hs7))
              first | go_end0 | ((try simp only [Exit.inBlock, Exit.then]); refine bodyPost_ret (results_none rfl _ _ _) rfl ?_)
              exact ⟨rfl, v7, by rw [HVL.out]; exact HM7.out, ST7.out⟩
          · have HVL := mk (show opF t.f0 t.f2 (valZs (look names vals) t.f3) (holdZs (look names vals) t.f4) = !(holdZ (look names vals) a) by simp [opF, h0, e4, holdZs])
            simp only [e3, e4, valZs, holdZs, List.map_nil, List.append_nil, List.map_cons] at HM
            generalize holdZ (look names vals) a = za at HM HVL
            have b0 : (t.f0 == 0) = false := by simp [h0]
            have b1 : (t.f0 == 1) = false := by simp [h0]
            have b2 : (t.f0 == 2) = true := by simp [h0]
            have b3 : (t.f0 == 3) = false := by simp [h0]
            have b4 : (t.f0 == 4) = false := by simp [h0]
            have b5 : (t.f0 == 5) = false := by simp [h0]
            have b6 : (t.f0 == 6) = false := by simp [h0]
            go_wp2_with (first | (go_at_call 143; refine (holds_calls HM.out (by have := HXL.out; omega)).mono ?_; rintro e w6 ⟨rfl, v6, hm6, hs6⟩; have HR6 := mk (fresh_tru (w0 := w0) (W := w6) (g := g) (vs := v6) (!za)); have HM6 := mk hm6; have ST6 := mk (ST.out.trans hs6); clear hm6 hs6 HM) | (go_at_call 142; refine (push_calls HM6.out HR6.out (by have := HXL.out; omega)).mono ?_; rintro e w7 ⟨rfl, v7, hm7, hs7⟩; have HM7 := mk hm7; have ST7 := mk (ST6.out.trans hs7); clear hm7 hs7))
            first | go_end0 | ((try simp only [Exit.inBlock, Exit.then]); refine bodyPost_ret (results_none rfl _ _ _) rfl ?_)
            exact ⟨rfl, v7, by rw [HVL.out]; exact HM7.out, ST7.out⟩
          · have HVL := mk (show opF t.f0 t.f2 (valZs (look names vals) t.f3) (holdZs (look names vals) t.f4) = connB t.f0 (holdZ (look names vals) a) (holdZ (look names vals) b) by rcases h0 with h | h | h | h <;> simp [opF, h, e4, holdZs])
            simp only [e3, e4, valZs, holdZs, List.map_nil, List.append_nil, List.map_cons] at HM
            generalize holdZ (look names vals) a = za at HM HVL
            generalize holdZ (look names vals) b = zb at HM HVL
            rw [show xs ++ [SV.tru za, SV.tru zb] = (xs ++ [SV.tru za]) ++ [SV.tru zb] by simp] at HM
            have HCN := mk (conn_val h0 za zb)
            rcases h0 with h0 | h0 | h0 | h0
            · have HOP := mk h0
              have b0 : (t.f0 == 0) = false := by simp [h0]
              have b1 : (t.f0 == 1) = false := by simp [h0]
              have b2 : (t.f0 == 2) = false := by simp [h0]
              have b3 : (t.f0 == 3) = true := by simp [h0]
              have b4 : (t.f0 == 4) = false := by simp [h0]
              have b5 : (t.f0 == 5) = false := by simp [h0]
              have b6 : (t.f0 == 6) = false := by simp [h0]
              rw [h0] at BK
              simp only [h0] at BK HCN
              clear h0
              go_wp2_with (first | (go_at_call 143; refine (holds_calls HM.out (by have := HXL.out; simp; omega)).mono ?_; rintro e w5 ⟨rfl, v5, hm5, hs5⟩; have HM5 := mk hm5; have ST5 := mk (ST.out.trans hs5); have BK5 := mk (hs5.blk HM.out BK.out NBg.out kq2); clear hm5 hs5 HM) | (go_at_call 143; refine (holds_calls HM5.out (by have := HXL.out; omega)).mono ?_; rintro e w6 ⟨rfl, v6, hm6, hs6⟩; have HM8 := mk hm6; have ST8 := mk (ST5.out.trans hs6); have BK8 := mk (hs6.blk HM5.out BK5.out NBg.out kq2); clear hm6 hs6 HM5; obtain ⟨_, _, _, _, _, _, _, _, _, _⟩ := c5_ BK8.out) | (go_at_call 144; refine (truth_connected.calls 3 za zb _ _ HCN.out).mono ?_; rintro e w9 ⟨rfl, ⟨mm, hw9⟩⟩; have hb9 : Below w6.heap.size w6 w9 := kq43; have HR6 := mk (fresh_tru (w0 := w0) (W := w9) (g := g) (vs := v6) (connB 3 za zb)); have HM6 := mk (HM8.out.then_ hb9); have ST6 := mk (ST8.out.trans (Step.below g v6 hb9)); clear hw9 hb9) | (go_at_call 142; refine (push_calls HM6.out HR6.out (by have := HXL.out; omega)).mono ?_; rintro e w7 ⟨rfl, v7, hm7, hs7⟩; have HM7 := mk hm7; have ST7 := mk (ST6.out.trans hs7); clear hm7 hs7))
              first | go_end0 | ((try simp only [Exit.inBlock, Exit.then]); refine bodyPost_ret (results_none rfl _ _ _) rfl ?_)
              exact ⟨rfl, v7, by rw [HVL.out, HOP.out]; exact HM7.out, ST7.out⟩
            · have HOP := mk h0
              have b0 : (t.f0 == 0) = false := by simp [h0]
              have b1 : (t.f0 == 1) = false := by simp [h0]
              have b2 : (t.f0 == 2) = false := by simp [h0]
              have b3 : (t.f0 == 3) = false := by simp [h0]
              have b4 : (t.f0 == 4) = true := by simp [h0]
              have b5 : (t.f0 == 5) = false := by simp [h0]
              have b6 : (t.f0 == 6) = false := by simp [h0]
              rw [h0] at BK
              simp only [h0] at BK HCN
              clear h0
              go_wp2_with (first | (go_at_call 143; refine (holds_calls HM.out (by have := HXL.out; simp; omega)).mono ?_; rintro e w5 ⟨rfl, v5, hm5, hs5⟩; have HM5 := mk hm5; have ST5 := mk (ST.out.trans hs5); have BK5 := mk (hs5.blk HM.out BK.out NBg.out kq2); clear hm5 hs5 HM) | (go_at_call 143; refine (holds_calls HM5.out (by have := HXL.out; omega)).mono ?_; rintro e w6 ⟨rfl, v6, hm6, hs6⟩; have HM8 := mk hm6; have ST8 := mk (ST5.out.trans hs6); have BK8 := mk (hs6.blk HM5.out BK5.out NBg.out kq2); clear hm6 hs6 HM5; obtain ⟨_, _, _, _, _, _, _, _, _, _⟩ := c5_ BK8.out) | (go_at_call 144; refine (truth_connected.calls 4 za zb _ _ HCN.out).mono ?_; rintro e w9 ⟨rfl, ⟨mm, hw9⟩⟩; have hb9 : Below w6.heap.size w6 w9 := kq43; have HR6 := mk (fresh_tru (w0 := w0) (W := w9) (g := g) (vs := v6) (connB 4 za zb)); have HM6 := mk (HM8.out.then_ hb9); have ST6 := mk (ST8.out.trans (Step.below g v6 hb9)); clear hw9 hb9) | (go_at_call 142; refine (push_calls HM6.out HR6.out (by have := HXL.out; omega)).mono ?_; rintro e w7 ⟨rfl, v7, hm7, hs7⟩; have HM7 := mk hm7; have ST7 := mk (ST6.out.trans hs7); clear hm7 hs7))
              first | go_end0 | ((try simp only [Exit.inBlock, Exit.then]); refine bodyPost_ret (results_none rfl _ _ _) rfl ?_)
              exact ⟨rfl, v7, by rw [HVL.out, HOP.out]; exact HM7.out, ST7.out⟩
            · have HOP := mk h0
              have b0 : (t.f0 == 0) = false := by simp [h0]
              have b1 : (t.f0 == 1) = false := by simp [h0]
              have b2 : (t.f0 == 2) = false := by simp [h0]
              have b3 : (t.f0 == 3) = false := by simp [h0]
              have b4 : (t.f0 == 4) = false := by simp [h0]
              have b5 : (t.f0 == 5) = true := by simp [h0]
              have b6 : (t.f0 == 6) = false := by simp [h0]
              rw [h0] at BK
              simp only [h0] at BK HCN
              clear h0
              go_wp2_with (first | (go_at_call 143; refine (holds_calls HM.out (by have := HXL.out; simp; omega)).mono ?_; rintro e w5 ⟨rfl, v5, hm5, hs5⟩; have HM5 := mk hm5; have ST5 := mk (ST.out.trans hs5); have BK5 := mk (hs5.blk HM.out BK.out NBg.out kq2); clear hm5 hs5 HM) | (go_at_call 143; refine (holds_calls HM5.out (by have := HXL.out; omega)).mono ?_; rintro e w6 ⟨rfl, v6, hm6, hs6⟩; have HM8 := mk hm6; have ST8 := mk (ST5.out.trans hs6); have BK8 := mk (hs6.blk HM5.out BK5.out NBg.out kq2); clear hm6 hs6 HM5; obtain ⟨_, _, _, _, _, _, _, _, _, _⟩ := c5_ BK8.out) | (go_at_call 144; refine (truth_connected.calls 5 za zb _ _ HCN.out).mono ?_; rintro e w9 ⟨rfl, ⟨mm, hw9⟩⟩; have hb9 : Below w6.heap.size w6 w9 := kq43; have HR6 := mk (fresh_tru (w0 := w0) (W := w9) (g := g) (vs := v6) (connB 5 za zb)); have HM6 := mk (HM8.out.then_ hb9); have ST6 := mk (ST8.out.trans (Step.below g v6 hb9)); clear hw9 hb9) | (go_at_call 142; refine (push_calls HM6.out HR6.out (by have := HXL.out; omega)).mono ?_; rintro e w7 ⟨rfl, v7, hm7, hs7⟩; have HM7 := mk hm7; have ST7 := mk (ST6.out.trans hs7); clear hm7 hs7))
              first | go_end0 | ((try simp only [Exit.inBlock, Exit.then]); refine bodyPost_ret (results_none rfl _ _ _) rfl ?_)
              exact ⟨rfl, v7, by rw [HVL.out, HOP.out]; exact HM7.out, ST7.out⟩
            · have HOP := mk h0
              have b0 : (t.f0 == 0) = false := by simp [h0]
              have b1 : (t.f0 == 1) = false := by simp [h0]
              have b2 : (t.f0 == 2) = false := by simp [h0]
              have b3 : (t.f0 == 3) = false := by simp [h0]
              have b4 : (t.f0 == 4) = false := by simp [h0]
              have b5 : (t.f0 == 5) = false := by simp [h0]
              have b6 : (t.f0 == 6) = true := by simp [h0]
              rw [h0] at BK
              simp only [h0] at BK HCN
              clear h0
              go_wp2_with (first | (go_at_call 143; refine (holds_calls HM.out (by have := HXL.out; simp; omega)).mono ?_; rintro e w5 ⟨rfl, v5, hm5, hs5⟩; have HM5 := mk hm5; have ST5 := mk (ST.out.trans hs5); have BK5 := mk (hs5.blk HM.out BK.out NBg.out kq2); clear hm5 hs5 HM) | (go_at_call 143; refine (holds_calls HM5.out (by have := HXL.out; omega)).mono ?_; rintro e w6 ⟨rfl, v6, hm6, hs6⟩; have HM8 := mk hm6; have ST8 := mk (ST5.out.trans hs6); have BK8 := mk (hs6.blk HM5.out BK5.out NBg.out kq2); clear hm6 hs6 HM5; obtain ⟨_, _, _, _, _, _, _, _, _, _⟩ := c5_ BK8.out) | (go_at_call 144; refine (truth_connected.calls 6 za zb _ _ HCN.out).mono ?_; rintro e w9 ⟨rfl, ⟨mm, hw9⟩⟩; have hb9 : Below w6.heap.size w6 w9 := kq43; have HR6 := mk (fresh_tru (w0 := w0) (W := w9) (g := g) (vs := v6) (connB 6 za zb)); have HM6 := mk (HM8.out.then_ hb9); have ST6 := mk (ST8.out.trans (Step.below g v6 hb9)); clear hw9 hb9) | (go_at_call 142; refine (push_calls HM6.out HR6.out (by have := HXL.out; omega)).mono ?_; rintro e w7 ⟨rfl, v7, hm7, hs7⟩; have HM7 := mk hm7; have ST7 := mk (ST6.out.trans hs7); clear hm7 hs7))
              first | go_end0 | ((try simp only [Exit.inBlock, Exit.then]); refine bodyPost_ret (results_none rfl _ _ _) rfl ?_)
              exact ⟨rfl, v7, by rw [HVL.out, HOP.out]; exact HM7.out, ST7.out⟩
          · have HVL := mk (show opF t.f0 t.f2 (valZs (look names vals) t.f3) (holdZs (look names vals) t.f4) = relB t.f0 t.f2 (valZ (look names vals) u) (valZ (look names vals) v) by rcases h0 with h | h | h | h | h | h | ⟨h, _⟩ <;> simp [opF, h, e3, valZs])
            simp only [e3, e4, valZs, holdZs, List.map_nil, List.append_nil, List.map_cons] at HM
            have HBA := mk (valZ_big (look names vals) hbig _ u (FineTs_mem HFs.out u (by rw [e3]; simp)))
            have HBB := mk (valZ_big (look names vals) hbig _ v (FineTs_mem HFs.out v (by rw [e3]; simp)))
            have HSA := mk (show sizeT u ≤ 1000 by have h1 := sizeTs_mem u (show u ∈ t.f3 by rw [e3]; simp); have := HT.out; omega)
            have HSB := mk (show sizeT v ≤ 1000 by have h1 := sizeTs_mem v (show v ∈ t.f3 by rw [e3]; simp); have := HT.out; omega)
            generalize valZ (look names vals) u = za at HM HVL HBA
            generalize valZ (look names vals) v = zb at HM HVL HBB
            rw [show xs ++ [SV.num za, SV.num zb] = (xs ++ [SV.num za]) ++ [SV.num zb] by simp] at HM
            have HRu := mk (show Kd.C k66 w0 A ([u, v] : List S66).length [u, v] from by rw [← e3]; exact HR.out)
            have HCu := mk (show ([u, v] : List S66).length ≤ c0 from by rw [← e3]; exact HC.out)
            have HQu := mk (show Kd.C k39 w0 B ([] : List S39).length [] from by rw [← e4]; exact HQR.out)
            have HO := mk h0
            have b0 : (t.f0 == 0) = false := by rcases h0 with h | h | h | h | h | h | ⟨h, _⟩ <;> simp [h]
            have b1 : (t.f0 == 1) = false := by rcases h0 with h | h | h | h | h | h | ⟨h, _⟩ <;> simp [h]
            have b2 : (t.f0 == 2) = false := by rcases h0 with h | h | h | h | h | h | ⟨h, _⟩ <;> simp [h]
            have b3 : (t.f0 == 3) = false := by rcases h0 with h | h | h | h | h | h | ⟨h, _⟩ <;> simp [h]
            have b4 : (t.f0 == 4) = false := by rcases h0 with h | h | h | h | h | h | ⟨h, _⟩ <;> simp [h]
            have b5 : (t.f0 == 5) = false := by rcases h0 with h | h | h | h | h | h | ⟨h, _⟩ <;> simp [h]
            have b6 : (t.f0 == 6) = false := by rcases h0 with h | h | h | h | h | h | ⟨h, _⟩ <;> simp [h]
            clear h0
            go_wp2_with (first | (go_at_call 145; refine (number_calls HM.out (by have := HXL.out; simp; omega)).mono ?_; rintro e w5 ⟨nb, db, Ab, cb, rfl, hnb, v5, hm5, hv5, hs5⟩; have HM5 := mk hm5; have HVB := mk hv5; have HNB := mk hnb; have ST5 := mk (ST.out.trans hs5); have BK5 := mk (hs5.blk HM.out BK.out NBg.out kq2); clear hnb hm5 hv5 hs5 HM) | (go_at_call 145; refine (number_calls HM5.out (by have := HXL.out; omega)).mono ?_; rintro e w8 ⟨na, da, Aa, ca, rfl, hna, v8, hm8, hv8, hs8⟩; have HM8 := mk hm8; have HVA := mk hv8; have HVB8 := mk (V_step HVB.out hs8); have HNA := mk hna; have ST8 := mk (ST5.out.trans hs8); have BK8 := mk (hs8.blk HM5.out BK5.out NBg.out kq2); clear hna hm8 hv8 hs8; obtain ⟨_, _, _, _, _, _, _, _, _, _⟩ := c5_ BK8.out) | ((with_reducible refine gate_dst (N := 10) rfl ?_); refine box_event ?hg (N := 10) ?hd (cs := #[.bool false, .slice none 0 0]) (t := 172) ?hr ?_; (case hd => rfl); (case hg => rfl); (case hr => exact kq6); intro g6 hgb w9 hbox hb; have BG9 := mk (blk_below BK8.out hb); have hn3 := (show gb ≠ g6 from by rw [hgb]; exact Nat.ne_of_lt (blk_lt BK8.out)); have HB9 := mk hb; have BK6 := mk hbox; have GE6 := mk (Nat.le_of_eq hgb.symm); clear hb hbox hgb; obtain ⟨_, _, _, _⟩ := d2_ BK6.out) | ((with_reducible refine gate_dst (N := 11) rfl ?_); refine box_event ?hg (N := 11) ?hd (cs := #[.bool false, .slice none 0 0]) (t := 172) ?hr ?_; (case hd => rfl); (case hg => rfl); (case hr => exact kq6); intro g7 hgb w10 hbox hb; have hn4 := (show gb ≠ g7 from by rw [hgb]; exact Nat.ne_of_lt (blk_lt BG9.out)); have BG10 := mk (blk_below BG9.out hb); have NB67 := mk (show g6 ≠ g7 from by rw [hgb]; exact Nat.ne_of_lt (blk_lt BK6.out)); have NB76 := mk (Ne.symm NB67.out); have hn1 := NB67.out; have hn2 := NB76.out; have HB10 := mk (below_then HB9.out (below_size HB9.out) hb); have BK7 := mk hbox; have GE7 := mk (Nat.le_trans (below_size HB9.out) (Nat.le_of_eq hgb.symm)); have BK61 := mk (blk_below BK6.out hb); clear hb hbox hgb; obtain ⟨_, _, _, _⟩ := d2_ BK61.out; obtain ⟨_, _, _, _⟩ := d2_ BK7.out; obtain ⟨_, _, _, _, _, _, _, _, _, _⟩ := c5_ BG10.out) | (go_at_call 146; obtain ⟨kk, hrel⟩ := related_num (nm := t.f1) (l := [u, v]) (q := []) HO.out HNA.out HNB.out (by have := num_len HNA.out HBA.out; have := HSA.out; omega) (by have := num_len HNB.out HBB.out; have := HSB.out; omega); obtain ⟨rb, hrb⟩ : ∃ rb, relB t.f0 t.f2 za zb = rb := ⟨_, rfl⟩; rw [hrb] at hrel; replace HVL := mk (HVL.out.trans hrb); clear hrb; have HBW := mk (show Below w8.heap.size w8 ((((w10.setCell ⟨g6, 0, none⟩ (.bool nb)).setCell ⟨g6, 1, none⟩ (.slice Ab db.length cb)).setCell ⟨g7, 0, none⟩ (.bool na)).setCell ⟨g7, 1, none⟩ (.slice Aa da.length ca)) from below_set (below_set (below_set (below_set HB10.out GE6.out) GE6.out) GE7.out) GE7.out); refine (truth_related.calls kk t.f0 t.f1 t.f2 A c0 [u, v] B d0 [] na Aa ca da nb Ab cb db rb _ (Kd.C_below HRu.out (HM8.out.then_ HBW.out).below) HCu.out (Kd.C_below HQu.out (HM8.out.then_ HBW.out).below) (Nat.zero_le _) ((Kd.V_reads' (Kd.V_below HVA.out HBW.out)).2.2) ((Kd.V_reads' HVA.out).2.1) ((Kd.V_reads' (Kd.V_below HVB8.out HBW.out)).2.2) ((Kd.V_reads' HVB8.out).2.1) hrel).mono ?_; rintro e w12 ⟨rfl, hb12⟩; have HR6 := mk (fresh_tru (w0 := w0) (W := w12) (g := g) (vs := v8) rb); have HM6 := mk ((HM8.out.then_ HBW.out).then_ hb12); have ST6 := mk ((ST8.out.trans (Step.below g v8 HBW.out)).trans (Step.below g v8 hb12)); clear hb12 hrel) | (go_at_call 142; refine (push_calls HM6.out HR6.out (by have := HXL.out; omega)).mono ?_; rintro e w7 ⟨rfl, v7, hm7, hs7⟩; have HM7 := mk hm7; have ST7 := mk (ST6.out.trans hs7); clear hm7 hs7))
            first | go_end0 | ((try simp only [Exit.inBlock, Exit.then]); refine bodyPost_ret (results_none rfl _ _ _) rfl ?_)
            exact ⟨rfl, v7, by rw [HVL.out]; exact HM7.out, ST7.out⟩
end Go.Proofs.Ytjknpmibdkoklaa.U
set_option maxRecDepth 100000
namespace Go.Proofs.Ytjknpmibdkoklaa.U
open Go.RowKit Go.Proofs.YtjknpmibdkoklaaW.PrintWords Go.Proofs.YtjknpmibdkoklaaW.PrintLast Go.Proofs.YtjknpmibdkoklaaW.PrintMore
open Aside0 (mk)
def trueS : ByteArray := ⟨#[116, 114, 117, 101]⟩
def falseS : ByteArray := ⟨#[102, 97, 108, 115, 101]⟩
theorem ta_no (b : Bool) (w : World) : (Instr.typeAssert (.iface 4 (.bool b)) 20 172 true).run Try.prog w = .ok (.tuple #[.agg #[.bool false, .slice none 0 0], .bool false]) w := by rfl
theorem ta_yes (b : Bool) (w : World) : (Instr.typeAssert (.iface 4 (.bool b)) 20 4 true).run Try.prog w = .ok (.tuple #[.bool b, .bool true]) w := by rfl
set_option maxHeartbeats 4000000 in
theorem told_tru (b : Bool) (w : World) : Calls Try.prog 140 #[.iface 4 (.bool b)] w fun e w' => e = .returned (.string (if b then trueS else falseS)) ∧ Below w.heap.size w w' := by
  have h1 := ta_no
  have h2 := ta_yes
  have HB := mk (Below.refl w.heap.size w)
  cases b
  all_goals
    go_enter Try.func140, Try.ntmps140
    go_wp2
    go_ret
    exact ⟨rfl, kq4⟩
theorem catch_idle (p q : Addr) (w : World) :
    CallsD Try.prog 139 #[.pointer (some p), .pointer (some q)] .returning w fun e u' w' => e = .returned (.tuple #[]) ∧ u' = .returning ∧ w' = w := by
  refine callsD_of_wpS Try.func139 rfl fun c₀ cs hu => ?_
  apply wpS_seq
  apply wpS_region
  simp [wpOpsS, go_sem, recoverD, hu, Try.ntmps139, Exit.thenS]
  refine wpS_cond (t := false) (by simp [Act.eval, Array.replicate]) ?_
  simp only [Bool.false_eq_true, if_false]
  refine wpS_of_wp (wp_skip ?_)
  cases c₀
  simp_all [bodyPostS, results, Try.results139]
theorem put1_ {w : World} {g : Nat} {t : TypeId} {a a' : Value} (h : w.heap[g]? = some (.cells #[a] t (0, 0))) : (w.setCell ⟨g, 0, none⟩ a').heap[g]? = some (.cells #[a'] t (0, 0)) := blk_put (cs := #[a]) h 0 a' rfl
theorem far1_ {w : World} {g g' : Nat} {o : Obj} {a : Value} (h : w.heap[g']? = some o) (hn : g' ≠ g) : (w.setCell ⟨g, 0, none⟩ a).heap[g']? = some o := (Below.heap_setCell _ ⟨g, 0, none⟩ a g' hn).trans h
theorem e1_ {w : World} {g : Nat} {t : TypeId} {a : Value} (h : w.heap[g]? = some (.cells #[a] t (0, 0))) : w.cell? ⟨g, 0, none⟩ = some a ∧ w.frozen? ⟨g, 0, none⟩ = false := ⟨(blk_cell h 0).trans rfl, blk_frozen h 0⟩
structure Vals (w0 : World) (names : List ByteArray) (vals : List Int) (An Av : Option Addr) (cn cv : Nat) : Prop where
  hn : Kd.C Kd.string w0 An names.length names
  hcn : names.length ≤ cn
  hv : Kd.C (Kd.int .i64) w0 Av vals.length vals
  hcv : vals.length ≤ cv
  hnl : names.length < 4611686018427387904
  hin : ∀ s, -9223372036854775808 ≤ look names vals s ∧ look names vals s < 9223372036854775808
  hbig : ∀ s, (look names vals s).natAbs < 4294967296 ^ 2
set_option maxHeartbeats 4000000 in
theorem form1_calls {w0 w : World} {g gp gf : Nat} {names : List ByteArray} {vals : List Int} {An Av : Option Addr} {cn cv : Nat} (hV : Vals w0 names vals An Av cn cv) {vs : Value} (t : S39) (hs : sizeF t ≤ 1000) (hft : FineF (Told names vals) t) (A : Option Addr) (c0 : Nat) (B : Option Addr) (d0 : Nat) (hr : Kd.C k66 w0 A t.f3.length t.f3) (hc0 : t.f3.length ≤ c0) (hq : Kd.C k39 w0 B t.f4.length t.f4) (hd0 : t.f4.length ≤ d0)
    (hM : Mach w0 w g X0 (.slice An names.length cn) (.slice Av vals.length cv) vs []) (hp : w.heap[gp]? = some (.cells #[.pointer (some ⟨g, 0, none⟩)] 127 (0, 0))) (hf : w.heap[gf]? = some (.cells #[.int .i64 t.f0, .string t.f1, .int .i64 t.f2, .slice A t.f3.length c0, .slice B t.f4.length d0] 39 (0, 0))) :
    Calls Try.prog 100 #[.pointer (some ⟨gp, 0, none⟩), .pointer (some ⟨gf, 0, none⟩)] w fun e w' => e = .returned (.tuple #[]) ∧ ∃ vs', Mach w0 w' g X0 (.slice An names.length cn) (.slice Av vals.length cv) vs' [.tru (holdZ (look names vals) t)] ∧ Step w w' g vs vs' := by
  have HM := mk hM
  have hu39 := Try.underlying39
  obtain ⟨_, _⟩ := e1_ hp
  obtain ⟨_, _, _, _, _, _, _, _, _, _⟩ := c5_ hf
  have HC := mk (mform_calls w0 g names vals An Av cn cv hV.hn hV.hcn hV.hv hV.hcv hV.hnl hV.hin hV.hbig 1000 t hs (Nat.le_refl _) hft A c0 B d0 vs [] w hM (by simp) hr hc0 hq hd0)
  clear hM hp hf hr hc0 hq hd0 hs hft hV
  go_enter Try.func100, Try.ntmps100
  go_wp2_with (first | (go_at_call 101; refine HC.out.mono ?_; rintro e w5 ⟨rfl, v5, hm5, hs5⟩; have HM5 := mk hm5; have ST5 := mk hs5; clear hm5 hs5))
  first | go_end0 | ((try simp only [Exit.inBlock, Exit.then]); refine bodyPost_ret (results_none rfl _ _ _) rfl ?_)
  exact ⟨rfl, v5, HM5.out, ST5.out⟩
set_option maxHeartbeats 8000000 in
theorem workF_calls {w0 w : World} {g gp gf : Nat} {names : List ByteArray} {vals : List Int} {An Av : Option Addr} {cn cv : Nat} (hV : Vals w0 names vals An Av cn cv) {vs : Value} (t : S39) (hs : sizeF t ≤ 1000) (hft : FineF (Told names vals) t) (A : Option Addr) (c0 : Nat) (B : Option Addr) (d0 : Nat) (hr : Kd.C k66 w0 A t.f3.length t.f3) (hc0 : t.f3.length ≤ c0) (hq : Kd.C k39 w0 B t.f4.length t.f4) (hd0 : t.f4.length ≤ d0)
    (hM : Mach w0 w g X0 (.slice An names.length cn) (.slice Av vals.length cv) vs []) (hp : w.heap[gp]? = some (.cells #[.pointer (some ⟨g, 0, none⟩)] 127 (0, 0))) (hf : w.heap[gf]? = some (.cells #[.int .i64 t.f0, .string t.f1, .int .i64 t.f2, .slice A t.f3.length c0, .slice B t.f4.length d0] 39 (0, 0))) :
    Calls Try.prog 99 #[.pointer (some ⟨g, 0, none⟩), .func (.func 100) #[] #[.pointer (some ⟨gp, 0, none⟩), .pointer (some ⟨gf, 0, none⟩)]] w fun e w' => e = .returned (.tuple #[.string (if holdZ (look names vals) t then trueS else falseS), .int .i64 0]) ∧ Below w0.heap.size w0 w' := by
  have hmf : ∀ (fn : Fn) (first cap : Array Value) (w : World), (Instr.makeFunc fn first cap).run Try.prog w = .ok (.func fn first cap) w := fun _ _ _ _ => rfl
  have HM := mk hM
  have BP := mk hp
  have BF := mk hf
  clear hM hp hf
  generalize hzz : holdZ (look names vals) t = zz
  have HZ := mk hzz
  clear hzz
  go_enter_defers Try.func99, Try.ntmps99
  go_wp2_with (first | ((with_reducible refine gate_dst (N := 4) rfl ?_); refine box_event ?hg (N := 4) ?hd (cs := #[.string (⟨#[]⟩ : ByteArray)]) (t := 9) ?hr ?_; (case hd => rfl); (case hg => rfl); (case hr => exact kq6); intro g4 hgb w4 hbox hb; have NB4 := mk (show g4 ≠ g from by rw [hgb]; exact Nat.ne_of_gt (blk_lt HM.out.cell)); have GE4 := mk (show w0.heap.size ≤ g4 from by rw [hgb]; exact below_size HM.out.below); replace HM := mk (HM.out.then_ hb); replace BP := mk (blk_below BP.out hb); replace BF := mk (blk_below BF.out hb); have BK4 := mk hbox; clear hb hbox hgb) | ((with_reducible refine gate_dst (N := 5) rfl ?_); refine box_event ?hg (N := 5) ?hd (cs := #[.int .i64 0]) (t := 23) ?hr ?_; (case hd => rfl); (case hg => rfl); (case hr => exact kq6); intro g5 hgb w5 hbox hb; have NB5 := mk (show g5 ≠ g from by rw [hgb]; exact Nat.ne_of_gt (blk_lt HM.out.cell)); have NB45 := mk (show g4 ≠ g5 from by rw [hgb]; exact Nat.ne_of_lt (blk_lt BK4.out)); have GE5 := mk (show w0.heap.size ≤ g5 from by rw [hgb]; exact below_size HM.out.below); replace BK4 := mk (blk_below BK4.out hb); replace HM := mk (HM.out.then_ hb); replace BP := mk (blk_below BP.out hb); replace BF := mk (blk_below BF.out hb); have BK5 := mk hbox; clear hb hbox hgb) | (go_at_call 100; refine (form1_calls hV t hs hft A c0 B d0 hr hc0 hq hd0 HM.out BP.out BF.out).mono ?_; rintro e w6 ⟨rfl, v6, hm6, hs6⟩; rw [HZ.out] at hm6; replace BK4 := mk (hs6.blk HM.out BK4.out NB4.out kq2); replace BK5 := mk (hs6.blk HM.out BK5.out NB5.out kq2); have HM6 := mk hm6; clear hm6 hs6) | (go_at_call 141; refine (pop_calls (xs := []) HM6.out (by simp)).mono ?_; rintro e w7 ⟨p, rfl, v7, hm7, hp7, hs7⟩; cases (show p = _ from hp7); replace BK4 := mk (hs7.blk HM6.out BK4.out NB4.out kq2); replace BK5 := mk (hs7.blk HM6.out BK5.out NB5.out kq2); have HB7 := mk hm7.below; clear hm7 hp7 hs7) | (go_at_call 140; refine (told_tru zz _).mono ?_; rintro e w8 ⟨rfl, hb8⟩; replace BK4 := mk (blk_below BK4.out hb8); replace BK5 := mk (blk_below BK5.out hb8); have HB8 := mk (below_step HB7.out hb8); clear hb8; obtain ⟨_, _⟩ := e1_ BK4.out; obtain ⟨_, _⟩ := e1_ BK5.out; have hne := NB45.out; have hne2 := Ne.symm NB45.out))
  all_goals
    refine leaves_cons (f := 139) (args := #[.pointer (some ⟨g4, 0, none⟩), .pointer (some ⟨g5, 0, none⟩)]) (by simp) (by simp [go_sem]) ?_
    refine (catch_idle ⟨g4, 0, none⟩ ⟨g5, 0, none⟩ _).mono ?_
    rintro e u' w'' ⟨rfl, rfl, rfl⟩
    have k4 := fun s : Value => (blk_cell (far1_ (a := .int .i64 0) (put1_ (a' := s) BK4.out) hne) 0).trans (show (#[s] : Array Value)[0]? = some s from rfl)
    have k5 := fun s : Value => (blk_cell (put1_ (a' := .int .i64 0) (far1_ (a := s) BK5.out hne2)) 0).trans (show (#[Value.int .i64 0] : Array Value)[0]? = some (.int .i64 0) from rfl)
    have HBE : ∀ s : Value, Below w0.heap.size w0 ((w8.setCell ⟨g4, 0, none⟩ s).setCell ⟨g5, 0, none⟩ (.int .i64 0)) := fun s => below_set (below_set HB8.out GE4.out) GE5.out
    simp [Leaves, settle, results, Try.results99, go_sem, k4, k5]
    exact HBE _
end Go.Proofs.Ytjknpmibdkoklaa.U
set_option maxRecDepth 100000
namespace Go.Proofs.Ytjknpmibdkoklaa.U
open Go.RowKit Go.Proofs.YtjknpmibdkoklaaW.PrintWords Go.Proofs.YtjknpmibdkoklaaW.PrintLast Go.Proofs.YtjknpmibdkoklaaW.PrintMore
open Aside0 (mk)
def tX (r d : Int) : Int := Go.bits .or .u64 (IntKind.u64.wrap (r * 4294967296)) (IntKind.u64.wrap d)
def tQ (x : Int) : Int := IntKind.u64.wrap (Int.tdiv x 10) % 4294967296
def tR (x : Int) : Int := Int.tmod x 10
def tB (r : Int) : Int := IntKind.u64.wrap (48 + r) % 256
def textIn : Nat → List Int → Int → List Int × Int
  | 0, l, r => (l, r)
  | i + 1, l, r => textIn i (l.set i (tQ (tX r (rd l (i : Int))))) (tR (tX r (rd l (i : Int))))
def textOut : Nat → List Int → List Int → Option (List Int)
  | 0, _, _ => none
  | k + 1, l, back => if l.length = 0 then some back else if back.length ≤ 1000000 then textOut k ((textIn l.length l 0).1.take (mtr (textIn l.length l 0).1 (textIn l.length l 0).1.length)) (back ++ [tB (textIn l.length l 0).2]) else none
def truth_whole_text.f (k : Nat) (a0 : Bool) (l0 : List Int) : Option ByteArray := if l0.length ≤ 1000000 then (textOut k l0 []).bind fun back => if back.length = 0 then some ⟨#[48]⟩ else if back.length ≤ 1000000 then some (strOfNums (if a0 then back ++ [45] else back).reverse) else none else none
theorem infoU8 : (Try.prog.info? 5).map (fun i => (i.zero, i.size, i.bytes)) = some (some (.int .u8 0), 1, 1) := by kernel_rfl
theorem fldw_ (x0 x1 : Value) (W : World) : (Instr.field 172 (.agg #[x0, x1]) 1).run Try.prog W = .ok x1 W := by kernel_rfl
attribute [local go_sem] fldw_
theorem textIn_len : ∀ (n : Nat) (l : List Int) (r : Int), (textIn n l r).1.length = l.length
  | 0, _, _ => rfl
  | n + 1, l, r => by rw [textIn, textIn_len n, List.length_set]
theorem made_take {L : List Int} {m : Nat} {A1 : Option Addr} {c1 base : Nat} {w : World} (hm : m ≤ L.length) (hR : Kd.R (Kd.int .u32) 185 w base (fun _ => True) (.slice A1 L.length c1) L) :
    Calls Try.prog 189 #[.bool false, .slice A1 m c1] w fun e w' => e = .returned (.agg #[.bool false, .slice A1 (mtr (L.take m) m) c1]) ∧ Below w.heap.size w w' := by
  have hl : (L.take m).length = m := by rw [List.length_take]; omega
  have hc := (Kd.R_reads' hR).2.1
  have h2 := Kd.V_mk (e := 185) (base := w.heap.size) (c := c1) (by rw [hl]; omega) (Kd.F_take (m := m) (Kd.R_F hR) hm)
  have h3 := truth_made.very false (fun _ => True) A1 c1 (L.take m) _ _ w h2 rfl
  rw [hl] at h3
  exact h3.mono fun e w' ⟨he, _, hb⟩ => ⟨he, hb⟩
theorem grownBy_put {w : World} {g n : Nat} (d : Array Int) : w.grownBy (Sort.putRow (Value.int .u8) (Sort.ahead w n) g 0 d) (some g) := by
  refine ⟨rfl, rfl, rfl, by simp, fun k hk hne => ?_⟩
  have : g ≠ k := fun e => hne (by rw [e])
  simp [Sort.putRow, Sort.mapBlock, Sort.ahead, Array.getElem?_modify, this]
theorem reverse_bytes {w0 w : World} {A : Option Addr} {n c : Nat} {B : List Int} (hR : Kd.R (Kd.int .u8) 5 w w0.heap.size (fun _ => True) (.slice A n c) B) (hp : 0 < B.length) (hB : Below w0.heap.size w0 w) :
    Calls Try.prog 192 #[.slice A n c] w fun e w' => e = .returned (.tuple #[]) ∧ (convert 216 9 (.slice A n c)).run Try.prog w' = .ok (.string (strOfNums B.reverse)) w' ∧ Below w0.heap.size w0 w' := by
  obtain rfl := (Kd.R_reads' hR).1
  obtain ⟨g, cap, eo, hbase, hlt, _, _⟩ := Kd.R_form hR hp
  have hc := (Kd.R_reads' hR).2
  cases eo
  have hmax : B.length ≤ 9223372036854775807 := (Kd.reads_of_C (enc := Value.int .u8) (d := (0 : Int)) (h1 := fun _ => rfl) hc.2).2.1
  have hH : Sort.Holds (Value.int .u8) w g 0 B.toArray := fun j hj => by
    have hj' : j < B.length := by simpa using hj
    obtain ⟨a, b⟩ := Kd.R_celln 0 hR (j : Int) kq1 kq1
    rw [Int.toNat_natCast] at a b
    rw [Nat.zero_add]
    refine ⟨a.trans ?_, b⟩
    rw [getElem!_pos _ j hj]
    simp [rdOf, List.getD_eq_getElem?_getD, hj']
  refine (AnyE.slices_Reverse Try.laysE35 (Value.int .u8) (fun _ => rfl) g 0 c B w hH hmax).mono fun e w' ⟨he, n, hw⟩ => ⟨he, ?_, ?_⟩
  · have h2 := Sort.holds_putRow (Value.int .u8) (Sort.ahead w n) g 0 B.toArray B.reverse.toArray (Sort.holds_ahead (Value.int .u8) w n g 0 B.toArray hH) (by simp)
    rw [← hw] at h2
    refine string_of_reads Try.underlying216 Try.underlying5 Try.underlying9 ⟨by simp, hmax, fun _ => ⟨_, rfl, fun j hj => ?_⟩⟩
    have h3 := (h2 j (by simpa using hj)).1
    rw [getElem!_pos _ j (by simpa using hj)] at h3
    rw [Nat.zero_add] at h3
    rw [add_plain]
    refine h3.trans ?_
    have hj2 : j < B.reverse.length := by simpa using hj
    rw [List.getD_eq_getElem?_getD, List.getElem?_eq_getElem hj2]
    simp
  · rw [hw]
    exact hB.grown (grownBy_put _) hB.size (fun k hk => by cases hk; exact hbase)
theorem set_take_ {α : Type} (l : List α) (q m : Nat) (x : α) : (l.set q x).take m = (l.take m).set q x := List.take_set
set_option maxHeartbeats 16000000 in
theorem truth_whole_text.calls (k : Nat) (a0 : Bool) (A0 : Option Addr) (c0 : Nat) (l0 : List Int) (r : ByteArray) (w : World) (hr0 : Kd.C (Kd.int .u32) w A0 l0.length l0) (hc0 : l0.length ≤ c0) (h : truth_whole_text.f k a0 l0 = some r) :
    Calls Try.prog 177 #[.agg #[.bool a0, .slice A0 l0.length c0]] w fun e w' => e = .returned (.string r) ∧ Below w.heap.size w w' := by
  have hu := Try.underlying172
  obtain ⟨i0, hi0, _, hsz, _⟩ := info_parts infoU32
  unfold truth_whole_text.f at h
  by_cases hl0 : l0.length ≤ 1000000
  · rw [if_pos hl0] at h
    obtain ⟨bk, hbk, h⟩ := Option.bind_eq_some_iff.mp h
    have HBK := mk hbk
    have HF := mk h
    have HR0 := mk hr0
    have HC0 := mk hc0
    have HL0 := mk hl0
    have HCL := mk (show slices_Clone_uint32_uint32.f l0 = some l0 from if_pos kq1)
    have HB := mk (Below.refl w.heap.size w)
    clear hr0 hc0 h hbk hl0
    go_enter Try.func177, Try.ntmps177
    go_wp2_with (first | ((with_reducible refine gate_dst (N := 1) rfl ?_); refine box_event ?hg (N := 1) ?hd (cs := #[.bool a0, .slice A0 l0.length c0]) (t := 172) ?hr ?_; (case hd => rfl); (case hg => rfl); (case hr => exact kq6); intro gb hgb w1 hbox hb; have GE1 := mk (show w.heap.size ≤ gb from by rw [hgb]; exact below_size kq4); have BK := mk hbox; replace HB := mk (below_step kq4 hb); clear hb hbox hgb; obtain ⟨_, _, _, _⟩ := c2_ BK.out) | (go_at_call 191; refine (slices_Clone_uint32_uint32.calls A0 c0 l0 l0 _ (Kd.C_below HR0.out HB.out) HC0.out HCL.out).mono ?_; rintro e w10 ⟨v10, rfl, hr10, hb10⟩; obtain ⟨A1, c1, e10⟩ := Kd.R_slice hr10; subst e10; have HO := mk (Kd.R_lower hr10 (below_size HB.out)); replace BK := mk (blk_below BK.out hb10); replace HB := mk (below_step HB.out hb10); clear hr10 hb10))
    go_loopg [3, 4] k (fun gq v3 v4 wr => ∃ (L B : List Int) (m : Nat) (A2 : Option Addr) (c2 : Nat), v3 = .slice A1 m c1 ∧ v4 = .slice A2 B.length c2 ∧ Aside0 (m ≤ L.length) ∧ Aside0 (L.length ≤ 1000000) ∧ Aside0 (textOut gq (L.take m) B = some bk) ∧ Aside0 (Kd.R (Kd.int .u32) 185 wr w.heap.size (fun _ => True) (.slice A1 L.length c1) L) ∧ Aside0 (Kd.R (Kd.int .u8) 5 wr w.heap.size (fun _ => True) (.slice A2 B.length c2) B) ∧ Aside0 (wr.heap[gb]? = some (.cells #[.bool a0, .slice A0 l0.length c0] 172 (0, 0))) ∧ Aside0 (Below w.heap.size w wr))
    case atStart => exact ⟨l0, [], l0.length, none, 0, rfl, rfl, ⟨Nat.le_refl _⟩, HL0, ⟨by rw [List.take_length]; exact HBK.out⟩, ⟨(kq23 HO)⟩, ⟨Kd.R_nil _ _ _ _ _⟩, ⟨(kq7 BK)⟩, ⟨kq4⟩⟩
    case round =>
      clear HO BK HB HBK
      obtain ⟨L, B, m, A2, c2, rfl, rfl, HM, HLL, HT, HO, HRB, BK, HB⟩ := hrel
      obtain ⟨_, _, _, _⟩ := c2_ BK.out
      have ht := HT.out
      have hlm : (L.take m).length = m := by rw [List.length_take]; have := HM.out; omega
      cases gk with
      | zero => exact absurd ht (by simp [textOut])
      | succ kq =>
        rw [textOut, hlm] at ht
        by_cases hm : m = 0
        · subst hm
          rw [if_pos rfl] at ht
          have eb := Option.some.inj ht
          subst eb
          have hf := HF.out
          clear ht HT HF
          by_cases h0 : B.length = 0
          · rw [if_pos h0] at hf
            obtain rfl := Option.some.inj hf
            obtain rfl := List.eq_nil_of_length_eq_zero h0
            clear hf h0
            go_wp2
            go_ret
            exact ⟨rfl, kq4⟩
          · rw [if_neg h0] at hf
            by_cases hbl : B.length ≤ 1000000
            · rw [if_pos hbl] at hf
              have HS := mk (Option.some.inj hf)
              have HBL := mk hbl
              have HPO := mk (show 0 < B.length by omega)
              have c49 : ((B.length : Int) == 0) = false := beq_eq_false_iff_ne.mpr kq1
              clear hf h0 hbl h
              cases a0
              · replace HS := mk (show strOfNums B.reverse = r from HS.out)
                go_wp2_with (first | (go_at_call 192; refine (reverse_bytes HRB.out HPO.out HB.out).mono ?_; rintro e w57 ⟨rfl, hcv, hb57⟩; replace HB := mk hb57; clear hb57))
                go_ret
                exact ⟨by rw [HS.out]; rfl, kq4⟩
              · replace HS := mk (show strOfNums (45 :: B.reverse) = r from by have h_ := HS.out; simpa using h_)
                go_wp2_with (first | ((with_reducible refine gate_builtin (b := .append) (xs := #[.tmp 53, .tmp 54]) rfl ?_); at_builtin; refine Kd.R_append (Kd.int .u8) (w0 := w) w.heap.size rfl (.tmp 53) (.tmp 54) 216 5 (.int .u8 0) 1 rfl Try.underlying216 infoU8 rfl kq2 kq1 (.slice A2 B.length c2) B (45) [.int .u8 (45)] (fun _ => True) (fun _ => False) rfl rfl ?aP (fun _ hk => hk.elim) ?aF ?aO ?aB ?aS ?aL ?_; (case aP => exact rfl); (case aB => exact kq45); (case aF => exact (fun _ _ => trivial)); (case aO => exact kq26 HRB); (case aS => exact kq46); (case aL => have := HBL.out; omega); intro v55 w17 ho hb hg hat; obtain ⟨A3, c3, e55⟩ := Kd.R_slice ho; subst e55; (have el : (B ++ ([45] : List Int)).length = B.length + 1 := by simp); rw [el] at ho; clear el; have n1 := mk (Kd.R_over HO.out HRB.out kq2 hg); have n2 := mk (blk_grown BK.out hg (Kd.R_ne HRB.out BK.out kq2)); have n3 := mk hb; have n4 := mk ho; clear HO BK HB HRB; have HO := n1; have BK := n2; have HB := n3; have HRB := n4; clear n1 n2 n3 n4 ho hb hg hat) | (go_at_call 192; refine (reverse_bytes HRB.out (by simp) HB.out).mono ?_; rintro e w57 ⟨rfl, hcv, hb57⟩; replace HB := mk hb57; clear hb57))
                go_ret
                exact ⟨by rw [HS.out]; rfl, kq4⟩
            · rw [if_neg hbl] at hf
              cases hf
        · rw [if_neg hm] at ht
          by_cases hbl : B.length ≤ 1000000
          · rw [if_pos hbl] at ht
            have c13 : decide ((0 : Int) < (m : Int)) = true := decide_eq_true kq1
            have hm1 : wrap64 ((m : Int) - 1) = ((m : Int) - 1) := by have := HM.out; have := HLL.out; unfold wrap64; omega
            have hm1w : (IntKind.i64.wrap ((m : Int) - 1)) = ((m : Int) - 1) := (i64_w _).trans hm1
            obtain ⟨go, co, eo, gb2, gl2, cl2, HG⟩ := Kd.R_form HO.out (by have := HM.out; omega)
            cases eo
            have GB := mk gb2
            clear gb2 gl2 HG
            generalize hTT : textIn m (L.take m) 0 = TT at ht
            have HTT := mk hTT
            have HT2 := mk ht
            have HLE := mk (rfl : L.length = L.length)
            clear ht
            go_wp2
            go_loopg [5, 6] m (fun g2 v5 v6 wr => ∃ (n : Nat) (L1 : List Int) (rr z : Int), v5 = .int .u64 rr ∧ v6 = .int .i64 z ∧ Aside0 (z = (n : Int) - 1) ∧ Aside0 (n ≤ m) ∧ Aside0 (n ≤ g2) ∧ Aside0 (L1.length = L.length) ∧ Aside0 (textIn n (L1.take m) rr = TT) ∧ Aside0 (Kd.R (Kd.int .u32) 185 wr w.heap.size (fun _ => True) (.slice (some ⟨go, 0, none⟩) L1.length c1) L1) ∧ Aside0 (Kd.R (Kd.int .u8) 5 wr w.heap.size (fun _ => True) (.slice A2 B.length c2) B) ∧ Aside0 (wr.heap[gb]? = some (.cells #[.bool a0, .slice A0 l0.length c0] 172 (0, 0))) ∧ Aside0 (Below w.heap.size w wr))
            case atStart => exact ⟨m, L, 0, (m : Int) - 1, rfl, by first | rfl | simp only [hm1w, hm1], ⟨rfl⟩, ⟨Nat.le_refl _⟩, ⟨Nat.le_refl _⟩, ⟨rfl⟩, HTT, ⟨(kq23 HO)⟩, ⟨(kq23 HRB)⟩, ⟨(kq7 BK)⟩, ⟨kq4⟩⟩
            case round =>
              clear HO HRB BK HB
              obtain ⟨n, L1, rr, z, rfl, rfl, HZ, HN, HQ, HLE, HTI, HO, HRB, BK, HB⟩ := hrel
              by_cases hn : n = 0
              · subst hn
                obtain rfl : z = -1 := by have := HZ.out; omega
                have hti := HTI.out
                rw [textIn] at hti
                subst hti
                have hl1 : (L1.take m).length = m := by rw [List.length_take]; have := HLE.out; have := HM.out; omega
                have ht2 := HT2.out
                dsimp only at ht2
                rw [hl1, List.take_take, Nat.min_eq_left (mtr_le _ _)] at ht2
                have HT3 := mk ht2
                have HML := mk (show m ≤ L1.length by have := HLE.out; have := HM.out; omega)
                have HM2 := mk (mtr_le (L1.take m) m)
                have HBL := mk hbl
                clear hl1 ht2 HT2 HT hbl HTI HTT hTT
                go_wp2_with (first | ((with_reducible refine gate_builtin (b := .append) (xs := #[.tmp 37, .tmp 41]) rfl ?_); at_builtin; refine Kd.R_append (Kd.int .u8) (w0 := w) w.heap.size rfl (.tmp 37) (.tmp 41) 216 5 (.int .u8 0) 1 rfl Try.underlying216 infoU8 rfl kq2 kq1 (.slice A2 B.length c2) B (tB rr) [.int .u8 (tB rr)] (fun _ => True) (fun _ => False) rfl rfl ?aP (fun _ hk => hk.elim) ?aF ?aO ?aB ?aS ?aL ?_; (case aP => exact rfl); (case aB => exact kq45); (case aF => exact (fun _ _ => trivial)); (case aO => exact kq26 HRB); (case aS => exact kq46); (case aL => have := HBL.out; omega); intro v42 w17 ho hb hg hat; obtain ⟨A3, c3, e42⟩ := Kd.R_slice ho; subst e42; have n1 := mk (Kd.R_over HO.out HRB.out kq2 hg); have n2 := mk (blk_grown BK.out hg (Kd.R_ne HRB.out BK.out kq2)); have n3 := mk hb; have n4 := mk ho; clear HO BK HB HRB; have HO := n1; have BK := n2; have HB := n3; have HRB := n4; clear n1 n2 n3 n4 ho hb hg hat) | (go_at_call 189; refine (made_take HML.out HO.out).mono ?_; rintro e w44 ⟨rfl, hb44⟩; replace HO := mk (Kd.R_below HO.out hb44); replace HRB := mk (Kd.R_below HRB.out hb44); replace BK := mk (blk_below BK.out hb44); replace HB := mk (below_step HB.out hb44); clear hb44))
                go_roundg kq
                case measure => exact Nat.lt_succ_self _
                case rel => exact ⟨L1, B ++ [tB rr], mtr (L1.take m) m, A3, c3, rfl, by rw [List.length_append]; rfl, ⟨by have := HML.out; have := HM2.out; omega⟩, ⟨by have := HLE.out; have := HLL.out; omega⟩, HT3, ⟨(kq23 HO)⟩, ⟨(kq23 HRB)⟩, ⟨(kq7 BK)⟩, ⟨kq4⟩⟩
              · obtain ⟨q, rfl⟩ : ∃ q, n = q + 1 := ⟨n - 1, kq1⟩
                obtain rfl : z = (q : Int) := by have := HZ.out; omega
                have hti := HTI.out
                have hqm : q < m := by have := HN.out; omega
                have hqL : q < L1.length := by have := HLE.out; have := HM.out; omega
                have hrdt : rd (L1.take m) (q : Int) = rd L1 (q : Int) := by unfold rd; simp [List.getD_eq_getElem?_getD, hqm]
                have hset : (L1.take m).set q (tQ (tX rr (rd L1 (q : Int)))) = (L1.set q (tQ (tX rr (rd L1 (q : Int))))).take m := (set_take_ _ _ _ _).symm
                rw [textIn, hrdt, hset] at hti
                have HT3 := mk hti
                have hj : wrap64 ((q : Int) - 1) = (q : Int) - 1 := by have := HLL.out; have := HLE.out; unfold wrap64; omega
                have hjw : (IntKind.i64.wrap ((q : Int) - 1)) = (q : Int) - 1 := (i64_w _).trans hj
                have c18 : decide ((q : Int) ≥ 0) = true := decide_eq_true kq1
                obtain ⟨hx, hf⟩ := Kd.R_celln 0 HO.out (q : Int) kq1 kq1
                have p0 := eq_true (show 0 ≤ (q : Int) by omega)
                have q0 := eq_true (show (q : Int) < (m : Int) by omega)
                rw [Int.toNat_natCast] at hx hf
                have HP := Kd.R_putg HO.out (q : Int) (tQ (tX rr (rd L1 (q : Int))))
                clear hti hrdt hset hqm hqL
                go_wp2_with (first | ((with_reducible refine gate_store (t := 185) (p := 36) rfl ?_); refine store_event (t := 185) (p := 36) (v := ?vo) (w1 := wr.setCell ⟨go, (q : Int).toNat, none⟩ (.int .u32 (tQ (tX rr (rd L1 (q : Int)))))) ?hg ?ho ?hn ?hr ?_; (case ho => rfl); (case hg => rfl); (case hn => rfl); (case hr => exact kq6); intro w13 hw; have hg : wr.grownBy w13 (some go) := (by rw [hw]; exact HP.2); have hp : Kd.R (Kd.int .u32) 185 w13 w.heap.size (fun _ => True) (.slice (some ⟨go, 0, none⟩) L1.length c1) (L1.set (q : Int).toNat (tQ (tX rr (rd L1 (q : Int))))) := (by rw [hw]; exact HP.1); have n1 := mk ((by rw [hw]; exact below_set HB.out GB.out : Below w.heap.size w w13)); have n2 := mk (Kd.R_over HRB.out HO.out kq2 hg); have n3 := mk (blk_grown BK.out hg (Kd.R_ne HO.out BK.out kq2)); clear HP HO HB HRB BK; have HO := mk hp; have HB := n1; have HRB := n2; have BK := n3; clear n1 n2 n3 hg hw hp))
                go_roundg q
                case measure => have := HQ.out; omega
                case rel => exact ⟨q, L1.set (q : Int).toNat (tQ (tX rr (rd L1 (q : Int)))), tR (tX rr (rd L1 (q : Int))), (q : Int) - 1, by first | rfl | (simp only [tR, tX]; done), by first | rfl | simp only [hjw, hj], ⟨rfl⟩, ⟨by have := HN.out; omega⟩, ⟨Nat.le_refl _⟩, ⟨by rw [List.length_set]; exact HLE.out⟩, HT3, ⟨by rw [List.length_set]; exact (kq23 HO)⟩, ⟨(kq23 HRB)⟩, ⟨(kq7 BK)⟩, ⟨kq4⟩⟩
          · rw [if_neg hbl] at ht
            cases ht
  · rw [if_neg hl0] at h
    cases h
end Go.Proofs.Ytjknpmibdkoklaa.U
set_option maxRecDepth 100000
namespace Go.Proofs.Ytjknpmibdkoklaa.U
open Go.RowKit Go.Proofs.YtjknpmibdkoklaaW.PrintWords Go.Proofs.YtjknpmibdkoklaaW.PrintLast Go.Proofs.YtjknpmibdkoklaaW.PrintMore
theorem take_set_lt {α : Type} (l : List α) (n : Nat) (v : α) : (l.set n v).take n = l.take n := by
  apply List.ext_getElem
  · simp
  · intro i h1 h2
    simp at h1
    rw [List.getElem_take, List.getElem_take, List.getElem_set_ne kq1]
theorem textIn_above : ∀ (n : Nat) (l : List Int) (r : Int) (j : Nat), n ≤ j → rd (textIn n l r).1 (j : Int) = rd l (j : Int)
  | 0, _, _, _, _ => rfl
  | n + 1, l, r, j, h => by
    rw [textIn, textIn_above n _ _ j kq1]
    unfold rd
    simp only [Int.toNat_natCast, List.getD_eq_getElem?_getD]
    rw [List.getElem?_set_ne kq1]
theorem or_add {a b : Nat} (hb : b < 4294967296) : (a * 4294967296) ||| b = a * 4294967296 + b := by
  have h := Nat.two_pow_add_eq_or_of_lt (i := 32) (b := b) (by simpa using hb) a
  rw [show (2 : Nat) ^ 32 = 4294967296 from rfl] at h
  rw [Nat.mul_comm a, h]
theorem tX_eq {r d : Int} (h0 : 0 ≤ r) (h1 : r < 10) (d0 : 0 ≤ d) (d1 : d < 4294967296) : tX r d = r * 4294967296 + d := by
  obtain ⟨a, rfl⟩ := Int.eq_ofNat_of_zero_le h0
  obtain ⟨b, rfl⟩ := Int.eq_ofNat_of_zero_le d0
  have hb : b < 4294967296 := by omega
  have ha : a < 10 := by omega
  unfold tX
  rw [uwrap_in32 kq1 kq1, uwrap_in32 kq1 kq1]
  have hor := or_add (a := a) hb
  show Go.bits .or .u64 ((a : Int) * 4294967296) (b : Int) = _
  rw [show ((a : Int) * 4294967296) = ((a * 4294967296 : Nat) : Int) by omega]
  have e1 : (BitVec.ofInt 64 ((a * 4294967296 : Nat) : Int)).toNat = a * 4294967296 := by rw [BitVec.ofInt_natCast, BitVec.toNat_ofNat]; omega
  have e2 : (BitVec.ofInt 64 (b : Int)).toNat = b := by rw [BitVec.ofInt_natCast, BitVec.toNat_ofNat]; omega
  show IntKind.u64.wrap (((BitVec.ofInt 64 ((a * 4294967296 : Nat) : Int)) ||| (BitVec.ofInt 64 (b : Int))).toNat : Int) = _
  rw [BitVec.toNat_or, e1, e2, hor, uwrap_in32 kq1 kq1]
  omega
theorem tQ_eq {x : Int} (h0 : 0 ≤ x) (h1 : x < 42949672960) : tQ x = x / 10 := by
  unfold tQ
  rw [Int.tdiv_eq_ediv_of_nonneg h0, uwrap_in32 kq1 kq1]
  omega
theorem tR_eq {x : Int} (h0 : 0 ≤ x) : tR x = x % 10 := by
  unfold tR
  rw [Int.tmod_eq_emod_of_nonneg h0]
theorem tB_eq {r : Int} (h0 : 0 ≤ r) (h1 : r < 10) : tB r = 48 + r := by
  unfold tB
  rw [uwrap_in32 kq1 kq1]
  omega
theorem textIn_val : ∀ (n : Nat) (l : List Int) (r : Int), D32 l → n ≤ l.length → 0 ≤ r → r < 10 →
    D32 (textIn n l r).1 ∧ 0 ≤ (textIn n l r).2 ∧ (textIn n l r).2 < 10 ∧ val32 ((textIn n l r).1.take n) * 10 + (textIn n l r).2 = r * 4294967296 ^ n + val32 (l.take n)
  | 0, l, r, hd, _, h0, h1 => ⟨hd, h0, h1, by simp [textIn, val32]⟩
  | n + 1, l, r, hd, hn, h0, h1 => by
    obtain ⟨hx0, hx1⟩ := rd_D32 hd n
    have e : tX r (rd l n) = r * 4294967296 + rd l n := tX_eq h0 h1 hx0 hx1
    generalize hX : tX r (rd l n) = X at e
    have hq0 : 0 ≤ X / 10 := by omega
    have hq1 : X / 10 < 4294967296 := by omega
    have hr0 : 0 ≤ X % 10 := by omega
    have hr1 : X % 10 < 10 := by omega
    have hw : tQ X = X / 10 := tQ_eq kq1 kq1
    have hw2 : tR X = X % 10 := tR_eq kq1
    obtain ⟨a, b, c, d⟩ := textIn_val n (l.set n (X / 10)) (X % 10) (D32_set hd n hq0 hq1) (by rw [List.length_set]; omega) hr0 hr1
    rw [textIn, hX, hw, hw2]
    refine ⟨a, b, c, ?_⟩
    have hl : n < (textIn n (l.set n (X / 10)) (X % 10)).1.length := by rw [textIn_len, List.length_set]; omega
    have hrd : rd (l.set n (X / 10)) (n : Int) = X / 10 := by
      rw [rd_of_lt32 (by rw [List.length_set]; omega), List.getElem_set_self]
    rw [val_take32 _ n hl, val_take32 l n kq1, textIn_above n _ _ n (Nat.le_refl n), hrd]
    rw [take_set_lt] at d
    have hp : (4294967296 : Int) ^ (n + 1) = 4294967296 ^ n * 4294967296 := Int.pow_succ _ _
    have hXq : X = X / 10 * 10 + X % 10 := by omega
    generalize (4294967296 : Int) ^ n = P at *
    generalize val32 ((textIn n (l.set n (X / 10)) (X % 10)).1.take n) = V at *
    generalize (textIn n (l.set n (X / 10)) (X % 10)).2 = R at *
    generalize val32 (l.take n) = V0 at *
    generalize X / 10 = q at *
    generalize X % 10 = m at *
    rw [hp]
    have e2 : (q * 10 + m) * P = (r * 4294967296 + rd l n) * P := by rw [← hXq, e]
    rw [Int.add_mul] at e2 ⊢
    rw [Int.add_mul] at e2
    have e3 : P * q * 10 = q * 10 * P := by rw [Int.mul_assoc, Int.mul_comm]
    have e4 : r * (P * 4294967296) = r * 4294967296 * P := by rw [Int.mul_comm P, Int.mul_assoc]
    have e5 : P * rd l n = rd l n * P := Int.mul_comm _ _
    omega
def decD (n : Nat) : List Int := if h : n = 0 then [] else ((48 + n % 10 : Nat) : Int) :: decD (n / 10)
termination_by n
decreasing_by omega
theorem decD_zero : decD 0 = [] := by rw [decD, dif_pos rfl]
theorem decD_pos {n : Nat} (h : n ≠ 0) : decD n = ((48 + n % 10 : Nat) : Int) :: decD (n / 10) := by rw [decD, dif_neg h]
def TopD (l : List Int) : Prop := ∀ d, l.getLast? = some d → d ≠ 0
theorem TopD_val {l : List Int} (h : D32 l) (ht : TopD l) (hl : l ≠ []) : val32 l ≠ 0 := fun h0 => by
  have h1 : l = [] ∨ ∃ m d, l = m ++ [d] ∧ d ≠ 0 := .inr ⟨l.dropLast, l.getLast hl, (List.dropLast_concat_getLast hl).symm, ht _ (List.getLast?_eq_some_getLast hl)⟩
  have h2 := dig_of32 h h1
  rw [h0] at h2
  exact hl (by rw [← h2]; exact dig_zero32)
theorem textOut_ev : ∀ (N : Nat) (l : List Int) (back : List Int), D32 l → TopD l → (val32 l).toNat < 10 ^ N → back.length + N ≤ 1000000 → textOut (N + 1) l back = some (back ++ decD (val32 l).toNat)
  | 0, l, back, hd, ht, hv, hb => by
    have h0 := val_nonneg32 hd
    have hv' : (val32 l).toNat = 0 := by simpa using hv
    have hl : l = [] := by
      apply Classical.byContradiction
      intro hne
      exact TopD_val hd ht hne kq1
    subst hl
    rw [textOut, if_pos (show ([] : List Int).length = 0 from rfl), hv', decD_zero, List.append_nil]
  | N + 1, l, back, hd, ht, hv, hb => by
    by_cases hl : l = []
    · subst hl
      rw [textOut, if_pos (show ([] : List Int).length = 0 from rfl)]
      show some back = some (back ++ decD (0 : Int).toNat)
      rw [show (0 : Int).toNat = 0 from rfl, decD_zero, List.append_nil]
    · have hlen : ¬ l.length = 0 := fun h => hl (List.eq_nil_of_length_eq_zero h)
      obtain ⟨a, b, c, d⟩ := textIn_val l.length l 0 hd (Nat.le_refl _) kq1 kq1
      have hln := textIn_len l.length l 0
      rw [textOut, if_neg hlen]
      generalize textIn l.length l 0 = p at *
      obtain ⟨l', r⟩ := p
      dsimp only at *
      rw [List.take_of_length_le (Nat.le_of_eq hln), List.take_length, Int.zero_mul, Int.zero_add] at d
      obtain ⟨n', d', hm, hnum⟩ := made_num a false
      have hm2 := congrArg Prod.snd (Option.some.inj hm)
      dsimp only at hm2
      rw [hm2]
      have hval := hnum.val
      simp only [Bool.false_eq_true, if_false] at hval
      have hval2 : val32 d' = val32 l' := by
        have : val32 l' = if n' then - val32 d' else val32 d' := hval
        have hn' : n' = false := by have := congrArg Prod.fst (Option.some.inj hm); simpa using this.symm
        rw [hn'] at this
        simpa using this.symm
      have hnn := val_nonneg32 hnum.dig
      have hw : tB r = 48 + r := tB_eq b c
      rw [if_pos kq1, hw]
      have hpos : val32 l ≠ 0 := TopD_val hd ht hl
      have h10 : (10 : Nat) ^ (N + 1) = 10 ^ N * 10 := Nat.pow_succ _ _
      rw [textOut_ev N d' _ hnum.dig hnum.top kq1 (by simp; omega)]
      have hq : (val32 d').toNat = (val32 l).toNat / 10 := by omega
      rw [decD_pos (by omega : (val32 l).toNat ≠ 0), hq]
      have hr : ((48 + (val32 l).toNat % 10 : Nat) : Int) = 48 + r := by omega
      rw [hr]
      simp
def decS (z : Int) : ByteArray := if z = 0 then strOfNums [48] else strOfNums (if z < 0 then decD z.natAbs ++ [45] else decD z.natAbs).reverse
theorem decD_ne {n : Nat} (h : n ≠ 0) : decD n ≠ [] := by rw [decD_pos h]; exact List.cons_ne_nil _ _
theorem decD_len : ∀ (N n : Nat), n < 10 ^ N → (decD n).length ≤ N
  | 0, n, h => by
    have : n = 0 := by simpa using h
    rw [this, decD_zero]; exact Nat.le_refl _
  | N + 1, n, h => by
    by_cases h0 : n = 0
    · rw [h0, decD_zero]; exact Nat.zero_le _
    · have hp : (10 : Nat) ^ (N + 1) = 10 ^ N * 10 := Nat.pow_succ _ _
      have := decD_len N (n / 10) kq1
      rw [decD_pos h0, List.length_cons]
      omega
theorem text_ev {neg : Bool} {ds : List Int} {z : Int} (h : NumOf neg ds z) {N : Nat} (hz : z.natAbs < 10 ^ N) (hN : N ≤ 1000000) (hd : ds.length ≤ 1000000) : truth_whole_text.f (N + 1) neg ds = some (decS z) := by
  have hnn := val_nonneg32 h.dig
  have hzn : z.natAbs = (val32 ds).toNat := by have := h.val; cases neg <;> simp at this <;> omega
  unfold truth_whole_text.f
  rw [if_pos hd, textOut_ev N ds [] h.dig h.top kq1 (by simpa using hN), Option.bind_some, List.nil_append, ← hzn]
  unfold decS
  by_cases h0 : z = 0
  · subst h0
    rw [if_pos rfl, show (0 : Int).natAbs = 0 from rfl, decD_zero]
    rfl
  · have hne := decD_ne (show z.natAbs ≠ 0 by omega)
    rw [if_neg h0, if_neg (fun e => hne (List.eq_nil_of_length_eq_zero e)), if_pos (Nat.le_trans (decD_len N _ hz) hN)]
    have hsg : neg = decide (z < 0) := by
      have := h.val
      cases neg
      · simp at this; exact (decide_eq_false kq1).symm
      · simp at this; exact (decide_eq_true kq1).symm
    rw [hsg]
    by_cases hl : z < 0 <;> simp [hl]
end Go.Proofs.Ytjknpmibdkoklaa.U
set_option maxRecDepth 100000
namespace Go.Proofs.Ytjknpmibdkoklaa.U
open Go.RowKit Go.Proofs.YtjknpmibdkoklaaW.PrintWords Go.Proofs.YtjknpmibdkoklaaW.PrintLast Go.Proofs.YtjknpmibdkoklaaW.PrintMore
open Aside0 (mk)
def capN : Nat := 2000
theorem capN_eq : capN = 2000 := rfl
theorem big_ten (n : Nat) : 4294967296 ^ n ≤ 10 ^ (10 * n) := by
  rw [Nat.pow_mul]
  exact Nat.pow_le_pow_left kq2 n
theorem text_at {neg : Bool} {ds : List Int} {z : Int} (hz : z.natAbs < 4294967296 ^ capN) (h : NumOf neg ds z) : truth_whole_text.f (10 * capN + 1) neg ds = some (decS z) := by
  have hnn := val_nonneg32 h.dig
  have hzn : z.natAbs = (val32 ds).toNat := by have := h.val; cases neg <;> simp at this <;> omega
  have hd : dig32 (val32 ds).toNat = ds := dig_of32 h.dig (by
    by_cases hl : ds = []
    · exact .inl hl
    · exact .inr ⟨ds.dropLast, ds.getLast hl, (List.dropLast_concat_getLast hl).symm, h.top _ (List.getLast?_eq_some_getLast hl)⟩)
  have hlen := dig_len32 (val32 ds).toNat capN (by rw [← hzn]; exact hz)
  rw [hd] at hlen
  exact text_ev h (Nat.lt_of_lt_of_le hz (big_ten _)) (by rw [capN_eq]; decide) (by rw [capN_eq] at hlen; omega)
theorem ta_num (a b : Value) (w : World) : (Instr.typeAssert (.iface 172 (.agg #[a, b])) 20 172 true).run Try.prog w = .ok (.tuple #[.agg #[a, b], .bool true]) w := by rfl
set_option maxHeartbeats 4000000 in
theorem told_num {base : Nat} {P : Nat → Prop} (k : Nat) (neg : Bool) (A : Option Addr) (c : Nat) (ds : List Int) (r : ByteArray) (w : World) (hv : Kd.V (Kd.int .u32) 185 w base P (.slice A ds.length c) ds) (h : truth_whole_text.f k neg ds = some r) :
    Calls Try.prog 140 #[.iface 172 (.agg #[.bool neg, .slice A ds.length c])] w fun e w' => e = .returned (.string r) ∧ Below w.heap.size w w' := by
  have h1 := ta_num
  have hu := Try.underlying172
  have HB := mk (Below.refl w.heap.size w)
  have HV := mk hv
  have HT := mk h
  have hc := (Kd.V_reads' hv).2.1
  clear hv h
  go_enter Try.func140, Try.ntmps140
  go_wp2_with (first | ((with_reducible refine gate_dst (N := 3) rfl ?_); refine box_event ?hg (N := 3) ?hd (cs := #[.bool false, .slice none 0 0]) (t := 172) ?hr ?_; (case hd => rfl); (case hg => rfl); (case hr => exact kq6); intro gb hgb w1 hbox hb; have GE := mk (show w.heap.size ≤ gb from by rw [hgb]; exact below_size kq4); have BK := mk hbox; have HV1 := mk (Kd.V_far (p := ⟨gb, 1, none⟩) (Kd.V_far (p := ⟨gb, 0, none⟩) (Kd.V_below (Kd.V_elderB HV.out gb (Nat.le_of_eq hgb.symm)) hb) (fun _ hk => hk.2) (.bool neg)) (fun _ hk => hk.2) (.slice A ds.length c)); replace HB := mk (below_set (j := 1) (v := .slice A ds.length c) (below_set (j := 0) (v := .bool neg) (below_step kq4 hb) GE.out) GE.out); clear hb hbox hgb; obtain ⟨_, _, _, _⟩ := c2_ BK.out; obtain ⟨_, _, _, _⟩ := c2_ (put2_ (a' := .bool neg) (b' := .slice A ds.length c) BK.out)) | (go_at_call 177; refine (truth_whole_text.calls k neg A c ds r _ (Kd.V_reads' HV1.out).2.2 hc HT.out).mono ?_; rintro e w8 ⟨rfl, hb8⟩; replace HB := mk (below_step HB.out hb8); clear hb8))
  go_ret
  exact ⟨rfl, kq4⟩
set_option maxHeartbeats 4000000 in
theorem term1_calls {w0 w : World} {g gp gf : Nat} {names : List ByteArray} {vals : List Int} {An Av : Option Addr} {cn cv : Nat} (hV : Vals w0 names vals An Av cn cv) {vs : Value} (t : S66) (hs : sizeT t ≤ 1000) (hft : FineT (Told names vals) t) (A : Option Addr) (c0 : Nat) (hr : Kd.C k66 w0 A t.f3.length t.f3) (hc0 : t.f3.length ≤ c0)
    (hM : Mach w0 w g X0 (.slice An names.length cn) (.slice Av vals.length cv) vs []) (hp : w.heap[gp]? = some (.cells #[.pointer (some ⟨g, 0, none⟩)] 127 (0, 0))) (hf : w.heap[gf]? = some (.cells #[.int .i64 t.f0, .int .i64 t.f1, .string t.f2, .slice A t.f3.length c0] 66 (0, 0))) :
    Calls Try.prog 137 #[.pointer (some ⟨gp, 0, none⟩), .pointer (some ⟨gf, 0, none⟩)] w fun e w' => e = .returned (.tuple #[]) ∧ ∃ vs', Mach w0 w' g X0 (.slice An names.length cn) (.slice Av vals.length cv) vs' [.num (valZ (look names vals) t)] ∧ Step w w' g vs vs' := by
  have HM := mk hM
  have hu66 := Try.underlying66
  obtain ⟨_, _⟩ := e1_ hp
  obtain ⟨_, _, _, _, _, _, _, _⟩ := c4_ hf
  have HC := mk (mterm_calls w0 g names vals An Av cn cv hV.hn hV.hcn hV.hv hV.hcv hV.hnl hV.hin hV.hbig 1000 t hs (Nat.le_refl _) hft A c0 vs [] w hM (by simp) hr hc0)
  clear hM hp hf hr hc0 hs hft hV
  go_enter Try.func137, Try.ntmps137
  go_wp2_with (first | (go_at_call 138; refine HC.out.mono ?_; rintro e w5 ⟨rfl, v5, hm5, hs5⟩; have HM5 := mk hm5; have ST5 := mk hs5; clear hm5 hs5))
  first | go_end0 | ((try simp only [Exit.inBlock, Exit.then]); refine bodyPost_ret (results_none rfl _ _ _) rfl ?_)
  exact ⟨rfl, v5, HM5.out, ST5.out⟩
set_option maxHeartbeats 8000000 in
theorem workT_calls {w0 w : World} {g gp gf : Nat} {names : List ByteArray} {vals : List Int} {An Av : Option Addr} {cn cv : Nat} (hV : Vals w0 names vals An Av cn cv) {vs : Value} (t : S66) (hs : sizeT t ≤ 1000) (hft : FineT (Told names vals) t) (A : Option Addr) (c0 : Nat) (hr : Kd.C k66 w0 A t.f3.length t.f3) (hc0 : t.f3.length ≤ c0)
    (hM : Mach w0 w g X0 (.slice An names.length cn) (.slice Av vals.length cv) vs []) (hp : w.heap[gp]? = some (.cells #[.pointer (some ⟨g, 0, none⟩)] 127 (0, 0))) (hf : w.heap[gf]? = some (.cells #[.int .i64 t.f0, .int .i64 t.f1, .string t.f2, .slice A t.f3.length c0] 66 (0, 0))) :
    Calls Try.prog 99 #[.pointer (some ⟨g, 0, none⟩), .func (.func 137) #[] #[.pointer (some ⟨gp, 0, none⟩), .pointer (some ⟨gf, 0, none⟩)]] w fun e w' => e = .returned (.tuple #[.string (decS (valZ (look names vals) t)), .int .i64 0]) ∧ Below w0.heap.size w0 w' := by
  have hmf : ∀ (fn : Fn) (first cap : Array Value) (w : World), (Instr.makeFunc fn first cap).run Try.prog w = .ok (.func fn first cap) w := fun _ _ _ _ => rfl
  have HM := mk hM
  have BP := mk hp
  have BF := mk hf
  clear hM hp hf
  generalize hzz : valZ (look names vals) t = zz
  have HZ := mk hzz
  have HZB := mk (show zz.natAbs < 4294967296 ^ capN by rw [← hzz]; exact Nat.lt_of_lt_of_le (valZ_big _ hV.hbig _ t hft) (Nat.pow_le_pow_right kq2 (by rw [capN_eq]; omega)))
  clear hzz
  go_enter_defers Try.func99, Try.ntmps99
  go_wp2_with (first | ((with_reducible refine gate_dst (N := 4) rfl ?_); refine box_event ?hg (N := 4) ?hd (cs := #[.string (⟨#[]⟩ : ByteArray)]) (t := 9) ?hr ?_; (case hd => rfl); (case hg => rfl); (case hr => exact kq6); intro g4 hgb w4 hbox hb; have NB4 := mk (show g4 ≠ g from by rw [hgb]; exact Nat.ne_of_gt (blk_lt HM.out.cell)); have GE4 := mk (show w0.heap.size ≤ g4 from by rw [hgb]; exact below_size HM.out.below); replace HM := mk (HM.out.then_ hb); replace BP := mk (blk_below BP.out hb); replace BF := mk (blk_below BF.out hb); have BK4 := mk hbox; clear hb hbox hgb) | ((with_reducible refine gate_dst (N := 5) rfl ?_); refine box_event ?hg (N := 5) ?hd (cs := #[.int .i64 0]) (t := 23) ?hr ?_; (case hd => rfl); (case hg => rfl); (case hr => exact kq6); intro g5 hgb w5 hbox hb; have NB5 := mk (show g5 ≠ g from by rw [hgb]; exact Nat.ne_of_gt (blk_lt HM.out.cell)); have NB45 := mk (show g4 ≠ g5 from by rw [hgb]; exact Nat.ne_of_lt (blk_lt BK4.out)); have GE5 := mk (show w0.heap.size ≤ g5 from by rw [hgb]; exact below_size HM.out.below); replace BK4 := mk (blk_below BK4.out hb); replace HM := mk (HM.out.then_ hb); replace BP := mk (blk_below BP.out hb); replace BF := mk (blk_below BF.out hb); have BK5 := mk hbox; clear hb hbox hgb) | (go_at_call 137; refine (term1_calls hV t hs hft A c0 hr hc0 HM.out BP.out BF.out).mono ?_; rintro e w6 ⟨rfl, v6, hm6, hs6⟩; rw [HZ.out] at hm6; replace BK4 := mk (hs6.blk HM.out BK4.out NB4.out kq2); replace BK5 := mk (hs6.blk HM.out BK5.out NB5.out kq2); have HM6 := mk hm6; clear hm6 hs6) | (go_at_call 141; refine (pop_calls (xs := []) HM6.out (by simp)).mono ?_; rintro e w7 ⟨p, rfl, v7, hm7, hp7, hs7⟩; obtain ⟨neg, ds, Ad, cd, rfl, hv7, hn7⟩ := hp7; have HV7 := mk hv7; have HN7 := mk (text_at HZB.out hn7); replace BK4 := mk (hs7.blk HM6.out BK4.out NB4.out kq2); replace BK5 := mk (hs7.blk HM6.out BK5.out NB5.out kq2); have HB7 := mk hm7.below; clear hm7 hs7 hv7 hn7) | (go_at_call 140; refine (told_num _ neg Ad cd ds (decS zz) _ HV7.out HN7.out).mono ?_; rintro e w8 ⟨rfl, hb8⟩; replace BK4 := mk (blk_below BK4.out hb8); replace BK5 := mk (blk_below BK5.out hb8); have HB8 := mk (below_step HB7.out hb8); clear hb8; obtain ⟨_, _⟩ := e1_ BK4.out; obtain ⟨_, _⟩ := e1_ BK5.out; have hne := NB45.out; have hne2 := Ne.symm NB45.out))
  all_goals
    refine leaves_cons (f := 139) (args := #[.pointer (some ⟨g4, 0, none⟩), .pointer (some ⟨g5, 0, none⟩)]) (by simp) (by simp [go_sem]) ?_
    refine (catch_idle ⟨g4, 0, none⟩ ⟨g5, 0, none⟩ _).mono ?_
    rintro e u' w'' ⟨rfl, rfl, rfl⟩
    have k4 := fun s : Value => (blk_cell (far1_ (a := .int .i64 0) (put1_ (a' := s) BK4.out) hne) 0).trans (show (#[s] : Array Value)[0]? = some s from rfl)
    have k5 := fun s : Value => (blk_cell (put1_ (a' := .int .i64 0) (far1_ (a := s) BK5.out hne2)) 0).trans (show (#[Value.int .i64 0] : Array Value)[0]? = some (.int .i64 0) from rfl)
    have HBE : ∀ s : Value, Below w0.heap.size w0 ((w8.setCell ⟨g4, 0, none⟩ s).setCell ⟨g5, 0, none⟩ (.int .i64 0)) := fun s => below_set (below_set HB8.out GE4.out) GE5.out
    simp [Leaves, settle, results, Try.results99, go_sem, k4, k5]
    exact HBE _
end Go.Proofs.Ytjknpmibdkoklaa.U
namespace Go.Proofs.Ytjknpmibdkoklaa.U
open Go.RowKit Go.Proofs.YtjknpmibdkoklaaW.PrintWords Go.Proofs.YtjknpmibdkoklaaW.PrintLast Go.Proofs.YtjknpmibdkoklaaW.PrintMore
open Aside0 (mk)
open List (setIfInBounds_toArray set_cons_zero set_cons_succ)
attribute [local go_sem] max2_int min2_int max_two min_two max_three min_three max_four min_four
set_option linter.unusedVariables false
set_option linter.unusedSimpArgs false
attribute [local go_sem] fld99_2 fld103_2 fld172_1
def tree_Check.f (a0_0 : Int) (a0_1 : ByteArray) (a0_2 : Int) (l0_3 : List (S66)) (l0_4 : List (S39)) : Option (Int) := (tree_measured.f a0_0 a0_1 a0_2 l0_3 l0_4).bind fun bt107 => (some bt107.2.2)
set_option maxHeartbeats 8000000 in
set_option maxRecDepth 100000 in
theorem tree_Check.calls (a0_0 : Int) (a0_1 : ByteArray) (a0_2 : Int) (A0_3 : Option Addr) (c0_3 : Nat) (l0_3 : List (S66)) (A0_4 : Option Addr) (c0_4 : Nat) (l0_4 : List (S39)) (r : Int) (w : World) (hr0_3 : Kd.C k66 w A0_3 l0_3.length l0_3) (hc0_3 : l0_3.length ≤ c0_3) (hr0_4 : Kd.C k39 w A0_4 l0_4.length l0_4) (hc0_4 : l0_4.length ≤ c0_4) (h : tree_Check.f a0_0 a0_1 a0_2 l0_3 l0_4 = some r) :
    Calls Try.prog 36 #[.agg #[.int .i64 a0_0, .string a0_1, .int .i64 a0_2, .slice A0_3 l0_3.length c0_3, .slice A0_4 l0_4.length c0_4]] w fun e w' => e = .returned (.int .i64 r) ∧ Below w.heap.size w w' := by
  have hu39 := Try.underlying39
  have HR0_3 := mk hr0_3
  have HC0_3 := mk hc0_3
  clear hr0_3 hc0_3
  have HR0_4 := mk hr0_4
  have HC0_4 := mk hc0_4
  clear hr0_4 hc0_4
  have HB := mk (Below.refl w.heap.size w)
  have H : ((tree_measured.f a0_0 a0_1 a0_2 l0_3 l0_4).bind fun bt107 => (some bt107.2.2)) = some r := h
  clear h
  replace H := Option.bind_eq_some_iff.mp H
  obtain ⟨⟨t107, t108, t109⟩, A20, H⟩ := H
  replace H : (some t109) = some r := H
  have A2 := mk A20
  clear A20
  obtain rfl := Option.some.inj H
  go_enter Try.func36, Try.ntmps36
  go_wp2_with (first | ((with_reducible refine gate_dst (N := 1) rfl ?_); refine box_event ?hg (N := 1) ?hd (cs := #[.int .i64 a0_0, .string a0_1, .int .i64 a0_2, .slice A0_3 l0_3.length c0_3, .slice A0_4 l0_4.length c0_4]) (t := 39) ?hr ?_; (case hd => rfl); (case hg => rfl); (case hr => exact kq6); intro gb106 hg w3 hbox hb; have BK106 := mk (hbox); have GW106 := (gs_ hg kq15); have GE106 := GW106; replace HB := mk (below_step kq15 hb); clear hb hbox hg; obtain ⟨_, _, _, _, _, _, _, _, _, _⟩ := cz5_ BK106.out) | ((with_reducible refine gate_callee (f := 76) rfl ?_); refine goesL_ (some 4) rfl rfl Try.func76 kq0 rfl #[.agg #[.int .i64 a0_0, .string a0_1, .int .i64 a0_2, .slice A0_3 l0_3.length c0_3, .slice A0_4 l0_4.length c0_4]] rfl kq14 ?_; (with_reducible refine (tree_measured.calls a0_0 a0_1 a0_2 _ _ l0_3 _ _ l0_4 t107 t108 t109 _ ?side1 ?side2 ?side3 ?side4 A2.out).mono ?_); (case side1 => exact kq25 HR0_3); (case side2 => exact HC0_3.out); (case side3 => exact kq25 HR0_4); (case side4 => exact HC0_4.out); rintro e w5 ⟨rfl, hb⟩; refine ⟨_, rfl, ?_⟩; replace BK106 := (bb_ BK106 hb); replace HB := mk (below_step (kq16 GE106) hb)))
  go_ret
  exact ⟨kq21, (kq16 GE106)⟩
end Go.Proofs.Ytjknpmibdkoklaa.U
