/- glyph.At: its contract, for every text and every number; no condition. -/
import Derived.Test.YtcphnnopjfogdaaXName
import Derived.Lib.OthersKept
import Derived.Laws.RangeAny
import Derived.LoopTactic
set_option maxRecDepth 100000
namespace Go.Proofs.Ytcphnnopjfogdaa.G
open Go.RowKit Go.Proofs.YtcphnnopjfogdaaW.PrintWords Go.Proofs.YtcphnnopjfogdaaW.PrintLast Go.Proofs.YtcphnnopjfogdaaW.PrintMore

/-- How many characters stand from byte pos on, n of them counted. -/
def charsGo (s : ByteArray) (pos : Nat) (n : Int) : Int :=
  if h : pos < s.size then charsGo s (pos + (Utf8.decode s pos).2) (wrap64 (n + 1)) else n
termination_by s.size - pos
decreasing_by
  have := decode_pos s pos h
  omega
def glyph_At.f (a0 : ByteArray) (a1 : Int) : Option (Int × Int × Int) := if 0 ≤ a1 ∧ a1 ≤ (a0.size : Int) then some (a1, charsGo (a0.extract 0 a1.toNat) 0 0, 0) else some (0, 0, 2)
theorem blk_or_iter {w : World} {g : Nat} {o : Obj} (h : w.heap[g]? = some o) {p : Addr} (hp : g ≠ p.block) (u : Value) : (w.setCell p u).heap[g]? = some o := (Below.heap_setCell w p u g hp).trans h
set_option maxHeartbeats 4000000 in
theorem glyph_At.calls (a0 : ByteArray) (a1 : Int) (r1 r2 r3 : Int) (w : World) (h : glyph_At.f a0 a1 = some (r1, r2, r3)) :
    Calls Try.prog 31 #[.string a0, .int .i64 a1] w fun e w' => e = .returned (.tuple #[.agg #[.int .i64 r1, .int .i64 r2], .int .i64 r3]) ∧ Below w.heap.size w w' := by
  by_cases hr : 0 ≤ a1 ∧ a1 ≤ (a0.size : Int)
  · unfold glyph_At.f at h
    rw [if_pos hr] at h
    obtain ⟨h0, h1⟩ := hr
    have HR := Aside0.mk h
    clear h
    have q0 : decide (a1 < 0) = false := decide_eq_false (by omega)
    have q1 : decide ((a0.size : Int) < a1) = false := decide_eq_false (by omega)
    go_enter Try.func31, Try.ntmps31
    go_wp2
    go_loopw [] (fun wr => ∃ (pos : Nat) (m : Int), Aside0 (charsGo (a0.extract 0 a1.toNat) pos m = charsGo (a0.extract 0 a1.toNat) 0 0) ∧ Aside0 (wr.heap[w.heap.size + 1 + 1]? = some (.stringIter (a0.extract 0 a1.toNat) pos)) ∧ Aside0 (wr.heap[w.heap.size + 1]? = some (.cells #[.int .i64 a1, .int .i64 m] 40 (0, 0))) ∧ Aside0 (wr.heap[w.heap.size]? = some (.cells #[.int .i64 0, .int .i64 0] 40 (0, 0))) ∧ Aside0 (Below w.heap.size w wr)) (fun wr => (a0.extract 0 a1.toNat).size - wr.iterPos (w.heap.size + 1 + 1))
    case atStart => exact ⟨0, 0, ⟨rfl⟩, ⟨by have := World.iter_heap ((w.alloc (.cells #[.int .i64 0, .int .i64 0] 40)).alloc (.cells #[.int .i64 a1, .int .i64 0] 40)) (a0.extract 0 a1.toNat) 0; simpa using this⟩, ⟨blk_alloc (by have := blk_new (w.alloc (.cells #[.int .i64 0, .int .i64 0] 40)) (.cells #[.int .i64 a1, .int .i64 0] 40); simpa using this) _⟩, ⟨blk_alloc (blk_alloc (blk_new w _) _) _⟩, ⟨below_alloc (below_alloc (below_alloc (Below.refl _ _) _) _) _⟩⟩
    case round =>
      obtain ⟨pos, m, HN, HI, HC, HC0, HB⟩ := hrel
      generalize a0.extract 0 a1.toNat = s at HN HI HR
      by_cases hp : pos < s.size
      · have hnx := fun ty => Lib.run_next_any_at (P := Try.prog) wr (w.heap.size + 1 + 1) s pos ty HI.out hp
        have HI2 := Aside0.mk (Lib.iterAt_heap wr (w.heap.size + 1 + 1) s pos (pos + (Utf8.decode s pos).2) HI.out)
        have HB2 := Aside0.mk (Lib.below_iterAt HB.out (show w.heap.size ≤ w.heap.size + 1 + 1 by omega) s (pos + (Utf8.decode s pos).2))
        have HC2 := Aside0.mk ((Lib.iterAt_other wr (w.heap.size + 1 + 1) (w.heap.size + 1) s (pos + (Utf8.decode s pos).2) (by omega)).trans HC.out)
        have HD2 := Aside0.mk ((Lib.iterAt_other wr (w.heap.size + 1 + 1) w.heap.size s (pos + (Utf8.decode s pos).2) (by omega)).trans HC0.out)
        have hc : (wr.iterAt (w.heap.size + 1 + 1) s (pos + (Utf8.decode s pos).2)).cell? ⟨w.heap.size + 1, 1, none⟩ = some (.int .i64 m) := (blk_cell HC2.out 1).trans rfl
        have hf : (wr.iterAt (w.heap.size + 1 + 1) s (pos + (Utf8.decode s pos).2)).frozen? ⟨w.heap.size + 1, 1, none⟩ = false := blk_frozen HC2.out 1
        have HM := Aside0.mk (show s.size - (pos + (Utf8.decode s pos).2) < s.size - pos by have := decode_pos s pos hp; omega)
        have HN2 := Aside0.mk (show charsGo s (pos + (Utf8.decode s pos).2) (wrap64 (m + 1)) = charsGo s 0 0 by rw [← HN.out]; conv => rhs; rw [charsGo, dif_pos hp])
        clear hp HN
        go_wp2
        go_roundw
        case rel => exact ⟨_, _, HN2, ⟨blk_or_iter HI2.out (by simp) _⟩, ⟨blk_put HC2.out 1 _ rfl⟩, ⟨blk_far HD2.out (by simp) _⟩, ⟨below_set HB2.out (by omega)⟩⟩
        case measure => simpa [World.iterPos, HI.out, blk_or_iter HI2.out (show w.heap.size + 1 + 1 ≠ (⟨w.heap.size + 1, 1, none⟩ : Addr).block by simp)] using HM.out
      · have hnx := fun ty => Lib.run_next_end_at (P := Try.prog) wr (w.heap.size + 1 + 1) s pos ty HI.out hp
        have hc0 : wr.cell? ⟨w.heap.size + 1, 0, none⟩ = some (.int .i64 a1) := (blk_cell HC.out 0).trans rfl
        have hc1 : wr.cell? ⟨w.heap.size + 1, 1, none⟩ = some (.int .i64 m) := (blk_cell HC.out 1).trans rfl
        have hd0 : wr.cell? ⟨w.heap.size, 0, none⟩ = some (.int .i64 0) := (blk_cell HC0.out 0).trans rfl
        have hd1 : wr.cell? ⟨w.heap.size, 1, none⟩ = some (.int .i64 0) := (blk_cell HC0.out 1).trans rfl
        have hf0 : wr.frozen? ⟨w.heap.size, 0, none⟩ = false := blk_frozen HC0.out 0
        have hf1 : wr.frozen? ⟨w.heap.size, 1, none⟩ = false := blk_frozen HC0.out 1
        have HE : charsGo s 0 0 = m := by rw [← HN.out, charsGo, dif_neg hp]
        have HR2 := HR.out
        rw [HE] at HR2
        injection HR2 with HR2
        injection HR2 with e1 HR2
        injection HR2 with e2 e3
        subst e1 e2 e3
        clear hp HN HE HR
        go_wp2
        refine bodyPost_ret (results_ct rfl _ _ w.heap.size 40 #[.int .i64 a1, .int .i64 m] (0, 0) _ rfl (blk_put (blk_put HC0.out 0 (.int .i64 a1) rfl) 1 (.int .i64 m) rfl) Try.underlying40 rfl (by kernel_rfl)) rfl ⟨rfl, below_set (below_set HB.out (Nat.le_refl _)) (Nat.le_refl _)⟩
  · unfold glyph_At.f at h
    rw [if_neg hr] at h
    injection h with h
    injection h with e1 h
    injection h with e2 e3
    subst e1 e2 e3
    by_cases h0 : a1 < 0
    · have q0 : decide (a1 < 0) = true := decide_eq_true h0
      clear hr
      go_enter Try.func31, Try.ntmps31
      go_wp2
      refine bodyPost_ret (results_ct rfl _ _ w.heap.size 40 #[.int .i64 0, .int .i64 0] (0, 0) _ rfl (blk_new w _) Try.underlying40 rfl (by kernel_rfl)) rfl ⟨rfl, below_alloc (Below.refl _ _) _⟩
    · have q0 : decide (a1 < 0) = false := decide_eq_false h0
      have q1 : decide ((a0.size : Int) < a1) = true := decide_eq_true (by omega)
      clear hr h0
      go_enter Try.func31, Try.ntmps31
      go_wp2
      refine bodyPost_ret (results_ct rfl _ _ w.heap.size 40 #[.int .i64 0, .int .i64 0] (0, 0) _ rfl (blk_new w _) Try.underlying40 rfl (by kernel_rfl)) rfl ⟨rfl, below_alloc (Below.refl _ _) _⟩
end Go.Proofs.Ytcphnnopjfogdaa.G
