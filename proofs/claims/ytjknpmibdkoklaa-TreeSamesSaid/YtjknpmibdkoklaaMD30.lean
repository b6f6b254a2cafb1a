/- Functions of the given program as Lean functions, each with its contract, and what they answer; words for it. No condition but those of each. -/
import Derived.Test.YtjknpmibdkoklaaMD29
import Derived.LoopTactic
import Derived.Shelf.Abstract
set_option maxRecDepth 100000
namespace Go.Proofs.Ytjknpmibdkoklaa.Q
open Go.RowKit Go.Proofs.YtjknpmibdkoklaaW.PrintWords Go.Proofs.YtjknpmibdkoklaaW.PrintLast Go.Proofs.YtjknpmibdkoklaaW.PrintMore
open Aside0 (mk)
set_option maxHeartbeats 8000000 in
theorem measure_calls (t : S39) (hs : sizedF t = true) (A : Option Addr) (c0 : Nat) (B : Option Addr) (c1 : Nat) (w : World) (hr : Kd.C k66 w A t.f3.length t.f3) (hc : t.f3.length ≤ c0) (hr4 : Kd.C k39 w B t.f4.length t.f4) (hc4 : t.f4.length ≤ c1) :
    Calls Try.prog 72 #[.agg #[.int .i64 t.f0, .string t.f1, .int .i64 t.f2, .slice A t.f3.length c0, .slice B t.f4.length c1]] w fun e w' => e = .returned (.agg #[.int .i64 (measF t 1 (0, 0, 0)).1, .int .i64 (measF t 1 (0, 0, 0)).2.1, .int .i64 (measF t 1 (0, 0, 0)).2.2]) ∧ Below w.heap.size w w' := by
  have hu66 := Try.underlying66
  have hu39 := Try.underlying39
  have HR := mk hr
  have HC := mk hc
  have HR4 := mk hr4
  have HC4 := mk hc4
  have HS := mk hs
  obtain ⟨R, hRR0⟩ : ∃ R, measF t 1 (0, 0, 0) = R := ⟨_, rfl⟩
  have HRR := mk hRR0
  rw [hRR0]
  clear hr hc hr4 hc4 hs hRR0
  go_enter Try.func72, Try.ntmps72
  go_wp2_with (first | ((with_reducible refine gate_dst (N := 1) rfl ?_); refine box_event ?hg (N := 1) ?hd (cs := #[.int .i64 t.f0, .string t.f1, .int .i64 t.f2, .slice A t.f3.length c0, .slice B t.f4.length c1]) (t := 39) ?hr ?_; (case hd => rfl); (case hg => rfl); (case hr => first | (go_simp; done) | (go_simp; rfl)); intro g1 hg1 w1 hbox hb; have BKf := mk hbox; have HWf := mk hb; have GEf := mk (Nat.le_of_eq hg1.symm); skip; clear hb hbox hg1; have fz0 := blk_frozen BKf.out 0; have fz1 := blk_frozen BKf.out 1; have fz2 := blk_frozen BKf.out 2; have fz3 := blk_frozen BKf.out 3; have fz4 := blk_frozen BKf.out 4; have fc0 : w1.cell? ⟨g1, 0, none⟩ = some (.int .i64 t.f0) := (blk_cell BKf.out 0).trans rfl; have fc1 : w1.cell? ⟨g1, 1, none⟩ = some (.string t.f1) := (blk_cell BKf.out 1).trans rfl; have fc2 : w1.cell? ⟨g1, 2, none⟩ = some (.int .i64 t.f2) := (blk_cell BKf.out 2).trans rfl; have fc3 : w1.cell? ⟨g1, 3, none⟩ = some (.slice A t.f3.length c0) := (blk_cell BKf.out 3).trans rfl; have fc4 : w1.cell? ⟨g1, 4, none⟩ = some (.slice B t.f4.length c1) := (blk_cell BKf.out 4).trans rfl) | ((with_reducible refine gate_dst (N := 2) rfl ?_); refine box_event ?hg (N := 2) ?hd (cs := #[.int .i64 0, .int .i64 0, .int .i64 0]) (t := 99) ?hr ?_; (case hd => rfl); (case hg => rfl); (case hr => first | (go_simp; done) | (go_simp; rfl)); intro g2 hg2 w2 hbox hb; have BKr := mk hbox; have HWr := mk hb; have GEr := mk (Nat.le_of_eq hg2.symm); have BKf2 := mk (blk_below BKf.out hb); clear hb hbox hg2; have rz0 := blk_frozen BKr.out 0; have rz1 := blk_frozen BKr.out 1; have rz2 := blk_frozen BKr.out 2; have rc0 : w2.cell? ⟨g2, 0, none⟩ = some (.int .i64 0) := (blk_cell BKr.out 0).trans rfl; have rc1 : w2.cell? ⟨g2, 1, none⟩ = some (.int .i64 0) := (blk_cell BKr.out 1).trans rfl; have rc2 : w2.cell? ⟨g2, 2, none⟩ = some (.int .i64 0) := (blk_cell BKr.out 2).trans rfl) | ((with_reducible refine gate_dst (N := 5) rfl ?_); refine box_event ?hg (N := 5) ?hd (cs := #[.int .i64 0, .int .i64 0, .int .i64 0]) (t := 99) ?hr ?_; (case hd => rfl); (case hg => rfl); (case hr => first | (go_simp; done) | (go_simp; rfl)); intro g3 hg3 w3 hbox hb; have BKm := mk hbox; have HWm := mk hb; have GEm := mk (Nat.le_of_eq hg3.symm); have BKf3 := mk (blk_below BKf2.out hb); have BKr3 := mk (blk_below BKr.out hb); have N23 := mk (show g2 ≠ g3 from fun e => by have := blk_lt BKr.out; omega); have B3 := mk (below_step (below_step HWf.out HWr.out) hb); have L3 := mk (show w.heap.size ≤ g3 by have := HWf.out.size; have := HWr.out.size; omega); have L2 := mk (show w.heap.size ≤ g2 by have := HWf.out.size; have := GEr.out; omega); clear hb hbox hg3; have mz0 := blk_frozen BKm.out 0; have mz1 := blk_frozen BKm.out 1; have mz2 := blk_frozen BKm.out 2; have mc0 : w3.cell? ⟨g3, 0, none⟩ = some (.int .i64 0) := (blk_cell BKm.out 0).trans rfl; have mc1 : w3.cell? ⟨g3, 1, none⟩ = some (.int .i64 0) := (blk_cell BKm.out 1).trans rfl; have mc2 : w3.cell? ⟨g3, 2, none⟩ = some (.int .i64 0) := (blk_cell BKm.out 2).trans rfl; have x0 : w3.cell? ⟨g1, 0, none⟩ = some (.int .i64 t.f0) := (blk_cell BKf3.out 0).trans rfl; have x1 : w3.cell? ⟨g1, 1, none⟩ = some (.string t.f1) := (blk_cell BKf3.out 1).trans rfl; have x2 : w3.cell? ⟨g1, 2, none⟩ = some (.int .i64 t.f2) := (blk_cell BKf3.out 2).trans rfl; have x3 : w3.cell? ⟨g1, 3, none⟩ = some (.slice A t.f3.length c0) := (blk_cell BKf3.out 3).trans rfl; have x4 : w3.cell? ⟨g1, 4, none⟩ = some (.slice B t.f4.length c1) := (blk_cell BKf3.out 4).trans rfl) | (go_at_call 113; refine (meterF_calls _ t (Nat.lt_succ_self _) HS.out A c0 B c1 1 (0, 0, 0) w _ g3 L3.out ⟨BKm.out, KeepBut.refl _ _ _, B3.out⟩ HR.out HC.out HR4.out HC4.out).mono ?_; rw [HRR.out]; rintro e w6 ⟨rfl, hg⟩; have KG := mk hg; have K26 : StM 99 w6 g2 (0, 0, 0) := hg.keep.blk BKr3.out N23.out (by simp); obtain ⟨⟨s0, s1, s2⟩, _, _, _⟩ := hg.st.cells; obtain ⟨⟨p0, p1, p2⟩, e0, e1, e2⟩ := StM.cells K26; have K27 := mk K26; clear hg K26))
  refine bodyPost_ret (results_cell_row rfl _ _ g2 99 #[.int .i64 R.1, .int .i64 R.2.1, .int .i64 R.2.2] (0, 0) _ rfl (StM.set2 (StM.set1 (StM.set0 K27.out R.1) R.2.1) R.2.2) Try.underlying99 rfl (by kernel_rfl)) rfl ?_
  exact ⟨rfl, below_set (below_set (below_set KG.out.below L2.out) L2.out) L2.out⟩
end Go.Proofs.Ytjknpmibdkoklaa.Q
namespace Go.Proofs.Ytjknpmibdkoklaa.Q
open Go.RowKit Go.Proofs.YtjknpmibdkoklaaW.PrintWords Go.Proofs.YtjknpmibdkoklaaW.PrintLast Go.Proofs.YtjknpmibdkoklaaW.PrintMore
open Aside0 (mk)
def tree_measured.f (a0_0 : Int) (a0_1 : ByteArray) (a0_2 : Int) (l0_3 : List (S66)) (l0_4 : List (S39)) : Option (Int × Int × Int) := some (measF ⟨a0_0, a0_1, a0_2, l0_3, l0_4⟩ 1 (0, 0, 0))
theorem tree_measured.calls (a0_0 : Int) (a0_1 : ByteArray) (a0_2 : Int) (A0_3 : Option Addr) (c0_3 : Nat) (l0_3 : List (S66)) (A0_4 : Option Addr) (c0_4 : Nat) (l0_4 : List (S39)) (r1 r2 r3 : Int) (w : World) (hr0_3 : Kd.C k66 w A0_3 l0_3.length l0_3) (hc0_3 : l0_3.length ≤ c0_3) (hr0_4 : Kd.C k39 w A0_4 l0_4.length l0_4) (hc0_4 : l0_4.length ≤ c0_4) (h : tree_measured.f a0_0 a0_1 a0_2 l0_3 l0_4 = some (r1, r2, r3)) :
    Calls Try.prog 76 #[.agg #[.int .i64 a0_0, .string a0_1, .int .i64 a0_2, .slice A0_3 l0_3.length c0_3, .slice A0_4 l0_4.length c0_4]] w fun e w' => e = .returned (.agg #[.int .i64 r1, .int .i64 r2, .int .i64 r3]) ∧ Below w.heap.size w w' := by
  have h1 := Option.some.inj h
  have := measured_calls ⟨a0_0, a0_1, a0_2, l0_3, l0_4⟩ A0_3 c0_3 A0_4 c0_4 w hr0_3 hc0_3 hr0_4 hc0_4
  rw [h1] at this
  exact this
def tabardref06_Measure.f (a0_0 : Int) (a0_1 : ByteArray) (a0_2 : Int) (l0_3 : List (S66)) (l0_4 : List (S39)) : Option (Int × Int × Int) := if sizedF ⟨a0_0, a0_1, a0_2, l0_3, l0_4⟩ = true then some (measF ⟨a0_0, a0_1, a0_2, l0_3, l0_4⟩ 1 (0, 0, 0)) else none
theorem tabardref06_Measure.calls (a0_0 : Int) (a0_1 : ByteArray) (a0_2 : Int) (A0_3 : Option Addr) (c0_3 : Nat) (l0_3 : List (S66)) (A0_4 : Option Addr) (c0_4 : Nat) (l0_4 : List (S39)) (r1 r2 r3 : Int) (w : World) (hr0_3 : Kd.C k66 w A0_3 l0_3.length l0_3) (hc0_3 : l0_3.length ≤ c0_3) (hr0_4 : Kd.C k39 w A0_4 l0_4.length l0_4) (hc0_4 : l0_4.length ≤ c0_4) (h : tabardref06_Measure.f a0_0 a0_1 a0_2 l0_3 l0_4 = some (r1, r2, r3)) :
    Calls Try.prog 72 #[.agg #[.int .i64 a0_0, .string a0_1, .int .i64 a0_2, .slice A0_3 l0_3.length c0_3, .slice A0_4 l0_4.length c0_4]] w fun e w' => e = .returned (.agg #[.int .i64 r1, .int .i64 r2, .int .i64 r3]) ∧ Below w.heap.size w w' := by
  unfold tabardref06_Measure.f at h
  split at h
  · rename_i hs
    have h1 := Option.some.inj h
    have := measure_calls ⟨a0_0, a0_1, a0_2, l0_3, l0_4⟩ hs A0_3 c0_3 A0_4 c0_4 w hr0_3 hc0_3 hr0_4 hc0_4
    rw [h1] at this
    exact this
  · cases h
end Go.Proofs.Ytjknpmibdkoklaa.Q
