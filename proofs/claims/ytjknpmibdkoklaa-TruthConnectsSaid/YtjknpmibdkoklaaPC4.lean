/- Functions of the given program as Lean functions, each with its contract, and what they answer; words for it. No condition but those of each. -/
import Derived.Test.YtjknpmibdkoklaaPCS
import Derived.Test.YtjknpmibdkoklaaPC3
import Derived.LoopTactic
import Derived.Shelf.Abstract
import Derived.Deep.RegionHeld3
set_option linter.unusedVariables false
set_option linter.unusedSimpArgs false
set_option maxRecDepth 100000
namespace Go.Proofs.Ytjknpmibdkoklaa.U
open Go.RowKit Go.Proofs.YtjknpmibdkoklaaW.PrintWords Go.Proofs.YtjknpmibdkoklaaW.PrintLast Go.Proofs.YtjknpmibdkoklaaW.PrintMore
open Aside0 (mk)
attribute [local go_sem] max2_int
def nodeM (dep : Int) (good : Bool) (m : Int × Int × Int) : Int × Int × Int :=
  (wrap64 (m.1 + 1), mx m.2.1 dep, if wrap64 (m.1 + 1) > 500 then 73 else if dep > 40 then 72 else if good = true then m.2.2 else 3)
def StM (t : TypeId) (W : World) (g : Nat) (m : Int × Int × Int) : Prop := W.heap[g]? = some (.cells #[.int .i64 m.1, .int .i64 m.2.1, .int .i64 m.2.2] t (0, 0))
def ClM (W : World) (c g : Nat) : Prop := W.heap[c]? = some (.cells #[.pointer (some ⟨g, 0, none⟩)] 191 (0, 0))
theorem StM.cells {t : TypeId} {W : World} {g : Nat} {m : Int × Int × Int} (h : StM t W g m) : (W.cell? ⟨g, 0, none⟩ = some (.int .i64 m.1) ∧ W.cell? ⟨g, 1, none⟩ = some (.int .i64 m.2.1) ∧ W.cell? ⟨g, 2, none⟩ = some (.int .i64 m.2.2)) ∧ (W.frozen? ⟨g, 0, none⟩ = false ∧ W.frozen? ⟨g, 1, none⟩ = false ∧ W.frozen? ⟨g, 2, none⟩ = false) :=
  ⟨⟨blk_cell h 0, blk_cell h 1, blk_cell h 2⟩, blk_frozen h 0, blk_frozen h 1, blk_frozen h 2⟩
theorem StM.set {t : TypeId} {W : World} {g : Nat} {a b c : Int} (h : StM t W g (a, b, c)) : (∀ x, StM t (W.setCell ⟨g, 0, none⟩ (.int .i64 x)) g (x, b, c)) ∧ (∀ x, StM t (W.setCell ⟨g, 1, none⟩ (.int .i64 x)) g (a, x, c)) ∧ (∀ x, StM t (W.setCell ⟨g, 2, none⟩ (.int .i64 x)) g (a, b, x)) :=
  ⟨fun _ => blk_set h 0 _, fun _ => blk_set h 1 _, fun _ => blk_set h 2 _⟩
theorem StM.set0 {t : TypeId} {W : World} {g : Nat} {a b c : Int} (h : StM t W g (a, b, c)) (x : Int) : StM t (W.setCell ⟨g, 0, none⟩ (.int .i64 x)) g (x, b, c) := h.set.1 x
theorem StM.set1 {t : TypeId} {W : World} {g : Nat} {a b c : Int} (h : StM t W g (a, b, c)) (x : Int) : StM t (W.setCell ⟨g, 1, none⟩ (.int .i64 x)) g (a, x, c) := h.set.2.1 x
theorem StM.set2 {t : TypeId} {W : World} {g : Nat} {a b c : Int} (h : StM t W g (a, b, c)) (x : Int) : StM t (W.setCell ⟨g, 2, none⟩ (.int .i64 x)) g (a, b, x) := h.set.2.2 x
theorem StM.drew {t : TypeId} {W : World} {g : Nat} {m : Int × Int × Int} (h : StM t W g m) : StM t W.drew g m := h
theorem StM.drewN {t : TypeId} {W : World} {g : Nat} {m : Int × Int × Int} (h : StM t W g m) (n : Nat) : StM t (W.drewN n) g m := h
theorem StM.below {t : TypeId} {W W' : World} {g : Nat} {m : Int × Int × Int} (h : StM t W g m) (hb : Below W.heap.size W W') : StM t W' g m := blk_below h hb
set_option maxHeartbeats 8000000 in
theorem met_calls (c g : Nat) (s d e dep : Int) (good : Bool) (w0 w : World) (hw : w0.heap.size ≤ g) (hB : Below w0.heap.size w0 w) (hg : StM 103 w g (s, d, e)) (hc : ClM w c g) :
    Calls Try.prog 161 #[.int .i64 dep, .bool good, .pointer (some ⟨c, 0, none⟩)] w fun en w' => en = .returned (.bool ((nodeM dep good (s, d, e)).2.2 == 0)) ∧ StM 103 w' g (nodeM dep good (s, d, e)) ∧ KeepBut w w' g none ∧ Below w0.heap.size w0 w' := by
  have hcg : c ≠ g := blk_ne hc hg kq2
  have hcg1 : g ≠ c := fun h => hcg h.symm
  have hcc : w.cell? ⟨c, 0, none⟩ = some (.pointer (some ⟨g, 0, none⟩)) := blk_cell hc 0
  have hcf := blk_frozen hc 0
  obtain ⟨⟨h0, h1, h2⟩, f0, f1, f2⟩ := hg.cells
  have HS := mk hg
  have HB := mk hB
  have HK := mk (KeepBut.refl w g none)
  have hs1 : (w.setCell ⟨g, 0, none⟩ (.int .i64 (wrap64 (s + 1)))).cell? ⟨g, 1, none⟩ = some (.int .i64 d) := (hg.set.1 _).cells.1.2.1
  clear hg hB hc
  obtain ⟨m, hm⟩ : ∃ m : Int, mx d dep = m := ⟨_, rfl⟩
  have hm1 : (if d < dep then dep else d) = m := hm
  unfold nodeM
  simp only [hm]
  cases good
  all_goals
   go_enter Try.func161, Try.ntmps161
   go_wp2
   go_region_with (fail)
   all_goals go_wp2
   all_goals go_ret
   all_goals exact ⟨rfl, by repeat (first | exact HS.out | (with_reducible first | apply StM.drewN | apply StM.drew | apply StM.set0 | apply StM.set1 | apply StM.set2)), by repeat (first | (with_reducible first | exact HK.out | apply KeepBut.set_ | apply keep_drewN | apply keep_drew | apply keep_alloc) | exact HK.out), by repeat (first | (with_reducible first | exact HB.out | apply below_alloc | apply pw_below_drewN | apply below_drew1 | refine below_set ?_ hw) | exact HB.out)⟩
end Go.Proofs.Ytjknpmibdkoklaa.U
