/- Functions of the given program as Lean functions, each with its contract, and what they answer; words for it. No condition but those of each. -/
import Derived.Test.YtjknpmibdkoklaaMG14
import Derived.LoopTactic
import Derived.Shelf.Abstract
import Derived.Test.YtjknpmibdkoklaaMG10
import Derived.Test.YtjknpmibdkoklaaMG5
import Derived.Test.YtjknpmibdkoklaaMG9
set_option maxRecDepth 100000
namespace Go.Proofs.Ytjknpmibdkoklaa.Q
open Go.RowKit Go.Proofs.YtjknpmibdkoklaaW.PrintWords Go.Proofs.YtjknpmibdkoklaaW.PrintLast Go.Proofs.YtjknpmibdkoklaaW.PrintMore
open Aside0 (mk)
theorem met0_calls (g : Nat) (w : World) : Calls Try.prog 117 #[.pointer (some ⟨g, 0, none⟩)] w fun e w' => ∃ c, e = .returned (.func (.func 161) #[] #[.pointer (some ⟨c, 0, none⟩)]) ∧ w.heap.size ≤ c ∧ ClM w' c g ∧ Below w.heap.size w w' := by
  go_enter Try.func117, Try.ntmps117
  go_wp2_with ((with_reducible refine gate_dst (N := 1) rfl ?_); refine box_event ?hg (N := 1) ?hd (cs := #[.pointer (some ⟨g, 0, none⟩)]) (t := 191) ?hr ?_; (case hd => rfl); (case hg => rfl); (case hr => first | (go_simp; done) | (go_simp; rfl)); intro gb hgb w1 hbox hb; have BK := mk hbox; have HB := mk hb; have GE := mk (Nat.le_of_eq hgb.symm); clear hbox hb hgb)
  go_ret
  exact ⟨gb, rfl, GE.out, BK.out, HB.out⟩
set_option maxHeartbeats 8000000 in
theorem measured_calls (t : S39) (A : Option Addr) (c0 : Nat) (B : Option Addr) (c1 : Nat) (w : World) (hr : Kd.C k66 w A t.f3.length t.f3) (hc : t.f3.length ≤ c0) (hr4 : Kd.C k39 w B t.f4.length t.f4) (hc4 : t.f4.length ≤ c1) :
    Calls Try.prog 76 #[.agg #[.int .i64 t.f0, .string t.f1, .int .i64 t.f2, .slice A t.f3.length c0, .slice B t.f4.length c1]] w fun e w' => e = .returned (.agg #[.int .i64 (measF t 1 (0, 0, 0)).1, .int .i64 (measF t 1 (0, 0, 0)).2.1, .int .i64 (measF t 1 (0, 0, 0)).2.2]) ∧ Below w.heap.size w w' := by
  have hu66 := Try.underlying66
  have hu39 := Try.underlying39
  have HR := mk hr
  have HC := mk hc
  have HR4 := mk hr4
  have HC4 := mk hc4
  clear hr hc hr4 hc4
  go_enter Try.func76, Try.ntmps76
  go_wp2_with (first | ((with_reducible refine gate_dst (N := 1) rfl ?_); refine box_event ?hg (N := 1) ?hd (cs := #[.int .i64 t.f0, .string t.f1, .int .i64 t.f2, .slice A t.f3.length c0, .slice B t.f4.length c1]) (t := 39) ?hr ?_; (case hd => rfl); (case hg => rfl); (case hr => first | (go_simp; done) | (go_simp; rfl)); intro g1 hg1 w1 hbox hb; have BKf := mk hbox; have HWf := mk hb; have GEf := mk (Nat.le_of_eq hg1.symm); skip; clear hb hbox hg1; have fz0 := blk_frozen BKf.out 0; have fz1 := blk_frozen BKf.out 1; have fz2 := blk_frozen BKf.out 2; have fz3 := blk_frozen BKf.out 3; have fz4 := blk_frozen BKf.out 4; have fc0 : w1.cell? ⟨g1, 0, none⟩ = some (.int .i64 t.f0) := (blk_cell BKf.out 0).trans rfl; have fc1 : w1.cell? ⟨g1, 1, none⟩ = some (.string t.f1) := (blk_cell BKf.out 1).trans rfl; have fc2 : w1.cell? ⟨g1, 2, none⟩ = some (.int .i64 t.f2) := (blk_cell BKf.out 2).trans rfl; have fc3 : w1.cell? ⟨g1, 3, none⟩ = some (.slice A t.f3.length c0) := (blk_cell BKf.out 3).trans rfl; have fc4 : w1.cell? ⟨g1, 4, none⟩ = some (.slice B t.f4.length c1) := (blk_cell BKf.out 4).trans rfl) | ((with_reducible refine gate_dst (N := 2) rfl ?_); refine box_event ?hg (N := 2) ?hd (cs := #[.int .i64 0, .int .i64 0, .int .i64 0]) (t := 103) ?hr ?_; (case hd => rfl); (case hg => rfl); (case hr => first | (go_simp; done) | (go_simp; rfl)); intro g2 hg2 w2 hbox hb; have BKr := mk hbox; have HWr := mk hb; have GEr := mk (Nat.le_of_eq hg2.symm); have BKf2 := mk (blk_below BKf.out hb); clear hb hbox hg2; have rz0 := blk_frozen BKr.out 0; have rz1 := blk_frozen BKr.out 1; have rz2 := blk_frozen BKr.out 2; have rc0 : w2.cell? ⟨g2, 0, none⟩ = some (.int .i64 0) := (blk_cell BKr.out 0).trans rfl; have rc1 : w2.cell? ⟨g2, 1, none⟩ = some (.int .i64 0) := (blk_cell BKr.out 1).trans rfl; have rc2 : w2.cell? ⟨g2, 2, none⟩ = some (.int .i64 0) := (blk_cell BKr.out 2).trans rfl) | ((with_reducible refine gate_dst (N := 3) rfl ?_); refine box_event ?hg (N := 3) ?hd (cs := #[.int .i64 0, .int .i64 0, .int .i64 0]) (t := 103) ?hr ?_; (case hd => rfl); (case hg => rfl); (case hr => first | (go_simp; done) | (go_simp; rfl)); intro g3 hg3 w3 hbox hb; have BKm := mk hbox; have HWm := mk hb; have GEm := mk (Nat.le_of_eq hg3.symm); skip; clear hb hbox hg3; have mz0 := blk_frozen BKm.out 0; have mz1 := blk_frozen BKm.out 1; have mz2 := blk_frozen BKm.out 2; have mc0 : w3.cell? ⟨g3, 0, none⟩ = some (.int .i64 0) := (blk_cell BKm.out 0).trans rfl; have mc1 : w3.cell? ⟨g3, 1, none⟩ = some (.int .i64 0) := (blk_cell BKm.out 1).trans rfl; have mc2 : w3.cell? ⟨g3, 2, none⟩ = some (.int .i64 0) := (blk_cell BKm.out 2).trans rfl))
  generalize hW : ((w3.setCell ⟨g3, 0, none⟩ (.int .i64 0)).setCell ⟨g3, 1, none⟩ (.int .i64 0)).setCell ⟨g3, 2, none⟩ (.int .i64 0) = W
  have B1 := mk (show Below w.heap.size w W by rw [← hW]; exact below_set (below_set (below_set (below_step (below_step HWf.out HWr.out) HWm.out) (by have := GEm.out; have := HWr.out.size; have := HWf.out.size; omega)) (by have := GEm.out; have := HWr.out.size; have := HWf.out.size; omega)) (by have := GEm.out; have := HWr.out.size; have := HWf.out.size; omega))
  have N13 := mk (show g1 ≠ g3 from blk_ne (blk_below BKf2.out HWm.out) BKm.out (by decide))
  have N23 := mk (show g2 ≠ g3 from fun e => by have := GEm.out; have := blk_lt BKr.out; omega)
  have K3 := mk (show StM 103 W g3 (0, 0, 0) from by rw [← hW]; exact StM.set2 (StM.set1 (StM.set0 (a := 0) (b := 0) (c := 0) BKm.out 0) 0) 0)
  have K1 := mk (show W.heap[g1]? = some (.cells #[.int .i64 t.f0, .string t.f1, .int .i64 t.f2, .slice A t.f3.length c0, .slice B t.f4.length c1] 39 (0, 0)) by rw [← hW]; exact blk_far (blk_far (blk_far (blk_below BKf2.out HWm.out) N13.out _) N13.out _) N13.out _)
  have K2 := mk (show StM 103 W g2 (0, 0, 0) from by rw [← hW]; exact blk_far (blk_far (blk_far (blk_below BKr.out HWm.out) N23.out _) N23.out _) N23.out _)
  have HG3 := mk (show w.heap.size ≤ g3 by have := GEm.out; have := HWr.out.size; have := HWf.out.size; omega)
  have HG2 := mk (show w.heap.size ≤ g2 by have := GEr.out; have := HWf.out.size; omega)
  clear hW BKf BKf2 BKr BKm HWf HWr HWm GEf GEr GEm fz0 fz1 fz2 fz3 fz4 rz0 rz1 rz2 mz0 mz1 mz2 fc0 fc1 fc2 fc3 fc4 rc0 rc1 rc2 mc0 mc1 mc2
  have x0 : W.cell? ⟨g1, 0, none⟩ = some (.int .i64 t.f0) := (blk_cell K1.out 0).trans rfl; have x1 : W.cell? ⟨g1, 1, none⟩ = some (.string t.f1) := (blk_cell K1.out 1).trans rfl; have x2 : W.cell? ⟨g1, 2, none⟩ = some (.int .i64 t.f2) := (blk_cell K1.out 2).trans rfl; have x3 : W.cell? ⟨g1, 3, none⟩ = some (.slice A t.f3.length c0) := (blk_cell K1.out 3).trans rfl; have x4 : W.cell? ⟨g1, 4, none⟩ = some (.slice B t.f4.length c1) := (blk_cell K1.out 4).trans rfl
  go_region_with (first | (go_at_call 117; refine (met0_calls g3 _).mono ?_; rintro e w5 ⟨cc, rfl, hcc, hcl, hb⟩; have CC := mk hcl; have HGC := mk (Nat.le_trans B1.out.size hcc); have B5 := mk (below_step (by repeat (first | exact B1.out | (with_reducible first | apply pw_below_drewN | apply below_drew1))) hb); have K35 := mk (StM.below (StM.drew K3.out) hb); have K15 := mk (blk_below (blk_drew K1.out) hb); have K25 := mk (StM.below (StM.drew K2.out) hb); clear hcl hb hcc; have v0 : w5.cell? ⟨g1, 0, none⟩ = some (.int .i64 t.f0) := (blk_cell K15.out 0).trans rfl; have v1 : w5.cell? ⟨g1, 1, none⟩ = some (.string t.f1) := (blk_cell K15.out 1).trans rfl; have v2 : w5.cell? ⟨g1, 2, none⟩ = some (.int .i64 t.f2) := (blk_cell K15.out 2).trans rfl; have v3 : w5.cell? ⟨g1, 3, none⟩ = some (.slice A t.f3.length c0) := (blk_cell K15.out 3).trans rfl; have v4 : w5.cell? ⟨g1, 4, none⟩ = some (.slice B t.f4.length c1) := (blk_cell K15.out 4).trans rfl) | (go_at_call 118; refine (walkF_calls _ t (Nat.lt_succ_self _) A c0 B c1 1 (0, 0, 0) w _ cc g3 HG3.out ⟨K35.out, CC.out, KeepBut.refl _ _ _, B5.out⟩ HR.out HC.out HR4.out HC4.out).mono ?_; rintro e w6 ⟨rfl, hg⟩; have KG := mk hg; have K26 := mk (hg.keep.blk K25.out N23.out (by simp)); clear hg))
  all_goals
    generalize hRR0 : measF t 1 (0, 0, 0) = R at KG ⊢
    have hRR := mk hRR0
    clear hRR0
    obtain ⟨r1, r2, r3⟩ := R
    obtain ⟨⟨s0, s1, s2⟩, _, _, _⟩ := KG.out.st.cells
    have K27 : StM 103 w6 g2 (0, 0, 0) := K26.out
    obtain ⟨⟨p0, p1, p2⟩, e0, e1, e2⟩ := StM.cells K27
    go_wp2
    refine bodyPost_ret (results_cell_row rfl _ _ g2 103 #[.int .i64 r1, .int .i64 r2, .int .i64 r3] (0, 0) _ rfl (StM.set2 (StM.set1 (StM.set0 K27 r1) r2) r3) Try.underlying103 rfl (by kernel_rfl)) rfl ?_
    exact ⟨by rw [hRR.out], below_set (below_set (below_set KG.out.below HG2.out) HG2.out) HG2.out⟩
end Go.Proofs.Ytjknpmibdkoklaa.Q
namespace Go.Proofs.Ytjknpmibdkoklaa.Q
open Go.RowKit Go.Proofs.YtjknpmibdkoklaaW.PrintWords Go.Proofs.YtjknpmibdkoklaaW.PrintLast Go.Proofs.YtjknpmibdkoklaaW.PrintMore
open Aside0 (mk)
def tree_measured.f (a0_0 : Int) (a0_1 : ByteArray) (a0_2 : Int) (l0_3 : List (S66)) (l0_4 : List (S39)) : Option (Int × Int × Int) := some (measF ⟨a0_0, a0_1, a0_2, l0_3, l0_4⟩ 1 (0, 0, 0))
theorem tree_measured.calls (a0_0 : Int) (a0_1 : ByteArray) (a0_2 : Int) (A0_3 : Option Addr) (c0_3 : Nat) (l0_3 : List (S66)) (A0_4 : Option Addr) (c0_4 : Nat) (l0_4 : List (S39)) (r1 r2 r3 : Int) (w : World) (hr0_3 : Kd.C k66 w A0_3 l0_3.length l0_3) (hc0_3 : l0_3.length ≤ c0_3) (hr0_4 : Kd.C k39 w A0_4 l0_4.length l0_4) (hc0_4 : l0_4.length ≤ c0_4) (h : tree_measured.f a0_0 a0_1 a0_2 l0_3 l0_4 = some (r1, r2, r3)) :
    Calls Try.prog 76 #[.agg #[.int .i64 a0_0, .string a0_1, .int .i64 a0_2, .slice A0_3 l0_3.length c0_3, .slice A0_4 l0_4.length c0_4]] w fun e w' => e = .returned (.agg #[.int .i64 r1, .int .i64 r2, .int .i64 r3]) ∧ Below w.heap.size w w' := by
  have h1 := Option.some.inj h
  have := measured_calls ⟨a0_0, a0_1, a0_2, l0_3, l0_4⟩ A0_3 c0_3 A0_4 c0_4 w hr0_3 hc0_3 hr0_4 hc0_4
  rw [h1] at this
  exact this
end Go.Proofs.Ytjknpmibdkoklaa.Q
