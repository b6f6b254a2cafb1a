/- Functions of the given program as Lean functions, each with its contract, and what they answer; words for it. No condition but those of each. -/
import Derived.Test.YtjknpmibdkoklaaMRS
import Derived.Test.YtjknpmibdkoklaaMRR
import Derived.Test.YtjknpmibdkoklaaMR11
import Derived.Test.YtjknpmibdkoklaaMR10
import Derived.Test.YtjknpmibdkoklaaMR4
import Derived.LoopTactic
import Derived.Shelf.Abstract
set_option linter.unusedVariables false
set_option linter.unusedSimpArgs false
set_option maxRecDepth 100000
namespace Go.Proofs.Ytjknpmibdkoklaa.Q
open Go.RowKit Go.Proofs.YtjknpmibdkoklaaW.PrintWords Go.Proofs.YtjknpmibdkoklaaW.PrintLast Go.Proofs.YtjknpmibdkoklaaW.PrintMore
open Aside0 (mk)
def Z107 : Obj := .cells #[.slice none 0 0, .slice none 0 0, .int .i64 0, .int .i64 0] 107
theorem R_kept2 {w W : World} {base g : Nat} {t : TypeId} {cells : Array Value} {u v : Value} {xs : List ByteArray} {ys : List Int} (h : Kd.R Kd.string 9 w base (fun _ => True) u xs) (hb : w.heap[g]? = some (.cells cells t (0, 0))) (ht : ∀ q, q ∈ 9 :: Kd.string.E → q ≠ t) (hv : Kd.R (Kd.int .i64) 2 w base (fun _ => True) v ys) (ht2 : ∀ q, q ∈ 9 :: Kd.string.E → q ≠ 2) {w0 : World} (hk : KeepBut w0 W g v.ownBlock) (h0 : w0.heap.size = w.heap.size) (h1 : ∀ i, i ≠ g → w0.heap[i]? = w.heap[i]?) : Kd.R Kd.string 9 W base (fun _ => True) u xs :=
  Kd.R_mono (Kd.R_step (Kd.R_apartR (Kd.R_types h hb ht) hv ht2) (fun k hk1 hlt => (hk.2 k (by rw [h0]; exact hlt) hk1.1.2 hk1.2).trans (h1 k hk1.1.2))) (fun _ _ => trivial)
set_option maxHeartbeats 4000000 in
theorem end6 {w W : World} {g1 g2 g5 g6 : Nat} {q1 q2 : Array Value} {u0 u1 u2 u3 u4 u5 u6 u7 : Value} {na nb : List ByteArray} {ca cb : List Int} (G5 : w.heap.size ≤ g5) (G6 : w.heap.size ≤ g6) (N15 : g1 ≠ g5) (N16 : g1 ≠ g6) (N25 : g2 ≠ g5) (N26 : g2 ≠ g6) (N56 : g5 ≠ g6) (B1 : W.heap[g1]? = some (.cells q1 39 (0, 0))) (B2 : W.heap[g2]? = some (.cells q2 58 (0, 0))) (B5 : W.heap[g5]? = some (.cells #[.slice none 0 0, .slice none 0 0, .int .i64 0, .int .i64 0] 107 (0, 0))) (B6 : W.heap[g6]? = some (.cells #[.slice none 0 0, .slice none 0 0, .int .i64 0, .int .i64 0] 107 (0, 0))) (A0 : Kd.R Kd.string 9 W w.heap.size (fun _ => True) (u0) (na)) (A1 : Kd.R (Kd.int .i64) 2 W w.heap.size (fun _ => True) (u1) (ca)) (A2 : Kd.R Kd.string 9 W w.heap.size (fun _ => True) (u4) (nb)) (A3 : Kd.R (Kd.int .i64) 2 W w.heap.size (fun _ => True) (u5) (cb)) (B : Below w.heap.size w W) :
    Aside0 (((((((((W.setCell ⟨g5, 0, none⟩ u0).setCell ⟨g5, 1, none⟩ u1).setCell ⟨g5, 2, none⟩ u2).setCell ⟨g5, 3, none⟩ u3).setCell ⟨g6, 0, none⟩ u4).setCell ⟨g6, 1, none⟩ u5).setCell ⟨g6, 2, none⟩ u6).setCell ⟨g6, 3, none⟩ u7).heap[g1]? = some (.cells q1 39 (0, 0))) ∧ Aside0 (((((((((W.setCell ⟨g5, 0, none⟩ u0).setCell ⟨g5, 1, none⟩ u1).setCell ⟨g5, 2, none⟩ u2).setCell ⟨g5, 3, none⟩ u3).setCell ⟨g6, 0, none⟩ u4).setCell ⟨g6, 1, none⟩ u5).setCell ⟨g6, 2, none⟩ u6).setCell ⟨g6, 3, none⟩ u7).heap[g2]? = some (.cells q2 58 (0, 0))) ∧ Aside0 (((((((((W.setCell ⟨g5, 0, none⟩ u0).setCell ⟨g5, 1, none⟩ u1).setCell ⟨g5, 2, none⟩ u2).setCell ⟨g5, 3, none⟩ u3).setCell ⟨g6, 0, none⟩ u4).setCell ⟨g6, 1, none⟩ u5).setCell ⟨g6, 2, none⟩ u6).setCell ⟨g6, 3, none⟩ u7).heap[g5]? = some (.cells #[u0, u1, u2, u3] 107 (0, 0))) ∧ Aside0 (((((((((W.setCell ⟨g5, 0, none⟩ u0).setCell ⟨g5, 1, none⟩ u1).setCell ⟨g5, 2, none⟩ u2).setCell ⟨g5, 3, none⟩ u3).setCell ⟨g6, 0, none⟩ u4).setCell ⟨g6, 1, none⟩ u5).setCell ⟨g6, 2, none⟩ u6).setCell ⟨g6, 3, none⟩ u7).heap[g6]? = some (.cells #[u4, u5, u6, u7] 107 (0, 0))) ∧ Aside0 (Kd.R Kd.string 9 ((((((((W.setCell ⟨g5, 0, none⟩ u0).setCell ⟨g5, 1, none⟩ u1).setCell ⟨g5, 2, none⟩ u2).setCell ⟨g5, 3, none⟩ u3).setCell ⟨g6, 0, none⟩ u4).setCell ⟨g6, 1, none⟩ u5).setCell ⟨g6, 2, none⟩ u6).setCell ⟨g6, 3, none⟩ u7) w.heap.size (fun _ => True) (u0) (na)) ∧ Aside0 (Kd.R (Kd.int .i64) 2 ((((((((W.setCell ⟨g5, 0, none⟩ u0).setCell ⟨g5, 1, none⟩ u1).setCell ⟨g5, 2, none⟩ u2).setCell ⟨g5, 3, none⟩ u3).setCell ⟨g6, 0, none⟩ u4).setCell ⟨g6, 1, none⟩ u5).setCell ⟨g6, 2, none⟩ u6).setCell ⟨g6, 3, none⟩ u7) w.heap.size (fun _ => True) (u1) (ca)) ∧ Aside0 (Kd.R Kd.string 9 ((((((((W.setCell ⟨g5, 0, none⟩ u0).setCell ⟨g5, 1, none⟩ u1).setCell ⟨g5, 2, none⟩ u2).setCell ⟨g5, 3, none⟩ u3).setCell ⟨g6, 0, none⟩ u4).setCell ⟨g6, 1, none⟩ u5).setCell ⟨g6, 2, none⟩ u6).setCell ⟨g6, 3, none⟩ u7) w.heap.size (fun _ => True) (u4) (nb)) ∧ Aside0 (Kd.R (Kd.int .i64) 2 ((((((((W.setCell ⟨g5, 0, none⟩ u0).setCell ⟨g5, 1, none⟩ u1).setCell ⟨g5, 2, none⟩ u2).setCell ⟨g5, 3, none⟩ u3).setCell ⟨g6, 0, none⟩ u4).setCell ⟨g6, 1, none⟩ u5).setCell ⟨g6, 2, none⟩ u6).setCell ⟨g6, 3, none⟩ u7) w.heap.size (fun _ => True) (u5) (cb)) ∧ Aside0 (Below w.heap.size w ((((((((W.setCell ⟨g5, 0, none⟩ u0).setCell ⟨g5, 1, none⟩ u1).setCell ⟨g5, 2, none⟩ u2).setCell ⟨g5, 3, none⟩ u3).setCell ⟨g6, 0, none⟩ u4).setCell ⟨g6, 1, none⟩ u5).setCell ⟨g6, 2, none⟩ u6).setCell ⟨g6, 3, none⟩ u7)) := by
  have BKg1 := mk B1
  have BKg2 := mk B2
  have BKg5 := mk B5
  have BKg6 := mk B6
  have HA0 := mk A0
  have HA1 := mk A1
  have HB0 := mk A2
  have HB1 := mk A3
  have GEg5 := mk G5
  have GEg6 := mk G6
  have NBg1g5 := mk N15
  have NBg1g6 := mk N16
  have NBg2g5 := mk N25
  have NBg2g6 := mk N26
  have NBg5g6 := mk N56
  have NBg6g5 := mk (Ne.symm N56)
  have HB := mk B
  exact ⟨⟨(blk_far (blk_far (blk_far (blk_far (blk_far (blk_far (blk_far (blk_far (kq24 BKg1) NBg1g5.out _) NBg1g5.out _) NBg1g5.out _) NBg1g5.out _) NBg1g6.out _) NBg1g6.out _) NBg1g6.out _) NBg1g6.out _)⟩, ⟨(blk_far (blk_far (blk_far (blk_far (blk_far (blk_far (blk_far (blk_far (kq24 BKg2) NBg2g5.out _) NBg2g5.out _) NBg2g5.out _) NBg2g5.out _) NBg2g6.out _) NBg2g6.out _) NBg2g6.out _) NBg2g6.out _)⟩, ⟨(blk_far (blk_far (blk_far (blk_far (blk_put (blk_put (blk_put (blk_put (kq24 BKg5) 0 _ rfl) 1 _ rfl) 2 _ rfl) 3 _ rfl) NBg5g6.out _) NBg5g6.out _) NBg5g6.out _) NBg5g6.out _)⟩, ⟨(blk_put (blk_put (blk_put (blk_put (blk_far (blk_far (blk_far (blk_far (kq24 BKg6) NBg6g5.out _) NBg6g5.out _) NBg6g5.out _) NBg6g5.out _) 0 _ rfl) 1 _ rfl) 2 _ rfl) 3 _ rfl)⟩, ⟨Kd.R_mono (Kd.R_far (p := ⟨g6, 3, none⟩) (Kd.R_far (p := ⟨g6, 2, none⟩) (Kd.R_far (p := ⟨g6, 1, none⟩) (Kd.R_far (p := ⟨g6, 0, none⟩) (Kd.R_far (p := ⟨g5, 3, none⟩) (Kd.R_far (p := ⟨g5, 2, none⟩) (Kd.R_far (p := ⟨g5, 1, none⟩) (Kd.R_far (p := ⟨g5, 0, none⟩) (Kd.R_types (Kd.R_types kq77 BKg5.out kq2) BKg6.out kq2) (fun _ h => h.1.2) _) (fun _ h => h.1.2) _) (fun _ h => h.1.2) _) (fun _ h => h.1.2) _) (fun _ h => h.2) _) (fun _ h => h.2) _) (fun _ h => h.2) _) (fun _ h => h.2) _) (fun _ _ => trivial)⟩, ⟨Kd.R_mono (Kd.R_far (p := ⟨g6, 3, none⟩) (Kd.R_far (p := ⟨g6, 2, none⟩) (Kd.R_far (p := ⟨g6, 1, none⟩) (Kd.R_far (p := ⟨g6, 0, none⟩) (Kd.R_far (p := ⟨g5, 3, none⟩) (Kd.R_far (p := ⟨g5, 2, none⟩) (Kd.R_far (p := ⟨g5, 1, none⟩) (Kd.R_far (p := ⟨g5, 0, none⟩) (Kd.R_types (Kd.R_types kq78 BKg5.out kq2) BKg6.out kq2) (fun _ h => h.1.2) _) (fun _ h => h.1.2) _) (fun _ h => h.1.2) _) (fun _ h => h.1.2) _) (fun _ h => h.2) _) (fun _ h => h.2) _) (fun _ h => h.2) _) (fun _ h => h.2) _) (fun _ _ => trivial)⟩, ⟨Kd.R_mono (Kd.R_far (p := ⟨g6, 3, none⟩) (Kd.R_far (p := ⟨g6, 2, none⟩) (Kd.R_far (p := ⟨g6, 1, none⟩) (Kd.R_far (p := ⟨g6, 0, none⟩) (Kd.R_far (p := ⟨g5, 3, none⟩) (Kd.R_far (p := ⟨g5, 2, none⟩) (Kd.R_far (p := ⟨g5, 1, none⟩) (Kd.R_far (p := ⟨g5, 0, none⟩) (Kd.R_types (Kd.R_types kq79 BKg5.out kq2) BKg6.out kq2) (fun _ h => h.1.2) _) (fun _ h => h.1.2) _) (fun _ h => h.1.2) _) (fun _ h => h.1.2) _) (fun _ h => h.2) _) (fun _ h => h.2) _) (fun _ h => h.2) _) (fun _ h => h.2) _) (fun _ _ => trivial)⟩, ⟨Kd.R_mono (Kd.R_far (p := ⟨g6, 3, none⟩) (Kd.R_far (p := ⟨g6, 2, none⟩) (Kd.R_far (p := ⟨g6, 1, none⟩) (Kd.R_far (p := ⟨g6, 0, none⟩) (Kd.R_far (p := ⟨g5, 3, none⟩) (Kd.R_far (p := ⟨g5, 2, none⟩) (Kd.R_far (p := ⟨g5, 1, none⟩) (Kd.R_far (p := ⟨g5, 0, none⟩) (Kd.R_types (Kd.R_types kq80 BKg5.out kq2) BKg6.out kq2) (fun _ h => h.1.2) _) (fun _ h => h.1.2) _) (fun _ h => h.1.2) _) (fun _ h => h.1.2) _) (fun _ h => h.2) _) (fun _ h => h.2) _) (fun _ h => h.2) _) (fun _ h => h.2) _) (fun _ _ => trivial)⟩, ⟨(below_set (below_set (below_set (below_set (below_set (below_set (below_set (below_set kq22 GEg5.out) GEg5.out) GEg5.out) GEg5.out) GEg6.out) GEg6.out) GEg6.out) GEg6.out)⟩⟩
set_option maxHeartbeats 8000000 in
theorem atom_err (op : Int) (nm : ByteArray) (md : Int) (A3 : Option Addr) (c3 : Nat) (l3 : List S66) (A4 : Option Addr) (c4 : Nat) (l4 : List S39) (ev : Int) (w : World) (hr3 : Kd.C k66 w A3 l3.length l3) (hc3 : l3.length ≤ c3) (hr4 : Kd.C k39 w A4 l4.length l4) (hc4 : l4.length ≤ c4) (hck : tree_Check.f op nm md l3 l4 = some ev) (he : ev ≠ 0) :
    Calls Try.prog 44 #[.agg #[.int .i64 op, .string nm, .int .i64 md, .slice A3 l3.length c3, .slice A4 l4.length c4]] w fun e w' => e = .returned (.tuple #[.agg #[.int .i64 0, .slice none 0 0, .slice none 0 0, .int .i64 0, .int .i64 0], .int .i64 ev]) ∧ Below w.heap.size w w' := by
  have he0 : (ev != 0) = true := bne_iff_ne.mpr he
  have he1 : (ev == 0) = false := beq_eq_false_iff_ne.mpr he
  have HCK := mk hck
  clear hck he
  have hu39 := Try.underlying39
  have hu58 := Try.underlying58
  have hu66 := Try.underlying66
  have hu107 := Try.underlying107
  have HR3 := mk hr3
  have HC3 := mk hc3
  have HR4 := mk hr4
  have HC4 := mk hc4
  clear hr3 hc3 hr4 hc4
  have HB := mk (Below.refl w.heap.size w)
  go_enter Try.func44, Try.ntmps44
  go_wp2_with (first | ((with_reducible refine gate_dst (N := 1) rfl ?_); refine box_event ?hg (N := 1) ?hd (cs := #[.int .i64 op, .string nm, .int .i64 md, .slice A3 l3.length c3, .slice A4 l4.length c4]) (t := 39) ?hr ?_; (case hd => rfl); (case hg => rfl); (case hr => exact kq11); intro g1 hg w1 hbox hb; have BKg1 := mk hbox; have GEg1 := mk (kq21 : w.heap.size ≤ g1); replace HB := mk (below_step kq22 hb); clear hb hbox hg; obtain ⟨_, _, _, _, _, _, _, _, _, _⟩ := cz5_ BKg1.out) | ((with_reducible refine gate_dst (N := 2) rfl ?_); refine box_event ?hg (N := 2) ?hd (cs := #[.int .i64 0, .slice none 0 0, .slice none 0 0, .int .i64 0, .int .i64 0]) (t := 58) ?hr ?_; (case hd => rfl); (case hg => rfl); (case hr => exact kq11); intro g2 hg w2 hbox hb; have BKg2 := mk hbox; have GEg2 := mk (kq21 : w.heap.size ≤ g2); have NBg1g2 := mk ((kq23 BKg1) : g1 ≠ g2); have NBg2g1 := mk ((kq25 BKg1) : g2 ≠ g1); replace BKg1 := (bc_ BKg1 hb (kq24 BKg1)); replace HB := mk (below_step kq22 hb); clear hb hbox hg; have ne_g1g2 := NBg1g2.out; have ne_g2g1 := NBg2g1.out; obtain ⟨_, _, _, _, _, _, _, _, _, _⟩ := cz5_ BKg1.out; obtain ⟨_, _, _, _, _, _, _, _, _, _⟩ := cz5_ BKg2.out) | ((go_at_call 36; (with_reducible refine (tree_Check.calls op nm md A3 c3 l3 A4 c4 l4 ev _ ?s1 HC3.out ?s3 HC4.out HCK.out).mono ?_); (case s1 => exact kq83 HR3); (case s3 => exact kq83 HR4); rintro e w3 ⟨rfl, hb⟩; replace BKg1 := (bc_ BKg1 hb (kq27 BKg1 NBg1g2)); replace BKg2 := (bc_ BKg2 hb (kq27 BKg2 NBg2g1)); replace HB := mk (below_step kq22 hb); clear hb; obtain ⟨_, _, _, _, _, _, _, _, _, _⟩ := cz5_ BKg1.out; obtain ⟨_, _, _, _, _, _, _, _, _, _⟩ := cz5_ BKg2.out)))
  refine bodyPost_ret (results_ct rfl _ _ g2 58 #[.int .i64 0, .slice none 0 0, .slice none 0 0, .int .i64 0, .int .i64 0] (0, 0) _ rfl (blk_put (blk_put (blk_put (blk_put (blk_put BKg2.out 0 _ rfl) 1 _ rfl) 2 _ rfl) 3 _ rfl) 4 _ rfl) Try.underlying58 rfl kq0) rfl ?_
  exact ⟨rfl, by repeat (first | exact HB.out | refine below_set ?_ GEg2.out)⟩
set_option maxHeartbeats 8000000 in
theorem atom_shape (op : Int) (nm : ByteArray) (md : Int) (A3 : Option Addr) (c3 : Nat) (l3 : List S66) (A4 : Option Addr) (c4 : Nat) (l4 : List S39) (w : World) (hr3 : Kd.C k66 w A3 l3.length l3) (hc3 : l3.length ≤ c3) (hr4 : Kd.C k39 w A4 l4.length l4) (hc4 : l4.length ≤ c4) (hck : tree_Check.f op nm md l3 l4 = some 0) (ho : op < 9) :
    Calls Try.prog 44 #[.agg #[.int .i64 op, .string nm, .int .i64 md, .slice A3 l3.length c3, .slice A4 l4.length c4]] w fun e w' => e = .returned (.tuple #[.agg #[.int .i64 0, .slice none 0 0, .slice none 0 0, .int .i64 0, .int .i64 0], .int .i64 3]) ∧ Below w.heap.size w w' := by
  have ho1 : decide (op < 9) = true := decide_eq_true ho
  have HCK := mk hck
  clear hck
  have hu39 := Try.underlying39
  have hu58 := Try.underlying58
  have hu66 := Try.underlying66
  have hu107 := Try.underlying107
  have HR3 := mk hr3
  have HC3 := mk hc3
  have HR4 := mk hr4
  have HC4 := mk hc4
  clear hr3 hc3 hr4 hc4
  have HB := mk (Below.refl w.heap.size w)
  go_enter Try.func44, Try.ntmps44
  go_wp2_with (first | ((with_reducible refine gate_dst (N := 1) rfl ?_); refine box_event ?hg (N := 1) ?hd (cs := #[.int .i64 op, .string nm, .int .i64 md, .slice A3 l3.length c3, .slice A4 l4.length c4]) (t := 39) ?hr ?_; (case hd => rfl); (case hg => rfl); (case hr => exact kq11); intro g1 hg w1 hbox hb; have BKg1 := mk hbox; have GEg1 := mk (kq21 : w.heap.size ≤ g1); replace HB := mk (below_step kq22 hb); clear hb hbox hg; obtain ⟨_, _, _, _, _, _, _, _, _, _⟩ := cz5_ BKg1.out) | ((with_reducible refine gate_dst (N := 2) rfl ?_); refine box_event ?hg (N := 2) ?hd (cs := #[.int .i64 0, .slice none 0 0, .slice none 0 0, .int .i64 0, .int .i64 0]) (t := 58) ?hr ?_; (case hd => rfl); (case hg => rfl); (case hr => exact kq11); intro g2 hg w2 hbox hb; have BKg2 := mk hbox; have GEg2 := mk (kq21 : w.heap.size ≤ g2); have NBg1g2 := mk ((kq23 BKg1) : g1 ≠ g2); have NBg2g1 := mk ((kq25 BKg1) : g2 ≠ g1); replace BKg1 := (bc_ BKg1 hb (kq24 BKg1)); replace HB := mk (below_step kq22 hb); clear hb hbox hg; have ne_g1g2 := NBg1g2.out; have ne_g2g1 := NBg2g1.out; obtain ⟨_, _, _, _, _, _, _, _, _, _⟩ := cz5_ BKg1.out; obtain ⟨_, _, _, _, _, _, _, _, _, _⟩ := cz5_ BKg2.out) | ((go_at_call 36; (with_reducible refine (tree_Check.calls op nm md A3 c3 l3 A4 c4 l4 0 _ ?s1 HC3.out ?s3 HC4.out HCK.out).mono ?_); (case s1 => exact kq83 HR3); (case s3 => exact kq83 HR4); rintro e w3 ⟨rfl, hb⟩; replace BKg1 := (bc_ BKg1 hb (kq27 BKg1 NBg1g2)); replace BKg2 := (bc_ BKg2 hb (kq27 BKg2 NBg2g1)); replace HB := mk (below_step kq22 hb); clear hb; obtain ⟨_, _, _, _, _, _, _, _, _, _⟩ := cz5_ BKg1.out; obtain ⟨_, _, _, _, _, _, _, _, _, _⟩ := cz5_ BKg2.out)))
  refine bodyPost_ret (results_ct rfl _ _ g2 58 #[.int .i64 0, .slice none 0 0, .slice none 0 0, .int .i64 0, .int .i64 0] (0, 0) _ rfl (blk_put (blk_put (blk_put (blk_put (blk_put BKg2.out 0 _ rfl) 1 _ rfl) 2 _ rfl) 3 _ rfl) 4 _ rfl) Try.underlying58 rfl kq0) rfl ?_
  exact ⟨rfl, by repeat (first | exact HB.out | refine below_set ?_ GEg2.out)⟩
def atomK (op : Int) : Int := if op = 13 ∨ op = 14 then 1 else if op = 15 then 2 else 0
def atomB (op md ks : Int) : Int := if op = 10 ∨ op = 12 then (subP (negP ks).1 1).1 else if op = 15 then (restP (negP ks).1 md).1 else (negP ks).1
def atomE (op ks es : Int) : Int := if op = 10 ∨ op = 12 then coeffE (coeffE es (negP ks).2) (subP (negP ks).1 1).2 else coeffE es (negP ks).2
def atomC (op md : Int) (cs : List Int) : List Int := if op = 15 then cs.map (fun c => (restP c md).1) else cs
theorem atomC_length (op md : Int) (cs : List Int) : (atomC op md cs).length = cs.length := by unfold atomC; split <;> simp
def atomR (op md : Int) (ns : List ByteArray) (cs : List Int) (ks es te : Int) : Int × List ByteArray × List Int × Int × Int × Int :=
  if coeffE (atomE op ks es) te = 0 then (atomK op, ns, atomC op md cs, atomB op md ks, md, 0) else (0, [], [], 0, 0, coeffE (atomE op ks es) te)
set_option maxHeartbeats 40000000 in
theorem atom_core (k : Nat) (op : Int) (nm : ByteArray) (md : Int) (A3 : Option Addr) (c3 : Nat) (l3 : List S66) (A4 : Option Addr) (c4 : Nat) (l4 : List S39) (w : World) (hr3 : Kd.C k66 w A3 l3.length l3) (hc3 : l3.length ≤ c3) (hr4 : Kd.C k39 w A4 l4.length l4) (hc4 : l4.length ≤ c4) (hck : tree_Check.f op nm md l3 l4 = some 0) (ho : ¬ op < 9) (h2 : 1 < l3.length) (na : List ByteArray) (ca : List Int) (ka ea : Int) (nb : List ByteArray) (cb : List Int) (kb eb : Int) (n0 : List ByteArray) (z0 : List Int) (k0 e0 : Int) (ns : List ByteArray) (cs : List Int) (ks es tt te : Int)
    (hwa : norm_worked.f k (rd_T66 l3 0).f0 (rd_T66 l3 0).f1 (rd_T66 l3 0).f2 (rd_T66 l3 0).f3 = some (na, ca, ka, ea)) (hwb : norm_worked.f k (rd_T66 l3 1).f0 (rd_T66 l3 1).f1 (rd_T66 l3 1).f2 (rd_T66 l3 1).f3 = some (nb, cb, kb, eb)) (hs0 : norm_both.f na ca ka ea nb cb kb eb 1 = some (n0, z0, k0, e0))
    (hs1 : (ea = 0 ∧ eb = 0 ∧ (op = 11 ∨ op = 12)) → norm_both.f nb cb kb eb na ca ka ea 1 = some (ns, cs, ks, es)) (hs2 : ¬ (ea = 0 ∧ eb = 0 ∧ (op = 11 ∨ op = 12)) → n0 = ns ∧ z0 = cs ∧ k0 = ks ∧ e0 = es) (hl : cs.length ≤ 1000000) (htt : chk_Total.f k ([atomB op md ks] ++ atomC op md cs) = some (tt, te)) :
    Calls Try.prog 44 #[.agg #[.int .i64 op, .string nm, .int .i64 md, .slice A3 l3.length c3, .slice A4 l4.length c4]] w fun e w' => ∃ v0 v1 : Value, e = .returned (.tuple #[.agg #[.int .i64 (atomR op md ns cs ks es te).1, v0, v1, .int .i64 (atomR op md ns cs ks es te).2.2.2.1, .int .i64 (atomR op md ns cs ks es te).2.2.2.2.1], .int .i64 (atomR op md ns cs ks es te).2.2.2.2.2]) ∧ Kd.R Kd.string 9 w' w.heap.size (fun _ => True) v0 (atomR op md ns cs ks es te).2.1 ∧ Kd.R (Kd.int .i64) 2 w' w.heap.size (fun _ => True) v1 (atomR op md ns cs ks es te).2.2.1 ∧ Below w.heap.size w w' := by
  have ho1 : decide (op < 9) = false := decide_eq_false ho
  have HCK := mk hck
  have H2 := mk h2
  have HWA := mk hwa
  have HWB := mk hwb
  have HS0 := mk hs0
  have HS1 := mk hs1
  have HS2 := mk hs2
  have HL := mk hl
  have HTT := mk htt
  clear hck h2 hwa hwb hs0 hs1 hs2 hl htt
  have hu39 := Try.underlying39
  have hu58 := Try.underlying58
  have hu66 := Try.underlying66
  have hu107 := Try.underlying107
  have HR3 := mk hr3
  have HC3 := mk hc3
  have HR4 := mk hr4
  have HC4 := mk hc4
  clear hr3 hc3 hr4 hc4
  have HB := mk (Below.refl w.heap.size w)
  go_enter Try.func44, Try.ntmps44
  go_upto_region 6 with (first | ((with_reducible refine gate_dst (N := 1) rfl ?_); refine box_event ?hg (N := 1) ?hd (cs := #[.int .i64 op, .string nm, .int .i64 md, .slice A3 l3.length c3, .slice A4 l4.length c4]) (t := 39) ?hr ?_; (case hd => rfl); (case hg => rfl); (case hr => exact kq11); intro g1 hg w1 hbox hb; have BKg1 := mk hbox; have GEg1 := mk (kq21 : w.heap.size ≤ g1); replace HB := mk (below_step kq22 hb); clear hb hbox hg; obtain ⟨_, _, _, _, _, _, _, _, _, _⟩ := cz5_ BKg1.out) | ((with_reducible refine gate_dst (N := 2) rfl ?_); refine box_event ?hg (N := 2) ?hd (cs := #[.int .i64 0, .slice none 0 0, .slice none 0 0, .int .i64 0, .int .i64 0]) (t := 58) ?hr ?_; (case hd => rfl); (case hg => rfl); (case hr => exact kq11); intro g2 hg w2 hbox hb; have BKg2 := mk hbox; have GEg2 := mk (kq21 : w.heap.size ≤ g2); have NBg1g2 := mk ((kq23 BKg1) : g1 ≠ g2); have NBg2g1 := mk ((kq25 BKg1) : g2 ≠ g1); replace BKg1 := (bc_ BKg1 hb (kq24 BKg1)); replace HB := mk (below_step kq22 hb); clear hb hbox hg; have ne_g1g2 := NBg1g2.out; have ne_g2g1 := NBg2g1.out; obtain ⟨_, _, _, _, _, _, _, _, _, _⟩ := cz5_ BKg1.out; obtain ⟨_, _, _, _, _, _, _, _, _, _⟩ := cz5_ BKg2.out) | ((go_at_call 36; (with_reducible refine (tree_Check.calls op nm md A3 c3 l3 A4 c4 l4 0 _ ?s1 HC3.out ?s3 HC4.out HCK.out).mono ?_); (case s1 => exact kq83 HR3); (case s3 => exact kq83 HR4); rintro e w3 ⟨rfl, hb⟩; replace BKg1 := (bc_ BKg1 hb (kq27 BKg1 NBg1g2)); replace BKg2 := (bc_ BKg2 hb (kq27 BKg2 NBg2g1)); replace HB := mk (below_step kq22 hb); clear hb; obtain ⟨_, _, _, _, _, _, _, _, _, _⟩ := cz5_ BKg1.out; obtain ⟨_, _, _, _, _, _, _, _, _, _⟩ := cz5_ BKg2.out)))
  (try simp only [Act.put, List.setIfInBounds_toArray, List.set_cons_zero, List.set_cons_succ])
  go_cut [5, 6] (fun v5 v6 wc => ∃ (g5 g6 : Nat) (Aa : Option Addr) (xa : Nat) (Ab : Option Addr) (xb : Nat) (Ba : Option Addr) (ya : Nat) (Bb : Option Addr) (yb : Nat), v5 = .pointer (some ⟨g5, 0, none⟩) ∧ v6 = .pointer (some ⟨g6, 0, none⟩) ∧ Aside0 (w.heap.size ≤ g5) ∧ Aside0 (w.heap.size ≤ g6) ∧ Aside0 (g1 ≠ g5) ∧ Aside0 (g1 ≠ g6) ∧ Aside0 (g2 ≠ g5) ∧ Aside0 (g2 ≠ g6) ∧ Aside0 (g5 ≠ g6) ∧ Aside0 (wc.heap[g1]? = some (.cells #[.int .i64 op, .string nm, .int .i64 md, .slice A3 l3.length c3, .slice A4 l4.length c4] 39 (0, 0))) ∧ Aside0 (wc.heap[g2]? = some (.cells #[.int .i64 0, .slice none 0 0, .slice none 0 0, .int .i64 0, .int .i64 0] 58 (0, 0))) ∧ Aside0 (wc.heap[g5]? = some (.cells #[.slice Aa na.length xa, .slice Ab ca.length xb, .int .i64 ka, .int .i64 ea] 107 (0, 0))) ∧ Aside0 (wc.heap[g6]? = some (.cells #[.slice Ba nb.length ya, .slice Bb cb.length yb, .int .i64 kb, .int .i64 eb] 107 (0, 0))) ∧ Aside0 (Kd.R Kd.string 9 wc w.heap.size (fun _ => True) (.slice Aa na.length xa) (na)) ∧ Aside0 (Kd.R (Kd.int .i64) 2 wc w.heap.size (fun _ => True) (.slice Ab ca.length xb) (ca)) ∧ Aside0 (Kd.R Kd.string 9 wc w.heap.size (fun _ => True) (.slice Ba nb.length ya) (nb)) ∧ Aside0 (Kd.R (Kd.int .i64) 2 wc w.heap.size (fun _ => True) (.slice Bb cb.length yb) (cb)) ∧ Aside0 (Below w.heap.size w wc))
  case first =>
    have q0_ : (0 : Int) < (l3.length : Int) := by have := H2.out; omega
    have q1_ : (1 : Int) < (l3.length : Int) := by have := H2.out; omega
    have q2_ : decide ((0 : Int) < (l3.length : Int)) = true := decide_eq_true q0_
    have q3_ : decide ((1 : Int) < (l3.length : Int)) = true := decide_eq_true q1_
    have q4_ : (0 < l3.length) = True := eq_true kq1
    have q5_ : (1 < l3.length) = True := eq_true kq1
    obtain ⟨ad, E0, d0, e0_, hx0_0, hx0_1, hx0_2, hx0_3, hl0, hi0⟩ := at_T66 HR3.out 0 kq1 q0_
    cases e0_
    rw [show ((0 : Int)).toNat = 0 from rfl, show 0 * 4 = 0 from rfl, Addr.add_zero'] at hx0_0
    rw [show ((0 : Int)).toNat = 0 from rfl, show 0 * 4 = 0 from rfl, Addr.add_zero'] at hx0_1
    rw [show ((0 : Int)).toNat = 0 from rfl, show 0 * 4 = 0 from rfl, Addr.add_zero'] at hx0_2
    rw [show ((0 : Int)).toNat = 0 from rfl, show 0 * 4 = 0 from rfl, Addr.add_zero'] at hx0_3
    obtain ⟨ad1, E1, d1, e1_, hx1_0, hx1_1, hx1_2, hx1_3, hl1, hi1⟩ := at_T66 HR3.out 1 kq1 q1_
    obtain rfl : ad = ad1 := by injection e1_
    rw [show ((1 : Int)).toNat = 1 from rfl, show 1 * 4 = 4 from rfl] at hx1_0
    rw [show ((1 : Int)).toNat = 1 from rfl, show 1 * 4 = 4 from rfl] at hx1_1
    rw [show ((1 : Int)).toNat = 1 from rfl, show 1 * 4 = 4 from rfl] at hx1_2
    rw [show ((1 : Int)).toNat = 1 from rfl, show 1 * 4 = 4 from rfl] at hx1_3
    rw [show ad.add 4 = ⟨ad.block, ad.off + 4, none⟩ from rfl] at hx1_0
    rw [show ad.add 4 = ⟨ad.block, ad.off + 4, none⟩ from rfl] at hx1_1
    rw [show ad.add 4 = ⟨ad.block, ad.off + 4, none⟩ from rfl] at hx1_2
    rw [show ad.add 4 = ⟨ad.block, ad.off + 4, none⟩ from rfl] at hx1_3
    have HI0 := mk hi0
    have HI1 := mk hi1
    have HL0 := mk hl0
    have HL1 := mk hl1
    clear hi0 hi1 hl0 hl1 e1_
    refine start_ (n := 14) (S := fun w' => w'.cell? ⟨g1, 3, none⟩ = some (.slice (some ad) l3.length c3) ∧ w'.cell? ad = some (.int .i64 (rd_T66 l3 0).f0) ∧ w'.cell? ⟨ad.block, ad.off + 1, none⟩ = some (.int .i64 (rd_T66 l3 0).f1) ∧ w'.cell? ⟨ad.block, ad.off + 2, none⟩ = some (.string (rd_T66 l3 0).f2) ∧ w'.cell? ⟨ad.block, ad.off + 3, none⟩ = some (.slice E0 (rd_T66 l3 0).f3.length d0) ∧ w'.cell? ⟨ad.block, ad.off + 4, none⟩ = some (.int .i64 (rd_T66 l3 1).f0) ∧ w'.cell? ⟨ad.block, ad.off + 4 + 1, none⟩ = some (.int .i64 (rd_T66 l3 1).f1) ∧ w'.cell? ⟨ad.block, ad.off + 4 + 2, none⟩ = some (.string (rd_T66 l3 1).f2) ∧ w'.cell? ⟨ad.block, ad.off + 4 + 3, none⟩ = some (.slice E1 (rd_T66 l3 1).f3.length d1)) (ds := [12, 13]) #[false,false,false,false,false,false,false,false,false,false,false,false,false,false] kq0 rfl rfl ⟨bk_ BKg1 3, (hc_ HB hx0_0 :), (hc_ HB hx0_1 :), (hc_ HB hx0_2 :), (hc_ HB hx0_3 :), (hc_ HB hx1_0 :), (hc_ HB hx1_1 :), (hc_ HB hx1_2 :), (hc_ HB hx1_3 :)⟩ (fun hHeld => ?_)
    replace BKg1 : Aside0 (w3.drew.heap[g1]? = some (.cells #[.int .i64 op, .string nm, .int .i64 md, .slice (some ad) l3.length c3, .slice A4 l4.length c4] 39 (0, 0))) := ⟨BKg1.out⟩
    replace BKg2 : Aside0 (w3.drew.heap[g2]? = some (.cells #[.int .i64 0, .slice none 0 0, .slice none 0 0, .int .i64 0, .int .i64 0] 58 (0, 0))) := ⟨BKg2.out⟩
    replace HB : Aside0 (Below w.heap.size w w3.drew) := ⟨below_drew1 HB.out⟩
    generalize w3.drew = w9 at BKg1 BKg2 HB hHeld ⊢
    refine pu_ 0 19 ?_
    refine pu_ 5 24 ?_
    refine ta_ 1 20 hHeld ?_
    refine ta_ 6 25 hHeld ?_
    refine pu_ 2 21 ?_
    refine pu_ 7 26 ?_
    refine ta_ 3 22 hHeld ?_
    refine ta_ 8 27 hHeld ?_
    refine three_ (i := 4) (j := 10) (k := 11) (Ni := some 23) (Nj := some 5) (Nk := some 6) #[true,true,true,true,true,true,true,true,true,false,false,false,false,false] #[true,true,true,true,false,true,true,true,true,false,true,false,false,false] #[true,true,true,true,false,true,true,true,true,false,false,true,false,false] rfl rfl rfl rfl rfl rfl kq0 kq2 kq2 kq2 (fun K hK => ?_) (fun K hK => ?_) (fun K hK => ?_)
    · refine goes_ Try.func81 kq0 rfl #[.agg #[.int .i64 (rd_T66 l3 0).f0, .int .i64 (rd_T66 l3 0).f1, .string (rd_T66 l3 0).f2, .slice E0 (rd_T66 l3 0).f3.length d0]] (by rfl) rfl rfl kq33 ?_
      refine (norm_worked.calls k _ _ _ E0 d0 _ na ca ka ea _ (Kd.C_below HI0.out HB.out) HL0.out HWA.out).mono ?_
      rintro e w51 ⟨v0_, v1_, rfl, y0_, y1_, hb⟩
      obtain ⟨Aa, xa, en_⟩ := Kd.R_slice y0_
      subst en_
      obtain ⟨Ab, xb, en_⟩ := Kd.R_slice y1_
      subst en_
      refine ⟨_, rfl, ?_⟩
      have HA0 := mk (Kd.R_lower y0_ (below_size HB.out))
      have HA1 := mk (Kd.R_lower y1_ (below_size HB.out))
      have m0_ := mk (blk_below BKg1.out hb)
      have m1_ := mk (blk_below BKg2.out hb)
      have m2_ := mk (below_step HB.out hb)
      clear BKg1 BKg2 HB
      have BKg1 := m0_
      have BKg2 := m1_
      have HB := m2_
      clear m0_ m1_ m2_
      clear hb y0_ y1_
      refine hK.out _ _ ⟨bk_ BKg1 3, hc_ HB hx0_0, hc_ HB hx0_1, hc_ HB hx0_2, hc_ HB hx0_3, hc_ HB hx1_0, hc_ HB hx1_1, hc_ HB hx1_2, hc_ HB hx1_3⟩ (fun hHeld => ?_)
      clear hK K
      refine norm_ (a' := ?_) ?_ ?_
      rotate_left
      · show Act.put _ (some 23) _ = _
        simp only [Act.put, List.setIfInBounds_toArray, List.set_cons_zero, List.set_cons_succ]
        rfl
      refine three_ (i := 9) (j := 10) (k := 11) (Ni := some 28) (Nj := some 5) (Nk := some 6) #[true,true,true,true,true,true,true,true,true,true,false,false,false,false] #[true,true,true,true,true,true,true,true,true,false,true,false,false,false] #[true,true,true,true,true,true,true,true,true,false,false,true,false,false] rfl rfl rfl rfl rfl rfl kq0 kq2 kq2 kq2 (fun K hK => ?_) (fun K hK => ?_) (fun K hK => ?_)
      · refine goes_ Try.func81 kq0 rfl #[.agg #[.int .i64 (rd_T66 l3 1).f0, .int .i64 (rd_T66 l3 1).f1, .string (rd_T66 l3 1).f2, .slice E1 (rd_T66 l3 1).f3.length d1]] (by rfl) rfl rfl kq33 ?_
        refine (norm_worked.calls k _ _ _ E1 d1 _ nb cb kb eb _ (Kd.C_below HI1.out HB.out) HL1.out HWB.out).mono ?_
        rintro e w52 ⟨v0_, v1_, rfl, y0_, y1_, hb⟩
        obtain ⟨Ba, ya, en_⟩ := Kd.R_slice y0_
        subst en_
        obtain ⟨Bb, yb, en_⟩ := Kd.R_slice y1_
        subst en_
        refine ⟨_, rfl, ?_⟩
        have HB0 := mk (Kd.R_lower y0_ (below_size HB.out))
        have HB1 := mk (Kd.R_lower y1_ (below_size HB.out))
        have m0_ := mk (blk_below BKg1.out hb)
        have m1_ := mk (blk_below BKg2.out hb)
        have m2_ := mk (Kd.R_below HA0.out hb)
        have m3_ := mk (Kd.R_below HA1.out hb)
        have m4_ := mk (below_step HB.out hb)
        clear BKg1 BKg2 HA0 HA1 HB
        have BKg1 := m0_
        have BKg2 := m1_
        have HA0 := m2_
        have HA1 := m3_
        have HB := m4_
        clear m0_ m1_ m2_ m3_ m4_
        clear hb y0_ y1_
        refine hK.out _ _ ⟨bk_ BKg1 3, hc_ HB hx0_0, hc_ HB hx0_1, hc_ HB hx0_2, hc_ HB hx0_3, hc_ HB hx1_0, hc_ HB hx1_1, hc_ HB hx1_2, hc_ HB hx1_3⟩ (fun hHeld => ?_)
        clear hK K
        refine norm_ (a' := ?_) ?_ ?_
        rotate_left
        · show Act.put _ (some 28) _ = _
          simp only [Act.put, List.setIfInBounds_toArray, List.set_cons_zero, List.set_cons_succ]
          rfl
        refine tw_ 10 11 5 6 (fun K hK => ?_) (fun K hK => ?_)
        · refine value_ (v := .pointer (some ⟨w52.heap.size, 0, none⟩)) (w1 := w52.alloc Z107) (by rfl) rfl ?_ ?_
          · unfold Z107
            go_simp
            all_goals first | done | rfl | exact ⟨rfl, rfl⟩
          have NBg1g5 := mk (Nat.ne_of_lt (blk_lt BKg1.out))
          have NBg2g5 := mk (Nat.ne_of_lt (blk_lt BKg2.out))
          have GEg5 := mk (below_size HB.out)
          have BKg5 : Aside0 ((w52.alloc Z107).heap[w52.heap.size]? = some (.cells #[.slice none 0 0, .slice none 0 0, .int .i64 0, .int .i64 0] 107 (0, 0))) := ⟨blk_new w52 _⟩
          replace BKg1 := mk (blk_alloc BKg1.out Z107)
          replace BKg2 := mk (blk_alloc BKg2.out Z107)
          replace HA0 := mk (Kd.R_alloc HA0.out Z107)
          replace HA1 := mk (Kd.R_alloc HA1.out Z107)
          replace HB0 := mk (Kd.R_alloc HB0.out Z107)
          replace HB1 := mk (Kd.R_alloc HB1.out Z107)
          replace HB := mk (below_alloc HB.out Z107)
          generalize w52.alloc Z107 = w53 at BKg5 BKg1 BKg2 HA0 HA1 HB0 HB1 HB ⊢
          generalize w52.heap.size = g5 at BKg5 GEg5 NBg1g5 NBg2g5 ⊢
          refine hK.out _ _ ⟨bk_ BKg1 3, hc_ HB hx0_0, hc_ HB hx0_1, hc_ HB hx0_2, hc_ HB hx0_3, hc_ HB hx1_0, hc_ HB hx1_1, hc_ HB hx1_2, hc_ HB hx1_3⟩ (fun hHeld => ?_)
          clear hK K
          refine norm_ (a' := ?_) ?_ ?_
          rotate_left
          · show Act.put _ (some 5) _ = _
            simp only [Act.put, List.setIfInBounds_toArray, List.set_cons_zero, List.set_cons_succ]
            rfl
          refine on_ 11 6 (fun K hK => ?_)
          refine value_ (v := .pointer (some ⟨w53.heap.size, 0, none⟩)) (w1 := w53.alloc Z107) (by rfl) rfl ?_ ?_
          · unfold Z107
            go_simp
            all_goals first | done | rfl | exact ⟨rfl, rfl⟩
          have NBg1g6 := mk (Nat.ne_of_lt (blk_lt BKg1.out))
          have NBg2g6 := mk (Nat.ne_of_lt (blk_lt BKg2.out))
          have NBg5g6 := mk (Nat.ne_of_lt (blk_lt BKg5.out))
          have GEg6 := mk (below_size HB.out)
          have BKg6 : Aside0 ((w53.alloc Z107).heap[w53.heap.size]? = some (.cells #[.slice none 0 0, .slice none 0 0, .int .i64 0, .int .i64 0] 107 (0, 0))) := ⟨blk_new w53 _⟩
          replace BKg1 := mk (blk_alloc BKg1.out Z107)
          replace BKg2 := mk (blk_alloc BKg2.out Z107)
          replace BKg5 := mk (blk_alloc BKg5.out Z107)
          replace HA0 := mk (Kd.R_alloc HA0.out Z107)
          replace HA1 := mk (Kd.R_alloc HA1.out Z107)
          replace HB0 := mk (Kd.R_alloc HB0.out Z107)
          replace HB1 := mk (Kd.R_alloc HB1.out Z107)
          replace HB := mk (below_alloc HB.out Z107)
          generalize w53.alloc Z107 = w54 at BKg6 BKg1 BKg2 BKg5 HA0 HA1 HB0 HB1 HB ⊢
          generalize w53.heap.size = g6 at BKg6 GEg6 NBg1g6 NBg2g6 NBg5g6 ⊢
          refine hK.out _ _ ⟨bk_ BKg1 3, hc_ HB hx0_0, hc_ HB hx0_1, hc_ HB hx0_2, hc_ HB hx0_3, hc_ HB hx1_0, hc_ HB hx1_1, hc_ HB hx1_2, hc_ HB hx1_3⟩ (fun hHeld => ?_)
          clear hK K
          refine norm_ (a' := ?_) ?_ ?_
          rotate_left
          · show Act.put _ (some 6) _ = _
            simp only [Act.put, List.setIfInBounds_toArray, List.set_cons_zero, List.set_cons_succ]
            rfl
          (first | (have NBg6g5 := mk (Ne.symm NBg5g6.out)) | (have NBg5g6 := mk (Ne.symm NBg6g5.out)))
          have ne_a := NBg5g6.out
          have ne_b := NBg6g5.out
          obtain ⟨_, _, _, _, _, _, _, _⟩ := cz4_ BKg5.out
          obtain ⟨_, _, _, _, _, _, _, _⟩ := cz4_ BKg6.out
          refine last_ (i := 12) (N := none) #[true,true,true,true,true,true,true,true,true,true,true,true,true,false] rfl rfl kq0 kq2 (fun K hK => ?_)
          refine skip_ (w1 := ?_) (by rfl) rfl ?_ ?_
          rotate_left
          · go_simp
            rfl
          refine hK.out _ _ ?_
          clear hK K
          refine last_ (i := 13) (N := none) #[true,true,true,true,true,true,true,true,true,true,true,true,true,true] rfl rfl kq0 kq2 (fun K hK => ?_)
          refine skip_ (w1 := ?_) (by rfl) rfl ?_ ?_
          rotate_left
          · go_simp
            rfl
          refine hK.out _ _ ?_
          clear hK K
          refine done_ kq0 ?_
          try go_wp2
          go_meet
          case rel => exact ⟨g5, g6, Aa, xa, Ab, xb, Ba, ya, Bb, yb, rfl, rfl, GEg5, GEg6, NBg1g5, NBg1g6, NBg2g5, NBg2g6, NBg5g6, end6 GEg5.out GEg6.out NBg1g5.out NBg1g6.out NBg2g5.out NBg2g6.out NBg5g6.out BKg1.out BKg2.out BKg5.out BKg6.out HA0.out HA1.out HB0.out HB1.out HB.out⟩
        · refine value_ (v := .pointer (some ⟨w52.heap.size, 0, none⟩)) (w1 := w52.alloc Z107) (by rfl) rfl ?_ ?_
          · unfold Z107
            go_simp
            all_goals first | done | rfl | exact ⟨rfl, rfl⟩
          have NBg1g6 := mk (Nat.ne_of_lt (blk_lt BKg1.out))
          have NBg2g6 := mk (Nat.ne_of_lt (blk_lt BKg2.out))
          have GEg6 := mk (below_size HB.out)
          have BKg6 : Aside0 ((w52.alloc Z107).heap[w52.heap.size]? = some (.cells #[.slice none 0 0, .slice none 0 0, .int .i64 0, .int .i64 0] 107 (0, 0))) := ⟨blk_new w52 _⟩
          replace BKg1 := mk (blk_alloc BKg1.out Z107)
          replace BKg2 := mk (blk_alloc BKg2.out Z107)
          replace HA0 := mk (Kd.R_alloc HA0.out Z107)
          replace HA1 := mk (Kd.R_alloc HA1.out Z107)
          replace HB0 := mk (Kd.R_alloc HB0.out Z107)
          replace HB1 := mk (Kd.R_alloc HB1.out Z107)
          replace HB := mk (below_alloc HB.out Z107)
          generalize w52.alloc Z107 = w55 at BKg6 BKg1 BKg2 HA0 HA1 HB0 HB1 HB ⊢
          generalize w52.heap.size = g6 at BKg6 GEg6 NBg1g6 NBg2g6 ⊢
          refine hK.out _ _ ⟨bk_ BKg1 3, hc_ HB hx0_0, hc_ HB hx0_1, hc_ HB hx0_2, hc_ HB hx0_3, hc_ HB hx1_0, hc_ HB hx1_1, hc_ HB hx1_2, hc_ HB hx1_3⟩ (fun hHeld => ?_)
          clear hK K
          refine norm_ (a' := ?_) ?_ ?_
          rotate_left
          · show Act.put _ (some 6) _ = _
            simp only [Act.put, List.setIfInBounds_toArray, List.set_cons_zero, List.set_cons_succ]
            rfl
          refine on_ 10 5 (fun K hK => ?_)
          refine value_ (v := .pointer (some ⟨w55.heap.size, 0, none⟩)) (w1 := w55.alloc Z107) (by rfl) rfl ?_ ?_
          · unfold Z107
            go_simp
            all_goals first | done | rfl | exact ⟨rfl, rfl⟩
          have NBg1g5 := mk (Nat.ne_of_lt (blk_lt BKg1.out))
          have NBg2g5 := mk (Nat.ne_of_lt (blk_lt BKg2.out))
          have NBg6g5 := mk (Nat.ne_of_lt (blk_lt BKg6.out))
          have GEg5 := mk (below_size HB.out)
          have BKg5 : Aside0 ((w55.alloc Z107).heap[w55.heap.size]? = some (.cells #[.slice none 0 0, .slice none 0 0, .int .i64 0, .int .i64 0] 107 (0, 0))) := ⟨blk_new w55 _⟩
          replace BKg1 := mk (blk_alloc BKg1.out Z107)
          replace BKg2 := mk (blk_alloc BKg2.out Z107)
          replace BKg6 := mk (blk_alloc BKg6.out Z107)
          replace HA0 := mk (Kd.R_alloc HA0.out Z107)
          replace HA1 := mk (Kd.R_alloc HA1.out Z107)
          replace HB0 := mk (Kd.R_alloc HB0.out Z107)
          replace HB1 := mk (Kd.R_alloc HB1.out Z107)
          replace HB := mk (below_alloc HB.out Z107)
          generalize w55.alloc Z107 = w56 at BKg5 BKg1 BKg2 BKg6 HA0 HA1 HB0 HB1 HB ⊢
          generalize w55.heap.size = g5 at BKg5 GEg5 NBg1g5 NBg2g5 NBg6g5 ⊢
          refine hK.out _ _ ⟨bk_ BKg1 3, hc_ HB hx0_0, hc_ HB hx0_1, hc_ HB hx0_2, hc_ HB hx0_3, hc_ HB hx1_0, hc_ HB hx1_1, hc_ HB hx1_2, hc_ HB hx1_3⟩ (fun hHeld => ?_)
          clear hK K
          refine norm_ (a' := ?_) ?_ ?_
          rotate_left
          · show Act.put _ (some 5) _ = _
            simp only [Act.put, List.setIfInBounds_toArray, List.set_cons_zero, List.set_cons_succ]
            rfl
          (first | (have NBg6g5 := mk (Ne.symm NBg5g6.out)) | (have NBg5g6 := mk (Ne.symm NBg6g5.out)))
          have ne_a := NBg5g6.out
          have ne_b := NBg6g5.out
          obtain ⟨_, _, _, _, _, _, _, _⟩ := cz4_ BKg5.out
          obtain ⟨_, _, _, _, _, _, _, _⟩ := cz4_ BKg6.out
          refine last_ (i := 12) (N := none) #[true,true,true,true,true,true,true,true,true,true,true,true,true,false] rfl rfl kq0 kq2 (fun K hK => ?_)
          refine skip_ (w1 := ?_) (by rfl) rfl ?_ ?_
          rotate_left
          · go_simp
            rfl
          refine hK.out _ _ ?_
          clear hK K
          refine last_ (i := 13) (N := none) #[true,true,true,true,true,true,true,true,true,true,true,true,true,true] rfl rfl kq0 kq2 (fun K hK => ?_)
          refine skip_ (w1 := ?_) (by rfl) rfl ?_ ?_
          rotate_left
          · go_simp
            rfl
          refine hK.out _ _ ?_
          clear hK K
          refine done_ kq0 ?_
          try go_wp2
          go_meet
          case rel => exact ⟨g5, g6, Aa, xa, Ab, xb, Ba, ya, Bb, yb, rfl, rfl, GEg5, GEg6, NBg1g5, NBg1g6, NBg2g5, NBg2g6, NBg5g6, end6 GEg5.out GEg6.out NBg1g5.out NBg1g6.out NBg2g5.out NBg2g6.out NBg5g6.out BKg1.out BKg2.out BKg5.out BKg6.out HA0.out HA1.out HB0.out HB1.out HB.out⟩
      · refine value_ (v := .pointer (some ⟨w51.heap.size, 0, none⟩)) (w1 := w51.alloc Z107) (by rfl) rfl ?_ ?_
        · unfold Z107
          go_simp
          all_goals first | done | rfl | exact ⟨rfl, rfl⟩
        have NBg1g5 := mk (Nat.ne_of_lt (blk_lt BKg1.out))
        have NBg2g5 := mk (Nat.ne_of_lt (blk_lt BKg2.out))
        have GEg5 := mk (below_size HB.out)
        have BKg5 : Aside0 ((w51.alloc Z107).heap[w51.heap.size]? = some (.cells #[.slice none 0 0, .slice none 0 0, .int .i64 0, .int .i64 0] 107 (0, 0))) := ⟨blk_new w51 _⟩
        replace BKg1 := mk (blk_alloc BKg1.out Z107)
        replace BKg2 := mk (blk_alloc BKg2.out Z107)
        replace HA0 := mk (Kd.R_alloc HA0.out Z107)
        replace HA1 := mk (Kd.R_alloc HA1.out Z107)
        replace HB := mk (below_alloc HB.out Z107)
        generalize w51.alloc Z107 = w57 at BKg5 BKg1 BKg2 HA0 HA1 HB ⊢
        generalize w51.heap.size = g5 at BKg5 GEg5 NBg1g5 NBg2g5 ⊢
        refine hK.out _ _ ⟨bk_ BKg1 3, hc_ HB hx0_0, hc_ HB hx0_1, hc_ HB hx0_2, hc_ HB hx0_3, hc_ HB hx1_0, hc_ HB hx1_1, hc_ HB hx1_2, hc_ HB hx1_3⟩ (fun hHeld => ?_)
        clear hK K
        refine norm_ (a' := ?_) ?_ ?_
        rotate_left
        · show Act.put _ (some 5) _ = _
          simp only [Act.put, List.setIfInBounds_toArray, List.set_cons_zero, List.set_cons_succ]
          rfl
        refine tw_ 9 11 28 6 (fun K hK => ?_) (fun K hK => ?_)
        · refine goes_ Try.func81 kq0 rfl #[.agg #[.int .i64 (rd_T66 l3 1).f0, .int .i64 (rd_T66 l3 1).f1, .string (rd_T66 l3 1).f2, .slice E1 (rd_T66 l3 1).f3.length d1]] (by rfl) rfl rfl kq33 ?_
          refine (norm_worked.calls k _ _ _ E1 d1 _ nb cb kb eb _ (Kd.C_below HI1.out HB.out) HL1.out HWB.out).mono ?_
          rintro e w58 ⟨v0_, v1_, rfl, y0_, y1_, hb⟩
          obtain ⟨Ba, ya, en_⟩ := Kd.R_slice y0_
          subst en_
          obtain ⟨Bb, yb, en_⟩ := Kd.R_slice y1_
          subst en_
          refine ⟨_, rfl, ?_⟩
          have HB0 := mk (Kd.R_lower y0_ (below_size HB.out))
          have HB1 := mk (Kd.R_lower y1_ (below_size HB.out))
          have m0_ := mk (blk_below BKg1.out hb)
          have m1_ := mk (blk_below BKg2.out hb)
          have m2_ := mk (blk_below BKg5.out hb)
          have m3_ := mk (Kd.R_below HA0.out hb)
          have m4_ := mk (Kd.R_below HA1.out hb)
          have m5_ := mk (below_step HB.out hb)
          clear BKg1 BKg2 BKg5 HA0 HA1 HB
          have BKg1 := m0_
          have BKg2 := m1_
          have BKg5 := m2_
          have HA0 := m3_
          have HA1 := m4_
          have HB := m5_
          clear m0_ m1_ m2_ m3_ m4_ m5_
          clear hb y0_ y1_
          refine hK.out _ _ ⟨bk_ BKg1 3, hc_ HB hx0_0, hc_ HB hx0_1, hc_ HB hx0_2, hc_ HB hx0_3, hc_ HB hx1_0, hc_ HB hx1_1, hc_ HB hx1_2, hc_ HB hx1_3⟩ (fun hHeld => ?_)
          clear hK K
          refine norm_ (a' := ?_) ?_ ?_
          rotate_left
          · show Act.put _ (some 28) _ = _
            simp only [Act.put, List.setIfInBounds_toArray, List.set_cons_zero, List.set_cons_succ]
            rfl
          refine on_ 11 6 (fun K hK => ?_)
          refine value_ (v := .pointer (some ⟨w58.heap.size, 0, none⟩)) (w1 := w58.alloc Z107) (by rfl) rfl ?_ ?_
          · unfold Z107
            go_simp
            all_goals first | done | rfl | exact ⟨rfl, rfl⟩
          have NBg1g6 := mk (Nat.ne_of_lt (blk_lt BKg1.out))
          have NBg2g6 := mk (Nat.ne_of_lt (blk_lt BKg2.out))
          have NBg5g6 := mk (Nat.ne_of_lt (blk_lt BKg5.out))
          have GEg6 := mk (below_size HB.out)
          have BKg6 : Aside0 ((w58.alloc Z107).heap[w58.heap.size]? = some (.cells #[.slice none 0 0, .slice none 0 0, .int .i64 0, .int .i64 0] 107 (0, 0))) := ⟨blk_new w58 _⟩
          replace BKg1 := mk (blk_alloc BKg1.out Z107)
          replace BKg2 := mk (blk_alloc BKg2.out Z107)
          replace BKg5 := mk (blk_alloc BKg5.out Z107)
          replace HA0 := mk (Kd.R_alloc HA0.out Z107)
          replace HA1 := mk (Kd.R_alloc HA1.out Z107)
          replace HB0 := mk (Kd.R_alloc HB0.out Z107)
          replace HB1 := mk (Kd.R_alloc HB1.out Z107)
          replace HB := mk (below_alloc HB.out Z107)
          generalize w58.alloc Z107 = w59 at BKg6 BKg1 BKg2 BKg5 HA0 HA1 HB0 HB1 HB ⊢
          generalize w58.heap.size = g6 at BKg6 GEg6 NBg1g6 NBg2g6 NBg5g6 ⊢
          refine hK.out _ _ ⟨bk_ BKg1 3, hc_ HB hx0_0, hc_ HB hx0_1, hc_ HB hx0_2, hc_ HB hx0_3, hc_ HB hx1_0, hc_ HB hx1_1, hc_ HB hx1_2, hc_ HB hx1_3⟩ (fun hHeld => ?_)
          clear hK K
          refine norm_ (a' := ?_) ?_ ?_
          rotate_left
          · show Act.put _ (some 6) _ = _
            simp only [Act.put, List.setIfInBounds_toArray, List.set_cons_zero, List.set_cons_succ]
            rfl
          (first | (have NBg6g5 := mk (Ne.symm NBg5g6.out)) | (have NBg5g6 := mk (Ne.symm NBg6g5.out)))
          have ne_a := NBg5g6.out
          have ne_b := NBg6g5.out
          obtain ⟨_, _, _, _, _, _, _, _⟩ := cz4_ BKg5.out
          obtain ⟨_, _, _, _, _, _, _, _⟩ := cz4_ BKg6.out
          refine last_ (i := 12) (N := none) #[true,true,true,true,true,true,true,true,true,true,true,true,true,false] rfl rfl kq0 kq2 (fun K hK => ?_)
          refine skip_ (w1 := ?_) (by rfl) rfl ?_ ?_
          rotate_left
          · go_simp
            rfl
          refine hK.out _ _ ?_
          clear hK K
          refine last_ (i := 13) (N := none) #[true,true,true,true,true,true,true,true,true,true,true,true,true,true] rfl rfl kq0 kq2 (fun K hK => ?_)
          refine skip_ (w1 := ?_) (by rfl) rfl ?_ ?_
          rotate_left
          · go_simp
            rfl
          refine hK.out _ _ ?_
          clear hK K
          refine done_ kq0 ?_
          try go_wp2
          go_meet
          case rel => exact ⟨g5, g6, Aa, xa, Ab, xb, Ba, ya, Bb, yb, rfl, rfl, GEg5, GEg6, NBg1g5, NBg1g6, NBg2g5, NBg2g6, NBg5g6, end6 GEg5.out GEg6.out NBg1g5.out NBg1g6.out NBg2g5.out NBg2g6.out NBg5g6.out BKg1.out BKg2.out BKg5.out BKg6.out HA0.out HA1.out HB0.out HB1.out HB.out⟩
        · refine value_ (v := .pointer (some ⟨w57.heap.size, 0, none⟩)) (w1 := w57.alloc Z107) (by rfl) rfl ?_ ?_
          · unfold Z107
            go_simp
            all_goals first | done | rfl | exact ⟨rfl, rfl⟩
          have NBg1g6 := mk (Nat.ne_of_lt (blk_lt BKg1.out))
          have NBg2g6 := mk (Nat.ne_of_lt (blk_lt BKg2.out))
          have NBg5g6 := mk (Nat.ne_of_lt (blk_lt BKg5.out))
          have GEg6 := mk (below_size HB.out)
          have BKg6 : Aside0 ((w57.alloc Z107).heap[w57.heap.size]? = some (.cells #[.slice none 0 0, .slice none 0 0, .int .i64 0, .int .i64 0] 107 (0, 0))) := ⟨blk_new w57 _⟩
          replace BKg1 := mk (blk_alloc BKg1.out Z107)
          replace BKg2 := mk (blk_alloc BKg2.out Z107)
          replace BKg5 := mk (blk_alloc BKg5.out Z107)
          replace HA0 := mk (Kd.R_alloc HA0.out Z107)
          replace HA1 := mk (Kd.R_alloc HA1.out Z107)
          replace HB := mk (below_alloc HB.out Z107)
          generalize w57.alloc Z107 = w60 at BKg6 BKg1 BKg2 BKg5 HA0 HA1 HB ⊢
          generalize w57.heap.size = g6 at BKg6 GEg6 NBg1g6 NBg2g6 NBg5g6 ⊢
          refine hK.out _ _ ⟨bk_ BKg1 3, hc_ HB hx0_0, hc_ HB hx0_1, hc_ HB hx0_2, hc_ HB hx0_3, hc_ HB hx1_0, hc_ HB hx1_1, hc_ HB hx1_2, hc_ HB hx1_3⟩ (fun hHeld => ?_)
          clear hK K
          refine norm_ (a' := ?_) ?_ ?_
          rotate_left
          · show Act.put _ (some 6) _ = _
            simp only [Act.put, List.setIfInBounds_toArray, List.set_cons_zero, List.set_cons_succ]
            rfl
          refine on_ 9 28 (fun K hK => ?_)
          refine goes_ Try.func81 kq0 rfl #[.agg #[.int .i64 (rd_T66 l3 1).f0, .int .i64 (rd_T66 l3 1).f1, .string (rd_T66 l3 1).f2, .slice E1 (rd_T66 l3 1).f3.length d1]] (by rfl) rfl rfl kq33 ?_
          refine (norm_worked.calls k _ _ _ E1 d1 _ nb cb kb eb _ (Kd.C_below HI1.out HB.out) HL1.out HWB.out).mono ?_
          rintro e w61 ⟨v0_, v1_, rfl, y0_, y1_, hb⟩
          obtain ⟨Ba, ya, en_⟩ := Kd.R_slice y0_
          subst en_
          obtain ⟨Bb, yb, en_⟩ := Kd.R_slice y1_
          subst en_
          refine ⟨_, rfl, ?_⟩
          have HB0 := mk (Kd.R_lower y0_ (below_size HB.out))
          have HB1 := mk (Kd.R_lower y1_ (below_size HB.out))
          have m0_ := mk (blk_below BKg1.out hb)
          have m1_ := mk (blk_below BKg2.out hb)
          have m2_ := mk (blk_below BKg5.out hb)
          have m3_ := mk (blk_below BKg6.out hb)
          have m4_ := mk (Kd.R_below HA0.out hb)
          have m5_ := mk (Kd.R_below HA1.out hb)
          have m6_ := mk (below_step HB.out hb)
          clear BKg1 BKg2 BKg5 BKg6 HA0 HA1 HB
          have BKg1 := m0_
          have BKg2 := m1_
          have BKg5 := m2_
          have BKg6 := m3_
          have HA0 := m4_
          have HA1 := m5_
          have HB := m6_
          clear m0_ m1_ m2_ m3_ m4_ m5_ m6_
          clear hb y0_ y1_
          refine hK.out _ _ ⟨bk_ BKg1 3, hc_ HB hx0_0, hc_ HB hx0_1, hc_ HB hx0_2, hc_ HB hx0_3, hc_ HB hx1_0, hc_ HB hx1_1, hc_ HB hx1_2, hc_ HB hx1_3⟩ (fun hHeld => ?_)
          clear hK K
          refine norm_ (a' := ?_) ?_ ?_
          rotate_left
          · show Act.put _ (some 28) _ = _
            simp only [Act.put, List.setIfInBounds_toArray, List.set_cons_zero, List.set_cons_succ]
            rfl
          (first | (have NBg6g5 := mk (Ne.symm NBg5g6.out)) | (have NBg5g6 := mk (Ne.symm NBg6g5.out)))
          have ne_a := NBg5g6.out
          have ne_b := NBg6g5.out
          obtain ⟨_, _, _, _, _, _, _, _⟩ := cz4_ BKg5.out
          obtain ⟨_, _, _, _, _, _, _, _⟩ := cz4_ BKg6.out
          refine last_ (i := 12) (N := none) #[true,true,true,true,true,true,true,true,true,true,true,true,true,false] rfl rfl kq0 kq2 (fun K hK => ?_)
          refine skip_ (w1 := ?_) (by rfl) rfl ?_ ?_
          rotate_left
          · go_simp
            rfl
          refine hK.out _ _ ?_
          clear hK K
          refine last_ (i := 13) (N := none) #[true,true,true,true,true,true,true,true,true,true,true,true,true,true] rfl rfl kq0 kq2 (fun K hK => ?_)
          refine skip_ (w1 := ?_) (by rfl) rfl ?_ ?_
          rotate_left
          · go_simp
            rfl
          refine hK.out _ _ ?_
          clear hK K
          refine done_ kq0 ?_
          try go_wp2
          go_meet
          case rel => exact ⟨g5, g6, Aa, xa, Ab, xb, Ba, ya, Bb, yb, rfl, rfl, GEg5, GEg6, NBg1g5, NBg1g6, NBg2g5, NBg2g6, NBg5g6, end6 GEg5.out GEg6.out NBg1g5.out NBg1g6.out NBg2g5.out NBg2g6.out NBg5g6.out BKg1.out BKg2.out BKg5.out BKg6.out HA0.out HA1.out HB0.out HB1.out HB.out⟩
      · refine value_ (v := .pointer (some ⟨w51.heap.size, 0, none⟩)) (w1 := w51.alloc Z107) (by rfl) rfl ?_ ?_
        · unfold Z107
          go_simp
          all_goals first | done | rfl | exact ⟨rfl, rfl⟩
        have NBg1g6 := mk (Nat.ne_of_lt (blk_lt BKg1.out))
        have NBg2g6 := mk (Nat.ne_of_lt (blk_lt BKg2.out))
        have GEg6 := mk (below_size HB.out)
        have BKg6 : Aside0 ((w51.alloc Z107).heap[w51.heap.size]? = some (.cells #[.slice none 0 0, .slice none 0 0, .int .i64 0, .int .i64 0] 107 (0, 0))) := ⟨blk_new w51 _⟩
        replace BKg1 := mk (blk_alloc BKg1.out Z107)
        replace BKg2 := mk (blk_alloc BKg2.out Z107)
        replace HA0 := mk (Kd.R_alloc HA0.out Z107)
        replace HA1 := mk (Kd.R_alloc HA1.out Z107)
        replace HB := mk (below_alloc HB.out Z107)
        generalize w51.alloc Z107 = w62 at BKg6 BKg1 BKg2 HA0 HA1 HB ⊢
        generalize w51.heap.size = g6 at BKg6 GEg6 NBg1g6 NBg2g6 ⊢
        refine hK.out _ _ ⟨bk_ BKg1 3, hc_ HB hx0_0, hc_ HB hx0_1, hc_ HB hx0_2, hc_ HB hx0_3, hc_ HB hx1_0, hc_ HB hx1_1, hc_ HB hx1_2, hc_ HB hx1_3⟩ (fun hHeld => ?_)
        clear hK K
        refine norm_ (a' := ?_) ?_ ?_
        rotate_left
        · show Act.put _ (some 6) _ = _
          simp only [Act.put, List.setIfInBounds_toArray, List.set_cons_zero, List.set_cons_succ]
          rfl
        refine tw_ 9 10 28 5 (fun K hK => ?_) (fun K hK => ?_)
        · refine goes_ Try.func81 kq0 rfl #[.agg #[.int .i64 (rd_T66 l3 1).f0, .int .i64 (rd_T66 l3 1).f1, .string (rd_T66 l3 1).f2, .slice E1 (rd_T66 l3 1).f3.length d1]] (by rfl) rfl rfl kq33 ?_
          refine (norm_worked.calls k _ _ _ E1 d1 _ nb cb kb eb _ (Kd.C_below HI1.out HB.out) HL1.out HWB.out).mono ?_
          rintro e w63 ⟨v0_, v1_, rfl, y0_, y1_, hb⟩
          obtain ⟨Ba, ya, en_⟩ := Kd.R_slice y0_
          subst en_
          obtain ⟨Bb, yb, en_⟩ := Kd.R_slice y1_
          subst en_
          refine ⟨_, rfl, ?_⟩
          have HB0 := mk (Kd.R_lower y0_ (below_size HB.out))
          have HB1 := mk (Kd.R_lower y1_ (below_size HB.out))
          have m0_ := mk (blk_below BKg1.out hb)
          have m1_ := mk (blk_below BKg2.out hb)
          have m2_ := mk (blk_below BKg6.out hb)
          have m3_ := mk (Kd.R_below HA0.out hb)
          have m4_ := mk (Kd.R_below HA1.out hb)
          have m5_ := mk (below_step HB.out hb)
          clear BKg1 BKg2 BKg6 HA0 HA1 HB
          have BKg1 := m0_
          have BKg2 := m1_
          have BKg6 := m2_
          have HA0 := m3_
          have HA1 := m4_
          have HB := m5_
          clear m0_ m1_ m2_ m3_ m4_ m5_
          clear hb y0_ y1_
          refine hK.out _ _ ⟨bk_ BKg1 3, hc_ HB hx0_0, hc_ HB hx0_1, hc_ HB hx0_2, hc_ HB hx0_3, hc_ HB hx1_0, hc_ HB hx1_1, hc_ HB hx1_2, hc_ HB hx1_3⟩ (fun hHeld => ?_)
          clear hK K
          refine norm_ (a' := ?_) ?_ ?_
          rotate_left
          · show Act.put _ (some 28) _ = _
            simp only [Act.put, List.setIfInBounds_toArray, List.set_cons_zero, List.set_cons_succ]
            rfl
          refine on_ 10 5 (fun K hK => ?_)
          refine value_ (v := .pointer (some ⟨w63.heap.size, 0, none⟩)) (w1 := w63.alloc Z107) (by rfl) rfl ?_ ?_
          · unfold Z107
            go_simp
            all_goals first | done | rfl | exact ⟨rfl, rfl⟩
          have NBg1g5 := mk (Nat.ne_of_lt (blk_lt BKg1.out))
          have NBg2g5 := mk (Nat.ne_of_lt (blk_lt BKg2.out))
          have NBg6g5 := mk (Nat.ne_of_lt (blk_lt BKg6.out))
          have GEg5 := mk (below_size HB.out)
          have BKg5 : Aside0 ((w63.alloc Z107).heap[w63.heap.size]? = some (.cells #[.slice none 0 0, .slice none 0 0, .int .i64 0, .int .i64 0] 107 (0, 0))) := ⟨blk_new w63 _⟩
          replace BKg1 := mk (blk_alloc BKg1.out Z107)
          replace BKg2 := mk (blk_alloc BKg2.out Z107)
          replace BKg6 := mk (blk_alloc BKg6.out Z107)
          replace HA0 := mk (Kd.R_alloc HA0.out Z107)
          replace HA1 := mk (Kd.R_alloc HA1.out Z107)
          replace HB0 := mk (Kd.R_alloc HB0.out Z107)
          replace HB1 := mk (Kd.R_alloc HB1.out Z107)
          replace HB := mk (below_alloc HB.out Z107)
          generalize w63.alloc Z107 = w64 at BKg5 BKg1 BKg2 BKg6 HA0 HA1 HB0 HB1 HB ⊢
          generalize w63.heap.size = g5 at BKg5 GEg5 NBg1g5 NBg2g5 NBg6g5 ⊢
          refine hK.out _ _ ⟨bk_ BKg1 3, hc_ HB hx0_0, hc_ HB hx0_1, hc_ HB hx0_2, hc_ HB hx0_3, hc_ HB hx1_0, hc_ HB hx1_1, hc_ HB hx1_2, hc_ HB hx1_3⟩ (fun hHeld => ?_)
          clear hK K
          refine norm_ (a' := ?_) ?_ ?_
          rotate_left
          · show Act.put _ (some 5) _ = _
            simp only [Act.put, List.setIfInBounds_toArray, List.set_cons_zero, List.set_cons_succ]
            rfl
          (first | (have NBg6g5 := mk (Ne.symm NBg5g6.out)) | (have NBg5g6 := mk (Ne.symm NBg6g5.out)))
          have ne_a := NBg5g6.out
          have ne_b := NBg6g5.out
          obtain ⟨_, _, _, _, _, _, _, _⟩ := cz4_ BKg5.out
          obtain ⟨_, _, _, _, _, _, _, _⟩ := cz4_ BKg6.out
          refine last_ (i := 12) (N := none) #[true,true,true,true,true,true,true,true,true,true,true,true,true,false] rfl rfl kq0 kq2 (fun K hK => ?_)
          refine skip_ (w1 := ?_) (by rfl) rfl ?_ ?_
          rotate_left
          · go_simp
            rfl
          refine hK.out _ _ ?_
          clear hK K
          refine last_ (i := 13) (N := none) #[true,true,true,true,true,true,true,true,true,true,true,true,true,true] rfl rfl kq0 kq2 (fun K hK => ?_)
          refine skip_ (w1 := ?_) (by rfl) rfl ?_ ?_
          rotate_left
          · go_simp
            rfl
          refine hK.out _ _ ?_
          clear hK K
          refine done_ kq0 ?_
          try go_wp2
          go_meet
          case rel => exact ⟨g5, g6, Aa, xa, Ab, xb, Ba, ya, Bb, yb, rfl, rfl, GEg5, GEg6, NBg1g5, NBg1g6, NBg2g5, NBg2g6, NBg5g6, end6 GEg5.out GEg6.out NBg1g5.out NBg1g6.out NBg2g5.out NBg2g6.out NBg5g6.out BKg1.out BKg2.out BKg5.out BKg6.out HA0.out HA1.out HB0.out HB1.out HB.out⟩
        · refine value_ (v := .pointer (some ⟨w62.heap.size, 0, none⟩)) (w1 := w62.alloc Z107) (by rfl) rfl ?_ ?_
          · unfold Z107
            go_simp
            all_goals first | done | rfl | exact ⟨rfl, rfl⟩
          have NBg1g5 := mk (Nat.ne_of_lt (blk_lt BKg1.out))
          have NBg2g5 := mk (Nat.ne_of_lt (blk_lt BKg2.out))
          have NBg6g5 := mk (Nat.ne_of_lt (blk_lt BKg6.out))
          have GEg5 := mk (below_size HB.out)
          have BKg5 : Aside0 ((w62.alloc Z107).heap[w62.heap.size]? = some (.cells #[.slice none 0 0, .slice none 0 0, .int .i64 0, .int .i64 0] 107 (0, 0))) := ⟨blk_new w62 _⟩
          replace BKg1 := mk (blk_alloc BKg1.out Z107)
          replace BKg2 := mk (blk_alloc BKg2.out Z107)
          replace BKg6 := mk (blk_alloc BKg6.out Z107)
          replace HA0 := mk (Kd.R_alloc HA0.out Z107)
          replace HA1 := mk (Kd.R_alloc HA1.out Z107)
          replace HB := mk (below_alloc HB.out Z107)
          generalize w62.alloc Z107 = w65 at BKg5 BKg1 BKg2 BKg6 HA0 HA1 HB ⊢
          generalize w62.heap.size = g5 at BKg5 GEg5 NBg1g5 NBg2g5 NBg6g5 ⊢
          refine hK.out _ _ ⟨bk_ BKg1 3, hc_ HB hx0_0, hc_ HB hx0_1, hc_ HB hx0_2, hc_ HB hx0_3, hc_ HB hx1_0, hc_ HB hx1_1, hc_ HB hx1_2, hc_ HB hx1_3⟩ (fun hHeld => ?_)
          clear hK K
          refine norm_ (a' := ?_) ?_ ?_
          rotate_left
          · show Act.put _ (some 5) _ = _
            simp only [Act.put, List.setIfInBounds_toArray, List.set_cons_zero, List.set_cons_succ]
            rfl
          refine on_ 9 28 (fun K hK => ?_)
          refine goes_ Try.func81 kq0 rfl #[.agg #[.int .i64 (rd_T66 l3 1).f0, .int .i64 (rd_T66 l3 1).f1, .string (rd_T66 l3 1).f2, .slice E1 (rd_T66 l3 1).f3.length d1]] (by rfl) rfl rfl kq33 ?_
          refine (norm_worked.calls k _ _ _ E1 d1 _ nb cb kb eb _ (Kd.C_below HI1.out HB.out) HL1.out HWB.out).mono ?_
          rintro e w66 ⟨v0_, v1_, rfl, y0_, y1_, hb⟩
          obtain ⟨Ba, ya, en_⟩ := Kd.R_slice y0_
          subst en_
          obtain ⟨Bb, yb, en_⟩ := Kd.R_slice y1_
          subst en_
          refine ⟨_, rfl, ?_⟩
          have HB0 := mk (Kd.R_lower y0_ (below_size HB.out))
          have HB1 := mk (Kd.R_lower y1_ (below_size HB.out))
          have m0_ := mk (blk_below BKg1.out hb)
          have m1_ := mk (blk_below BKg2.out hb)
          have m2_ := mk (blk_below BKg5.out hb)
          have m3_ := mk (blk_below BKg6.out hb)
          have m4_ := mk (Kd.R_below HA0.out hb)
          have m5_ := mk (Kd.R_below HA1.out hb)
          have m6_ := mk (below_step HB.out hb)
          clear BKg1 BKg2 BKg5 BKg6 HA0 HA1 HB
          have BKg1 := m0_
          have BKg2 := m1_
          have BKg5 := m2_
          have BKg6 := m3_
          have HA0 := m4_
          have HA1 := m5_
          have HB := m6_
          clear m0_ m1_ m2_ m3_ m4_ m5_ m6_
          clear hb y0_ y1_
          refine hK.out _ _ ⟨bk_ BKg1 3, hc_ HB hx0_0, hc_ HB hx0_1, hc_ HB hx0_2, hc_ HB hx0_3, hc_ HB hx1_0, hc_ HB hx1_1, hc_ HB hx1_2, hc_ HB hx1_3⟩ (fun hHeld => ?_)
          clear hK K
          refine norm_ (a' := ?_) ?_ ?_
          rotate_left
          · show Act.put _ (some 28) _ = _
            simp only [Act.put, List.setIfInBounds_toArray, List.set_cons_zero, List.set_cons_succ]
            rfl
          (first | (have NBg6g5 := mk (Ne.symm NBg5g6.out)) | (have NBg5g6 := mk (Ne.symm NBg6g5.out)))
          have ne_a := NBg5g6.out
          have ne_b := NBg6g5.out
          obtain ⟨_, _, _, _, _, _, _, _⟩ := cz4_ BKg5.out
          obtain ⟨_, _, _, _, _, _, _, _⟩ := cz4_ BKg6.out
          refine last_ (i := 12) (N := none) #[true,true,true,true,true,true,true,true,true,true,true,true,true,false] rfl rfl kq0 kq2 (fun K hK => ?_)
          refine skip_ (w1 := ?_) (by rfl) rfl ?_ ?_
          rotate_left
          · go_simp
            rfl
          refine hK.out _ _ ?_
          clear hK K
          refine last_ (i := 13) (N := none) #[true,true,true,true,true,true,true,true,true,true,true,true,true,true] rfl rfl kq0 kq2 (fun K hK => ?_)
          refine skip_ (w1 := ?_) (by rfl) rfl ?_ ?_
          rotate_left
          · go_simp
            rfl
          refine hK.out _ _ ?_
          clear hK K
          refine done_ kq0 ?_
          try go_wp2
          go_meet
          case rel => exact ⟨g5, g6, Aa, xa, Ab, xb, Ba, ya, Bb, yb, rfl, rfl, GEg5, GEg6, NBg1g5, NBg1g6, NBg2g5, NBg2g6, NBg5g6, end6 GEg5.out GEg6.out NBg1g5.out NBg1g6.out NBg2g5.out NBg2g6.out NBg5g6.out BKg1.out BKg2.out BKg5.out BKg6.out HA0.out HA1.out HB0.out HB1.out HB.out⟩
    · refine value_ (v := .pointer (some ⟨w9.heap.size, 0, none⟩)) (w1 := w9.alloc Z107) (by rfl) rfl ?_ ?_
      · unfold Z107
        go_simp
        all_goals first | done | rfl | exact ⟨rfl, rfl⟩
      have NBg1g5 := mk (Nat.ne_of_lt (blk_lt BKg1.out))
      have NBg2g5 := mk (Nat.ne_of_lt (blk_lt BKg2.out))
      have GEg5 := mk (below_size HB.out)
      have BKg5 : Aside0 ((w9.alloc Z107).heap[w9.heap.size]? = some (.cells #[.slice none 0 0, .slice none 0 0, .int .i64 0, .int .i64 0] 107 (0, 0))) := ⟨blk_new w9 _⟩
      replace BKg1 := mk (blk_alloc BKg1.out Z107)
      replace BKg2 := mk (blk_alloc BKg2.out Z107)
      replace HB := mk (below_alloc HB.out Z107)
      generalize w9.alloc Z107 = w67 at BKg5 BKg1 BKg2 HB ⊢
      generalize w9.heap.size = g5 at BKg5 GEg5 NBg1g5 NBg2g5 ⊢
      refine hK.out _ _ ⟨bk_ BKg1 3, hc_ HB hx0_0, hc_ HB hx0_1, hc_ HB hx0_2, hc_ HB hx0_3, hc_ HB hx1_0, hc_ HB hx1_1, hc_ HB hx1_2, hc_ HB hx1_3⟩ (fun hHeld => ?_)
      clear hK K
      refine norm_ (a' := ?_) ?_ ?_
      rotate_left
      · show Act.put _ (some 5) _ = _
        simp only [Act.put, List.setIfInBounds_toArray, List.set_cons_zero, List.set_cons_succ]
        rfl
      refine tw_ 4 11 23 6 (fun K hK => ?_) (fun K hK => ?_)
      · refine goes_ Try.func81 kq0 rfl #[.agg #[.int .i64 (rd_T66 l3 0).f0, .int .i64 (rd_T66 l3 0).f1, .string (rd_T66 l3 0).f2, .slice E0 (rd_T66 l3 0).f3.length d0]] (by rfl) rfl rfl kq33 ?_
        refine (norm_worked.calls k _ _ _ E0 d0 _ na ca ka ea _ (Kd.C_below HI0.out HB.out) HL0.out HWA.out).mono ?_
        rintro e w68 ⟨v0_, v1_, rfl, y0_, y1_, hb⟩
        obtain ⟨Aa, xa, en_⟩ := Kd.R_slice y0_
        subst en_
        obtain ⟨Ab, xb, en_⟩ := Kd.R_slice y1_
        subst en_
        refine ⟨_, rfl, ?_⟩
        have HA0 := mk (Kd.R_lower y0_ (below_size HB.out))
        have HA1 := mk (Kd.R_lower y1_ (below_size HB.out))
        have m0_ := mk (blk_below BKg1.out hb)
        have m1_ := mk (blk_below BKg2.out hb)
        have m2_ := mk (blk_below BKg5.out hb)
        have m3_ := mk (below_step HB.out hb)
        clear BKg1 BKg2 BKg5 HB
        have BKg1 := m0_
        have BKg2 := m1_
        have BKg5 := m2_
        have HB := m3_
        clear m0_ m1_ m2_ m3_
        clear hb y0_ y1_
        refine hK.out _ _ ⟨bk_ BKg1 3, hc_ HB hx0_0, hc_ HB hx0_1, hc_ HB hx0_2, hc_ HB hx0_3, hc_ HB hx1_0, hc_ HB hx1_1, hc_ HB hx1_2, hc_ HB hx1_3⟩ (fun hHeld => ?_)
        clear hK K
        refine norm_ (a' := ?_) ?_ ?_
        rotate_left
        · show Act.put _ (some 23) _ = _
          simp only [Act.put, List.setIfInBounds_toArray, List.set_cons_zero, List.set_cons_succ]
          rfl
        refine tw_ 9 11 28 6 (fun K hK => ?_) (fun K hK => ?_)
        · refine goes_ Try.func81 kq0 rfl #[.agg #[.int .i64 (rd_T66 l3 1).f0, .int .i64 (rd_T66 l3 1).f1, .string (rd_T66 l3 1).f2, .slice E1 (rd_T66 l3 1).f3.length d1]] (by rfl) rfl rfl kq33 ?_
          refine (norm_worked.calls k _ _ _ E1 d1 _ nb cb kb eb _ (Kd.C_below HI1.out HB.out) HL1.out HWB.out).mono ?_
          rintro e w69 ⟨v0_, v1_, rfl, y0_, y1_, hb⟩
          obtain ⟨Ba, ya, en_⟩ := Kd.R_slice y0_
          subst en_
          obtain ⟨Bb, yb, en_⟩ := Kd.R_slice y1_
          subst en_
          refine ⟨_, rfl, ?_⟩
          have HB0 := mk (Kd.R_lower y0_ (below_size HB.out))
          have HB1 := mk (Kd.R_lower y1_ (below_size HB.out))
          have m0_ := mk (blk_below BKg1.out hb)
          have m1_ := mk (blk_below BKg2.out hb)
          have m2_ := mk (blk_below BKg5.out hb)
          have m3_ := mk (Kd.R_below HA0.out hb)
          have m4_ := mk (Kd.R_below HA1.out hb)
          have m5_ := mk (below_step HB.out hb)
          clear BKg1 BKg2 BKg5 HA0 HA1 HB
          have BKg1 := m0_
          have BKg2 := m1_
          have BKg5 := m2_
          have HA0 := m3_
          have HA1 := m4_
          have HB := m5_
          clear m0_ m1_ m2_ m3_ m4_ m5_
          clear hb y0_ y1_
          refine hK.out _ _ ⟨bk_ BKg1 3, hc_ HB hx0_0, hc_ HB hx0_1, hc_ HB hx0_2, hc_ HB hx0_3, hc_ HB hx1_0, hc_ HB hx1_1, hc_ HB hx1_2, hc_ HB hx1_3⟩ (fun hHeld => ?_)
          clear hK K
          refine norm_ (a' := ?_) ?_ ?_
          rotate_left
          · show Act.put _ (some 28) _ = _
            simp only [Act.put, List.setIfInBounds_toArray, List.set_cons_zero, List.set_cons_succ]
            rfl
          refine on_ 11 6 (fun K hK => ?_)
          refine value_ (v := .pointer (some ⟨w69.heap.size, 0, none⟩)) (w1 := w69.alloc Z107) (by rfl) rfl ?_ ?_
          · unfold Z107
            go_simp
            all_goals first | done | rfl | exact ⟨rfl, rfl⟩
          have NBg1g6 := mk (Nat.ne_of_lt (blk_lt BKg1.out))
          have NBg2g6 := mk (Nat.ne_of_lt (blk_lt BKg2.out))
          have NBg5g6 := mk (Nat.ne_of_lt (blk_lt BKg5.out))
          have GEg6 := mk (below_size HB.out)
          have BKg6 : Aside0 ((w69.alloc Z107).heap[w69.heap.size]? = some (.cells #[.slice none 0 0, .slice none 0 0, .int .i64 0, .int .i64 0] 107 (0, 0))) := ⟨blk_new w69 _⟩
          replace BKg1 := mk (blk_alloc BKg1.out Z107)
          replace BKg2 := mk (blk_alloc BKg2.out Z107)
          replace BKg5 := mk (blk_alloc BKg5.out Z107)
          replace HA0 := mk (Kd.R_alloc HA0.out Z107)
          replace HA1 := mk (Kd.R_alloc HA1.out Z107)
          replace HB0 := mk (Kd.R_alloc HB0.out Z107)
          replace HB1 := mk (Kd.R_alloc HB1.out Z107)
          replace HB := mk (below_alloc HB.out Z107)
          generalize w69.alloc Z107 = w70 at BKg6 BKg1 BKg2 BKg5 HA0 HA1 HB0 HB1 HB ⊢
          generalize w69.heap.size = g6 at BKg6 GEg6 NBg1g6 NBg2g6 NBg5g6 ⊢
          refine hK.out _ _ ⟨bk_ BKg1 3, hc_ HB hx0_0, hc_ HB hx0_1, hc_ HB hx0_2, hc_ HB hx0_3, hc_ HB hx1_0, hc_ HB hx1_1, hc_ HB hx1_2, hc_ HB hx1_3⟩ (fun hHeld => ?_)
          clear hK K
          refine norm_ (a' := ?_) ?_ ?_
          rotate_left
          · show Act.put _ (some 6) _ = _
            simp only [Act.put, List.setIfInBounds_toArray, List.set_cons_zero, List.set_cons_succ]
            rfl
          (first | (have NBg6g5 := mk (Ne.symm NBg5g6.out)) | (have NBg5g6 := mk (Ne.symm NBg6g5.out)))
          have ne_a := NBg5g6.out
          have ne_b := NBg6g5.out
          obtain ⟨_, _, _, _, _, _, _, _⟩ := cz4_ BKg5.out
          obtain ⟨_, _, _, _, _, _, _, _⟩ := cz4_ BKg6.out
          refine last_ (i := 12) (N := none) #[true,true,true,true,true,true,true,true,true,true,true,true,true,false] rfl rfl kq0 kq2 (fun K hK => ?_)
          refine skip_ (w1 := ?_) (by rfl) rfl ?_ ?_
          rotate_left
          · go_simp
            rfl
          refine hK.out _ _ ?_
          clear hK K
          refine last_ (i := 13) (N := none) #[true,true,true,true,true,true,true,true,true,true,true,true,true,true] rfl rfl kq0 kq2 (fun K hK => ?_)
          refine skip_ (w1 := ?_) (by rfl) rfl ?_ ?_
          rotate_left
          · go_simp
            rfl
          refine hK.out _ _ ?_
          clear hK K
          refine done_ kq0 ?_
          try go_wp2
          go_meet
          case rel => exact ⟨g5, g6, Aa, xa, Ab, xb, Ba, ya, Bb, yb, rfl, rfl, GEg5, GEg6, NBg1g5, NBg1g6, NBg2g5, NBg2g6, NBg5g6, end6 GEg5.out GEg6.out NBg1g5.out NBg1g6.out NBg2g5.out NBg2g6.out NBg5g6.out BKg1.out BKg2.out BKg5.out BKg6.out HA0.out HA1.out HB0.out HB1.out HB.out⟩
        · refine value_ (v := .pointer (some ⟨w68.heap.size, 0, none⟩)) (w1 := w68.alloc Z107) (by rfl) rfl ?_ ?_
          · unfold Z107
            go_simp
            all_goals first | done | rfl | exact ⟨rfl, rfl⟩
          have NBg1g6 := mk (Nat.ne_of_lt (blk_lt BKg1.out))
          have NBg2g6 := mk (Nat.ne_of_lt (blk_lt BKg2.out))
          have NBg5g6 := mk (Nat.ne_of_lt (blk_lt BKg5.out))
          have GEg6 := mk (below_size HB.out)
          have BKg6 : Aside0 ((w68.alloc Z107).heap[w68.heap.size]? = some (.cells #[.slice none 0 0, .slice none 0 0, .int .i64 0, .int .i64 0] 107 (0, 0))) := ⟨blk_new w68 _⟩
          replace BKg1 := mk (blk_alloc BKg1.out Z107)
          replace BKg2 := mk (blk_alloc BKg2.out Z107)
          replace BKg5 := mk (blk_alloc BKg5.out Z107)
          replace HA0 := mk (Kd.R_alloc HA0.out Z107)
          replace HA1 := mk (Kd.R_alloc HA1.out Z107)
          replace HB := mk (below_alloc HB.out Z107)
          generalize w68.alloc Z107 = w71 at BKg6 BKg1 BKg2 BKg5 HA0 HA1 HB ⊢
          generalize w68.heap.size = g6 at BKg6 GEg6 NBg1g6 NBg2g6 NBg5g6 ⊢
          refine hK.out _ _ ⟨bk_ BKg1 3, hc_ HB hx0_0, hc_ HB hx0_1, hc_ HB hx0_2, hc_ HB hx0_3, hc_ HB hx1_0, hc_ HB hx1_1, hc_ HB hx1_2, hc_ HB hx1_3⟩ (fun hHeld => ?_)
          clear hK K
          refine norm_ (a' := ?_) ?_ ?_
          rotate_left
          · show Act.put _ (some 6) _ = _
            simp only [Act.put, List.setIfInBounds_toArray, List.set_cons_zero, List.set_cons_succ]
            rfl
          refine on_ 9 28 (fun K hK => ?_)
          refine goes_ Try.func81 kq0 rfl #[.agg #[.int .i64 (rd_T66 l3 1).f0, .int .i64 (rd_T66 l3 1).f1, .string (rd_T66 l3 1).f2, .slice E1 (rd_T66 l3 1).f3.length d1]] (by rfl) rfl rfl kq33 ?_
          refine (norm_worked.calls k _ _ _ E1 d1 _ nb cb kb eb _ (Kd.C_below HI1.out HB.out) HL1.out HWB.out).mono ?_
          rintro e w72 ⟨v0_, v1_, rfl, y0_, y1_, hb⟩
          obtain ⟨Ba, ya, en_⟩ := Kd.R_slice y0_
          subst en_
          obtain ⟨Bb, yb, en_⟩ := Kd.R_slice y1_
          subst en_
          refine ⟨_, rfl, ?_⟩
          have HB0 := mk (Kd.R_lower y0_ (below_size HB.out))
          have HB1 := mk (Kd.R_lower y1_ (below_size HB.out))
          have m0_ := mk (blk_below BKg1.out hb)
          have m1_ := mk (blk_below BKg2.out hb)
          have m2_ := mk (blk_below BKg5.out hb)
          have m3_ := mk (blk_below BKg6.out hb)
          have m4_ := mk (Kd.R_below HA0.out hb)
          have m5_ := mk (Kd.R_below HA1.out hb)
          have m6_ := mk (below_step HB.out hb)
          clear BKg1 BKg2 BKg5 BKg6 HA0 HA1 HB
          have BKg1 := m0_
          have BKg2 := m1_
          have BKg5 := m2_
          have BKg6 := m3_
          have HA0 := m4_
          have HA1 := m5_
          have HB := m6_
          clear m0_ m1_ m2_ m3_ m4_ m5_ m6_
          clear hb y0_ y1_
          refine hK.out _ _ ⟨bk_ BKg1 3, hc_ HB hx0_0, hc_ HB hx0_1, hc_ HB hx0_2, hc_ HB hx0_3, hc_ HB hx1_0, hc_ HB hx1_1, hc_ HB hx1_2, hc_ HB hx1_3⟩ (fun hHeld => ?_)
          clear hK K
          refine norm_ (a' := ?_) ?_ ?_
          rotate_left
          · show Act.put _ (some 28) _ = _
            simp only [Act.put, List.setIfInBounds_toArray, List.set_cons_zero, List.set_cons_succ]
            rfl
          (first | (have NBg6g5 := mk (Ne.symm NBg5g6.out)) | (have NBg5g6 := mk (Ne.symm NBg6g5.out)))
          have ne_a := NBg5g6.out
          have ne_b := NBg6g5.out
          obtain ⟨_, _, _, _, _, _, _, _⟩ := cz4_ BKg5.out
          obtain ⟨_, _, _, _, _, _, _, _⟩ := cz4_ BKg6.out
          refine last_ (i := 12) (N := none) #[true,true,true,true,true,true,true,true,true,true,true,true,true,false] rfl rfl kq0 kq2 (fun K hK => ?_)
          refine skip_ (w1 := ?_) (by rfl) rfl ?_ ?_
          rotate_left
          · go_simp
            rfl
          refine hK.out _ _ ?_
          clear hK K
          refine last_ (i := 13) (N := none) #[true,true,true,true,true,true,true,true,true,true,true,true,true,true] rfl rfl kq0 kq2 (fun K hK => ?_)
          refine skip_ (w1 := ?_) (by rfl) rfl ?_ ?_
          rotate_left
          · go_simp
            rfl
          refine hK.out _ _ ?_
          clear hK K
          refine done_ kq0 ?_
          try go_wp2
          go_meet
          case rel => exact ⟨g5, g6, Aa, xa, Ab, xb, Ba, ya, Bb, yb, rfl, rfl, GEg5, GEg6, NBg1g5, NBg1g6, NBg2g5, NBg2g6, NBg5g6, end6 GEg5.out GEg6.out NBg1g5.out NBg1g6.out NBg2g5.out NBg2g6.out NBg5g6.out BKg1.out BKg2.out BKg5.out BKg6.out HA0.out HA1.out HB0.out HB1.out HB.out⟩
      · refine value_ (v := .pointer (some ⟨w67.heap.size, 0, none⟩)) (w1 := w67.alloc Z107) (by rfl) rfl ?_ ?_
        · unfold Z107
          go_simp
          all_goals first | done | rfl | exact ⟨rfl, rfl⟩
        have NBg1g6 := mk (Nat.ne_of_lt (blk_lt BKg1.out))
        have NBg2g6 := mk (Nat.ne_of_lt (blk_lt BKg2.out))
        have NBg5g6 := mk (Nat.ne_of_lt (blk_lt BKg5.out))
        have GEg6 := mk (below_size HB.out)
        have BKg6 : Aside0 ((w67.alloc Z107).heap[w67.heap.size]? = some (.cells #[.slice none 0 0, .slice none 0 0, .int .i64 0, .int .i64 0] 107 (0, 0))) := ⟨blk_new w67 _⟩
        replace BKg1 := mk (blk_alloc BKg1.out Z107)
        replace BKg2 := mk (blk_alloc BKg2.out Z107)
        replace BKg5 := mk (blk_alloc BKg5.out Z107)
        replace HB := mk (below_alloc HB.out Z107)
        generalize w67.alloc Z107 = w73 at BKg6 BKg1 BKg2 BKg5 HB ⊢
        generalize w67.heap.size = g6 at BKg6 GEg6 NBg1g6 NBg2g6 NBg5g6 ⊢
        refine hK.out _ _ ⟨bk_ BKg1 3, hc_ HB hx0_0, hc_ HB hx0_1, hc_ HB hx0_2, hc_ HB hx0_3, hc_ HB hx1_0, hc_ HB hx1_1, hc_ HB hx1_2, hc_ HB hx1_3⟩ (fun hHeld => ?_)
        clear hK K
        refine norm_ (a' := ?_) ?_ ?_
        rotate_left
        · show Act.put _ (some 6) _ = _
          simp only [Act.put, List.setIfInBounds_toArray, List.set_cons_zero, List.set_cons_succ]
          rfl
        refine on_ 4 23 (fun K hK => ?_)
        refine goes_ Try.func81 kq0 rfl #[.agg #[.int .i64 (rd_T66 l3 0).f0, .int .i64 (rd_T66 l3 0).f1, .string (rd_T66 l3 0).f2, .slice E0 (rd_T66 l3 0).f3.length d0]] (by rfl) rfl rfl kq33 ?_
        refine (norm_worked.calls k _ _ _ E0 d0 _ na ca ka ea _ (Kd.C_below HI0.out HB.out) HL0.out HWA.out).mono ?_
        rintro e w74 ⟨v0_, v1_, rfl, y0_, y1_, hb⟩
        obtain ⟨Aa, xa, en_⟩ := Kd.R_slice y0_
        subst en_
        obtain ⟨Ab, xb, en_⟩ := Kd.R_slice y1_
        subst en_
        refine ⟨_, rfl, ?_⟩
        have HA0 := mk (Kd.R_lower y0_ (below_size HB.out))
        have HA1 := mk (Kd.R_lower y1_ (below_size HB.out))
        have m0_ := mk (blk_below BKg1.out hb)
        have m1_ := mk (blk_below BKg2.out hb)
        have m2_ := mk (blk_below BKg5.out hb)
        have m3_ := mk (blk_below BKg6.out hb)
        have m4_ := mk (below_step HB.out hb)
        clear BKg1 BKg2 BKg5 BKg6 HB
        have BKg1 := m0_
        have BKg2 := m1_
        have BKg5 := m2_
        have BKg6 := m3_
        have HB := m4_
        clear m0_ m1_ m2_ m3_ m4_
        clear hb y0_ y1_
        refine hK.out _ _ ⟨bk_ BKg1 3, hc_ HB hx0_0, hc_ HB hx0_1, hc_ HB hx0_2, hc_ HB hx0_3, hc_ HB hx1_0, hc_ HB hx1_1, hc_ HB hx1_2, hc_ HB hx1_3⟩ (fun hHeld => ?_)
        clear hK K
        refine norm_ (a' := ?_) ?_ ?_
        rotate_left
        · show Act.put _ (some 23) _ = _
          simp only [Act.put, List.setIfInBounds_toArray, List.set_cons_zero, List.set_cons_succ]
          rfl
        refine on_ 9 28 (fun K hK => ?_)
        refine goes_ Try.func81 kq0 rfl #[.agg #[.int .i64 (rd_T66 l3 1).f0, .int .i64 (rd_T66 l3 1).f1, .string (rd_T66 l3 1).f2, .slice E1 (rd_T66 l3 1).f3.length d1]] (by rfl) rfl rfl kq33 ?_
        refine (norm_worked.calls k _ _ _ E1 d1 _ nb cb kb eb _ (Kd.C_below HI1.out HB.out) HL1.out HWB.out).mono ?_
        rintro e w75 ⟨v0_, v1_, rfl, y0_, y1_, hb⟩
        obtain ⟨Ba, ya, en_⟩ := Kd.R_slice y0_
        subst en_
        obtain ⟨Bb, yb, en_⟩ := Kd.R_slice y1_
        subst en_
        refine ⟨_, rfl, ?_⟩
        have HB0 := mk (Kd.R_lower y0_ (below_size HB.out))
        have HB1 := mk (Kd.R_lower y1_ (below_size HB.out))
        have m0_ := mk (blk_below BKg1.out hb)
        have m1_ := mk (blk_below BKg2.out hb)
        have m2_ := mk (blk_below BKg5.out hb)
        have m3_ := mk (blk_below BKg6.out hb)
        have m4_ := mk (Kd.R_below HA0.out hb)
        have m5_ := mk (Kd.R_below HA1.out hb)
        have m6_ := mk (below_step HB.out hb)
        clear BKg1 BKg2 BKg5 BKg6 HA0 HA1 HB
        have BKg1 := m0_
        have BKg2 := m1_
        have BKg5 := m2_
        have BKg6 := m3_
        have HA0 := m4_
        have HA1 := m5_
        have HB := m6_
        clear m0_ m1_ m2_ m3_ m4_ m5_ m6_
        clear hb y0_ y1_
        refine hK.out _ _ ⟨bk_ BKg1 3, hc_ HB hx0_0, hc_ HB hx0_1, hc_ HB hx0_2, hc_ HB hx0_3, hc_ HB hx1_0, hc_ HB hx1_1, hc_ HB hx1_2, hc_ HB hx1_3⟩ (fun hHeld => ?_)
        clear hK K
        refine norm_ (a' := ?_) ?_ ?_
        rotate_left
        · show Act.put _ (some 28) _ = _
          simp only [Act.put, List.setIfInBounds_toArray, List.set_cons_zero, List.set_cons_succ]
          rfl
        (first | (have NBg6g5 := mk (Ne.symm NBg5g6.out)) | (have NBg5g6 := mk (Ne.symm NBg6g5.out)))
        have ne_a := NBg5g6.out
        have ne_b := NBg6g5.out
        obtain ⟨_, _, _, _, _, _, _, _⟩ := cz4_ BKg5.out
        obtain ⟨_, _, _, _, _, _, _, _⟩ := cz4_ BKg6.out
        refine last_ (i := 12) (N := none) #[true,true,true,true,true,true,true,true,true,true,true,true,true,false] rfl rfl kq0 kq2 (fun K hK => ?_)
        refine skip_ (w1 := ?_) (by rfl) rfl ?_ ?_
        rotate_left
        · go_simp
          rfl
        refine hK.out _ _ ?_
        clear hK K
        refine last_ (i := 13) (N := none) #[true,true,true,true,true,true,true,true,true,true,true,true,true,true] rfl rfl kq0 kq2 (fun K hK => ?_)
        refine skip_ (w1 := ?_) (by rfl) rfl ?_ ?_
        rotate_left
        · go_simp
          rfl
        refine hK.out _ _ ?_
        clear hK K
        refine done_ kq0 ?_
        try go_wp2
        go_meet
        case rel => exact ⟨g5, g6, Aa, xa, Ab, xb, Ba, ya, Bb, yb, rfl, rfl, GEg5, GEg6, NBg1g5, NBg1g6, NBg2g5, NBg2g6, NBg5g6, end6 GEg5.out GEg6.out NBg1g5.out NBg1g6.out NBg2g5.out NBg2g6.out NBg5g6.out BKg1.out BKg2.out BKg5.out BKg6.out HA0.out HA1.out HB0.out HB1.out HB.out⟩
    · refine value_ (v := .pointer (some ⟨w9.heap.size, 0, none⟩)) (w1 := w9.alloc Z107) (by rfl) rfl ?_ ?_
      · unfold Z107
        go_simp
        all_goals first | done | rfl | exact ⟨rfl, rfl⟩
      have NBg1g6 := mk (Nat.ne_of_lt (blk_lt BKg1.out))
      have NBg2g6 := mk (Nat.ne_of_lt (blk_lt BKg2.out))
      have GEg6 := mk (below_size HB.out)
      have BKg6 : Aside0 ((w9.alloc Z107).heap[w9.heap.size]? = some (.cells #[.slice none 0 0, .slice none 0 0, .int .i64 0, .int .i64 0] 107 (0, 0))) := ⟨blk_new w9 _⟩
      replace BKg1 := mk (blk_alloc BKg1.out Z107)
      replace BKg2 := mk (blk_alloc BKg2.out Z107)
      replace HB := mk (below_alloc HB.out Z107)
      generalize w9.alloc Z107 = w76 at BKg6 BKg1 BKg2 HB ⊢
      generalize w9.heap.size = g6 at BKg6 GEg6 NBg1g6 NBg2g6 ⊢
      refine hK.out _ _ ⟨bk_ BKg1 3, hc_ HB hx0_0, hc_ HB hx0_1, hc_ HB hx0_2, hc_ HB hx0_3, hc_ HB hx1_0, hc_ HB hx1_1, hc_ HB hx1_2, hc_ HB hx1_3⟩ (fun hHeld => ?_)
      clear hK K
      refine norm_ (a' := ?_) ?_ ?_
      rotate_left
      · show Act.put _ (some 6) _ = _
        simp only [Act.put, List.setIfInBounds_toArray, List.set_cons_zero, List.set_cons_succ]
        rfl
      refine tw_ 4 10 23 5 (fun K hK => ?_) (fun K hK => ?_)
      · refine goes_ Try.func81 kq0 rfl #[.agg #[.int .i64 (rd_T66 l3 0).f0, .int .i64 (rd_T66 l3 0).f1, .string (rd_T66 l3 0).f2, .slice E0 (rd_T66 l3 0).f3.length d0]] (by rfl) rfl rfl kq33 ?_
        refine (norm_worked.calls k _ _ _ E0 d0 _ na ca ka ea _ (Kd.C_below HI0.out HB.out) HL0.out HWA.out).mono ?_
        rintro e w77 ⟨v0_, v1_, rfl, y0_, y1_, hb⟩
        obtain ⟨Aa, xa, en_⟩ := Kd.R_slice y0_
        subst en_
        obtain ⟨Ab, xb, en_⟩ := Kd.R_slice y1_
        subst en_
        refine ⟨_, rfl, ?_⟩
        have HA0 := mk (Kd.R_lower y0_ (below_size HB.out))
        have HA1 := mk (Kd.R_lower y1_ (below_size HB.out))
        have m0_ := mk (blk_below BKg1.out hb)
        have m1_ := mk (blk_below BKg2.out hb)
        have m2_ := mk (blk_below BKg6.out hb)
        have m3_ := mk (below_step HB.out hb)
        clear BKg1 BKg2 BKg6 HB
        have BKg1 := m0_
        have BKg2 := m1_
        have BKg6 := m2_
        have HB := m3_
        clear m0_ m1_ m2_ m3_
        clear hb y0_ y1_
        refine hK.out _ _ ⟨bk_ BKg1 3, hc_ HB hx0_0, hc_ HB hx0_1, hc_ HB hx0_2, hc_ HB hx0_3, hc_ HB hx1_0, hc_ HB hx1_1, hc_ HB hx1_2, hc_ HB hx1_3⟩ (fun hHeld => ?_)
        clear hK K
        refine norm_ (a' := ?_) ?_ ?_
        rotate_left
        · show Act.put _ (some 23) _ = _
          simp only [Act.put, List.setIfInBounds_toArray, List.set_cons_zero, List.set_cons_succ]
          rfl
        refine tw_ 9 10 28 5 (fun K hK => ?_) (fun K hK => ?_)
        · refine goes_ Try.func81 kq0 rfl #[.agg #[.int .i64 (rd_T66 l3 1).f0, .int .i64 (rd_T66 l3 1).f1, .string (rd_T66 l3 1).f2, .slice E1 (rd_T66 l3 1).f3.length d1]] (by rfl) rfl rfl kq33 ?_
          refine (norm_worked.calls k _ _ _ E1 d1 _ nb cb kb eb _ (Kd.C_below HI1.out HB.out) HL1.out HWB.out).mono ?_
          rintro e w78 ⟨v0_, v1_, rfl, y0_, y1_, hb⟩
          obtain ⟨Ba, ya, en_⟩ := Kd.R_slice y0_
          subst en_
          obtain ⟨Bb, yb, en_⟩ := Kd.R_slice y1_
          subst en_
          refine ⟨_, rfl, ?_⟩
          have HB0 := mk (Kd.R_lower y0_ (below_size HB.out))
          have HB1 := mk (Kd.R_lower y1_ (below_size HB.out))
          have m0_ := mk (blk_below BKg1.out hb)
          have m1_ := mk (blk_below BKg2.out hb)
          have m2_ := mk (blk_below BKg6.out hb)
          have m3_ := mk (Kd.R_below HA0.out hb)
          have m4_ := mk (Kd.R_below HA1.out hb)
          have m5_ := mk (below_step HB.out hb)
          clear BKg1 BKg2 BKg6 HA0 HA1 HB
          have BKg1 := m0_
          have BKg2 := m1_
          have BKg6 := m2_
          have HA0 := m3_
          have HA1 := m4_
          have HB := m5_
          clear m0_ m1_ m2_ m3_ m4_ m5_
          clear hb y0_ y1_
          refine hK.out _ _ ⟨bk_ BKg1 3, hc_ HB hx0_0, hc_ HB hx0_1, hc_ HB hx0_2, hc_ HB hx0_3, hc_ HB hx1_0, hc_ HB hx1_1, hc_ HB hx1_2, hc_ HB hx1_3⟩ (fun hHeld => ?_)
          clear hK K
          refine norm_ (a' := ?_) ?_ ?_
          rotate_left
          · show Act.put _ (some 28) _ = _
            simp only [Act.put, List.setIfInBounds_toArray, List.set_cons_zero, List.set_cons_succ]
            rfl
          refine on_ 10 5 (fun K hK => ?_)
          refine value_ (v := .pointer (some ⟨w78.heap.size, 0, none⟩)) (w1 := w78.alloc Z107) (by rfl) rfl ?_ ?_
          · unfold Z107
            go_simp
            all_goals first | done | rfl | exact ⟨rfl, rfl⟩
          have NBg1g5 := mk (Nat.ne_of_lt (blk_lt BKg1.out))
          have NBg2g5 := mk (Nat.ne_of_lt (blk_lt BKg2.out))
          have NBg6g5 := mk (Nat.ne_of_lt (blk_lt BKg6.out))
          have GEg5 := mk (below_size HB.out)
          have BKg5 : Aside0 ((w78.alloc Z107).heap[w78.heap.size]? = some (.cells #[.slice none 0 0, .slice none 0 0, .int .i64 0, .int .i64 0] 107 (0, 0))) := ⟨blk_new w78 _⟩
          replace BKg1 := mk (blk_alloc BKg1.out Z107)
          replace BKg2 := mk (blk_alloc BKg2.out Z107)
          replace BKg6 := mk (blk_alloc BKg6.out Z107)
          replace HA0 := mk (Kd.R_alloc HA0.out Z107)
          replace HA1 := mk (Kd.R_alloc HA1.out Z107)
          replace HB0 := mk (Kd.R_alloc HB0.out Z107)
          replace HB1 := mk (Kd.R_alloc HB1.out Z107)
          replace HB := mk (below_alloc HB.out Z107)
          generalize w78.alloc Z107 = w79 at BKg5 BKg1 BKg2 BKg6 HA0 HA1 HB0 HB1 HB ⊢
          generalize w78.heap.size = g5 at BKg5 GEg5 NBg1g5 NBg2g5 NBg6g5 ⊢
          refine hK.out _ _ ⟨bk_ BKg1 3, hc_ HB hx0_0, hc_ HB hx0_1, hc_ HB hx0_2, hc_ HB hx0_3, hc_ HB hx1_0, hc_ HB hx1_1, hc_ HB hx1_2, hc_ HB hx1_3⟩ (fun hHeld => ?_)
          clear hK K
          refine norm_ (a' := ?_) ?_ ?_
          rotate_left
          · show Act.put _ (some 5) _ = _
            simp only [Act.put, List.setIfInBounds_toArray, List.set_cons_zero, List.set_cons_succ]
            rfl
          (first | (have NBg6g5 := mk (Ne.symm NBg5g6.out)) | (have NBg5g6 := mk (Ne.symm NBg6g5.out)))
          have ne_a := NBg5g6.out
          have ne_b := NBg6g5.out
          obtain ⟨_, _, _, _, _, _, _, _⟩ := cz4_ BKg5.out
          obtain ⟨_, _, _, _, _, _, _, _⟩ := cz4_ BKg6.out
          refine last_ (i := 12) (N := none) #[true,true,true,true,true,true,true,true,true,true,true,true,true,false] rfl rfl kq0 kq2 (fun K hK => ?_)
          refine skip_ (w1 := ?_) (by rfl) rfl ?_ ?_
          rotate_left
          · go_simp
            rfl
          refine hK.out _ _ ?_
          clear hK K
          refine last_ (i := 13) (N := none) #[true,true,true,true,true,true,true,true,true,true,true,true,true,true] rfl rfl kq0 kq2 (fun K hK => ?_)
          refine skip_ (w1 := ?_) (by rfl) rfl ?_ ?_
          rotate_left
          · go_simp
            rfl
          refine hK.out _ _ ?_
          clear hK K
          refine done_ kq0 ?_
          try go_wp2
          go_meet
          case rel => exact ⟨g5, g6, Aa, xa, Ab, xb, Ba, ya, Bb, yb, rfl, rfl, GEg5, GEg6, NBg1g5, NBg1g6, NBg2g5, NBg2g6, NBg5g6, end6 GEg5.out GEg6.out NBg1g5.out NBg1g6.out NBg2g5.out NBg2g6.out NBg5g6.out BKg1.out BKg2.out BKg5.out BKg6.out HA0.out HA1.out HB0.out HB1.out HB.out⟩
        · refine value_ (v := .pointer (some ⟨w77.heap.size, 0, none⟩)) (w1 := w77.alloc Z107) (by rfl) rfl ?_ ?_
          · unfold Z107
            go_simp
            all_goals first | done | rfl | exact ⟨rfl, rfl⟩
          have NBg1g5 := mk (Nat.ne_of_lt (blk_lt BKg1.out))
          have NBg2g5 := mk (Nat.ne_of_lt (blk_lt BKg2.out))
          have NBg6g5 := mk (Nat.ne_of_lt (blk_lt BKg6.out))
          have GEg5 := mk (below_size HB.out)
          have BKg5 : Aside0 ((w77.alloc Z107).heap[w77.heap.size]? = some (.cells #[.slice none 0 0, .slice none 0 0, .int .i64 0, .int .i64 0] 107 (0, 0))) := ⟨blk_new w77 _⟩
          replace BKg1 := mk (blk_alloc BKg1.out Z107)
          replace BKg2 := mk (blk_alloc BKg2.out Z107)
          replace BKg6 := mk (blk_alloc BKg6.out Z107)
          replace HA0 := mk (Kd.R_alloc HA0.out Z107)
          replace HA1 := mk (Kd.R_alloc HA1.out Z107)
          replace HB := mk (below_alloc HB.out Z107)
          generalize w77.alloc Z107 = w80 at BKg5 BKg1 BKg2 BKg6 HA0 HA1 HB ⊢
          generalize w77.heap.size = g5 at BKg5 GEg5 NBg1g5 NBg2g5 NBg6g5 ⊢
          refine hK.out _ _ ⟨bk_ BKg1 3, hc_ HB hx0_0, hc_ HB hx0_1, hc_ HB hx0_2, hc_ HB hx0_3, hc_ HB hx1_0, hc_ HB hx1_1, hc_ HB hx1_2, hc_ HB hx1_3⟩ (fun hHeld => ?_)
          clear hK K
          refine norm_ (a' := ?_) ?_ ?_
          rotate_left
          · show Act.put _ (some 5) _ = _
            simp only [Act.put, List.setIfInBounds_toArray, List.set_cons_zero, List.set_cons_succ]
            rfl
          refine on_ 9 28 (fun K hK => ?_)
          refine goes_ Try.func81 kq0 rfl #[.agg #[.int .i64 (rd_T66 l3 1).f0, .int .i64 (rd_T66 l3 1).f1, .string (rd_T66 l3 1).f2, .slice E1 (rd_T66 l3 1).f3.length d1]] (by rfl) rfl rfl kq33 ?_
          refine (norm_worked.calls k _ _ _ E1 d1 _ nb cb kb eb _ (Kd.C_below HI1.out HB.out) HL1.out HWB.out).mono ?_
          rintro e w81 ⟨v0_, v1_, rfl, y0_, y1_, hb⟩
          obtain ⟨Ba, ya, en_⟩ := Kd.R_slice y0_
          subst en_
          obtain ⟨Bb, yb, en_⟩ := Kd.R_slice y1_
          subst en_
          refine ⟨_, rfl, ?_⟩
          have HB0 := mk (Kd.R_lower y0_ (below_size HB.out))
          have HB1 := mk (Kd.R_lower y1_ (below_size HB.out))
          have m0_ := mk (blk_below BKg1.out hb)
          have m1_ := mk (blk_below BKg2.out hb)
          have m2_ := mk (blk_below BKg5.out hb)
          have m3_ := mk (blk_below BKg6.out hb)
          have m4_ := mk (Kd.R_below HA0.out hb)
          have m5_ := mk (Kd.R_below HA1.out hb)
          have m6_ := mk (below_step HB.out hb)
          clear BKg1 BKg2 BKg5 BKg6 HA0 HA1 HB
          have BKg1 := m0_
          have BKg2 := m1_
          have BKg5 := m2_
          have BKg6 := m3_
          have HA0 := m4_
          have HA1 := m5_
          have HB := m6_
          clear m0_ m1_ m2_ m3_ m4_ m5_ m6_
          clear hb y0_ y1_
          refine hK.out _ _ ⟨bk_ BKg1 3, hc_ HB hx0_0, hc_ HB hx0_1, hc_ HB hx0_2, hc_ HB hx0_3, hc_ HB hx1_0, hc_ HB hx1_1, hc_ HB hx1_2, hc_ HB hx1_3⟩ (fun hHeld => ?_)
          clear hK K
          refine norm_ (a' := ?_) ?_ ?_
          rotate_left
          · show Act.put _ (some 28) _ = _
            simp only [Act.put, List.setIfInBounds_toArray, List.set_cons_zero, List.set_cons_succ]
            rfl
          (first | (have NBg6g5 := mk (Ne.symm NBg5g6.out)) | (have NBg5g6 := mk (Ne.symm NBg6g5.out)))
          have ne_a := NBg5g6.out
          have ne_b := NBg6g5.out
          obtain ⟨_, _, _, _, _, _, _, _⟩ := cz4_ BKg5.out
          obtain ⟨_, _, _, _, _, _, _, _⟩ := cz4_ BKg6.out
          refine last_ (i := 12) (N := none) #[true,true,true,true,true,true,true,true,true,true,true,true,true,false] rfl rfl kq0 kq2 (fun K hK => ?_)
          refine skip_ (w1 := ?_) (by rfl) rfl ?_ ?_
          rotate_left
          · go_simp
            rfl
          refine hK.out _ _ ?_
          clear hK K
          refine last_ (i := 13) (N := none) #[true,true,true,true,true,true,true,true,true,true,true,true,true,true] rfl rfl kq0 kq2 (fun K hK => ?_)
          refine skip_ (w1 := ?_) (by rfl) rfl ?_ ?_
          rotate_left
          · go_simp
            rfl
          refine hK.out _ _ ?_
          clear hK K
          refine done_ kq0 ?_
          try go_wp2
          go_meet
          case rel => exact ⟨g5, g6, Aa, xa, Ab, xb, Ba, ya, Bb, yb, rfl, rfl, GEg5, GEg6, NBg1g5, NBg1g6, NBg2g5, NBg2g6, NBg5g6, end6 GEg5.out GEg6.out NBg1g5.out NBg1g6.out NBg2g5.out NBg2g6.out NBg5g6.out BKg1.out BKg2.out BKg5.out BKg6.out HA0.out HA1.out HB0.out HB1.out HB.out⟩
      · refine value_ (v := .pointer (some ⟨w76.heap.size, 0, none⟩)) (w1 := w76.alloc Z107) (by rfl) rfl ?_ ?_
        · unfold Z107
          go_simp
          all_goals first | done | rfl | exact ⟨rfl, rfl⟩
        have NBg1g5 := mk (Nat.ne_of_lt (blk_lt BKg1.out))
        have NBg2g5 := mk (Nat.ne_of_lt (blk_lt BKg2.out))
        have NBg6g5 := mk (Nat.ne_of_lt (blk_lt BKg6.out))
        have GEg5 := mk (below_size HB.out)
        have BKg5 : Aside0 ((w76.alloc Z107).heap[w76.heap.size]? = some (.cells #[.slice none 0 0, .slice none 0 0, .int .i64 0, .int .i64 0] 107 (0, 0))) := ⟨blk_new w76 _⟩
        replace BKg1 := mk (blk_alloc BKg1.out Z107)
        replace BKg2 := mk (blk_alloc BKg2.out Z107)
        replace BKg6 := mk (blk_alloc BKg6.out Z107)
        replace HB := mk (below_alloc HB.out Z107)
        generalize w76.alloc Z107 = w82 at BKg5 BKg1 BKg2 BKg6 HB ⊢
        generalize w76.heap.size = g5 at BKg5 GEg5 NBg1g5 NBg2g5 NBg6g5 ⊢
        refine hK.out _ _ ⟨bk_ BKg1 3, hc_ HB hx0_0, hc_ HB hx0_1, hc_ HB hx0_2, hc_ HB hx0_3, hc_ HB hx1_0, hc_ HB hx1_1, hc_ HB hx1_2, hc_ HB hx1_3⟩ (fun hHeld => ?_)
        clear hK K
        refine norm_ (a' := ?_) ?_ ?_
        rotate_left
        · show Act.put _ (some 5) _ = _
          simp only [Act.put, List.setIfInBounds_toArray, List.set_cons_zero, List.set_cons_succ]
          rfl
        refine on_ 4 23 (fun K hK => ?_)
        refine goes_ Try.func81 kq0 rfl #[.agg #[.int .i64 (rd_T66 l3 0).f0, .int .i64 (rd_T66 l3 0).f1, .string (rd_T66 l3 0).f2, .slice E0 (rd_T66 l3 0).f3.length d0]] (by rfl) rfl rfl kq33 ?_
        refine (norm_worked.calls k _ _ _ E0 d0 _ na ca ka ea _ (Kd.C_below HI0.out HB.out) HL0.out HWA.out).mono ?_
        rintro e w83 ⟨v0_, v1_, rfl, y0_, y1_, hb⟩
        obtain ⟨Aa, xa, en_⟩ := Kd.R_slice y0_
        subst en_
        obtain ⟨Ab, xb, en_⟩ := Kd.R_slice y1_
        subst en_
        refine ⟨_, rfl, ?_⟩
        have HA0 := mk (Kd.R_lower y0_ (below_size HB.out))
        have HA1 := mk (Kd.R_lower y1_ (below_size HB.out))
        have m0_ := mk (blk_below BKg1.out hb)
        have m1_ := mk (blk_below BKg2.out hb)
        have m2_ := mk (blk_below BKg5.out hb)
        have m3_ := mk (blk_below BKg6.out hb)
        have m4_ := mk (below_step HB.out hb)
        clear BKg1 BKg2 BKg5 BKg6 HB
        have BKg1 := m0_
        have BKg2 := m1_
        have BKg5 := m2_
        have BKg6 := m3_
        have HB := m4_
        clear m0_ m1_ m2_ m3_ m4_
        clear hb y0_ y1_
        refine hK.out _ _ ⟨bk_ BKg1 3, hc_ HB hx0_0, hc_ HB hx0_1, hc_ HB hx0_2, hc_ HB hx0_3, hc_ HB hx1_0, hc_ HB hx1_1, hc_ HB hx1_2, hc_ HB hx1_3⟩ (fun hHeld => ?_)
        clear hK K
        refine norm_ (a' := ?_) ?_ ?_
        rotate_left
        · show Act.put _ (some 23) _ = _
          simp only [Act.put, List.setIfInBounds_toArray, List.set_cons_zero, List.set_cons_succ]
          rfl
        refine on_ 9 28 (fun K hK => ?_)
        refine goes_ Try.func81 kq0 rfl #[.agg #[.int .i64 (rd_T66 l3 1).f0, .int .i64 (rd_T66 l3 1).f1, .string (rd_T66 l3 1).f2, .slice E1 (rd_T66 l3 1).f3.length d1]] (by rfl) rfl rfl kq33 ?_
        refine (norm_worked.calls k _ _ _ E1 d1 _ nb cb kb eb _ (Kd.C_below HI1.out HB.out) HL1.out HWB.out).mono ?_
        rintro e w84 ⟨v0_, v1_, rfl, y0_, y1_, hb⟩
        obtain ⟨Ba, ya, en_⟩ := Kd.R_slice y0_
        subst en_
        obtain ⟨Bb, yb, en_⟩ := Kd.R_slice y1_
        subst en_
        refine ⟨_, rfl, ?_⟩
        have HB0 := mk (Kd.R_lower y0_ (below_size HB.out))
        have HB1 := mk (Kd.R_lower y1_ (below_size HB.out))
        have m0_ := mk (blk_below BKg1.out hb)
        have m1_ := mk (blk_below BKg2.out hb)
        have m2_ := mk (blk_below BKg5.out hb)
        have m3_ := mk (blk_below BKg6.out hb)
        have m4_ := mk (Kd.R_below HA0.out hb)
        have m5_ := mk (Kd.R_below HA1.out hb)
        have m6_ := mk (below_step HB.out hb)
        clear BKg1 BKg2 BKg5 BKg6 HA0 HA1 HB
        have BKg1 := m0_
        have BKg2 := m1_
        have BKg5 := m2_
        have BKg6 := m3_
        have HA0 := m4_
        have HA1 := m5_
        have HB := m6_
        clear m0_ m1_ m2_ m3_ m4_ m5_ m6_
        clear hb y0_ y1_
        refine hK.out _ _ ⟨bk_ BKg1 3, hc_ HB hx0_0, hc_ HB hx0_1, hc_ HB hx0_2, hc_ HB hx0_3, hc_ HB hx1_0, hc_ HB hx1_1, hc_ HB hx1_2, hc_ HB hx1_3⟩ (fun hHeld => ?_)
        clear hK K
        refine norm_ (a' := ?_) ?_ ?_
        rotate_left
        · show Act.put _ (some 28) _ = _
          simp only [Act.put, List.setIfInBounds_toArray, List.set_cons_zero, List.set_cons_succ]
          rfl
        (first | (have NBg6g5 := mk (Ne.symm NBg5g6.out)) | (have NBg5g6 := mk (Ne.symm NBg6g5.out)))
        have ne_a := NBg5g6.out
        have ne_b := NBg6g5.out
        obtain ⟨_, _, _, _, _, _, _, _⟩ := cz4_ BKg5.out
        obtain ⟨_, _, _, _, _, _, _, _⟩ := cz4_ BKg6.out
        refine last_ (i := 12) (N := none) #[true,true,true,true,true,true,true,true,true,true,true,true,true,false] rfl rfl kq0 kq2 (fun K hK => ?_)
        refine skip_ (w1 := ?_) (by rfl) rfl ?_ ?_
        rotate_left
        · go_simp
          rfl
        refine hK.out _ _ ?_
        clear hK K
        refine last_ (i := 13) (N := none) #[true,true,true,true,true,true,true,true,true,true,true,true,true,true] rfl rfl kq0 kq2 (fun K hK => ?_)
        refine skip_ (w1 := ?_) (by rfl) rfl ?_ ?_
        rotate_left
        · go_simp
          rfl
        refine hK.out _ _ ?_
        clear hK K
        refine done_ kq0 ?_
        try go_wp2
        go_meet
        case rel => exact ⟨g5, g6, Aa, xa, Ab, xb, Ba, ya, Bb, yb, rfl, rfl, GEg5, GEg6, NBg1g5, NBg1g6, NBg2g5, NBg2g6, NBg5g6, end6 GEg5.out GEg6.out NBg1g5.out NBg1g6.out NBg2g5.out NBg2g6.out NBg5g6.out BKg1.out BKg2.out BKg5.out BKg6.out HA0.out HA1.out HB0.out HB1.out HB.out⟩
  case rest =>
    clear BKg1 BKg2 HB
    obtain ⟨g5, g6, Aa, xa, Ab, xb, Ba, ya, Bb, yb, rfl, rfl, GEg5, GEg6, NBg1g5, NBg1g6, NBg2g5, NBg2g6, NBg5g6, BKg1, BKg2, BKg5, BKg6, HA0, HA1, HB0, HB1, HB⟩ := hcut
    have NBg5g1 := mk (Ne.symm NBg1g5.out)
    have NBg6g1 := mk (Ne.symm NBg1g6.out)
    have NBg5g2 := mk (Ne.symm NBg2g5.out)
    have NBg6g2 := mk (Ne.symm NBg2g6.out)
    have NBg6g5 := mk (Ne.symm NBg5g6.out)
    obtain ⟨_, _, _, _, _, _, _, _, _, _⟩ := cz5_ BKg1.out
    obtain ⟨_, _, _, _, _, _, _, _, _, _⟩ := cz5_ BKg2.out
    obtain ⟨_, _, _, _, _, _, _, _⟩ := cz4_ BKg5.out
    obtain ⟨_, _, _, _, _, _, _, _⟩ := cz4_ BKg6.out
    go_upto_region 7 with fail
    go_cut [7] (fun v7 wd => ∃ (g7 : Nat) (An : Option Addr) (xn : Nat) (Ac : Option Addr) (xc : Nat), v7 = .pointer (some ⟨g7, 0, none⟩) ∧ Aside0 (w.heap.size ≤ g7) ∧ Aside0 (g1 ≠ g7) ∧ Aside0 (g2 ≠ g7) ∧ Aside0 (g5 ≠ g7) ∧ Aside0 (g6 ≠ g7) ∧ Aside0 (wd.heap[g1]? = some (.cells #[.int .i64 op, .string nm, .int .i64 md, .slice A3 l3.length c3, .slice A4 l4.length c4] 39 (0, 0))) ∧ Aside0 (wd.heap[g2]? = some (.cells #[.int .i64 0, .slice none 0 0, .slice none 0 0, .int .i64 0, .int .i64 0] 58 (0, 0))) ∧ Aside0 (wd.heap[g5]? = some (.cells #[.slice Aa na.length xa, .slice Ab ca.length xb, .int .i64 ka, .int .i64 ea] 107 (0, 0))) ∧ Aside0 (wd.heap[g6]? = some (.cells #[.slice Ba nb.length ya, .slice Bb cb.length yb, .int .i64 kb, .int .i64 eb] 107 (0, 0))) ∧ Aside0 (wd.heap[g7]? = some (.cells #[.slice An n0.length xn, .slice Ac z0.length xc, .int .i64 k0, .int .i64 e0] 107 (0, 0))) ∧ Aside0 (Kd.R Kd.string 9 wd w.heap.size (fun _ => True) (.slice Aa na.length xa) (na)) ∧ Aside0 (Kd.R (Kd.int .i64) 2 wd w.heap.size (fun _ => True) (.slice Ab ca.length xb) (ca)) ∧ Aside0 (Kd.R Kd.string 9 wd w.heap.size (fun _ => True) (.slice Ba nb.length ya) (nb)) ∧ Aside0 (Kd.R (Kd.int .i64) 2 wd w.heap.size (fun _ => True) (.slice Bb cb.length yb) (cb)) ∧ Aside0 (Kd.R Kd.string 9 wd w.heap.size (fun _ => True) (.slice An n0.length xn) (n0)) ∧ Aside0 (Kd.R (Kd.int .i64) 2 wd w.heap.size (fun _ => True) (.slice Ac z0.length xc) (z0)) ∧ Aside0 (Below w.heap.size w wd))
    case first =>
      go_wp2_with (first | ((go_at_call 82; (with_reducible refine (both_own (.slice Aa na.length xa) na (.slice Ab ca.length xb) ca ka ea (.slice Ba nb.length ya) nb (.slice Bb cb.length yb) cb kb eb n0 z0 k0 e0 w _ ?s1 ?s2 ?s3 ?s4 ?s5 HS0.out).mono ?_); (case s1 => exact kq37); (case s2 => exact kq77); (case s3 => exact kq78); (case s4 => exact kq79); (case s5 => exact kq80); rintro e w20 ⟨x0_, x1_, rfl, y0_, y1_, hb⟩; obtain ⟨An, xn, en_⟩ := Kd.R_slice y0_; subst en_; obtain ⟨Ac, xc, en_⟩ := Kd.R_slice y1_; subst en_; have HP := mk y0_; have HQ := mk y1_; replace BKg1 := (bc_ BKg1 hb (kq24 BKg1)); replace BKg2 := (bc_ BKg2 hb (kq24 BKg2)); replace BKg5 := (bc_ BKg5 hb (kq24 BKg5)); replace BKg6 := (bc_ BKg6 hb (kq24 BKg6)); replace HA0 := mk (Kd.R_below kq77 hb); replace HA1 := mk (Kd.R_below kq78 hb); replace HB0 := mk (Kd.R_below kq79 hb); replace HB1 := mk (Kd.R_below kq80 hb); replace HB := mk (below_step kq22 hb); clear hb y0_ y1_; obtain ⟨_, _, _, _, _, _, _, _, _, _⟩ := cz5_ BKg1.out; obtain ⟨_, _, _, _, _, _, _, _, _, _⟩ := cz5_ BKg2.out; obtain ⟨_, _, _, _, _, _, _, _⟩ := cz4_ BKg5.out; obtain ⟨_, _, _, _, _, _, _, _⟩ := cz4_ BKg6.out)) | ((with_reducible refine gate_dst (N := 7) rfl ?_); refine box_event ?hg (N := 7) ?hd (cs := #[.slice none 0 0, .slice none 0 0, .int .i64 0, .int .i64 0]) (t := 107) ?hr ?_; (case hd => rfl); (case hg => rfl); (case hr => exact kq11); intro g7 hg w21 hbox hb; have GEg7 := mk (kq21 : w.heap.size ≤ g7); have NBg1g7 := mk ((kq23 BKg1) : g1 ≠ g7); have NBg7g1 := mk (Ne.symm NBg1g7.out); have NBg2g7 := mk ((kq23 BKg2) : g2 ≠ g7); have NBg7g2 := mk (Ne.symm NBg2g7.out); have NBg5g7 := mk ((kq23 BKg5) : g5 ≠ g7); have NBg7g5 := mk (Ne.symm NBg5g7.out); have NBg6g7 := mk ((kq23 BKg6) : g6 ≠ g7); have NBg7g6 := mk (Ne.symm NBg6g7.out); replace BKg1 := (bc_ BKg1 hb (kq24 BKg1)); replace BKg2 := (bc_ BKg2 hb (kq24 BKg2)); replace BKg5 := (bc_ BKg5 hb (kq24 BKg5)); replace BKg6 := (bc_ BKg6 hb (kq24 BKg6)); replace HA0 := mk (Kd.R_below kq77 hb); replace HA1 := mk (Kd.R_below kq78 hb); replace HB0 := mk (Kd.R_below kq79 hb); replace HB1 := mk (Kd.R_below kq80 hb); replace HP := mk (Kd.R_below kq81 hb); replace HQ := mk (Kd.R_below kq82 hb); replace HB := mk (below_step kq22 hb); clear hb hg; have BKg7 := mk hbox; clear hbox; have ne_g1g7 := NBg1g7.out; have ne_g7g1 := NBg7g1.out; have ne_g2g7 := NBg2g7.out; have ne_g7g2 := NBg7g2.out; have ne_g5g7 := NBg5g7.out; have ne_g7g5 := NBg7g5.out; have ne_g6g7 := NBg6g7.out; have ne_g7g6 := NBg7g6.out; obtain ⟨_, _, _, _, _, _, _, _, _, _⟩ := cz5_ BKg1.out; obtain ⟨_, _, _, _, _, _, _, _, _, _⟩ := cz5_ BKg2.out; obtain ⟨_, _, _, _, _, _, _, _⟩ := cz4_ BKg5.out; obtain ⟨_, _, _, _, _, _, _, _⟩ := cz4_ BKg6.out; obtain ⟨_, _, _, _, _, _, _, _⟩ := cz4_ BKg7.out))
      go_meet
      case rel => exact ⟨g7, An, xn, Ac, xc, rfl, GEg7, NBg1g7, NBg2g7, NBg5g7, NBg6g7, ⟨(blk_far (blk_far (blk_far (blk_far (kq24 BKg1) NBg1g7.out _) NBg1g7.out _) NBg1g7.out _) NBg1g7.out _)⟩, ⟨(blk_far (blk_far (blk_far (blk_far (kq24 BKg2) NBg2g7.out _) NBg2g7.out _) NBg2g7.out _) NBg2g7.out _)⟩, ⟨(blk_far (blk_far (blk_far (blk_far (kq24 BKg5) NBg5g7.out _) NBg5g7.out _) NBg5g7.out _) NBg5g7.out _)⟩, ⟨(blk_far (blk_far (blk_far (blk_far (kq24 BKg6) NBg6g7.out _) NBg6g7.out _) NBg6g7.out _) NBg6g7.out _)⟩, ⟨(blk_put (blk_put (blk_put (blk_put (kq24 BKg7) 0 _ rfl) 1 _ rfl) 2 _ rfl) 3 _ rfl)⟩, ⟨Kd.R_mono (Kd.R_far (p := ⟨g7, 3, none⟩) (Kd.R_far (p := ⟨g7, 2, none⟩) (Kd.R_far (p := ⟨g7, 1, none⟩) (Kd.R_far (p := ⟨g7, 0, none⟩) (Kd.R_types kq77 BKg7.out kq2) (fun _ h => h.2) _) (fun _ h => h.2) _) (fun _ h => h.2) _) (fun _ h => h.2) _) (fun _ _ => trivial)⟩, ⟨Kd.R_mono (Kd.R_far (p := ⟨g7, 3, none⟩) (Kd.R_far (p := ⟨g7, 2, none⟩) (Kd.R_far (p := ⟨g7, 1, none⟩) (Kd.R_far (p := ⟨g7, 0, none⟩) (Kd.R_types kq78 BKg7.out kq2) (fun _ h => h.2) _) (fun _ h => h.2) _) (fun _ h => h.2) _) (fun _ h => h.2) _) (fun _ _ => trivial)⟩, ⟨Kd.R_mono (Kd.R_far (p := ⟨g7, 3, none⟩) (Kd.R_far (p := ⟨g7, 2, none⟩) (Kd.R_far (p := ⟨g7, 1, none⟩) (Kd.R_far (p := ⟨g7, 0, none⟩) (Kd.R_types kq79 BKg7.out kq2) (fun _ h => h.2) _) (fun _ h => h.2) _) (fun _ h => h.2) _) (fun _ h => h.2) _) (fun _ _ => trivial)⟩, ⟨Kd.R_mono (Kd.R_far (p := ⟨g7, 3, none⟩) (Kd.R_far (p := ⟨g7, 2, none⟩) (Kd.R_far (p := ⟨g7, 1, none⟩) (Kd.R_far (p := ⟨g7, 0, none⟩) (Kd.R_types kq80 BKg7.out kq2) (fun _ h => h.2) _) (fun _ h => h.2) _) (fun _ h => h.2) _) (fun _ h => h.2) _) (fun _ _ => trivial)⟩, ⟨Kd.R_mono (Kd.R_far (p := ⟨g7, 3, none⟩) (Kd.R_far (p := ⟨g7, 2, none⟩) (Kd.R_far (p := ⟨g7, 1, none⟩) (Kd.R_far (p := ⟨g7, 0, none⟩) (Kd.R_types kq81 BKg7.out kq2) (fun _ h => h.2) _) (fun _ h => h.2) _) (fun _ h => h.2) _) (fun _ h => h.2) _) (fun _ _ => trivial)⟩, ⟨Kd.R_mono (Kd.R_far (p := ⟨g7, 3, none⟩) (Kd.R_far (p := ⟨g7, 2, none⟩) (Kd.R_far (p := ⟨g7, 1, none⟩) (Kd.R_far (p := ⟨g7, 0, none⟩) (Kd.R_types kq82 BKg7.out kq2) (fun _ h => h.2) _) (fun _ h => h.2) _) (fun _ h => h.2) _) (fun _ h => h.2) _) (fun _ _ => trivial)⟩, ⟨(below_set (below_set (below_set (below_set kq22 GEg7.out) GEg7.out) GEg7.out) GEg7.out)⟩⟩
    case rest =>
      clear BKg1 BKg2 BKg5 BKg6 HA0 HA1 HB0 HB1 HB
      obtain ⟨g7, An, xn, Ac, xc, rfl, GEg7, NBg1g7, NBg2g7, NBg5g7, NBg6g7, BKg1, BKg2, BKg5, BKg6, BKg7, HA0, HA1, HB0, HB1, HP, HQ, HB⟩ := hcut
      have NBg7g1 := mk (Ne.symm NBg1g7.out)
      have NBg7g2 := mk (Ne.symm NBg2g7.out)
      have NBg7g5 := mk (Ne.symm NBg5g7.out)
      have NBg7g6 := mk (Ne.symm NBg6g7.out)
      have ne_g1g2 := NBg1g2.out
      have ne_g1g5 := NBg1g5.out
      have ne_g1g6 := NBg1g6.out
      have ne_g1g7 := NBg1g7.out
      have ne_g2g1 := NBg2g1.out
      have ne_g2g5 := NBg2g5.out
      have ne_g2g6 := NBg2g6.out
      have ne_g2g7 := NBg2g7.out
      have ne_g5g1 := NBg5g1.out
      have ne_g5g2 := NBg5g2.out
      have ne_g5g6 := NBg5g6.out
      have ne_g5g7 := NBg5g7.out
      have ne_g6g1 := NBg6g1.out
      have ne_g6g2 := NBg6g2.out
      have ne_g6g5 := NBg6g5.out
      have ne_g6g7 := NBg6g7.out
      have ne_g7g1 := NBg7g1.out
      have ne_g7g2 := NBg7g2.out
      have ne_g7g5 := NBg7g5.out
      have ne_g7g6 := NBg7g6.out
      obtain ⟨_, _, _, _, _, _, _, _, _, _⟩ := cz5_ BKg1.out
      obtain ⟨_, _, _, _, _, _, _, _, _, _⟩ := cz5_ BKg2.out
      obtain ⟨_, _, _, _, _, _, _, _⟩ := cz4_ BKg5.out
      obtain ⟨_, _, _, _, _, _, _, _⟩ := cz4_ BKg6.out
      obtain ⟨_, _, _, _, _, _, _, _⟩ := cz4_ BKg7.out
      go_upto_region 8 with fail
      go_cut [49] (fun v49 we => ∃ bq : Bool, v49 = .bool bq ∧ Aside0 (bq = decide (ea = 0 ∧ eb = 0 ∧ (op = 11 ∨ op = 12))) ∧ we = wc)
      case first =>
        by_cases hea0 : ea = 0
        · have eea0_ : (ea == 0) = true := beq_iff_eq.mpr hea0
          by_cases heb0 : eb = 0
          · have eeb0_ : (eb == 0) = true := beq_iff_eq.mpr heb0
            by_cases hop11 : op = 11
            · have eop11_ : (op == 11) = true := beq_iff_eq.mpr hop11
              go_wp2
              go_meet
              case rel => exact ⟨true, rfl, ⟨(decide_eq_true (p := ea = 0 ∧ eb = 0 ∧ (op = 11 ∨ op = 12)) (by exact ⟨hea0, heb0, kq1⟩)).symm⟩, rfl⟩
            · have eop11_ : (op == 11) = false := beq_eq_false_iff_ne.mpr hop11
              by_cases hop12 : op = 12
              · have eop12_ : (op == 12) = true := beq_iff_eq.mpr hop12
                go_wp2
                go_meet
                case rel => exact ⟨true, rfl, ⟨(decide_eq_true (p := ea = 0 ∧ eb = 0 ∧ (op = 11 ∨ op = 12)) (by exact ⟨hea0, heb0, kq1⟩)).symm⟩, rfl⟩
              · have eop12_ : (op == 12) = false := beq_eq_false_iff_ne.mpr hop12
                go_wp2
                go_meet
                case rel => exact ⟨false, rfl, ⟨(decide_eq_false (p := ea = 0 ∧ eb = 0 ∧ (op = 11 ∨ op = 12)) kq1).symm⟩, rfl⟩
          · have eeb0_ : (eb == 0) = false := beq_eq_false_iff_ne.mpr heb0
            go_wp2
            go_meet
            case rel => exact ⟨false, rfl, ⟨(decide_eq_false (p := ea = 0 ∧ eb = 0 ∧ (op = 11 ∨ op = 12)) kq1).symm⟩, rfl⟩
        · have eea0_ : (ea == 0) = false := beq_eq_false_iff_ne.mpr hea0
          go_wp2
          go_meet
          case rel => exact ⟨false, rfl, ⟨(decide_eq_false (p := ea = 0 ∧ eb = 0 ∧ (op = 11 ∨ op = 12)) kq1).symm⟩, rfl⟩
      case rest =>
        obtain ⟨bq, rfl, HBQ, rfl⟩ := hcut
        go_upto_if 49 with fail
        go_cut [] (fun wf => ∃ (As : Option Addr) (zn : Nat) (At : Option Addr) (zc : Nat), Aside0 (wf.heap[g1]? = some (.cells #[.int .i64 op, .string nm, .int .i64 md, .slice A3 l3.length c3, .slice A4 l4.length c4] 39 (0, 0))) ∧ Aside0 (wf.heap[g2]? = some (.cells #[.int .i64 0, .slice none 0 0, .slice none 0 0, .int .i64 0, .int .i64 0] 58 (0, 0))) ∧ Aside0 (wf.heap[g7]? = some (.cells #[.slice As ns.length zn, .slice At cs.length zc, .int .i64 ks, .int .i64 es] 107 (0, 0))) ∧ Aside0 (Kd.R Kd.string 9 wf w.heap.size (fun _ => True) (.slice As ns.length zn) (ns)) ∧ Aside0 (Kd.R (Kd.int .i64) 2 wf w.heap.size (fun _ => True) (.slice At cs.length zc) (cs)) ∧ Aside0 (Below w.heap.size w wf))
        case first =>
          cases bq with
          | true =>
            have HC9 := mk (of_decide_eq_true HBQ.out.symm)
            clear HBQ
            clear HP HQ
            go_wp2_with (first | ((go_at_call 82; (with_reducible refine (both_own (.slice Ba nb.length ya) nb (.slice Bb cb.length yb) cb kb eb (.slice Aa na.length xa) na (.slice Ab ca.length xb) ca ka ea ns cs ks es w _ ?s1 ?s2 ?s3 ?s4 ?s5 (HS1.out HC9.out)).mono ?_); (case s1 => exact kq37); (case s2 => exact kq79); (case s3 => exact kq80); (case s4 => exact kq77); (case s5 => exact kq78); rintro e w30 ⟨x0_, x1_, rfl, y0_, y1_, hb⟩; obtain ⟨As, zn, en_⟩ := Kd.R_slice y0_; subst en_; obtain ⟨At, zc, en_⟩ := Kd.R_slice y1_; subst en_; have HP := mk y0_; have HQ := mk y1_; replace BKg1 := (bc_ BKg1 hb (kq24 BKg1)); replace BKg2 := (bc_ BKg2 hb (kq24 BKg2)); replace BKg5 := (bc_ BKg5 hb (kq24 BKg5)); replace BKg6 := (bc_ BKg6 hb (kq24 BKg6)); replace BKg7 := (bc_ BKg7 hb (kq24 BKg7)); replace HA0 := mk (Kd.R_below kq77 hb); replace HA1 := mk (Kd.R_below kq78 hb); replace HB0 := mk (Kd.R_below kq79 hb); replace HB1 := mk (Kd.R_below kq80 hb); replace HB := mk (below_step kq22 hb); clear hb y0_ y1_; obtain ⟨_, _, _, _, _, _, _, _, _, _⟩ := cz5_ BKg1.out; obtain ⟨_, _, _, _, _, _, _, _, _, _⟩ := cz5_ BKg2.out; obtain ⟨_, _, _, _, _, _, _, _⟩ := cz4_ BKg5.out; obtain ⟨_, _, _, _, _, _, _, _⟩ := cz4_ BKg6.out; obtain ⟨_, _, _, _, _, _, _, _⟩ := cz4_ BKg7.out)))
            go_meet
            case rel => exact ⟨As, zn, At, zc, ⟨(blk_far (blk_far (blk_far (blk_far (kq24 BKg1) NBg1g7.out _) NBg1g7.out _) NBg1g7.out _) NBg1g7.out _)⟩, ⟨(blk_far (blk_far (blk_far (blk_far (kq24 BKg2) NBg2g7.out _) NBg2g7.out _) NBg2g7.out _) NBg2g7.out _)⟩, ⟨(blk_put (blk_put (blk_put (blk_put (kq24 BKg7) 0 _ rfl) 1 _ rfl) 2 _ rfl) 3 _ rfl)⟩, ⟨Kd.R_mono (Kd.R_far (p := ⟨g7, 3, none⟩) (Kd.R_far (p := ⟨g7, 2, none⟩) (Kd.R_far (p := ⟨g7, 1, none⟩) (Kd.R_far (p := ⟨g7, 0, none⟩) (Kd.R_types kq81 BKg7.out kq2) (fun _ h => h.2) _) (fun _ h => h.2) _) (fun _ h => h.2) _) (fun _ h => h.2) _) (fun _ _ => trivial)⟩, ⟨Kd.R_mono (Kd.R_far (p := ⟨g7, 3, none⟩) (Kd.R_far (p := ⟨g7, 2, none⟩) (Kd.R_far (p := ⟨g7, 1, none⟩) (Kd.R_far (p := ⟨g7, 0, none⟩) (Kd.R_types kq82 BKg7.out kq2) (fun _ h => h.2) _) (fun _ h => h.2) _) (fun _ h => h.2) _) (fun _ h => h.2) _) (fun _ _ => trivial)⟩, ⟨(below_set (below_set (below_set (below_set kq22 GEg7.out) GEg7.out) GEg7.out) GEg7.out)⟩⟩
          | false =>
            obtain ⟨rfl, rfl, rfl, rfl⟩ := HS2.out (of_decide_eq_false HBQ.out.symm)
            clear HBQ
            go_wp2
            go_meet
            case rel => exact ⟨An, xn, Ac, xc, BKg1, BKg2, BKg7, HP, HQ, HB⟩
        case rest =>
          clear BKg1 BKg2 BKg5 BKg6 BKg7 HA0 HA1 HB0 HB1 HP HQ HB
          clear HS0 HS1 HS2 HWA HWB
          obtain ⟨As, zn, At, zc, BKg1, BKg2, BKg7, HP, HQ, HB⟩ := hcut
          obtain ⟨_, _, _, _, _, _, _, _, _, _⟩ := cz5_ BKg1.out
          obtain ⟨_, _, _, _, _, _, _, _, _, _⟩ := cz5_ BKg2.out
          obtain ⟨_, _, _, _, _, _, _, _⟩ := cz4_ BKg7.out
          go_upto_region 10 with fail
          go_cut [8] (fun v8 wg => ∃ (g8 : Nat), v8 = .pointer (some ⟨g8, 0, none⟩) ∧ Aside0 (w.heap.size ≤ g8) ∧ Aside0 (g1 ≠ g8) ∧ Aside0 (g2 ≠ g8) ∧ Aside0 (g7 ≠ g8) ∧ Aside0 (wg.heap[g1]? = some (.cells #[.int .i64 op, .string nm, .int .i64 md, .slice A3 l3.length c3, .slice A4 l4.length c4] 39 (0, 0))) ∧ Aside0 (wg.heap[g2]? = some (.cells #[.int .i64 0, .slice none 0 0, .slice none 0 0, .int .i64 0, .int .i64 0] 58 (0, 0))) ∧ Aside0 (wg.heap[g7]? = some (.cells #[.slice As ns.length zn, .slice At cs.length zc, .int .i64 ks, .int .i64 es] 107 (0, 0))) ∧ Aside0 (wg.heap[g8]? = some (.cells #[.int .i64 0, .slice As ns.length zn, .slice At cs.length zc, .int .i64 0, .int .i64 md] 58 (0, 0))) ∧ Aside0 (Kd.R Kd.string 9 wg w.heap.size (fun _ => True) (.slice As ns.length zn) (ns)) ∧ Aside0 (Kd.R (Kd.int .i64) 2 wg w.heap.size (fun _ => True) (.slice At cs.length zc) (cs)) ∧ Aside0 (Below w.heap.size w wg))
          case first =>
            go_wp2_with (first | ((with_reducible refine gate_dst (N := 8) rfl ?_); refine box_event ?hg (N := 8) ?hd (cs := #[.int .i64 0, .slice none 0 0, .slice none 0 0, .int .i64 0, .int .i64 0]) (t := 58) ?hr ?_; (case hd => rfl); (case hg => rfl); (case hr => exact kq11); intro g8 hg w40 hbox hb; have GEg8 := mk (kq21 : w.heap.size ≤ g8); have NBg1g8 := mk ((kq23 BKg1) : g1 ≠ g8); have NBg8g1 := mk (Ne.symm NBg1g8.out); have NBg2g8 := mk ((kq23 BKg2) : g2 ≠ g8); have NBg8g2 := mk (Ne.symm NBg2g8.out); have NBg7g8 := mk ((kq23 BKg7) : g7 ≠ g8); have NBg8g7 := mk (Ne.symm NBg7g8.out); replace BKg1 := (bc_ BKg1 hb (kq24 BKg1)); replace BKg2 := (bc_ BKg2 hb (kq24 BKg2)); replace BKg7 := (bc_ BKg7 hb (kq24 BKg7)); replace HP := mk (Kd.R_below kq81 hb); replace HQ := mk (Kd.R_below kq82 hb); replace HB := mk (below_step kq22 hb); clear hb hg; have BKg8 := mk hbox; clear hbox; have ne_g1g8 := NBg1g8.out; have ne_g8g1 := NBg8g1.out; have ne_g2g8 := NBg2g8.out; have ne_g8g2 := NBg8g2.out; have ne_g7g8 := NBg7g8.out; have ne_g8g7 := NBg8g7.out; obtain ⟨_, _, _, _, _, _, _, _, _, _⟩ := cz5_ BKg1.out; obtain ⟨_, _, _, _, _, _, _, _, _, _⟩ := cz5_ BKg2.out; obtain ⟨_, _, _, _, _, _, _, _⟩ := cz4_ BKg7.out; obtain ⟨_, _, _, _, _, _, _, _, _, _⟩ := cz5_ BKg8.out))
            go_meet
            case rel => exact ⟨g8, rfl, GEg8, NBg1g8, NBg2g8, NBg7g8, ⟨(blk_far (blk_far (blk_far (blk_far (blk_far (kq24 BKg1) NBg1g8.out _) NBg1g8.out _) NBg1g8.out _) NBg1g8.out _) NBg1g8.out _)⟩, ⟨(blk_far (blk_far (blk_far (blk_far (blk_far (kq24 BKg2) NBg2g8.out _) NBg2g8.out _) NBg2g8.out _) NBg2g8.out _) NBg2g8.out _)⟩, ⟨(blk_far (blk_far (blk_far (blk_far (blk_far (kq24 BKg7) NBg7g8.out _) NBg7g8.out _) NBg7g8.out _) NBg7g8.out _) NBg7g8.out _)⟩, ⟨(blk_put (blk_put (blk_put (blk_put (blk_put (kq24 BKg8) 0 _ rfl) 1 _ rfl) 2 _ rfl) 3 _ rfl) 4 _ rfl)⟩, ⟨Kd.R_mono (Kd.R_far (p := ⟨g8, 4, none⟩) (Kd.R_far (p := ⟨g8, 3, none⟩) (Kd.R_far (p := ⟨g8, 2, none⟩) (Kd.R_far (p := ⟨g8, 1, none⟩) (Kd.R_far (p := ⟨g8, 0, none⟩) (Kd.R_types kq81 BKg8.out kq2) (fun _ h => h.2) _) (fun _ h => h.2) _) (fun _ h => h.2) _) (fun _ h => h.2) _) (fun _ h => h.2) _) (fun _ _ => trivial)⟩, ⟨Kd.R_mono (Kd.R_far (p := ⟨g8, 4, none⟩) (Kd.R_far (p := ⟨g8, 3, none⟩) (Kd.R_far (p := ⟨g8, 2, none⟩) (Kd.R_far (p := ⟨g8, 1, none⟩) (Kd.R_far (p := ⟨g8, 0, none⟩) (Kd.R_types kq82 BKg8.out kq2) (fun _ h => h.2) _) (fun _ h => h.2) _) (fun _ h => h.2) _) (fun _ h => h.2) _) (fun _ h => h.2) _) (fun _ _ => trivial)⟩, ⟨(below_set (below_set (below_set (below_set (below_set kq22 GEg8.out) GEg8.out) GEg8.out) GEg8.out) GEg8.out)⟩⟩
          case rest =>
            clear BKg1 BKg2 BKg7 HP HQ HB
            obtain ⟨g8, rfl, GEg8, NBg1g8, NBg2g8, NBg7g8, BKg1, BKg2, BKg7, BKg8, HP, HQ, HB⟩ := hcut
            have NBg8g1 := mk (Ne.symm NBg1g8.out)
            have NBg8g2 := mk (Ne.symm NBg2g8.out)
            have NBg8g7 := mk (Ne.symm NBg7g8.out)
            have ne_g1g8 := NBg1g8.out
            have ne_g2g8 := NBg2g8.out
            have ne_g7g8 := NBg7g8.out
            have ne_g8g1 := NBg8g1.out
            have ne_g8g2 := NBg8g2.out
            have ne_g8g7 := NBg8g7.out
            obtain ⟨_, _, _, _, _, _, _, _, _, _⟩ := cz5_ BKg1.out
            obtain ⟨_, _, _, _, _, _, _, _, _, _⟩ := cz5_ BKg2.out
            obtain ⟨_, _, _, _, _, _, _, _⟩ := cz4_ BKg7.out
            obtain ⟨_, _, _, _, _, _, _, _, _, _⟩ := cz5_ BKg8.out
            go_upto_region 11 with fail
            go_cut [] (fun wh => Aside0 (wh.heap[g1]? = some (.cells #[.int .i64 op, .string nm, .int .i64 md, .slice A3 l3.length c3, .slice A4 l4.length c4] 39 (0, 0))) ∧ Aside0 (wh.heap[g2]? = some (.cells #[.int .i64 0, .slice none 0 0, .slice none 0 0, .int .i64 0, .int .i64 0] 58 (0, 0))) ∧ Aside0 (wh.heap[g7]? = some (.cells #[.slice As ns.length zn, .slice At cs.length zc, .int .i64 ks, .int .i64 (coeffE es (negP ks).2)] 107 (0, 0))) ∧ Aside0 (wh.heap[g8]? = some (.cells #[.int .i64 0, .slice As ns.length zn, .slice At cs.length zc, .int .i64 (negP ks).1, .int .i64 md] 58 (0, 0))) ∧ Aside0 (Kd.R Kd.string 9 wh w.heap.size (fun _ => True) (.slice As ns.length zn) (ns)) ∧ Aside0 (Kd.R (Kd.int .i64) 2 wh w.heap.size (fun _ => True) (.slice At cs.length zc) (cs)) ∧ Aside0 (Below w.heap.size w wh))
            case first =>
              go_wp2_with (first | ((go_at_call 85; (with_reducible refine (chk_Neg.calls ks _ _ _ (neg_at ks)).mono ?_); rintro e w41 ⟨rfl, hd⟩; have hb := hd.below; clear hd; replace BKg1 := (bc_ BKg1 hb (kq24 BKg1)); replace BKg2 := (bc_ BKg2 hb (kq24 BKg2)); replace BKg7 := (bc_ BKg7 hb (kq24 BKg7)); replace BKg8 := (bc_ BKg8 hb (kq24 BKg8)); replace HP := mk (Kd.R_below kq81 hb); replace HQ := mk (Kd.R_below kq82 hb); replace HB := mk (below_step kq22 hb); clear hb; obtain ⟨_, _, _, _, _, _, _, _, _, _⟩ := cz5_ BKg1.out; obtain ⟨_, _, _, _, _, _, _, _, _, _⟩ := cz5_ BKg2.out; obtain ⟨_, _, _, _, _, _, _, _⟩ := cz4_ BKg7.out; obtain ⟨_, _, _, _, _, _, _, _, _, _⟩ := cz5_ BKg8.out)) | ((go_at_call 84; (with_reducible refine (coeff_calls g7 (.slice As ns.length zn) (.slice At cs.length zc) ks (es) (negP ks).1 (negP ks).2 w _ GEg7.out ?s1 ?s2).mono ?_); (case s1 => exact kq37); (case s2 => exact kq38 BKg7); rintro e w42 ⟨rfl, hg, hk, hb⟩; replace BKg1 := mk (hk.blk (kq24 BKg1) ne_g1g7 (by simp)); replace BKg2 := mk (hk.blk (kq24 BKg2) ne_g2g7 (by simp)); replace BKg8 := mk (hk.blk (kq24 BKg8) ne_g8g7 (by simp)); replace HP := mk (Kd.R_mono (Kd.R_keep (Kd.R_types kq81 (kq24 BKg7) kq2) hk (fun _ h => h.2)) (fun _ _ => trivial)); replace HQ := mk (Kd.R_mono (Kd.R_keep (Kd.R_types kq82 (kq24 BKg7) kq2) hk (fun _ h => h.2)) (fun _ _ => trivial)); replace BKg7 := mk (hg); replace HB := mk (hb); clear hg hk hb; obtain ⟨_, _, _, _, _, _, _, _, _, _⟩ := cz5_ BKg1.out; obtain ⟨_, _, _, _, _, _, _, _, _, _⟩ := cz5_ BKg2.out; obtain ⟨_, _, _, _, _, _, _, _⟩ := cz4_ BKg7.out; obtain ⟨_, _, _, _, _, _, _, _, _, _⟩ := cz5_ BKg8.out)))
              go_meet
              case rel => exact ⟨⟨(blk_far (kq24 BKg1) NBg1g8.out _)⟩, ⟨(blk_far (kq24 BKg2) NBg2g8.out _)⟩, ⟨(blk_far (kq24 BKg7) NBg7g8.out _)⟩, ⟨(blk_put (kq24 BKg8) 3 _ rfl)⟩, ⟨Kd.R_mono (Kd.R_far (p := ⟨g8, 3, none⟩) (Kd.R_types kq81 BKg8.out kq2) (fun _ h => h.2) _) (fun _ _ => trivial)⟩, ⟨Kd.R_mono (Kd.R_far (p := ⟨g8, 3, none⟩) (Kd.R_types kq82 BKg8.out kq2) (fun _ h => h.2) _) (fun _ _ => trivial)⟩, ⟨(below_set kq22 GEg8.out)⟩⟩
            case rest =>
              clear BKg1 BKg2 BKg7 BKg8 HP HQ HB
              obtain ⟨BKg1, BKg2, BKg7, BKg8, HP, HQ, HB⟩ := hcut
              obtain ⟨_, _, _, _, _, _, _, _, _, _⟩ := cz5_ BKg1.out
              obtain ⟨_, _, _, _, _, _, _, _, _, _⟩ := cz5_ BKg2.out
              obtain ⟨_, _, _, _, _, _, _, _⟩ := cz4_ BKg7.out
              obtain ⟨_, _, _, _, _, _, _, _, _, _⟩ := cz5_ BKg8.out
              go_upto_block 0 with fail
              go_cut [] (fun wi => ∃ v7_ : Value, Aside0 (wi.heap[g1]? = some (.cells #[.int .i64 op, .string nm, .int .i64 md, .slice A3 l3.length c3, .slice A4 l4.length c4] 39 (0, 0))) ∧ Aside0 (wi.heap[g2]? = some (.cells #[.int .i64 0, .slice none 0 0, .slice none 0 0, .int .i64 0, .int .i64 0] 58 (0, 0))) ∧ Aside0 (wi.heap[g7]? = some (.cells #[.slice As ns.length zn, v7_, .int .i64 ks, .int .i64 (atomE op ks es)] 107 (0, 0))) ∧ Aside0 (wi.heap[g8]? = some (.cells #[.int .i64 (atomK op), .slice As ns.length zn, .slice At (atomC op md cs).length zc, .int .i64 (atomB op md ks), .int .i64 md] 58 (0, 0))) ∧ Aside0 (Kd.R Kd.string 9 wi w.heap.size (fun _ => True) (.slice As ns.length zn) (ns)) ∧ Aside0 (Kd.R (Kd.int .i64) 2 wi w.heap.size (fun _ => True) (.slice At (atomC op md cs).length zc) (atomC op md cs)) ∧ Aside0 (Below w.heap.size w wi))
              case first =>
                by_cases hop10 : op = 10
                · have eop10_ : (op == 10) = true := beq_iff_eq.mpr hop10
                  have HK_ := mk (show atomK op = 0 by unfold atomK; simp [*])
                  have HB_ := mk (show atomB op md ks = (subP (negP ks).1 1).1 by unfold atomB; simp [*])
                  have HE_ := mk (show atomE op ks es = coeffE (coeffE es (negP ks).2) (subP (negP ks).1 1).2 by unfold atomE; simp [*])
                  have HC_ := mk (show atomC op md cs = cs by unfold atomC; simp [*])
                  (try clear hop10)
                  (try clear hop12)
                  (try clear hop13)
                  (try clear hop14)
                  (try clear hop15)
                  go_wp2_with (first | ((go_at_call 83; (with_reducible refine (chk_Sub.calls (negP ks).1 1 _ _ _ (sub_at (negP ks).1 1)).mono ?_); rintro e w50 ⟨rfl, hd⟩; have hb := hd.below; clear hd; replace BKg1 := (bc_ BKg1 hb (kq24 BKg1)); replace BKg2 := (bc_ BKg2 hb (kq24 BKg2)); replace BKg7 := (bc_ BKg7 hb (kq24 BKg7)); replace BKg8 := (bc_ BKg8 hb (kq24 BKg8)); replace HP := mk (Kd.R_below kq81 hb); replace HQ := mk (Kd.R_below kq82 hb); replace HB := mk (below_step kq22 hb); clear hb; obtain ⟨_, _, _, _, _, _, _, _, _, _⟩ := cz5_ BKg1.out; obtain ⟨_, _, _, _, _, _, _, _, _, _⟩ := cz5_ BKg2.out; obtain ⟨_, _, _, _, _, _, _, _⟩ := cz4_ BKg7.out; obtain ⟨_, _, _, _, _, _, _, _, _, _⟩ := cz5_ BKg8.out)) | ((go_at_call 84; (with_reducible refine (coeff_calls g7 (.slice As ns.length zn) (.slice At cs.length zc) ks (coeffE es (negP ks).2) (subP (negP ks).1 1).1 (subP (negP ks).1 1).2 w _ GEg7.out ?s1 ?s2).mono ?_); (case s1 => exact kq37); (case s2 => exact kq38 BKg7); rintro e w51 ⟨rfl, hg, hk, hb⟩; replace BKg1 := mk (hk.blk (kq24 BKg1) ne_g1g7 (by simp)); replace BKg2 := mk (hk.blk (kq24 BKg2) ne_g2g7 (by simp)); replace BKg8 := mk (hk.blk (kq24 BKg8) ne_g8g7 (by simp)); replace HP := mk (Kd.R_mono (Kd.R_keep (Kd.R_types kq81 (kq24 BKg7) kq2) hk (fun _ h => h.2)) (fun _ _ => trivial)); replace HQ := mk (Kd.R_mono (Kd.R_keep (Kd.R_types kq82 (kq24 BKg7) kq2) hk (fun _ h => h.2)) (fun _ _ => trivial)); replace BKg7 := mk (hg); replace HB := mk (hb); clear hg hk hb; obtain ⟨_, _, _, _, _, _, _, _, _, _⟩ := cz5_ BKg1.out; obtain ⟨_, _, _, _, _, _, _, _, _, _⟩ := cz5_ BKg2.out; obtain ⟨_, _, _, _, _, _, _, _⟩ := cz4_ BKg7.out; obtain ⟨_, _, _, _, _, _, _, _, _, _⟩ := cz5_ BKg8.out)))
                  go_meet
                  case rel => exact ⟨.slice At cs.length zc, ⟨(blk_far (kq24 BKg1) NBg1g8.out _)⟩, ⟨(blk_far (kq24 BKg2) NBg2g8.out _)⟩, ⟨(kq84 BKg7 NBg7g8)⟩, ⟨(kq85 HC_ BKg8)⟩, ⟨Kd.R_mono (Kd.R_far (p := ⟨g8, 3, none⟩) (Kd.R_types kq81 BKg8.out kq2) (fun _ h => h.2) _) (fun _ _ => trivial)⟩, ⟨(kq86 HC_ BKg8)⟩, ⟨(below_set kq22 GEg8.out)⟩⟩
                · have eop10_ : (op == 10) = false := beq_eq_false_iff_ne.mpr hop10
                  by_cases hop12 : op = 12
                  · have eop12_ : (op == 12) = true := beq_iff_eq.mpr hop12
                    have HK_ := mk (show atomK op = 0 by unfold atomK; simp [*])
                    have HB_ := mk (show atomB op md ks = (subP (negP ks).1 1).1 by unfold atomB; simp [*])
                    have HE_ := mk (show atomE op ks es = coeffE (coeffE es (negP ks).2) (subP (negP ks).1 1).2 by unfold atomE; simp [*])
                    have HC_ := mk (show atomC op md cs = cs by unfold atomC; simp [*])
                    (try clear hop10)
                    (try clear hop12)
                    (try clear hop13)
                    (try clear hop14)
                    (try clear hop15)
                    go_wp2_with (first | ((go_at_call 83; (with_reducible refine (chk_Sub.calls (negP ks).1 1 _ _ _ (sub_at (negP ks).1 1)).mono ?_); rintro e w50 ⟨rfl, hd⟩; have hb := hd.below; clear hd; replace BKg1 := (bc_ BKg1 hb (kq24 BKg1)); replace BKg2 := (bc_ BKg2 hb (kq24 BKg2)); replace BKg7 := (bc_ BKg7 hb (kq24 BKg7)); replace BKg8 := (bc_ BKg8 hb (kq24 BKg8)); replace HP := mk (Kd.R_below kq81 hb); replace HQ := mk (Kd.R_below kq82 hb); replace HB := mk (below_step kq22 hb); clear hb; obtain ⟨_, _, _, _, _, _, _, _, _, _⟩ := cz5_ BKg1.out; obtain ⟨_, _, _, _, _, _, _, _, _, _⟩ := cz5_ BKg2.out; obtain ⟨_, _, _, _, _, _, _, _⟩ := cz4_ BKg7.out; obtain ⟨_, _, _, _, _, _, _, _, _, _⟩ := cz5_ BKg8.out)) | ((go_at_call 84; (with_reducible refine (coeff_calls g7 (.slice As ns.length zn) (.slice At cs.length zc) ks (coeffE es (negP ks).2) (subP (negP ks).1 1).1 (subP (negP ks).1 1).2 w _ GEg7.out ?s1 ?s2).mono ?_); (case s1 => exact kq37); (case s2 => exact kq38 BKg7); rintro e w51 ⟨rfl, hg, hk, hb⟩; replace BKg1 := mk (hk.blk (kq24 BKg1) ne_g1g7 (by simp)); replace BKg2 := mk (hk.blk (kq24 BKg2) ne_g2g7 (by simp)); replace BKg8 := mk (hk.blk (kq24 BKg8) ne_g8g7 (by simp)); replace HP := mk (Kd.R_mono (Kd.R_keep (Kd.R_types kq81 (kq24 BKg7) kq2) hk (fun _ h => h.2)) (fun _ _ => trivial)); replace HQ := mk (Kd.R_mono (Kd.R_keep (Kd.R_types kq82 (kq24 BKg7) kq2) hk (fun _ h => h.2)) (fun _ _ => trivial)); replace BKg7 := mk (hg); replace HB := mk (hb); clear hg hk hb; obtain ⟨_, _, _, _, _, _, _, _, _, _⟩ := cz5_ BKg1.out; obtain ⟨_, _, _, _, _, _, _, _, _, _⟩ := cz5_ BKg2.out; obtain ⟨_, _, _, _, _, _, _, _⟩ := cz4_ BKg7.out; obtain ⟨_, _, _, _, _, _, _, _, _, _⟩ := cz5_ BKg8.out)))
                    go_meet
                    case rel => exact ⟨.slice At cs.length zc, ⟨(blk_far (kq24 BKg1) NBg1g8.out _)⟩, ⟨(blk_far (kq24 BKg2) NBg2g8.out _)⟩, ⟨(kq84 BKg7 NBg7g8)⟩, ⟨(kq85 HC_ BKg8)⟩, ⟨Kd.R_mono (Kd.R_far (p := ⟨g8, 3, none⟩) (Kd.R_types kq81 BKg8.out kq2) (fun _ h => h.2) _) (fun _ _ => trivial)⟩, ⟨(kq86 HC_ BKg8)⟩, ⟨(below_set kq22 GEg8.out)⟩⟩
                  · have eop12_ : (op == 12) = false := beq_eq_false_iff_ne.mpr hop12
                    by_cases hop13 : op = 13
                    · have eop13_ : (op == 13) = true := beq_iff_eq.mpr hop13
                      have HK_ := mk (show atomK op = 1 by unfold atomK; simp [*])
                      have HB_ := mk (show atomB op md ks = (negP ks).1 by unfold atomB; simp [*])
                      have HE_ := mk (show atomE op ks es = coeffE es (negP ks).2 by unfold atomE; simp [*])
                      have HC_ := mk (show atomC op md cs = cs by unfold atomC; simp [*])
                      (try clear hop10)
                      (try clear hop12)
                      (try clear hop13)
                      (try clear hop14)
                      (try clear hop15)
                      go_wp2
                      go_meet
                      case rel => exact ⟨.slice At cs.length zc, ⟨(blk_far (kq24 BKg1) NBg1g8.out _)⟩, ⟨(blk_far (kq24 BKg2) NBg2g8.out _)⟩, ⟨(kq84 BKg7 NBg7g8)⟩, ⟨(kq87 HC_ BKg8)⟩, ⟨Kd.R_mono (Kd.R_far (p := ⟨g8, 0, none⟩) (Kd.R_types kq81 BKg8.out kq2) (fun _ h => h.2) _) (fun _ _ => trivial)⟩, ⟨(kq88 HC_ BKg8)⟩, ⟨(below_set kq22 GEg8.out)⟩⟩
                    · have eop13_ : (op == 13) = false := beq_eq_false_iff_ne.mpr hop13
                      by_cases hop14 : op = 14
                      · have eop14_ : (op == 14) = true := beq_iff_eq.mpr hop14
                        have HK_ := mk (show atomK op = 1 by unfold atomK; simp [*])
                        have HB_ := mk (show atomB op md ks = (negP ks).1 by unfold atomB; simp [*])
                        have HE_ := mk (show atomE op ks es = coeffE es (negP ks).2 by unfold atomE; simp [*])
                        have HC_ := mk (show atomC op md cs = cs by unfold atomC; simp [*])
                        (try clear hop10)
                        (try clear hop12)
                        (try clear hop13)
                        (try clear hop14)
                        (try clear hop15)
                        go_wp2
                        go_meet
                        case rel => exact ⟨.slice At cs.length zc, ⟨(blk_far (kq24 BKg1) NBg1g8.out _)⟩, ⟨(blk_far (kq24 BKg2) NBg2g8.out _)⟩, ⟨(kq84 BKg7 NBg7g8)⟩, ⟨(kq87 HC_ BKg8)⟩, ⟨Kd.R_mono (Kd.R_far (p := ⟨g8, 0, none⟩) (Kd.R_types kq81 BKg8.out kq2) (fun _ h => h.2) _) (fun _ _ => trivial)⟩, ⟨(kq88 HC_ BKg8)⟩, ⟨(below_set kq22 GEg8.out)⟩⟩
                      · have eop14_ : (op == 14) = false := beq_eq_false_iff_ne.mpr hop14
                        by_cases hop15 : op = 15
                        · have eop15_ : (op == 15) = true := beq_iff_eq.mpr hop15
                          have HK_ := mk (show atomK op = 2 by unfold atomK; simp [*])
                          have HB_ := mk (show atomB op md ks = (restP (negP ks).1 md).1 by unfold atomB; simp [*])
                          have HE_ := mk (show atomE op ks es = coeffE es (negP ks).2 by unfold atomE; simp [*])
                          have HC_ := mk (show atomC op md cs = cs.map (fun c => (restP c md).1) by unfold atomC; simp [*])
                          (try clear hop10)
                          (try clear hop12)
                          (try clear hop13)
                          (try clear hop14)
                          (try clear hop15)
                          go_wp2_with (first | ((go_at_call 86; (with_reducible refine (rests_calls g8 2 (negP ks).1 md (.slice As ns.length zn) (.slice At cs.length zc) cs w _ GEg8.out ?s1 ?s2 ?s3 HL.out).mono ?_); (case s1 => exact (below_set kq22 GEg8.out)); (case s2 => exact (blk_put (kq24 BKg8) 0 _ rfl)); (case s3 => exact Kd.R_mono (Kd.R_far (p := ⟨g8, 0, none⟩) (Kd.R_types kq82 BKg8.out kq2) (fun _ h => h.2) _) (fun _ _ => trivial)); rintro e w52 ⟨rfl, hg, hq, hk, hb⟩; replace BKg1 := mk (hk.blk (blk_far (kq24 BKg1) NBg1g8.out _) ne_g1g8 (Kd.R_ne HQ.out BKg1.out kq2)); replace BKg2 := mk (hk.blk (blk_far (kq24 BKg2) NBg2g8.out _) ne_g2g8 (Kd.R_ne HQ.out BKg2.out kq2)); replace BKg7 := mk (hk.blk (blk_far (kq24 BKg7) NBg7g8.out _) ne_g7g8 (Kd.R_ne HQ.out BKg7.out kq2)); replace HP := mk (R_kept2 HP.out BKg8.out kq2 HQ.out kq2 hk (by simp [World.setCell]) (fun i hi => Below.heap_setCell _ _ _ i hi)); replace BKg8 := mk (hg); replace HQ := mk (hq); replace HB := mk (hb); clear hg hq hk hb)))
                          go_meet
                          have hCl : (cs.map (fun c => (restP c md).1)).length = cs.length := List.length_map _
                          case rel => exact ⟨.slice At cs.length zc, BKg1, BKg2, ⟨by rw [HE_.out]; exact BKg7.out⟩, ⟨by rw [HK_.out, HC_.out, HB_.out, hCl]; exact BKg8.out⟩, HP, ⟨by rw [HC_.out, hCl]; exact HQ.out⟩, HB⟩
                        · have eop15_ : (op == 15) = false := beq_eq_false_iff_ne.mpr hop15
                          have HK_ := mk (show atomK op = 0 by unfold atomK; simp [*])
                          have HB_ := mk (show atomB op md ks = (negP ks).1 by unfold atomB; simp [*])
                          have HE_ := mk (show atomE op ks es = coeffE es (negP ks).2 by unfold atomE; simp [*])
                          have HC_ := mk (show atomC op md cs = cs by unfold atomC; simp [*])
                          (try clear hop10)
                          (try clear hop12)
                          (try clear hop13)
                          (try clear hop14)
                          (try clear hop15)
                          go_wp2
                          go_meet
                          case rel => exact ⟨.slice At cs.length zc, ⟨BKg1.out⟩, ⟨BKg2.out⟩, ⟨by rw [HE_.out]; exact BKg7.out⟩, ⟨by rw [HK_.out, HC_.out, HB_.out]; exact BKg8.out⟩, ⟨HP.out⟩, ⟨by rw [HC_.out]; exact HQ.out⟩, ⟨HB.out⟩⟩
              case rest =>
                clear BKg1 BKg2 BKg7 BKg8 HP HQ HB
                obtain ⟨v7_, BKg1, BKg2, BKg7, BKg8, HP, HQ, HB⟩ := hcut
                have HCL := mk (atomC_length op md cs)
                obtain ⟨_, _, _, _, _, _, _, _, _, _⟩ := cz5_ BKg1.out
                obtain ⟨_, _, _, _, _, _, _, _, _, _⟩ := cz5_ BKg2.out
                obtain ⟨_, _, _, _, _, _, _, _⟩ := cz4_ BKg7.out
                obtain ⟨_, _, _, _, _, _, _, _, _, _⟩ := cz5_ BKg8.out
                obtain ⟨yl, hyl⟩ : ∃ y_ : List Int, y_ = [(atomB op md ks)] ++ atomC op md cs := ⟨_, rfl⟩
                have HTY := HTT.out
                rw [← hyl] at HTY
                have HTZ := mk HTY
                have Ny := mk hyl
                clear HTT HTY hyl
                go_upto_region 23 with (first | ((with_reducible refine gate_dst (N := 89) rfl ?_); refine Kd.R_lit (Kd.int .i64) _ 2 ?hg (N := 89) ?hd (xs := ([(atomB op md ks)] : List Int)) (inner := [.int .i64 (atomB op md ks)]) (ok := fun _ => True) (okp := fun _ => True) ?hr ?hp (fun _ hk => hk) trivial (Below.refl _ _) (Nat.le_refl _) (by simp) ?_; (case hd => rfl); (case hg => rfl); (case hr => exact kq11); (case hp => exact (Reps.one (show Kd.M (Kd.int .i64) _ _ _ (atomB op md ks) [.int .i64 (atomB op md ks)] from rfl) (Reps.none _ _))); intro v60 w60 ho hb hg_ hnew_; clear hg_ hnew_; have HO := mk (Kd.R_lower ho (below_size HB.out)); have HQ2 := mk (Kd.R_elder' HQ.out (Kd.R_base ho) hb); replace BKg1 := mk (blk_below BKg1.out hb); replace BKg2 := mk (blk_below BKg2.out hb); replace BKg7 := mk (blk_below BKg7.out hb); replace BKg8 := mk (blk_below BKg8.out hb); replace HP := mk (Kd.R_below HP.out hb); replace HQ := mk (Kd.R_below HQ.out hb); replace HB := mk (below_step HB.out hb); clear hb ho; obtain ⟨_, _, _, _, _, _, _, _, _, _⟩ := cz5_ BKg1.out; obtain ⟨_, _, _, _, _, _, _, _, _, _⟩ := cz5_ BKg2.out; obtain ⟨_, _, _, _, _, _, _, _⟩ := cz4_ BKg7.out; obtain ⟨_, _, _, _, _, _, _, _, _, _⟩ := cz5_ BKg8.out) | ((with_reducible refine gate_builtin (b := .append) (xs := #[.tmp 89, .tmp 91]) rfl ?_); at_builtin; refine Kd.R_append_rows (Kd.int .i64) (w0 := w) w.heap.size rfl (.tmp 89) (.tmp 91) 55 2 (.int .i64 0) 8 rfl Try.underlying55 info2 rfl kq2 kq1 v60 ([(atomB op md ks)] : List Int) (atomC op md cs) _ _ _ (fun _ => True) (fun _ => False) rfl rfl ?aO ?aR (fun _ _ h => h) (fun _ h => h.elim) ?aF ?aB ?aS ?aL ?_; (case aR => exact (Kd.R_reads' HQ.out).2.2); (case aB => exact HB.out); (case aF => exact (fun _ _ => trivial)); (case aO => exact HO.out); (case aS => exact below_size HB.out); (case aL => have := HCL.out; have := HL.out; simp only [List.length_cons, List.length_nil]; omega); intro v61 w61 ho hb hg hat; rw [← Ny.out] at ho; replace BKg1 := mk (blk_grown BKg1.out hg (Kd.R_ne HO.out BKg1.out kq2)); replace BKg2 := mk (blk_grown BKg2.out hg (Kd.R_ne HO.out BKg2.out kq2)); replace BKg7 := mk (blk_grown BKg7.out hg (Kd.R_ne HO.out BKg7.out kq2)); replace BKg8 := mk (blk_grown BKg8.out hg (Kd.R_ne HO.out BKg8.out kq2)); replace HP := mk (Kd.R_over HP.out HO.out kq2 hg); replace HQ := mk (Kd.R_mono (Kd.R_after HQ2.out hg hat) (fun _ _ => trivial)); replace HO := mk (ho); replace HB := mk (hb); clear HQ2 ho hb hg hat; obtain ⟨A61, c61, e61⟩ := Kd.R_slice HO.out; subst e61; obtain ⟨_, _, _, _, _, _, _, _, _, _⟩ := cz5_ BKg1.out; obtain ⟨_, _, _, _, _, _, _, _, _, _⟩ := cz5_ BKg2.out; obtain ⟨_, _, _, _, _, _, _, _⟩ := cz4_ BKg7.out; obtain ⟨_, _, _, _, _, _, _, _, _, _⟩ := cz5_ BKg8.out) | ((go_at_call 87; (with_reducible refine (chk_Total.calls k A61 c61 yl tt te _ ?s1 ?s2 HTZ.out).mono ?_); (case s1 => exact (Kd.R_reads' HO.out).2.2); (case s2 => exact (Kd.R_reads' HO.out).2.1); rintro e w62 ⟨rfl, hd⟩; have hb := hd.below; clear hd HO; replace BKg1 := (bc_ BKg1 hb (kq24 BKg1)); replace BKg2 := (bc_ BKg2 hb (kq24 BKg2)); replace BKg7 := (bc_ BKg7 hb (kq24 BKg7)); replace BKg8 := (bc_ BKg8 hb (kq24 BKg8)); replace HP := mk (Kd.R_below kq81 hb); replace HQ := mk (Kd.R_below kq82 hb); replace HB := mk (below_step kq22 hb); clear hb; obtain ⟨_, _, _, _, _, _, _, _, _, _⟩ := cz5_ BKg1.out; obtain ⟨_, _, _, _, _, _, _, _, _, _⟩ := cz5_ BKg2.out; obtain ⟨_, _, _, _, _, _, _, _⟩ := cz4_ BKg7.out; obtain ⟨_, _, _, _, _, _, _, _, _, _⟩ := cz5_ BKg8.out)) | ((go_at_call 84; (with_reducible refine (coeff_calls g7 (.slice As ns.length zn) v7_ ks (atomE op ks es) tt te w _ GEg7.out ?s1 ?s2).mono ?_); (case s1 => exact kq37); (case s2 => exact kq38 BKg7); rintro e w63 ⟨rfl, hg, hk, hb⟩; replace BKg1 := mk (hk.blk (kq24 BKg1) ne_g1g7 (by simp)); replace BKg2 := mk (hk.blk (kq24 BKg2) ne_g2g7 (by simp)); replace BKg8 := mk (hk.blk (kq24 BKg8) ne_g8g7 (by simp)); replace HP := mk (Kd.R_mono (Kd.R_keep (Kd.R_types kq81 (kq24 BKg7) kq2) hk (fun _ h => h.2)) (fun _ _ => trivial)); replace HQ := mk (Kd.R_mono (Kd.R_keep (Kd.R_types kq82 (kq24 BKg7) kq2) hk (fun _ h => h.2)) (fun _ _ => trivial)); replace BKg7 := mk (hg); replace HB := mk (hb); clear hg hk hb; obtain ⟨_, _, _, _, _, _, _, _, _, _⟩ := cz5_ BKg1.out; obtain ⟨_, _, _, _, _, _, _, _, _, _⟩ := cz5_ BKg2.out; obtain ⟨_, _, _, _, _, _, _, _⟩ := cz4_ BKg7.out; obtain ⟨_, _, _, _, _, _, _, _, _, _⟩ := cz5_ BKg8.out)))
                by_cases hz : coeffE (atomE op ks es) te = 0
                · have hz0 : (coeffE (atomE op ks es) te != 0) = false := bne_eq_false_iff_eq.mpr hz
                  have hR : atomR op md ns cs ks es te = (atomK op, ns, atomC op md cs, atomB op md ks, md, 0) := if_pos hz
                  clear hz
                  go_wp2
                  refine bodyPost_ret (results_ct rfl _ _ g2 58 #[.int .i64 (atomK op), .slice As ns.length zn, .slice At (atomC op md cs).length zc, .int .i64 (atomB op md ks), .int .i64 md] (0, 0) _ rfl (blk_put (blk_put (blk_put (blk_put (blk_put (kq24 BKg2) 0 _ rfl) 1 _ rfl) 2 _ rfl) 3 _ rfl) 4 _ rfl) Try.underlying58 rfl kq0) rfl ?_
                  rw [hR]
                  exact ⟨_, _, rfl, Kd.R_mono (Kd.R_far (p := ⟨g2, 4, none⟩) (Kd.R_far (p := ⟨g2, 3, none⟩) (Kd.R_far (p := ⟨g2, 2, none⟩) (Kd.R_far (p := ⟨g2, 1, none⟩) (Kd.R_far (p := ⟨g2, 0, none⟩) (Kd.R_types kq81 BKg2.out kq2) (fun _ h => h.2) _) (fun _ h => h.2) _) (fun _ h => h.2) _) (fun _ h => h.2) _) (fun _ h => h.2) _) (fun _ _ => trivial), Kd.R_mono (Kd.R_far (p := ⟨g2, 4, none⟩) (Kd.R_far (p := ⟨g2, 3, none⟩) (Kd.R_far (p := ⟨g2, 2, none⟩) (Kd.R_far (p := ⟨g2, 1, none⟩) (Kd.R_far (p := ⟨g2, 0, none⟩) (Kd.R_types kq82 BKg2.out kq2) (fun _ h => h.2) _) (fun _ h => h.2) _) (fun _ h => h.2) _) (fun _ h => h.2) _) (fun _ h => h.2) _) (fun _ _ => trivial), (below_set (below_set (below_set (below_set (below_set kq22 GEg2.out) GEg2.out) GEg2.out) GEg2.out) GEg2.out)⟩
                · have hz0 : (coeffE (atomE op ks es) te != 0) = true := bne_iff_ne.mpr hz
                  have hR : atomR op md ns cs ks es te = (0, [], [], 0, 0, coeffE (atomE op ks es) te) := if_neg hz
                  clear hz
                  go_upto_region 24 with fail
                  refine start_ (n := 5) (S := fun w' => w'.cell? ⟨g7, 3, none⟩ = some (.int .i64 (coeffE (atomE op ks es) te))) (ds := []) #[false,false,false,false,false] kq0 rfl rfl (bk_ BKg7 3) (fun hHeld => ?_)
                  replace BKg2 : Aside0 (w63.drew.heap[g2]? = some (.cells #[.int .i64 0, .slice none 0 0, .slice none 0 0, .int .i64 0, .int .i64 0] 58 (0, 0))) := ⟨BKg2.out⟩
                  replace BKg7 : Aside0 (w63.drew.heap[g7]? = some (.cells #[.slice As ns.length zn, v7_, .int .i64 ks, .int .i64 (coeffE (atomE op ks es) te)] 107 (0, 0))) := ⟨BKg7.out⟩
                  replace HB : Aside0 (Below w.heap.size w w63.drew) := ⟨below_drew1 HB.out⟩
                  generalize w63.drew = w64 at BKg2 BKg7 HB hHeld ⊢
                  refine pu_ 0 100 ?_
                  refine pu_ 1 101 ?_
                  refine ta_ 2 102 hHeld ?_
                  obtain ⟨_, _, _, _, _, _, _, _, _, _⟩ := cz5_ BKg2.out
                  refine one_ (i := 3) (N := none) #[true,true,true,true,false] rfl rfl kq0 kq2 (fun K hK => ?_)
                  refine skip_ (w1 := ?_) (by rfl) rfl ?_ ?_
                  rotate_left
                  · go_simp
                    rfl
                  refine hK.out _ _ ((blk_cell (blk_far (blk_far (blk_far (blk_far (blk_far BKg7.out NBg7g2.out _) NBg7g2.out _) NBg7g2.out _) NBg7g2.out _) NBg7g2.out _) 3).trans rfl) (fun hHeld => ?_)
                  clear hK K
                  refine pu_ 4 3 ?_
                  refine done_ kq0 ?_
                  try go_wp2
                  refine bodyPost_ret (results_ct rfl _ _ g2 58 #[.int .i64 0, .slice none 0 0, .slice none 0 0, .int .i64 0, .int .i64 0] (0, 0) _ rfl (blk_put (blk_put (blk_put (blk_put (blk_put (kq24 BKg2) 0 _ rfl) 1 _ rfl) 2 _ rfl) 3 _ rfl) 4 _ rfl) Try.underlying58 rfl kq0) rfl ?_
                  rw [hR]
                  exact ⟨_, _, rfl, Kd.R_nil _ _ _ _ _, Kd.R_nil _ _ _ _ _, (below_set (below_set (below_set (below_set (below_set kq22 GEg2.out) GEg2.out) GEg2.out) GEg2.out) GEg2.out)⟩
end Go.Proofs.Ytjknpmibdkoklaa.Q
