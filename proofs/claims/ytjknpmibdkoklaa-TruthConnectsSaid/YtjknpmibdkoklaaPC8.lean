/- Functions of the given program as Lean functions, each with its contract, and what they answer; words for it. No condition but those of each. -/
import Derived.Test.YtjknpmibdkoklaaPCS
import Derived.Test.YtjknpmibdkoklaaPCR
import Derived.Test.YtjknpmibdkoklaaPC2
import Derived.Test.YtjknpmibdkoklaaPC7
import Derived.LoopTactic
import Derived.Shelf.Abstract
import Derived.Deep.CutBlock
import Derived.Test.YtjknpmibdkoklaaPC3
set_option linter.unusedVariables false
set_option linter.unusedSimpArgs false
set_option maxRecDepth 100000
namespace Go.Proofs.Ytjknpmibdkoklaa.U
open Go.RowKit Go.Proofs.YtjknpmibdkoklaaW.PrintWords Go.Proofs.YtjknpmibdkoklaaW.PrintLast Go.Proofs.YtjknpmibdkoklaaW.PrintMore
open Aside0 (mk)
def plusT (k : Nat) (a : Bool) (l : List Int) (b : Bool) (m : List Int) : Option (Bool × List Int) := if a = b then (truth_added.f k l m).bind fun r => truth_made.f a r else (truth_taken.f k l m).bind fun r => truth_made.f a r
def truth_whole_plus.f (k : Nat) (a0 : Bool) (l0 : List Int) (a1 : Bool) (l1 : List Int) : Option (Bool × List Int) := (truth_size.f k l0 l1).bind fun t => if t < 0 then plusT k a1 l1 a0 l0 else plusT k a0 l0 a1 l1
theorem plusT_mono (k : Nat) (a : Bool) (l : List Int) (b : Bool) (m : List Int) : LeO (plusT k a l b m) (plusT (k + 1) a l b m) := by
  unfold plusT
  exact LeO.ite (LeO.bind (truth_added.mono _ _ _) (fun _ => LeO.refl _)) (LeO.bind (truth_taken.mono _ _ _) (fun _ => LeO.refl _))
theorem truth_whole_plus.mono : ∀ a0 l0 a1 l1 k, LeO (truth_whole_plus.f k a0 l0 a1 l1) (truth_whole_plus.f (k + 1) a0 l0 a1 l1) := by
  intro a0 l0 a1 l1 k
  unfold truth_whole_plus.f
  exact LeO.bind (truth_size.mono _ _ _) (fun _ => LeO.ite (plusT_mono _ _ _ _ _) (plusT_mono _ _ _ _ _))
theorem put2_ {w : World} {g : Nat} {t : TypeId} {a b a' b' : Value} (h : w.heap[g]? = some (.cells #[a, b] t (0, 0))) : ((w.setCell ⟨g, 0, none⟩ a').setCell ⟨g, 1, none⟩ b').heap[g]? = some (.cells #[a', b'] t (0, 0)) := blk_put (cs := #[a', b]) (blk_put (cs := #[a, b]) h 0 a' rfl) 1 b' rfl
theorem far2_ {w : World} {g g' : Nat} {o : Obj} {a b : Value} (h : w.heap[g']? = some o) (hn : g' ≠ g) : ((w.setCell ⟨g, 0, none⟩ a).setCell ⟨g, 1, none⟩ b).heap[g']? = some o :=
  (Below.heap_setCell _ ⟨g, 1, none⟩ b g' hn).trans ((Below.heap_setCell _ ⟨g, 0, none⟩ a g' hn).trans h)
theorem bk2_ {w : World} {g : Nat} {t : TypeId} {cs : Array Value} {v : Value} (h : w.heap[g]? = some (.cells cs t (0, 0))) (i : Nat) (hv : cs[i]? = some v := by rfl) : w.cell? ⟨g, i, none⟩ = some v := (blk_cell h i).trans hv
theorem c2_ {w : World} {g : Nat} {t : TypeId} {a b : Value} (h : w.heap[g]? = some (.cells #[a, b] t (0, 0))) : w.cell? ⟨g, 0, none⟩ = some a ∧ w.cell? ⟨g, 1, none⟩ = some b ∧ w.frozen? ⟨g, 0, none⟩ = false ∧ w.frozen? ⟨g, 1, none⟩ = false := ⟨(blk_cell h 0).trans rfl, (blk_cell h 1).trans rfl, blk_frozen h 0, blk_frozen h 1⟩
set_option maxHeartbeats 16000000 in
theorem truth_whole_plus.calls (k : Nat) (a0_0 : Bool) (A0_1 : Option Addr) (c0_1 : Nat) (l0_1 : List Int) (a1_0 : Bool) (A1_1 : Option Addr) (c1_1 : Nat) (l1_1 : List Int) (r1 : Bool) (r2 : List Int) (w : World) (hr0_1 : Kd.C (Kd.int .u32) w A0_1 l0_1.length l0_1) (hc0_1 : l0_1.length ≤ c0_1) (hr1_1 : Kd.C (Kd.int .u32) w A1_1 l1_1.length l1_1) (hc1_1 : l1_1.length ≤ c1_1) (h : truth_whole_plus.f k a0_0 l0_1 a1_0 l1_1 = some (r1, r2)) :
    Calls Try.prog 178 #[.agg #[.bool a0_0, .slice A0_1 l0_1.length c0_1], .agg #[.bool a1_0, .slice A1_1 l1_1.length c1_1]] w fun e w' => ∃ v1_ : Value, e = .returned (.agg #[.bool r1, v1_]) ∧ Kd.V (Kd.int .u32) 185 w' w.heap.size (fun k_ => (w.heap.size ≤ k_)) v1_ r2 ∧ Below w.heap.size w w' := by
  have hu := Try.underlying172
  obtain ⟨t, ht, h2⟩ := Option.bind_eq_some_iff.mp h
  have HT := mk ht
  have H2 := mk h2
  have HR0 := mk hr0_1
  have HC0 := mk hc0_1
  have HR1 := mk hr1_1
  have HC1 := mk hc1_1
  have HB := mk (Below.refl w.heap.size w)
  clear hr0_1 hc0_1 hr1_1 hc1_1 h ht h2
  go_enter Try.func178, Try.ntmps178
  go_upto_region 1 with (first | ((with_reducible refine gate_dst (N := 2) rfl ?_); refine box_event ?hg (N := 2) ?hd (cs := #[.bool a0_0, .slice A0_1 l0_1.length c0_1]) (t := 172) ?hr ?_; (case hd => rfl); (case hg => rfl); (case hr => exact kq6); intro g2 hg w8 hbox hb; have BK2 := mk (hbox); have GW2 := (gs_ hg kq4); have GE2 := (gs_ hg kq4); replace HB := mk (below_step kq4 hb); clear hb hbox hg) | ((with_reducible refine gate_dst (N := 3) rfl ?_); refine box_event ?hg (N := 3) ?hd (cs := #[.bool a1_0, .slice A1_1 l1_1.length c1_1]) (t := 172) ?hr ?_; (case hd => rfl); (case hg => rfl); (case hr => exact kq6); intro g3 hg w9 hbox hb; have BK3 := mk (hbox); have GW3 := (gs_ hg (kq9 GE2)); have GE3 := (gs_ hg (kq9 GE2)); have NB2_3 := (nl_ hg BK2); have NB3_2 := (ng_ hg BK2); replace BK2 := (bb_ BK2 hb); replace HB := mk (below_step (kq9 GE2) hb); clear hb hbox hg) | ((with_reducible refine gate_dst (N := 4) rfl ?_); refine box_event ?hg (N := 4) ?hd (cs := #[.bool false, .slice none 0 0]) (t := 172) ?hr ?_; (case hd => rfl); (case hg => rfl); (case hr => exact kq6); intro g4 hg w10 hbox hb; have BK4 := mk (hbox); have GW4 := (gs_ hg (kq32 GE2 GE3)); have GE4 := (gs_ hg (kq32 GE2 GE3)); have NB2_4 := (nl_ hg BK2); have NB4_2 := (ng_ hg BK2); have NB3_4 := (nl_ hg BK3); have NB4_3 := (ng_ hg BK3); replace BK2 := (bb_ BK2 hb); replace BK3 := (bb_ BK3 hb); replace HB := mk (below_step (kq32 GE2 GE3) hb); clear hb hbox hg))
  (try simp only [Act.put, List.setIfInBounds_toArray, List.set_cons_zero, List.set_cons_succ])
  go_cut [5, 6] (fun v5 v6 wc => ∃ g5 g6 : Nat, v5 = .pointer (some ⟨g5, 0, none⟩) ∧ v6 = .pointer (some ⟨g6, 0, none⟩) ∧ Aside0 (wc.heap[g4]? = some (.cells #[.bool false, .slice none 0 0] 172 (0, 0))) ∧ Aside0 (wc.heap[g5]? = some (.cells #[.bool a0_0, .slice A0_1 l0_1.length c0_1] 172 (0, 0))) ∧ Aside0 (wc.heap[g6]? = some (.cells #[.bool a1_0, .slice A1_1 l1_1.length c1_1] 172 (0, 0))) ∧ Aside0 (w.heap.size ≤ g5) ∧ Aside0 (w.heap.size ≤ g6) ∧ Aside0 (g4 ≠ g5) ∧ Aside0 (g4 ≠ g6) ∧ Aside0 (g5 ≠ g6) ∧ Aside0 (Below w.heap.size w wc))
  case first =>
    have n0_ := mk (blk_drew BK2.out)
    have n1_ := mk (blk_drew BK3.out)
    have n2_ := mk (blk_drew BK4.out)
    have n3_ := mk (below_drew1 HB.out)
    clear BK2
    clear BK3
    clear BK4
    clear HB
    have BK2 := n0_
    have BK3 := n1_
    have BK4 := n2_
    have HB := n3_
    clear n0_ n1_ n2_ n3_
    refine start_ (n := 6) (S := fun w' => w'.cell? ⟨g2, 0, none⟩ = some (.bool a0_0) ∧ w'.cell? ⟨g2, 1, none⟩ = some (.slice A0_1 l0_1.length c0_1) ∧ w'.cell? ⟨g3, 0, none⟩ = some (.bool a1_0) ∧ w'.cell? ⟨g3, 1, none⟩ = some (.slice A1_1 l1_1.length c1_1)) (ds := []) #[false, false, false, false, false, false] kq0 rfl rfl ⟨bk_ BK2 0, bk_ BK2 1, bk_ BK3 0, bk_ BK3 1⟩ (fun hHeld => ?_)
    generalize w10.drew = w11 at BK2 BK3 BK4 HB hHeld ⊢
    refine take_ (i := 0) (N := some 7) (v := ?_) (a' := ?_) #[true, false, false, false, false, false] rfl rfl kq0 (fun _ _ _ h => h) (Or.inl ⟨by rfl, ?_⟩) hHeld ?_ ?_
    rotate_left
    · rintro w' ⟨s0, s1, s2, s3⟩
      go_simp
      with_reducible rfl
    rotate_left
    · simp only [Act.put, List.setIfInBounds_toArray, List.set_cons_zero, List.set_cons_succ, i64_w, i32_w]
      rfl
    refine take_ (i := 1) (N := some 8) (v := ?_) (a' := ?_) #[true, true, false, false, false, false] rfl rfl kq0 (fun _ _ _ h => h) (Or.inl ⟨by rfl, ?_⟩) hHeld ?_ ?_
    rotate_left
    · rintro w' ⟨s0, s1, s2, s3⟩
      go_simp
      with_reducible rfl
    rotate_left
    · simp only [Act.put, List.setIfInBounds_toArray, List.set_cons_zero, List.set_cons_succ, i64_w, i32_w]
      rfl
    refine join_ (σ := Nat × Nat) 2 #[true, true, true, true, false, false] (fun s_ => [(5, .pointer (some ⟨s_.1, 0, none⟩)), (6, .pointer (some ⟨s_.2, 0, none⟩))]) (fun s_ w' => (w'.cell? ⟨g2, 0, none⟩ = some (.bool a0_0) ∧ w'.cell? ⟨g2, 1, none⟩ = some (.slice A0_1 l0_1.length c0_1) ∧ w'.cell? ⟨g3, 0, none⟩ = some (.bool a1_0) ∧ w'.cell? ⟨g3, 1, none⟩ = some (.slice A1_1 l1_1.length c1_1)) ∧ (w'.heap[g2]? = some (.cells #[.bool a0_0, .slice A0_1 l0_1.length c0_1] 172 (0, 0))) ∧ (w'.heap[g3]? = some (.cells #[.bool a1_0, .slice A1_1 l1_1.length c1_1] 172 (0, 0))) ∧ (w'.heap[g4]? = some (.cells #[.bool false, .slice none 0 0] 172 (0, 0))) ∧ (w'.heap[s_.1]? = some (.cells #[.bool false, .slice none 0 0] 172 (0, 0))) ∧ (w'.heap[s_.2]? = some (.cells #[.bool false, .slice none 0 0] 172 (0, 0))) ∧ (w.heap.size ≤ s_.1) ∧ (w.heap.size ≤ s_.1) ∧ (g2 ≠ s_.1) ∧ (s_.1 ≠ g2) ∧ (g3 ≠ s_.1) ∧ (s_.1 ≠ g3) ∧ (g4 ≠ s_.1) ∧ (s_.1 ≠ g4) ∧ (s_.2 ≠ s_.1) ∧ (s_.1 ≠ s_.2) ∧ (w.heap.size ≤ s_.2) ∧ (w.heap.size ≤ s_.2) ∧ (g2 ≠ s_.2) ∧ (s_.2 ≠ g2) ∧ (g3 ≠ s_.2) ∧ (s_.2 ≠ g3) ∧ (g4 ≠ s_.2) ∧ (s_.2 ≠ g4) ∧ (Below w.heap.size w w')) ?_ ?_
    rotate_left
    · intro hCont
      refine two_ (i := 2) (j := 3) (Ni := some 5) (Nj := some 6) #[true, true, true, false, false, false] #[true, true, false, true, false, false] rfl rfl rfl rfl kq0 kq2 kq2 (fun K hK => ?_) (fun K hK => ?_)
      · skip
        refine box_step ?hg (N := 5) ?hd (cs := #[.bool false, .slice none 0 0]) (t := 172) ?hr ?_; (case hd => rfl); (case hg => rfl); (case hr => exact kq6)
        intro g5 hg w12 hbox hb
        have n0_ := (bb_ BK2 hb)
        have n1_ := (bb_ BK3 hb)
        have n2_ := (bb_ BK4 hb)
        have n3_ := mk (below_step (kq33 GE2 GE3 GE4) hb)
        have n4_ := mk (hbox)
        have n5_ := (gs_ hg (kq33 GE2 GE3 GE4))
        have n6_ := (gs_ hg (kq33 GE2 GE3 GE4))
        have n7_ := (nl_ hg BK2)
        have n8_ := (ng_ hg BK2)
        have n9_ := (nl_ hg BK3)
        have n10_ := (ng_ hg BK3)
        have n11_ := (nl_ hg BK4)
        have n12_ := (ng_ hg BK4)
        clear BK2
        clear BK3
        clear BK4
        clear HB
        have BK2 := n0_
        have BK3 := n1_
        have BK4 := n2_
        have HB := n3_
        have BK5 := n4_
        have GW5 := n5_
        have GE5 := n6_
        have NB2_5 := n7_
        have NB5_2 := n8_
        have NB3_5 := n9_
        have NB5_3 := n10_
        have NB4_5 := n11_
        have NB5_4 := n12_
        clear n0_ n1_ n2_ n3_ n4_ n5_ n6_ n7_ n8_ n9_ n10_ n11_ n12_
        clear hb hbox hg
        refine hK.out _ _ ⟨bk_ BK2 0, bk_ BK2 1, bk_ BK3 0, bk_ BK3 1⟩ (fun hHeld => ?_)
        clear hK K
        refine norm_ (a' := ?_) ?_ ?_
        rotate_left
        · show Act.put _ (some 5) _ = _
          simp only [Act.put, List.setIfInBounds_toArray, List.set_cons_zero, List.set_cons_succ, i64_w, i32_w]
          rfl
        refine one_ (i := 3) (N := some 6) #[true, true, true, true, false, false] rfl rfl kq0 kq2 (fun K hK => ?_)
        refine box_step ?hg (N := 6) ?hd (cs := #[.bool false, .slice none 0 0]) (t := 172) ?hr ?_; (case hd => rfl); (case hg => rfl); (case hr => exact kq6)
        intro g6 hg w13 hbox hb
        have n0_ := (bb_ BK2 hb)
        have n1_ := (bb_ BK3 hb)
        have n2_ := (bb_ BK4 hb)
        have n3_ := (bb_ BK5 hb)
        have n4_ := mk (below_step (kq34 GE2 GE3 GE4 GE5) hb)
        have n5_ := mk (hbox)
        have n6_ := (gs_ hg (kq34 GE2 GE3 GE4 GE5))
        have n7_ := (gs_ hg (kq34 GE2 GE3 GE4 GE5))
        have n8_ := (nl_ hg BK2)
        have n9_ := (ng_ hg BK2)
        have n10_ := (nl_ hg BK3)
        have n11_ := (ng_ hg BK3)
        have n12_ := (nl_ hg BK4)
        have n13_ := (ng_ hg BK4)
        have n14_ := (nl_ hg BK5)
        have n15_ := (ng_ hg BK5)
        clear BK2
        clear BK3
        clear BK4
        clear BK5
        clear HB
        have BK2 := n0_
        have BK3 := n1_
        have BK4 := n2_
        have BK5 := n3_
        have HB := n4_
        have BK6 := n5_
        have GW6 := n6_
        have GE6 := n7_
        have NB2_6 := n8_
        have NB6_2 := n9_
        have NB3_6 := n10_
        have NB6_3 := n11_
        have NB4_6 := n12_
        have NB6_4 := n13_
        have NB5_6 := n14_
        have NB6_5 := n15_
        clear n0_ n1_ n2_ n3_ n4_ n5_ n6_ n7_ n8_ n9_ n10_ n11_ n12_ n13_ n14_ n15_
        clear hb hbox hg
        refine hK.out _ _ ⟨bk_ BK2 0, bk_ BK2 1, bk_ BK3 0, bk_ BK3 1⟩ (fun hHeld => ?_)
        clear hK K
        refine norm_ (a' := ?_) ?_ ?_
        rotate_left
        · show Act.put _ (some 6) _ = _
          simp only [Act.put, List.setIfInBounds_toArray, List.set_cons_zero, List.set_cons_succ, i64_w, i32_w]
          rfl
        exact norm_ (by simp only [putAll, Act.put, List.setIfInBounds_toArray, List.set_cons_zero, List.set_cons_succ]) (hCont (g5, g6) _ ⟨hHeld, (kq7 BK2), (kq7 BK3), (kq7 BK4), (kq7 BK5), (kq7 BK6), GW5.out, GE5.out, NB2_5.out, NB5_2.out, NB3_5.out, NB5_3.out, NB4_5.out, NB5_4.out, NB6_5.out, NB5_6.out, GW6.out, GE6.out, NB2_6.out, NB6_2.out, NB3_6.out, NB6_3.out, NB4_6.out, NB6_4.out, (kq35 GE2 GE3 GE4 GE5 GE6)⟩)
      · skip
        refine box_step ?hg (N := 6) ?hd (cs := #[.bool false, .slice none 0 0]) (t := 172) ?hr ?_; (case hd => rfl); (case hg => rfl); (case hr => exact kq6)
        intro g6 hg w12 hbox hb
        have n0_ := (bb_ BK2 hb)
        have n1_ := (bb_ BK3 hb)
        have n2_ := (bb_ BK4 hb)
        have n3_ := mk (below_step (kq33 GE2 GE3 GE4) hb)
        have n4_ := mk (hbox)
        have n5_ := (gs_ hg (kq33 GE2 GE3 GE4))
        have n6_ := (gs_ hg (kq33 GE2 GE3 GE4))
        have n7_ := (nl_ hg BK2)
        have n8_ := (ng_ hg BK2)
        have n9_ := (nl_ hg BK3)
        have n10_ := (ng_ hg BK3)
        have n11_ := (nl_ hg BK4)
        have n12_ := (ng_ hg BK4)
        clear BK2
        clear BK3
        clear BK4
        clear HB
        have BK2 := n0_
        have BK3 := n1_
        have BK4 := n2_
        have HB := n3_
        have BK6 := n4_
        have GW6 := n5_
        have GE6 := n6_
        have NB2_6 := n7_
        have NB6_2 := n8_
        have NB3_6 := n9_
        have NB6_3 := n10_
        have NB4_6 := n11_
        have NB6_4 := n12_
        clear n0_ n1_ n2_ n3_ n4_ n5_ n6_ n7_ n8_ n9_ n10_ n11_ n12_
        clear hb hbox hg
        refine hK.out _ _ ⟨bk_ BK2 0, bk_ BK2 1, bk_ BK3 0, bk_ BK3 1⟩ (fun hHeld => ?_)
        clear hK K
        refine norm_ (a' := ?_) ?_ ?_
        rotate_left
        · show Act.put _ (some 6) _ = _
          simp only [Act.put, List.setIfInBounds_toArray, List.set_cons_zero, List.set_cons_succ, i64_w, i32_w]
          rfl
        refine one_ (i := 2) (N := some 5) #[true, true, true, true, false, false] rfl rfl kq0 kq2 (fun K hK => ?_)
        refine box_step ?hg (N := 5) ?hd (cs := #[.bool false, .slice none 0 0]) (t := 172) ?hr ?_; (case hd => rfl); (case hg => rfl); (case hr => exact kq6)
        intro g5 hg w13 hbox hb
        have n0_ := (bb_ BK2 hb)
        have n1_ := (bb_ BK3 hb)
        have n2_ := (bb_ BK4 hb)
        have n3_ := (bb_ BK6 hb)
        have n4_ := mk (below_step (kq34 GE2 GE3 GE4 GE6) hb)
        have n5_ := mk (hbox)
        have n6_ := (gs_ hg (kq34 GE2 GE3 GE4 GE6))
        have n7_ := (gs_ hg (kq34 GE2 GE3 GE4 GE6))
        have n8_ := (nl_ hg BK2)
        have n9_ := (ng_ hg BK2)
        have n10_ := (nl_ hg BK3)
        have n11_ := (ng_ hg BK3)
        have n12_ := (nl_ hg BK4)
        have n13_ := (ng_ hg BK4)
        have n14_ := (nl_ hg BK6)
        have n15_ := (ng_ hg BK6)
        clear BK2
        clear BK3
        clear BK4
        clear BK6
        clear HB
        have BK2 := n0_
        have BK3 := n1_
        have BK4 := n2_
        have BK6 := n3_
        have HB := n4_
        have BK5 := n5_
        have GW5 := n6_
        have GE5 := n7_
        have NB2_5 := n8_
        have NB5_2 := n9_
        have NB3_5 := n10_
        have NB5_3 := n11_
        have NB4_5 := n12_
        have NB5_4 := n13_
        have NB6_5 := n14_
        have NB5_6 := n15_
        clear n0_ n1_ n2_ n3_ n4_ n5_ n6_ n7_ n8_ n9_ n10_ n11_ n12_ n13_ n14_ n15_
        clear hb hbox hg
        refine hK.out _ _ ⟨bk_ BK2 0, bk_ BK2 1, bk_ BK3 0, bk_ BK3 1⟩ (fun hHeld => ?_)
        clear hK K
        refine norm_ (a' := ?_) ?_ ?_
        rotate_left
        · show Act.put _ (some 5) _ = _
          simp only [Act.put, List.setIfInBounds_toArray, List.set_cons_zero, List.set_cons_succ, i64_w, i32_w]
          rfl
        exact norm_ (by simp only [putAll, Act.put, List.setIfInBounds_toArray, List.set_cons_zero, List.set_cons_succ]) (hCont (g5, g6) _ ⟨hHeld, (kq7 BK2), (kq7 BK3), (kq7 BK4), (kq7 BK5), (kq7 BK6), GW5.out, GE5.out, NB2_5.out, NB5_2.out, NB3_5.out, NB5_3.out, NB4_5.out, NB5_4.out, NB6_5.out, NB5_6.out, GW6.out, GE6.out, NB2_6.out, NB6_2.out, NB3_6.out, NB6_3.out, NB4_6.out, NB6_4.out, (kq35 GE2 GE3 GE4 GE6 GE5)⟩)
    rintro ⟨g5, g6⟩ w14 ⟨hS_, h0_, h1_, h2_, h3_, h4_, h5_, h6_, h7_, h8_, h9_, h10_, h11_, h12_, h13_, h14_, h15_, h16_, h17_, h18_, h19_, h20_, h21_, h22_, h23_⟩
    have n0_ : Aside0 (w14.heap[g2]? = some (.cells #[.bool a0_0, .slice A0_1 l0_1.length c0_1] 172 (0, 0))) := ⟨h0_⟩
    have n1_ : Aside0 (w14.heap[g3]? = some (.cells #[.bool a1_0, .slice A1_1 l1_1.length c1_1] 172 (0, 0))) := ⟨h1_⟩
    have n2_ : Aside0 (w14.heap[g4]? = some (.cells #[.bool false, .slice none 0 0] 172 (0, 0))) := ⟨h2_⟩
    have n3_ : Aside0 (w14.heap[g5]? = some (.cells #[.bool false, .slice none 0 0] 172 (0, 0))) := ⟨h3_⟩
    have n4_ : Aside0 (w14.heap[g6]? = some (.cells #[.bool false, .slice none 0 0] 172 (0, 0))) := ⟨h4_⟩
    have n5_ : Aside0 (w.heap.size ≤ g5) := ⟨h5_⟩
    have n6_ : Aside0 (w.heap.size ≤ g5) := ⟨h6_⟩
    have n7_ : Aside0 (g2 ≠ g5) := ⟨h7_⟩
    have n8_ : Aside0 (g5 ≠ g2) := ⟨h8_⟩
    have n9_ : Aside0 (g3 ≠ g5) := ⟨h9_⟩
    have n10_ : Aside0 (g5 ≠ g3) := ⟨h10_⟩
    have n11_ : Aside0 (g4 ≠ g5) := ⟨h11_⟩
    have n12_ : Aside0 (g5 ≠ g4) := ⟨h12_⟩
    have n13_ : Aside0 (g6 ≠ g5) := ⟨h13_⟩
    have n14_ : Aside0 (g5 ≠ g6) := ⟨h14_⟩
    have n15_ : Aside0 (w.heap.size ≤ g6) := ⟨h15_⟩
    have n16_ : Aside0 (w.heap.size ≤ g6) := ⟨h16_⟩
    have n17_ : Aside0 (g2 ≠ g6) := ⟨h17_⟩
    have n18_ : Aside0 (g6 ≠ g2) := ⟨h18_⟩
    have n19_ : Aside0 (g3 ≠ g6) := ⟨h19_⟩
    have n20_ : Aside0 (g6 ≠ g3) := ⟨h20_⟩
    have n21_ : Aside0 (g4 ≠ g6) := ⟨h21_⟩
    have n22_ : Aside0 (g6 ≠ g4) := ⟨h22_⟩
    have n23_ : Aside0 (Below w.heap.size w w14) := ⟨h23_⟩
    clear BK2
    clear BK3
    clear BK4
    clear HB
    clear h0_ h1_ h2_ h3_ h4_ h5_ h6_ h7_ h8_ h9_ h10_ h11_ h12_ h13_ h14_ h15_ h16_ h17_ h18_ h19_ h20_ h21_ h22_ h23_
    have BK2 := n0_
    have BK3 := n1_
    have BK4 := n2_
    have BK5 := n3_
    have BK6 := n4_
    have GW5 := n5_
    have GE5 := n6_
    have NB2_5 := n7_
    have NB5_2 := n8_
    have NB3_5 := n9_
    have NB5_3 := n10_
    have NB4_5 := n11_
    have NB5_4 := n12_
    have NB6_5 := n13_
    have NB5_6 := n14_
    have GW6 := n15_
    have GE6 := n16_
    have NB2_6 := n17_
    have NB6_2 := n18_
    have NB3_6 := n19_
    have NB6_3 := n20_
    have NB4_6 := n21_
    have NB6_4 := n22_
    have HB := n23_
    clear n0_ n1_ n2_ n3_ n4_ n5_ n6_ n7_ n8_ n9_ n10_ n11_ n12_ n13_ n14_ n15_ n16_ n17_ n18_ n19_ n20_ n21_ n22_ n23_
    have hHeld : w14.cell? ⟨g2, 0, none⟩ = some (.bool a0_0) ∧ w14.cell? ⟨g2, 1, none⟩ = some (.slice A0_1 l0_1.length c0_1) ∧ w14.cell? ⟨g3, 0, none⟩ = some (.bool a1_0) ∧ w14.cell? ⟨g3, 1, none⟩ = some (.slice A1_1 l1_1.length c1_1) := hS_
    refine norm_ (a' := ?_) ?_ ?_
    rotate_left
    · simp only [putAll, Act.put, List.setIfInBounds_toArray, List.set_cons_zero, List.set_cons_succ]
      rfl
    refine one_ (i := 4) (N := none) #[true, true, true, true, true, false] rfl rfl kq0 kq2 (fun K hK => ?_)
    have hs15 : w14.cell? ⟨g5, 0, none⟩ = some (.bool false) := bk_ BK5 0
    have hfs15 := blk_frozen BK5.out 0
    have hns15_0 := NB2_5.out
    have hns15_1 := NB3_5.out
    have hns15_2 := NB4_5.out
    have hns15_4 := NB6_5.out
    have hms15_0 := NB5_2.out
    have hms15_1 := NB5_3.out
    have hms15_2 := NB5_4.out
    have hms15_4 := NB5_6.out
    have hs16 : w14.cell? ⟨g5, 1, none⟩ = some (.slice none 0 0) := bk_ BK5 1
    have hfs16 := blk_frozen BK5.out 1
    have hns16_0 := NB2_5.out
    have hns16_1 := NB3_5.out
    have hns16_2 := NB4_5.out
    have hns16_4 := NB6_5.out
    have hms16_0 := NB5_2.out
    have hms16_1 := NB5_3.out
    have hms16_2 := NB5_4.out
    have hms16_4 := NB5_6.out
    refine skip_ (w1 := ?_) (by rfl) rfl ?_ ?_
    rotate_left
    · go_simp
      rfl
    refine hK.out _ _ ⟨((cell_far (p := ⟨g5, _, none⟩) NB2_5.out _).trans (((cell_far (p := ⟨g5, _, none⟩) NB2_5.out _).trans (hHeld.1)))), ((cell_far (p := ⟨g5, _, none⟩) NB2_5.out _).trans (((cell_far (p := ⟨g5, _, none⟩) NB2_5.out _).trans (hHeld.2.1)))), ((cell_far (p := ⟨g5, _, none⟩) NB3_5.out _).trans (((cell_far (p := ⟨g5, _, none⟩) NB3_5.out _).trans (hHeld.2.2.1)))), ((cell_far (p := ⟨g5, _, none⟩) NB3_5.out _).trans (((cell_far (p := ⟨g5, _, none⟩) NB3_5.out _).trans (hHeld.2.2.2))))⟩ (fun hHeld => ?_)
    clear hK K
    refine one_ (i := 5) (N := none) #[true, true, true, true, true, true] rfl rfl kq0 kq2 (fun K hK => ?_)
    have hs17 : w14.cell? ⟨g6, 0, none⟩ = some (.bool false) := bk_ BK6 0
    have hfs17 := blk_frozen BK6.out 0
    have hns17_0 := NB2_6.out
    have hns17_1 := NB3_6.out
    have hns17_2 := NB4_6.out
    have hns17_3 := NB5_6.out
    have hms17_0 := NB6_2.out
    have hms17_1 := NB6_3.out
    have hms17_2 := NB6_4.out
    have hms17_3 := NB6_5.out
    have hs18 : w14.cell? ⟨g6, 1, none⟩ = some (.slice none 0 0) := bk_ BK6 1
    have hfs18 := blk_frozen BK6.out 1
    have hns18_0 := NB2_6.out
    have hns18_1 := NB3_6.out
    have hns18_2 := NB4_6.out
    have hns18_3 := NB5_6.out
    have hms18_0 := NB6_2.out
    have hms18_1 := NB6_3.out
    have hms18_2 := NB6_4.out
    have hms18_3 := NB6_5.out
    refine skip_ (w1 := ?_) (by rfl) rfl ?_ ?_
    rotate_left
    · go_simp
      rfl
    refine hK.out _ _ ⟨((cell_far (p := ⟨g6, _, none⟩) NB2_6.out _).trans (((cell_far (p := ⟨g6, _, none⟩) NB2_6.out _).trans (hHeld.1)))), ((cell_far (p := ⟨g6, _, none⟩) NB2_6.out _).trans (((cell_far (p := ⟨g6, _, none⟩) NB2_6.out _).trans (hHeld.2.1)))), ((cell_far (p := ⟨g6, _, none⟩) NB3_6.out _).trans (((cell_far (p := ⟨g6, _, none⟩) NB3_6.out _).trans (hHeld.2.2.1)))), ((cell_far (p := ⟨g6, _, none⟩) NB3_6.out _).trans (((cell_far (p := ⟨g6, _, none⟩) NB3_6.out _).trans (hHeld.2.2.2))))⟩ (fun hHeld => ?_)
    clear hK K
    refine done_ kq0 ?_
    try go_wp2
    go_meet
    case rel => exact ⟨g5, g6, rfl, rfl, ⟨far2_ (far2_ BK4.out NB4_5.out) NB4_6.out⟩, ⟨far2_ (put2_ BK5.out) NB5_6.out⟩, ⟨put2_ (far2_ BK6.out NB6_5.out)⟩, GE5, GE6, NB4_5, NB4_6, NB5_6, ⟨(kq32 GE5 GE6)⟩⟩
  case rest =>
    obtain ⟨g5, g6, rfl, rfl, BK4, BK5, BK6, GE5, GE6, NB4_5, NB4_6, NB5_6, HB⟩ := hcut
    obtain ⟨_, _, _, _⟩ := c2_ BK5.out
    obtain ⟨_, _, _, _⟩ := c2_ BK6.out
    go_upto_if 14 with (first | (go_at_call 193; refine (truth_size.calls k A0_1 c0_1 l0_1 A1_1 c1_1 l1_1 t _ (Kd.C_below HR0.out HB.out) HC0.out (Kd.C_below HR1.out HB.out) HC1.out HT.out).mono ?_; rintro e w20 ⟨rfl, ⟨mm, hw20⟩⟩; have hb20 : Below wc.heap.size wc w20 := (by rw [hw20]; exact pw_below_drewN (Below.refl _ _) mm); replace BK4 := mk (blk_below BK4.out hb20); replace BK5 := mk (blk_below BK5.out hb20); replace BK6 := mk (blk_below BK6.out hb20); replace HB := mk (below_step HB.out hb20); clear hb20 hw20))
    go_cut [] (fun wc => ∃ (a b : Bool) (l m : List Int) (A B : Option Addr) (c d : Nat), Aside0 (wc.heap[g4]? = some (.cells #[.bool false, .slice none 0 0] 172 (0, 0))) ∧ Aside0 (wc.heap[g5]? = some (.cells #[.bool a, .slice A l.length c] 172 (0, 0))) ∧ Aside0 (wc.heap[g6]? = some (.cells #[.bool b, .slice B m.length d] 172 (0, 0))) ∧ Aside0 (plusT k a l b m = some (r1, r2)) ∧ Aside0 (Kd.C (Kd.int .u32) w A l.length l) ∧ Aside0 (l.length ≤ c) ∧ Aside0 (Kd.C (Kd.int .u32) w B m.length m) ∧ Aside0 (m.length ≤ d) ∧ Aside0 (Below w.heap.size w wc))
    case first =>
      have NB6_5 := mk (Ne.symm NB5_6.out)
      have hn1 := NB5_6.out
      have hn2 := NB6_5.out
      have h2 := H2.out
      obtain ⟨_, _, _, _⟩ := c2_ BK5.out
      obtain ⟨_, _, _, _⟩ := c2_ BK6.out
      by_cases ct : t < 0
      · rw [if_pos ct] at h2
        have HP := mk h2
        have c0 : decide (t < 0) = true := decide_eq_true ct
        clear h2 ct
        rw [c0]
        go_wp2
        go_meet
        case rel => exact ⟨a1_0, a0_0, l1_1, l0_1, A1_1, A0_1, c1_1, c0_1, ⟨far2_ (far2_ BK4.out NB4_5.out) NB4_6.out⟩, ⟨far2_ (put2_ BK5.out) NB5_6.out⟩, ⟨put2_ (far2_ BK6.out NB6_5.out)⟩, HP, HR1, HC1, HR0, HC0, ⟨by repeat (first | (with_reducible first | exact HB.out | apply below_alloc | apply pw_below_drewN | apply below_drew1 | refine below_set ?_ GE5.out | refine below_set ?_ GE6.out | refine below_set ?_ GE4) | exact HB.out)⟩⟩
      · rw [if_neg ct] at h2
        have HP := mk h2
        have c0 : decide (t < 0) = false := decide_eq_false ct
        clear h2 ct
        rw [c0]
        go_wp2
        go_meet
        case rel => exact ⟨a0_0, a1_0, l0_1, l1_1, A0_1, A1_1, c0_1, c1_1, BK4, BK5, BK6, HP, HR0, HC0, HR1, HC1, HB⟩
    case rest =>
      obtain ⟨a, b, l, m, A, B, c, d, BK4, BK5, BK6, HP, HRl, HCl, HRm, HCm, HB⟩ := hcut
      obtain ⟨_, _, _, _⟩ := c2_ BK4.out
      obtain ⟨_, _, _, _⟩ := c2_ BK5.out
      obtain ⟨_, _, _, _⟩ := c2_ BK6.out
      have hp := HP.out
      unfold plusT at hp
      by_cases ce : a = b
      · rw [if_pos ce] at hp
        subst ce
        obtain ⟨s, hs, hm⟩ := Option.bind_eq_some_iff.mp hp
        have HS := mk hs
        have HMd := mk hm
        have c1 : (a == a) = true := by simp
        clear hp hs hm HP
        go_wp2
        refine start_ (n := 9) (S := fun w' => w'.cell? ⟨g5, 0, none⟩ = some (.bool a) ∧ w'.cell? ⟨g5, 1, none⟩ = some (.slice A l.length c) ∧ w'.cell? ⟨g6, 1, none⟩ = some (.slice B m.length d)) (ds := [8]) #[false,false,false,false,false,false,false,false,false] kq0 rfl rfl ⟨bk2_ BK5.out 0, bk2_ BK5.out 1, bk2_ BK6.out 1⟩ (fun hHeld => ?_)
        replace BK4 : Aside0 (wc.drew.heap[g4]? = some (.cells #[.bool false, .slice none 0 0] 172 (0, 0))) := ⟨BK4.out⟩
        replace BK5 : Aside0 (wc.drew.heap[g5]? = some (.cells #[.bool a, .slice A l.length c] 172 (0, 0))) := ⟨BK5.out⟩
        replace BK6 : Aside0 (wc.drew.heap[g6]? = some (.cells #[.bool a, .slice B m.length d] 172 (0, 0))) := ⟨BK6.out⟩
        replace HB : Aside0 (Below w.heap.size w wc.drew) := ⟨below_drew1 HB.out⟩
        generalize wc.drew = w21 at BK4 BK5 BK6 HB hHeld ⊢
        refine pu_ 0 22 ?_
        refine ta_ 1 23 hHeld ?_
        refine pu_ 2 24 ?_
        refine ta_ 3 25 hHeld ?_
        refine pu_ 4 26 ?_
        refine ta_ 5 27 hHeld ?_
        refine on_ 6 28 (fun K hK => ?_)
        refine goes_ Try.func194 kq0 rfl #[.slice A l.length c, .slice B m.length d] (by rfl) rfl rfl kq36 ?_
        refine (truth_added.calls k A c l B d m s _ (Kd.C_below HRl.out HB.out) HCl.out (Kd.C_below HRm.out HB.out) HCm.out HS.out).mono ?_
        rintro e w30 ⟨v30, rfl, hr30, hb30⟩
        obtain ⟨As, cs, e30⟩ := Kd.R_slice hr30
        subst e30
        refine ⟨_, rfl, ?_⟩
        have HV1 := mk (show Kd.V (Kd.int .u32) 185 w30 w.heap.size (fun k => w.heap.size ≤ k ∧ k ≠ g4) (.slice As s.length cs) s from Kd.R_V (Kd.R_mono (ok' := fun k => w.heap.size ≤ k ∧ k ≠ g4) (Kd.R_bound hr30) (fun k hk => ⟨Nat.le_trans (below_size HB.out) hk.2.1, Ne.symm (Nat.ne_of_lt (Nat.lt_of_lt_of_le (blk_lt BK4.out) hk.2.1))⟩)))
        replace BK4 := mk (blk_below BK4.out hb30)
        replace BK5 := mk (blk_below BK5.out hb30)
        replace BK6 := mk (blk_below BK6.out hb30)
        replace HB := mk (below_step HB.out hb30)
        clear hr30 hb30
        refine hK.out _ _ ⟨bk2_ BK5.out 0, bk2_ BK5.out 1, bk2_ BK6.out 1⟩ (fun hHeld => ?_)
        clear hK K
        refine norm_ (a' := ?_) ?_ ?_
        rotate_left
        · show Act.put _ (some 28) _ = _
          simp only [Act.put, List.setIfInBounds_toArray, List.set_cons_zero, List.set_cons_succ]
          rfl
        refine on_ 7 29 (fun K hK => ?_)
        refine goes_ Try.func189 kq0 rfl #[.bool a, .slice As s.length cs] (by rfl) rfl rfl kq36 ?_
        refine (truth_made.calls a (fun k => w.heap.size ≤ k ∧ k ≠ g4) As cs s r1 r2 _ HV1.out HMd.out).mono ?_
        rintro e w31 ⟨v31, rfl, hv31, hb31⟩
        obtain ⟨A3, c3, e31, _⟩ := id hv31
        subst e31
        refine ⟨_, rfl, ?_⟩
        have HV2 := mk (show Kd.V (Kd.int .u32) 185 w31 w.heap.size (fun k => w.heap.size ≤ k ∧ k ≠ g4) (.slice A3 r2.length c3) r2 from Kd.V_mono hv31 (fun k hk => hk.elim id (fun hf => ⟨Nat.le_trans (below_size HB.out) hf, Ne.symm (Nat.ne_of_lt (Nat.lt_of_lt_of_le (blk_lt BK4.out) hf))⟩)))
        replace BK4 := mk (blk_below BK4.out hb31)
        replace BK5 := mk (blk_below BK5.out hb31)
        replace BK6 := mk (blk_below BK6.out hb31)
        replace HB := mk (below_step HB.out hb31)
        clear hv31 hb31 HV1
        refine hK.out _ _ ⟨bk2_ BK5.out 0, bk2_ BK5.out 1, bk2_ BK6.out 1⟩ (fun hHeld => ?_)
        clear hK K
        refine norm_ (a' := ?_) ?_ ?_
        rotate_left
        · show Act.put _ (some 29) _ = _
          simp only [Act.put, List.setIfInBounds_toArray, List.set_cons_zero, List.set_cons_succ]
          rfl
        obtain ⟨_, _, _, _⟩ := c2_ BK4.out
        refine last_ (i := 8) (N := none) #[true,true,true,true,true,true,true,true,true] rfl rfl kq0 kq2 (fun K hK => ?_)
        refine skip_ (w1 := ?_) (by rfl) rfl ?_ ?_
        rotate_left
        · go_simp
          rfl
        refine hK.out _ _ ?_
        clear hK K
        refine done_ kq0 ?_
        go_wp2
        refine bodyPost_ret (results_cell_row rfl _ _ g4 172 #[.bool r1, .slice A3 r2.length c3] (0, 0) _ rfl (put2_ BK4.out) Try.underlying172 rfl kq0) rfl ?_
        exact ⟨_, rfl, Kd.V_mono (Kd.V_far (p := ⟨g4, 1, none⟩) (Kd.V_far (p := ⟨g4, 0, none⟩) HV2.out (fun _ hk => hk.2) _) (fun _ hk => hk.2) _) (fun _ hk => hk.1), below_set (below_set HB.out GE4.out) GE4.out⟩
      · rw [if_neg ce] at hp
        obtain ⟨s, hs, hm⟩ := Option.bind_eq_some_iff.mp hp
        have HS := mk hs
        have HMd := mk hm
        have c1 : (a == b) = false := by simpa using ce
        clear hp hs hm HP ce
        go_wp2
        refine start_ (n := 9) (S := fun w' => w'.cell? ⟨g5, 0, none⟩ = some (.bool a) ∧ w'.cell? ⟨g5, 1, none⟩ = some (.slice A l.length c) ∧ w'.cell? ⟨g6, 1, none⟩ = some (.slice B m.length d)) (ds := [8]) #[false,false,false,false,false,false,false,false,false] kq0 rfl rfl ⟨bk2_ BK5.out 0, bk2_ BK5.out 1, bk2_ BK6.out 1⟩ (fun hHeld => ?_)
        replace BK4 : Aside0 (wc.drew.heap[g4]? = some (.cells #[.bool false, .slice none 0 0] 172 (0, 0))) := ⟨BK4.out⟩
        replace BK5 : Aside0 (wc.drew.heap[g5]? = some (.cells #[.bool a, .slice A l.length c] 172 (0, 0))) := ⟨BK5.out⟩
        replace BK6 : Aside0 (wc.drew.heap[g6]? = some (.cells #[.bool b, .slice B m.length d] 172 (0, 0))) := ⟨BK6.out⟩
        replace HB : Aside0 (Below w.heap.size w wc.drew) := ⟨below_drew1 HB.out⟩
        generalize wc.drew = w21 at BK4 BK5 BK6 HB hHeld ⊢
        refine pu_ 0 30 ?_
        refine ta_ 1 31 hHeld ?_
        refine pu_ 2 32 ?_
        refine ta_ 3 33 hHeld ?_
        refine pu_ 4 34 ?_
        refine ta_ 5 35 hHeld ?_
        refine on_ 6 36 (fun K hK => ?_)
        refine goes_ Try.func195 kq0 rfl #[.slice A l.length c, .slice B m.length d] (by rfl) rfl rfl kq36 ?_
        refine (truth_taken.calls k A c l B d m s _ (Kd.C_below HRl.out HB.out) HCl.out (Kd.C_below HRm.out HB.out) HCm.out HS.out).mono ?_
        rintro e w30 ⟨v30, rfl, hr30, hb30⟩
        obtain ⟨As, cs, e30⟩ := Kd.R_slice hr30
        subst e30
        refine ⟨_, rfl, ?_⟩
        have HV1 := mk (show Kd.V (Kd.int .u32) 185 w30 w.heap.size (fun k => w.heap.size ≤ k ∧ k ≠ g4) (.slice As s.length cs) s from Kd.R_V (Kd.R_mono (ok' := fun k => w.heap.size ≤ k ∧ k ≠ g4) (Kd.R_bound hr30) (fun k hk => ⟨Nat.le_trans (below_size HB.out) hk.2.1, Ne.symm (Nat.ne_of_lt (Nat.lt_of_lt_of_le (blk_lt BK4.out) hk.2.1))⟩)))
        replace BK4 := mk (blk_below BK4.out hb30)
        replace BK5 := mk (blk_below BK5.out hb30)
        replace BK6 := mk (blk_below BK6.out hb30)
        replace HB := mk (below_step HB.out hb30)
        clear hr30 hb30
        refine hK.out _ _ ⟨bk2_ BK5.out 0, bk2_ BK5.out 1, bk2_ BK6.out 1⟩ (fun hHeld => ?_)
        clear hK K
        refine norm_ (a' := ?_) ?_ ?_
        rotate_left
        · show Act.put _ (some 36) _ = _
          simp only [Act.put, List.setIfInBounds_toArray, List.set_cons_zero, List.set_cons_succ]
          rfl
        refine on_ 7 37 (fun K hK => ?_)
        refine goes_ Try.func189 kq0 rfl #[.bool a, .slice As s.length cs] (by rfl) rfl rfl kq36 ?_
        refine (truth_made.calls a (fun k => w.heap.size ≤ k ∧ k ≠ g4) As cs s r1 r2 _ HV1.out HMd.out).mono ?_
        rintro e w31 ⟨v31, rfl, hv31, hb31⟩
        obtain ⟨A3, c3, e31, _⟩ := id hv31
        subst e31
        refine ⟨_, rfl, ?_⟩
        have HV2 := mk (show Kd.V (Kd.int .u32) 185 w31 w.heap.size (fun k => w.heap.size ≤ k ∧ k ≠ g4) (.slice A3 r2.length c3) r2 from Kd.V_mono hv31 (fun k hk => hk.elim id (fun hf => ⟨Nat.le_trans (below_size HB.out) hf, Ne.symm (Nat.ne_of_lt (Nat.lt_of_lt_of_le (blk_lt BK4.out) hf))⟩)))
        replace BK4 := mk (blk_below BK4.out hb31)
        replace BK5 := mk (blk_below BK5.out hb31)
        replace BK6 := mk (blk_below BK6.out hb31)
        replace HB := mk (below_step HB.out hb31)
        clear hv31 hb31 HV1
        refine hK.out _ _ ⟨bk2_ BK5.out 0, bk2_ BK5.out 1, bk2_ BK6.out 1⟩ (fun hHeld => ?_)
        clear hK K
        refine norm_ (a' := ?_) ?_ ?_
        rotate_left
        · show Act.put _ (some 37) _ = _
          simp only [Act.put, List.setIfInBounds_toArray, List.set_cons_zero, List.set_cons_succ]
          rfl
        obtain ⟨_, _, _, _⟩ := c2_ BK4.out
        refine last_ (i := 8) (N := none) #[true,true,true,true,true,true,true,true,true] rfl rfl kq0 kq2 (fun K hK => ?_)
        refine skip_ (w1 := ?_) (by rfl) rfl ?_ ?_
        rotate_left
        · go_simp
          rfl
        refine hK.out _ _ ?_
        clear hK K
        refine done_ kq0 ?_
        go_wp2
        refine bodyPost_ret (results_cell_row rfl _ _ g4 172 #[.bool r1, .slice A3 r2.length c3] (0, 0) _ rfl (put2_ BK4.out) Try.underlying172 rfl kq0) rfl ?_
        exact ⟨_, rfl, Kd.V_mono (Kd.V_far (p := ⟨g4, 1, none⟩) (Kd.V_far (p := ⟨g4, 0, none⟩) HV2.out (fun _ hk => hk.2) _) (fun _ hk => hk.2) _) (fun _ hk => hk.1), below_set (below_set HB.out GE4.out) GE4.out⟩
end Go.Proofs.Ytjknpmibdkoklaa.U
set_option maxRecDepth 100000
namespace Go.Proofs.Ytjknpmibdkoklaa.U
open Go.RowKit Go.Proofs.YtjknpmibdkoklaaW.PrintWords Go.Proofs.YtjknpmibdkoklaaW.PrintLast Go.Proofs.YtjknpmibdkoklaaW.PrintMore
theorem wrap_t {x : Int} (h : -100000000000 ≤ x ∧ x ≤ 100000000000) : wrap64 x = x := wrap_in32 ⟨kq1, kq1⟩
theorem taken_loop {a b : List Int} (ha : D32 a) (hb : D32 b) (hM : a.length < 1000000000) :
    ∀ (n i : Nat) (x : List Int) (c : Int), i + n = a.length → x.length = a.length → D32 x → x.drop i = a.drop i → 0 ≤ c → c ≤ 1 → val32 (x.take i) = val32 (a.take i) - val32 (b.take i) + 4294967296 ^ i * c →
    ∀ k, n < k → ∃ r c', truth_taken.l0 k b x c (a.length : Int) (i : Int) = some r ∧ r.length = a.length ∧ D32 r ∧ 0 ≤ c' ∧ c' ≤ 1 ∧ val32 r = val32 a - val32 (b.take a.length) + 4294967296 ^ a.length * c' := by
  intro n
  induction n with
  | zero =>
    intro i x c hi hx hd hdr h0 h1 hv k hk
    obtain ⟨k, rfl⟩ : ∃ q, k = q + 1 := ⟨k - 1, kq1⟩
    rw [truth_taken.l0, if_neg kq1]
    have e : i = a.length := by omega
    subst e
    refine ⟨_, c, rfl, hx, hd, h0, h1, ?_⟩
    rw [List.take_of_length_le kq1, List.take_length] at hv
    exact hv
  | succ n ih =>
    intro i x c hi hx hd hdr h0 h1 hv k hk
    obtain ⟨k, rfl⟩ : ∃ q, k = q + 1 := ⟨k - 1, kq1⟩
    have hx1 : i < x.length := by omega
    have ha1 : i < a.length := by omega
    have hxi : rd x (i : Int) = rd a (i : Int) := by
      rw [rd_of_lt32 hx1, rd_of_lt32 ha1]
      have h2 : x.drop i = a.drop i := hdr
      rw [List.drop_eq_getElem_cons hx1, List.drop_eq_getElem_cons ha1] at h2
      exact (List.cons.inj h2).1
    have hra := rd_D32 ha i
    have hrb := rd_D32 hb i
    have hs := Aside0.mk (show wrap64 ((i : Int) + 1) = ((i + 1 : Nat) : Int) from wrap_succ32 kq1)

    have step : ∀ s c2 : Int, 0 ≤ c2 → c2 ≤ 1 → 0 ≤ s → s < 4294967296 → s = rd a (i : Int) - c - rd b (i : Int) + 4294967296 * c2 → ∃ r c', truth_taken.l0 k b (x.set i s) c2 (a.length : Int) ((i + 1 : Nat) : Int) = some r ∧ r.length = a.length ∧ D32 r ∧ 0 ≤ c' ∧ c' ≤ 1 ∧ val32 r = val32 a - val32 (b.take a.length) + 4294967296 ^ a.length * c' := by
      intro s c2 hc0 hc1 hs0 hs1 es
      refine ih (i + 1) _ _ kq1 (by simp; omega) (D32_set hd i hs0 hs1) ?_ hc0 hc1 ?_ k kq1
      · rw [List.drop_set_of_lt kq1]
        have h2 := congrArg (List.drop 1) hdr
        rw [List.drop_drop, List.drop_drop] at h2
        exact h2
      · rw [val_take32 _ i (by simp; omega), val_take_rd32 a i, val_take_rd32 b i, List.take_set_of_le (Nat.le_refl i)]
        have e1 : rd (x.set i s) (i : Int) = s := by
          rw [rd_of_lt32 (l := x.set i s) (i := i) (by simp; omega)]
          simp
        rw [e1, Int.pow_succ, es]
        have e3 : (4294967296 : Int) ^ i * (rd a (i : Int) - c - rd b (i : Int) + 4294967296 * c2) = 4294967296 ^ i * rd a (i : Int) - 4294967296 ^ i * c - 4294967296 ^ i * rd b (i : Int) + 4294967296 ^ i * 4294967296 * c2 := by
          rw [Int.mul_add, Int.mul_sub, Int.mul_sub, Int.mul_assoc]
        omega
    rw [truth_taken.l0, if_pos kq1, if_pos kq1, if_pos kq1]
    rw [hxi, wrap_t (x := rd a (i : Int)) kq1, wrap_t (x := rd a (i : Int) - c) kq1, hs.out, Int.toNat_natCast]
    by_cases hib : i < b.length
    · rw [if_pos kq1, wrap_t (x := rd b (i : Int)) kq1, wrap_t (x := rd a (i : Int) - c - rd b (i : Int)) kq1]
      by_cases hl : rd a (i : Int) - c - rd b (i : Int) < 0
      · rw [if_pos hl, wrap_t (x := rd a (i : Int) - c - rd b (i : Int) + 4294967296) kq1]
        exact step _ 1 kq1 kq1 kq1 kq1 kq1
      · rw [if_neg hl]
        exact step _ 0 kq1 kq1 kq1 kq1 kq1
    · rw [if_neg kq1]
      have hz := rd_ge32 (l := b) (i := i) kq1
      by_cases hl : rd a (i : Int) - c < 0
      · rw [if_pos hl, wrap_t (x := rd a (i : Int) - c + 4294967296) kq1]
        exact step _ 1 kq1 kq1 kq1 kq1 kq1
      · rw [if_neg hl]
        exact step _ 0 kq1 kq1 kq1 kq1 kq1
theorem taken_num {a b : List Int} (ha : D32 a) (hb : D32 b) (hlen : b.length ≤ a.length) (hM : a.length < 1000000000) (hle : val32 b ≤ val32 a) :
    ∀ k, a.length < k → ∃ r, truth_taken.f k a b = some r ∧ D32 r ∧ val32 r = val32 a - val32 b := by
  intro k hk
  obtain ⟨r, c', h, hl, hd, hc0, hc1, hv⟩ := taken_loop ha hb hM a.length 0 a 0 kq1 rfl ha rfl kq1 kq1 (by simp [val32]) k hk
  refine ⟨r, ?_, hd, ?_⟩
  · unfold truth_taken.f slices_Clone_uint32_uint32.f
    rw [if_pos kq1]
    exact h
  · rw [List.take_of_length_le hlen] at hv
    have h1 := val_lt32 hd
    rw [hl] at h1
    have hb0 := val_nonneg32 hb
    rcases (by omega : c' = 0 ∨ c' = 1) with rfl | rfl
    · omega
    · omega
theorem len_le {a b : List Int} (ha : D32 a) (hb : D32 b) (ht : ∀ d, b.getLast? = some d → d ≠ 0) (h : val32 b ≤ val32 a) : b.length ≤ a.length := by
  by_cases hl : b.length ≤ a.length
  · exact hl
  · have := shorter ha hb ht kq1; omega
theorem plusT_num {n1 n2 : Bool} {a b : List Int} {x y : Int} (h1 : NumOf n1 a x) (h2 : NumOf n2 b y) (la : a.length < 1000000000) (hle : val32 b ≤ val32 a) :
    ∀ k, a.length < k → ∃ n d, plusT k n1 a n2 b = some (n, d) ∧ NumOf n d (x + y) := by
  intro k hk
  have hlen := len_le h1.dig h2.dig h2.top hle
  unfold plusT
  by_cases he : n1 = n2
  · rw [if_pos he]
    obtain ⟨r, h, hd, hv⟩ := added_num h1.dig h2.dig hlen la k hk
    rw [h]
    obtain ⟨n, d, hf, hn⟩ := made_num hd n1
    refine ⟨n, d, hf, ?_⟩
    have e : (if n1 = true then - val32 r else val32 r) = x + y := by rw [h1.val, h2.val, hv, ← he]; cases n1 <;> simp <;> omega
    rw [e] at hn
    exact hn
  · rw [if_neg he]
    obtain ⟨r, h, hd, hv⟩ := taken_num h1.dig h2.dig hlen la hle k hk
    rw [h]
    obtain ⟨n, d, hf, hn⟩ := made_num hd n1
    refine ⟨n, d, hf, ?_⟩
    have e : (if n1 = true then - val32 r else val32 r) = x + y := by
      rw [h1.val, h2.val, hv]
      cases n1 <;> cases n2 <;> simp at he ⊢ <;> omega
    rw [e] at hn
    exact hn
theorem plus_num {n1 n2 : Bool} {a b : List Int} {x y : Int} (h1 : NumOf n1 a x) (h2 : NumOf n2 b y) (la : a.length < 1000000000) (lb : b.length < 1000000000) :
    ∀ k, a.length < k → b.length < k → ∃ n d, truth_whole_plus.f k n1 a n2 b = some (n, d) ∧ NumOf n d (x + y) := by
  intro k hka hkb
  obtain ⟨t, ht, hc⟩ := size_num h1 h2 kq1 kq1 k hka
  unfold truth_whole_plus.f
  rw [ht]
  by_cases h0 : t < 0
  · rw [if_pos h0] at hc
    obtain ⟨n, d, h, hn⟩ := plusT_num h2 h1 lb kq1 k hkb
    refine ⟨n, d, ?_, by rw [Int.add_comm]; exact hn⟩
    show (if t < 0 then plusT k n2 b n1 a else plusT k n1 a n2 b) = _
    rw [if_pos h0]
    exact h
  · rw [if_neg h0] at hc
    obtain ⟨n, d, h, hn⟩ := plusT_num h1 h2 la hc k hka
    refine ⟨n, d, ?_, hn⟩
    show (if t < 0 then plusT k n2 b n1 a else plusT k n1 a n2 b) = _
    rw [if_neg h0]
    exact h
end Go.Proofs.Ytjknpmibdkoklaa.U
namespace Go.Proofs.Ytjknpmibdkoklaa.U
open Go.RowKit Go.Proofs.YtjknpmibdkoklaaW.PrintWords Go.Proofs.YtjknpmibdkoklaaW.PrintLast Go.Proofs.YtjknpmibdkoklaaW.PrintMore
open Aside0 (mk)
open List (setIfInBounds_toArray set_cons_zero set_cons_succ)
attribute [local go_sem] max2_int min2_int max_two min_two max_three min_three max_four min_four
set_option linter.unusedVariables false
set_option linter.unusedSimpArgs false
attribute [local go_sem] fld99_2 fld103_2 fld172_1
mutual
def truth_whole_times.l0 : Nat → List Int → List Int → Int → Int → Bool → List Int → Bool → List Int → Option (Bool × List Int)
  | 0, _, _, _, _, _, _, _, _ => none
  | k + 1, x5, x21, x22, x23, x894000, x894001, x895000, x895001 => if x23 < x22 then (if 0 ≤ x23 then (if x23 < (x21.length : Int) then (truth_whole_times.l1 k x5 x23 (rd x21 x23) 0 x21 x22 x23 x895001 (x895001.length : Int) 0 x894000 x894001 x895000 x895001) else (none)) else (none)) else ((truth_made.f (x894000 != x895000) x5).bind fun bt899 => (some (bt899.1, bt899.2)))
def truth_whole_times.l1 : Nat → List Int → Int → Int → Int → List Int → Int → Int → List Int → Int → Int → Bool → List Int → Bool → List Int → Option (Bool × List Int)
  | 0, _, _, _, _, _, _, _, _, _, _, _, _, _, _ => none
  | k + 1, x5, x6, x7, x8, x21, x22, x23, x29, x30, x31, x894000, x894001, x895000, x895001 => if x31 < x30 then (if 0 ≤ x31 then (if x31 < (x29.length : Int) then (if 0 ≤ (wrap64 (x6 + x31)) then (if (wrap64 (x6 + x31)) < (x5.length : Int) then (truth_whole_times.l1 k (x5.set ((wrap64 (x6 + x31)) : Int).toNat ((IntKind.u64.wrap ((IntKind.u64.wrap ((IntKind.u64.wrap ((IntKind.u64.wrap (x7)) * (IntKind.u64.wrap (rd x29 x31)))) + (IntKind.u64.wrap (rd x5 (wrap64 (x6 + x31)))))) + x8)) % 4294967296)) x6 x7 ((IntKind.u64.wrap ((IntKind.u64.wrap ((IntKind.u64.wrap ((IntKind.u64.wrap (x7)) * (IntKind.u64.wrap (rd x29 x31)))) + (IntKind.u64.wrap (rd x5 (wrap64 (x6 + x31)))))) + x8)) / 4294967296) x21 x22 x23 x29 x30 (wrap64 (x31 + 1)) x894000 x894001 x895000 x895001) else (none)) else (none)) else (none)) else (none)) else (if 0 ≤ (wrap64 (x6 + (x895001.length : Int))) then (if (wrap64 (x6 + (x895001.length : Int))) < (x5.length : Int) then (truth_whole_times.l0 k (x5.set ((wrap64 (x6 + (x895001.length : Int))) : Int).toNat ((x8) % 4294967296)) x21 x22 (wrap64 (x23 + 1)) x894000 x894001 x895000 x895001) else (none)) else (none))
end
def truth_whole_times.f (k : Nat) (a0_0 : Bool) (l0_1 : List Int) (a1_0 : Bool) (l1_1 : List Int) : Option (Bool × List Int) := if 0 ≤ (wrap64 ((l0_1.length : Int) + (l1_1.length : Int))) then (if (wrap64 ((l0_1.length : Int) + (l1_1.length : Int)) : Int).toNat ≤ 70368744177664 then (truth_whole_times.l0 k (List.replicate (wrap64 ((l0_1.length : Int) + (l1_1.length : Int)) : Int).toNat 0) l0_1 (l0_1.length : Int) 0 a0_0 l0_1 a1_0 l1_1) else (none)) else (none)
theorem truth_whole_times.mono_l : ∀ k, (∀ y0 y1 y2 y3 y4 y5 y6 y7, LeO (truth_whole_times.l0 k y0 y1 y2 y3 y4 y5 y6 y7) (truth_whole_times.l0 (k + 1) y0 y1 y2 y3 y4 y5 y6 y7)) ∧ (∀ y0 y1 y2 y3 y4 y5 y6 y7 y8 y9 y10 y11 y12 y13, LeO (truth_whole_times.l1 k y0 y1 y2 y3 y4 y5 y6 y7 y8 y9 y10 y11 y12 y13) (truth_whole_times.l1 (k + 1) y0 y1 y2 y3 y4 y5 y6 y7 y8 y9 y10 y11 y12 y13))
  | 0 => ⟨fun _ _ _ _ _ _ _ _ r h => by simp [truth_whole_times.l0] at h, fun _ _ _ _ _ _ _ _ _ _ _ _ _ _ r h => by simp [truth_whole_times.l1] at h⟩
  | k + 1 => by
    obtain ⟨ih0, ih1⟩ := truth_whole_times.mono_l k
    refine ⟨?_, ?_⟩ <;> intros <;> (first | unfold truth_whole_times.l0 | unfold truth_whole_times.l1) <;> repeat' first | (with_reducible first | exact ih0 _ _ _ _ _ _ _ _ | exact ih1 _ _ _ _ _ _ _ _ _ _ _ _ _ _ | exact LeO.refl _ | exact LeO.none _ | refine LeO.ite ?_ ?_ | refine LeO.bind ?_ (fun _ => ?_)) | exact ih0 _ _ _ _ _ _ _ _ | exact ih1 _ _ _ _ _ _ _ _ _ _ _ _ _ _ | exact LeO.none _ | refine LeO.ite ?_ ?_ | refine LeO.bind ?_ (fun _ => ?_)
theorem truth_whole_times.mono : ∀ a0 a1 a2 a3 k, LeO (truth_whole_times.f k a0 a1 a2 a3) (truth_whole_times.f (k + 1) a0 a1 a2 a3) := by
  intro a0 a1 a2 a3 k
  obtain ⟨ih0, ih1⟩ := truth_whole_times.mono_l k
  unfold truth_whole_times.f
  repeat' first
      | (with_reducible exact ih0 _ _ _ _ _ _ _ _)
      | (with_reducible exact ih1 _ _ _ _ _ _ _ _ _ _ _ _ _ _)
      | (with_reducible exact LeO.refl _)
      | (with_reducible exact LeO.none _)
      | (with_reducible refine LeO.ite ?_ ?_)
      | (with_reducible refine LeO.bind ?_ (fun _ => ?_))
      | exact ih0 _ _ _ _ _ _ _ _
      | exact ih1 _ _ _ _ _ _ _ _ _ _ _ _ _ _
      | exact LeO.none _
      | refine LeO.ite ?_ ?_
      | refine LeO.bind ?_ (fun _ => ?_)
set_option maxHeartbeats 8000000 in
set_option maxRecDepth 100000 in
theorem truth_whole_times.calls (k : Nat) (a0_0 : Bool) (A0_1 : Option Addr) (c0_1 : Nat) (l0_1 : List Int) (a1_0 : Bool) (A1_1 : Option Addr) (c1_1 : Nat) (l1_1 : List Int) (r1 : Bool) (r2 : List Int) (w : World) (hr0_1 : Kd.C (Kd.int .u32) w A0_1 l0_1.length l0_1) (hc0_1 : l0_1.length ≤ c0_1) (hr1_1 : Kd.C (Kd.int .u32) w A1_1 l1_1.length l1_1) (hc1_1 : l1_1.length ≤ c1_1) (h : truth_whole_times.f k a0_0 l0_1 a1_0 l1_1 = some (r1, r2)) :
    Calls Try.prog 190 #[.agg #[.bool a0_0, .slice A0_1 l0_1.length c0_1], .agg #[.bool a1_0, .slice A1_1 l1_1.length c1_1]] w fun e w' => ∃ v1_ : Value, e = .returned (.agg #[.bool r1, v1_]) ∧ Kd.V (Kd.int .u32) 185 w' w.heap.size (fun k_ => (w.heap.size ≤ k_)) v1_ r2 ∧ Below w.heap.size w w' := by
  have hu172 := Try.underlying172
  have HR0_1 := mk hr0_1
  have HC0_1 := mk hc0_1
  clear hr0_1 hc0_1
  have HR1_1 := mk hr1_1
  have HC1_1 := mk hc1_1
  clear hr1_1 hc1_1
  have HB := mk (Below.refl w.heap.size w)
  have H : (if 0 ≤ (wrap64 ((l0_1.length : Int) + (l1_1.length : Int))) then (if (wrap64 ((l0_1.length : Int) + (l1_1.length : Int)) : Int).toNat ≤ 70368744177664 then (truth_whole_times.l0 k (List.replicate (wrap64 ((l0_1.length : Int) + (l1_1.length : Int)) : Int).toNat 0) l0_1 (l0_1.length : Int) 0 a0_0 l0_1 a1_0 l1_1) else (none)) else (none)) = some (r1, r2) := h
  clear h
  obtain ⟨ji3, hji3⟩ : ∃ j_ : Int, (wrap64 ((l0_1.length : Int) + (l1_1.length : Int))) = j_ := ⟨_, rfl⟩
  replace H : (if 0 ≤ (ji3) then (if (ji3 : Int).toNat ≤ 70368744177664 then (truth_whole_times.l0 k (List.replicate (ji3 : Int).toNat 0) l0_1 (l0_1.length : Int) 0 a0_0 l0_1 a1_0 l1_1) else (none)) else (none)) = some (r1, r2) := by first | (rw [hji3] at H; exact H) | (simp only [hji3] at H ⊢; exact H)
  have hji3w : (IntKind.i64.wrap ((l0_1.length : Int) + (l1_1.length : Int))) = ji3 := (i64_w _).trans hji3
  by_cases c4 : 0 ≤ (ji3)
  · rw [if_pos c4] at H
    have c4b0 := eq_true c4
    have c4b1 : decide (0 ≤ (ji3)) = true := decide_eq_true c4
    clear c4
    replace H := ic_ H; obtain ⟨c5, H⟩ | ⟨c5, H⟩ := H
    · (have c5b0 := eq_true c5); (have c5b1 : decide ((ji3 : Int).toNat ≤ 70368744177664) = true := decide_eq_true c5); clear c5; (obtain ⟨y896, hy896⟩ : ∃ y_ : List Int, y_ = (List.replicate (ji3 : Int).toNat 0) := ⟨_, rfl⟩); (replace H : (truth_whole_times.l0 k y896 l0_1 (l0_1.length : Int) 0 a0_0 l0_1 a1_0 l1_1) = some (r1, r2) := by first | (rw [hy896]; with_reducible exact H) | (have H2_ := (Option.bind_some _ _).symm.trans H; rw [hy896]; with_reducible exact H2_) | (have H2_ := (Option.bind_some _ _).symm.trans H; with_reducible exact H2_) | with_reducible exact H | (rw [hy896]; exact H) | exact H); (have Ny896 := mk hy896); clear hy896; (have H' := mk H); clear H; (go_enter Try.func190, Try.ntmps190); (go_wp2_with (first | ((with_reducible refine gate_dst (N := 2) rfl ?_); refine box_event ?hg (N := 2) ?hd (cs := #[.bool a0_0, .slice A0_1 l0_1.length c0_1]) (t := 172) ?hr ?_; (case hd => rfl); (case hg => rfl); (case hr => exact kq6); intro gb893 hg w6 hbox hb; have BK893 := mk (hbox); have GW893 := (gs_ hg kq15); have GE893 := GW893; replace HB := mk (below_step kq15 hb); clear hb hbox hg) | ((with_reducible refine gate_dst (N := 3) rfl ?_); refine box_event ?hg (N := 3) ?hd (cs := #[.bool a1_0, .slice A1_1 l1_1.length c1_1]) (t := 172) ?hr ?_; (case hd => rfl); (case hg => rfl); (case hr => exact kq6); intro gb894 hg w7 hbox hb; have BK894 := mk (hbox); have GW894 := (gs_ hg (kq16 GE893)); have GE894 := GW894; have NB893_894 := (nl_ hg BK893); have NB894_893 := (ng_ hg BK893); replace BK893 := (bb_ BK893 hb); replace HB := mk (below_step (kq16 GE893) hb); clear hb hbox hg) | ((with_reducible refine gate_dst (N := 4) rfl ?_); refine box_event ?hg (N := 4) ?hd (cs := #[.bool false, .slice none 0 0]) (t := 172) ?hr ?_; (case hd => rfl); (case hg => rfl); (case hr => exact kq6); intro gb895 hg w8 hbox hb; have BK895 := mk (hbox); have GW895 := (gs_ hg (kq29 GE893 GE894)); have GE895 := GW895; have NB893_895 := (nl_ hg BK893); have NB895_893 := (ng_ hg BK893); have NB894_895 := (nl_ hg BK894); have NB895_894 := (ng_ hg BK894); replace BK893 := (bb_ BK893 hb); replace BK894 := (bb_ BK894 hb); replace HB := mk (below_step (kq29 GE893 GE894) hb); clear hb hbox hg; have hnb9 := NB893_894.out; have hnc9 := NB894_893.out; have hnb10 := NB893_895.out; have hnc10 := NB895_893.out; obtain ⟨_, _, _, _⟩ := cz2_ BK893.out; have hnb12 := NB894_895.out; have hnc12 := NB895_894.out; obtain ⟨_, _, _, _⟩ := cz2_ BK894.out) | ((with_reducible refine gate_dst (N := 19) rfl ?_); refine Kd.R_make (Kd.int .u32) _ 185 rfl (N := 19) rfl 170 _ _ rfl ji3 rfl rfl Try.underlying170 (.int .u32 0) 4 info185 rfl kq2 kq1 0 (ok := fun _ => True) (okp := fun _ => True) rfl (fun _ hk => hk) trivial (of_decide_eq_true kq19) (Nat.le_trans (Nat.mul_le_mul_right _ (of_decide_eq_true kq19 : ji3.toNat ≤ 70368744177664)) kq1) (Below.refl _ _) (Nat.le_refl _) ?_; intro v897 w14 ho15 hb hg_ hnew_; clear hg_ hnew_; (first | rw [← Ny896.out] at ho15 | (simp only [Int.reduceToNat] at ho15; rw [← Ny896.out] at ho15)); have HO898 := mk (Kd.R_lower (Kd.R_newM (M := fun k_ => (w.heap.size ≤ k_)) ho15 (below_size (kq37 GE893 GE894 GE895)) (fun k_ h_ => h_)) (below_size (kq37 GE893 GE894 GE895))); replace BK893 := (bb_ BK893 hb); replace BK894 := (bb_ BK894 hb); replace BK895 := (bb_ BK895 hb); replace HB := mk (below_step (kq37 GE893 GE894 GE895) hb); clear hb ho15; obtain ⟨_, _, _, _⟩ := cz2_ BK893.out))); (go_loopg [23] k (fun kq v23 w' => ∃ (x5_1 : List Int) (x23_1 : Int), v23 = .int .i64 x23_1 ∧ Aside0 (truth_whole_times.l0 kq x5_1 l0_1 (l0_1.length : Int) x23_1 a0_0 l0_1 a1_0 l1_1 = some (r1, r2)) ∧ Aside0 (kq ≤ k) ∧ Aside0 (Kd.R (Kd.int .u32) 185 w' w.heap.size (fun k_ => (w.heap.size ≤ k_)) v897 x5_1) ∧ Aside0 (w'.heap[gb893]? = some (.cells #[.bool a0_0, (.slice A0_1 l0_1.length c0_1)] 172 (0, 0))) ∧ Aside0 (w'.heap[gb894]? = some (.cells #[.bool a1_0, (.slice A1_1 l1_1.length c1_1)] 172 (0, 0))) ∧ Aside0 (w'.heap[gb895]? = some (.cells #[.bool false, (.slice none 0 0)] 172 (0, 0))) ∧ Aside0 (Below w.heap.size w w')))
      case atStart => exact ⟨(y896), (0), kq10, H', ⟨Nat.le_refl _⟩, ⟨(kq38 HO898)⟩, ⟨(kq7 BK893)⟩, ⟨(kq7 BK894)⟩, ⟨(kq7 BK895)⟩, ⟨(kq37 GE893 GE894 GE895)⟩⟩
      case round =>
        clear H'; (obtain ⟨x5_1, x23_1, rfl, HA, HK1, HO_5, BK893, BK894, BK895, HB⟩ := hrel)
        cases gk with
        | zero => exact absurd HA.out (by simp [truth_whole_times.l0])
        | succ k1 =>
          (have H := HA.out); clear HA; (simp only [truth_whole_times.l0] at H); replace H := ic_ H; obtain ⟨c17, H⟩ | ⟨c17, H⟩ := H
          · (have c17b0 := decide_eq_true c17); clear c17; replace H := ic_ H; obtain ⟨c18, H⟩ | ⟨c18, H⟩ := H
            · (have c18b0 := decide_eq_true c18); clear c18; replace H := ic_ H; obtain ⟨c19, H⟩ | ⟨c19, H⟩ := H
              · (have c19b0 := decide_eq_true c19); clear c19; (have H' := mk H); clear H; (have p903 : 0 ≤ (x23_1 : Int) := of_decide_eq_true kq19); (have q903 : x23_1 < (l0_1.length : Int) := of_decide_eq_true kq19); (obtain ⟨ad903, e903, hx903_0⟩ := Kd.at_int HR0_1.out x23_1 p903 q903); cases e903; (replace hx903_0 := hc_ HB hx903_0); replace p903 := eq_true p903; replace q903 := eq_true q903; (have hnb20 := NB894_893.out); (have hnc20 := NB893_894.out); (have hnb21 := NB894_895.out); (have hnc21 := NB895_894.out); (obtain ⟨_, _, _, _⟩ := cz2_ BK894.out); go_wp2; (go_loopg [8, 31] k1 (fun kq v8 v31 w' => ∃ (x5_2 : List Int) (x8_2 : Int) (x31_2 : Int), v8 = .int .u64 x8_2 ∧ v31 = .int .i64 x31_2 ∧ Aside0 (truth_whole_times.l1 kq x5_2 x23_1 (rd l0_1 x23_1) x8_2 l0_1 (l0_1.length : Int) x23_1 l1_1 (l1_1.length : Int) x31_2 a0_0 l0_1 a1_0 l1_1 = some (r1, r2)) ∧ Aside0 (kq ≤ k1) ∧ Aside0 (Kd.R (Kd.int .u32) 185 w' w.heap.size (fun k_ => (w.heap.size ≤ k_)) v897 x5_2) ∧ Aside0 (w'.heap[gb893]? = some (.cells #[.bool a0_0, (.slice (some ad903) l0_1.length c0_1)] 172 (0, 0))) ∧ Aside0 (w'.heap[gb894]? = some (.cells #[.bool a1_0, (.slice A1_1 l1_1.length c1_1)] 172 (0, 0))) ∧ Aside0 (w'.heap[gb895]? = some (.cells #[.bool false, (.slice none 0 0)] 172 (0, 0))) ∧ Aside0 (Below w.heap.size w w')))
                case atStart => exact ⟨(x5_1), (0), (0), kq10, kq10, H', ⟨Nat.le_refl _⟩, ⟨(kq23 HO_5)⟩, ⟨(kq7 BK893)⟩, ⟨(kq7 BK894)⟩, ⟨(kq7 BK895)⟩, ⟨(kq37 GE893 GE894 GE895)⟩⟩
                case round =>
                  clear H'; (obtain ⟨x5_2, x8_2, x31_2, rfl, rfl, HA, HK2, HO_5, BK893, BK894, BK895, HB⟩ := hrel)
                  cases gk with
                  | zero => exact absurd HA.out (by simp [truth_whole_times.l1])
                  | succ k2 =>
                    (have H := HA.out); clear HA; (simp only [truth_whole_times.l1] at H); replace H := ic_ H; obtain ⟨c23, H⟩ | ⟨c23, H⟩ := H
                    · (have c23b0 := decide_eq_true c23); clear c23; replace H := ic_ H; obtain ⟨c24, H⟩ | ⟨c24, H⟩ := H
                      · (have c24b0 := decide_eq_true c24); clear c24; replace H := ic_ H; obtain ⟨c25, H⟩ | ⟨c25, H⟩ := H
                        · (have c25b0 := decide_eq_true c25); clear c25; (obtain ⟨ji26, hji26⟩ : ∃ j_ : Int, (wrap64 (x23_1 + x31_2)) = j_ := ⟨_, rfl⟩); (replace H : (if 0 ≤ (ji26) then (if (ji26) < (x5_2.length : Int) then (truth_whole_times.l1 k2 (x5_2.set ((ji26) : Int).toNat ((IntKind.u64.wrap ((IntKind.u64.wrap ((IntKind.u64.wrap ((IntKind.u64.wrap ((rd l0_1 x23_1))) * (IntKind.u64.wrap (rd l1_1 x31_2)))) + (IntKind.u64.wrap (rd x5_2 (ji26))))) + x8_2)) % 4294967296)) x23_1 (rd l0_1 x23_1) ((IntKind.u64.wrap ((IntKind.u64.wrap ((IntKind.u64.wrap ((IntKind.u64.wrap ((rd l0_1 x23_1))) * (IntKind.u64.wrap (rd l1_1 x31_2)))) + (IntKind.u64.wrap (rd x5_2 (ji26))))) + x8_2)) / 4294967296) l0_1 (l0_1.length : Int) x23_1 l1_1 (l1_1.length : Int) (wrap64 (x31_2 + 1)) a0_0 l0_1 a1_0 l1_1) else (none)) else (none)) = some (r1, r2) := by first | (rw [hji26] at H; exact H) | (simp only [hji26] at H ⊢; exact H)); (have hji26w : (IntKind.i64.wrap (x23_1 + x31_2)) = ji26 := (i64_w _).trans hji26); replace H := ic_ H; obtain ⟨c27, H⟩ | ⟨c27, H⟩ := H
                          · (have c27b0 := decide_eq_true c27); clear c27; replace H := ic_ H; obtain ⟨c28, H⟩ | ⟨c28, H⟩ := H
                            · (have c28b0 := decide_eq_true c28); clear c28; (obtain ⟨y906, hy906⟩ : ∃ y_ : List Int, y_ = (x5_2.set ((ji26) : Int).toNat ((IntKind.u64.wrap ((IntKind.u64.wrap ((IntKind.u64.wrap ((IntKind.u64.wrap ((rd l0_1 x23_1))) * (IntKind.u64.wrap (rd l1_1 x31_2)))) + (IntKind.u64.wrap (rd x5_2 (ji26))))) + x8_2)) % 4294967296)) := ⟨_, rfl⟩); (replace H : (truth_whole_times.l1 k2 y906 x23_1 (rd l0_1 x23_1) ((IntKind.u64.wrap ((IntKind.u64.wrap ((IntKind.u64.wrap ((IntKind.u64.wrap ((rd l0_1 x23_1))) * (IntKind.u64.wrap (rd l1_1 x31_2)))) + (IntKind.u64.wrap (rd x5_2 (ji26))))) + x8_2)) / 4294967296) l0_1 (l0_1.length : Int) x23_1 l1_1 (l1_1.length : Int) (wrap64 (x31_2 + 1)) a0_0 l0_1 a1_0 l1_1) = some (r1, r2) := by first | (rw [hy906]; with_reducible exact H) | (have H2_ := (Option.bind_some _ _).symm.trans H; rw [hy906]; with_reducible exact H2_) | (have H2_ := (Option.bind_some _ _).symm.trans H; with_reducible exact H2_) | with_reducible exact H | (rw [hy906]; exact H) | exact H); (have Ny906 := mk hy906); clear hy906; (have H' := mk H); clear H; (have p904 : 0 ≤ (x31_2 : Int) := of_decide_eq_true kq19); (have q904 : x31_2 < (l1_1.length : Int) := of_decide_eq_true kq19); (obtain ⟨ad904, e904, hx904_0⟩ := Kd.at_int HR1_1.out x31_2 p904 q904); cases e904; (replace hx904_0 := hc_ HB hx904_0); replace p904 := eq_true p904; replace q904 := eq_true q904; (obtain ⟨Ao30, co30, eo30⟩ := Kd.R_slice HO_5.out); subst eo30; (have p905 : 0 ≤ ((ji26) : Int) := of_decide_eq_true kq19); (have q905 : (ji26) < (x5_2.length : Int) := of_decide_eq_true kq19); (obtain ⟨ad905, e905, hx905_0⟩ := Kd.at_int (Kd.R_reads' HO_5.out).2.2 (ji26) p905 q905); cases e905; replace p905 := eq_true p905; replace q905 := eq_true q905; (have p29 : 0 ≤ ((ji26) : Int) := of_decide_eq_true kq19); (have q29 : ((ji26) : Int) < ((x5_2.length : Int) : Int) := of_decide_eq_true kq19); (obtain ⟨go29, co29, eo29, gb29, gl29, cl29, HG29⟩ := Kd.R_form HO_5.out kq1); ((first | cases eo29 | (injection eo29 with ea_ en_ ec_; (first | subst ea_ | (injection ea_ with ea_; subst ea_)); subst ec_; clear en_))); (have GB29 := mk gb29); (have GG29 := mk HG29); clear gb29 gl29 HG29; ((first | simp only [add_plain] at hx905_0 | skip)); (obtain ⟨hx29_0, hf29_0⟩ := Kd.R_celln 0 HO_5.out ((ji26) : Int) p29 q29); replace p29 := eq_true p29; replace q29 := eq_true q29; (have HP31 := Kd.R_putg HO_5.out ((ji26) : Int) ((IntKind.u64.wrap ((IntKind.u64.wrap ((IntKind.u64.wrap ((IntKind.u64.wrap ((rd l0_1 x23_1))) * (IntKind.u64.wrap (rd l1_1 x31_2)))) + (IntKind.u64.wrap (rd x5_2 (ji26))))) + x8_2)) % 4294967296)); (go_wp2_with (first | ((with_reducible refine gate_store (t := 185) (p := 59) rfl ?_); refine store_event (t := 185) (p := 59) (v := ?vo_w32) (w1 := (wr.setCell ⟨go29, ((ji26) : Int).toNat, none⟩ (.int .u32 ((IntKind.u64.wrap ((IntKind.u64.wrap ((IntKind.u64.wrap ((IntKind.u64.wrap ((rd l0_1 x23_1))) * (IntKind.u64.wrap (rd l1_1 x31_2)))) + (IntKind.u64.wrap (rd x5_2 (ji26))))) + x8_2)) % 4294967296)))) ?hg ?ho ?hn ?hr ?_; (case ho => rfl); (case hg => rfl); (case hn => rfl); (case hr => exact kq6); intro w32 hw; have hg : wr.grownBy w32 (some go29) := (by rw [hw]; exact HP31.2); have hp_ : Kd.R (Kd.int .u32) 185 w32 w.heap.size (fun k_ => (w.heap.size ≤ k_)) (.slice (some ⟨go29, 0, none⟩) x5_2.length co30) y906 := (by rw [hw, Ny906.out]; exact HP31.1); clear HP31; replace BK893 := mk (blk_grown (g := gb893) (o := .cells #[.bool a0_0, .slice (some ad903) l0_1.length c0_1] 172 (0, 0)) (kq7 BK893) hg (Kd.R_ne HO_5.out BK893.out kq2)); replace BK894 := mk (blk_grown (g := gb894) (o := .cells #[.bool a1_0, .slice (some ad904) l1_1.length c1_1] 172 (0, 0)) (kq7 BK894) hg (Kd.R_ne HO_5.out BK894.out kq2)); replace BK895 := mk (blk_grown (g := gb895) (o := .cells #[.bool false, .slice none 0 0] 172 (0, 0)) (kq7 BK895) hg (Kd.R_ne HO_5.out BK895.out kq2)); replace HO_5 := mk (hp_); replace HB := mk ((by rw [hw]; exact below_set (HB.out) GB29.out : Below w.heap.size w w32)); clear hg hw hp_))); (go_roundg k2)
                              case measure => have := HK1.out; have := HK2.out; omega
                              case rel => exact ⟨(y906), ((IntKind.u64.wrap ((IntKind.u64.wrap ((IntKind.u64.wrap ((IntKind.u64.wrap ((rd l0_1 x23_1))) * (IntKind.u64.wrap (rd l1_1 x31_2)))) + (IntKind.u64.wrap (rd x5_2 (ji26))))) + x8_2)) / 4294967296), (wrap64 (x31_2 + 1)), (by first | rfl | (simp; done) | (simp only [← hji26] <;> (first | rfl | simp)) | (simp [*]; done)), kq10, H', ⟨kq39⟩, ⟨(kq23 HO_5)⟩, ⟨(kq7 BK893)⟩, ⟨(kq7 BK894)⟩, ⟨(kq7 BK895)⟩, ⟨(kq37 GE893 GE894 GE895)⟩⟩
                            · (exact absurd H (by simp))
                          · (exact absurd H (by simp))
                        · (exact absurd H (by simp))
                      · (exact absurd H (by simp))
                    · (have c23b0 := decide_eq_false c23); clear c23; (obtain ⟨ji33, hji33⟩ : ∃ j_ : Int, (wrap64 (x23_1 + (l1_1.length : Int))) = j_ := ⟨_, rfl⟩); (replace H : (if 0 ≤ (ji33) then (if (ji33) < (x5_2.length : Int) then (truth_whole_times.l0 k2 (x5_2.set ((ji33) : Int).toNat ((x8_2) % 4294967296)) l0_1 (l0_1.length : Int) (wrap64 (x23_1 + 1)) a0_0 l0_1 a1_0 l1_1) else (none)) else (none)) = some (r1, r2) := by first | (rw [hji33] at H; exact H) | (simp only [hji33] at H ⊢; exact H)); (have hji33w : (IntKind.i64.wrap (x23_1 + (l1_1.length : Int))) = ji33 := (i64_w _).trans hji33); replace H := ic_ H; obtain ⟨c34, H⟩ | ⟨c34, H⟩ := H
                      · (have c34b0 := decide_eq_true c34); clear c34; replace H := ic_ H; obtain ⟨c35, H⟩ | ⟨c35, H⟩ := H
                        · (have c35b0 := decide_eq_true c35); clear c35; (obtain ⟨y907, hy907⟩ : ∃ y_ : List Int, y_ = (x5_2.set ((ji33) : Int).toNat ((x8_2) % 4294967296)) := ⟨_, rfl⟩); (replace H : (truth_whole_times.l0 k2 y907 l0_1 (l0_1.length : Int) (wrap64 (x23_1 + 1)) a0_0 l0_1 a1_0 l1_1) = some (r1, r2) := by first | (rw [hy907]; with_reducible exact H) | (have H2_ := (Option.bind_some _ _).symm.trans H; rw [hy907]; with_reducible exact H2_) | (have H2_ := (Option.bind_some _ _).symm.trans H; with_reducible exact H2_) | with_reducible exact H | (rw [hy907]; exact H) | exact H); (have Ny907 := mk hy907); clear hy907; (have H' := mk H); clear H; (have hnb37 := NB894_893.out); (have hnc37 := NB893_894.out); (have hnb38 := NB894_895.out); (have hnc38 := NB895_894.out); (obtain ⟨_, _, _, _⟩ := cz2_ BK894.out); (have p36 : 0 ≤ ((ji33) : Int) := of_decide_eq_true kq19); (have q36 : ((ji33) : Int) < ((x5_2.length : Int) : Int) := of_decide_eq_true kq19); (obtain ⟨go36, co36, eo36, gb36, gl36, cl36, HG36⟩ := Kd.R_form HO_5.out kq1); ((first | cases eo36 | (injection eo36 with ea_ en_ ec_; (first | subst ea_ | (injection ea_ with ea_; subst ea_)); subst ec_; clear en_))); (have GB36 := mk gb36); (have GG36 := mk HG36); clear gb36 gl36 HG36; (obtain ⟨hx36_0, hf36_0⟩ := Kd.R_celln 0 HO_5.out ((ji33) : Int) p36 q36); replace p36 := eq_true p36; replace q36 := eq_true q36; (have HP40 := Kd.R_putg HO_5.out ((ji33) : Int) ((x8_2) % 4294967296)); (go_wp2_with (first | ((with_reducible refine gate_store (t := 185) (p := 69) rfl ?_); refine store_event (t := 185) (p := 69) (v := ?vo_w41) (w1 := (wr.setCell ⟨go36, ((ji33) : Int).toNat, none⟩ (.int .u32 ((x8_2) % 4294967296)))) ?hg ?ho ?hn ?hr ?_; (case ho => rfl); (case hg => rfl); (case hn => rfl); (case hr => exact kq6); intro w41 hw; have hg : wr.grownBy w41 (some go36) := (by rw [hw]; exact HP40.2); have hp_ : Kd.R (Kd.int .u32) 185 w41 w.heap.size (fun k_ => (w.heap.size ≤ k_)) (.slice (some ⟨go36, 0, none⟩) x5_2.length co36) y907 := (by rw [hw, Ny907.out]; exact HP40.1); clear HP40; replace BK893 := mk (blk_grown (g := gb893) (o := .cells #[.bool a0_0, .slice (some ad903) l0_1.length c0_1] 172 (0, 0)) (kq7 BK893) hg (Kd.R_ne HO_5.out BK893.out kq2)); replace BK894 := mk (blk_grown (g := gb894) (o := .cells #[.bool a1_0, .slice A1_1 l1_1.length c1_1] 172 (0, 0)) (kq7 BK894) hg (Kd.R_ne HO_5.out BK894.out kq2)); replace BK895 := mk (blk_grown (g := gb895) (o := .cells #[.bool false, .slice none 0 0] 172 (0, 0)) (kq7 BK895) hg (Kd.R_ne HO_5.out BK895.out kq2)); replace HO_5 := mk (hp_); replace HB := mk ((by rw [hw]; exact below_set (HB.out) GB36.out : Below w.heap.size w w41)); clear hg hw hp_))); (go_roundg k2)
                          case measure => have := HK1.out; have := HK2.out; omega
                          case rel => exact ⟨(y907), (wrap64 (x23_1 + 1)), kq10, H', ⟨kq39⟩, ⟨(kq23 HO_5)⟩, ⟨(kq7 BK893)⟩, ⟨(kq7 BK894)⟩, ⟨(kq7 BK895)⟩, ⟨(kq37 GE893 GE894 GE895)⟩⟩
                        · (exact absurd H (by simp))
                      · (exact absurd H (by simp))
              · (exact absurd H (by simp))
            · (exact absurd H (by simp))
          · (have c17b0 := decide_eq_false c17); clear c17; (replace H := Option.bind_eq_some_iff.mp H); (obtain ⟨⟨t899, t900⟩, A420, H⟩ := H); (replace H : (some (t899, t900)) = some (r1, r2) := H); (have A42 := mk A420); clear A420; (simp only [Option.some.injEq, Prod.mk.injEq] at H); (obtain ⟨rfl, rfl⟩ := H); (have hnb43 := NB893_894.out); (have hnc43 := NB894_893.out); (have hnb44 := NB893_895.out); (have hnc44 := NB895_893.out); (obtain ⟨_, _, _, _⟩ := cz2_ BK893.out); (have hnb46 := NB894_895.out); (have hnc46 := NB895_894.out); (obtain ⟨_, _, _, _⟩ := cz2_ BK894.out); (obtain ⟨Ao48, co48, eo48⟩ := Kd.R_slice HO_5.out); subst eo48; (go_wp2_with (first | ((with_reducible refine gate_callee (f := 189) rfl ?_); refine goesL_ (some 77) rfl rfl Try.func189 kq0 rfl #[.bool (a0_0 != a1_0), .slice Ao48 x5_1.length co48] rfl kq14 ?_; (with_reducible refine (truth_made.calls (a0_0 != a1_0) (fun k_ => some k_ = (.slice Ao48 x5_1.length co48 : Value).ownBlock) _ _ x5_1 t899 t900 _ ?side1 A42.out).mono ?_); (case side1 => exact Kd.R_V (Kd.R_tight rfl (Kd.R_types (Kd.R_types (Kd.R_types (HO_5.out) BK893.out kq2) BK894.out kq2) BK895.out kq2))); rintro e w49 ⟨v901, rfl, ho0, hb⟩; refine ⟨_, rfl, ?_⟩; have HO902 := mk (Kd.V_lower (Kd.V_mono (ok' := fun k_ => (w.heap.size ≤ k_) ∧ k_ ≠ gb893 ∧ k_ ≠ gb894 ∧ k_ ≠ gb895) ho0 (fun k_ hk_ => ⟨Or.elim hk_ (fun hs_ => ((Kd.R_types (Kd.R_types (Kd.R_types (HO_5.out) BK893.out kq2) BK894.out kq2) BK895.out kq2).1 k_ hs_.symm).1.1.1) (fun hn_ => (Nat.le_trans (below_size (kq37 GE893 GE894 GE895)) hn_)), Or.elim hk_ (fun hs_ => ((Kd.R_types (Kd.R_types (Kd.R_types (HO_5.out) BK893.out kq2) BK894.out kq2) BK895.out kq2).1 k_ hs_.symm).1.1.2) (fun hn_ => (Kd.freshB (g := gb893) (o := .cells #[.bool a0_0, .slice A0_1 l0_1.length c0_1] 172 (0, 0)) (kq7 BK893) k_ hn_)), Or.elim hk_ (fun hs_ => ((Kd.R_types (Kd.R_types (Kd.R_types (HO_5.out) BK893.out kq2) BK894.out kq2) BK895.out kq2).1 k_ hs_.symm).1.2) (fun hn_ => (Kd.freshB (g := gb894) (o := .cells #[.bool a1_0, .slice A1_1 l1_1.length c1_1] 172 (0, 0)) (kq7 BK894) k_ hn_)), Or.elim hk_ (fun hs_ => ((Kd.R_types (Kd.R_types (Kd.R_types (HO_5.out) BK893.out kq2) BK894.out kq2) BK895.out kq2).1 k_ hs_.symm).2) (fun hn_ => (Kd.freshB (g := gb895) (o := .cells #[.bool false, .slice none 0 0] 172 (0, 0)) (kq7 BK895) k_ hn_))⟩)) (below_size (kq37 GE893 GE894 GE895))); replace HO_5 := mk (Kd.R_below (kq23 HO_5) hb); replace BK893 := (bb_ BK893 hb); replace BK894 := (bb_ BK894 hb); replace BK895 := (bb_ BK895 hb); replace HB := mk (below_step (kq37 GE893 GE894 GE895) hb); obtain ⟨_, _, _, _⟩ := cz2_ BK895.out; obtain ⟨Ao51, co51, eo51⟩ := Kd.V_slice HO902.out; subst eo51))); (refine bodyPost_ret (results_cell_row rfl _ _ gb895 172 #[.bool t899, .slice Ao51 t900.length co51] (0, 0) _ rfl (by (with_reducible repeat (first | refine blk_drewN ?_ _ | refine blk_drew ?_ | refine blk_alloc ?_ _)); refine blk_put (cs := #[.bool t899, .slice none 0 0]) ?_ 1 _ rfl; (with_reducible repeat (first | refine blk_drewN ?_ _ | refine blk_drew ?_ | refine blk_alloc ?_ _)); refine blk_put (cs := #[.bool false, .slice none 0 0]) ?_ 0 _ rfl; (with_reducible repeat (first | refine blk_drewN ?_ _ | refine blk_drew ?_ | refine blk_alloc ?_ _)); exact BK895.out) Try.underlying172 rfl kq0) rfl ?_); (exact ⟨_, by first | rfl | (simp [errW_none, errW_some] <;> rfl) | (simp only [← hji3]; first | rfl | (simp [errW_none, errW_some] <;> rfl)) | (simp [*, errW_none, errW_some] <;> rfl), by (with_reducible repeat (first | apply Kd.V_alloc | apply Kd.V_drewN | apply Kd.V_drew)); exact Kd.V_mono (Kd.V_far (p := ⟨gb895, 1, none⟩) (Kd.V_far (p := ⟨gb895, 0, none⟩) (Kd.V_mono HO902.out (fun k_ hk => (⟨hk, hk.2.2.2⟩ : _ ∧ k_ ≠ gb895))) (fun _ hk => hk.2) (.bool t899)) (fun _ hk => hk.2) (.slice Ao51 t900.length co51)) (fun _ hk => hk.1.1), (kq37 GE893 GE894 GE895)⟩)
    · (exact absurd H (by simp))
  · rw [if_neg c4] at H
    exact absurd H (by simp)
end Go.Proofs.Ytjknpmibdkoklaa.U
set_option maxRecDepth 100000
namespace Go.Proofs.Ytjknpmibdkoklaa.U
open Go.RowKit Go.Proofs.YtjknpmibdkoklaaW.PrintWords Go.Proofs.YtjknpmibdkoklaaW.PrintLast Go.Proofs.YtjknpmibdkoklaaW.PrintMore
theorem rd_set_ne {l : List Int} {p q : Nat} (h : p ≠ q) (v : Int) : rd (l.set p v) (q : Int) = rd l (q : Int) := by
  unfold rd
  rw [Int.toNat_natCast, List.getD_eq_getElem?_getD, List.getD_eq_getElem?_getD, List.getElem?_set_ne h]
theorem times_loop32 {a b : List Int} (ha : D32 a) (hb : D32 b) (sa sb : Bool) (hla : a.length < 1000000000) (hlb : b.length < 1000000000) :
    ∀ (e i : Nat) (x : List Int), i + e = a.length → x.length = a.length + b.length → D32 x → (∀ p : Nat, i + b.length ≤ p → rd x (p : Int) = 0) → val32 x = val32 (a.take i) * val32 b →
      ∃ r : Bool × List Int, Ev (fun k => truth_whole_times.l0 k x a (a.length : Int) (i : Int) sa a sb b) r ∧ NumOf r.1 r.2 (if (sa != sb) = true then -(val32 a * val32 b) else val32 a * val32 b) := by
  intro e
  induction e with
  | zero =>
    intro i x hi hx hd hz hv
    obtain ⟨n, d, hm, hn⟩ := made_num hd (sa != sb)
    rw [List.take_of_length_le kq1] at hv
    rw [hv] at hn
    refine ⟨(n, d), Ev_at32 1 (fun k hk => ?_), hn⟩
    obtain ⟨k, rfl⟩ : ∃ q, k = q + 1 := ⟨k - 1, kq1⟩
    simp only [truth_whole_times.l0]
    rw [if_neg kq1, hm]
    rfl
  | succ e ihe =>
    intro i x hi hx hd hz hv
    have hai := rd_D32 ha i
    have inner : ∀ (f j : Nat) (x : List Int) (c : Int), j + f = b.length → x.length = a.length + b.length → D32 x → (∀ p : Nat, i + b.length ≤ p → rd x (p : Int) = 0) → 0 ≤ c → c < 4294967296 → val32 x + c * 4294967296 ^ (i + j) = val32 (a.take i) * val32 b + rd a (i : Int) * val32 (b.take j) * 4294967296 ^ i →
        ∃ r : Bool × List Int, Ev (fun k => truth_whole_times.l1 k x (i : Int) (rd a (i : Int)) c a (a.length : Int) (i : Int) b (b.length : Int) (j : Int) sa a sb b) r ∧ NumOf r.1 r.2 (if (sa != sb) = true then -(val32 a * val32 b) else val32 a * val32 b) := by
      intro f
      induction f with
      | zero =>
        intro j x c hj hx hd hz h0 h1 hv
        have ej : j = b.length := by omega
        subst ej
        rw [List.take_length] at hv
        have hvt : val32 (a.take (i + 1)) * val32 b = val32 (a.take i) * val32 b + rd a (i : Int) * val32 b * 4294967296 ^ i := by
          rw [val_take_rd32, Int.add_mul, Int.mul_comm (4294967296 ^ i) (rd a (i : Int)), Int.mul_assoc, Int.mul_assoc, Int.mul_comm (4294967296 ^ i) (val32 b)]
        have hset : val32 (x.set (i + b.length) c) = val32 (a.take (i + 1)) * val32 b := by
          rw [val_set32 _ _ _ kq1, hz (i + b.length) (Nat.le_refl _), hvt]
          simpa using hv
        obtain ⟨r, hr, hn⟩ := ihe (i + 1) (x.set (i + b.length) c) kq1 (by simp; omega) (D32_set hd _ h0 h1) (fun p hp => by rw [rd_set_ne kq1]; exact hz p kq1) hset
        refine ⟨r, Ev.step (fun k => ?_) hr, hn⟩
        have hw := Aside0.mk (show wrap64 ((i : Int) + (b.length : Int)) = ((i + b.length : Nat) : Int) from by rw [wrap_in32 ⟨kq1, kq1⟩]; omega)
        have hw2 := Aside0.mk (show wrap64 ((i : Int) + 1) = ((i + 1 : Nat) : Int) from wrap_succ32 kq1)
        simp only [truth_whole_times.l1]
        rw [if_neg kq1, hw.out, hw2.out, if_pos kq1, if_pos kq1, Int.toNat_natCast, Int.emod_eq_of_lt h0 h1]
      | succ f ihf =>
        intro j x c hj hx hd hz h0 h1 hv
        have hbj := rd_D32 hb j
        have hxj := rd_D32 hd (i + j)
        have hprod : 0 ≤ rd a (i : Int) * rd b (j : Int) := Int.mul_nonneg hai.1 hbj.1
        have hprod2 : rd a (i : Int) * rd b (j : Int) ≤ 4294967295 * 4294967295 := Int.mul_le_mul kq1 kq1 hbj.1 kq1
        have go : ∃ r : Bool × List Int, Ev (fun k => truth_whole_times.l1 k (x.set (i + j) ((rd a (i : Int) * rd b (j : Int) + rd x ((i + j : Nat) : Int) + c) % 4294967296)) (i : Int) (rd a (i : Int)) ((rd a (i : Int) * rd b (j : Int) + rd x ((i + j : Nat) : Int) + c) / 4294967296) a (a.length : Int) (i : Int) b (b.length : Int) ((j + 1 : Nat) : Int) sa a sb b) r ∧ NumOf r.1 r.2 (if (sa != sb) = true then -(val32 a * val32 b) else val32 a * val32 b) := by
          generalize hs : rd a (i : Int) * rd b (j : Int) + rd x ((i + j : Nat) : Int) + c = s
          refine ihf (j + 1) _ _ kq1 (by simp [hx]) (D32_set hd _ kq1 kq1) (fun p hp => by rw [rd_set_ne kq1]; exact hz p hp) kq1 kq1 ?_
          rw [val_set32 _ _ _ kq1, val_take_rd32 b j]
          have e1 : s % 4294967296 = s - 4294967296 * (s / 4294967296) := by omega
          rw [e1, show i + (j + 1) = (i + j) + 1 by omega, Int.pow_succ (4294967296 : Int) (i + j)]
          have e2 : val32 x = val32 (a.take i) * val32 b + rd a (i : Int) * val32 (b.take j) * 4294967296 ^ i - c * 4294967296 ^ (i + j) := by omega
          rw [e2, ← hs, Int.pow_add]
          grind
        obtain ⟨r, hr, hn⟩ := go
        refine ⟨r, Ev.step (fun k => ?_) hr, hn⟩
        have hw := Aside0.mk (show wrap64 ((i : Int) + (j : Int)) = ((i + j : Nat) : Int) from by rw [wrap_in32 ⟨kq1, kq1⟩]; omega)
        have hw2 := Aside0.mk (show wrap64 ((j : Int) + 1) = ((j + 1 : Nat) : Int) from wrap_succ32 kq1)
        simp only [truth_whole_times.l1]
        rw [if_pos kq1, if_pos kq1, if_pos kq1, hw.out, hw2.out, if_pos kq1, if_pos kq1, Int.toNat_natCast]
        rw [uwrap_in32 (n := rd a (i : Int)) kq1 kq1, uwrap_in32 (n := rd b (j : Int)) kq1 kq1, uwrap_in32 hprod kq1, uwrap_in32 (n := rd x ((i + j : Nat) : Int)) kq1 kq1, uwrap_in32 (n := rd a (i : Int) * rd b (j : Int) + rd x ((i + j : Nat) : Int)) kq1 kq1, uwrap_in32 (n := rd a (i : Int) * rd b (j : Int) + rd x ((i + j : Nat) : Int) + c) kq1 kq1]
    obtain ⟨r, hr, hn⟩ := inner b.length 0 x 0 kq1 hx hd hz kq1 kq1 (by simp [hv, val32])
    refine ⟨r, Ev.step (fun k => ?_) hr, hn⟩
    simp only [truth_whole_times.l0]
    rw [if_pos kq1, if_pos kq1, if_pos kq1]
    rfl
theorem times_num {n1 n2 : Bool} {a b : List Int} {x y : Int} (h1 : NumOf n1 a x) (h2 : NumOf n2 b y) (la : a.length < 1000000000) (lb : b.length < 1000000000) :
    ∃ r : Bool × List Int, Ev (fun k => truth_whole_times.f k n1 a n2 b) r ∧ NumOf r.1 r.2 (x * y) := by
  obtain ⟨r, hr, hn⟩ := times_loop32 h1.dig h2.dig n1 n2 la lb a.length 0 (List.replicate (a.length + b.length) 0) kq1 (by simp) (D32_zeros _) (fun p _ => by
    unfold rd
    rw [Int.toNat_natCast, List.getD_eq_getElem?_getD, List.getElem?_replicate]
    split <;> rfl) (by simp [val_zeros32, val32])
  refine ⟨r, Ev.congr (fun k => ?_) hr, ?_⟩
  · unfold truth_whole_times.f
    have e : wrap64 ((a.length : Int) + (b.length : Int)) = ((a.length + b.length : Nat) : Int) := by rw [wrap_in32 ⟨kq1, kq1⟩]; omega
    rw [e, if_pos kq1, Int.toNat_natCast, if_pos kq1]
    rfl
  · have e2 : (if (n1 != n2) = true then -(val32 a * val32 b) else val32 a * val32 b) = x * y := by
      rw [h1.val, h2.val]
      cases n1 <;> cases n2 <;> simp [Int.neg_mul, Int.mul_neg]
    rw [e2] at hn
    exact hn
end Go.Proofs.Ytjknpmibdkoklaa.U
namespace Go.Proofs.Ytjknpmibdkoklaa.U
open Go.RowKit Go.Proofs.YtjknpmibdkoklaaW.PrintWords Go.Proofs.YtjknpmibdkoklaaW.PrintLast Go.Proofs.YtjknpmibdkoklaaW.PrintMore
open Aside0 (mk)
open List (setIfInBounds_toArray set_cons_zero set_cons_succ)
attribute [local go_sem] max2_int min2_int max_two min_two max_three min_three max_four min_four
set_option linter.unusedVariables false
set_option linter.unusedSimpArgs false
attribute [local go_sem] fld99_2 fld103_2 fld172_1
def truth_whole_sign.f (a0_0 : Bool) (l0_1 : List Int) : Option (Int) := if (l0_1.length : Int) = 0 then (some 0) else (if a0_0 = true then (some (-1)) else (some 1))
set_option maxHeartbeats 8000000 in
set_option maxRecDepth 100000 in
theorem truth_whole_sign.calls (a0_0 : Bool) (A0_1 : Option Addr) (c0_1 : Nat) (l0_1 : List Int) (r : Int) (w : World) (hr0_1 : Kd.C (Kd.int .u32) w A0_1 l0_1.length l0_1) (hc0_1 : l0_1.length ≤ c0_1) (h : truth_whole_sign.f a0_0 l0_1 = some r) :
    Calls Try.prog 179 #[.agg #[.bool a0_0, .slice A0_1 l0_1.length c0_1]] w fun e w' => e = .returned (.int .i64 r) ∧ Below w.heap.size w w' := by
  have hu172 := Try.underlying172
  have HR0_1 := mk hr0_1
  have HC0_1 := mk hc0_1
  clear hr0_1 hc0_1
  have HB := mk (Below.refl w.heap.size w)
  have H : (if (l0_1.length : Int) = 0 then (some 0) else (if a0_0 = true then (some (-1)) else (some 1))) = some r := h
  clear h
  by_cases c2 : (l0_1.length : Int) = 0
  · rw [if_pos c2] at H
    have c2b0 := eT_ c2
    have c2b1 := nF_ c2
    clear c2
    obtain rfl := Option.some.inj H
    go_enter Try.func179, Try.ntmps179
    go_wp2_with (first | ((with_reducible refine gate_dst (N := 1) rfl ?_); refine box_event ?hg (N := 1) ?hd (cs := #[.bool a0_0, .slice A0_1 l0_1.length c0_1]) (t := 172) ?hr ?_; (case hd => rfl); (case hg => rfl); (case hr => exact kq6); intro gb927 hg w3 hbox hb; have BK927 := mk (hbox); have GW927 := (gs_ hg kq15); have GE927 := GW927; replace HB := mk (below_step kq15 hb); clear hb hbox hg; obtain ⟨_, _, _, _⟩ := cz2_ BK927.out))
    go_ret
    exact ⟨kq21, (kq16 GE927)⟩
  · rw [if_neg c2] at H
    have c2b0 := eF_ c2
    have c2b1 := nT_ c2
    have c2b2 : ¬ (l0_1 = []) := fun h_ => c2 (by rw [h_]; rfl)
    by_cases c5 : a0_0 = true
    · subst c5; (have H1 : (some (-1)) = some r := by rw [if_pos rfl] at H; exact H); clear H; (have H := H1); clear H1; (obtain rfl := Option.some.inj H); (go_enter Try.func179, Try.ntmps179); (go_wp2_with (first | ((with_reducible refine gate_dst (N := 1) rfl ?_); refine box_event ?hg (N := 1) ?hd (cs := #[.bool true, .slice A0_1 l0_1.length c0_1]) (t := 172) ?hr ?_; (case hd => rfl); (case hg => rfl); (case hr => exact kq6); intro gb927 hg w6 hbox hb; have BK927 := mk (hbox); have GW927 := (gs_ hg kq15); have GE927 := GW927; replace HB := mk (below_step kq15 hb); clear hb hbox hg; obtain ⟨_, _, _, _⟩ := cz2_ BK927.out))); go_ret; (exact ⟨kq21, (kq16 GE927)⟩)
    · (replace c5 := Bool.eq_false_iff.mpr c5); subst c5; (have H1 : (some 1) = some r := by rw [if_neg (show ¬ (false = true) by decide)] at H; exact H); clear H; (have H := H1); clear H1; (obtain rfl := Option.some.inj H); (go_enter Try.func179, Try.ntmps179); (go_wp2_with (first | ((with_reducible refine gate_dst (N := 1) rfl ?_); refine box_event ?hg (N := 1) ?hd (cs := #[.bool false, .slice A0_1 l0_1.length c0_1]) (t := 172) ?hr ?_; (case hd => rfl); (case hg => rfl); (case hr => exact kq6); intro gb927 hg w8 hbox hb; have BK927 := mk (hbox); have GW927 := (gs_ hg kq15); have GE927 := GW927; replace HB := mk (below_step kq15 hb); clear hb hbox hg; obtain ⟨_, _, _, _⟩ := cz2_ BK927.out))); go_ret; (exact ⟨kq21, (kq16 GE927)⟩)
mutual
def truth_whole_multiple.l0 : Nat → Int → Int → Int → Bool → List Int → Option (Bool)
  | 0, _, _, _, _, _ => none
  | k + 1, x5, x6, x7, x929000, x929001 => if x7 ≥ 0 then (truth_whole_multiple.l1 k x5 x6 x7 31 x929000 x929001) else (some (x5 == 0))
def truth_whole_multiple.l1 : Nat → Int → Int → Int → Int → Bool → List Int → Option (Bool)
  | 0, _, _, _, _, _, _ => none
  | k + 1, x5, x6, x7, x8, x929000, x929001 => if x8 ≥ 0 then (if 0 ≤ x7 then (if x7 < (x929001.length : Int) then (if 0 ≤ x8 then (if x6 = 0 then (none) else (truth_whole_multiple.l1 k (Int.tmod (IntKind.u64.wrap ((IntKind.u64.wrap (x5 * 2)) + (IntKind.u64.wrap (Go.bits .and .u32 (shr .u32 (rd x929001 x7) x8) 1)))) x6) x6 x7 (wrap64 (x8 - 1)) x929000 x929001)) else (none)) else (none)) else (none)) else (truth_whole_multiple.l0 k x5 x6 (wrap64 (x7 - 1)) x929000 x929001)
end
def truth_whole_multiple.f (k : Nat) (a0_0 : Bool) (l0_1 : List Int) (a1 : Int) : Option (Bool) := truth_whole_multiple.l0 k 0 (IntKind.u64.wrap (a1)) (wrap64 ((l0_1.length : Int) - 1)) a0_0 l0_1
theorem truth_whole_multiple.mono_l : ∀ k, (∀ y0 y1 y2 y3 y4, LeO (truth_whole_multiple.l0 k y0 y1 y2 y3 y4) (truth_whole_multiple.l0 (k + 1) y0 y1 y2 y3 y4)) ∧ (∀ y0 y1 y2 y3 y4 y5, LeO (truth_whole_multiple.l1 k y0 y1 y2 y3 y4 y5) (truth_whole_multiple.l1 (k + 1) y0 y1 y2 y3 y4 y5))
  | 0 => ⟨fun _ _ _ _ _ r h => by simp [truth_whole_multiple.l0] at h, fun _ _ _ _ _ _ r h => by simp [truth_whole_multiple.l1] at h⟩
  | k + 1 => by
    obtain ⟨ih0, ih1⟩ := truth_whole_multiple.mono_l k
    refine ⟨?_, ?_⟩ <;> intros <;> (first | unfold truth_whole_multiple.l0 | unfold truth_whole_multiple.l1) <;> repeat' first | (with_reducible first | exact ih0 _ _ _ _ _ | exact ih1 _ _ _ _ _ _ | exact LeO.refl _ | exact LeO.none _ | refine LeO.ite ?_ ?_ | refine LeO.bind ?_ (fun _ => ?_)) | exact ih0 _ _ _ _ _ | exact ih1 _ _ _ _ _ _ | exact LeO.none _ | refine LeO.ite ?_ ?_ | refine LeO.bind ?_ (fun _ => ?_)
theorem truth_whole_multiple.mono : ∀ a0 a1 a2 k, LeO (truth_whole_multiple.f k a0 a1 a2) (truth_whole_multiple.f (k + 1) a0 a1 a2) := by
  intro a0 a1 a2 k
  obtain ⟨ih0, ih1⟩ := truth_whole_multiple.mono_l k
  unfold truth_whole_multiple.f
  repeat' first
      | (with_reducible exact ih0 _ _ _ _ _)
      | (with_reducible exact ih1 _ _ _ _ _ _)
      | (with_reducible exact LeO.refl _)
      | (with_reducible exact LeO.none _)
      | (with_reducible refine LeO.ite ?_ ?_)
      | (with_reducible refine LeO.bind ?_ (fun _ => ?_))
      | exact ih0 _ _ _ _ _
      | exact ih1 _ _ _ _ _ _
      | exact LeO.none _
      | refine LeO.ite ?_ ?_
      | refine LeO.bind ?_ (fun _ => ?_)
set_option maxHeartbeats 8000000 in
set_option maxRecDepth 100000 in
theorem truth_whole_multiple.calls (k : Nat) (a0_0 : Bool) (A0_1 : Option Addr) (c0_1 : Nat) (l0_1 : List Int) (a1 : Int) (r : Bool) (w : World) (hr0_1 : Kd.C (Kd.int .u32) w A0_1 l0_1.length l0_1) (hc0_1 : l0_1.length ≤ c0_1) (h : truth_whole_multiple.f k a0_0 l0_1 a1 = some r) :
    Calls Try.prog 180 #[.agg #[.bool a0_0, .slice A0_1 l0_1.length c0_1], .int .i64 a1] w fun e w' => e = .returned (.bool r) ∧ Below w.heap.size w w' := by
  have hu172 := Try.underlying172
  have HR0_1 := mk hr0_1
  have HC0_1 := mk hc0_1
  clear hr0_1 hc0_1
  have HB := mk (Below.refl w.heap.size w)
  have H : (truth_whole_multiple.l0 k 0 (IntKind.u64.wrap (a1)) (wrap64 ((l0_1.length : Int) - 1)) a0_0 l0_1) = some r := h
  clear h
  have H' := mk H
  clear H
  go_enter Try.func180, Try.ntmps180
  go_wp2_with (first | ((with_reducible refine gate_dst (N := 2) rfl ?_); refine box_event ?hg (N := 2) ?hd (cs := #[.bool a0_0, .slice A0_1 l0_1.length c0_1]) (t := 172) ?hr ?_; (case hd => rfl); (case hg => rfl); (case hr => exact kq6); intro gb928 hg w3 hbox hb; have BK928 := mk (hbox); have GW928 := (gs_ hg kq15); have GE928 := GW928; replace HB := mk (below_step kq15 hb); clear hb hbox hg; obtain ⟨_, _, _, _⟩ := cz2_ BK928.out))
  go_loopg [5, 7] k (fun kq v5 v7 w' => ∃ (x5_1 : Int) (x7_1 : Int), v5 = .int .u64 x5_1 ∧ v7 = .int .i64 x7_1 ∧ Aside0 (truth_whole_multiple.l0 kq x5_1 (IntKind.u64.wrap (a1)) x7_1 a0_0 l0_1 = some r) ∧ Aside0 (kq ≤ k) ∧ Aside0 (w'.heap[gb928]? = some (.cells #[.bool a0_0, (.slice A0_1 l0_1.length c0_1)] 172 (0, 0))) ∧ Aside0 (Below w.heap.size w w'))
  case atStart => exact ⟨(0), (wrap64 ((l0_1.length : Int) - 1)), kq10, kq10, H', ⟨Nat.le_refl _⟩, ⟨(kq7 BK928)⟩, ⟨(kq16 GE928)⟩⟩
  case round =>
    clear H'
    obtain ⟨x5_1, x7_1, rfl, rfl, HA, HK1, BK928, HB⟩ := hrel
    cases gk with
    | zero => exact absurd HA.out (by simp [truth_whole_multiple.l0])
    | succ k1 =>
      (have H := HA.out); clear HA; (simp only [truth_whole_multiple.l0] at H); replace H := ic_ H; obtain ⟨c5, H⟩ | ⟨c5, H⟩ := H
      · (have c5b0 : decide (0 ≤ x7_1) = true := decide_eq_true c5); clear c5; (have H' := mk H); clear H; go_wp2; (go_loopg [5, 8] k1 (fun kq v5 v8 w' => ∃ (x5_2 : Int) (x8_2 : Int), v5 = .int .u64 x5_2 ∧ v8 = .int .i64 x8_2 ∧ Aside0 (truth_whole_multiple.l1 kq x5_2 (IntKind.u64.wrap (a1)) x7_1 x8_2 a0_0 l0_1 = some r) ∧ Aside0 (kq ≤ k1) ∧ Aside0 (w'.heap[gb928]? = some (.cells #[.bool a0_0, (.slice A0_1 l0_1.length c0_1)] 172 (0, 0))) ∧ Aside0 (Below w.heap.size w w')))
        case atStart => exact ⟨(x5_1), (31), kq10, kq10, H', ⟨Nat.le_refl _⟩, ⟨(kq7 BK928)⟩, ⟨(kq16 GE928)⟩⟩
        case round =>
          clear H'; (obtain ⟨x5_2, x8_2, rfl, rfl, HA, HK2, BK928, HB⟩ := hrel)
          cases gk with
          | zero => exact absurd HA.out (by simp [truth_whole_multiple.l1])
          | succ k2 =>
            (have H := HA.out); clear HA; (simp only [truth_whole_multiple.l1] at H); replace H := ic_ H; obtain ⟨c6, H⟩ | ⟨c6, H⟩ := H
            · (have c6b0 : decide (0 ≤ x8_2) = true := decide_eq_true c6); clear c6; replace H := ic_ H; obtain ⟨c7, H⟩ | ⟨c7, H⟩ := H
              · (have c7b0 := decide_eq_true c7); clear c7; replace H := ic_ H; obtain ⟨c8, H⟩ | ⟨c8, H⟩ := H
                · (have c8b0 := decide_eq_true c8); clear c8; replace H := ic_ H; obtain ⟨c9, H⟩ | ⟨c9, H⟩ := H
                  · (have c9b0 := eq_true c9); (have c9b1 := decide_eq_true c9); clear c9; (obtain ⟨ji10, hji10⟩ : ∃ j_ : Int, (shr .u32 (rd l0_1 x7_1) x8_2) = j_ := ⟨_, rfl⟩); (replace H : (if (IntKind.u64.wrap (a1)) = 0 then (none) else (truth_whole_multiple.l1 k2 (Int.tmod (IntKind.u64.wrap ((IntKind.u64.wrap (x5_2 * 2)) + (IntKind.u64.wrap (Go.bits .and .u32 (ji10) 1)))) (IntKind.u64.wrap (a1))) (IntKind.u64.wrap (a1)) x7_1 (wrap64 (x8_2 - 1)) a0_0 l0_1)) = some r := by first | (rw [hji10] at H; exact H) | (simp only [hji10] at H ⊢; exact H)); (have hji10_ : ((rd l0_1 x7_1) / 2 ^ min x8_2.toNat 32) = ji10 := hji10); (have hji10z : x8_2 ≤ 32 → ((rd l0_1 x7_1) / 2 ^ x8_2.toNat) = ji10 := shr_small hji10); replace H := ic_ H; obtain ⟨c11, H⟩ | ⟨c11, H⟩ := H
                    · (exact absurd H (by simp))
                    · (obtain ⟨c11b0, c11b1⟩ := eFn_ c11); (have H' := mk H); clear H; (obtain ⟨_, _, _, _⟩ := cz2_ BK928.out); (have p929 : 0 ≤ (x7_1 : Int) := of_decide_eq_true kq19); (have q929 : x7_1 < (l0_1.length : Int) := of_decide_eq_true kq19); (obtain ⟨ad929, e929, hx929_0⟩ := Kd.at_int HR0_1.out x7_1 p929 q929); cases e929; (replace hx929_0 := hc_ HB hx929_0); replace p929 := eq_true p929; replace q929 := eq_true q929; go_wp2; (go_roundg k2)
                      case measure => have := HK1.out; have := HK2.out; omega
                      case rel => exact ⟨(Int.tmod (IntKind.u64.wrap ((IntKind.u64.wrap (x5_2 * 2)) + (IntKind.u64.wrap (Go.bits .and .u32 (ji10) 1)))) (IntKind.u64.wrap (a1))), (wrap64 (x8_2 - 1)), (by first | rfl | (simp; done) | (simp only [← hji10] <;> (first | rfl | simp)) | (simp [*]; done)), kq10, H', ⟨kq39⟩, ⟨(kq7 BK928)⟩, ⟨(kq16 GE928)⟩⟩
                  · (exact absurd H (by simp))
                · (exact absurd H (by simp))
              · (exact absurd H (by simp))
            · (have c6b0 : decide (0 ≤ x8_2) = false := decide_eq_false c6); clear c6; (have H' := mk H); clear H; go_wp2; (go_roundg k2)
              case measure => have := HK1.out; have := HK2.out; omega
              case rel => exact ⟨(x5_2), (wrap64 (x7_1 - 1)), kq10, kq10, H', ⟨kq39⟩, ⟨(kq7 BK928)⟩, ⟨(kq16 GE928)⟩⟩
      · (have c5b0 : decide (0 ≤ x7_1) = false := decide_eq_false c5); clear c5; (obtain rfl := Option.some.inj H); go_wp2; go_ret; (exact ⟨kq21, (kq16 GE928)⟩)
end Go.Proofs.Ytjknpmibdkoklaa.U
set_option maxRecDepth 100000
namespace Go.Proofs.Ytjknpmibdkoklaa.U
open Go.RowKit Go.Proofs.YtjknpmibdkoklaaW.PrintWords Go.Proofs.YtjknpmibdkoklaaW.PrintLast Go.Proofs.YtjknpmibdkoklaaW.PrintMore
theorem wraps32 (n : Int) (h0 : 0 ≤ n) (h1 : n < 4294967296) : IntKind.u32.wrap n = n := by
  have : IntKind.u32.wrap n = n % 4294967296 := by simp [IntKind.wrap, IntKind.bits, IntKind.signed]
  omega
theorem bit_val {d : Int} (h : 0 ≤ d ∧ d < 4294967296) (t : Nat) (ht : t < 32) : Go.bits .and .u32 (shr .u32 d (t : Int)) 1 = d / 2 ^ t % 2 := by
  have e : shr .u32 d (t : Int) = d / 2 ^ t := by
    unfold shr
    rw [Int.toNat_natCast, show min t (IntKind.u32.bits) = t from Nat.min_eq_left (by show t ≤ 32; omega)]
  rw [e]
  have h0 : 0 ≤ d / 2 ^ t := Int.ediv_nonneg h.1 (Int.le_of_lt (Int.pow_pos kq2))
  have h1 : d / 2 ^ t ≤ d := Int.ediv_le_self _ h.1
  exact bits_mask .u32 32 kq2 (fun n h h' => wraps32 n h (by simpa using h')) 1 kq2 _ h0 (by simpa using (show d / 2 ^ t < 4294967296 by omega))
theorem mod_step {A m b : Int} : ((A % m) * 2 + b) % m = (A * 2 + b) % m := by
  rw [Int.add_emod, Int.mul_emod, Int.emod_emod_of_dvd _ (Int.dvd_refl m), ← Int.mul_emod, ← Int.add_emod]
theorem half_step (P d : Int) (t : Nat) : (P * 2 ^ (31 - t) + d / 2 ^ (t + 1)) * 2 + d / 2 ^ t % 2 = P * (2 ^ (31 - t) * 2) + d / 2 ^ t := by
  have e : d / 2 ^ (t + 1) = d / 2 ^ t / 2 := by
    have hp : (0 : Int) < 2 ^ t := Int.pow_pos kq2
    rw [Int.pow_succ, Int.ediv_ediv, if_neg kq1, Int.sub_zero]
  rw [e, Int.add_mul, Int.mul_assoc]
  omega
theorem multiple_loop {l : List Int} (hd : D32 l) (sb : Bool) (m : Int) (hm0 : 1 ≤ m) (hm1 : m < 9223372036854775808) (hl : l.length < 1000000000) :
    ∀ (j : Nat), j ≤ l.length → ∀ rest : Int, rest = val32 (l.drop j) % m → Ev (fun k => truth_whole_multiple.l0 k rest m ((j : Int) - 1) sb l) (val32 l % m == 0) := by
  intro j
  induction j with
  | zero =>
    intro _ rest hr
    refine Ev_at32 1 (fun k hk => ?_)
    obtain ⟨k, rfl⟩ : ∃ q, k = q + 1 := ⟨k - 1, kq1⟩
    simp only [truth_whole_multiple.l0]
    rw [if_neg kq1, hr]
    rfl
  | succ j ihj =>
    intro hj rest hr
    have hdj := rd_D32 hd j
    have inner : ∀ (t : Nat), t ≤ 32 → ∀ rest : Int, rest = (val32 (l.drop (j + 1)) * 2 ^ (32 - t) + rd l (j : Int) / 2 ^ t) % m → Ev (fun k => truth_whole_multiple.l1 k rest m (j : Int) ((t : Int) - 1) sb l) (val32 l % m == 0) := by
      intro t
      induction t with
      | zero =>
        intro _ rest hr
        have hb := ihj kq1 rest (by rw [hr, val_drop32 l j]; congr 1; simp; omega)
        refine Ev.step (fun k => ?_) hb
        have hw := Aside0.mk (show wrap64 ((j : Int) - 1) = (j : Int) - 1 from wrap_in32 ⟨kq1, kq1⟩)
        simp only [truth_whole_multiple.l1]
        rw [if_neg kq1, hw.out]
      | succ t iht =>
        intro ht rest hr
        have hr0 : 0 ≤ rest := by rw [hr]; exact Int.emod_nonneg _ kq1
        have hr1 : rest < m := by rw [hr]; exact Int.emod_lt_of_pos _ kq1
        have hb0 : 0 ≤ rd l (j : Int) / 2 ^ t % 2 := Int.emod_nonneg _ kq2
        have hb1 : rd l (j : Int) / 2 ^ t % 2 < 2 := Int.emod_lt_of_pos _ kq2
        have e32 : 32 - (t + 1) = 31 - t := by omega
        have e2 : (2 : Int) ^ (32 - t) = 2 ^ (31 - t) * 2 := by rw [← Int.pow_succ]; congr 1; omega
        have hnext : (rest * 2 + rd l (j : Int) / 2 ^ t % 2) % m = (val32 (l.drop (j + 1)) * 2 ^ (32 - t) + rd l (j : Int) / 2 ^ t) % m := by
          rw [hr, mod_step, e32, half_step, e2]
        have hi := iht kq1 _ hnext
        refine Ev.step (fun k => ?_) hi
        have e1 : ((t + 1 : Nat) : Int) - 1 = (t : Int) := by omega
        have hw := Aside0.mk (show wrap64 ((t : Int) - 1) = (t : Int) - 1 from wrap_in32 ⟨kq1, kq1⟩)
        have hbit := Aside0.mk (bit_val hdj t kq1)
        simp only [truth_whole_multiple.l1]
        rw [e1, if_pos kq1, if_pos kq1, if_pos kq1, if_pos kq1, if_neg kq1, hw.out, hbit.out]
        generalize rd l (j : Int) / 2 ^ t % 2 = bt at hb0 hb1 ⊢
        rw [uwrap_in32 (n := rest * 2) kq1 kq1, uwrap_in32 (n := bt) kq1 kq1, uwrap_in32 (n := rest * 2 + bt) kq1 kq1, Int.tmod_eq_emod_of_nonneg kq1]
    have hi := inner 32 (Nat.le_refl _) rest (by
      rw [hr]
      have : rd l (j : Int) / 2 ^ 32 = 0 := Int.ediv_eq_zero_of_lt hdj.1 (by simpa using hdj.2)
      rw [this]
      simp)
    refine Ev.step (fun k => ?_) hi
    have e1 : ((j + 1 : Nat) : Int) - 1 = (j : Int) := by omega
    simp only [truth_whole_multiple.l0]
    rw [e1, if_pos kq1]
    rfl
theorem multiple_num {n : Bool} {l : List Int} {z m : Int} (h : NumOf n l z) (hm0 : 1 ≤ m) (hm1 : m < 9223372036854775808) (hl : l.length < 1000000000) : Ev (fun k => truth_whole_multiple.f k n l m) (decide (m ∣ z)) := by
  have h1 := multiple_loop h.dig n m hm0 hm1 hl l.length (Nat.le_refl _) 0 (by rw [List.drop_length]; simp [val32])
  have e : (val32 l % m == 0) = decide (m ∣ z) := by
    have e1 : (m ∣ z) ↔ (m ∣ val32 l) := by
      rw [h.val]
      split
      · exact Int.dvd_neg
      · exact Iff.rfl
    rw [show decide (m ∣ z) = decide (m ∣ val32 l) from decide_eq_decide.2 e1]
    by_cases hd : m ∣ val32 l
    · have := Int.emod_eq_zero_of_dvd hd
      simp [hd, this]
    · have : val32 l % m ≠ 0 := fun h0 => hd (Int.dvd_of_emod_eq_zero h0)
      simp [hd, this]
  rw [e] at h1
  refine Ev.congr (fun k => ?_) h1
  have hw : wrap64 ((l.length : Int) - 1) = (l.length : Int) - 1 := wrap_in32 ⟨kq1, kq1⟩
  unfold truth_whole_multiple.f
  rw [hw, uwrap_in32 kq1 kq1]
end Go.Proofs.Ytjknpmibdkoklaa.U
