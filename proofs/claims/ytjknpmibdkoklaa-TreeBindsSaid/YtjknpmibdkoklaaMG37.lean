/- Functions of the given program as Lean functions, each with its contract, and what they answer; words for it. No condition but those of each. -/
import Derived.Test.YtjknpmibdkoklaaMG14
import Derived.Test.YtjknpmibdkoklaaMG2
import Derived.LoopTactic
import Derived.Shelf.Abstract
set_option maxRecDepth 100000
namespace Go.Proofs.Ytjknpmibdkoklaa.Q
open Go.RowKit Go.Proofs.YtjknpmibdkoklaaW.PrintWords Go.Proofs.YtjknpmibdkoklaaW.PrintLast Go.Proofs.YtjknpmibdkoklaaW.PrintMore
open Aside0 (mk)
mutual
def plainF : S39 → Bool
  | ⟨a, _, _, _, q⟩ => (a != 7) && ((a != 8) && plainFs q)
def plainFs : List S39 → Bool
  | [] => true
  | t :: l => plainF t && plainFs l
end
theorem plainF_eq (t : S39) : plainF t = ((t.f0 != 7) && ((t.f0 != 8) && plainFs t.f4)) := by cases t; rw [plainF]
theorem plainFs_drop {l : List S39} {i : Nat} (h : i < l.length) : plainFs (l.drop i) = (plainF l[i] && plainFs (l.drop (i + 1))) := by
  rw [List.drop_eq_getElem_cons h, plainFs]
set_option maxHeartbeats 8000000 in
theorem idxP_calls (l0 : List S39) (A0 : Option Addr) (c0 : Nat) (w : World) (hr0 : Kd.C k39 w A0 l0.length l0)
    (ih : ∀ (i : Nat) (h0 : i < l0.length) (Af3 : Option Addr) (af3 : Nat) (Af4 : Option Addr) (af4 : Nat) (W : World), Below w.heap.size w W → Kd.C k66 W Af3 l0[i].f3.length l0[i].f3 → l0[i].f3.length ≤ af3 → Kd.C k39 W Af4 l0[i].f4.length l0[i].f4 → l0[i].f4.length ≤ af4 → Calls Try.prog 120 #[.agg #[.int .i64 l0[i].f0, .string l0[i].f1, .int .i64 l0[i].f2, .slice Af3 l0[i].f3.length af3, .slice Af4 l0[i].f4.length af4]] W fun e w' => e = .returned (.bool (!plainF l0[i])) ∧ Below W.heap.size W w') :
    Calls Try.prog 163 #[.slice A0 l0.length c0, .func (.func 120) #[] #[]] w fun e w' => ∃ r : Int, e = .returned (.int .i64 r) ∧ decide (0 ≤ r) = (!plainFs l0) ∧ Below w.heap.size w w' := by
  have hu66 := Try.underlying66
  have hu39 := Try.underlying39
  have IH := mk ih
  have hlen0 := hr0.2.1
  clear ih
  have HR0 := mk hr0
  clear hr0
  have HB0 := mk (Below.refl w.heap.size w)
  go_enter Try.func163, Try.ntmps163
  go_wp2
  go_loopg [8] l0.length (fun gq v8 wr => ∃ (i : Nat), v8 = .int .i64 i ∧ Aside0 (i ≤ l0.length) ∧ Aside0 (l0.length - i ≤ gq) ∧ Aside0 (plainFs (l0.drop i) = plainFs l0) ∧ Aside0 (Below w.heap.size w wr))
  case atStart => exact ⟨0, rfl, ⟨Nat.zero_le _⟩, ⟨by omega⟩, ⟨by rw [List.drop_zero]⟩, ⟨HB0.out⟩⟩
  case round =>
    obtain ⟨i, rfl, HI, HQ, HM, HB⟩ := hrel
    by_cases hi : i < l0.length
    · have hiz : (i : Int) < (l0.length : Int) := by omega
      have hi0 : (0 : Int) ≤ (i : Int) := by omega
      obtain ⟨ad, Af3, af3, Af4, af4, ae, ax0, ax1, ax2, ax3, ax4, alf3, aif3, alf4, aif4⟩ := at_T39 HR0.out (i : Int) hi0 hiz
      cases ae
      have ahx : rd_T39 l0 (i : Int) = l0[i] := by simp [rd_T39, hi]
      rw [ahx] at ax0 ax1 ax2 ax3 ax4 alf3 aif3 alf4 aif4
      rw [Int.toNat_natCast] at ax0 ax1 ax2 ax3 ax4
      replace ax0 := (HB.out.cell (World.block_lt_of_cell? _ _ ax0)).trans ax0
      replace ax1 := (HB.out.cell (World.block_lt_of_cell? _ _ ax1)).trans ax1
      replace ax2 := (HB.out.cell (World.block_lt_of_cell? _ _ ax2)).trans ax2
      replace ax3 := (HB.out.cell (World.block_lt_of_cell? _ _ ax3)).trans ax3
      replace ax4 := (HB.out.cell (World.block_lt_of_cell? _ _ ax4)).trans ax4
      have hcall := fun (W : World) (hW : Below w.heap.size w W) => IH.out i hi Af3 af3 Af4 af4 W hW (Kd.C_below aif3 hW) alf3 (Kd.C_below aif4 hW) alf4
      have HMD := mk ((plainFs_drop hi).symm.trans HM.out)
      have HCALL := mk hcall
      clear hcall HM ahx alf3 aif3 alf4 aif4
      generalize l0[i] = x at ax0 ax1 ax2 ax3 ax4 HMD HCALL
      cases hy : plainF x with
      | true =>
        rw [hy] at HMD HCALL
        go_wp2_with (go_at_call 120; refine (HCALL.out _ HB.out).mono ?_; rintro e w6 ⟨rfl, hb⟩; have HB6 := mk (below_step HB.out hb); clear hb)
        go_roundg (l0.length - (i + 1))
        case measure => have := HQ.out; omega
        case rel => exact ⟨i + 1, by first | rfl | rw [show wrap64 ((i : Int) + 1) = ((i + 1 : Nat) : Int) from by unfold wrap64; omega], ⟨by omega⟩, ⟨by omega⟩, ⟨by have := HMD.out; simpa using this⟩, HB6⟩
      | false =>
        rw [hy] at HMD HCALL
        go_wp2_with (go_at_call 120; refine (HCALL.out _ HB.out).mono ?_; rintro e w6 ⟨rfl, hb⟩; have HB6 := mk (below_step HB.out hb); clear hb)
        go_ret
        exact ⟨_, rfl, by rw [← HMD.out]; simp, HB6.out⟩
    · have hiz : ¬ (i : Int) < (l0.length : Int) := by omega
      have HE := mk (show plainFs l0 = true by rw [← HM.out, List.drop_of_length_le (by omega)]; rfl)
      clear HM hi
      go_wp2
      go_ret
      exact ⟨_, rfl, by rw [HE.out]; rfl, HB.out⟩
set_option maxHeartbeats 8000000 in
theorem hasP_calls (l0 : List S39) (A0 : Option Addr) (c0 : Nat) (w : World) (hr0 : Kd.C k39 w A0 l0.length l0)
    (ih : ∀ (i : Nat) (h0 : i < l0.length) (Af3 : Option Addr) (af3 : Nat) (Af4 : Option Addr) (af4 : Nat) (W : World), Below w.heap.size w W → Kd.C k66 W Af3 l0[i].f3.length l0[i].f3 → l0[i].f3.length ≤ af3 → Kd.C k39 W Af4 l0[i].f4.length l0[i].f4 → l0[i].f4.length ≤ af4 → Calls Try.prog 120 #[.agg #[.int .i64 l0[i].f0, .string l0[i].f1, .int .i64 l0[i].f2, .slice Af3 l0[i].f3.length af3, .slice Af4 l0[i].f4.length af4]] W fun e w' => e = .returned (.bool (!plainF l0[i])) ∧ Below W.heap.size W w') :
    Calls Try.prog 119 #[.slice A0 l0.length c0, .func (.func 120) #[] #[]] w fun e w' => e = .returned (.bool (!plainFs l0)) ∧ Below w.heap.size w w' := by
  have HI := mk (idxP_calls l0 A0 c0 w hr0 ih)
  have HI2 := mk (fun (W : World) (h : Below w.heap.size w W) => idxP_calls l0 A0 c0 W (Kd.C_below hr0 h) (fun i h0 a b c d W2 h2 => ih i h0 a b c d W2 (below_step h h2)))
  clear ih hr0
  go_enter Try.func119, Try.ntmps119
  go_wp2_with (go_at_call 163; refine (HI2.out _ (by repeat (first | exact Below.refl _ _ | apply below_alloc | apply pw_below_drewN | apply below_drew1))).mono ?_; rintro e w6 ⟨r, rfl, hd, hb⟩; have HB6 := mk hb; have HD := mk hd; clear hb hd)
  go_ret
  exact ⟨by rw [← HD.out]; rfl, by first | exact HB6.out | exact below_step (by repeat (first | exact Below.refl _ _ | apply below_alloc | apply pw_below_drewN | apply below_drew1)) HB6.out⟩
set_option maxHeartbeats 8000000 in
theorem plain_calls : ∀ (n : Nat) (t : S39), SizeOf.sizeOf t < n → ∀ (Af3 : Option Addr) (af3 : Nat) (Af4 : Option Addr) (af4 : Nat) (w : World), Kd.C k66 w Af3 t.f3.length t.f3 → t.f3.length ≤ af3 → Kd.C k39 w Af4 t.f4.length t.f4 → t.f4.length ≤ af4 →
    Calls Try.prog 80 #[.agg #[.int .i64 t.f0, .string t.f1, .int .i64 t.f2, .slice Af3 t.f3.length af3, .slice Af4 t.f4.length af4]] w fun e w' => e = .returned (.bool (plainF t)) ∧ Below w.heap.size w w' := by
  intro n
  induction n with
  | zero => exact fun t h => absurd h (Nat.not_lt_zero _)
  | succ n ih =>
  intro t ht Af3 af3 Af4 af4 w hr3 hc3 hr4 hc4
  have hu66 := Try.underlying66
  have hu39 := Try.underlying39
  have one : ∀ (u : S39), SizeOf.sizeOf u < n → ∀ (Af3 : Option Addr) (af3 : Nat) (Af4 : Option Addr) (af4 : Nat) (w : World), Kd.C k66 w Af3 u.f3.length u.f3 → u.f3.length ≤ af3 → Kd.C k39 w Af4 u.f4.length u.f4 → u.f4.length ≤ af4 →
      Calls Try.prog 120 #[.agg #[.int .i64 u.f0, .string u.f1, .int .i64 u.f2, .slice Af3 u.f3.length af3, .slice Af4 u.f4.length af4]] w fun e w' => e = .returned (.bool (!plainF u)) ∧ Below w.heap.size w w' := by
    intro u hu Af3 af3 Af4 af4 w hr3 hc3 hr4 hc4
    have HI := mk (fun (W : World) (h : Below w.heap.size w W) => ih u hu Af3 af3 Af4 af4 W (Kd.C_below hr3 h) hc3 (Kd.C_below hr4 h) hc4)
    clear ih hr3 hr4 hc3 hc4
    go_enter Try.func120, Try.ntmps120
    go_wp2_with (first | ((with_reducible refine gate_dst (N := 1) rfl ?_); refine box_event ?hg (N := 1) ?hd (cs := #[.int .i64 u.f0, .string u.f1, .int .i64 u.f2, .slice Af3 u.f3.length af3, .slice Af4 u.f4.length af4]) (t := 39) ?hr ?_; (case hd => rfl); (case hg => rfl); (case hr => first | (go_simp; done) | (go_simp; rfl)); intro g2 hg2 w2 hbox hb; have BK2 := mk hbox; have HB2 := mk (below_step (Below.refl w.heap.size w) hb); clear hb hbox hg2; have xc0 : w2.cell? ⟨g2, 0, none⟩ = some (.int .i64 u.f0) := (blk_cell BK2.out 0).trans rfl; have xc1 : w2.cell? ⟨g2, 1, none⟩ = some (.string u.f1) := (blk_cell BK2.out 1).trans rfl; have xc2 : w2.cell? ⟨g2, 2, none⟩ = some (.int .i64 u.f2) := (blk_cell BK2.out 2).trans rfl; have xc3 : w2.cell? ⟨g2, 3, none⟩ = some (.slice Af3 u.f3.length af3) := (blk_cell BK2.out 3).trans rfl; have xc4 : w2.cell? ⟨g2, 4, none⟩ = some (.slice Af4 u.f4.length af4) := (blk_cell BK2.out 4).trans rfl) | (go_at_call 80; refine (HI.out _ (by repeat (first | exact HB2.out | apply below_alloc | apply pw_below_drewN | apply below_drew1))).mono ?_; rintro e w6 ⟨rfl, hb⟩; have HB6 := mk (below_step HB2.out hb); clear hb))
    go_ret
    exact ⟨rfl, HB6.out⟩
  have HI := mk (fun (W : World) (h : Below w.heap.size w W) => hasP_calls t.f4 Af4 af4 W (Kd.C_below hr4 h) (fun i h0 a b c d W2 h2 r3 c3 r4 c4 => one t.f4[i] (by have h1 := List.sizeOf_lt_of_mem (List.getElem_mem h0); have h2 : SizeOf.sizeOf t.f4 < SizeOf.sizeOf t := (by cases t; simp; omega); omega) a b c d W2 r3 c3 r4 c4))
  clear one ih ht hr3 hr4 hc3 hc4
  rw [plainF_eq]
  by_cases h7 : t.f0 = 7
  · have b7 : (t.f0 != 7) = false := bne_eq_false_iff_eq.mpr h7
    rw [b7]
    go_enter Try.func80, Try.ntmps80
    go_wp2_with (first | ((with_reducible refine gate_dst (N := 1) rfl ?_); refine box_event ?hg (N := 1) ?hd (cs := #[.int .i64 t.f0, .string t.f1, .int .i64 t.f2, .slice Af3 t.f3.length af3, .slice Af4 t.f4.length af4]) (t := 39) ?hr ?_; (case hd => rfl); (case hg => rfl); (case hr => first | (go_simp; done) | (go_simp; rfl)); intro g2 hg2 w2 hbox hb; have BK2 := mk hbox; have HB2 := mk (below_step (Below.refl w.heap.size w) hb); clear hb hbox hg2; have xc0 : w2.cell? ⟨g2, 0, none⟩ = some (.int .i64 t.f0) := (blk_cell BK2.out 0).trans rfl; have xc4 : w2.cell? ⟨g2, 4, none⟩ = some (.slice Af4 t.f4.length af4) := (blk_cell BK2.out 4).trans rfl))
    go_ret
    exact ⟨rfl, by repeat (first | exact HB2.out | apply below_alloc | apply pw_below_drewN | apply below_drew1)⟩
  · have b7 : (t.f0 != 7) = true := bne_iff_ne.mpr h7
    by_cases h8 : t.f0 = 8
    · have b8 : (t.f0 != 8) = false := bne_eq_false_iff_eq.mpr h8
      rw [b7, b8]
      go_enter Try.func80, Try.ntmps80
      go_wp2_with (first | ((with_reducible refine gate_dst (N := 1) rfl ?_); refine box_event ?hg (N := 1) ?hd (cs := #[.int .i64 t.f0, .string t.f1, .int .i64 t.f2, .slice Af3 t.f3.length af3, .slice Af4 t.f4.length af4]) (t := 39) ?hr ?_; (case hd => rfl); (case hg => rfl); (case hr => first | (go_simp; done) | (go_simp; rfl)); intro g2 hg2 w2 hbox hb; have BK2 := mk hbox; have HB2 := mk (below_step (Below.refl w.heap.size w) hb); clear hb hbox hg2; have xc0 : w2.cell? ⟨g2, 0, none⟩ = some (.int .i64 t.f0) := (blk_cell BK2.out 0).trans rfl; have xc4 : w2.cell? ⟨g2, 4, none⟩ = some (.slice Af4 t.f4.length af4) := (blk_cell BK2.out 4).trans rfl))
      go_ret
      exact ⟨rfl, by repeat (first | exact HB2.out | apply below_alloc | apply pw_below_drewN | apply below_drew1)⟩
    · have b8 : (t.f0 != 8) = true := bne_iff_ne.mpr h8
      rw [b7, b8]
      go_enter Try.func80, Try.ntmps80
      go_wp2_with (first | ((with_reducible refine gate_dst (N := 1) rfl ?_); refine box_event ?hg (N := 1) ?hd (cs := #[.int .i64 t.f0, .string t.f1, .int .i64 t.f2, .slice Af3 t.f3.length af3, .slice Af4 t.f4.length af4]) (t := 39) ?hr ?_; (case hd => rfl); (case hg => rfl); (case hr => first | (go_simp; done) | (go_simp; rfl)); intro g2 hg2 w2 hbox hb; have BK2 := mk hbox; have HB2 := mk (below_step (Below.refl w.heap.size w) hb); clear hb hbox hg2; have xc0 : w2.cell? ⟨g2, 0, none⟩ = some (.int .i64 t.f0) := (blk_cell BK2.out 0).trans rfl; have xc4 : w2.cell? ⟨g2, 4, none⟩ = some (.slice Af4 t.f4.length af4) := (blk_cell BK2.out 4).trans rfl) | (go_at_call 119; refine (HI.out _ (by repeat (first | exact HB2.out | apply below_alloc | apply pw_below_drewN | apply below_drew1))).mono ?_; rintro e w6 ⟨rfl, hb⟩; have HB6 := mk (below_step (by repeat (first | exact HB2.out | apply below_alloc | apply pw_below_drewN | apply below_drew1)) hb); clear hb))
      go_ret
      exact ⟨by simp, by first | exact HB6.out | (repeat (first | exact HB6.out | apply below_alloc | apply pw_below_drewN | apply below_drew1))⟩
def tree_plain.f (a0_0 : Int) (a0_1 : ByteArray) (a0_2 : Int) (l0_3 : List (S66)) (l0_4 : List (S39)) : Option Bool := some (plainF ⟨a0_0, a0_1, a0_2, l0_3, l0_4⟩)
theorem tree_plain.calls (a0_0 : Int) (a0_1 : ByteArray) (a0_2 : Int) (A0_3 : Option Addr) (c0_3 : Nat) (l0_3 : List (S66)) (A0_4 : Option Addr) (c0_4 : Nat) (l0_4 : List (S39)) (r : Bool) (w : World) (hr0_3 : Kd.C k66 w A0_3 l0_3.length l0_3) (hc0_3 : l0_3.length ≤ c0_3) (hr0_4 : Kd.C k39 w A0_4 l0_4.length l0_4) (hc0_4 : l0_4.length ≤ c0_4) (h : tree_plain.f a0_0 a0_1 a0_2 l0_3 l0_4 = some r) :
    Calls Try.prog 80 #[.agg #[.int .i64 a0_0, .string a0_1, .int .i64 a0_2, .slice A0_3 l0_3.length c0_3, .slice A0_4 l0_4.length c0_4]] w fun e w' => e = .returned (.bool r) ∧ Below w.heap.size w w' := by
  have h1 := Option.some.inj h
  have := plain_calls _ ⟨a0_0, a0_1, a0_2, l0_3, l0_4⟩ (Nat.lt_succ_self _) A0_3 c0_3 A0_4 c0_4 w hr0_3 hc0_3 hr0_4 hc0_4
  rw [h1] at this
  exact this
end Go.Proofs.Ytjknpmibdkoklaa.Q
