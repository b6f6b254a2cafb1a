/- Functions of the given program as Lean functions, each with its contract, and what they answer; words for it. No condition but those of each. -/
import Derived.Test.YtjknpmibdkoklaaMJ4
import Derived.Test.YtjknpmibdkoklaaMJ8
import Derived.Test.YtjknpmibdkoklaaMJ9
namespace Go.Proofs.Ytjknpmibdkoklaa.G
open Go.RowKit Go.Proofs.YtjknpmibdkoklaaW.PrintWords Go.Proofs.YtjknpmibdkoklaaW.PrintLast Go.Proofs.YtjknpmibdkoklaaW.PrintMore
attribute [local go_sem] max2_int min2_int max_two min_two max_three min_three max_four min_four
set_option linter.unusedVariables false
set_option linter.unusedSimpArgs false
def tabardref04_Together.l0 : Nat → List ByteArray → List ByteArray → Int → Option (List ByteArray)
  | 0, _, _, _ => none
  | k + 1, x0, x3, x4 => if x4 < (x0.length : Int) then (if 0 ≤ x4 then ((tabardref04_put.f k x3 (rdOf ByteArray.empty x0 x4)).bind fun t267 => (tabardref04_Together.l0 k x0 t267 (wrap64 (x4 + 1)))) else (none)) else (some x3)
def tabardref04_Together.f (k : Nat) (l0 : List ByteArray) : Option (List ByteArray) := tabardref04_Together.l0 k l0 ([] : List ByteArray) 0
theorem tabardref04_Together.mono_l : ∀ k, (∀ y0 y1 y2, LeO (tabardref04_Together.l0 k y0 y1 y2) (tabardref04_Together.l0 (k + 1) y0 y1 y2))
  | 0 => fun _ _ _ r h => by simp [tabardref04_Together.l0] at h
  | k + 1 => by
    have ih0 := tabardref04_Together.mono_l k
    · intro y0 y1 y2; (unfold tabardref04_Together.l0)
      repeat' first
      | (with_reducible exact ih0 _ _ _)
      | (with_reducible exact tabardref04_put.mono _ _ _)
      | (with_reducible exact LeO.refl _)
      | (with_reducible exact LeO.none _)
      | (with_reducible refine LeO.ite ?_ ?_)
      | (with_reducible refine LeO.bind ?_ (fun _ => ?_))
      | exact ih0 _ _ _
      | exact tabardref04_put.mono _ _ _
      | exact LeO.none _
      | refine LeO.ite ?_ ?_
      | refine LeO.bind ?_ (fun _ => ?_)
theorem tabardref04_Together.mono : ∀ a0 k, LeO (tabardref04_Together.f k a0) (tabardref04_Together.f (k + 1) a0) := by
  intro a0 k
  have ih0 := tabardref04_Together.mono_l k
  unfold tabardref04_Together.f
  repeat' first
      | (with_reducible exact ih0 _ _ _)
      | (with_reducible exact tabardref04_put.mono _ _ _)
      | (with_reducible exact LeO.refl _)
      | (with_reducible exact LeO.none _)
      | (with_reducible refine LeO.ite ?_ ?_)
      | (with_reducible refine LeO.bind ?_ (fun _ => ?_))
      | exact ih0 _ _ _
      | exact tabardref04_put.mono _ _ _
      | exact LeO.none _
      | refine LeO.ite ?_ ?_
      | refine LeO.bind ?_ (fun _ => ?_)
set_option maxHeartbeats 8000000 in
set_option maxRecDepth 100000 in
theorem tabardref04_Together.calls (k : Nat) (A0 : Option Addr) (c0 : Nat) (l0 : List ByteArray) (r : List ByteArray) (w : World) (hr0 : Kd.C Kd.string w A0 l0.length l0) (hc0 : l0.length ≤ c0) (h : tabardref04_Together.f k l0 = some r) :
    Calls Try.prog 65 #[.slice A0 l0.length c0] w fun e w' => ∃ v0_ : Value, e = .returned (v0_) ∧ Kd.R Kd.string 9 w' w.heap.size (fun _ => True) v0_ r ∧ Below w.heap.size w w' := by
  have HR0 := Aside0.mk hr0
  have HC0 := Aside0.mk hc0
  clear hr0 hc0
  have HB := Aside0.mk (Below.refl w.heap.size w)
  have H : (tabardref04_Together.l0 k l0 ([] : List ByteArray) 0) = some r := h
  clear h
  have H' := Aside0.mk H
  clear H
  go_enter Try.func65, Try.ntmps65
  go_wp2
  go_loopg [3, 4] k (fun kq v3 v4 w' => ∃ (x3_1 : List ByteArray) (x4_1 : Int), v4 = .int .i64 x4_1 ∧ Aside0 (tabardref04_Together.l0 kq l0 x3_1 x4_1 = some r) ∧ Aside0 (kq ≤ k) ∧ Aside0 (Kd.R Kd.string 9 w' w.heap.size (fun _ => True) v3 x3_1) ∧ Aside0 (Below w.heap.size w w'))
  case atStart => exact ⟨(([] : List ByteArray)), (0), (by first | rfl | (simp; done) | (simp [*]; done)), H', ⟨Nat.le_refl _⟩, ⟨by first | exact Kd.R_nil _ _ _ _ _ | exact Kd.N_nil _ _ _ _ _ | exact Kd.V_nil _ _ _ _ _ | exact Kd.Q_nil _ _ _ _ _ | exact Kd.S_nil _ _ _ _ _⟩, ⟨by repeat (first | (with_reducible first | exact HB.out | apply below_alloc | apply pw_below_drewN | apply below_drew1) | exact HB.out)⟩⟩
  case round =>
    clear H'
    obtain ⟨x3_1, x4_1, rfl, HA, HK1, HO_3, HB⟩ := hrel
    cases gk with
    | zero => exact absurd HA.out (by simp [tabardref04_Together.l0])
    | succ k1 =>
      (have H := HA.out); clear HA; (simp only [tabardref04_Together.l0] at H); (by_cases c2 : x4_1 < (l0.length : Int))
      · (rw [if_pos c2] at H); (have c2b0 : decide (x4_1 < (l0.length : Int)) = true := decide_eq_true c2); clear c2; (by_cases c3 : 0 ≤ x4_1)
        · (rw [if_pos c3] at H); (have c3b0 : decide (0 ≤ x4_1) = true := decide_eq_true c3); clear c3; (replace H := Option.bind_eq_some_iff.mp H); (obtain ⟨t267, A40, H⟩ := H); (replace H : (tabardref04_Together.l0 k1 l0 t267 (wrap64 (x4_1 + 1))) = some r := H); (have A4 := Aside0.mk A40); clear A40; (have H' := Aside0.mk H); clear H; (have p266 : 0 ≤ (x4_1 : Int) := of_decide_eq_true (by first | (with_reducible assumption) | assumption)); (have q266 : x4_1 < (l0.length : Int) := of_decide_eq_true (by first | (with_reducible assumption) | assumption)); (obtain ⟨ad266, e266, hx266_0⟩ := Kd.at_string HR0.out x4_1 p266 q266); cases e266; (replace hx266_0 := (HB.out.cell (World.block_lt_of_cell? w _ hx266_0)).trans hx266_0); replace p266 := eq_true p266; replace q266 := eq_true q266; (obtain ⟨Ao5, co5, eo5⟩ := Kd.R_slice HO_3.out); subst eo5; (go_wp2_with (first | ((with_reducible refine gate_callee (f := 109) rfl ?_); refine goesL_ (some 16) rfl rfl Try.func109 (by kernel_rfl) rfl #[.slice Ao5 x3_1.length co5, .string (rdOf ByteArray.empty l0 x4_1)] rfl (by (try simp only [List.map_toArray, List.map_cons, List.map_nil]); first | done | rfl | (simp only [List.length_drop, List.length_take]; rfl)) ?_; (with_reducible refine (tabardref04_put.calls k1 _ _ x3_1 (rdOf ByteArray.empty l0 x4_1) t267 _ ?side1 ?side2 A4.out).mono ?_); (case side1 => repeat (first | exact (Kd.R_reads' HO_3.out).2.2 | (with_reducible refine Kd.C_alloc ?_ _) | (with_reducible refine Kd.C_drewN ?_ _) | (with_reducible refine Kd.C_drew ?_))); (case side2 => exact (Kd.R_reads' HO_3.out).2.1); rintro e w6 ⟨v268, rfl, ho0, hb⟩; refine ⟨_, rfl, ?_⟩; have n0_ := Aside0.mk (Kd.R_elder' (by (with_reducible repeat (first | apply Kd.R_alloc | apply Kd.R_drewN | apply Kd.R_drew)); exact HO_3.out) (Kd.R_base ho0) hb); have n1_ := Aside0.mk (Kd.R_lower (Kd.R_new' ho0 (Kd.R_lt (by (with_reducible repeat (first | apply Kd.R_alloc | apply Kd.R_drewN | apply Kd.R_drew)); exact HO_3.out))) (below_size (by repeat (first | (with_reducible first | exact HB.out | apply below_alloc | apply pw_below_drewN | apply below_drew1) | exact HB.out)))); have n2_ := Aside0.mk (below_step (by repeat (first | (with_reducible first | exact HB.out | apply below_alloc | apply pw_below_drewN | apply below_drew1) | exact HB.out)) hb); clear HO_3; clear HB; have HO_3 := n0_; have HO269 := n1_; have HB := n2_; clear n0_ n1_ n2_; (try clear hb); (try clear hb2); (try clear hk); (try clear hi); (try clear ho0)))); (go_roundg k1)
          case measure => have := HK1.out; omega
          case rel => exact ⟨(t267), (wrap64 (x4_1 + 1)), (by first | rfl | (simp; done) | (simp [*]; done)), H', ⟨by have := HK1.out; omega⟩, ⟨by (with_reducible repeat (first | apply Kd.R_alloc | apply Kd.R_drewN | apply Kd.R_drew)); exact Kd.R_mono HO269.out (fun _ hk => trivial)⟩, ⟨by repeat (first | (with_reducible first | exact HB.out | apply below_alloc | apply pw_below_drewN | apply below_drew1) | exact HB.out)⟩⟩
        · (rw [if_neg c3] at H); (exact absurd H (by simp))
      · (rw [if_neg c2] at H); (have c2b0 : decide (x4_1 < (l0.length : Int)) = false := decide_eq_false c2); clear c2; (obtain rfl := Option.some.inj H); go_wp2; go_ret; (exact ⟨_, by first | rfl | (simp [*, errW_none, errW_some] <;> rfl), by (with_reducible repeat (first | apply Kd.R_alloc | apply Kd.R_drewN | apply Kd.R_drew)); exact HO_3.out, by repeat (first | (with_reducible first | exact HB.out | apply below_alloc | apply pw_below_drewN | apply below_drew1) | exact HB.out)⟩)
def tabardref04_Sorted.l0 : Nat → List ByteArray → Int → Option (List ByteArray × Int)
  | 0, _, _ => none
  | k + 1, x0, x4 => if x4 < (x0.length : Int) then (if 0 ≤ x4 then ((tabardref04_Name.f k (rdOf ByteArray.empty x0 x4)).bind fun t271 => (if t271 = true then (tabardref04_Sorted.l0 k x0 (wrap64 (x4 + 1))) else (some (([] : List ByteArray), 6)))) else (none)) else ((tabardref04_Together.f k x0).bind fun t272 => (if (t272.length : Int) = (x0.length : Int) then (some (t272, 0)) else (some (([] : List ByteArray), 5))))
def tabardref04_Sorted.f (k : Nat) (l0 : List ByteArray) : Option (List ByteArray × Int) := tabardref04_Sorted.l0 k l0 0
theorem tabardref04_Sorted.mono_l : ∀ k, (∀ y0 y1, LeO (tabardref04_Sorted.l0 k y0 y1) (tabardref04_Sorted.l0 (k + 1) y0 y1))
  | 0 => fun _ _ r h => by simp [tabardref04_Sorted.l0] at h
  | k + 1 => by
    have ih0 := tabardref04_Sorted.mono_l k
    · intro y0 y1; (unfold tabardref04_Sorted.l0)
      repeat' first
      | (with_reducible exact ih0 _ _)
      | (with_reducible exact tabardref04_Name.mono _ _)
      | (with_reducible exact tabardref04_Together.mono _ _)
      | (with_reducible exact LeO.refl _)
      | (with_reducible exact LeO.none _)
      | (with_reducible refine LeO.ite ?_ ?_)
      | (with_reducible refine LeO.bind ?_ (fun _ => ?_))
      | exact ih0 _ _
      | exact tabardref04_Name.mono _ _
      | exact tabardref04_Together.mono _ _
      | exact LeO.none _
      | refine LeO.ite ?_ ?_
      | refine LeO.bind ?_ (fun _ => ?_)
theorem tabardref04_Sorted.mono : ∀ a0 k, LeO (tabardref04_Sorted.f k a0) (tabardref04_Sorted.f (k + 1) a0) := by
  intro a0 k
  have ih0 := tabardref04_Sorted.mono_l k
  unfold tabardref04_Sorted.f
  repeat' first
      | (with_reducible exact ih0 _ _)
      | (with_reducible exact tabardref04_Name.mono _ _)
      | (with_reducible exact tabardref04_Together.mono _ _)
      | (with_reducible exact LeO.refl _)
      | (with_reducible exact LeO.none _)
      | (with_reducible refine LeO.ite ?_ ?_)
      | (with_reducible refine LeO.bind ?_ (fun _ => ?_))
      | exact ih0 _ _
      | exact tabardref04_Name.mono _ _
      | exact tabardref04_Together.mono _ _
      | exact LeO.none _
      | refine LeO.ite ?_ ?_
      | refine LeO.bind ?_ (fun _ => ?_)
set_option maxHeartbeats 8000000 in
set_option maxRecDepth 100000 in
theorem tabardref04_Sorted.calls (k : Nat) (A0 : Option Addr) (c0 : Nat) (l0 : List ByteArray) (r1 : List ByteArray) (r2 : Int) (w : World) (hr0 : Kd.C Kd.string w A0 l0.length l0) (hc0 : l0.length ≤ c0) (h : tabardref04_Sorted.f k l0 = some (r1, r2)) :
    Calls Try.prog 20 #[.slice A0 l0.length c0] w fun e w' => ∃ v0_ : Value, e = .returned (.tuple #[v0_, .int .i64 r2]) ∧ Kd.R Kd.string 9 w' w.heap.size (fun _ => True) v0_ r1 ∧ Below w.heap.size w w' := by
  have HR0 := Aside0.mk hr0
  have HC0 := Aside0.mk hc0
  clear hr0 hc0
  have HB := Aside0.mk (Below.refl w.heap.size w)
  have H : (tabardref04_Sorted.l0 k l0 0) = some (r1, r2) := h
  clear h
  have H' := Aside0.mk H
  clear H
  go_enter Try.func20, Try.ntmps20
  go_wp2
  go_loopg [4] k (fun kq v4 w' => ∃ (x4_1 : Int), v4 = .int .i64 x4_1 ∧ Aside0 (tabardref04_Sorted.l0 kq l0 x4_1 = some (r1, r2)) ∧ Aside0 (kq ≤ k) ∧ Aside0 (Below w.heap.size w w'))
  case atStart => exact ⟨(0), (by first | rfl | (simp; done) | (simp [*]; done)), H', ⟨Nat.le_refl _⟩, ⟨by repeat (first | (with_reducible first | exact HB.out | apply below_alloc | apply pw_below_drewN | apply below_drew1) | exact HB.out)⟩⟩
  case round =>
    clear H'
    obtain ⟨x4_1, rfl, HA, HK1, HB⟩ := hrel
    cases gk with
    | zero => exact absurd HA.out (by simp [tabardref04_Sorted.l0])
    | succ k1 =>
      (have H := HA.out); clear HA; (simp only [tabardref04_Sorted.l0] at H); (by_cases c2 : x4_1 < (l0.length : Int))
      · (rw [if_pos c2] at H); (have c2b0 : decide (x4_1 < (l0.length : Int)) = true := decide_eq_true c2); clear c2; (by_cases c3 : 0 ≤ x4_1)
        · (rw [if_pos c3] at H); (have c3b0 : decide (0 ≤ x4_1) = true := decide_eq_true c3); clear c3; (replace H := Option.bind_eq_some_iff.mp H); (obtain ⟨t271, A40, H⟩ := H); (replace H : (if t271 = true then (tabardref04_Sorted.l0 k1 l0 (wrap64 (x4_1 + 1))) else (some (([] : List ByteArray), 6))) = some (r1, r2) := H); (have A4 := Aside0.mk A40); clear A40; (by_cases c5 : t271 = true)
          · subst c5; (have H1 : (tabardref04_Sorted.l0 k1 l0 (wrap64 (x4_1 + 1))) = some (r1, r2) := by rw [if_pos rfl] at H; exact H); clear H; (have H := H1); clear H1; (have H' := Aside0.mk H); clear H; (have p270 : 0 ≤ (x4_1 : Int) := of_decide_eq_true (by first | (with_reducible assumption) | assumption)); (have q270 : x4_1 < (l0.length : Int) := of_decide_eq_true (by first | (with_reducible assumption) | assumption)); (obtain ⟨ad270, e270, hx270_0⟩ := Kd.at_string HR0.out x4_1 p270 q270); cases e270; (replace hx270_0 := (HB.out.cell (World.block_lt_of_cell? w _ hx270_0)).trans hx270_0); replace p270 := eq_true p270; replace q270 := eq_true q270; (go_wp2_with (first | ((with_reducible refine gate_callee (f := 64) rfl ?_); refine goesL_ (some 16) rfl rfl Try.func64 (by kernel_rfl) rfl #[.string (rdOf ByteArray.empty l0 x4_1)] rfl (by (try simp only [List.map_toArray, List.map_cons, List.map_nil]); first | done | rfl | (simp only [List.length_drop, List.length_take]; rfl)) ?_; (with_reducible refine (tabardref04_Name.calls k1 (rdOf ByteArray.empty l0 x4_1) true _ A4.out).mono ?_); rintro e w6 ⟨rfl, hb⟩; refine ⟨_, rfl, ?_⟩; have n0_ := Aside0.mk (below_step (by repeat (first | (with_reducible first | exact HB.out | apply below_alloc | apply pw_below_drewN | apply below_drew1) | exact HB.out)) hb); clear HB; have HB := n0_; clear n0_; (try clear hb); (try clear hb2); (try clear hk); (try clear hi)))); (go_roundg k1)
            case measure => have := HK1.out; omega
            case rel => exact ⟨(wrap64 (x4_1 + 1)), (by first | rfl | (simp; done) | (simp [*]; done)), H', ⟨by have := HK1.out; omega⟩, ⟨by repeat (first | (with_reducible first | exact HB.out | apply below_alloc | apply pw_below_drewN | apply below_drew1) | exact HB.out)⟩⟩
          · (replace c5 := Bool.eq_false_iff.mpr c5); subst c5; (have H1 : (some (([] : List ByteArray), 6)) = some (r1, r2) := by rw [if_neg (show ¬ (false = true) by decide)] at H; exact H); clear H; (have H := H1); clear H1; (simp only [Option.some.injEq, Prod.mk.injEq] at H); (obtain ⟨rfl, rfl⟩ := H); (have p270 : 0 ≤ (x4_1 : Int) := of_decide_eq_true (by first | (with_reducible assumption) | assumption)); (have q270 : x4_1 < (l0.length : Int) := of_decide_eq_true (by first | (with_reducible assumption) | assumption)); (obtain ⟨ad270, e270, hx270_0⟩ := Kd.at_string HR0.out x4_1 p270 q270); cases e270; (replace hx270_0 := (HB.out.cell (World.block_lt_of_cell? w _ hx270_0)).trans hx270_0); replace p270 := eq_true p270; replace q270 := eq_true q270; (go_wp2_with (first | ((with_reducible refine gate_callee (f := 64) rfl ?_); refine goesL_ (some 16) rfl rfl Try.func64 (by kernel_rfl) rfl #[.string (rdOf ByteArray.empty l0 x4_1)] rfl (by (try simp only [List.map_toArray, List.map_cons, List.map_nil]); first | done | rfl | (simp only [List.length_drop, List.length_take]; rfl)) ?_; (with_reducible refine (tabardref04_Name.calls k1 (rdOf ByteArray.empty l0 x4_1) false _ A4.out).mono ?_); rintro e w7 ⟨rfl, hb⟩; refine ⟨_, rfl, ?_⟩; have n0_ := Aside0.mk (below_step (by repeat (first | (with_reducible first | exact HB.out | apply below_alloc | apply pw_below_drewN | apply below_drew1) | exact HB.out)) hb); clear HB; have HB := n0_; clear n0_; (try clear hb); (try clear hb2); (try clear hk); (try clear hi)))); go_ret2; (exact ⟨_, by first | rfl | (simp [*, errW_none, errW_some] <;> rfl), by first | exact Kd.R_nil _ _ _ _ _ | exact Kd.N_nil _ _ _ _ _ | exact Kd.V_nil _ _ _ _ _ | exact Kd.Q_nil _ _ _ _ _ | exact Kd.S_nil _ _ _ _ _, by repeat (first | (with_reducible first | exact HB.out | apply below_alloc | apply pw_below_drewN | apply below_drew1) | exact HB.out)⟩)
        · (rw [if_neg c3] at H); (exact absurd H (by simp))
      · (rw [if_neg c2] at H); (have c2b0 : decide (x4_1 < (l0.length : Int)) = false := decide_eq_false c2); clear c2; (replace H := Option.bind_eq_some_iff.mp H); (obtain ⟨t272, A80, H⟩ := H); (replace H : (if (t272.length : Int) = (l0.length : Int) then (some (t272, 0)) else (some (([] : List ByteArray), 5))) = some (r1, r2) := H); (have A8 := Aside0.mk A80); clear A80; (by_cases c9 : (t272.length : Int) = (l0.length : Int))
        · (rw [if_pos c9] at H); (have c9b0 : ((t272.length : Int) == (l0.length : Int)) = true := beq_iff_eq.mpr c9); (have c9b1 : ((t272.length : Int) != (l0.length : Int)) = false := bne_eq_false_iff_eq.mpr c9); (have c9b2 : (t272.length == l0.length) = true := by first | simpa using c9 | (simp at c9 ⊢; omega)); clear c9; (simp only [Option.some.injEq, Prod.mk.injEq] at H); (obtain ⟨rfl, rfl⟩ := H); (go_wp2_with (first | ((with_reducible refine gate_callee (f := 65) rfl ?_); refine goesL_ (some 19) rfl rfl Try.func65 (by kernel_rfl) rfl #[.slice A0 l0.length c0] rfl (by (try simp only [List.map_toArray, List.map_cons, List.map_nil]); first | done | rfl | (simp only [List.length_drop, List.length_take]; rfl)) ?_; (with_reducible refine (tabardref04_Together.calls k1 _ _ l0 t272 _ ?side1 ?side2 A8.out).mono ?_); (case side1 => repeat (first | exact (Kd.C_below HR0.out HB.out) | (with_reducible refine Kd.C_alloc ?_ _) | (with_reducible refine Kd.C_drewN ?_ _) | (with_reducible refine Kd.C_drew ?_))); (case side2 => exact HC0.out); rintro e w10 ⟨v273, rfl, ho0, hb⟩; refine ⟨_, rfl, ?_⟩; have n0_ := Aside0.mk (Kd.R_lower ho0 (below_size (by repeat (first | (with_reducible first | exact HB.out | apply below_alloc | apply pw_below_drewN | apply below_drew1) | exact HB.out)))); have n1_ := Aside0.mk (below_step (by repeat (first | (with_reducible first | exact HB.out | apply below_alloc | apply pw_below_drewN | apply below_drew1) | exact HB.out)) hb); clear HB; have HO274 := n0_; have HB := n1_; clear n0_ n1_; (try clear hb); (try clear hb2); (try clear hk); (try clear hi); (try clear ho0); obtain ⟨Ao11, co11, eo11⟩ := Kd.R_slice HO274.out; subst eo11))); go_ret2; (exact ⟨_, by first | rfl | (simp [*, errW_none, errW_some] <;> rfl), by (with_reducible repeat (first | apply Kd.R_alloc | apply Kd.R_drewN | apply Kd.R_drew)); exact HO274.out, by repeat (first | (with_reducible first | exact HB.out | apply below_alloc | apply pw_below_drewN | apply below_drew1) | exact HB.out)⟩)
        · (rw [if_neg c9] at H); (have c9b0 : ((t272.length : Int) == (l0.length : Int)) = false := beq_eq_false_iff_ne.mpr c9); (have c9b1 : ((t272.length : Int) != (l0.length : Int)) = true := bne_iff_ne.mpr c9); (have c9b2 : (t272.length == l0.length) = false := by first | simpa using c9 | (simp at c9 ⊢; omega)); (simp only [Option.some.injEq, Prod.mk.injEq] at H); (obtain ⟨rfl, rfl⟩ := H); (go_wp2_with (first | ((with_reducible refine gate_callee (f := 65) rfl ?_); refine goesL_ (some 19) rfl rfl Try.func65 (by kernel_rfl) rfl #[.slice A0 l0.length c0] rfl (by (try simp only [List.map_toArray, List.map_cons, List.map_nil]); first | done | rfl | (simp only [List.length_drop, List.length_take]; rfl)) ?_; (with_reducible refine (tabardref04_Together.calls k1 _ _ l0 t272 _ ?side1 ?side2 A8.out).mono ?_); (case side1 => repeat (first | exact (Kd.C_below HR0.out HB.out) | (with_reducible refine Kd.C_alloc ?_ _) | (with_reducible refine Kd.C_drewN ?_ _) | (with_reducible refine Kd.C_drew ?_))); (case side2 => exact HC0.out); rintro e w12 ⟨v273, rfl, ho0, hb⟩; refine ⟨_, rfl, ?_⟩; have n0_ := Aside0.mk (Kd.R_lower ho0 (below_size (by repeat (first | (with_reducible first | exact HB.out | apply below_alloc | apply pw_below_drewN | apply below_drew1) | exact HB.out)))); have n1_ := Aside0.mk (below_step (by repeat (first | (with_reducible first | exact HB.out | apply below_alloc | apply pw_below_drewN | apply below_drew1) | exact HB.out)) hb); clear HB; have HO274 := n0_; have HB := n1_; clear n0_ n1_; (try clear hb); (try clear hb2); (try clear hk); (try clear hi); (try clear ho0); obtain ⟨Ao13, co13, eo13⟩ := Kd.R_slice HO274.out; subst eo13))); go_ret2; (exact ⟨_, by first | rfl | (simp [*, errW_none, errW_some] <;> rfl), by first | exact Kd.R_nil _ _ _ _ _ | exact Kd.N_nil _ _ _ _ _ | exact Kd.V_nil _ _ _ _ _ | exact Kd.Q_nil _ _ _ _ _ | exact Kd.S_nil _ _ _ _ _, by repeat (first | (with_reducible first | exact HB.out | apply below_alloc | apply pw_below_drewN | apply below_drew1) | exact HB.out)⟩)
end Go.Proofs.Ytjknpmibdkoklaa.G
