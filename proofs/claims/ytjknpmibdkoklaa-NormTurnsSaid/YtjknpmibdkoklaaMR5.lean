/- Functions of the given program as Lean functions, each with its contract, and what they answer; words for it. No condition but those of each. -/
import Derived.Test.YtjknpmibdkoklaaMRS
import Derived.Test.YtjknpmibdkoklaaMR4
import Derived.Test.YtjknpmibdkoklaaMR2
set_option linter.unusedVariables false
set_option linter.unusedSimpArgs false
namespace Go.Proofs.Ytjknpmibdkoklaa.Q
open Go.RowKit Go.Proofs.YtjknpmibdkoklaaW.PrintWords Go.Proofs.YtjknpmibdkoklaaW.PrintLast Go.Proofs.YtjknpmibdkoklaaW.PrintMore
def In64 (a : Int) : Prop := -9223372036854775808 ≤ a ∧ a ≤ 9223372036854775807
instance (a : Int) : Decidable (In64 a) := by unfold In64; infer_instance
def fit (z : Int) : Int × Int := if -9223372036854775808 ≤ z ∧ z ≤ 9223372036854775807 then (z, 0) else (0, 10)
theorem fit_in {z : Int} (h : In64 z) : fit z = (z, 0) := if_pos h
theorem fit_out {z : Int} (h : ¬ In64 z) : fit z = (0, 10) := if_neg h
theorem wrap_in {a : Int} (h : In64 a) : wrap64 a = a := by
  obtain ⟨h1, h2⟩ := h
  unfold wrap64; omega
theorem wrap64_in (a : Int) : In64 (wrap64 a) := by unfold In64 wrap64; omega
theorem add_spec {a b : Int} (ha : In64 a) (hb : In64 b) : chk_Add.f a b = some (fit (a + b)) := by
  obtain ⟨ha1, ha2⟩ := ha
  obtain ⟨hb1, hb2⟩ := hb
  unfold chk_Add.f fit
  have hw : wrap64 (a + b) = (a + b + 9223372036854775808) % 18446744073709551616 - 9223372036854775808 := by unfold wrap64; rfl
  generalize wrap64 (a + b) = w at hw
  by_cases h1 : a ≥ 0 <;> by_cases h2 : b ≥ 0 <;> by_cases h3 : w ≥ 0 <;> simp [h1, h2, h3] <;>
    first | omega | (rw [if_pos kq1]; simp; omega) | (rw [if_neg kq1])
theorem sub_spec {a b : Int} (ha : In64 a) (hb : In64 b) : chk_Sub.f a b = some (fit (a - b)) := by
  obtain ⟨ha1, ha2⟩ := ha
  obtain ⟨hb1, hb2⟩ := hb
  unfold chk_Sub.f fit
  have hw : wrap64 (a - b) = (a - b + 9223372036854775808) % 18446744073709551616 - 9223372036854775808 := by unfold wrap64; rfl
  generalize wrap64 (a - b) = w at hw
  by_cases h1 : a ≥ 0 <;> by_cases h2 : b ≥ 0 <;> by_cases h3 : w ≥ 0 <;> simp [h1, h2, h3] <;>
    first | omega | (rw [if_pos kq1]; simp; omega) | (rw [if_neg kq1])
theorem in_zero : In64 0 := ⟨kq2, kq2⟩
theorem neg_spec {a : Int} (ha : In64 a) : chk_Neg.f a = some (fit (-a)) := by
  unfold chk_Neg.f
  rw [sub_spec in_zero ha]
  simp [Int.zero_sub]
theorem abs_spec {a : Int} (ha : In64 a) : chk_Abs.f a = some (fit (a.natAbs : Int)) := by
  unfold chk_Abs.f
  by_cases h : a < 0
  · rw [if_pos h, neg_spec ha, show ((a.natAbs : Int)) = -a by omega]
    simp
  · rw [if_neg h, show ((a.natAbs : Int)) = a by omega, fit_in ha]
theorem mul_core {a b p m : Int} (hp : p = a * b - m * 18446744073709551616) (hb : In64 b) (hb0 : b ≠ 0) (h : Int.tdiv p b = a) : m = 0 := by
  obtain ⟨hb1, hb2⟩ := hb
  have h1 := Int.tdiv_mul_add_tmod p b
  rw [h] at h1
  have h2 : (p.tmod b).natAbs < b.natAbs := by
    rw [Int.natAbs_tmod]
    exact Nat.mod_lt _ kq1
  omega
theorem mul_spec {a b : Int} (ha : In64 a) (hb : In64 b) : Ev (fun k => chk_Mul.f k a b) (fit (a * b)) := by
  have ha' := ha
  have hb' := hb
  obtain ⟨ha1, ha2⟩ := ha
  obtain ⟨hb1, hb2⟩ := hb
  refine ⟨2, fun k hk => ?_⟩
  obtain ⟨k, rfl⟩ : ∃ m, k = m + 2 := ⟨k - 2, kq1⟩
  show chk_Mul.f (k + 2) a b = _
  unfold chk_Mul.f
  by_cases h1 : a = 0
  · subst h1
    simp [chk_Mul.j0, fit]
  rw [if_neg h1]
  by_cases h2 : b = 0
  · subst h2
    simp [chk_Mul.j0, fit]
  have h3 : (b == 0) = false := by simpa using h2
  simp only [chk_Mul.j0, h3]
  rw [if_neg kq2]
  have key : ∀ x : Bool, (x = true → ¬ In64 (a * b)) → (x = false → ¬ (a = -1 ∧ b = -9223372036854775808) ∧ ¬ (b = -1 ∧ a = -9223372036854775808)) → chk_Mul.j1 (k + 1) a b x = some (fit (a * b)) := by
    intro x hx hy
    simp only [chk_Mul.j1]
    cases x with
    | true => rw [if_pos rfl, fit_out (hx rfl)]
    | false =>
      obtain ⟨hy1, hy2⟩ := hy rfl
      rw [if_neg kq2, if_neg h2]
      by_cases hin : In64 (a * b)
      · rw [wrap_in hin, Int.mul_tdiv_cancel _ h2, wrap_in ha', if_pos rfl, fit_in hin]
      · rw [fit_out hin]
        obtain ⟨m, hm⟩ : ∃ m, wrap64 (a * b) = a * b - m * 18446744073709551616 := by
          refine ⟨(a * b + 9223372036854775808) / 18446744073709551616, ?_⟩
          unfold wrap64
          omega
        have hwi := wrap64_in (a * b)
        rw [if_neg]
        intro hc
        have hq : wrap64 (Int.tdiv (wrap64 (a * b)) b) = Int.tdiv (wrap64 (a * b)) b := by
          apply wrap_in
          have hb4 : b ≠ -1 := by
            intro hb4
            subst hb4
            apply hin
            constructor <;> omega
          have h5 : (Int.tdiv (wrap64 (a * b)) b).natAbs = (wrap64 (a * b)).natAbs / b.natAbs := Int.natAbs_tdiv (wrap64 (a * b)) b
          have h6 : (wrap64 (a * b)).natAbs / b.natAbs ≤ (wrap64 (a * b)).natAbs := Nat.div_le_self _ _
          obtain ⟨hw1, hw2⟩ := hwi
          by_cases hb5 : b = 1
          · subst hb5
            rw [Int.tdiv_one]
            exact ⟨hw1, hw2⟩
          · have h7 : (wrap64 (a * b)).natAbs / b.natAbs ≤ (wrap64 (a * b)).natAbs / 2 := Nat.div_le_div_left kq1 kq1
            constructor <;> omega
        rw [hq] at hc
        have := mul_core hm hb' h2 hc
        subst this
        apply hin
        rw [show a * b = wrap64 (a * b) by omega]
        exact hwi
  by_cases h4 : a = -1
  · rw [if_pos h4]
    by_cases h5 : b = -9223372036854775808
    · rw [if_pos h5]
      refine key true (fun _ => ?_) (fun h => by cases h)
      subst h4 h5
      decide
    · rw [if_neg h5]
      by_cases h6 : b = -1
      · rw [if_pos h6]
        have h7 : (a == -9223372036854775808) = false := by subst h4; rfl
        rw [h7]
        exact key false (fun h => by cases h) (fun _ => ⟨fun h => h5 h.2, fun h => by omega⟩)
      · rw [if_neg h6]
        exact key false (fun h => by cases h) (fun _ => ⟨fun h => h5 h.2, fun h => h6 h.1⟩)
  · rw [if_neg h4]
    by_cases h6 : b = -1
    · rw [if_pos h6]
      by_cases h7 : a = -9223372036854775808
      · have h8 : (a == -9223372036854775808) = true := by simpa using h7
        rw [h8]
        refine key true (fun _ => ?_) (fun h => by cases h)
        subst h6 h7
        decide
      · have h8 : (a == -9223372036854775808) = false := by simpa using h7
        rw [h8]
        exact key false (fun h => by cases h) (fun _ => ⟨fun h => h4 h.1, fun h => h7 h.2⟩)
    · rw [if_neg h6]
      exact key false (fun h => by cases h) (fun _ => ⟨fun h => h4 h.1, fun h => h6 h.1⟩)
theorem emod_of_tmod {a m : Int} (hm : 0 < m) : a % m = if Int.tmod a m < 0 then Int.tmod a m + m else Int.tmod a m := by
  have h1 := Int.tdiv_mul_add_tmod a m
  have h2 : (a.tmod m).natAbs < m.natAbs := by
    rw [Int.natAbs_tmod]
    exact Nat.mod_lt _ kq1
  have h3 : a % m = (a.tmod m) % m := by
    conv => lhs; rw [← h1]
    rw [Int.mul_comm, Int.mul_add_emod_self_left]
  rw [h3]
  split
  · rw [← Int.add_emod_right, Int.emod_eq_of_lt kq1 kq1]
  · rw [Int.emod_eq_of_lt kq1 kq1]
theorem rest_spec {a m : Int} (hm : In64 m) (h : 1 ≤ m) : chk_Rest.f a m = some (a % m, 0) := by
  unfold chk_Rest.f
  have h2 : (a.tmod m).natAbs < m.natAbs := by
    rw [Int.natAbs_tmod]
    exact Nat.mod_lt _ kq1
  obtain ⟨hm1, hm2⟩ := hm
  rw [if_neg kq1, if_neg kq1, emod_of_tmod kq1]
  split
  · rw [wrap_in ⟨kq1, kq1⟩]
  · rfl
theorem rd_of_lt {l : List Int} {i : Nat} (h : i < l.length) : rd l (i : Int) = l[i] := by
  unfold rd
  simp [List.getD_eq_getElem?_getD, h]
theorem Ev_at {α : Type} {g : Nat → Option α} {r : α} (K : Nat) (h : ∀ k, K < k → g k = some r) : Ev g r := ⟨K + 1, fun k hk => h k kq1⟩
theorem wrap_nat {i : Nat} (h : i < 9223372036854775808) : wrap64 (i : Int) = i := wrap_in ⟨kq1, kq1⟩
theorem wrap_succ {i : Nat} (h : i + 1 < 9223372036854775808) : wrap64 ((i : Int) + 1) = ((i + 1 : Nat) : Int) := by
  rw [show ((i : Int) + 1) = ((i + 1 : Nat) : Int) by omega]
  exact wrap_nat h
def total : List Int → Int
  | [] => 0
  | a :: l => (a.natAbs : Int) + total l
theorem total_nonneg (l : List Int) : 0 ≤ total l := by
  induction l with
  | nil => exact Int.le_refl _
  | cons a l ih => simp only [total]; omega
theorem total_drop {l : List Int} {i : Nat} (h : i < l.length) : total (l.drop i) = (l[i].natAbs : Int) + total (l.drop (i + 1)) := by
  rw [List.drop_eq_getElem_cons h]
  rfl
theorem total_loop {l : List Int} (h : ∀ x ∈ l, In64 x) (hl : l.length < 9223372036854775807) :
    ∀ (d i : Nat) (s : Int), i + d = l.length → 0 ≤ s → In64 s → Ev (fun k => chk_Total.l0 k s l (l.length : Int) (i : Int)) (fit (s + total (l.drop i))) := by
  intro d
  induction d with
  | zero =>
    intro i s hi h0 hs
    refine Ev_at 0 (fun k hk => ?_)
    obtain ⟨k, rfl⟩ : ∃ m, k = m + 1 := ⟨k - 1, kq1⟩
    simp only [chk_Total.l0]
    rw [if_neg kq1, List.drop_eq_nil_of_le kq1]
    simp [total, fit_in hs]
  | succ d ih =>
    intro i s hi h0 hs
    have hil : i < l.length := by omega
    have hx := h _ (List.getElem_mem hil)
    have ht := total_nonneg (l.drop (i + 1))
    have hs' := hs
    obtain ⟨hs1, hs2⟩ := hs
    rw [total_drop hil]
    by_cases h1 : In64 (l[i].natAbs : Int)
    · by_cases h2 : In64 (s + (l[i].natAbs : Int))
      · have := ih (i + 1) (s + (l[i].natAbs : Int)) kq1 kq1 h2
        rw [← Int.add_assoc]
        refine Ev.step (fun k => ?_) this
        simp only [chk_Total.l0]
        rw [if_pos kq1, if_pos kq1, if_pos kq1, rd_of_lt hil, abs_spec hx, fit_in h1]
        simp only [Option.bind_some, if_true]
        rw [add_spec hs' h1, fit_in h2]
        simp only [Option.bind_some, if_true]
        rw [wrap_succ kq1]
      · have hn : ¬ In64 (s + ((l[i].natAbs : Int) + total (l.drop (i + 1)))) := by
          intro h3
          apply h2
          obtain ⟨h4, h5⟩ := h3
          constructor <;> omega
        rw [fit_out hn]
        refine Ev_at 0 (fun k hk => ?_)
        obtain ⟨k, rfl⟩ : ∃ m, k = m + 1 := ⟨k - 1, kq1⟩
        simp only [chk_Total.l0]
        rw [if_pos kq1, if_pos kq1, if_pos kq1, rd_of_lt hil, abs_spec hx, fit_in h1]
        simp only [Option.bind_some, if_true]
        rw [add_spec hs' h1, fit_out h2]
        simp
    · have hn : ¬ In64 (s + ((l[i].natAbs : Int) + total (l.drop (i + 1)))) := by
        intro h3
        apply h1
        obtain ⟨h4, h5⟩ := h3
        constructor <;> omega
      rw [fit_out hn]
      refine Ev_at 0 (fun k hk => ?_)
      obtain ⟨k, rfl⟩ : ∃ m, k = m + 1 := ⟨k - 1, kq1⟩
      simp only [chk_Total.l0]
      rw [if_pos kq1, if_pos kq1, if_pos kq1, rd_of_lt hil, abs_spec hx, fit_out h1]
      simp
theorem total_spec {l : List Int} (h : ∀ x ∈ l, In64 x) (hl : l.length < 9223372036854775807) : Ev (fun k => chk_Total.f k l) (fit (total l)) := by
  have := total_loop h hl l.length 0 0 kq1 kq1 kq2
  simp only [List.drop_zero, Int.zero_add] at this
  exact this
end Go.Proofs.Ytjknpmibdkoklaa.Q
namespace Go.Proofs.Ytjknpmibdkoklaa.Q
open Go.RowKit Go.Proofs.YtjknpmibdkoklaaW.PrintWords Go.Proofs.YtjknpmibdkoklaaW.PrintLast Go.Proofs.YtjknpmibdkoklaaW.PrintMore
def dig (n : Nat) : List Int := if h : n = 0 then [] else ((n % 65536 : Nat) : Int) :: dig (n / 65536)
termination_by n
decreasing_by omega
def W (z : Int) : Bool × List Int := (decide (z < 0), dig z.natAbs)
end Go.Proofs.Ytjknpmibdkoklaa.Q
namespace Go.Proofs.Ytjknpmibdkoklaa.Q
open Go.RowKit Go.Proofs.YtjknpmibdkoklaaW.PrintWords Go.Proofs.YtjknpmibdkoklaaW.PrintLast Go.Proofs.YtjknpmibdkoklaaW.PrintMore
theorem Ev.pair {α β : Type} {g : Nat → Option (α × β)} {r : α × β} (h : Ev g r) : Ev (fun k => (g k).bind fun b => some (b.1, b.2)) r := Ev.bind h (Ev.now _)
end Go.Proofs.Ytjknpmibdkoklaa.Q
namespace Go.Proofs.Ytjknpmibdkoklaa.Q
open Go.RowKit Go.Proofs.YtjknpmibdkoklaaW.PrintWords Go.Proofs.YtjknpmibdkoklaaW.PrintLast Go.Proofs.YtjknpmibdkoklaaW.PrintMore
open Aside0 (mk)
open List (setIfInBounds_toArray set_cons_zero set_cons_succ)
attribute [local go_sem] max2_int min2_int max_two min_two max_three min_three max_four min_four
set_option linter.unusedVariables false
set_option linter.unusedSimpArgs false
attribute [local go_sem] fld99_2 fld103_2 fld160_0 fld160_1
def tabardlaw09_same.l0 : Nat → List ByteArray → List ByteArray → Int → Int → Option (Bool)
  | 0, _, _, _, _ => none
  | k + 1, x0, x1, x12, x13 => if x13 < x12 then (if 0 ≤ x13 then (if x13 < (x0.length : Int) then (if x13 < (x1.length : Int) then (if (rdOf ByteArray.empty x0 x13).toList = (rdOf ByteArray.empty x1 x13).toList then (tabardlaw09_same.l0 k x0 x1 x12 (wrap64 (x13 + 1))) else (some false)) else (none)) else (none)) else (none)) else (some true)
def tabardlaw09_same.f (k : Nat) (l0 : List ByteArray) (l1 : List ByteArray) : Option (Bool) := if (l0.length : Int) = (l1.length : Int) then (tabardlaw09_same.l0 k l0 l1 (l0.length : Int) 0) else (some false)
theorem tabardlaw09_same.mono_l : ∀ k, (∀ y0 y1 y2 y3, LeO (tabardlaw09_same.l0 k y0 y1 y2 y3) (tabardlaw09_same.l0 (k + 1) y0 y1 y2 y3))
  | 0 => fun _ _ _ _ r h => by simp [tabardlaw09_same.l0] at h
  | k + 1 => by
    have ih0 := tabardlaw09_same.mono_l k
    · intro y0 y1 y2 y3; (unfold tabardlaw09_same.l0)
      repeat' first
      | (with_reducible exact ih0 _ _ _ _)
      | (with_reducible exact LeO.refl _)
      | (with_reducible exact LeO.none _)
      | (with_reducible refine LeO.ite ?_ ?_)
      | (with_reducible refine LeO.bind ?_ (fun _ => ?_))
      | exact ih0 _ _ _ _
      | exact LeO.none _
      | refine LeO.ite ?_ ?_
      | refine LeO.bind ?_ (fun _ => ?_)
theorem tabardlaw09_same.mono : ∀ a0 a1 k, LeO (tabardlaw09_same.f k a0 a1) (tabardlaw09_same.f (k + 1) a0 a1) := by
  intro a0 a1 k
  have ih0 := tabardlaw09_same.mono_l k
  unfold tabardlaw09_same.f
  repeat' first
      | (with_reducible exact ih0 _ _ _ _)
      | (with_reducible exact LeO.refl _)
      | (with_reducible exact LeO.none _)
      | (with_reducible refine LeO.ite ?_ ?_)
      | (with_reducible refine LeO.bind ?_ (fun _ => ?_))
      | exact ih0 _ _ _ _
      | exact LeO.none _
      | refine LeO.ite ?_ ?_
      | refine LeO.bind ?_ (fun _ => ?_)
set_option maxHeartbeats 8000000 in
set_option maxRecDepth 100000 in
theorem tabardlaw09_same.calls (k : Nat) (A0 : Option Addr) (c0 : Nat) (l0 : List ByteArray) (A1 : Option Addr) (c1 : Nat) (l1 : List ByteArray) (r : Bool) (w : World) (hr0 : Kd.C Kd.string w A0 l0.length l0) (hc0 : l0.length ≤ c0) (hr1 : Kd.C Kd.string w A1 l1.length l1) (hc1 : l1.length ≤ c1) (h : tabardlaw09_same.f k l0 l1 = some r) :
    Calls Try.prog 51 #[.slice A0 l0.length c0, .slice A1 l1.length c1] w fun e w' => e = .returned (.bool r) ∧ Drawn0 w w' := by
  have HR0 := mk hr0
  have HC0 := mk hc0
  clear hr0 hc0
  have HR1 := mk hr1
  have HC1 := mk hc1
  clear hr1 hc1
  have H : (if (l0.length : Int) = (l1.length : Int) then (tabardlaw09_same.l0 k l0 l1 (l0.length : Int) 0) else (some false)) = some r := h
  clear h
  by_cases c3 : (l0.length : Int) = (l1.length : Int)
  · rw [if_pos c3] at H
    have c3b0 := eT_ c3
    have c3b1 := nF_ c3
    have c3b2 : (l0.length == l1.length) = true := by first | simpa using c3 | (simp at c3 ⊢; omega)
    clear c3
    have H' := mk H
    clear H
    go_enter Try.func51, Try.ntmps51
    go_wp2
    repeat (go_quiet (fail); try go_wp2)
    go_loopg [13] k (fun kq v13 w' => ∃ (x13_1 : Int), v13 = .int .i64 x13_1 ∧ Aside0 (tabardlaw09_same.l0 kq l0 l1 (l0.length : Int) x13_1 = some r) ∧ Aside0 (kq ≤ k) ∧ Drawn0 w w')
    case atStart => exact ⟨(0), kq3, H', ⟨Nat.le_refl _⟩, kq5⟩
    case round =>
      clear H'; (obtain ⟨x13_1, rfl, HA, HK1, ⟨m1, rfl⟩⟩ := hrel)
      cases gk with
      | zero => exact absurd HA.out (by simp [tabardlaw09_same.l0])
      | succ k1 =>
        (have H := HA.out); clear HA; (simp only [tabardlaw09_same.l0] at H); replace H := ic_ H; obtain ⟨c4, H⟩ | ⟨c4, H⟩ := H
        · (have c4b0 := decide_eq_true c4); clear c4; replace H := ic_ H; obtain ⟨c5, H⟩ | ⟨c5, H⟩ := H
          · (have c5b0 := decide_eq_true c5); clear c5; replace H := ic_ H; obtain ⟨c6, H⟩ | ⟨c6, H⟩ := H
            · (have c6b0 := decide_eq_true c6); clear c6; replace H := ic_ H; obtain ⟨c7, H⟩ | ⟨c7, H⟩ := H
              · (have c7b0 := decide_eq_true c7); clear c7; replace H := ic_ H; obtain ⟨c8, H⟩ | ⟨c8, H⟩ := H
                · (obtain ⟨c8b0, c8b1⟩ := eTn_ c8); clear c8; (have H' := mk H); clear H; (have p772 : 0 ≤ (x13_1 : Int) := of_decide_eq_true kq8); (have q772 : x13_1 < (l0.length : Int) := of_decide_eq_true kq8); (obtain ⟨ad772, e772, hx772_0⟩ := Kd.at_string HR0.out x13_1 p772 q772); cases e772; replace p772 := eq_true p772; replace q772 := eq_true q772; (have p773 : 0 ≤ (x13_1 : Int) := of_decide_eq_true kq8); (have q773 : x13_1 < (l1.length : Int) := of_decide_eq_true kq8); (obtain ⟨ad773, e773, hx773_0⟩ := Kd.at_string HR1.out x13_1 p773 q773); cases e773; replace p773 := eq_true p773; replace q773 := eq_true q773; go_wp2; (repeat (go_quiet (fail); try go_wp2)); (go_roundg k1)
                  case measure => have := HK1.out; omega
                  case rel => exact ⟨(wrap64 (x13_1 + 1)), kq3, H', ⟨by have := HK1.out; omega⟩, kq5⟩
                · (obtain ⟨c8b0, c8b1⟩ := eFn_ c8); (obtain rfl := Option.some.inj H); (have p772 : 0 ≤ (x13_1 : Int) := of_decide_eq_true kq8); (have q772 : x13_1 < (l0.length : Int) := of_decide_eq_true kq8); (obtain ⟨ad772, e772, hx772_0⟩ := Kd.at_string HR0.out x13_1 p772 q772); cases e772; replace p772 := eq_true p772; replace q772 := eq_true q772; (have p773 : 0 ≤ (x13_1 : Int) := of_decide_eq_true kq8); (have q773 : x13_1 < (l1.length : Int) := of_decide_eq_true kq8); (obtain ⟨ad773, e773, hx773_0⟩ := Kd.at_string HR1.out x13_1 p773 q773); cases e773; replace p773 := eq_true p773; replace q773 := eq_true q773; go_wp2; (repeat (go_quiet (fail); try go_wp2)); go_ret; (exact ⟨kq3, kq5⟩)
              · (exact absurd H (by simp))
            · (exact absurd H (by simp))
          · (exact absurd H (by simp))
        · (have c4b0 := decide_eq_false c4); clear c4; (obtain rfl := Option.some.inj H); go_wp2; (repeat (go_quiet (fail); try go_wp2)); go_ret; (exact ⟨kq3, kq5⟩)
  · rw [if_neg c3] at H
    have c3b0 := eF_ c3
    have c3b1 := nT_ c3
    have c3b2 : (l0.length == l1.length) = false := by first | simpa using c3 | (simp at c3 ⊢; omega)
    obtain rfl := Option.some.inj H
    go_enter Try.func51, Try.ntmps51
    go_wp2
    repeat (go_quiet (fail); try go_wp2)
    go_ret
    exact ⟨kq3, kq5⟩
end Go.Proofs.Ytjknpmibdkoklaa.Q
namespace Go.Proofs.Ytjknpmibdkoklaa.Q
open Go.RowKit Go.Proofs.YtjknpmibdkoklaaW.PrintWords Go.Proofs.YtjknpmibdkoklaaW.PrintLast Go.Proofs.YtjknpmibdkoklaaW.PrintMore
open Aside0 (mk)
open List (setIfInBounds_toArray set_cons_zero set_cons_succ)
attribute [local go_sem] max2_int min2_int max_two min_two max_three min_three max_four min_four
set_option linter.unusedVariables false
set_option linter.unusedSimpArgs false
attribute [local go_sem] fld99_2 fld103_2 fld160_0 fld160_1
def tabardlaw09_numbers.l0 : Nat → List Int → List Int → Int → Int → Option (Bool)
  | 0, _, _, _, _ => none
  | k + 1, x0, x1, x12, x13 => if x13 < x12 then (if 0 ≤ x13 then (if x13 < (x0.length : Int) then (if x13 < (x1.length : Int) then (if (rd x0 x13) = (rd x1 x13) then (tabardlaw09_numbers.l0 k x0 x1 x12 (wrap64 (x13 + 1))) else (some false)) else (none)) else (none)) else (none)) else (some true)
def tabardlaw09_numbers.f (k : Nat) (l0 : List Int) (l1 : List Int) : Option (Bool) := if (l0.length : Int) = (l1.length : Int) then (tabardlaw09_numbers.l0 k l0 l1 (l0.length : Int) 0) else (some false)
theorem tabardlaw09_numbers.mono_l : ∀ k, (∀ y0 y1 y2 y3, LeO (tabardlaw09_numbers.l0 k y0 y1 y2 y3) (tabardlaw09_numbers.l0 (k + 1) y0 y1 y2 y3))
  | 0 => fun _ _ _ _ r h => by simp [tabardlaw09_numbers.l0] at h
  | k + 1 => by
    have ih0 := tabardlaw09_numbers.mono_l k
    · intro y0 y1 y2 y3; (unfold tabardlaw09_numbers.l0)
      repeat' first
      | (with_reducible exact ih0 _ _ _ _)
      | (with_reducible exact LeO.refl _)
      | (with_reducible exact LeO.none _)
      | (with_reducible refine LeO.ite ?_ ?_)
      | (with_reducible refine LeO.bind ?_ (fun _ => ?_))
      | exact ih0 _ _ _ _
      | exact LeO.none _
      | refine LeO.ite ?_ ?_
      | refine LeO.bind ?_ (fun _ => ?_)
theorem tabardlaw09_numbers.mono : ∀ a0 a1 k, LeO (tabardlaw09_numbers.f k a0 a1) (tabardlaw09_numbers.f (k + 1) a0 a1) := by
  intro a0 a1 k
  have ih0 := tabardlaw09_numbers.mono_l k
  unfold tabardlaw09_numbers.f
  repeat' first
      | (with_reducible exact ih0 _ _ _ _)
      | (with_reducible exact LeO.refl _)
      | (with_reducible exact LeO.none _)
      | (with_reducible refine LeO.ite ?_ ?_)
      | (with_reducible refine LeO.bind ?_ (fun _ => ?_))
      | exact ih0 _ _ _ _
      | exact LeO.none _
      | refine LeO.ite ?_ ?_
      | refine LeO.bind ?_ (fun _ => ?_)
set_option maxHeartbeats 8000000 in
set_option maxRecDepth 100000 in
theorem tabardlaw09_numbers.calls (k : Nat) (A0 : Option Addr) (c0 : Nat) (l0 : List Int) (A1 : Option Addr) (c1 : Nat) (l1 : List Int) (r : Bool) (w : World) (hr0 : Kd.C (Kd.int .i64) w A0 l0.length l0) (hc0 : l0.length ≤ c0) (hr1 : Kd.C (Kd.int .i64) w A1 l1.length l1) (hc1 : l1.length ≤ c1) (h : tabardlaw09_numbers.f k l0 l1 = some r) :
    Calls Try.prog 52 #[.slice A0 l0.length c0, .slice A1 l1.length c1] w fun e w' => e = .returned (.bool r) ∧ Drawn0 w w' := by
  have HR0 := mk hr0
  have HC0 := mk hc0
  clear hr0 hc0
  have HR1 := mk hr1
  have HC1 := mk hc1
  clear hr1 hc1
  have H : (if (l0.length : Int) = (l1.length : Int) then (tabardlaw09_numbers.l0 k l0 l1 (l0.length : Int) 0) else (some false)) = some r := h
  clear h
  by_cases c3 : (l0.length : Int) = (l1.length : Int)
  · rw [if_pos c3] at H
    have c3b0 := eT_ c3
    have c3b1 := nF_ c3
    have c3b2 : (l0.length == l1.length) = true := by first | simpa using c3 | (simp at c3 ⊢; omega)
    clear c3
    have H' := mk H
    clear H
    go_enter Try.func52, Try.ntmps52
    go_wp2
    repeat (go_quiet (fail); try go_wp2)
    go_loopg [13] k (fun kq v13 w' => ∃ (x13_1 : Int), v13 = .int .i64 x13_1 ∧ Aside0 (tabardlaw09_numbers.l0 kq l0 l1 (l0.length : Int) x13_1 = some r) ∧ Aside0 (kq ≤ k) ∧ Drawn0 w w')
    case atStart => exact ⟨(0), kq3, H', ⟨Nat.le_refl _⟩, kq5⟩
    case round =>
      clear H'; (obtain ⟨x13_1, rfl, HA, HK1, ⟨m1, rfl⟩⟩ := hrel)
      cases gk with
      | zero => exact absurd HA.out (by simp [tabardlaw09_numbers.l0])
      | succ k1 =>
        (have H := HA.out); clear HA; (simp only [tabardlaw09_numbers.l0] at H); replace H := ic_ H; obtain ⟨c4, H⟩ | ⟨c4, H⟩ := H
        · (have c4b0 := decide_eq_true c4); clear c4; replace H := ic_ H; obtain ⟨c5, H⟩ | ⟨c5, H⟩ := H
          · (have c5b0 := decide_eq_true c5); clear c5; replace H := ic_ H; obtain ⟨c6, H⟩ | ⟨c6, H⟩ := H
            · (have c6b0 := decide_eq_true c6); clear c6; replace H := ic_ H; obtain ⟨c7, H⟩ | ⟨c7, H⟩ := H
              · (have c7b0 := decide_eq_true c7); clear c7; replace H := ic_ H; obtain ⟨c8, H⟩ | ⟨c8, H⟩ := H
                · (obtain ⟨c8b0, c8b1⟩ := eTn_ c8); clear c8; (have H' := mk H); clear H; (have p774 : 0 ≤ (x13_1 : Int) := of_decide_eq_true kq8); (have q774 : x13_1 < (l0.length : Int) := of_decide_eq_true kq8); (obtain ⟨ad774, e774, hx774_0⟩ := Kd.at_int HR0.out x13_1 p774 q774); cases e774; replace p774 := eq_true p774; replace q774 := eq_true q774; (have p775 : 0 ≤ (x13_1 : Int) := of_decide_eq_true kq8); (have q775 : x13_1 < (l1.length : Int) := of_decide_eq_true kq8); (obtain ⟨ad775, e775, hx775_0⟩ := Kd.at_int HR1.out x13_1 p775 q775); cases e775; replace p775 := eq_true p775; replace q775 := eq_true q775; go_wp2; (repeat (go_quiet (fail); try go_wp2)); (go_roundg k1)
                  case measure => have := HK1.out; omega
                  case rel => exact ⟨(wrap64 (x13_1 + 1)), kq3, H', ⟨by have := HK1.out; omega⟩, kq5⟩
                · (obtain ⟨c8b0, c8b1⟩ := eFn_ c8); (obtain rfl := Option.some.inj H); (have p774 : 0 ≤ (x13_1 : Int) := of_decide_eq_true kq8); (have q774 : x13_1 < (l0.length : Int) := of_decide_eq_true kq8); (obtain ⟨ad774, e774, hx774_0⟩ := Kd.at_int HR0.out x13_1 p774 q774); cases e774; replace p774 := eq_true p774; replace q774 := eq_true q774; (have p775 : 0 ≤ (x13_1 : Int) := of_decide_eq_true kq8); (have q775 : x13_1 < (l1.length : Int) := of_decide_eq_true kq8); (obtain ⟨ad775, e775, hx775_0⟩ := Kd.at_int HR1.out x13_1 p775 q775); cases e775; replace p775 := eq_true p775; replace q775 := eq_true q775; go_wp2; (repeat (go_quiet (fail); try go_wp2)); go_ret; (exact ⟨kq3, kq5⟩)
              · (exact absurd H (by simp))
            · (exact absurd H (by simp))
          · (exact absurd H (by simp))
        · (have c4b0 := decide_eq_false c4); clear c4; (obtain rfl := Option.some.inj H); go_wp2; (repeat (go_quiet (fail); try go_wp2)); go_ret; (exact ⟨kq3, kq5⟩)
  · rw [if_neg c3] at H
    have c3b0 := eF_ c3
    have c3b1 := nT_ c3
    have c3b2 : (l0.length == l1.length) = false := by first | simpa using c3 | (simp at c3 ⊢; omega)
    obtain rfl := Option.some.inj H
    go_enter Try.func52, Try.ntmps52
    go_wp2
    repeat (go_quiet (fail); try go_wp2)
    go_ret
    exact ⟨kq3, kq5⟩
end Go.Proofs.Ytjknpmibdkoklaa.Q
