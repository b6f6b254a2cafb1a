/- Functions of the given program as Lean functions, each with its contract, and what they answer; words for it. No condition but those of each. -/
import Derived.Test.YtjknpmibdkoklaaMLS
import Derived.Test.YtjknpmibdkoklaaML17
import Derived.Test.YtjknpmibdkoklaaML9
import Derived.Test.YtjknpmibdkoklaaML10
import Derived.Test.YtjknpmibdkoklaaML18
import Derived.ChangeArms
import Derived.SizedLaws
import Derived.DataShut
import Derived.DataElems
set_option maxRecDepth 100000
namespace Go.Proofs.Ytjknpmibdkoklaa.Q
open Go.RowKit Go.Proofs.YtjknpmibdkoklaaW.PrintWords Go.Proofs.YtjknpmibdkoklaaW.PrintLast Go.Proofs.YtjknpmibdkoklaaW.PrintMore
def belowB (m : Int) (l : List Int) : Bool := l.all fun c => decide (0 ≤ c ∧ c < m)
theorem belowB_cons (m c : Int) (l : List Int) : belowB m (c :: l) = (decide (0 ≤ c ∧ c < m) && belowB m l) := rfl
theorem check_loop (y : List Int) (K : Int) (N : List ByteArray) (C : List Int) (B M : Int) (hl : y.length < 4611686018427387904) : ∀ (n i : Nat) (g : Bool), i ≤ y.length → y.length - i = n → Ev (fun k => norm_Check.l0 k g y (y.length : Int) (i : Int) K N C B M) (if (g && belowB M (y.drop i)) = true then 0 else 3)
  | 0, i, g, hi, hn => by
    rw [List.drop_of_length_le kq1]
    refine Ev.step (f := fun _ => some (if (g && belowB M []) = true then 0 else 3)) (fun k => ?_) (Ev.now _)
    show norm_Check.l0 (k + 1) g y (y.length : Int) (i : Int) K N C B M = _
    simp only [norm_Check.l0]
    rw [if_neg kq1]
    cases g <;> rfl
  | n + 1, i, g, hi, hn => by
    have hlt : i < y.length := by omega
    have hw : wrap64 ((i : Int) + 1) = ((i + 1 : Nat) : Int) := by unfold wrap64; omega
    rw [List.drop_eq_getElem_cons hlt, belowB_cons]
    have ih := fun g' => check_loop y K N C B M hl n (i + 1) g' kq1 kq1
    have step : ∀ k, norm_Check.l0 (k + 1) g y (y.length : Int) (i : Int) K N C B M = norm_Check.l0 k (g && decide (0 ≤ y[i] ∧ y[i] < M)) y (y.length : Int) ((i + 1 : Nat) : Int) K N C B M := fun k => by
      conv => lhs; simp only [norm_Check.l0]
      rw [if_pos kq1, if_pos kq1, if_pos kq1, rd_of_lt hlt, hw]
      cases g with
      | false => rw [if_neg kq2]; rfl
      | true =>
        rw [if_pos rfl, Bool.true_and]
        by_cases h0 : y[i] ≥ 0
        · rw [if_pos h0]
          congr 1
          by_cases h1 : y[i] < M
          · rw [decide_eq_true h1, decide_eq_true ⟨h0, h1⟩]
          · rw [decide_eq_false h1, decide_eq_false (fun h => h1 h.2)]
        · rw [if_neg h0, decide_eq_false (fun h => h0 h.1)]
    refine Ev.step step ?_
    rw [← Bool.and_assoc]
    exact ih _
def rightB (K : Int) (N : List ByteArray) (C : List Int) (B M : Int) : Bool :=
  decide (0 ≤ K ∧ K ≤ 2) && (risesB none N && (decide (N.length = C.length) && (decide ((fit (total ([B] ++ C))).2 = 0) && (if K = 2 then decide (M ≥ 1) && belowB M ([B] ++ C) else decide (M = 0)))))
theorem check_ev (K : Int) (N : List ByteArray) (C : List Int) (B M : Int) (hN : N.length < 4611686018427387904) (hC : C.length + 1 < 17592186044416) (hi : ∀ x ∈ C, In64 x) (hB : In64 B) : Ev (fun k => norm_Check.f k K N C B M) (if rightB K N C B M = true then 0 else 3) := by
  have hlen : ([B] ++ C).length = C.length + 1 := by simp
  have ht := total_spec (l := [B] ++ C) (fun x hx => (List.mem_append.1 hx).elim (fun h => by rw [List.mem_singleton.1 h]; exact hB) (hi x)) kq1
  have j0 : ∀ g : Bool, Ev (fun k => norm_Check.j0 k ([B] ++ C) g K N C B M) (if (g && (if K = 2 then decide (M ≥ 1) && belowB M ([B] ++ C) else decide (M = 0))) = true then 0 else 3) := fun g => by
    by_cases hK : K = 2
    · have step : ∀ k, norm_Check.j0 (k + 1) ([B] ++ C) g K N C B M = norm_Check.j1 k ([B] ++ C) (g && decide (M ≥ 1)) K N C B M := fun k => by
        conv => lhs; simp only [norm_Check.j0]
        rw [if_pos hK]
        cases g
        · rw [if_neg kq2]; rfl
        · rw [if_pos rfl]; rfl
      refine Ev.step step ?_
      refine Ev.step (f := fun k => norm_Check.l0 k (g && decide (M ≥ 1)) ([B] ++ C) (([B] ++ C).length : Int) 0 K N C B M) (fun k => by conv => lhs; simp only [norm_Check.j1]) ?_
      have h := check_loop ([B] ++ C) K N C B M kq1 _ 0 (g && decide (M ≥ 1)) (Nat.zero_le _) rfl
      rw [if_pos hK, ← Bool.and_assoc]
      exact h
    · refine Ev.step (f := fun _ => some (if (g && decide (M = 0)) = true then 0 else 3)) (fun k => ?_) (by rw [if_neg hK]; exact Ev.now _)
      conv => lhs; simp only [norm_Check.j0]
      rw [if_neg hK]
      cases g
      · rw [if_neg kq2]; rfl
      · rw [if_pos rfl]
        by_cases hM : M = 0
        · rw [if_pos hM, decide_eq_true hM]; rfl
        · rw [if_neg hM, decide_eq_false hM]; rfl
  unfold norm_Check.f rightB
  refine Ev.congr (f := fun k => (chk_Total.f k ([B] ++ C)).bind fun bt1379 => (if K ≥ 0 then (if K ≤ 2 then ((glyph_Rises.f k N).bind fun t1381 => (if t1381 = true then (if (N.length : Int) = (C.length : Int) then (norm_Check.j0 k ([B] ++ C) (bt1379.2 == 0) K N C B M) else (norm_Check.j0 k ([B] ++ C) false K N C B M)) else (norm_Check.j0 k ([B] ++ C) false K N C B M))) else (norm_Check.j0 k ([B] ++ C) false K N C B M)) else (norm_Check.j0 k ([B] ++ C) false K N C B M))) (fun k => ?_) ?_
  · rw [Option.bind_some, if_pos (by simp; omega), Option.bind_some]
  · refine Ev.bind ht ?_
    by_cases h0 : K ≥ 0
    · refine Ev.congr (fun k => if_pos h0) ?_
      by_cases h2 : K ≤ 2
      · refine Ev.congr (fun k => if_pos h2) (Ev.bind (rises_ev N hN) ?_)
        rw [decide_eq_true (⟨h0, h2⟩ : 0 ≤ K ∧ K ≤ 2), Bool.true_and]
        by_cases hr : risesB none N = true
        · refine Ev.congr (fun k => if_pos hr) ?_
          rw [hr, Bool.true_and]
          by_cases hl : N.length = C.length
          · refine Ev.congr (fun k => if_pos kq1) ?_
            rw [decide_eq_true hl, Bool.true_and]
            exact j0 _
          · refine Ev.congr (fun k => if_neg kq1) ?_
            rw [decide_eq_false hl, Bool.false_and]
            exact j0 false
        · refine Ev.congr (fun k => if_neg hr) ?_
          rw [Bool.eq_false_iff.mpr hr, Bool.false_and]
          exact j0 false
      · refine Ev.congr (fun k => if_neg h2) ?_
        rw [decide_eq_false (fun h => h2 h.2), Bool.false_and]
        exact j0 false
    · refine Ev.congr (fun k => if_neg h0) ?_
      rw [decide_eq_false (fun h => h0 h.1), Bool.false_and]
      exact j0 false
theorem right_loop (K B M : Int) (N : List ByteArray) (C : List Int) (hl : C.length < 4611686018427387904) : ∀ (n i : Nat), i ≤ C.length → C.length - i = n → Ev (fun k => tabardref09_Right.l0 k K (i : Int) K N C B M) (if K = 2 then belowB M (C.drop i) else true)
  | 0, i, hi, hn => by
    rw [List.drop_of_length_le kq1]
    refine Ev.step (f := fun k => tabardref09_Right.j3 k K (i : Int) false K N C B M) (fun k => ?_) ?_
    · conv => lhs; simp only [tabardref09_Right.l0]
      rw [if_neg kq1]
    · refine Ev.step (f := fun _ => some true) (fun k => ?_) ?_
      · conv => lhs; simp only [tabardref09_Right.j3]
        rw [if_neg kq2]
      · rw [show (if K = 2 then belowB M [] else true) = true by split <;> rfl]
        exact Ev.now _
  | n + 1, i, hi, hn => by
    have hlt : i < C.length := by omega
    have hw : wrap64 ((i : Int) + 1) = ((i + 1 : Nat) : Int) := by unfold wrap64; omega
    have ih := right_loop K B M N C hl n (i + 1) kq1 kq1
    refine Ev.step (f := fun k => tabardref09_Right.j3 k K (i : Int) (K == 2) K N C B M) (fun k => ?_) ?_
    · conv => lhs; simp only [tabardref09_Right.l0]
      rw [if_pos kq1]
    · by_cases hK : K = 2
      · rw [if_pos hK, List.drop_eq_getElem_cons hlt, belowB_cons]
        rw [if_pos hK] at ih
        refine Ev.step (f := fun k => if C[i] < 0 then some false else if C[i] ≥ M then some false else tabardref09_Right.l0 k K ((i + 1 : Nat) : Int) K N C B M) (fun k => ?_) ?_
        · conv => lhs; simp only [tabardref09_Right.j3]
          rw [if_pos (by simpa using hK), if_pos kq1, if_pos kq1, rd_of_lt hlt, hw]
        · by_cases h0 : C[i] < 0
          · refine Ev.congr (fun k => if_pos h0) ?_
            rw [decide_eq_false (fun h => by omega), Bool.false_and]
            exact Ev.now _
          · refine Ev.congr (fun k => if_neg h0) ?_
            by_cases h1 : C[i] ≥ M
            · refine Ev.congr (fun k => if_pos h1) ?_
              rw [decide_eq_false (fun h => by omega), Bool.false_and]
              exact Ev.now _
            · refine Ev.congr (fun k => if_neg h1) ?_
              rw [decide_eq_true kq1, Bool.true_and]
              exact ih
      · rw [if_neg hK]
        refine Ev.step (f := fun _ => some true) (fun k => ?_) (Ev.now _)
        conv => lhs; simp only [tabardref09_Right.j3]
        rw [if_neg (by simpa using hK)]
theorem right_ev (K : Int) (N : List ByteArray) (C : List Int) (B M : Int) (hN : N.length < 4611686018427387904) (hs : ∀ s ∈ N, s.size ≤ 140737488351232) (hC : C.length + 1 < 17592186044416) (hi : ∀ x ∈ C, In64 x) (hB : In64 B) : Ev (fun k => tabardref09_Right.f k K N C B M) (rightB K N C B M) := by
  have hlen : ([B] ++ C).length = C.length + 1 := by simp
  have ht := rtotal_spec (l := [B] ++ C) (fun x hx => (List.mem_append.1 hx).elim (fun h => by rw [List.mem_singleton.1 h]; exact hB) (hi x)) kq1
  have bad : Ev (fun k => tabardref09_Right.j0 k K true K N C B M) false := Ev.step (f := fun _ => some false) (fun k => by
    conv => lhs; rw [tabardref09_Right.j0]
    rw [if_pos rfl]) (Ev.now _)
  have j1t : Ev (fun k => tabardref09_Right.j1 k K true K N C B M) false := Ev.step (f := fun _ => some false) (fun k => by
    conv => lhs; rw [tabardref09_Right.j1]
    rw [if_pos rfl]) (Ev.now _)
  have j1f : Ev (fun k => tabardref09_Right.j1 k K false K N C B M) (if K = 2 then belowB M C else true) := Ev.step (f := fun k => tabardref09_Right.l0 k K 0 K N C B M) (fun k => by
    conv => lhs; rw [tabardref09_Right.j1]
    rw [if_neg kq2]) (right_loop K B M N C kq1 _ 0 (Nat.zero_le _) rfl)
  have good : Ev (fun k => tabardref09_Right.j0 k K false K N C B M) (decide ((fit (total ([B] ++ C))).2 = 0) && (if K = 2 then decide (M ≥ 1) && belowB M ([B] ++ C) else decide (M = 0))) := by
    refine Ev.step (f := fun k => (tabardref01_Total.f k ([B] ++ C)).bind fun bt => (if bt.2 = 0 then (if K = 2 then (if M < 1 then (tabardref09_Right.j1 k K true K N C B M) else (if B < 0 then (tabardref09_Right.j1 k K true K N C B M) else (tabardref09_Right.j1 k K (decide (B ≥ M)) K N C B M))) else (if M = 0 then (tabardref09_Right.j1 k K false K N C B M) else (tabardref09_Right.j1 k K true K N C B M))) else (tabardref09_Right.j1 k K true K N C B M))) (fun k => ?_) ?_
    · conv => lhs; rw [tabardref09_Right.j0]
      rw [if_neg kq2, Option.bind_some, if_pos (by simp; omega)]
    · refine Ev.bind ht ?_
      by_cases h0 : (fit (total ([B] ++ C))).2 = 0
      · refine Ev.congr (fun k => if_pos h0) ?_
        rw [decide_eq_true h0, Bool.true_and]
        by_cases hK : K = 2
        · refine Ev.congr (fun k => if_pos hK) ?_
          rw [if_pos hK] at j1f ⊢
          rw [show belowB M ([B] ++ C) = (decide (0 ≤ B ∧ B < M) && belowB M C) from rfl]
          by_cases hM : M < 1
          · refine Ev.congr (fun k => if_pos hM) ?_
            rw [decide_eq_false kq1, Bool.false_and]
            exact j1t
          · refine Ev.congr (fun k => if_neg hM) ?_
            rw [decide_eq_true (show M ≥ 1 by omega), Bool.true_and]
            by_cases hb : B < 0
            · refine Ev.congr (fun k => if_pos hb) ?_
              rw [decide_eq_false (fun h => by omega), Bool.false_and]
              exact j1t
            · refine Ev.congr (fun k => if_neg hb) ?_
              by_cases hb2 : B ≥ M
              · rw [decide_eq_true hb2, decide_eq_false (fun h => by omega), Bool.false_and]
                exact j1t
              · rw [decide_eq_false hb2, decide_eq_true (show 0 ≤ B ∧ B < M by omega), Bool.true_and]
                exact j1f
        · refine Ev.congr (fun k => if_neg hK) ?_
          rw [if_neg hK] at j1f ⊢
          by_cases hM : M = 0
          · refine Ev.congr (fun k => if_pos hM) ?_
            rw [decide_eq_true hM]
            exact j1f
          · refine Ev.congr (fun k => if_neg hM) ?_
            rw [decide_eq_false hM]
            exact j1t
      · refine Ev.congr (fun k => if_neg h0) ?_
        rw [decide_eq_false h0, Bool.false_and]
        exact j1t
  unfold tabardref09_Right.f rightB
  by_cases h0 : K < 0
  · refine Ev.congr (fun k => if_pos h0) ?_
    rw [decide_eq_false (fun h => by omega), Bool.false_and]
    exact bad
  · refine Ev.congr (fun k => if_neg h0) ?_
    by_cases h2 : K > 2
    · refine Ev.congr (fun k => if_pos h2) ?_
      rw [decide_eq_false (fun h => by omega), Bool.false_and]
      exact bad
    · refine Ev.congr (fun k => if_neg h2) (Ev.bind (rrises_ev N hN hs) ?_)
      rw [decide_eq_true (show 0 ≤ K ∧ K ≤ 2 by omega), Bool.true_and]
      by_cases hr : risesB none N = true
      · refine Ev.congr (fun k => if_pos hr) ?_
        rw [hr, Bool.true_and]
        by_cases hl : N.length = C.length
        · rw [decide_eq_true hl, Bool.true_and, show ((N.length : Int) != (C.length : Int)) = false from bne_eq_false_iff_eq.2 kq1]
          exact good
        · rw [decide_eq_false hl, Bool.false_and, show ((N.length : Int) != (C.length : Int)) = true from bne_iff_ne.2 kq1]
          exact bad
      · refine Ev.congr (fun k => if_neg hr) ?_
        rw [Bool.eq_false_iff.mpr hr, Bool.false_and]
        exact bad
theorem NormChecks_ev {K : Int} {N : List ByteArray} {C : List Int} {B M : Int} (hN : N.length * 16 ≤ 140737488351232) (hs : ∀ s ∈ N, s.size ≤ 140737488351232) (hC : C.length * 8 ≤ 140737488351232) (hi : ∀ x ∈ C, fitI x) (hB : fitI B) : Ev (fun k => tabardlaw09_NormChecks.f k K N C B M) true := by
  have hi' : ∀ x ∈ C, In64 x := hi
  have hB' : In64 B := hB
  unfold tabardlaw09_NormChecks.f
  refine Ev.congr (f := fun k => (norm_Check.f k K N C B M).bind fun t1439 => ((tabardref09_Right.f k K N C B M).bind fun t1440 => (if t1440 = true then ((tabardlaw09_fixed.f k).bind fun t1441 => (if t1441 = true then (if t1439 = 0 then ((tabardlaw09_normals.f k K N C B M K N C B M).bind fun t1442 => (some t1442)) else (some false)) else (some false))) else ((tabardlaw09_fixed.f k).bind fun t1443 => (if t1443 = true then (if t1439 = 3 then ((tabardlaw09_normals.f k K N C B M K N C B M).bind fun t1444 => (some t1444)) else (some false)) else (some false)))))) (fun k => ?_) ?_
  · rw [Option.bind_some, if_pos (by simp; omega), Option.bind_some, Option.bind_some, if_pos (by simp; omega), Option.bind_some, List.nil_append, List.nil_append]
  · have hn := normals_ev K N C B M K N C B M kq1 kq1
    rw [decide_eq_true (⟨rfl, rfl, rfl, rfl, rfl⟩ : K = K ∧ N = N ∧ C = C ∧ B = B ∧ M = M)] at hn
    refine Ev.bind (check_ev K N C B M kq1 kq1 hi' hB') (Ev.bind (right_ev K N C B M kq1 hs kq1 hi' hB') ?_)
    by_cases hr : rightB K N C B M = true
    · refine Ev.congr (fun k => if_pos hr) (Ev.bind fixed9_ev ?_)
      refine Ev.congr (fun k => if_pos rfl) ?_
      refine Ev.congr (fun k => if_pos (if_pos hr)) (Ev.bind hn (Ev.now _))
    · refine Ev.congr (fun k => if_neg hr) (Ev.bind fixed9_ev ?_)
      refine Ev.congr (fun k => if_pos rfl) ?_
      refine Ev.congr (fun k => if_pos (if_neg hr)) (Ev.bind hn (Ev.now _))
end Go.Proofs.Ytjknpmibdkoklaa.Q
set_option maxRecDepth 100000
namespace Go.Proofs.Ytjknpmibdkoklaa.Q
open Go.ChangeShapes Go.WideShapes Go.RowKit Go.Proofs.YtjknpmibdkoklaaW.PrintWords Go.Proofs.YtjknpmibdkoklaaW.PrintLast Go.Proofs.YtjknpmibdkoklaaW.PrintMore
section
variable {H : Type} {enc : TypeId × Value → H} {W : World} {base : Nat} {spare : Nat → Bool} {held : Bool}
theorem ints_arg {fuel : Nat} {cs : List Value} {x : DataW H × List MemPlace} (h : DataW.trod enc Try.prog W base spare held fuel 55 cs = some x) (hw : ∀ m ∈ x.1.weights Try.prog 55, m ≤ reachBytes) :
    ∃ A l c, cs = [.slice A l.length c] ∧ l.length ≤ c ∧ Kd.C (Kd.int .i64) W A l.length l ∧ l.length * 8 ≤ 140737488351232 ∧ ∀ p ∈ l, fitI p :=
  row_arg (Kd.int .i64) fitI 8 Try.underlying55 kq0 kq0 (fun m _ cs x h _ => by
    obtain ⟨a, rfl, ha⟩ := int_arg Try.underlying2 h
    exact ⟨a, rfl, rfl, ha⟩) h hw
theorem texts_arg {fuel : Nat} {cs : List Value} {x : DataW H × List MemPlace} (h : DataW.trod enc Try.prog W base spare held fuel 22 cs = some x) (hw : ∀ m ∈ x.1.weights Try.prog 22, m ≤ reachBytes) :
    ∃ A l c, cs = [.slice A l.length c] ∧ l.length ≤ c ∧ Kd.C Kd.string W A l.length l ∧ l.length * 16 ≤ 140737488351232 ∧ ∀ p ∈ l, p.size ≤ 140737488351232 :=
  row_arg Kd.string (fun p => p.size ≤ 140737488351232) 16 Try.underlying22 kq0 kq0 (fun m _ cs x h hw => by
    obtain ⟨s, rfl, hs⟩ := str_arg Try.underlying9 h hw
    exact ⟨s, rfl, rfl, hs⟩) h hw
theorem open_normal {v : Value} {d : DataW H} {ps : List MemPlace} {r : Reach} {b0 : Nat} (hv : Value.okWide Try.prog W r b0 58 v) (h : DataW.Trod enc Try.prog W base spare held 58 v d ps) (hw : ∀ m ∈ d.weights Try.prog 58, m ≤ reachBytes) :
    ∃ (K : Int) (A1 : Option Addr) (l1 : List ByteArray) (c1 : Nat) (A2 : Option Addr) (l2 : List Int) (c2 : Nat) (B M : Int), v = .agg #[.int .i64 K, .slice A1 l1.length c1, .slice A2 l2.length c2, .int .i64 B, .int .i64 M] ∧ l1.length ≤ c1 ∧ Kd.C Kd.string W A1 l1.length l1 ∧ l2.length ≤ c2 ∧ Kd.C (Kd.int .i64) W A2 l2.length l2 ∧ l1.length * 16 ≤ 140737488351232 ∧ (∀ p ∈ l1, p.size ≤ 140737488351232) ∧ l2.length * 8 ≤ 140737488351232 ∧ (∀ p ∈ l2, fitI p) ∧ fitI K ∧ fitI B ∧ fitI M := by
  obtain ⟨cs, rfl, _⟩ := okWide_struct Try.underlying58 hv
  obtain ⟨fuel, hq⟩ := h
  obtain ⟨xs, n, rfl, ex, hcl, hxl, hf⟩ := DataW.trod_struct Try.underlying58 hq
  obtain ⟨rfl, rfl⟩ := Prod.mk.inj ex
  rw [show Try.prog.cellsOf 58 = 5 by kernel_rfl] at hcl
  obtain ⟨k0, k1, k2, k3, k4, hk⟩ := five hcl
  rw [hk] at hf
  obtain ⟨y0, y1, y2, y3, y4, rfl⟩ := five (show xs.length = 5 from hxl)
  have hw' : ∀ (j : Nat) (t : TypeId) (y : DataW H), ([56, 22, 55, 2, 2] : List TypeId)[j]? = some t → ([y0.1, y1.1, y2.1, y3.1, y4.1] : List (DataW H))[j]? = some y → ∀ m ∈ y.weights Try.prog t, m ≤ reachBytes := fun j t y ht hy m hm => hw m (by
    simp only [DataW.weights, Try.underlying58]
    exact DataW.weights_mem_each ht hy m hm)
  obtain ⟨a0, e0, w0⟩ := int_arg Try.underlying56 (hf 0 _ rfl)
  obtain ⟨A1, l1, c1, e1, b1, C1, z1, Q1⟩ := texts_arg (hf 1 _ rfl) (hw' 1 _ _ rfl rfl)
  obtain ⟨A2, l2, c2, e2, b2, C2, z2, Q2⟩ := ints_arg (hf 2 _ rfl) (hw' 2 _ _ rfl rfl)
  obtain ⟨a3, e3, w3⟩ := int_arg Try.underlying2 (hf 3 _ rfl)
  obtain ⟨a4, e4, w4⟩ := int_arg Try.underlying2 (hf 4 _ rfl)
  have f0 : k0 = .int .i64 a0 := by simpa [show Try.prog.cellsOf 56 = 1 by kernel_rfl] using e0
  have f1 : k1 = .slice A1 l1.length c1 := by simpa [show Try.prog.cellsOf 22 = 1 by kernel_rfl] using e1
  have f2 : k2 = .slice A2 l2.length c2 := by simpa [show Try.prog.cellsOf 55 = 1 by kernel_rfl] using e2
  have f3 : k3 = .int .i64 a3 := by simpa [show Try.prog.cellsOf 2 = 1 by kernel_rfl] using e3
  have f4 : k4 = .int .i64 a4 := by simpa [show Try.prog.cellsOf 2 = 1 by kernel_rfl] using e4
  subst f0 f1 f2 f3 f4
  refine ⟨a0, A1, l1, c1, A2, l2, c2, a3, a4, ?_, b1, C1, b2, C2, z1, Q1, z2, Q2, w0, w3, w4⟩
  rw [show cs = (Value.agg cs).cells.toList.toArray by simp [Value.cells], hk]
end
end Go.Proofs.Ytjknpmibdkoklaa.Q
