/- Functions of the given program as Lean functions, each with its contract, and what they answer; words for it. No condition but those of each. -/
import Derived.Test.YtoopddhkjhpbnaaDoorMA7
import Derived.Test.YtoopddhkjhpbnaaDoorMA2
import Derived.Test.YtoopddhkjhpbnaaDoorMA9
import Derived.Test.YtoopddhkjhpbnaaDoorMA10
import Derived.Test.YtoopddhkjhpbnaaDoorMA11
namespace Go.Proofs.YtoopddhkjhpbnaaDoor.Q
open Go.RowKit Go.Proofs.YtoopddhkjhpbnaaDoorW.PrintWords Go.Proofs.YtoopddhkjhpbnaaDoorW.PrintLast Go.Proofs.YtoopddhkjhpbnaaDoorW.PrintMore
def inPairs (x : Int) : List Int → Bool
  | a :: b :: t => decide (a ≤ x ∧ x ≤ b) || inPairs x t
  | _ => false
theorem rdl {l : List Int} {i : Nat} (h : i < l.length) : rd l (i : Int) = l[i] := by
  unfold rd
  simp [List.getD_eq_getElem?_getD, h]
theorem within_loop (x : Int) (l : List Int) (hl : l.length < 1000) : ∀ (d i : Nat), l.length - i ≤ d → i ≤ l.length + 1 → ∀ k, d < k → tabardref04_within.l0 k x l (i : Int) = some (inPairs x (l.drop i)) := by
  intro d
  induction d with
  | zero =>
    intro i hi hi2 k hk
    obtain ⟨k, rfl⟩ : ∃ m, k = m + 1 := ⟨k - 1, by omega⟩
    simp only [tabardref04_within.l0]
    rw [w64 (a := (i : Int) + 1) (by omega) (by omega), if_neg (by omega), List.drop_eq_nil_of_le (by omega)]
    rfl
  | succ d ih =>
    intro i hi hi2 k hk
    obtain ⟨k, rfl⟩ : ∃ m, k = m + 1 := ⟨k - 1, by omega⟩
    simp only [tabardref04_within.l0]
    by_cases h : i + 1 < l.length
    · rw [w64 (a := (i : Int) + 1) (by omega) (by omega), if_pos (by omega), if_pos (by omega), if_pos (by omega), rdl (by omega), show ((i : Int) + 1) = ((i + 1 : Nat) : Int) by omega, rdl h]
      rw [List.drop_eq_getElem_cons (show i < l.length by omega), List.drop_eq_getElem_cons h]
      have next := ih (i + 2) (by omega) (by omega) k (by omega)
      rw [w64 (a := (i : Int) + 2) (by omega) (by omega), show ((i : Int) + 2) = ((i + 2 : Nat) : Int) by omega, next]
      simp only [inPairs]
      by_cases h1 : x ≥ l[i]
      · rw [if_pos h1, if_pos (by omega)]
        by_cases h2 : x ≤ l[i + 1]
        · rw [if_pos h2, decide_eq_true (show l[i] ≤ x ∧ x ≤ l[i + 1] from ⟨h1, h2⟩)]
          rfl
        · rw [if_neg h2, decide_eq_false (fun h => h2 h.2)]
          rfl
      · rw [if_neg h1, decide_eq_false (fun h => h1 h.1)]
        rfl
    · rw [w64 (a := (i : Int) + 1) (by omega) (by omega), if_neg (by omega)]
      by_cases h1 : i < l.length
      · have : l.drop i = [l[i]] := by rw [List.drop_eq_getElem_cons h1, List.drop_eq_nil_of_le (by omega)]
        rw [this]
        rfl
      · rw [List.drop_eq_nil_of_le (by omega)]
        rfl
theorem within_spec (x : Int) (l : List Int) (hl : l.length < 1000) (k : Nat) (hk : l.length < k) : tabardref04_within.f k x l = some (inPairs x l) := within_loop x l hl l.length 0 (by omega) (by omega) k hk
theorem rstart_at (k : Nat) (x : Int) : tabardref04_Start.f (k + 13) x = some (startB x) := by
  unfold tabardref04_Start.f
  rw [within_spec _ _ (by decide) _ (by simp)]
  simp only [Option.bind_some, inPairs, startB, Bool.or_false]
  congr 1
  rw [Bool.eq_iff_iff]
  simp only [Bool.or_eq_true, decide_eq_true_eq]
  omega
theorem rrest_at (k : Nat) (x : Int) : tabardref04_Rest.f (k + 13) x = some (restB x) := by
  unfold tabardref04_Rest.f
  rw [rstart_at]
  unfold restB
  cases startB x
  · simp only [Option.bind_some]
    rw [if_neg (by decide), within_spec _ _ (by decide) _ (by simp)]
    simp only [Option.bind_some, inPairs, Bool.or_false, Bool.false_or]
    congr 1
    rw [Bool.eq_iff_iff]
    simp only [Bool.or_eq_true, decide_eq_true_eq]
    omega
  · rfl
theorem reserved_loop (s : ByteArray) (l : List ByteArray) (hl : l.length < 1000) : ∀ (d i : Nat), i + d = l.length → ∀ k, d < k → tabardref04_Reserved.l0 k s l (i : Int) = some ((l.drop i).any fun w => w.toList == s.toList) := by
  intro d
  induction d with
  | zero =>
    intro i hi k hk
    obtain ⟨k, rfl⟩ : ∃ m, k = m + 1 := ⟨k - 1, by omega⟩
    simp only [tabardref04_Reserved.l0]
    rw [if_neg (by omega), List.drop_of_length_le (by omega)]
    rfl
  | succ d ih =>
    intro i hi k hk
    obtain ⟨k, rfl⟩ : ∃ m, k = m + 1 := ⟨k - 1, by omega⟩
    simp only [tabardref04_Reserved.l0]
    have hx : rdOf ByteArray.empty l (i : Int) = l[i]'(by omega) := by simp [rdOf, show i < l.length by omega]
    rw [if_pos (by omega), if_pos (by omega), hx, w64 (by omega) (by omega), show ((i : Int) + 1) = ((i + 1 : Nat) : Int) by omega, ih (i + 1) (by omega) k (by omega), List.drop_eq_getElem_cons (i := i) (show i < l.length by omega), List.any_cons]
    by_cases h : (l[i]'(by omega)).toList = s.toList
    · rw [if_pos h, beq_iff_eq.2 h]; rfl
    · rw [if_neg h, beq_eq_false_iff_ne.2 h]; rfl
theorem rreserved_at (k : Nat) (s : ByteArray) : tabardref04_Reserved.f (k + 9) s = some (reservedB s) := by
  unfold tabardref04_Reserved.f
  rw [show (0 : Int) = ((0 : Nat) : Int) from rfl, reserved_loop s _ (by decide) 8 0 rfl _ (by omega), List.drop_zero]
  refine congrArg some ?_
  unfold reservedB glyph_Reserved.f
  have e : ∀ a : List UInt8, (a == s.toList) = decide (s.toList = a) := fun a => by
    by_cases h : s.toList = a
    · subst h; simp
    · rw [decide_eq_false h, beq_eq_false_iff_ne.2 (fun e => h e.symm)]
  simp only [List.any_cons, List.any_nil, e]
  rw [show (⟨#[97, 110, 100]⟩ : ByteArray).toList = [97, 110, 100] from by decide +kernel, show (⟨#[111, 114]⟩ : ByteArray).toList = [111, 114] from by decide +kernel, show (⟨#[110, 111, 116]⟩ : ByteArray).toList = [110, 111, 116] from by decide +kernel, show (⟨#[101, 120]⟩ : ByteArray).toList = [101, 120] from by decide +kernel, show (⟨#[97, 108, 108]⟩ : ByteArray).toList = [97, 108, 108] from by decide +kernel, show (⟨#[109, 111, 100]⟩ : ByteArray).toList = [109, 111, 100] from by decide +kernel, show (⟨#[116, 114, 117, 101]⟩ : ByteArray).toList = [116, 114, 117, 101] from by decide +kernel, show (⟨#[102, 97, 108, 115, 101]⟩ : ByteArray).toList = [102, 97, 108, 115, 101] from by decide +kernel]
  generalize s.toList = l
  (repeat' split) <;> simp_all
theorem name_loop (s : ByteArray) (hs : s.size ≤ 140737488351232) : ∀ (d pos n : Nat), s.size - pos ≤ d → n ≤ pos → (n = 0 ↔ pos = 0) → pos ≤ s.size + 4 → Ev (fun k => tabardref04_Name.l0 k s (n : Int) (pos : Int)) ((nameGo s pos (n : Int)).1 && decide ((nameGo s pos (n : Int)).2 > 0) && decide ((nameGo s pos (n : Int)).2 ≤ 16) && !reservedB s) := by
  intro d
  induction d with
  | zero =>
    intro pos n hd hn h0 hp
    refine EvK 10 (fun k => ?_)
    simp only [tabardref04_Name.l0]
    rw [if_neg (by omega), nameGo, dif_neg (by omega), rreserved_at]
    by_cases h1 : (n : Int) ≥ 1 <;> by_cases h2 : (n : Int) ≤ 16 <;> simp [h1, h2] <;> omega
  | succ d ih =>
    intro pos n hd hn h0 hp
    by_cases h : pos < s.size
    · have h1 := decode_pos s pos h
      obtain ⟨h2, hbad, _⟩ := decode_read s pos
      have hw : (readB s pos).2.1 = (Utf8.decode s pos).2 := by rw [h2]
      have hr : (readB s pos).1 = (Utf8.decode s pos).1 := by rw [h2]
      have hw4 : (readB s pos).2.1 ≤ 4 := by
        unfold readB readN
        repeat' split
        all_goals simp
      have next := ih (pos + (Utf8.decode s pos).2) (n + 1) (by omega) (by omega) (by omega) (by omega)
      rw [nameGo, dif_pos h]
      have hz : (pos == 0) = decide ((n : Int) = 0) := by
        by_cases hn0 : n = 0
        · rw [h0.1 hn0, decide_eq_true (show (n : Int) = 0 by omega)]; rfl
        · rw [decide_eq_false (show ¬ (n : Int) = 0 by omega), beq_eq_false_iff_ne.2 (fun e => hn0 (h0.2 e))]
      rw [hz, ← hr]
      have rd0 : Ev (fun k => tabardref04_Read.f k s (pos : Int)) (((readB s pos).1 : Int), ((readB s pos).2.1 : Int), (readB s pos).2.2) := EvK 8 (fun k => read_at hs h k)
      have st0 : Ev (fun k => tabardref04_Start.f k ((readB s pos).1 : Int)) (startB ((readB s pos).1 : Int)) := EvK 13 (fun k => rstart_at k _)
      have rt0 : Ev (fun k => tabardref04_Rest.f k ((readB s pos).1 : Int)) (restB ((readB s pos).1 : Int)) := EvK 13 (fun k => rrest_at k _)
      have hstep : ∀ k, tabardref04_Name.l0 (k + 1) s (n : Int) (pos : Int) = (tabardref04_Read.f k s (pos : Int)).bind fun b => (if b.2.2 = true then (if (n : Int) = 0 then ((tabardref04_Start.f k b.1).bind fun t => (if t = true then ((tabardref04_Rest.f k b.1).bind fun u => (if u = true then tabardref04_Name.l0 k s (wrap64 ((n : Int) + 1)) (wrap64 ((pos : Int) + b.2.1)) else some false)) else some false)) else ((tabardref04_Rest.f k b.1).bind fun u => (if u = true then tabardref04_Name.l0 k s (wrap64 ((n : Int) + 1)) (wrap64 ((pos : Int) + b.2.1)) else some false))) else some false) := fun k => by
        simp only [tabardref04_Name.l0]
        rw [if_pos (by omega)]
      have hnx : Ev (fun k => tabardref04_Name.l0 k s (wrap64 ((n : Int) + 1)) (wrap64 ((pos : Int) + ((readB s pos).2.1 : Int)))) ((nameGo s (pos + (Utf8.decode s pos).2) (wrap64 ((n : Int) + 1))).1 && decide ((nameGo s (pos + (Utf8.decode s pos).2) (wrap64 ((n : Int) + 1))).2 > 0) && decide ((nameGo s (pos + (Utf8.decode s pos).2) (wrap64 ((n : Int) + 1))).2 ≤ 16) && !reservedB s) := by
        rw [w64 (a := (n : Int) + 1) (by omega) (by omega), hw, w64 (by omega) (by omega), show ((n : Int) + 1) = ((n + 1 : Nat) : Int) by omega, show ((pos : Int) + (((Utf8.decode s pos).2 : Nat) : Int)) = ((pos + (Utf8.decode s pos).2 : Nat) : Int) by omega]
        exact next
      refine Ev.step hstep (Ev.bind rd0 ?_)
      cases hok : (readB s pos).2.2 with
      | false =>
        have hr2 : (readB s pos).1 = 65533 := by rw [hbad hok]
        rw [hr2, show restB ((65533 : Nat) : Int) = false from by decide]
        simp only [Bool.not_false, Bool.or_true, if_true, Bool.false_and]
        exact Ev.congr (fun k => if_neg (by decide)) (Ev.now false)
      | true =>
        refine Ev.congr (fun k => if_pos rfl) ?_
        by_cases hn0 : (n : Int) = 0
        · refine Ev.congr (fun k => if_pos hn0) (Ev.bind st0 ?_)
          rw [decide_eq_true hn0]
          cases startB ((readB s pos).1 : Int) with
          | false => exact Ev.congr (fun k => if_neg (by decide)) (Ev.now false)
          | true =>
            refine Ev.congr (fun k => if_pos rfl) (Ev.bind rt0 ?_)
            cases restB ((readB s pos).1 : Int) with
            | false => exact Ev.congr (fun k => if_neg (by decide)) (Ev.now false)
            | true => exact Ev.congr (fun k => if_pos rfl) hnx
        · refine Ev.congr (fun k => if_neg hn0) (Ev.bind rt0 ?_)
          rw [decide_eq_false hn0]
          cases restB ((readB s pos).1 : Int) with
          | false => exact Ev.congr (fun k => if_neg (by decide)) (Ev.now false)
          | true => exact Ev.congr (fun k => if_pos rfl) hnx
    · refine EvK 10 (fun k => ?_)
      simp only [tabardref04_Name.l0]
      rw [if_neg (by omega), nameGo, dif_neg (by omega), rreserved_at]
      by_cases h1 : (n : Int) ≥ 1 <;> by_cases h2 : (n : Int) ≤ 16 <;> simp [h1, h2] <;> omega
theorem name_spec (s : ByteArray) (hs : s.size ≤ 140737488351232) : Ev (fun k => tabardref04_Name.f k s) (nameB s) := name_loop s hs s.size 0 0 (by omega) (by omega) (by omega) (by omega)
end Go.Proofs.YtoopddhkjhpbnaaDoor.Q
