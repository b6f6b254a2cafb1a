/- The characters' classes, the reference's count of characters, and the fixed answers. No condition but the text's size. -/
import Derived.Test.YtcphnnopjfogdaaPureRead
import Derived.Test.YtcphnnopjfogdaaXAt
import Derived.Test.YtcphnnopjfogdaaG2
import Derived.Test.YtcphnnopjfogdaaG5
import Derived.Test.YtcphnnopjfogdaaG7
import Derived.Test.YtcphnnopjfogdaaG8
import Derived.Test.YtcphnnopjfogdaaG9
namespace Go.Proofs.Ytcphnnopjfogdaa.G
open Go.RowKit Go.Proofs.YtcphnnopjfogdaaW.PrintWords Go.Proofs.YtcphnnopjfogdaaW.PrintLast Go.Proofs.YtcphnnopjfogdaaW.PrintMore

theorem fixed04 : tabardlaw04_fixed.f = some true := by
  have a1 : glyph_At.f (⟨#[97, 195, 169, 98]⟩ : ByteArray) 3 = some (3, 2, 0) := by
    unfold glyph_At.f
    rw [if_pos (by decide)]
    have d0 : Utf8.decode ((⟨#[97, 195, 169, 98]⟩ : ByteArray).extract 0 (3 : Int).toNat) 0 = (97, 1) := by decide +kernel
    have d1 : Utf8.decode ((⟨#[97, 195, 169, 98]⟩ : ByteArray).extract 0 (3 : Int).toNat) 1 = (233, 2) := by decide +kernel
    have e : charsGo ((⟨#[97, 195, 169, 98]⟩ : ByteArray).extract 0 (3 : Int).toNat) 0 0 = 2 := by
      rw [charsGo, dif_pos (by decide +kernel), d0]
      show charsGo _ 1 _ = 2
      rw [charsGo, dif_pos (by decide +kernel), d1]
      show charsGo _ 3 _ = 2
      rw [charsGo, dif_neg (by decide +kernel)]
      decide +kernel
    rw [e]
  have a2 : glyph_Name.f (⟨#[206, 177, 226, 130, 129]⟩ : ByteArray) = some true := by
    have d0 : Utf8.decode (⟨#[206, 177, 226, 130, 129]⟩ : ByteArray) 0 = (945, 2) := by decide +kernel
    have d1 : Utf8.decode (⟨#[206, 177, 226, 130, 129]⟩ : ByteArray) 2 = (8321, 3) := by decide +kernel
    have e : nameGo (⟨#[206, 177, 226, 130, 129]⟩ : ByteArray) 0 0 = (true, 2) := by
      rw [nameGo, dif_pos (by decide +kernel), d0, if_neg (by decide +kernel)]
      show nameGo _ 2 _ = (true, 2)
      rw [nameGo, dif_pos (by decide +kernel), d1, if_neg (by decide +kernel)]
      show nameGo _ 5 _ = (true, 2)
      rw [nameGo, dif_neg (by decide +kernel)]
      decide +kernel
    unfold glyph_Name.f
    rw [name_val e, show reservedB (⟨#[206, 177, 226, 130, 129]⟩ : ByteArray) = false by decide +kernel]
    decide
  have a3 : glyph_Name.f (⟨#[97, 110, 100]⟩ : ByteArray) = some false := by
    unfold glyph_Name.f nameB
    rw [show reservedB (⟨#[97, 110, 100]⟩ : ByteArray) = true by decide +kernel]
    simp
  have a4 : glyph_Plain.f 8804 = some (⟨#[60, 61]⟩ : ByteArray) := by
    unfold glyph_Plain.f
    rw [if_pos rfl]
  unfold tabardlaw04_fixed.f
  rw [a1, a2, a3, a4]
  decide +kernel
/-! ### the reference's classes -/
def inPairs (x : Int) : List Int → Bool
  | a :: b :: t => decide (a ≤ x ∧ x ≤ b) || inPairs x t
  | _ => false
theorem rdl {l : List Int} {i : Nat} (h : i < l.length) : rd l (i : Int) = l[i] := by
  unfold rd
  simp [List.getD_eq_getElem?_getD, h]
theorem within_loop (x : Int) (l : List Int) (hl : l.length < 1000) : ∀ (d i : Nat), l.length - i ≤ d → i ≤ l.length + 1 → ∀ k, d < k → tabardref04_within.l0 k x l (i : Int) = some (inPairs x (l.drop i)) := by
  intro d
  induction d with
  | zero =>
    intro i hi hi2 k hk
    obtain ⟨k, rfl⟩ : ∃ m, k = m + 1 := ⟨k - 1, by omega⟩
    simp only [tabardref04_within.l0]
    rw [w64 (a := (i : Int) + 1) (by omega) (by omega), if_neg (by omega), List.drop_eq_nil_of_le (by omega)]
    rfl
  | succ d ih =>
    intro i hi hi2 k hk
    obtain ⟨k, rfl⟩ : ∃ m, k = m + 1 := ⟨k - 1, by omega⟩
    simp only [tabardref04_within.l0]
    by_cases h : i + 1 < l.length
    · rw [w64 (a := (i : Int) + 1) (by omega) (by omega), if_pos (by omega), if_pos (by omega), if_pos (by omega), rdl (by omega), show ((i : Int) + 1) = ((i + 1 : Nat) : Int) by omega, rdl h]
      rw [List.drop_eq_getElem_cons (show i < l.length by omega), List.drop_eq_getElem_cons h]
      have next := ih (i + 2) (by omega) (by omega) k (by omega)
      rw [w64 (a := (i : Int) + 2) (by omega) (by omega), show ((i : Int) + 2) = ((i + 2 : Nat) : Int) by omega, next]
      simp only [inPairs]
      by_cases h1 : x ≥ l[i]
      · rw [if_pos h1, if_pos (by omega)]
        by_cases h2 : x ≤ l[i + 1]
        · rw [if_pos h2, decide_eq_true (show l[i] ≤ x ∧ x ≤ l[i + 1] from ⟨h1, h2⟩)]
          rfl
        · rw [if_neg h2, decide_eq_false (fun h => h2 h.2)]
          rfl
      · rw [if_neg h1, decide_eq_false (fun h => h1 h.1)]
        rfl
    · rw [w64 (a := (i : Int) + 1) (by omega) (by omega), if_neg (by omega)]
      by_cases h1 : i < l.length
      · have : l.drop i = [l[i]] := by rw [List.drop_eq_getElem_cons h1, List.drop_eq_nil_of_le (by omega)]
        rw [this]
        rfl
      · rw [List.drop_eq_nil_of_le (by omega)]
        rfl
theorem within_spec (x : Int) (l : List Int) (hl : l.length < 1000) (k : Nat) (hk : l.length < k) : tabardref04_within.f k x l = some (inPairs x l) := within_loop x l hl l.length 0 (by omega) (by omega) k hk
theorem rstart_at (k : Nat) (x : Int) : tabardref04_Start.f (k + 13) x = some (startB x) := by
  unfold tabardref04_Start.f
  rw [within_spec _ _ (by decide) _ (by simp)]
  simp only [Option.bind_some, inPairs, startB, Bool.or_false]
  congr 1
  rw [Bool.eq_iff_iff]
  simp only [Bool.or_eq_true, decide_eq_true_eq]
  omega
theorem rrest_at (k : Nat) (x : Int) : tabardref04_Rest.f (k + 13) x = some (restB x) := by
  unfold tabardref04_Rest.f
  rw [rstart_at]
  unfold restB
  cases startB x
  · simp only [Option.bind_some]
    rw [if_neg (by decide), within_spec _ _ (by decide) _ (by simp)]
    simp only [Option.bind_some, inPairs, Bool.or_false, Bool.false_or]
    congr 1
    rw [Bool.eq_iff_iff]
    simp only [Bool.or_eq_true, decide_eq_true_eq]
    omega
  · rfl
/-! ### the reference's signs -/
def lookSign (x : Int) : List Int → List ByteArray → ByteArray
  | m :: ms, w :: ws => if x = m then w else lookSign x ms ws
  | _, _ => ⟨#[]⟩
theorem plain_loop (x : Int) (ms : List Int) (ws : List ByteArray) (hl : ms.length = ws.length) (hl2 : ms.length < 1000) : ∀ (d i : Nat), i + d = ms.length → ∀ k, d < k → tabardref04_Plain.l0 k x ms ws (i : Int) = some (lookSign x (ms.drop i) (ws.drop i)) := by
  intro d
  induction d with
  | zero =>
    intro i hi k hk
    obtain ⟨k, rfl⟩ : ∃ m, k = m + 1 := ⟨k - 1, by omega⟩
    simp only [tabardref04_Plain.l0]
    rw [if_neg (by omega), List.drop_eq_nil_of_le (by omega)]
    rfl
  | succ d ih =>
    intro i hi k hk
    obtain ⟨k, rfl⟩ : ∃ m, k = m + 1 := ⟨k - 1, by omega⟩
    simp only [tabardref04_Plain.l0]
    rw [if_pos (by omega), if_pos (by omega), rdl (by omega), List.drop_eq_getElem_cons (show i < ms.length by omega), List.drop_eq_getElem_cons (show i < ws.length by omega)]
    simp only [lookSign]
    by_cases h : x = ms[i]
    · rw [if_pos h.symm, if_pos (by omega), if_pos h]
      unfold rdOf
      simp [List.getD_eq_getElem?_getD, show i < ws.length by omega]
    · rw [if_neg (fun e => h e.symm), if_neg h, w64 (by omega) (by omega)]
      exact ih (i + 1) (by omega) k (by omega)
def marks : List Int := [8804, 8805, 8800, 8801, 8722, 183, 8594, 8596, 8743, 8744, 172, 8707, 8704]
def signs : List ByteArray := [(⟨#[60, 61]⟩ : ByteArray), (⟨#[62, 61]⟩ : ByteArray), (⟨#[33, 61]⟩ : ByteArray), (⟨#[126]⟩ : ByteArray), (⟨#[45]⟩ : ByteArray), (⟨#[42]⟩ : ByteArray), (⟨#[45, 62]⟩ : ByteArray), (⟨#[60, 45, 62]⟩ : ByteArray), (⟨#[97, 110, 100]⟩ : ByteArray), (⟨#[111, 114]⟩ : ByteArray), (⟨#[110, 111, 116]⟩ : ByteArray), (⟨#[101, 120]⟩ : ByteArray), (⟨#[97, 108, 108]⟩ : ByteArray)]
theorem rplain_at (k : Nat) (x : Int) : tabardref04_Plain.f (k + 14) x = some (lookSign x marks signs) := plain_loop x marks signs rfl (by decide) 13 0 rfl (k + 14) (by omega)
theorem plain_at (x : Int) : glyph_Plain.f x = some (lookSign x marks signs) := by
  unfold glyph_Plain.f
  simp only [lookSign, marks, signs, apply_ite some]
/-! ### the reference's count of characters -/
theorem chars_loop (s : ByteArray) (hs : s.size ≤ 140737488351232) : ∀ (d pos n : Nat), s.size - pos ≤ d → n ≤ pos → pos ≤ s.size + 4 → Ev (fun k => tabardref04_Chars.l0 k s (n : Int) (pos : Int)) (charsGo s pos (n : Int)) := by
  intro d
  induction d with
  | zero =>
    intro pos n hd hn hp
    refine EvK 1 (fun k => ?_)
    simp only [tabardref04_Chars.l0]
    rw [if_neg (by omega), charsGo, dif_neg (by omega)]
  | succ d ih =>
    intro pos n hd hn hp
    by_cases h : pos < s.size
    · have h1 := decode_pos s pos h
      have h2 := (decode_read s pos).1
      have hw : (readB s pos).2.1 = (Utf8.decode s pos).2 := by rw [h2]
      have hw4 : (readB s pos).2.1 ≤ 4 := by
        unfold readB readN
        repeat' split
        all_goals simp
      have next := ih (pos + (Utf8.decode s pos).2) (n + 1) (by omega) (by omega) (by omega)
      rw [charsGo, dif_pos h, w64 (by omega) (by omega), show ((n : Int) + 1) = ((n + 1 : Nat) : Int) by omega]
      refine Ev.step (f := fun k => (tabardref04_Read.f k s (pos : Int)).bind fun b => tabardref04_Chars.l0 k s ((n + 1 : Nat) : Int) (wrap64 ((pos : Int) + b.2.1))) (fun k => ?_) (Ev.bind (EvK 8 (fun k => read_at hs h k)) (Ev.congr (fun k => ?_) next))
      · simp only [tabardref04_Chars.l0]
        rw [if_pos (by omega), w64 (a := (n : Int) + 1) (by omega) (by omega)]
        rfl
      · show tabardref04_Chars.l0 k s _ (wrap64 ((pos : Int) + ((readB s pos).2.1 : Int))) = _
        rw [hw, w64 (by omega) (by omega)]
        rfl
    · refine EvK 1 (fun k => ?_)
      simp only [tabardref04_Chars.l0]
      rw [if_neg (by omega), charsGo, dif_neg (by omega)]
theorem chars_spec (s : ByteArray) (hs : s.size ≤ 140737488351232) : Ev (fun k => tabardref04_Chars.f k s) (charsGo s 0 0) := chars_loop s hs s.size 0 0 (by omega) (by omega) (by omega)
end Go.Proofs.Ytcphnnopjfogdaa.G
