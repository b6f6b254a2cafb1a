/- Functions of the given program as Lean functions, each with its contract, and what they answer; words for it. No condition but those of each. -/
import Derived.Test.YtoopddhkjhpbnaaDoorMA5
import Derived.Test.YtoopddhkjhpbnaaDoorMA6
namespace Go.Proofs.YtoopddhkjhpbnaaDoor.Q
open Go.RowKit Go.Proofs.YtoopddhkjhpbnaaDoorW.PrintWords Go.Proofs.YtoopddhkjhpbnaaDoorW.PrintLast Go.Proofs.YtoopddhkjhpbnaaDoorW.PrintMore
theorem w64 {a : Int} (h0 : -9223372036854775808 ≤ a) (h1 : a ≤ 9223372036854775807) : wrap64 a = a := by unfold wrap64; omega
theorem bt_get (s : ByteArray) (p : Nat) (h : p < s.size) : bt s (p : Int) = ((s.get! p).toNat : Int) := by
  unfold bt
  rw [dif_pos (by simpa using h)]
  have e : s.get! p = s[p]'h := get_at s p h
  rw [e]
  rfl
theorem EvK {α : Type} {g : Nat → Option α} {r : α} (K : Nat) (h : ∀ k, g (k + K) = some r) : Ev g r := ⟨K, fun k hk => by
  obtain ⟨m, rfl⟩ : ∃ m, k = m + K := ⟨k - K, by omega⟩
  exact h m⟩
section
variable {s : ByteArray} {p : Nat} (hs : s.size ≤ 140737488351232) (hp : p < s.size)
include hs
theorem read_in (k : Nat) (x x8 : Nat) (x9 : Int) (i : Nat) (hi : i < x8) (h8 : x8 ≤ 4) (hpi : p + i < s.size) (hx : x ≤ 100000000) (h1 : 128 ≤ (s.get! (p + i)).toNat) (h2 : (s.get! (p + i)).toNat ≤ 191) :
    tabardref04_Read.l0 (k + 1) s (p : Int) (x : Int) (x8 : Int) x9 (i : Int) = tabardref04_Read.l0 k s (p : Int) ((x * 64 + (s.get! (p + i)).toNat - 128 : Nat) : Int) (x8 : Int) x9 ((i + 1 : Nat) : Int) := by
  have hb := bt_get s (p + i) hpi
  have hlt := (s.get! (p + i)).toNat_lt
  simp only [tabardref04_Read.l0]
  rw [show ((p : Int) + (i : Int)) = ((p + i : Nat) : Int) by omega, w64 (a := ((p + i : Nat) : Int)) (by omega) (by omega), hb, w64 (a := ((s.get! (p + i)).toNat : Int)) (by omega) (by omega)]
  rw [if_pos (by omega), if_pos (by omega), if_pos (by omega), if_neg (by omega), if_neg (by omega)]
  rw [w64 (a := (x : Int) * 64) (by omega) (by omega), w64 (a := (x : Int) * 64 + _) (by omega) (by omega), w64 (a := (x : Int) * 64 + _ - 128) (by omega) (by omega), w64 (a := (i : Int) + 1) (by omega) (by omega)]
  congr 1
  omega
theorem read_bad (k : Nat) (x x8 : Nat) (x9 : Int) (i : Nat) (hi : i < x8) (hpi : p + i < s.size) (h1 : (s.get! (p + i)).toNat < 128 ∨ 191 < (s.get! (p + i)).toNat) :
    tabardref04_Read.l0 (k + 1) s (p : Int) (x : Int) (x8 : Int) x9 (i : Int) = some (65533, 1, false) := by
  have hb := bt_get s (p + i) hpi
  have hlt := (s.get! (p + i)).toNat_lt
  simp only [tabardref04_Read.l0]
  rw [show ((p : Int) + (i : Int)) = ((p + i : Nat) : Int) by omega, w64 (a := ((p + i : Nat) : Int)) (by omega) (by omega), hb, w64 (a := ((s.get! (p + i)).toNat : Int)) (by omega) (by omega)]
  rw [if_pos (by omega), if_pos (by omega), if_pos (by omega)]
  by_cases h : (s.get! (p + i)).toNat < 128
  · rw [if_pos (by omega)]
  · rw [if_neg (by omega), if_pos (by omega)]
omit hs in
theorem read_end (k : Nat) (x x8 : Nat) (x9 : Nat) (i : Nat) (hi : ¬ i < x8) :
    tabardref04_Read.l0 (k + 1) s (p : Int) (x : Int) (x8 : Int) (x9 : Int) (i : Int) = if x9 ≤ x ∧ x ≤ 1114111 ∧ ¬ (55296 ≤ x ∧ x ≤ 57343) then some ((x : Int), (x8 : Int), true) else some (65533, 1, false) := by
  simp only [tabardref04_Read.l0]
  rw [if_neg (by omega)]
  by_cases h1 : x < x9
  · rw [if_pos (by omega), if_neg (by omega)]
  · rw [if_neg (by omega)]
    by_cases h2 : x > 1114111
    · rw [if_pos (by omega), if_neg (by omega)]
    · rw [if_neg (by omega)]
      by_cases h3 : 55296 ≤ x
      · rw [if_pos (by omega)]
        by_cases h4 : x ≤ 57343
        · rw [if_pos (by omega), if_neg (by omega)]
        · rw [if_neg (by omega), if_pos (by omega)]
      · rw [if_neg (by omega), if_pos (by omega)]
def readN (n p b0 b1 b2 b3 : Nat) : Nat × Nat × Bool :=
  if b0 < 128 then (b0, 1, true)
  else if 194 ≤ b0 ∧ b0 < 224 then
    if p + 1 < n ∧ (128 ≤ b1 ∧ b1 ≤ 191) ∧ 128 ≤ (b0 - 192) * 64 + b1 - 128 ∧ (b0 - 192) * 64 + b1 - 128 ≤ 1114111 ∧ ¬ (55296 ≤ (b0 - 192) * 64 + b1 - 128 ∧ (b0 - 192) * 64 + b1 - 128 ≤ 57343) then ((b0 - 192) * 64 + b1 - 128, 2, true) else (65533, 1, false)
  else if 224 ≤ b0 ∧ b0 < 240 then
    if p + 2 < n ∧ (128 ≤ b1 ∧ b1 ≤ 191) ∧ (128 ≤ b2 ∧ b2 ≤ 191) ∧ 2048 ≤ ((b0 - 224) * 64 + b1 - 128) * 64 + b2 - 128 ∧ ((b0 - 224) * 64 + b1 - 128) * 64 + b2 - 128 ≤ 1114111 ∧ ¬ (55296 ≤ ((b0 - 224) * 64 + b1 - 128) * 64 + b2 - 128 ∧ ((b0 - 224) * 64 + b1 - 128) * 64 + b2 - 128 ≤ 57343) then (((b0 - 224) * 64 + b1 - 128) * 64 + b2 - 128, 3, true) else (65533, 1, false)
  else if 240 ≤ b0 ∧ b0 < 245 then
    if p + 3 < n ∧ (128 ≤ b1 ∧ b1 ≤ 191) ∧ (128 ≤ b2 ∧ b2 ≤ 191) ∧ (128 ≤ b3 ∧ b3 ≤ 191) ∧ 65536 ≤ (((b0 - 240) * 64 + b1 - 128) * 64 + b2 - 128) * 64 + b3 - 128 ∧ (((b0 - 240) * 64 + b1 - 128) * 64 + b2 - 128) * 64 + b3 - 128 ≤ 1114111 ∧ ¬ (55296 ≤ (((b0 - 240) * 64 + b1 - 128) * 64 + b2 - 128) * 64 + b3 - 128 ∧ (((b0 - 240) * 64 + b1 - 128) * 64 + b2 - 128) * 64 + b3 - 128 ≤ 57343) then ((((b0 - 240) * 64 + b1 - 128) * 64 + b2 - 128) * 64 + b3 - 128, 4, true) else (65533, 1, false)
  else (65533, 1, false)
def readB (s : ByteArray) (p : Nat) : Nat × Nat × Bool := readN s.size p (s.get! (p + 0)).toNat (s.get! (p + 1)).toNat (s.get! (p + 2)).toNat (s.get! (p + 3)).toNat
include hp
theorem read_j2 (k : Nat) (x x8 x9 : Nat) : tabardref04_Read.j2 (k + 1) s (p : Int) (x : Int) (x8 : Int) (x9 : Int) = if p + x8 ≤ s.size then tabardref04_Read.l0 k s (p : Int) (x : Int) (x8 : Int) (x9 : Int) ((1 : Nat) : Int) else some (65533, 1, false) := by
  simp only [tabardref04_Read.j2]
  rw [w64 (by omega) (by omega)]
  by_cases h : p + x8 ≤ s.size
  · rw [if_neg (by omega), if_pos h]
    rfl
  · rw [if_pos (by omega), if_neg h]
omit hp in
theorem read_w2 (k : Nat) (x x9 : Nat) (hx : x ≤ 64) (h : p + 2 ≤ s.size) : tabardref04_Read.l0 (k + 2) s (p : Int) (x : Int) ((2 : Nat) : Int) (x9 : Int) ((1 : Nat) : Int) =
    if (128 ≤ (s.get! (p + 1)).toNat ∧ (s.get! (p + 1)).toNat ≤ 191) ∧ x9 ≤ x * 64 + (s.get! (p + 1)).toNat - 128 ∧ x * 64 + (s.get! (p + 1)).toNat - 128 ≤ 1114111 ∧ ¬ (55296 ≤ x * 64 + (s.get! (p + 1)).toNat - 128 ∧ x * 64 + (s.get! (p + 1)).toNat - 128 ≤ 57343) then some (((x * 64 + (s.get! (p + 1)).toNat - 128 : Nat) : Int), ((2 : Nat) : Int), true) else some (65533, 1, false) := by
  by_cases h1 : 128 ≤ (s.get! (p + 1)).toNat ∧ (s.get! (p + 1)).toNat ≤ 191
  · rw [read_in hs (k + 1) x 2 (x9 : Int) 1 (by omega) (by omega) (by omega) (by omega) h1.1 h1.2, read_end k _ 2 x9 2 (by omega)]
    simp only [h1, and_self, true_and]
  · rw [read_bad hs (k + 1) x 2 (x9 : Int) 1 (by omega) (by omega) (by omega), if_neg (fun h => h1 h.1)]
omit hp in
theorem read_w3 (k : Nat) (x x9 : Nat) (hx : x ≤ 64) (h : p + 3 ≤ s.size) : tabardref04_Read.l0 (k + 3) s (p : Int) (x : Int) ((3 : Nat) : Int) (x9 : Int) ((1 : Nat) : Int) =
    if (128 ≤ (s.get! (p + 1)).toNat ∧ (s.get! (p + 1)).toNat ≤ 191) ∧ (128 ≤ (s.get! (p + 2)).toNat ∧ (s.get! (p + 2)).toNat ≤ 191) ∧ x9 ≤ (x * 64 + (s.get! (p + 1)).toNat - 128) * 64 + (s.get! (p + 2)).toNat - 128 ∧ (x * 64 + (s.get! (p + 1)).toNat - 128) * 64 + (s.get! (p + 2)).toNat - 128 ≤ 1114111 ∧ ¬ (55296 ≤ (x * 64 + (s.get! (p + 1)).toNat - 128) * 64 + (s.get! (p + 2)).toNat - 128 ∧ (x * 64 + (s.get! (p + 1)).toNat - 128) * 64 + (s.get! (p + 2)).toNat - 128 ≤ 57343) then some ((((x * 64 + (s.get! (p + 1)).toNat - 128) * 64 + (s.get! (p + 2)).toNat - 128 : Nat) : Int), ((3 : Nat) : Int), true) else some (65533, 1, false) := by
  have l1 := (s.get! (p + 1)).toNat_lt
  by_cases h1 : 128 ≤ (s.get! (p + 1)).toNat ∧ (s.get! (p + 1)).toNat ≤ 191
  · rw [read_in hs (k + 2) x 3 (x9 : Int) 1 (by omega) (by omega) (by omega) (by omega) h1.1 h1.2]
    by_cases h2 : 128 ≤ (s.get! (p + 2)).toNat ∧ (s.get! (p + 2)).toNat ≤ 191
    · rw [read_in hs (k + 1) _ 3 (x9 : Int) 2 (by omega) (by omega) (by omega) (by omega) h2.1 h2.2, read_end k _ 3 x9 3 (by omega)]
      simp only [h1, h2, and_self, true_and]
    · rw [read_bad hs (k + 1) _ 3 (x9 : Int) 2 (by omega) (by omega) (by omega), if_neg (fun h => h2 h.2.1)]
  · rw [read_bad hs (k + 2) x 3 (x9 : Int) 1 (by omega) (by omega) (by omega), if_neg (fun h => h1 h.1)]
omit hp in
theorem read_w4 (k : Nat) (x x9 : Nat) (hx : x ≤ 64) (h : p + 4 ≤ s.size) : tabardref04_Read.l0 (k + 4) s (p : Int) (x : Int) ((4 : Nat) : Int) (x9 : Int) ((1 : Nat) : Int) =
    if (128 ≤ (s.get! (p + 1)).toNat ∧ (s.get! (p + 1)).toNat ≤ 191) ∧ (128 ≤ (s.get! (p + 2)).toNat ∧ (s.get! (p + 2)).toNat ≤ 191) ∧ (128 ≤ (s.get! (p + 3)).toNat ∧ (s.get! (p + 3)).toNat ≤ 191) ∧ x9 ≤ ((x * 64 + (s.get! (p + 1)).toNat - 128) * 64 + (s.get! (p + 2)).toNat - 128) * 64 + (s.get! (p + 3)).toNat - 128 ∧ ((x * 64 + (s.get! (p + 1)).toNat - 128) * 64 + (s.get! (p + 2)).toNat - 128) * 64 + (s.get! (p + 3)).toNat - 128 ≤ 1114111 ∧ ¬ (55296 ≤ ((x * 64 + (s.get! (p + 1)).toNat - 128) * 64 + (s.get! (p + 2)).toNat - 128) * 64 + (s.get! (p + 3)).toNat - 128 ∧ ((x * 64 + (s.get! (p + 1)).toNat - 128) * 64 + (s.get! (p + 2)).toNat - 128) * 64 + (s.get! (p + 3)).toNat - 128 ≤ 57343) then some (((((x * 64 + (s.get! (p + 1)).toNat - 128) * 64 + (s.get! (p + 2)).toNat - 128) * 64 + (s.get! (p + 3)).toNat - 128 : Nat) : Int), ((4 : Nat) : Int), true) else some (65533, 1, false) := by
  have l1 := (s.get! (p + 1)).toNat_lt
  have l2 := (s.get! (p + 2)).toNat_lt
  by_cases h1 : 128 ≤ (s.get! (p + 1)).toNat ∧ (s.get! (p + 1)).toNat ≤ 191
  · rw [read_in hs (k + 3) x 4 (x9 : Int) 1 (by omega) (by omega) (by omega) (by omega) h1.1 h1.2]
    by_cases h2 : 128 ≤ (s.get! (p + 2)).toNat ∧ (s.get! (p + 2)).toNat ≤ 191
    · rw [read_in hs (k + 2) _ 4 (x9 : Int) 2 (by omega) (by omega) (by omega) (by omega) h2.1 h2.2]
      by_cases h3 : 128 ≤ (s.get! (p + 3)).toNat ∧ (s.get! (p + 3)).toNat ≤ 191
      · rw [read_in hs (k + 1) _ 4 (x9 : Int) 3 (by omega) (by omega) (by omega) (by omega) h3.1 h3.2, read_end k _ 4 x9 4 (by omega)]
        simp only [h1, h2, h3, and_self, true_and]
      · rw [read_bad hs (k + 1) _ 4 (x9 : Int) 3 (by omega) (by omega) (by omega), if_neg (fun h => h3 h.2.2.1)]
    · rw [read_bad hs (k + 2) _ 4 (x9 : Int) 2 (by omega) (by omega) (by omega), if_neg (fun h => h2 h.2.1)]
  · rw [read_bad hs (k + 3) x 4 (x9 : Int) 1 (by omega) (by omega) (by omega), if_neg (fun h => h1 h.1)]
theorem read_at (k : Nat) : tabardref04_Read.f (k + 8) s (p : Int) = some (((readB s p).1 : Int), ((readB s p).2.1 : Int), (readB s p).2.2) := by
  have hb := bt_get s p hp
  have l0 := (s.get! p).toNat_lt
  unfold tabardref04_Read.f
  rw [if_pos (by omega), if_pos (by omega), hb, w64 (a := ((s.get! p).toNat : Int)) (by omega) (by omega)]
  unfold readB readN
  simp only [Nat.add_zero]
  by_cases h0 : (s.get! p).toNat < 128
  · rw [if_pos (by omega), if_pos h0]
    rfl
  rw [if_neg (by omega), if_neg h0]
  by_cases h1 : 194 ≤ (s.get! p).toNat ∧ (s.get! p).toNat < 224
  · rw [if_pos (by omega), if_pos h1, decide_eq_true (by omega)]
    simp only [tabardref04_Read.j0]
    rw [if_pos trivial, w64 (by omega) (by omega), show ((s.get! p).toNat : Int) - 192 = (((s.get! p).toNat - 192 : Nat) : Int) by omega]
    refine (read_j2 hs hp (k + 6) _ 2 128).trans ?_
    by_cases h2 : p + 1 < s.size
    · rw [if_pos (by omega), read_w2 hs (k + 4) _ 128 (by omega) (by omega)]
      simp only [h2, true_and]
      split <;> rfl
    · rw [if_neg (by omega), if_neg (fun h => h2 h.1)]
      rfl
  rw [if_neg h1]
  have hj0 : tabardref04_Read.j0 (k + 8) s (p : Int) ((s.get! p).toNat : Int) false = (if 194 ≤ (s.get! p).toNat ∨ True then tabardref04_Read.j0 (k + 8) s (p : Int) ((s.get! p).toNat : Int) false else none) := by simp
  have e0 : (if ((s.get! p).toNat : Int) ≥ 194 then tabardref04_Read.j0 (k + 8) s (p : Int) ((s.get! p).toNat : Int) (decide (((s.get! p).toNat : Int) < 224)) else tabardref04_Read.j0 (k + 8) s (p : Int) ((s.get! p).toNat : Int) false) = tabardref04_Read.j0 (k + 8) s (p : Int) ((s.get! p).toNat : Int) false := by
    split
    · rw [decide_eq_false (by omega)]
    · rfl
  rw [e0]
  clear hj0 e0
  simp only [tabardref04_Read.j0]
  rw [if_neg (by decide)]
  by_cases h3 : 224 ≤ (s.get! p).toNat ∧ (s.get! p).toNat < 240
  · rw [if_pos h3, if_pos (by omega), decide_eq_true (by omega)]
    simp only [tabardref04_Read.j1]
    rw [if_pos trivial, w64 (by omega) (by omega), show ((s.get! p).toNat : Int) - 224 = (((s.get! p).toNat - 224 : Nat) : Int) by omega]
    refine (read_j2 hs hp (k + 5) _ 3 2048).trans ?_
    by_cases h2 : p + 2 < s.size
    · rw [if_pos (by omega), read_w3 hs (k + 2) _ 2048 (by omega) (by omega)]
      simp only [h2, true_and]
      split <;> rfl
    · rw [if_neg (by omega), if_neg (fun h => h2 h.1)]
      rfl
  rw [if_neg h3]
  have e1 : (if ((s.get! p).toNat : Int) ≥ 224 then tabardref04_Read.j1 (k + 7) s (p : Int) ((s.get! p).toNat : Int) (decide (((s.get! p).toNat : Int) < 240)) else tabardref04_Read.j1 (k + 7) s (p : Int) ((s.get! p).toNat : Int) false) = tabardref04_Read.j1 (k + 7) s (p : Int) ((s.get! p).toNat : Int) false := by
    split
    · rw [decide_eq_false (by omega)]
    · rfl
  rw [e1]
  clear e1
  simp only [tabardref04_Read.j1]
  rw [if_neg (by decide)]
  by_cases h4 : 240 ≤ (s.get! p).toNat ∧ (s.get! p).toNat < 245
  · rw [if_pos h4, if_pos (by omega), if_pos (by omega)]
    rw [w64 (by omega) (by omega), show ((s.get! p).toNat : Int) - 240 = (((s.get! p).toNat - 240 : Nat) : Int) by omega]
    refine (read_j2 hs hp (k + 5) _ 4 65536).trans ?_
    by_cases h2 : p + 3 < s.size
    · rw [if_pos (by omega), read_w4 hs (k + 1) _ 65536 (by omega) (by omega)]
      simp only [h2, true_and]
      split <;> rfl
    · rw [if_neg (by omega), if_neg (fun h => h2 h.1)]
      rfl
  · rw [if_neg h4]
    split
    · rw [if_neg (by omega)]
      rfl
    · rfl
end
def decN (n p b0 b1 b2 b3 : Nat) : Nat × Nat :=
  if b0 < 128 then (b0, 1)
  else if b0 / 32 = 6 ∧ p + 1 < n ∧ b1 / 64 = 2 then (if 128 ≤ b0 % 32 * 64 + b1 % 64 then (b0 % 32 * 64 + b1 % 64, 2) else (65533, 1))
  else if (b0 / 16 = 14 ∧ p + 1 < n ∧ b1 / 64 = 2) ∧ p + 2 < n ∧ b2 / 64 = 2 then
    (if 2048 ≤ b0 % 16 * 4096 + b1 % 64 * 64 + b2 % 64 ∧ Utf8.valid ((b0 % 16 * 4096 + b1 % 64 * 64 + b2 % 64 : Nat) : Int) = true then (b0 % 16 * 4096 + b1 % 64 * 64 + b2 % 64, 3) else (65533, 1))
  else if ((b0 / 8 = 30 ∧ p + 1 < n ∧ b1 / 64 = 2) ∧ p + 2 < n ∧ b2 / 64 = 2) ∧ p + 3 < n ∧ b3 / 64 = 2 then
    (if 65536 ≤ b0 % 8 * 262144 + b1 % 64 * 4096 + b2 % 64 * 64 + b3 % 64 ∧ Utf8.valid ((b0 % 8 * 262144 + b1 % 64 * 4096 + b2 % 64 * 64 + b3 % 64 : Nat) : Int) = true then (b0 % 8 * 262144 + b1 % 64 * 4096 + b2 % 64 * 64 + b3 % 64, 4) else (65533, 1))
  else (65533, 1)
theorem valid_iff (c : Nat) : Utf8.valid (c : Int) = true ↔ c < 55296 ∨ (57344 ≤ c ∧ c ≤ 1114111) := by
  simp only [Utf8.valid, Bool.or_eq_true, Bool.and_eq_true, decide_eq_true_eq]
  omega
theorem decode_decN (s : ByteArray) (p : Nat) : Utf8.decode s p = decN s.size p (s.get! (p + 0)).toNat (s.get! (p + 1)).toNat (s.get! (p + 2)).toNat (s.get! (p + 3)).toNat := by
  simp only [Utf8.decode, decN, Utf8.runeError, Bool.and_eq_true, decide_eq_true_eq, beq_iff_eq, ge_iff_le]
theorem decN_readN {n p b0 b1 b2 b3 : Nat} (l0 : b0 < 256) (l1 : b1 < 256) (l2 : b2 < 256) (l3 : b3 < 256) : decN n p b0 b1 b2 b3 = ((readN n p b0 b1 b2 b3).1, (readN n p b0 b1 b2 b3).2.1) ∧ ((readN n p b0 b1 b2 b3).2.2 = false → readN n p b0 b1 b2 b3 = (65533, 1, false)) ∧ ((readN n p b0 b1 b2 b3).2.2 = true → (readN n p b0 b1 b2 b3).2.1 = 1 → (readN n p b0 b1 b2 b3).1 < 128) := by
  unfold decN readN
  simp only [valid_iff]
  by_cases h0 : b0 < 128
  · rw [if_pos h0, if_pos h0]
    exact ⟨rfl, fun h => (by cases h), fun _ _ => h0⟩
  rw [if_neg h0, if_neg h0]
  by_cases h1 : 194 ≤ b0 ∧ b0 < 224
  · rw [if_pos h1]
    by_cases hA : b0 / 32 = 6 ∧ p + 1 < n ∧ b1 / 64 = 2
    · obtain ⟨a1, a2, a3⟩ := hA
      have e : b0 % 32 * 64 + b1 % 64 = (b0 - 192) * 64 + b1 - 128 := by omega
      rw [if_pos ⟨a1, a2, a3⟩, if_pos (by omega), e, if_pos ⟨a2, by omega, by omega, by omega, by omega⟩]
      exact ⟨rfl, fun h => (by cases h), fun _ h => by simp at h⟩
    · rw [if_neg hA, if_neg (by omega), if_neg (by omega), if_neg (fun h => hA ⟨by omega, h.1, by omega⟩)]
      exact ⟨rfl, fun _ => rfl, fun h => (by cases h)⟩
  rw [if_neg h1]
  by_cases h2 : 224 ≤ b0 ∧ b0 < 240
  · rw [if_pos h2, if_neg (by omega)]
    by_cases hA : (b0 / 16 = 14 ∧ p + 1 < n ∧ b1 / 64 = 2) ∧ p + 2 < n ∧ b2 / 64 = 2
    · obtain ⟨⟨a1, a2, a3⟩, a4, a5⟩ := hA
      have e : b0 % 16 * 4096 + b1 % 64 * 64 + b2 % 64 = ((b0 - 224) * 64 + b1 - 128) * 64 + b2 - 128 := by omega
      have r1 : 128 ≤ b1 ∧ b1 ≤ 191 := by omega
      have r2 : 128 ≤ b2 ∧ b2 ≤ 191 := by omega
      rw [if_pos ⟨⟨a1, a2, a3⟩, a4, a5⟩, e]
      simp only [a4, r1, r2, true_and, and_self]
      generalize ((b0 - 224) * 64 + b1 - 128) * 64 + b2 - 128 = c
      by_cases hv : 2048 ≤ c ∧ c ≤ 1114111 ∧ ¬ (55296 ≤ c ∧ c ≤ 57343)
      · rw [if_pos hv, if_pos (by omega)]
        exact ⟨rfl, fun h => (by cases h), fun _ h => by simp at h⟩
      · rw [if_neg hv, if_neg (by omega)]
        exact ⟨rfl, fun _ => rfl, fun h => (by cases h)⟩
    · rw [if_neg hA, if_neg (by omega), if_neg (fun h => hA ⟨⟨by omega, by omega, by omega⟩, h.1, by omega⟩)]
      exact ⟨rfl, fun _ => rfl, fun h => (by cases h)⟩
  rw [if_neg h2]
  by_cases h3 : 240 ≤ b0 ∧ b0 < 245
  · rw [if_pos h3, if_neg (by omega), if_neg (by omega)]
    by_cases hA : ((b0 / 8 = 30 ∧ p + 1 < n ∧ b1 / 64 = 2) ∧ p + 2 < n ∧ b2 / 64 = 2) ∧ p + 3 < n ∧ b3 / 64 = 2
    · obtain ⟨⟨⟨a1, a2, a3⟩, a4, a5⟩, a6, a7⟩ := hA
      have e : b0 % 8 * 262144 + b1 % 64 * 4096 + b2 % 64 * 64 + b3 % 64 = (((b0 - 240) * 64 + b1 - 128) * 64 + b2 - 128) * 64 + b3 - 128 := by omega
      have r1 : 128 ≤ b1 ∧ b1 ≤ 191 := by omega
      have r2 : 128 ≤ b2 ∧ b2 ≤ 191 := by omega
      have r3 : 128 ≤ b3 ∧ b3 ≤ 191 := by omega
      rw [if_pos ⟨⟨⟨a1, a2, a3⟩, a4, a5⟩, a6, a7⟩, e]
      simp only [a6, r1, r2, r3, true_and, and_self]
      generalize (((b0 - 240) * 64 + b1 - 128) * 64 + b2 - 128) * 64 + b3 - 128 = c
      by_cases hv : 65536 ≤ c ∧ c ≤ 1114111 ∧ ¬ (55296 ≤ c ∧ c ≤ 57343)
      · rw [if_pos hv, if_pos (by omega)]
        exact ⟨rfl, fun h => (by cases h), fun _ h => by simp at h⟩
      · rw [if_neg hv, if_neg (by omega)]
        exact ⟨rfl, fun _ => rfl, fun h => (by cases h)⟩
    · rw [if_neg hA, if_neg (fun h => hA ⟨⟨⟨by omega, by omega, by omega⟩, by omega, by omega⟩, h.1, by omega⟩)]
      exact ⟨rfl, fun _ => rfl, fun h => (by cases h)⟩
  rw [if_neg h3]
  refine ⟨?_, fun _ => rfl, fun h => (by cases h)⟩
  by_cases hA : b0 / 32 = 6 ∧ p + 1 < n ∧ b1 / 64 = 2
  · rw [if_pos hA, if_neg (by omega)]
  rw [if_neg hA, if_neg (by omega)]
  by_cases hB : ((b0 / 8 = 30 ∧ p + 1 < n ∧ b1 / 64 = 2) ∧ p + 2 < n ∧ b2 / 64 = 2) ∧ p + 3 < n ∧ b3 / 64 = 2
  · rw [if_pos hB, if_neg (by omega)]
  · rw [if_neg hB]
theorem decode_read (s : ByteArray) (p : Nat) : Utf8.decode s p = ((readB s p).1, (readB s p).2.1) ∧ ((readB s p).2.2 = false → readB s p = (65533, 1, false)) ∧ ((readB s p).2.2 = true → (readB s p).2.1 = 1 → (readB s p).1 < 128) := by
  rw [decode_decN]
  exact decN_readN (s.get! (p + 0)).toNat_lt (s.get! (p + 1)).toNat_lt (s.get! (p + 2)).toNat_lt (s.get! (p + 3)).toNat_lt
end Go.Proofs.YtoopddhkjhpbnaaDoor.Q
