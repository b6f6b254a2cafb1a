/- The reference's wide numbers (tabardref01), third part: products, quotients, rests, totals. -/
import Derived.Test.YtcphnnopjfogdaaPureWide3
import Derived.Test.YtcphnnopjfogdaaQ16
import Derived.Test.YtcphnnopjfogdaaQ17
namespace Go.Proofs.Ytcphnnopjfogdaa.Q
open Go.RowKit Go.Proofs.YtcphnnopjfogdaaW.PrintWords Go.Proofs.YtcphnnopjfogdaaW.PrintLast Go.Proofs.YtcphnnopjfogdaaW.PrintMore

/-! ### Times -/
theorem val_set (l : List Int) (p : Nat) (v : Int) (hp : p < l.length) : val (l.set p v) = val l + (v - rd l (p : Int)) * 65536 ^ p := by
  induction l generalizing p with
  | nil => simp at hp
  | cons d l ih =>
    cases p with
    | zero => simp [val, rd]; omega
    | succ p =>
      have h1 := ih p (by simpa using hp)
      have h2 : rd (d :: l) ((p + 1 : Nat) : Int) = rd l (p : Int) := by
        unfold rd
        rw [Int.toNat_natCast, Int.toNat_natCast]
        simp [List.getD_eq_getElem?_getD]
      rw [List.set_cons_succ, h2]
      simp only [val]
      rw [h1, Int.pow_succ, Int.mul_add, ← Int.mul_assoc, ← Int.mul_assoc, Int.mul_comm 65536 (v - rd l (p : Int)), Int.mul_assoc, Int.mul_assoc, Int.mul_comm 65536 (65536 ^ p)]
      omega
theorem D16_set {l : List Int} (h : D16 l) (p : Nat) {v : Int} (h0 : 0 ≤ v) (h1 : v < 65536) : D16 (l.set p v) := fun d hd => by
  rcases List.mem_or_eq_of_mem_set hd with hd | rfl
  · exact h d hd
  · exact ⟨h0, h1⟩
theorem val_take_rd (l : List Int) (i : Nat) : val (l.take (i + 1)) = val (l.take i) + 65536 ^ i * rd l (i : Int) := by
  by_cases h : i < l.length
  · exact val_take l i h
  · rw [List.take_of_length_le (by omega), List.take_of_length_le (by omega), rd_ge (by omega)]
    simp
theorem mul_lt_pow {x y : Int} {m n : Nat} (hx0 : 0 ≤ x) (hx : x < 65536 ^ m) (hy : y < 65536 ^ n) : x * y < 65536 ^ (m + n) := by
  rw [Int.pow_add]
  have h1 : x * y ≤ x * 65536 ^ n := Int.mul_le_mul_of_nonneg_left (by omega) hx0
  have h2 : x * 65536 ^ n < 65536 ^ m * 65536 ^ n := Int.mul_lt_mul_of_pos_right hx (pow_pos n)
  omega
theorem times_loop {a b : List Int} (ha : D16 a) (hb : D16 b) (sa sb : Bool) (hla : a.length < 1000000000000) (hlb : b.length < 1000000000000) :
    ∀ (e i : Nat) (out : List Int), i + e = a.length → out.length = a.length + b.length + 1 → D16 out → val out = val (a.take i) * val b →
      Ev (fun k => tabardref01_Times.l0 k out (i : Int) sa a sb b) (W (if (sa != sb) = true then -(val a * val b) else val a * val b)) := by
  intro e
  induction e with
  | zero =>
    intro i out hi ho hd hv
    refine Ev_at (out.length + 1) (fun k hk => ?_)
    obtain ⟨k, rfl⟩ : ∃ m, k = m + 1 := ⟨k - 1, by omega⟩
    simp only [tabardref01_Times.l0]
    rw [if_neg (by omega), trimmed_spec hd _ (by omega) k (by omega), hv, List.take_of_length_le (by omega)]
    rfl
  | succ e ihe =>
    intro i out hi ho hd hv
    have hai := rd_D16 ha i
    have inner : ∀ (f j : Nat) (out : List Int) (c : Int), j + f = b.length + 1 → out.length = a.length + b.length + 1 → D16 out → 0 ≤ c → c < 65536 → val out + c * 65536 ^ (i + j) = val (a.take i) * val b + rd a (i : Int) * val (b.take j) * 65536 ^ i →
        Ev (fun k => tabardref01_Times.l1 k out (i : Int) c (j : Int) sa a sb b) (W (if (sa != sb) = true then -(val a * val b) else val a * val b)) := by
      intro f
      induction f with
      | zero =>
        intro j out c hj ho hd h0 h1 hv
        -- j = b.length + 1: no carry can be left
        have hbt : b.take j = b := List.take_of_length_le (by omega)
        rw [hbt] at hv
        have hvt : val (a.take (i + 1)) * val b = val (a.take i) * val b + rd a (i : Int) * val b * 65536 ^ i := by
          rw [val_take_rd, Int.add_mul, Int.mul_comm (65536 ^ i) (rd a (i : Int)), Int.mul_assoc, Int.mul_assoc, Int.mul_comm (65536 ^ i) (val b)]
        have hlt := mul_lt_pow (val_nonneg (D16_take ha (i + 1))) (val_take_lt ha (i + 1)) (val_lt hb)
        have hc : c = 0 := by
          by_cases h : 0 < c
          · have h2 : 1 * (65536 : Int) ^ (i + j) ≤ c * 65536 ^ (i + j) := Int.mul_le_mul_of_nonneg_right (by omega) (Int.le_of_lt (pow_pos _))
            have h3 := pow_mono (show i + 1 + b.length ≤ i + j by omega)
            have h4 := val_nonneg hd
            omega
          · omega
        subst hc
        have := ihe (i + 1) out (by omega) ho hd (by rw [hvt]; simpa using hv)
        refine Ev.step (fun k => ?_) this
        simp only [tabardref01_Times.l1]
        rw [if_neg (by omega), if_neg (by omega), wrap_succ (by omega)]
      | succ f ihf =>
        intro j out c hj ho hd h0 h1 hv
        have hbj := rd_D16 hb j
        have hoj := rd_D16 hd (i + j)
        have hprod : 0 ≤ rd a (i : Int) * rd b (j : Int) := Int.mul_nonneg hai.1 hbj.1
        have hprod2 : rd a (i : Int) * rd b (j : Int) ≤ 65535 * 65535 := Int.mul_le_mul (by omega) (by omega) hbj.1 (by omega)
        have go : Ev (fun k => tabardref01_Times.l1 k (out.set (i + j) ((rd out ((i + j : Nat) : Int) + rd a (i : Int) * rd b (j : Int) + c) % 65536)) (i : Int) ((rd out ((i + j : Nat) : Int) + rd a (i : Int) * rd b (j : Int) + c) / 65536) ((j + 1 : Nat) : Int) sa a sb b) (W (if (sa != sb) = true then -(val a * val b) else val a * val b)) := by
          generalize hs : rd out ((i + j : Nat) : Int) + rd a (i : Int) * rd b (j : Int) + c = s
          refine ihf (j + 1) _ _ (by omega) (by simp [ho]) (D16_set hd _ (by omega) (by omega)) (by omega) (by omega) ?_
          rw [val_set _ _ _ (by omega), val_take_rd b j]
          have e1 : s % 65536 = s - 65536 * (s / 65536) := by omega
          rw [e1, show i + (j + 1) = (i + j) + 1 by omega, Int.pow_succ (65536 : Int) (i + j)]
          have e2 : val out = val (a.take i) * val b + rd a (i : Int) * val (b.take j) * 65536 ^ i - c * 65536 ^ (i + j) := by omega
          rw [e2, ← hs, Int.pow_add]
          grind
        by_cases hjl : j < b.length
        · refine Ev.step (fun k => ?_) go
          simp only [tabardref01_Times.l1, digit_spec, Option.bind_some]
          rw [if_pos (by omega), show ((i : Int) + (j : Int)) = ((i + j : Nat) : Int) by omega, wrap_nat (by omega), if_pos (by omega), if_pos (by omega), if_pos (by omega), if_pos (by omega), wrap_succ (by omega)]
          rw [uwrap_in hprod (by omega), uwrap_in (n := rd out ((i + j : Nat) : Int) + rd a (i : Int) * rd b (j : Int)) (by omega) (by omega), uwrap_in (n := rd out ((i + j : Nat) : Int) + rd a (i : Int) * rd b (j : Int) + c) (by omega) (by omega), mask16 (by omega) (by omega), Int.toNat_natCast]
        · by_cases hc0 : c > 0
          · have hz : rd b (j : Int) = 0 := rd_ge (by omega)
            refine Ev.step (fun k => ?_) go
            simp only [tabardref01_Times.l1, digit_spec, Option.bind_some]
            rw [if_neg (by omega), if_pos hc0, show ((i : Int) + (j : Int)) = ((i + j : Nat) : Int) by omega, wrap_nat (by omega), if_pos (by omega), if_pos (by omega), if_pos (by omega), if_pos (by omega), wrap_succ (by omega)]
            rw [uwrap_in hprod (by omega), uwrap_in (n := rd out ((i + j : Nat) : Int) + rd a (i : Int) * rd b (j : Int)) (by omega) (by omega), uwrap_in (n := rd out ((i + j : Nat) : Int) + rd a (i : Int) * rd b (j : Int) + c) (by omega) (by omega), mask16 (by omega) (by omega), Int.toNat_natCast]
          · have hc : c = 0 := by omega
            subst hc
            have hbt : b.take j = b := List.take_of_length_le (by omega)
            rw [hbt] at hv
            have hvt : val (a.take (i + 1)) * val b = val (a.take i) * val b + rd a (i : Int) * val b * 65536 ^ i := by
              rw [val_take_rd, Int.add_mul, Int.mul_comm (65536 ^ i) (rd a (i : Int)), Int.mul_assoc, Int.mul_assoc, Int.mul_comm (65536 ^ i) (val b)]
            have := ihe (i + 1) out (by omega) ho hd (by rw [hvt]; simpa using hv)
            refine Ev.step (fun k => ?_) this
            simp only [tabardref01_Times.l1]
            rw [if_neg (by omega), if_neg (by omega), wrap_succ (by omega)]
    have := inner (b.length + 1) 0 out 0 (by omega) ho hd (by omega) (by omega) (by simp [hv, val])
    refine Ev.step (fun k => ?_) this
    simp only [tabardref01_Times.l0]
    rw [if_pos (by omega)]
    rfl
theorem times_spec {a b : Int} (ha : Small a) (hb : Small b) : Ev (fun k => tabardref01_Times.f k (W a).1 (W a).2 (W b).1 (W b).2) (W (a * b)) := by
  have sa : (W a).2.length < 1000000000000 := ha
  have sb : (W b).2.length < 1000000000000 := hb
  have h := times_loop (Wd a) (Wd b) (W a).1 (W b).1 sa sb (W a).2.length 0 (List.replicate ((W a).2.length + (W b).2.length + 1) 0) (by omega) (by simp) (D16_zeros _) (by simp [val_zeros, val])
  unfold tabardref01_Times.f
  have e : wrap64 ((wrap64 (((W a).2.length : Int) + ((W b).2.length : Int))) + 1) = (((W a).2.length + (W b).2.length + 1 : Nat) : Int) := by
    rw [wrap_in (a := ((W a).2.length : Int) + ((W b).2.length : Int)) ⟨by omega, by omega⟩, wrap_in ⟨by omega, by omega⟩]
    omega
  have e2 : (if ((W a).1 != (W b).1) = true then -(val (W a).2 * val (W b).2) else val (W a).2 * val (W b).2) = a * b := by
    rw [Wv, Wv]
    simp only [W]
    have ha2 : (a.natAbs : Int) = if a < 0 then -a else a := by split <;> omega
    have hb2 : (b.natAbs : Int) = if b < 0 then -b else b := by split <;> omega
    rw [ha2, hb2]
    by_cases h5 : a < 0 <;> by_cases h6 : b < 0 <;> simp [h5, h6, Int.neg_mul, Int.mul_neg]
  rw [e2] at h
  refine Ev.congr (fun k => ?_) h
  rw [e, if_pos (by omega), if_pos (by omega), Int.toNat_natCast]
  rfl
theorem small_mul {a b : Int} (ha : In64 a) (hb : In64 b) : Small (a * b) := by
  refine small_of 8 (by decide) ?_
  rw [Int.natAbs_mul]
  have h1 : a.natAbs ≤ 9223372036854775808 := by obtain ⟨h1, h2⟩ := ha; omega
  have h2 : b.natAbs ≤ 9223372036854775808 := by obtain ⟨h1, h2⟩ := hb; omega
  have h3 := Nat.mul_le_mul h1 h2
  have : (65536 : Nat) ^ 8 = 340282366920938463463374607431768211456 := by decide
  omega
theorem rmul_spec {a b : Int} (ha : In64 a) (hb : In64 b) : Ev (fun k => tabardref01_Mul.f k a b) (fit (a * b)) := by
  unfold tabardref01_Mul.f
  exact Ev.bind (of_spec ha) (Ev.bind (of_spec hb) (Ev.bind (times_spec (small_in ha) (small_in hb)) (Ev.pair (told_spec (small_mul ha hb)))))
end Go.Proofs.Ytcphnnopjfogdaa.Q
