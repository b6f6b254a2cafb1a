/- The reference's wide numbers (tabardref01), fifth part: quotients and rests by digits of 2. -/
import Derived.Test.YtcphnnopjfogdaaPureWide4
import Derived.Test.YtcphnnopjfogdaaQ18
import Derived.Test.YtcphnnopjfogdaaQ19
namespace Go.Proofs.Ytcphnnopjfogdaa.Q
open Go.RowKit Go.Proofs.YtcphnnopjfogdaaW.PrintWords Go.Proofs.YtcphnnopjfogdaaW.PrintLast Go.Proofs.YtcphnnopjfogdaaW.PrintMore

theorem rd_dig (n m : Nat) : rd (dig n) (m : Int) = ((n / 65536 ^ m % 65536 : Nat) : Int) := by
  induction m generalizing n with
  | zero =>
    by_cases h : n = 0
    · subst h; simp [dig_zero, rd]
    · rw [dig_pos h]; simp [rd]
  | succ m ih =>
    have h2 : ∀ (d : Int) l, rd (d :: l) ((m + 1 : Nat) : Int) = rd l (m : Int) := by
      intro d l
      unfold rd
      rw [Int.toNat_natCast, Int.toNat_natCast]
      simp [List.getD_eq_getElem?_getD]
    by_cases h : n = 0
    · subst h
      simp [dig_zero, rd]
    · rw [dig_pos h, h2, ih, Nat.div_div_eq_div_mul, Nat.pow_succ, Nat.mul_comm]
theorem bit_of (X i : Nat) : (X / 65536 ^ (i / 16) % 65536) / 2 ^ (i % 16) % 2 = X / 2 ^ i % 2 := by
  have h1 : (65536 : Nat) = 2 ^ (i % 16) * 2 ^ (16 - i % 16) := by
    rw [← Nat.pow_add, show i % 16 + (16 - i % 16) = 16 by omega]
  have h2 : (65536 : Nat) ^ (i / 16) * 2 ^ (i % 16) = 2 ^ i := by
    rw [show (65536 : Nat) = 2 ^ 16 from rfl, ← Nat.pow_mul, ← Nat.pow_add]
    congr 1
    omega
  conv => lhs; rw [show X / 65536 ^ (i / 16) % 65536 = X / 65536 ^ (i / 16) % (2 ^ (i % 16) * 2 ^ (16 - i % 16)) from by rw [← h1]]
  rw [Nat.mod_mul_right_div_self, Nat.div_div_eq_div_mul, h2]
  refine Nat.mod_mod_of_dvd _ ?_
  obtain ⟨t, ht⟩ : ∃ t, 16 - i % 16 = t + 1 := ⟨15 - i % 16, by omega⟩
  rw [ht, Nat.pow_succ]
  exact Nat.dvd_mul_left 2 _
theorem W_false (n : Nat) : (false, dig n) = W (n : Int) := by unfold W; simp
theorem half_step (X i : Nat) : ∃ b : Nat, b = X / 2 ^ i % 2 ∧ X / 2 ^ i = 2 * (X / 2 ^ (i + 1)) + b := by
  refine ⟨_, rfl, ?_⟩
  rw [Nat.pow_succ, ← Nat.div_div_eq_div_mul]
  omega
theorem bit_read (X i : Nat) : wrap64 (Go.bits .and .u64 (shr .u64 ((X / 65536 ^ (i / 16) % 65536 : Nat) : Int) ((i % 16 : Nat) : Int)) 1) = ((X / 2 ^ i % 2 : Nat) : Int) := by
  have e1 : shr .u64 ((X / 65536 ^ (i / 16) % 65536 : Nat) : Int) ((i % 16 : Nat) : Int) = (((X / 65536 ^ (i / 16) % 65536) / 2 ^ (i % 16) : Nat) : Int) := by
    unfold shr
    rw [Int.toNat_natCast, Nat.min_eq_left (by simp [IntKind.bits]; omega)]
    simp
  have e2 : (X / 65536 ^ (i / 16) % 65536) / 2 ^ (i % 16) ≤ X / 65536 ^ (i / 16) % 65536 := Nat.div_le_self _ _
  have e3 : X / 65536 ^ (i / 16) % 65536 < 65536 := Nat.mod_lt _ (by decide)
  have e4 := bit_of X i
  rw [e1, ← e4]
  clear e1 e4
  generalize (X / 65536 ^ (i / 16) % 65536) / 2 ^ (i % 16) = v at e2 ⊢
  generalize X / 65536 ^ (i / 16) % 65536 = u at e2 e3
  rw [mask1 (by omega) (by omega), wrap_in ⟨by omega, by omega⟩]
  omega
theorem digit_read (X i : Nat) (hi : i < 64) : tabardref01_Wide_digit.f false (dig X) (wrap64 (Int.tdiv (i : Int) 16)) = some ((X / 65536 ^ (i / 16) % 65536 : Nat) : Int) := by
  rw [show Int.tdiv (i : Int) 16 = ((i / 16 : Nat) : Int) from rfl, wrap_nat (by omega), digit_spec, rd_dig]
theorem step_div {Y Q R b N : Nat} (hY : 0 < Y) (hdm : Y * Q + R = N) (hr : R < Y) (hb : b < 2) :
    (Y ≤ 2 * R + b → (2 * N + b) / Y = 2 * Q + 1 ∧ (2 * N + b) % Y = 2 * R + b - Y) ∧ (¬ Y ≤ 2 * R + b → (2 * N + b) / Y = 2 * Q ∧ (2 * N + b) % Y = 2 * R + b) := by
  subst hdm
  have h1 : Y * (2 * Q + 1) = 2 * (Y * Q) + Y := by rw [Nat.mul_add, Nat.mul_one, Nat.mul_left_comm]
  have h2 : Y * (2 * Q) = 2 * (Y * Q) := Nat.mul_left_comm _ _ _
  constructor
  · intro hge
    have e : 2 * (Y * Q + R) + b = Y * (2 * Q + 1) + (2 * R + b - Y) := by
      rw [h1]
      generalize Y * Q = P
      omega
    rw [e, Nat.mul_add_div hY, Nat.mul_add_mod, Nat.div_eq_of_lt (show 2 * R + b - Y < Y by omega), Nat.mod_eq_of_lt (show 2 * R + b - Y < Y by omega)]
    exact ⟨rfl, rfl⟩
  · intro hlt
    have e : 2 * (Y * Q + R) + b = Y * (2 * Q) + (2 * R + b) := by
      rw [h2]
      generalize Y * Q = P
      omega
    rw [e, Nat.mul_add_div hY, Nat.mul_add_mod, Nat.div_eq_of_lt (show 2 * R + b < Y by omega), Nat.mod_eq_of_lt (show 2 * R + b < Y by omega)]
    exact ⟨rfl, rfl⟩
theorem sm8 (z : Int) (h : z.natAbs < 340282366920938463463374607431768211456) : Small z := small_of 8 (by decide) (by rw [show (65536 : Nat) ^ 8 = 340282366920938463463374607431768211456 by decide]; exact h)
theorem floor_unfold (k : Nat) (x0 x1 x10 t s bb nx : Int) (xs ys q2 r2 : List Int) (q1 r1 : Bool) (h : x10 ≥ 0) (hd : tabardref01_Wide_digit.f false xs (wrap64 (Int.tdiv x10 16)) = some t) (hs : IntKind.u64.wrap (Int.tmod x10 16) = s) (h0 : 0 ≤ s) (hb : wrap64 (Go.bits .and .u64 (shr .u64 t s) 1) = bb) (hn : wrap64 (x10 - 1) = nx) :
    tabardref01_Floor.l0 (k + 1) x0 x1 x10 false xs false ys q1 q2 r1 r2 = (tabardref01_Plus.f k r1 r2 r1 r2).bind fun b1 => (tabardref01_Of.f k bb).bind fun b2 => (tabardref01_Plus.f k b1.1 b1.2 b2.1 b2.2).bind fun b3 => (tabardref01_Plus.f k q1 q2 q1 q2).bind fun b4 => (tabardref01_Size.f k b3.1 b3.2 false ys).bind fun u => if u ≥ 0 then ((tabardref01_Minus.f k false ys).bind fun b5 => (tabardref01_Plus.f k b3.1 b3.2 b5.1 b5.2).bind fun b6 => (tabardref01_Of.f k 1).bind fun b7 => (tabardref01_Plus.f k b4.1 b4.2 b7.1 b7.2).bind fun b8 => tabardref01_Floor.l0 k x0 x1 nx false xs false ys b8.1 b8.2 b6.1 b6.2) else tabardref01_Floor.l0 k x0 x1 nx false xs false ys b4.1 b4.2 b3.1 b3.2 := by
  subst hs hb hn
  simp only [tabardref01_Floor.l0]
  rw [if_pos h]
  refine congrArg (Option.bind _) (funext fun b1 => ?_)
  rw [hd]
  exact if_pos h0
set_option maxHeartbeats 400000 in
theorem floor_bits {X Y : Nat} (hY : 0 < Y) (hX : X < 18446744073709551616) (hY2 : Y < 18446744073709551616) (x0 x1 : Int) {R : Int × Int}
    (hend : Ev (fun k => if ((decide (x0 < 0)) != (decide (x1 < 0))) = true then ((tabardref01_Minus.f k (W (X / Y : Nat)).1 (W (X / Y : Nat)).2).bind fun bt => (if ((W (X % Y : Nat)).2.length : Int) > 0 then ((tabardref01_Of.f k (-1)).bind fun bu => ((tabardref01_Plus.f k bt.1 bt.2 bu.1 bu.2).bind fun bv => ((tabardref01_told.f k bv.1 bv.2).bind fun bw => (some (bw.1, bw.2))))) else ((tabardref01_told.f k bt.1 bt.2).bind fun bu => (some (bu.1, bu.2))))) else ((tabardref01_told.f k (W (X / Y : Nat)).1 (W (X / Y : Nat)).2).bind fun bt => (some (bt.1, bt.2)))) R) :
    ∀ j : Nat, j ≤ 64 → Ev (fun k => tabardref01_Floor.l0 k x0 x1 ((j : Int) - 1) false (dig X) false (dig Y) (W (X / 2 ^ j / Y : Nat)).1 (W (X / 2 ^ j / Y : Nat)).2 (W (X / 2 ^ j % Y : Nat)).1 (W (X / 2 ^ j % Y : Nat)).2) R := by
  intro j
  induction j with
  | zero =>
    intro _
    refine Ev.step (fun k => ?_) hend
    simp only [tabardref01_Floor.l0]
    rw [if_neg (by omega)]
    simp
  | succ i ih =>
    intro hj
    obtain ⟨b, hb, hstep⟩ := half_step X i
    have hb2 : b < 2 := by rw [hb]; exact Nat.mod_lt _ (by decide)
    have hNX : X / 2 ^ (i + 1) ≤ X := Nat.div_le_self _ _
    have hbit := bit_read X i
    have hdigit := digit_read X i (by omega)
    rw [← hb] at hbit
    have hsh : IntKind.u64.wrap (Int.tmod (i : Int) 16) = ((i % 16 : Nat) : Int) := by
      rw [show Int.tmod (i : Int) 16 = ((i % 16 : Nat) : Int) from rfl, uwrap_in (by omega) (by omega)]
    generalize ((X / 65536 ^ (i / 16) % 65536 : Nat) : Int) = D at hdigit hbit
    have HD := Aside0.mk hdigit
    have HS := Aside0.mk hsh
    have HT := Aside0.mk hbit
    clear hdigit hsh hbit hb hend
    have ih := ih (by omega)
    generalize X / 2 ^ (i + 1) = N at hstep hNX ⊢
    rw [hstep] at ih
    clear hstep
    have hr : N % Y < Y := Nat.mod_lt _ hY
    have hq : N / Y ≤ N := Nat.div_le_self _ _
    have hdm := Nat.div_add_mod N Y
    generalize N / Y = Q at hq hdm ⊢
    generalize N % Y = S at hr hdm ⊢
    obtain ⟨hs1, hs2⟩ := step_div hY hdm hr hb2
    clear hdm
    have wy : W (Y : Int) = (false, dig Y) := by unfold W; simp
    have hbin : In64 (b : Int) := ⟨by omega, by omega⟩
    have p1 := plus_spec (a := (S : Int)) (b := (S : Int)) (sm8 _ (by omega)) (sm8 _ (by omega))
    have p2 := plus_spec (a := (S : Int) + (S : Int)) (b := (b : Int)) (sm8 _ (by omega)) (sm8 _ (by omega))
    have p3 := plus_spec (a := (Q : Int)) (b := (Q : Int)) (sm8 _ (by omega)) (sm8 _ (by omega))
    have sz := size_spec (Wd ((S : Int) + (S : Int) + (b : Int))) (dig_D16 Y) (W ((S : Int) + (S : Int) + (b : Int))).1 false (sm8 _ (by omega)) (show (W (Y : Int)).2.length < _ from sm8 _ (by omega))
    rw [Wv, dig_val] at sz
    rw [show ((i + 1 : Nat) : Int) - 1 = (i : Int) by omega]
    refine Ev.step (fun k => floor_unfold k x0 x1 (i : Int) D ((i % 16 : Nat) : Int) (b : Int) ((i : Int) - 1) (dig X) (dig Y) _ _ _ _ (by omega) HD.out HS.out (by omega) HT.out (wrap_in ⟨by omega, by omega⟩)) ?_
    · refine Ev.bind p1 (Ev.bind (of_spec hbin) (Ev.bind p2 (Ev.bind p3 (Ev.bind sz ?_))))
      by_cases hge : Y ≤ 2 * S + b
      · obtain ⟨h3, h4⟩ := hs1 hge
        rw [h3, h4] at ih
        have hc : cmp (((((S : Int) + (S : Int) + (b : Int)).natAbs : Nat) : Int)) (Y : Int) ≥ 0 := by unfold cmp; split <;> (try split) <;> omega
        have mi := minus_spec (a := (Y : Int)) (sm8 _ (by omega))
        rw [wy] at mi
        have p4 := plus_spec (a := (S : Int) + (S : Int) + (b : Int)) (b := -(Y : Int)) (sm8 _ (by omega)) (sm8 _ (by omega))
        have p5 := plus_spec (a := (Q : Int) + (Q : Int)) (b := 1) (sm8 _ (by omega)) (sm8 _ (by omega))
        rw [show (S : Int) + (S : Int) + (b : Int) + -(Y : Int) = ((2 * S + b - Y : Nat) : Int) by omega] at p4
        rw [show (Q : Int) + (Q : Int) + 1 = ((2 * Q + 1 : Nat) : Int) by omega] at p5
        exact Ev.congr (fun k => if_pos hc) (Ev.bind mi (Ev.bind p4 (Ev.bind (of_spec (a := 1) (by decide)) (Ev.bind p5 ih))))
      · obtain ⟨h3, h4⟩ := hs2 hge
        rw [h3, h4] at ih
        have hc : ¬ cmp (((((S : Int) + (S : Int) + (b : Int)).natAbs : Nat) : Int)) (Y : Int) ≥ 0 := by unfold cmp; split <;> (try split) <;> omega
        rw [show ((2 * S + b : Nat) : Int) = (S : Int) + (S : Int) + (b : Int) by omega, show ((2 * Q : Nat) : Int) = (Q : Int) + (Q : Int) by omega] at ih
        exact Ev.congr (fun k => if_neg hc) ih
theorem rfloor_spec {a b : Int} (ha : In64 a) (hb : In64 b) (h0 : b ≠ 0) : Ev (fun k => tabardref01_Floor.f k a b) (fit (a.fdiv b)) := by
  have hA : a.natAbs ≤ 9223372036854775808 := by obtain ⟨h1, h2⟩ := ha; omega
  have hB : b.natAbs ≤ 9223372036854775808 := by obtain ⟨h1, h2⟩ := hb; omega
  have hq : a.natAbs / b.natAbs ≤ a.natAbs := Nat.div_le_self _ _
  unfold tabardref01_Floor.f
  refine Ev.congr (fun k => if_neg h0) (Ev.bind (of_spec ha) (Ev.bind (of_spec hb) (Ev.bind (of_spec (a := 0) (by decide)) (Ev.bind (of_spec (a := 0) (by decide)) ?_))))
  have hlen : (dig a.natAbs).length ≤ 4 := dig_len _ 4 (by rw [show (65536 : Nat) ^ 4 = 18446744073709551616 by decide]; omega)
  have hlt := val_lt (dig_D16 a.natAbs)
  rw [dig_val] at hlt
  have hlt2 : a.natAbs / 2 ^ (16 * (dig a.natAbs).length) = 0 := by
    refine Nat.div_eq_of_lt ?_
    rw [Nat.pow_mul]
    have : ((a.natAbs : Nat) : Int) < ((65536 ^ (dig a.natAbs).length : Nat) : Int) := by simpa using hlt
    exact_mod_cast this
  have fb := floor_bits (X := a.natAbs) (Y := b.natAbs) (by omega) (by omega) (by omega) a b (R := fit (a.fdiv b)) ?_ (16 * (dig a.natAbs).length) (by omega)
  · rw [hlt2] at fb
    simp only [Nat.zero_div, Nat.zero_mod] at fb
    refine Ev.congr (fun k => ?_) fb
    show tabardref01_Floor.l0 k a b (wrap64 ((wrap64 (((dig a.natAbs).length : Int) * 16)) - 1)) false (dig a.natAbs) false (dig b.natAbs) _ _ _ _ = _
    rw [wrap_in (a := ((dig a.natAbs).length : Int) * 16) ⟨by omega, by omega⟩, wrap_in ⟨by omega, by omega⟩]
    rw [show ((dig a.natAbs).length : Int) * 16 - 1 = ((16 * (dig a.natAbs).length : Nat) : Int) - 1 by omega]
    rfl
  · rw [fdiv_abs h0]
    have hm : a.natAbs % b.natAbs < b.natAbs := Nat.mod_lt _ (by omega)
    clear hlt hlt2 hlen
    generalize a.natAbs / b.natAbs = q at hq ⊢
    generalize a.natAbs % b.natAbs = m at hm ⊢
    by_cases hs : (decide (a < 0) != decide (b < 0)) = true
    · rw [if_pos hs]
      refine Ev.congr (fun k => if_pos hs) (Ev.bind (minus_spec (sm8 _ (by omega))) ?_)
      by_cases hr : m = 0
      · rw [if_pos hr]
        refine Ev.congr (fun k => if_neg ?_) (Ev.pair (told_spec (sm8 _ (by omega))))
        rw [hr]
        simp [W, dig_zero]
      · rw [if_neg hr]
        refine Ev.congr (fun k => if_pos ?_) (Ev.bind (of_spec (a := -1) (by decide)) (Ev.bind (plus_spec (sm8 _ (by omega)) (sm8 _ (by omega))) (Ev.pair (told_spec (sm8 _ (by omega))))))
        have : (W (m : Int)).2 ≠ [] := by
          intro h
          have h2 : dig m = [] := by simpa [W] using h
          exact hr ((dig_nil_iff _).1 h2)
        have := List.length_pos_iff.2 this
        omega
    · rw [if_neg hs]
      exact Ev.congr (fun k => if_neg hs) (Ev.pair (told_spec (sm8 _ (by omega))))
theorem rfloor_zero (a : Int) : Ev (fun k => tabardref01_Floor.f k a 0) (0, 2) := by
  unfold tabardref01_Floor.f
  exact Ev.congr (fun k => if_pos rfl) (Ev.now _)
theorem rrest_spec {a m : Int} (ha : In64 a) (hm : In64 m) (h : 1 ≤ m) : Ev (fun k => tabardref01_Rest.f k a m) (a % m, 0) := by
  have hf := floor_in ha h
  have h1 := Int.mul_fdiv_add_fmod a m
  have h2 : a.fmod m = a % m := Int.fmod_eq_emod_of_nonneg a (by omega)
  have h3 := Int.emod_nonneg a (show m ≠ 0 by omega)
  have h4 := Int.emod_lt_of_pos a (show 0 < m by omega)
  have e : a + -(a.fdiv m * m) = a % m := by rw [Int.mul_comm, ← h2]; omega
  have hin : In64 (a % m) := by obtain ⟨h5, h6⟩ := hm; constructor <;> omega
  unfold tabardref01_Rest.f
  refine Ev.congr (fun k => if_neg (by omega)) (Ev.bind (rfloor_spec ha hm (by omega)) (Ev.bind (of_spec ha) ?_))
  rw [fit_in hf]
  have t := told_spec (small_in hin)
  rw [fit_in hin] at t
  have p := plus_spec (small_in ha) (small_neg (small_mul hf hm))
  rw [e] at p
  exact Ev.bind (of_spec hf) (Ev.bind (of_spec hm) (Ev.bind (times_spec (small_in hf) (small_in hm)) (Ev.bind (minus_spec (small_mul hf hm)) (Ev.bind p (Ev.pair t)))))
theorem rrest_low {a m : Int} (h : m < 1) : Ev (fun k => tabardref01_Rest.f k a m) (0, 2) := by
  unfold tabardref01_Rest.f
  exact Ev.congr (fun k => if_pos h) (Ev.now _)
end Go.Proofs.Ytcphnnopjfogdaa.Q
