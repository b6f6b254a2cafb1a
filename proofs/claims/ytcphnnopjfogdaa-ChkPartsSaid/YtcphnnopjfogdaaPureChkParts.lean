/- Of every list of numbers of 64 bits, cut in two: chk.Total of the list is the sum of the parts' Totals; signs and order don't matter. No condition but the form's own reach. -/
import Derived.Test.YtcphnnopjfogdaaPureWide
import Derived.Test.YtcphnnopjfogdaaQ6
namespace Go.Proofs.Ytcphnnopjfogdaa.Pure
open Go.RowKit Go.Proofs.Ytcphnnopjfogdaa.Q Go.Proofs.YtcphnnopjfogdaaW.PrintWords Go.Proofs.YtcphnnopjfogdaaW.PrintLast
theorem total_all_in {l : List Int} (h : In64 (total l)) : ∀ x ∈ l, In64 (x.natAbs : Int) := by
  induction l with
  | nil => intro x hx; cases hx
  | cons a l ih =>
    intro x hx
    have hn := total_nonneg l
    obtain ⟨h1, h2⟩ := h
    simp only [total] at h1 h2
    rcases List.mem_cons.1 hx with rfl | hx
    · constructor <;> omega
    · exact ih ⟨by omega, by omega⟩ x hx
theorem total_neg_rev (l : List Int) : total (l.map (fun x => -x)) = total l := by
  induction l with
  | nil => rfl
  | cons a l ih => simp only [List.map_cons, total, ih]; omega
theorem total_reverse (l : List Int) : total l.reverse = total l := by
  induction l with
  | nil => rfl
  | cons a l ih => rw [List.reverse_cons, total_append, ih]; simp only [total]; omega
/-- What the second loop has made: the last i numbers, turned, each with the other sign. -/
def turned (l : List Int) (i : Nat) : List Int := (l.reverse.take i).map (fun x => -x)
theorem turned_succ {l : List Int} {i : Nat} (h : i < l.length) : turned l (i + 1) = turned l i ++ [-(rd l ((l.length - 1 - i : Nat) : Int))] := by
  unfold turned
  have h2 : i < l.reverse.length := by rw [List.length_reverse]; exact h
  rw [List.take_succ_eq_append_getElem h2, List.map_append, rd_of_lt (by omega)]
  simp [List.getElem_reverse]
theorem parts_end {a b s : Int} {ea eb es : Int} (l m : List Int) (hab : (a, ea) = fit (total l)) (hb : (b, eb) = fit (total m)) (hs : (s, es) = fit (total l + total m)) :
    Ev (fun k => tabardlaw01_ChkParts.j1 k a ea b eb s es false) true := by
  refine Ev_at 0 (fun k hk => ?_)
  obtain ⟨k, rfl⟩ : ∃ m, k = m + 1 := ⟨k - 1, by omega⟩
  simp only [tabardlaw01_ChkParts.j1]
  rw [if_neg (by decide)]
  have h1 := total_nonneg l
  have h2 := total_nonneg m
  by_cases hl : In64 (total l)
  · rw [fit_in hl] at hab
    obtain ⟨rfl, rfl⟩ := Prod.mk.inj hab
    rw [if_pos rfl]
    by_cases hm : In64 (total m)
    · rw [fit_in hm] at hb
      obtain ⟨rfl, rfl⟩ := Prod.mk.inj hb
      rw [if_pos rfl, add_spec hl hm, ← hs]
      simp
    · rw [fit_out hm] at hb
      obtain ⟨rfl, rfl⟩ := Prod.mk.inj hb
      rw [if_neg (by decide)]
      have hn : ¬ In64 (total l + total m) := by
        intro h
        obtain ⟨h3, h4⟩ := h
        exact hm ⟨by omega, by omega⟩
      rw [fit_out hn] at hs
      obtain ⟨rfl, rfl⟩ := Prod.mk.inj hs
      rfl
  · rw [fit_out hl] at hab
    obtain ⟨rfl, rfl⟩ := Prod.mk.inj hab
    rw [if_neg (by decide)]
    have hn : ¬ In64 (total l + total m) := by
      intro h
      obtain ⟨h3, h4⟩ := h
      exact hl ⟨by omega, by omega⟩
    rw [fit_out hn] at hs
    obtain ⟨rfl, rfl⟩ := Prod.mk.inj hs
    rfl
theorem parts_loop {l : List Int} (h : ∀ x ∈ l, In64 x) (hl : l.length ≤ 17592186043904) (c : Nat) {a b s : Int} {ea eb es : Int} (ha : (a, ea) = fit (total (l.take c))) (hb : (b, eb) = fit (total (l.drop c))) (hs : (s, es) = fit (total l)) :
    ∀ (d i : Nat), i + d = l.length → (∀ x ∈ turned l i, In64 x) → Ev (fun k => tabardlaw01_ChkParts.l0 k l a ea b eb s es (turned l i) (l.length : Int) (i : Int)) true := by
  intro d
  induction d with
  | zero =>
    intro i hi hmin
    have hti : total (turned l i) = total l := by
      unfold turned
      rw [total_neg_rev, List.take_of_length_le (by rw [List.length_reverse]; omega), total_reverse]
    have ht := total_spec hmin (by unfold turned; simp; omega)
    rw [hti, ← hs] at ht
    have e := parts_end (s := s) (es := es) (l.take c) (l.drop c) ha hb (by rw [← total_append, List.take_append_drop]; exact hs)
    refine Ev.step (f := fun k => (chk_Total.f k (turned l i)).bind fun x => if x.1 = s then tabardlaw01_ChkParts.j1 k a ea b eb s es (x.2 != es) else tabardlaw01_ChkParts.j1 k a ea b eb s es true) (fun k => ?_) (Ev.bind ht (Ev.congr (fun k => ?_) e))
    · simp only [tabardlaw01_ChkParts.l0]
      rw [if_neg (by omega)]
    · rw [if_pos rfl]
      simp
  | succ d ih =>
    intro i hi hmin
    have hil : l.length - 1 - i < l.length := by omega
    have hx := h _ (List.getElem_mem hil)
    have hw : wrap64 (wrap64 ((l.length : Int) - 1) - (i : Int)) = ((l.length - 1 - i : Nat) : Int) := by
      rw [wrap_in (a := (l.length : Int) - 1) ⟨by omega, by omega⟩, wrap_in ⟨by omega, by omega⟩]
      omega
    have hlen : (turned l i).length < 17592186044416 := by
      unfold turned
      rw [List.length_map, List.length_take, List.length_reverse]
      omega
    by_cases hin : In64 (-l[l.length - 1 - i])
    · have next := ih (i + 1) (by omega) (fun x hx => by
        rw [turned_succ (by omega), rd_of_lt hil] at hx
        rcases List.mem_append.1 hx with hx | hx
        · exact hmin x hx
        · rw [List.mem_singleton] at hx
          rw [hx]
          exact hin)
      refine Ev.step (fun k => ?_) next
      simp only [tabardlaw01_ChkParts.l0]
      rw [hw, if_pos (by omega), if_pos (by omega), if_pos (by omega), rd_of_lt hil, neg_spec hx, fit_in hin]
      simp only [Option.bind_some, if_true]
      rw [if_pos hlen, wrap_succ (by omega), turned_succ (by omega), rd_of_lt hil]
    · have hn : ¬ In64 (total l) := by
        intro h2
        have h3 := total_all_in h2 _ (List.getElem_mem hil)
        apply hin
        obtain ⟨h4, h5⟩ := h3
        obtain ⟨h6, h7⟩ := hx
        constructor <;> omega
      rw [fit_out hn] at hs
      obtain ⟨rfl, rfl⟩ := Prod.mk.inj hs
      refine Ev_at 0 (fun k hk => ?_)
      obtain ⟨k, rfl⟩ : ∃ m, k = m + 1 := ⟨k - 1, by omega⟩
      simp only [tabardlaw01_ChkParts.l0]
      rw [hw, if_pos (by omega), if_pos (by omega), if_pos (by omega), rd_of_lt hil, neg_spec hx, fit_out hin]
      simp
theorem ChkParts : tabardlaw01_ChkParts.Pure := by
  intro l a hl hb hw ha
  have hw : ∀ x ∈ l, In64 x := fun x hx => in_of_wf (hw x hx)
  apply Ev.rounds
  have hu : IntKind.u64.wrap (wrap64 ((l.length : Int) + 1)) = ((l.length + 1 : Nat) : Int) := by
    rw [wrap_in ⟨by omega, by omega⟩, uwrap_in (by omega) (by omega)]
    omega
  obtain ⟨c, hc, hcl⟩ : ∃ c : Nat, wrap64 (Int.tmod (IntKind.u64.wrap a) ((l.length + 1 : Nat) : Int)) = (c : Int) ∧ c ≤ l.length := by
    have h1 : 0 ≤ IntKind.u64.wrap a := by rw [uwrap]; omega
    obtain ⟨m, hm⟩ := Int.eq_ofNat_of_zero_le h1
    refine ⟨m % (l.length + 1), ?_, by have := Nat.mod_lt m (show 0 < l.length + 1 by omega); omega⟩
    rw [hm, show Int.tmod (m : Int) ((l.length + 1 : Nat) : Int) = ((m % (l.length + 1) : Nat) : Int) from rfl]
    have := Nat.mod_lt m (show 0 < l.length + 1 by omega)
    exact wrap_nat (by omega)
  have h1 := total_spec (l := l.take c) (fun x hx => hw x (List.mem_of_mem_take hx)) (by rw [List.length_take]; omega)
  have h2 := total_spec (l := l.drop c) (fun x hx => hw x (List.mem_of_mem_drop hx)) (by rw [List.length_drop]; omega)
  have h3 := total_spec hw (by omega)
  have h4 := parts_loop hw (by omega) c (a := (fit (total (l.take c))).1) (ea := (fit (total (l.take c))).2) (b := (fit (total (l.drop c))).1) (eb := (fit (total (l.drop c))).2) (s := (fit (total l)).1) (es := (fit (total l)).2) rfl rfl rfl l.length 0 (by omega) (fun x hx => by simp [turned] at hx)
  unfold tabardlaw01_ChkParts.f
  refine Ev.congr (f := fun k => (chk_Total.f k (l.take c)).bind fun x => (chk_Total.f k (l.drop c)).bind fun y => (chk_Total.f k l).bind fun z => tabardlaw01_ChkParts.l0 k l x.1 x.2 y.1 y.2 z.1 z.2 [] (l.length : Int) 0) (fun k => ?_) (Ev.bind h1 (Ev.bind h2 (Ev.bind h3 h4)))
  rw [fixed_true, hu, hc]
  have e1 : (l.take c).length < 17592186044416 := by rw [List.length_take]; omega
  have e2 : (l.drop c).length < 17592186044416 := by rw [List.length_drop]; omega
  have e3 : l.length < 17592186044416 := by omega
  have e4 : ¬ ((l.length + 1 : Nat) : Int) = 0 := by omega
  have e5 : (0 : Int) ≤ (c : Int) := by omega
  have e6 : (c : Int) ≤ (l.length : Int) := by omega
  simp only [Option.bind_some, if_true, List.length_nil, Nat.zero_add, List.nil_append, Int.toNat_natCast, e1, e2, e3, e4, e5, e6, if_false]
end Go.Proofs.Ytcphnnopjfogdaa.Pure
