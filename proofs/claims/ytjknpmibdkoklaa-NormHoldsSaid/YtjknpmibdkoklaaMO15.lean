/- Functions of the given program as Lean functions, each with its contract, and what they answer; words for it. No condition but those of each. -/
import Derived.Test.YtjknpmibdkoklaaMOS
import Derived.Test.YtjknpmibdkoklaaMO11
import Derived.Test.YtjknpmibdkoklaaMO13
import Derived.Test.YtjknpmibdkoklaaMO14
set_option linter.unusedVariables false
set_option linter.unusedSimpArgs false
set_option maxRecDepth 100000
namespace Go.Proofs.Ytjknpmibdkoklaa.Q
open Go.RowKit Go.Proofs.YtjknpmibdkoklaaW.PrintWords Go.Proofs.YtjknpmibdkoklaaW.PrintLast Go.Proofs.YtjknpmibdkoklaaW.PrintMore
theorem lastA_err {op md : Int} {s : Sm} (h : (lastA op md s).2.2.2.2.2 ≠ 0) : lastA op md s = errN (lastA op md s).2.2.2.2.2 := by
  unfold lastA at h ⊢
  by_cases h0 : s.2.2.2 = 0
  · rw [if_neg (fun k => k h0)] at h ⊢
    by_cases hok : okS op md s = true
    · rw [if_pos hok] at h
      exact absurd rfl h
    · rw [if_neg hok]
      rfl
  · rw [if_pos h0]
    rfl
theorem lastA_ok {op md : Int} {s : Sm} (h : (lastA op md s).2.2.2.2.2 = 0) : s.2.2.2 = 0 ∧ lastA op md s = (atomK op, s.1, cofS op md s.2.1, bndS op md s.2.2.1, md, 0) := by
  unfold lastA at h ⊢
  by_cases h0 : s.2.2.2 = 0
  · rw [if_neg (fun k => k h0)] at h ⊢
    by_cases hok : okS op md s = true
    · rw [if_pos hok]
      exact ⟨h0, rfl⟩
    · rw [if_neg hok] at h
      exact absurd h kq2
  · rw [if_pos h0] at h
    exact absurd h h0
theorem atomS_err {op md : Int} {a b : Sm} (h : (atomS op md a b).2.2.2.2.2 ≠ 0) : atomS op md a b = errN (atomS op md a b).2.2.2.2.2 := by
  unfold atomS at h ⊢
  by_cases ha : a.2.2.2 = 0
  · rw [if_neg (fun k => k ha)] at h ⊢
    by_cases hb : b.2.2.2 = 0
    · rw [if_neg (fun k => k hb)] at h ⊢
      exact lastA_err h
    · rw [if_pos hb]
      rfl
  · rw [if_pos ha]
    rfl
theorem atomA_err {t : S39} (h : (atomA t).2.2.2.2.2 ≠ 0) : atomA t = errN (atomA t).2.2.2.2.2 := by
  unfold atomA at h ⊢
  by_cases hm : (measF t 1 (0, 0, 0)).2.2 = 0
  · rw [if_neg (fun k => k hm)] at h ⊢
    by_cases h9 : t.f0 < 9
    · rw [if_pos h9]
      rfl
    · rw [if_neg h9] at h ⊢
      exact atomS_err h
  · rw [if_pos hm]
    rfl
theorem atomA_ok {t : S39} (hf : FitF t) (h : (atomA t).2.2.2.2.2 = 0) : 9 ≤ t.f0 ∧ t.f0 ≤ 15 ∧ (if t.f0 = 15 then 1 ≤ t.f2 else t.f2 = 0) ∧ ∃ u v s, t.f3 = [u, v] ∧ RightT u ∧ RightT v ∧ FitT u ∧ FitT v ∧ cntT u ≤ 500 ∧ cntT v ≤ 500 ∧ (sumT u).2.2.2 = 0 ∧ (sumT v).2.2.2 = 0 ∧
    s = (if t.f0 = 11 ∨ t.f0 = 12 then subS (sumT v) (sumT u) else subS (sumT u) (sumT v)) ∧ s.2.2.2 = 0 ∧ Wf s 1000 ∧ atomA t = (atomK t.f0, s.1, cofS t.f0 t.f2 s.2.1, bndS t.f0 t.f2 s.2.2.1, t.f2, 0) := by
  by_cases hm : (measF t 1 (0, 0, 0)).2.2 = 0
  · by_cases h9 : t.f0 < 9
    · unfold atomA at h
      rw [if_neg (fun k => k hm), if_pos h9] at h
      exact absurd h kq2
    · obtain ⟨h15, hmd, u, v, hl, ru, rv, fu, fv, hc⟩ := atom_parts hf hm h9
      have e1 : atomA t = atomS t.f0 t.f2 (sumT u) (sumT v) := by
        unfold atomA
        rw [if_neg (fun k => k hm), if_neg h9, hl, rd_two0, rd_two1]
      rw [e1] at h ⊢
      have wu := sumT_wf 500 u ru fu kq1
      have wv := sumT_wf 500 v rv fv kq1
      by_cases ha : (sumT u).2.2.2 = 0
      · by_cases hb : (sumT v).2.2.2 = 0
        · have e2 : atomS t.f0 t.f2 (sumT u) (sumT v) = lastA t.f0 t.f2 (if t.f0 = 11 ∨ t.f0 = 12 then subS (sumT v) (sumT u) else subS (sumT u) (sumT v)) := by
            unfold atomS
            rw [if_neg (fun k => k ha), if_neg (fun k => k hb)]
          rw [e2] at h ⊢
          obtain ⟨h0, he⟩ := lastA_ok h
          refine ⟨kq1, h15, hmd, u, v, _, hl, ru, rv, fu, fv, kq1, kq1, ha, hb, rfl, h0, ?_, he⟩
          by_cases ho : t.f0 = 11 ∨ t.f0 = 12
          · rw [if_pos ho]
            exact (Wf.both wv wu).up kq1
          · rw [if_neg ho]
            exact (Wf.both wu wv).up kq1
        · unfold atomS at h
          rw [if_neg (fun k => k ha), if_pos hb] at h
          exact absurd h hb
      · unfold atomS at h
        rw [if_pos ha] at h
        exact absurd h ha
  · unfold atomA at h
    rw [if_pos hm] at h
    exact absurd h hm
theorem cof_len9 (op md : Int) (cs : List Int) : (cofS op md cs).length = cs.length := by unfold cofS; split <;> simp
theorem dotL_mod (m : Int) : ∀ (cs bs : List Int), ∃ q : Int, dotL cs bs = dotL (cs.map fun c => c % m) bs + m * q
  | [], bs => ⟨0, by cases bs <;> simp [dotL]⟩
  | c :: cs, [] => ⟨0, by simp [dotL]⟩
  | c :: cs, b :: bs => by
    obtain ⟨q, hq⟩ := dotL_mod m cs bs
    refine ⟨q + c / m * b, ?_⟩
    have hc : c = m * (c / m) + c % m := (Int.mul_ediv_add_emod c m).symm
    rw [List.map_cons, dotL, dotL, hq]
    conv => lhs; rw [hc]
    rw [Int.add_mul, Int.mul_add, Int.mul_assoc]
    omega
theorem tmod_dvd (x m : Int) : (Int.tmod x m == 0) = decide (m ∣ x) := by
  by_cases h : m ∣ x
  · rw [decide_eq_true h, beq_iff_eq.2 (Int.tmod_eq_zero_of_dvd h)]
  · rw [decide_eq_false h, beq_eq_false_iff_ne.2 fun k => h (Int.dvd_of_tmod_eq_zero k)]
theorem holds_eq {op md a b z k d : Int} (ha : Mid a) (hb : Mid b) (hz : Wide9 z) (hk : -1125899906842624 < bndS op md k ∧ bndS op md k < 1125899906842624)
    (he : d + k = if op = 11 ∨ op = 12 then b - a else a - b) (hd : if op = 15 then ∃ q, d = z + md * q else z = d) :
    (atomK op = 1 → ((z == bndS op md k) = (a == b))) ∧ (atomK op = 2 → ((Int.tmod (wrap64 (z - bndS op md k)) md == 0) = (Int.tmod (wrap64 (a - b)) md == 0))) ∧
    (op = 9 → decide (z ≤ bndS op md k) = decide (a ≤ b)) ∧ (op = 10 → decide (z ≤ bndS op md k) = decide (a < b)) ∧ (op = 11 → decide (z ≤ bndS op md k) = decide (a ≥ b)) ∧ (op = 12 → decide (z ≤ bndS op md k) = decide (a > b)) := by
  obtain ⟨a1, a2⟩ := ha
  obtain ⟨b1, b2⟩ := hb
  obtain ⟨z1, z2⟩ := hz
  refine ⟨fun h => ?_, fun h => ?_, fun h => ?_, fun h => ?_, fun h => ?_, fun h => ?_⟩
  · have h' : op = 13 ∨ op = 14 := by
      unfold atomK at h
      by_cases c : op = 13 ∨ op = 14
      · exact c
      · rw [if_neg c] at h
        split at h <;> cases h
    rw [if_neg kq1] at he hd
    have hB : bndS op md k = -k := by unfold bndS; rw [if_neg kq1, if_neg kq1]
    rw [hB]
    by_cases c : a = b
    · rw [beq_iff_eq.2 c, beq_iff_eq.2 (show z = -k by omega)]
    · rw [beq_eq_false_iff_ne.2 c, beq_eq_false_iff_ne.2 (show z ≠ -k by omega)]
  · have h' : op = 15 := by
      unfold atomK at h
      by_cases c : op = 13 ∨ op = 14
      · rw [if_pos c] at h; cases h
      · rw [if_neg c] at h
        by_cases e : op = 15
        · exact e
        · rw [if_neg e] at h; cases h
    rw [if_neg kq1] at he
    rw [if_pos h'] at hd
    obtain ⟨q, hq⟩ := hd
    rw [wrap_in ⟨kq1, kq1⟩, wrap_in ⟨kq1, kq1⟩, tmod_dvd, tmod_dvd]
    have hB : bndS op md k = (-k) % md := by unfold bndS; rw [if_pos h']
    have hdiv : -k = md * (-k / md) + (-k) % md := (Int.mul_ediv_add_emod (-k) md).symm
    have e1 : a - b = (z - bndS op md k) + md * (q - (-k / md)) := by
      rw [hB, Int.mul_sub]
      omega
    have : (md ∣ z - bndS op md k) ↔ (md ∣ a - b) := by
      rw [e1]
      exact ⟨fun h => Int.dvd_add h (Int.dvd_mul_right _ _), fun h => (Int.dvd_add_left (Int.dvd_mul_right _ _)).1 h⟩
    exact decide_eq_decide.2 this
  · rw [if_neg kq1] at he hd
    have hB : bndS op md k = -k := by unfold bndS; rw [if_neg kq1, if_neg kq1]
    rw [hB]
    exact decide_eq_decide.2 kq1
  · rw [if_neg kq1] at he hd
    have hB : bndS op md k = -k - 1 := by unfold bndS; rw [if_neg kq1, if_pos kq1]
    rw [hB]
    exact decide_eq_decide.2 kq1
  · rw [if_pos kq1] at he
    rw [if_neg kq1] at hd
    have hB : bndS op md k = -k := by unfold bndS; rw [if_neg kq1, if_neg kq1]
    rw [hB]
    exact decide_eq_decide.2 kq1
  · rw [if_pos kq1] at he
    rw [if_neg kq1] at hd
    have hB : bndS op md k = -k - 1 := by unfold bndS; rw [if_neg kq1, if_pos kq1]
    rw [hB]
    exact decide_eq_decide.2 kq1
theorem NormHolds_ev {t : S39} (hf : FitF t) {l : List Int} (_ : l.length * 8 ≤ 140737488351232) (_ : ∀ x ∈ l, fitI x) : Ev (fun k => tabardlaw09_NormHolds.f k t.f0 t.f1 t.f2 t.f3 t.f4 l) true := by
  unfold tabardlaw09_NormHolds.f
  refine Ev.bind fixed9_ev (Ev.congr (fun k => if_pos rfl) (Ev.bind (Atom_ev hf) ?_))
  by_cases h0 : (atomA t).2.2.2.2.2 = 0
  · refine Ev.congr (fun k => if_pos h0) ?_
    obtain ⟨h9, h15, hmd, u, v, s, hl, ru, rv, fu, fv, cu, cv, eu, ev_, hs, es, ws, hA⟩ := atomA_ok hf h0
    have hfew := ws.few
    have hlen := ws.len
    rw [hA]

    have start : Ev (fun k => tabardlaw09_NormHolds.j0 k l false t.f0 t.f1 t.f2 t.f3 t.f4 (atomK t.f0) s.1 (cofS t.f0 t.f2 s.2.1) (bndS t.f0 t.f2 s.2.2.1) t.f2) true := by
      obtain ⟨at_, ea, la, sa⟩ := small_ev l s.1.length kq1
      have hcl : (cofS t.f0 t.f2 s.2.1).length = s.2.1.length := cof_len9 _ _ _
      obtain ⟨x, bx, ex, hx⟩ := value_ev s.1 at_ kq1 la.symm sa 500 u ru fu cu kq2
      obtain ⟨y, by_, ey, hy⟩ := value_ev s.1 at_ kq1 la.symm sa 500 v rv fv cv kq2
      obtain ⟨z, bz, ez, hz⟩ := worked9_ev (cofS t.f0 t.f2 s.2.1) at_ kq1 kq1 sa 0
      have dead : Ev (fun k => tabardlaw09_NormHolds.j1 k x y z true t.f0 t.f1 t.f2 t.f3 t.f4 (atomK t.f0) s.1 (cofS t.f0 t.f2 s.2.1) (bndS t.f0 t.f2 s.2.2.1) t.f2) true := Ev.step (f := fun _ => some true) (fun k => by
        conv => lhs; rw [tabardlaw09_NormHolds.j1]
        rw [if_pos rfl]) (Ev.now _)
      refine Ev.step (f := fun k => (tabardlaw09_small.f k l (s.1.length : Int)).bind fun a => (tabardlaw09_value.f k u.f0 u.f1 u.f2 u.f3 s.1 a).bind fun p => (tabardlaw09_value.f k v.f0 v.f1 v.f2 v.f3 s.1 a).bind fun q => (tabardlaw09_worked.f k (cofS t.f0 t.f2 s.2.1) a 0).bind fun r => (if p.2 = true then (if q.2 = true then (if r.2 = true then (if bndS t.f0 t.f2 s.2.2.1 ≥ 1125899906842624 then (tabardlaw09_NormHolds.j1 k p.1 q.1 r.1 true t.f0 t.f1 t.f2 t.f3 t.f4 (atomK t.f0) s.1 (cofS t.f0 t.f2 s.2.1) (bndS t.f0 t.f2 s.2.2.1) t.f2) else (tabardlaw09_NormHolds.j1 k p.1 q.1 r.1 (decide (bndS t.f0 t.f2 s.2.2.1 ≤ (-1125899906842624))) t.f0 t.f1 t.f2 t.f3 t.f4 (atomK t.f0) s.1 (cofS t.f0 t.f2 s.2.1) (bndS t.f0 t.f2 s.2.2.1) t.f2)) else (tabardlaw09_NormHolds.j1 k p.1 q.1 r.1 true t.f0 t.f1 t.f2 t.f3 t.f4 (atomK t.f0) s.1 (cofS t.f0 t.f2 s.2.1) (bndS t.f0 t.f2 s.2.2.1) t.f2)) else (tabardlaw09_NormHolds.j1 k p.1 q.1 r.1 true t.f0 t.f1 t.f2 t.f3 t.f4 (atomK t.f0) s.1 (cofS t.f0 t.f2 s.2.1) (bndS t.f0 t.f2 s.2.2.1) t.f2)) else (tabardlaw09_NormHolds.j1 k p.1 q.1 r.1 true t.f0 t.f1 t.f2 t.f3 t.f4 (atomK t.f0) s.1 (cofS t.f0 t.f2 s.2.1) (bndS t.f0 t.f2 s.2.2.1) t.f2))) (fun k => ?_) (Ev.bind ea (Ev.bind ex (Ev.bind ey (Ev.bind ez ?_))))
      · conv => lhs; rw [tabardlaw09_NormHolds.j0]
        rw [if_neg kq2, hl]
        rfl
      · cases bx with
        | false => exact Ev.congr (fun k => if_neg (show ¬ false = true by decide)) dead
        | true =>
          refine Ev.congr (fun k => if_pos rfl) ?_
          cases by_ with
          | false => exact Ev.congr (fun k => if_neg (show ¬ false = true by decide)) dead
          | true =>
            refine Ev.congr (fun k => if_pos rfl) ?_
            cases bz with
            | false => exact Ev.congr (fun k => if_neg (show ¬ false = true by decide)) dead
            | true =>
              refine Ev.congr (fun k => if_pos rfl) ?_
              by_cases c1 : bndS t.f0 t.f2 s.2.2.1 ≥ 1125899906842624
              · exact Ev.congr (fun k => if_pos c1) dead
              · refine Ev.congr (fun k => if_neg c1) ?_
                by_cases c2 : bndS t.f0 t.f2 s.2.2.1 ≤ -1125899906842624
                · rw [decide_eq_true c2]
                  exact dead
                · rw [decide_eq_false c2]
                  obtain ⟨x1, x2⟩ := hx rfl
                  obtain ⟨y1, y2⟩ := hy rfl
                  obtain ⟨z1, z2⟩ := hz rfl
                  have zw : Wide9 z := z2 ⟨kq2, kq2⟩
                  have hE : dotL s.2.1 at_ + s.2.2.1 = if t.f0 = 11 ∨ t.f0 = 12 then y - x else x - y := by
                    have wu := sumT_wf 500 u ru fu cu
                    have wv := sumT_wf 500 v rv fv cv
                    have vu := eval_sumT (fun q => lookF s.1 at_ q 0) 500 u ru fu cu eu
                    have vv := eval_sumT (fun q => lookF s.1 at_ q 0) 500 v rv fv cv ev_
                    have hev : evalS (fun q => lookF s.1 at_ q 0) s = dotL s.2.1 at_ + s.2.2.1 := by
                      unfold evalS
                      rw [dot_look s.1 s.2.1 at_ _ hlen la.symm (rise_nodup ws.rise) (fun _ _ => rfl)]
                    rw [← hev, x1, y1, ← vu, ← vv]
                    by_cases c : t.f0 = 11 ∨ t.f0 = 12
                    · rw [if_pos c] at hs ⊢
                      subst hs
                      exact (eval_both wv wu).2 es
                    · rw [if_neg c] at hs ⊢
                      subst hs
                      exact (eval_both wu wv).2 es
                  have hD : if t.f0 = 15 then ∃ q, dotL s.2.1 at_ = z + t.f2 * q else z = dotL s.2.1 at_ := by
                    rw [Int.add_zero] at z1
                    unfold cofS at z1
                    by_cases c : t.f0 = 15
                    · rw [if_pos c] at z1 ⊢
                      obtain ⟨q, hq⟩ := dotL_mod t.f2 s.2.1 at_
                      exact ⟨q, by rw [hq, z1]⟩
                    · rw [if_neg c] at z1 ⊢
                      exact z1
                  have h15' : t.f0 = 15 → 1 ≤ t.f2 := fun e => by rwa [if_pos e] at hmd
                  obtain ⟨r1, r2, r9, r10, r11, r12⟩ := holds_eq x2 y2 zw ⟨kq1, kq1⟩ hE hD

                  have same : ∀ g : Bool, (t.f0 = 9 → g = decide (x ≤ y)) → (t.f0 = 10 → g = decide (x < y)) → (t.f0 = 11 → g = decide (x ≥ y)) → (t.f0 = 12 → g = decide (x > y)) → (t.f0 = 13 ∨ t.f0 = 14 → g = (x == y)) → (t.f0 = 15 → g = (Int.tmod (wrap64 (x - y)) t.f2 == 0)) →
                      Ev (fun k => tabardlaw09_NormHolds.j2 k x y g t.f0 t.f1 t.f2 t.f3 t.f4) true := fun g g9 g10 g11 g12 g13 g15 => by
                    by_cases o9 : t.f0 = 9
                    · refine Ev.step (f := fun _ => some true) (fun k => ?_) (Ev.now _)
                      conv => lhs; rw [tabardlaw09_NormHolds.j2]
                      rw [if_pos o9, g9 o9, beq_self_eq_true]
                    · by_cases o10 : t.f0 = 10
                      · refine Ev.step (f := fun _ => some true) (fun k => ?_) (Ev.now _)
                        conv => lhs; rw [tabardlaw09_NormHolds.j2]
                        rw [if_neg o9, if_pos o10, g10 o10, beq_self_eq_true]
                      · by_cases o11 : t.f0 = 11
                        · refine Ev.step (f := fun _ => some true) (fun k => ?_) (Ev.now _)
                          conv => lhs; rw [tabardlaw09_NormHolds.j2]
                          rw [if_neg o9, if_neg o10, if_pos o11, g11 o11, beq_self_eq_true]
                        · by_cases o12 : t.f0 = 12
                          · refine Ev.step (f := fun _ => some true) (fun k => ?_) (Ev.now _)
                            conv => lhs; rw [tabardlaw09_NormHolds.j2]
                            rw [if_neg o9, if_neg o10, if_neg o11, if_pos o12, g12 o12, beq_self_eq_true]
                          · by_cases o13 : t.f0 = 13
                            · refine Ev.step (f := fun k => tabardlaw09_NormHolds.j3 k x y g false t.f0 (t.f0 == 13) t.f0 t.f1 t.f2 t.f3 t.f4) (fun k => ?_) (Ev.step (f := fun _ => some true) (fun k => ?_) (Ev.now _))
                              · conv => lhs; rw [tabardlaw09_NormHolds.j2]
                                rw [if_neg o9, if_neg o10, if_neg o11, if_neg o12, if_pos o13]
                              · show tabardlaw09_NormHolds.j3 (k + 1) x y g false t.f0 (t.f0 == 13) t.f0 t.f1 t.f2 t.f3 t.f4 = _
                                rw [tabardlaw09_NormHolds.j3, if_pos (beq_iff_eq.2 o13), g13 (.inl o13), beq_self_eq_true]
                            · refine Ev.step (f := fun k => tabardlaw09_NormHolds.j3 k x y g false t.f0 (t.f0 == 14) t.f0 t.f1 t.f2 t.f3 t.f4) (fun k => ?_) (Ev.step (f := fun _ => some true) (fun k => ?_) (Ev.now _))
                              · conv => lhs; rw [tabardlaw09_NormHolds.j2]
                                rw [if_neg o9, if_neg o10, if_neg o11, if_neg o12, if_neg o13]
                              · show tabardlaw09_NormHolds.j3 (k + 1) x y g false t.f0 (t.f0 == 14) t.f0 t.f1 t.f2 t.f3 t.f4 = _
                                by_cases o14 : t.f0 = 14
                                · rw [tabardlaw09_NormHolds.j3, if_pos (beq_iff_eq.2 o14), g13 (.inr o14), beq_self_eq_true]
                                · have o15 : t.f0 = 15 := by omega
                                  have := h15' o15
                                  rw [tabardlaw09_NormHolds.j3, if_neg (by rw [beq_iff_eq]; exact o14), if_pos o15, if_neg kq1, g15 o15, beq_self_eq_true]
                  by_cases k1 : atomK t.f0 = 1
                  · have kk : t.f0 = 13 ∨ t.f0 = 14 := by
                      unfold atomK at k1
                      by_cases c : t.f0 = 13 ∨ t.f0 = 14
                      · exact c
                      · rw [if_neg c] at k1
                        split at k1 <;> cases k1
                    refine Ev.step (fun k => ?_) (same (z == bndS t.f0 t.f2 s.2.2.1) kq1 kq1 kq1 kq1 (fun _ => r1 k1) kq1)
                    conv => lhs; rw [tabardlaw09_NormHolds.j1]
                    rw [if_neg kq2, if_pos k1]
                  · by_cases k2 : atomK t.f0 = 2
                    · have kk : t.f0 = 15 := by
                        unfold atomK at k2
                        by_cases c : t.f0 = 13 ∨ t.f0 = 14
                        · rw [if_pos c] at k2; cases k2
                        · rw [if_neg c] at k2
                          by_cases e : t.f0 = 15
                          · exact e
                          · rw [if_neg e] at k2; cases k2
                      have := h15' kk
                      refine Ev.step (fun k => ?_) (same (Int.tmod (wrap64 (z - bndS t.f0 t.f2 s.2.2.1)) t.f2 == 0) kq1 kq1 kq1 kq1 kq1 (fun _ => r2 k2))
                      conv => lhs; rw [tabardlaw09_NormHolds.j1]
                      rw [if_neg kq2, if_neg k1, if_pos k2, if_neg kq1]
                    · have kk : t.f0 ≠ 13 ∧ t.f0 ≠ 14 ∧ t.f0 ≠ 15 := by
                        refine ⟨fun e => k1 ?_, fun e => k1 ?_, fun e => k2 ?_⟩
                        · unfold atomK; rw [if_pos (.inl e)]
                        · unfold atomK; rw [if_pos (.inr e)]
                        · unfold atomK; rw [if_neg kq1, if_pos e]
                      refine Ev.step (fun k => ?_) (same (decide (z ≤ bndS t.f0 t.f2 s.2.2.1)) r9 r10 r11 r12 kq1 kq1)
                      conv => lhs; rw [tabardlaw09_NormHolds.j1]
                      rw [if_neg kq2, if_neg k1, if_neg k2]
    have hcl : (cofS t.f0 t.f2 s.2.1).length = s.2.1.length := cof_len9 _ _ _
    refine Ev.congr (fun k => if_pos (show (s.1.length : Int) = ((cofS t.f0 t.f2 s.2.1).length : Int) by omega)) ?_
    refine Ev.congr (fun k => if_pos (by rw [hl]; rfl)) ?_
    by_cases k2 : atomK t.f0 = 2
    · refine Ev.congr (fun k => if_pos k2) ?_
      have kk : t.f0 = 15 := by
        unfold atomK at k2
        by_cases c : t.f0 = 13 ∨ t.f0 = 14
        · rw [if_pos c] at k2; cases k2
        · rw [if_neg c] at k2
          by_cases e : t.f0 = 15
          · exact e
          · rw [if_neg e] at k2; cases k2
      rw [if_pos kk] at hmd
      show Ev (fun k => tabardlaw09_NormHolds.j0 k l (decide (t.f2 < 1)) t.f0 t.f1 t.f2 t.f3 t.f4 (atomK t.f0) s.1 (cofS t.f0 t.f2 s.2.1) (bndS t.f0 t.f2 s.2.2.1) t.f2) true
      rw [decide_eq_false kq1]
      exact start
    · exact Ev.congr (fun k => if_neg k2) start
  · refine Ev.congr (fun k => if_neg h0) ?_
    rw [atomA_err h0]
    exact Ev.congr (fun k => if_pos rfl) (Ev.now _)
end Go.Proofs.Ytjknpmibdkoklaa.Q
