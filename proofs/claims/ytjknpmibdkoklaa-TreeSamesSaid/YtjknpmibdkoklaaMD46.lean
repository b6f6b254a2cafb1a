/- Functions of the given program as Lean functions, each with its contract, and what they answer; words for it. No condition but those of each. -/
import Derived.Test.YtjknpmibdkoklaaMD37
import Derived.Test.YtjknpmibdkoklaaMD41
import Derived.Test.YtjknpmibdkoklaaMD42
import Derived.Test.YtjknpmibdkoklaaMD44
import Derived.Test.YtjknpmibdkoklaaMD45
set_option maxRecDepth 100000
namespace Go.Proofs.Ytjknpmibdkoklaa.Q
open Go.RowKit Go.Proofs.YtjknpmibdkoklaaW.PrintWords Go.Proofs.YtjknpmibdkoklaaW.PrintLast Go.Proofs.YtjknpmibdkoklaaW.PrintMore
mutual
theorem sameT_refl : ∀ t : S66, sameT t t = true
  | ⟨a, b, s, l⟩ => by rw [sameT]; simp [sameTs_refl l]
theorem sameTs_refl : ∀ l : List S66, sameTs l l = true
  | [] => by rw [sameTs]; rfl
  | t :: l => by rw [sameTs]; simp [sameT_refl t, sameTs_refl l]
end
mutual
theorem sameF_refl : ∀ t : S39, sameF t t = true
  | ⟨a, s, b, l, q⟩ => by rw [sameF]; simp [sameTs_refl l, sameFs_refl q]
theorem sameFs_refl : ∀ l : List S39, sameFs l l = true
  | [] => by rw [sameFs]; rfl
  | t :: l => by rw [sameFs]; simp [sameF_refl t, sameFs_refl l]
end
theorem rsame_loop (a b a' b' : Int) (s s' : ByteArray) (l l' : List S66) (hlen : l.length = l'.length) (ih : ∀ i (h0 : i < l.length) (h1 : i < l'.length), Ev (fun k => tabardref06_sameTerm.f k l[i].f0 l[i].f1 l[i].f2 l[i].f3 l'[i].f0 l'[i].f1 l'[i].f2 l'[i].f3) (sameT l[i] l'[i])) (hl : l.length ≤ 1000) : ∀ (n i : Nat), i ≤ l.length → l.length - i = n →
    Ev (fun k => tabardref06_sameTerm.l0 k (i : Int) a b s l a' b' s' l') (sameTs (l.drop i) (l'.drop i))
  | 0, i, hi, hn => by
    rw [List.drop_of_length_le (by omega), List.drop_of_length_le (by omega), sameTs]
    exact Ev.step (f := fun _ => some true) (fun k => by
      show tabardref06_sameTerm.l0 (k + 1) (i : Int) a b s l a' b' s' l' = _
      unfold tabardref06_sameTerm.l0
      rw [if_neg (by omega)]) (Ev.now _)
  | n + 1, i, hi, hn => by
    have hlt : i < l.length := by omega
    have hlt1 : i < l'.length := by omega
    refine Ev.step (f := fun k => (tabardref06_sameTerm.f k l[i].f0 l[i].f1 l[i].f2 l[i].f3 l'[i].f0 l'[i].f1 l'[i].f2 l'[i].f3).bind fun t => (if t = true then (tabardref06_sameTerm.l0 k ((i + 1 : Nat) : Int) a b s l a' b' s' l') else (some false))) (fun k => by
      show tabardref06_sameTerm.l0 (k + 1) (i : Int) a b s l a' b' s' l' = _
      conv => lhs; unfold tabardref06_sameTerm.l0
      rw [if_pos (by omega), if_pos (by omega), if_pos (by omega), rd_T66_nat hlt, rd_T66_nat hlt1, wrap_add hlt (by omega)]) ?_
    rw [sameTs_drop hlt hlt1]
    refine Ev.bind (ih i hlt hlt1) ?_
    cases h : sameT l[i] l'[i] with
    | true => exact Ev.congr (fun k => if_pos rfl) (by rw [Bool.true_and]; exact rsame_loop a b a' b' s s' l l' hlen ih hl n (i + 1) (by omega) (by omega))
    | false => exact Ev.congr (fun k => if_neg (by decide)) (Ev.now _)
theorem rsameT_j0 (a b a' b' : Int) (s s' : ByteArray) (l l' : List S66) : Ev (fun k => tabardref06_sameTerm.j0 k true a b s l a' b' s' l') false := Ev.step (f := fun _ => some false) (fun k => by
  show tabardref06_sameTerm.j0 (k + 1) true a b s l a' b' s' l' = _
  simp only [tabardref06_sameTerm.j0, if_true]) (Ev.now _)
theorem rsameT_ev : ∀ (n : Nat) (t u : S66), cntT t ≤ n → n ≤ 1000 → Ev (fun k => tabardref06_sameTerm.f k t.f0 t.f1 t.f2 t.f3 u.f0 u.f1 u.f2 u.f3) (sameT t u)
  | 0, t, _, h, _ => absurd (cntT_pos t) (by omega)
  | n + 1, t, u, h, hn => by
    have hc : cntT t = 1 + cntTs t.f3 := by cases t; rw [cntT]
    have hlen := len_cntTs t.f3
    rw [sameT_eq]
    by_cases h0 : t.f0 = u.f0
    · by_cases h1 : t.f1 = u.f1
      · by_cases h2 : t.f2 = u.f2
        · refine Ev.step (f := fun k => tabardref06_sameTerm.j0 k ((t.f3.length : Int) != (u.f3.length : Int)) t.f0 t.f1 t.f2 t.f3 u.f0 u.f1 u.f2 u.f3) (fun k => by
            show tabardref06_sameTerm.f (k + 1) t.f0 t.f1 t.f2 t.f3 u.f0 u.f1 u.f2 u.f3 = _
            unfold tabardref06_sameTerm.f
            rw [if_pos h0, if_pos h1, if_pos (by rw [h2])]) ?_
          by_cases h3 : t.f3.length = u.f3.length
          · rw [show ((t.f3.length : Int) != (u.f3.length : Int)) = false by simp; omega, show (t.f0 == u.f0 && (t.f1 == u.f1 && (decide (t.f2 = u.f2) && sameTs t.f3 u.f3))) = sameTs t.f3 u.f3 by simp [h0, h1, h2]]
            refine Ev.step (f := fun k => tabardref06_sameTerm.l0 k ((0 : Nat) : Int) t.f0 t.f1 t.f2 t.f3 u.f0 u.f1 u.f2 u.f3) (fun k => by
              show tabardref06_sameTerm.j0 (k + 1) false t.f0 t.f1 t.f2 t.f3 u.f0 u.f1 u.f2 u.f3 = _
              simp only [tabardref06_sameTerm.j0]
              rfl) ?_
            have := rsame_loop t.f0 t.f1 u.f0 u.f1 t.f2 u.f2 t.f3 u.f3 h3 (fun i g0 g1 => rsameT_ev n _ _ (by have := cntTs_mem _ (List.getElem_mem g0); omega) (by omega)) (by omega) _ 0 (Nat.zero_le _) rfl
            rw [List.drop_zero, List.drop_zero] at this
            exact this
          · rw [show ((t.f3.length : Int) != (u.f3.length : Int)) = true by simp; omega, sameTs_len h3]
            simp only [Bool.and_false]
            exact rsameT_j0 ..
        · rw [show (t.f0 == u.f0 && (t.f1 == u.f1 && (decide (t.f2 = u.f2) && sameTs t.f3 u.f3))) = false by simp [h2]]
          refine Ev.step (f := fun k => tabardref06_sameTerm.j0 k true t.f0 t.f1 t.f2 t.f3 u.f0 u.f1 u.f2 u.f3) (fun k => by
            show tabardref06_sameTerm.f (k + 1) t.f0 t.f1 t.f2 t.f3 u.f0 u.f1 u.f2 u.f3 = _
            unfold tabardref06_sameTerm.f
            rw [if_pos h0, if_pos h1, if_neg (fun e => h2 (bl_inj (by rw [← bl_eq, ← bl_eq, e])))]) (rsameT_j0 ..)
      · rw [show (t.f0 == u.f0 && (t.f1 == u.f1 && (decide (t.f2 = u.f2) && sameTs t.f3 u.f3))) = false by simp [h1]]
        refine Ev.step (f := fun k => tabardref06_sameTerm.j0 k true t.f0 t.f1 t.f2 t.f3 u.f0 u.f1 u.f2 u.f3) (fun k => by
          show tabardref06_sameTerm.f (k + 1) t.f0 t.f1 t.f2 t.f3 u.f0 u.f1 u.f2 u.f3 = _
          unfold tabardref06_sameTerm.f
          rw [if_pos h0, if_neg h1]) (rsameT_j0 ..)
    · rw [show (t.f0 == u.f0 && (t.f1 == u.f1 && (decide (t.f2 = u.f2) && sameTs t.f3 u.f3))) = false by simp [h0]]
      refine Ev.step (f := fun k => tabardref06_sameTerm.j0 k true t.f0 t.f1 t.f2 t.f3 u.f0 u.f1 u.f2 u.f3) (fun k => by
        show tabardref06_sameTerm.f (k + 1) t.f0 t.f1 t.f2 t.f3 u.f0 u.f1 u.f2 u.f3 = _
        unfold tabardref06_sameTerm.f
        rw [if_neg h0]) (rsameT_j0 ..)
theorem rsameF_j0 (a b a' b' : Int) (s s' : ByteArray) (l l' : List S66) (q q' : List S39) : Ev (fun k => tabardref06_Same.j0 k true a s b l q a' s' b' l' q') false := Ev.step (f := fun _ => some false) (fun k => by
  show tabardref06_Same.j0 (k + 1) true a s b l q a' s' b' l' q' = _
  simp only [tabardref06_Same.j0, if_true]) (Ev.now _)
theorem rsameF_l1 (a b a' b' : Int) (s s' : ByteArray) (l l' : List S66) (q q' : List S39) (hlen : q.length = q'.length) (ih : ∀ i (h0 : i < q.length) (h1 : i < q'.length), Ev (fun k => tabardref06_Same.f k q[i].f0 q[i].f1 q[i].f2 q[i].f3 q[i].f4 q'[i].f0 q'[i].f1 q'[i].f2 q'[i].f3 q'[i].f4) (sameF q[i] q'[i])) (hl : q.length ≤ 1000) : ∀ (n i : Nat), i ≤ q.length → q.length - i = n →
    Ev (fun k => tabardref06_Same.l1 k (i : Int) a s b l q a' s' b' l' q') (sameFs (q.drop i) (q'.drop i))
  | 0, i, hi, hn => by
    rw [List.drop_of_length_le (by omega), List.drop_of_length_le (by omega), sameFs]
    exact Ev.step (f := fun _ => some true) (fun k => by
      show tabardref06_Same.l1 (k + 1) (i : Int) a s b l q a' s' b' l' q' = _
      unfold tabardref06_Same.l1
      rw [if_neg (by omega)]) (Ev.now _)
  | n + 1, i, hi, hn => by
    have hlt : i < q.length := by omega
    have hlt1 : i < q'.length := by omega
    refine Ev.step (f := fun k => (tabardref06_Same.f k q[i].f0 q[i].f1 q[i].f2 q[i].f3 q[i].f4 q'[i].f0 q'[i].f1 q'[i].f2 q'[i].f3 q'[i].f4).bind fun t => (if t = true then (tabardref06_Same.l1 k ((i + 1 : Nat) : Int) a s b l q a' s' b' l' q') else (some false))) (fun k => by
      show tabardref06_Same.l1 (k + 1) (i : Int) a s b l q a' s' b' l' q' = _
      conv => lhs; unfold tabardref06_Same.l1
      rw [if_pos (by omega), if_pos (by omega), if_pos (by omega), rd_T39_nat hlt, rd_T39_nat hlt1, wrap_add hlt (by omega)]) ?_
    rw [sameFs_drop hlt hlt1]
    refine Ev.bind (ih i hlt hlt1) ?_
    cases h : sameF q[i] q'[i] with
    | true => exact Ev.congr (fun k => if_pos rfl) (by rw [Bool.true_and]; exact rsameF_l1 a b a' b' s s' l l' q q' hlen ih hl n (i + 1) (by omega) (by omega))
    | false => exact Ev.congr (fun k => if_neg (by decide)) (Ev.now _)
theorem rsameF_l0 (a b a' b' : Int) (s s' : ByteArray) (l l' : List S66) (q q' : List S39) (R : Bool) (hlen : l.length = l'.length) (ih : ∀ i (h0 : i < l.length) (h1 : i < l'.length), Ev (fun k => tabardref06_sameTerm.f k l[i].f0 l[i].f1 l[i].f2 l[i].f3 l'[i].f0 l'[i].f1 l'[i].f2 l'[i].f3) (sameT l[i] l'[i])) (hR : Ev (fun k => tabardref06_Same.l1 k ((0 : Nat) : Int) a s b l q a' s' b' l' q') R) (hl : l.length ≤ 1000) : ∀ (n i : Nat), i ≤ l.length → l.length - i = n →
    Ev (fun k => tabardref06_Same.l0 k (i : Int) a s b l q a' s' b' l' q') (sameTs (l.drop i) (l'.drop i) && R)
  | 0, i, hi, hn => by
    rw [List.drop_of_length_le (by omega), List.drop_of_length_le (by omega), sameTs]
    refine Ev.step (f := fun k => tabardref06_Same.l1 k ((0 : Nat) : Int) a s b l q a' s' b' l' q') (fun k => by
      show tabardref06_Same.l0 (k + 1) (i : Int) a s b l q a' s' b' l' q' = _
      conv => lhs; unfold tabardref06_Same.l0
      rw [if_neg (by omega)]
      rfl) ?_
    show Ev _ (true && R)
    rw [Bool.true_and]
    exact hR
  | n + 1, i, hi, hn => by
    have hlt : i < l.length := by omega
    have hlt1 : i < l'.length := by omega
    refine Ev.step (f := fun k => (tabardref06_sameTerm.f k l[i].f0 l[i].f1 l[i].f2 l[i].f3 l'[i].f0 l'[i].f1 l'[i].f2 l'[i].f3).bind fun t => (if t = true then (tabardref06_Same.l0 k ((i + 1 : Nat) : Int) a s b l q a' s' b' l' q') else (some false))) (fun k => by
      show tabardref06_Same.l0 (k + 1) (i : Int) a s b l q a' s' b' l' q' = _
      conv => lhs; unfold tabardref06_Same.l0
      rw [if_pos (by omega), if_pos (by omega), if_pos (by omega), rd_T66_nat hlt, rd_T66_nat hlt1, wrap_add hlt (by omega)]) ?_
    rw [sameTs_drop hlt hlt1]
    refine Ev.bind (ih i hlt hlt1) ?_
    cases h : sameT l[i] l'[i] with
    | true => exact Ev.congr (fun k => if_pos rfl) (by rw [Bool.true_and]; exact rsameF_l0 a b a' b' s s' l l' q q' R hlen ih hR hl n (i + 1) (by omega) (by omega))
    | false => exact Ev.congr (fun k => if_neg (by decide)) (Ev.now _)
theorem rsameF_ev : ∀ (n : Nat) (t u : S39), cntF t ≤ n → n ≤ 1000 → Ev (fun k => tabardref06_Same.f k t.f0 t.f1 t.f2 t.f3 t.f4 u.f0 u.f1 u.f2 u.f3 u.f4) (sameF t u)
  | 0, t, _, h, _ => absurd (cntF_pos t) (by omega)
  | n + 1, t, u, h, hn => by
    have hc : cntF t = 1 + (cntTs t.f3 + cntFs t.f4) := by cases t; rw [cntF]
    have hlen := len_cntTs t.f3
    have hlen4 := len_cntFs t.f4
    have hall : sameF t u = (t.f0 == u.f0 && (decide (t.f1 = u.f1) && (t.f2 == u.f2 && (sameTs t.f3 u.f3 && sameFs t.f4 u.f4)))) := sameF_eq t u
    have stop : ∀ b : Bool, b = true → (∀ k, tabardref06_Same.f (k + 1) t.f0 t.f1 t.f2 t.f3 t.f4 u.f0 u.f1 u.f2 u.f3 u.f4 = tabardref06_Same.j0 k b t.f0 t.f1 t.f2 t.f3 t.f4 u.f0 u.f1 u.f2 u.f3 u.f4) → sameF t u = false → Ev (fun k => tabardref06_Same.f k t.f0 t.f1 t.f2 t.f3 t.f4 u.f0 u.f1 u.f2 u.f3 u.f4) (sameF t u) := fun b hb hs hf => by
      subst hb
      rw [hf]
      exact Ev.step hs (rsameF_j0 ..)
    by_cases h0 : t.f0 = u.f0
    · by_cases h1 : t.f1 = u.f1
      · by_cases h2 : t.f2 = u.f2
        · by_cases h3 : t.f3.length = u.f3.length
          · have hs : ∀ k, tabardref06_Same.f (k + 1) t.f0 t.f1 t.f2 t.f3 t.f4 u.f0 u.f1 u.f2 u.f3 u.f4 = tabardref06_Same.j0 k ((t.f4.length : Int) != (u.f4.length : Int)) t.f0 t.f1 t.f2 t.f3 t.f4 u.f0 u.f1 u.f2 u.f3 u.f4 := fun k => by
              unfold tabardref06_Same.f
              rw [if_pos h0, if_pos (by rw [h1]), if_pos h2, if_pos (by omega)]
            by_cases h4 : t.f4.length = u.f4.length
            · rw [hall, show (t.f0 == u.f0 && (decide (t.f1 = u.f1) && (t.f2 == u.f2 && (sameTs t.f3 u.f3 && sameFs t.f4 u.f4)))) = (sameTs t.f3 u.f3 && sameFs t.f4 u.f4) by simp [h0, h1, h2]]
              refine Ev.step hs ?_
              rw [show ((t.f4.length : Int) != (u.f4.length : Int)) = false by simp; omega]
              refine Ev.step (f := fun k => tabardref06_Same.l0 k ((0 : Nat) : Int) t.f0 t.f1 t.f2 t.f3 t.f4 u.f0 u.f1 u.f2 u.f3 u.f4) (fun k => by
                show tabardref06_Same.j0 (k + 1) false t.f0 t.f1 t.f2 t.f3 t.f4 u.f0 u.f1 u.f2 u.f3 u.f4 = _
                simp only [tabardref06_Same.j0]
                rfl) ?_
              have e4 := rsameF_l1 t.f0 t.f2 u.f0 u.f2 t.f1 u.f1 t.f3 u.f3 t.f4 u.f4 h4 (fun i g0 g1 => rsameF_ev n _ _ (by have := cntFs_mem _ (List.getElem_mem g0); omega) (by omega)) (by omega) _ 0 (Nat.zero_le _) rfl
              rw [List.drop_zero, List.drop_zero] at e4
              have e3 := rsameF_l0 t.f0 t.f2 u.f0 u.f2 t.f1 u.f1 t.f3 u.f3 t.f4 u.f4 _ h3 (fun i g0 g1 => rsameT_ev n _ _ (by have := cntTs_mem _ (List.getElem_mem g0); omega) (by omega)) e4 (by omega) _ 0 (Nat.zero_le _) rfl
              rw [List.drop_zero, List.drop_zero] at e3
              exact e3
            · exact stop _ (by simp; omega) hs (by rw [hall, sameFs_len h4]; simp)
          · exact stop true rfl (fun k => by
              unfold tabardref06_Same.f
              rw [if_pos h0, if_pos (by rw [h1]), if_pos h2, if_neg (by omega)]) (by rw [hall, sameTs_len h3]; simp)
        · exact stop true rfl (fun k => by
            unfold tabardref06_Same.f
            rw [if_pos h0, if_pos (by rw [h1]), if_neg h2]) (by rw [hall]; simp [h2])
      · exact stop true rfl (fun k => by
          unfold tabardref06_Same.f
          rw [if_pos h0, if_neg (fun e => h1 (bl_inj (by rw [← bl_eq, ← bl_eq, e])))]) (by rw [hall]; simp [h1])
    · exact stop true rfl (fun k => by
        unfold tabardref06_Same.f
        rw [if_neg h0]) (by rw [hall]; simp [h0])
def errF (t : S39) : Int := (measF t 1 (0, 0, 0)).2.2
def sameA (t u : S39) : Bool := if errF t = 0 then (if errF u = 0 then sameF t u else false) else false
theorem Same_eq (t u : S39) : tree_Same.f t.f0 t.f1 t.f2 t.f3 t.f4 u.f0 u.f1 u.f2 u.f3 u.f4 = some (sameA t u) := by
  unfold tree_Same.f tree_Check.f tree_measured.f tree_same.f
  rw [Option.bind_some, Option.bind_some, eta39, eta39]
  show (if errF t = 0 then _ else _) = _
  unfold sameA
  by_cases h : errF t = 0
  · rw [if_pos h, if_pos h, Option.bind_some, Option.bind_some]
    show (if errF u = 0 then _ else _) = _
    by_cases k : errF u = 0
    · rw [if_pos k, if_pos k]; rfl
    · rw [if_neg k, if_neg k]
  · rw [if_neg h, if_neg h]
theorem TreeSames_ev {t u : S39} (hF : FitF t) (hG : FitF u) : Ev (fun k => tabardlaw06_TreeSames.f k t.f0 t.f1 t.f2 t.f3 t.f4 u.f0 u.f1 u.f2 u.f3 u.f4) true := by
  have step : ∀ k, tabardlaw06_TreeSames.f k t.f0 t.f1 t.f2 t.f3 t.f4 u.f0 u.f1 u.f2 u.f3 u.f4 = (tabardlaw06_fixed.f k).bind fun x => if x = true then (if errF t = 0 then (if errF u = 0 then ((tabardref06_Same.f k t.f0 t.f1 t.f2 t.f3 t.f4 u.f0 u.f1 u.f2 u.f3 u.f4).bind fun y => some (decide (y = sameF t u))) else some true) else some true) else some false := fun k => by
    unfold tabardlaw06_TreeSames.f
    rw [rCheck_eq hF, rCheck_eq hG, Option.bind_some, Option.bind_some]
    refine congrArg _ (funext fun x => ?_)
    show (if x = true then ((tree_Same.f t.f0 t.f1 t.f2 t.f3 t.f4 u.f0 u.f1 u.f2 u.f3 u.f4).bind _) else _) = _
    rw [Same_eq, Same_eq, Same_eq, Option.bind_some]
    simp only [Option.bind_some]
    show (if x = true then (if errF t = 0 then (if errF u = 0 then _ else (if ((sameA t u == false) = true) then (if ((sameA t t == (errF t == 0)) = true) then some (sameA u u == (errF u == 0)) else _) else _)) else (if ((sameA t u == false) = true) then (if ((sameA t t == (errF t == 0)) = true) then some (sameA u u == (errF u == 0)) else _) else _)) else _) = _
    have aa : ∀ v : S39, (sameA v v == (errF v == 0)) = true := fun v => by
      unfold sameA
      by_cases h : errF v = 0
      · rw [if_pos h, if_pos h, sameF_refl, h]; rfl
      · rw [if_neg h]
        simp [h]
    by_cases h : errF t = 0
    · by_cases k2 : errF u = 0
      · have e : sameA t u = sameF t u := by unfold sameA; rw [if_pos h, if_pos k2]
        simp only [h, k2, if_true, e]
        by_cases hx : x = true
        · rw [if_pos hx, if_pos hx]
          refine congrArg _ (funext fun y => ?_)
          rw [show (sameA t t == ((measF t 1 (0, 0, 0)).2.2 == 0)) = true from aa t, show (sameA u u == ((measF u 1 (0, 0, 0)).2.2 == 0)) = true from aa u]
          cases y <;> cases sameF t u <;> rfl
        · rw [if_neg hx, if_neg hx]
      · have e : sameA t u = false := by unfold sameA; rw [if_pos h, if_neg k2]
        rw [if_pos h, if_pos h, if_neg k2, if_neg k2, e, aa t, aa u]
        rfl
    · have e : sameA t u = false := by unfold sameA; rw [if_neg h]
      rw [if_neg h, if_neg h, e, aa t, aa u]
      rfl
  refine Ev.congr step (Ev.bind fixed_ev (Ev.congr (fun k => if_pos rfl) ?_))
  by_cases h : errF t = 0
  · rw [show (fun k => (if errF t = 0 then (if errF u = 0 then ((tabardref06_Same.f k t.f0 t.f1 t.f2 t.f3 t.f4 u.f0 u.f1 u.f2 u.f3 u.f4).bind fun y => some (decide (y = sameF t u))) else some true) else some true)) = fun k => (if errF u = 0 then ((tabardref06_Same.f k t.f0 t.f1 t.f2 t.f3 t.f4 u.f0 u.f1 u.f2 u.f3 u.f4).bind fun y => some (decide (y = sameF t u))) else some true) from funext fun k => if_pos h]
    by_cases k2 : errF u = 0
    · obtain ⟨_, _, hc⟩ := measF_right t 1 (0, 0, 0) (by decide) (by decide) h
      simp only [Int.zero_add] at hc
      refine Ev.congr (fun k => if_pos k2) (Ev.bind (rsameF_ev 900 t u (by omega) (by omega)) ?_)
      rw [show decide (sameF t u = sameF t u) = true from decide_eq_true rfl]
      exact Ev.now _
    · exact Ev.congr (fun k => if_neg k2) (Ev.now _)
  · exact Ev.congr (fun k => if_neg h) (Ev.now _)
end Go.Proofs.Ytjknpmibdkoklaa.Q
