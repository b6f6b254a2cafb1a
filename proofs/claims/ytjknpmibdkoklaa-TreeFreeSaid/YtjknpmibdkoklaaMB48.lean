/- Functions of the given program as Lean functions, each with its contract, and what they answer; words for it. No condition but those of each. -/
import Derived.Test.YtjknpmibdkoklaaMB25
import Derived.Test.YtjknpmibdkoklaaMB43
import Derived.Test.YtjknpmibdkoklaaMB45
import Derived.Test.YtjknpmibdkoklaaMB46
import Derived.Test.YtjknpmibdkoklaaMB24
import Derived.Test.YtjknpmibdkoklaaMB47
set_option maxRecDepth 100000
namespace Go.Proofs.Ytjknpmibdkoklaa.Q
open Go.RowKit Go.Proofs.YtjknpmibdkoklaaW.PrintWords Go.Proofs.YtjknpmibdkoklaaW.PrintLast Go.Proofs.YtjknpmibdkoklaaW.PrintMore
def keepS (a : Int) (s : ByteArray) (l : List ByteArray) : List ByteArray := if a = 7 ∨ a = 8 then delS l s else l
theorem keepS_app (a : Int) (s : ByteArray) (l m : List ByteArray) : keepS a s (l ++ m) = keepS a s l ++ keepS a s m := by
  unfold keepS delS
  split
  · exact List.filter_append ..
  · rfl
theorem keepS_len (a : Int) (s : ByteArray) (l : List ByteArray) : (keepS a s l).length ≤ l.length := by
  unfold keepS
  split
  · exact delS_len _ _
  · exact Nat.le_refl _
theorem keepS_nil (a : Int) (s : ByteArray) : keepS a s [] = [] := List.eq_nil_of_length_eq_zero (Nat.le_zero.1 (keepS_len a s []))
theorem rfree_l2 (a b : Int) (s : ByteArray) (l : List S66) (q : List S39) (i : Int) (t : List ByteArray) (R : List ByteArray) (ht : t.length ≤ 1000) : ∀ (n j : Nat) (acc : List ByteArray), j ≤ t.length → t.length - j = n → acc.length + (t.length - j) ≤ 1000000 →
    Ev (fun k => tabardref06_Free.l1 k (acc ++ keepS a s (t.drop j)) (wrap64 (i + 1)) a s b l q) R → Ev (fun k => tabardref06_Free.l2 k acc i t (j : Int) a s b l q) R
  | 0, j, acc, hj, hn, ho, h => by
    rw [List.drop_of_length_le (by omega), keepS_nil, List.append_nil] at h
    refine Ev.step (f := fun k => tabardref06_Free.l1 k acc (wrap64 (i + 1)) a s b l q) (fun k => ?_) h
    show tabardref06_Free.l2 (k + 1) acc i t (j : Int) a s b l q = _
    conv => lhs; unfold tabardref06_Free.l2
    rw [if_neg (by omega)]
  | n + 1, j, acc, hj, hn, ho, h => by
    have hlt : j < t.length := by omega
    have hrd : rdOf ByteArray.empty t (j : Int) = t[j] := by rw [rdOf_nat, List.getD_eq_getElem?_getD, List.getElem?_eq_getElem hlt]; rfl
    rw [List.drop_eq_getElem_cons hlt, ← List.singleton_append, keepS_app, ← List.append_assoc] at h
    have hl1 := keepS_len a s [t[j]]
    rw [List.length_singleton] at hl1
    refine Ev.step (f := fun k => tabardref06_Free.l2 k (acc ++ keepS a s [t[j]]) i t ((j + 1 : Nat) : Int) a s b l q) (fun k => ?_) (rfree_l2 a b s l q i t R ht n (j + 1) _ (by omega) (by omega) (by rw [List.length_append]; omega) h)
    show tabardref06_Free.l2 (k + 1) acc i t (j : Int) a s b l q = _
    conv => lhs; unfold tabardref06_Free.l2
    rw [if_pos (by omega), hrd, wrap_add hlt (by omega), if_pos (show 0 ≤ (j : Int) by omega), if_pos (show acc.length < 8796093022208 by omega), bl_eq, bl_eq]
    unfold keepS delS
    by_cases h7 : a = 7
    · by_cases he : t[j] = s
      · simp [h7, he]
      · have hb : ¬ bl t[j] = bl s := fun e => he (bl_inj e)
        simp [h7, he, hb]
    · by_cases h8 : a = 8
      · by_cases he : t[j] = s
        · simp [h8, he]
        · have hb : ¬ bl t[j] = bl s := fun e => he (bl_inj e)
          simp [h8, he, hb]
      · simp [h7, h8]
theorem rfree_l1 (a b : Int) (s : ByteArray) (l : List S66) (q : List S39) (ih : ∀ u ∈ q, Ev (fun k => tabardref06_Free.f k u.f0 u.f1 u.f2 u.f3 u.f4) (freeF u)) (hc : ∀ u ∈ q, cntF u ≤ 1000) (hl : q.length ≤ 1000) : ∀ (n i : Nat) (acc : List ByteArray), i ≤ q.length → q.length - i = n → acc.length + (freeFs (q.drop i)).length ≤ 900000 →
    Ev (fun k => tabardref06_Free.l1 k acc (i : Int) a s b l q) (canon (acc ++ keepS a s (freeFs (q.drop i))))
  | 0, i, acc, hi, hn, ho => by
    rw [List.drop_of_length_le (by omega)] at ho ⊢
    rw [freeFs, keepS_nil, List.append_nil]
    refine Ev.step (f := fun k => (tabardref04_Together.f k acc).bind fun t => some t) (fun k => by
      show tabardref06_Free.l1 (k + 1) acc (i : Int) a s b l q = _
      conv => lhs; unfold tabardref06_Free.l1
      rw [if_neg (by omega)]) (Ev.bind (together_ev acc (by omega)) (Ev.now _))
  | n + 1, i, acc, hi, hn, ho => by
    have hlt : i < q.length := by omega
    rw [List.drop_eq_getElem_cons hlt] at ho ⊢
    rw [freeFs, List.length_append] at ho
    have h1 := freeF_len q[i]
    have h2 := hc _ (List.getElem_mem hlt)
    have h3 := keepS_len a s (freeF q[i])
    refine Ev.step (f := fun k => (tabardref06_Free.f k q[i].f0 q[i].f1 q[i].f2 q[i].f3 q[i].f4).bind fun t => (tabardref06_Free.l2 k acc (i : Int) t ((0 : Nat) : Int) a s b l q)) (fun k => by
      show tabardref06_Free.l1 (k + 1) acc (i : Int) a s b l q = _
      conv => lhs; unfold tabardref06_Free.l1
      rw [if_pos (by omega), if_pos (by omega), rd_T39_nat hlt]
      rfl) ?_
    refine Ev.bind (ih _ (List.getElem_mem hlt)) ?_
    refine rfree_l2 a b s l q (i : Int) (freeF q[i]) _ (by omega) _ 0 acc (Nat.zero_le _) rfl (by omega) ?_
    rw [wrap_add hlt (by omega), freeFs, keepS_app, ← List.append_assoc, List.drop_zero]
    exact rfree_l1 a b s l q ih hc hl n (i + 1) _ (by omega) (by omega) (by rw [List.length_append]; omega)
theorem rfree_l0 (a b : Int) (s : ByteArray) (l : List S66) (q : List S39) (ihT : ∀ u ∈ l, Ev (fun k => tabardref06_Names.f k u.f0 u.f1 u.f2 u.f3) (namesT u)) (ih : ∀ u ∈ q, Ev (fun k => tabardref06_Free.f k u.f0 u.f1 u.f2 u.f3 u.f4) (freeF u)) (hc : ∀ u ∈ q, cntF u ≤ 1000) (hl : l.length ≤ 1000) (hq : q.length ≤ 1000) (hf : (freeFs q).length ≤ 1000) : ∀ (n i : Nat) (acc : List ByteArray), i ≤ l.length → l.length - i = n → acc.length + (namesTs (l.drop i)).length ≤ 800000 →
    Ev (fun k => tabardref06_Free.l0 k acc (i : Int) a s b l q) (canon (acc ++ namesTs (l.drop i) ++ keepS a s (freeFs q)))
  | 0, i, acc, hi, hn, ho => by
    rw [List.drop_of_length_le (by omega)] at ho ⊢
    rw [namesTs, List.append_nil]
    refine Ev.step (f := fun k => tabardref06_Free.l1 k acc ((0 : Nat) : Int) a s b l q) (fun k => ?_) (rfree_l1 a b s l q ih hc hq _ 0 acc (Nat.zero_le _) rfl (by rw [List.drop_zero]; omega))
    show tabardref06_Free.l0 (k + 1) acc (i : Int) a s b l q = _
    conv => lhs; unfold tabardref06_Free.l0
    rw [if_neg (by omega)]
    rfl
  | n + 1, i, acc, hi, hn, ho => by
    have hlt : i < l.length := by omega
    rw [List.drop_eq_getElem_cons hlt] at ho ⊢
    rw [namesTs, List.length_append] at ho
    refine Ev.step (f := fun k => (tabardref06_Names.f k l[i].f0 l[i].f1 l[i].f2 l[i].f3).bind fun t => (if acc.length + t.length < 8796093022208 then (tabardref06_Free.l0 k (acc ++ t) ((i + 1 : Nat) : Int) a s b l q) else (none))) (fun k => by
      show tabardref06_Free.l0 (k + 1) acc (i : Int) a s b l q = _
      conv => lhs; unfold tabardref06_Free.l0
      rw [if_pos (by omega), if_pos (by omega), rd_T66_nat hlt, wrap_add hlt (by omega)]) ?_
    refine Ev.bind (ihT _ (List.getElem_mem hlt)) ?_
    rw [namesTs, ← List.append_assoc]
    refine Ev.congr (fun k => if_pos (by omega)) ?_
    exact rfree_l0 a b s l q ihT ih hc hl hq hf n (i + 1) _ (by omega) (by omega) (by rw [List.length_append]; omega)
theorem rfree_ev : ∀ (n : Nat) (t : S39), RightF t → cntF t ≤ n → n ≤ 900 → Ev (fun k => tabardref06_Free.f k t.f0 t.f1 t.f2 t.f3 t.f4) (freeF t)
  | 0, t, _, h, _ => absurd (cntF_pos t) (by omega)
  | n + 1, t, hr, h, hn => by
    obtain ⟨ho, hT, hF⟩ := RightF_eq hr
    have hc : cntF t = 1 + (cntTs t.f3 + cntFs t.f4) := by cases t; rw [cntF]
    have l1 := len_cntTs t.f3
    have l2 := len_cntFs t.f4
    have l3 := namesTs_len t.f3
    have l4 := freeFs_len t.f4
    have ihT : ∀ u ∈ t.f3, Ev (fun k => tabardref06_Names.f k u.f0 u.f1 u.f2 u.f3) (namesT u) := fun u hu => rnames_ev n u (RightTs_mem hT u hu) (by have := cntTs_mem u hu; omega) (by omega)
    have ih : ∀ u ∈ t.f4, Ev (fun k => tabardref06_Free.f k u.f0 u.f1 u.f2 u.f3 u.f4) (freeF u) := fun u hu => rfree_ev n u (RightFs_mem hF u hu) (by have := cntFs_mem u hu; omega) (by omega)
    refine Ev.step (f := fun k => tabardref06_Free.l0 k [] ((0 : Nat) : Int) t.f0 t.f1 t.f2 t.f3 t.f4) (fun k => by
      show tabardref06_Free.f (k + 1) t.f0 t.f1 t.f2 t.f3 t.f4 = _
      unfold tabardref06_Free.f
      rfl) ?_
    have := rfree_l0 t.f0 t.f2 t.f1 t.f3 t.f4 ihT ih (fun u hu => by have := cntFs_mem u hu; omega) (by omega) (by omega) (by omega) _ 0 [] (Nat.zero_le _) rfl (by simp only [List.length_nil, List.drop_zero]; omega)
    rw [List.drop_zero, List.nil_append] at this
    rw [freeF_eq]
    unfold keepS at this
    by_cases hq : t.f0 = 7 ∨ t.f0 = 8
    · rw [if_pos hq] at this ⊢
      rw [okF_bind ho hq, namesTs, List.nil_append] at this
      rw [okF_bind ho hq, namesTs, List.nil_append]
      exact this
    · rw [if_neg hq] at this ⊢
      exact this
theorem same_loop (l : List ByteArray) (hl : l.length ≤ 1000000) : ∀ (n i : Nat), i ≤ l.length → l.length - i = n → Ev (fun k => tabardlaw06_same.l0 k l l (l.length : Int) (i : Int)) true
  | 0, i, hi, hn => Ev.step (f := fun _ => some true) (fun k => by
      unfold tabardlaw06_same.l0
      rw [if_neg (by omega)]) (Ev.now _)
  | n + 1, i, hi, hn => by
    refine Ev.step (f := fun k => tabardlaw06_same.l0 k l l (l.length : Int) ((i + 1 : Nat) : Int)) (fun k => ?_) (same_loop l hl n (i + 1) (by omega) (by omega))
    show tabardlaw06_same.l0 (k + 1) l l (l.length : Int) (i : Int) = _
    conv => lhs; unfold tabardlaw06_same.l0
    rw [if_pos (by omega), if_pos (by omega), if_pos (by omega), if_pos (by omega), if_pos rfl, wrap_add (show i < l.length by omega) (by omega)]
theorem same_ev (l : List ByteArray) (hl : l.length ≤ 1000000) : Ev (fun k => tabardlaw06_same.f k l l) true := by
  refine Ev.congr (f := fun k => tabardlaw06_same.l0 k l l (l.length : Int) ((0 : Nat) : Int)) (fun k => ?_) (same_loop l hl _ 0 (Nat.zero_le _) rfl)
  unfold tabardlaw06_same.f
  rw [if_pos rfl]
  rfl
theorem eta39 (t : S39) : (⟨t.f0, t.f1, t.f2, t.f3, t.f4⟩ : S39) = t := by cases t; rfl
/-- What tree.Free answers. -/
def freeA (t : S39) : List ByteArray × Int := if (measF t 1 (0, 0, 0)).2.2 = 0 then (freeF t, 0) else ([], (measF t 1 (0, 0, 0)).2.2)
theorem Free_ev (t : S39) : Ev (fun k => tree_Free.f k t.f0 t.f1 t.f2 t.f3 t.f4) (freeA t) := by
  unfold freeA
  by_cases h : (measF t 1 (0, 0, 0)).2.2 = 0
  · rw [if_pos h]
    obtain ⟨_, _, hc⟩ := measF_right t 1 (0, 0, 0) (by decide) (by decide) h
    have hc2 : cntF t ≤ 500 := by simp only [Int.zero_add] at hc; omega
    refine Ev.congr (f := fun k => (tree_free.f k t.f0 t.f1 t.f2 t.f3 t.f4).bind fun b => some (b.1, 0)) (fun k => ?_) (Ev.bind (free_ev 900 t (by omega) (by omega)) (Ev.now _))
    unfold tree_Free.f tree_Check.f tree_measured.f
    rw [Option.bind_some, Option.bind_some, eta39]
    exact if_pos h
  · rw [if_neg h]
    refine Ev.congr (f := fun _ => some ([], (measF t 1 (0, 0, 0)).2.2)) (fun k => ?_) (Ev.now _)
    unfold tree_Free.f tree_Check.f tree_measured.f
    rw [Option.bind_some, Option.bind_some, eta39]
    exact if_neg h
theorem freeA_len (t : S39) : (freeA t).1.length ≤ 500 := by
  unfold freeA
  split
  · rename_i h
    obtain ⟨_, _, hc⟩ := measF_right t 1 (0, 0, 0) (by decide) (by decide) h
    have := freeF_len t
    simp only [Int.zero_add] at hc
    show (freeF t).length ≤ 500
    omega
  · exact Nat.zero_le _
theorem rCheck_eq {t : S39} (h : FitF t) : tabardref06_Check.f t.f0 t.f1 t.f2 t.f3 t.f4 = some (measF t 1 (0, 0, 0)).2.2 := by
  unfold tabardref06_Check.f tabardref06_Measure.f
  rw [eta39, if_pos h.sized]
  rfl
theorem TreeFree_ev {t : S39} (hF : FitF t) : Ev (fun k => tabardlaw06_TreeFree.f k t.f0 t.f1 t.f2 t.f3 t.f4) true := by
  have hFree := Free_ev t
  have hlen := freeA_len t
  refine Ev.bind hFree (Ev.bind fixed_ev ?_)
  refine Ev.congr (f := fun k => tabardlaw06_TreeFree.j0 k (freeA t).1 (freeA t).2 ((freeA t).2 != (measF t 1 (0, 0, 0)).2.2) t.f0 t.f1 t.f2 t.f3 t.f4) (fun k => by
    rw [if_pos rfl, rCheck_eq hF]
    rfl) ?_
  unfold freeA at hlen ⊢
  by_cases h : (measF t 1 (0, 0, 0)).2.2 = 0
  · obtain ⟨hr, _, hc⟩ := measF_right t 1 (0, 0, 0) (by decide) (by decide) h
    simp only [Int.zero_add] at hc
    rw [if_pos h] at hlen ⊢
    have hlen2 : (freeF t).length ≤ 500 := hlen
    refine Ev.step (f := fun k => (tabardref06_Free.f k t.f0 t.f1 t.f2 t.f3 t.f4).bind fun x => (tabardlaw06_same.f k (freeF t) x).bind fun y => some y) (fun k => ?_) (Ev.bind (rfree_ev 900 t hr (by omega) (by omega)) (Ev.bind (same_ev _ (by omega)) (Ev.now _)))
    show tabardlaw06_TreeFree.j0 (k + 1) _ _ _ _ _ _ _ _ = _
    simp only [tabardlaw06_TreeFree.j0]
    rw [if_neg (by rw [h]; decide)]
    rfl
  · rw [if_neg h]
    refine Ev.step (f := fun _ => some true) (fun k => ?_) (Ev.now _)
    show tabardlaw06_TreeFree.j0 (k + 1) _ _ _ _ _ _ _ _ = _
    simp only [tabardlaw06_TreeFree.j0]
    rw [if_neg (by simp), if_neg h]
    rfl
end Go.Proofs.Ytjknpmibdkoklaa.Q
