/- Functions of the given program as Lean functions, each with its contract, and what they answer; words for it. No condition but those of each. -/
import Derived.Test.YtjknpmibdkoklaaMG16
import Derived.Test.YtjknpmibdkoklaaMG2
import Derived.Test.YtjknpmibdkoklaaMG17
import Derived.Test.YtjknpmibdkoklaaMG5
set_option maxRecDepth 100000
namespace Go.Proofs.Ytjknpmibdkoklaa.Q
open Go.RowKit Go.Proofs.YtjknpmibdkoklaaW.PrintWords Go.Proofs.YtjknpmibdkoklaaW.PrintLast Go.Proofs.YtjknpmibdkoklaaW.PrintMore
theorem delS_len (l : List ByteArray) (x : ByteArray) : (delS l x).length ≤ l.length := List.length_filter_le _ _
mutual
def freeF : S39 → List ByteArray
  | ⟨a, s, _, l, q⟩ => canon (if a = 7 ∨ a = 8 then delS (namesTs l ++ freeFs q) s else namesTs l ++ freeFs q)
def freeFs : List S39 → List ByteArray
  | [] => []
  | t :: l => freeF t ++ freeFs l
end
theorem freeF_eq (t : S39) : freeF t = canon (if t.f0 = 7 ∨ t.f0 = 8 then delS (namesTs t.f3 ++ freeFs t.f4) t.f1 else namesTs t.f3 ++ freeFs t.f4) := by cases t; rw [freeF]
mutual
def wideF : S39 → Int
  | ⟨a, s, b, l, q⟩ => mx (wideFs q 0) ((freeF ⟨a, s, b, l, q⟩).length : Int)
def wideFs : List S39 → Int → Int
  | [], m => m
  | t :: l, m => wideFs l (mx m (wideF t))
end
theorem wideF_eq (t : S39) : wideF t = mx (wideFs t.f4 0) ((freeF t).length : Int) := by cases t; rw [wideF]
mutual
theorem freeF_len : ∀ t : S39, (freeF t).length ≤ cntF t
  | ⟨a, s, b, l, q⟩ => by
    rw [freeF, cntF]
    have h1 := canon_length (if a = 7 ∨ a = 8 then delS (namesTs l ++ freeFs q) s else namesTs l ++ freeFs q)
    have h2 := namesTs_len l
    have h3 := freeFs_len q
    have h4 := delS_len (namesTs l ++ freeFs q) s
    rw [List.length_append] at h4
    have h5 : (if a = 7 ∨ a = 8 then delS (namesTs l ++ freeFs q) s else namesTs l ++ freeFs q).length ≤ (namesTs l).length + (freeFs q).length := by
      split
      · exact h4
      · rw [List.length_append]; exact Nat.le_refl _
    omega
theorem freeFs_len : ∀ l : List S39, (freeFs l).length ≤ cntFs l
  | [] => Nat.zero_le _
  | t :: l => by
    rw [freeFs, cntFs, List.length_append]
    have := freeF_len t
    have := freeFs_len l
    omega
end
theorem free_end (acc : List ByteArray) (m : Int) (a b : Int) (s : ByteArray) (l : List S66) (q : List S39) (h : acc.length ≤ 1000000) : Ev (fun k => tree_free.j2 k acc m (decide (a = 7 ∨ a = 8)) a s b l q) (canon (if a = 7 ∨ a = 8 then delS acc s else acc), mx m ((canon (if a = 7 ∨ a = 8 then delS acc s else acc)).length : Int)) := by
  refine Ev.step (f := fun _ => some (canon (if a = 7 ∨ a = 8 then delS acc s else acc), mx m ((canon (if a = 7 ∨ a = 8 then delS acc s else acc)).length : Int))) (fun k => ?_) (Ev.now _)
  show tree_free.j2 (k + 1) acc m _ a s b l q = _
  have hd := delS_len acc s
  by_cases ha : a = 7 ∨ a = 8
  · simp only [tree_free.j2, decide_eq_true ha, if_true, if_pos ha]
    unfold slices_DeleteFunc_string_string.f
    rw [if_pos (by omega), Option.bind_some, sorted_canon (by omega)]
    rfl
  · simp only [tree_free.j2, decide_eq_false ha, Bool.false_eq_true, if_false, if_neg ha]
    rw [sorted_canon (by omega)]
    rfl
theorem free_loop1 (a b : Int) (s : ByteArray) (l : List S66) (q : List S39) (ih : ∀ u ∈ q, Ev (fun k => tree_free.f k u.f0 u.f1 u.f2 u.f3 u.f4) (freeF u, wideF u)) (hl : q.length ≤ 1000) : ∀ (n i : Nat) (acc : List ByteArray) (m : Int), i ≤ q.length → q.length - i = n → acc.length + (freeFs (q.drop i)).length ≤ 1000000 →
    Ev (fun k => tree_free.l1 k acc m q (q.length : Int) (i : Int) a s b l q) (canon (if a = 7 ∨ a = 8 then delS (acc ++ freeFs (q.drop i)) s else acc ++ freeFs (q.drop i)), mx (wideFs (q.drop i) m) ((canon (if a = 7 ∨ a = 8 then delS (acc ++ freeFs (q.drop i)) s else acc ++ freeFs (q.drop i))).length : Int))
  | 0, i, acc, m, hi, hn, ho => by
    rw [List.drop_of_length_le (by omega)] at ho ⊢
    rw [freeFs, wideFs, List.append_nil]
    refine Ev.step (f := fun k => tree_free.j2 k acc m (decide (a = 7 ∨ a = 8)) a s b l q) (fun k => ?_) (free_end acc m a b s l q (by omega))
    show tree_free.l1 (k + 1) acc m q (q.length : Int) (i : Int) a s b l q = _
    conv => lhs; unfold tree_free.l1
    rw [if_neg (by omega)]
    split
    · rename_i h; simp [h]
    · rename_i h
      congr 1
      simp only [h, false_or]
      by_cases h8 : a = 8 <;> simp [h8]
  | n + 1, i, acc, m, hi, hn, ho => by
    have hlt : i < q.length := by omega
    rw [List.drop_eq_getElem_cons hlt] at ho ⊢
    rw [freeFs, List.length_append] at ho
    refine Ev.step (f := fun k => (tree_free.f k q[i].f0 q[i].f1 q[i].f2 q[i].f3 q[i].f4).bind fun t => (if acc.length + t.1.length < 8796093022208 then (tree_free.l1 k (acc ++ t.1) (mx m t.2) q (q.length : Int) ((i + 1 : Nat) : Int) a s b l q) else (none))) (fun k => by
      show tree_free.l1 (k + 1) acc m q (q.length : Int) (i : Int) a s b l q = _
      conv => lhs; unfold tree_free.l1
      rw [if_pos (by omega), if_pos (by omega), if_pos (by omega), rd_T39_nat hlt, wrap_add hlt (by omega)]) ?_
    refine Ev.bind (ih _ (List.getElem_mem hlt)) ?_
    rw [freeFs, wideFs, ← List.append_assoc]
    refine Ev.congr (fun k => if_pos (by show acc.length + (freeF q[i]).length < _; omega)) ?_
    exact free_loop1 a b s l q ih hl n (i + 1) _ _ (by omega) (by omega) (by rw [List.length_append]; show acc.length + (freeF q[i]).length + _ ≤ _; omega)
theorem free_loop0 (a b : Int) (s : ByteArray) (l : List S66) (q : List S39) (ihT : ∀ u ∈ l, Ev (fun k => tree_named.f k u.f0 u.f1 u.f2 u.f3) (namesT u)) (ih : ∀ u ∈ q, Ev (fun k => tree_free.f k u.f0 u.f1 u.f2 u.f3 u.f4) (freeF u, wideF u)) (hl : l.length ≤ 1000) (hq : q.length ≤ 1000) (hf : (freeFs q).length ≤ 1000) : ∀ (n i : Nat) (acc : List ByteArray), i ≤ l.length → l.length - i = n → acc.length + (namesTs (l.drop i)).length ≤ 900000 →
    Ev (fun k => tree_free.l0 k acc 0 l (l.length : Int) (i : Int) a s b l q) (canon (if a = 7 ∨ a = 8 then delS (acc ++ namesTs (l.drop i) ++ freeFs q) s else acc ++ namesTs (l.drop i) ++ freeFs q), mx (wideFs q 0) ((canon (if a = 7 ∨ a = 8 then delS (acc ++ namesTs (l.drop i) ++ freeFs q) s else acc ++ namesTs (l.drop i) ++ freeFs q)).length : Int))
  | 0, i, acc, hi, hn, ho => by
    rw [List.drop_of_length_le (by omega)] at ho ⊢
    rw [namesTs, List.append_nil]
    refine Ev.step (f := fun k => tree_free.l1 k acc 0 q (q.length : Int) ((0 : Nat) : Int) a s b l q) (fun k => ?_) (free_loop1 a b s l q ih hq _ 0 acc 0 (Nat.zero_le _) rfl (by rw [List.drop_zero]; omega))
    show tree_free.l0 (k + 1) acc 0 l (l.length : Int) (i : Int) a s b l q = _
    conv => lhs; unfold tree_free.l0
    rw [if_neg (by omega)]
    rfl
  | n + 1, i, acc, hi, hn, ho => by
    have hlt : i < l.length := by omega
    rw [List.drop_eq_getElem_cons hlt] at ho ⊢
    rw [namesTs, List.length_append] at ho
    refine Ev.step (f := fun k => (tree_named.f k l[i].f0 l[i].f1 l[i].f2 l[i].f3).bind fun t => (if acc.length + t.length < 8796093022208 then (tree_free.l0 k (acc ++ t) 0 l (l.length : Int) ((i + 1 : Nat) : Int) a s b l q) else (none))) (fun k => by
      show tree_free.l0 (k + 1) acc 0 l (l.length : Int) (i : Int) a s b l q = _
      conv => lhs; unfold tree_free.l0
      rw [if_pos (by omega), if_pos (by omega), if_pos (by omega), rd_T66_nat hlt, wrap_add hlt (by omega)]) ?_
    refine Ev.bind (ihT _ (List.getElem_mem hlt)) ?_
    rw [namesTs, ← List.append_assoc]
    refine Ev.congr (fun k => if_pos (by omega)) ?_
    exact free_loop0 a b s l q ihT ih hl hq hf n (i + 1) _ (by omega) (by omega) (by rw [List.length_append]; omega)
theorem free_ev : ∀ (n : Nat) (t : S39), cntF t ≤ n → n ≤ 900 → Ev (fun k => tree_free.f k t.f0 t.f1 t.f2 t.f3 t.f4) (freeF t, wideF t)
  | 0, t, h, _ => absurd (cntF_pos t) (by omega)
  | n + 1, t, h, hn => by
    have hc : cntF t = 1 + (cntTs t.f3 + cntFs t.f4) := by cases t; rw [cntF]
    have l1 := len_cntTs t.f3
    have l2 := len_cntFs t.f4
    have l3 := namesTs_len t.f3
    have l4 := freeFs_len t.f4
    have ihT : ∀ u ∈ t.f3, Ev (fun k => tree_named.f k u.f0 u.f1 u.f2 u.f3) (namesT u) := fun u hu => named_ev n u (by have := cntTs_mem u hu; omega) (by omega)
    have ih : ∀ u ∈ t.f4, Ev (fun k => tree_free.f k u.f0 u.f1 u.f2 u.f3 u.f4) (freeF u, wideF u) := fun u hu => free_ev n u (by have := cntFs_mem u hu; omega) (by omega)
    rw [wideF_eq, freeF_eq]
    refine Ev.step (f := fun k => tree_free.l0 k [] 0 t.f3 (t.f3.length : Int) ((0 : Nat) : Int) t.f0 t.f1 t.f2 t.f3 t.f4) (fun k => by
      show tree_free.f (k + 1) t.f0 t.f1 t.f2 t.f3 t.f4 = _
      unfold tree_free.f
      rfl) ?_
    have := free_loop0 t.f0 t.f2 t.f1 t.f3 t.f4 ihT ih (by omega) (by omega) (by omega) _ 0 [] (Nat.zero_le _) rfl (by simp only [List.length_nil, List.drop_zero]; omega)
    rw [List.drop_zero, List.nil_append] at this
    exact this
end Go.Proofs.Ytjknpmibdkoklaa.Q
