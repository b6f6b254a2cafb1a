/- Functions of the given program as Lean functions, each with its contract, and what they answer; words for it. No condition but those of each. -/
import Derived.Test.YtjknpmibdkoklaaMG6
import Derived.Test.YtjknpmibdkoklaaMG14
import Derived.Test.YtjknpmibdkoklaaMG15
set_option maxRecDepth 100000
namespace Go.Proofs.Ytjknpmibdkoklaa.Q
open Go.RowKit Go.Proofs.YtjknpmibdkoklaaW.PrintWords Go.Proofs.YtjknpmibdkoklaaW.PrintLast Go.Proofs.YtjknpmibdkoklaaW.PrintMore
mutual
def cntT : S66 → Nat
  | ⟨_, _, _, l⟩ => 1 + cntTs l
def cntTs : List S66 → Nat
  | [] => 0
  | t :: l => cntT t + cntTs l
end
mutual
def cntF : S39 → Nat
  | ⟨_, _, _, l, q⟩ => 1 + (cntTs l + cntFs q)
def cntFs : List S39 → Nat
  | [] => 0
  | t :: l => cntF t + cntFs l
end
theorem cntT_pos (t : S66) : 1 ≤ cntT t := by cases t; rw [cntT]; omega
theorem cntF_pos (t : S39) : 1 ≤ cntF t := by cases t; rw [cntF]; omega
theorem len_cntTs : ∀ l : List S66, l.length ≤ cntTs l
  | [] => Nat.zero_le _
  | t :: l => by have := len_cntTs l; have := cntT_pos t; rw [cntTs, List.length_cons]; omega
theorem len_cntFs : ∀ l : List S39, l.length ≤ cntFs l
  | [] => Nat.zero_le _
  | t :: l => by have := len_cntFs l; have := cntF_pos t; rw [cntFs, List.length_cons]; omega
mutual
def RightT : S66 → Prop
  | ⟨a, b, s, l⟩ => okT ⟨a, b, s, l⟩ = true ∧ RightTs l
def RightTs : List S66 → Prop
  | [] => True
  | t :: l => RightT t ∧ RightTs l
end
mutual
def RightF : S39 → Prop
  | ⟨a, s, b, l, q⟩ => okF ⟨a, s, b, l, q⟩ = true ∧ (RightTs l ∧ RightFs q)
def RightFs : List S39 → Prop
  | [] => True
  | t :: l => RightF t ∧ RightFs l
end
theorem nodeM_right {dep : Int} {good : Bool} {m : Int × Int × Int} (h0 : 0 ≤ m.1) (h1 : m.1 ≤ 500) (h : (nodeM dep good m).2.2 = 0) : good = true ∧ (nodeM dep good m).1 = m.1 + 1 ∧ m.1 + 1 ≤ 500 := by
  have hw : wrap64 (m.1 + 1) = m.1 + 1 := by unfold wrap64; omega
  unfold nodeM at h ⊢
  rw [hw] at h ⊢
  simp only at h ⊢
  split at h
  · cases h
  · split at h
    · cases h
    · split at h
      · rename_i a b c; exact ⟨c, by first | rfl | trivial, by omega⟩
      · cases h
mutual
theorem measT_right : ∀ (t : S66) (dep : Int) (m : Int × Int × Int), 0 ≤ m.1 → m.1 ≤ 500 → (measT t dep m).2.2 = 0 → RightT t ∧ (measT t dep m).1 = m.1 + cntT t ∧ m.1 + cntT t ≤ 500
  | ⟨a, b, s, l⟩, dep, m, h0, h1, h => by
    rw [measT] at h ⊢
    rw [cntT, RightT]
    split at h
    · rename_i hn
      obtain ⟨g1, g2, g3⟩ := nodeM_right h0 h1 hn
      obtain ⟨r1, r2, r3⟩ := measTs_right l (wrap64 (dep + 1)) _ (by omega) (by omega) h
      rw [if_pos hn]
      exact ⟨⟨g1, r1⟩, by omega, by omega⟩
    · rename_i hn; exact absurd h hn
theorem measTs_right : ∀ (l : List S66) (dep : Int) (m : Int × Int × Int), 0 ≤ m.1 → m.1 ≤ 500 → (measTs l dep m).2.2 = 0 → RightTs l ∧ (measTs l dep m).1 = m.1 + cntTs l ∧ m.1 + cntTs l ≤ 500
  | [], dep, m, h0, h1, h => by rw [measTs, cntTs, RightTs]; exact ⟨trivial, by omega, by omega⟩
  | t :: l, dep, m, h0, h1, h => by
    rw [measTs] at h ⊢
    rw [cntTs, RightTs]
    split at h
    · rename_i hn
      obtain ⟨g1, g2, g3⟩ := measT_right t dep m h0 h1 hn
      obtain ⟨r1, r2, r3⟩ := measTs_right l dep _ (by omega) (by omega) h
      rw [if_pos hn]
      exact ⟨⟨g1, r1⟩, by omega, by omega⟩
    · rename_i hn; exact absurd h hn
end
mutual
theorem measF_right : ∀ (t : S39) (dep : Int) (m : Int × Int × Int), 0 ≤ m.1 → m.1 ≤ 500 → (measF t dep m).2.2 = 0 → RightF t ∧ (measF t dep m).1 = m.1 + cntF t ∧ m.1 + cntF t ≤ 500
  | ⟨a, s, b, l, q⟩, dep, m, h0, h1, h => by
    rw [measF] at h ⊢
    rw [cntF, RightF]
    split at h
    · rename_i hn
      obtain ⟨g1, g2, g3⟩ := nodeM_right h0 h1 hn
      rw [if_pos hn]
      split at h
      · rename_i hl
        obtain ⟨r1, r2, r3⟩ := measTs_right l (wrap64 (dep + 1)) _ (by omega) (by omega) hl
        obtain ⟨q1, q2, q3⟩ := measFs_right q (wrap64 (dep + 1)) _ (by omega) (by omega) h
        rw [if_pos hl]
        exact ⟨⟨g1, r1, q1⟩, by omega, by omega⟩
      · rename_i hl; exact absurd h hl
    · rename_i hn; exact absurd h hn
theorem measFs_right : ∀ (l : List S39) (dep : Int) (m : Int × Int × Int), 0 ≤ m.1 → m.1 ≤ 500 → (measFs l dep m).2.2 = 0 → RightFs l ∧ (measFs l dep m).1 = m.1 + cntFs l ∧ m.1 + cntFs l ≤ 500
  | [], dep, m, h0, h1, h => by rw [measFs, cntFs, RightFs]; exact ⟨trivial, by omega, by omega⟩
  | t :: l, dep, m, h0, h1, h => by
    rw [measFs] at h ⊢
    rw [cntFs, RightFs]
    split at h
    · rename_i hn
      obtain ⟨g1, g2, g3⟩ := measF_right t dep m h0 h1 hn
      obtain ⟨r1, r2, r3⟩ := measFs_right l dep _ (by omega) (by omega) h
      rw [if_pos hn]
      exact ⟨⟨g1, r1⟩, by omega, by omega⟩
    · rename_i hn; exact absurd h hn
end
theorem cntTs_mem : ∀ {l : List S66}, ∀ t ∈ l, cntT t ≤ cntTs l
  | x :: l, t, ht => by
    rw [cntTs]
    rcases List.mem_cons.1 ht with rfl | ht
    · omega
    · have := cntTs_mem t ht; omega
theorem cntFs_mem : ∀ {l : List S39}, ∀ t ∈ l, cntF t ≤ cntFs l
  | x :: l, t, ht => by
    rw [cntFs]
    rcases List.mem_cons.1 ht with rfl | ht
    · omega
    · have := cntFs_mem t ht; omega
mutual
def namesT : S66 → List ByteArray
  | ⟨a, _, s, l⟩ => canon ((if a = 1 then [s] else []) ++ namesTs l)
def namesTs : List S66 → List ByteArray
  | [] => []
  | t :: l => namesT t ++ namesTs l
end
theorem namesT_eq (t : S66) : namesT t = canon ((if t.f0 = 1 then [t.f2] else []) ++ namesTs t.f3) := by cases t; rw [namesT]
mutual
theorem namesT_len : ∀ t : S66, (namesT t).length ≤ cntT t
  | ⟨a, b, s, l⟩ => by
    rw [namesT, cntT]
    have h1 := canon_length ((if a = 1 then [s] else []) ++ namesTs l)
    have h2 := namesTs_len l
    rw [List.length_append] at h1
    have h3 : (if a = 1 then [s] else []).length ≤ 1 := by split <;> simp
    omega
theorem namesTs_len : ∀ l : List S66, (namesTs l).length ≤ cntTs l
  | [] => Nat.zero_le _
  | t :: l => by
    rw [namesTs, cntTs, List.length_append]
    have := namesT_len t
    have := namesTs_len l
    omega
end
theorem rd_T66_nat {l : List S66} {i : Nat} (h : i < l.length) : rd_T66 l (i : Int) = l[i] := by
  show l.getD i z66 = _
  rw [List.getD_eq_getElem?_getD, List.getElem?_eq_getElem h]
  rfl
theorem rd_T39_nat {l : List S39} {i : Nat} (h : i < l.length) : rd_T39 l (i : Int) = l[i] := by
  show l.getD i z39 = _
  rw [List.getD_eq_getElem?_getD, List.getElem?_eq_getElem h]
  rfl
theorem named_loop (l : List S66) (ih : ∀ u ∈ l, Ev (fun k => tree_named.f k u.f0 u.f1 u.f2 u.f3) (namesT u)) (hl : l.length ≤ 1000) : ∀ (n i : Nat) (acc : List ByteArray), i ≤ l.length → l.length - i = n → acc.length + (namesTs (l.drop i)).length ≤ 1000000 → Ev (fun k => tree_named.l0 k acc l (l.length : Int) (i : Int)) (canon (acc ++ namesTs (l.drop i)))
  | 0, i, acc, hi, hn, ho => by
    rw [List.drop_of_length_le (by omega)] at ho ⊢
    rw [namesTs, List.append_nil]
    exact Ev.step (f := fun _ => some (canon acc)) (fun k => by
      show tree_named.l0 (k + 1) acc l (l.length : Int) (i : Int) = _
      unfold tree_named.l0
      rw [if_neg (by omega), sorted_canon (by omega)]
      rfl) (Ev.now _)
  | n + 1, i, acc, hi, hn, ho => by
    have hlt : i < l.length := by omega
    rw [List.drop_eq_getElem_cons hlt] at ho ⊢
    rw [namesTs, List.length_append] at ho
    refine Ev.step (f := fun k => (tree_named.f k l[i].f0 l[i].f1 l[i].f2 l[i].f3).bind fun t => (if acc.length + t.length < 8796093022208 then (tree_named.l0 k (acc ++ t) l (l.length : Int) ((i + 1 : Nat) : Int)) else (none))) (fun k => by
      show tree_named.l0 (k + 1) acc l (l.length : Int) (i : Int) = _
      conv => lhs; unfold tree_named.l0
      rw [if_pos (by omega), if_pos (by omega), if_pos (by omega), rd_T66_nat hlt, wrap_add hlt (by omega)]) ?_
    refine Ev.bind (ih _ (List.getElem_mem hlt)) ?_
    rw [namesTs, ← List.append_assoc]
    refine Ev.congr (fun k => if_pos (by omega)) ?_
    exact named_loop l ih hl n (i + 1) _ (by omega) (by omega) (by rw [List.length_append]; omega)
theorem named_ev : ∀ (n : Nat) (t : S66), cntT t ≤ n → n ≤ 1000 → Ev (fun k => tree_named.f k t.f0 t.f1 t.f2 t.f3) (namesT t)
  | 0, t, h, _ => absurd (cntT_pos t) (by omega)
  | n + 1, t, h, hn => by
    have hc : cntT t = 1 + cntTs t.f3 := by cases t; rw [cntT]
    have ih : ∀ u ∈ t.f3, Ev (fun k => tree_named.f k u.f0 u.f1 u.f2 u.f3) (namesT u) := fun u hu => named_ev n u (by have := cntTs_mem u hu; omega) (by omega)
    have hlen := len_cntTs t.f3
    have hnl := namesTs_len t.f3
    rw [namesT_eq]
    refine Ev.step (f := fun k => tree_named.j0 k (if t.f0 = 1 then [t.f2] else []) t.f0 t.f1 t.f2 t.f3) (fun k => by
      show tree_named.f (k + 1) t.f0 t.f1 t.f2 t.f3 = _
      unfold tree_named.f
      split
      · rw [if_pos (by simp)]; rfl
      · rfl) ?_
    refine Ev.step (f := fun k => tree_named.l0 k (if t.f0 = 1 then [t.f2] else []) t.f3 (t.f3.length : Int) ((0 : Nat) : Int)) (fun k => by
      show tree_named.j0 (k + 1) _ t.f0 t.f1 t.f2 t.f3 = _
      unfold tree_named.j0
      rfl) ?_
    have h3 : (if t.f0 = 1 then [t.f2] else []).length ≤ 1 := by split <;> simp
    exact named_loop t.f3 ih (by omega) _ 0 _ (Nat.zero_le _) rfl (by rw [List.drop_zero]; omega)
end Go.Proofs.Ytjknpmibdkoklaa.Q
