/- Functions of the given program as Lean functions, each with its contract, and what they answer; words for it. No condition but those of each. -/
import Derived.Test.YtjknpmibdkoklaaMD6
import Derived.Test.YtjknpmibdkoklaaMD14
import Derived.Test.YtjknpmibdkoklaaMD15
set_option maxRecDepth 100000
namespace Go.Proofs.Ytjknpmibdkoklaa.Q
open Go.RowKit Go.Proofs.YtjknpmibdkoklaaW.PrintWords Go.Proofs.YtjknpmibdkoklaaW.PrintLast Go.Proofs.YtjknpmibdkoklaaW.PrintMore
mutual
def cntT : S66 → Nat
  | ⟨_, _, _, l⟩ => 1 + cntTs l
def cntTs : List S66 → Nat
  | [] => 0
  | t :: l => cntT t + cntTs l
end
mutual
def cntF : S39 → Nat
  | ⟨_, _, _, l, q⟩ => 1 + (cntTs l + cntFs q)
def cntFs : List S39 → Nat
  | [] => 0
  | t :: l => cntF t + cntFs l
end
theorem cntT_pos (t : S66) : 1 ≤ cntT t := by cases t; rw [cntT]; omega
theorem cntF_pos (t : S39) : 1 ≤ cntF t := by cases t; rw [cntF]; omega
theorem len_cntTs : ∀ l : List S66, l.length ≤ cntTs l
  | [] => Nat.zero_le _
  | t :: l => by have := len_cntTs l; have := cntT_pos t; rw [cntTs, List.length_cons]; omega
theorem len_cntFs : ∀ l : List S39, l.length ≤ cntFs l
  | [] => Nat.zero_le _
  | t :: l => by have := len_cntFs l; have := cntF_pos t; rw [cntFs, List.length_cons]; omega
mutual
def RightT : S66 → Prop
  | ⟨a, b, s, l⟩ => okT ⟨a, b, s, l⟩ = true ∧ RightTs l
def RightTs : List S66 → Prop
  | [] => True
  | t :: l => RightT t ∧ RightTs l
end
mutual
def RightF : S39 → Prop
  | ⟨a, s, b, l, q⟩ => okF ⟨a, s, b, l, q⟩ = true ∧ (RightTs l ∧ RightFs q)
def RightFs : List S39 → Prop
  | [] => True
  | t :: l => RightF t ∧ RightFs l
end
theorem nodeM_right {dep : Int} {good : Bool} {m : Int × Int × Int} (h0 : 0 ≤ m.1) (h1 : m.1 ≤ 500) (h : (nodeM dep good m).2.2 = 0) : good = true ∧ (nodeM dep good m).1 = m.1 + 1 ∧ m.1 + 1 ≤ 500 := by
  have hw : wrap64 (m.1 + 1) = m.1 + 1 := by unfold wrap64; omega
  unfold nodeM at h ⊢
  rw [hw] at h ⊢
  simp only at h ⊢
  split at h
  · cases h
  · split at h
    · cases h
    · split at h
      · rename_i a b c; exact ⟨c, by first | rfl | trivial, by omega⟩
      · cases h
mutual
theorem measT_right : ∀ (t : S66) (dep : Int) (m : Int × Int × Int), 0 ≤ m.1 → m.1 ≤ 500 → (measT t dep m).2.2 = 0 → RightT t ∧ (measT t dep m).1 = m.1 + cntT t ∧ m.1 + cntT t ≤ 500
  | ⟨a, b, s, l⟩, dep, m, h0, h1, h => by
    rw [measT] at h ⊢
    rw [cntT, RightT]
    split at h
    · rename_i hn
      obtain ⟨g1, g2, g3⟩ := nodeM_right h0 h1 hn
      obtain ⟨r1, r2, r3⟩ := measTs_right l (wrap64 (dep + 1)) _ (by omega) (by omega) h
      rw [if_pos hn]
      exact ⟨⟨g1, r1⟩, by omega, by omega⟩
    · rename_i hn; exact absurd h hn
theorem measTs_right : ∀ (l : List S66) (dep : Int) (m : Int × Int × Int), 0 ≤ m.1 → m.1 ≤ 500 → (measTs l dep m).2.2 = 0 → RightTs l ∧ (measTs l dep m).1 = m.1 + cntTs l ∧ m.1 + cntTs l ≤ 500
  | [], dep, m, h0, h1, h => by rw [measTs, cntTs, RightTs]; exact ⟨trivial, by omega, by omega⟩
  | t :: l, dep, m, h0, h1, h => by
    rw [measTs] at h ⊢
    rw [cntTs, RightTs]
    split at h
    · rename_i hn
      obtain ⟨g1, g2, g3⟩ := measT_right t dep m h0 h1 hn
      obtain ⟨r1, r2, r3⟩ := measTs_right l dep _ (by omega) (by omega) h
      rw [if_pos hn]
      exact ⟨⟨g1, r1⟩, by omega, by omega⟩
    · rename_i hn; exact absurd h hn
end
mutual
theorem measF_right : ∀ (t : S39) (dep : Int) (m : Int × Int × Int), 0 ≤ m.1 → m.1 ≤ 500 → (measF t dep m).2.2 = 0 → RightF t ∧ (measF t dep m).1 = m.1 + cntF t ∧ m.1 + cntF t ≤ 500
  | ⟨a, s, b, l, q⟩, dep, m, h0, h1, h => by
    rw [measF] at h ⊢
    rw [cntF, RightF]
    split at h
    · rename_i hn
      obtain ⟨g1, g2, g3⟩ := nodeM_right h0 h1 hn
      rw [if_pos hn]
      split at h
      · rename_i hl
        obtain ⟨r1, r2, r3⟩ := measTs_right l (wrap64 (dep + 1)) _ (by omega) (by omega) hl
        obtain ⟨q1, q2, q3⟩ := measFs_right q (wrap64 (dep + 1)) _ (by omega) (by omega) h
        rw [if_pos hl]
        exact ⟨⟨g1, r1, q1⟩, by omega, by omega⟩
      · rename_i hl; exact absurd h hl
    · rename_i hn; exact absurd h hn
theorem measFs_right : ∀ (l : List S39) (dep : Int) (m : Int × Int × Int), 0 ≤ m.1 → m.1 ≤ 500 → (measFs l dep m).2.2 = 0 → RightFs l ∧ (measFs l dep m).1 = m.1 + cntFs l ∧ m.1 + cntFs l ≤ 500
  | [], dep, m, h0, h1, h => by rw [measFs, cntFs, RightFs]; exact ⟨trivial, by omega, by omega⟩
  | t :: l, dep, m, h0, h1, h => by
    rw [measFs] at h ⊢
    rw [cntFs, RightFs]
    split at h
    · rename_i hn
      obtain ⟨g1, g2, g3⟩ := measF_right t dep m h0 h1 hn
      obtain ⟨r1, r2, r3⟩ := measFs_right l dep _ (by omega) (by omega) h
      rw [if_pos hn]
      exact ⟨⟨g1, r1⟩, by omega, by omega⟩
    · rename_i hn; exact absurd h hn
end
theorem cntTs_mem : ∀ {l : List S66}, ∀ t ∈ l, cntT t ≤ cntTs l
  | x :: l, t, ht => by
    rw [cntTs]
    rcases List.mem_cons.1 ht with rfl | ht
    · omega
    · have := cntTs_mem t ht; omega
theorem cntFs_mem : ∀ {l : List S39}, ∀ t ∈ l, cntF t ≤ cntFs l
  | x :: l, t, ht => by
    rw [cntFs]
    rcases List.mem_cons.1 ht with rfl | ht
    · omega
    · have := cntFs_mem t ht; omega
theorem rd_T66_nat {l : List S66} {i : Nat} (h : i < l.length) : rd_T66 l (i : Int) = l[i] := by
  show l.getD i z66 = _
  rw [List.getD_eq_getElem?_getD, List.getElem?_eq_getElem h]
  rfl
theorem rd_T39_nat {l : List S39} {i : Nat} (h : i < l.length) : rd_T39 l (i : Int) = l[i] := by
  show l.getD i z39 = _
  rw [List.getD_eq_getElem?_getD, List.getElem?_eq_getElem h]
  rfl
end Go.Proofs.Ytjknpmibdkoklaa.Q
