/- Functions of the given program as Lean functions, each with its contract, and what they answer; words for it. No condition but those of each. -/
import Derived.Test.YtoopddhkjhpbnaaDoorMB5
import Derived.Test.YtoopddhkjhpbnaaDoorMB6
import Derived.Test.YtoopddhkjhpbnaaDoorMB2
import Derived.Test.YtoopddhkjhpbnaaDoorMB8
import Derived.Test.YtoopddhkjhpbnaaDoorMB9
set_option maxRecDepth 100000
namespace Go.Proofs.YtoopddhkjhpbnaaDoor.Q
open Go.RowKit Go.Proofs.YtoopddhkjhpbnaaDoorW.PrintWords Go.Proofs.YtoopddhkjhpbnaaDoorW.PrintLast Go.Proofs.YtoopddhkjhpbnaaDoorW.PrintMore
theorem fixed4 : tabardlaw04_fixed.f = some true := by decide +kernel
end Go.Proofs.YtoopddhkjhpbnaaDoor.Q
set_option maxRecDepth 100000
namespace Go.Proofs.YtoopddhkjhpbnaaDoor.Q
open Go.RowKit Go.Proofs.YtoopddhkjhpbnaaDoorW.PrintWords Go.Proofs.YtoopddhkjhpbnaaDoorW.PrintLast Go.Proofs.YtoopddhkjhpbnaaDoorW.PrintMore
theorem get_list (t : ByteArray) (j : Nat) : t.get! j = t.data.toList.getD j default := by
  rcases t with ⟨a⟩
  show a[j]! = _
  rw [List.getD_eq_getElem?_getD, Array.getElem?_toList, Array.getElem!_eq_getD, Array.getD_eq_getD_getElem?]
theorem get_pre (s : ByteArray) (m j : Nat) (hm : m ≤ s.size) : (s.extract 0 m).get! j = if j < m then s.get! j else default := by
  have e2 : (s.extract 0 m).data.toList = s.data.toList.take m := by
    rcases s with ⟨a⟩
    simp only [ByteArray.extract, ByteArray.copySlice]
    simp
  rw [get_list, get_list, e2, List.getD_eq_getElem?_getD, List.getElem?_take]
  split
  · rw [List.getD_eq_getElem?_getD]
  · rfl
set_option maxHeartbeats 4000000 in
theorem decodeN_cut {n m b0 b1 b2 b3 : Nat} (h1 : 1 ≤ m) (hm : m ≤ n) (hw : (Lib.decodeN n b0 b1 b2 b3).2 ≤ m) : Lib.decodeN m b0 (if 1 < m then b1 else 0) (if 2 < m then b2 else 0) (if 3 < m then b3 else 0) = Lib.decodeN n b0 b1 b2 b3 := by
  unfold Lib.decodeN at hw ⊢
  by_cases c1 : 1 < m
  · have d1 : 1 < n := by omega
    by_cases c2 : 2 < m
    · have d2 : 2 < n := by omega
      by_cases c3 : 3 < m
      · have d3 : 3 < n := by omega
        simp only [c1, c2, c3, d1, d2, d3, if_true, true_and]
      · simp only [c1, c2, c3, d1, d2, if_true, if_false, true_and, false_and, and_false] at hw ⊢
        (repeat' split at hw) <;> (repeat' split) <;> first | rfl | (simp only at hw; omega) | (exfalso; omega)
    · simp only [c1, c2, d1, if_true, if_false, true_and, false_and, and_false] at hw ⊢
      (repeat' split at hw) <;> (repeat' split) <;> first | rfl | (simp only at hw; omega) | (exfalso; omega)
  · simp only [c1, if_false, false_and, and_false] at hw ⊢
    (repeat' split at hw) <;> (repeat' split) <;> first | rfl | (simp only at hw; omega) | (exfalso; omega)
theorem decodeN_le {n b0 b1 b2 b3 : Nat} (h : 1 ≤ n) : (Lib.decodeN n b0 b1 b2 b3).2 ≤ n := by
  unfold Lib.decodeN
  repeat' split
  all_goals simp only
  all_goals omega
theorem decode_le (s : ByteArray) (p : Nat) (h : p < s.size) : p + (Utf8.decode s p).2 ≤ s.size := by
  rw [Lib.decode_at]
  have := decodeN_le (n := s.size - p) (b0 := (s.get! p).toNat) (b1 := (s.get! (p + 1)).toNat) (b2 := (s.get! (p + 2)).toNat) (b3 := (s.get! (p + 3)).toNat) (by omega)
  omega
theorem decode_pre (s : ByteArray) (m p : Nat) (hm : m ≤ s.size) (hp : p + (Utf8.decode s p).2 ≤ m) (h : p < m) : Utf8.decode (s.extract 0 m) p = Utf8.decode s p := by
  have hsz : (s.extract 0 m).size = m := by simp [ByteArray.size_extract]; omega
  rw [Lib.decode_at] at hp ⊢
  rw [Lib.decode_at, hsz, get_pre s m _ hm, get_pre s m _ hm, get_pre s m _ hm, get_pre s m _ hm, if_pos h]
  have hz : ∀ (c : Prop) [Decidable c] (x : UInt8), (if c then x else default).toNat = if c then x.toNat else 0 := fun c _ x => by split <;> rfl
  rw [hz, hz, hz, ← decodeN_cut (n := s.size - p) (m := m - p) (by omega) (by omega) (by omega)]
  have e1 : (p + 1 < m) = (1 < m - p) := propext ⟨fun h => by omega, fun h => by omega⟩
  have e2 : (p + 2 < m) = (2 < m - p) := propext ⟨fun h => by omega, fun h => by omega⟩
  have e3 : (p + 3 < m) = (3 < m - p) := propext ⟨fun h => by omega, fun h => by omega⟩
  simp only [e1, e2, e3]
inductive Runs (s : ByteArray) : Nat → Int → Prop
  | here : Runs s 0 0
  | step {p : Nat} {n : Int} (h : p < s.size) (r : Runs s p n) : Runs s (p + (Utf8.decode s p).2) (wrap64 (n + 1))
theorem Runs.le {s : ByteArray} {p : Nat} {n : Int} (h : Runs s p n) : p ≤ s.size := by
  cases h with
  | here => exact Nat.zero_le _
  | step h r => exact decode_le s _ h
theorem Runs.chars {s : ByteArray} {m : Nat} (hm : m ≤ s.size) {p : Nat} {n : Int} (h : Runs s p n) (hp : p ≤ m) : charsGo (s.extract 0 m) 0 0 = charsGo (s.extract 0 m) p n := by
  induction h with
  | here => rfl
  | @step p n h r ih =>
    have h1 := decode_pos s p h
    have hsz : (s.extract 0 m).size = m := by simp [ByteArray.size_extract]; omega
    rw [ih (by omega)]
    conv => lhs; rw [charsGo, dif_pos (by omega), decode_pre s m p hm hp (by omega)]
theorem Runs.count {s : ByteArray} {p : Nat} {n : Int} (h : Runs s p n) : charsGo (s.extract 0 p) 0 0 = n := by
  have hsz : (s.extract 0 p).size = p := by have := h.le; simp [ByteArray.size_extract]; omega
  rw [h.chars h.le (Nat.le_refl _), charsGo, dif_neg (by omega)]
set_option maxHeartbeats 4000000 in
theorem decodeN_bad {n b0 b1 b2 b3 : Nat} (l0 : b0 < 256) (h : (Lib.decodeN n b0 b1 b2 b3).1 = 65533) : (Lib.decodeN n b0 b1 b2 b3).2 ≤ 1 ↔ ¬ (2 < n ∧ b0 = 239 ∧ b1 = 191 ∧ b2 = 189) := by
  generalize hr : Lib.decodeN n b0 b1 b2 b3 = r at h ⊢
  unfold Lib.decodeN at hr
  (repeat' split at hr) <;> subst hr <;> simp only at h ⊢ <;> (constructor <;> intro _ <;> omega)
theorem goodGo_le (s : ByteArray) : ∀ (d pos : Nat), s.size - pos ≤ d → pos ≤ s.size → pos ≤ goodGo s pos ∧ goodGo s pos ≤ s.size := by
  intro d
  induction d with
  | zero =>
    intro pos hd hp
    rw [goodGo, dif_neg (by omega)]
    omega
  | succ d ih =>
    intro pos hd hp
    rw [goodGo]
    by_cases h : pos < s.size
    · rw [dif_pos h]
      split
      · omega
      · have := ih (pos + (Utf8.decode s pos).2) (by have := decode_pos s pos h; omega) (decode_le s pos h)
        omega
    · rw [dif_neg h]
      omega
theorem Runs.pos {s : ByteArray} (hs : s.size ≤ 140737488351232) {p : Nat} {n : Int} (h : Runs s p n) : 0 ≤ n ∧ n ≤ p ∧ (0 < p → 0 < n) := by
  induction h with
  | here => omega
  | @step p n h r ih =>
    have h1 := decode_pos s p h
    rw [w64 (by omega) (by omega)]
    omega
def Good3 (s : ByteArray) (pos : Nat) (g : Int) : Prop := g ≤ s.size ∧ (g ≤ (goodGo s pos : Nat) ∧ g = (goodGo s 0 : Nat) ∨ ((goodGo s pos : Nat) : Int) ≤ g ∧ goodGo s pos = goodGo s 0)
theorem Good3.start (s : ByteArray) : Good3 s 0 (s.size : Int) := ⟨by omega, Or.inr ⟨by have := (goodGo_le s s.size 0 (by omega) (by omega)).2; omega, rfl⟩⟩
theorem Good3.bad {s : ByteArray} {pos : Nat} {g : Int} (h : pos < s.size) (hb : (Utf8.decode s pos).1 = 65533 ∧ (Utf8.decode s pos).2 ≤ 1) (H : Good3 s pos g) (v : Int) (hv : v = g ∧ g ≤ pos ∨ v = pos ∧ (pos : Int) ≤ g) : Good3 s (pos + (Utf8.decode s pos).2) v := by
  have e : goodGo s pos = pos := by rw [goodGo, dif_pos h, if_pos hb]
  have l := goodGo_le s s.size (pos + (Utf8.decode s pos).2) (by omega) (decode_le s pos h)
  obtain ⟨a, b⟩ := H
  rw [e] at b
  exact ⟨by omega, Or.inl (by omega)⟩
theorem Good3.ok {s : ByteArray} {pos : Nat} {g : Int} (h : pos < s.size) (hb : ¬ ((Utf8.decode s pos).1 = 65533 ∧ (Utf8.decode s pos).2 ≤ 1)) (H : Good3 s pos g) : Good3 s (pos + (Utf8.decode s pos).2) g := by
  have e : goodGo s pos = goodGo s (pos + (Utf8.decode s pos).2) := by conv => lhs; rw [goodGo, dif_pos h, if_neg hb]
  unfold Good3 at H ⊢
  rw [← e]
  exact H
theorem Good3.last {s : ByteArray} {pos : Nat} {g : Int} (h : ¬ pos < s.size) (H : Good3 s pos g) : ((goodGo s 0 : Nat) : Int) = g := by
  have e : goodGo s pos = s.size := by rw [goodGo, dif_neg h]
  obtain ⟨a, b⟩ := H
  rw [e] at b
  omega
def Name3 (s : ByteArray) (pos : Nat) (n : Int) (b : Bool) : Prop := if b = true then nameGo s pos n = nameGo s 0 0 else nameB s = false
theorem Name3.step {s : ByteArray} {pos : Nat} {n : Int} {b : Bool} (hs : s.size ≤ 140737488351232) (h : pos < s.size) (r : Runs s pos n) (H : Name3 s pos n b) : Name3 s (pos + (Utf8.decode s pos).2) (wrap64 (n + 1)) (b && restB ((Utf8.decode s pos).1 : Nat) && (decide (n > 0) || startB ((Utf8.decode s pos).1 : Nat))) := by
  unfold Name3 at H ⊢
  cases b with
  | false => exact H
  | true =>
    rw [if_pos rfl] at H
    have hq := r.pos hs
    have e : (decide (n > 0)) = !(pos == 0) := by
      by_cases h0 : pos = 0
      · subst h0
        rw [decide_eq_false (by omega)]
        rfl
      · rw [decide_eq_true (by omega), beq_eq_false_iff_ne.2 h0]
        rfl
    rw [e]
    by_cases hb : ((pos == 0 && !startB ((Utf8.decode s pos).1 : Nat)) || !restB ((Utf8.decode s pos).1 : Nat)) = true
    · rw [if_neg (by revert hb; cases (pos == 0) <;> cases startB ((Utf8.decode s pos).1 : Nat) <;> cases restB ((Utf8.decode s pos).1 : Nat) <;> decide)]
      exact name_bad h H hb
    · rw [Bool.not_eq_true] at hb
      rw [if_pos (by revert hb; cases (pos == 0) <;> cases startB ((Utf8.decode s pos).1 : Nat) <;> cases restB ((Utf8.decode s pos).1 : Nat) <;> decide)]
      exact name_go h H hb
theorem Name3.last {s : ByteArray} {pos : Nat} {n : Int} {b : Bool} (h : ¬ pos < s.size) (H : Name3 s pos n b) : nameB s = (b && decide (n > 0) && decide (n ≤ 16) && !reservedB s) := by
  unfold Name3 at H
  cases b with
  | false => exact H
  | true => exact name_val (name_end h H)
theorem at_ok {s : ByteArray} {pos : Nat} {n : Int} (r : Runs s pos n) : glyph_At.f s (pos : Int) = some ((pos : Int), n, 0) := by
  unfold glyph_At.f
  rw [if_pos ⟨by omega, by have := r.le; omega⟩, Int.toNat_natCast, r.count]
theorem bad_iff {s : ByteArray} {pos : Nat} (h1 : (Utf8.decode s pos).1 = 65533) : (Utf8.decode s pos).2 ≤ 1 ↔ ¬ (2 < s.size - pos ∧ (s.get! pos).toNat = 239 ∧ (s.get! (pos + 1)).toNat = 191 ∧ (s.get! (pos + 2)).toNat = 189) := by
  rw [Lib.decode_at] at h1 ⊢
  exact decodeN_bad (s.get! pos).toNat_lt h1
theorem cut3_list (s : ByteArray) (p : Nat) (h : p + 3 ≤ s.size) : (s.extract p (p + 3)).toList = [s.get! p, s.get! (p + 1), s.get! (p + 2)] := by
  have e2 : (s.extract p (p + 3)).data.toList = (s.data.toList.drop p).take 3 := by
    rcases s with ⟨a⟩
    simp [ByteArray.extract, ByteArray.copySlice]
  have hl : s.data.toList.length = s.size := by rcases s with ⟨a⟩; simp [ByteArray.size]
  rw [ByteArray.toList_eq, e2, get_list, get_list, get_list]
  rw [List.drop_eq_getElem_cons (by omega), List.drop_eq_getElem_cons (by omega), List.drop_eq_getElem_cons (by omega)]
  simp only [List.take_succ_cons, List.take_zero, List.getD_eq_getElem?_getD]
  rw [List.getElem?_eq_getElem (by omega), List.getElem?_eq_getElem (by omega), List.getElem?_eq_getElem (by omega)]
  rfl
theorem cut3 {s : ByteArray} {p : Nat} (h : p + 3 ≤ s.size) : (s.extract p (p + 3)).toList = [239, 191, 189] ↔ ((s.get! p).toNat = 239 ∧ (s.get! (p + 1)).toNat = 191 ∧ (s.get! (p + 2)).toNat = 189) := by
  rw [cut3_list s p h]
  have e : ∀ (x y : UInt8), x = y ↔ x.toNat = y.toNat := fun x y => UInt8.toNat_inj.symm
  simp only [List.cons.injEq, and_true, e]
  exact Iff.rfl
theorem iterPos_of {w : World} {k : Nat} {s : ByteArray} {p : Nat} (h : w.heap[k]? = some (.stringIter s p)) : w.iterPos k = p := by simp [World.iterPos, h]
end Go.Proofs.YtoopddhkjhpbnaaDoor.Q
