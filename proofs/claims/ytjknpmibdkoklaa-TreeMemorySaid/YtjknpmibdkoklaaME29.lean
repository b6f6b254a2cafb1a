/- Functions of the given program as Lean functions, each with its contract, and what they answer; words for it. No condition but those of each. -/
import Derived.Test.YtjknpmibdkoklaaME26
import Derived.Test.YtjknpmibdkoklaaME28
set_option maxRecDepth 100000
namespace Go.Proofs.Ytjknpmibdkoklaa.Q
open Go.RowKit Go.Proofs.YtjknpmibdkoklaaW.PrintWords Go.Proofs.YtjknpmibdkoklaaW.PrintLast Go.Proofs.YtjknpmibdkoklaaW.PrintMore
theorem rdOf_app {l : List ByteArray} {n : Nat} (h : n = l.length) (x : ByteArray) (m : List ByteArray) : rdOf ByteArray.empty (l ++ x :: m) (n : Int) = x := by
  subst h
  rw [rdOf_nat, List.getD_eq_getElem?_getD, List.getElem?_append_right (Nat.le_refl _), Nat.sub_self]
  rfl
theorem mem_end (t : S39) (x3 : List ByteArray) (hx : x3.length = (freeA t).1.length) (i : Nat) (hi : i = (freeA t).1.length) :
    Ev (fun k => tabardlaw06_TreeMemory.l0 k x3 (freeA t).2 (freeA t).1 (freeA t).2 ([] ++ (freeA t).1) ((freeA t).1.length : Int) (i : Int) t.f0 t.f1 t.f2 t.f3 t.f4) true := by
  have hL := freeA_len t
  have hFree := Free_ev t
  generalize freeA t = A at *
  obtain ⟨L, E⟩ := A
  simp only at hx hi hL hFree ⊢
  refine Ev.step (f := fun k => (tree_Free.f k t.f0 t.f1 t.f2 t.f3 t.f4).bind fun b => (if E = b.2 then ((tabardlaw06_same.f k L ([] ++ L)).bind fun x => (if x = true then ((tabardlaw06_same.f k b.1 ([] ++ L)).bind fun y => (if y = true then some true else some false)) else some false)) else some false)) (fun k => ?_) ?_
  · show tabardlaw06_TreeMemory.l0 (k + 1) _ _ _ _ _ _ _ _ _ _ _ _ = _
    simp only [tabardlaw06_TreeMemory.l0]
    rw [if_neg (by omega)]
    simp only [Option.bind_some, List.length_cons, List.length_nil]
    rw [if_pos (by omega), if_pos (by omega)]
    refine congrArg _ (funext fun b => ?_)
    rw [if_pos trivial]
    have tail : (if 0 ≤ (x3.length : Int) then (if (x3.length : Int) < ((x3 ++ [(⟨#[49]⟩ : ByteArray), (⟨#[50]⟩ : ByteArray)]).length : Int) then (if (rdOf ByteArray.empty (x3 ++ [(⟨#[49]⟩ : ByteArray), (⟨#[50]⟩ : ByteArray)]) (x3.length : Int)).toList = ([49] : List UInt8) then (if (x3.length : Int) < ((L ++ [(⟨#[51]⟩ : ByteArray), (⟨#[52]⟩ : ByteArray)]).length : Int) then (if (rdOf ByteArray.empty (L ++ [(⟨#[51]⟩ : ByteArray), (⟨#[52]⟩ : ByteArray)]) (x3.length : Int)).toList = ([51] : List UInt8) then (if 0 ≤ (wrap64 ((x3.length : Int) + 1)) then (if (wrap64 ((x3.length : Int) + 1)) < ((L ++ [(⟨#[51]⟩ : ByteArray), (⟨#[52]⟩ : ByteArray)]).length : Int) then (some ((rdOf ByteArray.empty (L ++ [(⟨#[51]⟩ : ByteArray), (⟨#[52]⟩ : ByteArray)]) (wrap64 ((x3.length : Int) + 1))).toList == ([52] : List UInt8))) else (none)) else (none)) else (some false)) else (none)) else (some false)) else (none)) else (none)) = some true := by
      have e1 : rdOf ByteArray.empty (x3 ++ [(⟨#[49]⟩ : ByteArray), (⟨#[50]⟩ : ByteArray)]) (x3.length : Int) = ⟨#[49]⟩ := rdOf_app rfl _ _
      have e2 : rdOf ByteArray.empty (L ++ [(⟨#[51]⟩ : ByteArray), (⟨#[52]⟩ : ByteArray)]) (x3.length : Int) = ⟨#[51]⟩ := rdOf_app hx _ _
      have ew : wrap64 ((x3.length : Int) + 1) = ((x3.length + 1 : Nat) : Int) := wrap_add (n := x3.length + 1) (by omega) (by omega)
      have e3 : rdOf ByteArray.empty (L ++ [(⟨#[51]⟩ : ByteArray), (⟨#[52]⟩ : ByteArray)]) ((x3.length + 1 : Nat) : Int) = ⟨#[52]⟩ := by
        have := rdOf_app (l := L ++ [(⟨#[51]⟩ : ByteArray)]) (n := x3.length + 1) (by simp [hx]) (⟨#[52]⟩ : ByteArray) []
        rw [List.append_assoc] at this
        exact this
      rw [e1, e2, ew, e3]
      rw [if_pos (by omega), if_pos (by rw [List.length_append]; simp only [List.length_cons, List.length_nil]; omega), if_pos (by decide +kernel), if_pos (by simp; omega), if_pos (by decide +kernel), if_pos (by omega), if_pos (by simp; omega)]
      exact congrArg some (by decide +kernel)
    by_cases hb : E = b.2
    · rw [if_pos hb, if_pos hb]
      refine congrArg _ (funext fun x => ?_)
      by_cases hx1 : x = true
      · rw [if_pos hx1, if_pos hx1]
        refine congrArg _ (funext fun y => ?_)
        by_cases hy : y = true
        · rw [if_pos hy, if_pos hy]; exact tail
        · rw [if_neg hy, if_neg hy]
      · rw [if_neg hx1, if_neg hx1]
    · rw [if_neg hb, if_neg hb]
  · refine Ev.bind hFree ?_
    refine Ev.congr (fun k => if_pos rfl) ?_
    rw [List.nil_append]
    refine Ev.bind (same_ev L (by omega)) (Ev.congr (fun k => if_pos rfl) ?_)
    exact Ev.bind (same_ev L (by omega)) (Ev.congr (fun k => if_pos rfl) (Ev.now _))
theorem mem_loop (t : S39) : ∀ (n i : Nat) (x3 : List ByteArray), x3.length = (freeA t).1.length → i ≤ (freeA t).1.length → (freeA t).1.length - i = n →
    Ev (fun k => tabardlaw06_TreeMemory.l0 k x3 (freeA t).2 (freeA t).1 (freeA t).2 ([] ++ (freeA t).1) ((freeA t).1.length : Int) (i : Int) t.f0 t.f1 t.f2 t.f3 t.f4) true
  | 0, i, x3, hx, hi, hn => mem_end t x3 hx i (by omega)
  | n + 1, i, x3, hx, hi, hn => by
    have hL := freeA_len t
    refine Ev.step (f := fun k => tabardlaw06_TreeMemory.l0 k (x3.set i (⟨#[115, 112, 111, 105, 108, 116]⟩ : ByteArray)) (freeA t).2 (freeA t).1 (freeA t).2 ([] ++ (freeA t).1) ((freeA t).1.length : Int) ((i + 1 : Nat) : Int) t.f0 t.f1 t.f2 t.f3 t.f4) (fun k => ?_) (mem_loop t n (i + 1) _ (by simpa using hx) (by omega) (by omega))
    show tabardlaw06_TreeMemory.l0 (k + 1) _ _ _ _ _ _ _ _ _ _ _ _ = _
    conv => lhs; unfold tabardlaw06_TreeMemory.l0
    rw [if_pos (by omega), if_pos (by omega), if_pos (by omega), wrap_add (show i < (freeA t).1.length by omega) (by omega)]
    rfl
theorem TreeMemory_ev {t : S39} (_hF : FitF t) : Ev (fun k => tabardlaw06_TreeMemory.f k t.f0 t.f1 t.f2 t.f3 t.f4) true := by
  have hL := freeA_len t
  refine Ev.bind fixed_ev (Ev.congr (fun k => if_pos rfl) (Ev.bind (Free_ev t) (Ev.bind (Free_ev t) ?_)))
  refine Ev.congr (f := fun k => tabardlaw06_TreeMemory.l0 k (freeA t).1 (freeA t).2 (freeA t).1 (freeA t).2 ([] ++ (freeA t).1) ((freeA t).1.length : Int) ((0 : Nat) : Int) t.f0 t.f1 t.f2 t.f3 t.f4) (fun k => ?_) (mem_loop t _ 0 _ rfl (Nat.zero_le _) rfl)
  rw [Option.bind_some, if_pos (by simp only [List.length_nil]; omega)]
  rfl
end Go.Proofs.Ytjknpmibdkoklaa.Q
