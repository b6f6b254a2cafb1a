/- Functions of the given program as Lean functions, each with its contract, and what they answer; words for it. No condition but those of each. -/
import Derived.Test.YtjknpmibdkoklaaMI9
import Derived.Test.YtjknpmibdkoklaaMI6
import Derived.Test.YtjknpmibdkoklaaMI3
import Derived.Test.YtjknpmibdkoklaaMI5
import Derived.Test.YtjknpmibdkoklaaMI10
import Derived.Test.YtjknpmibdkoklaaMI12
set_option maxRecDepth 100000
namespace Go.Proofs.Ytjknpmibdkoklaa.G
open Go.RowKit Go.Proofs.YtjknpmibdkoklaaW.PrintWords Go.Proofs.YtjknpmibdkoklaaW.PrintLast Go.Proofs.YtjknpmibdkoklaaW.PrintMore
theorem fixed4 : tabardlaw04_fixed.f = some true := by decide +kernel
theorem same4_loop (a b : List ByteArray) (hab : a.length = b.length) (hl : a.length < 4611686018427387904) : ∀ (n i : Nat), i ≤ a.length → a.length - i = n → Ev (fun k => tabardlaw04_same.l0 k a b (a.length : Int) (i : Int)) (decide (a.drop i = b.drop i))
  | 0, i, hi, hn => by
    rw [List.drop_of_length_le (by omega), List.drop_of_length_le (by omega)]
    exact Ev.step (f := fun _ => some true) (fun k => by
      show tabardlaw04_same.l0 (k + 1) a b (a.length : Int) (i : Int) = _
      rw [tabardlaw04_same.l0, if_neg (by omega)]) (Ev.now _)
  | n + 1, i, hi, hn => by
    have hlt : i < a.length := by omega
    have ih := same4_loop a b hab hl n (i + 1) (by omega) (by omega)
    have hw : wrap64 ((i : Int) + 1) = ((i + 1 : Nat) : Int) := by unfold wrap64; omega
    rw [List.drop_eq_getElem_cons hlt, List.drop_eq_getElem_cons (show i < b.length by omega)]
    by_cases h : a[i] = b[i]
    · refine Ev.step (f := fun k => tabardlaw04_same.l0 k a b (a.length : Int) ((i + 1 : Nat) : Int)) (fun k => ?_) ?_
      · show tabardlaw04_same.l0 (k + 1) a b (a.length : Int) (i : Int) = _
        rw [tabardlaw04_same.l0, if_pos (by omega), if_pos (by omega), if_pos (by omega), if_pos (by omega), rd_nat hlt, rd_nat (show i < b.length by omega), if_pos (by rw [h]), hw]
      · rw [h, show decide (b[i] :: a.drop (i + 1) = b[i] :: b.drop (i + 1)) = decide (a.drop (i + 1) = b.drop (i + 1)) from decide_eq_decide.2 ⟨fun e => (List.cons.inj e).2, fun e => by rw [e]⟩]
        exact ih
    · refine Ev.step (f := fun _ => some false) (fun k => ?_) ?_
      · show tabardlaw04_same.l0 (k + 1) a b (a.length : Int) (i : Int) = _
        rw [tabardlaw04_same.l0, if_pos (by omega), if_pos (by omega), if_pos (by omega), if_pos (by omega), rd_nat hlt, rd_nat (show i < b.length by omega), if_neg (fun e => h (bl_inj (by rw [← bl_eq, ← bl_eq, e])))]
      · rw [decide_eq_false (fun e => h (List.cons.inj e).1)]
        exact Ev.now _
theorem same4_ev (a b : List ByteArray) (hl : a.length < 4611686018427387904) : Ev (fun k => tabardlaw04_same.f k a b) (decide (a = b)) := by
  unfold tabardlaw04_same.f
  by_cases h : a.length = b.length
  · refine Ev.congr (fun k => if_pos (by omega)) ?_
    exact same4_loop a b h hl _ 0 (Nat.zero_le _) rfl
  · refine Ev.congr (fun k => if_neg (by omega)) ?_
    rw [decide_eq_false (fun e => h (by rw [e]))]
    exact Ev.now _
theorem idxFrom_neg (s : ByteArray) : ∀ (l : List ByteArray) (i : Int), 0 ≤ i → (idxFrom s i l < 0 ↔ s ∉ l)
  | [], i, h => by simp [idxFrom]
  | x :: l, i, h => by
    unfold idxFrom
    by_cases e : x = s
    · rw [if_pos e]
      subst e
      simp
      omega
    · rw [if_neg e, idxFrom_neg s l (i + 1) (by omega), List.mem_cons]
      constructor
      · rintro h1 (h2 | h2)
        · exact e h2.symm
        · exact h1 h2
      · exact fun h1 h2 => h1 (.inr h2)
def sortedA (a : List ByteArray) : List ByteArray × Int := if a.any (fun x => !nameB x) = true then ([], 6) else if risesB none (sortedS a) = true then (sortedS a, 0) else ([], 5)
theorem sorted_ev (a : List ByteArray) (ha : a.length ≤ 2000000) : Ev (fun k => glyph_Sorted.f k a) (sortedA a) := by
  unfold glyph_Sorted.f sortedA slices_Clone_string_string.f slices_Sort_string_string.f
  refine Ev.congr (fun k => if_pos (by omega)) ?_
  by_cases h1 : a.any (fun x => !nameB x) = true
  · refine Ev.congr (fun k => if_pos h1) ?_
    rw [if_pos h1]
    exact Ev.now _
  · refine Ev.congr (fun k => if_neg h1) ?_
    rw [if_neg h1]
    refine Ev.congr (f := fun k => (glyph_Rises.f k (sortedS a)).bind fun t3 => if t3 = true then some (sortedS a, 0) else some (([] : List ByteArray), 5)) (fun k => by rw [if_pos (by omega), Option.bind_some, if_pos (by omega), Option.bind_some]) ?_
    refine Ev.bind (rises_ev (sortedS a) (by rw [sortedS_length]; omega)) ?_
    by_cases h2 : risesB none (sortedS a) = true
    · refine Ev.congr (fun k => if_pos h2) ?_
      rw [if_pos h2]
      exact Ev.now _
    · refine Ev.congr (fun k => if_neg h2) ?_
      rw [if_neg h2]
      exact Ev.now _
theorem compact_all (zs : List (List UInt8)) : (Lib.compact zs).length = zs.length → Lib.compact zs = zs := by
  refine snoc_ind (P := fun zs => (Lib.compact zs).length = zs.length → Lib.compact zs = zs) (fun h => List.eq_nil_of_length_eq_zero h) (fun l x ih h => ?_) zs
  rw [compact_snoc, List.length_append, List.length_append, List.length_singleton] at h
  have hle := compact_le l
  rw [compact_snoc]
  split at h
  · rw [List.length_nil] at h; omega
  · rename_i hn
    rw [if_neg hn, ih (by rw [List.length_singleton] at h; omega)]
theorem canon_all {l : List ByteArray} (h : (canon l).length = l.length) : canon l = sortedS l := by
  unfold canon compactS at h ⊢
  rw [List.length_map] at h
  rw [compact_all _ (by rw [h, List.length_map, sortedS_length]), List.map_map]
  exact (congrArg (fun q => List.map q (sortedS l)) (funext fun s => lb_bl s)).trans (List.map_id _)
theorem same4_refl (a : List ByteArray) (ha : a.length ≤ 4000000) : Ev (fun k => tabardlaw04_same.f k a a) true := by
  have h := same4_ev a a (by omega)
  rwa [decide_eq_true rfl] at h
theorem unionA_length (a b : List ByteArray) : (unionA a b).1.length ≤ a.length + b.length := by
  unfold unionA
  split
  · split
    · have := canon_length (a ++ b); rwa [List.length_append] at this
    · exact Nat.zero_le _
  · exact Nat.zero_le _
end Go.Proofs.Ytjknpmibdkoklaa.G
