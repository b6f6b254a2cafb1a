/- Functions of the given program as Lean functions, each with its contract, and what they answer; words for it. No condition but those of each. -/
import Derived.Test.YtjknpmibdkoklaaMJ19
import Derived.Test.YtjknpmibdkoklaaMJ21
import Derived.Test.YtjknpmibdkoklaaMJ22
import Derived.Test.YtjknpmibdkoklaaMJ10
import Derived.Test.YtjknpmibdkoklaaMJ23
import Derived.Test.YtjknpmibdkoklaaMJ24
import Derived.Test.YtjknpmibdkoklaaMJ26
import Derived.Test.YtjknpmibdkoklaaMJ4
import Derived.Test.YtjknpmibdkoklaaMJ18
set_option maxRecDepth 100000
namespace Go.Proofs.Ytjknpmibdkoklaa.G
open Go.RowKit Go.Proofs.YtjknpmibdkoklaaW.PrintWords Go.Proofs.YtjknpmibdkoklaaW.PrintLast Go.Proofs.YtjknpmibdkoklaaW.PrintMore
theorem fixed4 : tabardlaw04_fixed.f = some true := by decide +kernel
theorem same4_loop (a b : List ByteArray) (hab : a.length = b.length) (hl : a.length < 4611686018427387904) : ∀ (n i : Nat), i ≤ a.length → a.length - i = n → Ev (fun k => tabardlaw04_same.l0 k a b (a.length : Int) (i : Int)) (decide (a.drop i = b.drop i))
  | 0, i, hi, hn => by
    rw [List.drop_of_length_le (by omega), List.drop_of_length_le (by omega)]
    exact Ev.step (f := fun _ => some true) (fun k => by
      show tabardlaw04_same.l0 (k + 1) a b (a.length : Int) (i : Int) = _
      rw [tabardlaw04_same.l0, if_neg (by omega)]) (Ev.now _)
  | n + 1, i, hi, hn => by
    have hlt : i < a.length := by omega
    have ih := same4_loop a b hab hl n (i + 1) (by omega) (by omega)
    have hw : wrap64 ((i : Int) + 1) = ((i + 1 : Nat) : Int) := by unfold wrap64; omega
    rw [List.drop_eq_getElem_cons hlt, List.drop_eq_getElem_cons (show i < b.length by omega)]
    by_cases h : a[i] = b[i]
    · refine Ev.step (f := fun k => tabardlaw04_same.l0 k a b (a.length : Int) ((i + 1 : Nat) : Int)) (fun k => ?_) ?_
      · show tabardlaw04_same.l0 (k + 1) a b (a.length : Int) (i : Int) = _
        rw [tabardlaw04_same.l0, if_pos (by omega), if_pos (by omega), if_pos (by omega), if_pos (by omega), rd_nat hlt, rd_nat (show i < b.length by omega), if_pos (by rw [h]), hw]
      · rw [h, show decide (b[i] :: a.drop (i + 1) = b[i] :: b.drop (i + 1)) = decide (a.drop (i + 1) = b.drop (i + 1)) from decide_eq_decide.2 ⟨fun e => (List.cons.inj e).2, fun e => by rw [e]⟩]
        exact ih
    · refine Ev.step (f := fun _ => some false) (fun k => ?_) ?_
      · show tabardlaw04_same.l0 (k + 1) a b (a.length : Int) (i : Int) = _
        rw [tabardlaw04_same.l0, if_pos (by omega), if_pos (by omega), if_pos (by omega), if_pos (by omega), rd_nat hlt, rd_nat (show i < b.length by omega), if_neg (fun e => h (bl_inj (by rw [← bl_eq, ← bl_eq, e])))]
      · rw [decide_eq_false (fun e => h (List.cons.inj e).1)]
        exact Ev.now _
theorem same4_ev (a b : List ByteArray) (hl : a.length < 4611686018427387904) : Ev (fun k => tabardlaw04_same.f k a b) (decide (a = b)) := by
  unfold tabardlaw04_same.f
  by_cases h : a.length = b.length
  · refine Ev.congr (fun k => if_pos (by omega)) ?_
    exact same4_loop a b h hl _ 0 (Nat.zero_le _) rfl
  · refine Ev.congr (fun k => if_neg (by omega)) ?_
    rw [decide_eq_false (fun e => h (by rw [e]))]
    exact Ev.now _
theorem rrises_loop (l : List ByteArray) (hl : l.length < 4611686018427387904) (hs : ∀ s ∈ l, s.size ≤ 140737488351232) : ∀ (n i : Nat), i ≤ l.length → l.length - i = n → Ev (fun k => tabardref04_Rises.l0 k l (i : Int)) (risesB (prevS l i) (l.drop i))
  | 0, i, hi, hn => by
    rw [List.drop_of_length_le (by omega)]
    exact Ev.step (f := fun _ => some true) (fun k => by
      show tabardref04_Rises.l0 (k + 1) l (i : Int) = _
      conv => lhs; unfold tabardref04_Rises.l0
      rw [if_neg (by omega)]) (Ev.now _)
  | n + 1, i, hi, hn => by
    have hlt : i < l.length := by omega
    have ih := rrises_loop l hl hs n (i + 1) (by omega) (by omega)
    rw [prevS_succ hlt] at ih
    rw [List.drop_eq_getElem_cons hlt]
    have hw : wrap64 ((i : Int) + 1) = ((i + 1 : Nat) : Int) := by unfold wrap64; omega
    have hw2 : wrap64 ((i : Int) - 1) = (i : Int) - 1 := by unfold wrap64; omega
    obtain ⟨q, hq⟩ : ∃ q : Bool, q = (match prevS l i with | none => true | some y => decide (bl y < bl l[i])) := ⟨_, rfl⟩
    have hrb : risesB (prevS l i) (l[i] :: l.drop (i + 1)) = (nameB l[i] && (q && risesB (some l[i]) (l.drop (i + 1)))) := by
      subst hq
      cases prevS l i with
      | none => rw [risesB]
      | some y => rw [risesB]
    have step : ∀ k, tabardref04_Rises.l0 (k + 1) l (i : Int) = (tabardref04_Name.f k l[i]).bind fun t => (if t = true then (if q = true then tabardref04_Rises.l0 k l ((i + 1 : Nat) : Int) else some false) else some false) := fun k => by
      conv => lhs; unfold tabardref04_Rises.l0
      rw [if_pos (by omega), if_pos (by omega), rd_nat hlt, hw]
      congr 1
      funext t
      by_cases hnm : t = true
      · rw [if_pos hnm, if_pos hnm]
        by_cases h0 : i = 0
        · subst h0
          rw [if_neg (by omega), if_pos (by rw [hq]; rfl)]
        · have hp : prevS l i = some l[i - 1] := by
            unfold prevS
            rw [if_neg h0]
            exact List.getElem?_eq_getElem (by omega)
          rw [if_pos (by omega), hw2, if_pos (by omega), if_pos (by omega), show (i : Int) - 1 = ((i - 1 : Nat) : Int) by omega, rd_nat (by omega), less_eq, show q = decide (bl l[i - 1] < bl l[i]) by rw [hq, hp]]
      · rw [if_neg hnm, if_neg hnm]
    refine Ev.step step ?_
    rw [hrb]
    refine Ev.bind (name_spec _ (hs _ (List.getElem_mem hlt))) ?_
    by_cases h1 : nameB l[i] = true
    · refine Ev.congr (fun k => if_pos h1) ?_
      rw [h1, Bool.true_and]
      by_cases h2 : q = true
      · refine Ev.congr (fun k => if_pos h2) ?_
        rw [h2, Bool.true_and]
        exact ih
      · refine Ev.congr (fun k => if_neg h2) ?_
        rw [Bool.eq_false_iff.mpr h2, Bool.false_and]
        exact Ev.now _
    · refine Ev.congr (fun k => if_neg h1) ?_
      rw [Bool.eq_false_iff.mpr h1, Bool.false_and]
      exact Ev.now _
theorem rrises_ev (l : List ByteArray) (hl : l.length < 4611686018427387904) (hs : ∀ s ∈ l, s.size ≤ 140737488351232) : Ev (fun k => tabardref04_Rises.f k l) (risesB none l) := rrises_loop l hl hs _ 0 (Nat.zero_le _) rfl
theorem rindex_loop (l : List ByteArray) (s : ByteArray) (hl : l.length < 4611686018427387904) : ∀ (n i : Nat), i ≤ l.length → l.length - i = n → Ev (fun k => tabardref04_Index.l0 k l s (i : Int)) (idxFrom s (i : Int) (l.drop i))
  | 0, i, hi, hn => by
    rw [List.drop_of_length_le (by omega)]
    exact Ev.step (f := fun _ => some (-1)) (fun k => by
      show tabardref04_Index.l0 (k + 1) l s (i : Int) = _
      rw [tabardref04_Index.l0, if_neg (by omega)]) (Ev.now _)
  | n + 1, i, hi, hn => by
    have hlt : i < l.length := by omega
    have ih := rindex_loop l s hl n (i + 1) (by omega) (by omega)
    rw [List.drop_eq_getElem_cons hlt]
    unfold idxFrom
    have hw : wrap64 ((i : Int) + 1) = ((i + 1 : Nat) : Int) := by unfold wrap64; omega
    by_cases h : l[i] = s
    · rw [if_pos h]
      refine Ev.step (f := fun _ => some (i : Int)) (fun k => ?_) (Ev.now _)
      show tabardref04_Index.l0 (k + 1) l s (i : Int) = _
      rw [tabardref04_Index.l0, if_pos (by omega), if_pos (by omega), rd_nat hlt, if_pos (by rw [h])]
    · rw [if_neg h, show (i : Int) + 1 = ((i + 1 : Nat) : Int) by omega]
      refine Ev.step (f := fun k => tabardref04_Index.l0 k l s ((i + 1 : Nat) : Int)) (fun k => ?_) ih
      show tabardref04_Index.l0 (k + 1) l s (i : Int) = _
      rw [tabardref04_Index.l0, if_pos (by omega), if_pos (by omega), rd_nat hlt, if_neg (fun e => h (bl_inj (by rw [← bl_eq, ← bl_eq, e]))), hw]
theorem rindex_ev (l : List ByteArray) (s : ByteArray) (hl : l.length < 4611686018427387904) : Ev (fun k => tabardref04_Index.f k l s) (idxFrom s 0 l) := rindex_loop l s hl _ 0 (Nat.zero_le _) rfl
theorem runion_ev (a b : List ByteArray) (ha : a.length ≤ 2000000) (hb : b.length ≤ 2000000) (sa : ∀ s ∈ a, s.size ≤ 140737488351232) (sb : ∀ s ∈ b, s.size ≤ 140737488351232) : Ev (fun k => tabardref04_Union.f k a b) (unionA a b) := by
  unfold tabardref04_Union.f unionA
  refine Ev.bind (rrises_ev a (by omega) sa) ?_
  by_cases h1 : risesB none a = true
  · refine Ev.congr (fun k => if_pos h1) (Ev.bind (rrises_ev b (by omega) sb) ?_)
    rw [if_pos h1]
    by_cases h2 : risesB none b = true
    · refine Ev.congr (fun k => if_pos h2) ?_
      rw [if_pos h2]
      refine Ev.congr (f := fun k => (tabardref04_Together.f k (a ++ b)).bind fun t => some (t, 0)) (fun k => ?_) (Ev.bind (together_ev (a ++ b) (by rw [List.length_append]; omega)) (Ev.now _))
      rw [Option.bind_some, if_pos (by simp; omega), Option.bind_some, if_pos (by simp; omega), List.nil_append]
    · refine Ev.congr (fun k => if_neg h2) ?_
      rw [if_neg h2]
      exact Ev.now _
  · refine Ev.congr (fun k => if_neg h1) ?_
    rw [if_neg h1]
    exact Ev.now _
def sortedA (a : List ByteArray) : List ByteArray × Int := if a.any (fun x => !nameB x) = true then ([], 6) else if risesB none (sortedS a) = true then (sortedS a, 0) else ([], 5)
theorem sorted_ev (a : List ByteArray) (ha : a.length ≤ 2000000) : Ev (fun k => glyph_Sorted.f k a) (sortedA a) := by
  unfold glyph_Sorted.f sortedA slices_Clone_string_string.f slices_Sort_string_string.f
  refine Ev.congr (fun k => if_pos (by omega)) ?_
  by_cases h1 : a.any (fun x => !nameB x) = true
  · refine Ev.congr (fun k => if_pos h1) ?_
    rw [if_pos h1]
    exact Ev.now _
  · refine Ev.congr (fun k => if_neg h1) ?_
    rw [if_neg h1]
    refine Ev.congr (f := fun k => (glyph_Rises.f k (sortedS a)).bind fun t3 => if t3 = true then some (sortedS a, 0) else some (([] : List ByteArray), 5)) (fun k => by rw [if_pos (by omega), Option.bind_some, if_pos (by omega), Option.bind_some]) ?_
    refine Ev.bind (rises_ev (sortedS a) (by rw [sortedS_length]; omega)) ?_
    by_cases h2 : risesB none (sortedS a) = true
    · refine Ev.congr (fun k => if_pos h2) ?_
      rw [if_pos h2]
      exact Ev.now _
    · refine Ev.congr (fun k => if_neg h2) ?_
      rw [if_neg h2]
      exact Ev.now _
theorem compact_all (zs : List (List UInt8)) : (Lib.compact zs).length = zs.length → Lib.compact zs = zs := by
  refine snoc_ind (P := fun zs => (Lib.compact zs).length = zs.length → Lib.compact zs = zs) (fun h => List.eq_nil_of_length_eq_zero h) (fun l x ih h => ?_) zs
  rw [compact_snoc, List.length_append, List.length_append, List.length_singleton] at h
  have hle := compact_le l
  rw [compact_snoc]
  split at h
  · rw [List.length_nil] at h; omega
  · rename_i hn
    rw [if_neg hn, ih (by rw [List.length_singleton] at h; omega)]
theorem canon_all {l : List ByteArray} (h : (canon l).length = l.length) : canon l = sortedS l := by
  unfold canon compactS at h ⊢
  rw [List.length_map] at h
  rw [compact_all _ (by rw [h, List.length_map, sortedS_length]), List.map_map]
  exact (congrArg (fun q => List.map q (sortedS l)) (funext fun s => lb_bl s)).trans (List.map_id _)
theorem sorted_rises {l : List ByteArray} (hn : ∀ x ∈ l, nameB x = true) : risesB none (sortedS l) = true ↔ (canon l).length = l.length := by
  rw [risesB_none]
  constructor
  · rintro ⟨_, h⟩
    rw [← rise_unique h (canon_rise l) (fun x => by rw [mem_sortedS, mem_canon]), sortedS_length]
  · intro h
    refine ⟨fun x hx => hn x (mem_sortedS.1 hx), ?_⟩
    rw [← canon_all h]
    exact canon_rise l
theorem rsorted_loop (l : List ByteArray) (hl : l.length ≤ 2000000) (hs : ∀ s ∈ l, s.size ≤ 140737488351232) : ∀ (n i : Nat), i ≤ l.length → l.length - i = n → (∀ x ∈ l.take i, nameB x = true) → Ev (fun k => tabardref04_Sorted.l0 k l (i : Int)) (sortedA l)
  | 0, i, hi, hn, hp => by
    rw [show i = l.length by omega, List.take_length] at hp
    refine Ev.step (f := fun k => (tabardref04_Together.f k l).bind fun t => if (t.length : Int) = (l.length : Int) then some (t, 0) else some (([] : List ByteArray), 5)) (fun k => ?_) ?_
    · show tabardref04_Sorted.l0 (k + 1) l (i : Int) = _
      rw [tabardref04_Sorted.l0, if_neg (by omega)]
    · refine Ev.bind (together_ev l (by omega)) ?_
      have hany : ¬ (l.any (fun x => !nameB x) = true) := fun e => by
        obtain ⟨x, hx, hx2⟩ := List.any_eq_true.1 e
        rw [hp x hx] at hx2
        cases hx2
      unfold sortedA
      rw [if_neg hany]
      by_cases h : (canon l).length = l.length
      · refine Ev.congr (fun k => if_pos (by omega)) ?_
        rw [if_pos ((sorted_rises hp).2 h), canon_all h]
        exact Ev.now _
      · refine Ev.congr (fun k => if_neg (by omega)) ?_
        rw [if_neg (fun e => h ((sorted_rises hp).1 e))]
        exact Ev.now _
  | n + 1, i, hi, hn, hp => by
    have hlt : i < l.length := by omega
    have hw : wrap64 ((i : Int) + 1) = ((i + 1 : Nat) : Int) := by unfold wrap64; omega
    refine Ev.step (f := fun k => (tabardref04_Name.f k l[i]).bind fun t => if t = true then tabardref04_Sorted.l0 k l ((i + 1 : Nat) : Int) else some (([] : List ByteArray), 6)) (fun k => ?_) ?_
    · show tabardref04_Sorted.l0 (k + 1) l (i : Int) = _
      rw [tabardref04_Sorted.l0, if_pos (by omega), if_pos (by omega), rd_nat hlt, hw]
    · refine Ev.bind (name_spec _ (hs _ (List.getElem_mem hlt))) ?_
      by_cases h : nameB l[i] = true
      · refine Ev.congr (fun k => if_pos h) ?_
        refine rsorted_loop l hl hs n (i + 1) (by omega) (by omega) (fun x hx => ?_)
        rw [List.take_succ_eq_append_getElem hlt, List.mem_append, List.mem_singleton] at hx
        rcases hx with hx | hx
        · exact hp x hx
        · rw [hx]; exact h
      · refine Ev.congr (fun k => if_neg h) ?_
        unfold sortedA
        rw [if_pos (List.any_eq_true.2 ⟨_, List.getElem_mem hlt, by rw [Bool.eq_false_iff.mpr h]; rfl⟩)]
        exact Ev.now _
theorem rsorted_ev (l : List ByteArray) (hl : l.length ≤ 2000000) (hs : ∀ s ∈ l, s.size ≤ 140737488351232) : Ev (fun k => tabardref04_Sorted.f k l) (sortedA l) := rsorted_loop l hl hs _ 0 (Nat.zero_le _) rfl (by simp)
theorem same4_refl (a : List ByteArray) (ha : a.length ≤ 4000000) : Ev (fun k => tabardlaw04_same.f k a a) true := by
  have h := same4_ev a a (by omega)
  rwa [decide_eq_true rfl] at h
theorem sortedA_length (a : List ByteArray) : (sortedA a).1.length ≤ a.length := by
  unfold sortedA
  split
  · exact Nat.zero_le _
  · split
    · rw [sortedS_length]; exact Nat.le_refl _
    · exact Nat.zero_le _
theorem unionA_length (a b : List ByteArray) : (unionA a b).1.length ≤ a.length + b.length := by
  unfold unionA
  split
  · split
    · have := canon_length (a ++ b); rwa [List.length_append] at this
    · exact Nat.zero_le _
  · exact Nat.zero_le _
end Go.Proofs.Ytjknpmibdkoklaa.G
