/- Functions of the given program as Lean functions, each with its contract, and what they answer; words for it. No condition but those of each. -/
import Derived.Test.YtjknpmibdkoklaaMG10
import Derived.Test.YtjknpmibdkoklaaMG5
import Derived.Test.YtjknpmibdkoklaaMG9
import Derived.Test.YtjknpmibdkoklaaMG14
import Derived.Test.YtjknpmibdkoklaaMG19
import Derived.LoopTactic
import Derived.Shelf.Abstract
import Derived.Test.YtjknpmibdkoklaaMG2
import Derived.ChangeArms
import Derived.SizedLaws
import Derived.DataShut
import Derived.DataElems
set_option maxRecDepth 100000
namespace Go.Proofs.Ytjknpmibdkoklaa.Q
open Go.ChangeShapes Go.WideShapes Go.RowKit Go.Proofs.YtjknpmibdkoklaaW.PrintWords Go.Proofs.YtjknpmibdkoklaaW.PrintLast Go.Proofs.YtjknpmibdkoklaaW.PrintMore
def fitI (n : Int) : Prop := -9223372036854775808 ≤ n ∧ n ≤ 9223372036854775807
inductive FitT : S66 → Prop
  | mk {t : S66} (h0 : fitI t.f0) (h1 : fitI t.f1) (h2 : t.f2.size ≤ 140737488351232) (h3 : t.f3.length * 56 ≤ 140737488351232) (h : ∀ u ∈ t.f3, FitT u) : FitT t
inductive FitF : S39 → Prop
  | mk {t : S39} (h0 : fitI t.f0) (h1 : t.f1.size ≤ 140737488351232) (h2 : fitI t.f2) (h3 : t.f3.length * 56 ≤ 140737488351232) (h4 : t.f4.length * 80 ≤ 140737488351232) (hT : ∀ u ∈ t.f3, FitT u) (h : ∀ u ∈ t.f4, FitF u) : FitF t
theorem list_of {α : Type} {R : Nat → α → Prop} : ∀ n, (∀ i, i < n → ∃ p, R i p) → ∃ l : List α, l.length = n ∧ ∀ i p, l[i]? = some p → R i p
  | 0, _ => ⟨[], rfl, fun i p h => by simp at h⟩
  | n + 1, h => by
    obtain ⟨l, hl, hr⟩ := list_of n (fun i hi => h i (by omega))
    obtain ⟨p, hp⟩ := h n (by omega)
    refine ⟨l ++ [p], by simp [hl], fun i q hq => ?_⟩
    by_cases hi : i < l.length
    · rw [List.getElem?_append_left hi] at hq
      exact hr i q hq
    · have h2 := (List.getElem?_eq_some_iff.1 hq).1
      simp at h2
      obtain rfl : i = n := by omega
      rw [List.getElem?_append_right (by omega), hl] at hq
      simp at hq
      subst hq
      exact hp
section
variable {H : Type} {enc : TypeId × Value → H} {W : World} {base : Nat} {spare : Nat → Bool} {held : Bool}
theorem row_arg {α : Type} {P : Program} (d : Kd α) (Q : α → Prop) (B : Nat) {t e : TypeId} {fuel : Nat} {cs : List Value} {x : DataW H × List MemPlace} (hu : P.underlying t = some (.slice e)) (hsz : P.cellsOf e = d.sz) (hB : P.bytesOf e = B)
    (ih : ∀ n, n < fuel → ∀ cs x, DataW.trod enc P W base spare held n e cs = some x → (∀ m ∈ x.1.weights P e, m ≤ reachBytes) → ∃ p, d.K W p cs ∧ cs.length = d.sz ∧ Q p)
    (h : DataW.trod enc P W base spare held fuel t cs = some x) (hw : ∀ m ∈ x.1.weights P t, m ≤ reachBytes) :
    ∃ A l c, cs = [.slice A l.length c] ∧ l.length ≤ c ∧ d.C W A l.length l ∧ l.length * B ≤ 140737488351232 ∧ ∀ p ∈ l, Q p := by
  rcases DataW.trod_slice hu h with ⟨rfl, _⟩ | ⟨a, len, cap, elems, rest, n, rfl, rfl, rfl, _, hl, hm, hlen, hel, _, _⟩
  · exact ⟨none, [], 0, rfl, by simp, ⟨rfl, Nat.zero_le _, fun h => absurd h (Nat.lt_irrefl 0)⟩, by simp, fun p hp => absurd hp List.not_mem_nil⟩
  · have hm2 : maxLen = 9223372036854775807 := rfl
    have hr : reachBytes = 140737488351232 := rfl
    obtain ⟨l, hll, hR⟩ := list_of (R := fun i p => ∃ c, c.length = d.sz ∧ d.K W p c ∧ (∀ j u, c[j]? = some u → W.cell? (a.add (i * d.sz + j)) = some u) ∧ Q p) len (fun i hi => by
      have h1 := hel i hi
      rw [List.getElem?_eq_getElem (by omega), Option.bind_eq_some_iff] at h1
      obtain ⟨c, hc, ht⟩ := h1
      obtain ⟨_, hcl, hcc⟩ := World.cells?_some hc
      obtain ⟨p, hK, hl, hQ⟩ := ih n (by omega) c _ ht (fun m hmm => hw m (Open.mem_weights_slice hu (List.mem_map.2 ⟨_, List.getElem_mem (by omega), rfl⟩) hmm))
      refine ⟨p, c, hl, hK, fun j u hj => ?_, hQ⟩
      have hjl := (List.getElem?_eq_some_iff.1 hj).1
      have := hcc j (by omega)
      rw [Addr.add_add, hsz, hj] at this
      exact this)
    have hb := hw ((elems.map (·.1)).length * B + (rest.map (·.1)).length * B) (by
      simp only [DataW.weights, hu, hB]
      rw [← Nat.add_mul]
      exact List.mem_cons_self ..)
    rw [List.length_map, hlen, hr] at hb
    refine ⟨some a, l, cap, by rw [hll], by omega, ⟨rfl, by omega, fun _ => ⟨a, rfl, fun j p hj => ?_⟩⟩, by rw [hll]; omega, fun p hp => ?_⟩
    · obtain ⟨c, h1, h2, h3, _⟩ := hR j p hj
      exact ⟨c, h1, h2, h3⟩
    · obtain ⟨j, hj⟩ := List.mem_iff_getElem?.1 hp
      obtain ⟨c, _, _, _, h4⟩ := hR j p hj
      exact h4
theorem int_arg {P : Program} {t : TypeId} {n : Nat} {cs : List Value} {x : DataW H × List MemPlace} (hu : P.underlying t = some (.int .i64)) (h : DataW.trod enc P W base spare held n t cs = some x) : ∃ a, cs = [.int .i64 a] ∧ fitI a := by
  obtain ⟨a, h1, _, h3⟩ := DataW.trod_int hu h
  exact ⟨a, h1, (Lit.wf_int_iff .i64 a).1 h3⟩
theorem str_arg {P : Program} {t : TypeId} {n : Nat} {cs : List Value} {x : DataW H × List MemPlace} (hu : P.underlying t = some .string) (h : DataW.trod enc P W base spare held n t cs = some x) (hw : ∀ m ∈ x.1.weights P t, m ≤ reachBytes) : ∃ s, cs = [.string s] ∧ s.size ≤ 140737488351232 := by
  obtain ⟨s, h1, rfl, _⟩ := DataW.trod_string hu h
  refine ⟨s, h1, ?_⟩
  have z := hw s.data.toList.length (by simp [DataW.weights])
  have hr : reachBytes = 140737488351232 := rfl
  have hs2 : s.size = s.data.toList.length := by simp
  omega
theorem four {α : Type} {l : List α} (h : l.length = 4) : ∃ a b c d, l = [a, b, c, d] := by
  match l, h with
  | [a, b, c, d], _ => exact ⟨a, b, c, d, rfl⟩
theorem five {α : Type} {l : List α} (h : l.length = 5) : ∃ a b c d e, l = [a, b, c, d, e] := by
  match l, h with
  | [a, b, c, d, e], _ => exact ⟨a, b, c, d, e, rfl⟩
theorem term_arg (fuel : Nat) : ∀ (cs : List Value) (x : DataW H × List MemPlace), DataW.trod enc Try.prog W base spare held fuel 66 cs = some x → (∀ m ∈ x.1.weights Try.prog 66, m ≤ reachBytes) → ∃ t : S66, k66.K W t cs ∧ cs.length = k66.sz ∧ FitT t := by
  induction fuel using Nat.strongRecOn with
  | _ fuel ih =>
  intro cs x h hw
  obtain ⟨xs, n, rfl, rfl, hcl, hxl, hf⟩ := DataW.trod_struct Try.underlying66 h
  rw [show Try.prog.cellsOf 66 = 4 by kernel_rfl] at hcl
  obtain ⟨c0, c1, c2, c3, rfl⟩ := four hcl
  obtain ⟨y0, y1, y2, y3, rfl⟩ := four (show xs.length = 4 from hxl)
  have hw' : ∀ (j : Nat) (t : TypeId) (y : DataW H), ([64, 2, 9, 36] : List TypeId)[j]? = some t → ([y0.1, y1.1, y2.1, y3.1] : List (DataW H))[j]? = some y → ∀ m ∈ y.weights Try.prog t, m ≤ reachBytes := fun j t y ht hy m hm => hw m (by
    simp only [DataW.weights, Try.underlying66]
    exact DataW.weights_mem_each ht hy m hm)
  obtain ⟨a0, e0, w0⟩ := int_arg Try.underlying64 (hf 0 _ rfl)
  obtain ⟨a1, e1, w1⟩ := int_arg Try.underlying2 (hf 1 _ rfl)
  obtain ⟨s, e2, w2⟩ := str_arg Try.underlying9 (hf 2 _ rfl) (hw' 2 _ _ rfl rfl)
  obtain ⟨A, l, c, e3, lc, hC, hl, hQ⟩ := row_arg k66 FitT 56 Try.underlying36 (by kernel_rfl) (by kernel_rfl) (fun m hm => ih m (by omega)) (hf 3 _ rfl) (hw' 3 _ _ rfl rfl)
  have f0 : c0 = .int .i64 a0 := by simpa [show Try.prog.cellsOf 64 = 1 by kernel_rfl] using e0
  have f1 : c1 = .int .i64 a1 := by simpa [show Try.prog.cellsOf 2 = 1 by kernel_rfl] using e1
  have f2 : c2 = .string s := by simpa [show Try.prog.cellsOf 9 = 1 by kernel_rfl] using e2
  have f3 : c3 = .slice A l.length c := by simpa [show Try.prog.cellsOf 36 = 1 by kernel_rfl] using e3
  subst f0 f1 f2 f3
  exact ⟨⟨a0, a1, s, l⟩, k66_mk W ⟨a0, a1, s, l⟩ lc hC, rfl, .mk w0 w1 w2 hl hQ⟩
theorem formula_arg (fuel : Nat) : ∀ (cs : List Value) (x : DataW H × List MemPlace), DataW.trod enc Try.prog W base spare held fuel 39 cs = some x → (∀ m ∈ x.1.weights Try.prog 39, m ≤ reachBytes) → ∃ t : S39, k39.K W t cs ∧ cs.length = k39.sz ∧ FitF t := by
  induction fuel using Nat.strongRecOn with
  | _ fuel ih =>
  intro cs x h hw
  obtain ⟨xs, n, rfl, rfl, hcl, hxl, hf⟩ := DataW.trod_struct Try.underlying39 h
  rw [show Try.prog.cellsOf 39 = 5 by kernel_rfl] at hcl
  obtain ⟨c0, c1, c2, c3, c4, rfl⟩ := five hcl
  obtain ⟨y0, y1, y2, y3, y4, rfl⟩ := five (show xs.length = 5 from hxl)
  have hw' : ∀ (j : Nat) (t : TypeId) (y : DataW H), ([35, 9, 2, 36, 37] : List TypeId)[j]? = some t → ([y0.1, y1.1, y2.1, y3.1, y4.1] : List (DataW H))[j]? = some y → ∀ m ∈ y.weights Try.prog t, m ≤ reachBytes := fun j t y ht hy m hm => hw m (by
    simp only [DataW.weights, Try.underlying39]
    exact DataW.weights_mem_each ht hy m hm)
  obtain ⟨a0, e0, w0⟩ := int_arg Try.underlying35 (hf 0 _ rfl)
  obtain ⟨s, e1, w1⟩ := str_arg Try.underlying9 (hf 1 _ rfl) (hw' 1 _ _ rfl rfl)
  obtain ⟨a2, e2, w2⟩ := int_arg Try.underlying2 (hf 2 _ rfl)
  obtain ⟨A, l, c, e3, lc, hC, hl, hQ⟩ := row_arg k66 FitT 56 Try.underlying36 (by kernel_rfl) (by kernel_rfl) (fun m _ => term_arg m) (hf 3 _ rfl) (hw' 3 _ _ rfl rfl)
  obtain ⟨B, l', c', e4, lc', hC', hl', hQ'⟩ := row_arg k39 FitF 80 Try.underlying37 (by kernel_rfl) (by kernel_rfl) (fun m hm => ih m (by omega)) (hf 4 _ rfl) (hw' 4 _ _ rfl rfl)
  have f0 : c0 = .int .i64 a0 := by simpa [show Try.prog.cellsOf 35 = 1 by kernel_rfl] using e0
  have f1 : c1 = .string s := by simpa [show Try.prog.cellsOf 9 = 1 by kernel_rfl] using e1
  have f2 : c2 = .int .i64 a2 := by simpa [show Try.prog.cellsOf 2 = 1 by kernel_rfl] using e2
  have f3 : c3 = .slice A l.length c := by simpa [show Try.prog.cellsOf 36 = 1 by kernel_rfl] using e3
  have f4 : c4 = .slice B l'.length c' := by simpa [show Try.prog.cellsOf 37 = 1 by kernel_rfl] using e4
  subst f0 f1 f2 f3 f4
  exact ⟨⟨a0, s, a2, l, l'⟩, k39_mk W ⟨a0, s, a2, l, l'⟩ lc hC lc' hC', rfl, .mk w0 w1 w2 hl hl' hQ hQ'⟩
theorem open_formula {v : Value} {d : DataW H} {ps : List MemPlace} {r : Reach} {b0 : Nat} (hv : Value.okWide Try.prog W r b0 39 v) (h : DataW.Trod enc Try.prog W base spare held 39 v d ps) (hw : ∀ m ∈ d.weights Try.prog 39, m ≤ reachBytes) :
    ∃ (t : S39) (A3 : Option Addr) (c3 : Nat) (A4 : Option Addr) (c4 : Nat), v = .agg #[.int .i64 t.f0, .string t.f1, .int .i64 t.f2, .slice A3 t.f3.length c3, .slice A4 t.f4.length c4] ∧ t.f3.length ≤ c3 ∧ Kd.C k66 W A3 t.f3.length t.f3 ∧ t.f4.length ≤ c4 ∧ Kd.C k39 W A4 t.f4.length t.f4 ∧ FitF t := by
  obtain ⟨cs, rfl, _⟩ := okWide_struct Try.underlying39 hv
  obtain ⟨fuel, hf⟩ := h
  obtain ⟨t, hK, _, hF⟩ := formula_arg fuel _ _ hf hw
  obtain ⟨A3, c3, A4, c4, he, l3, g3, l4, g4⟩ := k39_open hK
  refine ⟨t, A3, c3, A4, c4, ?_, l3, g3, l4, g4, hF⟩
  rw [show cs = (Value.agg cs).cells.toList.toArray by simp [Value.cells], he]
end
end Go.Proofs.Ytjknpmibdkoklaa.Q
