/- Functions of the given program as Lean functions, each with its contract, and what they answer; words for it. No condition but those of each. -/
import Derived.Test.YtjknpmibdkoklaaMRS
import Derived.Test.YtjknpmibdkoklaaMRR
import Derived.Test.YtjknpmibdkoklaaMR3
import Derived.Test.YtjknpmibdkoklaaMR7
import Derived.Test.YtjknpmibdkoklaaMR2
import Derived.Test.YtjknpmibdkoklaaMR1
import Derived.Shelf.SlicesE.DeleteFunc
import Derived.Shelf.SlicesQ.IndexFunc
import Derived.Test.YtjknpmibdkoklaaProg
import Derived.LoopTactic
import Derived.Shelf.Abstract
import Derived.ChangeArms
import Derived.SizedLaws
import Derived.DataShut
import Derived.DataElems
import Derived.Test.YtjknpmibdkoklaaMR10
import Derived.Test.YtjknpmibdkoklaaMR5
import Derived.Test.YtjknpmibdkoklaaMR8
import Derived.Test.YtjknpmibdkoklaaMR4
set_option linter.unusedVariables false
set_option linter.unusedSimpArgs false
set_option maxRecDepth 100000
namespace Go.Proofs.Ytjknpmibdkoklaa.Q
open Go.RowKit Go.Proofs.YtjknpmibdkoklaaW.PrintWords Go.Proofs.YtjknpmibdkoklaaW.PrintLast Go.Proofs.YtjknpmibdkoklaaW.PrintMore
mutual
def cntT : S66 → Nat
  | ⟨_, _, _, l⟩ => 1 + cntTs l
def cntTs : List S66 → Nat
  | [] => 0
  | t :: l => cntT t + cntTs l
end
mutual
def cntF : S39 → Nat
  | ⟨_, _, _, l, q⟩ => 1 + (cntTs l + cntFs q)
def cntFs : List S39 → Nat
  | [] => 0
  | t :: l => cntF t + cntFs l
end
theorem cntT_pos (t : S66) : 1 ≤ cntT t := by cases t; rw [cntT]; omega
mutual
def RightT : S66 → Prop
  | ⟨a, b, s, l⟩ => okT ⟨a, b, s, l⟩ = true ∧ RightTs l
def RightTs : List S66 → Prop
  | [] => True
  | t :: l => RightT t ∧ RightTs l
end
mutual
def RightF : S39 → Prop
  | ⟨a, s, b, l, q⟩ => okF ⟨a, s, b, l, q⟩ = true ∧ (RightTs l ∧ RightFs q)
def RightFs : List S39 → Prop
  | [] => True
  | t :: l => RightF t ∧ RightFs l
end
theorem nodeM_right {dep : Int} {good : Bool} {m : Int × Int × Int} (h0 : 0 ≤ m.1) (h1 : m.1 ≤ 500) (h : (nodeM dep good m).2.2 = 0) : good = true ∧ (nodeM dep good m).1 = m.1 + 1 ∧ m.1 + 1 ≤ 500 := by
  have hw : wrap64 (m.1 + 1) = m.1 + 1 := by unfold wrap64; omega
  unfold nodeM at h ⊢
  rw [hw] at h ⊢
  simp only at h ⊢
  split at h
  · cases h
  · split at h
    · cases h
    · split at h
      · rename_i a b c; exact ⟨c, by first | rfl | trivial, kq1⟩
      · cases h
mutual
theorem measT_right : ∀ (t : S66) (dep : Int) (m : Int × Int × Int), 0 ≤ m.1 → m.1 ≤ 500 → (measT t dep m).2.2 = 0 → RightT t ∧ (measT t dep m).1 = m.1 + cntT t ∧ m.1 + cntT t ≤ 500
  | ⟨a, b, s, l⟩, dep, m, h0, h1, h => by
    rw [measT] at h ⊢
    rw [cntT, RightT]
    split at h
    · rename_i hn
      obtain ⟨g1, g2, g3⟩ := nodeM_right h0 h1 hn
      obtain ⟨r1, r2, r3⟩ := measTs_right l (wrap64 (dep + 1)) _ kq1 kq1 h
      rw [if_pos hn]
      exact ⟨⟨g1, r1⟩, kq1, kq1⟩
    · rename_i hn; exact absurd h hn
theorem measTs_right : ∀ (l : List S66) (dep : Int) (m : Int × Int × Int), 0 ≤ m.1 → m.1 ≤ 500 → (measTs l dep m).2.2 = 0 → RightTs l ∧ (measTs l dep m).1 = m.1 + cntTs l ∧ m.1 + cntTs l ≤ 500
  | [], dep, m, h0, h1, h => by rw [measTs, cntTs, RightTs]; exact ⟨trivial, kq1, kq1⟩
  | t :: l, dep, m, h0, h1, h => by
    rw [measTs] at h ⊢
    rw [cntTs, RightTs]
    split at h
    · rename_i hn
      obtain ⟨g1, g2, g3⟩ := measT_right t dep m h0 h1 hn
      obtain ⟨r1, r2, r3⟩ := measTs_right l dep _ kq1 kq1 h
      rw [if_pos hn]
      exact ⟨⟨g1, r1⟩, kq1, kq1⟩
    · rename_i hn; exact absurd h hn
end
mutual
theorem measF_right : ∀ (t : S39) (dep : Int) (m : Int × Int × Int), 0 ≤ m.1 → m.1 ≤ 500 → (measF t dep m).2.2 = 0 → RightF t ∧ (measF t dep m).1 = m.1 + cntF t ∧ m.1 + cntF t ≤ 500
  | ⟨a, s, b, l, q⟩, dep, m, h0, h1, h => by
    rw [measF] at h ⊢
    rw [cntF, RightF]
    split at h
    · rename_i hn
      obtain ⟨g1, g2, g3⟩ := nodeM_right h0 h1 hn
      rw [if_pos hn]
      split at h
      · rename_i hl
        obtain ⟨r1, r2, r3⟩ := measTs_right l (wrap64 (dep + 1)) _ kq1 kq1 hl
        obtain ⟨q1, q2, q3⟩ := measFs_right q (wrap64 (dep + 1)) _ kq1 kq1 h
        rw [if_pos hl]
        exact ⟨⟨g1, r1, q1⟩, kq1, kq1⟩
      · rename_i hl; exact absurd h hl
    · rename_i hn; exact absurd h hn
theorem measFs_right : ∀ (l : List S39) (dep : Int) (m : Int × Int × Int), 0 ≤ m.1 → m.1 ≤ 500 → (measFs l dep m).2.2 = 0 → RightFs l ∧ (measFs l dep m).1 = m.1 + cntFs l ∧ m.1 + cntFs l ≤ 500
  | [], dep, m, h0, h1, h => by rw [measFs, cntFs, RightFs]; exact ⟨trivial, kq1, kq1⟩
  | t :: l, dep, m, h0, h1, h => by
    rw [measFs] at h ⊢
    rw [cntFs, RightFs]
    split at h
    · rename_i hn
      obtain ⟨g1, g2, g3⟩ := measF_right t dep m h0 h1 hn
      obtain ⟨r1, r2, r3⟩ := measFs_right l dep _ kq1 kq1 h
      rw [if_pos hn]
      exact ⟨⟨g1, r1⟩, kq1, kq1⟩
    · rename_i hn; exact absurd h hn
end
theorem RightTs_mem : ∀ {l : List S66}, RightTs l → ∀ t ∈ l, RightT t
  | x :: l, h, t, ht => by
    rw [RightTs] at h
    rcases List.mem_cons.1 ht with rfl | ht
    · exact h.1
    · exact RightTs_mem h.2 t ht
theorem cntTs_mem : ∀ {l : List S66}, ∀ t ∈ l, cntT t ≤ cntTs l
  | x :: l, t, ht => by
    rw [cntTs]
    rcases List.mem_cons.1 ht with rfl | ht
    · omega
    · have := cntTs_mem t ht; omega
end Go.Proofs.Ytjknpmibdkoklaa.Q
set_option maxRecDepth 100000
namespace Go.Proofs.Ytjknpmibdkoklaa.Q
open Go.RowKit Go.Proofs.YtjknpmibdkoklaaW.PrintWords Go.Proofs.YtjknpmibdkoklaaW.PrintLast Go.Proofs.YtjknpmibdkoklaaW.PrintMore
theorem RightT_eq {t : S66} (h : RightT t) : okT t = true ∧ RightTs t.f3 := by cases t; rw [RightT] at h; exact h
theorem RightF_eq {t : S39} (h : RightF t) : okF t = true ∧ RightTs t.f3 ∧ RightFs t.f4 := by cases t; rw [RightF] at h; exact h
end Go.Proofs.Ytjknpmibdkoklaa.Q
set_option maxRecDepth 100000
namespace Go.Proofs.Ytjknpmibdkoklaa.Q
open Go.ChangeShapes Go.WideShapes Go.RowKit Go.Proofs.YtjknpmibdkoklaaW.PrintWords Go.Proofs.YtjknpmibdkoklaaW.PrintLast Go.Proofs.YtjknpmibdkoklaaW.PrintMore
def fitI (n : Int) : Prop := -9223372036854775808 ≤ n ∧ n ≤ 9223372036854775807
inductive FitT : S66 → Prop
  | mk {t : S66} (h0 : fitI t.f0) (h1 : fitI t.f1) (h2 : t.f2.size ≤ 140737488351232) (h3 : t.f3.length * 56 ≤ 140737488351232) (h : ∀ u ∈ t.f3, FitT u) : FitT t
inductive FitF : S39 → Prop
  | mk {t : S39} (h0 : fitI t.f0) (h1 : t.f1.size ≤ 140737488351232) (h2 : fitI t.f2) (h3 : t.f3.length * 56 ≤ 140737488351232) (h4 : t.f4.length * 80 ≤ 140737488351232) (hT : ∀ u ∈ t.f3, FitT u) (h : ∀ u ∈ t.f4, FitF u) : FitF t
theorem list_of {α : Type} {R : Nat → α → Prop} : ∀ n, (∀ i, i < n → ∃ p, R i p) → ∃ l : List α, l.length = n ∧ ∀ i p, l[i]? = some p → R i p
  | 0, _ => ⟨[], rfl, fun i p h => by simp at h⟩
  | n + 1, h => by
    obtain ⟨l, hl, hr⟩ := list_of n (fun i hi => h i kq1)
    obtain ⟨p, hp⟩ := h n kq1
    refine ⟨l ++ [p], by simp [hl], fun i q hq => ?_⟩
    by_cases hi : i < l.length
    · rw [List.getElem?_append_left hi] at hq
      exact hr i q hq
    · have h2 := (List.getElem?_eq_some_iff.1 hq).1
      simp at h2
      obtain rfl : i = n := by omega
      rw [List.getElem?_append_right kq1, hl] at hq
      simp at hq
      subst hq
      exact hp
section
variable {H : Type} {enc : TypeId × Value → H} {W : World} {base : Nat} {spare : Nat → Bool} {held : Bool}
theorem row_arg {α : Type} {P : Program} (d : Kd α) (Q : α → Prop) (B : Nat) {t e : TypeId} {fuel : Nat} {cs : List Value} {x : DataW H × List MemPlace} (hu : P.underlying t = some (.slice e)) (hsz : P.cellsOf e = d.sz) (hB : P.bytesOf e = B)
    (ih : ∀ n, n < fuel → ∀ cs x, DataW.trod enc P W base spare held n e cs = some x → (∀ m ∈ x.1.weights P e, m ≤ reachBytes) → ∃ p, d.K W p cs ∧ cs.length = d.sz ∧ Q p)
    (h : DataW.trod enc P W base spare held fuel t cs = some x) (hw : ∀ m ∈ x.1.weights P t, m ≤ reachBytes) :
    ∃ A l c, cs = [.slice A l.length c] ∧ l.length ≤ c ∧ d.C W A l.length l ∧ l.length * B ≤ 140737488351232 ∧ ∀ p ∈ l, Q p := by
  rcases DataW.trod_slice hu h with ⟨rfl, _⟩ | ⟨a, len, cap, elems, rest, n, rfl, rfl, rfl, _, hl, hm, hlen, hel, _, _⟩
  · exact ⟨none, [], 0, rfl, by simp, ⟨rfl, Nat.zero_le _, fun h => absurd h (Nat.lt_irrefl 0)⟩, by simp, fun p hp => absurd hp List.not_mem_nil⟩
  · have hm2 : maxLen = 9223372036854775807 := rfl
    have hr : reachBytes = 140737488351232 := rfl
    obtain ⟨l, hll, hR⟩ := list_of (R := fun i p => ∃ c, c.length = d.sz ∧ d.K W p c ∧ (∀ j u, c[j]? = some u → W.cell? (a.add (i * d.sz + j)) = some u) ∧ Q p) len (fun i hi => by
      have h1 := hel i hi
      rw [List.getElem?_eq_getElem kq1, Option.bind_eq_some_iff] at h1
      obtain ⟨c, hc, ht⟩ := h1
      obtain ⟨_, hcl, hcc⟩ := World.cells?_some hc
      obtain ⟨p, hK, hl, hQ⟩ := ih n kq1 c _ ht (fun m hmm => hw m (Open.mem_weights_slice hu (List.mem_map.2 ⟨_, List.getElem_mem kq1, rfl⟩) hmm))
      refine ⟨p, c, hl, hK, fun j u hj => ?_, hQ⟩
      have hjl := (List.getElem?_eq_some_iff.1 hj).1
      have := hcc j kq1
      rw [Addr.add_add, hsz, hj] at this
      exact this)
    have hb := hw ((elems.map (·.1)).length * B + (rest.map (·.1)).length * B) (by
      simp only [DataW.weights, hu, hB]
      rw [← Nat.add_mul]
      exact List.mem_cons_self ..)
    rw [List.length_map, hlen, hr] at hb
    refine ⟨some a, l, cap, by rw [hll], kq1, ⟨rfl, kq1, fun _ => ⟨a, rfl, fun j p hj => ?_⟩⟩, by rw [hll]; omega, fun p hp => ?_⟩
    · obtain ⟨c, h1, h2, h3, _⟩ := hR j p hj
      exact ⟨c, h1, h2, h3⟩
    · obtain ⟨j, hj⟩ := List.mem_iff_getElem?.1 hp
      obtain ⟨c, _, _, _, h4⟩ := hR j p hj
      exact h4
theorem int_arg {P : Program} {t : TypeId} {n : Nat} {cs : List Value} {x : DataW H × List MemPlace} (hu : P.underlying t = some (.int .i64)) (h : DataW.trod enc P W base spare held n t cs = some x) : ∃ a, cs = [.int .i64 a] ∧ fitI a := by
  obtain ⟨a, h1, _, h3⟩ := DataW.trod_int hu h
  exact ⟨a, h1, (Lit.wf_int_iff .i64 a).1 h3⟩
theorem str_arg {P : Program} {t : TypeId} {n : Nat} {cs : List Value} {x : DataW H × List MemPlace} (hu : P.underlying t = some .string) (h : DataW.trod enc P W base spare held n t cs = some x) (hw : ∀ m ∈ x.1.weights P t, m ≤ reachBytes) : ∃ s, cs = [.string s] ∧ s.size ≤ 140737488351232 := by
  obtain ⟨s, h1, rfl, _⟩ := DataW.trod_string hu h
  refine ⟨s, h1, ?_⟩
  have z := hw s.data.toList.length (by simp [DataW.weights])
  have hr : reachBytes = 140737488351232 := rfl
  have hs2 : s.size = s.data.toList.length := by simp
  omega
theorem four {α : Type} {l : List α} (h : l.length = 4) : ∃ a b c d, l = [a, b, c, d] := by
  match l, h with
  | [a, b, c, d], _ => exact ⟨a, b, c, d, rfl⟩
theorem term_arg (fuel : Nat) : ∀ (cs : List Value) (x : DataW H × List MemPlace), DataW.trod enc Try.prog W base spare held fuel 66 cs = some x → (∀ m ∈ x.1.weights Try.prog 66, m ≤ reachBytes) → ∃ t : S66, k66.K W t cs ∧ cs.length = k66.sz ∧ FitT t := by
  induction fuel using Nat.strongRecOn with
  | _ fuel ih =>
  intro cs x h hw
  obtain ⟨xs, n, rfl, rfl, hcl, hxl, hf⟩ := DataW.trod_struct Try.underlying66 h
  rw [show Try.prog.cellsOf 66 = 4 by kernel_rfl] at hcl
  obtain ⟨c0, c1, c2, c3, rfl⟩ := four hcl
  obtain ⟨y0, y1, y2, y3, rfl⟩ := four (show xs.length = 4 from hxl)
  have hw' : ∀ (j : Nat) (t : TypeId) (y : DataW H), ([64, 2, 9, 36] : List TypeId)[j]? = some t → ([y0.1, y1.1, y2.1, y3.1] : List (DataW H))[j]? = some y → ∀ m ∈ y.weights Try.prog t, m ≤ reachBytes := fun j t y ht hy m hm => hw m (by
    simp only [DataW.weights, Try.underlying66]
    exact DataW.weights_mem_each ht hy m hm)
  obtain ⟨a0, e0, w0⟩ := int_arg Try.underlying64 (hf 0 _ rfl)
  obtain ⟨a1, e1, w1⟩ := int_arg Try.underlying2 (hf 1 _ rfl)
  obtain ⟨s, e2, w2⟩ := str_arg Try.underlying9 (hf 2 _ rfl) (hw' 2 _ _ rfl rfl)
  obtain ⟨A, l, c, e3, lc, hC, hl, hQ⟩ := row_arg k66 FitT 56 Try.underlying36 kq0 kq0 (fun m hm => ih m kq1) (hf 3 _ rfl) (hw' 3 _ _ rfl rfl)
  have f0 : c0 = .int .i64 a0 := by simpa [show Try.prog.cellsOf 64 = 1 by kernel_rfl] using e0
  have f1 : c1 = .int .i64 a1 := by simpa [show Try.prog.cellsOf 2 = 1 by kernel_rfl] using e1
  have f2 : c2 = .string s := by simpa [show Try.prog.cellsOf 9 = 1 by kernel_rfl] using e2
  have f3 : c3 = .slice A l.length c := by simpa [show Try.prog.cellsOf 36 = 1 by kernel_rfl] using e3
  subst f0 f1 f2 f3
  exact ⟨⟨a0, a1, s, l⟩, k66_mk W ⟨a0, a1, s, l⟩ lc hC, rfl, .mk w0 w1 w2 hl hQ⟩
theorem open_term {v : Value} {d : DataW H} {ps : List MemPlace} {r : Reach} {b0 : Nat} (hv : Value.okWide Try.prog W r b0 66 v) (h : DataW.Trod enc Try.prog W base spare held 66 v d ps) (hw : ∀ m ∈ d.weights Try.prog 66, m ≤ reachBytes) :
    ∃ (t : S66) (A3 : Option Addr) (c3 : Nat), v = .agg #[.int .i64 t.f0, .int .i64 t.f1, .string t.f2, .slice A3 t.f3.length c3] ∧ t.f3.length ≤ c3 ∧ Kd.C k66 W A3 t.f3.length t.f3 ∧ FitT t := by
  obtain ⟨cs, rfl, _⟩ := okWide_struct Try.underlying66 hv
  obtain ⟨fuel, hf⟩ := h
  obtain ⟨t, hK, _, hF⟩ := term_arg fuel _ _ hf hw
  obtain ⟨A3, c3, he, l3, g3⟩ := k66_open hK
  refine ⟨t, A3, c3, ?_, l3, g3, hF⟩
  rw [show cs = (Value.agg cs).cells.toList.toArray by simp [Value.cells], he]
end
end Go.Proofs.Ytjknpmibdkoklaa.Q
namespace Go.Proofs.Ytjknpmibdkoklaa.Q
open Go.RowKit Go.Proofs.YtjknpmibdkoklaaW.PrintWords Go.Proofs.YtjknpmibdkoklaaW.PrintLast Go.Proofs.YtjknpmibdkoklaaW.PrintMore
open Aside0 (mk)
open List (setIfInBounds_toArray set_cons_zero set_cons_succ)
attribute [local go_sem] max2_int min2_int max_two min_two max_three min_three max_four min_four
set_option linter.unusedVariables false
set_option linter.unusedSimpArgs false
attribute [local go_sem] fld99_2 fld103_2 fld160_0 fld160_1
def tabardlaw09_normals.f (k : Nat) (a0_0 : Int) (l0_1 : List ByteArray) (l0_2 : List Int) (a0_3 : Int) (a0_4 : Int) (a1_0 : Int) (l1_1 : List ByteArray) (l1_2 : List Int) (a1_3 : Int) (a1_4 : Int) : Option (Bool) := if a0_0 = a1_0 then ((tabardlaw09_same.f k l0_1 l1_1).bind fun t844 => (if t844 = true then ((tabardlaw09_numbers.f k l0_2 l1_2).bind fun t845 => (if t845 = true then (if a0_3 = a1_3 then (some (a0_4 == a1_4)) else (some false)) else (some false))) else (some false))) else (some false)
theorem tabardlaw09_normals.mono : ∀ a0 a1 a2 a3 a4 a5 a6 a7 a8 a9 k, LeO (tabardlaw09_normals.f k a0 a1 a2 a3 a4 a5 a6 a7 a8 a9) (tabardlaw09_normals.f (k + 1) a0 a1 a2 a3 a4 a5 a6 a7 a8 a9) := by
  intro a0 a1 a2 a3 a4 a5 a6 a7 a8 a9 k
  unfold tabardlaw09_normals.f
  repeat' first
      | (with_reducible exact tabardlaw09_numbers.mono _ _ _)
      | (with_reducible exact tabardlaw09_same.mono _ _ _)
      | (with_reducible exact LeO.refl _)
      | (with_reducible exact LeO.none _)
      | (with_reducible refine LeO.ite ?_ ?_)
      | (with_reducible refine LeO.bind ?_ (fun _ => ?_))
      | exact tabardlaw09_numbers.mono _ _ _
      | exact tabardlaw09_same.mono _ _ _
      | exact LeO.none _
      | refine LeO.ite ?_ ?_
      | refine LeO.bind ?_ (fun _ => ?_)
set_option maxHeartbeats 8000000 in
set_option maxRecDepth 100000 in
theorem tabardlaw09_normals.calls (k : Nat) (a0_0 : Int) (A0_1 : Option Addr) (c0_1 : Nat) (l0_1 : List ByteArray) (A0_2 : Option Addr) (c0_2 : Nat) (l0_2 : List Int) (a0_3 : Int) (a0_4 : Int) (a1_0 : Int) (A1_1 : Option Addr) (c1_1 : Nat) (l1_1 : List ByteArray) (A1_2 : Option Addr) (c1_2 : Nat) (l1_2 : List Int) (a1_3 : Int) (a1_4 : Int) (r : Bool) (w : World) (hr0_1 : Kd.C Kd.string w A0_1 l0_1.length l0_1) (hc0_1 : l0_1.length ≤ c0_1) (hr0_2 : Kd.C (Kd.int .i64) w A0_2 l0_2.length l0_2) (hc0_2 : l0_2.length ≤ c0_2) (hr1_1 : Kd.C Kd.string w A1_1 l1_1.length l1_1) (hc1_1 : l1_1.length ≤ c1_1) (hr1_2 : Kd.C (Kd.int .i64) w A1_2 l1_2.length l1_2) (hc1_2 : l1_2.length ≤ c1_2) (h : tabardlaw09_normals.f k a0_0 l0_1 l0_2 a0_3 a0_4 a1_0 l1_1 l1_2 a1_3 a1_4 = some r) :
    Calls Try.prog 48 #[.agg #[.int .i64 a0_0, .slice A0_1 l0_1.length c0_1, .slice A0_2 l0_2.length c0_2, .int .i64 a0_3, .int .i64 a0_4], .agg #[.int .i64 a1_0, .slice A1_1 l1_1.length c1_1, .slice A1_2 l1_2.length c1_2, .int .i64 a1_3, .int .i64 a1_4]] w fun e w' => e = .returned (.bool r) ∧ Below w.heap.size w w' := by
  have hu58 := Try.underlying58
  have HR0_1 := mk hr0_1
  have HC0_1 := mk hc0_1
  clear hr0_1 hc0_1
  have HR0_2 := mk hr0_2
  have HC0_2 := mk hc0_2
  clear hr0_2 hc0_2
  have HR1_1 := mk hr1_1
  have HC1_1 := mk hc1_1
  clear hr1_1 hc1_1
  have HR1_2 := mk hr1_2
  have HC1_2 := mk hc1_2
  clear hr1_2 hc1_2
  have HB := mk (Below.refl w.heap.size w)
  have H : (if a0_0 = a1_0 then ((tabardlaw09_same.f k l0_1 l1_1).bind fun t844 => (if t844 = true then ((tabardlaw09_numbers.f k l0_2 l1_2).bind fun t845 => (if t845 = true then (if a0_3 = a1_3 then (some (a0_4 == a1_4)) else (some false)) else (some false))) else (some false))) else (some false)) = some r := h
  clear h
  by_cases c3 : a0_0 = a1_0
  · rw [if_pos c3] at H
    have c3b0 := eT_ c3
    have c3b1 := nF_ c3
    clear c3
    replace H := Option.bind_eq_some_iff.mp H
    obtain ⟨t844, A40, H⟩ := H
    replace H : (if t844 = true then ((tabardlaw09_numbers.f k l0_2 l1_2).bind fun t845 => (if t845 = true then (if a0_3 = a1_3 then (some (a0_4 == a1_4)) else (some false)) else (some false))) else (some false)) = some r := H
    have A4 := mk A40
    clear A40
    by_cases c5 : t844 = true
    · subst c5; (have H1 : ((tabardlaw09_numbers.f k l0_2 l1_2).bind fun t845 => (if t845 = true then (if a0_3 = a1_3 then (some (a0_4 == a1_4)) else (some false)) else (some false))) = some r := by rw [if_pos rfl] at H; exact H); clear H; (have H := H1); clear H1; (replace H := Option.bind_eq_some_iff.mp H); (obtain ⟨t845, A60, H⟩ := H); (replace H : (if t845 = true then (if a0_3 = a1_3 then (some (a0_4 == a1_4)) else (some false)) else (some false)) = some r := H); (have A6 := mk A60); clear A60; (by_cases c7 : t845 = true)
      · subst c7; (have H1 : (if a0_3 = a1_3 then (some (a0_4 == a1_4)) else (some false)) = some r := by rw [if_pos rfl] at H; exact H); clear H; (have H := H1); clear H1; replace H := ic_ H; obtain ⟨c8, H⟩ | ⟨c8, H⟩ := H
        · (obtain ⟨c8b0, c8b1⟩ := eTn_ c8); clear c8; (obtain rfl := Option.some.inj H); (go_enter Try.func48, Try.ntmps48); (go_wp2_with (first | ((with_reducible refine gate_dst (N := 2) rfl ?_); refine box_event ?hg (N := 2) ?hd (cs := #[.int .i64 a0_0, .slice A0_1 l0_1.length c0_1, .slice A0_2 l0_2.length c0_2, .int .i64 a0_3, .int .i64 a0_4]) (t := 58) ?hr ?_; (case hd => rfl); (case hg => rfl); (case hr => exact kq11); intro gb842 hg w9 hbox hb; have BK842 := mk (hbox); have GW842 := (gs_ hg kq9); have GE842 := GW842; replace HB := mk (below_step kq9 hb); clear hb hbox hg) | ((with_reducible refine gate_dst (N := 3) rfl ?_); refine box_event ?hg (N := 3) ?hd (cs := #[.int .i64 a1_0, .slice A1_1 l1_1.length c1_1, .slice A1_2 l1_2.length c1_2, .int .i64 a1_3, .int .i64 a1_4]) (t := 58) ?hr ?_; (case hd => rfl); (case hg => rfl); (case hr => exact kq11); intro gb843 hg w10 hbox hb; have BK843 := mk (hbox); have GW843 := (gs_ hg (kq10 GE842)); have GE843 := GW843; have NB842_843 := (nl_ hg BK842); have NB843_842 := (ng_ hg BK842); replace BK842 := (bb_ BK842 hb); replace HB := mk (below_step (kq10 GE842) hb); clear hb hbox hg; have hnb11 := NB842_843.out; have hnc11 := NB843_842.out; obtain ⟨_, _, _, _, _, _, _, _, _, _⟩ := cz5_ BK842.out; obtain ⟨_, _, _, _, _, _, _, _, _, _⟩ := cz5_ BK843.out) | (go_at_call 51; (with_reducible refine (tabardlaw09_same.calls k _ _ l0_1 _ _ l1_1 true _ ?side1 ?side2 ?side3 ?side4 A4.out).mono ?_); (case side1 => exact kq13 HR0_1); (case side2 => exact HC0_1.out); (case side3 => exact kq13 HR1_1); (case side4 => exact HC1_1.out); rintro e w' ⟨rfl, ⟨nd, rfl⟩⟩) | (go_at_call 52; (with_reducible refine (tabardlaw09_numbers.calls k _ _ l0_2 _ _ l1_2 true _ ?side1 ?side2 ?side3 ?side4 A6.out).mono ?_); (case side1 => exact kq76 HR0_2 GE842 GE843); (case side2 => exact HC0_2.out); (case side3 => exact kq76 HR1_2 GE842 GE843); (case side4 => exact HC1_2.out); rintro e w' ⟨rfl, ⟨nd, rfl⟩⟩))); go_ret; (exact ⟨kq12, (kq45 GE842 GE843)⟩)
        · (obtain ⟨c8b0, c8b1⟩ := eFn_ c8); (obtain rfl := Option.some.inj H); (go_enter Try.func48, Try.ntmps48); (go_wp2_with (first | ((with_reducible refine gate_dst (N := 2) rfl ?_); refine box_event ?hg (N := 2) ?hd (cs := #[.int .i64 a0_0, .slice A0_1 l0_1.length c0_1, .slice A0_2 l0_2.length c0_2, .int .i64 a0_3, .int .i64 a0_4]) (t := 58) ?hr ?_; (case hd => rfl); (case hg => rfl); (case hr => exact kq11); intro gb842 hg w14 hbox hb; have BK842 := mk (hbox); have GW842 := (gs_ hg kq9); have GE842 := GW842; replace HB := mk (below_step kq9 hb); clear hb hbox hg) | ((with_reducible refine gate_dst (N := 3) rfl ?_); refine box_event ?hg (N := 3) ?hd (cs := #[.int .i64 a1_0, .slice A1_1 l1_1.length c1_1, .slice A1_2 l1_2.length c1_2, .int .i64 a1_3, .int .i64 a1_4]) (t := 58) ?hr ?_; (case hd => rfl); (case hg => rfl); (case hr => exact kq11); intro gb843 hg w15 hbox hb; have BK843 := mk (hbox); have GW843 := (gs_ hg (kq10 GE842)); have GE843 := GW843; have NB842_843 := (nl_ hg BK842); have NB843_842 := (ng_ hg BK842); replace BK842 := (bb_ BK842 hb); replace HB := mk (below_step (kq10 GE842) hb); clear hb hbox hg; have hnb16 := NB842_843.out; have hnc16 := NB843_842.out; obtain ⟨_, _, _, _, _, _, _, _, _, _⟩ := cz5_ BK842.out; obtain ⟨_, _, _, _, _, _, _, _, _, _⟩ := cz5_ BK843.out) | (go_at_call 51; (with_reducible refine (tabardlaw09_same.calls k _ _ l0_1 _ _ l1_1 true _ ?side1 ?side2 ?side3 ?side4 A4.out).mono ?_); (case side1 => exact kq13 HR0_1); (case side2 => exact HC0_1.out); (case side3 => exact kq13 HR1_1); (case side4 => exact HC1_1.out); rintro e w' ⟨rfl, ⟨nd, rfl⟩⟩) | (go_at_call 52; (with_reducible refine (tabardlaw09_numbers.calls k _ _ l0_2 _ _ l1_2 true _ ?side1 ?side2 ?side3 ?side4 A6.out).mono ?_); (case side1 => exact kq76 HR0_2 GE842 GE843); (case side2 => exact HC0_2.out); (case side3 => exact kq76 HR1_2 GE842 GE843); (case side4 => exact HC1_2.out); rintro e w' ⟨rfl, ⟨nd, rfl⟩⟩))); go_ret; (exact ⟨kq12, (kq45 GE842 GE843)⟩)
      · (replace c7 := Bool.eq_false_iff.mpr c7); subst c7; (have H1 : (some false) = some r := by rw [if_neg (show ¬ (false = true) by decide)] at H; exact H); clear H; (have H := H1); clear H1; (obtain rfl := Option.some.inj H); (go_enter Try.func48, Try.ntmps48); (go_wp2_with (first | ((with_reducible refine gate_dst (N := 2) rfl ?_); refine box_event ?hg (N := 2) ?hd (cs := #[.int .i64 a0_0, .slice A0_1 l0_1.length c0_1, .slice A0_2 l0_2.length c0_2, .int .i64 a0_3, .int .i64 a0_4]) (t := 58) ?hr ?_; (case hd => rfl); (case hg => rfl); (case hr => exact kq11); intro gb842 hg w19 hbox hb; have BK842 := mk (hbox); have GW842 := (gs_ hg kq9); have GE842 := GW842; replace HB := mk (below_step kq9 hb); clear hb hbox hg) | ((with_reducible refine gate_dst (N := 3) rfl ?_); refine box_event ?hg (N := 3) ?hd (cs := #[.int .i64 a1_0, .slice A1_1 l1_1.length c1_1, .slice A1_2 l1_2.length c1_2, .int .i64 a1_3, .int .i64 a1_4]) (t := 58) ?hr ?_; (case hd => rfl); (case hg => rfl); (case hr => exact kq11); intro gb843 hg w20 hbox hb; have BK843 := mk (hbox); have GW843 := (gs_ hg (kq10 GE842)); have GE843 := GW843; have NB842_843 := (nl_ hg BK842); have NB843_842 := (ng_ hg BK842); replace BK842 := (bb_ BK842 hb); replace HB := mk (below_step (kq10 GE842) hb); clear hb hbox hg; have hnb21 := NB842_843.out; have hnc21 := NB843_842.out; obtain ⟨_, _, _, _, _, _, _, _, _, _⟩ := cz5_ BK842.out; obtain ⟨_, _, _, _, _, _, _, _, _, _⟩ := cz5_ BK843.out) | (go_at_call 51; (with_reducible refine (tabardlaw09_same.calls k _ _ l0_1 _ _ l1_1 true _ ?side1 ?side2 ?side3 ?side4 A4.out).mono ?_); (case side1 => exact kq13 HR0_1); (case side2 => exact HC0_1.out); (case side3 => exact kq13 HR1_1); (case side4 => exact HC1_1.out); rintro e w' ⟨rfl, ⟨nd, rfl⟩⟩) | (go_at_call 52; (with_reducible refine (tabardlaw09_numbers.calls k _ _ l0_2 _ _ l1_2 false _ ?side1 ?side2 ?side3 ?side4 A6.out).mono ?_); (case side1 => exact kq76 HR0_2 GE842 GE843); (case side2 => exact HC0_2.out); (case side3 => exact kq76 HR1_2 GE842 GE843); (case side4 => exact HC1_2.out); rintro e w' ⟨rfl, ⟨nd, rfl⟩⟩))); go_ret; (exact ⟨kq12, (kq45 GE842 GE843)⟩)
    · (replace c5 := Bool.eq_false_iff.mpr c5); subst c5; (have H1 : (some false) = some r := by rw [if_neg (show ¬ (false = true) by decide)] at H; exact H); clear H; (have H := H1); clear H1; (obtain rfl := Option.some.inj H); (go_enter Try.func48, Try.ntmps48); (go_wp2_with (first | ((with_reducible refine gate_dst (N := 2) rfl ?_); refine box_event ?hg (N := 2) ?hd (cs := #[.int .i64 a0_0, .slice A0_1 l0_1.length c0_1, .slice A0_2 l0_2.length c0_2, .int .i64 a0_3, .int .i64 a0_4]) (t := 58) ?hr ?_; (case hd => rfl); (case hg => rfl); (case hr => exact kq11); intro gb842 hg w24 hbox hb; have BK842 := mk (hbox); have GW842 := (gs_ hg kq9); have GE842 := GW842; replace HB := mk (below_step kq9 hb); clear hb hbox hg) | ((with_reducible refine gate_dst (N := 3) rfl ?_); refine box_event ?hg (N := 3) ?hd (cs := #[.int .i64 a1_0, .slice A1_1 l1_1.length c1_1, .slice A1_2 l1_2.length c1_2, .int .i64 a1_3, .int .i64 a1_4]) (t := 58) ?hr ?_; (case hd => rfl); (case hg => rfl); (case hr => exact kq11); intro gb843 hg w25 hbox hb; have BK843 := mk (hbox); have GW843 := (gs_ hg (kq10 GE842)); have GE843 := GW843; have NB842_843 := (nl_ hg BK842); have NB843_842 := (ng_ hg BK842); replace BK842 := (bb_ BK842 hb); replace HB := mk (below_step (kq10 GE842) hb); clear hb hbox hg; have hnb26 := NB842_843.out; have hnc26 := NB843_842.out; obtain ⟨_, _, _, _, _, _, _, _, _, _⟩ := cz5_ BK842.out; obtain ⟨_, _, _, _, _, _, _, _, _, _⟩ := cz5_ BK843.out) | (go_at_call 51; (with_reducible refine (tabardlaw09_same.calls k _ _ l0_1 _ _ l1_1 false _ ?side1 ?side2 ?side3 ?side4 A4.out).mono ?_); (case side1 => exact kq13 HR0_1); (case side2 => exact HC0_1.out); (case side3 => exact kq13 HR1_1); (case side4 => exact HC1_1.out); rintro e w' ⟨rfl, ⟨nd, rfl⟩⟩))); go_ret; (exact ⟨kq12, (kq45 GE842 GE843)⟩)
  · rw [if_neg c3] at H
    have c3b0 := eF_ c3
    have c3b1 := nT_ c3
    obtain rfl := Option.some.inj H
    go_enter Try.func48, Try.ntmps48
    go_wp2_with (first | ((with_reducible refine gate_dst (N := 2) rfl ?_); refine box_event ?hg (N := 2) ?hd (cs := #[.int .i64 a0_0, .slice A0_1 l0_1.length c0_1, .slice A0_2 l0_2.length c0_2, .int .i64 a0_3, .int .i64 a0_4]) (t := 58) ?hr ?_; (case hd => rfl); (case hg => rfl); (case hr => exact kq11); intro gb842 hg w29 hbox hb; have BK842 := mk (hbox); have GW842 := (gs_ hg kq9); have GE842 := GW842; replace HB := mk (below_step kq9 hb); clear hb hbox hg) | ((with_reducible refine gate_dst (N := 3) rfl ?_); refine box_event ?hg (N := 3) ?hd (cs := #[.int .i64 a1_0, .slice A1_1 l1_1.length c1_1, .slice A1_2 l1_2.length c1_2, .int .i64 a1_3, .int .i64 a1_4]) (t := 58) ?hr ?_; (case hd => rfl); (case hg => rfl); (case hr => exact kq11); intro gb843 hg w30 hbox hb; have BK843 := mk (hbox); have GW843 := (gs_ hg (kq10 GE842)); have GE843 := GW843; have NB842_843 := (nl_ hg BK842); have NB843_842 := (ng_ hg BK842); replace BK842 := (bb_ BK842 hb); replace HB := mk (below_step (kq10 GE842) hb); clear hb hbox hg; have hnb31 := NB842_843.out; have hnc31 := NB843_842.out; obtain ⟨_, _, _, _, _, _, _, _, _, _⟩ := cz5_ BK842.out; obtain ⟨_, _, _, _, _, _, _, _, _, _⟩ := cz5_ BK843.out))
    go_ret
    exact ⟨kq12, (kq45 GE842 GE843)⟩
end Go.Proofs.Ytjknpmibdkoklaa.Q
set_option maxRecDepth 100000
namespace Go.Proofs.Ytjknpmibdkoklaa.Q
open Go.RowKit Go.Proofs.YtjknpmibdkoklaaW.PrintWords Go.Proofs.YtjknpmibdkoklaaW.PrintLast Go.Proofs.YtjknpmibdkoklaaW.PrintMore
theorem combT1 (o : Int) (a : Sm) : combT o [a] = if a.2.2.2 ≠ 0 then a else bothS (fun x y => x - y) ([], [], 0, 0) a := rfl
theorem combT2 (o : Int) (a b : Sm) : combT o [a, b] = if a.2.2.2 ≠ 0 then a else if b.2.2.2 ≠ 0 then b else if o = 3 then bothS (fun x y => x + y) a b else if o = 4 then bothS (fun x y => x - y) a b else prodS a b := rfl
theorem okT_tell (t : S66) : okT t = if t.f0 = 0 then decide (t.f1 ≥ 0) && (decide (t.f2.toList = ([] : List UInt8)) && ((t.f3.length : Int) == 0)) else if t.f0 = 1 then (t.f1 == 0) && (nameB t.f2 && ((t.f3.length : Int) == 0)) else if t.f0 = 2 then (t.f1 == 0) && (decide (t.f2.toList = ([] : List UInt8)) && ((t.f3.length : Int) == 1)) else if 3 ≤ t.f0 ∧ t.f0 ≤ 5 then (t.f1 == 0) && (decide (t.f2.toList = ([] : List UInt8)) && ((t.f3.length : Int) == 2)) else false := by
  have fin : ∀ (x p : Int), (if t.f1 = 0 then (if t.f2.toList = ([] : List UInt8) then (some (x == p)) else (some false)) else (some false)).getD false = ((t.f1 == 0) && (decide (t.f2.toList = ([] : List UInt8)) && (x == p))) := by
    intro x p
    by_cases h1 : t.f1 = 0
    · rw [if_pos h1]
      by_cases h2 : t.f2.toList = ([] : List UInt8)
      · rw [if_pos h2]; simp [h1, h2]
      · rw [if_neg h2]; simp [h2]
    · rw [if_neg h1]; simp [h1]
  unfold okT tree_term.f
  by_cases h0 : t.f0 = 0
  · rw [if_pos h0, if_pos h0]
    by_cases h1 : t.f1 ≥ 0
    · rw [if_pos h1, decide_eq_true h1]
      by_cases h2 : t.f2.toList = ([] : List UInt8)
      · rw [if_pos h2]; simp [h2]
      · rw [if_neg h2]; simp [h2]
    · rw [if_neg h1, decide_eq_false h1]; rfl
  · rw [if_neg h0, if_neg h0]
    by_cases h1 : t.f0 = 1
    · rw [if_pos h1, if_pos h1]
      by_cases h2 : t.f1 = 0
      · rw [if_pos h2, h2]
        unfold glyph_Name.f
        rw [Option.bind_some]
        cases nameB t.f2 <;> rfl
      · rw [if_neg h2, beq_eq_false_iff_ne.2 h2]; rfl
    · rw [if_neg h1, if_neg h1]
      by_cases h2 : t.f0 = 2
      · rw [if_pos h2, if_pos h2]; exact fin _ _
      · rw [if_neg h2, if_neg h2]
        by_cases h3 : t.f0 = 3
        · rw [if_pos h3, if_pos (show 3 ≤ t.f0 ∧ t.f0 ≤ 5 by omega)]; exact fin _ _
        · rw [if_neg h3]
          by_cases h4 : t.f0 = 4
          · rw [if_pos h4, if_pos (show 3 ≤ t.f0 ∧ t.f0 ≤ 5 by omega)]; exact fin _ _
          · rw [if_neg h4]
            by_cases h5 : t.f0 = 5
            · rw [if_pos h5, if_pos (show 3 ≤ t.f0 ∧ t.f0 ≤ 5 by omega)]; exact fin _ _
            · rw [if_neg h5, if_neg (show ¬ (3 ≤ t.f0 ∧ t.f0 ≤ 5) by omega)]; rfl
theorem okT_shape {t : S66} (h : okT t = true) : (t.f0 = 0 ∧ t.f3 = []) ∨ (t.f0 = 1 ∧ nameB t.f2 = true ∧ t.f3 = []) ∨ (t.f0 = 2 ∧ ∃ u, t.f3 = [u]) ∨ ((t.f0 = 3 ∨ t.f0 = 4 ∨ t.f0 = 5) ∧ ∃ u v, t.f3 = [u, v]) := by
  have l0 : ((t.f3.length : Int) == 0) = true → t.f3 = [] := fun h => List.eq_nil_of_length_eq_zero (by have := beq_iff_eq.1 h; omega)
  have l1 : ((t.f3.length : Int) == 1) = true → ∃ u, t.f3 = [u] := fun h => List.length_eq_one_iff.1 (by have := beq_iff_eq.1 h; omega)
  have l2 : ((t.f3.length : Int) == 2) = true → ∃ u v, t.f3 = [u, v] := fun h => by
    have hl : t.f3.length = 2 := by have := beq_iff_eq.1 h; omega
    match t.f3, hl with
    | [u, v], _ => exact ⟨u, v, rfl⟩
  rw [okT_tell] at h
  by_cases h0 : t.f0 = 0
  · rw [if_pos h0] at h
    simp only [Bool.and_eq_true] at h
    exact .inl ⟨h0, l0 h.2.2⟩
  · rw [if_neg h0] at h
    by_cases h1 : t.f0 = 1
    · rw [if_pos h1] at h
      simp only [Bool.and_eq_true] at h
      exact .inr (.inl ⟨h1, h.2.1, l0 h.2.2⟩)
    · rw [if_neg h1] at h
      by_cases h2 : t.f0 = 2
      · rw [if_pos h2] at h
        simp only [Bool.and_eq_true] at h
        exact .inr (.inr (.inl ⟨h2, l1 h.2.2⟩))
      · rw [if_neg h2] at h
        by_cases h3 : 3 ≤ t.f0 ∧ t.f0 ≤ 5
        · rw [if_pos h3] at h
          simp only [Bool.and_eq_true] at h
          exact .inr (.inr (.inr ⟨kq1, l2 h.2.2⟩))
        · rw [if_neg h3] at h
          cases h
theorem FitT.num {t : S66} (h : FitT t) : In64 t.f1 := by cases h with | mk h0 h1 h2 h3 h => exact h1
theorem FitT.sub {t : S66} (h : FitT t) : ∀ u ∈ t.f3, FitT u := by cases h with | mk h0 h1 h2 h3 h => exact h
theorem one_in : In64 1 := ⟨kq2, kq2⟩
theorem Wf.name {s : ByteArray} (h : nameB s = true) (n : Nat) (hn : 1 ≤ n) : Wf ([s], [1], 0, 0) n := ⟨fun x hx => by rw [List.mem_singleton.1 hx]; exact h, by simp [Rise], rfl, fun c hc => by rw [List.mem_singleton.1 hc]; exact one_in, in_zero, hn⟩
theorem sumT_wf : ∀ (n : Nat) (t : S66), RightT t → FitT t → cntT t ≤ n → Wf (sumT t) (cntT t)
  | 0, t, _, _, h => absurd (cntT_pos t) kq1
  | n + 1, t, hr, hf, h => by
    have hc : cntT t = 1 + cntTs t.f3 := by cases t; rw [cntT]
    obtain ⟨ho, hs⟩ := RightT_eq hr
    have ih : ∀ u ∈ t.f3, Wf (sumT u) (cntT u) := fun u hu => sumT_wf n u (RightTs_mem hs u hu) (hf.sub u hu) (by have := cntTs_mem u hu; omega)
    rw [sumT_eq]
    rcases okT_shape ho with ⟨h0, hl⟩ | ⟨h1, hn, hl⟩ | ⟨h2, u, hl⟩ | ⟨h3, u, v, hl⟩
    · rw [if_pos h0]
      exact Wf.num hf.num _
    · rw [if_neg kq1, if_pos h1]
      exact Wf.name hn _ (cntT_pos t)
    · rw [if_neg kq1, if_neg kq1]
      rw [hl] at ih hc ⊢
      rw [hc]
      have hu := ih u (.head _)
      simp only [sumTs, combT, cntTs]
      split
      · exact hu.up kq1
      · exact (Wf.both (Wf.num in_zero 0) hu).up kq1
    · rw [if_neg kq1, if_neg kq1]
      rw [hl] at ih hc ⊢
      rw [hc]
      have hu := ih u (.head _)
      have hv := ih v (.tail _ (.head _))
      simp only [sumTs, combT, cntTs]
      split
      · exact hu.up kq1
      · split
        · exact hv.up kq1
        · split
          · exact (Wf.both hu hv).up kq1
          · split
            · exact (Wf.both hu hv).up kq1
            · exact (Wf.prod hu hv).up kq1
theorem rd_one (u : S66) : rd_T66 [u] 0 = u := rfl
theorem rd_two0 (u v : S66) : rd_T66 [u, v] 0 = u := rfl
theorem rd_two1 (u v : S66) : rd_T66 [u, v] 1 = v := rfl
theorem wf_of {s r : Sm} {n : Nat} (h : nrm s = r) (hr : r.2.2.2 = 0) (hw : Wf r n) : Wf s n ∧ s = r := by
  have := nrm_ok h hr
  exact ⟨this ▸ hw, this⟩
theorem worked_ev : ∀ (n : Nat) (t : S66), RightT t → FitT t → cntT t ≤ n → n ≤ 1000 → ∃ s : Sm, Ev (fun k => norm_worked.f k t.f0 t.f1 t.f2 t.f3) s ∧ nrm s = sumT t ∧ Raw s (cntT t)
  | 0, t, _, _, h, _ => absurd (cntT_pos t) kq1
  | n + 1, t, hr, hf, h, hn => by
    have hc : cntT t = 1 + cntTs t.f3 := by cases t; rw [cntT]
    obtain ⟨ho, hs⟩ := RightT_eq hr
    have ih : ∀ u ∈ t.f3, (∃ s : Sm, Ev (fun k => norm_worked.f k u.f0 u.f1 u.f2 u.f3) s ∧ nrm s = sumT u ∧ Raw s (cntT u)) ∧ Wf (sumT u) (cntT u) := fun u hu => by
      have := cntTs_mem u hu
      exact ⟨worked_ev n u (RightTs_mem hs u hu) (hf.sub u hu) kq1 kq1, sumT_wf n u (RightTs_mem hs u hu) (hf.sub u hu) kq1⟩
    rw [sumT_eq]
    rcases okT_shape ho with ⟨h0, hl⟩ | ⟨h1, hn, hl⟩ | ⟨h2, u, hl⟩ | ⟨h3, u, v, hl⟩
    · rw [if_pos h0]
      refine ⟨([], [], t.f1, 0), Ev.step (f := fun _ => some ([], [], t.f1, 0)) (fun k => ?_) (Ev.now _), rfl, (Wf.num hf.num _).raw⟩
      show norm_worked.f (k + 1) t.f0 t.f1 t.f2 t.f3 = _
      conv => lhs; unfold norm_worked.f
      rw [if_pos h0]
    · rw [if_neg kq1, if_pos h1]
      refine ⟨([t.f2], [1], 0, 0), Ev.step (f := fun _ => some ([t.f2], [1], 0, 0)) (fun k => ?_) (Ev.now _), rfl, (Wf.name hn _ (cntT_pos t)).raw⟩
      show norm_worked.f (k + 1) t.f0 t.f1 t.f2 t.f3 = _
      conv => lhs; unfold norm_worked.f
      rw [if_neg kq1, if_pos h1]
    · rw [if_neg kq1, if_neg kq1]
      rw [hl] at ih hc ⊢
      simp only [cntTs] at hc
      obtain ⟨⟨s, es, ns, rs⟩, wu⟩ := ih u (.head _)
      have key : ∃ z : Sm, norm_both.f [] [] 0 0 s.1 s.2.1 s.2.2.1 s.2.2.2 1 = some z ∧ nrm z = combT t.f0 [sumT u] ∧ Raw z (cntT t) := by
        rw [combT1]
        by_cases hb : (sumT u).2.2.2 = 0
        · obtain ⟨ws, rfl⟩ := wf_of ns hb wu
          rw [if_neg (fun h => h hb)]
          obtain ⟨z, z1, z2, z3⟩ := both_sub (a := ([], [], 0, 0)) (Wf.num in_zero 0) wu kq1 kq1 rfl hb
          exact ⟨z, z1, z2, z3.up kq1⟩
        · rw [if_pos hb]
          exact ⟨s, both_b (a := ([], [], 0, 0)) 1 rfl (nrm_bad ns hb), ns, rs.up kq1⟩
      obtain ⟨z, hz, nz⟩ := key
      refine ⟨z, Ev.step (f := fun k => (norm_worked.f k u.f0 u.f1 u.f2 u.f3).bind fun bt => (norm_both.f [] [] 0 0 bt.1 bt.2.1 bt.2.2.1 bt.2.2.2 1).bind fun b => some (b.1, b.2.1, b.2.2.1, b.2.2.2)) (fun k => ?_) (Ev.bind es ?_), nz⟩
      · show norm_worked.f (k + 1) t.f0 t.f1 t.f2 [u] = _
        conv => lhs; unfold norm_worked.f
        rw [if_neg kq1, if_neg kq1, if_pos h2, if_pos (by simp), rd_one]
      · refine Ev.congr (fun k => ?_) (Ev.now z)
        rw [hz]
        rfl
    · rw [if_neg kq1, if_neg kq1]
      rw [hl] at ih hc ⊢
      simp only [cntTs] at hc
      obtain ⟨⟨s, es, ns, rs⟩, wu⟩ := ih u (.head _)
      obtain ⟨⟨s', es', ns', rs'⟩, wv⟩ := ih v (.tail _ (.head _))

      have last : ∀ p q : Sm, (∃ z : Sm, norm_both.f p.1 p.2.1 p.2.2.1 p.2.2.2 q.1 q.2.1 q.2.2.1 q.2.2.2 0 = some z ∧ (t.f0 = 3 → nrm z = combT t.f0 [sumT u, sumT v] ∧ Raw z (cntT t))) →
          (∃ z : Sm, norm_both.f p.1 p.2.1 p.2.2.1 p.2.2.2 q.1 q.2.1 q.2.2.1 q.2.2.2 1 = some z ∧ (t.f0 = 4 → nrm z = combT t.f0 [sumT u, sumT v] ∧ Raw z (cntT t))) →
          (∃ z : Sm, Ev (fun k => norm_product.f k p.1 p.2.1 p.2.2.1 p.2.2.2 q.1 q.2.1 q.2.2.1 q.2.2.2) z ∧ (t.f0 = 5 → nrm z = combT t.f0 [sumT u, sumT v] ∧ Raw z (cntT t))) →
          ∃ z : Sm, Ev (fun k => norm_worked.j0 k t.f0 t.f1 t.f2 [u, v] p.1 p.2.1 p.2.2.1 p.2.2.2 q.1 q.2.1 q.2.2.1 q.2.2.2) z ∧ nrm z = combT t.f0 [sumT u, sumT v] ∧ Raw z (cntT t) := by
        intro p q h1 h2 h3'
        by_cases c3 : t.f0 = 3
        · obtain ⟨z, hz, nz⟩ := h1
          refine ⟨z, Ev.step (f := fun _ => some z) (fun k => ?_) (Ev.now _), nz c3⟩
          conv => lhs; rw [norm_worked.j0]
          rw [if_pos c3, hz]
          rfl
        · by_cases c4 : t.f0 = 4
          · obtain ⟨z, hz, nz⟩ := h2
            refine ⟨z, Ev.step (f := fun _ => some z) (fun k => ?_) (Ev.now _), nz c4⟩
            conv => lhs; rw [norm_worked.j0]
            rw [if_neg c3, if_pos c4, hz]
            rfl
          · obtain ⟨z, hz, nz⟩ := h3'
            refine ⟨z, Ev.step (f := fun k => (norm_product.f k p.1 p.2.1 p.2.2.1 p.2.2.2 q.1 q.2.1 q.2.2.1 q.2.2.2).bind fun b => some (b.1, b.2.1, b.2.2.1, b.2.2.2)) (fun k => ?_) (Ev.bind hz (Ev.now _)), nz kq1⟩
            conv => lhs; rw [norm_worked.j0]
            rw [if_neg c3, if_neg c4]
      by_cases ha : (sumT u).2.2.2 = 0
      · obtain ⟨ws, e1⟩ := wf_of ns ha wu
        subst e1
        have hz : ∃ z : Sm, Ev (fun k => norm_worked.j0 k t.f0 t.f1 t.f2 [u, v] (sumT u).1 (sumT u).2.1 (sumT u).2.2.1 (sumT u).2.2.2 s'.1 s'.2.1 s'.2.2.1 s'.2.2.2) z ∧ nrm z = combT t.f0 [sumT u, sumT v] ∧ Raw z (cntT t) := by
          by_cases hb : (sumT v).2.2.2 = 0
          · obtain ⟨ws', e2⟩ := wf_of ns' hb wv
            subst e2
            obtain ⟨z1, a1, b1, r1⟩ := both_add wu wv kq1 kq1 ha hb
            obtain ⟨z2, a2, b2, r2⟩ := both_sub wu wv kq1 kq1 ha hb
            obtain ⟨z3, a3, b3, r3⟩ := prod_n wu wv kq1 kq1 ha hb
            refine last _ _ ⟨z1, a1, fun c => ?_⟩ ⟨z2, a2, fun c => ?_⟩ ⟨z3, a3, fun c => ?_⟩
            · rw [combT2]; rw [if_neg (fun h => h ha), if_neg (fun h => h hb), if_pos c]; exact ⟨b1, r1.up kq1⟩
            · rw [combT2]; rw [if_neg (fun h => h ha), if_neg (fun h => h hb), if_neg kq1, if_pos c]; exact ⟨b2, r2.up kq1⟩
            · rw [combT2]; rw [if_neg (fun h => h ha), if_neg (fun h => h hb), if_neg kq1, if_neg kq1]; exact ⟨b3, r3.up kq1⟩
          · have hb' := nrm_bad ns' hb
            have hr' : nrm s' = combT t.f0 [sumT u, sumT v] ∧ Raw s' (cntT t) := by rw [combT2]; rw [if_neg (fun h => h ha), if_pos hb]; exact ⟨ns', rs'.up kq1⟩
            exact last _ _ ⟨s', both_b 0 ha hb', fun _ => hr'⟩ ⟨s', both_b 1 ha hb', fun _ => hr'⟩ ⟨s', Ev.congr (fun k => prod_b k ha hb') (Ev.now s'), fun _ => hr'⟩
        obtain ⟨z, ez, nz⟩ := hz
        refine ⟨z, Ev.step (f := fun k => (norm_worked.f k u.f0 u.f1 u.f2 u.f3).bind fun bt => (if bt.2.2.2 = 0 then ((norm_worked.f k v.f0 v.f1 v.f2 v.f3).bind fun b => (norm_worked.j0 k t.f0 t.f1 t.f2 [u, v] bt.1 bt.2.1 bt.2.2.1 bt.2.2.2 b.1 b.2.1 b.2.2.1 b.2.2.2)) else (norm_worked.j0 k t.f0 t.f1 t.f2 [u, v] bt.1 bt.2.1 bt.2.2.1 bt.2.2.2 [] [] 0 0))) (fun k => ?_) (Ev.bind es (Ev.congr (fun k => if_pos ha) (Ev.bind es' ez))), nz⟩
        show norm_worked.f (k + 1) t.f0 t.f1 t.f2 [u, v] = _
        conv => lhs; unfold norm_worked.f
        rw [if_neg kq1, if_neg kq1, if_neg kq1, if_pos (by simp), rd_two0, rd_two1]
        congr 1
      · have ha' := nrm_bad ns ha
        have hr' : nrm s = combT t.f0 [sumT u, sumT v] ∧ Raw s (cntT t) := by rw [combT2]; rw [if_pos ha]; exact ⟨ns, rs.up kq1⟩
        obtain ⟨z, ez, nz⟩ := last s ([], [], 0, 0) ⟨s, both_a 0 ha', fun _ => hr'⟩ ⟨s, both_a 1 ha', fun _ => hr'⟩ ⟨s, Ev.congr (fun k => prod_a k ha') (Ev.now s), fun _ => hr'⟩
        refine ⟨z, Ev.step (f := fun k => (norm_worked.f k u.f0 u.f1 u.f2 u.f3).bind fun bt => (if bt.2.2.2 = 0 then ((norm_worked.f k v.f0 v.f1 v.f2 v.f3).bind fun b => (norm_worked.j0 k t.f0 t.f1 t.f2 [u, v] bt.1 bt.2.1 bt.2.2.1 bt.2.2.2 b.1 b.2.1 b.2.2.1 b.2.2.2)) else (norm_worked.j0 k t.f0 t.f1 t.f2 [u, v] bt.1 bt.2.1 bt.2.2.1 bt.2.2.2 [] [] 0 0))) (fun k => ?_) (Ev.bind es (Ev.congr (fun k => if_neg ha') ez)), nz⟩
        show norm_worked.f (k + 1) t.f0 t.f1 t.f2 [u, v] = _
        conv => lhs; unfold norm_worked.f
        rw [if_neg kq1, if_neg kq1, if_neg kq1, if_pos (by simp), rd_two0, rd_two1]
        congr 1
end Go.Proofs.Ytjknpmibdkoklaa.Q
namespace Go.Proofs.Ytjknpmibdkoklaa.Q
open Go.RowKit Go.Proofs.YtjknpmibdkoklaaW.PrintWords Go.Proofs.YtjknpmibdkoklaaW.PrintLast Go.Proofs.YtjknpmibdkoklaaW.PrintMore
open Aside0 (mk)
open List (setIfInBounds_toArray set_cons_zero set_cons_succ)
attribute [local go_sem] max2_int min2_int max_two min_two max_three min_three max_four min_four
set_option linter.unusedVariables false
set_option linter.unusedSimpArgs false
attribute [local go_sem] fld99_2 fld103_2 fld160_0 fld160_1
def tree_Check.f (a0_0 : Int) (a0_1 : ByteArray) (a0_2 : Int) (l0_3 : List (S66)) (l0_4 : List (S39)) : Option (Int) := (tree_measured.f a0_0 a0_1 a0_2 l0_3 l0_4).bind fun bt107 => (some bt107.2.2)
set_option maxHeartbeats 8000000 in
set_option maxRecDepth 100000 in
theorem tree_Check.calls (a0_0 : Int) (a0_1 : ByteArray) (a0_2 : Int) (A0_3 : Option Addr) (c0_3 : Nat) (l0_3 : List (S66)) (A0_4 : Option Addr) (c0_4 : Nat) (l0_4 : List (S39)) (r : Int) (w : World) (hr0_3 : Kd.C k66 w A0_3 l0_3.length l0_3) (hc0_3 : l0_3.length ≤ c0_3) (hr0_4 : Kd.C k39 w A0_4 l0_4.length l0_4) (hc0_4 : l0_4.length ≤ c0_4) (h : tree_Check.f a0_0 a0_1 a0_2 l0_3 l0_4 = some r) :
    Calls Try.prog 36 #[.agg #[.int .i64 a0_0, .string a0_1, .int .i64 a0_2, .slice A0_3 l0_3.length c0_3, .slice A0_4 l0_4.length c0_4]] w fun e w' => e = .returned (.int .i64 r) ∧ Below w.heap.size w w' := by
  have hu39 := Try.underlying39
  have HR0_3 := mk hr0_3
  have HC0_3 := mk hc0_3
  clear hr0_3 hc0_3
  have HR0_4 := mk hr0_4
  have HC0_4 := mk hc0_4
  clear hr0_4 hc0_4
  have HB := mk (Below.refl w.heap.size w)
  have H : ((tree_measured.f a0_0 a0_1 a0_2 l0_3 l0_4).bind fun bt107 => (some bt107.2.2)) = some r := h
  clear h
  replace H := Option.bind_eq_some_iff.mp H
  obtain ⟨⟨t107, t108, t109⟩, A20, H⟩ := H
  replace H : (some t109) = some r := H
  have A2 := mk A20
  clear A20
  obtain rfl := Option.some.inj H
  go_enter Try.func36, Try.ntmps36
  go_wp2_with (first | ((with_reducible refine gate_dst (N := 1) rfl ?_); refine box_event ?hg (N := 1) ?hd (cs := #[.int .i64 a0_0, .string a0_1, .int .i64 a0_2, .slice A0_3 l0_3.length c0_3, .slice A0_4 l0_4.length c0_4]) (t := 39) ?hr ?_; (case hd => rfl); (case hg => rfl); (case hr => exact kq11); intro gb106 hg w3 hbox hb; have BK106 := mk (hbox); have GW106 := (gs_ hg kq9); have GE106 := GW106; replace HB := mk (below_step kq9 hb); clear hb hbox hg; obtain ⟨_, _, _, _, _, _, _, _, _, _⟩ := cz5_ BK106.out) | ((with_reducible refine gate_callee (f := 76) rfl ?_); refine goesL_ (some 4) rfl rfl Try.func76 kq0 rfl #[.agg #[.int .i64 a0_0, .string a0_1, .int .i64 a0_2, .slice A0_3 l0_3.length c0_3, .slice A0_4 l0_4.length c0_4]] rfl kq7 ?_; (with_reducible refine (tree_measured.calls a0_0 a0_1 a0_2 _ _ l0_3 _ _ l0_4 t107 t108 t109 _ ?side1 ?side2 ?side3 ?side4 A2.out).mono ?_); (case side1 => exact kq13 HR0_3); (case side2 => exact HC0_3.out); (case side3 => exact kq13 HR0_4); (case side4 => exact HC0_4.out); rintro e w5 ⟨rfl, hb⟩; refine ⟨_, rfl, ?_⟩; replace BK106 := (bb_ BK106 hb); replace HB := mk (below_step (kq10 GE106) hb)))
  go_ret
  exact ⟨kq12, (kq10 GE106)⟩
end Go.Proofs.Ytjknpmibdkoklaa.Q
set_option maxRecDepth 100000
namespace Go.Proofs.Ytjknpmibdkoklaa.Q
open Go.RowKit Go.Proofs.YtjknpmibdkoklaaW.PrintWords Go.Proofs.YtjknpmibdkoklaaW.PrintLast Go.Proofs.YtjknpmibdkoklaaW.PrintMore
theorem eta39 (t : S39) : (⟨t.f0, t.f1, t.f2, t.f3, t.f4⟩ : S39) = t := by cases t; rfl
end Go.Proofs.Ytjknpmibdkoklaa.Q
set_option maxRecDepth 100000
namespace Go.Proofs.Ytjknpmibdkoklaa.Q
open Go.RowKit Go.Proofs.YtjknpmibdkoklaaW.PrintWords Go.Proofs.YtjknpmibdkoklaaW.PrintLast Go.Proofs.YtjknpmibdkoklaaW.PrintMore
open Aside0 (mk)
def negP (a : Int) : Int × Int := (chk_Neg.f a).getD (0, 0)
theorem neg_at (a : Int) : chk_Neg.f a = some ((negP a).1, (negP a).2) := by
  unfold negP chk_Neg.f
  rw [sub_at]
  rfl
def restP (c m : Int) : Int × Int := (chk_Rest.f c m).getD (0, 0)
theorem rest9_at (c m : Int) : chk_Rest.f c m = some ((restP c m).1, (restP c m).2) := by
  have h : ∃ p, chk_Rest.f c m = some p := by
    unfold chk_Rest.f
    by_cases h1 : m < 1
    · exact ⟨_, if_pos h1⟩
    · rw [if_neg h1, if_neg kq1]
      split <;> exact ⟨_, rfl⟩
  obtain ⟨p, hp⟩ := h
  unfold restP
  rw [hp]
  rfl
def restsL (m : Int) (cs : List Int) (i : Nat) : List Int := (cs.take i).map (fun c => (restP c m).1) ++ cs.drop i
theorem restsL_zero (m : Int) (cs : List Int) : restsL m cs 0 = cs := by simp [restsL]
theorem restsL_length (m : Int) (cs : List Int) (i : Nat) : (restsL m cs i).length = cs.length := by simp [restsL]; omega
theorem restsL_all (m : Int) (cs : List Int) : restsL m cs cs.length = cs.map fun c => (restP c m).1 := by simp [restsL]
theorem restsL_at (m : Int) (cs : List Int) (i : Nat) (h : i < cs.length) : rdOf 0 (restsL m cs i) (i : Int) = cs[i] := by
  unfold rdOf restsL
  rw [Int.toNat_natCast, List.getD_eq_getElem?_getD, List.getElem?_append_right (by simp; omega)]
  simp [List.getElem?_drop, Nat.min_eq_left (Nat.le_of_lt h), List.getElem?_eq_getElem h]
theorem restsL_set (m : Int) (cs : List Int) (i : Nat) (h : i < cs.length) : (restsL m cs i).set i (restP cs[i] m).1 = restsL m cs (i + 1) := by
  unfold restsL
  rw [List.set_append_right _ _ (by simp; omega), List.take_succ_eq_append_getElem h, List.map_append, List.append_assoc]
  congr 1
  simp only [List.length_map, List.length_take, Nat.min_eq_left (Nat.le_of_lt h), Nat.sub_self]
  rw [List.drop_eq_getElem_cons h]
  rfl
set_option maxHeartbeats 8000000 in
theorem rests_calls (g : Nat) (kd b md : Int) (vn vc : Value) (cs : List Int) (w0 w : World) (hw : w0.heap.size ≤ g) (hB : Below w0.heap.size w0 w) (hg : w.heap[g]? = some (.cells #[.int .i64 kd, vn, vc, .int .i64 b, .int .i64 md] 58 (0, 0))) (hc : Kd.R (Kd.int .i64) 2 w w0.heap.size (fun _ => True) vc cs) (hl : cs.length ≤ 1000000) :
    Calls Try.prog 86 #[.pointer (some ⟨g, 0, none⟩)] w fun e w' => e = .returned (.tuple #[]) ∧ w'.heap[g]? = some (.cells #[.int .i64 kd, vn, vc, .int .i64 (restP b md).1, .int .i64 md] 58 (0, 0)) ∧ Kd.R (Kd.int .i64) 2 w' w0.heap.size (fun _ => True) vc (cs.map fun c => (restP c md).1) ∧ KeepBut w w' g vc.ownBlock ∧ Below w0.heap.size w0 w' := by
  have hu58 := Try.underlying58
  obtain ⟨A, c, rfl⟩ := Kd.R_slice hc
  have BKg := mk hg
  have HLL := mk hl
  have HW := mk hw
  have HRc := mk (show Kd.R (Kd.int .i64) 2 w w0.heap.size (fun _ => True) (.slice A cs.length c) (restsL md cs 0) by rw [restsL_zero]; exact hc)
  have HB := mk hB
  have HK := mk (KeepBut.refl w g (Value.slice A cs.length c).ownBlock)
  clear hg hl hw hc hB
  go_enter Try.func86, Try.ntmps86
  have c0_ : w.cell? ⟨g, 2, none⟩ = some (.slice A cs.length c) := bk_ BKg 2
  go_wp2
  clear c0_
  go_loopg [9] cs.length (fun gq v9 wr => ∃ (i : Nat), v9 = .int .i64 i ∧ Aside0 (i ≤ cs.length) ∧ Aside0 (cs.length - i ≤ gq) ∧ Aside0 (wr.heap[g]? = some (.cells #[.int .i64 kd, vn, .slice A cs.length c, .int .i64 b, .int .i64 md] 58 (0, 0))) ∧ Aside0 (Kd.R (Kd.int .i64) 2 wr w0.heap.size (fun _ => True) (.slice A cs.length c) (restsL md cs i)) ∧ Aside0 (KeepBut w wr g (Value.slice A cs.length c).ownBlock) ∧ Aside0 (Below w0.heap.size w0 wr))
  case atStart => exact ⟨0, rfl, ⟨Nat.zero_le _⟩, ⟨kq1⟩, BKg, HRc, HK, HB⟩
  case round =>
    clear BKg HRc HK HB
    obtain ⟨i, rfl, HI, HQ, BKg, HRc, HK, HB⟩ := hrel
    by_cases hi : i < cs.length
    · have hiz : (i : Int) < (cs.length : Int) := by omega
      have hi0 : (0 : Int) ≤ (i : Int) := by omega
      have hln := restsL_length md cs i
      obtain ⟨h, cap, ev, hbh, hlh, cells_, hcells⟩ := Kd.R_form HRc.out (by rw [hln]; omega)
      injection ev with ev1 ev2 ev3
      subst ev1 ev3
      rw [hln] at ev2
      clear ev2
      have hx := (Kd.R_celln 0 HRc.out (i : Int) hi0 hiz)
      rw [Int.toNat_natCast, show rdOf 0 (restsL md cs i) (i : Int) = cs[i] from restsL_at md cs i hi] at hx
      obtain ⟨hx, hxf⟩ := hx
      have HST := mk (restsL_set md cs i hi)
      have hne : h ≠ g := fun e => by subst e; have q_ := BKg.out.symm.trans hcells; injection q_ with q_; injection q_ with _ q_; exact absurd q_ kq2
      have HNE := mk hne
      have HHG := mk (show w0.heap.size ≤ h from hbh)
      clear hln hcells hlh hbh hne
      generalize cs[i] = x at hx HST
      go_wp2
      refine start_ (n := 16) (S := fun w' => w'.cell? ⟨g, 2, none⟩ = some (.slice (some ⟨h, 0, none⟩) cs.length c) ∧ w'.cell? ⟨g, 4, none⟩ = some (.int .i64 md)) (ds := [15]) #[false,false,false,false,false,false,false,false,false,false,false,false,false,false,false,false] kq0 rfl rfl ⟨bk_ BKg 2, bk_ BKg 4⟩ (fun hHeld => ?_)
      replace BKg : Aside0 (wr.drew.heap[g]? = some (.cells #[.int .i64 kd, vn, .slice (some ⟨h, 0, none⟩) cs.length c, .int .i64 b, .int .i64 md] 58 (0, 0))) := ⟨BKg.out⟩
      replace HRc : Aside0 (Kd.R (Kd.int .i64) 2 wr.drew w0.heap.size (fun _ => True) (.slice (some ⟨h, 0, none⟩) cs.length c) (restsL md cs i)) := ⟨HRc.out⟩
      replace HK : Aside0 (KeepBut w wr.drew g (some h)) := ⟨HK.out⟩
      replace HB : Aside0 (Below w0.heap.size w0 wr.drew) := ⟨below_drew1 HB.out⟩
      generalize wr.drew = w5 at BKg HRc HK HB hHeld ⊢
      refine pu_ 0 15 ?_
      refine pu_ 1 16 ?_
      refine pu_ 2 17 ?_
      refine ta_ 3 18 hHeld ?_
      refine pu_ 4 19 ?_
      refine pu_ 5 20 ?_
      refine pu_ 6 21 ?_
      refine pu_ 7 22 ?_
      refine pu_ 8 23 ?_
      refine ta_ 9 24 hHeld ?_
      refine on_ 10 25 (fun K hK => ?_)
      refine goes_ Try.func124 kq0 rfl #[.int .i64 x, .int .i64 md] (by rfl) rfl rfl kq33 ?_
      refine (chk_Rest.calls x md _ _ _ (rest9_at x md)).mono ?_
      rintro e w6 ⟨rfl, hd⟩
      have hb := hd.below
      clear hd
      refine ⟨_, rfl, ?_⟩
      have m0_ := mk (blk_below BKg.out hb)
      have m1_ := mk (Kd.R_below HRc.out hb)
      have m2_ := mk (KeepBut.trans HK.out (KeepBut.of_below hb g _) (.inl rfl))
      have m3_ := mk (below_then HB.out HB.out.size hb)
      clear BKg HRc HK HB
      have BKg := m0_
      have HRc := m1_
      have HK := m2_
      have HB := m3_
      clear m0_ m1_ m2_ m3_
      clear hb
      refine hK.out _ _ ⟨bk_ BKg 2, bk_ BKg 4⟩ (fun hHeld => ?_)
      clear hK K
      refine norm_ (a' := ?_) ?_ ?_
      rotate_left
      · show Act.put _ (some 25) _ = _
        simp only [Act.put, List.setIfInBounds_toArray, List.set_cons_zero, List.set_cons_succ]
        rfl
      refine pu_ 11 14 ?_
      refine pu_ 12 26 ?_
      refine pu_ 13 27 ?_
      refine pu_ 14 28 ?_
      have hput := Kd.R_putg HRc.out (i : Int) (restP x md).1
      rw [Int.toNat_natCast, HST.out] at hput
      have hxc := (Kd.R_celln 0 HRc.out (i : Int) hi0 hiz)
      rw [Int.toNat_natCast] at hxc
      obtain ⟨hxc, hxg⟩ := hxc
      refine last_ (i := 15) (N := none) #[true,true,true,true,true,true,true,true,true,true,true,true,true,true,true,true] rfl rfl kq0 kq2 (fun K hK => ?_)
      refine skip_ (w1 := ?_) (by rfl) rfl ?_ ?_
      rotate_left
      · go_simp
        rfl
      refine hK.out _ _ ?_
      clear hK K
      refine done_ kq0 ?_
      try go_wp2
      go_roundg (cs.length - (i + 1))
      case measure => have := HQ.out; omega
      case rel =>
        exact ⟨i + 1, by first | rfl | rw [show wrap64 ((i : Int) + 1) = ((i + 1 : Nat) : Int) from by have := HLL.out; unfold wrap64; omega], ⟨kq1⟩, ⟨kq1⟩, ⟨blk_far BKg.out (Ne.symm HNE.out) _⟩, ⟨hput.1⟩, ⟨KeepBut.trans HK.out (KeepBut.of_grown hput.2 g) (.inl rfl)⟩, ⟨HB.out.setCell HHG.out _⟩⟩
    · have hiz : ¬ (i : Int) < (cs.length : Int) := by omega
      have hil : i = cs.length := by have := HI.out; omega
      subst hil
      have HRd := mk (show Kd.R (Kd.int .i64) 2 wr w0.heap.size (fun _ => True) (.slice A cs.length c) (cs.map fun c => (restP c md).1) by have q_ := HRc.out; rw [restsL_all] at q_; exact q_)
      clear HRc
      go_wp2
      refine start_ (n := 16) (S := fun w' => w'.cell? ⟨g, 3, none⟩ = some (.int .i64 b) ∧ w'.cell? ⟨g, 4, none⟩ = some (.int .i64 md)) (ds := [15]) #[false,false,false,false,false,false,false,false,false,false,false,false,false,false,false,false] kq0 rfl rfl ⟨bk_ BKg 3, bk_ BKg 4⟩ (fun hHeld => ?_)
      replace BKg : Aside0 (wr.drew.heap[g]? = some (.cells #[.int .i64 kd, vn, .slice A cs.length c, .int .i64 b, .int .i64 md] 58 (0, 0))) := ⟨BKg.out⟩
      replace HRd : Aside0 (Kd.R (Kd.int .i64) 2 wr.drew w0.heap.size (fun _ => True) (.slice A cs.length c) (cs.map fun c => (restP c md).1)) := ⟨HRd.out⟩
      replace HK : Aside0 (KeepBut w wr.drew g (Value.slice A cs.length c).ownBlock) := ⟨HK.out⟩
      replace HB : Aside0 (Below w0.heap.size w0 wr.drew) := ⟨below_drew1 HB.out⟩
      generalize wr.drew = w5 at BKg HRd HK HB hHeld ⊢
      refine pu_ 0 31 ?_
      refine pu_ 1 32 ?_
      refine pu_ 2 33 ?_
      refine pu_ 3 34 ?_
      refine ta_ 4 35 hHeld ?_
      refine pu_ 5 36 ?_
      refine pu_ 6 37 ?_
      refine pu_ 7 38 ?_
      refine ta_ 8 39 hHeld ?_
      refine on_ 9 40 (fun K hK => ?_)
      refine goes_ Try.func124 kq0 rfl #[.int .i64 b, .int .i64 md] (by rfl) rfl rfl kq33 ?_
      refine (chk_Rest.calls b md _ _ _ (rest9_at b md)).mono ?_
      rintro e w6 ⟨rfl, hd⟩
      have hb := hd.below
      clear hd
      refine ⟨_, rfl, ?_⟩
      have m0_ := mk (blk_below BKg.out hb)
      have m1_ := mk (Kd.R_below HRd.out hb)
      have m2_ := mk (KeepBut.trans HK.out (KeepBut.of_below hb g _) (.inl rfl))
      have m3_ := mk (below_then HB.out HB.out.size hb)
      clear BKg HRd HK HB
      have BKg := m0_
      have HRd := m1_
      have HK := m2_
      have HB := m3_
      clear m0_ m1_ m2_ m3_
      clear hb
      refine hK.out _ _ ⟨bk_ BKg 3, bk_ BKg 4⟩ (fun hHeld => ?_)
      clear hK K
      refine norm_ (a' := ?_) ?_ ?_
      rotate_left
      · show Act.put _ (some 40) _ = _
        simp only [Act.put, List.setIfInBounds_toArray, List.set_cons_zero, List.set_cons_succ]
        rfl
      refine pu_ 10 30 ?_
      refine pu_ 11 41 ?_
      refine pu_ 12 42 ?_
      refine pu_ 13 43 ?_
      refine pu_ 14 44 ?_
      have c3_ : w6.cell? ⟨g, 3, none⟩ = some (.int .i64 b) := bk_ BKg 3
      have f3_ := blk_frozen BKg.out 3
      refine last_ (i := 15) (N := none) #[true,true,true,true,true,true,true,true,true,true,true,true,true,true,true,true] rfl rfl kq0 kq2 (fun K hK => ?_)
      refine skip_ (w1 := ?_) (by rfl) rfl ?_ ?_
      rotate_left
      · go_simp
        rfl
      refine hK.out _ _ ?_
      clear hK K
      refine done_ kq0 ?_
      try go_wp2
      first | go_end0 | ((try simp only [Exit.inBlock, Exit.then]); refine bodyPost_ret (results_none rfl _ _ _) rfl ?_)
      exact ⟨rfl, blk_put BKg.out 3 _ rfl, Kd.R_set HRd.out BKg.out kq2 3 _, KeepBut.set_ HK.out _ _, HB.out.setCell HW.out _⟩
theorem both_own (u0 : Value) (l0 : List ByteArray) (u1 : Value) (l1 : List Int) (ka ea : Int) (v0 : Value) (m0 : List ByteArray) (v1 : Value) (m1 : List Int) (kb eb : Int) (r1 : List ByteArray) (r2 : List Int) (r3 r4 : Int) (w0 w : World) (hB : Below w0.heap.size w0 w) (h0 : Kd.R Kd.string 9 w w0.heap.size (fun _ => True) u0 l0) (h1 : Kd.R (Kd.int .i64) 2 w w0.heap.size (fun _ => True) u1 l1) (h2 : Kd.R Kd.string 9 w w0.heap.size (fun _ => True) v0 m0) (h3 : Kd.R (Kd.int .i64) 2 w w0.heap.size (fun _ => True) v1 m1) (h : norm_both.f l0 l1 ka ea m0 m1 kb eb 1 = some (r1, r2, r3, r4)) :
    Calls Try.prog 82 #[.agg #[u0, u1, .int .i64 ka, .int .i64 ea], .agg #[v0, v1, .int .i64 kb, .int .i64 eb], .func (.func 83) #[] #[]] w fun e w' => ∃ x0 x1 : Value, e = .returned (.agg #[x0, x1, .int .i64 r3, .int .i64 r4]) ∧ Kd.R Kd.string 9 w' w0.heap.size (fun _ => True) x0 r1 ∧ Kd.R (Kd.int .i64) 2 w' w0.heap.size (fun _ => True) x1 r2 ∧ Below w.heap.size w w' := by
  obtain ⟨A0, c0, rfl⟩ := Kd.R_slice h0
  obtain ⟨A1, c1, rfl⟩ := Kd.R_slice h1
  obtain ⟨B0, d0, rfl⟩ := Kd.R_slice h2
  obtain ⟨B1, d1, rfl⟩ := Kd.R_slice h3
  unfold norm_both.f at h
  by_cases ha : ea = 0
  · rw [if_neg (by simp [ha])] at h
    by_cases hb : eb = 0
    · rw [if_neg (by simp [hb])] at h
      split at h
      · rename_i hl
        simp only [if_true, Option.some.injEq, Prod.mk.injEq] at h
        obtain ⟨rfl, rfl, rfl, rfl⟩ := h
        refine (bothSub_core A0 c0 l0 A1 c1 l1 ka ea B0 d0 m0 B1 d1 m1 kb eb w (Kd.R_reads' h0).2.2 (Kd.R_reads' h0).2.1 (Kd.R_reads' h1).2.2 (Kd.R_reads' h1).2.1 (Kd.R_reads' h2).2.2 (Kd.R_reads' h2).2.1 (Kd.R_reads' h3).2.2 (Kd.R_reads' h3).2.1 hl.1 hl.2.1 hl.2.2.1 hl.2.2.2 ha hb).mono ?_
        rintro e w' ⟨x0, x1, rfl, y0, y1, hw⟩
        exact ⟨x0, x1, rfl, Kd.R_lower y0 hB.size, Kd.R_lower y1 hB.size, hw⟩
      · cases h
    · rw [if_pos (by simpa using hb)] at h
      simp only [Option.some.injEq, Prod.mk.injEq] at h
      obtain ⟨rfl, rfl, rfl, rfl⟩ := h
      subst ha
      refine (both_stopb A0 c0 l0 A1 c1 l1 ka B0 d0 m0 B1 d1 m1 kb eb _ w hb).mono ?_
      rintro e w' ⟨rfl, hw⟩
      exact ⟨_, _, rfl, Kd.R_below h2 hw, Kd.R_below h3 hw, hw⟩
  · rw [if_pos (by simpa using ha)] at h
    simp only [Option.some.injEq, Prod.mk.injEq] at h
    obtain ⟨rfl, rfl, rfl, rfl⟩ := h
    refine (both_stopa A0 c0 l0 A1 c1 l1 ka ea B0 d0 m0 B1 d1 m1 kb eb _ w ha).mono ?_
    rintro e w' ⟨rfl, hw⟩
    exact ⟨_, _, rfl, Kd.R_below h0 hw, Kd.R_below h1 hw, hw⟩
end Go.Proofs.Ytjknpmibdkoklaa.Q
