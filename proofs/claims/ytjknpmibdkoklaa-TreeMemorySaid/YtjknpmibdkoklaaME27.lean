/- Functions of the given program as Lean functions, each with its contract, and what they answer; words for it. No condition but those of each. -/
import Derived.Test.YtjknpmibdkoklaaME2
import Derived.Deep.Upon
set_option maxRecDepth 100000
namespace Go.Proofs.Ytjknpmibdkoklaa.Q
open Go.RowKit Go.Proofs.YtjknpmibdkoklaaW.PrintWords Go.Proofs.YtjknpmibdkoklaaW.PrintLast Go.Proofs.YtjknpmibdkoklaaW.PrintMore
open Aside0 (mk)
theorem append_keeps {P : Program} {W : World} (t ty e : TypeId) (i : TypeInfo) (z : Value) (bytes : Nat) (ht : P.underlying t = some (.slice e)) (hi : P.info? e = some i) (hz : i.zero = some z) (hsize : i.size = 1) (hby : i.bytes = bytes) (hzs : z.cells.size = 1)
    {base : Nat} {ok : Nat → Prop} {v : Value} {xs : List ByteArray} (HO : Kd.R Kd.string e W base ok v xs) {x : Value} {m : Nat} {news : List Value} (hs : Src P 1 t x m news W) (h63 : xs.length + m ≤ maxLen) (hbytes : (xs.length + m) * bytes ≤ 140737488355328)
    {v1 : Value} {w1 : World} (hrun : (Builtin.append_ #[t, t] ty #[v, x]).run P W = .ok v1 w1) : ∀ A2 c2, v = .slice A2 xs.length c2 → Kd.C Kd.string w1 A2 xs.length xs := by
  rintro A2 c2 rfl
  obtain ⟨_, hcase⟩ := R_to_own HO
  rcases hcase with ⟨hx, h0⟩ | ⟨g, cap, cur, hx, hbase, hh, h1, h2, h3, h4⟩
  · obtain rfl : xs = [] := List.eq_nil_of_length_eq_zero h0
    exact ⟨rfl, Nat.zero_le _, fun h => absurd h (Nat.lt_irrefl 0)⟩
  · cases hx
    rw [Nat.mul_one] at h3 h4
    have hcell : ∀ j (hj : j < xs.length), W.cell? ⟨g, j, none⟩ = some (.string xs[j]) := fun j hj => by
      rw [blk_cell hh j]
      have h5 : (cur.toList.take xs.length)[j]? = (xs.map Value.string)[j]? := by rw [h4]
      rw [List.getElem?_take, if_pos hj, List.getElem?_map, List.getElem?_eq_getElem hj] at h5
      simpa using h5
    have hc : Came W 1 (some ⟨g, 0, none⟩) g 0 xs.length c2 (xs.map Value.string) := ⟨h1, fun _ => rfl, fun _ => blk_lt hh, by simp, fun j u hj => by
      obtain ⟨hjl, hju⟩ := List.getElem?_eq_some_iff.1 hj
      rw [Nat.zero_add, hcell j (by simpa using hjl), ← hju]
      simp, fun j hj => ⟨by rw [blk_cell hh]; simp; omega, blk_frozen hh _⟩⟩
    obtain ⟨v2, w2, hr2, hU⟩ := run_append_upon hc t t ty i z bytes ht hi hz hsize hby hzs (Upon.start hc) x m news hs (by simpa using h63) (by simpa using hbytes)
    rw [hr2] at hrun
    obtain ⟨rfl, rfl⟩ : v2 = v1 ∧ w2 = w1 := by injection hrun with a b; exact ⟨a, b⟩
    have hm2 : maxLen = 9223372036854775807 := rfl
    refine ⟨rfl, by omega, fun _ => ⟨⟨g, 0, none⟩, rfl, fun j p hj => ⟨[.string p], rfl, rfl, fun k u hk => ?_⟩⟩⟩
    obtain ⟨hjl, hjp⟩ := List.getElem?_eq_some_iff.1 hj
    have hk0 : k = 0 := by
      have := (List.getElem?_eq_some_iff.1 hk).1
      simp at this
      omega
    subst hk0
    have hu2 : Value.string p = u := by simpa using hk
    subst hu2
    have e1 := hU.old (b' := g) (o' := j) (blk_lt hh) (fun j' _ ⟨_, e'⟩ => by omega)
    have e2 : j * Kd.string.sz + 0 = j := by show j * 1 + 0 = j; omega
    rw [e2, Addr.add_lit, Nat.zero_add, e1, hcell j hjl, hjp]
theorem src_of_C {P : Program} {W : World} {t e : TypeId} (ht : P.underlying t = some (.slice e)) {A : Option Addr} {ys : List ByteArray} (h : Kd.C Kd.string W A ys.length ys) (c : Nat) : ∃ news, Src P 1 t (.slice A ys.length c) ys.length news W := by
  cases A with
  | none =>
    have h0 : ys.length = 0 := by
      rcases Nat.eq_zero_or_pos ys.length with h0 | h0
      · exact h0
      · obtain ⟨ad, e', _⟩ := h.2.2 h0; cases e'
    rw [h0]
    exact ⟨[], Src.ofNil W ht c⟩
  | some ad =>
    refine ⟨ys.map Value.string, Src.ofSlice W ht ad ys.length c _ (by simp) (fun j u hj => ?_) (fun u hu => by obtain ⟨s, _, rfl⟩ := List.mem_map.1 hu; rfl)⟩
    obtain ⟨hjl, hju⟩ := List.getElem?_eq_some_iff.1 hj
    have hjl' : j < ys.length := by simpa using hjl
    obtain ⟨ad', e', hc⟩ := h.2.2 (by omega)
    cases e'
    obtain ⟨cs, _, hK, hcc⟩ := hc j ys[j] (List.getElem?_eq_getElem hjl')
    have hK' : cs = [Value.string ys[j]] := hK
    have := hcc 0 (.string ys[j]) (by rw [hK']; rfl)
    rw [show j * Kd.string.sz + 0 = j by show j * 1 + 0 = j; omega] at this
    rw [this, ← hju]
    simp
open Kd in
theorem R_append_rows2 {P : Program} {ops : Array Oper} {o : Oper} {rest : List Oper} {a : Act} {Q : Exit → Act → World → Prop} {Rr : ByteArray → List Value → Prop} {w0 W : World} (base : Nat) (hgd : o.guard = none) (s x : Operand) (t e : TypeId) (z : Value) (bytes : Nat)
    (ho : o.op = .call { callee := .builtin .append, args := #[s, x], argTypes := #[t, t] })
    (ht : P.underlying t = some (.slice e)) (hinfo : (P.info? e).map (fun i => (i.zero, i.size, i.bytes)) = some (some z, Kd.string.sz, bytes)) (hz : z.cells.size = Kd.string.sz) (hs0 : 0 < Kd.string.sz) (hb0 : 0 < bytes)
    (v : Value) (xs ys : List ByteArray) (A : Option Addr) (m c : Nat) (ok okp : Nat → Prop) (hs : a.eval s = v) (hx : a.eval x = .slice A m c)
    (HO : Kd.R Kd.string e W base ok v xs) (HR : ReadsRow Rr Kd.string.sz W A m ys) (hKM : ∀ x cs, Rr x cs → Kd.string.M W base okp x cs) (hokp : ∀ k, okp k → ok k ∧ some k ≠ v.ownBlock) (hfresh : ∀ k, W.heap.size ≤ k → ok k)
    (HB : Below base w0 W) (hbase : base ≤ W.heap.size) (hsrc : ∃ news, Src P 1 t (.slice A m c) m news W) (hl : (xs.length + m) * bytes ≤ 140737488355328)
    (h : ∀ v1 w1, Kd.R Kd.string e w1 base ok v1 (xs ++ ys) → Below base w0 w1 → W.grownBy w1 v.ownBlock → (v1.ownBlock = v.ownBlock ∨ ∃ b, v1.ownBlock = some b ∧ W.heap.size ≤ b) → (∀ A2 c2, v = .slice A2 xs.length c2 → Kd.C Kd.string w1 A2 xs.length xs) → wpList P ops Q rest (a.put o.dst v1) w1) :
    wpList P ops Q (o :: rest) a W := by
  have HO_ := HO
  obtain ⟨i0, hi, hzz⟩ := Option.map_eq_some_iff.1 hinfo
  simp only [Prod.mk.injEq] at hzz
  obtain ⟨hz0, hz1, hz2⟩ := hzz
  have hm : ys.length = m := HR.1
  have hlen : xs.length + m ≤ 140737488355328 := Nat.le_trans (Nat.le_mul_of_pos_right _ hb0) hl
  obtain ⟨hok, inner, hown, hr⟩ := HO
  have hrun : ∃ v1 w1, (Builtin.append_ #[t, t] o.type #[v, .slice A m c]).run P W = .ok v1 w1 ∧ Kd.R Kd.string e w1 base ok v1 (xs ++ ys) ∧ W.grownBy w1 v.ownBlock ∧ (v1.ownBlock = v.ownBlock ∨ ∃ b, v1.ownBlock = some b ∧ W.heap.size ≤ b) := by
    rcases A with _ | ad
    · have h0 : m = 0 := by
        rcases Nat.eq_zero_or_pos m with h0 | h0
        · exact h0
        · obtain ⟨ad, h, _⟩ := HR.2.2 h0
          cases h
      subst h0
      obtain rfl : ys = [] := List.eq_nil_of_length_eq_zero hm
      refine ⟨v, W, ?_, by rw [List.append_nil]; exact ⟨hok, inner, hown, hr⟩, World.grownBy.refl W _, .inl rfl⟩
      rcases hown.2 with ⟨rfl, hn⟩ | ⟨g, cap, cur, rfl, _, _, hnc, _⟩
      · simp [Builtin.append_, run_underlying ht, sizeOf, typeInfo, hi, Builtin.lenOf, Builtin.firstCells]
      · simp [Builtin.append_, run_underlying ht, sizeOf, typeInfo, hi, Builtin.lenOf, Builtin.firstCells, hnc, storeCells]
    · obtain ⟨news, hnr, hnc⟩ := ReadsRow.inner_ HR
      have hnM : Reps (Kd.string.M W base okp) Kd.string.sz ys news := hnr.imp_ (fun p c hp => hKM p c hp)
      have hone : ∀ u ∈ news, u.oneCell' = true := by
        intro u hu
        obtain ⟨q, hq, rfl⟩ := List.mem_iff_getElem.1 hu
        have hql : q / Kd.string.sz < ys.length := by
          rw [Nat.div_lt_iff_lt_mul hs0]
          rw [← hnM.1]
          exact hq
        have hc := hnM.2 (q / Kd.string.sz) _ (List.getElem?_eq_getElem hql)
        refine Kd.string.K_one (Kd.string.K_of_M hc) _ ?_
        rw [List.mem_iff_getElem?]
        refine ⟨q % Kd.string.sz, ?_⟩
        rw [List.getElem?_take, if_pos (Nat.mod_lt _ hs0), List.getElem?_drop, Nat.mul_comm, Nat.div_add_mod, List.getElem?_eq_getElem hq]
      obtain ⟨v1, w1, hrun, h2, hg, _, hat⟩ := run_append_own_at (P := P) W base t o.type e i0 z Kd.string.sz bytes ht hi hz0 hz1 hz2 hz hs0 v xs.length inner hown ad m c news (by rw [hnM.1, hm]) hnc hone (by simp only [maxLen]; omega) hl hbase
      have hat' : v1.ownBlock = v.ownBlock ∨ ∃ b, v1.ownBlock = some b ∧ W.heap.size ≤ b := by
        rcases hat with hat | hat
        · exact .inl hat
        · exact .inr ⟨_, hat, Nat.le_refl _⟩
      have hne : ∀ k, some k ≠ v.ownBlock → k < W.heap.size → some k ≠ v1.ownBlock := by
        intro k hk hlt
        rcases hat' with hat | ⟨b, hb, hle⟩
        · rw [hat]; exact hk
        · rw [hb]
          intro he
          injection he with he
          omega
      have step : ∀ {q : ByteArray} {c : List Value} {o : Nat → Prop}, Kd.string.M W base o q c → (∀ k, o k → ok k ∧ some k ≠ v.ownBlock) → Kd.string.M w1 base (fun k => ok k ∧ some k ≠ v1.ownBlock) q c := by
        intro q c o hq ho
        have h1 := Kd.string.M_move (w1 := w1) (fun k hk => hg.block k hk.2.2.1 (ho k hk.1).2) (Kd.string.M_bound hq)
        exact Kd.string.M_mono (fun k hk => ⟨(ho k hk.1).1, hne k (ho k hk.1).2 hk.2.2.1⟩) h1
      refine ⟨v1, w1, hrun, ⟨fun k hk => ?_, inner ++ news, by rw [List.length_append, hm]; exact h2, reps_append (hr.imp_ (fun _ _ hq => step hq (fun _ hk => hk))) (hnM.imp_ (fun _ _ hq => step hq hokp))⟩, hg, hat'⟩
      rcases hat' with hat | ⟨b, hb, hle⟩
      · exact hok k (hat ▸ hk)
      · rw [hb] at hk
        injection hk with hk
        exact hfresh k (by omega)
  obtain ⟨v1, w1, hr1, h1, hg, hat⟩ := hrun
  refine wpList_plain hgd fun K hK => ?_
  unfold Oper.wp execOp
  simp only [ho, resolve, invoke, builtin, Sem.run_bind, Sem.run_pure, Result.andThen_ok, List.map_toArray, List.map_cons, List.map_nil, hs, hx, hr1]
  exact hK _ _ (h v1 w1 h1 (HB.grown hg hbase (own_base hown)) hg hat (by obtain ⟨news, hs⟩ := hsrc; exact append_keeps t o.type e i0 z bytes ht hi hz0 hz1 hz2 hz HO_ hs (by simp only [maxLen]; omega) hl hr1))
end Go.Proofs.Ytjknpmibdkoklaa.Q
