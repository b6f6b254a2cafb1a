/- Functions of the given program as Lean functions, each with its contract, and what they answer; words for it. No condition but those of each. -/
import Derived.Test.YtjknpmibdkoklaaMD3
import Derived.Test.YtjknpmibdkoklaaMD2
namespace Go.Proofs.Ytjknpmibdkoklaa.Q
open Go.RowKit Go.Lib Go.Sort Go.Proofs.YtjknpmibdkoklaaW.PrintWords Go.Proofs.YtjknpmibdkoklaaW.PrintLast Go.Proofs.YtjknpmibdkoklaaW.PrintMore
open Aside0 (mk)
def delS (l : List ByteArray) (x : ByteArray) : List ByteArray := l.filter fun y => !decide (y = x)
theorem del1_calls (gb : Nat) (x a : ByteArray) (x0 x2 x3 x4 : Value) (W : World) (hbk : W.heap[gb]? = some (.cells #[x0, .string a, x2, x3, x4] 39 (0, 0))) :
    Calls Try.prog 111 #[.string x, .pointer (some ⟨gb, 0, none⟩)] W fun e w' => e = .returned (.bool (decide (x = a))) ∧ ∃ q, w' = W.drewN q := by
  have hc : W.cell? ⟨gb, 1, none⟩ = some (.string a) := (blk_cell hbk 1).trans rfl
  have hf := blk_frozen hbk 1
  clear hbk
  go_enter Try.func111, Try.ntmps111
  by_cases hx : x = a
  · subst hx
    go_wp2
    go_ret
    exact ⟨by simp, 0, rfl⟩
  · have hx2 : ¬ x.toList = a.toList := fun e => hx (by cases x; cases a; simpa [ByteArray.toList_eq] using e)
    go_wp2
    go_ret
    exact ⟨by simp [hx, hx2], 0, rfl⟩
theorem encStr_cell : OneCell encStr := fun _ => rfl
theorem filter_bl (l : List ByteArray) (x : ByteArray) : ((l.map bl).filter fun y => !decide (lb y = x)) = (delS l x).map bl := by
  unfold delS
  rw [List.filter_map]
  refine congrArg (List.map bl) (congrArg (fun q => List.filter q l) (funext fun y => ?_))
  show (!decide (lb (bl y) = x)) = _
  rw [lb_bl]
def slices_DeleteFunc_string_string.f (l0 : List ByteArray) (a1 : ByteArray) : Option (List ByteArray) := if l0.length ≤ 9223372036854775807 then some (delS l0 a1) else none
theorem slices_DeleteFunc_string_string.calls (gb : Nat) (x0 x2 x3 x4 : Value) (P0_ : Nat → Prop) (u9000_ : Value) (l0 : List ByteArray) (a1 : ByteArray) (r : List ByteArray) (w0 w : World) (hbk : w.heap[gb]? = some (.cells #[x0, .string a1, x2, x3, x4] 39 (0, 0))) (hB : Below w0.heap.size w0 w) (ho0 : Kd.R Kd.string 9 w w0.heap.size P0_ u9000_ l0) (h : slices_DeleteFunc_string_string.f l0 a1 = some r) :
    Calls Try.prog 110 #[u9000_, .func (.func 111) #[] #[.pointer (some ⟨gb, 0, none⟩)]] w fun e w' => ∃ v0_ : Value, e = .returned (v0_) ∧ Kd.R Kd.string 9 w' w0.heap.size (fun k_ => (P0_ k_ ∨ w.heap.size ≤ k_)) v0_ r ∧ Below w0.heap.size w0 w' ∧ Kept w w' (fun k_ => P0_ k_) := by
  unfold slices_DeleteFunc_string_string.f at h
  by_cases hb : l0.length ≤ 9223372036854775807
  · rw [if_pos hb] at h
    obtain rfl := Option.some.inj h
    have hne : some gb ≠ u9000_.ownBlock := Kd.R_ne ho0 hbk (by decide)
    have hrow := R_to_own ho0
    have hok := ho0.1
    obtain ⟨_, hcase⟩ := hrow
    have eg : ∀ args w, (callFunc 111 args).run Try.prog w = .ok (.enter 111 args) w := enters_of Try.func111 (by kernel_rfl) rfl
    rcases hcase with ⟨rfl, h0⟩ | ⟨g, cap, cur, rfl, hbase, hh, h1, h2, h3, h4⟩
    · obtain rfl : l0 = [] := List.eq_nil_of_length_eq_zero h0
      have hI := fun fv w => AnyE.slices_IndexFunc_empty (show SlLaysH.n6 Try.prog Try.laysH10_ren from { Try.laysH10 with }) none 0 fv w
      have HB := mk hB
      clear hB ho0 hok hne hbk
      go_enter Try.func110, Try.ntmps110
      go_wp2_with (go_at_call 102; refine (hI _ _).mono ?_; rintro e w' ⟨rfl, rfl⟩)
      go_ret
      exact ⟨_, rfl, Kd.R_nil _ _ _ _ _, by repeat (first | (with_reducible first | exact HB.out | apply below_alloc | apply pw_below_drewN | apply below_drew1) | exact HB.out), by first | exact Kept.refl _ _ | exact ⟨Nat.le_refl _, fun _ _ _ => rfl⟩⟩
    · have hl : ((l0.map bl)).length = l0.length := by simp
      have hgb : gb ≠ g := fun e => hne (by rw [e]; rfl)
      have hH : Holds encStr w g 0 (l0.map bl).toArray := holds_of_block hh (by rw [hl, ← map_str]; simpa using h4)
      have hp : PredAt Try.prog 111 #[.pointer (some ⟨gb, 0, none⟩)] encStr (fun x => decide (lb x = a1)) w := fun W x hW => del1_calls gb (lb x) a1 x0 x2 x3 x4 W (blk_below hbk hW)
      have hpo : PredOver Try.prog 111 #[.pointer (some ⟨gb, 0, none⟩)] encStr (fun x => decide (lb x = a1)) g 0 (l0.map bl).toArray.size w := fun n os dk x hs =>
        del1_calls gb (lb x) a1 x0 x2 x3 x4 _ (blk_grown hbk (grownBy_sorted (w := w) (g := g) (n := n) (os := os) dk) (fun e => hgb (Option.some.inj e)))
      have hcall := AnyE.slices_DeleteFunc Try.laysH10 encStr encStr_cell (fun x => decide (lb x = a1)) 111 #[.pointer (some ⟨gb, 0, none⟩)] eg [] Try.zeroValue9 g 0 cap (l0.map bl).toArray w hp hpo hH (by simpa using hb) (by simpa using h1)
      simp only [List.size_toArray, hl] at hcall
      rw [filter_bl] at hcall
      refine hcall.mono fun e w' ⟨he, n, hw⟩ => ?_
      have hle : (delS l0 a1).length ≤ l0.length := List.length_filter_le _ _
      have hts : ((delS l0 a1).map bl ++ List.replicate (l0.length - ((delS l0 a1).map bl).length) []).length = (l0.map bl).length := by rw [List.length_append, List.length_replicate, hl, List.length_map]; omega
      have hrow2 := ownsRow_sorted (n := n) (os := #[]) (e := 9) (base := w0.heap.size) (ss := l0.map bl) hts hbase hh (by rw [hl]; exact h1) h2 (by simpa using h3)
      have hg0 : grow (putRow encStr (Sort.ahead w n) g 0 ((delS l0 a1).map bl ++ List.replicate (l0.length - ((delS l0 a1).map bl).length) []).toArray) #[] = w' := by rw [hw]; exact grow_none _
      rw [hl, map_enc] at hrow2
      have hgr := grownBy_sorted (w := w) (g := g) (n := n) (os := #[]) ((delS l0 a1).map bl ++ List.replicate (l0.length - ((delS l0 a1).map bl).length) []).toArray
      rw [hg0] at hrow2 hgr
      refine ⟨_, he, R_of_own (fun k hk => .inl (hok k hk)) ?_, hB.grown hgr hB.size (fun k hk => by cases hk; exact hbase), ⟨hgr.size, fun i hi hn => hgr.block i hi (fun e => hn (hok i (by rw [e]; rfl)))⟩⟩
      obtain ⟨_, hc2⟩ := hrow2
      rcases hc2 with ⟨hx, _⟩ | ⟨g', cap', cur', hx, hbase', hh', h1', h2', h3', h4'⟩
      · cases hx
      · cases hx
        refine ⟨by simp, .inr ⟨g, cap, cur', by simp, hbase', hh', by omega, h2', h3', ?_⟩⟩
        rw [Nat.mul_one] at h4' ⊢
        have h5 := congrArg (List.take (delS l0 a1).length) h4'
        rw [List.take_take, Nat.min_eq_left hle, List.map_append, List.map_append, List.take_append_of_le_length (by simp), map_lb_bl] at h5
        exact h5.trans (List.take_of_length_le (by simp))
  · rw [if_neg hb] at h
    cases h
end Go.Proofs.Ytjknpmibdkoklaa.Q
