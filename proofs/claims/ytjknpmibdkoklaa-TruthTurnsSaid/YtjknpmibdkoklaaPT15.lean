/- Functions of the given program as Lean functions, each with its contract, and what they answer; words for it. No condition but those of each. -/
import Derived.Test.YtjknpmibdkoklaaPTS
import Derived.Test.YtjknpmibdkoklaaPT11
import Derived.Test.YtjknpmibdkoklaaPT6
import Derived.Test.YtjknpmibdkoklaaPT13
import Derived.Test.YtjknpmibdkoklaaPT14
import Derived.LoopTactic
import Derived.Shelf.Abstract
import Derived.Deep.CutBlock
import Derived.ChangeArms
import Derived.SizedLaws
import Derived.DataShut
import Derived.DataElems
set_option linter.unusedVariables false
set_option linter.unusedSimpArgs false
set_option maxRecDepth 100000
namespace Go.Proofs.Ytjknpmibdkoklaa.U
open Go.RowKit Go.Proofs.YtjknpmibdkoklaaW.PrintWords Go.Proofs.YtjknpmibdkoklaaW.PrintLast Go.Proofs.YtjknpmibdkoklaaW.PrintMore
open Aside0 (mk)
section
variable {P : Program} {ops : Array Oper} {rest : List Oper} {o : Oper} {a : Act} {Q : Exit → Act → World → Prop}
theorem lit_event {W : World} (hgd : o.guard = none) {N : Tmp} (_hd : o.dst = some N) {cs : Array Value} {n : Nat} {e : TypeId}
    (hrun : (execOp a.eval o).run P W = .ok (.value (.slice (some ⟨W.heap.size, 0, none⟩) n n)) (W.alloc (.cells cs e (0, 0))))
    (h : ∀ g, g = W.heap.size → ∀ w1, w1.heap[g]? = some (.cells cs e (0, 0)) → Below W.heap.size W w1 → wpList P ops Q rest (a.put o.dst (.slice (some ⟨g, 0, none⟩) n n)) w1) : wpList P ops Q (o :: rest) a W :=
  Kd.event_run hgd hrun (h _ rfl _ (blk_new W _) (below_alloc (Below.refl _ _) _))
end
theorem pair_C {W : World} {g : Nat} {t u : S66} {A B : Option Addr} {c d : Nat} (hb : W.heap[g]? = some (.cells #[.int .i64 t.f0, .int .i64 t.f1, .string t.f2, .slice A t.f3.length c, .int .i64 u.f0, .int .i64 u.f1, .string u.f2, .slice B u.f3.length d] 66 (0, 0))) (ht : Kd.C k66 W A t.f3.length t.f3) (hc : t.f3.length ≤ c) (hu : Kd.C k66 W B u.f3.length u.f3) (hd : u.f3.length ≤ d) : Kd.C k66 W (some ⟨g, 0, none⟩) ([t, u] : List S66).length [t, u] := by
  refine ⟨rfl, by simp, fun _ => ⟨_, rfl, fun j x hj => ?_⟩⟩
  match j, hj with
  | 0, hj =>
    obtain rfl : t = x := by simpa using hj
    refine ⟨[.int .i64 t.f0, .int .i64 t.f1, .string t.f2, .slice A t.f3.length c], rfl, k66_mk W t hc ht, fun i v hv => ?_⟩
    match i, hv with
    | 0, hv => rw [add_plain]; exact (blk_cell hb 0).trans hv
    | 1, hv => rw [add_plain]; exact (blk_cell hb 1).trans hv
    | 2, hv => rw [add_plain]; exact (blk_cell hb 2).trans hv
    | 3, hv => rw [add_plain]; exact (blk_cell hb 3).trans hv
  | 1, hj =>
    obtain rfl : u = x := by simpa using hj
    refine ⟨[.int .i64 u.f0, .int .i64 u.f1, .string u.f2, .slice B u.f3.length d], rfl, k66_mk W u hd hu, fun i v hv => ?_⟩
    match i, hv with
    | 0, hv => rw [add_plain]; exact (blk_cell hb 4).trans hv
    | 1, hv => rw [add_plain]; exact (blk_cell hb 5).trans hv
    | 2, hv => rw [add_plain]; exact (blk_cell hb 6).trans hv
    | 3, hv => rw [add_plain]; exact (blk_cell hb 7).trans hv
set_option maxHeartbeats 8000000 in
theorem turns_bad (k : Nat) (t u : S66) (At : Option Addr) (ct : Nat) (Au : Option Addr) (cu : Nat) (A2 : Option Addr) (c2 : Nat) (l2 : List Int) (a3 : Int) (w : World) (ht : Kd.C k66 w At t.f3.length t.f3) (hct : t.f3.length ≤ ct) (hu : Kd.C k66 w Au u.f3.length u.f3) (hcu : u.f3.length ≤ cu) (hr2 : Kd.C (Kd.int .i64) w A2 l2.length l2) (hc2 : l2.length ≤ c2) (hF : tabardlaw10_fixed.f k = some true) {a b nm : List ByteArray} {e i j : Int} (hN1 : tree_Names.f k t.f0 t.f1 t.f2 t.f3 = some (a, e)) (hN2 : tree_Names.f k u.f0 u.f1 u.f2 u.f3 = some (b, i)) (hU : glyph_Union.f k a b = some (nm, j)) (h : e ≠ 0 ∨ i ≠ 0) :
    Calls Try.prog 17 #[.agg #[.int .i64 t.f0, .int .i64 t.f1, .string t.f2, .slice At t.f3.length ct], .agg #[.int .i64 u.f0, .int .i64 u.f1, .string u.f2, .slice Au u.f3.length cu], .slice A2 l2.length c2, .int .i64 a3] w fun e w' => e = .returned (.bool true) ∧ Below w.heap.size w w' := by
  have hu66 := Try.underlying66
  have HRt := mk ht
  have HCt := mk hct
  have HRu := mk hu
  have HCu := mk hcu
  have HR2 := mk hr2
  have HC2 := mk hc2
  have HF := mk hF
  have HN1 := mk hN1
  have HN2 := mk hN2
  have HU := mk hU
  have HB := mk (Below.refl w.heap.size w)
  clear ht hct hu hcu hr2 hc2 hF hN1 hN2 hU
  by_cases he : e = 0
  · have hi : i ≠ 0 := h.resolve_left (fun h' => h' he)
    subst he
    have b1 : ((0 : Int) != 0) = false := by decide
    have b2 : (i != 0) = true := bne_iff_ne.mpr hi
    clear h hi
    go_enter Try.func17, Try.ntmps17
    go_wp2_with (first | ((with_reducible refine gate_dst (N := 4) rfl ?_); refine box_event ?hg (N := 4) ?hd (cs := #[.int .i64 t.f0, .int .i64 t.f1, .string t.f2, .slice At t.f3.length ct]) (t := 66) ?hr ?_; (case hd => rfl); (case hg => rfl); (case hr => exact kq6); intro g4 hgb w4 hbox hb; replace HB := mk (below_step HB.out hb); have BK4 := mk hbox; clear hb hbox hgb; obtain ⟨_, _, _, _, _, _, _, _⟩ := c4_ BK4.out) | ((with_reducible refine gate_dst (N := 5) rfl ?_); refine box_event ?hg (N := 5) ?hd (cs := #[.int .i64 u.f0, .int .i64 u.f1, .string u.f2, .slice Au u.f3.length cu]) (t := 66) ?hr ?_; (case hd => rfl); (case hg => rfl); (case hr => exact kq6); intro g5 hgb w5 hbox hb; replace HB := mk (below_step HB.out hb); replace BK4 := mk (blk_below BK4.out hb); have BK5 := mk hbox; clear hb hbox hgb; obtain ⟨_, _, _, _, _, _, _, _⟩ := c4_ BK4.out; obtain ⟨_, _, _, _, _, _, _, _⟩ := c4_ BK5.out) | (go_at_call 56; refine (tabardlaw10_fixed.calls k true _ HF.out).mono ?_; rintro e_ w_ ⟨rfl, hb⟩; replace HB := mk (below_step HB.out hb); replace BK4 := mk (blk_below BK4.out hb); replace BK5 := mk (blk_below BK5.out hb); clear hb; obtain ⟨_, _, _, _, _, _, _, _⟩ := c4_ BK4.out; obtain ⟨_, _, _, _, _, _, _, _⟩ := c4_ BK5.out) | (go_at_call 57; (fail_if_success (have h_ := CA)); refine (tree_Names.calls k t.f0 t.f1 t.f2 At ct t.f3 a _ _ (Kd.C_below HRt.out HB.out) HCt.out HN1.out).mono ?_; rintro e_ w_ ⟨v_, rfl, hr_, hb⟩; obtain ⟨Aa, ca, e_⟩ := Kd.R_slice hr_; subst e_; have CA := mk (Kd.R_reads' hr_).2.2; have CAl := mk (Kd.R_reads' hr_).2.1; clear hr_; replace HB := mk (below_step HB.out hb); replace BK4 := mk (blk_below BK4.out hb); replace BK5 := mk (blk_below BK5.out hb); clear hb; obtain ⟨_, _, _, _, _, _, _, _⟩ := c4_ BK4.out; obtain ⟨_, _, _, _, _, _, _, _⟩ := c4_ BK5.out) | (go_at_call 57; refine (tree_Names.calls k u.f0 u.f1 u.f2 Au cu u.f3 b _ _ (Kd.C_below HRu.out HB.out) HCu.out HN2.out).mono ?_; rintro e_ w_ ⟨v_, rfl, hr_, hb⟩; obtain ⟨Ab, cb, e_⟩ := Kd.R_slice hr_; subst e_; have CB := mk (Kd.R_reads' hr_).2.2; have CBl := mk (Kd.R_reads' hr_).2.1; clear hr_; replace HB := mk (below_step HB.out hb); replace BK4 := mk (blk_below BK4.out hb); replace BK5 := mk (blk_below BK5.out hb); replace CA := mk (Kd.C_below CA.out hb); clear hb; obtain ⟨_, _, _, _, _, _, _, _⟩ := c4_ BK4.out; obtain ⟨_, _, _, _, _, _, _, _⟩ := c4_ BK5.out) | (go_at_call 21; refine (glyph_Union.calls k Aa ca a Ab cb b nm _ _ CA.out CAl.out CB.out CBl.out HU.out).mono ?_; rintro e_ w_ ⟨v_, rfl, hr_, hb⟩; obtain ⟨An, cn, e_⟩ := Kd.R_slice hr_; subst e_; have CN := mk (Kd.R_reads' hr_).2.2; have CNl := mk (Kd.R_reads' hr_).2.1; clear hr_; replace HB := mk (below_step HB.out hb); replace BK4 := mk (blk_below BK4.out hb); replace BK5 := mk (blk_below BK5.out hb); replace CA := mk (Kd.C_below CA.out hb); replace CB := mk (Kd.C_below CB.out hb); clear hb; obtain ⟨_, _, _, _, _, _, _, _⟩ := c4_ BK4.out; obtain ⟨_, _, _, _, _, _, _, _⟩ := c4_ BK5.out))
    go_ret
    exact ⟨rfl, kq4⟩
  · have b1 : (e != 0) = true := bne_iff_ne.mpr he
    clear h he
    go_enter Try.func17, Try.ntmps17
    go_wp2_with (first | ((with_reducible refine gate_dst (N := 4) rfl ?_); refine box_event ?hg (N := 4) ?hd (cs := #[.int .i64 t.f0, .int .i64 t.f1, .string t.f2, .slice At t.f3.length ct]) (t := 66) ?hr ?_; (case hd => rfl); (case hg => rfl); (case hr => exact kq6); intro g4 hgb w4 hbox hb; replace HB := mk (below_step HB.out hb); have BK4 := mk hbox; clear hb hbox hgb; obtain ⟨_, _, _, _, _, _, _, _⟩ := c4_ BK4.out) | ((with_reducible refine gate_dst (N := 5) rfl ?_); refine box_event ?hg (N := 5) ?hd (cs := #[.int .i64 u.f0, .int .i64 u.f1, .string u.f2, .slice Au u.f3.length cu]) (t := 66) ?hr ?_; (case hd => rfl); (case hg => rfl); (case hr => exact kq6); intro g5 hgb w5 hbox hb; replace HB := mk (below_step HB.out hb); replace BK4 := mk (blk_below BK4.out hb); have BK5 := mk hbox; clear hb hbox hgb; obtain ⟨_, _, _, _, _, _, _, _⟩ := c4_ BK4.out; obtain ⟨_, _, _, _, _, _, _, _⟩ := c4_ BK5.out) | (go_at_call 56; refine (tabardlaw10_fixed.calls k true _ HF.out).mono ?_; rintro e_ w_ ⟨rfl, hb⟩; replace HB := mk (below_step HB.out hb); replace BK4 := mk (blk_below BK4.out hb); replace BK5 := mk (blk_below BK5.out hb); clear hb; obtain ⟨_, _, _, _, _, _, _, _⟩ := c4_ BK4.out; obtain ⟨_, _, _, _, _, _, _, _⟩ := c4_ BK5.out) | (go_at_call 57; (fail_if_success (have h_ := CA)); refine (tree_Names.calls k t.f0 t.f1 t.f2 At ct t.f3 a _ _ (Kd.C_below HRt.out HB.out) HCt.out HN1.out).mono ?_; rintro e_ w_ ⟨v_, rfl, hr_, hb⟩; obtain ⟨Aa, ca, e_⟩ := Kd.R_slice hr_; subst e_; have CA := mk (Kd.R_reads' hr_).2.2; have CAl := mk (Kd.R_reads' hr_).2.1; clear hr_; replace HB := mk (below_step HB.out hb); replace BK4 := mk (blk_below BK4.out hb); replace BK5 := mk (blk_below BK5.out hb); clear hb; obtain ⟨_, _, _, _, _, _, _, _⟩ := c4_ BK4.out; obtain ⟨_, _, _, _, _, _, _, _⟩ := c4_ BK5.out) | (go_at_call 57; refine (tree_Names.calls k u.f0 u.f1 u.f2 Au cu u.f3 b _ _ (Kd.C_below HRu.out HB.out) HCu.out HN2.out).mono ?_; rintro e_ w_ ⟨v_, rfl, hr_, hb⟩; obtain ⟨Ab, cb, e_⟩ := Kd.R_slice hr_; subst e_; have CB := mk (Kd.R_reads' hr_).2.2; have CBl := mk (Kd.R_reads' hr_).2.1; clear hr_; replace HB := mk (below_step HB.out hb); replace BK4 := mk (blk_below BK4.out hb); replace BK5 := mk (blk_below BK5.out hb); replace CA := mk (Kd.C_below CA.out hb); clear hb; obtain ⟨_, _, _, _, _, _, _, _⟩ := c4_ BK4.out; obtain ⟨_, _, _, _, _, _, _, _⟩ := c4_ BK5.out) | (go_at_call 21; refine (glyph_Union.calls k Aa ca a Ab cb b nm _ _ CA.out CAl.out CB.out CBl.out HU.out).mono ?_; rintro e_ w_ ⟨v_, rfl, hr_, hb⟩; obtain ⟨An, cn, e_⟩ := Kd.R_slice hr_; subst e_; have CN := mk (Kd.R_reads' hr_).2.2; have CNl := mk (Kd.R_reads' hr_).2.1; clear hr_; replace HB := mk (below_step HB.out hb); replace BK4 := mk (blk_below BK4.out hb); replace BK5 := mk (blk_below BK5.out hb); replace CA := mk (Kd.C_below CA.out hb); replace CB := mk (Kd.C_below CB.out hb); clear hb; obtain ⟨_, _, _, _, _, _, _, _⟩ := c4_ BK4.out; obtain ⟨_, _, _, _, _, _, _, _⟩ := c4_ BK5.out))
    go_ret
    exact ⟨rfl, kq4⟩
set_option maxHeartbeats 8000000 in
theorem turns_check (k : Nat) (t u : S66) (At : Option Addr) (ct : Nat) (Au : Option Addr) (cu : Nat) (A2 : Option Addr) (c2 : Nat) (l2 : List Int) (a3 : Int) (w : World) (ht : Kd.C k66 w At t.f3.length t.f3) (hct : t.f3.length ≤ ct) (hu : Kd.C k66 w Au u.f3.length u.f3) (hcu : u.f3.length ≤ cu) (hr2 : Kd.C (Kd.int .i64) w A2 l2.length l2) (hc2 : l2.length ≤ c2) (hF : tabardlaw10_fixed.f k = some true) {a b nm : List ByteArray} {e i j : Int} (hN1 : tree_Names.f k t.f0 t.f1 t.f2 t.f3 = some (a, e)) (hN2 : tree_Names.f k u.f0 u.f1 u.f2 u.f3 = some (b, i)) (hU : glyph_Union.f k a b = some (nm, j)) (he : e = 0) (hi : i = 0) (hj : j = 0) {L : List Int} (hL : tabardlaw10_first.f k l2 (nm.length : Int) = some L) {k1 k2 : Int} (hK1 : tree_Check.f 13 ⟨#[]⟩ 0 [t, u] [] = some k1) (hK2 : tree_Check.f 13 ⟨#[]⟩ 0 [t, t] [] = some k2) (h : k1 ≠ 0 ∨ k2 ≠ 0) :
    Calls Try.prog 17 #[.agg #[.int .i64 t.f0, .int .i64 t.f1, .string t.f2, .slice At t.f3.length ct], .agg #[.int .i64 u.f0, .int .i64 u.f1, .string u.f2, .slice Au u.f3.length cu], .slice A2 l2.length c2, .int .i64 a3] w fun e w' => e = .returned (.bool true) ∧ Below w.heap.size w w' := by
  have hu66 := Try.underlying66
  have HRt := mk ht
  have HCt := mk hct
  have HRu := mk hu
  have HCu := mk hcu
  have HR2 := mk hr2
  have HC2 := mk hc2
  have HF := mk hF
  have HN1 := mk hN1
  have HN2 := mk hN2
  have HU := mk hU
  have HB := mk (Below.refl w.heap.size w)
  clear ht hct hu hcu hr2 hc2 hF hN1 hN2 hU
  subst he; subst hi; subst hj
  have HL := mk hL
  have HK1 := mk hK1
  have HK2 := mk hK2
  have b1 : ((0 : Int) != 0) = false := by decide
  clear hL hK1 hK2
  by_cases he : k1 = 0
  · have hi : k2 ≠ 0 := h.resolve_left (fun h' => h' he)
    subst he
    have b2 : (k2 != 0) = true := bne_iff_ne.mpr hi
    clear h hi
    go_enter Try.func17, Try.ntmps17
    go_wp2_with (first | ((with_reducible refine gate_dst (N := 4) rfl ?_); refine box_event ?hg (N := 4) ?hd (cs := #[.int .i64 t.f0, .int .i64 t.f1, .string t.f2, .slice At t.f3.length ct]) (t := 66) ?hr ?_; (case hd => rfl); (case hg => rfl); (case hr => exact kq6); intro g4 hgb w4 hbox hb; replace HB := mk (below_step HB.out hb); have BK4 := mk hbox; clear hb hbox hgb; obtain ⟨_, _, _, _, _, _, _, _⟩ := c4_ BK4.out) | ((with_reducible refine gate_dst (N := 5) rfl ?_); refine box_event ?hg (N := 5) ?hd (cs := #[.int .i64 u.f0, .int .i64 u.f1, .string u.f2, .slice Au u.f3.length cu]) (t := 66) ?hr ?_; (case hd => rfl); (case hg => rfl); (case hr => exact kq6); intro g5 hgb w5 hbox hb; replace HB := mk (below_step HB.out hb); replace BK4 := mk (blk_below BK4.out hb); have BK5 := mk hbox; clear hb hbox hgb; obtain ⟨_, _, _, _, _, _, _, _⟩ := c4_ BK4.out; obtain ⟨_, _, _, _, _, _, _, _⟩ := c4_ BK5.out) | (go_at_call 56; refine (tabardlaw10_fixed.calls k true _ HF.out).mono ?_; rintro e_ w_ ⟨rfl, hb⟩; replace HB := mk (below_step HB.out hb); replace BK4 := mk (blk_below BK4.out hb); replace BK5 := mk (blk_below BK5.out hb); clear hb; obtain ⟨_, _, _, _, _, _, _, _⟩ := c4_ BK4.out; obtain ⟨_, _, _, _, _, _, _, _⟩ := c4_ BK5.out) | (go_at_call 57; (fail_if_success (have h_ := CA)); refine (tree_Names.calls k t.f0 t.f1 t.f2 At ct t.f3 a _ _ (Kd.C_below HRt.out HB.out) HCt.out HN1.out).mono ?_; rintro e_ w_ ⟨v_, rfl, hr_, hb⟩; obtain ⟨Aa, ca, e_⟩ := Kd.R_slice hr_; subst e_; have CA := mk (Kd.R_reads' hr_).2.2; have CAl := mk (Kd.R_reads' hr_).2.1; clear hr_; replace HB := mk (below_step HB.out hb); replace BK4 := mk (blk_below BK4.out hb); replace BK5 := mk (blk_below BK5.out hb); clear hb; obtain ⟨_, _, _, _, _, _, _, _⟩ := c4_ BK4.out; obtain ⟨_, _, _, _, _, _, _, _⟩ := c4_ BK5.out) | (go_at_call 57; refine (tree_Names.calls k u.f0 u.f1 u.f2 Au cu u.f3 b _ _ (Kd.C_below HRu.out HB.out) HCu.out HN2.out).mono ?_; rintro e_ w_ ⟨v_, rfl, hr_, hb⟩; obtain ⟨Ab, cb, e_⟩ := Kd.R_slice hr_; subst e_; have CB := mk (Kd.R_reads' hr_).2.2; have CBl := mk (Kd.R_reads' hr_).2.1; clear hr_; replace HB := mk (below_step HB.out hb); replace BK4 := mk (blk_below BK4.out hb); replace BK5 := mk (blk_below BK5.out hb); replace CA := mk (Kd.C_below CA.out hb); clear hb; obtain ⟨_, _, _, _, _, _, _, _⟩ := c4_ BK4.out; obtain ⟨_, _, _, _, _, _, _, _⟩ := c4_ BK5.out) | (go_at_call 21; refine (glyph_Union.calls k Aa ca a Ab cb b nm _ _ CA.out CAl.out CB.out CBl.out HU.out).mono ?_; rintro e_ w_ ⟨v_, rfl, hr_, hb⟩; obtain ⟨An, cn, e_⟩ := Kd.R_slice hr_; subst e_; have CN := mk (Kd.R_reads' hr_).2.2; have CNl := mk (Kd.R_reads' hr_).2.1; clear hr_; replace HB := mk (below_step HB.out hb); replace BK4 := mk (blk_below BK4.out hb); replace BK5 := mk (blk_below BK5.out hb); replace CA := mk (Kd.C_below CA.out hb); replace CB := mk (Kd.C_below CB.out hb); clear hb; obtain ⟨_, _, _, _, _, _, _, _⟩ := c4_ BK4.out; obtain ⟨_, _, _, _, _, _, _, _⟩ := c4_ BK5.out) | (go_at_call 58; refine (tabardlaw10_first.calls k A2 c2 l2 (nm.length : Int) L _ (Kd.C_below HR2.out HB.out) HC2.out HL.out).mono ?_; rintro e_ w_ ⟨v_, rfl, hr_, hb⟩; obtain ⟨Al, cl, e_⟩ := Kd.R_slice hr_; subst e_; have CL := mk (Kd.R_reads' hr_).2.2; have CLl := mk (Kd.R_reads' hr_).2.1; clear hr_; replace HB := mk (below_step HB.out hb); replace BK4 := mk (blk_below BK4.out hb); replace BK5 := mk (blk_below BK5.out hb); replace CA := mk (Kd.C_below CA.out hb); replace CB := mk (Kd.C_below CB.out hb); replace CN := mk (Kd.C_below CN.out hb); clear hb; obtain ⟨_, _, _, _, _, _, _, _⟩ := c4_ BK4.out; obtain ⟨_, _, _, _, _, _, _, _⟩ := c4_ BK5.out) | ((with_reducible refine gate_dst (N := 75) rfl ?_); refine lit_event ?hg (N := 75) ?hd (cs := #[.int .i64 t.f0, .int .i64 t.f1, .string t.f2, .slice At t.f3.length ct, .int .i64 u.f0, .int .i64 u.f1, .string u.f2, .slice Au u.f3.length cu]) (n := 2) (e := 66) ?hr ?_; (case hd => rfl); (case hg => rfl); (case hr => exact kq6); intro g75 hgb w75 hbox hb; have B75 := mk (pair_C hbox (Kd.C_below HRt.out (below_step HB.out hb)) HCt.out (Kd.C_below HRu.out (below_step HB.out hb)) HCu.out); replace HB := mk (below_step HB.out hb); replace BK4 := mk (blk_below BK4.out hb); replace BK5 := mk (blk_below BK5.out hb); replace CA := mk (Kd.C_below CA.out hb); replace CB := mk (Kd.C_below CB.out hb); replace CN := mk (Kd.C_below CN.out hb); replace CL := mk (Kd.C_below CL.out hb); clear hb hbox hgb; obtain ⟨_, _, _, _, _, _, _, _⟩ := c4_ BK4.out; obtain ⟨_, _, _, _, _, _, _, _⟩ := c4_ BK5.out) | (go_at_call 36; (fail_if_success (have h_ := B76)); refine (tree_Check.calls 13 ⟨#[]⟩ 0 (some ⟨g75, 0, none⟩) 2 [t, u] none 0 [] _ _ B75.out (Nat.le_refl 2) (Kd.C_nil k39 _) (Nat.le_refl 0) HK1.out).mono ?_; rintro e_ w_ ⟨rfl, hb⟩; replace HB := mk (below_step HB.out hb); replace BK4 := mk (blk_below BK4.out hb); replace BK5 := mk (blk_below BK5.out hb); replace CA := mk (Kd.C_below CA.out hb); replace CB := mk (Kd.C_below CB.out hb); replace CN := mk (Kd.C_below CN.out hb); replace CL := mk (Kd.C_below CL.out hb); replace B75 := mk (Kd.C_below B75.out hb); clear hb; obtain ⟨_, _, _, _, _, _, _, _⟩ := c4_ BK4.out; obtain ⟨_, _, _, _, _, _, _, _⟩ := c4_ BK5.out; have B76 := HF) | (go_at_call 36; refine (tree_Check.calls 13 ⟨#[]⟩ 0 (some ⟨_, 0, none⟩) 2 [t, t] none 0 [] _ _ (pair_C (blk_new _ _) (Kd.C_below HRt.out (below_alloc HB.out _)) HCt.out (Kd.C_below HRt.out (below_alloc HB.out _)) HCt.out) (Nat.le_refl 2) (Kd.C_nil k39 _) (Nat.le_refl 0) HK2.out).mono ?_; rintro e_ w82 ⟨rfl, hb⟩; replace hb := below_step (below_alloc (Below.refl _ _) _) hb; replace HB := mk (below_step HB.out hb); replace BK4 := mk (blk_below BK4.out hb); replace BK5 := mk (blk_below BK5.out hb); replace CA := mk (Kd.C_below CA.out hb); replace CB := mk (Kd.C_below CB.out hb); replace CN := mk (Kd.C_below CN.out hb); replace CL := mk (Kd.C_below CL.out hb); replace B75 := mk (Kd.C_below B75.out hb); clear hb; obtain ⟨_, _, _, _, _, _, _, _⟩ := c4_ BK4.out; obtain ⟨_, _, _, _, _, _, _, _⟩ := c4_ BK5.out))
    go_ret
    exact ⟨rfl, kq4⟩
  · have b2 : (k1 != 0) = true := bne_iff_ne.mpr he
    clear h he
    go_enter Try.func17, Try.ntmps17
    go_wp2_with (first | ((with_reducible refine gate_dst (N := 4) rfl ?_); refine box_event ?hg (N := 4) ?hd (cs := #[.int .i64 t.f0, .int .i64 t.f1, .string t.f2, .slice At t.f3.length ct]) (t := 66) ?hr ?_; (case hd => rfl); (case hg => rfl); (case hr => exact kq6); intro g4 hgb w4 hbox hb; replace HB := mk (below_step HB.out hb); have BK4 := mk hbox; clear hb hbox hgb; obtain ⟨_, _, _, _, _, _, _, _⟩ := c4_ BK4.out) | ((with_reducible refine gate_dst (N := 5) rfl ?_); refine box_event ?hg (N := 5) ?hd (cs := #[.int .i64 u.f0, .int .i64 u.f1, .string u.f2, .slice Au u.f3.length cu]) (t := 66) ?hr ?_; (case hd => rfl); (case hg => rfl); (case hr => exact kq6); intro g5 hgb w5 hbox hb; replace HB := mk (below_step HB.out hb); replace BK4 := mk (blk_below BK4.out hb); have BK5 := mk hbox; clear hb hbox hgb; obtain ⟨_, _, _, _, _, _, _, _⟩ := c4_ BK4.out; obtain ⟨_, _, _, _, _, _, _, _⟩ := c4_ BK5.out) | (go_at_call 56; refine (tabardlaw10_fixed.calls k true _ HF.out).mono ?_; rintro e_ w_ ⟨rfl, hb⟩; replace HB := mk (below_step HB.out hb); replace BK4 := mk (blk_below BK4.out hb); replace BK5 := mk (blk_below BK5.out hb); clear hb; obtain ⟨_, _, _, _, _, _, _, _⟩ := c4_ BK4.out; obtain ⟨_, _, _, _, _, _, _, _⟩ := c4_ BK5.out) | (go_at_call 57; (fail_if_success (have h_ := CA)); refine (tree_Names.calls k t.f0 t.f1 t.f2 At ct t.f3 a _ _ (Kd.C_below HRt.out HB.out) HCt.out HN1.out).mono ?_; rintro e_ w_ ⟨v_, rfl, hr_, hb⟩; obtain ⟨Aa, ca, e_⟩ := Kd.R_slice hr_; subst e_; have CA := mk (Kd.R_reads' hr_).2.2; have CAl := mk (Kd.R_reads' hr_).2.1; clear hr_; replace HB := mk (below_step HB.out hb); replace BK4 := mk (blk_below BK4.out hb); replace BK5 := mk (blk_below BK5.out hb); clear hb; obtain ⟨_, _, _, _, _, _, _, _⟩ := c4_ BK4.out; obtain ⟨_, _, _, _, _, _, _, _⟩ := c4_ BK5.out) | (go_at_call 57; refine (tree_Names.calls k u.f0 u.f1 u.f2 Au cu u.f3 b _ _ (Kd.C_below HRu.out HB.out) HCu.out HN2.out).mono ?_; rintro e_ w_ ⟨v_, rfl, hr_, hb⟩; obtain ⟨Ab, cb, e_⟩ := Kd.R_slice hr_; subst e_; have CB := mk (Kd.R_reads' hr_).2.2; have CBl := mk (Kd.R_reads' hr_).2.1; clear hr_; replace HB := mk (below_step HB.out hb); replace BK4 := mk (blk_below BK4.out hb); replace BK5 := mk (blk_below BK5.out hb); replace CA := mk (Kd.C_below CA.out hb); clear hb; obtain ⟨_, _, _, _, _, _, _, _⟩ := c4_ BK4.out; obtain ⟨_, _, _, _, _, _, _, _⟩ := c4_ BK5.out) | (go_at_call 21; refine (glyph_Union.calls k Aa ca a Ab cb b nm _ _ CA.out CAl.out CB.out CBl.out HU.out).mono ?_; rintro e_ w_ ⟨v_, rfl, hr_, hb⟩; obtain ⟨An, cn, e_⟩ := Kd.R_slice hr_; subst e_; have CN := mk (Kd.R_reads' hr_).2.2; have CNl := mk (Kd.R_reads' hr_).2.1; clear hr_; replace HB := mk (below_step HB.out hb); replace BK4 := mk (blk_below BK4.out hb); replace BK5 := mk (blk_below BK5.out hb); replace CA := mk (Kd.C_below CA.out hb); replace CB := mk (Kd.C_below CB.out hb); clear hb; obtain ⟨_, _, _, _, _, _, _, _⟩ := c4_ BK4.out; obtain ⟨_, _, _, _, _, _, _, _⟩ := c4_ BK5.out) | (go_at_call 58; refine (tabardlaw10_first.calls k A2 c2 l2 (nm.length : Int) L _ (Kd.C_below HR2.out HB.out) HC2.out HL.out).mono ?_; rintro e_ w_ ⟨v_, rfl, hr_, hb⟩; obtain ⟨Al, cl, e_⟩ := Kd.R_slice hr_; subst e_; have CL := mk (Kd.R_reads' hr_).2.2; have CLl := mk (Kd.R_reads' hr_).2.1; clear hr_; replace HB := mk (below_step HB.out hb); replace BK4 := mk (blk_below BK4.out hb); replace BK5 := mk (blk_below BK5.out hb); replace CA := mk (Kd.C_below CA.out hb); replace CB := mk (Kd.C_below CB.out hb); replace CN := mk (Kd.C_below CN.out hb); clear hb; obtain ⟨_, _, _, _, _, _, _, _⟩ := c4_ BK4.out; obtain ⟨_, _, _, _, _, _, _, _⟩ := c4_ BK5.out) | ((with_reducible refine gate_dst (N := 75) rfl ?_); refine lit_event ?hg (N := 75) ?hd (cs := #[.int .i64 t.f0, .int .i64 t.f1, .string t.f2, .slice At t.f3.length ct, .int .i64 u.f0, .int .i64 u.f1, .string u.f2, .slice Au u.f3.length cu]) (n := 2) (e := 66) ?hr ?_; (case hd => rfl); (case hg => rfl); (case hr => exact kq6); intro g75 hgb w75 hbox hb; have B75 := mk (pair_C hbox (Kd.C_below HRt.out (below_step HB.out hb)) HCt.out (Kd.C_below HRu.out (below_step HB.out hb)) HCu.out); replace HB := mk (below_step HB.out hb); replace BK4 := mk (blk_below BK4.out hb); replace BK5 := mk (blk_below BK5.out hb); replace CA := mk (Kd.C_below CA.out hb); replace CB := mk (Kd.C_below CB.out hb); replace CN := mk (Kd.C_below CN.out hb); replace CL := mk (Kd.C_below CL.out hb); clear hb hbox hgb; obtain ⟨_, _, _, _, _, _, _, _⟩ := c4_ BK4.out; obtain ⟨_, _, _, _, _, _, _, _⟩ := c4_ BK5.out) | (go_at_call 36; (fail_if_success (have h_ := B76)); refine (tree_Check.calls 13 ⟨#[]⟩ 0 (some ⟨g75, 0, none⟩) 2 [t, u] none 0 [] _ _ B75.out (Nat.le_refl 2) (Kd.C_nil k39 _) (Nat.le_refl 0) HK1.out).mono ?_; rintro e_ w_ ⟨rfl, hb⟩; replace HB := mk (below_step HB.out hb); replace BK4 := mk (blk_below BK4.out hb); replace BK5 := mk (blk_below BK5.out hb); replace CA := mk (Kd.C_below CA.out hb); replace CB := mk (Kd.C_below CB.out hb); replace CN := mk (Kd.C_below CN.out hb); replace CL := mk (Kd.C_below CL.out hb); replace B75 := mk (Kd.C_below B75.out hb); clear hb; obtain ⟨_, _, _, _, _, _, _, _⟩ := c4_ BK4.out; obtain ⟨_, _, _, _, _, _, _, _⟩ := c4_ BK5.out; have B76 := HF))
    go_ret
    exact ⟨rfl, kq4⟩
end Go.Proofs.Ytjknpmibdkoklaa.U
set_option maxRecDepth 100000
namespace Go.Proofs.Ytjknpmibdkoklaa.U
open Go.RowKit Go.Proofs.YtjknpmibdkoklaaW.PrintWords Go.Proofs.YtjknpmibdkoklaaW.PrintLast Go.Proofs.YtjknpmibdkoklaaW.PrintMore
open Aside0 (mk)
def FSA (md : Int) : Array Value := #[.int .i64 9, .string (⟨#[]⟩ : ByteArray), .int .i64 0, .slice none 0 0, .slice none 0 0, .int .i64 10, .string (⟨#[]⟩ : ByteArray), .int .i64 0, .slice none 0 0, .slice none 0 0, .int .i64 11, .string (⟨#[]⟩ : ByteArray), .int .i64 0, .slice none 0 0, .slice none 0 0, .int .i64 12, .string (⟨#[]⟩ : ByteArray), .int .i64 0, .slice none 0 0, .slice none 0 0, .int .i64 13, .string (⟨#[]⟩ : ByteArray), .int .i64 0, .slice none 0 0, .slice none 0 0, .int .i64 14, .string (⟨#[]⟩ : ByteArray), .int .i64 0, .slice none 0 0, .slice none 0 0, .int .i64 15, .string (⟨#[]⟩ : ByteArray), .int .i64 md, .slice none 0 0, .slice none 0 0]
theorem fs_cells (md : Int) : ∀ i : Nat, i < 7 → (FSA md)[i * 5]? = some (.int .i64 (9 + (i : Int))) ∧ (FSA md)[i * 5 + 1]? = some (.string ⟨#[]⟩) ∧ (FSA md)[i * 5 + 2]? = some (.int .i64 (if i = 6 then md else 0)) ∧ (FSA md)[i * 5 + 3]? = some (.slice none 0 0) ∧ (FSA md)[i * 5 + 4]? = some (.slice none 0 0)
  | 0, _ => ⟨rfl, rfl, rfl, rfl, rfl⟩
  | 1, _ => ⟨rfl, rfl, rfl, rfl, rfl⟩
  | 2, _ => ⟨rfl, rfl, rfl, rfl, rfl⟩
  | 3, _ => ⟨rfl, rfl, rfl, rfl, rfl⟩
  | 4, _ => ⟨rfl, rfl, rfl, rfl, rfl⟩
  | 5, _ => ⟨rfl, rfl, rfl, rfl, rfl⟩
  | 6, _ => ⟨rfl, rfl, rfl, rfl, rfl⟩
theorem put5_ {w : World} {g : Nat} {t : TypeId} {a b c d e a' b' c' d' e' : Value} (h : w.heap[g]? = some (.cells #[a, b, c, d, e] t (0, 0))) : (((((w.setCell ⟨g, 0, none⟩ a').setCell ⟨g, 1, none⟩ b').setCell ⟨g, 2, none⟩ c').setCell ⟨g, 3, none⟩ d').setCell ⟨g, 4, none⟩ e').heap[g]? = some (.cells #[a', b', c', d', e'] t (0, 0)) := by
  have h1 := blk_put (cs := #[a, b, c, d, e]) h 0 a' (cs' := #[a', b, c, d, e]) rfl
  have h2 := blk_put (cs := #[a', b, c, d, e]) h1 1 b' (cs' := #[a', b', c, d, e]) rfl
  have h3 := blk_put (cs := #[a', b', c, d, e]) h2 2 c' (cs' := #[a', b', c', d, e]) rfl
  have h4 := blk_put (cs := #[a', b', c', d, e]) h3 3 d' (cs' := #[a', b', c', d', e]) rfl
  exact blk_put (cs := #[a', b', c', d', e]) h4 4 e' rfl
theorem farj_ {w : World} {g g' j : Nat} {o : Obj} {a : Value} (h : w.heap[g']? = some o) (hn : g' ≠ g) : (w.setCell ⟨g, j, none⟩ a).heap[g']? = some o := (Below.heap_setCell _ ⟨g, j, none⟩ a g' hn).trans h
theorem far5_ {w : World} {g g' : Nat} {o : Obj} {a b c d e : Value} (h : w.heap[g']? = some o) (hn : g' ≠ g) : (((((w.setCell ⟨g, 0, none⟩ a).setCell ⟨g, 1, none⟩ b).setCell ⟨g, 2, none⟩ c).setCell ⟨g, 3, none⟩ d).setCell ⟨g, 4, none⟩ e).heap[g']? = some o := farj_ (farj_ (farj_ (farj_ (farj_ h hn) hn) hn) hn) hn
theorem below_set5 {w W : World} {g : Nat} {a b c d e : Value} (h : Below w.heap.size w W) (hg : w.heap.size ≤ g) : Below w.heap.size w (((((W.setCell ⟨g, 0, none⟩ a).setCell ⟨g, 1, none⟩ b).setCell ⟨g, 2, none⟩ c).setCell ⟨g, 3, none⟩ d).setCell ⟨g, 4, none⟩ e) := below_set (below_set (below_set (below_set (below_set h hg) hg) hg) hg) hg
theorem far5R {W : World} {g e0 base : Nat} {ok : Nat → Prop} {v : Value} {xs : List Bool} {a b c d e : Value} (h : Kd.R Kd.bool e0 W base ok v xs) (hk : ∀ k, ok k → k ≠ g) : Kd.R Kd.bool e0 (((((W.setCell ⟨g, 0, none⟩ a).setCell ⟨g, 1, none⟩ b).setCell ⟨g, 2, none⟩ c).setCell ⟨g, 3, none⟩ d).setCell ⟨g, 4, none⟩ e) base ok v xs :=
  Kd.R_far (p := ⟨g, 4, none⟩) (Kd.R_far (p := ⟨g, 3, none⟩) (Kd.R_far (p := ⟨g, 2, none⟩) (Kd.R_far (p := ⟨g, 1, none⟩) (Kd.R_far (p := ⟨g, 0, none⟩) h hk a) hk b) hk c) hk d) hk e
theorem infoB : (Try.prog.info? 4).map (fun i => (i.zero, i.size, i.bytes)) = some (some (.bool false), 1, 1) := by kernel_rfl
structure Turn (k : Nat) (t u : S66) (nm : List ByteArray) (L : List Int) (op m : Int) (x y z : Bool) : Prop where
  hx : truth_Formula.f k op ⟨#[]⟩ m [t, u] [] nm L = some (x, 0)
  hy : truth_Formula.f k op ⟨#[]⟩ m [u, t] [] nm L = some (y, 0)
  hz : truth_Formula.f k op ⟨#[]⟩ m [t, t] [] nm L = some (z, 0)
  same : 13 ≤ op → x = y
  own : z = decide (op = 9 ∨ op = 11 ∨ op = 13 ∨ op = 15)
def rs (md A B : Int) (i : Nat) : Bool := relB (9 + (i : Int)) (if i = 6 then md else 0) A B
theorem rs_cases (md A B : Int) : ∃ b6, (List.range 7).map (rs md A B) = [true, true, false, false, false, true, b6] ∨ (List.range 7).map (rs md A B) = [true, false, true, false, true, false, true] ∨ (List.range 7).map (rs md A B) = [false, false, true, true, false, true, b6] := by
  have e : (List.range 7).map (rs md A B) = [decide (A ≤ B), decide (A < B), decide (B ≤ A), decide (B < A), decide (A = B), decide (A ≠ B), decide (md ∣ A - B)] := rfl
  refine ⟨decide (md ∣ A - B), ?_⟩
  rw [e]
  rcases Int.lt_trichotomy A B with h | h | h
  · refine .inl ?_
    rw [decide_eq_true (show A ≤ B by omega), decide_eq_true h, decide_eq_false (show ¬ B ≤ A by omega), decide_eq_false (show ¬ B < A by omega), decide_eq_false (show ¬ A = B by omega), decide_eq_true (show A ≠ B by omega)]
  · refine .inr (.inl ?_)
    rw [decide_eq_true (show A ≤ B by omega), decide_eq_false (show ¬ A < B by omega), decide_eq_true (show B ≤ A by omega), decide_eq_false (show ¬ B < A by omega), decide_eq_true h, decide_eq_false (show ¬ A ≠ B from fun h' => h' h), decide_eq_true (show md ∣ A - B by rw [h, Int.sub_self]; exact Int.dvd_zero md)]
  · refine .inr (.inr ?_)
    rw [decide_eq_false (show ¬ A ≤ B by omega), decide_eq_false (show ¬ A < B by omega), decide_eq_true (show B ≤ A by omega), decide_eq_true h, decide_eq_false (show ¬ A = B by omega), decide_eq_true (show A ≠ B by omega)]
def cnt3 (a b c : Bool) : Nat → Int
  | 0 => 0
  | 1 => if a then 1 else 0
  | 2 => (if a then 1 else 0) + (if b then 1 else 0)
  | _ => (if a then 1 else 0) + (if b then 1 else 0) + (if c then 1 else 0)
set_option maxHeartbeats 16000000 in
theorem turns_main (k : Nat) (t u : S66) (At : Option Addr) (ct : Nat) (Au : Option Addr) (cu : Nat) (A2 : Option Addr) (c2 : Nat) (l2 : List Int) (a3 : Int) (w : World) (ht : Kd.C k66 w At t.f3.length t.f3) (hct : t.f3.length ≤ ct) (hu : Kd.C k66 w Au u.f3.length u.f3) (hcu : u.f3.length ≤ cu) (hr2 : Kd.C (Kd.int .i64) w A2 l2.length l2) (hc2 : l2.length ≤ c2) (hF : tabardlaw10_fixed.f k = some true) {a b nm : List ByteArray} {e i j : Int} (hN1 : tree_Names.f k t.f0 t.f1 t.f2 t.f3 = some (a, e)) (hN2 : tree_Names.f k u.f0 u.f1 u.f2 u.f3 = some (b, i)) (hU : glyph_Union.f k a b = some (nm, j)) (he : e = 0) (hi : i = 0) (hj : j = 0) {L : List Int} (hL : tabardlaw10_first.f k l2 (nm.length : Int) = some L) (hK1 : tree_Check.f 13 ⟨#[]⟩ 0 [t, u] [] = some 0) (hK2 : tree_Check.f 13 ⟨#[]⟩ 0 [t, t] [] = some 0) {md A B : Int} (hmd : wrap64 (1 + Go.bits .and .i64 a3 65535) = md) (hT : ∀ i : Nat, i < 7 → ∃ y z, Turn k t u nm L (9 + (i : Int)) (if i = 6 then md else 0) (rs md A B i) y z) :
    Calls Try.prog 17 #[.agg #[.int .i64 t.f0, .int .i64 t.f1, .string t.f2, .slice At t.f3.length ct], .agg #[.int .i64 u.f0, .int .i64 u.f1, .string u.f2, .slice Au u.f3.length cu], .slice A2 l2.length c2, .int .i64 a3] w fun e w' => e = .returned (.bool true) ∧ Below w.heap.size w w' := by
  have hu66 := Try.underlying66
  have HRt := mk ht
  have HCt := mk hct
  have HRu := mk hu
  have HCu := mk hcu
  have HR2 := mk hr2
  have HC2 := mk hc2
  have HF := mk hF
  have HN1 := mk hN1
  have HN2 := mk hN2
  have HU := mk hU
  have HB := mk (Below.refl w.heap.size w)
  clear ht hct hu hcu hr2 hc2 hF hN1 hN2 hU
  subst he; subst hi; subst hj
  have HL := mk hL
  have HK1 := mk hK1
  have HK2 := mk hK2
  have b1 : ((0 : Int) != 0) = false := by decide
  have HTU := mk hT
  have hmdw : (IntKind.i64.wrap (1 + Go.bits .and .i64 a3 65535)) = md := (i64_w _).trans hmd
  clear hL hK1 hK2 hT
  go_enter Try.func17, Try.ntmps17
  go_wp2_with (first | ((with_reducible refine gate_dst (N := 4) rfl ?_); refine box_event ?hg (N := 4) ?hd (cs := #[.int .i64 t.f0, .int .i64 t.f1, .string t.f2, .slice At t.f3.length ct]) (t := 66) ?hr ?_; (case hd => rfl); (case hg => rfl); (case hr => exact kq6); intro g4 hgb w4 hbox hb; replace HB := mk (below_step HB.out hb); have BK4 := mk hbox; clear hb hbox hgb; obtain ⟨_, _, _, _, _, _, _, _⟩ := c4_ BK4.out) | ((with_reducible refine gate_dst (N := 5) rfl ?_); refine box_event ?hg (N := 5) ?hd (cs := #[.int .i64 u.f0, .int .i64 u.f1, .string u.f2, .slice Au u.f3.length cu]) (t := 66) ?hr ?_; (case hd => rfl); (case hg => rfl); (case hr => exact kq6); intro g5 hgb w5 hbox hb; replace HB := mk (below_step HB.out hb); replace BK4 := mk (blk_below BK4.out hb); have BK5 := mk hbox; clear hb hbox hgb; obtain ⟨_, _, _, _, _, _, _, _⟩ := c4_ BK4.out; obtain ⟨_, _, _, _, _, _, _, _⟩ := c4_ BK5.out) | (go_at_call 56; refine (tabardlaw10_fixed.calls k true _ HF.out).mono ?_; rintro e_ w_ ⟨rfl, hb⟩; replace HB := mk (below_step HB.out hb); replace BK4 := mk (blk_below BK4.out hb); replace BK5 := mk (blk_below BK5.out hb); clear hb; obtain ⟨_, _, _, _, _, _, _, _⟩ := c4_ BK4.out; obtain ⟨_, _, _, _, _, _, _, _⟩ := c4_ BK5.out) | (go_at_call 57; (fail_if_success (have h_ := CA)); refine (tree_Names.calls k t.f0 t.f1 t.f2 At ct t.f3 a _ _ (Kd.C_below HRt.out HB.out) HCt.out HN1.out).mono ?_; rintro e_ w_ ⟨v_, rfl, hr_, hb⟩; obtain ⟨Aa, ca, e_⟩ := Kd.R_slice hr_; subst e_; have CA := mk (Kd.R_reads' hr_).2.2; have CAl := mk (Kd.R_reads' hr_).2.1; clear hr_; replace HB := mk (below_step HB.out hb); replace BK4 := mk (blk_below BK4.out hb); replace BK5 := mk (blk_below BK5.out hb); clear hb; obtain ⟨_, _, _, _, _, _, _, _⟩ := c4_ BK4.out; obtain ⟨_, _, _, _, _, _, _, _⟩ := c4_ BK5.out) | (go_at_call 57; refine (tree_Names.calls k u.f0 u.f1 u.f2 Au cu u.f3 b _ _ (Kd.C_below HRu.out HB.out) HCu.out HN2.out).mono ?_; rintro e_ w_ ⟨v_, rfl, hr_, hb⟩; obtain ⟨Ab, cb, e_⟩ := Kd.R_slice hr_; subst e_; have CB := mk (Kd.R_reads' hr_).2.2; have CBl := mk (Kd.R_reads' hr_).2.1; clear hr_; replace HB := mk (below_step HB.out hb); replace BK4 := mk (blk_below BK4.out hb); replace BK5 := mk (blk_below BK5.out hb); replace CA := mk (Kd.C_below CA.out hb); clear hb; obtain ⟨_, _, _, _, _, _, _, _⟩ := c4_ BK4.out; obtain ⟨_, _, _, _, _, _, _, _⟩ := c4_ BK5.out) | (go_at_call 21; refine (glyph_Union.calls k Aa ca a Ab cb b nm _ _ CA.out CAl.out CB.out CBl.out HU.out).mono ?_; rintro e_ w_ ⟨v_, rfl, hr_, hb⟩; obtain ⟨An, cn, e_⟩ := Kd.R_slice hr_; subst e_; have CN := mk (Kd.R_reads' hr_).2.2; have CNl := mk (Kd.R_reads' hr_).2.1; clear hr_; replace HB := mk (below_step HB.out hb); replace BK4 := mk (blk_below BK4.out hb); replace BK5 := mk (blk_below BK5.out hb); replace CA := mk (Kd.C_below CA.out hb); replace CB := mk (Kd.C_below CB.out hb); clear hb; obtain ⟨_, _, _, _, _, _, _, _⟩ := c4_ BK4.out; obtain ⟨_, _, _, _, _, _, _, _⟩ := c4_ BK5.out) | (go_at_call 58; refine (tabardlaw10_first.calls k A2 c2 l2 (nm.length : Int) L _ (Kd.C_below HR2.out HB.out) HC2.out HL.out).mono ?_; rintro e_ w_ ⟨v_, rfl, hr_, hb⟩; obtain ⟨Al, cl, e_⟩ := Kd.R_slice hr_; subst e_; have CL := mk (Kd.R_reads' hr_).2.2; have CLl := mk (Kd.R_reads' hr_).2.1; clear hr_; replace HB := mk (below_step HB.out hb); replace BK4 := mk (blk_below BK4.out hb); replace BK5 := mk (blk_below BK5.out hb); replace CA := mk (Kd.C_below CA.out hb); replace CB := mk (Kd.C_below CB.out hb); replace CN := mk (Kd.C_below CN.out hb); clear hb; obtain ⟨_, _, _, _, _, _, _, _⟩ := c4_ BK4.out; obtain ⟨_, _, _, _, _, _, _, _⟩ := c4_ BK5.out) | ((with_reducible refine gate_dst (N := 75) rfl ?_); refine lit_event ?hg (N := 75) ?hd (cs := #[.int .i64 t.f0, .int .i64 t.f1, .string t.f2, .slice At t.f3.length ct, .int .i64 u.f0, .int .i64 u.f1, .string u.f2, .slice Au u.f3.length cu]) (n := 2) (e := 66) ?hr ?_; (case hd => rfl); (case hg => rfl); (case hr => exact kq6); intro g75 hgb w75 hbox hb; have B75 := mk (pair_C hbox (Kd.C_below HRt.out (below_step HB.out hb)) HCt.out (Kd.C_below HRu.out (below_step HB.out hb)) HCu.out); replace HB := mk (below_step HB.out hb); replace BK4 := mk (blk_below BK4.out hb); replace BK5 := mk (blk_below BK5.out hb); replace CA := mk (Kd.C_below CA.out hb); replace CB := mk (Kd.C_below CB.out hb); replace CN := mk (Kd.C_below CN.out hb); replace CL := mk (Kd.C_below CL.out hb); clear hb hbox hgb; obtain ⟨_, _, _, _, _, _, _, _⟩ := c4_ BK4.out; obtain ⟨_, _, _, _, _, _, _, _⟩ := c4_ BK5.out) | (go_at_call 36; (fail_if_success (have h_ := B76)); refine (tree_Check.calls 13 ⟨#[]⟩ 0 (some ⟨g75, 0, none⟩) 2 [t, u] none 0 [] _ _ B75.out (Nat.le_refl 2) (Kd.C_nil k39 _) (Nat.le_refl 0) HK1.out).mono ?_; rintro e_ w_ ⟨rfl, hb⟩; replace HB := mk (below_step HB.out hb); replace BK4 := mk (blk_below BK4.out hb); replace BK5 := mk (blk_below BK5.out hb); replace CA := mk (Kd.C_below CA.out hb); replace CB := mk (Kd.C_below CB.out hb); replace CN := mk (Kd.C_below CN.out hb); replace CL := mk (Kd.C_below CL.out hb); replace B75 := mk (Kd.C_below B75.out hb); clear hb; obtain ⟨_, _, _, _, _, _, _, _⟩ := c4_ BK4.out; obtain ⟨_, _, _, _, _, _, _, _⟩ := c4_ BK5.out; have B76 := HF) | (go_at_call 36; refine (tree_Check.calls 13 ⟨#[]⟩ 0 (some ⟨_, 0, none⟩) 2 [t, t] none 0 [] _ _ (pair_C (blk_new _ _) (Kd.C_below HRt.out (below_alloc HB.out _)) HCt.out (Kd.C_below HRt.out (below_alloc HB.out _)) HCt.out) (Nat.le_refl 2) (Kd.C_nil k39 _) (Nat.le_refl 0) HK2.out).mono ?_; rintro e_ w82 ⟨rfl, hb⟩; replace hb := below_step (below_alloc (Below.refl _ _) _) hb; replace HB := mk (below_step HB.out hb); replace BK4 := mk (blk_below BK4.out hb); replace BK5 := mk (blk_below BK5.out hb); replace CA := mk (Kd.C_below CA.out hb); replace CB := mk (Kd.C_below CB.out hb); replace CN := mk (Kd.C_below CN.out hb); replace CL := mk (Kd.C_below CL.out hb); replace B75 := mk (Kd.C_below B75.out hb); clear hb; obtain ⟨_, _, _, _, _, _, _, _⟩ := c4_ BK4.out; obtain ⟨_, _, _, _, _, _, _, _⟩ := c4_ BK5.out) | ((with_reducible refine gate_dst (N := 98) rfl ?_); refine lit_event ?hg (N := 98) ?hd (cs := FSA md) (n := 7) (e := 39) ?hr ?_; (case hd => rfl); (case hg => rfl); (case hr => exact kq6); intro g98 hgb w98 hbox hb; replace HB := mk (below_step HB.out hb); replace BK4 := mk (blk_below BK4.out hb); replace BK5 := mk (blk_below BK5.out hb); replace CA := mk (Kd.C_below CA.out hb); replace CB := mk (Kd.C_below CB.out hb); replace CN := mk (Kd.C_below CN.out hb); replace CL := mk (Kd.C_below CL.out hb); replace B75 := mk (Kd.C_below B75.out hb); have BF := mk hbox; clear hb hbox hgb))
  have HB98 := HB
  have BK4r := BK4
  have BK5r := BK5
  go_loopg [16, 100] 7 (fun gq v16 v100 wr => ∃ (n : Nat) (is : List Bool) (Ai : Option Addr) (ci : Nat), v16 = .slice Ai is.length ci ∧ v100 = .int .i64 n ∧ Aside0 (n ≤ 7) ∧ Aside0 (7 - n ≤ gq) ∧ Aside0 (is = (List.range n).map (rs md A B)) ∧ Aside0 (Kd.R Kd.bool 4 wr w98.heap.size (fun _ => True) (.slice Ai is.length ci) is) ∧ Aside0 (Below w98.heap.size w98 wr))
  case atStart => exact ⟨0, [], none, 0, rfl, rfl, ⟨kq2⟩, ⟨kq2⟩, ⟨rfl⟩, ⟨Kd.R_nil _ _ _ _ _⟩, ⟨Below.refl _ _⟩⟩
  case round =>
    obtain ⟨n, is, Ai, ci, rfl, rfl, HN, HQ, HIS, HI, HW⟩ := hrel
    have BK4w := mk (blk_below BK4.out HW.out)
    have BK5w := mk (blk_below BK5.out HW.out)
    clear BK4 BK5 BK4r BK5r
    have BK4 := BK4w
    have BK5 := BK5w
    have BK4r := BK4
    have BK5r := BK5
    clear BK4w BK5w
    by_cases hn : n < 7
    · obtain ⟨h0, h1, h2, h3, h4⟩ := fs_cells md n hn
      have BFw := blk_below BF.out HW.out
      have x0 := (blk_cell BFw (n * 5)).trans h0
      have x1 := (blk_cell BFw (n * 5 + 1)).trans h1
      have x2 := (blk_cell BFw (n * 5 + 2)).trans h2
      have x3 := (blk_cell BFw (n * 5 + 3)).trans h3
      have x4 := (blk_cell BFw (n * 5 + 4)).trans h4
      obtain ⟨y, z, HTn⟩ := HTU.out n hn
      have HX := mk HTn.hx
      have HY := mk HTn.hy
      have HZ := mk HTn.hz
      have HSM := mk HTn.same
      have HOW := mk HTn.own
      have HIL := mk (show is.length ≤ 7 by rw [HIS.out, List.length_map, List.length_range]; omega)
      have HOP := mk (show (9 + (n : Int) = 9 ∨ 9 + (n : Int) = 10 ∨ 9 + (n : Int) = 11 ∨ 9 + (n : Int) = 12 ∨ 9 + (n : Int) = 13 ∨ 9 + (n : Int) = 14 ∨ 9 + (n : Int) = 15) by omega)
      have HNX := mk (show is ++ [rs md A B n] = (List.range (n + 1)).map (rs md A B) by rw [List.range_succ, List.map_append, HIS.out]; rfl)
      have c101 : decide ((n : Int) < 7) = true := decide_eq_true kq1
      have p0 := eq_true (show 0 ≤ (n : Int) by omega)
      have q0 := eq_true (show (n : Int) < 7 by omega)
      generalize hop : 9 + (n : Int) = op at x0 HX HY HZ HSM HOW HOP
      generalize hm : (if n = 6 then md else 0 : Int) = m at x2 HX HY HZ
      generalize hxv : rs md A B n = x at HX HSM HNX
      clear h0 h1 h2 h3 h4 HTn hop hm hxv BFw
      go_upto_region 22 with (first | ((with_reducible refine gate_dst (N := 18) rfl ?_); refine box_event ?hg (N := 18) ?hd (cs := #[.int .i64 0, .string (⟨#[]⟩ : ByteArray), .int .i64 0, .slice none 0 0, .slice none 0 0]) (t := 39) ?hr ?_; (case hd => rfl); (case hg => rfl); (case hr => exact kq6); intro g18 hgb w18 hbox hb; have GE18 := mk (show w98.heap.size ≤ g18 from by rw [hgb]; exact below_size HW.out); replace HI := mk (Kd.R_types (Kd.R_below HI.out hb) hbox kq2); replace HW := mk (below_step HW.out hb); replace BK4 := mk (blk_below BK4.out hb); replace BK5 := mk (blk_below BK5.out hb); have N4 := mk (show g4 ≠ g18 from by rw [hgb]; exact Nat.ne_of_lt (blk_lt BK4r.out)); have N5 := mk (show g5 ≠ g18 from by rw [hgb]; exact Nat.ne_of_lt (blk_lt BK5r.out)); have n4_ := N4.out; have n5_ := N5.out; have BK18 := mk hbox; clear hb hbox hgb; obtain ⟨_, _, _, _, _, _, _, _⟩ := c4_ BK4.out; obtain ⟨_, _, _, _, _, _, _, _⟩ := c4_ BK5.out; obtain ⟨_, _, _, _, _, _, _, _, _, _⟩ := c5_ BK18.out) | ((with_reducible refine gate_dst (N := 106) rfl ?_); refine lit_event ?hg (N := 106) ?hd (cs := #[.int .i64 t.f0, .int .i64 t.f1, .string t.f2, .slice At t.f3.length ct, .int .i64 u.f0, .int .i64 u.f1, .string u.f2, .slice Au u.f3.length cu]) (n := 2) (e := 66) ?hr ?_; (case hd => rfl); (case hg => rfl); (case hr => exact kq6); intro g106 hgb w106 hbox hb; have BL := mk hbox; have NL := mk (show g106 ≠ g18 from by rw [hgb]; exact Nat.ne_of_gt (blk_lt (put5_ BK18.out))); replace BK18 := mk (blk_below (put5_ BK18.out) hb); replace BK4 := mk (blk_below (far5_ BK4.out N4.out) hb); replace BK5 := mk (blk_below (far5_ BK5.out N5.out) hb); replace HI := mk (Kd.R_below (far5R HI.out (fun _ hk => hk.2)) hb); replace HW := mk (below_step (below_set5 HW.out GE18.out) hb); clear hb hbox hgb; obtain ⟨_, _, _, _, _, _, _, _, _, _⟩ := c5_ BK18.out; obtain ⟨_, _, _, _, _, _, _, _⟩ := c4_ BK4.out; obtain ⟨_, _, _, _, _, _, _, _⟩ := c4_ BK5.out) | (go_at_call 59; (fail_if_success (have h_ := m1_)); refine (truth_Formula.calls k op ⟨#[]⟩ m (some ⟨g106, 0, none⟩) 2 [t, u] none 0 [] An cn nm Al cl L x 0 _ (pair_C (farj_ BL.out NL.out) (Kd.C_below HRt.out (below_step HB98.out (below_set HW.out GE18.out))) HCt.out (Kd.C_below HRu.out (below_step HB98.out (below_set HW.out GE18.out))) HCu.out) (Nat.le_refl 2) (Kd.C_nil k39 _) (Nat.le_refl 0) (Kd.C_below CN.out (below_set HW.out GE18.out)) CNl.out (Kd.C_below CL.out (below_set HW.out GE18.out)) CLl.out HX.out).mono ?_; rintro e_ w_ ⟨rfl, hb⟩; replace BK18 := mk (blk_below (blk_put BK18.out 3 (.slice (some ⟨g106, 0, none⟩) 2 2) rfl) hb); replace BK4 := mk (blk_below (farj_ BK4.out N4.out) hb); replace BK5 := mk (blk_below (farj_ BK5.out N5.out) hb); replace HI := mk (Kd.R_below (Kd.R_far HI.out (fun _ hk => hk.2) _) hb); replace HW := mk (below_step (below_set HW.out GE18.out) hb); clear hb BL NL; have m1_ := HF; obtain ⟨_, _, _, _, _, _, _, _, _, _⟩ := c5_ BK18.out; obtain ⟨_, _, _, _, _, _, _, _⟩ := c4_ BK4.out; obtain ⟨_, _, _, _, _, _, _, _⟩ := c4_ BK5.out) | ((with_reducible refine gate_dst (N := 117) rfl ?_); refine lit_event ?hg (N := 117) ?hd (cs := #[.int .i64 u.f0, .int .i64 u.f1, .string u.f2, .slice Au u.f3.length cu, .int .i64 t.f0, .int .i64 t.f1, .string t.f2, .slice At t.f3.length ct]) (n := 2) (e := 66) ?hr ?_; (case hd => rfl); (case hg => rfl); (case hr => exact kq6); intro g117 hgb w117 hbox hb; have BL := mk hbox; have NL := mk (show g117 ≠ g18 from by rw [hgb]; exact Nat.ne_of_gt (blk_lt (BK18.out))); replace BK18 := mk (blk_below (BK18.out) hb); replace BK4 := mk (blk_below BK4.out hb); replace BK5 := mk (blk_below BK5.out hb); replace HI := mk (Kd.R_below (HI.out) hb); replace HW := mk (below_step (HW.out) hb); clear hb hbox hgb; obtain ⟨_, _, _, _, _, _, _, _, _, _⟩ := c5_ BK18.out; obtain ⟨_, _, _, _, _, _, _, _⟩ := c4_ BK4.out; obtain ⟨_, _, _, _, _, _, _, _⟩ := c4_ BK5.out) | (go_at_call 59; (fail_if_success (have h_ := m2_)); refine (truth_Formula.calls k op ⟨#[]⟩ m (some ⟨g117, 0, none⟩) 2 [u, t] none 0 [] An cn nm Al cl L y 0 _ (pair_C (farj_ BL.out NL.out) (Kd.C_below HRu.out (below_step HB98.out (below_set HW.out GE18.out))) HCu.out (Kd.C_below HRt.out (below_step HB98.out (below_set HW.out GE18.out))) HCt.out) (Nat.le_refl 2) (Kd.C_nil k39 _) (Nat.le_refl 0) (Kd.C_below CN.out (below_set HW.out GE18.out)) CNl.out (Kd.C_below CL.out (below_set HW.out GE18.out)) CLl.out HY.out).mono ?_; rintro e_ w_ ⟨rfl, hb⟩; replace BK18 := mk (blk_below (blk_put BK18.out 3 (.slice (some ⟨g117, 0, none⟩) 2 2) rfl) hb); replace BK4 := mk (blk_below (farj_ BK4.out N4.out) hb); replace BK5 := mk (blk_below (farj_ BK5.out N5.out) hb); replace HI := mk (Kd.R_below (Kd.R_far HI.out (fun _ hk => hk.2) _) hb); replace HW := mk (below_step (below_set HW.out GE18.out) hb); clear hb BL NL; have m2_ := HF; obtain ⟨_, _, _, _, _, _, _, _, _, _⟩ := c5_ BK18.out; obtain ⟨_, _, _, _, _, _, _, _⟩ := c4_ BK4.out; obtain ⟨_, _, _, _, _, _, _, _⟩ := c4_ BK5.out) | ((with_reducible refine gate_dst (N := 128) rfl ?_); refine lit_event ?hg (N := 128) ?hd (cs := #[.int .i64 t.f0, .int .i64 t.f1, .string t.f2, .slice At t.f3.length ct, .int .i64 t.f0, .int .i64 t.f1, .string t.f2, .slice At t.f3.length ct]) (n := 2) (e := 66) ?hr ?_; (case hd => rfl); (case hg => rfl); (case hr => exact kq6); intro g128 hgb w128 hbox hb; have BL := mk hbox; have NL := mk (show g128 ≠ g18 from by rw [hgb]; exact Nat.ne_of_gt (blk_lt (BK18.out))); replace BK18 := mk (blk_below (BK18.out) hb); replace BK4 := mk (blk_below BK4.out hb); replace BK5 := mk (blk_below BK5.out hb); replace HI := mk (Kd.R_below (HI.out) hb); replace HW := mk (below_step (HW.out) hb); clear hb hbox hgb; obtain ⟨_, _, _, _, _, _, _, _, _, _⟩ := c5_ BK18.out; obtain ⟨_, _, _, _, _, _, _, _⟩ := c4_ BK4.out; obtain ⟨_, _, _, _, _, _, _, _⟩ := c4_ BK5.out) | (go_at_call 59; (fail_if_success (have h_ := m3_)); refine (truth_Formula.calls k op ⟨#[]⟩ m (some ⟨g128, 0, none⟩) 2 [t, t] none 0 [] An cn nm Al cl L z 0 _ (pair_C (farj_ BL.out NL.out) (Kd.C_below HRt.out (below_step HB98.out (below_set HW.out GE18.out))) HCt.out (Kd.C_below HRt.out (below_step HB98.out (below_set HW.out GE18.out))) HCt.out) (Nat.le_refl 2) (Kd.C_nil k39 _) (Nat.le_refl 0) (Kd.C_below CN.out (below_set HW.out GE18.out)) CNl.out (Kd.C_below CL.out (below_set HW.out GE18.out)) CLl.out HZ.out).mono ?_; rintro e_ w_ ⟨rfl, hb⟩; replace BK18 := mk (blk_below (blk_put BK18.out 3 (.slice (some ⟨g128, 0, none⟩) 2 2) rfl) hb); replace BK4 := mk (blk_below (farj_ BK4.out N4.out) hb); replace BK5 := mk (blk_below (farj_ BK5.out N5.out) hb); replace HI := mk (Kd.R_below (Kd.R_far HI.out (fun _ hk => hk.2) _) hb); replace HW := mk (below_step (below_set HW.out GE18.out) hb); clear hb BL NL; have m3_ := HF; obtain ⟨_, _, _, _, _, _, _, _, _, _⟩ := c5_ BK18.out; obtain ⟨_, _, _, _, _, _, _, _⟩ := c4_ BK4.out; obtain ⟨_, _, _, _, _, _, _, _⟩ := c4_ BK5.out))
      have hop7 := HOP.out
      clear HOP
      rcases hop7 with rfl | rfl | rfl | rfl | rfl | rfl | rfl
      all_goals
        have hz := HOW.out
        simp only [Int.reduceEq, or_false, or_true, decide_true, decide_false] at hz
        subst hz
        try (have hxy := HSM.out kq2; subst hxy)
        have bxx : (x != x) = false := by simp
        go_wp2_with (first | ((with_reducible refine gate_builtin (b := .append) (xs := #[.tmp 179, .tmp 181]) rfl ?_); at_builtin; refine Kd.R_append Kd.bool (w0 := w98) w98.heap.size rfl (.tmp 179) (.tmp 181) 84 4 (.bool false) 1 rfl Try.underlying84 infoB rfl kq2 kq1 (.slice Ai is.length ci) is x [.bool x] (fun _ => True) (fun _ => False) rfl rfl ?aP (fun _ hk => hk.elim) ?aF ?aO ?aB ?aS ?aL ?_; (case aP => exact rfl); (case aB => exact HW.out); (case aF => exact (fun _ _ => trivial)); (case aO => exact Kd.R_mono HI.out (fun _ hk => hk.1)); (case aS => exact below_size HW.out); (case aL => have := HIL.out; omega); intro v_ w_ ho hb hg hat; obtain ⟨A3, c3, e_⟩ := Kd.R_slice ho; subst e_; have HI2 := mk ho; have HW2 := mk hb; clear ho hb hg hat))
        go_roundg (7 - (n + 1))
        case measure => have := HQ.out; omega
        case rel => exact ⟨n + 1, is ++ [x], A3, c3, by first | rfl | (rw [List.length_append]; rfl), by first | rfl | rw [show wrap64 ((n : Int) + 1) = ((n + 1 : Nat) : Int) from by unfold wrap64; omega], ⟨kq1⟩, ⟨kq1⟩, HNX, HI2, HW2⟩
    · have hn7 : n = 7 := by have := HN.out; omega
      subst hn7
      have his := HIS.out
      have c101 : decide (((7 : Nat) : Int) < 7) = false := by decide
      obtain ⟨go, co, eo, _, _, _, _⟩ := Kd.R_form HI.out (by rw [his]; simp)
      cases eo
      obtain ⟨b6, hb⟩ := rs_cases md A B
      rcases hb with hb | hb | hb
      · rw [hb] at his
        subst his
        obtain ⟨x0, _⟩ := Kd.R_celln false HI.out 0 kq2 (show (0 : Int) < ((7 : Nat) : Int) by decide)
        obtain ⟨x1, _⟩ := Kd.R_celln false HI.out 1 kq2 (show (1 : Int) < ((7 : Nat) : Int) by decide)
        obtain ⟨x2, _⟩ := Kd.R_celln false HI.out 2 kq2 (show (2 : Int) < ((7 : Nat) : Int) by decide)
        obtain ⟨x3, _⟩ := Kd.R_celln false HI.out 3 kq2 (show (3 : Int) < ((7 : Nat) : Int) by decide)
        obtain ⟨x4, _⟩ := Kd.R_celln false HI.out 4 kq2 (show (4 : Int) < ((7 : Nat) : Int) by decide)
        obtain ⟨x5, _⟩ := Kd.R_celln false HI.out 5 kq2 (show (5 : Int) < ((7 : Nat) : Int) by decide)
        obtain ⟨x6, _⟩ := Kd.R_celln false HI.out 6 kq2 (show (6 : Int) < ((7 : Nat) : Int) by decide)
        simp only [Int.toNat_zero, Int.toNat_one, Int.reduceToNat, rdOf, List.getD_cons_zero, List.getD_cons_succ] at x0 x1 x2 x3 x4 x5 x6
        clear hb
        go_wp2
        repeat (go_quiet (fail); try go_wp2_with (first | ((with_reducible refine gate_dst (N := 208) rfl ?_); refine lit_event ?hg (N := 208) ?hd (cs := #[.bool true, .bool false, .bool false]) (n := 3) (e := 4) ?hr ?_; (case hd => rfl); (case hg => rfl); (case hr => exact kq6); intro g208 hgb w208 hbox hb; have B208 := mk hbox; have HW3 := mk (below_step HW.out (below_step kq51 hb)); clear hb hbox hgb)))
        go_loopg [32, 210] 3 (fun gq v32 v210 wr => ∃ n : Nat, v32 = .int .i64 (cnt3 true false false n) ∧ v210 = .int .i64 n ∧ Aside0 (n ≤ 3) ∧ Aside0 (3 - n ≤ gq) ∧ Aside0 (wr.heap[g208]? = some (.cells #[.bool true, .bool false, .bool false] 4 (0, 0))) ∧ Aside0 (Below w98.heap.size w98 wr))
        case atStart => exact ⟨0, rfl, rfl, ⟨kq2⟩, ⟨kq2⟩, B208, HW3⟩
        case round =>
          obtain ⟨n, rfl, rfl, HN3, HQ3, B3, HW4⟩ := hrel
          have hn := HN3.out
          have y0 := (blk_cell B3.out 0).trans (show (#[Value.bool true, .bool false, .bool false] : Array Value)[0]? = some (.bool true) from rfl)
          have y1 := (blk_cell B3.out 1).trans (show (#[Value.bool true, .bool false, .bool false] : Array Value)[1]? = some (.bool false) from rfl)
          have y2 := (blk_cell B3.out 2).trans (show (#[Value.bool true, .bool false, .bool false] : Array Value)[2]? = some (.bool false) from rfl)
          obtain rfl | rfl | rfl | rfl : n = 0 ∨ n = 1 ∨ n = 2 ∨ n = 3 := by omega
          · go_wp2
            go_roundg 2
            case measure => have := HQ3.out; omega
            case rel => exact ⟨1, kq61, rfl, ⟨kq2⟩, ⟨kq2⟩, ⟨B3.out⟩, ⟨HW4.out⟩⟩
          · go_wp2
            go_roundg 1
            case measure => have := HQ3.out; omega
            case rel => exact ⟨2, kq61, rfl, ⟨kq2⟩, ⟨kq2⟩, ⟨B3.out⟩, ⟨HW4.out⟩⟩
          · go_wp2
            go_roundg 0
            case measure => have := HQ3.out; omega
            case rel => exact ⟨3, kq61, rfl, ⟨kq2⟩, ⟨kq2⟩, ⟨B3.out⟩, ⟨HW4.out⟩⟩
          · have hc : cnt3 true false false 3 = 1 := rfl
            rw [hc]
            go_wp2
            go_ret
            exact ⟨rfl, below_step HB98.out HW4.out⟩
      · rw [hb] at his
        subst his
        obtain ⟨x0, _⟩ := Kd.R_celln false HI.out 0 kq2 (show (0 : Int) < ((7 : Nat) : Int) by decide)
        obtain ⟨x1, _⟩ := Kd.R_celln false HI.out 1 kq2 (show (1 : Int) < ((7 : Nat) : Int) by decide)
        obtain ⟨x2, _⟩ := Kd.R_celln false HI.out 2 kq2 (show (2 : Int) < ((7 : Nat) : Int) by decide)
        obtain ⟨x3, _⟩ := Kd.R_celln false HI.out 3 kq2 (show (3 : Int) < ((7 : Nat) : Int) by decide)
        obtain ⟨x4, _⟩ := Kd.R_celln false HI.out 4 kq2 (show (4 : Int) < ((7 : Nat) : Int) by decide)
        obtain ⟨x5, _⟩ := Kd.R_celln false HI.out 5 kq2 (show (5 : Int) < ((7 : Nat) : Int) by decide)
        obtain ⟨x6, _⟩ := Kd.R_celln false HI.out 6 kq2 (show (6 : Int) < ((7 : Nat) : Int) by decide)
        simp only [Int.toNat_zero, Int.toNat_one, Int.reduceToNat, rdOf, List.getD_cons_zero, List.getD_cons_succ] at x0 x1 x2 x3 x4 x5 x6
        clear hb
        go_wp2
        repeat (go_quiet (fail); try go_wp2_with (first | ((with_reducible refine gate_dst (N := 208) rfl ?_); refine lit_event ?hg (N := 208) ?hd (cs := #[.bool false, .bool true, .bool false]) (n := 3) (e := 4) ?hr ?_; (case hd => rfl); (case hg => rfl); (case hr => exact kq6); intro g208 hgb w208 hbox hb; have B208 := mk hbox; have HW3 := mk (below_step HW.out (below_step kq51 hb)); clear hb hbox hgb)))
        go_loopg [32, 210] 3 (fun gq v32 v210 wr => ∃ n : Nat, v32 = .int .i64 (cnt3 false true false n) ∧ v210 = .int .i64 n ∧ Aside0 (n ≤ 3) ∧ Aside0 (3 - n ≤ gq) ∧ Aside0 (wr.heap[g208]? = some (.cells #[.bool false, .bool true, .bool false] 4 (0, 0))) ∧ Aside0 (Below w98.heap.size w98 wr))
        case atStart => exact ⟨0, rfl, rfl, ⟨kq2⟩, ⟨kq2⟩, B208, HW3⟩
        case round =>
          obtain ⟨n, rfl, rfl, HN3, HQ3, B3, HW4⟩ := hrel
          have hn := HN3.out
          have y0 := (blk_cell B3.out 0).trans (show (#[Value.bool false, .bool true, .bool false] : Array Value)[0]? = some (.bool false) from rfl)
          have y1 := (blk_cell B3.out 1).trans (show (#[Value.bool false, .bool true, .bool false] : Array Value)[1]? = some (.bool true) from rfl)
          have y2 := (blk_cell B3.out 2).trans (show (#[Value.bool false, .bool true, .bool false] : Array Value)[2]? = some (.bool false) from rfl)
          obtain rfl | rfl | rfl | rfl : n = 0 ∨ n = 1 ∨ n = 2 ∨ n = 3 := by omega
          · go_wp2
            go_roundg 2
            case measure => have := HQ3.out; omega
            case rel => exact ⟨1, kq61, rfl, ⟨kq2⟩, ⟨kq2⟩, ⟨B3.out⟩, ⟨HW4.out⟩⟩
          · go_wp2
            go_roundg 1
            case measure => have := HQ3.out; omega
            case rel => exact ⟨2, kq61, rfl, ⟨kq2⟩, ⟨kq2⟩, ⟨B3.out⟩, ⟨HW4.out⟩⟩
          · go_wp2
            go_roundg 0
            case measure => have := HQ3.out; omega
            case rel => exact ⟨3, kq61, rfl, ⟨kq2⟩, ⟨kq2⟩, ⟨B3.out⟩, ⟨HW4.out⟩⟩
          · have hc : cnt3 false true false 3 = 1 := rfl
            rw [hc]
            go_wp2
            go_ret
            exact ⟨rfl, below_step HB98.out HW4.out⟩
      · rw [hb] at his
        subst his
        obtain ⟨x0, _⟩ := Kd.R_celln false HI.out 0 kq2 (show (0 : Int) < ((7 : Nat) : Int) by decide)
        obtain ⟨x1, _⟩ := Kd.R_celln false HI.out 1 kq2 (show (1 : Int) < ((7 : Nat) : Int) by decide)
        obtain ⟨x2, _⟩ := Kd.R_celln false HI.out 2 kq2 (show (2 : Int) < ((7 : Nat) : Int) by decide)
        obtain ⟨x3, _⟩ := Kd.R_celln false HI.out 3 kq2 (show (3 : Int) < ((7 : Nat) : Int) by decide)
        obtain ⟨x4, _⟩ := Kd.R_celln false HI.out 4 kq2 (show (4 : Int) < ((7 : Nat) : Int) by decide)
        obtain ⟨x5, _⟩ := Kd.R_celln false HI.out 5 kq2 (show (5 : Int) < ((7 : Nat) : Int) by decide)
        obtain ⟨x6, _⟩ := Kd.R_celln false HI.out 6 kq2 (show (6 : Int) < ((7 : Nat) : Int) by decide)
        simp only [Int.toNat_zero, Int.toNat_one, Int.reduceToNat, rdOf, List.getD_cons_zero, List.getD_cons_succ] at x0 x1 x2 x3 x4 x5 x6
        clear hb
        go_wp2
        repeat (go_quiet (fail); try go_wp2_with (first | ((with_reducible refine gate_dst (N := 208) rfl ?_); refine lit_event ?hg (N := 208) ?hd (cs := #[.bool false, .bool false, .bool true]) (n := 3) (e := 4) ?hr ?_; (case hd => rfl); (case hg => rfl); (case hr => exact kq6); intro g208 hgb w208 hbox hb; have B208 := mk hbox; have HW3 := mk (below_step HW.out (below_step kq51 hb)); clear hb hbox hgb)))
        go_loopg [32, 210] 3 (fun gq v32 v210 wr => ∃ n : Nat, v32 = .int .i64 (cnt3 false false true n) ∧ v210 = .int .i64 n ∧ Aside0 (n ≤ 3) ∧ Aside0 (3 - n ≤ gq) ∧ Aside0 (wr.heap[g208]? = some (.cells #[.bool false, .bool false, .bool true] 4 (0, 0))) ∧ Aside0 (Below w98.heap.size w98 wr))
        case atStart => exact ⟨0, rfl, rfl, ⟨kq2⟩, ⟨kq2⟩, B208, HW3⟩
        case round =>
          obtain ⟨n, rfl, rfl, HN3, HQ3, B3, HW4⟩ := hrel
          have hn := HN3.out
          have y0 := (blk_cell B3.out 0).trans (show (#[Value.bool false, .bool false, .bool true] : Array Value)[0]? = some (.bool false) from rfl)
          have y1 := (blk_cell B3.out 1).trans (show (#[Value.bool false, .bool false, .bool true] : Array Value)[1]? = some (.bool false) from rfl)
          have y2 := (blk_cell B3.out 2).trans (show (#[Value.bool false, .bool false, .bool true] : Array Value)[2]? = some (.bool true) from rfl)
          obtain rfl | rfl | rfl | rfl : n = 0 ∨ n = 1 ∨ n = 2 ∨ n = 3 := by omega
          · go_wp2
            go_roundg 2
            case measure => have := HQ3.out; omega
            case rel => exact ⟨1, kq61, rfl, ⟨kq2⟩, ⟨kq2⟩, ⟨B3.out⟩, ⟨HW4.out⟩⟩
          · go_wp2
            go_roundg 1
            case measure => have := HQ3.out; omega
            case rel => exact ⟨2, kq61, rfl, ⟨kq2⟩, ⟨kq2⟩, ⟨B3.out⟩, ⟨HW4.out⟩⟩
          · go_wp2
            go_roundg 0
            case measure => have := HQ3.out; omega
            case rel => exact ⟨3, kq61, rfl, ⟨kq2⟩, ⟨kq2⟩, ⟨B3.out⟩, ⟨HW4.out⟩⟩
          · have hc : cnt3 false false true 3 = 1 := rfl
            rw [hc]
            go_wp2
            go_ret
            exact ⟨rfl, below_step HB98.out HW4.out⟩
end Go.Proofs.Ytjknpmibdkoklaa.U
set_option maxRecDepth 100000
namespace Go.Proofs.Ytjknpmibdkoklaa.U
open Go.RowKit Go.Proofs.YtjknpmibdkoklaaW.PrintWords Go.Proofs.YtjknpmibdkoklaaW.PrintLast Go.Proofs.YtjknpmibdkoklaaW.PrintMore
def cmpF (op m : Int) (t u : S66) : S39 := ⟨op, ⟨#[]⟩, m, [t, u], []⟩
theorem cmpF_ok {op m : Int} (t u : S66) (h : (9 ≤ op ∧ op ≤ 14 ∧ m = 0) ∨ (op = 15 ∧ 1 ≤ m)) : okF (cmpF op m t u) = true := by
  rw [okF_told]
  unfold cmpF bareF partsF
  rcases h with ⟨a, b, rfl⟩ | ⟨rfl, b⟩
  · rw [if_neg (by simp only; omega), if_neg (by simp only; omega), if_neg (by simp only; omega), if_neg (by simp only; omega), if_pos (by simp only; omega)]
    simp
  · rw [if_neg (by simp only; omega), if_neg (by simp only; omega), if_neg (by simp only; omega), if_neg (by simp only; omega), if_neg (by simp only; omega), if_pos rfl]
    simp [b]
theorem cmpF_right {op m : Int} {t u : S66} (h : (9 ≤ op ∧ op ≤ 14 ∧ m = 0) ∨ (op = 15 ∧ 1 ≤ m)) : RightF (cmpF op m t u) ↔ RightT t ∧ RightT u := by
  have h0 := cmpF_ok t u h
  unfold cmpF at h0 ⊢
  rw [RightF]
  simp only [RightTs, RightFs]
  constructor
  · intro h; exact ⟨h.2.1.1, h.2.1.2.1⟩
  · intro h; exact ⟨h0, ⟨h.1, h.2, trivial⟩, trivial⟩
theorem cmpF_err {op m : Int} {t u : S66} (h : (9 ≤ op ∧ op ≤ 14 ∧ m = 0) ∨ (op = 15 ∧ 1 ≤ m)) : errF (cmpF op m t u) = 0 ↔ (RightT t ∧ RightT u) ∧ cntT t + cntT u + 1 ≤ 500 ∧ max (depT t) (depT u) + 1 ≤ 40 := by
  unfold errF
  rw [errF_iff, cmpF_right h]
  have hc : cntF (cmpF op m t u) = cntT t + cntT u + 1 := by
    unfold cmpF
    rw [cntF]
    simp only [cntTs, cntFs]
    omega
  have hd : depF (cmpF op m t u) = max (depT t) (depT u) + 1 := by
    unfold cmpF
    rw [depF]
    simp only [depTs, depFs]
    omega
  rw [hc, hd]
theorem FitF_cmp {op m : Int} {t u : S66} (ht : FitT t) (hu : FitT u) (h0 : 0 ≤ op ∧ op ≤ 15) (h1 : 0 ≤ m ∧ m ≤ 65536) : FitF (cmpF op m t u) := by
  refine .mk (by unfold fitI cmpF; simp only; omega) (by show (0 : Nat) ≤ _; omega) (by unfold fitI cmpF; simp only; omega) (by show 2 * 56 ≤ _; omega) (by show 0 * 80 ≤ _; omega) (fun x hx => ?_) (fun x hx => absurd hx List.not_mem_nil)
  rcases List.mem_cons.1 hx with rfl | hx
  · exact ht
  · rw [List.mem_singleton.1 hx]; exact hu
theorem formA_cmp {op m : Int} {t u : S66} {names : List ByteArray} {L : List Int} (h : (9 ≤ op ∧ op ≤ 14 ∧ m = 0) ∨ (op = 15 ∧ 1 ≤ m)) (he : errF (cmpF op m t u) = 0) (hr : risesB none names = true) (hl : names.length = L.length) (hm : ∀ s ∈ namesT t, s ∈ names) (hn : ∀ s ∈ namesT u, s ∈ names) : formA (cmpF op m t u) names L = (relB op m (valZ (look names L) t) (valZ (look names L) u), 0) := by
  have hfree : ∀ s ∈ freeF (cmpF op m t u), s ∈ names := fun s hs => by
    rw [freeF_eq] at hs
    unfold cmpF at hs
    simp only at hs
    rw [if_neg kq1] at hs
    have := mem_canon.1 hs
    simp only [namesTs, freeFs, List.append_nil] at this
    rcases List.mem_append.1 this with h | h
    · exact hm s h
    · exact hn s h
  rw [formA_fit he (fitA_in hr hl hfree), if_pos]
  · unfold cmpF
    rw [holdZ]
    unfold opF
    rw [if_neg kq1, if_neg kq1, if_neg kq1, if_neg kq1]
    rfl
  · rw [plainF_eq]
    unfold cmpF
    simp only [plainFs, Bool.and_true, Bool.and_eq_true, bne_iff_ne, ne_eq]
    omega
theorem relB_same {op m a b : Int} (h : 13 ≤ op ∧ op ≤ 15) : relB op m a b = relB op m b a := by
  obtain rfl | rfl | rfl : op = 13 ∨ op = 14 ∨ op = 15 := by omega
  · simp only [relB]; exact decide_eq_decide.2 ⟨Eq.symm, Eq.symm⟩
  · simp only [relB]; exact decide_eq_decide.2 ⟨Ne.symm, Ne.symm⟩
  · simp only [relB]
    refine decide_eq_decide.2 ⟨fun h => ?_, fun h => ?_⟩
    · have := Int.dvd_neg.2 h; rw [Int.neg_sub] at this; exact this
    · have := Int.dvd_neg.2 h; rw [Int.neg_sub] at this; exact this
theorem relB_own {op m a : Int} (h : 9 ≤ op ∧ op ≤ 15) : relB op m a a = decide (op = 9 ∨ op = 11 ∨ op = 13 ∨ op = 15) := by
  obtain rfl | rfl | rfl | rfl | rfl | rfl | rfl : op = 9 ∨ op = 10 ∨ op = 11 ∨ op = 12 ∨ op = 13 ∨ op = 14 ∨ op = 15 := by omega
  all_goals simp [relB]
def modT (a3 : Int) : Int := wrap64 (1 + Go.bits .and .i64 a3 65535)
theorem and_mask (x : Int) : 0 ≤ Go.bits .and .i64 x 65535 ∧ Go.bits .and .i64 x 65535 ≤ 65535 := by
  have e : Go.bits .and .i64 x 65535 = IntKind.i64.wrap (((BitVec.ofInt 64 x) &&& (BitVec.ofInt 64 65535)).toNat : Int) := rfl
  have h : ((BitVec.ofInt 64 x) &&& (BitVec.ofInt 64 65535)).toNat ≤ 65535 := by
    rw [BitVec.toNat_and]
    exact Nat.and_le_right
  rw [e]
  generalize ((BitVec.ofInt 64 x) &&& (BitVec.ofInt 64 65535)).toNat = n at h
  rw [show IntKind.i64.wrap (n : Int) = wrap64 n from i64_w _]
  unfold wrap64
  omega
theorem modT_range (a3 : Int) : 1 ≤ modT a3 ∧ modT a3 ≤ 65536 := by
  have h := and_mask a3
  unfold modT wrap64
  omega
inductive TurnsAll (k : Nat) (t u : S66) (l2 : List Int) (a3 : Int) : Prop
  | bad {a b nm : List ByteArray} {e i j : Int} (hF : tabardlaw10_fixed.f k = some true) (hN1 : tree_Names.f k t.f0 t.f1 t.f2 t.f3 = some (a, e)) (hN2 : tree_Names.f k u.f0 u.f1 u.f2 u.f3 = some (b, i)) (hU : glyph_Union.f k a b = some (nm, j)) (h : e ≠ 0 ∨ i ≠ 0) : TurnsAll k t u l2 a3
  | check {a b nm : List ByteArray} {L : List Int} {k1 k2 : Int} (hF : tabardlaw10_fixed.f k = some true) (hN1 : tree_Names.f k t.f0 t.f1 t.f2 t.f3 = some (a, 0)) (hN2 : tree_Names.f k u.f0 u.f1 u.f2 u.f3 = some (b, 0)) (hU : glyph_Union.f k a b = some (nm, 0)) (hL : tabardlaw10_first.f k l2 (nm.length : Int) = some L) (hK1 : tree_Check.f 13 ⟨#[]⟩ 0 [t, u] [] = some k1) (hK2 : tree_Check.f 13 ⟨#[]⟩ 0 [t, t] [] = some k2) (h : k1 ≠ 0 ∨ k2 ≠ 0) : TurnsAll k t u l2 a3
  | main {a b nm : List ByteArray} {L : List Int} {A B : Int} (hF : tabardlaw10_fixed.f k = some true) (hN1 : tree_Names.f k t.f0 t.f1 t.f2 t.f3 = some (a, 0)) (hN2 : tree_Names.f k u.f0 u.f1 u.f2 u.f3 = some (b, 0)) (hU : glyph_Union.f k a b = some (nm, 0)) (hL : tabardlaw10_first.f k l2 (nm.length : Int) = some L) (hK1 : tree_Check.f 13 ⟨#[]⟩ 0 [t, u] [] = some 0) (hK2 : tree_Check.f 13 ⟨#[]⟩ 0 [t, t] [] = some 0) (hT : ∀ i : Nat, i < 7 → ∃ y z, Turn k t u nm L (9 + (i : Int)) (if i = 6 then modT a3 else 0) (rs (modT a3) A B i) y z) : TurnsAll k t u l2 a3
open Classical in
noncomputable def tabardlaw10_TruthTurns.f (k : Nat) (a0_0 a0_1 : Int) (a0_2 : ByteArray) (l0_3 : List S66) (a1_0 a1_1 : Int) (a1_2 : ByteArray) (l1_3 : List S66) (l2 : List Int) (a3 : Int) : Option Bool := if TurnsAll k ⟨a0_0, a0_1, a0_2, l0_3⟩ ⟨a1_0, a1_1, a1_2, l1_3⟩ l2 a3 then some true else none
theorem tabardlaw10_TruthTurns.calls (k : Nat) (a0_0 a0_1 : Int) (a0_2 : ByteArray) (A0_3 : Option Addr) (c0_3 : Nat) (l0_3 : List S66) (a1_0 a1_1 : Int) (a1_2 : ByteArray) (A1_3 : Option Addr) (c1_3 : Nat) (l1_3 : List S66) (A2 : Option Addr) (c2 : Nat) (l2 : List Int) (a3 : Int) (r : Bool) (w : World) (hr0_3 : Kd.C k66 w A0_3 l0_3.length l0_3) (hc0_3 : l0_3.length ≤ c0_3) (hr1_3 : Kd.C k66 w A1_3 l1_3.length l1_3) (hc1_3 : l1_3.length ≤ c1_3) (hr2 : Kd.C (Kd.int .i64) w A2 l2.length l2) (hc2 : l2.length ≤ c2) (h : tabardlaw10_TruthTurns.f k a0_0 a0_1 a0_2 l0_3 a1_0 a1_1 a1_2 l1_3 l2 a3 = some r) :
    Calls Try.prog 17 #[.agg #[.int .i64 a0_0, .int .i64 a0_1, .string a0_2, .slice A0_3 l0_3.length c0_3], .agg #[.int .i64 a1_0, .int .i64 a1_1, .string a1_2, .slice A1_3 l1_3.length c1_3], .slice A2 l2.length c2, .int .i64 a3] w fun e w' => e = .returned (.bool r) ∧ Below w.heap.size w w' := by
  unfold tabardlaw10_TruthTurns.f at h
  split at h
  · rename_i hT
    obtain rfl := Option.some.inj h
    cases hT with
    | bad hF hN1 hN2 hU h => exact turns_bad k ⟨a0_0, a0_1, a0_2, l0_3⟩ ⟨a1_0, a1_1, a1_2, l1_3⟩ A0_3 c0_3 A1_3 c1_3 A2 c2 l2 a3 w hr0_3 hc0_3 hr1_3 hc1_3 hr2 hc2 hF hN1 hN2 hU h
    | check hF hN1 hN2 hU hL hK1 hK2 h => exact turns_check k ⟨a0_0, a0_1, a0_2, l0_3⟩ ⟨a1_0, a1_1, a1_2, l1_3⟩ A0_3 c0_3 A1_3 c1_3 A2 c2 l2 a3 w hr0_3 hc0_3 hr1_3 hc1_3 hr2 hc2 hF hN1 hN2 hU rfl rfl rfl hL hK1 hK2 h
    | main hF hN1 hN2 hU hL hK1 hK2 hT => exact turns_main k ⟨a0_0, a0_1, a0_2, l0_3⟩ ⟨a1_0, a1_1, a1_2, l1_3⟩ A0_3 c0_3 A1_3 c1_3 A2 c2 l2 a3 w hr0_3 hc0_3 hr1_3 hc1_3 hr2 hc2 hF hN1 hN2 hU rfl rfl rfl hL hK1 hK2 rfl hT
  · cases h
theorem union_any (a b : List ByteArray) (ha : a.length ≤ 1000000) (hb : b.length ≤ 1000000) : Ev (fun k => glyph_Union.f k a b) ((unionA a b).1, (unionA a b).2) := union_ev a b ha hb
theorem TruthTurns_ev {t u : S66} (ht : FitT t) (hu : FitT u) {l : List Int} (hv : Nums l) (a3 : Int) : Ev (fun k => tabardlaw10_TruthTurns.f k t.f0 t.f1 t.f2 t.f3 u.f0 u.f1 u.f2 u.f3 l a3) true := by
  obtain ⟨KF, hF⟩ := fixed10_ev
  have key : ∀ {k}, TurnsAll k t u l a3 → tabardlaw10_TruthTurns.f k t.f0 t.f1 t.f2 t.f3 u.f0 u.f1 u.f2 u.f3 l a3 = some true := fun h => by
    unfold tabardlaw10_TruthTurns.f
    rw [eta66, eta66, if_pos h]
  have hN1 := Names_ev t
  have hN2 := Names_ev u
  have small : ∀ v : S66, errT v = 0 → (namesT v).length ≤ 500 := fun v hv => by
    obtain ⟨_, hc, _⟩ := (errT_iff v).1 hv
    have := namesT_len v
    omega
  by_cases het : errT t = 0
  · rw [if_pos het] at hN1
    obtain ⟨K1, hK1⟩ := hN1
    have hs1 := small t het
    by_cases heu : errT u = 0
    · rw [if_pos heu] at hN2
      obtain ⟨K2, hK2⟩ := hN2
      have hs2 := small u heu
      obtain ⟨rt, _, _⟩ := (errT_iff t).1 het
      obtain ⟨ru, _, _⟩ := (errT_iff u).1 heu
      have hU := union_ev (namesT t) (namesT u) kq1 kq1
      unfold unionA at hU
      rw [if_pos (namesT_rises rt), if_pos (namesT_rises ru)] at hU
      obtain ⟨K3, hK3⟩ := hU
      have hcl := canon_length (namesT t ++ namesT u)
      rw [List.length_append] at hcl
      obtain ⟨L, hL1, hL2, K4, hL3⟩ := first_ev hv (canon (namesT t ++ namesT u)).length kq1
      have hr : risesB none (canon (namesT t ++ namesT u)) = true := (risesB_none _).2 ⟨fun x hx => by
        rcases List.mem_append.1 (mem_canon.1 hx) with h | h
        · exact namesT_good t rt x h
        · exact namesT_good u ru x h, canon_rise _⟩
      have hmt : ∀ s ∈ namesT t, s ∈ canon (namesT t ++ namesT u) := fun s h => mem_canon.2 (List.mem_append_left _ h)
      have hmu : ∀ s ∈ namesT u, s ∈ canon (namesT t ++ namesT u) := fun s h => mem_canon.2 (List.mem_append_right _ h)
      generalize hN : canon (namesT t ++ namesT u) = names at *
      have hC1 : tree_Check.f 13 (⟨#[]⟩ : ByteArray) 0 [t, u] [] = some (errF (cmpF 13 0 t u)) := Check_eq (cmpF 13 0 t u)
      have hC2 : tree_Check.f 13 (⟨#[]⟩ : ByteArray) 0 [t, t] [] = some (errF (cmpF 13 0 t t)) := Check_eq (cmpF 13 0 t t)
      by_cases hc : errF (cmpF 13 0 t u) = 0 ∧ errF (cmpF 13 0 t t) = 0
      · obtain ⟨h13, h13'⟩ := hc
        rw [h13] at hC1
        rw [h13'] at hC2
        have hp13 : (9 ≤ (13 : Int) ∧ (13 : Int) ≤ 14 ∧ (0 : Int) = 0) ∨ ((13 : Int) = 15 ∧ 1 ≤ (0 : Int)) := by decide
        have ea := (cmpF_err hp13).1 h13
        have eb := (cmpF_err hp13).1 h13'
        have hmod := modT_range a3
        have hop : ∀ i : Nat, i < 7 → (9 ≤ 9 + (i : Int) ∧ 9 + (i : Int) ≤ 14 ∧ (if i = 6 then modT a3 else 0 : Int) = 0) ∨ (9 + (i : Int) = 15 ∧ 1 ≤ (if i = 6 then modT a3 else 0 : Int)) := fun i hi => by
          by_cases h6 : i = 6
          · rw [if_pos h6]; omega
          · rw [if_neg h6]; omega
        have hmr : ∀ i : Nat, 0 ≤ (if i = 6 then modT a3 else 0 : Int) ∧ (if i = 6 then modT a3 else 0 : Int) ≤ 65536 := fun i => by split <;> omega
        have three : ∀ i : Nat, i < 7 → ∃ K, ∀ k, K ≤ k → Turn k t u names L (9 + (i : Int)) (if i = 6 then modT a3 else 0) (rs (modT a3) (valZ (look names L) t) (valZ (look names L) u) i) (relB (9 + (i : Int)) (if i = 6 then modT a3 else 0) (valZ (look names L) u) (valZ (look names L) t)) (relB (9 + (i : Int)) (if i = 6 then modT a3 else 0) (valZ (look names L) t) (valZ (look names L) t)) := fun i hi => by
          have hp := hop i hi
          have h9 : 0 ≤ 9 + (i : Int) ∧ 9 + (i : Int) ≤ 15 := by omega
          obtain ⟨Kx, hx⟩ := Formula_ev (FitF_cmp ht hu h9 (hmr i)) names L kq1 hL2
          obtain ⟨Ky, hy⟩ := Formula_ev (FitF_cmp hu ht h9 (hmr i)) names L kq1 hL2
          obtain ⟨Kz, hz⟩ := Formula_ev (FitF_cmp ht ht h9 (hmr i)) names L kq1 hL2
          rw [formA_cmp hp ((cmpF_err hp).2 ea) hr hL1.symm hmt hmu] at hx
          rw [formA_cmp hp ((cmpF_err hp).2 ⟨⟨ea.1.2, ea.1.1⟩, kq1, kq1⟩) hr hL1.symm hmu hmt] at hy
          rw [formA_cmp hp ((cmpF_err hp).2 eb) hr hL1.symm hmt hmt] at hz
          exact ⟨Kx + Ky + Kz, fun k hk => ⟨hx k kq1, hy k kq1, hz k kq1, fun h13 => relB_same ⟨h13, h9.2⟩, relB_own ⟨kq1, h9.2⟩⟩⟩
        obtain ⟨k0, t0⟩ := three 0 kq2
        obtain ⟨k1, t1⟩ := three 1 kq2
        obtain ⟨k2, t2⟩ := three 2 kq2
        obtain ⟨k3, t3⟩ := three 3 kq2
        obtain ⟨k4, t4⟩ := three 4 kq2
        obtain ⟨k5, t5⟩ := three 5 kq2
        obtain ⟨k6, t6⟩ := three 6 kq2
        refine ⟨KF + K1 + K2 + K3 + K4 + k0 + k1 + k2 + k3 + k4 + k5 + k6, fun k hk => key (.main (hF k kq1) (hK1 k kq1) (hK2 k kq1) (hK3 k kq1) (hL3 k kq1) hC1 hC2 (A := valZ (look names L) t) (B := valZ (look names L) u) fun i hi => ?_)⟩
        match i, hi with
        | 0, _ => exact ⟨_, _, t0 k kq1⟩
        | 1, _ => exact ⟨_, _, t1 k kq1⟩
        | 2, _ => exact ⟨_, _, t2 k kq1⟩
        | 3, _ => exact ⟨_, _, t3 k kq1⟩
        | 4, _ => exact ⟨_, _, t4 k kq1⟩
        | 5, _ => exact ⟨_, _, t5 k kq1⟩
        | 6, _ => exact ⟨_, _, t6 k kq1⟩
      · refine ⟨KF + K1 + K2 + K3 + K4, fun k hk => key (.check (hF k kq1) (hK1 k kq1) (hK2 k kq1) (hK3 k kq1) (hL3 k kq1) hC1 hC2 ?_)⟩
        by_cases h1 : errF (cmpF 13 0 t u) = 0
        · exact .inr fun h2 => hc ⟨h1, h2⟩
        · exact .inl h1
    · rw [if_neg heu] at hN2
      obtain ⟨K2, hK2⟩ := hN2
      obtain ⟨K3, hK3⟩ := union_any (namesT t) [] kq1 kq2
      exact ⟨KF + K1 + K2 + K3, fun k hk => key (.bad (hF k kq1) (hK1 k kq1) (hK2 k kq1) (hK3 k kq1) (.inr heu))⟩
  · rw [if_neg het] at hN1
    obtain ⟨K1, hK1⟩ := hN1
    have hlen : (if errT u = 0 then (namesT u, (0 : Int)) else ([], errT u)).1.length ≤ 1000000 := by
      split
      · have := small u (by assumption); simp only; omega
      · exact Nat.zero_le _
    generalize (if errT u = 0 then (namesT u, (0 : Int)) else ([], errT u)) = p at hN2 hlen
    obtain ⟨b, i⟩ := p
    obtain ⟨K2, hK2⟩ := hN2
    obtain ⟨K3, hK3⟩ := union_any [] b kq2 hlen
    exact ⟨KF + K1 + K2 + K3, fun k hk => key (.bad (hF k kq1) (hK1 k kq1) (hK2 k kq1) (hK3 k kq1) (.inl het))⟩
theorem TruthTurns_row {t u : S66} (ht : FitT t) (hu : FitT u) {l : List Int} (_ : l.length * 8 ≤ 140737488351232) (hv : ∀ p ∈ l, fitI p) (a3 : Int) (_ : -9223372036854775808 ≤ a3 ∧ a3 ≤ 9223372036854775807) : Ev (fun k => tabardlaw10_TruthTurns.f k t.f0 t.f1 t.f2 t.f3 u.f0 u.f1 u.f2 u.f3 l a3) true := TruthTurns_ev ht hu (Nums_of hv) a3
end Go.Proofs.Ytjknpmibdkoklaa.U
set_option maxRecDepth 100000
namespace Go.Proofs.Ytjknpmibdkoklaa.U
open Go.ChangeShapes Go.WideShapes Go.RowKit Go.Proofs.YtjknpmibdkoklaaW.PrintWords Go.Proofs.YtjknpmibdkoklaaW.PrintLast Go.Proofs.YtjknpmibdkoklaaW.PrintMore
section
variable {H : Type} {enc : TypeId × Value → H} {W : World} {base : Nat} {spare : Nat → Bool} {held : Bool}
theorem ints_arg {fuel : Nat} {cs : List Value} {x : DataW H × List MemPlace} (h : DataW.trod enc Try.prog W base spare held fuel 55 cs = some x) (hw : ∀ m ∈ x.1.weights Try.prog 55, m ≤ reachBytes) :
    ∃ A l c, cs = [.slice A l.length c] ∧ l.length ≤ c ∧ Kd.C (Kd.int .i64) W A l.length l ∧ l.length * 8 ≤ 140737488351232 ∧ ∀ p ∈ l, fitI p :=
  row_arg (Kd.int .i64) fitI 8 Try.underlying55 kq0 kq0 (fun m _ cs x h _ => by
    obtain ⟨a, rfl, ha⟩ := int_arg Try.underlying2 h
    exact ⟨a, rfl, rfl, ha⟩) h hw
theorem open_ints {v : Value} {d : DataW H} {ps : List MemPlace} {r : Reach} {b0 : Nat} (hv : Value.okWide Try.prog W r b0 55 v) (h : DataW.Trod enc Try.prog W base spare held 55 v d ps) (hw : ∀ m ∈ d.weights Try.prog 55, m ≤ reachBytes) :
    ∃ (A : Option Addr) (l : List Int) (c : Nat), v = .slice A l.length c ∧ l.length ≤ c ∧ Kd.C (Kd.int .i64) W A l.length l ∧ l.length * 8 ≤ 140737488351232 ∧ ∀ p ∈ l, fitI p := by
  obtain ⟨fuel, hf⟩ := h
  obtain ⟨A, l, c, he, h1, h2, h3, h4⟩ := ints_arg hf hw
  obtain ⟨A', n', c', rfl⟩ := okWide_slice Try.underlying55 hv
  have e : (Value.slice A' n' c') = .slice A l.length c := by simpa [Value.cells] using he
  exact ⟨A, l, c, e, h1, h2, h3, h4⟩
end
end Go.Proofs.Ytjknpmibdkoklaa.U
