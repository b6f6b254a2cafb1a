/- Functions of the given program as Lean functions, each with its contract, and what they answer; words for it. No condition but those of each. -/
import Derived.Test.YtjknpmibdkoklaaPCS
import Derived.Test.YtjknpmibdkoklaaPC11
import Derived.Test.YtjknpmibdkoklaaPC12
import Derived.LoopTactic
import Derived.Shelf.Abstract
import Derived.Test.YtjknpmibdkoklaaPC3
import Derived.Test.YtjknpmibdkoklaaPC6
import Derived.Test.YtjknpmibdkoklaaPC5
import Derived.Test.YtjknpmibdkoklaaPC2
import Derived.ChangeArms
import Derived.SizedLaws
import Derived.DataShut
import Derived.DataElems
import Derived.Test.YtjknpmibdkoklaaPC7
set_option linter.unusedVariables false
set_option linter.unusedSimpArgs false
set_option maxRecDepth 100000
namespace Go.Proofs.Ytjknpmibdkoklaa.U
open Go.RowKit Go.Proofs.YtjknpmibdkoklaaW.PrintWords Go.Proofs.YtjknpmibdkoklaaW.PrintLast Go.Proofs.YtjknpmibdkoklaaW.PrintMore
open Aside0 (mk)
structure GoodF (names : List ByteArray) (vals : List Int) (t : S39) : Prop where
  hnl : names.length < 4611686018427387904
  hin : ∀ s, -9223372036854775808 ≤ look names vals s ∧ look names vals s < 9223372036854775808
  size : sizeF t ≤ 1000
  fine : FineF (Told names vals) t
theorem big_of_in {a : Int} (h : -9223372036854775808 ≤ a ∧ a < 9223372036854775808) : a.natAbs < 4294967296 ^ 2 := by omega
open Classical in
noncomputable def workedF (names : List ByteArray) (vals : List Int) (t : S39) : Option (Bool × Int) := if GoodF names vals t then some (holdZ (look names vals) t, 0) else none
noncomputable def truth_Formula.f (k : Nat) (a0_0 : Int) (a0_1 : ByteArray) (a0_2 : Int) (l0_3 : List S66) (l0_4 : List S39) (l1 : List ByteArray) (l2 : List Int) : Option (Bool × Int) :=
  (tree_Free.f k a0_0 a0_1 a0_2 l0_3 l0_4).bind fun p => if p.2 = 0 then (tree_Plain.f a0_0 a0_1 a0_2 l0_3 l0_4).bind fun q => if q.1 = true then (truth_fit.f k p.1 l1 l2).bind fun e => if e = 0 then workedF l1 l2 ⟨a0_0, a0_1, a0_2, l0_3, l0_4⟩ else some (false, e) else some (false, 100) else some (false, p.2)
theorem truth_Formula.mono : ∀ a0 a1 a2 a3 a4 a5 a6 k, LeO (truth_Formula.f k a0 a1 a2 a3 a4 a5 a6) (truth_Formula.f (k + 1) a0 a1 a2 a3 a4 a5 a6) := by
  intro a0 a1 a2 a3 a4 a5 a6 k
  unfold truth_Formula.f
  refine LeO.bind (tree_Free.mono _ _ _ _ _ _) (fun _ => LeO.ite (LeO.bind (LeO.refl _) (fun _ => LeO.ite (LeO.bind (truth_fit.mono _ _ _ _) (fun _ => LeO.refl _)) (LeO.refl _))) (LeO.refl _))
set_option maxHeartbeats 16000000 in
theorem truth_Formula.calls (k : Nat) (a0_0 : Int) (a0_1 : ByteArray) (a0_2 : Int) (A0_3 : Option Addr) (c0_3 : Nat) (l0_3 : List S66) (A0_4 : Option Addr) (c0_4 : Nat) (l0_4 : List S39) (A1 : Option Addr) (c1 : Nat) (l1 : List ByteArray) (A2 : Option Addr) (c2 : Nat) (l2 : List Int) (r1 : Bool) (r2 : Int) (w : World) (hr0_3 : Kd.C k66 w A0_3 l0_3.length l0_3) (hc0_3 : l0_3.length ≤ c0_3) (hr0_4 : Kd.C k39 w A0_4 l0_4.length l0_4) (hc0_4 : l0_4.length ≤ c0_4) (hr1 : Kd.C Kd.string w A1 l1.length l1) (hc1 : l1.length ≤ c1) (hr2 : Kd.C (Kd.int .i64) w A2 l2.length l2) (hc2 : l2.length ≤ c2) (h : truth_Formula.f k a0_0 a0_1 a0_2 l0_3 l0_4 l1 l2 = some (r1, r2)) :
    Calls Try.prog 59 #[.agg #[.int .i64 a0_0, .string a0_1, .int .i64 a0_2, .slice A0_3 l0_3.length c0_3, .slice A0_4 l0_4.length c0_4], .slice A1 l1.length c1, .slice A2 l2.length c2] w fun e w' => e = .returned (.tuple #[.bool r1, .int .i64 r2]) ∧ Below w.heap.size w w' := by
  have hu39 := Try.underlying39
  obtain ⟨p, hp, h⟩ := Option.bind_eq_some_iff.mp h
  obtain ⟨fr, e1⟩ := p
  have HP := mk hp
  have HR3 := mk hr0_3
  have HC3 := mk hc0_3
  have HR4 := mk hr0_4
  have HC4 := mk hc0_4
  have HR1 := mk hr1
  have HC1 := mk hc1
  have HR2 := mk hr2
  have HC2 := mk hc2
  have HB := mk (Below.refl w.heap.size w)
  have hmf : ∀ (fn : Fn) (first cap : Array Value) (w : World), (Instr.makeFunc fn first cap).run Try.prog w = .ok (.func fn first cap) w := fun _ _ _ _ => rfl
  clear hp hr0_3 hc0_3 hr0_4 hc0_4 hr1 hc1 hr2 hc2
  by_cases ce : e1 = 0
  · subst ce
    rw [if_pos rfl] at h
    obtain ⟨q, hq, h⟩ := Option.bind_eq_some_iff.mp h
    obtain ⟨pl, e2⟩ := q
    have HQ := mk hq
    clear hq
    have b1 : ((0 : Int) != 0) = false := by decide
    cases pl with
    | false =>
      have h2 : some (false, (100 : Int)) = some (r1, r2) := h
      obtain ⟨rfl, rfl⟩ : false = r1 ∧ (100 : Int) = r2 := by simpa using h2
      clear h h2
      go_enter Try.func59, Try.ntmps59
      go_wp2_with (first | ((with_reducible refine gate_dst (N := 3) rfl ?_); refine box_event ?hg (N := 3) ?hd (cs := #[.int .i64 a0_0, .string a0_1, .int .i64 a0_2, .slice A0_3 l0_3.length c0_3, .slice A0_4 l0_4.length c0_4]) (t := 39) ?hr ?_; (case hd => rfl); (case hg => rfl); (case hr => exact kq6); intro gb hgb w1 hbox hb; have GE3 := mk (show w.heap.size ≤ gb from by rw [hgb]; exact below_size HB.out); have BK := mk hbox; replace HB := mk (below_step HB.out hb); clear hb hbox hgb; obtain ⟨_, _, _, _, _, _, _, _, _, _⟩ := c5_ BK.out) | (go_at_call 30; refine (tree_Free.calls k a0_0 a0_1 a0_2 A0_3 c0_3 l0_3 A0_4 c0_4 l0_4 fr _ _ (Kd.C_below HR3.out HB.out) HC3.out (Kd.C_below HR4.out HB.out) HC4.out HP.out).mono ?_; rintro e w2 ⟨v2, rfl, hr2f, hb⟩; obtain ⟨Af, cf, ef⟩ := Kd.R_slice hr2f; subst ef; have HFR := mk hr2f; clear hr2f; replace BK := mk (blk_below BK.out hb); replace HB := mk (below_step HB.out hb); clear hb; obtain ⟨_, _, _, _, _, _, _, _, _, _⟩ := c5_ BK.out) | (go_at_call 42; refine (tree_Plain.calls a0_0 a0_1 a0_2 A0_3 c0_3 l0_3 A0_4 c0_4 l0_4 _ e2 _ (Kd.C_below HR3.out HB.out) HC3.out (Kd.C_below HR4.out HB.out) HC4.out HQ.out).mono ?_; rintro e w3 ⟨rfl, hb⟩; replace HFR := mk (Kd.R_below HFR.out hb); replace BK := mk (blk_below BK.out hb); replace HB := mk (below_step HB.out hb); clear hb; obtain ⟨_, _, _, _, _, _, _, _, _, _⟩ := c5_ BK.out))
      go_ret2
      exact ⟨rfl, kq4⟩
    | true =>
      have h2 : ((truth_fit.f k fr l1 l2).bind fun e => if e = 0 then workedF l1 l2 ⟨a0_0, a0_1, a0_2, l0_3, l0_4⟩ else some (false, e)) = some (r1, r2) := h
      clear h
      obtain ⟨e3, hf, h⟩ := Option.bind_eq_some_iff.mp h2
      have HFT := mk hf
      clear hf h2
      by_cases ce : e3 = 0
      · subst ce
        rw [if_pos rfl] at h
        unfold workedF at h
        split at h
        · rename_i hg
          obtain ⟨rfl, rfl⟩ : holdZ (look l1 l2) ⟨a0_0, a0_1, a0_2, l0_3, l0_4⟩ = r1 ∧ (0 : Int) = r2 := by simpa using h
          have HG := mk hg
          clear h hg
          obtain ⟨zz, hz⟩ : ∃ zz, holdZ (look l1 l2) ⟨a0_0, a0_1, a0_2, l0_3, l0_4⟩ = zz := ⟨_, rfl⟩
          have HZ := mk hz
          clear hz
          have d1 : decide ((⟨#[102, 97, 108, 115, 101]⟩ : ByteArray).toList = (⟨#[116, 114, 117, 101]⟩ : ByteArray).toList) = false := by decide +kernel
          have d2 : decide ((⟨#[116, 114, 117, 101]⟩ : ByteArray).toList = (⟨#[116, 114, 117, 101]⟩ : ByteArray).toList) = true := by decide +kernel
          cases zz
          all_goals
            go_enter Try.func59, Try.ntmps59
            go_wp2_with (first | ((with_reducible refine gate_dst (N := 3) rfl ?_); refine box_event ?hg (N := 3) ?hd (cs := #[.int .i64 a0_0, .string a0_1, .int .i64 a0_2, .slice A0_3 l0_3.length c0_3, .slice A0_4 l0_4.length c0_4]) (t := 39) ?hr ?_; (case hd => rfl); (case hg => rfl); (case hr => exact kq6); intro gb hgb w1 hbox hb; have GE3 := mk (show w.heap.size ≤ gb from by rw [hgb]; exact below_size HB.out); have BK := mk hbox; replace HB := mk (below_step HB.out hb); clear hb hbox hgb; obtain ⟨_, _, _, _, _, _, _, _, _, _⟩ := c5_ BK.out) | (go_at_call 30; refine (tree_Free.calls k a0_0 a0_1 a0_2 A0_3 c0_3 l0_3 A0_4 c0_4 l0_4 fr _ _ (Kd.C_below HR3.out HB.out) HC3.out (Kd.C_below HR4.out HB.out) HC4.out HP.out).mono ?_; rintro e w2 ⟨v2, rfl, hr2f, hb⟩; obtain ⟨Af, cf, ef⟩ := Kd.R_slice hr2f; subst ef; have HFR := mk hr2f; clear hr2f; replace BK := mk (blk_below BK.out hb); replace HB := mk (below_step HB.out hb); clear hb; obtain ⟨_, _, _, _, _, _, _, _, _, _⟩ := c5_ BK.out) | (go_at_call 42; refine (tree_Plain.calls a0_0 a0_1 a0_2 A0_3 c0_3 l0_3 A0_4 c0_4 l0_4 _ e2 _ (Kd.C_below HR3.out HB.out) HC3.out (Kd.C_below HR4.out HB.out) HC4.out HQ.out).mono ?_; rintro e w3 ⟨rfl, hb⟩; replace HFR := mk (Kd.R_below HFR.out hb); replace BK := mk (blk_below BK.out hb); replace HB := mk (below_step HB.out hb); clear hb; obtain ⟨_, _, _, _, _, _, _, _, _, _⟩ := c5_ BK.out) | (go_at_call 98; refine (truth_fit.calls k Af cf fr A1 c1 l1 A2 c2 l2 _ _ (Kd.R_reads' HFR.out).2.2 (Kd.R_reads' HFR.out).2.1 (Kd.C_below HR1.out HB.out) HC1.out (Kd.C_below HR2.out HB.out) HC2.out HFT.out).mono ?_; rintro e w4 ⟨rfl, hb⟩; replace BK := mk (blk_below BK.out hb); replace HB := mk (below_step HB.out hb); clear hb; obtain ⟨_, _, _, _, _, _, _, _, _, _⟩ := c5_ BK.out) | ((with_reducible refine gate_dst (N := 40) rfl ?_); refine box_event ?hg (N := 40) ?hd (cs := #[.slice A1 l1.length c1, .slice A2 l2.length c2, .slice none 0 0]) (t := 130) ?hr ?_; (case hd => rfl); (case hg => rfl); (case hr => exact kq6); intro g hgb w5 hbox hb; have GEg := mk (show w.heap.size ≤ g from by rw [hgb]; exact below_size HB.out); have BG := mk hbox; clear hbox hgb; replace BK := mk (blk_below BK.out hb); replace HB := mk (below_step HB.out hb); clear hb; obtain ⟨_, _, _, _, _, _, _, _, _, _⟩ := c5_ BK.out) | ((with_reducible refine gate_dst (N := 13) rfl ?_); refine box_event ?hg (N := 13) ?hd (cs := #[.pointer none]) (t := 127) ?hr ?_; (case hd => rfl); (case hg => rfl); (case hr => exact kq6); intro gp hgb w6 hbox hb; have NBp := mk (show g ≠ gp from by rw [hgb]; exact Nat.ne_of_lt (blk_lt BG.out)); have NBb := mk (show gb ≠ gp from by rw [hgb]; exact Nat.ne_of_lt (blk_lt BK.out)); have GEp := mk (show w.heap.size ≤ gp from by rw [hgb]; exact below_size HB.out); replace BG := mk (blk_below BG.out hb); have BP := mk hbox; clear hbox hgb; replace BK := mk (blk_below BK.out hb); replace HB := mk (below_step HB.out hb); clear hb; obtain ⟨_, _, _, _, _, _, _, _, _, _⟩ := c5_ BK.out; obtain ⟨_, _⟩ := e1_ BP.out; have hne := NBp.out; have hne2 := NBb.out) | (go_at_call 99; refine (workF_calls (w0 := w) (names := l1) (vals := l2) (An := A1) (Av := A2) (cn := c1) (cv := c2) (vs := .slice none 0 0) ⟨HR1.out, HC1.out, HR2.out, HC2.out, HG.out.hnl, HG.out.hin, fun s => big_of_in (HG.out.hin s)⟩ ⟨a0_0, a0_1, a0_2, l0_3, l0_4⟩ HG.out.size HG.out.fine A0_3 c0_3 A0_4 c0_4 HR3.out HC3.out HR4.out HC4.out ⟨far1_ BG.out NBp.out, GEg.out, below_set HB.out GEp.out, [], Kd.R_nil _ _ _ _ _, .nil⟩ (put1_ BP.out) (far1_ BK.out NBb.out)).mono ?_; rw [HZ.out]; simp only [Bool.false_eq_true, if_false, if_true, trueS, falseS]; rintro e w7 ⟨rfl, hb7⟩; replace HB := mk hb7; clear hb7))
            go_ret2
            exact ⟨by rw [HZ.out]; rfl, kq4⟩
        · cases h
      · rw [if_neg ce] at h
        obtain ⟨rfl, rfl⟩ : false = r1 ∧ e3 = r2 := by simpa using h
        have b3 : (e3 != 0) = true := bne_iff_ne.mpr ce
        clear h ce
        go_enter Try.func59, Try.ntmps59
        go_wp2_with (first | ((with_reducible refine gate_dst (N := 3) rfl ?_); refine box_event ?hg (N := 3) ?hd (cs := #[.int .i64 a0_0, .string a0_1, .int .i64 a0_2, .slice A0_3 l0_3.length c0_3, .slice A0_4 l0_4.length c0_4]) (t := 39) ?hr ?_; (case hd => rfl); (case hg => rfl); (case hr => exact kq6); intro gb hgb w1 hbox hb; have GE3 := mk (show w.heap.size ≤ gb from by rw [hgb]; exact below_size HB.out); have BK := mk hbox; replace HB := mk (below_step HB.out hb); clear hb hbox hgb; obtain ⟨_, _, _, _, _, _, _, _, _, _⟩ := c5_ BK.out) | (go_at_call 30; refine (tree_Free.calls k a0_0 a0_1 a0_2 A0_3 c0_3 l0_3 A0_4 c0_4 l0_4 fr _ _ (Kd.C_below HR3.out HB.out) HC3.out (Kd.C_below HR4.out HB.out) HC4.out HP.out).mono ?_; rintro e w2 ⟨v2, rfl, hr2f, hb⟩; obtain ⟨Af, cf, ef⟩ := Kd.R_slice hr2f; subst ef; have HFR := mk hr2f; clear hr2f; replace BK := mk (blk_below BK.out hb); replace HB := mk (below_step HB.out hb); clear hb; obtain ⟨_, _, _, _, _, _, _, _, _, _⟩ := c5_ BK.out) | (go_at_call 42; refine (tree_Plain.calls a0_0 a0_1 a0_2 A0_3 c0_3 l0_3 A0_4 c0_4 l0_4 _ e2 _ (Kd.C_below HR3.out HB.out) HC3.out (Kd.C_below HR4.out HB.out) HC4.out HQ.out).mono ?_; rintro e w3 ⟨rfl, hb⟩; replace HFR := mk (Kd.R_below HFR.out hb); replace BK := mk (blk_below BK.out hb); replace HB := mk (below_step HB.out hb); clear hb; obtain ⟨_, _, _, _, _, _, _, _, _, _⟩ := c5_ BK.out) | (go_at_call 98; refine (truth_fit.calls k Af cf fr A1 c1 l1 A2 c2 l2 _ _ (Kd.R_reads' HFR.out).2.2 (Kd.R_reads' HFR.out).2.1 (Kd.C_below HR1.out HB.out) HC1.out (Kd.C_below HR2.out HB.out) HC2.out HFT.out).mono ?_; rintro e w4 ⟨rfl, hb⟩; replace BK := mk (blk_below BK.out hb); replace HB := mk (below_step HB.out hb); clear hb; obtain ⟨_, _, _, _, _, _, _, _, _, _⟩ := c5_ BK.out))
        go_ret2
        exact ⟨rfl, kq4⟩
  · rw [if_neg ce] at h
    obtain ⟨rfl, rfl⟩ : false = r1 ∧ e1 = r2 := by simpa using h
    have b1 : (e1 != 0) = true := bne_iff_ne.mpr ce
    clear h ce
    go_enter Try.func59, Try.ntmps59
    go_wp2_with (first | ((with_reducible refine gate_dst (N := 3) rfl ?_); refine box_event ?hg (N := 3) ?hd (cs := #[.int .i64 a0_0, .string a0_1, .int .i64 a0_2, .slice A0_3 l0_3.length c0_3, .slice A0_4 l0_4.length c0_4]) (t := 39) ?hr ?_; (case hd => rfl); (case hg => rfl); (case hr => exact kq6); intro gb hgb w1 hbox hb; have GE3 := mk (show w.heap.size ≤ gb from by rw [hgb]; exact below_size HB.out); have BK := mk hbox; replace HB := mk (below_step HB.out hb); clear hb hbox hgb; obtain ⟨_, _, _, _, _, _, _, _, _, _⟩ := c5_ BK.out) | (go_at_call 30; refine (tree_Free.calls k a0_0 a0_1 a0_2 A0_3 c0_3 l0_3 A0_4 c0_4 l0_4 fr _ _ (Kd.C_below HR3.out HB.out) HC3.out (Kd.C_below HR4.out HB.out) HC4.out HP.out).mono ?_; rintro e w2 ⟨v2, rfl, hr2f, hb⟩; obtain ⟨Af, cf, ef⟩ := Kd.R_slice hr2f; subst ef; have HFR := mk hr2f; clear hr2f; replace BK := mk (blk_below BK.out hb); replace HB := mk (below_step HB.out hb); clear hb; obtain ⟨_, _, _, _, _, _, _, _, _, _⟩ := c5_ BK.out))
    go_ret2
    exact ⟨rfl, kq4⟩
end Go.Proofs.Ytjknpmibdkoklaa.U
namespace Go.Proofs.Ytjknpmibdkoklaa.U
open Go.RowKit Go.Proofs.YtjknpmibdkoklaaW.PrintWords Go.Proofs.YtjknpmibdkoklaaW.PrintLast Go.Proofs.YtjknpmibdkoklaaW.PrintMore
open Aside0 (mk)
open List (setIfInBounds_toArray set_cons_zero set_cons_succ)
attribute [local go_sem] max2_int min2_int max_two min_two max_three min_three max_four min_four
set_option linter.unusedVariables false
set_option linter.unusedSimpArgs false
attribute [local go_sem] fld99_2 fld103_2 fld172_1
def tree_Names.f (k : Nat) (a0_0 : Int) (a0_1 : Int) (a0_2 : ByteArray) (l0_3 : List (S66)) : Option (List ByteArray × Int) := (tree_CheckTerm.f a0_0 a0_1 a0_2 l0_3).bind fun t682 => (if t682 = 0 then ((tree_named.f k a0_0 a0_1 a0_2 l0_3).bind fun t683 => (some (t683, 0))) else (some (([] : List ByteArray), t682)))
theorem tree_Names.mono : ∀ a0 a1 a2 a3 k, LeO (tree_Names.f k a0 a1 a2 a3) (tree_Names.f (k + 1) a0 a1 a2 a3) := by
  intro a0 a1 a2 a3 k
  unfold tree_Names.f
  repeat' first
      | (with_reducible exact tree_named.mono _ _ _ _ _)
      | (with_reducible exact LeO.refl _)
      | (with_reducible exact LeO.none _)
      | (with_reducible refine LeO.ite ?_ ?_)
      | (with_reducible refine LeO.bind ?_ (fun _ => ?_))
      | exact tree_named.mono _ _ _ _ _
      | exact LeO.none _
      | refine LeO.ite ?_ ?_
      | refine LeO.bind ?_ (fun _ => ?_)
set_option maxHeartbeats 8000000 in
set_option maxRecDepth 100000 in
theorem tree_Names.calls (k : Nat) (a0_0 : Int) (a0_1 : Int) (a0_2 : ByteArray) (A0_3 : Option Addr) (c0_3 : Nat) (l0_3 : List (S66)) (r1 : List ByteArray) (r2 : Int) (w : World) (hr0_3 : Kd.C k66 w A0_3 l0_3.length l0_3) (hc0_3 : l0_3.length ≤ c0_3) (h : tree_Names.f k a0_0 a0_1 a0_2 l0_3 = some (r1, r2)) :
    Calls Try.prog 57 #[.agg #[.int .i64 a0_0, .int .i64 a0_1, .string a0_2, .slice A0_3 l0_3.length c0_3]] w fun e w' => ∃ v0_ : Value, e = .returned (.tuple #[v0_, .int .i64 r2]) ∧ Kd.R Kd.string 9 w' w.heap.size (fun _ => True) v0_ r1 ∧ Below w.heap.size w w' := by
  have hu66 := Try.underlying66
  have HR0_3 := mk hr0_3
  have HC0_3 := mk hc0_3
  clear hr0_3 hc0_3
  have HB := mk (Below.refl w.heap.size w)
  have H : ((tree_CheckTerm.f a0_0 a0_1 a0_2 l0_3).bind fun t682 => (if t682 = 0 then ((tree_named.f k a0_0 a0_1 a0_2 l0_3).bind fun t683 => (some (t683, 0))) else (some (([] : List ByteArray), t682)))) = some (r1, r2) := h
  clear h
  replace H := Option.bind_eq_some_iff.mp H
  obtain ⟨t682, A20, H⟩ := H
  replace H : (if t682 = 0 then ((tree_named.f k a0_0 a0_1 a0_2 l0_3).bind fun t683 => (some (t683, 0))) else (some (([] : List ByteArray), t682))) = some (r1, r2) := H
  have A2 := mk A20
  clear A20
  by_cases c3 : t682 = 0
  · rw [if_pos c3] at H
    have c3b0 := eT_ c3
    have c3b1 := nF_ c3
    clear c3
    replace H := Option.bind_eq_some_iff.mp H
    obtain ⟨t683, A40, H⟩ := H
    replace H : (some (t683, 0)) = some (r1, r2) := H
    have A4 := mk A40
    clear A40
    simp only [Option.some.injEq, Prod.mk.injEq] at H
    obtain ⟨rfl, rfl⟩ := H
    go_enter Try.func57, Try.ntmps57
    go_wp2_with (first | ((with_reducible refine gate_dst (N := 1) rfl ?_); refine box_event ?hg (N := 1) ?hd (cs := #[.int .i64 a0_0, .int .i64 a0_1, .string a0_2, .slice A0_3 l0_3.length c0_3]) (t := 66) ?hr ?_; (case hd => rfl); (case hg => rfl); (case hr => exact kq6); intro gb681 hg w5 hbox hb; have BK681 := mk (hbox); have GW681 := (gs_ hg kq15); have GE681 := GW681; replace HB := mk (below_step kq15 hb); clear hb hbox hg; obtain ⟨_, _, _, _, _, _, _, _⟩ := cz4_ BK681.out) | ((with_reducible refine gate_callee (f := 88) rfl ?_); refine goesL_ (some 6) rfl rfl Try.func88 kq0 rfl #[.agg #[.int .i64 a0_0, .int .i64 a0_1, .string a0_2, .slice A0_3 l0_3.length c0_3]] rfl kq14 ?_; (with_reducible refine (tree_CheckTerm.calls a0_0 a0_1 a0_2 _ _ l0_3 t682 _ ?side1 ?side2 A2.out).mono ?_); (case side1 => exact kq25 HR0_3); (case side2 => exact HC0_3.out); rintro e w7 ⟨rfl, hb⟩; refine ⟨_, rfl, ?_⟩; replace BK681 := (bb_ BK681 hb); replace HB := mk (below_step (kq16 GE681) hb); obtain ⟨_, _, _, _, _, _, _, _⟩ := cz4_ BK681.out) | ((with_reducible refine gate_callee (f := 97) rfl ?_); refine goesL_ (some 11) rfl rfl Try.func97 kq0 rfl #[.agg #[.int .i64 a0_0, .int .i64 a0_1, .string a0_2, .slice A0_3 l0_3.length c0_3]] rfl kq14 ?_; (with_reducible refine (tree_named.calls k a0_0 a0_1 a0_2 _ _ l0_3 t683 _ ?side1 ?side2 A4.out).mono ?_); (case side1 => exact kq25 HR0_3); (case side2 => exact HC0_3.out); rintro e w9 ⟨v684, rfl, ho0, hb⟩; refine ⟨_, rfl, ?_⟩; have HO685 := mk (Kd.R_lower ho0 (below_size (kq16 GE681))); replace BK681 := (bb_ BK681 hb); replace HB := mk (below_step (kq16 GE681) hb)))
    go_ret2
    exact ⟨_, kq21, (kq23 HO685), (kq16 GE681)⟩
  · rw [if_neg c3] at H
    have c3b0 := eF_ c3
    have c3b1 := nT_ c3
    simp only [Option.some.injEq, Prod.mk.injEq] at H
    obtain ⟨rfl, rfl⟩ := H
    go_enter Try.func57, Try.ntmps57
    go_wp2_with (first | ((with_reducible refine gate_dst (N := 1) rfl ?_); refine box_event ?hg (N := 1) ?hd (cs := #[.int .i64 a0_0, .int .i64 a0_1, .string a0_2, .slice A0_3 l0_3.length c0_3]) (t := 66) ?hr ?_; (case hd => rfl); (case hg => rfl); (case hr => exact kq6); intro gb681 hg w10 hbox hb; have BK681 := mk (hbox); have GW681 := (gs_ hg kq15); have GE681 := GW681; replace HB := mk (below_step kq15 hb); clear hb hbox hg; obtain ⟨_, _, _, _, _, _, _, _⟩ := cz4_ BK681.out) | ((with_reducible refine gate_callee (f := 88) rfl ?_); refine goesL_ (some 6) rfl rfl Try.func88 kq0 rfl #[.agg #[.int .i64 a0_0, .int .i64 a0_1, .string a0_2, .slice A0_3 l0_3.length c0_3]] rfl kq14 ?_; (with_reducible refine (tree_CheckTerm.calls a0_0 a0_1 a0_2 _ _ l0_3 t682 _ ?side1 ?side2 A2.out).mono ?_); (case side1 => exact kq25 HR0_3); (case side2 => exact HC0_3.out); rintro e w12 ⟨rfl, hb⟩; refine ⟨_, rfl, ?_⟩; replace BK681 := (bb_ BK681 hb); replace HB := mk (below_step (kq16 GE681) hb)))
    go_ret2
    exact ⟨_, kq21, kq28, (kq16 GE681)⟩
end Go.Proofs.Ytjknpmibdkoklaa.U
set_option maxRecDepth 100000
namespace Go.Proofs.Ytjknpmibdkoklaa.U
open Go.RowKit Go.Proofs.YtjknpmibdkoklaaW.PrintWords Go.Proofs.YtjknpmibdkoklaaW.PrintLast Go.Proofs.YtjknpmibdkoklaaW.PrintMore
open Aside0 (mk)
structure GoodT (names : List ByteArray) (vals : List Int) (t : S66) : Prop where
  hnl : names.length < 4611686018427387904
  hin : ∀ s, -9223372036854775808 ≤ look names vals s ∧ look names vals s < 9223372036854775808
  size : sizeT t ≤ 1000
  fine : FineT (Told names vals) t
open Classical in
noncomputable def workedT (names : List ByteArray) (vals : List Int) (t : S66) : Option (ByteArray × Int) := if GoodT names vals t then some (decS (valZ (look names vals) t), 0) else none
noncomputable def truth_Term.f (k : Nat) (a0_0 : Int) (a0_1 : Int) (a0_2 : ByteArray) (l0_3 : List S66) (l1 : List ByteArray) (l2 : List Int) : Option (ByteArray × Int) :=
  (tree_Names.f k a0_0 a0_1 a0_2 l0_3).bind fun p => if p.2 = 0 then (truth_fit.f k p.1 l1 l2).bind fun e => if e = 0 then workedT l1 l2 ⟨a0_0, a0_1, a0_2, l0_3⟩ else some (⟨#[]⟩, e) else some (⟨#[]⟩, p.2)
theorem truth_Term.mono : ∀ a0 a1 a2 a3 a4 a5 k, LeO (truth_Term.f k a0 a1 a2 a3 a4 a5) (truth_Term.f (k + 1) a0 a1 a2 a3 a4 a5) := by
  intro a0 a1 a2 a3 a4 a5 k
  unfold truth_Term.f
  refine LeO.bind (tree_Names.mono _ _ _ _ _) (fun _ => LeO.ite (LeO.bind (truth_fit.mono _ _ _ _) (fun _ => LeO.refl _)) (LeO.refl _))
set_option maxHeartbeats 16000000 in
theorem truth_Term.calls (k : Nat) (a0_0 : Int) (a0_1 : Int) (a0_2 : ByteArray) (A0_3 : Option Addr) (c0_3 : Nat) (l0_3 : List S66) (A1 : Option Addr) (c1 : Nat) (l1 : List ByteArray) (A2 : Option Addr) (c2 : Nat) (l2 : List Int) (r1 : ByteArray) (r2 : Int) (w : World) (hr0_3 : Kd.C k66 w A0_3 l0_3.length l0_3) (hc0_3 : l0_3.length ≤ c0_3) (hr1 : Kd.C Kd.string w A1 l1.length l1) (hc1 : l1.length ≤ c1) (hr2 : Kd.C (Kd.int .i64) w A2 l2.length l2) (hc2 : l2.length ≤ c2) (h : truth_Term.f k a0_0 a0_1 a0_2 l0_3 l1 l2 = some (r1, r2)) :
    Calls Try.prog 96 #[.agg #[.int .i64 a0_0, .int .i64 a0_1, .string a0_2, .slice A0_3 l0_3.length c0_3], .slice A1 l1.length c1, .slice A2 l2.length c2] w fun e w' => e = .returned (.tuple #[.string r1, .int .i64 r2]) ∧ Below w.heap.size w w' := by
  have hu66 := Try.underlying66
  obtain ⟨p, hp, h⟩ := Option.bind_eq_some_iff.mp h
  obtain ⟨fr, e1⟩ := p
  have HP := mk hp
  have HR3 := mk hr0_3
  have HC3 := mk hc0_3
  have HR1 := mk hr1
  have HC1 := mk hc1
  have HR2 := mk hr2
  have HC2 := mk hc2
  have HB := mk (Below.refl w.heap.size w)
  have hmf : ∀ (fn : Fn) (first cap : Array Value) (w : World), (Instr.makeFunc fn first cap).run Try.prog w = .ok (.func fn first cap) w := fun _ _ _ _ => rfl
  clear hp hr0_3 hc0_3 hr1 hc1 hr2 hc2
  by_cases ce : e1 = 0
  · subst ce
    rw [if_pos rfl] at h
    have b1 : ((0 : Int) != 0) = false := by decide
    obtain ⟨e3, hf, h⟩ := Option.bind_eq_some_iff.mp h
    have HFT := mk hf
    clear hf
    by_cases ce : e3 = 0
    · subst ce
      rw [if_pos rfl] at h
      unfold workedT at h
      split at h
      · rename_i hg
        obtain ⟨hz, rfl⟩ : decS (valZ (look l1 l2) ⟨a0_0, a0_1, a0_2, l0_3⟩) = r1 ∧ (0 : Int) = r2 := by simpa using h
        have HG := mk hg
        have HZ := mk hz
        clear h hg hz
        go_enter Try.func96, Try.ntmps96
        go_wp2_with (first | ((with_reducible refine gate_dst (N := 3) rfl ?_); refine box_event ?hg (N := 3) ?hd (cs := #[.int .i64 a0_0, .int .i64 a0_1, .string a0_2, .slice A0_3 l0_3.length c0_3]) (t := 66) ?hr ?_; (case hd => rfl); (case hg => rfl); (case hr => exact kq6); intro gb hgb w1 hbox hb; have GE3 := mk (show w.heap.size ≤ gb from by rw [hgb]; exact below_size HB.out); have BK := mk hbox; replace HB := mk (below_step HB.out hb); clear hb hbox hgb; obtain ⟨_, _, _, _, _, _, _, _⟩ := c4_ BK.out) | (go_at_call 57; refine (tree_Names.calls k a0_0 a0_1 a0_2 A0_3 c0_3 l0_3 fr _ _ (Kd.C_below HR3.out HB.out) HC3.out HP.out).mono ?_; rintro e w2 ⟨v2, rfl, hr2f, hb⟩; obtain ⟨Af, cf, ef⟩ := Kd.R_slice hr2f; subst ef; have HFR := mk hr2f; clear hr2f; replace BK := mk (blk_below BK.out hb); replace HB := mk (below_step HB.out hb); clear hb; obtain ⟨_, _, _, _, _, _, _, _⟩ := c4_ BK.out) | (go_at_call 98; refine (truth_fit.calls k Af cf fr A1 c1 l1 A2 c2 l2 _ _ (Kd.R_reads' HFR.out).2.2 (Kd.R_reads' HFR.out).2.1 (Kd.C_below HR1.out HB.out) HC1.out (Kd.C_below HR2.out HB.out) HC2.out HFT.out).mono ?_; rintro e w4 ⟨rfl, hb⟩; replace BK := mk (blk_below BK.out hb); replace HB := mk (below_step HB.out hb); clear hb; obtain ⟨_, _, _, _, _, _, _, _⟩ := c4_ BK.out) | ((with_reducible refine gate_dst (N := 30) rfl ?_); refine box_event ?hg (N := 30) ?hd (cs := #[.slice A1 l1.length c1, .slice A2 l2.length c2, .slice none 0 0]) (t := 130) ?hr ?_; (case hd => rfl); (case hg => rfl); (case hr => exact kq6); intro g hgb w5 hbox hb; have GEg := mk (show w.heap.size ≤ g from by rw [hgb]; exact below_size HB.out); have BG := mk hbox; clear hbox hgb; replace BK := mk (blk_below BK.out hb); replace HB := mk (below_step HB.out hb); clear hb; obtain ⟨_, _, _, _, _, _, _, _⟩ := c4_ BK.out) | ((with_reducible refine gate_dst (N := 11) rfl ?_); refine box_event ?hg (N := 11) ?hd (cs := #[.pointer none]) (t := 127) ?hr ?_; (case hd => rfl); (case hg => rfl); (case hr => exact kq6); intro gp hgb w6 hbox hb; have NBp := mk (show g ≠ gp from by rw [hgb]; exact Nat.ne_of_lt (blk_lt BG.out)); have NBb := mk (show gb ≠ gp from by rw [hgb]; exact Nat.ne_of_lt (blk_lt BK.out)); have GEp := mk (show w.heap.size ≤ gp from by rw [hgb]; exact below_size HB.out); replace BG := mk (blk_below BG.out hb); have BP := mk hbox; clear hbox hgb; replace BK := mk (blk_below BK.out hb); replace HB := mk (below_step HB.out hb); clear hb; obtain ⟨_, _, _, _, _, _, _, _⟩ := c4_ BK.out; obtain ⟨_, _⟩ := e1_ BP.out; have hne := NBp.out; have hne2 := NBb.out) | (go_at_call 99; refine (workT_calls (w0 := w) (names := l1) (vals := l2) (An := A1) (Av := A2) (cn := c1) (cv := c2) (vs := .slice none 0 0) ⟨HR1.out, HC1.out, HR2.out, HC2.out, HG.out.hnl, HG.out.hin, fun s => big_of_in (HG.out.hin s)⟩ ⟨a0_0, a0_1, a0_2, l0_3⟩ HG.out.size HG.out.fine A0_3 c0_3 HR3.out HC3.out ⟨far1_ BG.out NBp.out, GEg.out, below_set HB.out GEp.out, [], Kd.R_nil _ _ _ _ _, .nil⟩ (put1_ BP.out) (far1_ BK.out NBb.out)).mono ?_; rintro e w7 ⟨rfl, hb7⟩; replace HB := mk hb7; clear hb7))
        go_ret2
        exact ⟨by rw [← HZ.out]; rfl, kq4⟩
      · cases h
    · rw [if_neg ce] at h
      obtain ⟨rfl, rfl⟩ : (⟨#[]⟩ : ByteArray) = r1 ∧ e3 = r2 := by simpa using h
      have b3 : (e3 != 0) = true := bne_iff_ne.mpr ce
      clear h ce
      go_enter Try.func96, Try.ntmps96
      go_wp2_with (first | ((with_reducible refine gate_dst (N := 3) rfl ?_); refine box_event ?hg (N := 3) ?hd (cs := #[.int .i64 a0_0, .int .i64 a0_1, .string a0_2, .slice A0_3 l0_3.length c0_3]) (t := 66) ?hr ?_; (case hd => rfl); (case hg => rfl); (case hr => exact kq6); intro gb hgb w1 hbox hb; have GE3 := mk (show w.heap.size ≤ gb from by rw [hgb]; exact below_size HB.out); have BK := mk hbox; replace HB := mk (below_step HB.out hb); clear hb hbox hgb; obtain ⟨_, _, _, _, _, _, _, _⟩ := c4_ BK.out) | (go_at_call 57; refine (tree_Names.calls k a0_0 a0_1 a0_2 A0_3 c0_3 l0_3 fr _ _ (Kd.C_below HR3.out HB.out) HC3.out HP.out).mono ?_; rintro e w2 ⟨v2, rfl, hr2f, hb⟩; obtain ⟨Af, cf, ef⟩ := Kd.R_slice hr2f; subst ef; have HFR := mk hr2f; clear hr2f; replace BK := mk (blk_below BK.out hb); replace HB := mk (below_step HB.out hb); clear hb; obtain ⟨_, _, _, _, _, _, _, _⟩ := c4_ BK.out) | (go_at_call 98; refine (truth_fit.calls k Af cf fr A1 c1 l1 A2 c2 l2 _ _ (Kd.R_reads' HFR.out).2.2 (Kd.R_reads' HFR.out).2.1 (Kd.C_below HR1.out HB.out) HC1.out (Kd.C_below HR2.out HB.out) HC2.out HFT.out).mono ?_; rintro e w4 ⟨rfl, hb⟩; replace BK := mk (blk_below BK.out hb); replace HB := mk (below_step HB.out hb); clear hb; obtain ⟨_, _, _, _, _, _, _, _⟩ := c4_ BK.out))
      go_ret2
      exact ⟨rfl, kq4⟩
  · rw [if_neg ce] at h
    obtain ⟨rfl, rfl⟩ : (⟨#[]⟩ : ByteArray) = r1 ∧ e1 = r2 := by simpa using h
    have b1 : (e1 != 0) = true := bne_iff_ne.mpr ce
    clear h ce
    go_enter Try.func96, Try.ntmps96
    go_wp2_with (first | ((with_reducible refine gate_dst (N := 3) rfl ?_); refine box_event ?hg (N := 3) ?hd (cs := #[.int .i64 a0_0, .int .i64 a0_1, .string a0_2, .slice A0_3 l0_3.length c0_3]) (t := 66) ?hr ?_; (case hd => rfl); (case hg => rfl); (case hr => exact kq6); intro gb hgb w1 hbox hb; have GE3 := mk (show w.heap.size ≤ gb from by rw [hgb]; exact below_size HB.out); have BK := mk hbox; replace HB := mk (below_step HB.out hb); clear hb hbox hgb; obtain ⟨_, _, _, _, _, _, _, _⟩ := c4_ BK.out) | (go_at_call 57; refine (tree_Names.calls k a0_0 a0_1 a0_2 A0_3 c0_3 l0_3 fr _ _ (Kd.C_below HR3.out HB.out) HC3.out HP.out).mono ?_; rintro e w2 ⟨v2, rfl, hr2f, hb⟩; obtain ⟨Af, cf, ef⟩ := Kd.R_slice hr2f; subst ef; have HFR := mk hr2f; clear hr2f; replace BK := mk (blk_below BK.out hb); replace HB := mk (below_step HB.out hb); clear hb; obtain ⟨_, _, _, _, _, _, _, _⟩ := c4_ BK.out))
    go_ret2
    exact ⟨rfl, kq4⟩
end Go.Proofs.Ytjknpmibdkoklaa.U
set_option maxRecDepth 100000
namespace Go.Proofs.Ytjknpmibdkoklaa.U
open Go.RowKit Go.Proofs.YtjknpmibdkoklaaW.PrintWords Go.Proofs.YtjknpmibdkoklaaW.PrintLast Go.Proofs.YtjknpmibdkoklaaW.PrintMore
mutual
def cntT : S66 → Nat
  | ⟨_, _, _, l⟩ => 1 + cntTs l
def cntTs : List S66 → Nat
  | [] => 0
  | t :: l => cntT t + cntTs l
end
mutual
def cntF : S39 → Nat
  | ⟨_, _, _, l, q⟩ => 1 + (cntTs l + cntFs q)
def cntFs : List S39 → Nat
  | [] => 0
  | t :: l => cntF t + cntFs l
end
theorem cntT_pos (t : S66) : 1 ≤ cntT t := by cases t; rw [cntT]; omega
theorem cntF_pos (t : S39) : 1 ≤ cntF t := by cases t; rw [cntF]; omega
theorem len_cntTs : ∀ l : List S66, l.length ≤ cntTs l
  | [] => Nat.zero_le _
  | t :: l => by have := len_cntTs l; have := cntT_pos t; rw [cntTs, List.length_cons]; omega
theorem len_cntFs : ∀ l : List S39, l.length ≤ cntFs l
  | [] => Nat.zero_le _
  | t :: l => by have := len_cntFs l; have := cntF_pos t; rw [cntFs, List.length_cons]; omega
mutual
def RightT : S66 → Prop
  | ⟨a, b, s, l⟩ => okT ⟨a, b, s, l⟩ = true ∧ RightTs l
def RightTs : List S66 → Prop
  | [] => True
  | t :: l => RightT t ∧ RightTs l
end
mutual
def RightF : S39 → Prop
  | ⟨a, s, b, l, q⟩ => okF ⟨a, s, b, l, q⟩ = true ∧ (RightTs l ∧ RightFs q)
def RightFs : List S39 → Prop
  | [] => True
  | t :: l => RightF t ∧ RightFs l
end
theorem nodeM_right {dep : Int} {good : Bool} {m : Int × Int × Int} (h0 : 0 ≤ m.1) (h1 : m.1 ≤ 500) (h : (nodeM dep good m).2.2 = 0) : good = true ∧ (nodeM dep good m).1 = m.1 + 1 ∧ m.1 + 1 ≤ 500 := by
  have hw : wrap64 (m.1 + 1) = m.1 + 1 := by unfold wrap64; omega
  unfold nodeM at h ⊢
  rw [hw] at h ⊢
  simp only at h ⊢
  split at h
  · cases h
  · split at h
    · cases h
    · split at h
      · rename_i a b c; exact ⟨c, by first | rfl | trivial, kq1⟩
      · cases h
mutual
theorem measT_right : ∀ (t : S66) (dep : Int) (m : Int × Int × Int), 0 ≤ m.1 → m.1 ≤ 500 → (measT t dep m).2.2 = 0 → RightT t ∧ (measT t dep m).1 = m.1 + cntT t ∧ m.1 + cntT t ≤ 500
  | ⟨a, b, s, l⟩, dep, m, h0, h1, h => by
    rw [measT] at h ⊢
    rw [cntT, RightT]
    split at h
    · rename_i hn
      obtain ⟨g1, g2, g3⟩ := nodeM_right h0 h1 hn
      obtain ⟨r1, r2, r3⟩ := measTs_right l (wrap64 (dep + 1)) _ kq1 kq1 h
      rw [if_pos hn]
      exact ⟨⟨g1, r1⟩, kq1, kq1⟩
    · rename_i hn; exact absurd h hn
theorem measTs_right : ∀ (l : List S66) (dep : Int) (m : Int × Int × Int), 0 ≤ m.1 → m.1 ≤ 500 → (measTs l dep m).2.2 = 0 → RightTs l ∧ (measTs l dep m).1 = m.1 + cntTs l ∧ m.1 + cntTs l ≤ 500
  | [], dep, m, h0, h1, h => by rw [measTs, cntTs, RightTs]; exact ⟨trivial, kq1, kq1⟩
  | t :: l, dep, m, h0, h1, h => by
    rw [measTs] at h ⊢
    rw [cntTs, RightTs]
    split at h
    · rename_i hn
      obtain ⟨g1, g2, g3⟩ := measT_right t dep m h0 h1 hn
      obtain ⟨r1, r2, r3⟩ := measTs_right l dep _ kq1 kq1 h
      rw [if_pos hn]
      exact ⟨⟨g1, r1⟩, kq1, kq1⟩
    · rename_i hn; exact absurd h hn
end
mutual
theorem measF_right : ∀ (t : S39) (dep : Int) (m : Int × Int × Int), 0 ≤ m.1 → m.1 ≤ 500 → (measF t dep m).2.2 = 0 → RightF t ∧ (measF t dep m).1 = m.1 + cntF t ∧ m.1 + cntF t ≤ 500
  | ⟨a, s, b, l, q⟩, dep, m, h0, h1, h => by
    rw [measF] at h ⊢
    rw [cntF, RightF]
    split at h
    · rename_i hn
      obtain ⟨g1, g2, g3⟩ := nodeM_right h0 h1 hn
      rw [if_pos hn]
      split at h
      · rename_i hl
        obtain ⟨r1, r2, r3⟩ := measTs_right l (wrap64 (dep + 1)) _ kq1 kq1 hl
        obtain ⟨q1, q2, q3⟩ := measFs_right q (wrap64 (dep + 1)) _ kq1 kq1 h
        rw [if_pos hl]
        exact ⟨⟨g1, r1, q1⟩, kq1, kq1⟩
      · rename_i hl; exact absurd h hl
    · rename_i hn; exact absurd h hn
theorem measFs_right : ∀ (l : List S39) (dep : Int) (m : Int × Int × Int), 0 ≤ m.1 → m.1 ≤ 500 → (measFs l dep m).2.2 = 0 → RightFs l ∧ (measFs l dep m).1 = m.1 + cntFs l ∧ m.1 + cntFs l ≤ 500
  | [], dep, m, h0, h1, h => by rw [measFs, cntFs, RightFs]; exact ⟨trivial, kq1, kq1⟩
  | t :: l, dep, m, h0, h1, h => by
    rw [measFs] at h ⊢
    rw [cntFs, RightFs]
    split at h
    · rename_i hn
      obtain ⟨g1, g2, g3⟩ := measF_right t dep m h0 h1 hn
      obtain ⟨r1, r2, r3⟩ := measFs_right l dep _ kq1 kq1 h
      rw [if_pos hn]
      exact ⟨⟨g1, r1⟩, kq1, kq1⟩
    · rename_i hn; exact absurd h hn
end
theorem cntTs_mem : ∀ {l : List S66}, ∀ t ∈ l, cntT t ≤ cntTs l
  | x :: l, t, ht => by
    rw [cntTs]
    rcases List.mem_cons.1 ht with rfl | ht
    · omega
    · have := cntTs_mem t ht; omega
theorem cntFs_mem : ∀ {l : List S39}, ∀ t ∈ l, cntF t ≤ cntFs l
  | x :: l, t, ht => by
    rw [cntFs]
    rcases List.mem_cons.1 ht with rfl | ht
    · omega
    · have := cntFs_mem t ht; omega
mutual
def namesT : S66 → List ByteArray
  | ⟨a, _, s, l⟩ => canon ((if a = 1 then [s] else []) ++ namesTs l)
def namesTs : List S66 → List ByteArray
  | [] => []
  | t :: l => namesT t ++ namesTs l
end
theorem namesT_eq (t : S66) : namesT t = canon ((if t.f0 = 1 then [t.f2] else []) ++ namesTs t.f3) := by cases t; rw [namesT]
mutual
theorem namesT_len : ∀ t : S66, (namesT t).length ≤ cntT t
  | ⟨a, b, s, l⟩ => by
    rw [namesT, cntT]
    have h1 := canon_length ((if a = 1 then [s] else []) ++ namesTs l)
    have h2 := namesTs_len l
    rw [List.length_append] at h1
    have h3 : (if a = 1 then [s] else []).length ≤ 1 := by split <;> simp
    omega
theorem namesTs_len : ∀ l : List S66, (namesTs l).length ≤ cntTs l
  | [] => Nat.zero_le _
  | t :: l => by
    rw [namesTs, cntTs, List.length_append]
    have := namesT_len t
    have := namesTs_len l
    omega
end
theorem rd_T66_nat {l : List S66} {i : Nat} (h : i < l.length) : rd_T66 l (i : Int) = l[i] := by
  show l.getD i z66 = _
  rw [List.getD_eq_getElem?_getD, List.getElem?_eq_getElem h]
  rfl
theorem rd_T39_nat {l : List S39} {i : Nat} (h : i < l.length) : rd_T39 l (i : Int) = l[i] := by
  show l.getD i z39 = _
  rw [List.getD_eq_getElem?_getD, List.getElem?_eq_getElem h]
  rfl
theorem named_loop (l : List S66) (ih : ∀ u ∈ l, Ev (fun k => tree_named.f k u.f0 u.f1 u.f2 u.f3) (namesT u)) (hl : l.length ≤ 1000) : ∀ (n i : Nat) (acc : List ByteArray), i ≤ l.length → l.length - i = n → acc.length + (namesTs (l.drop i)).length ≤ 1000000 → Ev (fun k => tree_named.l0 k acc l (l.length : Int) (i : Int)) (canon (acc ++ namesTs (l.drop i)))
  | 0, i, acc, hi, hn, ho => by
    rw [List.drop_of_length_le kq1] at ho ⊢
    rw [namesTs, List.append_nil]
    exact Ev.step (f := fun _ => some (canon acc)) (fun k => by
      show tree_named.l0 (k + 1) acc l (l.length : Int) (i : Int) = _
      unfold tree_named.l0
      rw [if_neg kq1, sorted_canon kq1]
      rfl) (Ev.now _)
  | n + 1, i, acc, hi, hn, ho => by
    have hlt : i < l.length := by omega
    rw [List.drop_eq_getElem_cons hlt] at ho ⊢
    rw [namesTs, List.length_append] at ho
    refine Ev.step (f := fun k => (tree_named.f k l[i].f0 l[i].f1 l[i].f2 l[i].f3).bind fun t => (if acc.length + t.length < 8796093022208 then (tree_named.l0 k (acc ++ t) l (l.length : Int) ((i + 1 : Nat) : Int)) else (none))) (fun k => by
      show tree_named.l0 (k + 1) acc l (l.length : Int) (i : Int) = _
      conv => lhs; unfold tree_named.l0
      rw [if_pos kq1, if_pos kq1, if_pos kq1, rd_T66_nat hlt, wrap_add hlt kq1]) ?_
    refine Ev.bind (ih _ (List.getElem_mem hlt)) ?_
    rw [namesTs, ← List.append_assoc]
    refine Ev.congr (fun k => if_pos kq1) ?_
    exact named_loop l ih hl n (i + 1) _ kq1 kq1 (by rw [List.length_append]; omega)
theorem named_ev : ∀ (n : Nat) (t : S66), cntT t ≤ n → n ≤ 1000 → Ev (fun k => tree_named.f k t.f0 t.f1 t.f2 t.f3) (namesT t)
  | 0, t, h, _ => absurd (cntT_pos t) kq1
  | n + 1, t, h, hn => by
    have hc : cntT t = 1 + cntTs t.f3 := by cases t; rw [cntT]
    have ih : ∀ u ∈ t.f3, Ev (fun k => tree_named.f k u.f0 u.f1 u.f2 u.f3) (namesT u) := fun u hu => named_ev n u (by have := cntTs_mem u hu; omega) kq1
    have hlen := len_cntTs t.f3
    have hnl := namesTs_len t.f3
    rw [namesT_eq]
    refine Ev.step (f := fun k => tree_named.j0 k (if t.f0 = 1 then [t.f2] else []) t.f0 t.f1 t.f2 t.f3) (fun k => by
      show tree_named.f (k + 1) t.f0 t.f1 t.f2 t.f3 = _
      unfold tree_named.f
      split
      · rw [if_pos (by simp)]; rfl
      · rfl) ?_
    refine Ev.step (f := fun k => tree_named.l0 k (if t.f0 = 1 then [t.f2] else []) t.f3 (t.f3.length : Int) ((0 : Nat) : Int)) (fun k => by
      show tree_named.j0 (k + 1) _ t.f0 t.f1 t.f2 t.f3 = _
      unfold tree_named.j0
      rfl) ?_
    have h3 : (if t.f0 = 1 then [t.f2] else []).length ≤ 1 := by split <;> simp
    exact named_loop t.f3 ih kq1 _ 0 _ (Nat.zero_le _) rfl (by rw [List.drop_zero]; omega)
end Go.Proofs.Ytjknpmibdkoklaa.U
set_option maxRecDepth 100000
namespace Go.Proofs.Ytjknpmibdkoklaa.U
open Go.RowKit Go.Proofs.YtjknpmibdkoklaaW.PrintWords Go.Proofs.YtjknpmibdkoklaaW.PrintLast Go.Proofs.YtjknpmibdkoklaaW.PrintMore
theorem RightT_eq {t : S66} (h : RightT t) : okT t = true ∧ RightTs t.f3 := by cases t; rw [RightT] at h; exact h
theorem RightF_eq {t : S39} (h : RightF t) : okF t = true ∧ RightTs t.f3 ∧ RightFs t.f4 := by cases t; rw [RightF] at h; exact h
theorem delS_len (l : List ByteArray) (x : ByteArray) : (delS l x).length ≤ l.length := List.length_filter_le _ _
mutual
def freeF : S39 → List ByteArray
  | ⟨a, s, _, l, q⟩ => canon (if a = 7 ∨ a = 8 then delS (namesTs l ++ freeFs q) s else namesTs l ++ freeFs q)
def freeFs : List S39 → List ByteArray
  | [] => []
  | t :: l => freeF t ++ freeFs l
end
theorem freeF_eq (t : S39) : freeF t = canon (if t.f0 = 7 ∨ t.f0 = 8 then delS (namesTs t.f3 ++ freeFs t.f4) t.f1 else namesTs t.f3 ++ freeFs t.f4) := by cases t; rw [freeF]
mutual
def wideF : S39 → Int
  | ⟨a, s, b, l, q⟩ => mx (wideFs q 0) ((freeF ⟨a, s, b, l, q⟩).length : Int)
def wideFs : List S39 → Int → Int
  | [], m => m
  | t :: l, m => wideFs l (mx m (wideF t))
end
theorem wideF_eq (t : S39) : wideF t = mx (wideFs t.f4 0) ((freeF t).length : Int) := by cases t; rw [wideF]
mutual
theorem freeF_len : ∀ t : S39, (freeF t).length ≤ cntF t
  | ⟨a, s, b, l, q⟩ => by
    rw [freeF, cntF]
    have h1 := canon_length (if a = 7 ∨ a = 8 then delS (namesTs l ++ freeFs q) s else namesTs l ++ freeFs q)
    have h2 := namesTs_len l
    have h3 := freeFs_len q
    have h4 := delS_len (namesTs l ++ freeFs q) s
    rw [List.length_append] at h4
    have h5 : (if a = 7 ∨ a = 8 then delS (namesTs l ++ freeFs q) s else namesTs l ++ freeFs q).length ≤ (namesTs l).length + (freeFs q).length := by
      split
      · exact h4
      · rw [List.length_append]; exact Nat.le_refl _
    omega
theorem freeFs_len : ∀ l : List S39, (freeFs l).length ≤ cntFs l
  | [] => Nat.zero_le _
  | t :: l => by
    rw [freeFs, cntFs, List.length_append]
    have := freeF_len t
    have := freeFs_len l
    omega
end
theorem free_end (acc : List ByteArray) (m : Int) (a b : Int) (s : ByteArray) (l : List S66) (q : List S39) (h : acc.length ≤ 1000000) : Ev (fun k => tree_free.j2 k acc m (decide (a = 7 ∨ a = 8)) a s b l q) (canon (if a = 7 ∨ a = 8 then delS acc s else acc), mx m ((canon (if a = 7 ∨ a = 8 then delS acc s else acc)).length : Int)) := by
  refine Ev.step (f := fun _ => some (canon (if a = 7 ∨ a = 8 then delS acc s else acc), mx m ((canon (if a = 7 ∨ a = 8 then delS acc s else acc)).length : Int))) (fun k => ?_) (Ev.now _)
  show tree_free.j2 (k + 1) acc m _ a s b l q = _
  have hd := delS_len acc s
  by_cases ha : a = 7 ∨ a = 8
  · simp only [tree_free.j2, decide_eq_true ha, if_true, if_pos ha]
    unfold slices_DeleteFunc_string_string.f
    rw [if_pos kq1, Option.bind_some, sorted_canon kq1]
    rfl
  · simp only [tree_free.j2, decide_eq_false ha, Bool.false_eq_true, if_false, if_neg ha]
    rw [sorted_canon kq1]
    rfl
theorem free_loop1 (a b : Int) (s : ByteArray) (l : List S66) (q : List S39) (ih : ∀ u ∈ q, Ev (fun k => tree_free.f k u.f0 u.f1 u.f2 u.f3 u.f4) (freeF u, wideF u)) (hl : q.length ≤ 1000) : ∀ (n i : Nat) (acc : List ByteArray) (m : Int), i ≤ q.length → q.length - i = n → acc.length + (freeFs (q.drop i)).length ≤ 1000000 →
    Ev (fun k => tree_free.l1 k acc m q (q.length : Int) (i : Int) a s b l q) (canon (if a = 7 ∨ a = 8 then delS (acc ++ freeFs (q.drop i)) s else acc ++ freeFs (q.drop i)), mx (wideFs (q.drop i) m) ((canon (if a = 7 ∨ a = 8 then delS (acc ++ freeFs (q.drop i)) s else acc ++ freeFs (q.drop i))).length : Int))
  | 0, i, acc, m, hi, hn, ho => by
    rw [List.drop_of_length_le kq1] at ho ⊢
    rw [freeFs, wideFs, List.append_nil]
    refine Ev.step (f := fun k => tree_free.j2 k acc m (decide (a = 7 ∨ a = 8)) a s b l q) (fun k => ?_) (free_end acc m a b s l q kq1)
    show tree_free.l1 (k + 1) acc m q (q.length : Int) (i : Int) a s b l q = _
    conv => lhs; unfold tree_free.l1
    rw [if_neg kq1]
    split
    · rename_i h; simp [h]
    · rename_i h
      congr 1
      simp only [h, false_or]
      by_cases h8 : a = 8 <;> simp [h8]
  | n + 1, i, acc, m, hi, hn, ho => by
    have hlt : i < q.length := by omega
    rw [List.drop_eq_getElem_cons hlt] at ho ⊢
    rw [freeFs, List.length_append] at ho
    refine Ev.step (f := fun k => (tree_free.f k q[i].f0 q[i].f1 q[i].f2 q[i].f3 q[i].f4).bind fun t => (if acc.length + t.1.length < 8796093022208 then (tree_free.l1 k (acc ++ t.1) (mx m t.2) q (q.length : Int) ((i + 1 : Nat) : Int) a s b l q) else (none))) (fun k => by
      show tree_free.l1 (k + 1) acc m q (q.length : Int) (i : Int) a s b l q = _
      conv => lhs; unfold tree_free.l1
      rw [if_pos kq1, if_pos kq1, if_pos kq1, rd_T39_nat hlt, wrap_add hlt kq1]) ?_
    refine Ev.bind (ih _ (List.getElem_mem hlt)) ?_
    rw [freeFs, wideFs, ← List.append_assoc]
    refine Ev.congr (fun k => if_pos (by show acc.length + (freeF q[i]).length < _; omega)) ?_
    exact free_loop1 a b s l q ih hl n (i + 1) _ _ kq1 kq1 (by rw [List.length_append]; show acc.length + (freeF q[i]).length + _ ≤ _; omega)
theorem free_loop0 (a b : Int) (s : ByteArray) (l : List S66) (q : List S39) (ihT : ∀ u ∈ l, Ev (fun k => tree_named.f k u.f0 u.f1 u.f2 u.f3) (namesT u)) (ih : ∀ u ∈ q, Ev (fun k => tree_free.f k u.f0 u.f1 u.f2 u.f3 u.f4) (freeF u, wideF u)) (hl : l.length ≤ 1000) (hq : q.length ≤ 1000) (hf : (freeFs q).length ≤ 1000) : ∀ (n i : Nat) (acc : List ByteArray), i ≤ l.length → l.length - i = n → acc.length + (namesTs (l.drop i)).length ≤ 900000 →
    Ev (fun k => tree_free.l0 k acc 0 l (l.length : Int) (i : Int) a s b l q) (canon (if a = 7 ∨ a = 8 then delS (acc ++ namesTs (l.drop i) ++ freeFs q) s else acc ++ namesTs (l.drop i) ++ freeFs q), mx (wideFs q 0) ((canon (if a = 7 ∨ a = 8 then delS (acc ++ namesTs (l.drop i) ++ freeFs q) s else acc ++ namesTs (l.drop i) ++ freeFs q)).length : Int))
  | 0, i, acc, hi, hn, ho => by
    rw [List.drop_of_length_le kq1] at ho ⊢
    rw [namesTs, List.append_nil]
    refine Ev.step (f := fun k => tree_free.l1 k acc 0 q (q.length : Int) ((0 : Nat) : Int) a s b l q) (fun k => ?_) (free_loop1 a b s l q ih hq _ 0 acc 0 (Nat.zero_le _) rfl (by rw [List.drop_zero]; omega))
    show tree_free.l0 (k + 1) acc 0 l (l.length : Int) (i : Int) a s b l q = _
    conv => lhs; unfold tree_free.l0
    rw [if_neg kq1]
    rfl
  | n + 1, i, acc, hi, hn, ho => by
    have hlt : i < l.length := by omega
    rw [List.drop_eq_getElem_cons hlt] at ho ⊢
    rw [namesTs, List.length_append] at ho
    refine Ev.step (f := fun k => (tree_named.f k l[i].f0 l[i].f1 l[i].f2 l[i].f3).bind fun t => (if acc.length + t.length < 8796093022208 then (tree_free.l0 k (acc ++ t) 0 l (l.length : Int) ((i + 1 : Nat) : Int) a s b l q) else (none))) (fun k => by
      show tree_free.l0 (k + 1) acc 0 l (l.length : Int) (i : Int) a s b l q = _
      conv => lhs; unfold tree_free.l0
      rw [if_pos kq1, if_pos kq1, if_pos kq1, rd_T66_nat hlt, wrap_add hlt kq1]) ?_
    refine Ev.bind (ihT _ (List.getElem_mem hlt)) ?_
    rw [namesTs, ← List.append_assoc]
    refine Ev.congr (fun k => if_pos kq1) ?_
    exact free_loop0 a b s l q ihT ih hl hq hf n (i + 1) _ kq1 kq1 (by rw [List.length_append]; omega)
theorem free_ev : ∀ (n : Nat) (t : S39), cntF t ≤ n → n ≤ 900 → Ev (fun k => tree_free.f k t.f0 t.f1 t.f2 t.f3 t.f4) (freeF t, wideF t)
  | 0, t, h, _ => absurd (cntF_pos t) kq1
  | n + 1, t, h, hn => by
    have hc : cntF t = 1 + (cntTs t.f3 + cntFs t.f4) := by cases t; rw [cntF]
    have l1 := len_cntTs t.f3
    have l2 := len_cntFs t.f4
    have l3 := namesTs_len t.f3
    have l4 := freeFs_len t.f4
    have ihT : ∀ u ∈ t.f3, Ev (fun k => tree_named.f k u.f0 u.f1 u.f2 u.f3) (namesT u) := fun u hu => named_ev n u (by have := cntTs_mem u hu; omega) kq1
    have ih : ∀ u ∈ t.f4, Ev (fun k => tree_free.f k u.f0 u.f1 u.f2 u.f3 u.f4) (freeF u, wideF u) := fun u hu => free_ev n u (by have := cntFs_mem u hu; omega) kq1
    rw [wideF_eq, freeF_eq]
    refine Ev.step (f := fun k => tree_free.l0 k [] 0 t.f3 (t.f3.length : Int) ((0 : Nat) : Int) t.f0 t.f1 t.f2 t.f3 t.f4) (fun k => by
      show tree_free.f (k + 1) t.f0 t.f1 t.f2 t.f3 t.f4 = _
      unfold tree_free.f
      rfl) ?_
    have := free_loop0 t.f0 t.f2 t.f1 t.f3 t.f4 ihT ih kq1 kq1 kq1 _ 0 [] (Nat.zero_le _) rfl (by simp only [List.length_nil, List.drop_zero]; omega)
    rw [List.drop_zero, List.nil_append] at this
    exact this
end Go.Proofs.Ytjknpmibdkoklaa.U
set_option maxRecDepth 100000
namespace Go.Proofs.Ytjknpmibdkoklaa.U
open Go.ChangeShapes Go.WideShapes Go.RowKit Go.Proofs.YtjknpmibdkoklaaW.PrintWords Go.Proofs.YtjknpmibdkoklaaW.PrintLast Go.Proofs.YtjknpmibdkoklaaW.PrintMore
def fitI (n : Int) : Prop := -9223372036854775808 ≤ n ∧ n ≤ 9223372036854775807
inductive FitT : S66 → Prop
  | mk {t : S66} (h0 : fitI t.f0) (h1 : fitI t.f1) (h2 : t.f2.size ≤ 140737488351232) (h3 : t.f3.length * 56 ≤ 140737488351232) (h : ∀ u ∈ t.f3, FitT u) : FitT t
inductive FitF : S39 → Prop
  | mk {t : S39} (h0 : fitI t.f0) (h1 : t.f1.size ≤ 140737488351232) (h2 : fitI t.f2) (h3 : t.f3.length * 56 ≤ 140737488351232) (h4 : t.f4.length * 80 ≤ 140737488351232) (hT : ∀ u ∈ t.f3, FitT u) (h : ∀ u ∈ t.f4, FitF u) : FitF t
theorem list_of {α : Type} {R : Nat → α → Prop} : ∀ n, (∀ i, i < n → ∃ p, R i p) → ∃ l : List α, l.length = n ∧ ∀ i p, l[i]? = some p → R i p
  | 0, _ => ⟨[], rfl, fun i p h => by simp at h⟩
  | n + 1, h => by
    obtain ⟨l, hl, hr⟩ := list_of n (fun i hi => h i kq1)
    obtain ⟨p, hp⟩ := h n kq1
    refine ⟨l ++ [p], by simp [hl], fun i q hq => ?_⟩
    by_cases hi : i < l.length
    · rw [List.getElem?_append_left hi] at hq
      exact hr i q hq
    · have h2 := (List.getElem?_eq_some_iff.1 hq).1
      simp at h2
      obtain rfl : i = n := by omega
      rw [List.getElem?_append_right kq1, hl] at hq
      simp at hq
      subst hq
      exact hp
section
variable {H : Type} {enc : TypeId × Value → H} {W : World} {base : Nat} {spare : Nat → Bool} {held : Bool}
theorem row_arg {α : Type} {P : Program} (d : Kd α) (Q : α → Prop) (B : Nat) {t e : TypeId} {fuel : Nat} {cs : List Value} {x : DataW H × List MemPlace} (hu : P.underlying t = some (.slice e)) (hsz : P.cellsOf e = d.sz) (hB : P.bytesOf e = B)
    (ih : ∀ n, n < fuel → ∀ cs x, DataW.trod enc P W base spare held n e cs = some x → (∀ m ∈ x.1.weights P e, m ≤ reachBytes) → ∃ p, d.K W p cs ∧ cs.length = d.sz ∧ Q p)
    (h : DataW.trod enc P W base spare held fuel t cs = some x) (hw : ∀ m ∈ x.1.weights P t, m ≤ reachBytes) :
    ∃ A l c, cs = [.slice A l.length c] ∧ l.length ≤ c ∧ d.C W A l.length l ∧ l.length * B ≤ 140737488351232 ∧ ∀ p ∈ l, Q p := by
  rcases DataW.trod_slice hu h with ⟨rfl, _⟩ | ⟨a, len, cap, elems, rest, n, rfl, rfl, rfl, _, hl, hm, hlen, hel, _, _⟩
  · exact ⟨none, [], 0, rfl, by simp, ⟨rfl, Nat.zero_le _, fun h => absurd h (Nat.lt_irrefl 0)⟩, by simp, fun p hp => absurd hp List.not_mem_nil⟩
  · have hm2 : maxLen = 9223372036854775807 := rfl
    have hr : reachBytes = 140737488351232 := rfl
    obtain ⟨l, hll, hR⟩ := list_of (R := fun i p => ∃ c, c.length = d.sz ∧ d.K W p c ∧ (∀ j u, c[j]? = some u → W.cell? (a.add (i * d.sz + j)) = some u) ∧ Q p) len (fun i hi => by
      have h1 := hel i hi
      rw [List.getElem?_eq_getElem kq1, Option.bind_eq_some_iff] at h1
      obtain ⟨c, hc, ht⟩ := h1
      obtain ⟨_, hcl, hcc⟩ := World.cells?_some hc
      obtain ⟨p, hK, hl, hQ⟩ := ih n kq1 c _ ht (fun m hmm => hw m (Open.mem_weights_slice hu (List.mem_map.2 ⟨_, List.getElem_mem kq1, rfl⟩) hmm))
      refine ⟨p, c, hl, hK, fun j u hj => ?_, hQ⟩
      have hjl := (List.getElem?_eq_some_iff.1 hj).1
      have := hcc j kq1
      rw [Addr.add_add, hsz, hj] at this
      exact this)
    have hb := hw ((elems.map (·.1)).length * B + (rest.map (·.1)).length * B) (by
      simp only [DataW.weights, hu, hB]
      rw [← Nat.add_mul]
      exact List.mem_cons_self ..)
    rw [List.length_map, hlen, hr] at hb
    refine ⟨some a, l, cap, by rw [hll], kq1, ⟨rfl, kq1, fun _ => ⟨a, rfl, fun j p hj => ?_⟩⟩, by rw [hll]; omega, fun p hp => ?_⟩
    · obtain ⟨c, h1, h2, h3, _⟩ := hR j p hj
      exact ⟨c, h1, h2, h3⟩
    · obtain ⟨j, hj⟩ := List.mem_iff_getElem?.1 hp
      obtain ⟨c, _, _, _, h4⟩ := hR j p hj
      exact h4
theorem int_arg {P : Program} {t : TypeId} {n : Nat} {cs : List Value} {x : DataW H × List MemPlace} (hu : P.underlying t = some (.int .i64)) (h : DataW.trod enc P W base spare held n t cs = some x) : ∃ a, cs = [.int .i64 a] ∧ fitI a := by
  obtain ⟨a, h1, _, h3⟩ := DataW.trod_int hu h
  exact ⟨a, h1, (Lit.wf_int_iff .i64 a).1 h3⟩
theorem str_arg {P : Program} {t : TypeId} {n : Nat} {cs : List Value} {x : DataW H × List MemPlace} (hu : P.underlying t = some .string) (h : DataW.trod enc P W base spare held n t cs = some x) (hw : ∀ m ∈ x.1.weights P t, m ≤ reachBytes) : ∃ s, cs = [.string s] ∧ s.size ≤ 140737488351232 := by
  obtain ⟨s, h1, rfl, _⟩ := DataW.trod_string hu h
  refine ⟨s, h1, ?_⟩
  have z := hw s.data.toList.length (by simp [DataW.weights])
  have hr : reachBytes = 140737488351232 := rfl
  have hs2 : s.size = s.data.toList.length := by simp
  omega
theorem four {α : Type} {l : List α} (h : l.length = 4) : ∃ a b c d, l = [a, b, c, d] := by
  match l, h with
  | [a, b, c, d], _ => exact ⟨a, b, c, d, rfl⟩
theorem five {α : Type} {l : List α} (h : l.length = 5) : ∃ a b c d e, l = [a, b, c, d, e] := by
  match l, h with
  | [a, b, c, d, e], _ => exact ⟨a, b, c, d, e, rfl⟩
theorem term_arg (fuel : Nat) : ∀ (cs : List Value) (x : DataW H × List MemPlace), DataW.trod enc Try.prog W base spare held fuel 66 cs = some x → (∀ m ∈ x.1.weights Try.prog 66, m ≤ reachBytes) → ∃ t : S66, k66.K W t cs ∧ cs.length = k66.sz ∧ FitT t := by
  induction fuel using Nat.strongRecOn with
  | _ fuel ih =>
  intro cs x h hw
  obtain ⟨xs, n, rfl, rfl, hcl, hxl, hf⟩ := DataW.trod_struct Try.underlying66 h
  rw [show Try.prog.cellsOf 66 = 4 by kernel_rfl] at hcl
  obtain ⟨c0, c1, c2, c3, rfl⟩ := four hcl
  obtain ⟨y0, y1, y2, y3, rfl⟩ := four (show xs.length = 4 from hxl)
  have hw' : ∀ (j : Nat) (t : TypeId) (y : DataW H), ([64, 2, 9, 36] : List TypeId)[j]? = some t → ([y0.1, y1.1, y2.1, y3.1] : List (DataW H))[j]? = some y → ∀ m ∈ y.weights Try.prog t, m ≤ reachBytes := fun j t y ht hy m hm => hw m (by
    simp only [DataW.weights, Try.underlying66]
    exact DataW.weights_mem_each ht hy m hm)
  obtain ⟨a0, e0, w0⟩ := int_arg Try.underlying64 (hf 0 _ rfl)
  obtain ⟨a1, e1, w1⟩ := int_arg Try.underlying2 (hf 1 _ rfl)
  obtain ⟨s, e2, w2⟩ := str_arg Try.underlying9 (hf 2 _ rfl) (hw' 2 _ _ rfl rfl)
  obtain ⟨A, l, c, e3, lc, hC, hl, hQ⟩ := row_arg k66 FitT 56 Try.underlying36 kq0 kq0 (fun m hm => ih m kq1) (hf 3 _ rfl) (hw' 3 _ _ rfl rfl)
  have f0 : c0 = .int .i64 a0 := by simpa [show Try.prog.cellsOf 64 = 1 by kernel_rfl] using e0
  have f1 : c1 = .int .i64 a1 := by simpa [show Try.prog.cellsOf 2 = 1 by kernel_rfl] using e1
  have f2 : c2 = .string s := by simpa [show Try.prog.cellsOf 9 = 1 by kernel_rfl] using e2
  have f3 : c3 = .slice A l.length c := by simpa [show Try.prog.cellsOf 36 = 1 by kernel_rfl] using e3
  subst f0 f1 f2 f3
  exact ⟨⟨a0, a1, s, l⟩, k66_mk W ⟨a0, a1, s, l⟩ lc hC, rfl, .mk w0 w1 w2 hl hQ⟩
theorem formula_arg (fuel : Nat) : ∀ (cs : List Value) (x : DataW H × List MemPlace), DataW.trod enc Try.prog W base spare held fuel 39 cs = some x → (∀ m ∈ x.1.weights Try.prog 39, m ≤ reachBytes) → ∃ t : S39, k39.K W t cs ∧ cs.length = k39.sz ∧ FitF t := by
  induction fuel using Nat.strongRecOn with
  | _ fuel ih =>
  intro cs x h hw
  obtain ⟨xs, n, rfl, rfl, hcl, hxl, hf⟩ := DataW.trod_struct Try.underlying39 h
  rw [show Try.prog.cellsOf 39 = 5 by kernel_rfl] at hcl
  obtain ⟨c0, c1, c2, c3, c4, rfl⟩ := five hcl
  obtain ⟨y0, y1, y2, y3, y4, rfl⟩ := five (show xs.length = 5 from hxl)
  have hw' : ∀ (j : Nat) (t : TypeId) (y : DataW H), ([35, 9, 2, 36, 37] : List TypeId)[j]? = some t → ([y0.1, y1.1, y2.1, y3.1, y4.1] : List (DataW H))[j]? = some y → ∀ m ∈ y.weights Try.prog t, m ≤ reachBytes := fun j t y ht hy m hm => hw m (by
    simp only [DataW.weights, Try.underlying39]
    exact DataW.weights_mem_each ht hy m hm)
  obtain ⟨a0, e0, w0⟩ := int_arg Try.underlying35 (hf 0 _ rfl)
  obtain ⟨s, e1, w1⟩ := str_arg Try.underlying9 (hf 1 _ rfl) (hw' 1 _ _ rfl rfl)
  obtain ⟨a2, e2, w2⟩ := int_arg Try.underlying2 (hf 2 _ rfl)
  obtain ⟨A, l, c, e3, lc, hC, hl, hQ⟩ := row_arg k66 FitT 56 Try.underlying36 kq0 kq0 (fun m _ => term_arg m) (hf 3 _ rfl) (hw' 3 _ _ rfl rfl)
  obtain ⟨B, l', c', e4, lc', hC', hl', hQ'⟩ := row_arg k39 FitF 80 Try.underlying37 kq0 kq0 (fun m hm => ih m kq1) (hf 4 _ rfl) (hw' 4 _ _ rfl rfl)
  have f0 : c0 = .int .i64 a0 := by simpa [show Try.prog.cellsOf 35 = 1 by kernel_rfl] using e0
  have f1 : c1 = .string s := by simpa [show Try.prog.cellsOf 9 = 1 by kernel_rfl] using e1
  have f2 : c2 = .int .i64 a2 := by simpa [show Try.prog.cellsOf 2 = 1 by kernel_rfl] using e2
  have f3 : c3 = .slice A l.length c := by simpa [show Try.prog.cellsOf 36 = 1 by kernel_rfl] using e3
  have f4 : c4 = .slice B l'.length c' := by simpa [show Try.prog.cellsOf 37 = 1 by kernel_rfl] using e4
  subst f0 f1 f2 f3 f4
  exact ⟨⟨a0, s, a2, l, l'⟩, k39_mk W ⟨a0, s, a2, l, l'⟩ lc hC lc' hC', rfl, .mk w0 w1 w2 hl hl' hQ hQ'⟩
theorem open_formula {v : Value} {d : DataW H} {ps : List MemPlace} {r : Reach} {b0 : Nat} (hv : Value.okWide Try.prog W r b0 39 v) (h : DataW.Trod enc Try.prog W base spare held 39 v d ps) (hw : ∀ m ∈ d.weights Try.prog 39, m ≤ reachBytes) :
    ∃ (t : S39) (A3 : Option Addr) (c3 : Nat) (A4 : Option Addr) (c4 : Nat), v = .agg #[.int .i64 t.f0, .string t.f1, .int .i64 t.f2, .slice A3 t.f3.length c3, .slice A4 t.f4.length c4] ∧ t.f3.length ≤ c3 ∧ Kd.C k66 W A3 t.f3.length t.f3 ∧ t.f4.length ≤ c4 ∧ Kd.C k39 W A4 t.f4.length t.f4 ∧ FitF t := by
  obtain ⟨cs, rfl, _⟩ := okWide_struct Try.underlying39 hv
  obtain ⟨fuel, hf⟩ := h
  obtain ⟨t, hK, _, hF⟩ := formula_arg fuel _ _ hf hw
  obtain ⟨A3, c3, A4, c4, he, l3, g3, l4, g4⟩ := k39_open hK
  refine ⟨t, A3, c3, A4, c4, ?_, l3, g3, l4, g4, hF⟩
  rw [show cs = (Value.agg cs).cells.toList.toArray by simp [Value.cells], he]
end
end Go.Proofs.Ytjknpmibdkoklaa.U
set_option maxRecDepth 100000
namespace Go.Proofs.Ytjknpmibdkoklaa.U
open Go.RowKit Go.Proofs.YtjknpmibdkoklaaW.PrintWords Go.Proofs.YtjknpmibdkoklaaW.PrintLast Go.Proofs.YtjknpmibdkoklaaW.PrintMore
theorem eta39 (t : S39) : (⟨t.f0, t.f1, t.f2, t.f3, t.f4⟩ : S39) = t := by cases t; rfl
def freeA (t : S39) : List ByteArray × Int := if (measF t 1 (0, 0, 0)).2.2 = 0 then (freeF t, 0) else ([], (measF t 1 (0, 0, 0)).2.2)
theorem Free_ev (t : S39) : Ev (fun k => tree_Free.f k t.f0 t.f1 t.f2 t.f3 t.f4) (freeA t) := by
  unfold freeA
  by_cases h : (measF t 1 (0, 0, 0)).2.2 = 0
  · rw [if_pos h]
    obtain ⟨_, _, hc⟩ := measF_right t 1 (0, 0, 0) kq2 kq2 h
    have hc2 : cntF t ≤ 500 := by simp only [Int.zero_add] at hc; omega
    refine Ev.congr (f := fun k => (tree_free.f k t.f0 t.f1 t.f2 t.f3 t.f4).bind fun b => some (b.1, 0)) (fun k => ?_) (Ev.bind (free_ev 900 t kq1 kq1) (Ev.now _))
    unfold tree_Free.f tree_Check.f tree_measured.f
    rw [Option.bind_some, Option.bind_some, eta39]
    exact if_pos h
  · rw [if_neg h]
    refine Ev.congr (f := fun _ => some ([], (measF t 1 (0, 0, 0)).2.2)) (fun k => ?_) (Ev.now _)
    unfold tree_Free.f tree_Check.f tree_measured.f
    rw [Option.bind_some, Option.bind_some, eta39]
    exact if_neg h
end Go.Proofs.Ytjknpmibdkoklaa.U
set_option maxRecDepth 100000
namespace Go.Proofs.Ytjknpmibdkoklaa.U
open Go.RowKit Go.Proofs.YtjknpmibdkoklaaW.PrintWords Go.Proofs.YtjknpmibdkoklaaW.PrintLast Go.Proofs.YtjknpmibdkoklaaW.PrintMore
mutual
def depT : S66 → Nat
  | ⟨_, _, _, l⟩ => 1 + depTs l
def depTs : List S66 → Nat
  | [] => 0
  | t :: l => max (depT t) (depTs l)
end
mutual
def depF : S39 → Nat
  | ⟨_, _, _, l, q⟩ => 1 + max (depTs l) (depFs q)
def depFs : List S39 → Nat
  | [] => 0
  | t :: l => max (depF t) (depFs l)
end
theorem nodeM_fine {s d dep : Int} (h0 : 0 ≤ s) (h1 : s + 1 ≤ 500) (h2 : dep ≤ 40) : nodeM dep true (s, d, 0) = (s + 1, mx d dep, 0) := by
  have hw : wrap64 (s + 1) = s + 1 := by unfold wrap64; omega
  unfold nodeM
  simp only [hw]
  rw [if_neg kq1, if_neg kq1, if_pos trivial]
theorem nodeM_deep {s d dep : Int} {g : Bool} (h0 : 0 ≤ s) (h1 : s + 1 ≤ 500) (h2 : 40 < dep) : (nodeM dep g (s, d, 0)).2.2 = 72 := by
  have hw : wrap64 (s + 1) = s + 1 := by unfold wrap64; omega
  unfold nodeM
  simp only [hw]
  rw [if_neg kq1, if_pos kq1]
theorem trip {a b c a' b' c' : Int} (h1 : a = a') (h2 : b = b') (h3 : c = c') : (a, b, c) = (a', b', c') := by rw [h1, h2, h3]
theorem wrap_dep {dep : Int} (h1 : 1 ≤ dep) (h2 : dep ≤ 41) : wrap64 (dep + 1) = dep + 1 := by unfold wrap64; omega
mutual
theorem measT_told : ∀ (t : S66) (dep s d : Int), 0 ≤ s → 1 ≤ dep → dep ≤ 41 → RightT t → s + cntT t ≤ 500 →
    (dep + depT t ≤ 41 → measT t dep (s, d, 0) = (s + cntT t, mx d (dep + depT t - 1), 0)) ∧ (¬ dep + depT t ≤ 41 → (measT t dep (s, d, 0)).2.2 = 72)
  | ⟨a, b, n, l⟩, dep, s, d, h0, h1, h2, hr, hc => by
    rw [RightT] at hr
    rw [cntT] at hc ⊢
    rw [depT, measT, hr.1]
    by_cases hd : dep ≤ 40
    · rw [nodeM_fine h0 kq1 hd]
      rw [if_pos rfl, wrap_dep h1 h2]
      obtain ⟨k1, k2⟩ := measTs_told l (dep + 1) (s + 1) (mx d dep) kq1 kq1 kq1 (by unfold mx; omega) hr.2 kq1
      constructor
      · intro h
        rw [k1 kq1]
        exact trip kq1 (by unfold mx; omega) rfl
      · intro h
        exact k2 kq1
    · have e := nodeM_deep (d := d) (g := true) h0 (show s + 1 ≤ 500 by omega) (show 40 < dep by omega)
      constructor
      · intro h; omega
      · intro _
        rw [if_neg (by rw [e]; decide)]
        exact e
theorem measTs_told : ∀ (l : List S66) (dep s d : Int), 0 ≤ s → 1 ≤ dep → dep ≤ 41 → dep - 1 ≤ d → RightTs l → s + cntTs l ≤ 500 →
    (dep + depTs l ≤ 41 → measTs l dep (s, d, 0) = (s + cntTs l, mx d (dep + depTs l - 1), 0)) ∧ (¬ dep + depTs l ≤ 41 → (measTs l dep (s, d, 0)).2.2 = 72)
  | [], dep, s, d, h0, h1, h2, h3, hr, hc => by
    rw [measTs, cntTs, depTs]
    exact ⟨fun _ => trip kq1 (by unfold mx; omega) rfl, fun h => absurd kq1 h⟩
  | t :: l, dep, s, d, h0, h1, h2, h3, hr, hc => by
    rw [RightTs] at hr
    rw [cntTs] at hc ⊢
    rw [depTs, measTs]
    obtain ⟨k1, k2⟩ := measT_told t dep s d h0 h1 h2 hr.1 kq1
    by_cases hd : dep + depT t ≤ 41
    · rw [k1 hd, if_pos rfl]
      obtain ⟨j1, j2⟩ := measTs_told l dep (s + cntT t) (mx d (dep + depT t - 1)) kq1 h1 h2 (by unfold mx; omega) hr.2 kq1
      constructor
      · intro h
        rw [j1 kq1]
        exact trip kq1 (by unfold mx; omega) rfl
      · intro h
        exact j2 kq1
    · have e := k2 hd
      constructor
      · intro h; omega
      · intro _
        rw [if_neg (by rw [e]; decide)]
        exact e
end
mutual
theorem measF_told : ∀ (t : S39) (dep s d : Int), 0 ≤ s → 1 ≤ dep → dep ≤ 41 → RightF t → s + cntF t ≤ 500 →
    (dep + depF t ≤ 41 → measF t dep (s, d, 0) = (s + cntF t, mx d (dep + depF t - 1), 0)) ∧ (¬ dep + depF t ≤ 41 → (measF t dep (s, d, 0)).2.2 = 72)
  | ⟨a, b, n, l, q⟩, dep, s, d, h0, h1, h2, hr, hc => by
    rw [RightF] at hr
    rw [cntF] at hc ⊢
    rw [depF, measF, hr.1]
    by_cases hd : dep ≤ 40
    · rw [nodeM_fine h0 kq1 hd]
      rw [if_pos rfl, wrap_dep h1 h2]
      obtain ⟨k1, k2⟩ := measTs_told l (dep + 1) (s + 1) (mx d dep) kq1 kq1 kq1 (by unfold mx; omega) hr.2.1 kq1
      by_cases hl : dep + 1 + depTs l ≤ 41
      · rw [k1 hl, if_pos rfl]
        obtain ⟨j1, j2⟩ := measFs_told q (dep + 1) (s + 1 + cntTs l) (mx (mx d dep) (dep + 1 + depTs l - 1)) kq1 kq1 kq1 (by unfold mx; omega) hr.2.2 kq1
        constructor
        · intro h
          rw [j1 kq1]
          exact trip kq1 (by unfold mx; omega) rfl
        · intro h
          exact j2 kq1
      · have e := k2 hl
        constructor
        · intro h; omega
        · intro _
          rw [if_neg (by rw [e]; decide)]
          exact e
    · have e := nodeM_deep (d := d) (g := true) h0 (show s + 1 ≤ 500 by omega) (show 40 < dep by omega)
      constructor
      · intro h; omega
      · intro _
        rw [if_neg (by rw [e]; decide)]
        exact e
theorem measFs_told : ∀ (l : List S39) (dep s d : Int), 0 ≤ s → 1 ≤ dep → dep ≤ 41 → dep - 1 ≤ d → RightFs l → s + cntFs l ≤ 500 →
    (dep + depFs l ≤ 41 → measFs l dep (s, d, 0) = (s + cntFs l, mx d (dep + depFs l - 1), 0)) ∧ (¬ dep + depFs l ≤ 41 → (measFs l dep (s, d, 0)).2.2 = 72)
  | [], dep, s, d, h0, h1, h2, h3, hr, hc => by
    rw [measFs, cntFs, depFs]
    exact ⟨fun _ => trip kq1 (by unfold mx; omega) rfl, fun h => absurd kq1 h⟩
  | t :: l, dep, s, d, h0, h1, h2, h3, hr, hc => by
    rw [RightFs] at hr
    rw [cntFs] at hc ⊢
    rw [depFs, measFs]
    obtain ⟨k1, k2⟩ := measF_told t dep s d h0 h1 h2 hr.1 kq1
    by_cases hd : dep + depF t ≤ 41
    · rw [k1 hd, if_pos rfl]
      obtain ⟨j1, j2⟩ := measFs_told l dep (s + cntF t) (mx d (dep + depF t - 1)) kq1 h1 h2 (by unfold mx; omega) hr.2 kq1
      constructor
      · intro h
        rw [j1 kq1]
        exact trip kq1 (by unfold mx; omega) rfl
      · intro h
        exact j2 kq1
    · have e := k2 hd
      constructor
      · intro h; omega
      · intro _
        rw [if_neg (by rw [e]; decide)]
        exact e
end
theorem errF_iff (t : S39) : (measF t 1 (0, 0, 0)).2.2 = 0 ↔ RightF t ∧ cntF t ≤ 500 ∧ depF t ≤ 40 := by
  constructor
  · intro h
    obtain ⟨hr, _, hc⟩ := measF_right t 1 (0, 0, 0) kq2 kq2 h
    have hc' : (0 : Int) + (cntF t : Int) ≤ 500 := hc
    refine ⟨hr, kq1, Classical.byContradiction fun hd => ?_⟩
    have := (measF_told t 1 0 0 kq2 kq2 kq2 hr hc').2 kq1
    rw [h] at this
    cases this
  · rintro ⟨hr, hc, hd⟩
    rw [(measF_told t 1 0 0 kq2 kq2 kq2 hr kq1).1 kq1]
theorem errT_iff (t : S66) : (measT t 1 (0, 0, 0)).2.2 = 0 ↔ RightT t ∧ cntT t ≤ 500 ∧ depT t ≤ 40 := by
  constructor
  · intro h
    obtain ⟨hr, _, hc⟩ := measT_right t 1 (0, 0, 0) kq2 kq2 h
    have hc' : (0 : Int) + (cntT t : Int) ≤ 500 := hc
    refine ⟨hr, kq1, Classical.byContradiction fun hd => ?_⟩
    have := (measT_told t 1 0 0 kq2 kq2 kq2 hr hc').2 kq1
    rw [h] at this
    cases this
  · rintro ⟨hr, hc, hd⟩
    rw [(measT_told t 1 0 0 kq2 kq2 kq2 hr kq1).1 kq1]
end Go.Proofs.Ytjknpmibdkoklaa.U
set_option maxRecDepth 100000
namespace Go.Proofs.Ytjknpmibdkoklaa.U
open Go.RowKit Go.Proofs.YtjknpmibdkoklaaW.PrintWords Go.Proofs.YtjknpmibdkoklaaW.PrintLast Go.Proofs.YtjknpmibdkoklaaW.PrintMore
open Aside0 (mk)
theorem cell_far {w : World} {a : Addr} {v : Value} (h : w.cell? a = some v) {g : Nat} (hp : a.block ≠ g) (i : Nat) (u : Value) : (w.setCell ⟨g, i, none⟩ u).cell? a = some v := by
  have := Below.heap_setCell w ⟨g, i, none⟩ u a.block hp
  simpa [World.cell?, this] using h
end Go.Proofs.Ytjknpmibdkoklaa.U
set_option maxRecDepth 100000
namespace Go.Proofs.Ytjknpmibdkoklaa.U
open Go.RowKit Go.Proofs.YtjknpmibdkoklaaW.PrintWords Go.Proofs.YtjknpmibdkoklaaW.PrintLast Go.Proofs.YtjknpmibdkoklaaW.PrintMore
def errF (t : S39) : Int := (measF t 1 (0, 0, 0)).2.2
end Go.Proofs.Ytjknpmibdkoklaa.U
set_option maxRecDepth 100000
namespace Go.Proofs.Ytjknpmibdkoklaa.U
open Go.RowKit Go.Proofs.YtjknpmibdkoklaaW.PrintWords Go.Proofs.YtjknpmibdkoklaaW.PrintLast Go.Proofs.YtjknpmibdkoklaaW.PrintMore
def bareF (t : S39) : Bool := decide (t.f1.toList = ([] : List UInt8)) && (t.f2 == 0)
def partsF (t : S39) (a b : Int) : Bool := ((t.f3.length : Int) == a) && ((t.f4.length : Int) == b)
theorem okF_told (t : S39) : okF t = if t.f0 = 0 ∨ t.f0 = 1 then bareF t && partsF t 0 0 else if t.f0 = 2 then bareF t && partsF t 0 1 else if 3 ≤ t.f0 ∧ t.f0 ≤ 6 then bareF t && partsF t 0 2 else if t.f0 = 7 ∨ t.f0 = 8 then nameB t.f1 && ((t.f2 == 0) && partsF t 0 1) else if 9 ≤ t.f0 ∧ t.f0 ≤ 14 then bareF t && partsF t 2 0 else if t.f0 = 15 then decide (t.f1.toList = ([] : List UInt8)) && (decide (t.f2 ≥ 1) && partsF t 2 0) else false := by
  have fin : ∀ (b : Bool) (x y p q : Int), (if b = true then (if x = p then (some (y == q)) else (some false)) else (some false)).getD false = (b && ((x == p) && (y == q))) := by
    intro b x y p q
    cases b
    · rfl
    · by_cases h : x = p <;> simp [h]
  have aux : ∀ b, b = bareF t → (tree_formula.j0 6 b t.f0 t.f1 t.f2 t.f3 t.f4).getD false = if t.f0 = 0 ∨ t.f0 = 1 then bareF t && partsF t 0 0 else if t.f0 = 2 then bareF t && partsF t 0 1 else if 3 ≤ t.f0 ∧ t.f0 ≤ 6 then bareF t && partsF t 0 2 else if t.f0 = 7 ∨ t.f0 = 8 then nameB t.f1 && ((t.f2 == 0) && partsF t 0 1) else if 9 ≤ t.f0 ∧ t.f0 ≤ 14 then bareF t && partsF t 2 0 else if t.f0 = 15 then decide (t.f1.toList = ([] : List UInt8)) && (decide (t.f2 ≥ 1) && partsF t 2 0) else false := by
    rintro b rfl
    have e0 : tree_formula.j0 6 (bareF t) t.f0 t.f1 t.f2 t.f3 t.f4 = tree_formula.j1 5 (bareF t) (t.f3.length : Int) (t.f4.length : Int) (decide (t.f0 = 0 ∨ t.f0 = 1)) t.f0 t.f1 t.f2 t.f3 t.f4 := by
      simp only [tree_formula.j0]
      by_cases h : t.f0 = 0
      · rw [if_pos h]; simp [h]
      · rw [if_neg h]
        congr 1
        by_cases h1 : t.f0 = 1 <;> simp [h, h1]
    rw [e0]
    by_cases h0 : t.f0 = 0 ∨ t.f0 = 1
    · rw [if_pos h0]
      simp only [tree_formula.j1]
      rw [if_pos (decide_eq_true h0)]
      exact fin _ _ _ _ _
    · rw [if_neg h0]
      simp only [tree_formula.j1]
      rw [if_neg (by simp [h0])]
      by_cases h2 : t.f0 = 2
      · rw [if_pos h2, if_pos h2]
        exact fin _ _ _ _ _
      · rw [if_neg h2, if_neg h2]
        have e1 : (if t.f0 ≥ 3 then (tree_formula.j2 4 (bareF t) (t.f3.length : Int) (t.f4.length : Int) (decide (t.f0 ≤ 6)) t.f0 t.f1 t.f2 t.f3 t.f4) else (tree_formula.j2 4 (bareF t) (t.f3.length : Int) (t.f4.length : Int) false t.f0 t.f1 t.f2 t.f3 t.f4)) = tree_formula.j2 4 (bareF t) (t.f3.length : Int) (t.f4.length : Int) (decide (3 ≤ t.f0 ∧ t.f0 ≤ 6)) t.f0 t.f1 t.f2 t.f3 t.f4 := by
          by_cases h : t.f0 ≥ 3
          · rw [if_pos h]
            congr 1
            by_cases h6 : t.f0 ≤ 6 <;> simp [h6] <;> omega
          · rw [if_neg h]
            congr 1
            simp
            omega
        rw [e1]
        by_cases h3 : 3 ≤ t.f0 ∧ t.f0 ≤ 6
        · rw [if_pos h3]
          simp only [tree_formula.j2]
          rw [if_pos (decide_eq_true h3)]
          exact fin _ _ _ _ _
        · rw [if_neg h3]
          simp only [tree_formula.j2]
          rw [if_neg (by rw [decide_eq_true_eq]; exact h3)]
          have e2 : (if t.f0 = 7 then (tree_formula.j3 3 (bareF t) (t.f3.length : Int) (t.f4.length : Int) true t.f0 t.f1 t.f2 t.f3 t.f4) else (tree_formula.j3 3 (bareF t) (t.f3.length : Int) (t.f4.length : Int) (t.f0 == 8) t.f0 t.f1 t.f2 t.f3 t.f4)) = tree_formula.j3 3 (bareF t) (t.f3.length : Int) (t.f4.length : Int) (decide (t.f0 = 7 ∨ t.f0 = 8)) t.f0 t.f1 t.f2 t.f3 t.f4 := by
            by_cases h : t.f0 = 7
            · rw [if_pos h]; simp [h]
            · rw [if_neg h]
              congr 1
              by_cases h1 : t.f0 = 8 <;> simp [h, h1]
          rw [e2]
          by_cases h7 : t.f0 = 7 ∨ t.f0 = 8
          · rw [if_pos h7]
            simp only [tree_formula.j3]
            rw [if_pos (decide_eq_true h7)]
            unfold glyph_Name.f
            rw [Option.bind_some]
            cases nameB t.f1
            · rfl
            · rw [if_pos rfl, Bool.true_and]
              by_cases hm : t.f2 = 0
              · rw [if_pos hm, hm]
                unfold partsF
                by_cases hl : (t.f3.length : Int) = 0
                · rw [if_pos hl, hl]; rfl
                · rw [if_neg hl, beq_eq_false_iff_ne.2 hl]; rfl
              · rw [if_neg hm, beq_eq_false_iff_ne.2 hm]; rfl
          · rw [if_neg h7]
            simp only [tree_formula.j3]
            rw [if_neg (by rw [decide_eq_true_eq]; exact h7)]
            have e3 : (if t.f0 ≥ 9 then (tree_formula.j4 2 (bareF t) (t.f3.length : Int) (t.f4.length : Int) (decide (t.f0 ≤ 14)) t.f0 t.f1 t.f2 t.f3 t.f4) else (tree_formula.j4 2 (bareF t) (t.f3.length : Int) (t.f4.length : Int) false t.f0 t.f1 t.f2 t.f3 t.f4)) = tree_formula.j4 2 (bareF t) (t.f3.length : Int) (t.f4.length : Int) (decide (9 ≤ t.f0 ∧ t.f0 ≤ 14)) t.f0 t.f1 t.f2 t.f3 t.f4 := by
              by_cases h : t.f0 ≥ 9
              · rw [if_pos h]
                congr 1
                by_cases h6 : t.f0 ≤ 14 <;> simp [h6] <;> omega
              · rw [if_neg h]
                congr 1
                simp
                omega
            rw [e3]
            by_cases h9 : 9 ≤ t.f0 ∧ t.f0 ≤ 14
            · rw [if_pos h9]
              simp only [tree_formula.j4]
              rw [if_pos (decide_eq_true h9)]
              exact fin _ _ _ _ _
            · rw [if_neg h9]
              simp only [tree_formula.j4]
              rw [if_neg (by rw [decide_eq_true_eq]; exact h9)]
              by_cases h15 : t.f0 = 15
              · rw [if_pos h15, if_pos h15]
                by_cases hn : t.f1.toList = ([] : List UInt8)
                · rw [if_pos hn, decide_eq_true hn, Bool.true_and]
                  by_cases hm : t.f2 ≥ 1
                  · rw [if_pos hm, decide_eq_true hm, Bool.true_and]
                    unfold partsF
                    by_cases hl : (t.f3.length : Int) = 2
                    · rw [if_pos hl, hl]; rfl
                    · rw [if_neg hl, beq_eq_false_iff_ne.2 hl]; rfl
                  · rw [if_neg hm, decide_eq_false hm]; rfl
                · rw [if_neg hn, decide_eq_false hn]; rfl
              · rw [if_neg h15, if_neg h15]; rfl
  unfold okF tree_formula.f
  by_cases hn : t.f1.toList = ([] : List UInt8)
  · rw [if_pos hn]
    exact aux _ (by unfold bareF; rw [decide_eq_true hn, Bool.true_and])
  · rw [if_neg hn]
    exact aux _ (by unfold bareF; rw [decide_eq_false hn, Bool.false_and])
theorem okT_told (t : S66) : okT t = if t.f0 = 0 then decide (t.f1 ≥ 0) && (decide (t.f2.toList = ([] : List UInt8)) && ((t.f3.length : Int) == 0)) else if t.f0 = 1 then (t.f1 == 0) && (nameB t.f2 && ((t.f3.length : Int) == 0)) else if t.f0 = 2 then (t.f1 == 0) && (decide (t.f2.toList = ([] : List UInt8)) && ((t.f3.length : Int) == 1)) else if 3 ≤ t.f0 ∧ t.f0 ≤ 5 then (t.f1 == 0) && (decide (t.f2.toList = ([] : List UInt8)) && ((t.f3.length : Int) == 2)) else false := by
  have fin : ∀ (x p : Int), (if t.f1 = 0 then (if t.f2.toList = ([] : List UInt8) then (some (x == p)) else (some false)) else (some false)).getD false = ((t.f1 == 0) && (decide (t.f2.toList = ([] : List UInt8)) && (x == p))) := by
    intro x p
    by_cases h1 : t.f1 = 0
    · rw [if_pos h1]
      by_cases h2 : t.f2.toList = ([] : List UInt8)
      · rw [if_pos h2]; simp [h1, h2]
      · rw [if_neg h2]; simp [h2]
    · rw [if_neg h1]; simp [h1]
  unfold okT tree_term.f
  by_cases h0 : t.f0 = 0
  · rw [if_pos h0, if_pos h0]
    by_cases h1 : t.f1 ≥ 0
    · rw [if_pos h1, decide_eq_true h1]
      by_cases h2 : t.f2.toList = ([] : List UInt8)
      · rw [if_pos h2]; simp [h2]
      · rw [if_neg h2]; simp [h2]
    · rw [if_neg h1, decide_eq_false h1]; rfl
  · rw [if_neg h0, if_neg h0]
    by_cases h1 : t.f0 = 1
    · rw [if_pos h1, if_pos h1]
      by_cases h2 : t.f1 = 0
      · rw [if_pos h2, h2]
        unfold glyph_Name.f
        rw [Option.bind_some]
        cases nameB t.f2 <;> rfl
      · rw [if_neg h2, beq_eq_false_iff_ne.2 h2]; rfl
    · rw [if_neg h1, if_neg h1]
      by_cases h2 : t.f0 = 2
      · rw [if_pos h2, if_pos h2]; exact fin _ _
      · rw [if_neg h2, if_neg h2]
        by_cases h3 : t.f0 = 3
        · rw [if_pos h3, if_pos (show 3 ≤ t.f0 ∧ t.f0 ≤ 5 by omega)]; exact fin _ _
        · rw [if_neg h3]
          by_cases h4 : t.f0 = 4
          · rw [if_pos h4, if_pos (show 3 ≤ t.f0 ∧ t.f0 ≤ 5 by omega)]; exact fin _ _
          · rw [if_neg h4]
            by_cases h5 : t.f0 = 5
            · rw [if_pos h5, if_pos (show 3 ≤ t.f0 ∧ t.f0 ≤ 5 by omega)]; exact fin _ _
            · rw [if_neg h5, if_neg (show ¬ (3 ≤ t.f0 ∧ t.f0 ≤ 5) by omega)]; rfl
mutual
theorem namesT_good : ∀ t : S66, RightT t → ∀ s ∈ namesT t, nameB s = true
  | ⟨a, b, n, l⟩, h, s, hs => by
    rw [RightT] at h
    rw [namesT, mem_canon, List.mem_append] at hs
    rcases hs with hs | hs
    · split at hs
      · rename_i h1
        obtain rfl := List.mem_singleton.1 hs
        have h0 := h.1
        rw [okT_told] at h0
        have h1' : a = 1 := h1
        simp only [h1'] at h0
        rw [if_neg kq2, if_pos trivial, Bool.and_eq_true, Bool.and_eq_true] at h0
        exact h0.2.1
      · cases hs
    · exact namesTs_good l h.2 s hs
theorem namesTs_good : ∀ l : List S66, RightTs l → ∀ s ∈ namesTs l, nameB s = true
  | [], _, s, hs => by rw [namesTs] at hs; cases hs
  | t :: l, h, s, hs => by
    rw [RightTs] at h
    rw [namesTs, List.mem_append] at hs
    rcases hs with hs | hs
    · exact namesT_good t h.1 s hs
    · exact namesTs_good l h.2 s hs
end
mutual
theorem freeF_good : ∀ t : S39, RightF t → ∀ s ∈ freeF t, nameB s = true
  | ⟨a, n, b, l, q⟩, h, s, hs => by
    rw [RightF] at h
    rw [freeF, mem_canon] at hs
    have h2 : s ∈ namesTs l ++ freeFs q := by
      split at hs
      · exact (List.mem_filter.1 hs).1
      · exact hs
    rcases List.mem_append.1 h2 with hs | hs
    · exact namesTs_good l h.2.1 s hs
    · exact freeFs_good q h.2.2 s hs
theorem freeFs_good : ∀ l : List S39, RightFs l → ∀ s ∈ freeFs l, nameB s = true
  | [], _, s, hs => by rw [freeFs] at hs; cases hs
  | t :: l, h, s, hs => by
    rw [RightFs] at h
    rw [freeFs, List.mem_append] at hs
    rcases hs with hs | hs
    · exact freeF_good t h.1 s hs
    · exact freeFs_good l h.2 s hs
end
theorem freeF_rises {t : S39} (h : RightF t) : risesB none (freeF t) = true := (risesB_none _).2 ⟨freeF_good t h, by rw [freeF_eq]; exact canon_rise _⟩
theorem Check_eq (t : S39) : tree_Check.f t.f0 t.f1 t.f2 t.f3 t.f4 = some (errF t) := by
  unfold tree_Check.f tree_measured.f
  rw [Option.bind_some, eta39]
  rfl
theorem Free_fine {t : S39} (h : errF t = 0) : Ev (fun k => tree_Free.f k t.f0 t.f1 t.f2 t.f3 t.f4) (freeF t, 0) := by
  have := Free_ev t
  unfold freeA at this
  rw [if_pos (show (measF t 1 (0, 0, 0)).2.2 = 0 from h)] at this
  exact this
def joinF (k : Int) (t u : S39) : S39 := ⟨k, ⟨#[]⟩, 0, [], [t, u]⟩
theorem joinF_free {k : Int} (t u : S39) (h6 : k ≤ 6) : freeF (joinF k t u) = canon (freeF t ++ freeF u) := by
  rw [freeF_eq]
  show canon (if k = 7 ∨ k = 8 then _ else namesTs [] ++ freeFs [t, u]) = _
  rw [if_neg kq1, namesTs, freeFs, freeFs, freeFs, List.nil_append, List.append_nil]
end Go.Proofs.Ytjknpmibdkoklaa.U
set_option maxRecDepth 100000
namespace Go.Proofs.Ytjknpmibdkoklaa.U
open Go.RowKit Go.Proofs.YtjknpmibdkoklaaW.PrintWords Go.Proofs.YtjknpmibdkoklaaW.PrintLast Go.Proofs.YtjknpmibdkoklaaW.PrintMore
theorem len_zero {α : Type} {l : List α} (h : ((l.length : Int) == 0) = true) : l = [] := by
  have := beq_iff_eq.1 h
  exact List.eq_nil_of_length_eq_zero kq1
theorem len_two {α : Type} {l : List α} (h : ((l.length : Int) == 2) = true) : ∃ a b, l = [a, b] := by
  have h2 := beq_iff_eq.1 h
  match l, h2 with
  | [a, b], _ => exact ⟨a, b, rfl⟩
theorem len_one {α : Type} {l : List α} (h : ((l.length : Int) == 1) = true) : ∃ a, l = [a] := by
  have h2 := beq_iff_eq.1 h
  match l, h2 with
  | [a], _ => exact ⟨a, rfl⟩
theorem okF_shape {t : S39} (h : okF t = true) (h7 : t.f0 ≠ 7) (h8 : t.f0 ≠ 8) (hm : t.f2 < 9223372036854775808) : ShapeF t.f0 t.f2 t.f3 t.f4 := by
  rw [okF_told] at h
  unfold partsF at h
  unfold ShapeF
  by_cases h0 : t.f0 = 0 ∨ t.f0 = 1
  · rw [if_pos h0] at h
    simp only [Bool.and_eq_true] at h
    exact .inl ⟨h0, len_zero h.2.1, len_zero h.2.2⟩
  · rw [if_neg h0] at h
    by_cases h2 : t.f0 = 2
    · rw [if_pos h2] at h
      simp only [Bool.and_eq_true] at h
      exact .inr (.inl ⟨h2, len_zero h.2.1, len_one h.2.2⟩)
    · rw [if_neg h2] at h
      by_cases h3 : 3 ≤ t.f0 ∧ t.f0 ≤ 6
      · rw [if_pos h3] at h
        simp only [Bool.and_eq_true] at h
        exact .inr (.inr (.inl ⟨kq1, len_zero h.2.1, len_two h.2.2⟩))
      · rw [if_neg h3, if_neg kq1] at h
        by_cases h9 : 9 ≤ t.f0 ∧ t.f0 ≤ 14
        · rw [if_pos h9] at h
          simp only [Bool.and_eq_true] at h
          exact .inr (.inr (.inr ⟨kq1, len_two h.2.1, len_zero h.2.2⟩))
        · rw [if_neg h9] at h
          by_cases h15 : t.f0 = 15
          · rw [if_pos h15] at h
            simp only [Bool.and_eq_true, decide_eq_true_eq] at h
            exact .inr (.inr (.inr ⟨kq1, len_two h.2.2.1, len_zero h.2.2.2⟩))
          · rw [if_neg h15] at h
            cases h
mutual
theorem sizeT_cnt : ∀ t : S66, sizeT t = cntT t
  | ⟨_, _, _, l⟩ => by rw [sizeT, cntT, sizeTs_cnt l]
theorem sizeTs_cnt : ∀ l : List S66, sizeTs l = cntTs l
  | [] => by rw [sizeTs, cntTs]
  | t :: l => by rw [sizeTs, cntTs, sizeT_cnt t, sizeTs_cnt l]
end
mutual
theorem sizeF_cnt : ∀ t : S39, sizeF t = cntF t
  | ⟨_, _, _, l, q⟩ => by rw [sizeF, cntF, sizeTs_cnt l, sizeFs_cnt q]
theorem sizeFs_cnt : ∀ l : List S39, sizeFs l = cntFs l
  | [] => by rw [sizeFs, cntFs]
  | t :: l => by rw [sizeFs, cntFs, sizeF_cnt t, sizeFs_cnt l]
end
theorem FitT_eq {t : S66} (h : FitT t) : fitI t.f1 ∧ ∀ u ∈ t.f3, FitT u := by cases h with | mk h0 h1 h2 h3 h => exact ⟨h1, h⟩
theorem FitF_eq {t : S39} (h : FitF t) : fitI t.f2 ∧ (∀ u ∈ t.f3, FitT u) ∧ ∀ u ∈ t.f4, FitF u := by cases h with | mk h0 h1 h2 h3 h4 hT h => exact ⟨h2, hT, h⟩
mutual
theorem fineT_of (p : ByteArray → Prop) : ∀ t : S66, RightT t → FitT t → (∀ s ∈ namesT t, p s) → FineT p t
  | ⟨op, num, nm, l⟩, hr, hf, hn => by
    obtain ⟨h1, h2⟩ := FitT_eq hf
    rw [FineT]
    refine ⟨(RightT_eq hr).1, ⟨h1.1, by have := h1.2; simp only at this; omega⟩, fun ho => hn _ ?_, fineTs_of p l (RightT_eq hr).2 h2 fun s hs => hn s ?_⟩
    · rw [namesT_eq]
      simp only at ho ⊢
      rw [if_pos ho]
      exact mem_canon.2 (List.mem_append_left _ (List.mem_singleton.2 rfl))
    · rw [namesT_eq]
      exact mem_canon.2 (List.mem_append_right _ hs)
theorem fineTs_of (p : ByteArray → Prop) : ∀ l : List S66, RightTs l → (∀ u ∈ l, FitT u) → (∀ s ∈ namesTs l, p s) → FineTs p l
  | [], _, _, _ => by rw [FineTs]; trivial
  | t :: l, hr, hf, hn => by
    rw [RightTs] at hr
    rw [FineTs]
    exact ⟨fineT_of p t hr.1 (hf t (List.mem_cons_self ..)) fun s hs => hn s (by rw [namesTs]; exact List.mem_append_left _ hs), fineTs_of p l hr.2 (fun u hu => hf u (List.mem_cons_of_mem _ hu)) fun s hs => hn s (by rw [namesTs]; exact List.mem_append_right _ hs)⟩
end
mutual
theorem fineF_of (p : ByteArray → Prop) : ∀ t : S39, RightF t → FitF t → plainF t = true → (∀ s ∈ freeF t, p s) → FineF p t
  | ⟨op, nm, md, l, q⟩, hr, hf, hp, hn => by
    obtain ⟨h1, h2, h3⟩ := FitF_eq hf
    obtain ⟨ho, hT, hF⟩ := RightF_eq hr
    rw [plainF_eq] at hp
    simp only [Bool.and_eq_true, bne_iff_ne, ne_eq] at hp
    obtain ⟨p7, p8, pq⟩ := hp
    have hfr : freeF ⟨op, nm, md, l, q⟩ = canon (namesTs l ++ freeFs q) := by rw [freeF_eq]; simp only; rw [if_neg kq1]
    rw [FineF]
    refine ⟨okF_shape ho p7 p8 (by have := h1.2; simp only at this ⊢; omega), fineTs_of p l hT h2 fun s hs => hn s ?_, fineFs_of p q hF h3 pq fun s hs => hn s ?_⟩
    · rw [hfr]; exact mem_canon.2 (List.mem_append_left _ hs)
    · rw [hfr]; exact mem_canon.2 (List.mem_append_right _ hs)
theorem fineFs_of (p : ByteArray → Prop) : ∀ l : List S39, RightFs l → (∀ u ∈ l, FitF u) → plainFs l = true → (∀ s ∈ freeFs l, p s) → FineFs p l
  | [], _, _, _, _ => by rw [FineFs]; trivial
  | t :: l, hr, hf, hp, hn => by
    rw [RightFs] at hr
    rw [plainFs, Bool.and_eq_true] at hp
    rw [FineFs]
    exact ⟨fineF_of p t hr.1 (hf t (List.mem_cons_self ..)) hp.1 fun s hs => hn s (by rw [freeFs]; exact List.mem_append_left _ hs), fineFs_of p l hr.2 (fun u hu => hf u (List.mem_cons_of_mem _ hu)) hp.2 fun s hs => hn s (by rw [freeFs]; exact List.mem_append_right _ hs)⟩
end
theorem idx_none {s : ByteArray} : ∀ {l : List ByteArray} {i : Int}, s ∉ l → idxFrom s i l = -1
  | [], _, _ => rfl
  | x :: l, i, h => by
    unfold idxFrom
    rw [if_neg (fun e => h (by rw [e]; exact List.mem_cons_self ..))]
    exact idx_none fun hm => h (List.mem_cons_of_mem _ hm)
theorem idx_some {s : ByteArray} : ∀ {l : List ByteArray} {i : Int}, s ∈ l → i ≤ idxFrom s i l ∧ idxFrom s i l < i + l.length
  | x :: l, i, h => by
    unfold idxFrom
    rw [List.length_cons]
    by_cases e : x = s
    · rw [if_pos e]; omega
    · rw [if_neg e]
      have hm : s ∈ l := by
        rcases List.mem_cons.1 h with h | h
        · exact absurd h.symm e
        · exact h
      have := @idx_some s l (i + 1) hm
      omega
theorem idx_mem {s : ByteArray} {l : List ByteArray} : 0 ≤ idxFrom s 0 l ↔ s ∈ l := by
  constructor
  · intro h
    apply Classical.byContradiction
    intro hm
    rw [idx_none hm] at h
    omega
  · exact fun h => (idx_some (i := 0) h).1
def Nums (vals : List Int) : Prop := ∀ v ∈ vals, -9223372036854775808 ≤ v ∧ v < 9223372036854775808
theorem look_in {names : List ByteArray} {vals : List Int} (h : Nums vals) (s : ByteArray) : -9223372036854775808 ≤ look names vals s ∧ look names vals s < 9223372036854775808 := by
  unfold look rd
  rw [List.getD_eq_getElem?_getD]
  cases e : vals[(idxFrom s 0 names).toNat]? with
  | none => decide
  | some v => exact h v (List.mem_of_getElem? e)
def fitA (free names : List ByteArray) (vals : List Int) : Int := if risesB none names = true ∧ names.length = vals.length then (if ∀ s ∈ free, 0 ≤ idxFrom s 0 names then 0 else 4) else 3
theorem fit_loop (free names : List ByteArray) (hf : free.length < 4611686018427387904) (hl : names.length < 4611686018427387904) : ∀ (n i : Nat), i ≤ free.length → free.length - i = n → Ev (fun k => truth_fit.l0 k names free (free.length : Int) (i : Int)) (if ∀ s ∈ free.drop i, 0 ≤ idxFrom s 0 names then 0 else 4)
  | 0, i, hi, hn => by
    rw [List.drop_of_length_le kq1, if_pos (fun s hs => absurd hs List.not_mem_nil)]
    refine Ev.step (f := fun _ => some 0) (fun k => ?_) (Ev.now _)
    show truth_fit.l0 (k + 1) names free (free.length : Int) (i : Int) = _
    rw [truth_fit.l0, if_neg kq1]
  | n + 1, i, hi, hn => by
    have hlt : i < free.length := by omega
    refine Ev.step (f := fun k => (glyph_Index.f k names free[i]).bind fun t => if t < 0 then some 4 else truth_fit.l0 k names free (free.length : Int) ((i + 1 : Nat) : Int)) (fun k => ?_) (Ev.bind (index_ev names free[i] hl) ?_)
    · show truth_fit.l0 (k + 1) names free (free.length : Int) (i : Int) = _
      rw [truth_fit.l0, if_pos kq1, if_pos kq1, if_pos kq1, rd_nat hlt, wrap_add hlt kq1]
    · rw [List.drop_eq_getElem_cons hlt]
      by_cases hm : free[i] ∈ names
      · have h0 := idx_mem.2 hm
        refine Ev.congr (fun k => if_neg kq1) ?_
        have e : (∀ s ∈ free[i] :: free.drop (i + 1), 0 ≤ idxFrom s 0 names) ↔ ∀ s ∈ free.drop (i + 1), 0 ≤ idxFrom s 0 names := by rw [List.forall_mem_cons]; exact ⟨fun h => h.2, fun h => ⟨h0, h⟩⟩
        simp only [e]
        exact fit_loop free names hf hl n (i + 1) kq1 kq1
      · refine Ev.congr (fun k => if_pos (by rw [idx_none hm]; decide)) ?_
        rw [if_neg (fun h => hm (idx_mem.1 (h _ (List.mem_cons_self ..))))]
        exact Ev.now _
theorem fit_ev (free names : List ByteArray) (vals : List Int) (hf : free.length < 4611686018427387904) (hl : names.length < 4611686018427387904) : Ev (fun k => truth_fit.f k free names vals) (fitA free names vals) := by
  unfold fitA
  refine Ev.bind (rises_ev names hl) ?_
  have stop : Ev (fun k => truth_fit.j0 k free names true) 3 := Ev.step (f := fun _ => some 3) (fun k => by
    show truth_fit.j0 (k + 1) free names true = _
    rw [truth_fit.j0, if_pos rfl]) (Ev.now _)
  by_cases hr : risesB none names = true
  · refine Ev.congr (fun k => if_pos hr) ?_
    by_cases hn : names.length = vals.length
    · rw [if_pos ⟨hr, hn⟩]
      have e : ((names.length : Int) != (vals.length : Int)) = false := by rw [bne_eq_false_iff_eq]; omega
      rw [e]
      refine Ev.step (f := fun k => truth_fit.l0 k names free (free.length : Int) ((0 : Nat) : Int)) (fun k => ?_) ?_
      · show truth_fit.j0 (k + 1) free names false = _
        rw [truth_fit.j0, if_neg kq2]
        rfl
      · have := fit_loop free names hf hl _ 0 (Nat.zero_le _) rfl
        rw [List.drop_zero] at this
        exact this
    · rw [if_neg (fun h => hn h.2)]
      have e : ((names.length : Int) != (vals.length : Int)) = true := by rw [bne_iff_ne]; omega
      rw [e]
      exact stop
  · rw [if_neg (fun h => hr h.1)]
    exact Ev.congr (fun k => if_neg hr) stop
theorem eta66 (t : S66) : (⟨t.f0, t.f1, t.f2, t.f3⟩ : S66) = t := by cases t; rfl
theorem Plain_eq (t : S39) : tree_Plain.f t.f0 t.f1 t.f2 t.f3 t.f4 = some (if errF t = 0 then (plainF t, 0) else (false, errF t)) := by
  unfold tree_Plain.f tree_plain.f
  rw [Check_eq, Option.bind_some, Option.bind_some, eta39]
  by_cases h : errF t = 0
  · rw [if_pos h, if_pos h]
  · rw [if_neg h, if_neg h]
def formA (t : S39) (names : List ByteArray) (vals : List Int) : Bool × Int := if errF t = 0 then (if plainF t = true then (if fitA (freeF t) names vals = 0 then (holdZ (look names vals) t, 0) else (false, fitA (freeF t) names vals)) else (false, 100)) else (false, errF t)
theorem fit_told {free names : List ByteArray} {vals : List Int} (h : fitA free names vals = 0) : names.length = vals.length ∧ ∀ s ∈ free, s ∈ names := by
  unfold fitA at h
  split at h
  · rename_i h1
    split at h
    · rename_i h2; exact ⟨h1.2, fun s hs => idx_mem.1 (h2 s hs)⟩
    · cases h
  · cases h
theorem told_of {names : List ByteArray} {vals : List Int} (hn : names.length = vals.length) {s : ByteArray} (h : s ∈ names) : Told names vals s := by
  have := idx_some (i := 0) h
  exact ⟨this.1, kq1⟩
theorem Formula_ev {t : S39} (ht : FitF t) (names : List ByteArray) (vals : List Int) (hl : names.length < 4611686018427387904) (hv : Nums vals) : Ev (fun k => truth_Formula.f k t.f0 t.f1 t.f2 t.f3 t.f4 names vals) (formA t names vals) := by
  unfold formA
  by_cases he : errF t = 0
  · rw [if_pos he]
    obtain ⟨hr, hc, _⟩ := (errF_iff t).1 he
    have hfl := freeF_len t
    refine Ev.bind (Free_fine he) (Ev.congr (fun k => if_pos rfl) ?_)
    rw [Plain_eq, if_pos he]
    refine Ev.congr (fun k => Option.bind_some _ _) ?_
    by_cases hp : plainF t = true
    · rw [if_pos hp]
      refine Ev.congr (fun k => if_pos hp) (Ev.bind (a := fitA (freeF t) names vals) (fit_ev (freeF t) names vals kq1 hl) ?_)
      by_cases hf : fitA (freeF t) names vals = 0
      · refine Ev.congr (fun k => if_pos hf) ?_
        rw [if_pos hf]
        obtain ⟨hn, hs⟩ := fit_told hf
        unfold workedF
        rw [eta39, if_pos ⟨hl, look_in hv, by rw [sizeF_cnt]; omega, fineF_of _ t hr ht hp fun s h => told_of hn (hs s h)⟩]
        exact Ev.now _
      · refine Ev.congr (fun k => if_neg hf) ?_
        rw [if_neg hf]
        exact Ev.now _
    · rw [if_neg hp]
      exact Ev.congr (fun k => if_neg hp) (Ev.now _)
  · rw [if_neg he]
    have h := Free_ev t
    unfold freeA at h
    rw [if_neg (show ¬ (measF t 1 (0, 0, 0)).2.2 = 0 from he)] at h
    exact Ev.bind h (Ev.congr (fun k => if_neg he) (Ev.now _))
def errT (t : S66) : Int := (measT t 1 (0, 0, 0)).2.2
def termA (t : S66) (names : List ByteArray) (vals : List Int) : ByteArray × Int := if errT t = 0 then (if fitA (namesT t) names vals = 0 then (decS (valZ (look names vals) t), 0) else (⟨#[]⟩, fitA (namesT t) names vals)) else (⟨#[]⟩, errT t)
theorem Names_ev (t : S66) : Ev (fun k => tree_Names.f k t.f0 t.f1 t.f2 t.f3) (if errT t = 0 then (namesT t, 0) else ([], errT t)) := by
  have hC : tree_CheckTerm.f t.f0 t.f1 t.f2 t.f3 = some (errT t) := by unfold tree_CheckTerm.f errT; rw [eta66]
  refine Ev.congr (f := fun k => if errT t = 0 then ((tree_named.f k t.f0 t.f1 t.f2 t.f3).bind fun x => some (x, 0)) else some ([], errT t)) (fun k => by
    show tree_Names.f k t.f0 t.f1 t.f2 t.f3 = _
    unfold tree_Names.f
    rw [hC, Option.bind_some]) ?_
  by_cases h : errT t = 0
  · rw [if_pos h]
    obtain ⟨_, hc, _⟩ := (errT_iff t).1 h
    exact Ev.congr (fun k => if_pos h) (Ev.bind (named_ev 900 t kq1 kq1) (Ev.now _))
  · rw [if_neg h]
    exact Ev.congr (fun k => if_neg h) (Ev.now _)
theorem Term_ev {t : S66} (ht : FitT t) (names : List ByteArray) (vals : List Int) (hl : names.length < 4611686018427387904) (hv : Nums vals) : Ev (fun k => truth_Term.f k t.f0 t.f1 t.f2 t.f3 names vals) (termA t names vals) := by
  unfold termA
  have hN := Names_ev t
  by_cases he : errT t = 0
  · rw [if_pos he] at hN ⊢
    obtain ⟨hr, hc, _⟩ := (errT_iff t).1 he
    have hfl := namesT_len t
    refine Ev.bind hN (Ev.congr (fun k => if_pos rfl) (Ev.bind (a := fitA (namesT t) names vals) (fit_ev (namesT t) names vals kq1 hl) ?_))
    by_cases hf : fitA (namesT t) names vals = 0
    · refine Ev.congr (fun k => if_pos hf) ?_
      rw [if_pos hf]
      obtain ⟨hn, hs⟩ := fit_told hf
      unfold workedT
      rw [eta66, if_pos ⟨hl, look_in hv, by rw [sizeT_cnt]; omega, fineT_of _ t hr ht fun s h => told_of hn (hs s h)⟩]
      exact Ev.now _
    · refine Ev.congr (fun k => if_neg hf) ?_
      rw [if_neg hf]
      exact Ev.now _
  · rw [if_neg he] at hN ⊢
    exact Ev.bind hN (Ev.congr (fun k => if_neg he) (Ev.now _))
end Go.Proofs.Ytjknpmibdkoklaa.U
set_option maxRecDepth 100000
namespace Go.Proofs.Ytjknpmibdkoklaa.U
open Go.RowKit Go.Proofs.YtjknpmibdkoklaaW.PrintWords Go.Proofs.YtjknpmibdkoklaaW.PrintLast Go.Proofs.YtjknpmibdkoklaaW.PrintMore
theorem freeF_rise (t : S39) : Rise (freeF t) := by rw [freeF_eq]; exact canon_rise _
end Go.Proofs.Ytjknpmibdkoklaa.U
