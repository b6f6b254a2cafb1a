/- Functions of the given program as Lean functions, each with its contract, and what they answer; words for it. No condition but those of each. -/
import Derived.Test.YtjknpmibdkoklaaMOS
import Derived.Test.YtjknpmibdkoklaaMO12
import Derived.LoopTactic
import Derived.Shelf.Abstract
import Derived.Test.YtjknpmibdkoklaaMO2
import Derived.Test.YtjknpmibdkoklaaMO5
import Derived.Test.YtjknpmibdkoklaaMO7
import Derived.Test.YtjknpmibdkoklaaMO3
import Derived.Test.YtjknpmibdkoklaaMO4
import Derived.Test.YtjknpmibdkoklaaMO11
import Derived.ChangeArms
import Derived.SizedLaws
import Derived.DataShut
import Derived.DataElems
set_option linter.unusedVariables false
set_option linter.unusedSimpArgs false
set_option maxRecDepth 100000
namespace Go.Proofs.Ytjknpmibdkoklaa.Q
open Go.RowKit Go.Proofs.YtjknpmibdkoklaaW.PrintWords Go.Proofs.YtjknpmibdkoklaaW.PrintLast Go.Proofs.YtjknpmibdkoklaaW.PrintMore
open Aside0 (mk)
def norm_Atom.f (k : Nat) (op : Int) (nm : ByteArray) (md : Int) (l3 : List S66) (l4 : List S39) : Option (Int × List ByteArray × List Int × Int × Int × Int) :=
  (tree_Check.f op nm md l3 l4).bind fun e => if e ≠ 0 then some (0, [], [], 0, 0, e) else if op < 9 then some (0, [], [], 0, 0, 3) else if 1 < l3.length then
    ((norm_worked.f k (rd_T66 l3 0).f0 (rd_T66 l3 0).f1 (rd_T66 l3 0).f2 (rd_T66 l3 0).f3).bind fun a =>
      (norm_worked.f k (rd_T66 l3 1).f0 (rd_T66 l3 1).f1 (rd_T66 l3 1).f2 (rd_T66 l3 1).f3).bind fun b =>
      (norm_both.f a.1 a.2.1 a.2.2.1 a.2.2.2 b.1 b.2.1 b.2.2.1 b.2.2.2 1).bind fun s0 =>
      (if a.2.2.2 = 0 ∧ b.2.2.2 = 0 ∧ (op = 11 ∨ op = 12) then norm_both.f b.1 b.2.1 b.2.2.1 b.2.2.2 a.1 a.2.1 a.2.2.1 a.2.2.2 1 else some s0).bind fun s =>
      if s.2.1.length ≤ 1000000 then ((chk_Total.f k ([atomB op md s.2.2.1] ++ atomC op md s.2.1)).bind fun t => some (atomR op md s.1 s.2.1 s.2.2.1 s.2.2.2 t.2)) else none)
    else none
theorem norm_Atom.mono : ∀ a0 a1 a2 a3 a4 k, LeO (norm_Atom.f k a0 a1 a2 a3 a4) (norm_Atom.f (k + 1) a0 a1 a2 a3 a4) := by
  intro a0 a1 a2 a3 a4 k
  unfold norm_Atom.f
  exact LeO.bind (LeO.refl _) fun _ => LeO.ite (LeO.refl _) (LeO.ite (LeO.refl _) (LeO.ite (LeO.bind (norm_worked.mono _ _ _ _ _) fun _ => LeO.bind (norm_worked.mono _ _ _ _ _) fun _ => LeO.bind (LeO.refl _) fun _ => LeO.bind (LeO.refl _) fun _ => LeO.ite (LeO.bind (chk_Total.mono _ _) fun _ => LeO.refl _) (LeO.refl _)) (LeO.refl _)))
theorem norm_Atom.calls (k : Nat) (op : Int) (nm : ByteArray) (md : Int) (A3 : Option Addr) (c3 : Nat) (l3 : List S66) (A4 : Option Addr) (c4 : Nat) (l4 : List S39) (r1 : Int) (r2 : List ByteArray) (r3 : List Int) (r4 r5 r6 : Int) (w : World) (hr3 : Kd.C k66 w A3 l3.length l3) (hc3 : l3.length ≤ c3) (hr4 : Kd.C k39 w A4 l4.length l4) (hc4 : l4.length ≤ c4) (h : norm_Atom.f k op nm md l3 l4 = some (r1, r2, r3, r4, r5, r6)) :
    Calls Try.prog 44 #[.agg #[.int .i64 op, .string nm, .int .i64 md, .slice A3 l3.length c3, .slice A4 l4.length c4]] w fun e w' => ∃ v0 v1 : Value, e = .returned (.tuple #[.agg #[.int .i64 r1, v0, v1, .int .i64 r4, .int .i64 r5], .int .i64 r6]) ∧ Kd.R Kd.string 9 w' w.heap.size (fun _ => True) v0 r2 ∧ Kd.R (Kd.int .i64) 2 w' w.heap.size (fun _ => True) v1 r3 ∧ Below w.heap.size w w' := by
  unfold norm_Atom.f at h
  obtain ⟨ev, hck, h⟩ := Option.bind_eq_some_iff.1 h
  by_cases he : ev = 0
  · subst he
    rw [if_neg kq2] at h
    by_cases ho : op < 9
    · rw [if_pos ho] at h
      simp only [Option.some.injEq, Prod.mk.injEq] at h
      obtain ⟨rfl, rfl, rfl, rfl, rfl, rfl⟩ := h
      refine (atom_shape op nm md A3 c3 l3 A4 c4 l4 w hr3 hc3 hr4 hc4 hck ho).mono ?_
      rintro e w' ⟨rfl, hb⟩
      exact ⟨_, _, rfl, Kd.R_nil _ _ _ _ _, Kd.R_nil _ _ _ _ _, hb⟩
    · rw [if_neg ho] at h
      by_cases h2 : 1 < l3.length
      · rw [if_pos h2] at h
        obtain ⟨⟨na, ca, ka, ea⟩, hwa, h⟩ := Option.bind_eq_some_iff.1 h
        obtain ⟨⟨nb, cb, kb, eb⟩, hwb, h⟩ := Option.bind_eq_some_iff.1 h
        obtain ⟨⟨n0, z0, k0, e0⟩, hs0, h⟩ := Option.bind_eq_some_iff.1 h
        obtain ⟨⟨ns, cs, ks, es⟩, hs, h⟩ := Option.bind_eq_some_iff.1 h
        dsimp only at hs0 hs h
        by_cases hl : cs.length ≤ 1000000
        · rw [if_pos hl] at h
          obtain ⟨⟨tt, te⟩, ht, h⟩ := Option.bind_eq_some_iff.1 h
          refine (atom_core k op nm md A3 c3 l3 A4 c4 l4 w hr3 hc3 hr4 hc4 hck ho h2 na ca ka ea nb cb kb eb n0 z0 k0 e0 ns cs ks es tt te hwa hwb hs0 (fun hc => by rw [if_pos hc] at hs; exact hs) (fun hc => by rw [if_neg hc] at hs; simpa only [Option.some.injEq, Prod.mk.injEq] using hs) hl ht).mono ?_
          have hR := Option.some.inj h
          dsimp only at hR
          rw [hR]
          exact fun e w' he => he
        · rw [if_neg hl] at h
          cases h
      · rw [if_neg h2] at h
        cases h
  · rw [if_pos he] at h
    simp only [Option.some.injEq, Prod.mk.injEq] at h
    obtain ⟨rfl, rfl, rfl, rfl, rfl, rfl⟩ := h
    refine (atom_err op nm md A3 c3 l3 A4 c4 l4 ev w hr3 hc3 hr4 hc4 hck he).mono ?_
    rintro e w' ⟨rfl, hb⟩
    exact ⟨_, _, rfl, Kd.R_nil _ _ _ _ _, Kd.R_nil _ _ _ _ _, hb⟩
end Go.Proofs.Ytjknpmibdkoklaa.Q
namespace Go.Proofs.Ytjknpmibdkoklaa.Q
open Go.RowKit Go.Proofs.YtjknpmibdkoklaaW.PrintWords Go.Proofs.YtjknpmibdkoklaaW.PrintLast Go.Proofs.YtjknpmibdkoklaaW.PrintMore
open Aside0 (mk)
open List (setIfInBounds_toArray set_cons_zero set_cons_succ)
attribute [local go_sem] max2_int min2_int max_two min_two max_three min_three max_four min_four
set_option linter.unusedVariables false
set_option linter.unusedSimpArgs false
attribute [local go_sem] fld99_2 fld103_2 fld160_0 fld160_1
def tabardlaw09_fixed.f (k : Nat)  : Option (Bool) := (norm_Atom.f k 12 (⟨#[]⟩ : ByteArray) 0 (([(⟨1, 0, (⟨#[120]⟩ : ByteArray), ([] : List (S66))⟩ : S66), (⟨0, 1, (⟨#[]⟩ : ByteArray), ([] : List (S66))⟩ : S66)] : List (S66))) ([] : List (S39))).bind fun bt780 => (if bt780.2.2.2.2.2 = 0 then (if bt780.1 = 0 then ((tabardlaw09_same.f k bt780.2.1 (([(⟨#[120]⟩ : ByteArray)] : List ByteArray))).bind fun t794 => (if t794 = true then ((tabardlaw09_numbers.f k bt780.2.2.1 (([(-1)] : List Int))).bind fun t798 => (if t798 = true then (if bt780.2.2.2.1 = (-2) then (some true) else (some false)) else (some false))) else (some false))) else (some false)) else (some false))
theorem tabardlaw09_fixed.mono : ∀ k, LeO (tabardlaw09_fixed.f k ) (tabardlaw09_fixed.f (k + 1) ) := by
  intro  k
  unfold tabardlaw09_fixed.f
  repeat' first
      | (with_reducible exact norm_Atom.mono _ _ _ _ _ _)
      | (with_reducible exact tabardlaw09_numbers.mono _ _ _)
      | (with_reducible exact tabardlaw09_same.mono _ _ _)
      | (with_reducible exact LeO.refl _)
      | (with_reducible exact LeO.none _)
      | (with_reducible refine LeO.ite ?_ ?_)
      | (with_reducible refine LeO.bind ?_ (fun _ => ?_))
      | exact norm_Atom.mono _ _ _ _ _ _
      | exact tabardlaw09_numbers.mono _ _ _
      | exact tabardlaw09_same.mono _ _ _
      | exact LeO.none _
      | refine LeO.ite ?_ ?_
      | refine LeO.bind ?_ (fun _ => ?_)
theorem tabardlaw09_fixed.only {k : Nat} {r : Bool} (h : tabardlaw09_fixed.f k = some r) : r = true := by
  obtain ⟨K, hK⟩ := Ev.of (fun k => tabardlaw09_fixed.mono k) h
  obtain ⟨K2, hK2⟩ := Ev.of (g := fun k => tabardlaw09_fixed.f k) (fun k => tabardlaw09_fixed.mono k) (show tabardlaw09_fixed.f 20 = some true by decide +kernel)
  exact Option.some.inj ((hK (K + K2) kq1).symm.trans (hK2 (K + K2) kq1))
set_option maxHeartbeats 8000000 in
set_option maxRecDepth 100000 in
theorem tabardlaw09_fixed.calls (k : Nat)  (r : Bool) (w : World) (h : tabardlaw09_fixed.f k  = some r) :
    Calls Try.prog 43 #[] w fun e w' => e = .returned (.bool r) ∧ Below w.heap.size w w' := by
  have HRt_ := mk (tabardlaw09_fixed.only h)
  have hu66 := Try.underlying66
  have hu39 := Try.underlying39
  have hu58 := Try.underlying58
  have HB := mk (Below.refl w.heap.size w)
  have H : ((norm_Atom.f k 12 (⟨#[]⟩ : ByteArray) 0 (([(⟨1, 0, (⟨#[120]⟩ : ByteArray), ([] : List (S66))⟩ : S66), (⟨0, 1, (⟨#[]⟩ : ByteArray), ([] : List (S66))⟩ : S66)] : List (S66))) ([] : List (S39))).bind fun bt780 => (if bt780.2.2.2.2.2 = 0 then (if bt780.1 = 0 then ((tabardlaw09_same.f k bt780.2.1 (([(⟨#[120]⟩ : ByteArray)] : List ByteArray))).bind fun t794 => (if t794 = true then ((tabardlaw09_numbers.f k bt780.2.2.1 (([(-1)] : List Int))).bind fun t798 => (if t798 = true then (if bt780.2.2.2.1 = (-2) then (some true) else (some false)) else (some false))) else (some false))) else (some false)) else (some false))) = some r := h
  clear h
  obtain ⟨y777, hy777⟩ : ∃ y_ : List (S66), y_ = (([(⟨1, 0, (⟨#[120]⟩ : ByteArray), ([] : List (S66))⟩ : S66), (⟨0, 1, (⟨#[]⟩ : ByteArray), ([] : List (S66))⟩ : S66)] : List (S66))) := ⟨_, rfl⟩
  replace H : ((norm_Atom.f k 12 (⟨#[]⟩ : ByteArray) 0 y777 ([] : List (S39))).bind fun bt780 => (if bt780.2.2.2.2.2 = 0 then (if bt780.1 = 0 then ((tabardlaw09_same.f k bt780.2.1 (([(⟨#[120]⟩ : ByteArray)] : List ByteArray))).bind fun t794 => (if t794 = true then ((tabardlaw09_numbers.f k bt780.2.2.1 (([(-1)] : List Int))).bind fun t798 => (if t798 = true then (if bt780.2.2.2.1 = (-2) then (some true) else (some false)) else (some false))) else (some false))) else (some false)) else (some false))) = some r := by first | (rw [hy777]; with_reducible exact H) | (have H2_ := (Option.bind_some _ _).symm.trans H; rw [hy777]; with_reducible exact H2_) | (have H2_ := (Option.bind_some _ _).symm.trans H; with_reducible exact H2_) | with_reducible exact H | (rw [hy777]; exact H) | exact H
  have Ny777 := mk hy777
  clear hy777
  replace H := Option.bind_eq_some_iff.mp H
  obtain ⟨⟨t780, t781, t784, t787, t788, t789⟩, A10, H⟩ := H
  replace H : (if t789 = 0 then (if t780 = 0 then ((tabardlaw09_same.f k t781 (([(⟨#[120]⟩ : ByteArray)] : List ByteArray))).bind fun t794 => (if t794 = true then ((tabardlaw09_numbers.f k t784 (([(-1)] : List Int))).bind fun t798 => (if t798 = true then (if t787 = (-2) then (some true) else (some false)) else (some false))) else (some false))) else (some false)) else (some false)) = some r := H
  have A1 := mk A10
  clear A10
  by_cases c2 : t789 = 0
  · rw [if_pos c2] at H
    have c2b0 := eT_ c2
    have c2b1 := nF_ c2
    clear c2
    replace H := ic_ H; obtain ⟨c3, H⟩ | ⟨c3, H⟩ := H
    · (obtain ⟨c3b0, c3b1⟩ := eTn_ c3); clear c3; (obtain ⟨y791, hy791⟩ : ∃ y_ : List ByteArray, y_ = (([(⟨#[120]⟩ : ByteArray)] : List ByteArray)) := ⟨_, rfl⟩); (replace H : ((tabardlaw09_same.f k t781 y791).bind fun t794 => (if t794 = true then ((tabardlaw09_numbers.f k t784 (([(-1)] : List Int))).bind fun t798 => (if t798 = true then (if t787 = (-2) then (some true) else (some false)) else (some false))) else (some false))) = some r := by first | (rw [hy791]; with_reducible exact H) | (have H2_ := (Option.bind_some _ _).symm.trans H; rw [hy791]; with_reducible exact H2_) | (have H2_ := (Option.bind_some _ _).symm.trans H; with_reducible exact H2_) | with_reducible exact H | (rw [hy791]; exact H) | exact H); (have Ny791 := mk hy791); clear hy791; (replace H := Option.bind_eq_some_iff.mp H); (obtain ⟨t794, A40, H⟩ := H); (replace H : (if t794 = true then ((tabardlaw09_numbers.f k t784 (([(-1)] : List Int))).bind fun t798 => (if t798 = true then (if t787 = (-2) then (some true) else (some false)) else (some false))) else (some false)) = some r := H); (have A4 := mk A40); clear A40; (by_cases c5 : t794 = true)
      · subst c5; (have H1 : ((tabardlaw09_numbers.f k t784 (([(-1)] : List Int))).bind fun t798 => (if t798 = true then (if t787 = (-2) then (some true) else (some false)) else (some false))) = some r := by rw [if_pos rfl] at H; exact H); clear H; (have H := H1); clear H1; (obtain ⟨y795, hy795⟩ : ∃ y_ : List Int, y_ = (([(-1)] : List Int)) := ⟨_, rfl⟩); (replace H : ((tabardlaw09_numbers.f k t784 y795).bind fun t798 => (if t798 = true then (if t787 = (-2) then (some true) else (some false)) else (some false))) = some r := by first | (rw [hy795]; with_reducible exact H) | (have H2_ := (Option.bind_some _ _).symm.trans H; rw [hy795]; with_reducible exact H2_) | (have H2_ := (Option.bind_some _ _).symm.trans H; with_reducible exact H2_) | with_reducible exact H | (rw [hy795]; exact H) | exact H); (have Ny795 := mk hy795); clear hy795; (replace H := Option.bind_eq_some_iff.mp H); (obtain ⟨t798, A60, H⟩ := H); (replace H : (if t798 = true then (if t787 = (-2) then (some true) else (some false)) else (some false)) = some r := H); (have A6 := mk A60); clear A60; (by_cases c7 : t798 = true)
        · subst c7; (have H1 : (if t787 = (-2) then (some true) else (some false)) = some r := by rw [if_pos rfl] at H; exact H); clear H; (have H := H1); clear H1; replace H := ic_ H; obtain ⟨c8, H⟩ | ⟨c8, H⟩ := H
          · (obtain ⟨c8b0, c8b1⟩ := eTn_ c8); clear c8; (obtain rfl := Option.some.inj H); (go_enter Try.func43, Try.ntmps43); (go_wp2_with (first | ((with_reducible refine gate_dst (N := 1) rfl ?_); (try (refine gate_guard (by rfl) ?_; dsimp only)); refine box_event ?hg (N := 1) ?hd (cs := #[.int .i64 0, .int .i64 0, .string (⟨#[]⟩ : ByteArray), .slice none 0 0]) (t := 66) ?hr ?_; (case hd => rfl); (case hg => rfl); (case hr => exact kq11); intro gb776 hg w9 hbox hb; have BK776 := mk (hbox); have GW776 := (gs_ hg kq9); have GE776 := GW776; replace HB := mk (below_step kq9 hb); clear hb hbox hg; obtain ⟨_, _, _, _, _, _, _, _⟩ := cz4_ BK776.out) | ((with_reducible refine gate_dst (N := 8) rfl ?_); (try (refine gate_guard (by rfl) ?_; dsimp only)); refine Kd.R_lit k66 _ 66 ?hg (N := 8) ?hd (xs := ([(⟨1, 0, (⟨#[120]⟩ : ByteArray), ([] : List (S66))⟩ : S66), (⟨0, 1, (⟨#[]⟩ : ByteArray), ([] : List (S66))⟩ : S66)] : List (S66))) (inner := [.int .i64 1, .int .i64 0, .string (⟨#[120]⟩ : ByteArray), .slice none 0 0, .int .i64 0, .int .i64 1, .string (⟨#[]⟩ : ByteArray), .slice none 0 0]) (ok := fun _ => True) (okp := fun _ => True) ?hr ?hp (fun _ hk => hk) trivial (Below.refl _ _) (Nat.le_refl _) (by simp) ?_; (case hd => rfl); (case hg => rfl); (case hr => exact kq11); (case hp => exact (Reps.c4 (show Kd.M k66 _ _ _ (⟨1, 0, (⟨#[120]⟩ : ByteArray), ([] : List (S66))⟩ : S66) [.int .i64 1, .int .i64 0, .string (⟨#[120]⟩ : ByteArray), .slice none 0 0] from (k66_mkM _ _ _ (⟨1, 0, (⟨#[120]⟩ : ByteArray), ([] : List (S66))⟩ : S66) (Kd.R_nil _ _ _ _ _))) (Reps.c4 (show Kd.M k66 _ _ _ (⟨0, 1, (⟨#[]⟩ : ByteArray), ([] : List (S66))⟩ : S66) [.int .i64 0, .int .i64 1, .string (⟨#[]⟩ : ByteArray), .slice none 0 0] from (k66_mkM _ _ _ (⟨0, 1, (⟨#[]⟩ : ByteArray), ([] : List (S66))⟩ : S66) (Kd.R_nil _ _ _ _ _))) (Reps.none _ _)))); intro v778 w11 ho12 hb hg_ hnew_; clear hg_ hnew_; (first | rw [← Ny777.out] at ho12 | (simp only [Int.reduceToNat] at ho12; rw [← Ny777.out] at ho12)); have HO779 := mk (Kd.R_lower (Kd.R_newB ho12 (g := gb776) (o := .cells #[.int .i64 1, .int .i64 0, .string (⟨#[120]⟩ : ByteArray), .slice none 0 0] 66 (0, 0)) (kq90 BK776)) (below_size (kq10 GE776))); replace BK776 := mk (blk_below (g := gb776) (o := .cells #[.int .i64 1, .int .i64 0, .string (⟨#[120]⟩ : ByteArray), .slice none 0 0] 66 (0, 0)) (kq90 BK776) hb); replace HB := mk (below_step (kq10 GE776) hb); clear hb ho12; obtain ⟨Ao13, co13, eo13⟩ := Kd.R_slice HO779.out; subst eo13) | ((with_reducible refine gate_callee (f := 44) rfl ?_); refine goesL_ (some 10) rfl rfl Try.func44 kq0 rfl #[.agg #[.int .i64 12, .string (⟨#[]⟩ : ByteArray), .int .i64 0, .slice Ao13 y777.length co13, .slice none 0 0]] rfl kq7 ?_; (refine (norm_Atom.calls k 12 (⟨#[]⟩ : ByteArray) 0 _ _ y777 _ _ ([] : List (S39)) t780 t781 t784 t787 t788 t789 _ ?side1 ?side2 ?side3 ?side4 A1.out).mono ?_); (case side1 => exact kq93 HO779); (case side2 => exact (Kd.R_reads' HO779.out).2.1); (case side3 => exact Kd.C_nil _ _); (case side4 => exact Nat.le_refl _); rintro e w14 ⟨v782, v785, rfl, ho0, ho1, hb⟩; refine ⟨_, rfl, ?_⟩; have HO783 := mk (Kd.R_lower ho0 (below_size (kq10 GE776))); have HO786 := mk (Kd.R_lower ho1 (below_size (kq10 GE776))); replace HO779 := mk (Kd.R_below (kq17 HO779) hb); replace BK776 := (bb_ BK776 hb); replace HB := mk (below_step (kq10 GE776) hb)) | ((with_reducible refine gate_dst (N := 2) rfl ?_); (try (refine gate_guard (by rfl) ?_; dsimp only)); refine box_event ?hg (N := 2) ?hd (cs := #[.int .i64 0, .slice none 0 0, .slice none 0 0, .int .i64 0, .int .i64 0]) (t := 58) ?hr ?_; (case hd => rfl); (case hg => rfl); (case hr => exact kq11); intro gb790 hg w15 hbox hb; have BK790 := mk (hbox); have GW790 := (gs_ hg (kq10 GE776)); have GE790 := GW790; have NB776_790 := (nl_ hg BK776); have NB790_776 := (ng_ hg BK776); replace HO779 := mk (Kd.R_below (kq17 HO779) hb); replace HO783 := mk (Kd.R_below (kq17 HO783) hb); replace HO786 := mk (Kd.R_below (kq17 HO786) hb); replace BK776 := (bb_ BK776 hb); replace HB := mk (below_step (kq10 GE776) hb); clear hb hbox hg; have hnb16 := NB790_776.out; have hnc16 := NB776_790.out; obtain ⟨_, _, _, _, _, _, _, _, _, _⟩ := cz5_ BK790.out; obtain ⟨Ao18, co18, eo18⟩ := Kd.R_slice HO783.out; subst eo18; obtain ⟨Ao19, co19, eo19⟩ := Kd.R_slice HO786.out; subst eo19) | ((with_reducible refine gate_dst (N := 23) rfl ?_); (try (refine gate_guard (by rfl) ?_; dsimp only)); refine Kd.R_lit Kd.string _ 9 ?hg (N := 23) ?hd (xs := ([(⟨#[120]⟩ : ByteArray)] : List ByteArray)) (inner := [.string (⟨#[120]⟩ : ByteArray)]) (ok := fun _ => True) (okp := fun _ => True) ?hr ?hp (fun _ hk => hk) trivial (Below.refl _ _) (Nat.le_refl _) (by simp) ?_; (case hd => rfl); (case hg => rfl); (case hr => exact kq11); (case hp => exact (Reps.one (show Kd.M Kd.string _ _ _ (⟨#[120]⟩ : ByteArray) [.string (⟨#[120]⟩ : ByteArray)] from rfl) (Reps.none _ _))); intro v792 w20 ho21 hb hg_ hnew_; clear hg_ hnew_; (first | rw [← Ny791.out] at ho21 | (simp only [Int.reduceToNat] at ho21; rw [← Ny791.out] at ho21)); have HO793 := mk (Kd.R_lower (Kd.R_new' ho21 (Kd.R_lt (kq91 HO783 BK790))) (below_size (kq46 GE776 GE790))); replace HO779 := mk (Kd.R_below (kq91 HO779 BK790) hb); replace HO783 := mk (Kd.R_elder' (kq91 HO783 BK790) (Kd.R_base ho21) hb); replace HO786 := mk (Kd.R_below (kq91 HO786 BK790) hb); replace BK776 := mk (blk_below (g := gb776) (o := .cells #[.int .i64 1, .int .i64 0, .string (⟨#[120]⟩ : ByteArray), .slice none 0 0] 66 (0, 0)) (kq92 NB776_790 BK776) hb); replace BK790 := mk (blk_below (g := gb790) (o := .cells #[.int .i64 t780, .slice Ao18 t781.length co18, .slice Ao19 t784.length co19, .int .i64 t787, .int .i64 t788] 58 (0, 0)) (by (with_reducible repeat (first | refine blk_drewN ?_ _ | refine blk_drew ?_ | refine blk_alloc ?_ _)); refine blk_put (cs := #[.int .i64 t780, .slice Ao18 t781.length co18, .slice Ao19 t784.length co19, .int .i64 t787, .int .i64 0]) ?_ 4 _ rfl; (with_reducible repeat (first | refine blk_drewN ?_ _ | refine blk_drew ?_ | refine blk_alloc ?_ _)); refine blk_put (cs := #[.int .i64 t780, .slice Ao18 t781.length co18, .slice Ao19 t784.length co19, .int .i64 0, .int .i64 0]) ?_ 3 _ rfl; (with_reducible repeat (first | refine blk_drewN ?_ _ | refine blk_drew ?_ | refine blk_alloc ?_ _)); refine blk_put (cs := #[.int .i64 t780, .slice Ao18 t781.length co18, .slice none 0 0, .int .i64 0, .int .i64 0]) ?_ 2 _ rfl; (with_reducible repeat (first | refine blk_drewN ?_ _ | refine blk_drew ?_ | refine blk_alloc ?_ _)); refine blk_put (cs := #[.int .i64 t780, .slice none 0 0, .slice none 0 0, .int .i64 0, .int .i64 0]) ?_ 1 _ rfl; (with_reducible repeat (first | refine blk_drewN ?_ _ | refine blk_drew ?_ | refine blk_alloc ?_ _)); refine blk_put (cs := #[.int .i64 0, .slice none 0 0, .slice none 0 0, .int .i64 0, .int .i64 0]) ?_ 0 _ rfl; (with_reducible repeat (first | refine blk_drewN ?_ _ | refine blk_drew ?_ | refine blk_alloc ?_ _)); exact BK790.out) hb); replace HB := mk (below_step (kq46 GE776 GE790) hb); clear hb ho21; obtain ⟨Ao22, co22, eo22⟩ := Kd.R_slice HO793.out; subst eo22) | (go_at_call 51; (with_reducible refine (tabardlaw09_same.calls k _ _ t781 _ _ y791 true _ ?side1 ?side2 ?side3 ?side4 A4.out).mono ?_); (case side1 => exact kq93 HO783); (case side2 => exact (Kd.R_reads' HO783.out).2.1); (case side3 => exact kq93 HO793); (case side4 => exact (Kd.R_reads' HO793.out).2.1); rintro e w' ⟨rfl, ⟨nd, rfl⟩⟩; obtain ⟨_, _, _, _, _, _, _, _, _, _⟩ := cz5_ BK790.out) | ((with_reducible refine gate_dst (N := 29) rfl ?_); (try (refine gate_guard (by rfl) ?_; dsimp only)); refine Kd.R_lit (Kd.int .i64) _ 2 ?hg (N := 29) ?hd (xs := ([(-1)] : List Int)) (inner := [.int .i64 (-1)]) (ok := fun _ => True) (okp := fun _ => True) ?hr ?hp (fun _ hk => hk) trivial (Below.refl _ _) (Nat.le_refl _) (by simp) ?_; (case hd => rfl); (case hg => rfl); (case hr => exact kq11); (case hp => exact (Reps.one (show Kd.M (Kd.int .i64) _ _ _ (-1) [.int .i64 (-1)] from rfl) (Reps.none _ _))); intro v796 w24 ho25 hb hg_ hnew_; clear hg_ hnew_; (first | rw [← Ny795.out] at ho25 | (simp only [Int.reduceToNat] at ho25; rw [← Ny795.out] at ho25)); have HO797 := mk (Kd.R_lower (Kd.R_new' ho25 (Kd.R_lt (kq17 HO786))) (below_size (kq46 GE776 GE790))); replace HO779 := mk (Kd.R_below (kq17 HO779) hb); replace HO783 := mk (Kd.R_below (kq17 HO783) hb); replace HO786 := mk (Kd.R_elder' (kq17 HO786) (Kd.R_base ho25) hb); replace HO793 := mk (Kd.R_below (kq17 HO793) hb); replace BK776 := (bb_ BK776 hb); replace BK790 := (bb_ BK790 hb); replace HB := mk (below_step (kq46 GE776 GE790) hb); clear hb ho25; obtain ⟨Ao26, co26, eo26⟩ := Kd.R_slice HO797.out; subst eo26) | (go_at_call 52; (with_reducible refine (tabardlaw09_numbers.calls k _ _ t784 _ _ y795 true _ ?side1 ?side2 ?side3 ?side4 A6.out).mono ?_); (case side1 => exact kq93 HO786); (case side2 => exact (Kd.R_reads' HO786.out).2.1); (case side3 => exact kq93 HO797); (case side4 => exact (Kd.R_reads' HO797.out).2.1); rintro e w' ⟨rfl, ⟨nd, rfl⟩⟩; obtain ⟨_, _, _, _, _, _, _, _, _, _⟩ := cz5_ BK790.out))); go_ret; (exact ⟨kq13, (kq46 GE776 GE790)⟩)
          · (obtain ⟨c8b0, c8b1⟩ := eFn_ c8); (cases (Option.some.inj H).trans HRt_.out)
        · (replace c7 := Bool.eq_false_iff.mpr c7); subst c7; (have H1 : (some false) = some r := by rw [if_neg (show ¬ (false = true) by decide)] at H; exact H); clear H; (have H := H1); clear H1; (cases (Option.some.inj H).trans HRt_.out)
      · (replace c5 := Bool.eq_false_iff.mpr c5); subst c5; (have H1 : (some false) = some r := by rw [if_neg (show ¬ (false = true) by decide)] at H; exact H); clear H; (have H := H1); clear H1; (cases (Option.some.inj H).trans HRt_.out)
    · (obtain ⟨c3b0, c3b1⟩ := eFn_ c3); (cases (Option.some.inj H).trans HRt_.out)
  · rw [if_neg c2] at H
    have c2b0 := eF_ c2
    have c2b1 := nT_ c2
    cases (Option.some.inj H).trans HRt_.out
end Go.Proofs.Ytjknpmibdkoklaa.Q
set_option maxRecDepth 100000
namespace Go.Proofs.Ytjknpmibdkoklaa.Q
open Go.RowKit Go.Proofs.YtjknpmibdkoklaaW.PrintWords Go.Proofs.YtjknpmibdkoklaaW.PrintLast Go.Proofs.YtjknpmibdkoklaaW.PrintMore
theorem fixed9_true : tabardlaw09_fixed.f 20 = some true := by decide +kernel
theorem fixed9_ev : Ev (fun k => tabardlaw09_fixed.f k) true := Ev.of (fun k => tabardlaw09_fixed.mono k) fixed9_true
end Go.Proofs.Ytjknpmibdkoklaa.Q
namespace Go.Proofs.Ytjknpmibdkoklaa.Q
open Go.RowKit Go.Proofs.YtjknpmibdkoklaaW.PrintWords Go.Proofs.YtjknpmibdkoklaaW.PrintLast Go.Proofs.YtjknpmibdkoklaaW.PrintMore
open Aside0 (mk)
open List (setIfInBounds_toArray set_cons_zero set_cons_succ)
attribute [local go_sem] max2_int min2_int max_two min_two max_three min_three max_four min_four
set_option linter.unusedVariables false
set_option linter.unusedSimpArgs false
attribute [local go_sem] fld99_2 fld103_2 fld160_0 fld160_1
def tabardlaw09_NormValues.f (k : Nat) (a0_0 : Int) (a0_1 : Int) (a0_2 : ByteArray) (l0_3 : List (S66)) (l1 : List Int) : Option (Bool) := (tabardlaw09_fixed.f k).bind fun t1240 => (if t1240 = true then ((norm_Linear.f k a0_0 a0_1 a0_2 l0_3).bind fun bt1241 => (if bt1241.2.2.2 = 0 then (if (bt1241.1.length : Int) = (bt1241.2.1.length : Int) then ((tabardlaw09_small.f k l1 (bt1241.1.length : Int)).bind fun t1249 => ((tabardlaw09_value.f k a0_0 a0_1 a0_2 l0_3 bt1241.1 t1249).bind fun bt1252 => ((tabardlaw09_worked.f k bt1241.2.1 t1249 bt1241.2.2.1).bind fun bt1254 => (if bt1252.2 = true then (if bt1254.2 = true then (some (bt1254.1 == bt1252.1)) else (some true)) else (some true))))) else (some false)) else (if (bt1241.1.length : Int) = 0 then (if (bt1241.2.1.length : Int) = 0 then (some (bt1241.2.2.1 == 0)) else (some false)) else (some false)))) else (some false))
theorem tabardlaw09_NormValues.mono : ∀ a0 a1 a2 a3 a4 k, LeO (tabardlaw09_NormValues.f k a0 a1 a2 a3 a4) (tabardlaw09_NormValues.f (k + 1) a0 a1 a2 a3 a4) := by
  intro a0 a1 a2 a3 a4 k
  unfold tabardlaw09_NormValues.f
  repeat' first
      | (with_reducible exact norm_Linear.mono _ _ _ _ _)
      | (with_reducible exact tabardlaw09_fixed.mono _)
      | (with_reducible exact tabardlaw09_small.mono _ _ _)
      | (with_reducible exact tabardlaw09_value.mono _ _ _ _ _ _ _)
      | (with_reducible exact tabardlaw09_worked.mono _ _ _ _)
      | (with_reducible exact LeO.refl _)
      | (with_reducible exact LeO.none _)
      | (with_reducible refine LeO.ite ?_ ?_)
      | (with_reducible refine LeO.bind ?_ (fun _ => ?_))
      | exact norm_Linear.mono _ _ _ _ _
      | exact tabardlaw09_fixed.mono _
      | exact tabardlaw09_small.mono _ _ _
      | exact tabardlaw09_value.mono _ _ _ _ _ _ _
      | exact tabardlaw09_worked.mono _ _ _ _
      | exact LeO.none _
      | refine LeO.ite ?_ ?_
      | refine LeO.bind ?_ (fun _ => ?_)
set_option maxHeartbeats 8000000 in
set_option maxRecDepth 100000 in
theorem tabardlaw09_NormValues.calls (k : Nat) (a0_0 : Int) (a0_1 : Int) (a0_2 : ByteArray) (A0_3 : Option Addr) (c0_3 : Nat) (l0_3 : List (S66)) (A1 : Option Addr) (c1 : Nat) (l1 : List Int) (r : Bool) (w : World) (hr0_3 : Kd.C k66 w A0_3 l0_3.length l0_3) (hc0_3 : l0_3.length ≤ c0_3) (hr1 : Kd.C (Kd.int .i64) w A1 l1.length l1) (hc1 : l1.length ≤ c1) (h : tabardlaw09_NormValues.f k a0_0 a0_1 a0_2 l0_3 l1 = some r) :
    Calls Try.prog 14 #[.agg #[.int .i64 a0_0, .int .i64 a0_1, .string a0_2, .slice A0_3 l0_3.length c0_3], .slice A1 l1.length c1] w fun e w' => e = .returned (.bool r) ∧ Below w.heap.size w w' := by
  have hu66 := Try.underlying66
  have HR0_3 := mk hr0_3
  have HC0_3 := mk hc0_3
  clear hr0_3 hc0_3
  have HR1 := mk hr1
  have HC1 := mk hc1
  clear hr1 hc1
  have HB := mk (Below.refl w.heap.size w)
  have H : ((tabardlaw09_fixed.f k).bind fun t1240 => (if t1240 = true then ((norm_Linear.f k a0_0 a0_1 a0_2 l0_3).bind fun bt1241 => (if bt1241.2.2.2 = 0 then (if (bt1241.1.length : Int) = (bt1241.2.1.length : Int) then ((tabardlaw09_small.f k l1 (bt1241.1.length : Int)).bind fun t1249 => ((tabardlaw09_value.f k a0_0 a0_1 a0_2 l0_3 bt1241.1 t1249).bind fun bt1252 => ((tabardlaw09_worked.f k bt1241.2.1 t1249 bt1241.2.2.1).bind fun bt1254 => (if bt1252.2 = true then (if bt1254.2 = true then (some (bt1254.1 == bt1252.1)) else (some true)) else (some true))))) else (some false)) else (if (bt1241.1.length : Int) = 0 then (if (bt1241.2.1.length : Int) = 0 then (some (bt1241.2.2.1 == 0)) else (some false)) else (some false)))) else (some false))) = some r := h
  clear h
  replace H := Option.bind_eq_some_iff.mp H
  obtain ⟨t1240, A30, H⟩ := H
  replace H : (if t1240 = true then ((norm_Linear.f k a0_0 a0_1 a0_2 l0_3).bind fun bt1241 => (if bt1241.2.2.2 = 0 then (if (bt1241.1.length : Int) = (bt1241.2.1.length : Int) then ((tabardlaw09_small.f k l1 (bt1241.1.length : Int)).bind fun t1249 => ((tabardlaw09_value.f k a0_0 a0_1 a0_2 l0_3 bt1241.1 t1249).bind fun bt1252 => ((tabardlaw09_worked.f k bt1241.2.1 t1249 bt1241.2.2.1).bind fun bt1254 => (if bt1252.2 = true then (if bt1254.2 = true then (some (bt1254.1 == bt1252.1)) else (some true)) else (some true))))) else (some false)) else (if (bt1241.1.length : Int) = 0 then (if (bt1241.2.1.length : Int) = 0 then (some (bt1241.2.2.1 == 0)) else (some false)) else (some false)))) else (some false)) = some r := H
  have A3 := mk A30
  clear A30
  by_cases c4 : t1240 = true
  · subst c4
    have H1 : ((norm_Linear.f k a0_0 a0_1 a0_2 l0_3).bind fun bt1241 => (if bt1241.2.2.2 = 0 then (if (bt1241.1.length : Int) = (bt1241.2.1.length : Int) then ((tabardlaw09_small.f k l1 (bt1241.1.length : Int)).bind fun t1249 => ((tabardlaw09_value.f k a0_0 a0_1 a0_2 l0_3 bt1241.1 t1249).bind fun bt1252 => ((tabardlaw09_worked.f k bt1241.2.1 t1249 bt1241.2.2.1).bind fun bt1254 => (if bt1252.2 = true then (if bt1254.2 = true then (some (bt1254.1 == bt1252.1)) else (some true)) else (some true))))) else (some false)) else (if (bt1241.1.length : Int) = 0 then (if (bt1241.2.1.length : Int) = 0 then (some (bt1241.2.2.1 == 0)) else (some false)) else (some false)))) = some r := by rw [if_pos rfl] at H; exact H
    clear H
    have H := H1
    clear H1
    replace H := Option.bind_eq_some_iff.mp H
    obtain ⟨⟨t1241, t1244, t1247, t1248⟩, A50, H⟩ := H
    replace H : (if t1248 = 0 then (if (t1241.length : Int) = (t1244.length : Int) then ((tabardlaw09_small.f k l1 (t1241.length : Int)).bind fun t1249 => ((tabardlaw09_value.f k a0_0 a0_1 a0_2 l0_3 t1241 t1249).bind fun bt1252 => ((tabardlaw09_worked.f k t1244 t1249 t1247).bind fun bt1254 => (if bt1252.2 = true then (if bt1254.2 = true then (some (bt1254.1 == bt1252.1)) else (some true)) else (some true))))) else (some false)) else (if (t1241.length : Int) = 0 then (if (t1244.length : Int) = 0 then (some (t1247 == 0)) else (some false)) else (some false))) = some r := H
    have A5 := mk A50
    clear A50
    replace H := ic_ H; obtain ⟨c6, H⟩ | ⟨c6, H⟩ := H
    · (obtain ⟨c6b0, c6b1⟩ := eTn_ c6); clear c6; replace H := ic_ H; obtain ⟨c7, H⟩ | ⟨c7, H⟩ := H
      · (obtain ⟨c7b0, c7b1⟩ := eTn_ c7); (have c7b2 : (t1241.length == t1244.length) = true := by first | simpa using c7 | (simp at c7 ⊢; omega)); clear c7; (replace H := Option.bind_eq_some_iff.mp H); (obtain ⟨t1249, A80, H⟩ := H); (replace H : ((tabardlaw09_value.f k a0_0 a0_1 a0_2 l0_3 t1241 t1249).bind fun bt1252 => ((tabardlaw09_worked.f k t1244 t1249 t1247).bind fun bt1254 => (if bt1252.2 = true then (if bt1254.2 = true then (some (bt1254.1 == bt1252.1)) else (some true)) else (some true)))) = some r := H); (have A8 := mk A80); clear A80; (replace H := Option.bind_eq_some_iff.mp H); (obtain ⟨⟨t1252, t1253⟩, A90, H⟩ := H); (replace H : ((tabardlaw09_worked.f k t1244 t1249 t1247).bind fun bt1254 => (if t1253 = true then (if bt1254.2 = true then (some (bt1254.1 == t1252)) else (some true)) else (some true))) = some r := H); (have A9 := mk A90); clear A90; (replace H := Option.bind_eq_some_iff.mp H); (obtain ⟨⟨t1254, t1255⟩, A100, H⟩ := H); (replace H : (if t1253 = true then (if t1255 = true then (some (t1254 == t1252)) else (some true)) else (some true)) = some r := H); (have A10 := mk A100); clear A100; (by_cases c11 : t1253 = true)
        · subst c11; (have H1 : (if t1255 = true then (some (t1254 == t1252)) else (some true)) = some r := by rw [if_pos rfl] at H; exact H); clear H; (have H := H1); clear H1; (by_cases c12 : t1255 = true)
          · subst c12; (have H1 : (some (t1254 == t1252)) = some r := by rw [if_pos rfl] at H; exact H); clear H; (have H := H1); clear H1; (obtain rfl := Option.some.inj H); (go_enter Try.func14, Try.ntmps14); (go_wp2_with (first | ((with_reducible refine gate_dst (N := 2) rfl ?_); (try (refine gate_guard (by rfl) ?_; dsimp only)); refine box_event ?hg (N := 2) ?hd (cs := #[.int .i64 a0_0, .int .i64 a0_1, .string a0_2, .slice A0_3 l0_3.length c0_3]) (t := 66) ?hr ?_; (case hd => rfl); (case hg => rfl); (case hr => exact kq11); intro gb1239 hg w13 hbox hb; have BK1239 := mk (hbox); have GW1239 := (gs_ hg kq9); have GE1239 := GW1239; replace HB := mk (below_step kq9 hb); clear hb hbox hg) | ((with_reducible refine gate_callee (f := 43) rfl ?_); refine goesL_ (some 14) rfl rfl Try.func43 kq0 rfl #[] rfl kq7 ?_; (with_reducible refine (tabardlaw09_fixed.calls k  true _ A3.out).mono ?_); rintro e w14 ⟨rfl, hb⟩; refine ⟨_, rfl, ?_⟩; replace BK1239 := (bb_ BK1239 hb); replace HB := mk (below_step (kq10 GE1239) hb); obtain ⟨_, _, _, _, _, _, _, _⟩ := cz4_ BK1239.out) | ((with_reducible refine gate_callee (f := 49) rfl ?_); refine goesL_ (some 18) rfl rfl Try.func49 kq0 rfl #[.agg #[.int .i64 a0_0, .int .i64 a0_1, .string a0_2, .slice A0_3 l0_3.length c0_3]] rfl kq7 ?_; (with_reducible refine (norm_Linear.calls k a0_0 a0_1 a0_2 _ _ l0_3 t1241 t1244 t1247 t1248 _ ?side1 ?side2 A5.out).mono ?_); (case side1 => exact kq14 HR0_3); (case side2 => exact HC0_3.out); rintro e w16 ⟨v1242, v1245, rfl, ho0, ho1, hb⟩; refine ⟨_, rfl, ?_⟩; have HO1243 := mk (Kd.R_lower ho0 (below_size (kq10 GE1239))); have HO1246 := mk (Kd.R_lower ho1 (below_size (kq10 GE1239))); replace BK1239 := (bb_ BK1239 hb); replace HB := mk (below_step (kq10 GE1239) hb); obtain ⟨Ao17, co17, eo17⟩ := Kd.R_slice HO1243.out; subst eo17; obtain ⟨Ao18, co18, eo18⟩ := Kd.R_slice HO1246.out; subst eo18) | ((with_reducible refine gate_callee (f := 45) rfl ?_); refine goesL_ (some 45) rfl rfl Try.func45 kq0 rfl #[.slice A1 l1.length c1, .int .i64 (t1241.length : Int)] rfl kq7 ?_; (with_reducible refine (tabardlaw09_small.calls k _ _ l1 (t1241.length : Int) t1249 _ ?side1 ?side2 A8.out).mono ?_); (case side1 => exact kq14 HR1); (case side2 => exact HC1.out); rintro e w19 ⟨v1250, rfl, ho0, hb⟩; refine ⟨_, rfl, ?_⟩; have HO1251 := mk (Kd.R_lower (Kd.R_new' ho0 (Kd.R_lt (kq17 HO1246))) (below_size (kq10 GE1239))); replace HO1243 := mk (Kd.R_below (kq17 HO1243) hb); replace HO1246 := mk (Kd.R_elder' (kq17 HO1246) (Kd.R_base ho0) hb); replace BK1239 := (bb_ BK1239 hb); replace HB := mk (below_step (kq10 GE1239) hb); obtain ⟨_, _, _, _, _, _, _, _⟩ := cz4_ BK1239.out; obtain ⟨Ao21, co21, eo21⟩ := Kd.R_slice HO1251.out; subst eo21) | ((with_reducible refine gate_callee (f := 46) rfl ?_); refine goesL_ (some 50) rfl rfl Try.func46 kq0 rfl #[.agg #[.int .i64 a0_0, .int .i64 a0_1, .string a0_2, .slice A0_3 l0_3.length c0_3], .slice Ao17 t1241.length co17, .slice Ao21 t1249.length co21] rfl kq7 ?_; (with_reducible refine (tabardlaw09_value.calls k a0_0 a0_1 a0_2 _ _ l0_3 _ _ t1241 _ _ t1249 t1252 true _ ?side1 ?side2 ?side3 ?side4 ?side5 ?side6 A9.out).mono ?_); (case side1 => exact kq14 HR0_3); (case side2 => exact HC0_3.out); (case side3 => exact kq93 HO1243); (case side4 => exact (Kd.R_reads' HO1243.out).2.1); (case side5 => exact kq93 HO1251); (case side6 => exact (Kd.R_reads' HO1251.out).2.1); rintro e w22 ⟨rfl, hb⟩; refine ⟨_, rfl, ?_⟩; replace HO1243 := mk (Kd.R_below (kq17 HO1243) hb); replace HO1246 := mk (Kd.R_below (kq17 HO1246) hb); replace HO1251 := mk (Kd.R_below (kq17 HO1251) hb); replace BK1239 := (bb_ BK1239 hb); replace HB := mk (below_step (kq10 GE1239) hb)) | ((with_reducible refine gate_callee (f := 47) rfl ?_); refine goesL_ (some 57) rfl rfl Try.func47 kq0 rfl #[.slice Ao18 t1244.length co18, .slice Ao21 t1249.length co21, .int .i64 t1247] rfl kq7 ?_; (with_reducible refine (tabardlaw09_worked.calls k _ _ t1244 _ _ t1249 t1247 t1254 true _ ?side1 ?side2 ?side3 ?side4 A10.out).mono ?_); (case side1 => exact kq93 HO1246); (case side2 => exact (Kd.R_reads' HO1246.out).2.1); (case side3 => exact kq93 HO1251); (case side4 => exact (Kd.R_reads' HO1251.out).2.1); rintro e w' ⟨rfl, ⟨nd, rfl⟩⟩; refine ⟨_, rfl, ?_⟩))); go_ret; (exact ⟨kq13, (kq10 GE1239)⟩)
          · (replace c12 := Bool.eq_false_iff.mpr c12); subst c12; (have H1 : (some true) = some r := by rw [if_neg (show ¬ (false = true) by decide)] at H; exact H); clear H; (have H := H1); clear H1; (obtain rfl := Option.some.inj H); (go_enter Try.func14, Try.ntmps14); (go_wp2_with (first | ((with_reducible refine gate_dst (N := 2) rfl ?_); (try (refine gate_guard (by rfl) ?_; dsimp only)); refine box_event ?hg (N := 2) ?hd (cs := #[.int .i64 a0_0, .int .i64 a0_1, .string a0_2, .slice A0_3 l0_3.length c0_3]) (t := 66) ?hr ?_; (case hd => rfl); (case hg => rfl); (case hr => exact kq11); intro gb1239 hg w23 hbox hb; have BK1239 := mk (hbox); have GW1239 := (gs_ hg kq9); have GE1239 := GW1239; replace HB := mk (below_step kq9 hb); clear hb hbox hg) | ((with_reducible refine gate_callee (f := 43) rfl ?_); refine goesL_ (some 14) rfl rfl Try.func43 kq0 rfl #[] rfl kq7 ?_; (with_reducible refine (tabardlaw09_fixed.calls k  true _ A3.out).mono ?_); rintro e w24 ⟨rfl, hb⟩; refine ⟨_, rfl, ?_⟩; replace BK1239 := (bb_ BK1239 hb); replace HB := mk (below_step (kq10 GE1239) hb); obtain ⟨_, _, _, _, _, _, _, _⟩ := cz4_ BK1239.out) | ((with_reducible refine gate_callee (f := 49) rfl ?_); refine goesL_ (some 18) rfl rfl Try.func49 kq0 rfl #[.agg #[.int .i64 a0_0, .int .i64 a0_1, .string a0_2, .slice A0_3 l0_3.length c0_3]] rfl kq7 ?_; (with_reducible refine (norm_Linear.calls k a0_0 a0_1 a0_2 _ _ l0_3 t1241 t1244 t1247 t1248 _ ?side1 ?side2 A5.out).mono ?_); (case side1 => exact kq14 HR0_3); (case side2 => exact HC0_3.out); rintro e w26 ⟨v1242, v1245, rfl, ho0, ho1, hb⟩; refine ⟨_, rfl, ?_⟩; have HO1243 := mk (Kd.R_lower ho0 (below_size (kq10 GE1239))); have HO1246 := mk (Kd.R_lower ho1 (below_size (kq10 GE1239))); replace BK1239 := (bb_ BK1239 hb); replace HB := mk (below_step (kq10 GE1239) hb); obtain ⟨Ao27, co27, eo27⟩ := Kd.R_slice HO1243.out; subst eo27; obtain ⟨Ao28, co28, eo28⟩ := Kd.R_slice HO1246.out; subst eo28) | ((with_reducible refine gate_callee (f := 45) rfl ?_); refine goesL_ (some 45) rfl rfl Try.func45 kq0 rfl #[.slice A1 l1.length c1, .int .i64 (t1241.length : Int)] rfl kq7 ?_; (with_reducible refine (tabardlaw09_small.calls k _ _ l1 (t1241.length : Int) t1249 _ ?side1 ?side2 A8.out).mono ?_); (case side1 => exact kq14 HR1); (case side2 => exact HC1.out); rintro e w29 ⟨v1250, rfl, ho0, hb⟩; refine ⟨_, rfl, ?_⟩; have HO1251 := mk (Kd.R_lower (Kd.R_new' ho0 (Kd.R_lt (kq17 HO1246))) (below_size (kq10 GE1239))); replace HO1243 := mk (Kd.R_below (kq17 HO1243) hb); replace HO1246 := mk (Kd.R_elder' (kq17 HO1246) (Kd.R_base ho0) hb); replace BK1239 := (bb_ BK1239 hb); replace HB := mk (below_step (kq10 GE1239) hb); obtain ⟨_, _, _, _, _, _, _, _⟩ := cz4_ BK1239.out; obtain ⟨Ao31, co31, eo31⟩ := Kd.R_slice HO1251.out; subst eo31) | ((with_reducible refine gate_callee (f := 46) rfl ?_); refine goesL_ (some 50) rfl rfl Try.func46 kq0 rfl #[.agg #[.int .i64 a0_0, .int .i64 a0_1, .string a0_2, .slice A0_3 l0_3.length c0_3], .slice Ao27 t1241.length co27, .slice Ao31 t1249.length co31] rfl kq7 ?_; (with_reducible refine (tabardlaw09_value.calls k a0_0 a0_1 a0_2 _ _ l0_3 _ _ t1241 _ _ t1249 t1252 true _ ?side1 ?side2 ?side3 ?side4 ?side5 ?side6 A9.out).mono ?_); (case side1 => exact kq14 HR0_3); (case side2 => exact HC0_3.out); (case side3 => exact kq93 HO1243); (case side4 => exact (Kd.R_reads' HO1243.out).2.1); (case side5 => exact kq93 HO1251); (case side6 => exact (Kd.R_reads' HO1251.out).2.1); rintro e w32 ⟨rfl, hb⟩; refine ⟨_, rfl, ?_⟩; replace HO1243 := mk (Kd.R_below (kq17 HO1243) hb); replace HO1246 := mk (Kd.R_below (kq17 HO1246) hb); replace HO1251 := mk (Kd.R_below (kq17 HO1251) hb); replace BK1239 := (bb_ BK1239 hb); replace HB := mk (below_step (kq10 GE1239) hb)) | ((with_reducible refine gate_callee (f := 47) rfl ?_); refine goesL_ (some 57) rfl rfl Try.func47 kq0 rfl #[.slice Ao28 t1244.length co28, .slice Ao31 t1249.length co31, .int .i64 t1247] rfl kq7 ?_; (with_reducible refine (tabardlaw09_worked.calls k _ _ t1244 _ _ t1249 t1247 t1254 false _ ?side1 ?side2 ?side3 ?side4 A10.out).mono ?_); (case side1 => exact kq93 HO1246); (case side2 => exact (Kd.R_reads' HO1246.out).2.1); (case side3 => exact kq93 HO1251); (case side4 => exact (Kd.R_reads' HO1251.out).2.1); rintro e w' ⟨rfl, ⟨nd, rfl⟩⟩; refine ⟨_, rfl, ?_⟩))); go_ret; (exact ⟨kq13, (kq10 GE1239)⟩)
        · (replace c11 := Bool.eq_false_iff.mpr c11); subst c11; (have H1 : (some true) = some r := by rw [if_neg (show ¬ (false = true) by decide)] at H; exact H); clear H; (have H := H1); clear H1; (obtain rfl := Option.some.inj H); (go_enter Try.func14, Try.ntmps14); (go_wp2_with (first | ((with_reducible refine gate_dst (N := 2) rfl ?_); (try (refine gate_guard (by rfl) ?_; dsimp only)); refine box_event ?hg (N := 2) ?hd (cs := #[.int .i64 a0_0, .int .i64 a0_1, .string a0_2, .slice A0_3 l0_3.length c0_3]) (t := 66) ?hr ?_; (case hd => rfl); (case hg => rfl); (case hr => exact kq11); intro gb1239 hg w33 hbox hb; have BK1239 := mk (hbox); have GW1239 := (gs_ hg kq9); have GE1239 := GW1239; replace HB := mk (below_step kq9 hb); clear hb hbox hg) | ((with_reducible refine gate_callee (f := 43) rfl ?_); refine goesL_ (some 14) rfl rfl Try.func43 kq0 rfl #[] rfl kq7 ?_; (with_reducible refine (tabardlaw09_fixed.calls k  true _ A3.out).mono ?_); rintro e w34 ⟨rfl, hb⟩; refine ⟨_, rfl, ?_⟩; replace BK1239 := (bb_ BK1239 hb); replace HB := mk (below_step (kq10 GE1239) hb); obtain ⟨_, _, _, _, _, _, _, _⟩ := cz4_ BK1239.out) | ((with_reducible refine gate_callee (f := 49) rfl ?_); refine goesL_ (some 18) rfl rfl Try.func49 kq0 rfl #[.agg #[.int .i64 a0_0, .int .i64 a0_1, .string a0_2, .slice A0_3 l0_3.length c0_3]] rfl kq7 ?_; (with_reducible refine (norm_Linear.calls k a0_0 a0_1 a0_2 _ _ l0_3 t1241 t1244 t1247 t1248 _ ?side1 ?side2 A5.out).mono ?_); (case side1 => exact kq14 HR0_3); (case side2 => exact HC0_3.out); rintro e w36 ⟨v1242, v1245, rfl, ho0, ho1, hb⟩; refine ⟨_, rfl, ?_⟩; have HO1243 := mk (Kd.R_lower ho0 (below_size (kq10 GE1239))); have HO1246 := mk (Kd.R_lower ho1 (below_size (kq10 GE1239))); replace BK1239 := (bb_ BK1239 hb); replace HB := mk (below_step (kq10 GE1239) hb); obtain ⟨Ao37, co37, eo37⟩ := Kd.R_slice HO1243.out; subst eo37; obtain ⟨Ao38, co38, eo38⟩ := Kd.R_slice HO1246.out; subst eo38) | ((with_reducible refine gate_callee (f := 45) rfl ?_); refine goesL_ (some 45) rfl rfl Try.func45 kq0 rfl #[.slice A1 l1.length c1, .int .i64 (t1241.length : Int)] rfl kq7 ?_; (with_reducible refine (tabardlaw09_small.calls k _ _ l1 (t1241.length : Int) t1249 _ ?side1 ?side2 A8.out).mono ?_); (case side1 => exact kq14 HR1); (case side2 => exact HC1.out); rintro e w39 ⟨v1250, rfl, ho0, hb⟩; refine ⟨_, rfl, ?_⟩; have HO1251 := mk (Kd.R_lower (Kd.R_new' ho0 (Kd.R_lt (kq17 HO1246))) (below_size (kq10 GE1239))); replace HO1243 := mk (Kd.R_below (kq17 HO1243) hb); replace HO1246 := mk (Kd.R_elder' (kq17 HO1246) (Kd.R_base ho0) hb); replace BK1239 := (bb_ BK1239 hb); replace HB := mk (below_step (kq10 GE1239) hb); obtain ⟨_, _, _, _, _, _, _, _⟩ := cz4_ BK1239.out; obtain ⟨Ao41, co41, eo41⟩ := Kd.R_slice HO1251.out; subst eo41) | ((with_reducible refine gate_callee (f := 46) rfl ?_); refine goesL_ (some 50) rfl rfl Try.func46 kq0 rfl #[.agg #[.int .i64 a0_0, .int .i64 a0_1, .string a0_2, .slice A0_3 l0_3.length c0_3], .slice Ao37 t1241.length co37, .slice Ao41 t1249.length co41] rfl kq7 ?_; (with_reducible refine (tabardlaw09_value.calls k a0_0 a0_1 a0_2 _ _ l0_3 _ _ t1241 _ _ t1249 t1252 false _ ?side1 ?side2 ?side3 ?side4 ?side5 ?side6 A9.out).mono ?_); (case side1 => exact kq14 HR0_3); (case side2 => exact HC0_3.out); (case side3 => exact kq93 HO1243); (case side4 => exact (Kd.R_reads' HO1243.out).2.1); (case side5 => exact kq93 HO1251); (case side6 => exact (Kd.R_reads' HO1251.out).2.1); rintro e w42 ⟨rfl, hb⟩; refine ⟨_, rfl, ?_⟩; replace HO1243 := mk (Kd.R_below (kq17 HO1243) hb); replace HO1246 := mk (Kd.R_below (kq17 HO1246) hb); replace HO1251 := mk (Kd.R_below (kq17 HO1251) hb); replace BK1239 := (bb_ BK1239 hb); replace HB := mk (below_step (kq10 GE1239) hb)) | ((with_reducible refine gate_callee (f := 47) rfl ?_); refine goesL_ (some 57) rfl rfl Try.func47 kq0 rfl #[.slice Ao38 t1244.length co38, .slice Ao41 t1249.length co41, .int .i64 t1247] rfl kq7 ?_; (with_reducible refine (tabardlaw09_worked.calls k _ _ t1244 _ _ t1249 t1247 t1254 t1255 _ ?side1 ?side2 ?side3 ?side4 A10.out).mono ?_); (case side1 => exact kq93 HO1246); (case side2 => exact (Kd.R_reads' HO1246.out).2.1); (case side3 => exact kq93 HO1251); (case side4 => exact (Kd.R_reads' HO1251.out).2.1); rintro e w' ⟨rfl, ⟨nd, rfl⟩⟩; refine ⟨_, rfl, ?_⟩))); go_ret; (exact ⟨kq13, (kq10 GE1239)⟩)
      · (obtain ⟨c7b0, c7b1⟩ := eFn_ c7); (have c7b2 : (t1241.length == t1244.length) = false := by first | simpa using c7 | (simp at c7 ⊢; omega)); (obtain rfl := Option.some.inj H); (go_enter Try.func14, Try.ntmps14); (go_wp2_with (first | ((with_reducible refine gate_dst (N := 2) rfl ?_); (try (refine gate_guard (by rfl) ?_; dsimp only)); refine box_event ?hg (N := 2) ?hd (cs := #[.int .i64 a0_0, .int .i64 a0_1, .string a0_2, .slice A0_3 l0_3.length c0_3]) (t := 66) ?hr ?_; (case hd => rfl); (case hg => rfl); (case hr => exact kq11); intro gb1239 hg w43 hbox hb; have BK1239 := mk (hbox); have GW1239 := (gs_ hg kq9); have GE1239 := GW1239; replace HB := mk (below_step kq9 hb); clear hb hbox hg) | ((with_reducible refine gate_callee (f := 43) rfl ?_); refine goesL_ (some 14) rfl rfl Try.func43 kq0 rfl #[] rfl kq7 ?_; (with_reducible refine (tabardlaw09_fixed.calls k  true _ A3.out).mono ?_); rintro e w44 ⟨rfl, hb⟩; refine ⟨_, rfl, ?_⟩; replace BK1239 := (bb_ BK1239 hb); replace HB := mk (below_step (kq10 GE1239) hb); obtain ⟨_, _, _, _, _, _, _, _⟩ := cz4_ BK1239.out) | ((with_reducible refine gate_callee (f := 49) rfl ?_); refine goesL_ (some 18) rfl rfl Try.func49 kq0 rfl #[.agg #[.int .i64 a0_0, .int .i64 a0_1, .string a0_2, .slice A0_3 l0_3.length c0_3]] rfl kq7 ?_; (with_reducible refine (norm_Linear.calls k a0_0 a0_1 a0_2 _ _ l0_3 t1241 t1244 t1247 t1248 _ ?side1 ?side2 A5.out).mono ?_); (case side1 => exact kq14 HR0_3); (case side2 => exact HC0_3.out); rintro e w46 ⟨v1242, v1245, rfl, ho0, ho1, hb⟩; refine ⟨_, rfl, ?_⟩; have HO1243 := mk (Kd.R_lower ho0 (below_size (kq10 GE1239))); have HO1246 := mk (Kd.R_lower ho1 (below_size (kq10 GE1239))); replace BK1239 := (bb_ BK1239 hb); replace HB := mk (below_step (kq10 GE1239) hb); obtain ⟨Ao47, co47, eo47⟩ := Kd.R_slice HO1243.out; subst eo47; obtain ⟨Ao48, co48, eo48⟩ := Kd.R_slice HO1246.out; subst eo48))); go_ret; (exact ⟨kq13, (kq10 GE1239)⟩)
    · (obtain ⟨c6b0, c6b1⟩ := eFn_ c6); replace H := ic_ H; obtain ⟨c49, H⟩ | ⟨c49, H⟩ := H
      · (obtain ⟨c49b0, c49b1⟩ := eTn_ c49); clear c49; replace H := ic_ H; obtain ⟨c50, H⟩ | ⟨c50, H⟩ := H
        · (obtain ⟨c50b0, c50b1⟩ := eTn_ c50); clear c50; (obtain rfl := Option.some.inj H); (go_enter Try.func14, Try.ntmps14); (go_wp2_with (first | ((with_reducible refine gate_dst (N := 2) rfl ?_); (try (refine gate_guard (by rfl) ?_; dsimp only)); refine box_event ?hg (N := 2) ?hd (cs := #[.int .i64 a0_0, .int .i64 a0_1, .string a0_2, .slice A0_3 l0_3.length c0_3]) (t := 66) ?hr ?_; (case hd => rfl); (case hg => rfl); (case hr => exact kq11); intro gb1239 hg w51 hbox hb; have BK1239 := mk (hbox); have GW1239 := (gs_ hg kq9); have GE1239 := GW1239; replace HB := mk (below_step kq9 hb); clear hb hbox hg) | ((with_reducible refine gate_callee (f := 43) rfl ?_); refine goesL_ (some 14) rfl rfl Try.func43 kq0 rfl #[] rfl kq7 ?_; (with_reducible refine (tabardlaw09_fixed.calls k  true _ A3.out).mono ?_); rintro e w52 ⟨rfl, hb⟩; refine ⟨_, rfl, ?_⟩; replace BK1239 := (bb_ BK1239 hb); replace HB := mk (below_step (kq10 GE1239) hb); obtain ⟨_, _, _, _, _, _, _, _⟩ := cz4_ BK1239.out) | ((with_reducible refine gate_callee (f := 49) rfl ?_); refine goesL_ (some 18) rfl rfl Try.func49 kq0 rfl #[.agg #[.int .i64 a0_0, .int .i64 a0_1, .string a0_2, .slice A0_3 l0_3.length c0_3]] rfl kq7 ?_; (with_reducible refine (norm_Linear.calls k a0_0 a0_1 a0_2 _ _ l0_3 t1241 t1244 t1247 t1248 _ ?side1 ?side2 A5.out).mono ?_); (case side1 => exact kq14 HR0_3); (case side2 => exact HC0_3.out); rintro e w54 ⟨v1242, v1245, rfl, ho0, ho1, hb⟩; refine ⟨_, rfl, ?_⟩; have HO1243 := mk (Kd.R_lower ho0 (below_size (kq10 GE1239))); have HO1246 := mk (Kd.R_lower ho1 (below_size (kq10 GE1239))); replace BK1239 := (bb_ BK1239 hb); replace HB := mk (below_step (kq10 GE1239) hb); obtain ⟨Ao55, co55, eo55⟩ := Kd.R_slice HO1243.out; subst eo55; obtain ⟨Ao56, co56, eo56⟩ := Kd.R_slice HO1246.out; subst eo56))); go_ret; (exact ⟨kq13, (kq10 GE1239)⟩)
        · (obtain ⟨c50b0, c50b1⟩ := eFn_ c50); (have c50b2 : ¬ (t1244 = []) := fun h_ => c50 (by rw [h_]; rfl)); (obtain rfl := Option.some.inj H); (go_enter Try.func14, Try.ntmps14); (go_wp2_with (first | ((with_reducible refine gate_dst (N := 2) rfl ?_); (try (refine gate_guard (by rfl) ?_; dsimp only)); refine box_event ?hg (N := 2) ?hd (cs := #[.int .i64 a0_0, .int .i64 a0_1, .string a0_2, .slice A0_3 l0_3.length c0_3]) (t := 66) ?hr ?_; (case hd => rfl); (case hg => rfl); (case hr => exact kq11); intro gb1239 hg w57 hbox hb; have BK1239 := mk (hbox); have GW1239 := (gs_ hg kq9); have GE1239 := GW1239; replace HB := mk (below_step kq9 hb); clear hb hbox hg) | ((with_reducible refine gate_callee (f := 43) rfl ?_); refine goesL_ (some 14) rfl rfl Try.func43 kq0 rfl #[] rfl kq7 ?_; (with_reducible refine (tabardlaw09_fixed.calls k  true _ A3.out).mono ?_); rintro e w58 ⟨rfl, hb⟩; refine ⟨_, rfl, ?_⟩; replace BK1239 := (bb_ BK1239 hb); replace HB := mk (below_step (kq10 GE1239) hb); obtain ⟨_, _, _, _, _, _, _, _⟩ := cz4_ BK1239.out) | ((with_reducible refine gate_callee (f := 49) rfl ?_); refine goesL_ (some 18) rfl rfl Try.func49 kq0 rfl #[.agg #[.int .i64 a0_0, .int .i64 a0_1, .string a0_2, .slice A0_3 l0_3.length c0_3]] rfl kq7 ?_; (with_reducible refine (norm_Linear.calls k a0_0 a0_1 a0_2 _ _ l0_3 t1241 t1244 t1247 t1248 _ ?side1 ?side2 A5.out).mono ?_); (case side1 => exact kq14 HR0_3); (case side2 => exact HC0_3.out); rintro e w60 ⟨v1242, v1245, rfl, ho0, ho1, hb⟩; refine ⟨_, rfl, ?_⟩; have HO1243 := mk (Kd.R_lower ho0 (below_size (kq10 GE1239))); have HO1246 := mk (Kd.R_lower ho1 (below_size (kq10 GE1239))); replace BK1239 := (bb_ BK1239 hb); replace HB := mk (below_step (kq10 GE1239) hb); obtain ⟨Ao61, co61, eo61⟩ := Kd.R_slice HO1243.out; subst eo61; obtain ⟨Ao62, co62, eo62⟩ := Kd.R_slice HO1246.out; subst eo62))); go_ret; (exact ⟨kq13, (kq10 GE1239)⟩)
      · (obtain ⟨c49b0, c49b1⟩ := eFn_ c49); (have c49b2 : ¬ (t1241 = []) := fun h_ => c49 (by rw [h_]; rfl)); (obtain rfl := Option.some.inj H); (go_enter Try.func14, Try.ntmps14); (go_wp2_with (first | ((with_reducible refine gate_dst (N := 2) rfl ?_); (try (refine gate_guard (by rfl) ?_; dsimp only)); refine box_event ?hg (N := 2) ?hd (cs := #[.int .i64 a0_0, .int .i64 a0_1, .string a0_2, .slice A0_3 l0_3.length c0_3]) (t := 66) ?hr ?_; (case hd => rfl); (case hg => rfl); (case hr => exact kq11); intro gb1239 hg w63 hbox hb; have BK1239 := mk (hbox); have GW1239 := (gs_ hg kq9); have GE1239 := GW1239; replace HB := mk (below_step kq9 hb); clear hb hbox hg) | ((with_reducible refine gate_callee (f := 43) rfl ?_); refine goesL_ (some 14) rfl rfl Try.func43 kq0 rfl #[] rfl kq7 ?_; (with_reducible refine (tabardlaw09_fixed.calls k  true _ A3.out).mono ?_); rintro e w64 ⟨rfl, hb⟩; refine ⟨_, rfl, ?_⟩; replace BK1239 := (bb_ BK1239 hb); replace HB := mk (below_step (kq10 GE1239) hb); obtain ⟨_, _, _, _, _, _, _, _⟩ := cz4_ BK1239.out) | ((with_reducible refine gate_callee (f := 49) rfl ?_); refine goesL_ (some 18) rfl rfl Try.func49 kq0 rfl #[.agg #[.int .i64 a0_0, .int .i64 a0_1, .string a0_2, .slice A0_3 l0_3.length c0_3]] rfl kq7 ?_; (with_reducible refine (norm_Linear.calls k a0_0 a0_1 a0_2 _ _ l0_3 t1241 t1244 t1247 t1248 _ ?side1 ?side2 A5.out).mono ?_); (case side1 => exact kq14 HR0_3); (case side2 => exact HC0_3.out); rintro e w66 ⟨v1242, v1245, rfl, ho0, ho1, hb⟩; refine ⟨_, rfl, ?_⟩; have HO1243 := mk (Kd.R_lower ho0 (below_size (kq10 GE1239))); have HO1246 := mk (Kd.R_lower ho1 (below_size (kq10 GE1239))); replace BK1239 := (bb_ BK1239 hb); replace HB := mk (below_step (kq10 GE1239) hb); obtain ⟨Ao67, co67, eo67⟩ := Kd.R_slice HO1243.out; subst eo67))); go_ret; (exact ⟨kq13, (kq10 GE1239)⟩)
  · replace c4 := Bool.eq_false_iff.mpr c4
    subst c4
    have H1 : (some false) = some r := by rw [if_neg (show ¬ (false = true) by decide)] at H; exact H
    clear H
    have H := H1
    clear H1
    obtain rfl := Option.some.inj H
    go_enter Try.func14, Try.ntmps14
    go_wp2_with (first | ((with_reducible refine gate_dst (N := 2) rfl ?_); (try (refine gate_guard (by rfl) ?_; dsimp only)); refine box_event ?hg (N := 2) ?hd (cs := #[.int .i64 a0_0, .int .i64 a0_1, .string a0_2, .slice A0_3 l0_3.length c0_3]) (t := 66) ?hr ?_; (case hd => rfl); (case hg => rfl); (case hr => exact kq11); intro gb1239 hg w68 hbox hb; have BK1239 := mk (hbox); have GW1239 := (gs_ hg kq9); have GE1239 := GW1239; replace HB := mk (below_step kq9 hb); clear hb hbox hg) | ((with_reducible refine gate_callee (f := 43) rfl ?_); refine goesL_ (some 14) rfl rfl Try.func43 kq0 rfl #[] rfl kq7 ?_; (with_reducible refine (tabardlaw09_fixed.calls k  false _ A3.out).mono ?_); rintro e w69 ⟨rfl, hb⟩; refine ⟨_, rfl, ?_⟩; replace BK1239 := (bb_ BK1239 hb); replace HB := mk (below_step (kq10 GE1239) hb)))
    go_ret
    exact ⟨kq13, (kq10 GE1239)⟩
end Go.Proofs.Ytjknpmibdkoklaa.Q
set_option maxRecDepth 100000
namespace Go.Proofs.Ytjknpmibdkoklaa.Q
open Go.RowKit Go.Proofs.YtjknpmibdkoklaaW.PrintWords Go.Proofs.YtjknpmibdkoklaaW.PrintLast Go.Proofs.YtjknpmibdkoklaaW.PrintMore
theorem NormValues_ev {t : S66} (hf : FitT t) {l : List Int} (_ : l.length * 8 ≤ 140737488351232) (_ : ∀ x ∈ l, fitI x) : Ev (fun k => tabardlaw09_NormValues.f k t.f0 t.f1 t.f2 t.f3 l) true := by
  unfold tabardlaw09_NormValues.f
  refine Ev.bind fixed9_ev (Ev.congr (fun k => if_pos rfl) (Ev.bind (linear_ev hf) ?_))
  by_cases h0 : (linA t).2.2.2 = 0
  · refine Ev.congr (fun k => if_pos h0) ?_
    have hm : (measT t 1 (0, 0, 0)).2.2 = 0 := by
      unfold linA at h0
      by_cases h : (measT t 1 (0, 0, 0)).2.2 = 0
      · exact h
      · rw [if_neg h] at h0
        exact absurd h0 h
    have hL : linA t = sumT t := by unfold linA; rw [if_pos hm]
    rw [hL] at h0 ⊢
    obtain ⟨hr, _, hc⟩ := measT_right t 1 (0, 0, 0) kq2 kq2 hm
    have hc5 : cntT t ≤ 500 := by simp at hc; omega
    have w := sumT_wf 500 t hr hf hc5
    have hfew := w.few
    have hlen := w.len
    refine Ev.congr (fun k => if_pos kq1) ?_
    obtain ⟨at_, ea, la, sa⟩ := small_ev l (sumT t).1.length kq1
    obtain ⟨v, b, ev, hv⟩ := value_ev (sumT t).1 at_ kq1 la.symm sa 500 t hr hf hc5 kq2
    obtain ⟨z, c, ez, hz⟩ := worked9_ev (sumT t).2.1 at_ kq1 kq1 sa (sumT t).2.2.1
    refine Ev.bind ea (Ev.bind ev (Ev.bind ez ?_))
    cases b with
    | false => exact Ev.congr (fun k => if_neg (show ¬ false = true by decide)) (Ev.now _)
    | true =>
      refine Ev.congr (fun k => if_pos rfl) ?_
      cases c with
      | false => exact Ev.congr (fun k => if_neg (show ¬ false = true by decide)) (Ev.now _)
      | true =>
        refine Ev.congr (fun k => if_pos rfl) ?_
        have e1 := (hv rfl).1
        have e2 := (hz rfl).1
        have e3 := eval_sumT (fun s => lookF (sumT t).1 at_ s 0) 500 t hr hf hc5 h0
        unfold evalS at e3
        rw [dot_look (sumT t).1 (sumT t).2.1 at_ _ hlen la.symm (rise_nodup w.rise) (fun s _ => rfl)] at e3
        have : (z == v) = true := by rw [e1, e2, e3]; exact beq_self_eq_true _
        show Ev (fun _ => some (z == v)) true
        rw [this]
        exact Ev.now _
  · refine Ev.congr (fun k => if_neg h0) ?_
    have hL : linA t = ([], [], 0, (linA t).2.2.2) := by
      unfold linA at h0 ⊢
      by_cases h : (measT t 1 (0, 0, 0)).2.2 = 0
      · rw [if_pos h] at h0 ⊢
        obtain ⟨hr, _, hc⟩ := measT_right t 1 (0, 0, 0) kq2 kq2 h
        obtain ⟨s, es, ns, _⟩ := worked_ev 500 t hr hf (by simp at hc; omega) kq2
        rw [← ns] at h0 ⊢
        rw [nrm_err] at h0 ⊢
        unfold nrm
        rw [if_neg h0]
      · rw [if_neg h]
    rw [hL]
    exact Ev.congr (fun k => (if_pos rfl).trans (if_pos rfl)) (Ev.now _)
end Go.Proofs.Ytjknpmibdkoklaa.Q
set_option maxRecDepth 100000
namespace Go.Proofs.Ytjknpmibdkoklaa.Q
open Go.ChangeShapes Go.WideShapes Go.RowKit Go.Proofs.YtjknpmibdkoklaaW.PrintWords Go.Proofs.YtjknpmibdkoklaaW.PrintLast Go.Proofs.YtjknpmibdkoklaaW.PrintMore
section
variable {H : Type} {enc : TypeId × Value → H} {W : World} {base : Nat} {spare : Nat → Bool} {held : Bool}
theorem ints_arg {fuel : Nat} {cs : List Value} {x : DataW H × List MemPlace} (h : DataW.trod enc Try.prog W base spare held fuel 55 cs = some x) (hw : ∀ m ∈ x.1.weights Try.prog 55, m ≤ reachBytes) :
    ∃ A l c, cs = [.slice A l.length c] ∧ l.length ≤ c ∧ Kd.C (Kd.int .i64) W A l.length l ∧ l.length * 8 ≤ 140737488351232 ∧ ∀ p ∈ l, fitI p :=
  row_arg (Kd.int .i64) fitI 8 Try.underlying55 kq0 kq0 (fun m _ cs x h _ => by
    obtain ⟨a, rfl, ha⟩ := int_arg Try.underlying2 h
    exact ⟨a, rfl, rfl, ha⟩) h hw
theorem open_ints {v : Value} {d : DataW H} {ps : List MemPlace} {r : Reach} {b0 : Nat} (hv : Value.okWide Try.prog W r b0 55 v) (h : DataW.Trod enc Try.prog W base spare held 55 v d ps) (hw : ∀ m ∈ d.weights Try.prog 55, m ≤ reachBytes) :
    ∃ (A : Option Addr) (l : List Int) (c : Nat), v = .slice A l.length c ∧ l.length ≤ c ∧ Kd.C (Kd.int .i64) W A l.length l ∧ l.length * 8 ≤ 140737488351232 ∧ ∀ p ∈ l, fitI p := by
  obtain ⟨fuel, hf⟩ := h
  obtain ⟨A, l, c, he, h1, h2, h3, h4⟩ := ints_arg hf hw
  obtain ⟨A', n', c', rfl⟩ := okWide_slice Try.underlying55 hv
  have e : (Value.slice A' n' c') = .slice A l.length c := by simpa [Value.cells] using he
  exact ⟨A, l, c, e, h1, h2, h3, h4⟩
end
end Go.Proofs.Ytjknpmibdkoklaa.Q
namespace Go.Proofs.Ytjknpmibdkoklaa.Q
open Go.RowKit Go.Proofs.YtjknpmibdkoklaaW.PrintWords Go.Proofs.YtjknpmibdkoklaaW.PrintLast Go.Proofs.YtjknpmibdkoklaaW.PrintMore
open Aside0 (mk)
open List (setIfInBounds_toArray set_cons_zero set_cons_succ)
attribute [local go_sem] max2_int min2_int max_two min_two max_three min_three max_four min_four
set_option linter.unusedVariables false
set_option linter.unusedSimpArgs false
attribute [local go_sem] fld99_2 fld103_2 fld160_0 fld160_1
end Go.Proofs.Ytjknpmibdkoklaa.Q
namespace Go.Proofs.Ytjknpmibdkoklaa.Q
open Go.RowKit Go.Proofs.YtjknpmibdkoklaaW.PrintWords Go.Proofs.YtjknpmibdkoklaaW.PrintLast Go.Proofs.YtjknpmibdkoklaaW.PrintMore
open Aside0 (mk)
open List (setIfInBounds_toArray set_cons_zero set_cons_succ)
attribute [local go_sem] max2_int min2_int max_two min_two max_three min_three max_four min_four
set_option linter.unusedVariables false
set_option linter.unusedSimpArgs false
attribute [local go_sem] fld99_2 fld103_2 fld160_0 fld160_1
end Go.Proofs.Ytjknpmibdkoklaa.Q
namespace Go.Proofs.Ytjknpmibdkoklaa.Q
open Go.RowKit Go.Proofs.YtjknpmibdkoklaaW.PrintWords Go.Proofs.YtjknpmibdkoklaaW.PrintLast Go.Proofs.YtjknpmibdkoklaaW.PrintMore
open Aside0 (mk)
open List (setIfInBounds_toArray set_cons_zero set_cons_succ)
attribute [local go_sem] max2_int min2_int max_two min_two max_three min_three max_four min_four
set_option linter.unusedVariables false
set_option linter.unusedSimpArgs false
attribute [local go_sem] fld99_2 fld103_2 fld160_0 fld160_1
end Go.Proofs.Ytjknpmibdkoklaa.Q
namespace Go.Proofs.Ytjknpmibdkoklaa.Q
open Go.RowKit Go.Proofs.YtjknpmibdkoklaaW.PrintWords Go.Proofs.YtjknpmibdkoklaaW.PrintLast Go.Proofs.YtjknpmibdkoklaaW.PrintMore
open Aside0 (mk)
open List (setIfInBounds_toArray set_cons_zero set_cons_succ)
attribute [local go_sem] max2_int min2_int max_two min_two max_three min_three max_four min_four
set_option linter.unusedVariables false
set_option linter.unusedSimpArgs false
attribute [local go_sem] fld99_2 fld103_2 fld160_0 fld160_1
end Go.Proofs.Ytjknpmibdkoklaa.Q
set_option maxRecDepth 100000
namespace Go.Proofs.Ytjknpmibdkoklaa.Q
open Go.RowKit Go.Proofs.YtjknpmibdkoklaaW.PrintWords Go.Proofs.YtjknpmibdkoklaaW.PrintLast Go.Proofs.YtjknpmibdkoklaaW.PrintMore
theorem eta39 (t : S39) : (⟨t.f0, t.f1, t.f2, t.f3, t.f4⟩ : S39) = t := by cases t; rfl
end Go.Proofs.Ytjknpmibdkoklaa.Q
set_option maxRecDepth 100000
namespace Go.Proofs.Ytjknpmibdkoklaa.Q
open Go.RowKit Go.Proofs.YtjknpmibdkoklaaW.PrintWords Go.Proofs.YtjknpmibdkoklaaW.PrintLast Go.Proofs.YtjknpmibdkoklaaW.PrintMore
abbrev Nm := Int × List ByteArray × List Int × Int × Int × Int
def errN (e : Int) : Nm := (0, [], [], 0, 0, e)
abbrev subS (a b : Sm) : Sm := bothS (fun x y => x - y) a b
def bndS (op md k : Int) : Int := if op = 15 then (-k) % md else if op = 10 ∨ op = 12 then -k - 1 else -k
def cofS (op md : Int) (cs : List Int) : List Int := if op = 15 then cs.map (fun c => c % md) else cs
def okS (op md : Int) (s : Sm) : Bool := in64B (-s.2.2.1) && ((if op = 10 ∨ op = 12 then in64B (-s.2.2.1 - 1) else true) && in64B (total ([bndS op md s.2.2.1] ++ cofS op md s.2.1)))
def lastA (op md : Int) (s : Sm) : Nm := if s.2.2.2 ≠ 0 then errN s.2.2.2 else if okS op md s = true then (atomK op, s.1, cofS op md s.2.1, bndS op md s.2.2.1, md, 0) else errN 91
def atomS (op md : Int) (a b : Sm) : Nm := if a.2.2.2 ≠ 0 then errN a.2.2.2 else if b.2.2.2 ≠ 0 then errN b.2.2.2 else lastA op md (if op = 11 ∨ op = 12 then subS b a else subS a b)
def atomA (t : S39) : Nm :=
  if (measF t 1 (0, 0, 0)).2.2 ≠ 0 then errN (measF t 1 (0, 0, 0)).2.2 else if t.f0 < 9 then errN 3 else atomS t.f0 t.f2 (sumT (rd_T66 t.f3 0)) (sumT (rd_T66 t.f3 1))
theorem FitF.mod {t : S39} (h : FitF t) : In64 t.f2 := by cases h with | mk h0 h1 h2 h3 h4 hT h => exact h2
theorem FitF.terms {t : S39} (h : FitF t) : ∀ u ∈ t.f3, FitT u := by cases h with | mk h0 h1 h2 h3 h4 hT h => exact hT
theorem atom_parts {t : S39} (hf : FitF t) (hm : (measF t 1 (0, 0, 0)).2.2 = 0) (h9 : ¬ t.f0 < 9) :
    t.f0 ≤ 15 ∧ (if t.f0 = 15 then 1 ≤ t.f2 else t.f2 = 0) ∧ ∃ u v, t.f3 = [u, v] ∧ RightT u ∧ RightT v ∧ FitT u ∧ FitT v ∧ cntT u + cntT v ≤ 500 := by
  obtain ⟨hr, _, hc⟩ := measF_right t 1 (0, 0, 0) kq2 kq2 hm
  obtain ⟨ho, hs, _⟩ := RightF_eq hr
  rw [okF_val] at ho
  split at ho
  · cases ho
  · rename_i h15
    unfold shapeF at ho
    simp only [Bool.and_eq_true, decide_eq_true_eq, Bool.not_eq_true'] at ho
    obtain ⟨⟨hb, _⟩, hl⟩ := ho
    rw [if_pos kq1] at hl
    have hl2 : t.f3.length = 2 := by omega
    unfold badF at hb
    rw [Bool.or_eq_false_iff] at hb
    have hmod : if t.f0 = 15 then 1 ≤ t.f2 else t.f2 = 0 := by
      have := hb.2
      by_cases h : t.f0 = 15
      · rw [if_pos h] at this ⊢
        have := of_decide_eq_false this
        omega
      · rw [if_neg h] at this ⊢
        simpa using this
    have hcnt : cntF t = 1 + (cntTs t.f3 + cntFs t.f4) := by cases t; rw [cntF]
    match hl3 : t.f3, hl2 with
    | [u, v], _ =>
      rw [hl3] at hs hcnt
      simp only [cntTs] at hcnt
      simp only [RightTs] at hs
      exact ⟨kq1, hmod, u, v, rfl, hs.1, hs.2.1, hf.terms u (by rw [hl3]; exact .head _), hf.terms v (by rw [hl3]; exact .tail _ (.head _)), by simp at hc; omega⟩
theorem negP_fit {a : Int} (ha : In64 a) : negP a = fit (-a) := by unfold negP; rw [neg_spec ha]; rfl
theorem restP_mod {c m : Int} (hm : In64 m) (h : 1 ≤ m) : restP c m = (c % m, 0) := by unfold restP; rw [rest_spec hm h]; rfl
theorem rest_in {c m : Int} (hm : In64 m) (h : 1 ≤ m) : In64 (c % m) := by
  have := Int.emod_nonneg c (show m ≠ 0 by omega)
  have := Int.emod_lt_of_pos c (show 0 < m by omega)
  obtain ⟨_, _⟩ := hm
  exact ⟨kq1, kq1⟩
theorem one_in64 : In64 1 := ⟨kq2, kq2⟩
theorem fit_val {c : Int} (h : in64B c = true) : (fit c).1 = c := by rw [fit_of, if_pos h]
theorem last_n {op md : Int} {s : Sm} {n : Nat} (hw : Raw s n) (hn : n ≤ 1000) (hm : In64 md) (h15 : op = 15 → 1 ≤ md) : ∃ te : Int, Ev (fun k => (chk_Total.f k ([atomB op md s.2.2.1] ++ atomC op md s.2.1)).bind fun t => some t.2) te ∧
    atomR op md s.1 s.2.1 s.2.2.1 s.2.2.2 te = (if s.2.2.2 ≠ 0 then errN s.2.2.2 else lastA op md s) := by
  have hneg := negP_fit hw.const
  have hb : In64 (atomB op md s.2.2.1) := by
    unfold atomB
    split
    · rw [subP_fit (by rw [hneg]; exact fit_in64 _) one_in64]; exact fit_in64 _
    · split
      · rename_i h; rw [restP_mod hm (h15 h)]; exact rest_in hm (h15 h)
      · rw [hneg]; exact fit_in64 _
  have hc : ∀ c ∈ atomC op md s.2.1, In64 c := by
    unfold atomC
    split
    · rename_i h
      intro c hc
      obtain ⟨x, _, rfl⟩ := List.mem_map.1 hc
      rw [restP_mod hm (h15 h)]
      exact rest_in hm (h15 h)
    · exact hw.ints
  have hlen : ([atomB op md s.2.2.1] ++ atomC op md s.2.1).length = s.2.1.length + 1 := by simp [atomC_length]
  have ht := total_spec (l := [atomB op md s.2.2.1] ++ atomC op md s.2.1) (fun c h => (List.mem_append.1 h).elim (fun h => by rw [List.mem_singleton.1 h]; exact hb) (hc c)) (by have := hw.few; omega)
  refine ⟨_, Ev.bind ht (Ev.now _), ?_⟩
  by_cases h0 : s.2.2.2 = 0
  · have e1 : (if s.2.2.2 ≠ 0 then errN s.2.2.2 else lastA op md s) = if okS op md s = true then (atomK op, s.1, cofS op md s.2.1, bndS op md s.2.2.1, md, 0) else errN 91 := by
      rw [if_neg (fun h => h h0)]
      unfold lastA
      rw [if_neg (fun h => h h0)]
    rw [e1]
    unfold atomR
    rw [h0]

    have hC : atomC op md s.2.1 = cofS op md s.2.1 := by
      unfold atomC cofS
      by_cases h : op = 15
      · rw [if_pos h, if_pos h]
        exact List.map_congr_left fun c _ => by rw [restP_mod hm (h15 h)]
      · rw [if_neg h, if_neg h]
    have hE : atomE op s.2.2.1 0 = if (in64B (-s.2.2.1) && (if op = 10 ∨ op = 12 then in64B (-s.2.2.1 - 1) else true)) = true then 0 else 91 := by
      unfold atomE
      rw [hneg]
      by_cases h : op = 10 ∨ op = 12
      · rw [if_pos h, if_pos h, subP_fit (fit_in64 _) one_in64, coeff_fit, coeff_fit]
        by_cases h1 : in64B (-s.2.2.1) = true
        · rw [fit_val h1, h1]
          simp
        · simp [h1]
      · rw [if_neg h, if_neg h, coeff_fit]
        by_cases h1 : in64B (-s.2.2.1) = true <;> simp [h1]
    by_cases hok : (in64B (-s.2.2.1) && (if op = 10 ∨ op = 12 then in64B (-s.2.2.1 - 1) else true)) = true
    · rw [if_pos hok] at hE
      have h1 : in64B (-s.2.2.1) = true := by
        rw [Bool.and_eq_true] at hok; exact hok.1
      have hB : atomB op md s.2.2.1 = bndS op md s.2.2.1 := by
        unfold atomB bndS
        rw [hneg, fit_val h1]
        by_cases h : op = 10 ∨ op = 12
        · rw [if_pos h, if_neg (show ¬ op = 15 by omega), if_pos h, subP_fit (in64B_in h1) one_in64]
          have : in64B (-s.2.2.1 - 1) = true := by rw [Bool.and_eq_true, if_pos h] at hok; exact hok.2
          exact fit_val this
        · rw [if_neg h]
          by_cases h' : op = 15
          · rw [if_pos h', if_pos h', restP_mod hm (h15 h')]
          · rw [if_neg h', if_neg h', if_neg h]
      rw [hE, hB, hC, coeff_fit]
      have hokS : okS op md s = in64B (total ([bndS op md s.2.2.1] ++ cofS op md s.2.1)) := by
        unfold okS
        rw [← Bool.and_assoc, hok, Bool.true_and]
      rw [hokS]
      by_cases h2 : in64B (total ([bndS op md s.2.2.1] ++ cofS op md s.2.1)) = true
      · rw [if_pos h2, if_pos h2, if_pos rfl]
      · rw [if_neg h2, if_neg h2, if_pos rfl, if_neg (show ¬ (91 : Int) = 0 by decide)]
        rfl
    · rw [if_neg hok] at hE
      have hokS : okS op md s = false := by
        unfold okS
        rw [← Bool.and_assoc, Bool.eq_false_iff.2 hok, Bool.false_and]
      have h91 : coeffE 91 (fit (total ([atomB op md s.2.2.1] ++ atomC op md s.2.1))).2 = 91 := by
        rw [coeff_fit]
        by_cases h : in64B (total ([atomB op md s.2.2.1] ++ atomC op md s.2.1)) = true <;> simp [h]
      rw [hE, h91, if_neg (show ¬ (91 : Int) = 0 by decide), hokS, if_neg kq2]
      rfl
  · rw [if_pos h0]
    unfold atomR
    have keep : ∀ e : Int, coeffE s.2.2.2 e = s.2.2.2 := fun e => by unfold coeffE; by_cases h : e = 0 <;> simp [h, h0]
    have hE : atomE op s.2.2.1 s.2.2.2 = s.2.2.2 := by
      unfold atomE
      split
      · rw [keep, keep]
      · rw [keep]
    rw [hE, keep, if_neg h0]
    rfl
theorem last_nrm (op md : Int) (s : Sm) : (if s.2.2.2 ≠ 0 then errN s.2.2.2 else lastA op md s) = lastA op md (nrm s) := by
  unfold nrm
  by_cases h : s.2.2.2 = 0
  · rw [if_neg (fun k => k h), if_pos h]
  · rw [if_pos h, if_neg h]
    unfold lastA
    rw [if_pos h]
theorem fin_n {op md : Int} {s : Sm} {n : Nat} (hw : Raw s n) (hn : n ≤ 1000) (hm : In64 md) (h15 : op = 15 → 1 ≤ md) :
    Ev (fun k => if s.2.1.length ≤ 1000000 then ((chk_Total.f k ([atomB op md s.2.2.1] ++ atomC op md s.2.1)).bind fun t => some (atomR op md s.1 s.2.1 s.2.2.1 s.2.2.2 t.2)) else none) (lastA op md (nrm s)) := by
  obtain ⟨te, hte, hr⟩ := last_n hw hn hm h15
  have := hw.few
  refine Ev.congr (fun k => if_pos kq1) ?_
  rw [← last_nrm, ← hr]
  obtain ⟨K, hK⟩ := hte
  refine ⟨K, fun k hk => ?_⟩
  obtain ⟨t, h1, h2⟩ := Option.bind_eq_some_iff.1 (hK k hk)
  dsimp only
  rw [h1, Option.bind_some, Option.some.inj h2]
theorem Check_at (t : S39) : tree_Check.f t.f0 t.f1 t.f2 t.f3 t.f4 = some (measF t 1 (0, 0, 0)).2.2 := by
  unfold tree_Check.f tree_measured.f
  rw [eta39]
  rfl
theorem Atom_ev {t : S39} (hf : FitF t) : Ev (fun k => norm_Atom.f k t.f0 t.f1 t.f2 t.f3 t.f4) (atomA t) := by
  unfold norm_Atom.f atomA
  rw [Check_at]
  refine Ev.congr (fun k => Option.bind_some _ _) ?_
  by_cases hm : (measF t 1 (0, 0, 0)).2.2 = 0
  · rw [if_neg (fun h => h hm)]
    refine Ev.congr (fun k => if_neg (fun h => h hm)) ?_
    by_cases h9 : t.f0 < 9
    · rw [if_pos h9]
      exact Ev.congr (fun k => if_pos h9) (Ev.now _)
    · rw [if_neg h9]
      refine Ev.congr (fun k => if_neg h9) ?_
      obtain ⟨_, hmd, u, v, hl, ru, rv, fu, fv, hc⟩ := atom_parts hf hm h9
      have h15 : t.f0 = 15 → 1 ≤ t.f2 := fun h => by rwa [if_pos h] at hmd
      rw [hl, rd_two0, rd_two1]
      refine Ev.congr (fun k => if_pos (by simp)) ?_
      have wu := sumT_wf 500 u ru fu kq1
      have wv := sumT_wf 500 v rv fv kq1
      obtain ⟨a, ea, na, ra⟩ := worked_ev 500 u ru fu kq1 kq2
      obtain ⟨b, eb, nb, rb⟩ := worked_ev 500 v rv fv kq1 kq2
      refine Ev.bind ea (Ev.bind eb ?_)
      unfold atomS
      by_cases ha : (sumT u).2.2.2 = 0
      · obtain ⟨_, e1⟩ := wf_of na ha wu
        subst e1
        rw [if_neg (fun h => h ha)]
        by_cases hb : (sumT v).2.2.2 = 0
        · obtain ⟨_, e2⟩ := wf_of nb hb wv
          subst e2
          rw [if_neg (fun h => h hb)]
          obtain ⟨s0, e0, n0, r0⟩ := both_sub wu wv kq1 kq1 ha hb
          obtain ⟨s1, e1, n1, r1⟩ := both_sub wv wu kq1 kq1 hb ha
          unfold subS
          by_cases ho : t.f0 = 11 ∨ t.f0 = 12
          · rw [if_pos ho, ← n1]
            exact Ev.congr (fun k => by rw [e0, Option.bind_some, if_pos ⟨ha, hb, ho⟩, e1, Option.bind_some]) (fin_n r1 kq1 hf.mod h15)
          · rw [if_neg ho, ← n0]
            exact Ev.congr (fun k => by rw [e0, Option.bind_some, if_neg (fun h => ho h.2.2), Option.bind_some]) (fin_n r0 kq1 hf.mod h15)
        · have hb' := nrm_bad nb hb
          rw [if_pos hb]
          have := fin_n (op := t.f0) rb kq1 hf.mod h15
          rw [nb] at this
          unfold lastA at this
          rw [if_pos hb] at this
          exact Ev.congr (fun k => by rw [both_b 1 ha hb', Option.bind_some, if_neg (fun h => hb' h.2.1), Option.bind_some]) this
      · have ha' := nrm_bad na ha
        rw [if_pos ha]
        have := fin_n (op := t.f0) ra kq1 hf.mod h15
        rw [na] at this
        unfold lastA at this
        rw [if_pos ha] at this
        exact Ev.congr (fun k => by rw [both_a 1 ha', Option.bind_some, if_neg (fun h => ha' h.1), Option.bind_some]) this
  · rw [if_pos hm]
    exact Ev.congr (fun k => if_pos hm) (Ev.now _)
end Go.Proofs.Ytjknpmibdkoklaa.Q
