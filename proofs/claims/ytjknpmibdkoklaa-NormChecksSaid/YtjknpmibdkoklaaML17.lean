/- Functions of the given program as Lean functions, each with its contract, and what they answer; words for it. No condition but those of each. -/
import Derived.Test.YtjknpmibdkoklaaMLS
import Derived.Test.YtjknpmibdkoklaaML16
import Derived.LoopTactic
import Derived.Shelf.Abstract
import Derived.Test.YtjknpmibdkoklaaML3
import Derived.Test.YtjknpmibdkoklaaML6
import Derived.Test.YtjknpmibdkoklaaML15
import Derived.Test.YtjknpmibdkoklaaML12
import Derived.Test.YtjknpmibdkoklaaML4
import Derived.Test.YtjknpmibdkoklaaML5
import Derived.Test.YtjknpmibdkoklaaML2
import Derived.ChangeArms
import Derived.SizedLaws
import Derived.DataShut
import Derived.DataElems
set_option maxRecDepth 100000
namespace Go.Proofs.Ytjknpmibdkoklaa.Q
open Go.RowKit Go.Proofs.YtjknpmibdkoklaaW.PrintWords Go.Proofs.YtjknpmibdkoklaaW.PrintLast Go.Proofs.YtjknpmibdkoklaaW.PrintMore
open Aside0 (mk)
def norm_Atom.f (k : Nat) (op : Int) (nm : ByteArray) (md : Int) (l3 : List S66) (l4 : List S39) : Option (Int × List ByteArray × List Int × Int × Int × Int) :=
  (tree_Check.f op nm md l3 l4).bind fun e => if e ≠ 0 then some (0, [], [], 0, 0, e) else if op < 9 then some (0, [], [], 0, 0, 3) else if 1 < l3.length then
    ((norm_worked.f k (rd_T66 l3 0).f0 (rd_T66 l3 0).f1 (rd_T66 l3 0).f2 (rd_T66 l3 0).f3).bind fun a =>
      (norm_worked.f k (rd_T66 l3 1).f0 (rd_T66 l3 1).f1 (rd_T66 l3 1).f2 (rd_T66 l3 1).f3).bind fun b =>
      (norm_both.f a.1 a.2.1 a.2.2.1 a.2.2.2 b.1 b.2.1 b.2.2.1 b.2.2.2 1).bind fun s0 =>
      (if a.2.2.2 = 0 ∧ b.2.2.2 = 0 ∧ (op = 11 ∨ op = 12) then norm_both.f b.1 b.2.1 b.2.2.1 b.2.2.2 a.1 a.2.1 a.2.2.1 a.2.2.2 1 else some s0).bind fun s =>
      if s.2.1.length ≤ 1000000 then ((chk_Total.f k ([atomB op md s.2.2.1] ++ atomC op md s.2.1)).bind fun t => some (atomR op md s.1 s.2.1 s.2.2.1 s.2.2.2 t.2)) else none)
    else none
theorem norm_Atom.mono : ∀ a0 a1 a2 a3 a4 k, LeO (norm_Atom.f k a0 a1 a2 a3 a4) (norm_Atom.f (k + 1) a0 a1 a2 a3 a4) := by
  intro a0 a1 a2 a3 a4 k
  unfold norm_Atom.f
  exact LeO.bind (LeO.refl _) fun _ => LeO.ite (LeO.refl _) (LeO.ite (LeO.refl _) (LeO.ite (LeO.bind (norm_worked.mono _ _ _ _ _) fun _ => LeO.bind (norm_worked.mono _ _ _ _ _) fun _ => LeO.bind (LeO.refl _) fun _ => LeO.bind (LeO.refl _) fun _ => LeO.ite (LeO.bind (chk_Total.mono _ _) fun _ => LeO.refl _) (LeO.refl _)) (LeO.refl _)))
theorem norm_Atom.calls (k : Nat) (op : Int) (nm : ByteArray) (md : Int) (A3 : Option Addr) (c3 : Nat) (l3 : List S66) (A4 : Option Addr) (c4 : Nat) (l4 : List S39) (r1 : Int) (r2 : List ByteArray) (r3 : List Int) (r4 r5 r6 : Int) (w : World) (hr3 : Kd.C k66 w A3 l3.length l3) (hc3 : l3.length ≤ c3) (hr4 : Kd.C k39 w A4 l4.length l4) (hc4 : l4.length ≤ c4) (h : norm_Atom.f k op nm md l3 l4 = some (r1, r2, r3, r4, r5, r6)) :
    Calls Try.prog 44 #[.agg #[.int .i64 op, .string nm, .int .i64 md, .slice A3 l3.length c3, .slice A4 l4.length c4]] w fun e w' => ∃ v0 v1 : Value, e = .returned (.tuple #[.agg #[.int .i64 r1, v0, v1, .int .i64 r4, .int .i64 r5], .int .i64 r6]) ∧ Kd.R Kd.string 9 w' w.heap.size (fun _ => True) v0 r2 ∧ Kd.R (Kd.int .i64) 2 w' w.heap.size (fun _ => True) v1 r3 ∧ Below w.heap.size w w' := by
  unfold norm_Atom.f at h
  obtain ⟨ev, hck, h⟩ := Option.bind_eq_some_iff.1 h
  by_cases he : ev = 0
  · subst he
    rw [if_neg kq2] at h
    by_cases ho : op < 9
    · rw [if_pos ho] at h
      simp only [Option.some.injEq, Prod.mk.injEq] at h
      obtain ⟨rfl, rfl, rfl, rfl, rfl, rfl⟩ := h
      refine (atom_shape op nm md A3 c3 l3 A4 c4 l4 w hr3 hc3 hr4 hc4 hck ho).mono ?_
      rintro e w' ⟨rfl, hb⟩
      exact ⟨_, _, rfl, Kd.R_nil _ _ _ _ _, Kd.R_nil _ _ _ _ _, hb⟩
    · rw [if_neg ho] at h
      by_cases h2 : 1 < l3.length
      · rw [if_pos h2] at h
        obtain ⟨⟨na, ca, ka, ea⟩, hwa, h⟩ := Option.bind_eq_some_iff.1 h
        obtain ⟨⟨nb, cb, kb, eb⟩, hwb, h⟩ := Option.bind_eq_some_iff.1 h
        obtain ⟨⟨n0, z0, k0, e0⟩, hs0, h⟩ := Option.bind_eq_some_iff.1 h
        obtain ⟨⟨ns, cs, ks, es⟩, hs, h⟩ := Option.bind_eq_some_iff.1 h
        dsimp only at hs0 hs h
        by_cases hl : cs.length ≤ 1000000
        · rw [if_pos hl] at h
          obtain ⟨⟨tt, te⟩, ht, h⟩ := Option.bind_eq_some_iff.1 h
          refine (atom_core k op nm md A3 c3 l3 A4 c4 l4 w hr3 hc3 hr4 hc4 hck ho h2 na ca ka ea nb cb kb eb n0 z0 k0 e0 ns cs ks es tt te hwa hwb hs0 (fun hc => by rw [if_pos hc] at hs; exact hs) (fun hc => by rw [if_neg hc] at hs; simpa only [Option.some.injEq, Prod.mk.injEq] using hs) hl ht).mono ?_
          have hR := Option.some.inj h
          dsimp only at hR
          rw [hR]
          exact fun e w' he => he
        · rw [if_neg hl] at h
          cases h
      · rw [if_neg h2] at h
        cases h
  · rw [if_pos he] at h
    simp only [Option.some.injEq, Prod.mk.injEq] at h
    obtain ⟨rfl, rfl, rfl, rfl, rfl, rfl⟩ := h
    refine (atom_err op nm md A3 c3 l3 A4 c4 l4 ev w hr3 hc3 hr4 hc4 hck he).mono ?_
    rintro e w' ⟨rfl, hb⟩
    exact ⟨_, _, rfl, Kd.R_nil _ _ _ _ _, Kd.R_nil _ _ _ _ _, hb⟩
end Go.Proofs.Ytjknpmibdkoklaa.Q
namespace Go.Proofs.Ytjknpmibdkoklaa.Q
open Go.RowKit Go.Proofs.YtjknpmibdkoklaaW.PrintWords Go.Proofs.YtjknpmibdkoklaaW.PrintLast Go.Proofs.YtjknpmibdkoklaaW.PrintMore
open Aside0 (mk)
open List (setIfInBounds_toArray set_cons_zero set_cons_succ)
attribute [local go_sem] max2_int min2_int max_two min_two max_three min_three max_four min_four
set_option linter.unusedVariables false
set_option linter.unusedSimpArgs false
attribute [local go_sem] fld99_2 fld103_2 fld160_0 fld160_1
def tabardlaw09_fixed.f (k : Nat)  : Option (Bool) := (norm_Atom.f k 12 (⟨#[]⟩ : ByteArray) 0 (([(⟨1, 0, (⟨#[120]⟩ : ByteArray), ([] : List (S66))⟩ : S66), (⟨0, 1, (⟨#[]⟩ : ByteArray), ([] : List (S66))⟩ : S66)] : List (S66))) ([] : List (S39))).bind fun bt780 => (if bt780.2.2.2.2.2 = 0 then (if bt780.1 = 0 then ((tabardlaw09_same.f k bt780.2.1 (([(⟨#[120]⟩ : ByteArray)] : List ByteArray))).bind fun t794 => (if t794 = true then ((tabardlaw09_numbers.f k bt780.2.2.1 (([(-1)] : List Int))).bind fun t798 => (if t798 = true then (if bt780.2.2.2.1 = (-2) then (some true) else (some false)) else (some false))) else (some false))) else (some false)) else (some false))
theorem tabardlaw09_fixed.mono : ∀ k, LeO (tabardlaw09_fixed.f k ) (tabardlaw09_fixed.f (k + 1) ) := by
  intro  k
  unfold tabardlaw09_fixed.f
  repeat' first
      | (with_reducible exact norm_Atom.mono _ _ _ _ _ _)
      | (with_reducible exact tabardlaw09_numbers.mono _ _ _)
      | (with_reducible exact tabardlaw09_same.mono _ _ _)
      | (with_reducible exact LeO.refl _)
      | (with_reducible exact LeO.none _)
      | (with_reducible refine LeO.ite ?_ ?_)
      | (with_reducible refine LeO.bind ?_ (fun _ => ?_))
      | exact norm_Atom.mono _ _ _ _ _ _
      | exact tabardlaw09_numbers.mono _ _ _
      | exact tabardlaw09_same.mono _ _ _
      | exact LeO.none _
      | refine LeO.ite ?_ ?_
      | refine LeO.bind ?_ (fun _ => ?_)
theorem tabardlaw09_fixed.only {k : Nat} {r : Bool} (h : tabardlaw09_fixed.f k = some r) : r = true := by
  obtain ⟨K, hK⟩ := Ev.of (fun k => tabardlaw09_fixed.mono k) h
  obtain ⟨K2, hK2⟩ := Ev.of (g := fun k => tabardlaw09_fixed.f k) (fun k => tabardlaw09_fixed.mono k) (show tabardlaw09_fixed.f 20 = some true by decide +kernel)
  exact Option.some.inj ((hK (K + K2) kq1).symm.trans (hK2 (K + K2) kq1))
set_option maxHeartbeats 8000000 in
set_option maxRecDepth 100000 in
theorem tabardlaw09_fixed.calls (k : Nat)  (r : Bool) (w : World) (h : tabardlaw09_fixed.f k  = some r) :
    Calls Try.prog 43 #[] w fun e w' => e = .returned (.bool r) ∧ Below w.heap.size w w' := by
  have HRt_ := mk (tabardlaw09_fixed.only h)
  have hu66 := Try.underlying66
  have hu39 := Try.underlying39
  have hu58 := Try.underlying58
  have HB := mk (Below.refl w.heap.size w)
  have H : ((norm_Atom.f k 12 (⟨#[]⟩ : ByteArray) 0 (([(⟨1, 0, (⟨#[120]⟩ : ByteArray), ([] : List (S66))⟩ : S66), (⟨0, 1, (⟨#[]⟩ : ByteArray), ([] : List (S66))⟩ : S66)] : List (S66))) ([] : List (S39))).bind fun bt780 => (if bt780.2.2.2.2.2 = 0 then (if bt780.1 = 0 then ((tabardlaw09_same.f k bt780.2.1 (([(⟨#[120]⟩ : ByteArray)] : List ByteArray))).bind fun t794 => (if t794 = true then ((tabardlaw09_numbers.f k bt780.2.2.1 (([(-1)] : List Int))).bind fun t798 => (if t798 = true then (if bt780.2.2.2.1 = (-2) then (some true) else (some false)) else (some false))) else (some false))) else (some false)) else (some false))) = some r := h
  clear h
  obtain ⟨y777, hy777⟩ : ∃ y_ : List (S66), y_ = (([(⟨1, 0, (⟨#[120]⟩ : ByteArray), ([] : List (S66))⟩ : S66), (⟨0, 1, (⟨#[]⟩ : ByteArray), ([] : List (S66))⟩ : S66)] : List (S66))) := ⟨_, rfl⟩
  replace H : ((norm_Atom.f k 12 (⟨#[]⟩ : ByteArray) 0 y777 ([] : List (S39))).bind fun bt780 => (if bt780.2.2.2.2.2 = 0 then (if bt780.1 = 0 then ((tabardlaw09_same.f k bt780.2.1 (([(⟨#[120]⟩ : ByteArray)] : List ByteArray))).bind fun t794 => (if t794 = true then ((tabardlaw09_numbers.f k bt780.2.2.1 (([(-1)] : List Int))).bind fun t798 => (if t798 = true then (if bt780.2.2.2.1 = (-2) then (some true) else (some false)) else (some false))) else (some false))) else (some false)) else (some false))) = some r := by first | (rw [hy777]; with_reducible exact H) | (have H2_ := (Option.bind_some _ _).symm.trans H; rw [hy777]; with_reducible exact H2_) | (have H2_ := (Option.bind_some _ _).symm.trans H; with_reducible exact H2_) | with_reducible exact H | (rw [hy777]; exact H) | exact H
  have Ny777 := mk hy777
  clear hy777
  replace H := Option.bind_eq_some_iff.mp H
  obtain ⟨⟨t780, t781, t784, t787, t788, t789⟩, A10, H⟩ := H
  replace H : (if t789 = 0 then (if t780 = 0 then ((tabardlaw09_same.f k t781 (([(⟨#[120]⟩ : ByteArray)] : List ByteArray))).bind fun t794 => (if t794 = true then ((tabardlaw09_numbers.f k t784 (([(-1)] : List Int))).bind fun t798 => (if t798 = true then (if t787 = (-2) then (some true) else (some false)) else (some false))) else (some false))) else (some false)) else (some false)) = some r := H
  have A1 := mk A10
  clear A10
  by_cases c2 : t789 = 0
  · rw [if_pos c2] at H
    have c2b0 := eT_ c2
    have c2b1 := nF_ c2
    clear c2
    replace H := ic_ H; obtain ⟨c3, H⟩ | ⟨c3, H⟩ := H
    · (obtain ⟨c3b0, c3b1⟩ := eTn_ c3); clear c3; (obtain ⟨y791, hy791⟩ : ∃ y_ : List ByteArray, y_ = (([(⟨#[120]⟩ : ByteArray)] : List ByteArray)) := ⟨_, rfl⟩); (replace H : ((tabardlaw09_same.f k t781 y791).bind fun t794 => (if t794 = true then ((tabardlaw09_numbers.f k t784 (([(-1)] : List Int))).bind fun t798 => (if t798 = true then (if t787 = (-2) then (some true) else (some false)) else (some false))) else (some false))) = some r := by first | (rw [hy791]; with_reducible exact H) | (have H2_ := (Option.bind_some _ _).symm.trans H; rw [hy791]; with_reducible exact H2_) | (have H2_ := (Option.bind_some _ _).symm.trans H; with_reducible exact H2_) | with_reducible exact H | (rw [hy791]; exact H) | exact H); (have Ny791 := mk hy791); clear hy791; (replace H := Option.bind_eq_some_iff.mp H); (obtain ⟨t794, A40, H⟩ := H); (replace H : (if t794 = true then ((tabardlaw09_numbers.f k t784 (([(-1)] : List Int))).bind fun t798 => (if t798 = true then (if t787 = (-2) then (some true) else (some false)) else (some false))) else (some false)) = some r := H); (have A4 := mk A40); clear A40; (by_cases c5 : t794 = true)
      · subst c5; (have H1 : ((tabardlaw09_numbers.f k t784 (([(-1)] : List Int))).bind fun t798 => (if t798 = true then (if t787 = (-2) then (some true) else (some false)) else (some false))) = some r := by rw [if_pos rfl] at H; exact H); clear H; (have H := H1); clear H1; (obtain ⟨y795, hy795⟩ : ∃ y_ : List Int, y_ = (([(-1)] : List Int)) := ⟨_, rfl⟩); (replace H : ((tabardlaw09_numbers.f k t784 y795).bind fun t798 => (if t798 = true then (if t787 = (-2) then (some true) else (some false)) else (some false))) = some r := by first | (rw [hy795]; with_reducible exact H) | (have H2_ := (Option.bind_some _ _).symm.trans H; rw [hy795]; with_reducible exact H2_) | (have H2_ := (Option.bind_some _ _).symm.trans H; with_reducible exact H2_) | with_reducible exact H | (rw [hy795]; exact H) | exact H); (have Ny795 := mk hy795); clear hy795; (replace H := Option.bind_eq_some_iff.mp H); (obtain ⟨t798, A60, H⟩ := H); (replace H : (if t798 = true then (if t787 = (-2) then (some true) else (some false)) else (some false)) = some r := H); (have A6 := mk A60); clear A60; (by_cases c7 : t798 = true)
        · subst c7; (have H1 : (if t787 = (-2) then (some true) else (some false)) = some r := by rw [if_pos rfl] at H; exact H); clear H; (have H := H1); clear H1; replace H := ic_ H; obtain ⟨c8, H⟩ | ⟨c8, H⟩ := H
          · (obtain ⟨c8b0, c8b1⟩ := eTn_ c8); clear c8; (obtain rfl := Option.some.inj H); (go_enter Try.func43, Try.ntmps43); (go_wp2_with (first | ((with_reducible refine gate_dst (N := 1) rfl ?_); (try (refine gate_guard (by rfl) ?_; dsimp only)); refine box_event ?hg (N := 1) ?hd (cs := #[.int .i64 0, .int .i64 0, .string (⟨#[]⟩ : ByteArray), .slice none 0 0]) (t := 66) ?hr ?_; (case hd => rfl); (case hg => rfl); (case hr => exact kq11); intro gb776 hg w9 hbox hb; have BK776 := mk (hbox); have GW776 := (gs_ hg kq9); have GE776 := GW776; replace HB := mk (below_step kq9 hb); clear hb hbox hg; obtain ⟨_, _, _, _, _, _, _, _⟩ := cz4_ BK776.out) | ((with_reducible refine gate_dst (N := 8) rfl ?_); (try (refine gate_guard (by rfl) ?_; dsimp only)); refine Kd.R_lit k66 _ 66 ?hg (N := 8) ?hd (xs := ([(⟨1, 0, (⟨#[120]⟩ : ByteArray), ([] : List (S66))⟩ : S66), (⟨0, 1, (⟨#[]⟩ : ByteArray), ([] : List (S66))⟩ : S66)] : List (S66))) (inner := [.int .i64 1, .int .i64 0, .string (⟨#[120]⟩ : ByteArray), .slice none 0 0, .int .i64 0, .int .i64 1, .string (⟨#[]⟩ : ByteArray), .slice none 0 0]) (ok := fun _ => True) (okp := fun _ => True) ?hr ?hp (fun _ hk => hk) trivial (Below.refl _ _) (Nat.le_refl _) (by simp) ?_; (case hd => rfl); (case hg => rfl); (case hr => exact kq11); (case hp => exact (Reps.c4 (show Kd.M k66 _ _ _ (⟨1, 0, (⟨#[120]⟩ : ByteArray), ([] : List (S66))⟩ : S66) [.int .i64 1, .int .i64 0, .string (⟨#[120]⟩ : ByteArray), .slice none 0 0] from (k66_mkM _ _ _ (⟨1, 0, (⟨#[120]⟩ : ByteArray), ([] : List (S66))⟩ : S66) (Kd.R_nil _ _ _ _ _))) (Reps.c4 (show Kd.M k66 _ _ _ (⟨0, 1, (⟨#[]⟩ : ByteArray), ([] : List (S66))⟩ : S66) [.int .i64 0, .int .i64 1, .string (⟨#[]⟩ : ByteArray), .slice none 0 0] from (k66_mkM _ _ _ (⟨0, 1, (⟨#[]⟩ : ByteArray), ([] : List (S66))⟩ : S66) (Kd.R_nil _ _ _ _ _))) (Reps.none _ _)))); intro v778 w11 ho12 hb hg_ hnew_; clear hg_ hnew_; (first | rw [← Ny777.out] at ho12 | (simp only [Int.reduceToNat] at ho12; rw [← Ny777.out] at ho12)); have HO779 := mk (Kd.R_lower (Kd.R_newB ho12 (g := gb776) (o := .cells #[.int .i64 1, .int .i64 0, .string (⟨#[120]⟩ : ByteArray), .slice none 0 0] 66 (0, 0)) (kq103 BK776)) (below_size (kq16 GE776))); replace BK776 := mk (blk_below (g := gb776) (o := .cells #[.int .i64 1, .int .i64 0, .string (⟨#[120]⟩ : ByteArray), .slice none 0 0] 66 (0, 0)) (kq103 BK776) hb); replace HB := mk (below_step (kq16 GE776) hb); clear hb ho12; obtain ⟨Ao13, co13, eo13⟩ := Kd.R_slice HO779.out; subst eo13) | ((with_reducible refine gate_callee (f := 44) rfl ?_); refine goesL_ (some 10) rfl rfl Try.func44 kq0 rfl #[.agg #[.int .i64 12, .string (⟨#[]⟩ : ByteArray), .int .i64 0, .slice Ao13 y777.length co13, .slice none 0 0]] rfl kq7 ?_; (refine (norm_Atom.calls k 12 (⟨#[]⟩ : ByteArray) 0 _ _ y777 _ _ ([] : List (S39)) t780 t781 t784 t787 t788 t789 _ ?side1 ?side2 ?side3 ?side4 A1.out).mono ?_); (case side1 => exact kq12 HO779); (case side2 => exact (Kd.R_reads' HO779.out).2.1); (case side3 => exact Kd.C_nil _ _); (case side4 => exact Nat.le_refl _); rintro e w14 ⟨v782, v785, rfl, ho0, ho1, hb⟩; refine ⟨_, rfl, ?_⟩; have HO783 := mk (Kd.R_lower ho0 (below_size (kq16 GE776))); have HO786 := mk (Kd.R_lower ho1 (below_size (kq16 GE776))); replace HO779 := mk (Kd.R_below (kq15 HO779) hb); replace BK776 := (bb_ BK776 hb); replace HB := mk (below_step (kq16 GE776) hb)) | ((with_reducible refine gate_dst (N := 2) rfl ?_); (try (refine gate_guard (by rfl) ?_; dsimp only)); refine box_event ?hg (N := 2) ?hd (cs := #[.int .i64 0, .slice none 0 0, .slice none 0 0, .int .i64 0, .int .i64 0]) (t := 58) ?hr ?_; (case hd => rfl); (case hg => rfl); (case hr => exact kq11); intro gb790 hg w15 hbox hb; have BK790 := mk (hbox); have GW790 := (gs_ hg (kq16 GE776)); have GE790 := GW790; have NB776_790 := (nl_ hg BK776); have NB790_776 := (ng_ hg BK776); replace HO779 := mk (Kd.R_below (kq15 HO779) hb); replace HO783 := mk (Kd.R_below (kq15 HO783) hb); replace HO786 := mk (Kd.R_below (kq15 HO786) hb); replace BK776 := (bb_ BK776 hb); replace HB := mk (below_step (kq16 GE776) hb); clear hb hbox hg; have hnb16 := NB790_776.out; have hnc16 := NB776_790.out; obtain ⟨_, _, _, _, _, _, _, _, _, _⟩ := cz5_ BK790.out; obtain ⟨Ao18, co18, eo18⟩ := Kd.R_slice HO783.out; subst eo18; obtain ⟨Ao19, co19, eo19⟩ := Kd.R_slice HO786.out; subst eo19) | ((with_reducible refine gate_dst (N := 23) rfl ?_); (try (refine gate_guard (by rfl) ?_; dsimp only)); refine Kd.R_lit Kd.string _ 9 ?hg (N := 23) ?hd (xs := ([(⟨#[120]⟩ : ByteArray)] : List ByteArray)) (inner := [.string (⟨#[120]⟩ : ByteArray)]) (ok := fun _ => True) (okp := fun _ => True) ?hr ?hp (fun _ hk => hk) trivial (Below.refl _ _) (Nat.le_refl _) (by simp) ?_; (case hd => rfl); (case hg => rfl); (case hr => exact kq11); (case hp => exact (Reps.one (show Kd.M Kd.string _ _ _ (⟨#[120]⟩ : ByteArray) [.string (⟨#[120]⟩ : ByteArray)] from rfl) (Reps.none _ _))); intro v792 w20 ho21 hb hg_ hnew_; clear hg_ hnew_; (first | rw [← Ny791.out] at ho21 | (simp only [Int.reduceToNat] at ho21; rw [← Ny791.out] at ho21)); have HO793 := mk (Kd.R_lower (Kd.R_new' ho21 (Kd.R_lt (kq104 HO783 BK790))) (below_size (kq23 GE776 GE790))); replace HO779 := mk (Kd.R_below (kq104 HO779 BK790) hb); replace HO783 := mk (Kd.R_elder' (kq104 HO783 BK790) (Kd.R_base ho21) hb); replace HO786 := mk (Kd.R_below (kq104 HO786 BK790) hb); replace BK776 := mk (blk_below (g := gb776) (o := .cells #[.int .i64 1, .int .i64 0, .string (⟨#[120]⟩ : ByteArray), .slice none 0 0] 66 (0, 0)) (kq105 NB776_790 BK776) hb); replace BK790 := mk (blk_below (g := gb790) (o := .cells #[.int .i64 t780, .slice Ao18 t781.length co18, .slice Ao19 t784.length co19, .int .i64 t787, .int .i64 t788] 58 (0, 0)) (by (with_reducible repeat (first | refine blk_drewN ?_ _ | refine blk_drew ?_ | refine blk_alloc ?_ _)); refine blk_put (cs := #[.int .i64 t780, .slice Ao18 t781.length co18, .slice Ao19 t784.length co19, .int .i64 t787, .int .i64 0]) ?_ 4 _ rfl; (with_reducible repeat (first | refine blk_drewN ?_ _ | refine blk_drew ?_ | refine blk_alloc ?_ _)); refine blk_put (cs := #[.int .i64 t780, .slice Ao18 t781.length co18, .slice Ao19 t784.length co19, .int .i64 0, .int .i64 0]) ?_ 3 _ rfl; (with_reducible repeat (first | refine blk_drewN ?_ _ | refine blk_drew ?_ | refine blk_alloc ?_ _)); refine blk_put (cs := #[.int .i64 t780, .slice Ao18 t781.length co18, .slice none 0 0, .int .i64 0, .int .i64 0]) ?_ 2 _ rfl; (with_reducible repeat (first | refine blk_drewN ?_ _ | refine blk_drew ?_ | refine blk_alloc ?_ _)); refine blk_put (cs := #[.int .i64 t780, .slice none 0 0, .slice none 0 0, .int .i64 0, .int .i64 0]) ?_ 1 _ rfl; (with_reducible repeat (first | refine blk_drewN ?_ _ | refine blk_drew ?_ | refine blk_alloc ?_ _)); refine blk_put (cs := #[.int .i64 0, .slice none 0 0, .slice none 0 0, .int .i64 0, .int .i64 0]) ?_ 0 _ rfl; (with_reducible repeat (first | refine blk_drewN ?_ _ | refine blk_drew ?_ | refine blk_alloc ?_ _)); exact BK790.out) hb); replace HB := mk (below_step (kq23 GE776 GE790) hb); clear hb ho21; obtain ⟨Ao22, co22, eo22⟩ := Kd.R_slice HO793.out; subst eo22) | (go_at_call 51; (with_reducible refine (tabardlaw09_same.calls k _ _ t781 _ _ y791 true _ ?side1 ?side2 ?side3 ?side4 A4.out).mono ?_); (case side1 => exact kq12 HO783); (case side2 => exact (Kd.R_reads' HO783.out).2.1); (case side3 => exact kq12 HO793); (case side4 => exact (Kd.R_reads' HO793.out).2.1); rintro e w' ⟨rfl, ⟨nd, rfl⟩⟩; obtain ⟨_, _, _, _, _, _, _, _, _, _⟩ := cz5_ BK790.out) | ((with_reducible refine gate_dst (N := 29) rfl ?_); (try (refine gate_guard (by rfl) ?_; dsimp only)); refine Kd.R_lit (Kd.int .i64) _ 2 ?hg (N := 29) ?hd (xs := ([(-1)] : List Int)) (inner := [.int .i64 (-1)]) (ok := fun _ => True) (okp := fun _ => True) ?hr ?hp (fun _ hk => hk) trivial (Below.refl _ _) (Nat.le_refl _) (by simp) ?_; (case hd => rfl); (case hg => rfl); (case hr => exact kq11); (case hp => exact (Reps.one (show Kd.M (Kd.int .i64) _ _ _ (-1) [.int .i64 (-1)] from rfl) (Reps.none _ _))); intro v796 w24 ho25 hb hg_ hnew_; clear hg_ hnew_; (first | rw [← Ny795.out] at ho25 | (simp only [Int.reduceToNat] at ho25; rw [← Ny795.out] at ho25)); have HO797 := mk (Kd.R_lower (Kd.R_new' ho25 (Kd.R_lt (kq15 HO786))) (below_size (kq23 GE776 GE790))); replace HO779 := mk (Kd.R_below (kq15 HO779) hb); replace HO783 := mk (Kd.R_below (kq15 HO783) hb); replace HO786 := mk (Kd.R_elder' (kq15 HO786) (Kd.R_base ho25) hb); replace HO793 := mk (Kd.R_below (kq15 HO793) hb); replace BK776 := (bb_ BK776 hb); replace BK790 := (bb_ BK790 hb); replace HB := mk (below_step (kq23 GE776 GE790) hb); clear hb ho25; obtain ⟨Ao26, co26, eo26⟩ := Kd.R_slice HO797.out; subst eo26) | (go_at_call 52; (with_reducible refine (tabardlaw09_numbers.calls k _ _ t784 _ _ y795 true _ ?side1 ?side2 ?side3 ?side4 A6.out).mono ?_); (case side1 => exact kq12 HO786); (case side2 => exact (Kd.R_reads' HO786.out).2.1); (case side3 => exact kq12 HO797); (case side4 => exact (Kd.R_reads' HO797.out).2.1); rintro e w' ⟨rfl, ⟨nd, rfl⟩⟩; obtain ⟨_, _, _, _, _, _, _, _, _, _⟩ := cz5_ BK790.out))); go_ret; (exact ⟨kq14, (kq23 GE776 GE790)⟩)
          · (obtain ⟨c8b0, c8b1⟩ := eFn_ c8); (cases (Option.some.inj H).trans HRt_.out)
        · (replace c7 := Bool.eq_false_iff.mpr c7); subst c7; (have H1 : (some false) = some r := by rw [if_neg (show ¬ (false = true) by decide)] at H; exact H); clear H; (have H := H1); clear H1; (cases (Option.some.inj H).trans HRt_.out)
      · (replace c5 := Bool.eq_false_iff.mpr c5); subst c5; (have H1 : (some false) = some r := by rw [if_neg (show ¬ (false = true) by decide)] at H; exact H); clear H; (have H := H1); clear H1; (cases (Option.some.inj H).trans HRt_.out)
    · (obtain ⟨c3b0, c3b1⟩ := eFn_ c3); (cases (Option.some.inj H).trans HRt_.out)
  · rw [if_neg c2] at H
    have c2b0 := eF_ c2
    have c2b1 := nT_ c2
    cases (Option.some.inj H).trans HRt_.out
end Go.Proofs.Ytjknpmibdkoklaa.Q
namespace Go.Proofs.Ytjknpmibdkoklaa.Q
open Go.RowKit Go.Proofs.YtjknpmibdkoklaaW.PrintWords Go.Proofs.YtjknpmibdkoklaaW.PrintLast Go.Proofs.YtjknpmibdkoklaaW.PrintMore
open Aside0 (mk)
open List (setIfInBounds_toArray set_cons_zero set_cons_succ)
attribute [local go_sem] max2_int min2_int max_two min_two max_three min_three max_four min_four
set_option linter.unusedVariables false
set_option linter.unusedSimpArgs false
attribute [local go_sem] fld99_2 fld103_2 fld160_0 fld160_1
def tabardlaw09_normals.f (k : Nat) (a0_0 : Int) (l0_1 : List ByteArray) (l0_2 : List Int) (a0_3 : Int) (a0_4 : Int) (a1_0 : Int) (l1_1 : List ByteArray) (l1_2 : List Int) (a1_3 : Int) (a1_4 : Int) : Option (Bool) := if a0_0 = a1_0 then ((tabardlaw09_same.f k l0_1 l1_1).bind fun t844 => (if t844 = true then ((tabardlaw09_numbers.f k l0_2 l1_2).bind fun t845 => (if t845 = true then (if a0_3 = a1_3 then (some (a0_4 == a1_4)) else (some false)) else (some false))) else (some false))) else (some false)
theorem tabardlaw09_normals.mono : ∀ a0 a1 a2 a3 a4 a5 a6 a7 a8 a9 k, LeO (tabardlaw09_normals.f k a0 a1 a2 a3 a4 a5 a6 a7 a8 a9) (tabardlaw09_normals.f (k + 1) a0 a1 a2 a3 a4 a5 a6 a7 a8 a9) := by
  intro a0 a1 a2 a3 a4 a5 a6 a7 a8 a9 k
  unfold tabardlaw09_normals.f
  repeat' first
      | (with_reducible exact tabardlaw09_numbers.mono _ _ _)
      | (with_reducible exact tabardlaw09_same.mono _ _ _)
      | (with_reducible exact LeO.refl _)
      | (with_reducible exact LeO.none _)
      | (with_reducible refine LeO.ite ?_ ?_)
      | (with_reducible refine LeO.bind ?_ (fun _ => ?_))
      | exact tabardlaw09_numbers.mono _ _ _
      | exact tabardlaw09_same.mono _ _ _
      | exact LeO.none _
      | refine LeO.ite ?_ ?_
      | refine LeO.bind ?_ (fun _ => ?_)
set_option maxHeartbeats 8000000 in
set_option maxRecDepth 100000 in
theorem tabardlaw09_normals.calls (k : Nat) (a0_0 : Int) (A0_1 : Option Addr) (c0_1 : Nat) (l0_1 : List ByteArray) (A0_2 : Option Addr) (c0_2 : Nat) (l0_2 : List Int) (a0_3 : Int) (a0_4 : Int) (a1_0 : Int) (A1_1 : Option Addr) (c1_1 : Nat) (l1_1 : List ByteArray) (A1_2 : Option Addr) (c1_2 : Nat) (l1_2 : List Int) (a1_3 : Int) (a1_4 : Int) (r : Bool) (w : World) (hr0_1 : Kd.C Kd.string w A0_1 l0_1.length l0_1) (hc0_1 : l0_1.length ≤ c0_1) (hr0_2 : Kd.C (Kd.int .i64) w A0_2 l0_2.length l0_2) (hc0_2 : l0_2.length ≤ c0_2) (hr1_1 : Kd.C Kd.string w A1_1 l1_1.length l1_1) (hc1_1 : l1_1.length ≤ c1_1) (hr1_2 : Kd.C (Kd.int .i64) w A1_2 l1_2.length l1_2) (hc1_2 : l1_2.length ≤ c1_2) (h : tabardlaw09_normals.f k a0_0 l0_1 l0_2 a0_3 a0_4 a1_0 l1_1 l1_2 a1_3 a1_4 = some r) :
    Calls Try.prog 48 #[.agg #[.int .i64 a0_0, .slice A0_1 l0_1.length c0_1, .slice A0_2 l0_2.length c0_2, .int .i64 a0_3, .int .i64 a0_4], .agg #[.int .i64 a1_0, .slice A1_1 l1_1.length c1_1, .slice A1_2 l1_2.length c1_2, .int .i64 a1_3, .int .i64 a1_4]] w fun e w' => e = .returned (.bool r) ∧ Below w.heap.size w w' := by
  have hu58 := Try.underlying58
  have HR0_1 := mk hr0_1
  have HC0_1 := mk hc0_1
  clear hr0_1 hc0_1
  have HR0_2 := mk hr0_2
  have HC0_2 := mk hc0_2
  clear hr0_2 hc0_2
  have HR1_1 := mk hr1_1
  have HC1_1 := mk hc1_1
  clear hr1_1 hc1_1
  have HR1_2 := mk hr1_2
  have HC1_2 := mk hc1_2
  clear hr1_2 hc1_2
  have HB := mk (Below.refl w.heap.size w)
  have H : (if a0_0 = a1_0 then ((tabardlaw09_same.f k l0_1 l1_1).bind fun t844 => (if t844 = true then ((tabardlaw09_numbers.f k l0_2 l1_2).bind fun t845 => (if t845 = true then (if a0_3 = a1_3 then (some (a0_4 == a1_4)) else (some false)) else (some false))) else (some false))) else (some false)) = some r := h
  clear h
  by_cases c3 : a0_0 = a1_0
  · rw [if_pos c3] at H
    have c3b0 := eT_ c3
    have c3b1 := nF_ c3
    clear c3
    replace H := Option.bind_eq_some_iff.mp H
    obtain ⟨t844, A40, H⟩ := H
    replace H : (if t844 = true then ((tabardlaw09_numbers.f k l0_2 l1_2).bind fun t845 => (if t845 = true then (if a0_3 = a1_3 then (some (a0_4 == a1_4)) else (some false)) else (some false))) else (some false)) = some r := H
    have A4 := mk A40
    clear A40
    by_cases c5 : t844 = true
    · subst c5; (have H1 : ((tabardlaw09_numbers.f k l0_2 l1_2).bind fun t845 => (if t845 = true then (if a0_3 = a1_3 then (some (a0_4 == a1_4)) else (some false)) else (some false))) = some r := by rw [if_pos rfl] at H; exact H); clear H; (have H := H1); clear H1; (replace H := Option.bind_eq_some_iff.mp H); (obtain ⟨t845, A60, H⟩ := H); (replace H : (if t845 = true then (if a0_3 = a1_3 then (some (a0_4 == a1_4)) else (some false)) else (some false)) = some r := H); (have A6 := mk A60); clear A60; (by_cases c7 : t845 = true)
      · subst c7; (have H1 : (if a0_3 = a1_3 then (some (a0_4 == a1_4)) else (some false)) = some r := by rw [if_pos rfl] at H; exact H); clear H; (have H := H1); clear H1; replace H := ic_ H; obtain ⟨c8, H⟩ | ⟨c8, H⟩ := H
        · (obtain ⟨c8b0, c8b1⟩ := eTn_ c8); clear c8; (obtain rfl := Option.some.inj H); (go_enter Try.func48, Try.ntmps48); (go_wp2_with (first | ((with_reducible refine gate_dst (N := 2) rfl ?_); refine box_event ?hg (N := 2) ?hd (cs := #[.int .i64 a0_0, .slice A0_1 l0_1.length c0_1, .slice A0_2 l0_2.length c0_2, .int .i64 a0_3, .int .i64 a0_4]) (t := 58) ?hr ?_; (case hd => rfl); (case hg => rfl); (case hr => exact kq11); intro gb842 hg w9 hbox hb; have BK842 := mk (hbox); have GW842 := (gs_ hg kq9); have GE842 := GW842; replace HB := mk (below_step kq9 hb); clear hb hbox hg) | ((with_reducible refine gate_dst (N := 3) rfl ?_); refine box_event ?hg (N := 3) ?hd (cs := #[.int .i64 a1_0, .slice A1_1 l1_1.length c1_1, .slice A1_2 l1_2.length c1_2, .int .i64 a1_3, .int .i64 a1_4]) (t := 58) ?hr ?_; (case hd => rfl); (case hg => rfl); (case hr => exact kq11); intro gb843 hg w10 hbox hb; have BK843 := mk (hbox); have GW843 := (gs_ hg (kq16 GE842)); have GE843 := GW843; have NB842_843 := (nl_ hg BK842); have NB843_842 := (ng_ hg BK842); replace BK842 := (bb_ BK842 hb); replace HB := mk (below_step (kq16 GE842) hb); clear hb hbox hg; have hnb11 := NB842_843.out; have hnc11 := NB843_842.out; obtain ⟨_, _, _, _, _, _, _, _, _, _⟩ := cz5_ BK842.out; obtain ⟨_, _, _, _, _, _, _, _, _, _⟩ := cz5_ BK843.out) | (go_at_call 51; (with_reducible refine (tabardlaw09_same.calls k _ _ l0_1 _ _ l1_1 true _ ?side1 ?side2 ?side3 ?side4 A4.out).mono ?_); (case side1 => exact kq17 HR0_1); (case side2 => exact HC0_1.out); (case side3 => exact kq17 HR1_1); (case side4 => exact HC1_1.out); rintro e w' ⟨rfl, ⟨nd, rfl⟩⟩) | (go_at_call 52; (with_reducible refine (tabardlaw09_numbers.calls k _ _ l0_2 _ _ l1_2 true _ ?side1 ?side2 ?side3 ?side4 A6.out).mono ?_); (case side1 => exact kq106 HR0_2 GE842 GE843); (case side2 => exact HC0_2.out); (case side3 => exact kq106 HR1_2 GE842 GE843); (case side4 => exact HC1_2.out); rintro e w' ⟨rfl, ⟨nd, rfl⟩⟩))); go_ret; (exact ⟨kq14, (kq23 GE842 GE843)⟩)
        · (obtain ⟨c8b0, c8b1⟩ := eFn_ c8); (obtain rfl := Option.some.inj H); (go_enter Try.func48, Try.ntmps48); (go_wp2_with (first | ((with_reducible refine gate_dst (N := 2) rfl ?_); refine box_event ?hg (N := 2) ?hd (cs := #[.int .i64 a0_0, .slice A0_1 l0_1.length c0_1, .slice A0_2 l0_2.length c0_2, .int .i64 a0_3, .int .i64 a0_4]) (t := 58) ?hr ?_; (case hd => rfl); (case hg => rfl); (case hr => exact kq11); intro gb842 hg w14 hbox hb; have BK842 := mk (hbox); have GW842 := (gs_ hg kq9); have GE842 := GW842; replace HB := mk (below_step kq9 hb); clear hb hbox hg) | ((with_reducible refine gate_dst (N := 3) rfl ?_); refine box_event ?hg (N := 3) ?hd (cs := #[.int .i64 a1_0, .slice A1_1 l1_1.length c1_1, .slice A1_2 l1_2.length c1_2, .int .i64 a1_3, .int .i64 a1_4]) (t := 58) ?hr ?_; (case hd => rfl); (case hg => rfl); (case hr => exact kq11); intro gb843 hg w15 hbox hb; have BK843 := mk (hbox); have GW843 := (gs_ hg (kq16 GE842)); have GE843 := GW843; have NB842_843 := (nl_ hg BK842); have NB843_842 := (ng_ hg BK842); replace BK842 := (bb_ BK842 hb); replace HB := mk (below_step (kq16 GE842) hb); clear hb hbox hg; have hnb16 := NB842_843.out; have hnc16 := NB843_842.out; obtain ⟨_, _, _, _, _, _, _, _, _, _⟩ := cz5_ BK842.out; obtain ⟨_, _, _, _, _, _, _, _, _, _⟩ := cz5_ BK843.out) | (go_at_call 51; (with_reducible refine (tabardlaw09_same.calls k _ _ l0_1 _ _ l1_1 true _ ?side1 ?side2 ?side3 ?side4 A4.out).mono ?_); (case side1 => exact kq17 HR0_1); (case side2 => exact HC0_1.out); (case side3 => exact kq17 HR1_1); (case side4 => exact HC1_1.out); rintro e w' ⟨rfl, ⟨nd, rfl⟩⟩) | (go_at_call 52; (with_reducible refine (tabardlaw09_numbers.calls k _ _ l0_2 _ _ l1_2 true _ ?side1 ?side2 ?side3 ?side4 A6.out).mono ?_); (case side1 => exact kq106 HR0_2 GE842 GE843); (case side2 => exact HC0_2.out); (case side3 => exact kq106 HR1_2 GE842 GE843); (case side4 => exact HC1_2.out); rintro e w' ⟨rfl, ⟨nd, rfl⟩⟩))); go_ret; (exact ⟨kq14, (kq23 GE842 GE843)⟩)
      · (replace c7 := Bool.eq_false_iff.mpr c7); subst c7; (have H1 : (some false) = some r := by rw [if_neg (show ¬ (false = true) by decide)] at H; exact H); clear H; (have H := H1); clear H1; (obtain rfl := Option.some.inj H); (go_enter Try.func48, Try.ntmps48); (go_wp2_with (first | ((with_reducible refine gate_dst (N := 2) rfl ?_); refine box_event ?hg (N := 2) ?hd (cs := #[.int .i64 a0_0, .slice A0_1 l0_1.length c0_1, .slice A0_2 l0_2.length c0_2, .int .i64 a0_3, .int .i64 a0_4]) (t := 58) ?hr ?_; (case hd => rfl); (case hg => rfl); (case hr => exact kq11); intro gb842 hg w19 hbox hb; have BK842 := mk (hbox); have GW842 := (gs_ hg kq9); have GE842 := GW842; replace HB := mk (below_step kq9 hb); clear hb hbox hg) | ((with_reducible refine gate_dst (N := 3) rfl ?_); refine box_event ?hg (N := 3) ?hd (cs := #[.int .i64 a1_0, .slice A1_1 l1_1.length c1_1, .slice A1_2 l1_2.length c1_2, .int .i64 a1_3, .int .i64 a1_4]) (t := 58) ?hr ?_; (case hd => rfl); (case hg => rfl); (case hr => exact kq11); intro gb843 hg w20 hbox hb; have BK843 := mk (hbox); have GW843 := (gs_ hg (kq16 GE842)); have GE843 := GW843; have NB842_843 := (nl_ hg BK842); have NB843_842 := (ng_ hg BK842); replace BK842 := (bb_ BK842 hb); replace HB := mk (below_step (kq16 GE842) hb); clear hb hbox hg; have hnb21 := NB842_843.out; have hnc21 := NB843_842.out; obtain ⟨_, _, _, _, _, _, _, _, _, _⟩ := cz5_ BK842.out; obtain ⟨_, _, _, _, _, _, _, _, _, _⟩ := cz5_ BK843.out) | (go_at_call 51; (with_reducible refine (tabardlaw09_same.calls k _ _ l0_1 _ _ l1_1 true _ ?side1 ?side2 ?side3 ?side4 A4.out).mono ?_); (case side1 => exact kq17 HR0_1); (case side2 => exact HC0_1.out); (case side3 => exact kq17 HR1_1); (case side4 => exact HC1_1.out); rintro e w' ⟨rfl, ⟨nd, rfl⟩⟩) | (go_at_call 52; (with_reducible refine (tabardlaw09_numbers.calls k _ _ l0_2 _ _ l1_2 false _ ?side1 ?side2 ?side3 ?side4 A6.out).mono ?_); (case side1 => exact kq106 HR0_2 GE842 GE843); (case side2 => exact HC0_2.out); (case side3 => exact kq106 HR1_2 GE842 GE843); (case side4 => exact HC1_2.out); rintro e w' ⟨rfl, ⟨nd, rfl⟩⟩))); go_ret; (exact ⟨kq14, (kq23 GE842 GE843)⟩)
    · (replace c5 := Bool.eq_false_iff.mpr c5); subst c5; (have H1 : (some false) = some r := by rw [if_neg (show ¬ (false = true) by decide)] at H; exact H); clear H; (have H := H1); clear H1; (obtain rfl := Option.some.inj H); (go_enter Try.func48, Try.ntmps48); (go_wp2_with (first | ((with_reducible refine gate_dst (N := 2) rfl ?_); refine box_event ?hg (N := 2) ?hd (cs := #[.int .i64 a0_0, .slice A0_1 l0_1.length c0_1, .slice A0_2 l0_2.length c0_2, .int .i64 a0_3, .int .i64 a0_4]) (t := 58) ?hr ?_; (case hd => rfl); (case hg => rfl); (case hr => exact kq11); intro gb842 hg w24 hbox hb; have BK842 := mk (hbox); have GW842 := (gs_ hg kq9); have GE842 := GW842; replace HB := mk (below_step kq9 hb); clear hb hbox hg) | ((with_reducible refine gate_dst (N := 3) rfl ?_); refine box_event ?hg (N := 3) ?hd (cs := #[.int .i64 a1_0, .slice A1_1 l1_1.length c1_1, .slice A1_2 l1_2.length c1_2, .int .i64 a1_3, .int .i64 a1_4]) (t := 58) ?hr ?_; (case hd => rfl); (case hg => rfl); (case hr => exact kq11); intro gb843 hg w25 hbox hb; have BK843 := mk (hbox); have GW843 := (gs_ hg (kq16 GE842)); have GE843 := GW843; have NB842_843 := (nl_ hg BK842); have NB843_842 := (ng_ hg BK842); replace BK842 := (bb_ BK842 hb); replace HB := mk (below_step (kq16 GE842) hb); clear hb hbox hg; have hnb26 := NB842_843.out; have hnc26 := NB843_842.out; obtain ⟨_, _, _, _, _, _, _, _, _, _⟩ := cz5_ BK842.out; obtain ⟨_, _, _, _, _, _, _, _, _, _⟩ := cz5_ BK843.out) | (go_at_call 51; (with_reducible refine (tabardlaw09_same.calls k _ _ l0_1 _ _ l1_1 false _ ?side1 ?side2 ?side3 ?side4 A4.out).mono ?_); (case side1 => exact kq17 HR0_1); (case side2 => exact HC0_1.out); (case side3 => exact kq17 HR1_1); (case side4 => exact HC1_1.out); rintro e w' ⟨rfl, ⟨nd, rfl⟩⟩))); go_ret; (exact ⟨kq14, (kq23 GE842 GE843)⟩)
  · rw [if_neg c3] at H
    have c3b0 := eF_ c3
    have c3b1 := nT_ c3
    obtain rfl := Option.some.inj H
    go_enter Try.func48, Try.ntmps48
    go_wp2_with (first | ((with_reducible refine gate_dst (N := 2) rfl ?_); refine box_event ?hg (N := 2) ?hd (cs := #[.int .i64 a0_0, .slice A0_1 l0_1.length c0_1, .slice A0_2 l0_2.length c0_2, .int .i64 a0_3, .int .i64 a0_4]) (t := 58) ?hr ?_; (case hd => rfl); (case hg => rfl); (case hr => exact kq11); intro gb842 hg w29 hbox hb; have BK842 := mk (hbox); have GW842 := (gs_ hg kq9); have GE842 := GW842; replace HB := mk (below_step kq9 hb); clear hb hbox hg) | ((with_reducible refine gate_dst (N := 3) rfl ?_); refine box_event ?hg (N := 3) ?hd (cs := #[.int .i64 a1_0, .slice A1_1 l1_1.length c1_1, .slice A1_2 l1_2.length c1_2, .int .i64 a1_3, .int .i64 a1_4]) (t := 58) ?hr ?_; (case hd => rfl); (case hg => rfl); (case hr => exact kq11); intro gb843 hg w30 hbox hb; have BK843 := mk (hbox); have GW843 := (gs_ hg (kq16 GE842)); have GE843 := GW843; have NB842_843 := (nl_ hg BK842); have NB843_842 := (ng_ hg BK842); replace BK842 := (bb_ BK842 hb); replace HB := mk (below_step (kq16 GE842) hb); clear hb hbox hg; have hnb31 := NB842_843.out; have hnc31 := NB843_842.out; obtain ⟨_, _, _, _, _, _, _, _, _, _⟩ := cz5_ BK842.out; obtain ⟨_, _, _, _, _, _, _, _, _, _⟩ := cz5_ BK843.out))
    go_ret
    exact ⟨kq14, (kq23 GE842 GE843)⟩
end Go.Proofs.Ytjknpmibdkoklaa.Q
set_option maxRecDepth 100000
namespace Go.Proofs.Ytjknpmibdkoklaa.Q
open Go.RowKit Go.Proofs.YtjknpmibdkoklaaW.PrintWords Go.Proofs.YtjknpmibdkoklaaW.PrintLast Go.Proofs.YtjknpmibdkoklaaW.PrintMore
theorem fixed9_true : tabardlaw09_fixed.f 20 = some true := by decide +kernel
theorem fixed9_ev : Ev (fun k => tabardlaw09_fixed.f k) true := Ev.of (fun k => tabardlaw09_fixed.mono k) fixed9_true
theorem same9_loop (a b : List ByteArray) (hab : a.length = b.length) (hl : a.length < 4611686018427387904) : ∀ (n i : Nat), i ≤ a.length → a.length - i = n → Ev (fun k => tabardlaw09_same.l0 k a b (a.length : Int) (i : Int)) (decide (a.drop i = b.drop i))
  | 0, i, hi, hn => by
    rw [List.drop_of_length_le kq1, List.drop_of_length_le kq1]
    exact Ev.step (f := fun _ => some true) (fun k => by
      show tabardlaw09_same.l0 (k + 1) a b (a.length : Int) (i : Int) = _
      rw [tabardlaw09_same.l0, if_neg kq1]) (Ev.now _)
  | n + 1, i, hi, hn => by
    have hlt : i < a.length := by omega
    have ih := same9_loop a b hab hl n (i + 1) kq1 kq1
    have hw : wrap64 ((i : Int) + 1) = ((i + 1 : Nat) : Int) := by unfold wrap64; omega
    rw [List.drop_eq_getElem_cons hlt, List.drop_eq_getElem_cons (show i < b.length by omega)]
    by_cases h : a[i] = b[i]
    · refine Ev.step (f := fun k => tabardlaw09_same.l0 k a b (a.length : Int) ((i + 1 : Nat) : Int)) (fun k => ?_) ?_
      · show tabardlaw09_same.l0 (k + 1) a b (a.length : Int) (i : Int) = _
        rw [tabardlaw09_same.l0, if_pos kq1, if_pos kq1, if_pos kq1, if_pos kq1, rd_nat hlt, rd_nat (show i < b.length by omega), if_pos (by rw [h]), hw]
      · rw [h, show decide (b[i] :: a.drop (i + 1) = b[i] :: b.drop (i + 1)) = decide (a.drop (i + 1) = b.drop (i + 1)) from decide_eq_decide.2 ⟨fun e => (List.cons.inj e).2, fun e => by rw [e]⟩]
        exact ih
    · refine Ev.step (f := fun _ => some false) (fun k => ?_) ?_
      · show tabardlaw09_same.l0 (k + 1) a b (a.length : Int) (i : Int) = _
        rw [tabardlaw09_same.l0, if_pos kq1, if_pos kq1, if_pos kq1, if_pos kq1, rd_nat hlt, rd_nat (show i < b.length by omega), if_neg (fun e => h (bl_inj (by rw [← bl_eq, ← bl_eq, e])))]
      · rw [decide_eq_false (fun e => h (List.cons.inj e).1)]
        exact Ev.now _
theorem same9_ev (a b : List ByteArray) (hl : a.length < 4611686018427387904) : Ev (fun k => tabardlaw09_same.f k a b) (decide (a = b)) := by
  unfold tabardlaw09_same.f
  by_cases h : a.length = b.length
  · refine Ev.congr (fun k => if_pos kq1) ?_
    exact same9_loop a b h hl _ 0 (Nat.zero_le _) rfl
  · refine Ev.congr (fun k => if_neg kq1) ?_
    rw [decide_eq_false (fun e => h (by rw [e]))]
    exact Ev.now _
theorem numbers9_loop (a b : List Int) (hab : a.length = b.length) (hl : a.length < 4611686018427387904) : ∀ (n i : Nat), i ≤ a.length → a.length - i = n → Ev (fun k => tabardlaw09_numbers.l0 k a b (a.length : Int) (i : Int)) (decide (a.drop i = b.drop i))
  | 0, i, hi, hn => by
    rw [List.drop_of_length_le kq1, List.drop_of_length_le kq1]
    exact Ev.step (f := fun _ => some true) (fun k => by
      show tabardlaw09_numbers.l0 (k + 1) a b (a.length : Int) (i : Int) = _
      rw [tabardlaw09_numbers.l0, if_neg kq1]) (Ev.now _)
  | n + 1, i, hi, hn => by
    have hlt : i < a.length := by omega
    have ih := numbers9_loop a b hab hl n (i + 1) kq1 kq1
    have hw : wrap64 ((i : Int) + 1) = ((i + 1 : Nat) : Int) := by unfold wrap64; omega
    rw [List.drop_eq_getElem_cons hlt, List.drop_eq_getElem_cons (show i < b.length by omega)]
    by_cases h : a[i] = b[i]
    · refine Ev.step (f := fun k => tabardlaw09_numbers.l0 k a b (a.length : Int) ((i + 1 : Nat) : Int)) (fun k => ?_) ?_
      · show tabardlaw09_numbers.l0 (k + 1) a b (a.length : Int) (i : Int) = _
        rw [tabardlaw09_numbers.l0, if_pos kq1, if_pos kq1, if_pos kq1, if_pos kq1, rd_of_lt hlt, rd_of_lt (show i < b.length by omega), if_pos h, hw]
      · rw [h, show decide (b[i] :: a.drop (i + 1) = b[i] :: b.drop (i + 1)) = decide (a.drop (i + 1) = b.drop (i + 1)) from decide_eq_decide.2 ⟨fun e => (List.cons.inj e).2, fun e => by rw [e]⟩]
        exact ih
    · refine Ev.step (f := fun _ => some false) (fun k => ?_) ?_
      · show tabardlaw09_numbers.l0 (k + 1) a b (a.length : Int) (i : Int) = _
        rw [tabardlaw09_numbers.l0, if_pos kq1, if_pos kq1, if_pos kq1, if_pos kq1, rd_of_lt hlt, rd_of_lt (show i < b.length by omega), if_neg h]
      · rw [decide_eq_false (fun e => h (List.cons.inj e).1)]
        exact Ev.now _
theorem numbers9_ev (a b : List Int) (hl : a.length < 4611686018427387904) : Ev (fun k => tabardlaw09_numbers.f k a b) (decide (a = b)) := by
  unfold tabardlaw09_numbers.f
  by_cases h : a.length = b.length
  · refine Ev.congr (fun k => if_pos kq1) ?_
    exact numbers9_loop a b h hl _ 0 (Nat.zero_le _) rfl
  · refine Ev.congr (fun k => if_neg kq1) ?_
    rw [decide_eq_false (fun e => h (by rw [e]))]
    exact Ev.now _
theorem normals_ev (k1 : Int) (n1 : List ByteArray) (c1 : List Int) (b1 m1 : Int) (k2 : Int) (n2 : List ByteArray) (c2 : List Int) (b2 m2 : Int) (hn : n1.length < 4611686018427387904) (hc : c1.length < 4611686018427387904) :
    Ev (fun k => tabardlaw09_normals.f k k1 n1 c1 b1 m1 k2 n2 c2 b2 m2) (decide (k1 = k2 ∧ n1 = n2 ∧ c1 = c2 ∧ b1 = b2 ∧ m1 = m2)) := by
  unfold tabardlaw09_normals.f
  by_cases hk : k1 = k2
  · refine Ev.congr (fun k => if_pos hk) (Ev.bind (same9_ev n1 n2 hn) ?_)
    by_cases h1 : n1 = n2
    · refine Ev.congr (fun k => if_pos (decide_eq_true h1)) (Ev.bind (numbers9_ev c1 c2 hc) ?_)
      by_cases h2 : c1 = c2
      · refine Ev.congr (fun k => if_pos (decide_eq_true h2)) ?_
        by_cases h3 : b1 = b2
        · refine Ev.congr (fun k => if_pos h3) ?_
          rw [show decide (k1 = k2 ∧ n1 = n2 ∧ c1 = c2 ∧ b1 = b2 ∧ m1 = m2) = (m1 == m2) by simp [hk, h1, h2, h3]; rfl]
          exact Ev.now _
        · refine Ev.congr (fun k => if_neg h3) ?_
          rw [decide_eq_false (fun h => h3 h.2.2.2.1)]
          exact Ev.now _
      · refine Ev.congr (fun k => if_neg (by simp [h2])) ?_
        rw [decide_eq_false (fun h => h2 h.2.2.1)]
        exact Ev.now _
    · refine Ev.congr (fun k => if_neg (by simp [h1])) ?_
      rw [decide_eq_false (fun h => h1 h.2.1)]
      exact Ev.now _
  · refine Ev.congr (fun k => if_neg hk) ?_
    rw [decide_eq_false (fun h => hk h.1)]
    exact Ev.now _
theorem rrises_loop (l : List ByteArray) (hl : l.length < 4611686018427387904) (hs : ∀ s ∈ l, s.size ≤ 140737488351232) : ∀ (n i : Nat), i ≤ l.length → l.length - i = n → Ev (fun k => tabardref04_Rises.l0 k l (i : Int)) (risesB (prevS l i) (l.drop i))
  | 0, i, hi, hn => by
    rw [List.drop_of_length_le kq1]
    exact Ev.step (f := fun _ => some true) (fun k => by
      show tabardref04_Rises.l0 (k + 1) l (i : Int) = _
      conv => lhs; unfold tabardref04_Rises.l0
      rw [if_neg kq1]) (Ev.now _)
  | n + 1, i, hi, hn => by
    have hlt : i < l.length := by omega
    have ih := rrises_loop l hl hs n (i + 1) kq1 kq1
    rw [prevS_succ hlt] at ih
    rw [List.drop_eq_getElem_cons hlt]
    have hw : wrap64 ((i : Int) + 1) = ((i + 1 : Nat) : Int) := by unfold wrap64; omega
    have hw2 : wrap64 ((i : Int) - 1) = (i : Int) - 1 := by unfold wrap64; omega
    obtain ⟨q, hq⟩ : ∃ q : Bool, q = (match prevS l i with | none => true | some y => decide (bl y < bl l[i])) := ⟨_, rfl⟩
    have hrb : risesB (prevS l i) (l[i] :: l.drop (i + 1)) = (nameB l[i] && (q && risesB (some l[i]) (l.drop (i + 1)))) := by
      subst hq
      cases prevS l i with
      | none => rw [risesB]
      | some y => rw [risesB]
    have step : ∀ k, tabardref04_Rises.l0 (k + 1) l (i : Int) = (tabardref04_Name.f k l[i]).bind fun t => (if t = true then (if q = true then tabardref04_Rises.l0 k l ((i + 1 : Nat) : Int) else some false) else some false) := fun k => by
      conv => lhs; unfold tabardref04_Rises.l0
      rw [if_pos kq1, if_pos kq1, rd_nat hlt, hw]
      congr 1
      funext t
      by_cases hnm : t = true
      · rw [if_pos hnm, if_pos hnm]
        by_cases h0 : i = 0
        · subst h0
          rw [if_neg kq1, if_pos (by rw [hq]; rfl)]
        · have hp : prevS l i = some l[i - 1] := by
            unfold prevS
            rw [if_neg h0]
            exact List.getElem?_eq_getElem kq1
          rw [if_pos kq1, hw2, if_pos kq1, if_pos kq1, show (i : Int) - 1 = ((i - 1 : Nat) : Int) by omega, rd_nat kq1, less_eq, show q = decide (bl l[i - 1] < bl l[i]) by rw [hq, hp]]
      · rw [if_neg hnm, if_neg hnm]
    refine Ev.step step ?_
    rw [hrb]
    refine Ev.bind (name_spec _ (hs _ (List.getElem_mem hlt))) ?_
    by_cases h1 : nameB l[i] = true
    · refine Ev.congr (fun k => if_pos h1) ?_
      rw [h1, Bool.true_and]
      by_cases h2 : q = true
      · refine Ev.congr (fun k => if_pos h2) ?_
        rw [h2, Bool.true_and]
        exact ih
      · refine Ev.congr (fun k => if_neg h2) ?_
        rw [Bool.eq_false_iff.mpr h2, Bool.false_and]
        exact Ev.now _
    · refine Ev.congr (fun k => if_neg h1) ?_
      rw [Bool.eq_false_iff.mpr h1, Bool.false_and]
      exact Ev.now _
theorem rrises_ev (l : List ByteArray) (hl : l.length < 4611686018427387904) (hs : ∀ s ∈ l, s.size ≤ 140737488351232) : Ev (fun k => tabardref04_Rises.f k l) (risesB none l) := rrises_loop l hl hs _ 0 (Nat.zero_le _) rfl
end Go.Proofs.Ytjknpmibdkoklaa.Q
set_option maxRecDepth 100000
namespace Go.Proofs.Ytjknpmibdkoklaa.Q
open Go.ChangeShapes Go.WideShapes Go.RowKit Go.Proofs.YtjknpmibdkoklaaW.PrintWords Go.Proofs.YtjknpmibdkoklaaW.PrintLast Go.Proofs.YtjknpmibdkoklaaW.PrintMore
def fitI (n : Int) : Prop := -9223372036854775808 ≤ n ∧ n ≤ 9223372036854775807
theorem list_of {α : Type} {R : Nat → α → Prop} : ∀ n, (∀ i, i < n → ∃ p, R i p) → ∃ l : List α, l.length = n ∧ ∀ i p, l[i]? = some p → R i p
  | 0, _ => ⟨[], rfl, fun i p h => by simp at h⟩
  | n + 1, h => by
    obtain ⟨l, hl, hr⟩ := list_of n (fun i hi => h i kq1)
    obtain ⟨p, hp⟩ := h n kq1
    refine ⟨l ++ [p], by simp [hl], fun i q hq => ?_⟩
    by_cases hi : i < l.length
    · rw [List.getElem?_append_left hi] at hq
      exact hr i q hq
    · have h2 := (List.getElem?_eq_some_iff.1 hq).1
      simp at h2
      obtain rfl : i = n := by omega
      rw [List.getElem?_append_right kq1, hl] at hq
      simp at hq
      subst hq
      exact hp
section
variable {H : Type} {enc : TypeId × Value → H} {W : World} {base : Nat} {spare : Nat → Bool} {held : Bool}
theorem row_arg {α : Type} {P : Program} (d : Kd α) (Q : α → Prop) (B : Nat) {t e : TypeId} {fuel : Nat} {cs : List Value} {x : DataW H × List MemPlace} (hu : P.underlying t = some (.slice e)) (hsz : P.cellsOf e = d.sz) (hB : P.bytesOf e = B)
    (ih : ∀ n, n < fuel → ∀ cs x, DataW.trod enc P W base spare held n e cs = some x → (∀ m ∈ x.1.weights P e, m ≤ reachBytes) → ∃ p, d.K W p cs ∧ cs.length = d.sz ∧ Q p)
    (h : DataW.trod enc P W base spare held fuel t cs = some x) (hw : ∀ m ∈ x.1.weights P t, m ≤ reachBytes) :
    ∃ A l c, cs = [.slice A l.length c] ∧ l.length ≤ c ∧ d.C W A l.length l ∧ l.length * B ≤ 140737488351232 ∧ ∀ p ∈ l, Q p := by
  rcases DataW.trod_slice hu h with ⟨rfl, _⟩ | ⟨a, len, cap, elems, rest, n, rfl, rfl, rfl, _, hl, hm, hlen, hel, _, _⟩
  · exact ⟨none, [], 0, rfl, by simp, ⟨rfl, Nat.zero_le _, fun h => absurd h (Nat.lt_irrefl 0)⟩, by simp, fun p hp => absurd hp List.not_mem_nil⟩
  · have hm2 : maxLen = 9223372036854775807 := rfl
    have hr : reachBytes = 140737488351232 := rfl
    obtain ⟨l, hll, hR⟩ := list_of (R := fun i p => ∃ c, c.length = d.sz ∧ d.K W p c ∧ (∀ j u, c[j]? = some u → W.cell? (a.add (i * d.sz + j)) = some u) ∧ Q p) len (fun i hi => by
      have h1 := hel i hi
      rw [List.getElem?_eq_getElem kq1, Option.bind_eq_some_iff] at h1
      obtain ⟨c, hc, ht⟩ := h1
      obtain ⟨_, hcl, hcc⟩ := World.cells?_some hc
      obtain ⟨p, hK, hl, hQ⟩ := ih n kq1 c _ ht (fun m hmm => hw m (Open.mem_weights_slice hu (List.mem_map.2 ⟨_, List.getElem_mem kq1, rfl⟩) hmm))
      refine ⟨p, c, hl, hK, fun j u hj => ?_, hQ⟩
      have hjl := (List.getElem?_eq_some_iff.1 hj).1
      have := hcc j kq1
      rw [Addr.add_add, hsz, hj] at this
      exact this)
    have hb := hw ((elems.map (·.1)).length * B + (rest.map (·.1)).length * B) (by
      simp only [DataW.weights, hu, hB]
      rw [← Nat.add_mul]
      exact List.mem_cons_self ..)
    rw [List.length_map, hlen, hr] at hb
    refine ⟨some a, l, cap, by rw [hll], kq1, ⟨rfl, kq1, fun _ => ⟨a, rfl, fun j p hj => ?_⟩⟩, by rw [hll]; omega, fun p hp => ?_⟩
    · obtain ⟨c, h1, h2, h3, _⟩ := hR j p hj
      exact ⟨c, h1, h2, h3⟩
    · obtain ⟨j, hj⟩ := List.mem_iff_getElem?.1 hp
      obtain ⟨c, _, _, _, h4⟩ := hR j p hj
      exact h4
theorem int_arg {P : Program} {t : TypeId} {n : Nat} {cs : List Value} {x : DataW H × List MemPlace} (hu : P.underlying t = some (.int .i64)) (h : DataW.trod enc P W base spare held n t cs = some x) : ∃ a, cs = [.int .i64 a] ∧ fitI a := by
  obtain ⟨a, h1, _, h3⟩ := DataW.trod_int hu h
  exact ⟨a, h1, (Lit.wf_int_iff .i64 a).1 h3⟩
theorem str_arg {P : Program} {t : TypeId} {n : Nat} {cs : List Value} {x : DataW H × List MemPlace} (hu : P.underlying t = some .string) (h : DataW.trod enc P W base spare held n t cs = some x) (hw : ∀ m ∈ x.1.weights P t, m ≤ reachBytes) : ∃ s, cs = [.string s] ∧ s.size ≤ 140737488351232 := by
  obtain ⟨s, h1, rfl, _⟩ := DataW.trod_string hu h
  refine ⟨s, h1, ?_⟩
  have z := hw s.data.toList.length (by simp [DataW.weights])
  have hr : reachBytes = 140737488351232 := rfl
  have hs2 : s.size = s.data.toList.length := by simp
  omega
theorem five {α : Type} {l : List α} (h : l.length = 5) : ∃ a b c d e, l = [a, b, c, d, e] := by
  match l, h with
  | [a, b, c, d, e], _ => exact ⟨a, b, c, d, e, rfl⟩
end
end Go.Proofs.Ytjknpmibdkoklaa.Q
