/- Functions of the given program as Lean functions, each with its contract, and what they answer; words for it. No condition but those of each. -/
import Derived.Test.YtjknpmibdkoklaaPCS
import Derived.Test.YtjknpmibdkoklaaPC3
import Derived.Lib.OthersKept
import Derived.Laws.RangeAny
import Derived.LoopTactic
import Derived.Test.YtjknpmibdkoklaaPC4
import Derived.Shelf.Abstract
import Derived.Test.YtjknpmibdkoklaaPC2
import Derived.Laws.Strings
set_option linter.unusedVariables false
set_option linter.unusedSimpArgs false
namespace Go.Proofs.Ytjknpmibdkoklaa.U
open Go.RowKit Go.Proofs.YtjknpmibdkoklaaW.PrintWords Go.Proofs.YtjknpmibdkoklaaW.PrintLast Go.Proofs.YtjknpmibdkoklaaW.PrintMore
open Aside0 (mk)
open List (setIfInBounds_toArray set_cons_zero set_cons_succ)
attribute [local go_sem] max2_int min2_int max_two min_two max_three min_three max_four min_four
set_option linter.unusedVariables false
set_option linter.unusedSimpArgs false
attribute [local go_sem] fld99_2 fld103_2 fld172_1
def glyph_Rest.f (k : Nat) (a0 : Int) : Option (Bool) := (glyph_Start.f k a0).bind fun t101 => (if t101 = true then (some true) else (if a0 ≥ 48 then (if a0 ≤ 57 then (some true) else (if a0 = 8242 then (some true) else (if a0 ≥ 8320 then (some (decide (a0 ≤ 8329))) else (some false)))) else (if a0 = 8242 then (some true) else (if a0 ≥ 8320 then (some (decide (a0 ≤ 8329))) else (some false)))))
theorem glyph_Rest.mono : ∀ a0 k, LeO (glyph_Rest.f k a0) (glyph_Rest.f (k + 1) a0) := by
  intro a0 k
  unfold glyph_Rest.f
  repeat' first
      | (with_reducible exact glyph_Start.mono _ _)
      | (with_reducible exact LeO.refl _)
      | (with_reducible exact LeO.none _)
      | (with_reducible refine LeO.ite ?_ ?_)
      | (with_reducible refine LeO.bind ?_ (fun _ => ?_))
      | exact glyph_Start.mono _ _
      | exact LeO.none _
      | refine LeO.ite ?_ ?_
      | refine LeO.bind ?_ (fun _ => ?_)
set_option maxHeartbeats 8000000 in
set_option maxRecDepth 100000 in
theorem glyph_Rest.calls (k : Nat) (a0 : Int) (r : Bool) (w : World) (h : glyph_Rest.f k a0 = some r) :
    Calls Try.prog 78 #[.int .i32 a0] w fun e w' => e = .returned (.bool r) ∧ Drawn0 w w' := by
  have H : ((glyph_Start.f k a0).bind fun t101 => (if t101 = true then (some true) else (if a0 ≥ 48 then (if a0 ≤ 57 then (some true) else (if a0 = 8242 then (some true) else (if a0 ≥ 8320 then (some (decide (a0 ≤ 8329))) else (some false)))) else (if a0 = 8242 then (some true) else (if a0 ≥ 8320 then (some (decide (a0 ≤ 8329))) else (some false)))))) = some r := h
  clear h
  replace H := Option.bind_eq_some_iff.mp H
  obtain ⟨t101, A20, H⟩ := H
  replace H : (if t101 = true then (some true) else (if a0 ≥ 48 then (if a0 ≤ 57 then (some true) else (if a0 = 8242 then (some true) else (if a0 ≥ 8320 then (some (decide (a0 ≤ 8329))) else (some false)))) else (if a0 = 8242 then (some true) else (if a0 ≥ 8320 then (some (decide (a0 ≤ 8329))) else (some false))))) = some r := H
  have A2 := mk A20
  clear A20
  by_cases c3 : t101 = true
  · subst c3
    have H1 : (some true) = some r := by rw [if_pos rfl] at H; exact H
    clear H
    have H := H1
    clear H1
    obtain rfl := Option.some.inj H
    go_enter Try.func78, Try.ntmps78
    go_wp2_with (first | ((with_reducible refine gate_callee (f := 77) rfl ?_); refine goesL_ (some 4) rfl rfl Try.func77 kq0 rfl #[.int .i32 a0] rfl kq14 ?_; (with_reducible refine (glyph_Start.calls k a0 true _ A2.out).mono ?_); rintro e w' ⟨rfl, ⟨nd, rfl⟩⟩; refine ⟨_, rfl, ?_⟩))
    go_ret
    exact ⟨kq10, kq12⟩
  · replace c3 := Bool.eq_false_iff.mpr c3
    subst c3
    have H1 : (if a0 ≥ 48 then (if a0 ≤ 57 then (some true) else (if a0 = 8242 then (some true) else (if a0 ≥ 8320 then (some (decide (a0 ≤ 8329))) else (some false)))) else (if a0 = 8242 then (some true) else (if a0 ≥ 8320 then (some (decide (a0 ≤ 8329))) else (some false)))) = some r := by rw [if_neg (show ¬ (false = true) by decide)] at H; exact H
    clear H
    have H := H1
    clear H1
    replace H := ic_ H; obtain ⟨c4, H⟩ | ⟨c4, H⟩ := H
    · (have c4b0 : decide (48 ≤ a0) = true := decide_eq_true c4); clear c4; replace H := ic_ H; obtain ⟨c5, H⟩ | ⟨c5, H⟩ := H
      · (have c5b0 : decide (a0 ≤ 57) = true := decide_eq_true c5); clear c5; (obtain rfl := Option.some.inj H); (go_enter Try.func78, Try.ntmps78); (go_wp2_with (first | ((with_reducible refine gate_callee (f := 77) rfl ?_); refine goesL_ (some 4) rfl rfl Try.func77 kq0 rfl #[.int .i32 a0] rfl kq14 ?_; (with_reducible refine (glyph_Start.calls k a0 false _ A2.out).mono ?_); rintro e w' ⟨rfl, ⟨nd, rfl⟩⟩; refine ⟨_, rfl, ?_⟩))); go_ret; (exact ⟨kq10, kq12⟩)
      · (have c5b0 : decide (a0 ≤ 57) = false := decide_eq_false c5); clear c5; replace H := ic_ H; obtain ⟨c6, H⟩ | ⟨c6, H⟩ := H
        · (obtain ⟨c6b0, c6b1⟩ := eTn_ c6); clear c6; (obtain rfl := Option.some.inj H); (go_enter Try.func78, Try.ntmps78); (go_wp2_with (first | ((with_reducible refine gate_callee (f := 77) rfl ?_); refine goesL_ (some 4) rfl rfl Try.func77 kq0 rfl #[.int .i32 a0] rfl kq14 ?_; (with_reducible refine (glyph_Start.calls k a0 false _ A2.out).mono ?_); rintro e w' ⟨rfl, ⟨nd, rfl⟩⟩; refine ⟨_, rfl, ?_⟩))); go_ret; (exact ⟨kq10, kq12⟩)
        · (obtain ⟨c6b0, c6b1⟩ := eFn_ c6); replace H := ic_ H; obtain ⟨c7, H⟩ | ⟨c7, H⟩ := H
          · (have c7b0 : decide (8320 ≤ a0) = true := decide_eq_true c7); clear c7; (obtain rfl := Option.some.inj H); (go_enter Try.func78, Try.ntmps78); (go_wp2_with (first | ((with_reducible refine gate_callee (f := 77) rfl ?_); refine goesL_ (some 4) rfl rfl Try.func77 kq0 rfl #[.int .i32 a0] rfl kq14 ?_; (with_reducible refine (glyph_Start.calls k a0 false _ A2.out).mono ?_); rintro e w' ⟨rfl, ⟨nd, rfl⟩⟩; refine ⟨_, rfl, ?_⟩))); go_ret; (exact ⟨kq10, kq12⟩)
          · (have c7b0 : decide (8320 ≤ a0) = false := decide_eq_false c7); clear c7; (obtain rfl := Option.some.inj H); (go_enter Try.func78, Try.ntmps78); (go_wp2_with (first | ((with_reducible refine gate_callee (f := 77) rfl ?_); refine goesL_ (some 4) rfl rfl Try.func77 kq0 rfl #[.int .i32 a0] rfl kq14 ?_; (with_reducible refine (glyph_Start.calls k a0 false _ A2.out).mono ?_); rintro e w' ⟨rfl, ⟨nd, rfl⟩⟩; refine ⟨_, rfl, ?_⟩))); go_ret; (exact ⟨kq10, kq12⟩)
    · (have c4b0 : decide (48 ≤ a0) = false := decide_eq_false c4); clear c4; replace H := ic_ H; obtain ⟨c8, H⟩ | ⟨c8, H⟩ := H
      · (obtain ⟨c8b0, c8b1⟩ := eTn_ c8); clear c8; (obtain rfl := Option.some.inj H); (go_enter Try.func78, Try.ntmps78); (go_wp2_with (first | ((with_reducible refine gate_callee (f := 77) rfl ?_); refine goesL_ (some 4) rfl rfl Try.func77 kq0 rfl #[.int .i32 a0] rfl kq14 ?_; (with_reducible refine (glyph_Start.calls k a0 false _ A2.out).mono ?_); rintro e w' ⟨rfl, ⟨nd, rfl⟩⟩; refine ⟨_, rfl, ?_⟩))); go_ret; (exact ⟨kq10, kq12⟩)
      · (obtain ⟨c8b0, c8b1⟩ := eFn_ c8); replace H := ic_ H; obtain ⟨c9, H⟩ | ⟨c9, H⟩ := H
        · (have c9b0 : decide (8320 ≤ a0) = true := decide_eq_true c9); clear c9; (obtain rfl := Option.some.inj H); (go_enter Try.func78, Try.ntmps78); (go_wp2_with (first | ((with_reducible refine gate_callee (f := 77) rfl ?_); refine goesL_ (some 4) rfl rfl Try.func77 kq0 rfl #[.int .i32 a0] rfl kq14 ?_; (with_reducible refine (glyph_Start.calls k a0 false _ A2.out).mono ?_); rintro e w' ⟨rfl, ⟨nd, rfl⟩⟩; refine ⟨_, rfl, ?_⟩))); go_ret; (exact ⟨kq10, kq12⟩)
        · (have c9b0 : decide (8320 ≤ a0) = false := decide_eq_false c9); clear c9; (obtain rfl := Option.some.inj H); (go_enter Try.func78, Try.ntmps78); (go_wp2_with (first | ((with_reducible refine gate_callee (f := 77) rfl ?_); refine goesL_ (some 4) rfl rfl Try.func77 kq0 rfl #[.int .i32 a0] rfl kq14 ?_; (with_reducible refine (glyph_Start.calls k a0 false _ A2.out).mono ?_); rintro e w' ⟨rfl, ⟨nd, rfl⟩⟩; refine ⟨_, rfl, ?_⟩))); go_ret; (exact ⟨kq10, kq12⟩)
def glyph_Reserved.f (a0 : ByteArray) : Option (Bool) := if a0.toList = ([97, 110, 100] : List UInt8) then (some true) else (if a0.toList = ([111, 114] : List UInt8) then (some true) else (if a0.toList = ([110, 111, 116] : List UInt8) then (some true) else (if a0.toList = ([101, 120] : List UInt8) then (some true) else (if a0.toList = ([97, 108, 108] : List UInt8) then (some true) else (if a0.toList = ([109, 111, 100] : List UInt8) then (some true) else (if a0.toList = ([116, 114, 117, 101] : List UInt8) then (some true) else (if a0.toList = ([102, 97, 108, 115, 101] : List UInt8) then (some true) else (some false))))))))
set_option maxHeartbeats 8000000 in
set_option maxRecDepth 100000 in
theorem glyph_Reserved.calls (a0 : ByteArray) (r : Bool) (w : World) (h : glyph_Reserved.f a0 = some r) :
    Calls Try.prog 79 #[.string a0] w fun e w' => e = .returned (.bool r) ∧ Drawn0 w w' := by
  have H : (if a0.toList = ([97, 110, 100] : List UInt8) then (some true) else (if a0.toList = ([111, 114] : List UInt8) then (some true) else (if a0.toList = ([110, 111, 116] : List UInt8) then (some true) else (if a0.toList = ([101, 120] : List UInt8) then (some true) else (if a0.toList = ([97, 108, 108] : List UInt8) then (some true) else (if a0.toList = ([109, 111, 100] : List UInt8) then (some true) else (if a0.toList = ([116, 114, 117, 101] : List UInt8) then (some true) else (if a0.toList = ([102, 97, 108, 115, 101] : List UInt8) then (some true) else (some false))))))))) = some r := h
  clear h
  by_cases c2 : a0.toList = ([97, 110, 100] : List UInt8)
  · rw [if_pos c2] at H
    have c2b0 := eT_ c2
    have c2b1 := nF_ c2
    clear c2
    obtain rfl := Option.some.inj H
    go_enter Try.func79, Try.ntmps79
    go_wp2
    go_ret
    exact ⟨kq10, kq12⟩
  · rw [if_neg c2] at H
    have c2b0 := eF_ c2
    have c2b1 := nT_ c2
    replace H := ic_ H; obtain ⟨c3, H⟩ | ⟨c3, H⟩ := H
    · (obtain ⟨c3b0, c3b1⟩ := eTn_ c3); clear c3; (obtain rfl := Option.some.inj H); (go_enter Try.func79, Try.ntmps79); go_wp2; go_ret; (exact ⟨kq10, kq12⟩)
    · (obtain ⟨c3b0, c3b1⟩ := eFn_ c3); replace H := ic_ H; obtain ⟨c4, H⟩ | ⟨c4, H⟩ := H
      · (obtain ⟨c4b0, c4b1⟩ := eTn_ c4); clear c4; (obtain rfl := Option.some.inj H); (go_enter Try.func79, Try.ntmps79); go_wp2; go_ret; (exact ⟨kq10, kq12⟩)
      · (obtain ⟨c4b0, c4b1⟩ := eFn_ c4); replace H := ic_ H; obtain ⟨c5, H⟩ | ⟨c5, H⟩ := H
        · (obtain ⟨c5b0, c5b1⟩ := eTn_ c5); clear c5; (obtain rfl := Option.some.inj H); (go_enter Try.func79, Try.ntmps79); go_wp2; go_ret; (exact ⟨kq10, kq12⟩)
        · (obtain ⟨c5b0, c5b1⟩ := eFn_ c5); replace H := ic_ H; obtain ⟨c6, H⟩ | ⟨c6, H⟩ := H
          · (obtain ⟨c6b0, c6b1⟩ := eTn_ c6); clear c6; (obtain rfl := Option.some.inj H); (go_enter Try.func79, Try.ntmps79); go_wp2; go_ret; (exact ⟨kq10, kq12⟩)
          · (obtain ⟨c6b0, c6b1⟩ := eFn_ c6); replace H := ic_ H; obtain ⟨c7, H⟩ | ⟨c7, H⟩ := H
            · (obtain ⟨c7b0, c7b1⟩ := eTn_ c7); clear c7; (obtain rfl := Option.some.inj H); (go_enter Try.func79, Try.ntmps79); go_wp2; go_ret; (exact ⟨kq10, kq12⟩)
            · (obtain ⟨c7b0, c7b1⟩ := eFn_ c7); replace H := ic_ H; obtain ⟨c8, H⟩ | ⟨c8, H⟩ := H
              · (obtain ⟨c8b0, c8b1⟩ := eTn_ c8); clear c8; (obtain rfl := Option.some.inj H); (go_enter Try.func79, Try.ntmps79); go_wp2; go_ret; (exact ⟨kq10, kq12⟩)
              · (obtain ⟨c8b0, c8b1⟩ := eFn_ c8); replace H := ic_ H; obtain ⟨c9, H⟩ | ⟨c9, H⟩ := H
                · (obtain ⟨c9b0, c9b1⟩ := eTn_ c9); clear c9; (obtain rfl := Option.some.inj H); (go_enter Try.func79, Try.ntmps79); go_wp2; go_ret; (exact ⟨kq10, kq12⟩)
                · (obtain ⟨c9b0, c9b1⟩ := eFn_ c9); (obtain rfl := Option.some.inj H); (go_enter Try.func79, Try.ntmps79); go_wp2; go_ret; (exact ⟨kq10, kq12⟩)
end Go.Proofs.Ytjknpmibdkoklaa.U
set_option maxRecDepth 100000
namespace Go.Proofs.Ytjknpmibdkoklaa.U
open Go.RowKit Go.Proofs.YtjknpmibdkoklaaW.PrintWords Go.Proofs.YtjknpmibdkoklaaW.PrintLast Go.Proofs.YtjknpmibdkoklaaW.PrintMore
open Aside0 (mk)
def startB (r : Int) : Bool := decide ((65 ≤ r ∧ r ≤ 90) ∨ (97 ≤ r ∧ r ≤ 122) ∨ r = 95 ∨ (913 ≤ r ∧ r ≤ 929) ∨ (931 ≤ r ∧ r ≤ 937) ∨ (945 ≤ r ∧ r ≤ 969))
def restB (r : Int) : Bool := startB r || decide ((48 ≤ r ∧ r ≤ 57) ∨ r = 8242 ∨ (8320 ≤ r ∧ r ≤ 8329))
theorem start_j3 (k : Nat) (r : Int) (b : Bool) : glyph_Start.j3 (k + 1) r b = some (b || decide (945 ≤ r ∧ r ≤ 969)) := by
  simp only [glyph_Start.j3]
  cases b
  · by_cases h1 : r ≥ 945 <;> by_cases h2 : r ≤ 969 <;> simp [h1, h2] <;> omega
  · simp
theorem start_j2 (k : Nat) (r : Int) (b : Bool) : glyph_Start.j2 (k + 2) r b = some (b || decide ((931 ≤ r ∧ r ≤ 937) ∨ (945 ≤ r ∧ r ≤ 969))) := by
  simp only [glyph_Start.j2, start_j3]
  cases b
  · by_cases h1 : r ≥ 931 <;> by_cases h2 : r ≤ 937 <;> simp [h1, h2] <;> omega
  · simp
theorem start_j1 (k : Nat) (r : Int) (b : Bool) : glyph_Start.j1 (k + 3) r b = some (b || decide ((913 ≤ r ∧ r ≤ 929) ∨ (931 ≤ r ∧ r ≤ 937) ∨ (945 ≤ r ∧ r ≤ 969))) := by
  simp only [glyph_Start.j1, start_j2]
  cases b
  · by_cases h1 : r ≥ 913 <;> by_cases h2 : r ≤ 929 <;> simp [h1, h2] <;> omega
  · simp
theorem start_j0 (k : Nat) (r : Int) (b : Bool) : glyph_Start.j0 (k + 4) r b = some (b || decide ((97 ≤ r ∧ r ≤ 122) ∨ r = 95 ∨ (913 ≤ r ∧ r ≤ 929) ∨ (931 ≤ r ∧ r ≤ 937) ∨ (945 ≤ r ∧ r ≤ 969))) := by
  simp only [glyph_Start.j0, start_j1]
  cases b
  · by_cases h1 : r ≥ 97 <;> by_cases h2 : r ≤ 122 <;> by_cases h3 : r = 95 <;> simp [h1, h2, h3] <;> omega
  · simp
theorem start_ev (k : Nat) (r : Int) : glyph_Start.f (k + 4) r = some (startB r) := by
  simp only [glyph_Start.f, start_j0, startB]
  by_cases h1 : r ≥ 65 <;> by_cases h2 : r ≤ 90 <;> simp [h1, h2] <;> omega
theorem start_at (r : Int) : glyph_Start.f 6 r = some (startB r) := start_ev 2 r
theorem rest_ev (k : Nat) (r : Int) : glyph_Rest.f (k + 4) r = some (restB r) := by
  unfold glyph_Rest.f
  rw [start_ev]
  unfold restB
  cases h : startB r
  · simp only [Option.bind_some, Bool.false_or]
    by_cases h1 : r ≥ 48 <;> by_cases h2 : r ≤ 57 <;> by_cases h3 : r = 8242 <;> by_cases h4 : r ≥ 8320 <;> by_cases h5 : r ≤ 8329 <;> simp [h1, h2, h3, h4, h5] <;> omega
  · simp
theorem rest_at (r : Int) : glyph_Rest.f 6 r = some (restB r) := rest_ev 2 r
def reservedB (s : ByteArray) : Bool := (glyph_Reserved.f s).getD false
theorem reserved_at (s : ByteArray) : glyph_Reserved.f s = some (reservedB s) := by
  unfold reservedB glyph_Reserved.f
  repeat' split
  all_goals rfl
theorem decode_pos (s : ByteArray) (p : Nat) (h : p < s.size) : 1 ≤ (Utf8.decode s p).2 := by
  by_cases ha : (s[p]'h).toNat < 128
  · rw [decode_ascii s p h ha]
    exact Nat.le_refl 1
  · exact (decode_high s p h kq1).2
def nameGo (s : ByteArray) (pos : Nat) (n : Int) : Bool × Int :=
  if h : pos < s.size then
    if ((pos == 0 && !startB ((Utf8.decode s pos).1 : Nat)) || !restB ((Utf8.decode s pos).1 : Nat)) = true then (false, 0) else nameGo s (pos + (Utf8.decode s pos).2) (wrap64 (n + 1))
  else (true, n)
termination_by s.size - pos
decreasing_by
  have := decode_pos s pos h
  omega
def nameB (s : ByteArray) : Bool := (nameGo s 0 0).1 && decide ((nameGo s 0 0).2 > 0) && decide ((nameGo s 0 0).2 ≤ 16) && !reservedB s
def glyph_Name.f (a0 : ByteArray) : Option Bool := some (nameB a0)
theorem name_end {s : ByteArray} {pos : Nat} {n : Int} (h : ¬ pos < s.size) (e : nameGo s pos n = nameGo s 0 0) : nameGo s 0 0 = (true, n) := by
  rw [← e, nameGo, dif_neg h]
theorem name_bad {s : ByteArray} {pos : Nat} {n : Int} (h : pos < s.size) (e : nameGo s pos n = nameGo s 0 0) (hb : ((pos == 0 && !startB ((Utf8.decode s pos).1 : Nat)) || !restB ((Utf8.decode s pos).1 : Nat)) = true) : nameB s = false := by
  unfold nameB
  rw [← e, nameGo, dif_pos h, if_pos hb]
  rfl
theorem name_go {s : ByteArray} {pos : Nat} {n : Int} (h : pos < s.size) (e : nameGo s pos n = nameGo s 0 0) (hb : ((pos == 0 && !startB ((Utf8.decode s pos).1 : Nat)) || !restB ((Utf8.decode s pos).1 : Nat)) = false) : nameGo s (pos + (Utf8.decode s pos).2) (wrap64 (n + 1)) = nameGo s 0 0 := by
  rw [← e]
  conv => rhs; rw [nameGo, dif_pos h, if_neg (by rw [hb]; decide)]
theorem name_val {s : ByteArray} {m : Int} (e : nameGo s 0 0 = (true, m)) : nameB s = (decide (m > 0) && decide (m ≤ 16) && !reservedB s) := by
  unfold nameB
  rw [e]
  rfl
theorem below_draw0 {B : Nat} {a w w' : World} (h : Below B a w) (hd : Drawn0 w w') : Below B a w' := by
  obtain ⟨n, rfl⟩ := hd
  exact pw_below_drewN h n
set_option maxHeartbeats 4000000 in
theorem glyph_Name.calls (a0 : ByteArray) (r : Bool) (w : World) (h : glyph_Name.f a0 = some r) :
    Calls Try.prog 41 #[.string a0] w fun e w' => e = .returned (.bool r) ∧ Below w.heap.size w w' := by
  have HR := mk (Option.some.inj h)
  clear h
  go_enter Try.func41, Try.ntmps41
  go_wp2
  go_loopw [3] (fun n wr => ∃ (pos : Nat) (m : Int), n = .int .i64 m ∧ Aside0 (nameGo a0 pos m = nameGo a0 0 0) ∧ Aside0 (wr.heap[w.heap.size]? = some (.stringIter a0 pos)) ∧ Aside0 (Below w.heap.size w wr)) (fun _ wr => a0.size - wr.iterPos w.heap.size)
  case atStart => exact ⟨0, 0, rfl, ⟨rfl⟩, ⟨World.iter_heap w a0 0⟩, ⟨below_alloc (Below.refl _ _) _⟩⟩
  case round =>
    obtain ⟨pos, m, rfl, HN, HI, HB⟩ := hrel
    by_cases hp : pos < a0.size
    · have hnx := fun ty => Lib.run_next_any_at (P := Try.prog) wr w.heap.size a0 pos ty HI.out hp
      have HI2 := mk (Lib.iterAt_heap wr w.heap.size a0 pos (pos + (Utf8.decode a0 pos).2) HI.out)
      have HB2 := mk (Lib.below_iterAt HB.out (Nat.le_refl _) a0 (pos + (Utf8.decode a0 pos).2))
      have hd := decode_pos a0 pos hp
      have HM := mk (show a0.size - (pos + (Utf8.decode a0 pos).2) < a0.size - pos by omega)
      have HG := mk (name_go hp HN.out)
      have HX := mk (name_bad hp HN.out)
      have HS := mk (start_at ((Utf8.decode a0 pos).1 : Nat))
      have HT := mk (rest_at ((Utf8.decode a0 pos).1 : Nat))
      clear HN HB hd hp
      have hz : (pos == 0) = ((pos : Int) == 0) := by
        by_cases h : pos = 0
        · subst h; rfl
        · rw [beq_eq_false_iff_ne.2 h, beq_eq_false_iff_ne.2 kq1]
      rw [hz] at HG HX
      clear hz
      generalize startB ((Utf8.decode a0 pos).1 : Nat) = sb at HS HG HX
      generalize restB ((Utf8.decode a0 pos).1 : Nat) = rb at HT HG HX
      cases hz : ((pos : Int) == 0) <;> cases sb <;> cases rb <;> rw [hz] at HG HX
      all_goals
        go_wp2_with (first | (go_at_call 77; (with_reducible refine (glyph_Start.calls 6 _ _ _ HS.out).mono ?_); rintro e w' ⟨rfl, ⟨nd, rfl⟩⟩) | (go_at_call 78; (with_reducible refine (glyph_Rest.calls 6 _ _ _ HT.out).mono ?_); rintro e w' ⟨rfl, ⟨nd, rfl⟩⟩))
        first
          | (go_ret; exact ⟨by rw [← HR.out, HX.out rfl]; rfl, by repeat (first | exact HB2.out | apply pw_below_drewN)⟩)
          | (go_roundw; (case rel => exact ⟨_, _, rfl, ⟨HG.out rfl⟩, ⟨HI2.out⟩, ⟨by repeat (first | exact HB2.out | apply pw_below_drewN)⟩⟩); (case measure => simpa [World.iterPos, HI.out, HI2.out] using HM.out))
    · have hnx := fun ty => Lib.run_next_end_at (P := Try.prog) wr w.heap.size a0 pos ty HI.out hp
      have HE := mk (name_end hp HN.out)
      have HV := mk (reserved_at a0)
      clear hp
      go_wp2_with (go_at_call 79; (with_reducible refine (glyph_Reserved.calls a0 _ _ HV.out).mono ?_); rintro e w' ⟨rfl, HD⟩)
      all_goals go_ret
      · exact ⟨by rw [← HR.out, name_val HE.out, decide_eq_true (show m > 0 by assumption), decide_eq_true (show m ≤ 16 by assumption)]; rfl, below_draw0 HB.out HD⟩
      · exact ⟨by rw [← HR.out, name_val HE.out, decide_eq_true (show m > 0 by assumption), decide_eq_false (show ¬ m ≤ 16 by omega)]; rfl, HB.out⟩
      · exact ⟨by rw [← HR.out, name_val HE.out, decide_eq_false (show ¬ m > 0 by omega)]; rfl, HB.out⟩
end Go.Proofs.Ytjknpmibdkoklaa.U
namespace Go.Proofs.Ytjknpmibdkoklaa.U
open Go.RowKit Go.Proofs.YtjknpmibdkoklaaW.PrintWords Go.Proofs.YtjknpmibdkoklaaW.PrintLast Go.Proofs.YtjknpmibdkoklaaW.PrintMore
open Aside0 (mk)
open List (setIfInBounds_toArray set_cons_zero set_cons_succ)
attribute [local go_sem] max2_int min2_int max_two min_two max_three min_three max_four min_four
set_option linter.unusedVariables false
set_option linter.unusedSimpArgs false
attribute [local go_sem] fld99_2 fld103_2 fld172_1
def tree_term.f (a0_0 : Int) (a0_1 : Int) (a0_2 : ByteArray) (l0_3 : List (S66)) : Option (Bool) := if a0_0 = 0 then (if a0_1 ≥ 0 then (if a0_2.toList = ([] : List UInt8) then (some ((l0_3.length : Int) == 0)) else (some false)) else (some false)) else (if a0_0 = 1 then (if a0_1 = 0 then ((glyph_Name.f a0_2).bind fun t103 => (if t103 = true then (some ((l0_3.length : Int) == 0)) else (some false))) else (some false)) else (if a0_0 = 2 then (if a0_1 = 0 then (if a0_2.toList = ([] : List UInt8) then (some ((l0_3.length : Int) == 1)) else (some false)) else (some false)) else (if a0_0 = 3 then (if a0_1 = 0 then (if a0_2.toList = ([] : List UInt8) then (some ((l0_3.length : Int) == 2)) else (some false)) else (some false)) else (if a0_0 = 4 then (if a0_1 = 0 then (if a0_2.toList = ([] : List UInt8) then (some ((l0_3.length : Int) == 2)) else (some false)) else (some false)) else (if a0_0 = 5 then (if a0_1 = 0 then (if a0_2.toList = ([] : List UInt8) then (some ((l0_3.length : Int) == 2)) else (some false)) else (some false)) else (some false))))))
set_option maxHeartbeats 8000000 in
set_option maxRecDepth 100000 in
theorem tree_term.calls (a0_0 : Int) (a0_1 : Int) (a0_2 : ByteArray) (A0_3 : Option Addr) (c0_3 : Nat) (l0_3 : List (S66)) (r : Bool) (w : World) (hr0_3 : Kd.C k66 w A0_3 l0_3.length l0_3) (hc0_3 : l0_3.length ≤ c0_3) (h : tree_term.f a0_0 a0_1 a0_2 l0_3 = some r) :
    Calls Try.prog 165 #[.agg #[.int .i64 a0_0, .int .i64 a0_1, .string a0_2, .slice A0_3 l0_3.length c0_3]] w fun e w' => e = .returned (.bool r) ∧ Below w.heap.size w w' := by
  have hu66 := Try.underlying66
  have HR0_3 := mk hr0_3
  have HC0_3 := mk hc0_3
  clear hr0_3 hc0_3
  have HB := mk (Below.refl w.heap.size w)
  have H : (if a0_0 = 0 then (if a0_1 ≥ 0 then (if a0_2.toList = ([] : List UInt8) then (some ((l0_3.length : Int) == 0)) else (some false)) else (some false)) else (if a0_0 = 1 then (if a0_1 = 0 then ((glyph_Name.f a0_2).bind fun t103 => (if t103 = true then (some ((l0_3.length : Int) == 0)) else (some false))) else (some false)) else (if a0_0 = 2 then (if a0_1 = 0 then (if a0_2.toList = ([] : List UInt8) then (some ((l0_3.length : Int) == 1)) else (some false)) else (some false)) else (if a0_0 = 3 then (if a0_1 = 0 then (if a0_2.toList = ([] : List UInt8) then (some ((l0_3.length : Int) == 2)) else (some false)) else (some false)) else (if a0_0 = 4 then (if a0_1 = 0 then (if a0_2.toList = ([] : List UInt8) then (some ((l0_3.length : Int) == 2)) else (some false)) else (some false)) else (if a0_0 = 5 then (if a0_1 = 0 then (if a0_2.toList = ([] : List UInt8) then (some ((l0_3.length : Int) == 2)) else (some false)) else (some false)) else (some false))))))) = some r := h
  clear h
  by_cases c2 : a0_0 = 0
  · rw [if_pos c2] at H
    have c2b0 := eT_ c2
    have c2b1 := nF_ c2
    clear c2
    replace H := ic_ H; obtain ⟨c3, H⟩ | ⟨c3, H⟩ := H
    · (have c3b0 : decide (0 ≤ a0_1) = true := decide_eq_true c3); clear c3; replace H := ic_ H; obtain ⟨c4, H⟩ | ⟨c4, H⟩ := H
      · (obtain ⟨c4b0, c4b1⟩ := eTn_ c4); clear c4; (obtain rfl := Option.some.inj H); (go_enter Try.func165, Try.ntmps165); (go_wp2_with (first | ((with_reducible refine gate_dst (N := 1) rfl ?_); refine box_event ?hg (N := 1) ?hd (cs := #[.int .i64 a0_0, .int .i64 a0_1, .string a0_2, .slice A0_3 l0_3.length c0_3]) (t := 66) ?hr ?_; (case hd => rfl); (case hg => rfl); (case hr => exact kq6); intro gb102 hg w5 hbox hb; have BK102 := mk (hbox); have GW102 := (gs_ hg kq15); have GE102 := GW102; replace HB := mk (below_step kq15 hb); clear hb hbox hg; obtain ⟨_, _, _, _, _, _, _, _⟩ := cz4_ BK102.out))); (repeat (go_quiet (fail); try go_wp2)); go_ret; (exact ⟨kq21, (kq16 GE102)⟩)
      · (obtain ⟨c4b0, c4b1⟩ := eFn_ c4); (obtain rfl := Option.some.inj H); (go_enter Try.func165, Try.ntmps165); (go_wp2_with (first | ((with_reducible refine gate_dst (N := 1) rfl ?_); refine box_event ?hg (N := 1) ?hd (cs := #[.int .i64 a0_0, .int .i64 a0_1, .string a0_2, .slice A0_3 l0_3.length c0_3]) (t := 66) ?hr ?_; (case hd => rfl); (case hg => rfl); (case hr => exact kq6); intro gb102 hg w7 hbox hb; have BK102 := mk (hbox); have GW102 := (gs_ hg kq15); have GE102 := GW102; replace HB := mk (below_step kq15 hb); clear hb hbox hg; obtain ⟨_, _, _, _, _, _, _, _⟩ := cz4_ BK102.out))); (repeat (go_quiet (fail); try go_wp2)); go_ret; (exact ⟨kq21, (kq16 GE102)⟩)
    · (have c3b0 : decide (0 ≤ a0_1) = false := decide_eq_false c3); clear c3; (obtain rfl := Option.some.inj H); (go_enter Try.func165, Try.ntmps165); (go_wp2_with (first | ((with_reducible refine gate_dst (N := 1) rfl ?_); refine box_event ?hg (N := 1) ?hd (cs := #[.int .i64 a0_0, .int .i64 a0_1, .string a0_2, .slice A0_3 l0_3.length c0_3]) (t := 66) ?hr ?_; (case hd => rfl); (case hg => rfl); (case hr => exact kq6); intro gb102 hg w9 hbox hb; have BK102 := mk (hbox); have GW102 := (gs_ hg kq15); have GE102 := GW102; replace HB := mk (below_step kq15 hb); clear hb hbox hg; obtain ⟨_, _, _, _, _, _, _, _⟩ := cz4_ BK102.out))); (repeat (go_quiet (fail); try go_wp2)); go_ret; (exact ⟨kq21, (kq16 GE102)⟩)
  · rw [if_neg c2] at H
    have c2b0 := eF_ c2
    have c2b1 := nT_ c2
    replace H := ic_ H; obtain ⟨c11, H⟩ | ⟨c11, H⟩ := H
    · (obtain ⟨c11b0, c11b1⟩ := eTn_ c11); clear c11; replace H := ic_ H; obtain ⟨c12, H⟩ | ⟨c12, H⟩ := H
      · (obtain ⟨c12b0, c12b1⟩ := eTn_ c12); clear c12; (replace H := Option.bind_eq_some_iff.mp H); (obtain ⟨t103, A130, H⟩ := H); (replace H : (if t103 = true then (some ((l0_3.length : Int) == 0)) else (some false)) = some r := H); (have A13 := mk A130); clear A130; (by_cases c14 : t103 = true)
        · subst c14; (have H1 : (some ((l0_3.length : Int) == 0)) = some r := by rw [if_pos rfl] at H; exact H); clear H; (have H := H1); clear H1; (obtain rfl := Option.some.inj H); (go_enter Try.func165, Try.ntmps165); (go_wp2_with (first | ((with_reducible refine gate_dst (N := 1) rfl ?_); refine box_event ?hg (N := 1) ?hd (cs := #[.int .i64 a0_0, .int .i64 a0_1, .string a0_2, .slice A0_3 l0_3.length c0_3]) (t := 66) ?hr ?_; (case hd => rfl); (case hg => rfl); (case hr => exact kq6); intro gb102 hg w15 hbox hb; have BK102 := mk (hbox); have GW102 := (gs_ hg kq15); have GE102 := GW102; replace HB := mk (below_step kq15 hb); clear hb hbox hg; obtain ⟨_, _, _, _, _, _, _, _⟩ := cz4_ BK102.out) | (go_at_call 41; (with_reducible refine (glyph_Name.calls a0_2 true _ A13.out).mono ?_); rintro e w17 ⟨rfl, hb⟩; replace BK102 := (bb_ BK102 hb); replace HB := mk (below_step (kq16 GE102) hb)))); (repeat (go_quiet (first | (go_at_call 41; (with_reducible refine (glyph_Name.calls a0_2 true _ A13.out).mono ?_); rintro e w17 ⟨rfl, hb⟩; replace BK102 := (bb_ BK102 hb); replace HB := mk (below_step (kq16 GE102) hb))); try go_wp2_with (first | (go_at_call 41; (with_reducible refine (glyph_Name.calls a0_2 true _ A13.out).mono ?_); rintro e w17 ⟨rfl, hb⟩; replace BK102 := (bb_ BK102 hb); replace HB := mk (below_step (kq16 GE102) hb))))); go_ret; (exact ⟨kq21, (kq16 GE102)⟩)
        · (replace c14 := Bool.eq_false_iff.mpr c14); subst c14; (have H1 : (some false) = some r := by rw [if_neg (show ¬ (false = true) by decide)] at H; exact H); clear H; (have H := H1); clear H1; (obtain rfl := Option.some.inj H); (go_enter Try.func165, Try.ntmps165); (go_wp2_with (first | ((with_reducible refine gate_dst (N := 1) rfl ?_); refine box_event ?hg (N := 1) ?hd (cs := #[.int .i64 a0_0, .int .i64 a0_1, .string a0_2, .slice A0_3 l0_3.length c0_3]) (t := 66) ?hr ?_; (case hd => rfl); (case hg => rfl); (case hr => exact kq6); intro gb102 hg w18 hbox hb; have BK102 := mk (hbox); have GW102 := (gs_ hg kq15); have GE102 := GW102; replace HB := mk (below_step kq15 hb); clear hb hbox hg; obtain ⟨_, _, _, _, _, _, _, _⟩ := cz4_ BK102.out) | (go_at_call 41; (with_reducible refine (glyph_Name.calls a0_2 false _ A13.out).mono ?_); rintro e w20 ⟨rfl, hb⟩; replace BK102 := (bb_ BK102 hb); replace HB := mk (below_step (kq16 GE102) hb)))); (repeat (go_quiet (first | (go_at_call 41; (with_reducible refine (glyph_Name.calls a0_2 false _ A13.out).mono ?_); rintro e w20 ⟨rfl, hb⟩; replace BK102 := (bb_ BK102 hb); replace HB := mk (below_step (kq16 GE102) hb))); try go_wp2_with (first | (go_at_call 41; (with_reducible refine (glyph_Name.calls a0_2 false _ A13.out).mono ?_); rintro e w20 ⟨rfl, hb⟩; replace BK102 := (bb_ BK102 hb); replace HB := mk (below_step (kq16 GE102) hb))))); go_ret; (exact ⟨kq21, (kq16 GE102)⟩)
      · (obtain ⟨c12b0, c12b1⟩ := eFn_ c12); (obtain rfl := Option.some.inj H); (go_enter Try.func165, Try.ntmps165); (go_wp2_with (first | ((with_reducible refine gate_dst (N := 1) rfl ?_); refine box_event ?hg (N := 1) ?hd (cs := #[.int .i64 a0_0, .int .i64 a0_1, .string a0_2, .slice A0_3 l0_3.length c0_3]) (t := 66) ?hr ?_; (case hd => rfl); (case hg => rfl); (case hr => exact kq6); intro gb102 hg w21 hbox hb; have BK102 := mk (hbox); have GW102 := (gs_ hg kq15); have GE102 := GW102; replace HB := mk (below_step kq15 hb); clear hb hbox hg; obtain ⟨_, _, _, _, _, _, _, _⟩ := cz4_ BK102.out))); (repeat (go_quiet (fail); try go_wp2)); go_ret; (exact ⟨kq21, (kq16 GE102)⟩)
    · (obtain ⟨c11b0, c11b1⟩ := eFn_ c11); replace H := ic_ H; obtain ⟨c23, H⟩ | ⟨c23, H⟩ := H
      · (obtain ⟨c23b0, c23b1⟩ := eTn_ c23); clear c23; replace H := ic_ H; obtain ⟨c24, H⟩ | ⟨c24, H⟩ := H
        · (obtain ⟨c24b0, c24b1⟩ := eTn_ c24); clear c24; replace H := ic_ H; obtain ⟨c25, H⟩ | ⟨c25, H⟩ := H
          · (obtain ⟨c25b0, c25b1⟩ := eTn_ c25); clear c25; (obtain rfl := Option.some.inj H); (go_enter Try.func165, Try.ntmps165); (go_wp2_with (first | ((with_reducible refine gate_dst (N := 1) rfl ?_); refine box_event ?hg (N := 1) ?hd (cs := #[.int .i64 a0_0, .int .i64 a0_1, .string a0_2, .slice A0_3 l0_3.length c0_3]) (t := 66) ?hr ?_; (case hd => rfl); (case hg => rfl); (case hr => exact kq6); intro gb102 hg w26 hbox hb; have BK102 := mk (hbox); have GW102 := (gs_ hg kq15); have GE102 := GW102; replace HB := mk (below_step kq15 hb); clear hb hbox hg; obtain ⟨_, _, _, _, _, _, _, _⟩ := cz4_ BK102.out))); (repeat (go_quiet (fail); try go_wp2)); go_ret; (exact ⟨kq21, (kq16 GE102)⟩)
          · (obtain ⟨c25b0, c25b1⟩ := eFn_ c25); (obtain rfl := Option.some.inj H); (go_enter Try.func165, Try.ntmps165); (go_wp2_with (first | ((with_reducible refine gate_dst (N := 1) rfl ?_); refine box_event ?hg (N := 1) ?hd (cs := #[.int .i64 a0_0, .int .i64 a0_1, .string a0_2, .slice A0_3 l0_3.length c0_3]) (t := 66) ?hr ?_; (case hd => rfl); (case hg => rfl); (case hr => exact kq6); intro gb102 hg w28 hbox hb; have BK102 := mk (hbox); have GW102 := (gs_ hg kq15); have GE102 := GW102; replace HB := mk (below_step kq15 hb); clear hb hbox hg; obtain ⟨_, _, _, _, _, _, _, _⟩ := cz4_ BK102.out))); (repeat (go_quiet (fail); try go_wp2)); go_ret; (exact ⟨kq21, (kq16 GE102)⟩)
        · (obtain ⟨c24b0, c24b1⟩ := eFn_ c24); (obtain rfl := Option.some.inj H); (go_enter Try.func165, Try.ntmps165); (go_wp2_with (first | ((with_reducible refine gate_dst (N := 1) rfl ?_); refine box_event ?hg (N := 1) ?hd (cs := #[.int .i64 a0_0, .int .i64 a0_1, .string a0_2, .slice A0_3 l0_3.length c0_3]) (t := 66) ?hr ?_; (case hd => rfl); (case hg => rfl); (case hr => exact kq6); intro gb102 hg w30 hbox hb; have BK102 := mk (hbox); have GW102 := (gs_ hg kq15); have GE102 := GW102; replace HB := mk (below_step kq15 hb); clear hb hbox hg; obtain ⟨_, _, _, _, _, _, _, _⟩ := cz4_ BK102.out))); (repeat (go_quiet (fail); try go_wp2)); go_ret; (exact ⟨kq21, (kq16 GE102)⟩)
      · (obtain ⟨c23b0, c23b1⟩ := eFn_ c23); replace H := ic_ H; obtain ⟨c32, H⟩ | ⟨c32, H⟩ := H
        · (obtain ⟨c32b0, c32b1⟩ := eTn_ c32); clear c32; replace H := ic_ H; obtain ⟨c33, H⟩ | ⟨c33, H⟩ := H
          · (obtain ⟨c33b0, c33b1⟩ := eTn_ c33); clear c33; replace H := ic_ H; obtain ⟨c34, H⟩ | ⟨c34, H⟩ := H
            · (obtain ⟨c34b0, c34b1⟩ := eTn_ c34); clear c34; (obtain rfl := Option.some.inj H); (go_enter Try.func165, Try.ntmps165); (go_wp2_with (first | ((with_reducible refine gate_dst (N := 1) rfl ?_); refine box_event ?hg (N := 1) ?hd (cs := #[.int .i64 a0_0, .int .i64 a0_1, .string a0_2, .slice A0_3 l0_3.length c0_3]) (t := 66) ?hr ?_; (case hd => rfl); (case hg => rfl); (case hr => exact kq6); intro gb102 hg w35 hbox hb; have BK102 := mk (hbox); have GW102 := (gs_ hg kq15); have GE102 := GW102; replace HB := mk (below_step kq15 hb); clear hb hbox hg; obtain ⟨_, _, _, _, _, _, _, _⟩ := cz4_ BK102.out))); (repeat (go_quiet (fail); try go_wp2)); go_ret; (exact ⟨kq21, (kq16 GE102)⟩)
            · (obtain ⟨c34b0, c34b1⟩ := eFn_ c34); (obtain rfl := Option.some.inj H); (go_enter Try.func165, Try.ntmps165); (go_wp2_with (first | ((with_reducible refine gate_dst (N := 1) rfl ?_); refine box_event ?hg (N := 1) ?hd (cs := #[.int .i64 a0_0, .int .i64 a0_1, .string a0_2, .slice A0_3 l0_3.length c0_3]) (t := 66) ?hr ?_; (case hd => rfl); (case hg => rfl); (case hr => exact kq6); intro gb102 hg w37 hbox hb; have BK102 := mk (hbox); have GW102 := (gs_ hg kq15); have GE102 := GW102; replace HB := mk (below_step kq15 hb); clear hb hbox hg; obtain ⟨_, _, _, _, _, _, _, _⟩ := cz4_ BK102.out))); (repeat (go_quiet (fail); try go_wp2)); go_ret; (exact ⟨kq21, (kq16 GE102)⟩)
          · (obtain ⟨c33b0, c33b1⟩ := eFn_ c33); (obtain rfl := Option.some.inj H); (go_enter Try.func165, Try.ntmps165); (go_wp2_with (first | ((with_reducible refine gate_dst (N := 1) rfl ?_); refine box_event ?hg (N := 1) ?hd (cs := #[.int .i64 a0_0, .int .i64 a0_1, .string a0_2, .slice A0_3 l0_3.length c0_3]) (t := 66) ?hr ?_; (case hd => rfl); (case hg => rfl); (case hr => exact kq6); intro gb102 hg w39 hbox hb; have BK102 := mk (hbox); have GW102 := (gs_ hg kq15); have GE102 := GW102; replace HB := mk (below_step kq15 hb); clear hb hbox hg; obtain ⟨_, _, _, _, _, _, _, _⟩ := cz4_ BK102.out))); (repeat (go_quiet (fail); try go_wp2)); go_ret; (exact ⟨kq21, (kq16 GE102)⟩)
        · (obtain ⟨c32b0, c32b1⟩ := eFn_ c32); replace H := ic_ H; obtain ⟨c41, H⟩ | ⟨c41, H⟩ := H
          · (obtain ⟨c41b0, c41b1⟩ := eTn_ c41); clear c41; replace H := ic_ H; obtain ⟨c42, H⟩ | ⟨c42, H⟩ := H
            · (obtain ⟨c42b0, c42b1⟩ := eTn_ c42); clear c42; replace H := ic_ H; obtain ⟨c43, H⟩ | ⟨c43, H⟩ := H
              · (obtain ⟨c43b0, c43b1⟩ := eTn_ c43); clear c43; (obtain rfl := Option.some.inj H); (go_enter Try.func165, Try.ntmps165); (go_wp2_with (first | ((with_reducible refine gate_dst (N := 1) rfl ?_); refine box_event ?hg (N := 1) ?hd (cs := #[.int .i64 a0_0, .int .i64 a0_1, .string a0_2, .slice A0_3 l0_3.length c0_3]) (t := 66) ?hr ?_; (case hd => rfl); (case hg => rfl); (case hr => exact kq6); intro gb102 hg w44 hbox hb; have BK102 := mk (hbox); have GW102 := (gs_ hg kq15); have GE102 := GW102; replace HB := mk (below_step kq15 hb); clear hb hbox hg; obtain ⟨_, _, _, _, _, _, _, _⟩ := cz4_ BK102.out))); (repeat (go_quiet (fail); try go_wp2)); go_ret; (exact ⟨kq21, (kq16 GE102)⟩)
              · (obtain ⟨c43b0, c43b1⟩ := eFn_ c43); (obtain rfl := Option.some.inj H); (go_enter Try.func165, Try.ntmps165); (go_wp2_with (first | ((with_reducible refine gate_dst (N := 1) rfl ?_); refine box_event ?hg (N := 1) ?hd (cs := #[.int .i64 a0_0, .int .i64 a0_1, .string a0_2, .slice A0_3 l0_3.length c0_3]) (t := 66) ?hr ?_; (case hd => rfl); (case hg => rfl); (case hr => exact kq6); intro gb102 hg w46 hbox hb; have BK102 := mk (hbox); have GW102 := (gs_ hg kq15); have GE102 := GW102; replace HB := mk (below_step kq15 hb); clear hb hbox hg; obtain ⟨_, _, _, _, _, _, _, _⟩ := cz4_ BK102.out))); (repeat (go_quiet (fail); try go_wp2)); go_ret; (exact ⟨kq21, (kq16 GE102)⟩)
            · (obtain ⟨c42b0, c42b1⟩ := eFn_ c42); (obtain rfl := Option.some.inj H); (go_enter Try.func165, Try.ntmps165); (go_wp2_with (first | ((with_reducible refine gate_dst (N := 1) rfl ?_); refine box_event ?hg (N := 1) ?hd (cs := #[.int .i64 a0_0, .int .i64 a0_1, .string a0_2, .slice A0_3 l0_3.length c0_3]) (t := 66) ?hr ?_; (case hd => rfl); (case hg => rfl); (case hr => exact kq6); intro gb102 hg w48 hbox hb; have BK102 := mk (hbox); have GW102 := (gs_ hg kq15); have GE102 := GW102; replace HB := mk (below_step kq15 hb); clear hb hbox hg; obtain ⟨_, _, _, _, _, _, _, _⟩ := cz4_ BK102.out))); (repeat (go_quiet (fail); try go_wp2)); go_ret; (exact ⟨kq21, (kq16 GE102)⟩)
          · (obtain ⟨c41b0, c41b1⟩ := eFn_ c41); replace H := ic_ H; obtain ⟨c50, H⟩ | ⟨c50, H⟩ := H
            · (obtain ⟨c50b0, c50b1⟩ := eTn_ c50); clear c50; replace H := ic_ H; obtain ⟨c51, H⟩ | ⟨c51, H⟩ := H
              · (obtain ⟨c51b0, c51b1⟩ := eTn_ c51); clear c51; replace H := ic_ H; obtain ⟨c52, H⟩ | ⟨c52, H⟩ := H
                · (obtain ⟨c52b0, c52b1⟩ := eTn_ c52); clear c52; (obtain rfl := Option.some.inj H); (go_enter Try.func165, Try.ntmps165); (go_wp2_with (first | ((with_reducible refine gate_dst (N := 1) rfl ?_); refine box_event ?hg (N := 1) ?hd (cs := #[.int .i64 a0_0, .int .i64 a0_1, .string a0_2, .slice A0_3 l0_3.length c0_3]) (t := 66) ?hr ?_; (case hd => rfl); (case hg => rfl); (case hr => exact kq6); intro gb102 hg w53 hbox hb; have BK102 := mk (hbox); have GW102 := (gs_ hg kq15); have GE102 := GW102; replace HB := mk (below_step kq15 hb); clear hb hbox hg; obtain ⟨_, _, _, _, _, _, _, _⟩ := cz4_ BK102.out))); (repeat (go_quiet (fail); try go_wp2)); go_ret; (exact ⟨kq21, (kq16 GE102)⟩)
                · (obtain ⟨c52b0, c52b1⟩ := eFn_ c52); (obtain rfl := Option.some.inj H); (go_enter Try.func165, Try.ntmps165); (go_wp2_with (first | ((with_reducible refine gate_dst (N := 1) rfl ?_); refine box_event ?hg (N := 1) ?hd (cs := #[.int .i64 a0_0, .int .i64 a0_1, .string a0_2, .slice A0_3 l0_3.length c0_3]) (t := 66) ?hr ?_; (case hd => rfl); (case hg => rfl); (case hr => exact kq6); intro gb102 hg w55 hbox hb; have BK102 := mk (hbox); have GW102 := (gs_ hg kq15); have GE102 := GW102; replace HB := mk (below_step kq15 hb); clear hb hbox hg; obtain ⟨_, _, _, _, _, _, _, _⟩ := cz4_ BK102.out))); (repeat (go_quiet (fail); try go_wp2)); go_ret; (exact ⟨kq21, (kq16 GE102)⟩)
              · (obtain ⟨c51b0, c51b1⟩ := eFn_ c51); (obtain rfl := Option.some.inj H); (go_enter Try.func165, Try.ntmps165); (go_wp2_with (first | ((with_reducible refine gate_dst (N := 1) rfl ?_); refine box_event ?hg (N := 1) ?hd (cs := #[.int .i64 a0_0, .int .i64 a0_1, .string a0_2, .slice A0_3 l0_3.length c0_3]) (t := 66) ?hr ?_; (case hd => rfl); (case hg => rfl); (case hr => exact kq6); intro gb102 hg w57 hbox hb; have BK102 := mk (hbox); have GW102 := (gs_ hg kq15); have GE102 := GW102; replace HB := mk (below_step kq15 hb); clear hb hbox hg; obtain ⟨_, _, _, _, _, _, _, _⟩ := cz4_ BK102.out))); (repeat (go_quiet (fail); try go_wp2)); go_ret; (exact ⟨kq21, (kq16 GE102)⟩)
            · (obtain ⟨c50b0, c50b1⟩ := eFn_ c50); (obtain rfl := Option.some.inj H); (go_enter Try.func165, Try.ntmps165); (go_wp2_with (first | ((with_reducible refine gate_dst (N := 1) rfl ?_); refine box_event ?hg (N := 1) ?hd (cs := #[.int .i64 a0_0, .int .i64 a0_1, .string a0_2, .slice A0_3 l0_3.length c0_3]) (t := 66) ?hr ?_; (case hd => rfl); (case hg => rfl); (case hr => exact kq6); intro gb102 hg w59 hbox hb; have BK102 := mk (hbox); have GW102 := (gs_ hg kq15); have GE102 := GW102; replace HB := mk (below_step kq15 hb); clear hb hbox hg; obtain ⟨_, _, _, _, _, _, _, _⟩ := cz4_ BK102.out))); (repeat (go_quiet (fail); try go_wp2)); go_ret; (exact ⟨kq21, (kq16 GE102)⟩)
end Go.Proofs.Ytjknpmibdkoklaa.U
set_option maxRecDepth 100000
namespace Go.Proofs.Ytjknpmibdkoklaa.U
open Go.RowKit Go.Proofs.YtjknpmibdkoklaaW.PrintWords Go.Proofs.YtjknpmibdkoklaaW.PrintLast Go.Proofs.YtjknpmibdkoklaaW.PrintMore
open Aside0 (mk)
def okT (t : S66) : Bool := (tree_term.f t.f0 t.f1 t.f2 t.f3).getD false
theorem okT_at (t : S66) : tree_term.f t.f0 t.f1 t.f2 t.f3 = some (okT t) := by
  unfold okT tree_term.f
  simp only [glyph_Name.f, Option.bind_some]
  (repeat' split) <;> rfl
mutual
def measT : S66 → Int → Int × Int × Int → Int × Int × Int
  | ⟨a, b, s, l⟩, dep, m => if (nodeM dep (okT ⟨a, b, s, l⟩) m).2.2 = 0 then measTs l (wrap64 (dep + 1)) (nodeM dep (okT ⟨a, b, s, l⟩) m) else nodeM dep (okT ⟨a, b, s, l⟩) m
def measTs : List S66 → Int → Int × Int × Int → Int × Int × Int
  | [], _, m => m
  | t :: l, dep, m => if (measT t dep m).2.2 = 0 then measTs l dep (measT t dep m) else measT t dep m
end
theorem measT_eq (t : S66) (dep : Int) (m : Int × Int × Int) : measT t dep m = if (nodeM dep (okT t) m).2.2 = 0 then measTs t.f3 (wrap64 (dep + 1)) (nodeM dep (okT t) m) else nodeM dep (okT t) m := by
  cases t; rw [measT]
theorem measTs_drop {l : List S66} {i : Nat} (h : i < l.length) (dep : Int) (m : Int × Int × Int) : measTs (l.drop i) dep m = if (measT l[i] dep m).2.2 = 0 then measTs (l.drop (i + 1)) dep (measT l[i] dep m) else measT l[i] dep m := by
  rw [List.drop_eq_getElem_cons h, measTs]
structure Going (w0 w W : World) (c g : Nat) (m : Int × Int × Int) : Prop where
  st : StM 103 W g m
  cl : ClM W c g
  keep : KeepBut w W g none
  below : Below w0.heap.size w0 W
theorem Going.ne {w0 w W : World} {c g : Nat} {m : Int × Int × Int} (h : Going w0 w W c g m) : c ≠ g := blk_ne h.cl h.st kq2
theorem Going.then_ {w0 w W W' : World} {c g : Nat} {m : Int × Int × Int} (h : Going w0 w W c g m) (hb : Below W.heap.size W W') : Going w0 w W' c g m :=
  ⟨h.st.below hb, blk_below h.cl hb, h.keep.trans (KeepBut.of_below hb g none) (.inl rfl), below_step h.below hb⟩
theorem Going.step {w0 w W W' : World} {c g : Nat} {m m' : Int × Int × Int} (h : Going w0 w W c g m) (hs : StM 103 W' g m') (hk : KeepBut W W' g none) (hb : Below w0.heap.size w0 W') : Going w0 w W' c g m' :=
  ⟨hs, hk.blk h.cl h.ne (by simp), h.keep.trans hk (.inl rfl), hb⟩
theorem Going.self {w0 w W : World} {c g : Nat} {m : Int × Int × Int} (h : Going w0 w W c g m) : Going w0 W W c g m := ⟨h.st, h.cl, KeepBut.refl W g none, h.below⟩
theorem Going.drewN {w0 w W : World} {c g : Nat} {m : Int × Int × Int} (h : Going w0 w W c g m) (n : Nat) : Going w0 w (W.drewN n) c g m := h.then_ (pw_below_drewN (Below.refl _ _) n)
set_option maxHeartbeats 8000000 in
theorem walkT_calls : ∀ (n : Nat) (t : S66), SizeOf.sizeOf t < n → ∀ (A : Option Addr) (c0 : Nat) (dep : Int) (m : Int × Int × Int) (w0 w : World) (c g : Nat), w0.heap.size ≤ g → Going w0 w w c g m → Kd.C k66 w0 A t.f3.length t.f3 → t.f3.length ≤ c0 →
    Calls Try.prog 126 #[.func (.func 161) #[] #[.pointer (some ⟨c, 0, none⟩)], .agg #[.int .i64 t.f0, .int .i64 t.f1, .string t.f2, .slice A t.f3.length c0], .int .i64 dep] w fun en w' => en = .returned (.bool ((measT t dep m).2.2 == 0)) ∧ Going w0 w w' c g (measT t dep m) := by
  intro n
  induction n with
  | zero => exact fun t h => absurd h (Nat.not_lt_zero _)
  | succ n ih =>
  intro t ht A c0 dep m w0 w c g hwg hG hr hc0
  have hu66 := Try.underlying66
  have HR := mk hr
  have HC := mk hc0
  have HG := mk hG
  have HT := mk ht
  clear hr hc0 hG ht
  have hok := mk (okT_at t)
  rw [measT_eq]
  have hlen := HR.out.2.1
  generalize hN : nodeM dep (okT t) m = nm
  have HN := mk hN
  clear hN
  obtain ⟨s1, d1, e1⟩ := nm
  by_cases he : e1 = 0
  · subst he
    rw [if_pos rfl]
    go_enter Try.func126, Try.ntmps126
    go_wp2_with (first | ((with_reducible refine gate_dst (N := 4) rfl ?_); refine box_event ?hg (N := 4) ?hd (cs := #[.int .i64 t.f0, .int .i64 t.f1, .string t.f2, .slice A t.f3.length c0]) (t := 66) ?hr ?_; (case hd => rfl); (case hg => rfl); (case hr => exact kq6); intro gb hgb w1 hbox hb; have HG1 := mk (HG.out.then_ hb); have BK := mk hbox; have GE := mk (Nat.le_of_eq hgb.symm); clear HG hb hbox hgb; obtain ⟨_, _, _, _⟩ := cy4_ BK.out) | (go_at_call 165; (with_reducible refine (tree_term.calls t.f0 t.f1 t.f2 A c0 t.f3 (okT t) _ ?side1 ?side2 hok.out).mono ?_); (case side1 => exact Kd.C_below HR.out HG1.out.below); (case side2 => exact HC.out); rintro e w2 ⟨rfl, hb⟩; have HG2 := mk (HG1.out.then_ hb); have BK2 := mk (blk_below BK.out hb); clear HG1 BK hb) | (go_at_call 161; refine (met_calls c g m.1 m.2.1 m.2.2 dep (okT t) w0 _ hwg HG2.out.below HG2.out.st HG2.out.cl).mono ?_; rw [show ((m.1, m.2.1, m.2.2) : Int × Int × Int) = m from rfl, HN.out]; rintro e w3 ⟨rfl, hs, hk, hb⟩; have BK3 := mk (hk.blk BK2.out (blk_ne BK2.out HG2.out.st kq2) (by simp)); have HG3 := mk (HG2.out.step hs hk hb); clear HG2 BK2 hs hk hb; have r3 : w3.cell? ⟨gb, 3, none⟩ = some (.slice A t.f3.length c0) := bk_ BK3 3))
    go_loopg [18] t.f3.length (fun gq v18 wr => ∃ (i : Nat) (mm : Int × Int × Int), v18 = .int .i64 i ∧ Aside0 (i ≤ t.f3.length) ∧ Aside0 (t.f3.length - i ≤ gq) ∧ Aside0 (measTs (t.f3.drop i) (wrap64 (dep + 1)) mm = measTs t.f3 (wrap64 (dep + 1)) (s1, d1, 0)) ∧ Aside0 (mm.2.2 = 0) ∧ Aside0 (wr.heap[gb]? = some (.cells #[.int .i64 t.f0, .int .i64 t.f1, .string t.f2, .slice A t.f3.length c0] 66 (0, 0))) ∧ Aside0 (Going w0 w wr c g mm))
    case atStart => exact ⟨0, (s1, d1, 0), rfl, ⟨Nat.zero_le _⟩, ⟨kq1⟩, ⟨by rw [List.drop_zero]⟩, ⟨rfl⟩, ⟨BK3.out⟩, ⟨HG3.out⟩⟩
    case round =>
      obtain ⟨i, mm, rfl, HI, HQ, HM, HZ, BK, HG⟩ := hrel
      by_cases hi : i < t.f3.length
      · have hiz : (i : Int) < (t.f3.length : Int) := by omega
        have hi0 : (0 : Int) ≤ (i : Int) := by omega
        obtain ⟨ad, A2, c2, ead, hx0, hx1, hx2, hx3, hl3, hi3⟩ := at_T66 HR.out (i : Int) hi0 hiz
        cases ead
        have hx : rd_T66 t.f3 (i : Int) = t.f3[i] := by simp [rd_T66, hi]
        rw [hx] at hx0 hx1 hx2 hx3 hl3 hi3
        rw [Int.toNat_natCast] at hx0 hx1 hx2 hx3
        have hB := HG.out.below
        replace hx0 := (hB.cell (World.block_lt_of_cell? _ _ hx0)).trans hx0
        replace hx1 := (hB.cell (World.block_lt_of_cell? _ _ hx1)).trans hx1
        replace hx2 := (hB.cell (World.block_lt_of_cell? _ _ hx2)).trans hx2
        replace hx3 := (hB.cell (World.block_lt_of_cell? _ _ hx3)).trans hx3
        have HL3 := mk hl3
        have HI3 := mk hi3
        have HMD := mk ((measTs_drop hi (wrap64 (dep + 1)) mm).symm.trans HM.out)
        have HSZ := mk (show SizeOf.sizeOf t.f3[i] < n by
          have h1 := List.sizeOf_lt_of_mem (List.getElem_mem hi)
          have h2 : SizeOf.sizeOf t.f3 < SizeOf.sizeOf t := by cases t; simp; omega
          have := HT.out
          omega)
        clear hl3 hi3 hB hx HM
        generalize t.f3[i] = y at hx0 hx1 hx2 hx3 HL3 HI3 HMD HSZ
        by_cases hy : (measT y (wrap64 (dep + 1)) mm).2.2 = 0
        · have hyb : ((measT y (wrap64 (dep + 1)) mm).2.2 == 0) = true := beq_iff_eq.2 hy
          have HY := mk hy
          rw [if_pos hy] at HMD
          clear hy
          go_wp2_with (first | ((with_reducible refine gate_dst (N := 8) rfl ?_); refine box_event ?hg (N := 8) ?hd (cs := #[.int .i64 0, .int .i64 0, .string (⟨#[]⟩ : ByteArray), .slice none 0 0]) (t := 66) ?hr ?_; (case hd => rfl); (case hg => rfl); (case hr => exact kq6); intro gb2 hgb2 w4 hbox hb; have BK4 := mk hbox; have HB4 := mk hb; have GE4 := mk (Nat.le_of_eq hgb2.symm); clear hb hbox hgb2; obtain ⟨_, _, _, _, y0, y1, y2, y3⟩ := cz4_ BK4.out) | (go_at_call 126; refine (ih y HSZ.out A2 c2 (wrap64 (dep + 1)) mm w0 _ c g hwg ?s1 HI3.out HL3.out).mono ?_; (case s1 => exact kq20 GE4); rw [hyb]; rintro e w5 ⟨rfl, hg5⟩; have HG5 := mk ((HG.out.then_ (kq17 GE4)).step hg5.st hg5.keep hg5.below); have BK5 := mk (hg5.keep.blk (blk_below BK.out (kq17 GE4)) (blk_ne BK.out HG.out.st kq2) (by simp)); clear hg5))
          go_roundg (t.f3.length - (i + 1))
          case measure => have := HQ.out; omega
          case rel => exact ⟨i + 1, _, kq22, ⟨kq1⟩, ⟨kq1⟩, HMD, HY, BK5, HG5⟩
        · have hyb : ((measT y (wrap64 (dep + 1)) mm).2.2 == 0) = false := beq_eq_false_iff_ne.2 hy
          rw [if_neg hy] at HMD
          clear hy
          go_wp2_with (first | ((with_reducible refine gate_dst (N := 8) rfl ?_); refine box_event ?hg (N := 8) ?hd (cs := #[.int .i64 0, .int .i64 0, .string (⟨#[]⟩ : ByteArray), .slice none 0 0]) (t := 66) ?hr ?_; (case hd => rfl); (case hg => rfl); (case hr => exact kq6); intro gb2 hgb2 w4 hbox hb; have BK4 := mk hbox; have HB4 := mk hb; have GE4 := mk (Nat.le_of_eq hgb2.symm); clear hb hbox hgb2; obtain ⟨_, _, _, _, y0, y1, y2, y3⟩ := cz4_ BK4.out) | (go_at_call 126; refine (ih y HSZ.out A2 c2 (wrap64 (dep + 1)) mm w0 _ c g hwg ?s1 HI3.out HL3.out).mono ?_; (case s1 => exact kq20 GE4); rw [hyb]; rintro e w5 ⟨rfl, hg5⟩; have HG5 := mk ((HG.out.then_ (kq17 GE4)).step hg5.st hg5.keep hg5.below); have BK5 := mk (hg5.keep.blk (blk_below BK.out (kq17 GE4)) (blk_ne BK.out HG.out.st kq2) (by simp)); clear hg5))
          go_ret
          exact ⟨by rw [← HMD.out, hyb]; rfl, by rw [← HMD.out]; exact HG5.out⟩
      · have hiz : ¬ (i : Int) < (t.f3.length : Int) := by omega
        have hil : i = t.f3.length := by have := HI.out; omega
        have HE := mk (show mm = measTs t.f3 (wrap64 (dep + 1)) (s1, d1, 0) by rw [← HM.out, hil, List.drop_length]; rfl)
        clear hil HM hi
        go_wp2
        go_ret
        exact ⟨by rw [← HE.out, beq_iff_eq.2 HZ.out]; rfl, by rw [← HE.out]; exact HG.out⟩
  · have he1 : (e1 == 0) = false := beq_eq_false_iff_ne.2 he
    rw [if_neg he]
    go_enter Try.func126, Try.ntmps126
    go_wp2_with (first | ((with_reducible refine gate_dst (N := 4) rfl ?_); refine box_event ?hg (N := 4) ?hd (cs := #[.int .i64 t.f0, .int .i64 t.f1, .string t.f2, .slice A t.f3.length c0]) (t := 66) ?hr ?_; (case hd => rfl); (case hg => rfl); (case hr => exact kq6); intro gb hgb w1 hbox hb; have HG1 := mk (HG.out.then_ hb); have BK := mk hbox; have GE := mk (Nat.le_of_eq hgb.symm); clear HG hb hbox hgb; obtain ⟨_, _, _, _⟩ := cy4_ BK.out) | (go_at_call 165; (with_reducible refine (tree_term.calls t.f0 t.f1 t.f2 A c0 t.f3 (okT t) _ ?side1 ?side2 hok.out).mono ?_); (case side1 => exact Kd.C_below HR.out HG1.out.below); (case side2 => exact HC.out); rintro e w2 ⟨rfl, hb⟩; have HG2 := mk (HG1.out.then_ hb); have BK2 := mk (blk_below BK.out hb); clear HG1 BK hb) | (go_at_call 161; refine (met_calls c g m.1 m.2.1 m.2.2 dep (okT t) w0 _ hwg HG2.out.below HG2.out.st HG2.out.cl).mono ?_; rw [show ((m.1, m.2.1, m.2.2) : Int × Int × Int) = m from rfl, HN.out]; rintro e w3 ⟨rfl, hs, hk, hb⟩; have BK3 := mk (hk.blk BK2.out (blk_ne BK2.out HG2.out.st kq2) (by simp)); have HG3 := mk (HG2.out.step hs hk hb); clear HG2 BK2 hs hk hb; have r3 : w3.cell? ⟨gb, 3, none⟩ = some (.slice A t.f3.length c0) := bk_ BK3 3))
    go_ret
    exact ⟨by rw [he1]; rfl, HG3.out⟩
end Go.Proofs.Ytjknpmibdkoklaa.U
set_option maxRecDepth 100000
namespace Go.Proofs.Ytjknpmibdkoklaa.U
open Go.RowKit Go.Proofs.YtjknpmibdkoklaaW.PrintWords Go.Proofs.YtjknpmibdkoklaaW.PrintLast Go.Proofs.YtjknpmibdkoklaaW.PrintMore
theorem okT_tell (t : S66) : okT t = if t.f0 = 0 then decide (t.f1 ≥ 0) && (decide (t.f2.toList = ([] : List UInt8)) && ((t.f3.length : Int) == 0)) else if t.f0 = 1 then (t.f1 == 0) && (nameB t.f2 && ((t.f3.length : Int) == 0)) else if t.f0 = 2 then (t.f1 == 0) && (decide (t.f2.toList = ([] : List UInt8)) && ((t.f3.length : Int) == 1)) else if 3 ≤ t.f0 ∧ t.f0 ≤ 5 then (t.f1 == 0) && (decide (t.f2.toList = ([] : List UInt8)) && ((t.f3.length : Int) == 2)) else false := by
  have fin : ∀ (x p : Int), (if t.f1 = 0 then (if t.f2.toList = ([] : List UInt8) then (some (x == p)) else (some false)) else (some false)).getD false = ((t.f1 == 0) && (decide (t.f2.toList = ([] : List UInt8)) && (x == p))) := by
    intro x p
    by_cases h1 : t.f1 = 0
    · rw [if_pos h1]
      by_cases h2 : t.f2.toList = ([] : List UInt8)
      · rw [if_pos h2]; simp [h1, h2]
      · rw [if_neg h2]; simp [h2]
    · rw [if_neg h1]; simp [h1]
  unfold okT tree_term.f
  by_cases h0 : t.f0 = 0
  · rw [if_pos h0, if_pos h0]
    by_cases h1 : t.f1 ≥ 0
    · rw [if_pos h1, decide_eq_true h1]
      by_cases h2 : t.f2.toList = ([] : List UInt8)
      · rw [if_pos h2]; simp [h2]
      · rw [if_neg h2]; simp [h2]
    · rw [if_neg h1, decide_eq_false h1]; rfl
  · rw [if_neg h0, if_neg h0]
    by_cases h1 : t.f0 = 1
    · rw [if_pos h1, if_pos h1]
      by_cases h2 : t.f1 = 0
      · rw [if_pos h2, h2]
        unfold glyph_Name.f
        rw [Option.bind_some]
        cases nameB t.f2 <;> rfl
      · rw [if_neg h2, beq_eq_false_iff_ne.2 h2]; rfl
    · rw [if_neg h1, if_neg h1]
      by_cases h2 : t.f0 = 2
      · rw [if_pos h2, if_pos h2]; exact fin _ _
      · rw [if_neg h2, if_neg h2]
        by_cases h3 : t.f0 = 3
        · rw [if_pos h3, if_pos (show 3 ≤ t.f0 ∧ t.f0 ≤ 5 by omega)]; exact fin _ _
        · rw [if_neg h3]
          by_cases h4 : t.f0 = 4
          · rw [if_pos h4, if_pos (show 3 ≤ t.f0 ∧ t.f0 ≤ 5 by omega)]; exact fin _ _
          · rw [if_neg h4]
            by_cases h5 : t.f0 = 5
            · rw [if_pos h5, if_pos (show 3 ≤ t.f0 ∧ t.f0 ≤ 5 by omega)]; exact fin _ _
            · rw [if_neg h5, if_neg (show ¬ (3 ≤ t.f0 ∧ t.f0 ≤ 5) by omega)]; rfl
theorem okT_shape {t : S66} (h : okT t = true) : (t.f0 = 0 ∧ t.f3 = []) ∨ (t.f0 = 1 ∧ nameB t.f2 = true ∧ t.f3 = []) ∨ (t.f0 = 2 ∧ ∃ u, t.f3 = [u]) ∨ ((t.f0 = 3 ∨ t.f0 = 4 ∨ t.f0 = 5) ∧ ∃ u v, t.f3 = [u, v]) := by
  have l0 : ((t.f3.length : Int) == 0) = true → t.f3 = [] := fun h => List.eq_nil_of_length_eq_zero (by have := beq_iff_eq.1 h; omega)
  have l1 : ((t.f3.length : Int) == 1) = true → ∃ u, t.f3 = [u] := fun h => List.length_eq_one_iff.1 (by have := beq_iff_eq.1 h; omega)
  have l2 : ((t.f3.length : Int) == 2) = true → ∃ u v, t.f3 = [u, v] := fun h => by
    have hl : t.f3.length = 2 := by have := beq_iff_eq.1 h; omega
    match t.f3, hl with
    | [u, v], _ => exact ⟨u, v, rfl⟩
  rw [okT_tell] at h
  by_cases h0 : t.f0 = 0
  · rw [if_pos h0] at h
    simp only [Bool.and_eq_true] at h
    exact .inl ⟨h0, l0 h.2.2⟩
  · rw [if_neg h0] at h
    by_cases h1 : t.f0 = 1
    · rw [if_pos h1] at h
      simp only [Bool.and_eq_true] at h
      exact .inr (.inl ⟨h1, h.2.1, l0 h.2.2⟩)
    · rw [if_neg h1] at h
      by_cases h2 : t.f0 = 2
      · rw [if_pos h2] at h
        simp only [Bool.and_eq_true] at h
        exact .inr (.inr (.inl ⟨h2, l1 h.2.2⟩))
      · rw [if_neg h2] at h
        by_cases h3 : 3 ≤ t.f0 ∧ t.f0 ≤ 5
        · rw [if_pos h3] at h
          simp only [Bool.and_eq_true] at h
          exact .inr (.inr (.inr ⟨kq1, l2 h.2.2⟩))
        · rw [if_neg h3] at h
          cases h
end Go.Proofs.Ytjknpmibdkoklaa.U
set_option maxRecDepth 100000
namespace Go.Proofs.Ytjknpmibdkoklaa.U
open Go.RowKit Go.Proofs.YtjknpmibdkoklaaW.PrintWords Go.Proofs.YtjknpmibdkoklaaW.PrintLast Go.Proofs.YtjknpmibdkoklaaW.PrintMore
open Aside0 (mk)
def opT (op num v : Int) (l : List Int) : Int := if op = 0 then num else if op = 1 then v else if op = 2 then - l.getD 0 0 else opZ op (l.getD 0 0) (l.getD 1 0)
mutual
def valZ (w : ByteArray → Int) : S66 → Int
  | ⟨op, num, nm, l⟩ => opT op num (w nm) (valZs w l)
def valZs (w : ByteArray → Int) : List S66 → List Int
  | [] => []
  | t :: l => valZ w t :: valZs w l
end
mutual
def FineT (p : ByteArray → Prop) : S66 → Prop
  | ⟨op, num, nm, l⟩ => okT ⟨op, num, nm, l⟩ = true ∧ (-9223372036854775808 ≤ num ∧ num < 9223372036854775808) ∧ (op = 1 → p nm) ∧ FineTs p l
def FineTs (p : ByteArray → Prop) : List S66 → Prop
  | [] => True
  | t :: l => FineT p t ∧ FineTs p l
end
mutual
def sizeT : S66 → Nat
  | ⟨_, _, _, l⟩ => 1 + sizeTs l
def sizeTs : List S66 → Nat
  | [] => 0
  | t :: l => sizeT t + sizeTs l
end
theorem FineT_eq {p : ByteArray → Prop} {t : S66} (h : FineT p t) : okT t = true ∧ (-9223372036854775808 ≤ t.f1 ∧ t.f1 < 9223372036854775808) ∧ (t.f0 = 1 → p t.f2) ∧ FineTs p t.f3 := by cases t; rw [FineT] at h; exact h
theorem valZ_eq (w : ByteArray → Int) (t : S66) : valZ w t = opT t.f0 t.f1 (w t.f2) (valZs w t.f3) := by cases t; rw [valZ]
theorem sizeT_eq (t : S66) : sizeT t = 1 + sizeTs t.f3 := by cases t; rw [sizeT]
theorem valZs_len (w : ByteArray → Int) : ∀ l : List S66, (valZs w l).length = l.length
  | [] => rfl
  | t :: l => by rw [valZs, List.length_cons, List.length_cons, valZs_len w l]
theorem valZs_take (w : ByteArray → Int) : ∀ (l : List S66) (i : Nat) (h : i < l.length), valZs w (l.take (i + 1)) = valZs w (l.take i) ++ [valZ w l[i]]
  | t :: l, 0, _ => rfl
  | t :: l, i + 1, h => by
    rw [List.take_succ_cons, List.take_succ_cons, valZs, valZs, List.cons_append, valZs_take w l i (by simpa using h)]
    rfl
theorem FineTs_mem {p : ByteArray → Prop} : ∀ {l : List S66}, FineTs p l → ∀ t ∈ l, FineT p t
  | u :: l, h, t, ht => by
    rw [FineTs] at h
    cases ht with
    | head => exact h.1
    | tail _ ht => exact FineTs_mem h.2 t ht
theorem sizeTs_mem : ∀ {l : List S66}, ∀ t ∈ l, sizeT t ≤ sizeTs l
  | u :: l, t, ht => by
    rw [sizeTs]
    cases ht with
    | head => omega
    | tail _ ht => have := sizeTs_mem t ht; omega
theorem pow_lt (m : Nat) : 0 < 4294967296 ^ m := Nat.pow_pos kq2
theorem nat_neg (a : Int) : (-a).natAbs = a.natAbs := Int.natAbs_neg a
theorem opZ_big {op a b : Int} {m n : Nat} (ha : a.natAbs < 4294967296 ^ m) (hb : b.natAbs < 4294967296 ^ n) : (opZ op a b).natAbs < 4294967296 ^ (m + n + 1) := by
  have h0 : 4294967296 ^ m ≤ 4294967296 ^ (m + n) := Nat.pow_le_pow_right kq2 kq1
  have h1 : 4294967296 ^ n ≤ 4294967296 ^ (m + n) := Nat.pow_le_pow_right kq2 kq1
  have h2 : 4294967296 ^ (m + n + 1) = 4294967296 ^ (m + n) * 4294967296 := Nat.pow_succ _ _
  unfold opZ
  split
  · have := Int.natAbs_add_le a b; omega
  · split
    · have := Int.natAbs_sub_le a b; omega
    · have h3 : a.natAbs * b.natAbs < 4294967296 ^ m * 4294967296 ^ n := Nat.mul_lt_mul_of_lt_of_le ha (Nat.le_of_lt hb) (pow_lt n)
      rw [← Nat.pow_add] at h3
      rw [Int.natAbs_mul]
      omega
mutual
theorem valZ_big (w : ByteArray → Int) (hw : ∀ s, (w s).natAbs < 4294967296 ^ 2) (p : ByteArray → Prop) : ∀ t, FineT p t → (valZ w t).natAbs < 4294967296 ^ (2 * sizeT t)
  | ⟨op, num, nm, l⟩, h => by
    have hf := FineT_eq h
    have hs := okT_shape hf.1
    have hl := valZs_big w hw p l hf.2.2.2
    rw [valZ, sizeT]
    simp only at hf hs
    have hp : 4294967296 ^ 2 ≤ 4294967296 ^ (2 * (1 + sizeTs l)) := Nat.pow_le_pow_right kq2 kq1
    unfold opT
    split
    · omega
    · split
      · have := hw nm; omega
      · rcases hs with ⟨h0, _⟩ | ⟨h0, _⟩ | ⟨h0, u, rfl⟩ | ⟨h0, u, v, rfl⟩
        · contradiction
        · contradiction
        · rw [if_pos h0]
          have h1 := hl 0 (by simp)
          simp only [valZs, sizeTs, List.getD_cons_zero] at h1 ⊢
          simp only [List.getElem_cons_zero] at h1
          rw [nat_neg]
          exact Nat.lt_of_lt_of_le h1 (Nat.pow_le_pow_right kq2 kq1)
        · rw [if_neg kq1]
          have h1 := hl 0 (by simp)
          have h2 := hl 1 (by simp)
          simp only [valZs, sizeTs, List.getD_cons_zero, List.getD_cons_succ] at h1 h2 ⊢
          simp only [List.getElem_cons_zero, List.getElem_cons_succ] at h1 h2
          exact Nat.lt_of_lt_of_le (opZ_big h1 h2) (Nat.pow_le_pow_right kq2 kq1)
theorem valZs_big (w : ByteArray → Int) (hw : ∀ s, (w s).natAbs < 4294967296 ^ 2) (p : ByteArray → Prop) : ∀ l, FineTs p l → ∀ (i : Nat) (h : i < l.length), ((valZs w l).getD i 0).natAbs < 4294967296 ^ (2 * sizeT l[i])
  | [], _, i, h => absurd h (Nat.not_lt_zero _)
  | t :: l, h, i, hi => by
    rw [FineTs] at h
    cases i with
    | zero => exact valZ_big w hw p t h.1
    | succ i => exact valZs_big w hw p l h.2 i (by simpa using hi)
end
end Go.Proofs.Ytjknpmibdkoklaa.U
namespace Go.Proofs.Ytjknpmibdkoklaa.U
open Go.RowKit Go.Proofs.YtjknpmibdkoklaaW.PrintWords Go.Proofs.YtjknpmibdkoklaaW.PrintLast Go.Proofs.YtjknpmibdkoklaaW.PrintMore
open Aside0 (mk)
open List (setIfInBounds_toArray set_cons_zero set_cons_succ)
attribute [local go_sem] max2_int min2_int max_two min_two max_three min_three max_four min_four
set_option linter.unusedVariables false
set_option linter.unusedSimpArgs false
attribute [local go_sem] fld99_2 fld103_2 fld172_1
def tree_sorted.f (l0 : List ByteArray) : Option (List ByteArray) := (slices_Sort_string_string.f l0).bind fun t229 => ((slices_Compact_string_string.f t229).bind fun t230 => (some t230))
set_option maxHeartbeats 8000000 in
set_option maxRecDepth 100000 in
theorem tree_sorted.calls (P0_ : Nat → Prop) (u9000_ : Value) (l0 : List ByteArray) (r : List ByteArray) (w0 w : World) (hB : Below w0.heap.size w0 w) (ho0 : Kd.R Kd.string 9 w w0.heap.size P0_ u9000_ l0) (h : tree_sorted.f l0 = some r) :
    Calls Try.prog 112 #[u9000_] w fun e w' => ∃ v0_ : Value, e = .returned (v0_) ∧ Kd.R Kd.string 9 w' w0.heap.size (fun k_ => (P0_ k_ ∨ w.heap.size ≤ k_)) v0_ r ∧ Below w0.heap.size w0 w' ∧ Kept w w' (fun k_ => P0_ k_) := by
  have HO0 := mk (show Kd.R Kd.string 9 w w0.heap.size (fun k_ => (P0_ k_ ∨ w.heap.size ≤ k_)) u9000_ l0 from Kd.R_mono ho0 (fun k_ hk => (.inl hk)))
  have HK := mk (Kept.refl w (fun k_ => P0_ k_))
  have HW0 := mk hB.size
  have HB := mk hB
  clear hB
  have H : ((slices_Sort_string_string.f l0).bind fun t229 => ((slices_Compact_string_string.f t229).bind fun t230 => (some t230))) = some r := h
  clear h
  replace H := Option.bind_eq_some_iff.mp H
  obtain ⟨t229, A20, H⟩ := H
  replace H : ((slices_Compact_string_string.f t229).bind fun t230 => (some t230)) = some r := H
  have A2 := mk A20
  clear A20
  replace H := Option.bind_eq_some_iff.mp H
  obtain ⟨t230, A30, H⟩ := H
  replace H : (some t230) = some r := H
  have A3 := mk A30
  clear A30
  obtain rfl := Option.some.inj H
  obtain ⟨Ao4, co4, eo4⟩ := Kd.R_slice HO0.out
  subst eo4
  go_enter Try.func112, Try.ntmps112
  go_wp2_with (first | ((with_reducible refine gate_callee (f := 63) rfl ?_); refine goesL_ (some 4) rfl rfl Try.func63 kq0 rfl #[.slice Ao4 l0.length co4] rfl kq14 ?_; (with_reducible refine (slices_Sort_string_string.calls (fun k_ => some k_ = (.slice Ao4 l0.length co4 : Value).ownBlock) (.slice Ao4 l0.length co4) l0 t229 w0 _ ?side1 ?side2 A2.out).mono ?_); (case side1 => exact kq15); (case side2 => exact Kd.R_tight rfl HO0.out); rintro e w5 ⟨rfl, hy0, hb, hkp⟩; refine ⟨_, rfl, ?_⟩; replace HK := mk (Kept.then_ (S := (fun k_ => P0_ k_)) kq18 hkp (fun k_ hs_ => (fun e_ => (HO0.out.1 k_ e_.symm)) hs_)); replace HO0 := mk (Kd.R_reok rfl hy0 (fun k_ e_ => HO0.out.1 k_ e_)); replace HB := mk (hb)) | ((with_reducible refine gate_callee (f := 66) rfl ?_); refine goesL_ (some 6) rfl rfl Try.func66 kq0 rfl #[.slice Ao4 l0.length co4] rfl kq14 ?_; (with_reducible refine (slices_Compact_string_string.calls (fun k_ => some k_ = (.slice Ao4 l0.length co4 : Value).ownBlock) (.slice Ao4 l0.length co4) t229 t230 w0 _ ?side1 ?side2 A3.out).mono ?_); (case side1 => exact kq15); (case side2 => exact Kd.R_tight rfl HO0.out); rintro e w6 ⟨v231, rfl, ho0, hb, hkp⟩; refine ⟨_, rfl, ?_⟩; have HO232 := mk (Kd.R_mono (ok' := fun k_ => (P0_ k_ ∨ w.heap.size ≤ k_)) ho0 (fun k_ hk_ => Or.elim hk_ (fun hs_ => (HO0.out.1 k_ (hs_).symm)) (fun hn_ => (.inr (Nat.le_trans (by first | exact HK.out.1 | exact (show Kept w _ (fun k_ => P0_ k_) from by repeat (first | (with_reducible first | exact HK.out | apply Kept.alloc | apply Kept.drewN | apply Kept.drew) | exact HK.out)).1) hn_))))); replace HK := mk (Kept.then_ (S := (fun k_ => P0_ k_)) kq18 hkp (fun k_ hs_ => (fun e_ => (HO0.out.1 k_ e_.symm)) hs_)); replace HB := mk (hb); clear HO0))
  go_ret
  exact ⟨_, kq21, (kq23 HO232), kq15, kq18⟩
end Go.Proofs.Ytjknpmibdkoklaa.U
set_option maxRecDepth 100000
namespace Go.Proofs.Ytjknpmibdkoklaa.U
open Go.RowKit Go.Sort Go.Lib Go.Proofs.YtjknpmibdkoklaaW.PrintWords Go.Proofs.YtjknpmibdkoklaaW.PrintLast Go.Proofs.YtjknpmibdkoklaaW.PrintMore
theorem bl_eq (s : ByteArray) : s.toList = bl s := by unfold bl; rw [ByteArray.toList_eq]
theorem bl_lb' (l : List UInt8) : bl (lb l) = l := by simp [bl, lb]
theorem bl_inj {a b : ByteArray} (h : bl a = bl b) : a = b := by rw [← lb_bl a, h, lb_bl]
theorem less_eq (a b : ByteArray) : Op.bytesLess a.toList b.toList = decide (bl a < bl b) := by rw [bytesLess_eq, bl_eq, bl_eq]
theorem ltt {a b c : List UInt8} (h : a < b) (k : b < c) : a < c := List.lt_trans h k
theorem lti (a : List UInt8) : ¬ a < a := List.lt_irrefl a
theorem lle {a b : List UInt8} (h : a ≤ b) (k : a ≠ b) : a < b := Classical.byContradiction fun n => k (List.le_antisymm h (List.not_lt.1 n))
abbrev Rise (l : List ByteArray) : Prop := l.Pairwise fun a b => bl a < bl b
theorem rise_unique : ∀ {l m : List ByteArray}, Rise l → Rise m → (∀ x, x ∈ l ↔ x ∈ m) → l = m
  | [], [], _, _, _ => rfl
  | [], y :: m, _, _, h => absurd ((h y).2 (List.mem_cons_self ..)) List.not_mem_nil
  | x :: l, [], _, _, h => absurd ((h x).1 (List.mem_cons_self ..)) List.not_mem_nil
  | x :: l, y :: m, hl, hm, h => by
    rw [Rise, List.pairwise_cons] at hl hm
    have e : x = y := by
      rcases List.mem_cons.1 ((h x).1 (List.mem_cons_self ..)) with e | e
      · exact e
      · rcases List.mem_cons.1 ((h y).2 (List.mem_cons_self ..)) with e2 | e2
        · exact e2.symm
        · exact absurd (ltt (hm.1 x e) (hl.1 y e2)) (lti _)
    subst e
    refine congrArg (x :: ·) (rise_unique hl.2 hm.2 fun z => ⟨fun hz => ?_, fun hz => ?_⟩)
    · rcases List.mem_cons.1 ((h z).1 (List.mem_cons_of_mem _ hz)) with e | e
      · subst e; exact absurd (hl.1 _ hz) (lti _)
      · exact e
    · rcases List.mem_cons.1 ((h z).2 (List.mem_cons_of_mem _ hz)) with e | e
      · subst e; exact absurd (hm.1 _ hz) (lti _)
      · exact e
theorem compact_snoc (zs : List (List UInt8)) (x : List UInt8) : Lib.compact (zs ++ [x]) = Lib.compact zs ++ (if zs.getLast? = some x then [] else [x]) := by
  unfold Lib.compact
  rw [List.length_append, List.length_singleton, compactUpTo_succ]
  have h1 : ∀ j, j < zs.length → (zs ++ [x]).toArray[j]! = zs.toArray[j]! := fun j hj => by simp [getElem!_pos, hj, List.getElem_append_left hj, show j < zs.length + 1 by omega]
  have h2 : (zs ++ [x]).toArray[zs.length]! = x := by simp
  congr 1
  · unfold compactUpTo
    have e : (List.range zs.length).filter (keeps (zs ++ [x]).toArray) = (List.range zs.length).filter (keeps zs.toArray) := List.filter_congr fun j hj => by
      have := List.mem_range.1 hj
      unfold keeps
      rw [h1 j this, h1 (j - 1) kq1]
    rw [e]
    exact List.map_congr_left fun j hj => h1 j (List.mem_range.1 (List.mem_filter.1 hj).1)
  · rw [h2]
    unfold keeps
    rw [h2]
    cases hz : zs.length with
    | zero =>
      obtain rfl := List.eq_nil_of_length_eq_zero hz
      simp
    | succ n =>
      rw [h1 (n + 1 - 1) kq1]
      have e : zs.getLast? = some zs.toArray[n]! := by rw [List.getLast?_eq_getElem?, hz, List.getElem?_eq_getElem kq1]; simp [getElem!_pos, show n < zs.length by omega]
      rw [show n + 1 - 1 = n from rfl, e]
      generalize zs.toArray[n]! = y
      by_cases hx : x = y
      · subst hx; simp
      · have hx2 : ¬ y = x := fun h => hx h.symm
        simp [hx, hx2]
theorem snoc_ind {α : Type} {P : List α → Prop} (h0 : P []) (h1 : ∀ l x, P l → P (l ++ [x])) (l : List α) : P l := by
  have : ∀ r : List α, P r.reverse := fun r => by
    induction r with
    | nil => exact h0
    | cons x r ih => rw [List.reverse_cons]; exact h1 _ _ ih
  simpa using this l.reverse
theorem compact_spec (zs : List (List UInt8)) : zs.Pairwise (· ≤ ·) → (Lib.compact zs).Pairwise (· < ·) ∧ ∀ y, y ∈ Lib.compact zs ↔ y ∈ zs := by
  induction zs using snoc_ind with
  | h0 => exact fun _ => ⟨List.Pairwise.nil, fun y => Iff.rfl⟩
  | h1 l x ih =>
    intro h
    rw [List.pairwise_append] at h
    obtain ⟨p1, p2⟩ := ih h.1
    rw [compact_snoc]
    split
    · rename_i e
      refine ⟨by simpa using p1, fun y => ?_⟩
      have hx : x ∈ l := List.mem_of_getLast? e
      rw [List.append_nil, p2, List.mem_append, List.mem_singleton]
      constructor
      · exact .inl
      · rintro (k | rfl) <;> assumption
    · rename_i e
      refine ⟨List.pairwise_append.2 ⟨p1, by simp, fun a ha b hb => ?_⟩, fun y => by rw [List.mem_append, List.mem_append, p2]⟩
      obtain rfl := List.mem_singleton.1 hb
      have ha2 := (p2 a).1 ha
      refine lle (h.2.2 a ha2 b (List.mem_singleton_self _)) fun hab => ?_
      subst hab

      cases hl : l.getLast? with
      | none => rw [List.getLast?_eq_none_iff] at hl; subst hl; cases ha2
      | some z =>
        obtain ⟨l', rfl⟩ := List.getLast?_eq_some_iff.1 hl
        have hz : z ≤ a := h.2.2 z (by simp) a (List.mem_singleton_self _)
        rcases List.mem_append.1 ha2 with k | k
        · have := (List.pairwise_append.1 h.1).2.2 a k z (List.mem_singleton_self _)
          exact e (by rw [hl, List.le_antisymm hz this])
        · obtain rfl := List.mem_singleton.1 k
          exact e hl
def canon (l : List ByteArray) : List ByteArray := compactS (sortedS l)
theorem map_bl_lb (l : List (List UInt8)) : (l.map lb).map bl = l := by
  rw [List.map_map]
  exact (congrArg (fun q => List.map q l) (funext fun s => bl_lb' s)).trans (List.map_id l)
theorem mem_sortedS {x : ByteArray} {l : List ByteArray} : x ∈ sortedS l ↔ x ∈ l := by
  unfold sortedS
  rw [List.mem_map]
  constructor
  · rintro ⟨a, ha, rfl⟩
    obtain ⟨b, hb, rfl⟩ := List.mem_map.1 (List.mem_mergeSort.1 ha)
    rwa [lb_bl]
  · exact fun h => ⟨bl x, List.mem_mergeSort.2 (List.mem_map.2 ⟨x, h, rfl⟩), lb_bl x⟩
theorem sortedS_le (l : List ByteArray) : ((sortedS l).map bl).Pairwise (· ≤ ·) := by
  unfold sortedS
  rw [map_bl_lb]
  have := List.pairwise_mergeSort (le := fun x y : List UInt8 => decide (x ≤ y)) (fun a b c h1 h2 => by simp at *; exact List.le_trans h1 h2) (fun a b => by simp; exact List.le_total a b) (l.map bl)
  exact this.imp (fun h => of_decide_eq_true h)
theorem canon_rise (l : List ByteArray) : Rise (canon l) := by
  have h := (compact_spec _ (sortedS_le l)).1
  unfold canon compactS
  rw [Rise, List.pairwise_map]
  exact h.imp (fun {a b} h => by rw [bl_lb', bl_lb']; exact h)
theorem mem_canon {x : ByteArray} {l : List ByteArray} : x ∈ canon l ↔ x ∈ l := by
  have h := (compact_spec _ (sortedS_le l)).2
  unfold canon compactS
  rw [List.mem_map]
  constructor
  · rintro ⟨a, ha, rfl⟩
    obtain ⟨b, hb, rfl⟩ := List.mem_map.1 ((h a).1 ha)
    rw [lb_bl]
    exact mem_sortedS.1 hb
  · exact fun hx => ⟨bl x, (h _).2 (List.mem_map.2 ⟨x, mem_sortedS.2 hx, rfl⟩), lb_bl x⟩
theorem canon_length (l : List ByteArray) : (canon l).length ≤ l.length := by
  unfold canon compactS
  rw [List.length_map]
  exact Nat.le_trans (compact_le _) (by rw [List.length_map, sortedS_length]; exact Nat.le_refl _)
theorem canon_of_rise {l : List ByteArray} (h : Rise l) : canon l = l := rise_unique (canon_rise l) h fun _ => mem_canon
theorem canon_nil : canon [] = [] := canon_of_rise List.Pairwise.nil
theorem canon_one (x : ByteArray) : canon [x] = [x] := canon_of_rise (by simp [Rise])
theorem sorted_canon {l : List ByteArray} (h : l.length < 4611686018427387904) : tree_sorted.f l = some (canon l) := by
  unfold tree_sorted.f slices_Sort_string_string.f slices_Compact_string_string.f
  rw [if_pos h, Option.bind_some, if_pos (by rw [sortedS_length]; omega)]
  rfl
theorem wrap_add {i n : Nat} (h : i < n) (hn : n < 4611686018427387904) : wrap64 ((i : Int) + 1) = ((i + 1 : Nat) : Int) := by
  unfold wrap64
  omega
theorem rdOf_nat {α : Type} (d : α) (l : List α) (i : Nat) : rdOf d l (i : Int) = l.getD i d := rfl
end Go.Proofs.Ytjknpmibdkoklaa.U
namespace Go.Proofs.Ytjknpmibdkoklaa.U
open Go.RowKit Go.Proofs.YtjknpmibdkoklaaW.PrintWords Go.Proofs.YtjknpmibdkoklaaW.PrintLast Go.Proofs.YtjknpmibdkoklaaW.PrintMore
open Aside0 (mk)
open List (setIfInBounds_toArray set_cons_zero set_cons_succ)
attribute [local go_sem] max2_int min2_int max_two min_two max_three min_three max_four min_four
set_option linter.unusedVariables false
set_option linter.unusedSimpArgs false
attribute [local go_sem] fld99_2 fld103_2 fld172_1
def glyph_Rises.l0 : Nat → List ByteArray → List ByteArray → Int → Int → Option (Bool)
  | 0, _, _, _, _ => none
  | k + 1, x0, x5, x6, x7 => if x7 < x6 then (if 0 ≤ x7 then (if x7 < (x5.length : Int) then ((glyph_Name.f (rdOf ByteArray.empty x5 x7)).bind fun t537 => (if t537 = true then (if x7 > 0 then (if 0 ≤ (wrap64 (x7 - 1)) then (if (wrap64 (x7 - 1)) < (x0.length : Int) then (if ((Op.bytesLess ((rdOf ByteArray.empty x0 (wrap64 (x7 - 1))).toList) ((rdOf ByteArray.empty x5 x7).toList)) = true) then (glyph_Rises.l0 k x0 x5 x6 (wrap64 (x7 + 1))) else (some false)) else (none)) else (none)) else (glyph_Rises.l0 k x0 x5 x6 (wrap64 (x7 + 1)))) else (some false))) else (none)) else (none)) else (some true)
def glyph_Rises.f (k : Nat) (l0 : List ByteArray) : Option (Bool) := glyph_Rises.l0 k l0 l0 (l0.length : Int) 0
theorem glyph_Rises.mono_l : ∀ k, (∀ y0 y1 y2 y3, LeO (glyph_Rises.l0 k y0 y1 y2 y3) (glyph_Rises.l0 (k + 1) y0 y1 y2 y3))
  | 0 => fun _ _ _ _ r h => by simp [glyph_Rises.l0] at h
  | k + 1 => by
    have ih0 := glyph_Rises.mono_l k
    · intro y0 y1 y2 y3; (unfold glyph_Rises.l0)
      repeat' first
      | (with_reducible exact ih0 _ _ _ _)
      | (with_reducible exact LeO.refl _)
      | (with_reducible exact LeO.none _)
      | (with_reducible refine LeO.ite ?_ ?_)
      | (with_reducible refine LeO.bind ?_ (fun _ => ?_))
      | exact ih0 _ _ _ _
      | exact LeO.none _
      | refine LeO.ite ?_ ?_
      | refine LeO.bind ?_ (fun _ => ?_)
theorem glyph_Rises.mono : ∀ a0 k, LeO (glyph_Rises.f k a0) (glyph_Rises.f (k + 1) a0) := by
  intro a0 k
  have ih0 := glyph_Rises.mono_l k
  unfold glyph_Rises.f
  repeat' first
      | (with_reducible exact ih0 _ _ _ _)
      | (with_reducible exact LeO.refl _)
      | (with_reducible exact LeO.none _)
      | (with_reducible refine LeO.ite ?_ ?_)
      | (with_reducible refine LeO.bind ?_ (fun _ => ?_))
      | exact ih0 _ _ _ _
      | exact LeO.none _
      | refine LeO.ite ?_ ?_
      | refine LeO.bind ?_ (fun _ => ?_)
set_option maxHeartbeats 8000000 in
set_option maxRecDepth 100000 in
theorem glyph_Rises.calls (k : Nat) (A0 : Option Addr) (c0 : Nat) (l0 : List ByteArray) (r : Bool) (w : World) (hr0 : Kd.C Kd.string w A0 l0.length l0) (hc0 : l0.length ≤ c0) (h : glyph_Rises.f k l0 = some r) :
    Calls Try.prog 25 #[.slice A0 l0.length c0] w fun e w' => e = .returned (.bool r) ∧ Below w.heap.size w w' := by
  have HR0 := mk hr0
  have HC0 := mk hc0
  clear hr0 hc0
  have HB := mk (Below.refl w.heap.size w)
  have H : (glyph_Rises.l0 k l0 l0 (l0.length : Int) 0) = some r := h
  clear h
  have H' := mk H
  clear H
  go_enter Try.func25, Try.ntmps25
  go_wp2
  go_loopg [7] k (fun kq v7 w' => ∃ (x7_1 : Int), v7 = .int .i64 x7_1 ∧ Aside0 (glyph_Rises.l0 kq l0 l0 (l0.length : Int) x7_1 = some r) ∧ Aside0 (kq ≤ k) ∧ Aside0 (Below w.heap.size w w'))
  case atStart => exact ⟨(0), kq10, H', ⟨Nat.le_refl _⟩, ⟨kq15⟩⟩
  case round =>
    clear H'
    obtain ⟨x7_1, rfl, HA, HK1, HB⟩ := hrel
    cases gk with
    | zero => exact absurd HA.out (by simp [glyph_Rises.l0])
    | succ k1 =>
      (have H := HA.out); clear HA; (simp only [glyph_Rises.l0] at H); replace H := ic_ H; obtain ⟨c2, H⟩ | ⟨c2, H⟩ := H
      · (have c2b0 : decide (x7_1 < (l0.length : Int)) = true := decide_eq_true c2); clear c2; replace H := ic_ H; obtain ⟨c3, H⟩ | ⟨c3, H⟩ := H
        · (have c3b0 : decide (0 ≤ x7_1) = true := decide_eq_true c3); clear c3; replace H := ic_ H; obtain ⟨c4, H⟩ | ⟨c4, H⟩ := H
          · (have c4b0 : decide (x7_1 < (l0.length : Int)) = true := decide_eq_true c4); clear c4; (replace H := Option.bind_eq_some_iff.mp H); (obtain ⟨t537, A50, H⟩ := H); (replace H : (if t537 = true then (if x7_1 > 0 then (if 0 ≤ (wrap64 (x7_1 - 1)) then (if (wrap64 (x7_1 - 1)) < (l0.length : Int) then (if ((Op.bytesLess ((rdOf ByteArray.empty l0 (wrap64 (x7_1 - 1))).toList) ((rdOf ByteArray.empty l0 x7_1).toList)) = true) then (glyph_Rises.l0 k1 l0 l0 (l0.length : Int) (wrap64 (x7_1 + 1))) else (some false)) else (none)) else (none)) else (glyph_Rises.l0 k1 l0 l0 (l0.length : Int) (wrap64 (x7_1 + 1)))) else (some false)) = some r := H); (have A5 := mk A50); clear A50; (by_cases c6 : t537 = true)
            · subst c6; (have H1 : (if x7_1 > 0 then (if 0 ≤ (wrap64 (x7_1 - 1)) then (if (wrap64 (x7_1 - 1)) < (l0.length : Int) then (if ((Op.bytesLess ((rdOf ByteArray.empty l0 (wrap64 (x7_1 - 1))).toList) ((rdOf ByteArray.empty l0 x7_1).toList)) = true) then (glyph_Rises.l0 k1 l0 l0 (l0.length : Int) (wrap64 (x7_1 + 1))) else (some false)) else (none)) else (none)) else (glyph_Rises.l0 k1 l0 l0 (l0.length : Int) (wrap64 (x7_1 + 1)))) = some r := by rw [if_pos rfl] at H; exact H); clear H; (have H := H1); clear H1; replace H := ic_ H; obtain ⟨c7, H⟩ | ⟨c7, H⟩ := H
              · (have c7b0 : decide (0 < x7_1) = true := decide_eq_true c7); clear c7; (obtain ⟨ji8, hji8⟩ : ∃ j_ : Int, (wrap64 (x7_1 - 1)) = j_ := ⟨_, rfl⟩); (replace H : (if 0 ≤ (ji8) then (if (ji8) < (l0.length : Int) then (if ((Op.bytesLess ((rdOf ByteArray.empty l0 (ji8)).toList) ((rdOf ByteArray.empty l0 x7_1).toList)) = true) then (glyph_Rises.l0 k1 l0 l0 (l0.length : Int) (wrap64 (x7_1 + 1))) else (some false)) else (none)) else (none)) = some r := by first | (rw [hji8] at H; exact H) | (simp only [hji8] at H ⊢; exact H)); ((try rw [hji8] at A5)); (have hji8w : (IntKind.i64.wrap (x7_1 - 1)) = ji8 := (i64_w _).trans hji8); replace H := ic_ H; obtain ⟨c9, H⟩ | ⟨c9, H⟩ := H
                · (have c9b0 : decide (0 ≤ (ji8)) = true := decide_eq_true c9); clear c9; replace H := ic_ H; obtain ⟨c10, H⟩ | ⟨c10, H⟩ := H
                  · (have c10b0 := decide_eq_true c10); clear c10; replace H := ic_ H; obtain ⟨c11, H⟩ | ⟨c11, H⟩ := H
                    · (have c11b0 : (Op.bytesLess ((rdOf ByteArray.empty l0 (ji8)).toList) ((rdOf ByteArray.empty l0 x7_1).toList)) = true := c11); clear c11; (have H' := mk H); clear H; (have p536 : 0 ≤ (x7_1 : Int) := of_decide_eq_true kq19); (have q536 : x7_1 < (l0.length : Int) := of_decide_eq_true kq19); (obtain ⟨ad536, e536, hx536_0⟩ := Kd.at_string HR0.out x7_1 p536 q536); cases e536; (replace hx536_0 := hc_ HB hx536_0); replace p536 := eq_true p536; replace q536 := eq_true q536; (go_wp2_with (first | ((with_reducible refine gate_callee (f := 41) rfl ?_); refine goesL_ (some 13) rfl rfl Try.func41 kq0 rfl #[.string (rdOf ByteArray.empty l0 x7_1)] rfl kq14 ?_; (with_reducible refine (glyph_Name.calls (rdOf ByteArray.empty l0 x7_1) true _ A5.out).mono ?_); rintro e w12 ⟨rfl, hb⟩; refine ⟨_, rfl, ?_⟩; replace HB := mk (below_step kq15 hb); have p538 : 0 ≤ ((ji8) : Int) := of_decide_eq_true kq19; have q538 : (ji8) < (l0.length : Int) := of_decide_eq_true kq19; obtain ⟨ad538, e538, hx538_0⟩ := Kd.at_string HR0.out (ji8) p538 q538; obtain rfl : ad536 = ad538 := (by injection e538); replace hx538_0 := hc_ HB hx538_0; replace p538 := eq_true p538; replace q538 := eq_true q538))); (go_roundg k1)
                      case measure => have := HK1.out; omega
                      case rel => exact ⟨(wrap64 (x7_1 + 1)), kq10, H', ⟨kq24⟩, ⟨kq15⟩⟩
                    · (have c11b0 : (Op.bytesLess ((rdOf ByteArray.empty l0 (ji8)).toList) ((rdOf ByteArray.empty l0 x7_1).toList)) = false := by simpa using c11); clear c11; (obtain rfl := Option.some.inj H); (have p536 : 0 ≤ (x7_1 : Int) := of_decide_eq_true kq19); (have q536 : x7_1 < (l0.length : Int) := of_decide_eq_true kq19); (obtain ⟨ad536, e536, hx536_0⟩ := Kd.at_string HR0.out x7_1 p536 q536); cases e536; (replace hx536_0 := hc_ HB hx536_0); replace p536 := eq_true p536; replace q536 := eq_true q536; (go_wp2_with (first | ((with_reducible refine gate_callee (f := 41) rfl ?_); refine goesL_ (some 13) rfl rfl Try.func41 kq0 rfl #[.string (rdOf ByteArray.empty l0 x7_1)] rfl kq14 ?_; (with_reducible refine (glyph_Name.calls (rdOf ByteArray.empty l0 x7_1) true _ A5.out).mono ?_); rintro e w13 ⟨rfl, hb⟩; refine ⟨_, rfl, ?_⟩; replace HB := mk (below_step kq15 hb); have p538 : 0 ≤ ((ji8) : Int) := of_decide_eq_true kq19; have q538 : (ji8) < (l0.length : Int) := of_decide_eq_true kq19; obtain ⟨ad538, e538, hx538_0⟩ := Kd.at_string HR0.out (ji8) p538 q538; obtain rfl : ad536 = ad538 := (by injection e538); replace hx538_0 := hc_ HB hx538_0; replace p538 := eq_true p538; replace q538 := eq_true q538))); go_ret; (exact ⟨by first | rfl | (simp [errW_none, errW_some] <;> rfl) | (simp only [← hji8]; first | rfl | (simp [errW_none, errW_some] <;> rfl)) | (simp [*, errW_none, errW_some] <;> rfl), kq15⟩)
                  · (exact absurd H (by simp))
                · (exact absurd H (by simp))
              · (have c7b0 : decide (0 < x7_1) = false := decide_eq_false c7); clear c7; (have H' := mk H); clear H; (have p536 : 0 ≤ (x7_1 : Int) := of_decide_eq_true kq19); (have q536 : x7_1 < (l0.length : Int) := of_decide_eq_true kq19); (obtain ⟨ad536, e536, hx536_0⟩ := Kd.at_string HR0.out x7_1 p536 q536); cases e536; (replace hx536_0 := hc_ HB hx536_0); replace p536 := eq_true p536; replace q536 := eq_true q536; (go_wp2_with (first | ((with_reducible refine gate_callee (f := 41) rfl ?_); refine goesL_ (some 13) rfl rfl Try.func41 kq0 rfl #[.string (rdOf ByteArray.empty l0 x7_1)] rfl kq14 ?_; (with_reducible refine (glyph_Name.calls (rdOf ByteArray.empty l0 x7_1) true _ A5.out).mono ?_); rintro e w14 ⟨rfl, hb⟩; refine ⟨_, rfl, ?_⟩; replace HB := mk (below_step kq15 hb)))); (go_roundg k1)
                case measure => have := HK1.out; omega
                case rel => exact ⟨(wrap64 (x7_1 + 1)), kq10, H', ⟨kq24⟩, ⟨kq15⟩⟩
            · (replace c6 := Bool.eq_false_iff.mpr c6); subst c6; (have H1 : (some false) = some r := by rw [if_neg (show ¬ (false = true) by decide)] at H; exact H); clear H; (have H := H1); clear H1; (obtain rfl := Option.some.inj H); (have p536 : 0 ≤ (x7_1 : Int) := of_decide_eq_true kq19); (have q536 : x7_1 < (l0.length : Int) := of_decide_eq_true kq19); (obtain ⟨ad536, e536, hx536_0⟩ := Kd.at_string HR0.out x7_1 p536 q536); cases e536; (replace hx536_0 := hc_ HB hx536_0); replace p536 := eq_true p536; replace q536 := eq_true q536; (go_wp2_with (first | ((with_reducible refine gate_callee (f := 41) rfl ?_); refine goesL_ (some 13) rfl rfl Try.func41 kq0 rfl #[.string (rdOf ByteArray.empty l0 x7_1)] rfl kq14 ?_; (with_reducible refine (glyph_Name.calls (rdOf ByteArray.empty l0 x7_1) false _ A5.out).mono ?_); rintro e w15 ⟨rfl, hb⟩; refine ⟨_, rfl, ?_⟩; replace HB := mk (below_step kq15 hb)))); go_ret; (exact ⟨kq21, kq15⟩)
          · (exact absurd H (by simp))
        · (exact absurd H (by simp))
      · (have c2b0 : decide (x7_1 < (l0.length : Int)) = false := decide_eq_false c2); clear c2; (obtain rfl := Option.some.inj H); go_wp2; go_ret; (exact ⟨kq21, kq15⟩)
end Go.Proofs.Ytjknpmibdkoklaa.U
namespace Go.Proofs.Ytjknpmibdkoklaa.U
open Go.RowKit Go.Proofs.YtjknpmibdkoklaaW.PrintWords Go.Proofs.YtjknpmibdkoklaaW.PrintLast Go.Proofs.YtjknpmibdkoklaaW.PrintMore
theorem w64 {a : Int} (h0 : -9223372036854775808 ≤ a) (h1 : a ≤ 9223372036854775807) : wrap64 a = a := by unfold wrap64; omega
section
variable {s : ByteArray} {p : Nat} (hs : s.size ≤ 140737488351232) (hp : p < s.size)
include hs
include hp
end
end Go.Proofs.Ytjknpmibdkoklaa.U
