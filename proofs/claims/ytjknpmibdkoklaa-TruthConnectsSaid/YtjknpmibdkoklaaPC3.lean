/- Functions of the given program as Lean functions, each with its contract, and what they answer; words for it. No condition but those of each. -/
import Derived.Test.YtjknpmibdkoklaaPCS
import Derived.Test.YtjknpmibdkoklaaPC0
import Derived.Laws.Slices
import Derived.Test.YtjknpmibdkoklaaProg
import Derived.Below
import Derived.Deep.Draws
import Derived.Deep.AppendLies
import Derived.Maps.AppendAt
import Derived.OwnWalk
import Derived.Laws.BytesArg
import Derived.Laws.MakeOwn
import Derived.Laws.OwnMore
import Derived.Deep.OwnRows
import Derived.Tactics
import Derived.Lib.ConvBytes
import Derived.WalkKit
import Derived.KernelRfl
import Derived.RowKit3
import Derived.Deep.LoopGhost
import Derived.Deep.QuietTactic
import Derived.BigQuiet
import Derived.WideLaws
import Derived.Deep.DeepCutAuto
import Derived.Deep.CutBlock
import Derived.Deep.RegionHeld3
import Derived.Laws.Rows
import Derived.Lib.AppendStr
import Derived.ArgAppend
import Derived.Laws.IdiomCopy
import Derived.OrdersHeld
import Derived.Laws.BitsLemmas
import Derived.RowKit
import Derived.Test.YtjknpmibdkoklaaPC1
import Derived.Laws.StructEq
set_option linter.unusedVariables false
set_option linter.unusedSimpArgs false
namespace Go.Proofs.Ytjknpmibdkoklaa
open Go.RowKit
theorem less_or_eq : ∀ a b : List UInt8, (Op.bytesLess a b || a == b) = !(Op.bytesLess b a)
  | [], [] => rfl
  | [], _ :: _ => rfl
  | _ :: _, [] => rfl
  | x :: a, y :: b => by
    have ih := less_or_eq a b
    have e : ((x :: a) == (y :: b)) = ((x == y) && (a == b)) := rfl
    rw [e]
    simp only [Op.bytesLess]
    have hx : ∀ p q : UInt8, (p == q) = decide (p.toNat = q.toNat) := fun p q => by
      by_cases h : p = q
      · subst h; simp
      · rw [beq_eq_false_iff_ne.2 h, decide_eq_false (fun e => h (UInt8.toNat_inj.1 e))]
    have hl : ∀ p q : UInt8, decide (p < q) = decide (p.toNat < q.toNat) := fun p q => by simp [UInt8.lt_iff_toNat_lt]
    rw [hx x y, hx y x, hl x y, hl y x]
    rcases Nat.lt_trichotomy x.toNat y.toNat with h | h | h
    · simp [h, Nat.lt_asymm h, Nat.ne_of_gt h, Nat.ne_of_lt h]
    · simp [h]
      exact ih
    · simp [h, Nat.lt_asymm h, Nat.ne_of_gt h, Nat.ne_of_lt h]
@[go_sem] theorem str_leq (t : TypeId) (a b : ByteArray) : binOp .leq t (.string a) (.string b) = pure (.bool !(Op.bytesLess b.toList a.toList)) := by rw [← less_or_eq]; simp [binOp, Op.stringOp]
@[go_sem] theorem str_gtr (t : TypeId) (a b : ByteArray) : binOp .gtr t (.string a) (.string b) = pure (.bool (Op.bytesLess b.toList a.toList)) := by
  rw [← Bool.not_not (Op.bytesLess b.toList a.toList), ← less_or_eq]; simp [binOp, Op.stringOp]
@[go_sem] theorem str_geq (t : TypeId) (a b : ByteArray) : binOp .geq t (.string a) (.string b) = pure (.bool !(Op.bytesLess a.toList b.toList)) := by simp [binOp, Op.stringOp]
end Go.Proofs.Ytjknpmibdkoklaa
namespace Go.Proofs.Ytjknpmibdkoklaa.U
open Go.RowKit Go.Proofs.YtjknpmibdkoklaaW.PrintWords Go.Proofs.YtjknpmibdkoklaaW.PrintLast Go.Proofs.YtjknpmibdkoklaaW.PrintMore
open Aside0 (mk)
open List (setIfInBounds_toArray set_cons_zero set_cons_succ)
abbrev bA_ := @below_alloc
abbrev bN_ := @pw_below_drewN
abbrev b1_ := @below_drew1
attribute [local go_sem] max2_int min2_int max_two min_two max_three min_three max_four min_four
set_option linter.unusedVariables false
set_option linter.unusedSimpArgs false
def errW : Option Int → Value
  | none => .nilIface
  | some c => .iface 0 (.int .i64 c)
theorem errW_none : errW none = .nilIface := rfl
theorem errW_some (c : Int) : errW (some c) = .iface 0 (.int .i64 c) := rfl
theorem fld99_2 (x0 x1 x2 : Value) (W : World) : (Instr.field 99 (.agg #[x0, x1, x2]) 2).run Try.prog W = .ok x2 W := by kernel_rfl
theorem fld103_2 (x0 x1 x2 : Value) (W : World) : (Instr.field 103 (.agg #[x0, x1, x2]) 2).run Try.prog W = .ok x2 W := by kernel_rfl
theorem fld172_1 (x0 x1 : Value) (W : World) : (Instr.field 172 (.agg #[x0, x1]) 1).run Try.prog W = .ok x1 W := by kernel_rfl
theorem info2 : (Try.prog.info? 2).map (fun i => (i.zero, i.size, i.bytes)) = some (some (.int .i64 0), 1, 8) := by kernel_rfl
theorem info9 : (Try.prog.info? 9).map (fun i => (i.zero, i.size, i.bytes)) = some (some (.string ⟨#[]⟩), 1, 16) := by kernel_rfl
theorem info185 : (Try.prog.info? 185).map (fun i => (i.zero, i.size, i.bytes)) = some (some (.int .u32 0), 1, 4) := by kernel_rfl
structure S66 where
  f0 : Int
  f1 : Int
  f2 : ByteArray
  f3 : (List S66)
def z66 : S66 := ⟨(0 : Int), (0 : Int), (⟨#[]⟩ : ByteArray), ([] : List S66)⟩
def F66 (d : Kd S66) : Kd S66 := Kd.iso (Kd.pair (Kd.int .i64) (Kd.pair (Kd.int .i64) (Kd.pair Kd.string (Kd.slice 66 d)))) (fun x : S66 => (x.f0, x.f1, x.f2, x.f3))
theorem mono66 : Kd.Mono F66 := Kd.mono_iso _ (Kd.mono_pair (Kd.mono_const _) (Kd.mono_pair (Kd.mono_const _) (Kd.mono_pair (Kd.mono_const _) (Kd.mono_slice 66 Kd.mono_id))))
theorem sub66 : Kd.Sub F66 [66] := Kd.sub_iso _ (Kd.sub_pair (Kd.sub_const _ kq2) (Kd.sub_pair (Kd.sub_const _ kq2) (Kd.sub_pair (Kd.sub_const _ kq2) (Kd.sub_slice 66 kq2 Kd.sub_id))))
theorem sz66 : ∀ n, (Kd.upto F66 4 [66] n).sz = 4 := Kd.upto_sz (fun _ => rfl)
def k66 : Kd S66 := Kd.fix F66 4 [66] sz66 (Kd.upto_E sub66)
theorem k66_heap : Kd.Heap k66 := Kd.heap_fix (fun _ h_ => Kd.heap_iso _ (Kd.heap_pair (Kd.heap_int .i64) (Kd.heap_pair (Kd.heap_int .i64) (Kd.heap_pair Kd.heap_string (Kd.heap_slice 66 h_)))))
theorem k66_open {w : World} {x : S66} {cs : List Value} (h : k66.K w x cs) : ∃ A3 c3, cs = [.int .i64 x.f0, .int .i64 x.f1, .string x.f2, .slice A3 x.f3.length c3] ∧ x.f3.length ≤ c3 ∧ k66.C w A3 x.f3.length x.f3 := by
  obtain ⟨n, h⟩ := h
  cases n with
  | zero => exact h.elim
  | succ n =>
    obtain ⟨_, _, rfl, rfl, ⟨_, _, rfl, rfl, ⟨_, _, rfl, rfl, ⟨A3, c3, rfl, l3, g3⟩⟩⟩⟩ := h
    exact ⟨A3, c3, rfl, l3, Kd.fix_C g3⟩
theorem k66_mk (w : World) (x : S66) {A3 : Option Addr} {c3 : Nat} (l3 : x.f3.length ≤ c3) (g3 : k66.C w A3 x.f3.length x.f3) : k66.K w x [.int .i64 x.f0, .int .i64 x.f1, .string x.f2, .slice A3 x.f3.length c3] := by
  obtain ⟨n3, q3⟩ := Kd.fix_C_back mono66 g3
  have r3 := Kd.upto_C_le mono66 sz66 (show n3 ≤ n3 by omega) q3
  exact ⟨n3 + 1, ⟨[.int .i64 x.f0], [.int .i64 x.f1, .string x.f2, .slice A3 x.f3.length c3], rfl, rfl, ⟨[.int .i64 x.f1], [.string x.f2, .slice A3 x.f3.length c3], rfl, rfl, ⟨[.string x.f2], [.slice A3 x.f3.length c3], rfl, rfl, ⟨A3, c3, rfl, l3, r3⟩⟩⟩⟩⟩
theorem k66_mkM (w : World) (base : Nat) (ok : Nat → Prop) (x : S66) {v3 : Value} (g3 : k66.R 66 w base ok v3 x.f3) : k66.M w base ok x [.int .i64 x.f0, .int .i64 x.f1, .string x.f2, v3] := by
  obtain ⟨n3, q3⟩ := Kd.fix_R_back mono66 g3
  have r3 := Kd.upto_R_le mono66 sz66 (show n3 ≤ n3 by omega) q3
  exact ⟨n3 + 1, ⟨[.int .i64 x.f0], [.int .i64 x.f1, .string x.f2, v3], rfl, rfl, ⟨[.int .i64 x.f1], [.string x.f2, v3], rfl, rfl, ⟨[.string x.f2], [v3], rfl, rfl, ⟨v3, rfl, r3⟩⟩⟩⟩⟩
def rd_T66 (xs : List S66) (i : Int) : S66 := xs.getD i.toNat z66
theorem at_T66 {w : World} {A : Option Addr} {n : Nat} {xs : List S66} (h : Kd.C k66 w A n xs) (i : Int) (h0 : 0 ≤ i) (h1 : i < n) : ∃ ad A3 c3, A = some ad ∧ w.cell? (ad.add (i.toNat * 4)) = some (.int .i64 (rd_T66 xs i).f0) ∧ w.cell? ⟨(ad.add (i.toNat * 4)).block, (ad.add (i.toNat * 4)).off + 1, none⟩ = some (.int .i64 (rd_T66 xs i).f1) ∧ w.cell? ⟨(ad.add (i.toNat * 4)).block, (ad.add (i.toNat * 4)).off + 2, none⟩ = some (.string (rd_T66 xs i).f2) ∧ w.cell? ⟨(ad.add (i.toNat * 4)).block, (ad.add (i.toNat * 4)).off + 3, none⟩ = some (.slice A3 (rd_T66 xs i).f3.length c3) ∧ (rd_T66 xs i).f3.length ≤ c3 ∧ k66.C w A3 (rd_T66 xs i).f3.length (rd_T66 xs i).f3 := by
  obtain ⟨ad, c, e, _, hK, hc0⟩ := Kd.C_get h z66 i h0 h1
  have hc : ∀ j u, c[j]? = some u → w.cell? (ad.add (i.toNat * 4 + j)) = some u := hc0
  obtain ⟨A3, c3, rfl, l3, g3⟩ := k66_open hK
  exact ⟨ad, A3, c3, e, hc 0 _ rfl, by rw [← add_field _ _ 1 kq1]; exact hc 1 _ rfl, by rw [← add_field _ _ 2 kq1]; exact hc 2 _ rfl, by rw [← add_field _ _ 3 kq1]; exact hc 3 _ rfl, l3, g3⟩
structure S39 where
  f0 : Int
  f1 : ByteArray
  f2 : Int
  f3 : (List S66)
  f4 : (List S39)
def z39 : S39 := ⟨(0 : Int), (⟨#[]⟩ : ByteArray), (0 : Int), ([] : List S66), ([] : List S39)⟩
def F39 (d : Kd S39) : Kd S39 := Kd.iso (Kd.pair (Kd.int .i64) (Kd.pair Kd.string (Kd.pair (Kd.int .i64) (Kd.pair (Kd.slice 66 k66) (Kd.slice 39 d))))) (fun x : S39 => (x.f0, x.f1, x.f2, x.f3, x.f4))
theorem mono39 : Kd.Mono F39 := Kd.mono_iso _ (Kd.mono_pair (Kd.mono_const _) (Kd.mono_pair (Kd.mono_const _) (Kd.mono_pair (Kd.mono_const _) (Kd.mono_pair (Kd.mono_const _) (Kd.mono_slice 39 Kd.mono_id)))))
theorem sub39 : Kd.Sub F39 [39, 66] := Kd.sub_iso _ (Kd.sub_pair (Kd.sub_const _ kq2) (Kd.sub_pair (Kd.sub_const _ kq2) (Kd.sub_pair (Kd.sub_const _ kq2) (Kd.sub_pair (Kd.sub_const _ kq2) (Kd.sub_slice 39 kq2 Kd.sub_id)))))
theorem sz39 : ∀ n, (Kd.upto F39 5 [39, 66] n).sz = 5 := Kd.upto_sz (fun _ => rfl)
def k39 : Kd S39 := Kd.fix F39 5 [39, 66] sz39 (Kd.upto_E sub39)
theorem k39_heap : Kd.Heap k39 := Kd.heap_fix (fun _ h_ => Kd.heap_iso _ (Kd.heap_pair (Kd.heap_int .i64) (Kd.heap_pair Kd.heap_string (Kd.heap_pair (Kd.heap_int .i64) (Kd.heap_pair (Kd.heap_slice 66 k66_heap) (Kd.heap_slice 39 h_))))))
theorem k39_open {w : World} {x : S39} {cs : List Value} (h : k39.K w x cs) : ∃ A3 c3 A4 c4, cs = [.int .i64 x.f0, .string x.f1, .int .i64 x.f2, .slice A3 x.f3.length c3, .slice A4 x.f4.length c4] ∧ x.f3.length ≤ c3 ∧ k66.C w A3 x.f3.length x.f3 ∧ x.f4.length ≤ c4 ∧ k39.C w A4 x.f4.length x.f4 := by
  obtain ⟨n, h⟩ := h
  cases n with
  | zero => exact h.elim
  | succ n =>
    obtain ⟨_, _, rfl, rfl, ⟨_, _, rfl, rfl, ⟨_, _, rfl, rfl, ⟨_, _, rfl, ⟨A3, c3, rfl, l3, g3⟩, ⟨A4, c4, rfl, l4, g4⟩⟩⟩⟩⟩ := h
    exact ⟨A3, c3, A4, c4, rfl, l3, g3, l4, Kd.fix_C g4⟩
theorem k39_mk (w : World) (x : S39) {A3 : Option Addr} {c3 : Nat} (l3 : x.f3.length ≤ c3) (g3 : k66.C w A3 x.f3.length x.f3) {A4 : Option Addr} {c4 : Nat} (l4 : x.f4.length ≤ c4) (g4 : k39.C w A4 x.f4.length x.f4) : k39.K w x [.int .i64 x.f0, .string x.f1, .int .i64 x.f2, .slice A3 x.f3.length c3, .slice A4 x.f4.length c4] := by
  obtain ⟨n4, q4⟩ := Kd.fix_C_back mono39 g4
  have r4 := Kd.upto_C_le mono39 sz39 (show n4 ≤ n4 by omega) q4
  exact ⟨n4 + 1, ⟨[.int .i64 x.f0], [.string x.f1, .int .i64 x.f2, .slice A3 x.f3.length c3, .slice A4 x.f4.length c4], rfl, rfl, ⟨[.string x.f1], [.int .i64 x.f2, .slice A3 x.f3.length c3, .slice A4 x.f4.length c4], rfl, rfl, ⟨[.int .i64 x.f2], [.slice A3 x.f3.length c3, .slice A4 x.f4.length c4], rfl, rfl, ⟨[.slice A3 x.f3.length c3], [.slice A4 x.f4.length c4], rfl, ⟨A3, c3, rfl, l3, g3⟩, ⟨A4, c4, rfl, l4, r4⟩⟩⟩⟩⟩⟩
theorem k39_mkF (W : World) (ok : Nat → Prop) (x : S39) {A3 : Option Addr} {c3 : Nat} (l3 : x.f3.length ≤ c3) (g3 : Kd.F k66 W ok A3 x.f3.length x.f3) {A4 : Option Addr} {c4 : Nat} (l4 : x.f4.length ≤ c4) (g4 : Kd.F k39 W ok A4 x.f4.length x.f4) : Kd.FK k39 W ok x [.int .i64 x.f0, .string x.f1, .int .i64 x.f2, .slice A3 x.f3.length c3, .slice A4 x.f4.length c4] := fun W2 hW => k39_mk W2 x l3 (g3 W2 hW) l4 (g4 W2 hW)
def rd_T39 (xs : List S39) (i : Int) : S39 := xs.getD i.toNat z39
theorem at_T39 {w : World} {A : Option Addr} {n : Nat} {xs : List S39} (h : Kd.C k39 w A n xs) (i : Int) (h0 : 0 ≤ i) (h1 : i < n) : ∃ ad A3 c3 A4 c4, A = some ad ∧ w.cell? (ad.add (i.toNat * 5)) = some (.int .i64 (rd_T39 xs i).f0) ∧ w.cell? ⟨(ad.add (i.toNat * 5)).block, (ad.add (i.toNat * 5)).off + 1, none⟩ = some (.string (rd_T39 xs i).f1) ∧ w.cell? ⟨(ad.add (i.toNat * 5)).block, (ad.add (i.toNat * 5)).off + 2, none⟩ = some (.int .i64 (rd_T39 xs i).f2) ∧ w.cell? ⟨(ad.add (i.toNat * 5)).block, (ad.add (i.toNat * 5)).off + 3, none⟩ = some (.slice A3 (rd_T39 xs i).f3.length c3) ∧ w.cell? ⟨(ad.add (i.toNat * 5)).block, (ad.add (i.toNat * 5)).off + 4, none⟩ = some (.slice A4 (rd_T39 xs i).f4.length c4) ∧ (rd_T39 xs i).f3.length ≤ c3 ∧ k66.C w A3 (rd_T39 xs i).f3.length (rd_T39 xs i).f3 ∧ (rd_T39 xs i).f4.length ≤ c4 ∧ k39.C w A4 (rd_T39 xs i).f4.length (rd_T39 xs i).f4 := by
  obtain ⟨ad, c, e, _, hK, hc0⟩ := Kd.C_get h z39 i h0 h1
  have hc : ∀ j u, c[j]? = some u → w.cell? (ad.add (i.toNat * 5 + j)) = some u := hc0
  obtain ⟨A3, c3, A4, c4, rfl, l3, g3, l4, g4⟩ := k39_open hK
  exact ⟨ad, A3, c3, A4, c4, e, hc 0 _ rfl, by rw [← add_field _ _ 1 kq1]; exact hc 1 _ rfl, by rw [← add_field _ _ 2 kq1]; exact hc 2 _ rfl, by rw [← add_field _ _ 3 kq1]; exact hc 3 _ rfl, by rw [← add_field _ _ 4 kq1]; exact hc 4 _ rfl, l3, g3, l4, g4⟩
end Go.Proofs.Ytjknpmibdkoklaa.U
namespace Go.Proofs.Ytjknpmibdkoklaa.U
open Go.RowKit Go.Proofs.YtjknpmibdkoklaaW.PrintWords Go.Proofs.YtjknpmibdkoklaaW.PrintLast Go.Proofs.YtjknpmibdkoklaaW.PrintMore
open Aside0 (mk)
open List (setIfInBounds_toArray set_cons_zero set_cons_succ)
attribute [local go_sem] max2_int min2_int max_two min_two max_three min_three max_four min_four
set_option linter.unusedVariables false
set_option linter.unusedSimpArgs false
attribute [local go_sem] fld99_2 fld103_2 fld172_1
mutual
def glyph_Start.j0 : Nat → Int → Bool → Option (Bool)
  | 0, _, _ => none
  | k + 1, x0, x3 => if x3 = true then (glyph_Start.j1 k x0 x3) else (if x0 ≥ 97 then (if x0 ≤ 122 then (glyph_Start.j1 k x0 (decide (x0 ≤ 122))) else (glyph_Start.j1 k x0 (x0 == 95))) else (glyph_Start.j1 k x0 (x0 == 95)))
def glyph_Start.j1 : Nat → Int → Bool → Option (Bool)
  | 0, _, _ => none
  | k + 1, x0, x3 => if x3 = true then (some true) else (if x0 ≥ 913 then (glyph_Start.j2 k x0 (decide (x0 ≤ 929))) else (glyph_Start.j2 k x0 false))
def glyph_Start.j2 : Nat → Int → Bool → Option (Bool)
  | 0, _, _ => none
  | k + 1, x0, x18 => if x18 = true then (some true) else (if x0 ≥ 931 then (glyph_Start.j3 k x0 (decide (x0 ≤ 937))) else (glyph_Start.j3 k x0 false))
def glyph_Start.j3 : Nat → Int → Bool → Option (Bool)
  | 0, _, _ => none
  | k + 1, x0, x18 => if x18 = true then (some true) else (if x0 ≥ 945 then (if x0 ≤ 969 then (some true) else (some false)) else (some false))
end
def glyph_Start.f (k : Nat) (a0 : Int) : Option (Bool) := if a0 ≥ 65 then (glyph_Start.j0 k a0 (decide (a0 ≤ 90))) else (glyph_Start.j0 k a0 false)
theorem glyph_Start.mono_l : ∀ k, (∀ y0 y1, LeO (glyph_Start.j0 k y0 y1) (glyph_Start.j0 (k + 1) y0 y1)) ∧ (∀ y0 y1, LeO (glyph_Start.j1 k y0 y1) (glyph_Start.j1 (k + 1) y0 y1)) ∧ (∀ y0 y1, LeO (glyph_Start.j2 k y0 y1) (glyph_Start.j2 (k + 1) y0 y1)) ∧ (∀ y0 y1, LeO (glyph_Start.j3 k y0 y1) (glyph_Start.j3 (k + 1) y0 y1))
  | 0 => ⟨fun _ _ r h => by simp [glyph_Start.j0] at h, fun _ _ r h => by simp [glyph_Start.j1] at h, fun _ _ r h => by simp [glyph_Start.j2] at h, fun _ _ r h => by simp [glyph_Start.j3] at h⟩
  | k + 1 => by
    obtain ⟨ih0, ih1, ih2, ih3⟩ := glyph_Start.mono_l k
    refine ⟨?_, ?_, ?_, ?_⟩ <;> intros <;> (first | unfold glyph_Start.j0 | unfold glyph_Start.j1 | unfold glyph_Start.j2 | unfold glyph_Start.j3) <;> repeat' first | (with_reducible first | exact ih0 _ _ | exact ih1 _ _ | exact ih2 _ _ | exact ih3 _ _ | exact LeO.refl _ | exact LeO.none _ | refine LeO.ite ?_ ?_ | refine LeO.bind ?_ (fun _ => ?_)) | exact ih0 _ _ | exact ih1 _ _ | exact ih2 _ _ | exact ih3 _ _ | exact LeO.none _ | refine LeO.ite ?_ ?_ | refine LeO.bind ?_ (fun _ => ?_)
theorem glyph_Start.mono : ∀ a0 k, LeO (glyph_Start.f k a0) (glyph_Start.f (k + 1) a0) := by
  intro a0 k
  obtain ⟨ih0, ih1, ih2, ih3⟩ := glyph_Start.mono_l k
  unfold glyph_Start.f
  repeat' first
      | (with_reducible exact ih0 _ _)
      | (with_reducible exact ih1 _ _)
      | (with_reducible exact ih2 _ _)
      | (with_reducible exact ih3 _ _)
      | (with_reducible exact LeO.refl _)
      | (with_reducible exact LeO.none _)
      | (with_reducible refine LeO.ite ?_ ?_)
      | (with_reducible refine LeO.bind ?_ (fun _ => ?_))
      | exact ih0 _ _
      | exact ih1 _ _
      | exact ih2 _ _
      | exact ih3 _ _
      | exact LeO.none _
      | refine LeO.ite ?_ ?_
      | refine LeO.bind ?_ (fun _ => ?_)
set_option maxHeartbeats 8000000 in
set_option maxRecDepth 100000 in
theorem glyph_Start.calls (k : Nat) (a0 : Int) (r : Bool) (w : World) (h : glyph_Start.f k a0 = some r) :
    Calls Try.prog 77 #[.int .i32 a0] w fun e w' => e = .returned (.bool r) ∧ Drawn0 w w' := by
  have H : (if a0 ≥ 65 then (glyph_Start.j0 k a0 (decide (a0 ≤ 90))) else (glyph_Start.j0 k a0 false)) = some r := h
  clear h
  have HC2 := mk H
  clear H
  go_enter Try.func77, Try.ntmps77
  go_upto_region 1 with (fail)
  go_cut [3] (fun v3 wc => ∃ (kq : Nat) (x3_1 : Bool), v3 = .bool x3_1 ∧ Aside0 (glyph_Start.j0 kq a0 x3_1 = some r) ∧ Aside0 (kq ≤ k) ∧ Drawn0 w wc)
  case first =>
    have H := HC2.out
    clear HC2
    replace H := ic_ H; obtain ⟨c3, H⟩ | ⟨c3, H⟩ := H
    · (have c3b0 : decide (65 ≤ a0) = true := decide_eq_true c3); clear c3; ((first | rw [c3b0] | (simp only [i64_w, i32_w]; rw [c3b0]) | skip)); (have H' := mk H); clear H; go_wp2; (go_meet)
      case rel => exact ⟨_, (decide (a0 ≤ 90)), kq10, H', ⟨kq11⟩, kq12⟩
    · (have c3b0 : decide (65 ≤ a0) = false := decide_eq_false c3); clear c3; ((first | rw [c3b0] | (simp only [i64_w, i32_w]; rw [c3b0]) | skip)); (have H' := mk H); clear H; go_wp2; (go_meet)
      case rel => exact ⟨_, (false), kq10, H', ⟨kq11⟩, kq12⟩
  case rest =>
    clear HC2
    obtain ⟨kq, x3_1, rfl, HA, HJ1, ⟨mc1, rfl⟩⟩ := hcut
    cases kq with
    | zero => exact absurd HA.out (by simp [glyph_Start.j0])
    | succ kj1 =>
      (have H := HA.out); clear HA; (simp only [glyph_Start.j0] at H); (have HC4 := mk H); clear H; (go_upto_if 3 with (fail)); (go_cut [3] (fun v3 wc => ∃ (kq : Nat) (x3_3 : Bool), v3 = .bool x3_3 ∧ Aside0 (glyph_Start.j1 kq a0 x3_3 = some r) ∧ Aside0 (kq ≤ kj1) ∧ Drawn0 w wc))
      case first =>
        (have H := HC4.out); clear HC4; (by_cases c5 : x3_1 = true)
        · subst c5; (have H1 : (glyph_Start.j1 kj1 a0 true) = some r := by rw [if_pos rfl] at H; exact H); clear H; (have H := H1); clear H1; (have H' := mk H); clear H; go_wp2; (go_meet)
          case rel => exact ⟨_, (true), kq10, H', ⟨kq13⟩, kq12⟩
        · (replace c5 := Bool.eq_false_iff.mpr c5); subst c5; (have H1 : (if a0 ≥ 97 then (if a0 ≤ 122 then (glyph_Start.j1 kj1 a0 (decide (a0 ≤ 122))) else (glyph_Start.j1 kj1 a0 (a0 == 95))) else (glyph_Start.j1 kj1 a0 (a0 == 95))) = some r := by rw [if_neg (show ¬ (false = true) by decide)] at H; exact H); clear H; (have H := H1); clear H1; replace H := ic_ H; obtain ⟨c6, H⟩ | ⟨c6, H⟩ := H
          · (have c6b0 : decide (97 ≤ a0) = true := decide_eq_true c6); clear c6; ((first | rw [c6b0] | (simp only [i64_w, i32_w]; rw [c6b0]) | skip)); replace H := ic_ H; obtain ⟨c7, H⟩ | ⟨c7, H⟩ := H
            · (have c7b0 := decide_eq_true c7); clear c7; (have H' := mk H); clear H; go_wp2; (go_meet)
              case rel => exact ⟨_, (decide (a0 ≤ 122)), kq10, H', ⟨kq13⟩, kq12⟩
            · (have c7b0 := decide_eq_false c7); clear c7; (have H' := mk H); clear H; go_wp2; (go_meet)
              case rel => exact ⟨_, ((a0 == 95)), kq10, H', ⟨kq13⟩, kq12⟩
          · (have c6b0 : decide (97 ≤ a0) = false := decide_eq_false c6); clear c6; ((first | rw [c6b0] | (simp only [i64_w, i32_w]; rw [c6b0]) | skip)); (have H' := mk H); clear H; go_wp2; (go_meet)
            case rel => exact ⟨_, ((a0 == 95)), kq10, H', ⟨kq13⟩, kq12⟩
      case rest =>
        clear HC4; (obtain ⟨kq, x3_3, rfl, HA, HJ3, ⟨mc3, rfl⟩⟩ := hcut)
        cases kq with
        | zero => exact absurd HA.out (by simp [glyph_Start.j1])
        | succ kj3 =>
          (have H := HA.out); clear HA; (simp only [glyph_Start.j1] at H); (by_cases c8 : x3_3 = true)
          · subst c8; (have H1 : (some true) = some r := by rw [if_pos rfl] at H; exact H); clear H; (have H := H1); clear H1; (obtain rfl := Option.some.inj H); go_wp2; go_ret; (exact ⟨kq10, kq12⟩)
          · (replace c8 := Bool.eq_false_iff.mpr c8); subst c8; (have H1 : (if a0 ≥ 913 then (glyph_Start.j2 kj3 a0 (decide (a0 ≤ 929))) else (glyph_Start.j2 kj3 a0 false)) = some r := by rw [if_neg (show ¬ (false = true) by decide)] at H; exact H); clear H; (have H := H1); clear H1; (have HC9 := mk H); clear H; (go_upto_region 5 with (fail)); (go_cut [18] (fun v18 wc => ∃ (kq : Nat) (x18_8 : Bool), v18 = .bool x18_8 ∧ Aside0 (glyph_Start.j2 kq a0 x18_8 = some r) ∧ Aside0 (kq ≤ kj3) ∧ Drawn0 w wc))
            case first =>
              (have H := HC9.out); clear HC9; replace H := ic_ H; obtain ⟨c10, H⟩ | ⟨c10, H⟩ := H
              · (have c10b0 : decide (913 ≤ a0) = true := decide_eq_true c10); clear c10; ((first | rw [c10b0] | (simp only [i64_w, i32_w]; rw [c10b0]) | skip)); (have H' := mk H); clear H; go_wp2; (go_meet)
                case rel => exact ⟨_, (decide (a0 ≤ 929)), kq10, H', ⟨by have := HJ1.out; have := HJ3.out; first | omega | exact Nat.le_refl _⟩, kq12⟩
              · (have c10b0 : decide (913 ≤ a0) = false := decide_eq_false c10); clear c10; ((first | rw [c10b0] | (simp only [i64_w, i32_w]; rw [c10b0]) | skip)); (have H' := mk H); clear H; go_wp2; (go_meet)
                case rel => exact ⟨_, (false), kq10, H', ⟨by have := HJ1.out; have := HJ3.out; first | omega | exact Nat.le_refl _⟩, kq12⟩
            case rest =>
              clear HC9; (obtain ⟨kq, x18_8, rfl, HA, HJ8, ⟨mc8, rfl⟩⟩ := hcut)
              cases kq with
              | zero => exact absurd HA.out (by simp [glyph_Start.j2])
              | succ kj8 =>
                (have H := HA.out); clear HA; (simp only [glyph_Start.j2] at H); (by_cases c11 : x18_8 = true)
                · subst c11; (have H1 : (some true) = some r := by rw [if_pos rfl] at H; exact H); clear H; (have H := H1); clear H1; (obtain rfl := Option.some.inj H); go_wp2; go_ret; (exact ⟨kq10, kq12⟩)
                · (replace c11 := Bool.eq_false_iff.mpr c11); subst c11; (have H1 : (if a0 ≥ 931 then (glyph_Start.j3 kj8 a0 (decide (a0 ≤ 937))) else (glyph_Start.j3 kj8 a0 false)) = some r := by rw [if_neg (show ¬ (false = true) by decide)] at H; exact H); clear H; (have H := H1); clear H1; (have HC12 := mk H); clear H; (go_upto_region 6 with (fail)); (go_cut [18] (fun v18 wc => ∃ (kq : Nat) (x18_11 : Bool), v18 = .bool x18_11 ∧ Aside0 (glyph_Start.j3 kq a0 x18_11 = some r) ∧ Aside0 (kq ≤ kj8) ∧ Drawn0 w wc))
                  case first =>
                    (have H := HC12.out); clear HC12; replace H := ic_ H; obtain ⟨c13, H⟩ | ⟨c13, H⟩ := H
                    · (have c13b0 : decide (931 ≤ a0) = true := decide_eq_true c13); clear c13; ((first | rw [c13b0] | (simp only [i64_w, i32_w]; rw [c13b0]) | skip)); (have H' := mk H); clear H; go_wp2; (go_meet)
                      case rel => exact ⟨_, (decide (a0 ≤ 937)), kq10, H', ⟨by have := HJ1.out; have := HJ3.out; have := HJ8.out; first | omega | exact Nat.le_refl _⟩, kq12⟩
                    · (have c13b0 : decide (931 ≤ a0) = false := decide_eq_false c13); clear c13; ((first | rw [c13b0] | (simp only [i64_w, i32_w]; rw [c13b0]) | skip)); (have H' := mk H); clear H; go_wp2; (go_meet)
                      case rel => exact ⟨_, (false), kq10, H', ⟨by have := HJ1.out; have := HJ3.out; have := HJ8.out; first | omega | exact Nat.le_refl _⟩, kq12⟩
                  case rest =>
                    clear HC12; (obtain ⟨kq, x18_11, rfl, HA, HJ11, ⟨mc11, rfl⟩⟩ := hcut)
                    cases kq with
                    | zero => exact absurd HA.out (by simp [glyph_Start.j3])
                    | succ kj11 =>
                      (have H := HA.out); clear HA; (simp only [glyph_Start.j3] at H); (by_cases c14 : x18_11 = true)
                      · subst c14; (have H1 : (some true) = some r := by rw [if_pos rfl] at H; exact H); clear H; (have H := H1); clear H1; (obtain rfl := Option.some.inj H); go_wp2; go_ret; (exact ⟨kq10, kq12⟩)
                      · (replace c14 := Bool.eq_false_iff.mpr c14); subst c14; (have H1 : (if a0 ≥ 945 then (if a0 ≤ 969 then (some true) else (some false)) else (some false)) = some r := by rw [if_neg (show ¬ (false = true) by decide)] at H; exact H); clear H; (have H := H1); clear H1; replace H := ic_ H; obtain ⟨c15, H⟩ | ⟨c15, H⟩ := H
                        · (have c15b0 : decide (945 ≤ a0) = true := decide_eq_true c15); clear c15; replace H := ic_ H; obtain ⟨c16, H⟩ | ⟨c16, H⟩ := H
                          · (have c16b0 := decide_eq_true c16); clear c16; (obtain rfl := Option.some.inj H); go_wp2; go_ret; (exact ⟨kq10, kq12⟩)
                          · (have c16b0 := decide_eq_false c16); clear c16; (obtain rfl := Option.some.inj H); go_wp2; go_ret; (exact ⟨kq10, kq12⟩)
                        · (have c15b0 : decide (945 ≤ a0) = false := decide_eq_false c15); clear c15; (obtain rfl := Option.some.inj H); go_wp2; go_ret; (exact ⟨kq10, kq12⟩)
end Go.Proofs.Ytjknpmibdkoklaa.U
