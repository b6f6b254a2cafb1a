/- Functions of the given program as Lean functions, each with its contract, and what they answer; words for it. No condition but those of each. -/
import Derived.Test.YtjknpmibdkoklaaPCS
import Derived.Shelf.Small.Bits
import Derived.Shelf.Strconv.Itoa0
import Derived.Shelf.Sort.Plain
import Derived.Shelf.Slices.Turned
import Derived.Ground.Names2Prog
import Derived.Shelf.Slices.Clone
import Derived.Shelf.Slices.CompactS
import Derived.Shelf.Slices.Cells
import Derived.Shelf.Slices.In.SortNone
import Derived.Ground.SlgnProg
import Derived.Shelf.SlicesE.Compact
import Derived.Ground.SlgfProg
import Derived.Shelf.SlicesE.IndexFunc
import Derived.Shelf.SlicesE.DeleteFunc
import Derived.Test.YtjknpmibdkoklaaProg
import Derived.Test.YtjknpmibdkoklaaPC0
import Derived.Sort.OwnSorted
import Derived.Lib.RowBridge
import Derived.LoopTactic
import Derived.Shelf.Abstract
import Derived.Lib.SliceRun
import Derived.Shelf.SlicesE.Reverse
import Derived.Shelf.SlicesQ.IndexFunc
import Derived.SliceStrings
import Derived.SizedLaws
import Derived.ChangeSlices
set_option linter.unusedVariables false
set_option linter.unusedSimpArgs false
namespace Go.Proofs
open Go.Shelf
def Try.lays190_ren : Go.Shelf.Ren := ⟨fun | 190 => 63 | 125 => 104 | 258 => 103 | 128 => 156 | 129 => 157 | 302 => 147 | 303 => 148 | 304 => 149 | 305 => 150 | 306 => 151 | 307 => 152 | 308 => 153 | 309 => 154 | 310 => 155 | 333 => 181 | 329 => 182 | 330 => 183 | 334 => 184 | 335 => 185 | 336 => 186 | 344 => 196 | n => n, fun | 31 => 22 | 9 => 9 | 3 => 3 | 46 => 46 | 0 => 0 | 51 => 185 | 53 => 187 | 4 => 4 | 183 => 177 | 182 => 176 | 131 => 182 | 5 => 5 | 218 => 207 | 222 => 211 | 228 => 220 | 229 => 221 | n => n, fun | n => n⟩
theorem Try.lays190 : Go.Proofs.Lays.n190 Try.prog Try.lays190_ren := {
  mixed := by kernel_rfl
  f125 := Try.func104.trans (congrArg some kq0)
  f128 := Try.func156.trans (congrArg some kq0)
  f129 := Try.func157.trans (congrArg some kq0)
  f190 := Try.func63.trans (congrArg some kq0)
  f258 := Try.func103.trans (congrArg some kq0)
  f302 := Try.func147.trans (congrArg some kq0)
  f303 := Try.func148.trans (congrArg some kq0)
  f304 := Try.func149.trans (congrArg some kq0)
  f305 := Try.func150.trans (congrArg some kq0)
  f306 := Try.func151.trans (congrArg some kq0)
  f307 := Try.func152.trans (congrArg some kq0)
  f308 := Try.func153.trans (congrArg some kq0)
  f309 := Try.func154.trans (congrArg some kq0)
  f310 := Try.func155.trans (congrArg some kq0)
  f329 := Try.func182.trans (congrArg some kq0)
  f330 := Try.func183.trans (congrArg some kq0)
  f333 := Try.func181.trans (congrArg some kq0)
  f334 := Try.func184.trans (congrArg some kq0)
  f335 := Try.func185.trans (congrArg some kq0)
  f336 := Try.func186.trans (congrArg some kq0)
  f344 := Try.func196.trans (congrArg some kq0)
  t0 := Try.underlying0
  a0 := Try.isAgg0
  z0 := Try.sizeOf0
  v0 := Try.zeroValue0
  t3 := Try.underlying3
  a3 := Try.isAgg3
  z3 := Try.sizeOf3
  v3 := Try.zeroValue3
  t4 := Try.underlying4
  a4 := Try.isAgg4
  z4 := Try.sizeOf4
  v4 := Try.zeroValue4
  t5 := Try.underlying5
  a5 := Try.isAgg5
  z5 := Try.sizeOf5
  v5 := Try.zeroValue5
  t9 := Try.underlying9
  a9 := Try.isAgg9
  z9 := Try.sizeOf9
  v9 := Try.zeroValue9
  t31 := Try.underlying22
  a31 := Try.isAgg22
  z31 := Try.sizeOf22
  v31 := Try.zeroValue22
  t46 := Try.underlying46
  a46 := Try.isAgg46
  z46 := Try.sizeOf46
  v46 := Try.zeroValue46
  t51 := Try.underlying185
  a51 := Try.isAgg185
  z51 := Try.sizeOf185
  v51 := Try.zeroValue185
  t53 := Try.underlying187
  a53 := Try.isAgg187
  z53 := Try.sizeOf187
  v53 := Try.zeroValue187
  t131 := Try.underlying182
  a131 := Try.isAgg182
  z131 := Try.sizeOf182
  v131 := Try.zeroValue182
  t182 := Try.underlying176
  a182 := Try.isAgg176
  z182 := Try.sizeOf176
  v182 := Try.zeroValue176
  t183 := Try.underlying177
  a183 := Try.isAgg177
  z183 := Try.sizeOf177
  v183 := Try.zeroValue177
  t218 := Try.underlying207
  a218 := Try.isAgg207
  z218 := Try.sizeOf207
  v218 := Try.zeroValue207
  t222 := Try.underlying211
  a222 := Try.isAgg211
  z222 := Try.sizeOf211
  v222 := Try.zeroValue211
  t228 := Try.underlying220
  a228 := Try.isAgg220
  z228 := Try.sizeOf220
  v228 := Try.zeroValue220
  t229 := Try.underlying221
  a229 := Try.isAgg221
  z229 := Try.sizeOf221
  v229 := Try.zeroValue221 }
open Go.Sort Go.RowKit in
theorem Try.slices_Sort_string (blk off cap : Nat) (ss : List (List UInt8)) (w : World) (hH : Holds encStr w blk off ss.toArray) (hblk : blk < w.heap.size) (hsz : ss.length < 4611686018427387904) :
    Calls Try.prog 63 #[.slice (some ⟨blk, off, none⟩) ss.length cap] w fun e w' =>
      e = .returned (.tuple #[]) ∧ ∃ n os, w' = grow (putRow encStr (Sort.ahead w n) blk off (ss.mergeSort fun x y => decide (x ≤ y)).toArray) os := Any.slices_Sort_string Try.lays190 blk off cap ss w hH hblk hsz
def Try.laysNm216_ren : Go.Shelf.Ren := ⟨fun | 16 => 62 | n => n, fun | 24 => 22 | 9 => 9 | 4 => 4 | n => n, fun | n => n⟩
theorem Try.laysNm216 : Go.Proofs.Lays2.n16 Try.prog Try.laysNm216_ren := {
  mixed := by kernel_rfl
  f16 := Try.func62.trans (congrArg some kq0)
  t4 := Try.underlying4
  a4 := Try.isAgg4
  z4 := Try.sizeOf4
  v4 := Try.zeroValue4
  t9 := Try.underlying9
  a9 := Try.isAgg9
  z9 := Try.sizeOf9
  v9 := Try.zeroValue9
  t24 := Try.underlying22
  a24 := Try.isAgg22
  z24 := Try.sizeOf22
  v24 := Try.zeroValue22
  i9 := by kernel_rfl }
open Go.RowKit Go.Lib in
theorem Try.slices_Clone_string (b off n c : Nat) (zs : List ByteArray) (w : World) (hz : n ≤ zs.length) (hbig : n * 16 ≤ 140737488355328) (hc : ∀ j, j < zs.length → w.cell? ⟨b, off + j, none⟩ = some (.string (zs.getD j ByteArray.empty))) :
    Calls Try.prog 62 #[.slice (some ⟨b, off, none⟩) n c] w fun e w' => ∃ v', e = .returned v' ∧ w'.ownsRow w.heap.size 9 1 v' n ((zs.take n).map (Value.string)) ∧ v' ≠ .slice none 0 0 ∧ Below w.heap.size w w' := Any.slices_Clone_string Try.laysNm216 b off n c zs w hz hbig hc
open Go.RowKit Go.Lib in
theorem Try.slices_Clone_string_nil (n c : Nat) (w : World) :
    Calls Try.prog 62 #[.slice none n c] w fun e w' => e = .returned (.slice none 0 0) ∧ w' = w := Any.slices_Clone_string_nil Try.laysNm216 n c w
open Go.RowKit Go.Lib in
theorem Try.slices_Clone_string_zero (a : Addr) (c : Nat) (w : World) :
    Calls Try.prog 62 #[.slice (some a) 0 c] w fun e w' => ∃ v', e = .returned v' ∧ w'.ownsRow w.heap.size 9 1 v' 0 [] ∧ v' ≠ .slice none 0 0 ∧ Below w.heap.size w w' := Any.slices_Clone_string_zero Try.laysNm216 a c w
def Try.lays194_ren : Go.Shelf.Ren := ⟨fun | 194 => 66 | n => n, fun | 31 => 22 | 9 => 9 | 3 => 3 | 4 => 4 | 0 => 0 | n => n, fun | n => n⟩
theorem Try.lays194 : Go.Proofs.Lays.n194 Try.prog Try.lays194_ren := {
  mixed := by kernel_rfl
  f194 := Try.func66.trans (congrArg some kq0)
  t0 := Try.underlying0
  a0 := Try.isAgg0
  z0 := Try.sizeOf0
  v0 := Try.zeroValue0
  t3 := Try.underlying3
  a3 := Try.isAgg3
  z3 := Try.sizeOf3
  v3 := Try.zeroValue3
  t4 := Try.underlying4
  a4 := Try.isAgg4
  z4 := Try.sizeOf4
  v4 := Try.zeroValue4
  t9 := Try.underlying9
  a9 := Try.isAgg9
  z9 := Try.sizeOf9
  v9 := Try.zeroValue9
  t31 := Try.underlying22
  a31 := Try.isAgg22
  z31 := Try.sizeOf22
  v31 := Try.zeroValue22 }
open Go.RowKit Go.Lib Go.Sort in
theorem Try.slices_Compact_string (blk off cap : Nat) (zs : List (List UInt8)) (w : World) (hH : Holds encStr w blk off zs.toArray) (hsz : zs.length ≤ 9223372036854775807) (hcap : zs.length ≤ cap) :
    Calls Try.prog 66 #[.slice (some ⟨blk, off, none⟩) zs.length cap] w fun e w' => e = .returned (.slice (some ⟨blk, off, none⟩) (Lib.compact zs).length cap) ∧ ∃ q, w' = putRow encStr (Sort.ahead w q) blk off (Lib.compact zs ++ List.replicate (zs.length - (Lib.compact zs).length) []).toArray := Any.slices_Compact_string Try.lays194 blk off cap zs w hH hsz hcap
open Go.RowKit Go.Lib Go.Sort in
theorem Try.slices_Compact_string_empty (a : Option Addr) (cap : Nat) (w : World) :
    Calls Try.prog 66 #[.slice a 0 cap] w fun e w' => e = .returned (.slice a 0 cap) ∧ w' = w := Any.slices_Compact_string_empty Try.lays194 a cap w
open Go.RowKit Go.Sort in
theorem Try.slices_Sort_string_none (p : Option Addr) (cap : Nat) (w : World) :
    Calls Try.prog 63 #[.slice p 0 cap] w fun e w' => e = .returned (.tuple #[]) ∧ w' = w := Any.slices_Sort_string_none Try.lays190 p cap w
def Try.laysSlH6_f102_ren : Go.Shelf.Ren := ⟨fun | 6 => 102 | n => n, fun | 22 => 22 | 23 => 9 | 25 => 51 | 3 => 3 | 0 => 0 | 4 => 4 | n => n, fun | n => n⟩
theorem Try.laysSlH6_f102 : Go.Proofs.SlLaysH.n6 Try.prog Try.laysSlH6_f102_ren := {
  mixed := by kernel_rfl
  f6 := ⟨Try.f102.name, kq2, Try.func102.trans (congrArg some kq0)⟩
  t0 := Try.underlying0
  a0 := Try.isAgg0
  z0 := Try.sizeOf0
  v0 := Try.zeroValue0
  t3 := Try.underlying3
  a3 := Try.isAgg3
  z3 := Try.sizeOf3
  v3 := Try.zeroValue3
  t4 := Try.underlying4
  a4 := Try.isAgg4
  z4 := Try.sizeOf4
  v4 := Try.zeroValue4
  t22 := Try.underlying22
  a22 := Try.isAgg22
  z22 := Try.sizeOf22
  v22 := Try.zeroValue22
  a23 := Try.isAgg9
  z23 := Try.sizeOf9
  t25 := Try.underlying51
  a25 := Try.isAgg51
  z25 := Try.sizeOf51
  v25 := Try.zeroValue51 }
open Go.RowKit Go.Lib in
theorem Try.slices_IndexFunc_empty {α : Type} [Inhabited α] (a : Option Addr) (c : Nat) (fv : Value) (w : World) :
    Calls Try.prog 102 #[.slice a 0 c, fv] w fun e w' => e = .returned (.int .i64 (-1)) ∧ w' = w := AnyE.slices_IndexFunc_empty Try.laysSlH6_f102 a c fv w
def Try.laysSlH10_f110_ren : Go.Shelf.Ren := ⟨fun | 10 => 110 | 6 => 102 | n => n, fun | 22 => 22 | 23 => 9 | 25 => 51 | 3 => 3 | 4 => 4 | 0 => 0 | n => n, fun | n => n⟩
theorem Try.laysSlH10_f110 : Go.Proofs.SlLaysH.n10 Try.prog Try.laysSlH10_f110_ren := {
  mixed := by kernel_rfl
  f6 := ⟨Try.f102.name, kq2, Try.func102.trans (congrArg some kq0)⟩
  f10 := ⟨Try.f110.name, kq2, Try.func110.trans (congrArg some kq0)⟩
  t0 := Try.underlying0
  a0 := Try.isAgg0
  z0 := Try.sizeOf0
  v0 := Try.zeroValue0
  t3 := Try.underlying3
  a3 := Try.isAgg3
  z3 := Try.sizeOf3
  v3 := Try.zeroValue3
  t4 := Try.underlying4
  a4 := Try.isAgg4
  z4 := Try.sizeOf4
  v4 := Try.zeroValue4
  t22 := Try.underlying22
  a22 := Try.isAgg22
  z22 := Try.sizeOf22
  v22 := Try.zeroValue22
  a23 := Try.isAgg9
  z23 := Try.sizeOf9
  t25 := Try.underlying51
  a25 := Try.isAgg51
  z25 := Try.sizeOf51
  v25 := Try.zeroValue51 }
open Go.RowKit Go.Lib Go.Sort in
theorem Try.slices_DeleteFunc {α : Type} [Inhabited α] (enc : α → Value) (hO : OneCell enc) (p : α → Bool) (g : Nat) (lb : Array Value) (eg : ∀ args w, (callFunc g args).run Try.prog w = .ok (.enter g args) w) (zr : α) (v23 : ∀ w, (zeroValue 9).run Try.prog w = .ok (enc zr) w) (blk off cap : Nat) (d : Array α) (w : World) (hp : PredAt Try.prog g lb enc p w) (hpo : PredOver Try.prog g lb enc p blk off d.size w) (hH : Holds enc w blk off d) (hsz : d.size ≤ 9223372036854775807) (hcap : d.size ≤ cap) :
    Calls Try.prog 110 #[.slice (some ⟨blk, off, none⟩) d.size cap, .func (.func g) #[] lb] w fun e w' => e = .returned (.slice (some ⟨blk, off, none⟩) (d.toList.filter fun x => !p x).length cap) ∧ ∃ q, w' = putRow enc (Sort.ahead w q) blk off ((d.toList.filter fun x => !p x) ++ List.replicate (d.size - (d.toList.filter fun x => !p x).length) zr).toArray := AnyE.slices_DeleteFunc Try.laysSlH10_f110 enc hO p g lb eg zr v23 blk off cap d w hp hpo hH hsz hcap
end Go.Proofs
namespace Go.Proofs.Ytjknpmibdkoklaa.U
open Go.RowKit Go.Sort Go.Proofs.YtjknpmibdkoklaaW.PrintWords Go.Proofs.YtjknpmibdkoklaaW.PrintLast Go.Proofs.YtjknpmibdkoklaaW.PrintMore
open Aside0 (mk)
theorem addr_plain {w : World} {a : Addr} {v : Value} (h : w.cell? a = some v) : a = ⟨a.block, a.off, none⟩ := by
  obtain ⟨b, o, t⟩ := a
  cases t with
  | none => rfl
  | some x =>
    simp only [World.cell?] at h
    split at h <;> (try cases h) <;> simp_all
theorem R_to_own {w : World} {base e : Nat} {ok : Nat → Prop} {v : Value} {xs : List ByteArray} (h : Kd.R Kd.string e w base ok v xs) : w.ownsRow base e 1 v xs.length (xs.map Value.string) := by
  obtain ⟨_, inner, ho, hl, hr⟩ := h
  have : inner = xs.map Value.string := by
    apply List.ext_getElem?
    intro j
    by_cases hj : j < xs.length
    · have h1 := hr j xs[j] (List.getElem?_eq_getElem hj)
      have h2 : (inner.drop (j * 1)).take 1 = [Value.string xs[j]] := h1
      have hi : j < inner.length := by have : inner.length = xs.length * 1 := hl; omega
      rw [Nat.mul_one, List.drop_eq_getElem_cons hi] at h2
      rw [List.take_succ_cons, List.take_zero] at h2
      rw [List.getElem?_eq_getElem hi, List.head_eq_of_cons_eq h2]
      simp [hj]
    · have : inner.length = xs.length * 1 := hl
      rw [List.getElem?_eq_none kq1, List.getElem?_eq_none (by simp; omega)]
  rw [this] at ho
  exact ho
theorem R_of_own {w : World} {base e : Nat} {ok : Nat → Prop} {v : Value} {xs : List ByteArray} (h0 : ∀ k, v.ownBlock = some k → ok k) (ho : w.ownsRow base e 1 v xs.length (xs.map Value.string)) : Kd.R Kd.string e w base ok v xs := by
  refine ⟨h0, xs.map Value.string, ho, by show _ = xs.length * 1; simp, fun j p hj => ?_⟩
  show ((xs.map Value.string).drop (j * 1)).take 1 = [Value.string p]
  obtain ⟨hl, hp⟩ := List.getElem?_eq_some_iff.1 hj
  rw [Nat.mul_one, List.drop_eq_getElem_cons (by simpa using hl)]
  simp [hp]
def bl (s : ByteArray) : List UInt8 := s.data.toList
def lb (l : List UInt8) : ByteArray := ⟨l.toArray⟩
theorem lb_bl (s : ByteArray) : lb (bl s) = s := by cases s; simp [lb, bl]
theorem map_lb_bl (xs : List ByteArray) : (xs.map bl).map lb = xs := by
  rw [List.map_map]
  refine Eq.trans ?_ (List.map_id xs)
  refine congrArg (fun q => List.map q xs) (funext fun s => lb_bl s)
theorem map_enc (ts : List (List UInt8)) : ts.map encStr = (ts.map lb).map Value.string := by
  rw [List.map_map]
  exact congrArg (fun q => List.map q ts) (funext fun s => rfl)
theorem map_str (xs : List ByteArray) : xs.map Value.string = (xs.map bl).map encStr := by
  rw [map_enc, map_lb_bl]
def slices_Clone_string_string.f (l0 : List ByteArray) : Option (List ByteArray) := if l0.length * 16 ≤ 140737488355328 then some l0 else none
theorem slices_Clone_string_string.calls (A0 : Option Addr) (c0 : Nat) (l0 : List ByteArray) (r : List ByteArray) (w : World) (hr0 : Kd.C Kd.string w A0 l0.length l0) (hc0 : l0.length ≤ c0) (h : slices_Clone_string_string.f l0 = some r) :
    Calls Try.prog 62 #[.slice A0 l0.length c0] w fun e w' => ∃ v0_ : Value, e = .returned (v0_) ∧ Kd.R Kd.string 9 w' w.heap.size (fun _ => True) v0_ r ∧ Below w.heap.size w w' := by
  unfold slices_Clone_string_string.f at h
  by_cases hb : l0.length * 16 ≤ 140737488355328
  · rw [if_pos hb] at h
    obtain rfl := Option.some.inj h
    obtain ⟨_, hm, hcell⟩ := hr0
    by_cases h0 : l0.length = 0
    · obtain rfl : l0 = [] := List.eq_nil_of_length_eq_zero h0
      cases A0 with
      | none => exact (Try.slices_Clone_string_nil 0 c0 w).mono fun e w' ⟨he, hw⟩ => ⟨_, he, Kd.R_nil _ _ _ _ _, by rw [hw]; exact Below.refl _ _⟩
      | some a => exact (Try.slices_Clone_string_zero a c0 w).mono fun e w' ⟨v, he, ho, _, hB⟩ => ⟨v, he, R_of_own (fun _ _ => trivial) ho, hB⟩
    · obtain ⟨ad, rfl, hc⟩ := hcell kq1
      have hc' : ∀ j (hj : j < l0.length), w.cell? (ad.add j) = some (.string l0[j]) := by
        intro j hj
        obtain ⟨c, hl, hK, hcc⟩ := hc j l0[j] (List.getElem?_eq_getElem hj)
        have hK' : c = [Value.string l0[j]] := hK
        have := hcc 0 (.string l0[j]) (by rw [hK']; rfl)
        have e : j * Kd.string.sz + 0 = j := by show j * 1 + 0 = j; omega
        rw [e] at this
        exact this
      have hp := addr_plain (hc' 0 kq1)
      have hp2 : ad = ⟨ad.block, ad.off, none⟩ := by
        obtain ⟨b, o, t⟩ := ad
        cases t with
        | none => rfl
        | some x => simp [Addr.add] at hp
      rw [hp2]
      refine (Try.slices_Clone_string ad.block ad.off l0.length c0 l0 w (Nat.le_refl _) hb (fun j hj => ?_)).mono fun e w' ⟨v, he, ho, _, hB⟩ => ⟨v, he, R_of_own (fun _ _ => trivial) (by rw [List.take_length] at ho; exact ho), hB⟩
      have h1 := hc' j hj
      rw [hp2] at h1
      rw [List.getD_eq_getElem?_getD, List.getElem?_eq_getElem hj]
      rcases Nat.eq_zero_or_pos j with hj0 | hj0
      · subst hj0; exact h1
      · simpa [Addr.add, Nat.ne_of_gt hj0] using h1
  · rw [if_neg hb] at h
    cases h
def sortedS (l : List ByteArray) : List ByteArray := ((l.map bl).mergeSort fun x y => decide (x ≤ y)).map lb
theorem sortedS_nil : sortedS [] = [] := by simp [sortedS]
theorem sortedS_length (l : List ByteArray) : (sortedS l).length = l.length := by unfold sortedS; simp
def slices_Sort_string_string.f (l0 : List ByteArray) : Option (List ByteArray) := if l0.length < 4611686018427387904 then some (sortedS l0) else none
theorem slices_Sort_string_string.calls (P0_ : Nat → Prop) (u9000_ : Value) (l0 : List ByteArray) (r : List ByteArray) (w0 w : World) (hB : Below w0.heap.size w0 w) (ho0 : Kd.R Kd.string 9 w w0.heap.size P0_ u9000_ l0) (h : slices_Sort_string_string.f l0 = some r) :
    Calls Try.prog 63 #[u9000_] w fun e w' => e = .returned (.tuple #[]) ∧ Kd.R Kd.string 9 w' w0.heap.size (fun k_ => (P0_ k_ ∨ w.heap.size ≤ k_)) u9000_ r ∧ Below w0.heap.size w0 w' ∧ Kept w w' (fun k_ => P0_ k_) := by
  unfold slices_Sort_string_string.f at h
  by_cases hb : l0.length < 4611686018427387904
  · rw [if_pos hb] at h
    obtain rfl := Option.some.inj h
    have hrow := R_to_own ho0
    have hok := ho0.1
    obtain ⟨_, hcase⟩ := hrow
    rcases hcase with ⟨rfl, h0⟩ | ⟨g, cap, cur, rfl, hbase, hh, h1, h2, h3, h4⟩
    · obtain rfl : l0 = [] := List.eq_nil_of_length_eq_zero h0
      exact (Try.slices_Sort_string_none none 0 w).mono fun e w' ⟨he, hw⟩ => ⟨he, by rw [hw, sortedS_nil]; exact Kd.R_nil _ _ _ _ _, by rw [hw]; exact hB, by rw [hw]; exact Kept.refl _ _⟩
    · have hl : ((l0.map bl)).length = l0.length := by simp
      have hH : Holds encStr w g 0 (l0.map bl).toArray := holds_of_block hh (by rw [hl, ← map_str]; simpa using h4)
      have hg : g < w.heap.size := (Array.getElem?_eq_some_iff.1 hh).1
      have hcall := Try.slices_Sort_string g 0 cap (l0.map bl) w hH hg (by rw [hl]; exact hb)
      rw [hl] at hcall
      refine hcall.mono fun e w' ⟨he, n, os, hw⟩ => ?_
      subst hw
      have hts : ((l0.map bl).mergeSort fun x y => decide (x ≤ y)).length = (l0.map bl).length := by simp
      have hrow2 := ownsRow_sorted (n := n) (os := os) (e := 9) (base := w0.heap.size) (ss := l0.map bl) (ts := (l0.map bl).mergeSort fun x y => decide (x ≤ y)) hts hbase hh (by rw [hl]; exact h1) h2 (by simpa using h3)
      rw [hl, map_enc] at hrow2
      have hgr := grownBy_sorted (w := w) (g := g) (n := n) (os := os) ((l0.map bl).mergeSort fun x y => decide (x ≤ y)).toArray
      refine ⟨he, R_of_own (fun k hk => .inl (hok k hk)) (by rw [sortedS_length]; exact hrow2), hB.grown hgr hB.size (fun k hk => by cases hk; exact hbase), ⟨hgr.size, fun i hi hn => hgr.block i hi (fun e => hn (hok i (by rw [e]; rfl)))⟩⟩
  · rw [if_neg hb] at h
    cases h
theorem grow_none (w : World) : grow w #[] = w := by cases w; simp [grow]
def compactS (l : List ByteArray) : List ByteArray := (Lib.compact (l.map bl)).map lb
theorem compactS_nil : compactS [] = [] := rfl
theorem compact_le (zs : List (List UInt8)) : (Lib.compact zs).length ≤ zs.length := Lib.compact_length_le zs
def slices_Compact_string_string.f (l0 : List ByteArray) : Option (List ByteArray) := if l0.length ≤ 9223372036854775807 then some (compactS l0) else none
theorem slices_Compact_string_string.calls (P0_ : Nat → Prop) (u9000_ : Value) (l0 : List ByteArray) (r : List ByteArray) (w0 w : World) (hB : Below w0.heap.size w0 w) (ho0 : Kd.R Kd.string 9 w w0.heap.size P0_ u9000_ l0) (h : slices_Compact_string_string.f l0 = some r) :
    Calls Try.prog 66 #[u9000_] w fun e w' => ∃ v0_ : Value, e = .returned (v0_) ∧ Kd.R Kd.string 9 w' w0.heap.size (fun k_ => (P0_ k_ ∨ w.heap.size ≤ k_)) v0_ r ∧ Below w0.heap.size w0 w' ∧ Kept w w' (fun k_ => P0_ k_) := by
  unfold slices_Compact_string_string.f at h
  by_cases hb : l0.length ≤ 9223372036854775807
  · rw [if_pos hb] at h
    obtain rfl := Option.some.inj h
    have hrow := R_to_own ho0
    have hok := ho0.1
    obtain ⟨_, hcase⟩ := hrow
    rcases hcase with ⟨rfl, h0⟩ | ⟨g, cap, cur, rfl, hbase, hh, h1, h2, h3, h4⟩
    · obtain rfl : l0 = [] := List.eq_nil_of_length_eq_zero h0
      exact (Try.slices_Compact_string_empty none 0 w).mono fun e w' ⟨he, hw⟩ => ⟨_, he, by rw [hw, compactS_nil]; exact Kd.R_nil _ _ _ _ _, by rw [hw]; exact hB, by rw [hw]; exact Kept.refl _ _⟩
    · have hl : ((l0.map bl)).length = l0.length := by simp
      have hH : Holds encStr w g 0 (l0.map bl).toArray := holds_of_block hh (by rw [hl, ← map_str]; simpa using h4)
      have hcall := Try.slices_Compact_string g 0 cap (l0.map bl) w hH (by rw [hl]; exact hb) (by rw [hl]; exact h1)
      rw [hl] at hcall
      refine hcall.mono fun e w' ⟨he, n, hw⟩ => ?_
      have hle : (Lib.compact (l0.map bl)).length ≤ l0.length := by rw [← hl]; exact compact_le _
      have hts : (Lib.compact (l0.map bl) ++ List.replicate (l0.length - (Lib.compact (l0.map bl)).length) []).length = (l0.map bl).length := by rw [List.length_append, List.length_replicate, hl]; omega
      have hrow2 := ownsRow_sorted (n := n) (os := #[]) (e := 9) (base := w0.heap.size) (ss := l0.map bl) hts hbase hh (by rw [hl]; exact h1) h2 (by simpa using h3)
      have hg0 : grow (putRow encStr (Sort.ahead w n) g 0 (Lib.compact (l0.map bl) ++ List.replicate (l0.length - (Lib.compact (l0.map bl)).length) []).toArray) #[] = w' := by rw [hw]; exact grow_none _
      rw [hl, map_enc] at hrow2
      have hgr := grownBy_sorted (w := w) (g := g) (n := n) (os := #[]) (Lib.compact (l0.map bl) ++ List.replicate (l0.length - (Lib.compact (l0.map bl)).length) []).toArray
      rw [hg0] at hrow2 hgr
      refine ⟨_, he, R_of_own (fun k hk => .inl (hok k hk)) ?_, hB.grown hgr hB.size (fun k hk => by cases hk; exact hbase), ⟨hgr.size, fun i hi hn => hgr.block i hi (fun e => hn (hok i (by rw [e]; rfl)))⟩⟩
      obtain ⟨_, hc2⟩ := hrow2
      rcases hc2 with ⟨hx, _⟩ | ⟨g', cap', cur', hx, hbase', hh', h1', h2', h3', h4'⟩
      · cases hx
      · cases hx
        have hlc : (compactS l0).length = (Lib.compact (l0.map bl)).length := by simp [compactS]
        refine ⟨by simp, .inr ⟨g, cap, cur', by rw [hlc], hbase', hh', by rw [hlc]; omega, h2', h3', ?_⟩⟩
        rw [Nat.mul_one] at h4' ⊢
        have h5 := congrArg (List.take (compactS l0).length) h4'
        rw [List.take_take, Nat.min_eq_left (by rw [hlc]; exact hle), List.map_append, List.map_append, List.take_append_of_le_length (by simp [compactS])] at h5
        rw [h5]
        show _ = (compactS l0).map Value.string
        rw [show compactS l0 = (Lib.compact (l0.map bl)).map lb from rfl]
        exact List.take_of_length_le (by simp)
  · rw [if_neg hb] at h
    cases h
end Go.Proofs.Ytjknpmibdkoklaa.U
set_option maxRecDepth 100000
namespace Go.Proofs.Ytjknpmibdkoklaa.U
open Go.RowKit Go.Proofs.YtjknpmibdkoklaaW.PrintWords Go.Proofs.YtjknpmibdkoklaaW.PrintLast Go.Proofs.YtjknpmibdkoklaaW.PrintMore
open Aside0 (mk)
def val32 : List Int → Int
  | [] => 0
  | d :: l => d + 4294967296 * val32 l
structure NumOf (neg : Bool) (ds : List Int) (z : Int) : Prop where
  dig : ∀ d ∈ ds, 0 ≤ d ∧ d < 4294967296
  top : ∀ d, ds.getLast? = some d → d ≠ 0
  zero : ds = [] → neg = false
  val : z = if neg then - val32 ds else val32 ds
def opZ (op a b : Int) : Int := if op = 3 then a + b else if op = 4 then a - b else a * b
def connB (op : Int) (a b : Bool) : Bool := if op = 3 then a && b else if op = 4 then a || b else if op = 5 then !a || b else a == b
def relB (op md a b : Int) : Bool := if op = 9 then decide (a ≤ b) else if op = 10 then decide (a < b) else if op = 11 then decide (b ≤ a) else if op = 12 then decide (b < a) else if op = 13 then decide (a = b) else if op = 14 then decide (a ≠ b) else decide (md ∣ a - b)
inductive SV where
  | num (z : Int)
  | tru (b : Bool)
def RD (W : World) (base : Nat) (ok : Nat → Prop) (p : TypeId × Value) : SV → Prop
  | .num z => ∃ neg ds A c, p = (172, .agg #[.bool neg, .slice A ds.length c]) ∧ Kd.V (Kd.int .u32) 185 W base ok (.slice A ds.length c) ds ∧ NumOf neg ds z
  | .tru b => p = (4, .bool b)
theorem RD.map {W W' : World} {base : Nat} {ok ok' : Nat → Prop} {p : TypeId × Value} {x : SV} (h : RD W base ok p x) (f : ∀ A n c ds, Kd.V (Kd.int .u32) 185 W base ok (.slice A n c) ds → Kd.V (Kd.int .u32) 185 W' base ok' (.slice A n c) ds) : RD W' base ok' p x := by
  cases x with
  | num z =>
    obtain ⟨neg, ds, A, c, hp, hv, hn⟩ := h
    exact ⟨neg, ds, A, c, hp, f _ _ _ _ hv, hn⟩
  | tru b => exact h
def kI : Kd (TypeId × Value) := Kd.scalar (fun p => .iface p.1 p.2) (fun _ => rfl)
def okD (b0 g : Nat) (X : Nat → Prop) (vs : Value) (k : Nat) : Prop := ((b0 ≤ k ∧ k ≠ g) ∧ ¬ X k) ∧ some k ≠ vs.ownBlock
inductive All2 {α β : Type} (R : α → β → Prop) : List α → List β → Prop where
  | nil : All2 R [] []
  | cons {a b l m} : R a b → All2 R l m → All2 R (a :: l) (b :: m)
theorem All2.len {α β : Type} {R : α → β → Prop} {l : List α} {m : List β} (h : All2 R l m) : l.length = m.length := by
  induction h with
  | nil => rfl
  | cons _ _ ih => simp [ih]
theorem All2.snoc {α β : Type} {R : α → β → Prop} {l : List α} {m : List β} {a : α} {b : β} (h : All2 R l m) (k : R a b) : All2 R (l ++ [a]) (m ++ [b]) := by
  induction h with
  | nil => exact .cons k .nil
  | cons h1 _ ih => exact .cons h1 ih
theorem All2.init {α β : Type} {R : α → β → Prop} {b : β} : ∀ {l : List α} {m : List β}, All2 R l (m ++ [b]) → ∃ l' a, l = l' ++ [a] ∧ All2 R l' m ∧ R a b
  | _, [], .cons h .nil => ⟨[], _, rfl, .nil, h⟩
  | _, _ :: _, .cons h t => by
    obtain ⟨l', a, rfl, h1, h2⟩ := All2.init t
    exact ⟨_ :: l', a, rfl, .cons h h1, h2⟩
structure Mach (w0 W : World) (g : Nat) (X : Nat → Prop) (h1 h2 vs : Value) (xs : List SV) : Prop where
  cell : W.heap[g]? = some (.cells #[h1, h2, vs] 130 (0, 0))
  new : w0.heap.size ≤ g
  below : Below w0.heap.size w0 W
  row : ∃ ps, kI.R 20 W w0.heap.size (fun k => k ≠ g) vs ps ∧ All2 (RD W w0.heap.size (okD w0.heap.size g X vs)) ps xs
structure Step (w w' : World) (g : Nat) (vs vs' : Value) : Prop where
  keep : KeepBut w w' g vs.ownBlock
  at_ : vs'.ownBlock = vs.ownBlock ∨ ∃ b, vs'.ownBlock = some b ∧ w.heap.size ≤ b
theorem All2.imp {α β : Type} {R S : α → β → Prop} {l : List α} {m : List β} (h : All2 R l m) (f : ∀ a b, R a b → S a b) : All2 S l m := by
  induction h with
  | nil => exact .nil
  | cons h1 _ ih => exact .cons (f _ _ h1) ih
theorem Mach.then_ {w0 W W' : World} {g : Nat} {X : Nat → Prop} {h1 h2 vs : Value} {xs : List SV} (h : Mach w0 W g X h1 h2 vs xs) (hb : Below W.heap.size W W') : Mach w0 W' g X h1 h2 vs xs := by
  obtain ⟨ps, hr, hf⟩ := h.row
  exact ⟨blk_below h.cell hb, h.new, below_step h.below hb, ps, Kd.R_below hr hb, hf.imp (fun _ _ hd => hd.map fun _ _ _ _ hv => Kd.V_below hv hb)⟩
theorem Step.below {w w' : World} (g : Nat) (vs : Value) (h : Below w.heap.size w w') : Step w w' g vs vs := ⟨KeepBut.of_below h g _, .inl rfl⟩
theorem Step.trans {w w1 w2 : World} {g : Nat} {vs v1 v2 : Value} (a : Step w w1 g vs v1) (b : Step w1 w2 g v1 v2) : Step w w2 g vs v2 := by
  refine ⟨⟨Nat.le_trans a.keep.1 b.keep.1, fun i hi hg hv => (b.keep.2 i (Nat.lt_of_lt_of_le hi a.keep.1) hg ?_).trans (a.keep.2 i hi hg hv)⟩, ?_⟩
  · rcases a.at_ with e | ⟨k, e, hk⟩
    · rw [e]; exact hv
    · rw [e]; intro he; cases he; omega
  · rcases b.at_ with e | ⟨k, e, hk⟩
    · rw [e]; exact a.at_
    · exact .inr ⟨k, e, Nat.le_trans a.keep.1 hk⟩
theorem Step.blk {w0 w w' : World} {g gb t : Nat} {X : Nat → Prop} {h1 h2 vs vs' : Value} {xs : List SV} {cs : Array Value} (hM : Mach w0 w g X h1 h2 vs xs) (hs : Step w w' g vs vs') (hb : w.heap[gb]? = some (.cells cs t (0, 0))) (h1 : gb ≠ g) (h2 : 20 ≠ t) : w'.heap[gb]? = some (.cells cs t (0, 0)) := by
  obtain ⟨ps, hr, _⟩ := hM.row
  exact (hs.keep.2 gb (blk_lt hb) h1 (Kd.R_ne hr hb h2)).trans hb
theorem Mach.more {w0 W : World} {g gb : Nat} {X : Nat → Prop} {h1 h2 vs : Value} {xs : List SV} (h : Mach w0 W g X h1 h2 vs xs) (hg : W.heap.size ≤ gb) : Mach w0 W g (fun k => X k ∨ k = gb) h1 h2 vs xs := by
  obtain ⟨ps, hr, hf⟩ := h.row
  exact ⟨h.cell, h.new, h.below, ps, hr, hf.imp fun _ _ hd => hd.map fun _ _ _ _ hv => Kd.V_mono (Kd.V_elderB hv gb hg) fun k hk => ⟨⟨hk.1.1.1, fun hx => hx.elim hk.1.1.2 hk.2⟩, hk.1.2⟩⟩
theorem Mach.less {w0 W : World} {g : Nat} {X Y : Nat → Prop} {h1 h2 vs : Value} {xs : List SV} (h : Mach w0 W g X h1 h2 vs xs) (hxy : ∀ k, Y k → X k) : Mach w0 W g Y h1 h2 vs xs := by
  obtain ⟨ps, hr, hf⟩ := h.row
  exact ⟨h.cell, h.new, h.below, ps, hr, hf.imp fun _ _ hd => hd.map fun _ _ _ _ hv => Kd.V_mono hv fun k hk => ⟨⟨hk.1.1, fun hx => hk.1.2 (hxy k hx)⟩, hk.2⟩⟩
theorem Mach.write {w0 W : World} {g gb t : Nat} {X : Nat → Prop} {h1 h2 vs : Value} {xs : List SV} {cs : Array Value} (h : Mach w0 W g X h1 h2 vs xs) (hx : X gb) (hn : gb ≠ g) (hnew : w0.heap.size ≤ gb) (hb : W.heap[gb]? = some (.cells cs t (0, 0))) (ht : 20 ≠ t) (i : Nat) (v : Value) : Mach w0 (W.setCell ⟨gb, i, none⟩ v) g X h1 h2 vs xs := by
  obtain ⟨ps, hr, hf⟩ := h.row
  exact ⟨(Below.heap_setCell W ⟨gb, i, none⟩ v g (Ne.symm hn)).trans h.cell, h.new, below_set h.below hnew, ps, Kd.R_set hr hb (by intro q hq; cases hq with | head => exact ht | tail _ hq => cases hq) i v, hf.imp fun _ _ hd => hd.map fun _ _ _ _ hv => Kd.V_far (p := ⟨gb, i, none⟩) hv (fun k hk he => hk.1.2 (by rw [he]; exact hx)) v⟩
theorem infoI : (Try.prog.info? 20).map (fun i => (i.zero, i.size, i.bytes)) = some (some .nilIface, 1, 16) := by kernel_rfl
set_option maxHeartbeats 8000000 in
theorem push_calls {w0 w : World} {g : Nat} {X : Nat → Prop} {h1 h2 vs : Value} {xs : List SV} {p : TypeId × Value} {x : SV} (hM : Mach w0 w g X h1 h2 vs xs) (hp : RD w w0.heap.size (okD w0.heap.size g X vs) p x) (hl : xs.length ≤ 1000000) :
    Calls Try.prog 142 #[.pointer (some ⟨g, 0, none⟩), .iface p.1 p.2] w fun e w' => e = .returned (.tuple #[]) ∧ ∃ vs', Mach w0 w' g X h1 h2 vs' (xs ++ [x]) ∧ Step w w' g vs vs' := by
  obtain ⟨ps, hr, hf⟩ := hM.row
  have hlen : ps.length = xs.length := hf.len
  have hcell := hM.cell
  have hc2 : w.cell? ⟨g, 2, none⟩ = some vs := (blk_cell hcell 2).trans rfl
  have hf2 := blk_frozen hcell 2
  obtain ⟨Av, cv, ev⟩ := Kd.R_slice hr
  have HM := mk hM
  have HR := mk hr
  have HF := mk hf
  have HP := mk hp
  have HL := mk (show ps.length ≤ 1000000 by omega)
  subst ev
  clear hM hr hf hp hl hcell hlen
  go_enter Try.func142, Try.ntmps142
  go_wp2_with (first | (at_builtin; refine Kd.R_append kI (w0 := w0) w0.heap.size rfl (.tmp 8) (.tmp 10) 128 20 .nilIface 16 rfl Try.underlying128 infoI rfl kq2 kq2 _ ps p [.iface p.1 p.2] (fun k => k ≠ g) (fun _ => False) rfl rfl ?aP (fun _ hk => hk.elim) ?aF ?aO ?aB ?aS ?aL ?_))
  case aP => exact rfl
  case aF => exact fun k hk => by have := HM.out.new; have := blk_lt HM.out.cell; omega
  case aO => exact HR.out
  case aB => exact HM.out.below
  case aS => exact below_size HM.out.below
  case aL => have := HL.out; omega
  intro v1 w1 ho hb hg hat
  obtain ⟨Aw, cw, ev⟩ := Kd.R_slice ho
  subst ev
  have hgb := blk_grown (g := g) HM.out.cell hg (Kd.R_ne HR.out HM.out.cell kq2)
  have hfz := blk_frozen hgb 2
  have hc0 : w1.cell? ⟨g, 0, none⟩ = some h1 := (blk_cell hgb 0).trans rfl
  have hc1 : w1.cell? ⟨g, 1, none⟩ = some h2 := (blk_cell hgb 1).trans rfl
  have hc2' : w1.cell? ⟨g, 2, none⟩ = some (.slice Av ps.length cv) := (blk_cell hgb 2).trans rfl
  go_wp2
  go_end0
  have el : (ps ++ [p]).length = ps.length + 1 := by simp
  rw [el] at ho hat
  have hrd : ∀ (q : TypeId × Value) (y : SV), RD w w0.heap.size (okD w0.heap.size g X (.slice Av ps.length cv)) q y → RD (w1.setCell ⟨g, 2, none⟩ (.slice Aw (ps.length + 1) cw)) w0.heap.size (okD w0.heap.size g X (.slice Aw (ps.length + 1) cw)) q y :=
    fun q y h => h.map fun _ _ _ _ hv => Kd.V_far (p := ⟨g, 2, none⟩) (Kd.V_after hv hg hat) (fun k hk => hk.1.1.2) _
  refine ⟨rfl, _, ⟨blk_put (cs := #[h1, h2, .slice Av ps.length cv]) hgb 2 _ rfl, HM.out.new, below_set hb HM.out.new, ps ++ [p], Kd.R_far (p := ⟨g, 2, none⟩) ho (fun k hk => hk) _, (HF.out.imp hrd).snoc (hrd _ _ HP.out)⟩, ⟨⟨?_, fun i hi hng hnv => ?_⟩, hat⟩⟩
  · rw [World.size_setCell]; exact hg.size
  · rw [Below.heap_setCell w1 ⟨g, 2, none⟩ _ i hng]; exact hg.block i hi hnv
theorem at_top {w : World} {A : Option Addr} {ps : List (TypeId × Value)} {p : TypeId × Value} (h : kI.C w A (ps.length + 1) (ps ++ [p])) : ∃ ad, A = some ad ∧ w.cell? (ad.add ps.length) = some (.iface p.1 p.2) := by
  obtain ⟨ad, rfl, hc⟩ := h.2.2 kq1
  obtain ⟨c, hl, hK, hcc⟩ := hc ps.length p (by simp)
  have hK' : c = [Value.iface p.1 p.2] := hK
  have h1 := hcc 0 (.iface p.1 p.2) (by rw [hK']; rfl)
  have e : ps.length * kI.sz + 0 = ps.length := by show ps.length * 1 + 0 = ps.length; omega
  rw [e] at h1
  exact ⟨ad, rfl, h1⟩
theorem popped {w0 W : World} {g n cv : Nat} {X : Nat → Prop} {h1 h2 : Value} {A : Option Addr} {ps : List (TypeId × Value)} {p : TypeId × Value} {xs : List SV} {x : SV} (hc : W.heap[g]? = some (.cells #[h1, h2, .slice A n cv] 130 (0, 0))) (hnew : w0.heap.size ≤ g) (hB : Below w0.heap.size w0 W) 
    (hr : kI.R 20 W w0.heap.size (fun k => k ≠ g) (.slice A n cv) (ps ++ [p])) (hf : All2 (RD W w0.heap.size (okD w0.heap.size g X (.slice A n cv))) ps xs) (hp : RD W w0.heap.size (okD w0.heap.size g X (.slice A n cv)) p x) :
    Mach w0 (W.setCell ⟨g, 2, none⟩ (.slice A ps.length cv)) g X h1 h2 (.slice A ps.length cv) xs ∧ RD (W.setCell ⟨g, 2, none⟩ (.slice A ps.length cv)) w0.heap.size (okD w0.heap.size g X (.slice A ps.length cv)) p x ∧ Step W (W.setCell ⟨g, 2, none⟩ (.slice A ps.length cv)) g (.slice A n cv) (.slice A ps.length cv) := by
  have ob : (Value.slice A ps.length cv).ownBlock = (Value.slice A n cv).ownBlock := by cases A <;> rfl
  have hrd : ∀ (q : TypeId × Value) (y : SV), RD W w0.heap.size (okD w0.heap.size g X (.slice A n cv)) q y → RD (W.setCell ⟨g, 2, none⟩ (.slice A ps.length cv)) w0.heap.size (okD w0.heap.size g X (.slice A ps.length cv)) q y :=
    fun q y h => h.map fun _ _ _ _ hv => Kd.V_far (p := ⟨g, 2, none⟩) (Kd.V_mono hv fun k hk => ⟨hk.1, by rw [ob]; exact hk.2⟩) (fun k hk => hk.1.1.2) _
  have ht := Kd.R_take (m := ps.length) hr (by simp)
  rw [List.take_left] at ht
  exact ⟨⟨blk_put (cs := #[h1, h2, .slice A n cv]) hc 2 _ rfl, hnew, below_set hB hnew, ps, Kd.R_far (p := ⟨g, 2, none⟩) ht (fun k hk => hk) _, hf.imp hrd⟩, hrd _ _ hp, ⟨⟨by rw [World.size_setCell]; exact Nat.le_refl _, fun i hi hng _ => Below.heap_setCell W ⟨g, 2, none⟩ _ i hng⟩, .inl ob⟩⟩
set_option maxHeartbeats 8000000 in
theorem pop_calls {w0 w : World} {g : Nat} {X : Nat → Prop} {h1 h2 vs : Value} {xs : List SV} {x : SV} (hM : Mach w0 w g X h1 h2 vs (xs ++ [x])) (hl : xs.length ≤ 1000000) :
    Calls Try.prog 141 #[.pointer (some ⟨g, 0, none⟩)] w fun e w' => ∃ p : TypeId × Value, e = .returned (.iface p.1 p.2) ∧ ∃ vs', Mach w0 w' g X h1 h2 vs' xs ∧ RD w' w0.heap.size (okD w0.heap.size g X vs') p x ∧ Step w w' g vs vs' := by
  obtain ⟨ps0, hr, hf⟩ := hM.row
  obtain ⟨ps, p, rfl, hf1, hp⟩ := hf.init
  have hlen : ps.length = xs.length := hf1.len
  obtain ⟨Av, cv, ev⟩ := Kd.R_slice hr
  have el : (ps ++ [p]).length = ps.length + 1 := by simp
  rw [el] at ev
  subst ev
  have hcell := hM.cell
  have hc0 : w.cell? ⟨g, 0, none⟩ = some h1 := (blk_cell hcell 0).trans rfl
  have hc1 : w.cell? ⟨g, 1, none⟩ = some h2 := (blk_cell hcell 1).trans rfl
  have hc2 : w.cell? ⟨g, 2, none⟩ = some (.slice Av (ps.length + 1) cv) := (blk_cell hcell 2).trans rfl
  have hf2 := blk_frozen hcell 2
  obtain ⟨A', c', hv', hcap, hC⟩ := Kd.R_reads hr
  rw [el] at hv' hcap hC
  cases hv'
  obtain ⟨ad, rfl, hx⟩ := at_top hC
  obtain ⟨i0, hi0, _, hsz, _⟩ := info_parts infoI
  have hcut := cut_to (P := Try.prog) 128 20 .i64 Try.underlying128 hi0 (some ad) (ps.length + 1) cv (ps.length : Int) kq1 kq1 hcap
  rw [Int.toNat_natCast] at hcut
  have HL := mk (show ps.length ≤ 1000000 by omega)
  generalize hn : ps.length + 1 = n at *
  have hsubw : IntKind.i64.wrap ((n : Int) - 1) = (ps.length : Int) := by rw [i64_w]; unfold wrap64; omega
  have p9 := eq_true (show (0 : Int) ≤ (ps.length : Int) by omega)
  have q9 := eq_true (show (ps.length : Int) < (n : Int) by omega)
  have q8 := eq_true (show (ps.length : Int) ≤ (n : Int) by omega)
  have HN := mk hn
  have HM := mk hM
  have HR := mk hr
  have HF := mk hf1
  have HP := mk hp
  clear hM hr hf hf1 hp hl hcell hC hlen el hn
  go_enter Try.func141, Try.ntmps141
  go_wp2
  go_quiet (fail)
  try go_wp2
  go_region_with (fail)
  all_goals go_wp2
  all_goals go_ret
  all_goals
    generalize hm : nq + 1 = m
    have hb := pw_below_drewN (Below.refl w.heap.size w) m
    have hk := popped (blk_below HM.out.cell hb) HM.out.new (HM.out.then_ hb).below (Kd.R_below HR.out hb) (HF.out.imp fun _ _ hd => hd.map fun _ _ _ _ hv => Kd.V_below hv hb) (HP.out.map fun _ _ _ _ hv => Kd.V_below hv hb)
    exact ⟨p, rfl, _, hk.1, hk.2.1, (Step.below g _ hb).trans hk.2.2⟩
theorem ta_whole (v : Value) (w : World) : (Instr.typeAssert (.iface 172 v) 20 172 false).run Try.prog w = .ok v w := by rfl
theorem ta_bool (v : Value) (w : World) : (Instr.typeAssert (.iface 4 v) 20 4 false).run Try.prog w = .ok v w := by rfl
set_option maxHeartbeats 8000000 in
theorem number_calls {w0 w : World} {g : Nat} {X : Nat → Prop} {h1 h2 vs : Value} {xs : List SV} {z : Int} (hM : Mach w0 w g X h1 h2 vs (xs ++ [.num z])) (hl : xs.length ≤ 1000000) :
    Calls Try.prog 145 #[.pointer (some ⟨g, 0, none⟩)] w fun e w' => ∃ neg ds A c, e = .returned (.agg #[.bool neg, .slice A ds.length c]) ∧ NumOf neg ds z ∧ ∃ vs', Mach w0 w' g X h1 h2 vs' xs ∧ Kd.V (Kd.int .u32) 185 w' w0.heap.size (okD w0.heap.size g X vs') (.slice A ds.length c) ds ∧ Step w w' g vs vs' := by
  have hta := ta_whole
  have hu := Try.underlying172
  have HM := mk hM
  have HL := mk hl
  clear hM hl
  go_enter Try.func145, Try.ntmps145
  go_wp2_with (first | ((with_reducible refine gate_dst (N := 2) rfl ?_); refine box_event ?hg (N := 2) ?hd (cs := #[.bool false, .slice none 0 0]) (t := 172) ?hr ?_; (case hd => rfl); (case hg => rfl); (case hr => exact kq6); intro gb hg w1 hbox hb; have HM1 := mk ((HM.out.more (gb := gb) (Nat.le_of_eq hg.symm)).then_ hb); have BK := mk hbox; have NB := mk (show gb ≠ g from by rw [hg]; exact Nat.ne_of_gt (blk_lt HM.out.cell)); have GE := mk (show w0.heap.size ≤ gb from by rw [hg]; exact below_size HM.out.below); have HB1 := mk hb; have EG := mk (show w.heap.size = gb from hg.symm); clear HM hb hbox hg) | (go_at_call 141; refine (pop_calls HM1.out HL.out).mono ?_; rintro e w2 ⟨p, rfl, v1, hM2, hp, hs⟩; obtain ⟨neg, ds, A, c, rfl, hv, hn⟩ := hp; have BK2 := mk (Step.blk HM1.out hs BK.out NB.out kq2); have HS := mk ((Step.below g vs HB1.out).trans hs); have HM2 := mk hM2; have HV := mk hv; have HN := mk hn; clear hM2 hv hn hs HM1 HB1 BK; obtain ⟨_, _, _, _⟩ := cz2_ BK2.out))
  have hcells := blk_put (cs := #[.bool neg, .slice none 0 0]) (blk_put (cs := #[.bool false, .slice none 0 0]) BK2.out 0 (.bool neg) rfl) 1 (.slice A ds.length c) rfl
  refine bodyPost_ret (results_cell_row rfl _ _ gb 172 #[.bool neg, .slice A ds.length c] (0, 0) _ rfl hcells Try.underlying172 rfl kq0) rfl ?_
  have hM3 := (HM2.out.write (.inr rfl) NB.out GE.out BK2.out kq2 0 (.bool neg)).write (.inr rfl) NB.out GE.out (blk_put (cs := #[.bool false, .slice none 0 0]) BK2.out 0 (.bool neg) rfl) kq2 1 (.slice A ds.length c)
  refine ⟨neg, ds, A, c, rfl, HN.out, _, hM3.less fun k hk => .inl hk, Kd.V_mono (Kd.V_far (p := ⟨gb, 1, none⟩) (Kd.V_far (p := ⟨gb, 0, none⟩) HV.out (fun k hk he => hk.1.2 (.inr he)) _) (fun k hk he => hk.1.2 (.inr he)) _) (fun k hk => ⟨⟨hk.1.1, fun hx => hk.1.2 (.inl hx)⟩, hk.2⟩), ?_⟩
  refine ⟨⟨by rw [World.size_setCell, World.size_setCell]; exact HS.out.keep.1, fun i hi hng hnv => ?_⟩, HS.out.at_⟩
  have hig : i ≠ gb := by have := EG.out; omega
  rw [Below.heap_setCell _ ⟨gb, 1, none⟩ _ i hig, Below.heap_setCell _ ⟨gb, 0, none⟩ _ i hig]
  exact HS.out.keep.2 i hi hng hnv
set_option maxHeartbeats 8000000 in
theorem holds_calls {w0 w : World} {g : Nat} {X : Nat → Prop} {h1 h2 vs : Value} {xs : List SV} {b : Bool} (hM : Mach w0 w g X h1 h2 vs (xs ++ [.tru b])) (hl : xs.length ≤ 1000000) :
    Calls Try.prog 143 #[.pointer (some ⟨g, 0, none⟩)] w fun e w' => e = .returned (.bool b) ∧ ∃ vs', Mach w0 w' g X h1 h2 vs' xs ∧ Step w w' g vs vs' := by
  have hta := ta_bool
  have HM := mk hM
  have HL := mk hl
  clear hM hl
  go_enter Try.func143, Try.ntmps143
  go_wp2_with (first | (go_at_call 141; refine (pop_calls HM.out HL.out).mono ?_; rintro e w1 ⟨p, rfl, v1, hM1, hp, hs⟩; cases (show p = _ from hp); have HM1 := mk hM1; have HS := mk hs; clear hM1 hs hp))
  go_ret
  exact ⟨rfl, _, HM1.out, HS.out⟩
theorem V_step {b0 : Nat} {w1 w2 : World} {g : Nat} {X : Nat → Prop} {v1 v2 : Value} {A : Option Addr} {n c : Nat} {ds : List Int} (hv : Kd.V (Kd.int .u32) 185 w1 b0 (okD b0 g X v1) (.slice A n c) ds) (hs : Step w1 w2 g v1 v2) : Kd.V (Kd.int .u32) 185 w2 b0 (okD b0 g X v2) (.slice A n c) ds := by
  refine Kd.V_map hv fun _ hf => Kd.F_mono (Foot.step (Kd.F_bound hf) (fun k hk hlt => hs.keep.2 k hlt hk.1.1.1.2 hk.1.2)) (fun k hk => ⟨hk.1.1, ?_⟩)
  rcases hs.at_ with e | ⟨b, e, hb⟩
  · rw [e]; exact hk.1.2
  · rw [e]; intro he; cases he; have := hk.2; omega
def X0 : Nat → Prop := fun _ => False
theorem Mach.fresh {w0 W : World} {g : Nat} {h1 h2 vs : Value} {xs : List SV} (h : Mach w0 W g X0 h1 h2 vs xs) (k : Nat) (hk : W.heap.size ≤ k) : okD w0.heap.size g X0 vs k := by
  obtain ⟨ps, hr, _⟩ := h.row
  have h1 := below_size h.below
  have h2 := blk_lt h.cell
  refine ⟨⟨⟨kq1, kq1⟩, fun hx => hx⟩, fun he => ?_⟩
  have := Kd.R_lt hr k he.symm
  omega
theorem fresh_num {w0 W W' : World} {g : Nat} {h1 h2 vs : Value} {xs : List SV} {A : Option Addr} {c : Nat} {neg : Bool} {ds : List Int} {z : Int} (h : Mach w0 W g X0 h1 h2 vs xs) (hv : Kd.V (Kd.int .u32) 185 W' W.heap.size (fun k => W.heap.size ≤ k) (.slice A ds.length c) ds) (hn : NumOf neg ds z) :
    RD W' w0.heap.size (okD w0.heap.size g X0 vs) (172, .agg #[.bool neg, .slice A ds.length c]) (.num z) :=
  ⟨neg, ds, A, c, rfl, Kd.V_mono hv fun k hk => h.fresh k hk, hn⟩
theorem shared_num {w0 W W' : World} {g : Nat} {h1 h2 vs : Value} {xs : List SV} {A : Option Addr} {c : Nat} {neg : Bool} {ds : List Int} {z : Int} (h : Mach w0 W g X0 h1 h2 vs xs) (hv : Kd.V (Kd.int .u32) 185 W' W.heap.size (fun k => okD w0.heap.size g X0 vs k ∨ W.heap.size ≤ k) (.slice A ds.length c) ds) (hn : NumOf neg ds z) :
    RD W' w0.heap.size (okD w0.heap.size g X0 vs) (172, .agg #[.bool neg, .slice A ds.length c]) (.num z) :=
  ⟨neg, ds, A, c, rfl, Kd.V_mono hv fun k hk => hk.elim id (h.fresh k), hn⟩
end Go.Proofs.Ytjknpmibdkoklaa.U
set_option maxRecDepth 100000
namespace Go.Proofs.Ytjknpmibdkoklaa.U
open Go.RowKit Go.Proofs.YtjknpmibdkoklaaW.PrintWords Go.Proofs.YtjknpmibdkoklaaW.PrintLast Go.Proofs.YtjknpmibdkoklaaW.PrintMore
def In6432 (a : Int) : Prop := -9223372036854775808 ≤ a ∧ a ≤ 9223372036854775807
instance (a : Int) : Decidable (In6432 a) := by unfold In6432; infer_instance
theorem wrap_in32 {a : Int} (h : In6432 a) : wrap64 a = a := by
  obtain ⟨h1, h2⟩ := h
  unfold wrap64; omega
theorem uwrap32 (n : Int) : IntKind.u64.wrap n = n % 18446744073709551616 := by simp [IntKind.wrap, IntKind.bits, IntKind.signed]
theorem uwrap_in32 {n : Int} (h0 : 0 ≤ n) (h1 : n < 18446744073709551616) : IntKind.u64.wrap n = n := by rw [uwrap32]; omega
theorem rd_of_lt32 {l : List Int} {i : Nat} (h : i < l.length) : rd l (i : Int) = l[i] := by
  unfold rd
  simp [List.getD_eq_getElem?_getD, h]
theorem Ev_at32 {α : Type} {g : Nat → Option α} {r : α} (K : Nat) (h : ∀ k, K < k → g k = some r) : Ev g r := ⟨K + 1, fun k hk => h k kq1⟩
theorem wrap_nat32 {i : Nat} (h : i < 9223372036854775808) : wrap64 (i : Int) = i := wrap_in32 ⟨kq1, kq1⟩
theorem wrap_succ32 {i : Nat} (h : i + 1 < 9223372036854775808) : wrap64 ((i : Int) + 1) = ((i + 1 : Nat) : Int) := by
  rw [show ((i : Int) + 1) = ((i + 1 : Nat) : Int) by omega]
  exact wrap_nat32 h
def dig32 (n : Nat) : List Int := if h : n = 0 then [] else ((n % 4294967296 : Nat) : Int) :: dig32 (n / 4294967296)
termination_by n
decreasing_by omega
def D32 (l : List Int) : Prop := ∀ d ∈ l, 0 ≤ d ∧ d < 4294967296
theorem dig_zero32 : dig32 0 = [] := by rw [dig32, dif_pos rfl]
theorem dig_pos32 {n : Nat} (h : n ≠ 0) : dig32 n = ((n % 4294967296 : Nat) : Int) :: dig32 (n / 4294967296) := by rw [dig32, dif_neg h]
theorem D32_nil : D32 [] := fun d h => by cases h
theorem D32_cons {d : Int} {l : List Int} (h0 : 0 ≤ d) (h1 : d < 4294967296) (hl : D32 l) : D32 (d :: l) := fun x hx => by
  rcases List.mem_cons.1 hx with rfl | hx
  · exact ⟨h0, h1⟩
  · exact hl x hx
theorem D32_tail {d : Int} {l : List Int} (h : D32 (d :: l)) : D32 l := fun x hx => h x (List.mem_cons_of_mem _ hx)
theorem D32_append {l m : List Int} (h : D32 l) (h' : D32 m) : D32 (l ++ m) := fun x hx => by
  rcases List.mem_append.1 hx with hx | hx
  · exact h x hx
  · exact h' x hx
theorem D32_one {d : Int} (h0 : 0 ≤ d) (h1 : d < 4294967296) : D32 [d] := D32_cons h0 h1 D32_nil
theorem val_nonneg32 {l : List Int} (h : D32 l) : 0 ≤ val32 l := by
  induction l with
  | nil => exact Int.le_refl _
  | cons d l ih =>
    have := ih (D32_tail h)
    have := h d List.mem_cons_self
    simp only [val32]
    omega
theorem val_lt32 {l : List Int} (h : D32 l) : val32 l < 4294967296 ^ l.length := by
  induction l with
  | nil => simp [val32]
  | cons d l ih =>
    have h1 := ih (D32_tail h)
    have h2 := h d List.mem_cons_self
    simp only [val32, List.length_cons, Int.pow_succ]
    omega
theorem val_append32 (l m : List Int) : val32 (l ++ m) = val32 l + 4294967296 ^ l.length * val32 m := by
  induction l with
  | nil => simp [val32]
  | cons d l ih =>
    simp only [List.cons_append, val32, ih, List.length_cons, Int.pow_succ, Int.mul_add, ← Int.mul_assoc]
    rw [Int.mul_comm 4294967296 (4294967296 ^ l.length)]
    omega
theorem val_zeros32 (n : Nat) : val32 (List.replicate n 0) = 0 := by
  induction n with
  | zero => rfl
  | succ n ih => simp [List.replicate_succ, val32, ih]
theorem D32_zeros (n : Nat) : D32 (List.replicate n 0) := fun d hd => by
  have := List.eq_of_mem_replicate hd
  omega
theorem dig_of32 {l : List Int} (h : D32 l) (hl : l = [] ∨ ∃ m d, l = m ++ [d] ∧ d ≠ 0) : dig32 (val32 l).toNat = l := by
  induction l with
  | nil => simp [val32, dig_zero32]
  | cons d l ih =>
    have h1 := val_nonneg32 (D32_tail h)
    have h2 := h d List.mem_cons_self
    have hl' : l = [] ∨ ∃ m d, l = m ++ [d] ∧ d ≠ 0 := by
      rcases hl with hl | ⟨m, e, hl, he⟩
      · cases hl
      · cases m with
        | nil =>
          simp at hl
          exact .inl hl.2
        | cons x m =>
          simp at hl
          exact .inr ⟨m, e, hl.2, he⟩
    have h3 := ih (D32_tail h) hl'
    have hne : (val32 (d :: l)).toNat ≠ 0 := by
      simp only [val32]
      rcases hl' with hn | hn
      · subst hn
        rcases hl with hl | ⟨m, e, hl, he⟩
        · cases hl
        · cases m with
          | nil =>
            simp at hl
            simp only [val32]
            omega
          | cons x m => simp at hl
      · have : (val32 l).toNat ≠ 0 := by
          intro hz
          rw [hz, dig_zero32] at h3
          obtain ⟨m, e, hm, _⟩ := hn
          rw [hm] at h3
          simp at h3
        omega
    rw [dig_pos32 hne]
    have e1 : ((val32 (d :: l)).toNat % 4294967296 : Nat) = d.toNat := by simp only [val32]; omega
    have e2 : (val32 (d :: l)).toNat / 4294967296 = (val32 l).toNat := by simp only [val32]; omega
    rw [e1, e2, h3]
    congr 1
    omega
theorem dig_len32 (n : Nat) (j : Nat) (h : n < 4294967296 ^ j) : (dig32 n).length ≤ j := by
  induction j generalizing n with
  | zero =>
    have : n = 0 := by simpa using h
    rw [this, dig_zero32]
    simp
  | succ j ih =>
    by_cases h0 : n = 0
    · rw [h0, dig_zero32]; simp
    · rw [dig_pos32 h0]
      have : n / 4294967296 < 4294967296 ^ j := by
        rw [Nat.pow_succ] at h
        exact Nat.div_lt_of_lt_mul (by rw [Nat.mul_comm]; exact h)
      have := ih _ this
      simp
      exact this
theorem rd_ge32 {l : List Int} {i : Nat} (h : l.length ≤ i) : rd l (i : Int) = 0 := by
  unfold rd
  simp [List.getD_eq_getElem?_getD, h]
theorem rd_D32 {l : List Int} (h : D32 l) (i : Nat) : 0 ≤ rd l (i : Int) ∧ rd l (i : Int) < 4294967296 := by
  by_cases hi : i < l.length
  · rw [rd_of_lt32 hi]
    exact h _ (List.getElem_mem hi)
  · rw [rd_ge32 kq1]
    omega
theorem val_drop32 (l : List Int) (i : Nat) : val32 (l.drop i) = rd l (i : Int) + 4294967296 * val32 (l.drop (i + 1)) := by
  by_cases hi : i < l.length
  · rw [rd_of_lt32 hi, List.drop_eq_getElem_cons hi]
    rfl
  · rw [rd_ge32 kq1, List.drop_eq_nil_of_le kq1, List.drop_eq_nil_of_le kq1]
    rfl
theorem val_take32 (l : List Int) (i : Nat) (hi : i < l.length) : val32 (l.take (i + 1)) = val32 (l.take i) + 4294967296 ^ i * rd l (i : Int) := by
  rw [List.take_succ_eq_append_getElem hi, val_append32, List.length_take, Nat.min_eq_left kq1, rd_of_lt32 hi]
  simp [val32]
theorem val_split32 (l : List Int) (i : Nat) (hi : i ≤ l.length) : val32 l = val32 (l.take i) + 4294967296 ^ i * val32 (l.drop i) := by
  have := val_append32 (l.take i) (l.drop i)
  rw [List.take_append_drop, List.length_take, Nat.min_eq_left hi] at this
  exact this
theorem D32_take {l : List Int} (h : D32 l) (i : Nat) : D32 (l.take i) := fun d hd => h d (List.mem_of_mem_take hd)
theorem pow_pos32 (i : Nat) : (0 : Int) < 4294967296 ^ i := Int.pow_pos kq2
theorem val_split'32 (l : List Int) (i : Nat) : val32 l = val32 (l.take i) + 4294967296 ^ i * val32 (l.drop i) := by
  by_cases h : i ≤ l.length
  · exact val_split32 l i h
  · rw [List.take_of_length_le kq1, List.drop_eq_nil_of_le kq1, show val32 [] = 0 from rfl, Int.mul_zero, Int.add_zero]
theorem pow_mono32 {i j : Nat} (h : i ≤ j) : (4294967296 : Int) ^ i ≤ 4294967296 ^ j := by
  obtain ⟨d, rfl⟩ := Nat.exists_eq_add_of_le h
  rw [Int.pow_add]
  have : (4294967296 : Int) ^ i * 1 ≤ 4294967296 ^ i * 4294967296 ^ d := Int.mul_le_mul_of_nonneg_left (by have := pow_pos32 d; omega) (Int.le_of_lt (pow_pos32 i))
  omega
theorem val_take_lt32 {l : List Int} (h : D32 l) (i : Nat) : val32 (l.take i) < 4294967296 ^ i := by
  refine Int.lt_of_lt_of_le (val_lt32 (D32_take h i)) (pow_mono32 ?_)
  rw [List.length_take]
  omega
theorem above32 {a b : List Int} (ha : D32 a) (hb : D32 b) (j : Nat) (h : val32 (a.drop j) < val32 (b.drop j)) : val32 a < val32 b := by
  have h1 := val_split'32 a j
  have h2 := val_split'32 b j
  have h3 := val_take_lt32 ha j
  have h4 := val_nonneg32 (D32_take hb j)
  have h5 : (4294967296 : Int) ^ j * (val32 (a.drop j) + 1) ≤ 4294967296 ^ j * val32 (b.drop j) := Int.mul_le_mul_of_nonneg_left kq1 (Int.le_of_lt (pow_pos32 _))
  rw [Int.mul_add] at h5
  omega
theorem val_set32 (l : List Int) (p : Nat) (v : Int) (hp : p < l.length) : val32 (l.set p v) = val32 l + (v - rd l (p : Int)) * 4294967296 ^ p := by
  induction l generalizing p with
  | nil => simp at hp
  | cons d l ih =>
    cases p with
    | zero => simp [val32, rd]; omega
    | succ p =>
      have h1 := ih p (by simpa using hp)
      have h2 : rd (d :: l) ((p + 1 : Nat) : Int) = rd l (p : Int) := by
        unfold rd
        rw [Int.toNat_natCast, Int.toNat_natCast]
        simp [List.getD_eq_getElem?_getD]
      rw [List.set_cons_succ, h2]
      simp only [val32]
      rw [h1, Int.pow_succ, Int.mul_add, ← Int.mul_assoc, ← Int.mul_assoc, Int.mul_comm 4294967296 (v - rd l (p : Int)), Int.mul_assoc, Int.mul_assoc, Int.mul_comm 4294967296 (4294967296 ^ p)]
      omega
theorem D32_set {l : List Int} (h : D32 l) (p : Nat) {v : Int} (h0 : 0 ≤ v) (h1 : v < 4294967296) : D32 (l.set p v) := fun d hd => by
  rcases List.mem_or_eq_of_mem_set hd with hd | rfl
  · exact h d hd
  · exact ⟨h0, h1⟩
theorem val_take_rd32 (l : List Int) (i : Nat) : val32 (l.take (i + 1)) = val32 (l.take i) + 4294967296 ^ i * rd l (i : Int) := by
  by_cases h : i < l.length
  · exact val_take32 l i h
  · rw [List.take_of_length_le kq1, List.take_of_length_le kq1, rd_ge32 kq1]
    simp
end Go.Proofs.Ytjknpmibdkoklaa.U
set_option maxRecDepth 100000
namespace Go.Proofs.Ytjknpmibdkoklaa.U
open Go.RowKit Go.Proofs.YtjknpmibdkoklaaW.PrintWords Go.Proofs.YtjknpmibdkoklaaW.PrintLast Go.Proofs.YtjknpmibdkoklaaW.PrintMore
open Aside0 (mk)
theorem infoU32 : (Try.prog.info? 185).map (fun i => (i.zero, i.size, i.bytes)) = some (some (.int .u32 0), 1, 4) := by kernel_rfl
theorem made0 {e : Nat} (W : World) (base : Nat) (ok : Nat → Prop) (hok : base ≤ W.heap.size ∧ (∀ k, W.heap.size ≤ k → ok k)) : Kd.R (Kd.int .u32) e (W.alloc (.cells #[] e)) base ok (.slice (some ⟨W.heap.size, 0, none⟩) 0 0) [] := by
  refine ⟨fun k hk => hok.2 k (by have : W.heap.size = k := by simpa [Value.ownBlock] using hk
                                  omega), [], World.ownsRow_made W #[] 0 hok.1 (Nat.zero_le _) rfl, ⟨rfl, fun j p hj => by simp at hj⟩⟩
def slices_Clone_uint32_uint32.f (l0 : List Int) : Option (List Int) := if l0.length * 4 ≤ 140737488355328 then some l0 else none
set_option maxHeartbeats 4000000 in
theorem slices_Clone_uint32_uint32.calls (A0 : Option Addr) (c0 : Nat) (l0 : List Int) (r : List Int) (w : World) (hr0 : Kd.C (Kd.int .u32) w A0 l0.length l0) (hc0 : l0.length ≤ c0) (h : slices_Clone_uint32_uint32.f l0 = some r) :
    Calls Try.prog 191 #[.slice A0 l0.length c0] w fun e w' => ∃ v0_ : Value, e = .returned (v0_) ∧ Kd.R (Kd.int .u32) 185 w' w.heap.size (fun _ => True) v0_ r ∧ Below w.heap.size w w' := by
  unfold slices_Clone_uint32_uint32.f at h
  have qT : ∀ (w : World) (a : Option Addr) (n c n' c' : Nat), (binOp .eql 170 (.slice a n c) (.slice none n' c')).run Try.prog w = .ok (.bool a.isNone) w := fun w a n c n' c' => Lib.run_eql_slice_nil w _ _ a n c n' c' Try.underlying170
  by_cases hb : l0.length * 4 ≤ 140737488355328
  · rw [if_pos hb] at h
    obtain rfl := Option.some.inj h
    have HR := mk hr0
    have HB0 := mk hb
    clear hr0 hb h
    cases A0 with
    | none =>
      have h0 : l0 = [] := by
        by_cases hn : 0 < l0.length
        · obtain ⟨ad, hx, _⟩ := HR.out.2.2 hn
          cases hx
        · exact List.eq_nil_of_length_eq_zero kq1
      subst h0
      go_enter Try.func191, Try.ntmps191
      go_wp2
      go_ret
      exact ⟨_, rfl, Kd.R_nil _ _ _ _ _, by repeat (first | (with_reducible first | exact Below.refl _ _ | apply below_alloc | apply pw_below_drewN | apply below_drew1) | exact Below.refl _ _)⟩
    | some a =>
      go_enter Try.func191, Try.ntmps191
      go_wp2_with (first | (at_builtin; refine Kd.R_append_rows (Kd.int .u32) (w0 := w) w.heap.size rfl (.tmp 5) (.tmp 6) 170 185 (.int .u32 0) 4 rfl Try.underlying170 infoU32 rfl kq2 kq2 _ [] l0 _ _ _ (fun _ => True) (fun _ => False) rfl rfl ?aO ?aR (fun _ _ h => h) (fun _ h => h.elim) (fun _ _ => trivial) ?aB ?aS ?aL ?_))
      case aR => exact Kd.C_alloc HR.out _
      case aB => repeat (first | (with_reducible first | exact Below.refl _ _ | apply below_alloc | apply pw_below_drewN | apply below_drew1) | exact Below.refl _ _)
      case aS => simp
      case aL => have := HB0.out; simpa using this
      case aO => exact made0 _ _ _ (by simp)
      intro v1 w1 ho hb _ _
      go_wp2
      go_ret
      exact ⟨_, rfl, ho, hb⟩
  · rw [if_neg hb] at h
    cases h
def mtr (l : List Int) : Nat → Nat
  | 0 => 0
  | n + 1 => if rd l (n : Int) = 0 then mtr l n else n + 1
theorem mtr_le (l : List Int) : ∀ n, mtr l n ≤ n
  | 0 => Nat.le_refl _
  | n + 1 => by
    unfold mtr
    split
    · exact Nat.le_succ_of_le (mtr_le l n)
    · exact Nat.le_refl _
def truth_made.f (a0 : Bool) (l1 : List Int) : Option (Bool × List Int) := some (a0 && decide (0 < mtr l1 l1.length), l1.take (mtr l1 l1.length))
set_option maxHeartbeats 8000000 in
theorem truth_made.very (a0 : Bool) (P1_ : Nat → Prop) (A1 : Option Addr) (c1 : Nat) (l1 : List Int) (r1 : Bool) (r2 : List Int) (w : World) (hs1 : Kd.V (Kd.int .u32) 185 w w.heap.size (fun k_ => P1_ k_) (.slice A1 l1.length c1) l1) (h : truth_made.f a0 l1 = some (r1, r2)) :
    Calls Try.prog 189 #[.bool a0, .slice A1 l1.length c1] w fun e w' => e = .returned (.agg #[.bool r1, .slice A1 (mtr l1 l1.length) c1]) ∧ Kd.V (Kd.int .u32) 185 w' w.heap.size (fun k_ => (P1_ k_ ∨ w.heap.size ≤ k_)) (.slice A1 (mtr l1 l1.length) c1) r2 ∧ Below w.heap.size w w' := by
  have hu := Try.underlying172
  obtain ⟨i0, hi0, _, hsz, _⟩ := info_parts infoU32
  have hr12 := Option.some.inj h
  have er1 : (a0 && decide (0 < mtr l1 l1.length)) = r1 := congrArg Prod.fst hr12
  have er2 : l1.take (mtr l1 l1.length) = r2 := congrArg Prod.snd hr12
  subst er1; subst er2
  have hlen := (Kd.V_reads' hs1).2.2.2.1
  have hcap := (Kd.V_reads' hs1).2.1
  have HV := mk (show Kd.V (Kd.int .u32) 185 w w.heap.size (fun k_ => P1_ k_ ∨ w.heap.size ≤ k_) (.slice A1 l1.length c1) l1 from Kd.V_mono hs1 (fun k_ hk => .inl hk))
  have HB := mk (Below.refl w.heap.size w)
  clear hs1 h hr12
  generalize hm : mtr l1 l1.length = m
  have HM := mk hm
  have HML := mk (show m ≤ l1.length by rw [← hm]; exact mtr_le _ _)
  clear hm
  go_enter Try.func189, Try.ntmps189
  go_wp2_with (first | ((with_reducible refine gate_dst (N := 4) rfl ?_); refine box_event ?hg (N := 4) ?hd (cs := #[.bool false, .slice none 0 0]) (t := 172) ?hr ?_; (case hd => rfl); (case hg => rfl); (case hr => exact kq6); intro gb hg w1 hbox hb; have HV1 := mk (Kd.V_below (Kd.V_elderB (kq3 HV) gb (Nat.le_of_eq hg.symm)) hb); have HB1 := mk (below_step kq4 hb); have BK1 := mk hbox; have GE := (gs_ hg kq4); clear HV HB hb hbox hg))
  go_loopg [5] l1.length (fun gq v5 wr => ∃ n : Nat, v5 = .int .i64 n ∧ Aside0 (n ≤ l1.length) ∧ Aside0 (n ≤ gq) ∧ Aside0 (mtr l1 n = m) ∧ Aside0 (Kd.V (Kd.int .u32) 185 wr w.heap.size (fun k_ => (P1_ k_ ∨ w.heap.size ≤ k_) ∧ k_ ≠ gb) (.slice A1 l1.length c1) l1) ∧ Aside0 (wr.heap[gb]? = some (.cells #[.bool false, .slice none 0 0] 172 (0, 0))) ∧ Aside0 (Below w.heap.size w wr))
  case atStart => exact ⟨l1.length, by first | rfl | simp, ⟨Nat.le_refl _⟩, ⟨Nat.le_refl _⟩, HM, ⟨(kq3 HV1)⟩, ⟨(kq7 BK1)⟩, ⟨by repeat (first | (with_reducible first | exact HB1.out | apply below_alloc | apply pw_below_drewN | apply below_drew1) | exact HB1.out)⟩⟩
  case round =>
    obtain ⟨n, rfl, HN, HQ, HMn, HV, BK, HB⟩ := hrel
    obtain ⟨_, _, _, _⟩ := cz2_ BK.out
    have hcut := cut_to (P := Try.prog) 170 185 .i64 Try.underlying170 hi0 A1 l1.length c1 (n : Int) kq1 (by have := HN.out; omega) hcap
    have HT0 := Kd.F_take (m := (n : Int).toNat) (Kd.V_F HV.out) (by have := HN.out; omega)
    simp only [Int.toNat_natCast] at hcut HT0
    have HT := mk (show Kd.V (Kd.int .u32) 185 wr w.heap.size (fun k_ => (P1_ k_ ∨ w.heap.size ≤ k_) ∧ k_ ≠ gb) (.slice A1 n c1) (l1.take n) from by
      have h1 : (l1.take n).length = n := by rw [List.length_take]; have := HN.out; omega
      have h2 := Kd.V_mk (e := 185) (base := w.heap.size) (c := c1) (by rw [h1]; have := HN.out; omega) HT0
      rw [h1] at h2
      exact h2)
    clear HT0
    have hnl : (n : Int) ≤ (l1.length : Int) := by have := HN.out; omega
    by_cases hz : n = 0
    · subst hz
      have em : m = 0 := HMn.out.symm
      subst em
      have c6b0 : decide ((0 : Int) < ((0 : Nat) : Int)) = false := by decide
      cases a0
      · go_wp2
        refine bodyPost_ret (results_cell_row rfl _ _ gb 172 #[.bool false, .slice A1 0 c1] (0, 0) _ rfl (kq5 BK) Try.underlying172 rfl kq0) rfl ?_
        exact ⟨rfl, kq8, (kq9 GE)⟩
      · go_wp2
        refine bodyPost_ret (results_cell_row rfl _ _ gb 172 #[.bool false, .slice A1 0 c1] (0, 0) _ rfl (kq5 BK) Try.underlying172 rfl kq0) rfl ?_
        exact ⟨rfl, kq8, (kq9 GE)⟩
    · obtain ⟨q, rfl⟩ : ∃ q, n = q + 1 := ⟨n - 1, kq1⟩
      have c6b0 : decide ((0 : Int) < ((q + 1 : Nat) : Int)) = true := decide_eq_true kq1
      have hji : wrap64 (((q + 1 : Nat) : Int) - 1) = (q : Int) := by unfold wrap64; omega
      have hjiw : (IntKind.i64.wrap (((q + 1 : Nat) : Int) - 1)) = (q : Int) := (i64_w _).trans hji
      have p9 : (0 : Int) ≤ (q : Int) := by omega
      have q9 : (q : Int) < (l1.length : Int) := by omega
      obtain ⟨ad, e9, hx9⟩ := Kd.at_int (Kd.V_reads' HV.out).2.2 (q : Int) p9 q9
      cases e9
      rw [Int.toNat_natCast] at hx9
      replace p9 := eq_true p9
      replace q9 := eq_true q9
      have hd := HMn.out
      by_cases c10 : rd l1 (q : Int) = 0
      · have c10b0 := eT_ c10
        rw [mtr, if_pos c10] at hd
        have HD := mk hd
        clear hd c10
        go_wp2
        go_roundg q
        case measure => have := HQ.out; omega
        case rel => exact ⟨q, rfl, ⟨by have := HN.out; omega⟩, ⟨Nat.le_refl _⟩, HD, ⟨(kq3 HV)⟩, ⟨(kq7 BK)⟩, ⟨(kq9 GE)⟩⟩
      · have c10b0 := eF_ c10
        rw [mtr, if_neg c10] at hd
        subst hd
        clear c10
        cases a0
        · go_wp2
          refine bodyPost_ret (results_cell_row rfl _ _ gb 172 #[.bool false, .slice (some ad) (q + 1) c1] (0, 0) _ rfl (kq5 BK) Try.underlying172 rfl kq0) rfl ?_
          exact ⟨rfl, kq8, (kq9 GE)⟩
        · go_wp2
          refine bodyPost_ret (results_cell_row rfl _ _ gb 172 #[.bool true, .slice (some ad) (q + 1) c1] (0, 0) _ rfl (by (with_reducible repeat (first | refine blk_drewN ?_ _ | refine blk_drew ?_ | refine blk_alloc ?_ _)); refine blk_put (cs := #[.bool true, .slice none 0 0]) ?_ 1 _ rfl; (with_reducible repeat (first | refine blk_drewN ?_ _ | refine blk_drew ?_ | refine blk_alloc ?_ _)); refine blk_put (cs := #[.bool false, .slice none 0 0]) ?_ 0 _ rfl; (with_reducible repeat (first | refine blk_drewN ?_ _ | refine blk_drew ?_ | refine blk_alloc ?_ _)); exact BK.out) Try.underlying172 rfl kq0) rfl ?_
          exact ⟨by rw [show (true && decide (0 < q + 1)) = true from by simp], kq8, (kq9 GE)⟩
theorem truth_made.calls (a0 : Bool) (P1_ : Nat → Prop) (A1 : Option Addr) (c1 : Nat) (l1 : List Int) (r1 : Bool) (r2 : List Int) (w : World) (hs1 : Kd.V (Kd.int .u32) 185 w w.heap.size (fun k_ => P1_ k_) (.slice A1 l1.length c1) l1) (h : truth_made.f a0 l1 = some (r1, r2)) :
    Calls Try.prog 189 #[.bool a0, .slice A1 l1.length c1] w fun e w' => ∃ v1_ : Value, e = .returned (.agg #[.bool r1, v1_]) ∧ Kd.V (Kd.int .u32) 185 w' w.heap.size (fun k_ => (P1_ k_ ∨ w.heap.size ≤ k_)) v1_ r2 ∧ Below w.heap.size w w' :=
  (truth_made.very a0 P1_ A1 c1 l1 r1 r2 w hs1 h).mono fun _ _ ⟨he, hv, hb⟩ => ⟨_, he, hv, hb⟩
end Go.Proofs.Ytjknpmibdkoklaa.U
namespace Go.Proofs
open Go.Shelf
def Try.laysE35_ren : Go.Shelf.Ren := ⟨fun | 35 => 192 | n => n, fun | 22 => 216 | 23 => 5 | 3 => 3 | 4 => 4 | 0 => 0 | n => n, fun | n => n⟩
theorem Try.laysE35 : Go.Proofs.SlLaysE.n35 Try.prog Try.laysE35_ren := {
  mixed := by kernel_rfl
  f35 := ⟨Try.f192.name, kq2, Try.func192.trans (congrArg some kq0)⟩
  t0 := Try.underlying0
  a0 := Try.isAgg0
  z0 := Try.sizeOf0
  v0 := Try.zeroValue0
  t3 := Try.underlying3
  a3 := Try.isAgg3
  z3 := Try.sizeOf3
  v3 := Try.zeroValue3
  t4 := Try.underlying4
  a4 := Try.isAgg4
  z4 := Try.sizeOf4
  v4 := Try.zeroValue4
  t22 := Try.underlying216
  a22 := Try.isAgg216
  z22 := Try.sizeOf216
  v22 := Try.zeroValue216
  a23 := Try.isAgg5
  z23 := Try.sizeOf5 }
end Go.Proofs
namespace Go.Proofs
open Go.Shelf
def Try.laysH10_ren : Go.Shelf.Ren := ⟨fun | 10 => 110 | 6 => 102 | n => n, fun | 22 => 22 | 23 => 9 | 25 => 51 | 3 => 3 | 4 => 4 | 0 => 0 | n => n, fun | n => n⟩
theorem Try.laysH10 : Go.Proofs.SlLaysH.n10 Try.prog Try.laysH10_ren := {
  mixed := by kernel_rfl
  f6 := ⟨Try.f102.name, kq2, Try.func102.trans (congrArg some kq0)⟩
  f10 := ⟨Try.f110.name, kq2, Try.func110.trans (congrArg some kq0)⟩
  t0 := Try.underlying0
  a0 := Try.isAgg0
  z0 := Try.sizeOf0
  v0 := Try.zeroValue0
  t3 := Try.underlying3
  a3 := Try.isAgg3
  z3 := Try.sizeOf3
  v3 := Try.zeroValue3
  t4 := Try.underlying4
  a4 := Try.isAgg4
  z4 := Try.sizeOf4
  v4 := Try.zeroValue4
  t22 := Try.underlying22
  a22 := Try.isAgg22
  z22 := Try.sizeOf22
  v22 := Try.zeroValue22
  a23 := Try.isAgg9
  z23 := Try.sizeOf9
  t25 := Try.underlying51
  a25 := Try.isAgg51
  z25 := Try.sizeOf51
  v25 := Try.zeroValue51 }
end Go.Proofs
namespace Go.Proofs.Ytjknpmibdkoklaa.U
open Go.RowKit Go.Lib Go.Sort Go.Proofs.YtjknpmibdkoklaaW.PrintWords Go.Proofs.YtjknpmibdkoklaaW.PrintLast Go.Proofs.YtjknpmibdkoklaaW.PrintMore
open Aside0 (mk)
def delS (l : List ByteArray) (x : ByteArray) : List ByteArray := l.filter fun y => !decide (y = x)
theorem del1_calls (gb : Nat) (x a : ByteArray) (x0 x2 x3 x4 : Value) (W : World) (hbk : W.heap[gb]? = some (.cells #[x0, .string a, x2, x3, x4] 39 (0, 0))) :
    Calls Try.prog 111 #[.string x, .pointer (some ⟨gb, 0, none⟩)] W fun e w' => e = .returned (.bool (decide (x = a))) ∧ ∃ q, w' = W.drewN q := by
  have hc : W.cell? ⟨gb, 1, none⟩ = some (.string a) := (blk_cell hbk 1).trans rfl
  have hf := blk_frozen hbk 1
  clear hbk
  go_enter Try.func111, Try.ntmps111
  by_cases hx : x = a
  · subst hx
    go_wp2
    go_ret
    exact ⟨by simp, 0, rfl⟩
  · have hx2 : ¬ x.toList = a.toList := fun e => hx (by cases x; cases a; simpa [ByteArray.toList_eq] using e)
    go_wp2
    go_ret
    exact ⟨by simp [hx, hx2], 0, rfl⟩
theorem encStr_cell : OneCell encStr := fun _ => rfl
theorem filter_bl (l : List ByteArray) (x : ByteArray) : ((l.map bl).filter fun y => !decide (lb y = x)) = (delS l x).map bl := by
  unfold delS
  rw [List.filter_map]
  refine congrArg (List.map bl) (congrArg (fun q => List.filter q l) (funext fun y => ?_))
  show (!decide (lb (bl y) = x)) = _
  rw [lb_bl]
def slices_DeleteFunc_string_string.f (l0 : List ByteArray) (a1 : ByteArray) : Option (List ByteArray) := if l0.length ≤ 9223372036854775807 then some (delS l0 a1) else none
theorem slices_DeleteFunc_string_string.calls (gb : Nat) (x0 x2 x3 x4 : Value) (P0_ : Nat → Prop) (u9000_ : Value) (l0 : List ByteArray) (a1 : ByteArray) (r : List ByteArray) (w0 w : World) (hbk : w.heap[gb]? = some (.cells #[x0, .string a1, x2, x3, x4] 39 (0, 0))) (hB : Below w0.heap.size w0 w) (ho0 : Kd.R Kd.string 9 w w0.heap.size P0_ u9000_ l0) (h : slices_DeleteFunc_string_string.f l0 a1 = some r) :
    Calls Try.prog 110 #[u9000_, .func (.func 111) #[] #[.pointer (some ⟨gb, 0, none⟩)]] w fun e w' => ∃ v0_ : Value, e = .returned (v0_) ∧ Kd.R Kd.string 9 w' w0.heap.size (fun k_ => (P0_ k_ ∨ w.heap.size ≤ k_)) v0_ r ∧ Below w0.heap.size w0 w' ∧ Kept w w' (fun k_ => P0_ k_) := by
  unfold slices_DeleteFunc_string_string.f at h
  by_cases hb : l0.length ≤ 9223372036854775807
  · rw [if_pos hb] at h
    obtain rfl := Option.some.inj h
    have hne : some gb ≠ u9000_.ownBlock := Kd.R_ne ho0 hbk kq2
    have hrow := R_to_own ho0
    have hok := ho0.1
    obtain ⟨_, hcase⟩ := hrow
    have eg : ∀ args w, (callFunc 111 args).run Try.prog w = .ok (.enter 111 args) w := enters_of Try.func111 kq0 rfl
    rcases hcase with ⟨rfl, h0⟩ | ⟨g, cap, cur, rfl, hbase, hh, h1, h2, h3, h4⟩
    · obtain rfl : l0 = [] := List.eq_nil_of_length_eq_zero h0
      have hI := fun fv w => AnyE.slices_IndexFunc_empty (show SlLaysH.n6 Try.prog Try.laysH10_ren from { Try.laysH10 with }) none 0 fv w
      have HB := mk hB
      clear hB ho0 hok hne hbk
      go_enter Try.func110, Try.ntmps110
      go_wp2_with (go_at_call 102; refine (hI _ _).mono ?_; rintro e w' ⟨rfl, rfl⟩)
      go_ret
      exact ⟨_, rfl, Kd.R_nil _ _ _ _ _, kq4, by first | exact Kept.refl _ _ | exact ⟨Nat.le_refl _, fun _ _ _ => rfl⟩⟩
    · have hl : ((l0.map bl)).length = l0.length := by simp
      have hgb : gb ≠ g := fun e => hne (by rw [e]; rfl)
      have hH : Holds encStr w g 0 (l0.map bl).toArray := holds_of_block hh (by rw [hl, ← map_str]; simpa using h4)
      have hp : PredAt Try.prog 111 #[.pointer (some ⟨gb, 0, none⟩)] encStr (fun x => decide (lb x = a1)) w := fun W x hW => del1_calls gb (lb x) a1 x0 x2 x3 x4 W (blk_below hbk hW)
      have hpo : PredOver Try.prog 111 #[.pointer (some ⟨gb, 0, none⟩)] encStr (fun x => decide (lb x = a1)) g 0 (l0.map bl).toArray.size w := fun n os dk x hs =>
        del1_calls gb (lb x) a1 x0 x2 x3 x4 _ (blk_grown hbk (grownBy_sorted (w := w) (g := g) (n := n) (os := os) dk) (fun e => hgb (Option.some.inj e)))
      have hcall := AnyE.slices_DeleteFunc Try.laysH10 encStr encStr_cell (fun x => decide (lb x = a1)) 111 #[.pointer (some ⟨gb, 0, none⟩)] eg [] Try.zeroValue9 g 0 cap (l0.map bl).toArray w hp hpo hH (by simpa using hb) (by simpa using h1)
      simp only [List.size_toArray, hl] at hcall
      rw [filter_bl] at hcall
      refine hcall.mono fun e w' ⟨he, n, hw⟩ => ?_
      have hle : (delS l0 a1).length ≤ l0.length := List.length_filter_le _ _
      have hts : ((delS l0 a1).map bl ++ List.replicate (l0.length - ((delS l0 a1).map bl).length) []).length = (l0.map bl).length := by rw [List.length_append, List.length_replicate, hl, List.length_map]; omega
      have hrow2 := ownsRow_sorted (n := n) (os := #[]) (e := 9) (base := w0.heap.size) (ss := l0.map bl) hts hbase hh (by rw [hl]; exact h1) h2 (by simpa using h3)
      have hg0 : grow (putRow encStr (Sort.ahead w n) g 0 ((delS l0 a1).map bl ++ List.replicate (l0.length - ((delS l0 a1).map bl).length) []).toArray) #[] = w' := by rw [hw]; exact grow_none _
      rw [hl, map_enc] at hrow2
      have hgr := grownBy_sorted (w := w) (g := g) (n := n) (os := #[]) ((delS l0 a1).map bl ++ List.replicate (l0.length - ((delS l0 a1).map bl).length) []).toArray
      rw [hg0] at hrow2 hgr
      refine ⟨_, he, R_of_own (fun k hk => .inl (hok k hk)) ?_, hB.grown hgr hB.size (fun k hk => by cases hk; exact hbase), ⟨hgr.size, fun i hi hn => hgr.block i hi (fun e => hn (hok i (by rw [e]; rfl)))⟩⟩
      obtain ⟨_, hc2⟩ := hrow2
      rcases hc2 with ⟨hx, _⟩ | ⟨g', cap', cur', hx, hbase', hh', h1', h2', h3', h4'⟩
      · cases hx
      · cases hx
        refine ⟨by simp, .inr ⟨g, cap, cur', by simp, hbase', hh', kq1, h2', h3', ?_⟩⟩
        rw [Nat.mul_one] at h4' ⊢
        have h5 := congrArg (List.take (delS l0 a1).length) h4'
        rw [List.take_take, Nat.min_eq_left hle, List.map_append, List.map_append, List.take_append_of_le_length (by simp), map_lb_bl] at h5
        exact h5.trans (List.take_of_length_le (by simp))
  · rw [if_neg hb] at h
    cases h
end Go.Proofs.Ytjknpmibdkoklaa.U
namespace Go.Proofs.Ytjknpmibdkoklaa.Open
open Go.ChangeShapes Go.WideShapes Go.Proofs.YtjknpmibdkoklaaW.PrintWords
section
variable {H : Type} {enc : TypeId × Value → H} {P : Program} {W : World} {base : Nat} {spare : Nat → Bool} {held : Bool}
theorem mem_weightsAll {e : TypeId} : ∀ {l : List (DataW H)} {d : DataW H} {n : Nat}, d ∈ l → n ∈ d.weights P e → n ∈ DataW.weightsAll P e l
  | x :: l, d, n, hd, hn => by
    simp only [DataW.weightsAll, List.mem_append]
    rcases List.mem_cons.1 hd with rfl | hd
    · exact .inl hn
    · exact .inr (mem_weightsAll hd hn)
theorem mem_weights_slice {t e : TypeId} {l r : List (DataW H)} {d : DataW H} {n : Nat} (hu : P.underlying t = some (.slice e)) (hd : d ∈ l) (hn : n ∈ d.weights P e) : n ∈ (DataW.slice l r).weights P t := by
  simp only [DataW.weights, hu, List.mem_cons, List.mem_append]
  exact .inr (.inl (mem_weightsAll hd hn))
theorem sized_at {ts : List TypeId} {ds : List (DataW H)} {j : Nat} {t : TypeId} {d : DataW H} (hsz : (DataW.weightsEach P ts ds).all (· ≤ reachBytes) = true) (ht : ts[j]? = some t) (hd : ds[j]? = some d) : ∀ n ∈ d.weights P t, n ≤ reachBytes := fun n hn => by
  simpa using List.all_eq_true.1 hsz _ (DataW.weights_mem_each ht hd n hn)
end
end Go.Proofs.Ytjknpmibdkoklaa.Open
