/- Functions of the given program as Lean functions, each with its contract, and what they answer; words for it. No condition but those of each. -/
import Derived.Test.YtjknpmibdkoklaaMF8
import Derived.Test.YtjknpmibdkoklaaMF10
import Derived.Lib.OthersKept
import Derived.Laws.RangeAny
import Derived.LoopTactic
import Derived.Shelf.SlicesE.DeleteFunc
import Derived.Shelf.SlicesQ.IndexFunc
import Derived.Test.YtjknpmibdkoklaaProg
import Derived.Test.YtjknpmibdkoklaaMF3
import Derived.Test.YtjknpmibdkoklaaMF1
import Derived.SliceStrings
import Derived.SizedLaws
import Derived.ChangeSlices
set_option maxRecDepth 100000
namespace Go.Proofs.Ytjknpmibdkoklaa.Q
open Go.RowKit Go.Proofs.YtjknpmibdkoklaaW.PrintWords Go.Proofs.YtjknpmibdkoklaaW.PrintLast Go.Proofs.YtjknpmibdkoklaaW.PrintMore
open Aside0 (mk)
def startB (r : Int) : Bool := decide ((65 ≤ r ∧ r ≤ 90) ∨ (97 ≤ r ∧ r ≤ 122) ∨ r = 95 ∨ (913 ≤ r ∧ r ≤ 929) ∨ (931 ≤ r ∧ r ≤ 937) ∨ (945 ≤ r ∧ r ≤ 969))
def restB (r : Int) : Bool := startB r || decide ((48 ≤ r ∧ r ≤ 57) ∨ r = 8242 ∨ (8320 ≤ r ∧ r ≤ 8329))
theorem start_j3 (k : Nat) (r : Int) (b : Bool) : glyph_Start.j3 (k + 1) r b = some (b || decide (945 ≤ r ∧ r ≤ 969)) := by
  simp only [glyph_Start.j3]
  cases b
  · by_cases h1 : r ≥ 945 <;> by_cases h2 : r ≤ 969 <;> simp [h1, h2] <;> omega
  · simp
theorem start_j2 (k : Nat) (r : Int) (b : Bool) : glyph_Start.j2 (k + 2) r b = some (b || decide ((931 ≤ r ∧ r ≤ 937) ∨ (945 ≤ r ∧ r ≤ 969))) := by
  simp only [glyph_Start.j2, start_j3]
  cases b
  · by_cases h1 : r ≥ 931 <;> by_cases h2 : r ≤ 937 <;> simp [h1, h2] <;> omega
  · simp
theorem start_j1 (k : Nat) (r : Int) (b : Bool) : glyph_Start.j1 (k + 3) r b = some (b || decide ((913 ≤ r ∧ r ≤ 929) ∨ (931 ≤ r ∧ r ≤ 937) ∨ (945 ≤ r ∧ r ≤ 969))) := by
  simp only [glyph_Start.j1, start_j2]
  cases b
  · by_cases h1 : r ≥ 913 <;> by_cases h2 : r ≤ 929 <;> simp [h1, h2] <;> omega
  · simp
theorem start_j0 (k : Nat) (r : Int) (b : Bool) : glyph_Start.j0 (k + 4) r b = some (b || decide ((97 ≤ r ∧ r ≤ 122) ∨ r = 95 ∨ (913 ≤ r ∧ r ≤ 929) ∨ (931 ≤ r ∧ r ≤ 937) ∨ (945 ≤ r ∧ r ≤ 969))) := by
  simp only [glyph_Start.j0, start_j1]
  cases b
  · by_cases h1 : r ≥ 97 <;> by_cases h2 : r ≤ 122 <;> by_cases h3 : r = 95 <;> simp [h1, h2, h3] <;> omega
  · simp
theorem start_ev (k : Nat) (r : Int) : glyph_Start.f (k + 4) r = some (startB r) := by
  simp only [glyph_Start.f, start_j0, startB]
  by_cases h1 : r ≥ 65 <;> by_cases h2 : r ≤ 90 <;> simp [h1, h2] <;> omega
theorem start_at (r : Int) : glyph_Start.f 6 r = some (startB r) := start_ev 2 r
theorem rest_ev (k : Nat) (r : Int) : glyph_Rest.f (k + 4) r = some (restB r) := by
  unfold glyph_Rest.f
  rw [start_ev]
  unfold restB
  cases h : startB r
  · simp only [Option.bind_some, Bool.false_or]
    by_cases h1 : r ≥ 48 <;> by_cases h2 : r ≤ 57 <;> by_cases h3 : r = 8242 <;> by_cases h4 : r ≥ 8320 <;> by_cases h5 : r ≤ 8329 <;> simp [h1, h2, h3, h4, h5] <;> omega
  · simp
theorem rest_at (r : Int) : glyph_Rest.f 6 r = some (restB r) := rest_ev 2 r
def reservedB (s : ByteArray) : Bool := (glyph_Reserved.f s).getD false
theorem reserved_at (s : ByteArray) : glyph_Reserved.f s = some (reservedB s) := by
  unfold reservedB glyph_Reserved.f
  repeat' split
  all_goals rfl
theorem decode_pos (s : ByteArray) (p : Nat) (h : p < s.size) : 1 ≤ (Utf8.decode s p).2 := by
  by_cases ha : (s[p]'h).toNat < 128
  · rw [decode_ascii s p h ha]
    exact Nat.le_refl 1
  · exact (decode_high s p h (by omega)).2
def nameGo (s : ByteArray) (pos : Nat) (n : Int) : Bool × Int :=
  if h : pos < s.size then
    if ((pos == 0 && !startB ((Utf8.decode s pos).1 : Nat)) || !restB ((Utf8.decode s pos).1 : Nat)) = true then (false, 0) else nameGo s (pos + (Utf8.decode s pos).2) (wrap64 (n + 1))
  else (true, n)
termination_by s.size - pos
decreasing_by
  have := decode_pos s pos h
  omega
def nameB (s : ByteArray) : Bool := (nameGo s 0 0).1 && decide ((nameGo s 0 0).2 > 0) && decide ((nameGo s 0 0).2 ≤ 16) && !reservedB s
def glyph_Name.f (a0 : ByteArray) : Option Bool := some (nameB a0)
theorem name_end {s : ByteArray} {pos : Nat} {n : Int} (h : ¬ pos < s.size) (e : nameGo s pos n = nameGo s 0 0) : nameGo s 0 0 = (true, n) := by
  rw [← e, nameGo, dif_neg h]
theorem name_bad {s : ByteArray} {pos : Nat} {n : Int} (h : pos < s.size) (e : nameGo s pos n = nameGo s 0 0) (hb : ((pos == 0 && !startB ((Utf8.decode s pos).1 : Nat)) || !restB ((Utf8.decode s pos).1 : Nat)) = true) : nameB s = false := by
  unfold nameB
  rw [← e, nameGo, dif_pos h, if_pos hb]
  rfl
theorem name_go {s : ByteArray} {pos : Nat} {n : Int} (h : pos < s.size) (e : nameGo s pos n = nameGo s 0 0) (hb : ((pos == 0 && !startB ((Utf8.decode s pos).1 : Nat)) || !restB ((Utf8.decode s pos).1 : Nat)) = false) : nameGo s (pos + (Utf8.decode s pos).2) (wrap64 (n + 1)) = nameGo s 0 0 := by
  rw [← e]
  conv => rhs; rw [nameGo, dif_pos h, if_neg (by rw [hb]; decide)]
theorem name_val {s : ByteArray} {m : Int} (e : nameGo s 0 0 = (true, m)) : nameB s = (decide (m > 0) && decide (m ≤ 16) && !reservedB s) := by
  unfold nameB
  rw [e]
  rfl
theorem below_draw0 {B : Nat} {a w w' : World} (h : Below B a w) (hd : Drawn0 w w') : Below B a w' := by
  obtain ⟨n, rfl⟩ := hd
  exact pw_below_drewN h n
set_option maxHeartbeats 4000000 in
theorem glyph_Name.calls (a0 : ByteArray) (r : Bool) (w : World) (h : glyph_Name.f a0 = some r) :
    Calls Try.prog 41 #[.string a0] w fun e w' => e = .returned (.bool r) ∧ Below w.heap.size w w' := by
  have HR := mk (Option.some.inj h)
  clear h
  go_enter Try.func41, Try.ntmps41
  go_wp2
  go_loopw [3] (fun n wr => ∃ (pos : Nat) (m : Int), n = .int .i64 m ∧ Aside0 (nameGo a0 pos m = nameGo a0 0 0) ∧ Aside0 (wr.heap[w.heap.size]? = some (.stringIter a0 pos)) ∧ Aside0 (Below w.heap.size w wr)) (fun _ wr => a0.size - wr.iterPos w.heap.size)
  case atStart => exact ⟨0, 0, rfl, ⟨rfl⟩, ⟨World.iter_heap w a0 0⟩, ⟨below_alloc (Below.refl _ _) _⟩⟩
  case round =>
    obtain ⟨pos, m, rfl, HN, HI, HB⟩ := hrel
    by_cases hp : pos < a0.size
    · have hnx := fun ty => Lib.run_next_any_at (P := Try.prog) wr w.heap.size a0 pos ty HI.out hp
      have HI2 := mk (Lib.iterAt_heap wr w.heap.size a0 pos (pos + (Utf8.decode a0 pos).2) HI.out)
      have HB2 := mk (Lib.below_iterAt HB.out (Nat.le_refl _) a0 (pos + (Utf8.decode a0 pos).2))
      have hd := decode_pos a0 pos hp
      have HM := mk (show a0.size - (pos + (Utf8.decode a0 pos).2) < a0.size - pos by omega)
      have HG := mk (name_go hp HN.out)
      have HX := mk (name_bad hp HN.out)
      have HS := mk (start_at ((Utf8.decode a0 pos).1 : Nat))
      have HT := mk (rest_at ((Utf8.decode a0 pos).1 : Nat))
      clear HN HB hd hp
      have hz : (pos == 0) = ((pos : Int) == 0) := by
        by_cases h : pos = 0
        · subst h; rfl
        · rw [beq_eq_false_iff_ne.2 h, beq_eq_false_iff_ne.2 (by omega)]
      rw [hz] at HG HX
      clear hz
      generalize startB ((Utf8.decode a0 pos).1 : Nat) = sb at HS HG HX
      generalize restB ((Utf8.decode a0 pos).1 : Nat) = rb at HT HG HX
      cases hz : ((pos : Int) == 0) <;> cases sb <;> cases rb <;> rw [hz] at HG HX
      all_goals
        go_wp2_with (first | (go_at_call 77; (with_reducible refine (glyph_Start.calls 6 _ _ _ HS.out).mono ?_); rintro e w' ⟨rfl, ⟨nd, rfl⟩⟩) | (go_at_call 78; (with_reducible refine (glyph_Rest.calls 6 _ _ _ HT.out).mono ?_); rintro e w' ⟨rfl, ⟨nd, rfl⟩⟩))
        first
          | (go_ret; exact ⟨by rw [← HR.out, HX.out rfl]; rfl, by repeat (first | exact HB2.out | apply pw_below_drewN)⟩)
          | (go_roundw; (case rel => exact ⟨_, _, rfl, ⟨HG.out rfl⟩, ⟨HI2.out⟩, ⟨by repeat (first | exact HB2.out | apply pw_below_drewN)⟩⟩); (case measure => simpa [World.iterPos, HI.out, HI2.out] using HM.out))
    · have hnx := fun ty => Lib.run_next_end_at (P := Try.prog) wr w.heap.size a0 pos ty HI.out hp
      have HE := mk (name_end hp HN.out)
      have HV := mk (reserved_at a0)
      clear hp
      go_wp2_with (go_at_call 79; (with_reducible refine (glyph_Reserved.calls a0 _ _ HV.out).mono ?_); rintro e w' ⟨rfl, HD⟩)
      all_goals go_ret
      · exact ⟨by rw [← HR.out, name_val HE.out, decide_eq_true (show m > 0 by assumption), decide_eq_true (show m ≤ 16 by assumption)]; rfl, below_draw0 HB.out HD⟩
      · exact ⟨by rw [← HR.out, name_val HE.out, decide_eq_true (show m > 0 by assumption), decide_eq_false (show ¬ m ≤ 16 by omega)]; rfl, HB.out⟩
      · exact ⟨by rw [← HR.out, name_val HE.out, decide_eq_false (show ¬ m > 0 by omega)]; rfl, HB.out⟩
end Go.Proofs.Ytjknpmibdkoklaa.Q
namespace Go.Proofs
open Go.Shelf
def Try.laysH10_ren : Go.Shelf.Ren := ⟨fun | 10 => 110 | 6 => 102 | n => n, fun | 22 => 22 | 23 => 9 | 25 => 51 | 3 => 3 | 4 => 4 | 0 => 0 | n => n, fun | n => n⟩
theorem Try.laysH10 : Go.Proofs.SlLaysH.n10 Try.prog Try.laysH10_ren := {
  mixed := by kernel_rfl
  f6 := ⟨Try.f102.name, by decide, Try.func102.trans (congrArg some (by kernel_rfl))⟩
  f10 := ⟨Try.f110.name, by decide, Try.func110.trans (congrArg some (by kernel_rfl))⟩
  t0 := Try.underlying0
  a0 := Try.isAgg0
  z0 := Try.sizeOf0
  v0 := Try.zeroValue0
  t3 := Try.underlying3
  a3 := Try.isAgg3
  z3 := Try.sizeOf3
  v3 := Try.zeroValue3
  t4 := Try.underlying4
  a4 := Try.isAgg4
  z4 := Try.sizeOf4
  v4 := Try.zeroValue4
  t22 := Try.underlying22
  a22 := Try.isAgg22
  z22 := Try.sizeOf22
  v22 := Try.zeroValue22
  a23 := Try.isAgg9
  z23 := Try.sizeOf9
  t25 := Try.underlying51
  a25 := Try.isAgg51
  z25 := Try.sizeOf51
  v25 := Try.zeroValue51 }
end Go.Proofs
namespace Go.Proofs.Ytjknpmibdkoklaa.Q
open Go.RowKit Go.Lib Go.Sort Go.Proofs.YtjknpmibdkoklaaW.PrintWords Go.Proofs.YtjknpmibdkoklaaW.PrintLast Go.Proofs.YtjknpmibdkoklaaW.PrintMore
open Aside0 (mk)
def delS (l : List ByteArray) (x : ByteArray) : List ByteArray := l.filter fun y => !decide (y = x)
theorem del1_calls (gb : Nat) (x a : ByteArray) (x0 x2 x3 x4 : Value) (W : World) (hbk : W.heap[gb]? = some (.cells #[x0, .string a, x2, x3, x4] 39 (0, 0))) :
    Calls Try.prog 111 #[.string x, .pointer (some ⟨gb, 0, none⟩)] W fun e w' => e = .returned (.bool (decide (x = a))) ∧ ∃ q, w' = W.drewN q := by
  have hc : W.cell? ⟨gb, 1, none⟩ = some (.string a) := (blk_cell hbk 1).trans rfl
  have hf := blk_frozen hbk 1
  clear hbk
  go_enter Try.func111, Try.ntmps111
  by_cases hx : x = a
  · subst hx
    go_wp2
    go_ret
    exact ⟨by simp, 0, rfl⟩
  · have hx2 : ¬ x.toList = a.toList := fun e => hx (by cases x; cases a; simpa [ByteArray.toList_eq] using e)
    go_wp2
    go_ret
    exact ⟨by simp [hx, hx2], 0, rfl⟩
theorem encStr_cell : OneCell encStr := fun _ => rfl
theorem filter_bl (l : List ByteArray) (x : ByteArray) : ((l.map bl).filter fun y => !decide (lb y = x)) = (delS l x).map bl := by
  unfold delS
  rw [List.filter_map]
  refine congrArg (List.map bl) (congrArg (fun q => List.filter q l) (funext fun y => ?_))
  show (!decide (lb (bl y) = x)) = _
  rw [lb_bl]
def slices_DeleteFunc_string_string.f (l0 : List ByteArray) (a1 : ByteArray) : Option (List ByteArray) := if l0.length ≤ 9223372036854775807 then some (delS l0 a1) else none
theorem slices_DeleteFunc_string_string.calls (gb : Nat) (x0 x2 x3 x4 : Value) (P0_ : Nat → Prop) (u9000_ : Value) (l0 : List ByteArray) (a1 : ByteArray) (r : List ByteArray) (w0 w : World) (hbk : w.heap[gb]? = some (.cells #[x0, .string a1, x2, x3, x4] 39 (0, 0))) (hB : Below w0.heap.size w0 w) (ho0 : Kd.R Kd.string 9 w w0.heap.size P0_ u9000_ l0) (h : slices_DeleteFunc_string_string.f l0 a1 = some r) :
    Calls Try.prog 110 #[u9000_, .func (.func 111) #[] #[.pointer (some ⟨gb, 0, none⟩)]] w fun e w' => ∃ v0_ : Value, e = .returned (v0_) ∧ Kd.R Kd.string 9 w' w0.heap.size (fun k_ => (P0_ k_ ∨ w.heap.size ≤ k_)) v0_ r ∧ Below w0.heap.size w0 w' ∧ Kept w w' (fun k_ => P0_ k_) := by
  unfold slices_DeleteFunc_string_string.f at h
  by_cases hb : l0.length ≤ 9223372036854775807
  · rw [if_pos hb] at h
    obtain rfl := Option.some.inj h
    have hne : some gb ≠ u9000_.ownBlock := Kd.R_ne ho0 hbk (by decide)
    have hrow := R_to_own ho0
    have hok := ho0.1
    obtain ⟨_, hcase⟩ := hrow
    have eg : ∀ args w, (callFunc 111 args).run Try.prog w = .ok (.enter 111 args) w := enters_of Try.func111 (by kernel_rfl) rfl
    rcases hcase with ⟨rfl, h0⟩ | ⟨g, cap, cur, rfl, hbase, hh, h1, h2, h3, h4⟩
    · obtain rfl : l0 = [] := List.eq_nil_of_length_eq_zero h0
      have hI := fun fv w => AnyE.slices_IndexFunc_empty (show SlLaysH.n6 Try.prog Try.laysH10_ren from { Try.laysH10 with }) none 0 fv w
      have HB := mk hB
      clear hB ho0 hok hne hbk
      go_enter Try.func110, Try.ntmps110
      go_wp2_with (go_at_call 102; refine (hI _ _).mono ?_; rintro e w' ⟨rfl, rfl⟩)
      go_ret
      exact ⟨_, rfl, Kd.R_nil _ _ _ _ _, by repeat (first | (with_reducible first | exact HB.out | apply below_alloc | apply pw_below_drewN | apply below_drew1) | exact HB.out), by first | exact Kept.refl _ _ | exact ⟨Nat.le_refl _, fun _ _ _ => rfl⟩⟩
    · have hl : ((l0.map bl)).length = l0.length := by simp
      have hgb : gb ≠ g := fun e => hne (by rw [e]; rfl)
      have hH : Holds encStr w g 0 (l0.map bl).toArray := holds_of_block hh (by rw [hl, ← map_str]; simpa using h4)
      have hp : PredAt Try.prog 111 #[.pointer (some ⟨gb, 0, none⟩)] encStr (fun x => decide (lb x = a1)) w := fun W x hW => del1_calls gb (lb x) a1 x0 x2 x3 x4 W (blk_below hbk hW)
      have hpo : PredOver Try.prog 111 #[.pointer (some ⟨gb, 0, none⟩)] encStr (fun x => decide (lb x = a1)) g 0 (l0.map bl).toArray.size w := fun n os dk x hs =>
        del1_calls gb (lb x) a1 x0 x2 x3 x4 _ (blk_grown hbk (grownBy_sorted (w := w) (g := g) (n := n) (os := os) dk) (fun e => hgb (Option.some.inj e)))
      have hcall := AnyE.slices_DeleteFunc Try.laysH10 encStr encStr_cell (fun x => decide (lb x = a1)) 111 #[.pointer (some ⟨gb, 0, none⟩)] eg [] Try.zeroValue9 g 0 cap (l0.map bl).toArray w hp hpo hH (by simpa using hb) (by simpa using h1)
      simp only [List.size_toArray, hl] at hcall
      rw [filter_bl] at hcall
      refine hcall.mono fun e w' ⟨he, n, hw⟩ => ?_
      have hle : (delS l0 a1).length ≤ l0.length := List.length_filter_le _ _
      have hts : ((delS l0 a1).map bl ++ List.replicate (l0.length - ((delS l0 a1).map bl).length) []).length = (l0.map bl).length := by rw [List.length_append, List.length_replicate, hl, List.length_map]; omega
      have hrow2 := ownsRow_sorted (n := n) (os := #[]) (e := 9) (base := w0.heap.size) (ss := l0.map bl) hts hbase hh (by rw [hl]; exact h1) h2 (by simpa using h3)
      have hg0 : grow (putRow encStr (Sort.ahead w n) g 0 ((delS l0 a1).map bl ++ List.replicate (l0.length - ((delS l0 a1).map bl).length) []).toArray) #[] = w' := by rw [hw]; exact grow_none _
      rw [hl, map_enc] at hrow2
      have hgr := grownBy_sorted (w := w) (g := g) (n := n) (os := #[]) ((delS l0 a1).map bl ++ List.replicate (l0.length - ((delS l0 a1).map bl).length) []).toArray
      rw [hg0] at hrow2 hgr
      refine ⟨_, he, R_of_own (fun k hk => .inl (hok k hk)) ?_, hB.grown hgr hB.size (fun k hk => by cases hk; exact hbase), ⟨hgr.size, fun i hi hn => hgr.block i hi (fun e => hn (hok i (by rw [e]; rfl)))⟩⟩
      obtain ⟨_, hc2⟩ := hrow2
      rcases hc2 with ⟨hx, _⟩ | ⟨g', cap', cur', hx, hbase', hh', h1', h2', h3', h4'⟩
      · cases hx
      · cases hx
        refine ⟨by simp, .inr ⟨g, cap, cur', by simp, hbase', hh', by omega, h2', h3', ?_⟩⟩
        rw [Nat.mul_one] at h4' ⊢
        have h5 := congrArg (List.take (delS l0 a1).length) h4'
        rw [List.take_take, Nat.min_eq_left hle, List.map_append, List.map_append, List.take_append_of_le_length (by simp), map_lb_bl] at h5
        exact h5.trans (List.take_of_length_le (by simp))
  · rw [if_neg hb] at h
    cases h
end Go.Proofs.Ytjknpmibdkoklaa.Q
namespace Go.Proofs.Ytjknpmibdkoklaa.Open
open Go.ChangeShapes Go.WideShapes Go.Proofs.YtjknpmibdkoklaaW.PrintWords
section
variable {H : Type} {enc : TypeId × Value → H} {P : Program} {W : World} {base : Nat} {spare : Nat → Bool} {held : Bool}
theorem mem_weightsAll {e : TypeId} : ∀ {l : List (DataW H)} {d : DataW H} {n : Nat}, d ∈ l → n ∈ d.weights P e → n ∈ DataW.weightsAll P e l
  | x :: l, d, n, hd, hn => by
    simp only [DataW.weightsAll, List.mem_append]
    rcases List.mem_cons.1 hd with rfl | hd
    · exact .inl hn
    · exact .inr (mem_weightsAll hd hn)
theorem mem_weights_slice {t e : TypeId} {l r : List (DataW H)} {d : DataW H} {n : Nat} (hu : P.underlying t = some (.slice e)) (hd : d ∈ l) (hn : n ∈ d.weights P e) : n ∈ (DataW.slice l r).weights P t := by
  simp only [DataW.weights, hu, List.mem_cons, List.mem_append]
  exact .inr (.inl (mem_weightsAll hd hn))
theorem sized_at {ts : List TypeId} {ds : List (DataW H)} {j : Nat} {t : TypeId} {d : DataW H} (hsz : (DataW.weightsEach P ts ds).all (· ≤ reachBytes) = true) (ht : ts[j]? = some t) (hd : ds[j]? = some d) : ∀ n ∈ d.weights P t, n ≤ reachBytes := fun n hn => by
  simpa using List.all_eq_true.1 hsz _ (DataW.weights_mem_each ht hd n hn)
end
end Go.Proofs.Ytjknpmibdkoklaa.Open
