/- Functions of the given program as Lean functions, each with its contract, and what they answer; words for it. No condition but those of each. -/
import Derived.Test.YtoopddhkjhpbnaaDoorMB2
import Derived.Test.YtoopddhkjhpbnaaDoorMB3
import Derived.Test.YtoopddhkjhpbnaaDoorMB4
import Derived.Lib.OthersKept
import Derived.Laws.RangeAny
import Derived.LoopTactic
import Derived.Test.YtoopddhkjhpbnaaDoorMB1
import Derived.Shelf.Unicode.DecodeAny
set_option maxRecDepth 100000
namespace Go.Proofs.YtoopddhkjhpbnaaDoor.Q
open Go.RowKit Go.Proofs.YtoopddhkjhpbnaaDoorW.PrintWords Go.Proofs.YtoopddhkjhpbnaaDoorW.PrintLast Go.Proofs.YtoopddhkjhpbnaaDoorW.PrintMore
open Aside0 (mk)
def startB (r : Int) : Bool := decide ((65 ≤ r ∧ r ≤ 90) ∨ (97 ≤ r ∧ r ≤ 122) ∨ r = 95 ∨ (913 ≤ r ∧ r ≤ 929) ∨ (931 ≤ r ∧ r ≤ 937) ∨ (945 ≤ r ∧ r ≤ 969))
def restB (r : Int) : Bool := startB r || decide ((48 ≤ r ∧ r ≤ 57) ∨ r = 8242 ∨ (8320 ≤ r ∧ r ≤ 8329))
theorem start_j3 (k : Nat) (r : Int) (b : Bool) : glyph_Start.j3 (k + 1) r b = some (b || decide (945 ≤ r ∧ r ≤ 969)) := by
  simp only [glyph_Start.j3]
  cases b
  · by_cases h1 : r ≥ 945 <;> by_cases h2 : r ≤ 969 <;> simp [h1, h2] <;> omega
  · simp
theorem start_j2 (k : Nat) (r : Int) (b : Bool) : glyph_Start.j2 (k + 2) r b = some (b || decide ((931 ≤ r ∧ r ≤ 937) ∨ (945 ≤ r ∧ r ≤ 969))) := by
  simp only [glyph_Start.j2, start_j3]
  cases b
  · by_cases h1 : r ≥ 931 <;> by_cases h2 : r ≤ 937 <;> simp [h1, h2] <;> omega
  · simp
theorem start_j1 (k : Nat) (r : Int) (b : Bool) : glyph_Start.j1 (k + 3) r b = some (b || decide ((913 ≤ r ∧ r ≤ 929) ∨ (931 ≤ r ∧ r ≤ 937) ∨ (945 ≤ r ∧ r ≤ 969))) := by
  simp only [glyph_Start.j1, start_j2]
  cases b
  · by_cases h1 : r ≥ 913 <;> by_cases h2 : r ≤ 929 <;> simp [h1, h2] <;> omega
  · simp
theorem start_j0 (k : Nat) (r : Int) (b : Bool) : glyph_Start.j0 (k + 4) r b = some (b || decide ((97 ≤ r ∧ r ≤ 122) ∨ r = 95 ∨ (913 ≤ r ∧ r ≤ 929) ∨ (931 ≤ r ∧ r ≤ 937) ∨ (945 ≤ r ∧ r ≤ 969))) := by
  simp only [glyph_Start.j0, start_j1]
  cases b
  · by_cases h1 : r ≥ 97 <;> by_cases h2 : r ≤ 122 <;> by_cases h3 : r = 95 <;> simp [h1, h2, h3] <;> omega
  · simp
theorem start_ev (k : Nat) (r : Int) : glyph_Start.f (k + 4) r = some (startB r) := by
  simp only [glyph_Start.f, start_j0, startB]
  by_cases h1 : r ≥ 65 <;> by_cases h2 : r ≤ 90 <;> simp [h1, h2] <;> omega
theorem start_at (r : Int) : glyph_Start.f 6 r = some (startB r) := start_ev 2 r
theorem rest_ev (k : Nat) (r : Int) : glyph_Rest.f (k + 4) r = some (restB r) := by
  unfold glyph_Rest.f
  rw [start_ev]
  unfold restB
  cases h : startB r
  · simp only [Option.bind_some, Bool.false_or]
    by_cases h1 : r ≥ 48 <;> by_cases h2 : r ≤ 57 <;> by_cases h3 : r = 8242 <;> by_cases h4 : r ≥ 8320 <;> by_cases h5 : r ≤ 8329 <;> simp [h1, h2, h3, h4, h5] <;> omega
  · simp
theorem rest_at (r : Int) : glyph_Rest.f 6 r = some (restB r) := rest_ev 2 r
def reservedB (s : ByteArray) : Bool := (glyph_Reserved.f s).getD false
theorem reserved_at (s : ByteArray) : glyph_Reserved.f s = some (reservedB s) := by
  unfold reservedB glyph_Reserved.f
  repeat' split
  all_goals rfl
theorem decode_pos (s : ByteArray) (p : Nat) (h : p < s.size) : 1 ≤ (Utf8.decode s p).2 := by
  by_cases ha : (s[p]'h).toNat < 128
  · rw [decode_ascii s p h ha]
    exact Nat.le_refl 1
  · exact (decode_high s p h (by omega)).2
def nameGo (s : ByteArray) (pos : Nat) (n : Int) : Bool × Int :=
  if h : pos < s.size then
    if ((pos == 0 && !startB ((Utf8.decode s pos).1 : Nat)) || !restB ((Utf8.decode s pos).1 : Nat)) = true then (false, 0) else nameGo s (pos + (Utf8.decode s pos).2) (wrap64 (n + 1))
  else (true, n)
termination_by s.size - pos
decreasing_by
  have := decode_pos s pos h
  omega
def nameB (s : ByteArray) : Bool := (nameGo s 0 0).1 && decide ((nameGo s 0 0).2 > 0) && decide ((nameGo s 0 0).2 ≤ 16) && !reservedB s
def glyph_Name.f (a0 : ByteArray) : Option Bool := some (nameB a0)
theorem name_end {s : ByteArray} {pos : Nat} {n : Int} (h : ¬ pos < s.size) (e : nameGo s pos n = nameGo s 0 0) : nameGo s 0 0 = (true, n) := by
  rw [← e, nameGo, dif_neg h]
theorem name_bad {s : ByteArray} {pos : Nat} {n : Int} (h : pos < s.size) (e : nameGo s pos n = nameGo s 0 0) (hb : ((pos == 0 && !startB ((Utf8.decode s pos).1 : Nat)) || !restB ((Utf8.decode s pos).1 : Nat)) = true) : nameB s = false := by
  unfold nameB
  rw [← e, nameGo, dif_pos h, if_pos hb]
  rfl
theorem name_go {s : ByteArray} {pos : Nat} {n : Int} (h : pos < s.size) (e : nameGo s pos n = nameGo s 0 0) (hb : ((pos == 0 && !startB ((Utf8.decode s pos).1 : Nat)) || !restB ((Utf8.decode s pos).1 : Nat)) = false) : nameGo s (pos + (Utf8.decode s pos).2) (wrap64 (n + 1)) = nameGo s 0 0 := by
  rw [← e]
  conv => rhs; rw [nameGo, dif_pos h, if_neg (by rw [hb]; decide)]
theorem name_val {s : ByteArray} {m : Int} (e : nameGo s 0 0 = (true, m)) : nameB s = (decide (m > 0) && decide (m ≤ 16) && !reservedB s) := by
  unfold nameB
  rw [e]
  rfl
theorem below_draw0 {B : Nat} {a w w' : World} (h : Below B a w) (hd : Drawn0 w w') : Below B a w' := by
  obtain ⟨n, rfl⟩ := hd
  exact pw_below_drewN h n
set_option maxHeartbeats 4000000 in
theorem glyph_Name.calls (a0 : ByteArray) (r : Bool) (w : World) (h : glyph_Name.f a0 = some r) :
    Calls Tryd.prog 6 #[.string a0] w fun e w' => e = .returned (.bool r) ∧ Below w.heap.size w w' := by
  have HR := mk (Option.some.inj h)
  clear h
  go_enter Tryd.func6, Tryd.ntmps6
  go_wp2
  go_loopw [3] (fun n wr => ∃ (pos : Nat) (m : Int), n = .int .i64 m ∧ Aside0 (nameGo a0 pos m = nameGo a0 0 0) ∧ Aside0 (wr.heap[w.heap.size]? = some (.stringIter a0 pos)) ∧ Aside0 (Below w.heap.size w wr)) (fun _ wr => a0.size - wr.iterPos w.heap.size)
  case atStart => exact ⟨0, 0, rfl, ⟨rfl⟩, ⟨World.iter_heap w a0 0⟩, ⟨below_alloc (Below.refl _ _) _⟩⟩
  case round =>
    obtain ⟨pos, m, rfl, HN, HI, HB⟩ := hrel
    by_cases hp : pos < a0.size
    · have hnx := fun ty => Lib.run_next_any_at (P := Tryd.prog) wr w.heap.size a0 pos ty HI.out hp
      have HI2 := mk (Lib.iterAt_heap wr w.heap.size a0 pos (pos + (Utf8.decode a0 pos).2) HI.out)
      have HB2 := mk (Lib.below_iterAt HB.out (Nat.le_refl _) a0 (pos + (Utf8.decode a0 pos).2))
      have hd := decode_pos a0 pos hp
      have HM := mk (show a0.size - (pos + (Utf8.decode a0 pos).2) < a0.size - pos by omega)
      have HG := mk (name_go hp HN.out)
      have HX := mk (name_bad hp HN.out)
      have HS := mk (start_at ((Utf8.decode a0 pos).1 : Nat))
      have HT := mk (rest_at ((Utf8.decode a0 pos).1 : Nat))
      clear HN HB hd hp
      have hz : (pos == 0) = ((pos : Int) == 0) := by
        by_cases h : pos = 0
        · subst h; rfl
        · rw [beq_eq_false_iff_ne.2 h, beq_eq_false_iff_ne.2 (by omega)]
      rw [hz] at HG HX
      clear hz
      generalize startB ((Utf8.decode a0 pos).1 : Nat) = sb at HS HG HX
      generalize restB ((Utf8.decode a0 pos).1 : Nat) = rb at HT HG HX
      cases hz : ((pos : Int) == 0) <;> cases sb <;> cases rb <;> rw [hz] at HG HX
      all_goals
        go_wp2_with (first | (go_at_call 14; (with_reducible refine (glyph_Start.calls 6 _ _ _ HS.out).mono ?_); rintro e w' ⟨rfl, ⟨nd, rfl⟩⟩) | (go_at_call 13; (with_reducible refine (glyph_Rest.calls 6 _ _ _ HT.out).mono ?_); rintro e w' ⟨rfl, ⟨nd, rfl⟩⟩))
        first
          | (go_ret; exact ⟨by rw [← HR.out, HX.out rfl]; rfl, by repeat (first | exact HB2.out | apply pw_below_drewN)⟩)
          | (go_roundw; (case rel => exact ⟨_, _, rfl, ⟨HG.out rfl⟩, ⟨HI2.out⟩, ⟨by repeat (first | exact HB2.out | apply pw_below_drewN)⟩⟩); (case measure => simpa [World.iterPos, HI.out, HI2.out] using HM.out))
    · have hnx := fun ty => Lib.run_next_end_at (P := Tryd.prog) wr w.heap.size a0 pos ty HI.out hp
      have HE := mk (name_end hp HN.out)
      have HV := mk (reserved_at a0)
      clear hp
      go_wp2_with (go_at_call 8; (with_reducible refine (glyph_Reserved.calls a0 _ _ HV.out).mono ?_); rintro e w' ⟨rfl, HD⟩)
      all_goals go_ret
      · exact ⟨by rw [← HR.out, name_val HE.out, decide_eq_true (show m > 0 by assumption), decide_eq_true (show m ≤ 16 by assumption)]; rfl, below_draw0 HB.out HD⟩
      · exact ⟨by rw [← HR.out, name_val HE.out, decide_eq_true (show m > 0 by assumption), decide_eq_false (show ¬ m ≤ 16 by omega)]; rfl, HB.out⟩
      · exact ⟨by rw [← HR.out, name_val HE.out, decide_eq_false (show ¬ m > 0 by omega)]; rfl, HB.out⟩
end Go.Proofs.YtoopddhkjhpbnaaDoor.Q
set_option maxRecDepth 100000
namespace Go.Proofs.YtoopddhkjhpbnaaDoor.Q
open Go.RowKit Go.Proofs.YtoopddhkjhpbnaaDoorW.PrintWords Go.Proofs.YtoopddhkjhpbnaaDoorW.PrintLast Go.Proofs.YtoopddhkjhpbnaaDoorW.PrintMore
open Aside0 (mk)
def goodGo (s : ByteArray) (pos : Nat) : Nat :=
  if h : pos < s.size then (if (Utf8.decode s pos).1 = 65533 ∧ (Utf8.decode s pos).2 ≤ 1 then pos else goodGo s (pos + (Utf8.decode s pos).2)) else s.size
termination_by s.size - pos
decreasing_by
  have := decode_pos s pos h
  omega
theorem get_cut (s : ByteArray) (p i : Nat) : (s.extract p s.size).get! i = s.get! (p + i) := by
  have e1 : ∀ (t : ByteArray) (j : Nat), t.get! j = t.data.toList.getD j default := fun t j => by
    rcases t with ⟨a⟩
    show a[j]! = _
    rw [List.getD_eq_getElem?_getD, Array.getElem?_toList, Array.getElem!_eq_getD, Array.getD_eq_getD_getElem?]
  rw [e1, e1, List.getD_eq_getElem?_getD, List.getD_eq_getElem?_getD]
  have e2 : (s.extract p s.size).data.toList = s.data.toList.drop p := by
    rcases s with ⟨a⟩
    simp only [ByteArray.extract, ByteArray.copySlice, ByteArray.size]
    simp
    exact List.take_of_length_le (by simp)
  rw [e2, List.getElem?_drop]
theorem decode_cut (s : ByteArray) (p : Nat) (h : p < s.size) : Lib.decodeGo (s.extract p s.size) = Utf8.decode s p := by
  have hsz : (s.extract p s.size).size = s.size - p := by simp [ByteArray.size_extract]
  unfold Lib.decodeGo
  rw [if_neg (by omega), Lib.decode_at, Lib.decode_at, hsz, get_cut, get_cut, get_cut, get_cut]
  simp only [Nat.sub_zero, Nat.add_zero, Nat.zero_add]
set_option maxHeartbeats 4000000 in
theorem glyph_Good.calls (a0 : ByteArray) (w : World) (hT : Lib.Utf8Tabs 0 1 w) :
    Calls Tryd.prog 10 #[.string a0] w fun e w' => e = .returned (.int .i64 (goodGo a0 0 : Nat)) ∧ Below w.heap.size w w' := by
  have HT := mk hT
  clear hT
  go_enter Tryd.func10, Tryd.ntmps10
  go_wp2
  go_loopw [] (fun wr => ∃ (pos : Nat), Aside0 (goodGo a0 pos = goodGo a0 0) ∧ Aside0 (wr.heap[w.heap.size]? = some (.stringIter a0 pos)) ∧ Aside0 (Below w.heap.size w wr)) (fun wr => a0.size - wr.iterPos w.heap.size)
  case atStart => exact ⟨0, ⟨rfl⟩, ⟨World.iter_heap w a0 0⟩, ⟨below_alloc (Below.refl _ _) _⟩⟩
  case round =>
    obtain ⟨pos, HN, HI, HB⟩ := hrel
    by_cases hp : pos < a0.size
    · have hnx := fun ty => Lib.run_next_any_at (P := Tryd.prog) wr w.heap.size a0 pos ty HI.out hp
      have HI2 := mk (Lib.iterAt_heap wr w.heap.size a0 pos (pos + (Utf8.decode a0 pos).2) HI.out)
      have HB2 := mk (Lib.below_iterAt HB.out (Nat.le_refl _) a0 (pos + (Utf8.decode a0 pos).2))
      have hd := decode_pos a0 pos hp
      have HM := mk (show a0.size - (pos + (Utf8.decode a0 pos).2) < a0.size - pos by omega)
      have HX := mk (show (Utf8.decode a0 pos).1 = 65533 ∧ (Utf8.decode a0 pos).2 ≤ 1 → goodGo a0 0 = pos from fun h => by rw [← HN.out, goodGo, dif_pos hp, if_pos h])
      have HG := mk (show ¬ ((Utf8.decode a0 pos).1 = 65533 ∧ (Utf8.decode a0 pos).2 ≤ 1) → goodGo a0 (pos + (Utf8.decode a0 pos).2) = goodGo a0 0 from fun h => by rw [← HN.out]; conv => rhs; rw [goodGo, dif_pos hp, if_neg h])
      have HD := mk (decode_cut a0 pos hp)
      have HS := mk (show ((pos : Int) ≤ (a0.size : Int)) by omega)
      have hs1 : (0 : Int) ≤ (pos : Int) := by omega
      have hs2 : (pos : Int) ≤ (a0.size : Int) := by omega
      clear HN HB hd hp
      by_cases hr : (Utf8.decode a0 pos).1 = 65533
      · have hrb : ((((Utf8.decode a0 pos).1 : Nat) : Int) == 65533) = true := beq_iff_eq.mpr (by omega)
        by_cases hw : (Utf8.decode a0 pos).2 ≤ 1
        · have hwb : decide ((((Utf8.decode a0 pos).2 : Nat) : Int) ≤ 1) = true := decide_eq_true (by omega)
          have HE := mk (HX.out ⟨hr, hw⟩)
          clear hr hw HX HG
          go_wp2_with (go_at_call 19; (with_reducible refine (Tryd.utf8_DecodeRuneInString _ _ (Utf8Tabs_below HT.out HB2.out)).mono ?_); rintro e w' ⟨rfl, hb⟩; (try rw [Int.toNat_natCast]); rw [HD.out]; have HB3 := mk (below_step HB2.out hb); clear hb)
          go_ret
          exact ⟨by rw [HE.out]; rfl, HB3.out⟩
        · have hwb : decide ((((Utf8.decode a0 pos).2 : Nat) : Int) ≤ 1) = false := decide_eq_false (by omega)
          have HE := mk (HG.out (fun h => hw h.2))
          clear hr hw HX HG
          go_wp2_with (go_at_call 19; (with_reducible refine (Tryd.utf8_DecodeRuneInString _ _ (Utf8Tabs_below HT.out HB2.out)).mono ?_); rintro e w' ⟨rfl, hb⟩; (try rw [Int.toNat_natCast]); rw [HD.out]; have HB3 := mk (below_step HB2.out hb); have HI3 := mk (blk_below HI2.out hb); clear hb)
          go_roundw
          case rel => exact ⟨_, ⟨HE.out⟩, ⟨HI3.out⟩, ⟨HB3.out⟩⟩
          case measure => simpa [World.iterPos, HI.out, HI3.out] using HM.out
      · have hrb : ((((Utf8.decode a0 pos).1 : Nat) : Int) == 65533) = false := beq_eq_false_iff_ne.mpr (by omega)
        have HE := mk (HG.out (fun h => hr h.1))
        clear hr HX HG
        go_wp2
        go_roundw
        case rel => exact ⟨_, ⟨HE.out⟩, ⟨HI2.out⟩, ⟨by repeat (first | exact HB2.out | apply pw_below_drewN)⟩⟩
        case measure => simpa [World.iterPos, HI.out, HI2.out] using HM.out
    · have hnx := fun ty => Lib.run_next_end_at (P := Tryd.prog) wr w.heap.size a0 pos ty HI.out hp
      have HE := mk (show goodGo a0 0 = a0.size by rw [← HN.out, goodGo, dif_neg hp])
      clear hp HN
      go_wp2
      go_ret
      exact ⟨by rw [HE.out]; rfl, HB.out⟩
end Go.Proofs.YtoopddhkjhpbnaaDoor.Q
set_option maxRecDepth 100000
namespace Go.Proofs.YtoopddhkjhpbnaaDoor.Q
open Go.RowKit Go.Proofs.YtoopddhkjhpbnaaDoorW.PrintWords Go.Proofs.YtoopddhkjhpbnaaDoorW.PrintLast Go.Proofs.YtoopddhkjhpbnaaDoorW.PrintMore
open Aside0 (mk)
def charsGo (s : ByteArray) (pos : Nat) (n : Int) : Int :=
  if h : pos < s.size then charsGo s (pos + (Utf8.decode s pos).2) (wrap64 (n + 1)) else n
termination_by s.size - pos
decreasing_by
  have := decode_pos s pos h
  omega
def glyph_At.f (a0 : ByteArray) (a1 : Int) : Option (Int × Int × Int) := if 0 ≤ a1 ∧ a1 ≤ (a0.size : Int) then some (a1, charsGo (a0.extract 0 a1.toNat) 0 0, 0) else some (0, 0, 2)
theorem blk_or_iter {w : World} {g : Nat} {o : Obj} (h : w.heap[g]? = some o) {p : Addr} (hp : g ≠ p.block) (u : Value) : (w.setCell p u).heap[g]? = some o := (Below.heap_setCell w p u g hp).trans h
set_option maxHeartbeats 4000000 in
theorem glyph_At.calls (a0 : ByteArray) (a1 : Int) (r1 r2 r3 : Int) (w : World) (h : glyph_At.f a0 a1 = some (r1, r2, r3)) :
    Calls Tryd.prog 12 #[.string a0, .int .i64 a1] w fun e w' => e = .returned (.tuple #[.agg #[.int .i64 r1, .int .i64 r2], .int .i64 r3]) ∧ Below w.heap.size w w' := by
  by_cases hr : 0 ≤ a1 ∧ a1 ≤ (a0.size : Int)
  · unfold glyph_At.f at h
    rw [if_pos hr] at h
    obtain ⟨h0, h1⟩ := hr
    have HR := mk h
    clear h
    have q0 : decide (a1 < 0) = false := decide_eq_false (by omega)
    have q1 : decide ((a0.size : Int) < a1) = false := decide_eq_false (by omega)
    go_enter Tryd.func12, Tryd.ntmps12
    go_wp2
    go_loopw [] (fun wr => ∃ (pos : Nat) (m : Int), Aside0 (charsGo (a0.extract 0 a1.toNat) pos m = charsGo (a0.extract 0 a1.toNat) 0 0) ∧ Aside0 (wr.heap[w.heap.size + 1 + 1]? = some (.stringIter (a0.extract 0 a1.toNat) pos)) ∧ Aside0 (wr.heap[w.heap.size + 1]? = some (.cells #[.int .i64 a1, .int .i64 m] 26 (0, 0))) ∧ Aside0 (wr.heap[w.heap.size]? = some (.cells #[.int .i64 0, .int .i64 0] 26 (0, 0))) ∧ Aside0 (Below w.heap.size w wr)) (fun wr => (a0.extract 0 a1.toNat).size - wr.iterPos (w.heap.size + 1 + 1))
    case atStart => exact ⟨0, 0, ⟨rfl⟩, ⟨by have := World.iter_heap ((w.alloc (.cells #[.int .i64 0, .int .i64 0] 26)).alloc (.cells #[.int .i64 a1, .int .i64 0] 26)) (a0.extract 0 a1.toNat) 0; simpa using this⟩, ⟨blk_alloc (by have := blk_new (w.alloc (.cells #[.int .i64 0, .int .i64 0] 26)) (.cells #[.int .i64 a1, .int .i64 0] 26); simpa using this) _⟩, ⟨blk_alloc (blk_alloc (blk_new w _) _) _⟩, ⟨below_alloc (below_alloc (below_alloc (Below.refl _ _) _) _) _⟩⟩
    case round =>
      obtain ⟨pos, m, HN, HI, HC, HC0, HB⟩ := hrel
      generalize a0.extract 0 a1.toNat = s at HN HI HR
      by_cases hp : pos < s.size
      · have hnx := fun ty => Lib.run_next_any_at (P := Tryd.prog) wr (w.heap.size + 1 + 1) s pos ty HI.out hp
        have HI2 := mk (Lib.iterAt_heap wr (w.heap.size + 1 + 1) s pos (pos + (Utf8.decode s pos).2) HI.out)
        have HB2 := mk (Lib.below_iterAt HB.out (show w.heap.size ≤ w.heap.size + 1 + 1 by omega) s (pos + (Utf8.decode s pos).2))
        have HC2 := mk ((Lib.iterAt_other wr (w.heap.size + 1 + 1) (w.heap.size + 1) s (pos + (Utf8.decode s pos).2) (by omega)).trans HC.out)
        have HD2 := mk ((Lib.iterAt_other wr (w.heap.size + 1 + 1) w.heap.size s (pos + (Utf8.decode s pos).2) (by omega)).trans HC0.out)
        have hc : (wr.iterAt (w.heap.size + 1 + 1) s (pos + (Utf8.decode s pos).2)).cell? ⟨w.heap.size + 1, 1, none⟩ = some (.int .i64 m) := (blk_cell HC2.out 1).trans rfl
        have hf : (wr.iterAt (w.heap.size + 1 + 1) s (pos + (Utf8.decode s pos).2)).frozen? ⟨w.heap.size + 1, 1, none⟩ = false := blk_frozen HC2.out 1
        have HM := mk (show s.size - (pos + (Utf8.decode s pos).2) < s.size - pos by have := decode_pos s pos hp; omega)
        have HN2 := mk (show charsGo s (pos + (Utf8.decode s pos).2) (wrap64 (m + 1)) = charsGo s 0 0 by rw [← HN.out]; conv => rhs; rw [charsGo, dif_pos hp])
        clear hp HN
        go_wp2
        go_roundw
        case rel => exact ⟨_, _, HN2, ⟨blk_or_iter HI2.out (by simp) _⟩, ⟨blk_put HC2.out 1 _ rfl⟩, ⟨blk_far HD2.out (by simp) _⟩, ⟨below_set HB2.out (by omega)⟩⟩
        case measure => simpa [World.iterPos, HI.out, blk_or_iter HI2.out (show w.heap.size + 1 + 1 ≠ (⟨w.heap.size + 1, 1, none⟩ : Addr).block by simp)] using HM.out
      · have hnx := fun ty => Lib.run_next_end_at (P := Tryd.prog) wr (w.heap.size + 1 + 1) s pos ty HI.out hp
        have hc0 : wr.cell? ⟨w.heap.size + 1, 0, none⟩ = some (.int .i64 a1) := (blk_cell HC.out 0).trans rfl
        have hc1 : wr.cell? ⟨w.heap.size + 1, 1, none⟩ = some (.int .i64 m) := (blk_cell HC.out 1).trans rfl
        have hd0 : wr.cell? ⟨w.heap.size, 0, none⟩ = some (.int .i64 0) := (blk_cell HC0.out 0).trans rfl
        have hd1 : wr.cell? ⟨w.heap.size, 1, none⟩ = some (.int .i64 0) := (blk_cell HC0.out 1).trans rfl
        have hf0 : wr.frozen? ⟨w.heap.size, 0, none⟩ = false := blk_frozen HC0.out 0
        have hf1 : wr.frozen? ⟨w.heap.size, 1, none⟩ = false := blk_frozen HC0.out 1
        have HE : charsGo s 0 0 = m := by rw [← HN.out, charsGo, dif_neg hp]
        have HR2 := HR.out
        rw [HE] at HR2
        injection HR2 with HR2
        injection HR2 with e1 HR2
        injection HR2 with e2 e3
        subst e1 e2 e3
        clear hp HN HE HR
        go_wp2
        refine bodyPost_ret (results_ct rfl _ _ w.heap.size 26 #[.int .i64 a1, .int .i64 m] (0, 0) _ rfl (blk_put (blk_put HC0.out 0 (.int .i64 a1) rfl) 1 (.int .i64 m) rfl) Tryd.underlying26 rfl (by kernel_rfl)) rfl ⟨rfl, below_set (below_set HB.out (Nat.le_refl _)) (Nat.le_refl _)⟩
  · unfold glyph_At.f at h
    rw [if_neg hr] at h
    injection h with h
    injection h with e1 h
    injection h with e2 e3
    subst e1 e2 e3
    by_cases h0 : a1 < 0
    · have q0 : decide (a1 < 0) = true := decide_eq_true h0
      clear hr
      go_enter Tryd.func12, Tryd.ntmps12
      go_wp2
      refine bodyPost_ret (results_ct rfl _ _ w.heap.size 26 #[.int .i64 0, .int .i64 0] (0, 0) _ rfl (blk_new w _) Tryd.underlying26 rfl (by kernel_rfl)) rfl ⟨rfl, below_alloc (Below.refl _ _) _⟩
    · have q0 : decide (a1 < 0) = false := decide_eq_false h0
      have q1 : decide ((a0.size : Int) < a1) = true := decide_eq_true (by omega)
      clear hr h0
      go_enter Tryd.func12, Tryd.ntmps12
      go_wp2
      refine bodyPost_ret (results_ct rfl _ _ w.heap.size 26 #[.int .i64 0, .int .i64 0] (0, 0) _ rfl (blk_new w _) Tryd.underlying26 rfl (by kernel_rfl)) rfl ⟨rfl, below_alloc (Below.refl _ _) _⟩
end Go.Proofs.YtoopddhkjhpbnaaDoor.Q
