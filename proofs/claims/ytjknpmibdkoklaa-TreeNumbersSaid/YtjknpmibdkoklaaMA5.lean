/- Functions of the given program as Lean functions, each with its contract, and what they answer; words for it. No condition but those of each. -/
import Derived.Test.YtjknpmibdkoklaaMA3
import Derived.Test.YtjknpmibdkoklaaMA4
import Derived.LoopTactic
import Derived.Shelf.Abstract
import Derived.Test.YtjknpmibdkoklaaMA1
import Derived.Shelf.Small.Bits
import Derived.Shelf.Strconv.Itoa0
import Derived.Shelf.Sort.Plain
import Derived.Shelf.Slices.Turned
import Derived.Ground.Names2Prog
import Derived.Shelf.Slices.Clone
import Derived.Shelf.Slices.CompactS
import Derived.Shelf.Slices.Cells
import Derived.Shelf.Slices.In.SortNone
import Derived.Test.YtjknpmibdkoklaaProg
import Derived.Test.YtjknpmibdkoklaaMA0
import Derived.Sort.OwnSorted
import Derived.Lib.RowBridge
set_option maxRecDepth 100000
namespace Go.Proofs.Ytjknpmibdkoklaa.Q
open Go.RowKit Go.Proofs.YtjknpmibdkoklaaW.PrintWords Go.Proofs.YtjknpmibdkoklaaW.PrintLast Go.Proofs.YtjknpmibdkoklaaW.PrintMore
/-- Is a formula's own node well made? -/
def okF (t : S39) : Bool := (tree_formula.f 6 t.f0 t.f1 t.f2 t.f3 t.f4).getD false
theorem some_getD {o : Option Bool} (h : o.isSome = true) : o = some (o.getD false) := by cases o <;> simp_all
theorem j4_some (a0 : Bool) (a1 : Int) (a2 : Int) (a3 : Bool) (a4 : Int) (a5 : ByteArray) (a6 : Int) (a7 : List S66) (a8 : List S39) : (tree_formula.j4 2 a0 a1 a2 a3 a4 a5 a6 a7 a8).isSome = true := by
  simp only [tree_formula.j4, glyph_Name.f, Option.bind_some]
  repeat' split
  all_goals first | rfl
theorem j3_some (a0 : Bool) (a1 : Int) (a2 : Int) (a3 : Bool) (a4 : Int) (a5 : ByteArray) (a6 : Int) (a7 : List S66) (a8 : List S39) : (tree_formula.j3 3 a0 a1 a2 a3 a4 a5 a6 a7 a8).isSome = true := by
  simp only [tree_formula.j3, glyph_Name.f, Option.bind_some]
  repeat' split
  all_goals first | rfl | exact j4_some ..
theorem j2_some (a0 : Bool) (a1 : Int) (a2 : Int) (a3 : Bool) (a4 : Int) (a5 : ByteArray) (a6 : Int) (a7 : List S66) (a8 : List S39) : (tree_formula.j2 4 a0 a1 a2 a3 a4 a5 a6 a7 a8).isSome = true := by
  simp only [tree_formula.j2, glyph_Name.f, Option.bind_some]
  repeat' split
  all_goals first | rfl | exact j3_some ..
theorem j1_some (a0 : Bool) (a1 : Int) (a2 : Int) (a3 : Bool) (a4 : Int) (a5 : ByteArray) (a6 : Int) (a7 : List S66) (a8 : List S39) : (tree_formula.j1 5 a0 a1 a2 a3 a4 a5 a6 a7 a8).isSome = true := by
  simp only [tree_formula.j1, glyph_Name.f, Option.bind_some]
  repeat' split
  all_goals first | rfl | exact j2_some ..
theorem j0_some (a0 : Bool) (a1 : Int) (a2 : ByteArray) (a3 : Int) (a4 : List S66) (a5 : List S39) : (tree_formula.j0 6 a0 a1 a2 a3 a4 a5).isSome = true := by
  simp only [tree_formula.j0, glyph_Name.f, Option.bind_some]
  repeat' split
  all_goals first | rfl | exact j1_some ..
theorem okF_at (t : S39) : tree_formula.f 6 t.f0 t.f1 t.f2 t.f3 t.f4 = some (okF t) := by
  refine some_getD ?_
  unfold tree_formula.f
  split
  all_goals exact j0_some ..
mutual
/-- What the nodes of a formula do to size, depth and error. -/
def measF : S39 → Int → Int × Int × Int → Int × Int × Int
  | ⟨a, s, b, l, q⟩, dep, m => if (nodeM dep (okF ⟨a, s, b, l, q⟩) m).2.2 = 0 then (if (measTs l (wrap64 (dep + 1)) (nodeM dep (okF ⟨a, s, b, l, q⟩) m)).2.2 = 0 then measFs q (wrap64 (dep + 1)) (measTs l (wrap64 (dep + 1)) (nodeM dep (okF ⟨a, s, b, l, q⟩) m)) else measTs l (wrap64 (dep + 1)) (nodeM dep (okF ⟨a, s, b, l, q⟩) m)) else nodeM dep (okF ⟨a, s, b, l, q⟩) m
def measFs : List S39 → Int → Int × Int × Int → Int × Int × Int
  | [], _, m => m
  | t :: l, dep, m => if (measF t dep m).2.2 = 0 then measFs l dep (measF t dep m) else measF t dep m
end
theorem measF_eq (t : S39) (dep : Int) (m : Int × Int × Int) : measF t dep m = if (nodeM dep (okF t) m).2.2 = 0 then (if (measTs t.f3 (wrap64 (dep + 1)) (nodeM dep (okF t) m)).2.2 = 0 then measFs t.f4 (wrap64 (dep + 1)) (measTs t.f3 (wrap64 (dep + 1)) (nodeM dep (okF t) m)) else measTs t.f3 (wrap64 (dep + 1)) (nodeM dep (okF t) m)) else nodeM dep (okF t) m := by
  cases t; rw [measF]
theorem measFs_drop {l : List S39} {i : Nat} (h : i < l.length) (dep : Int) (m : Int × Int × Int) : measFs (l.drop i) dep m = if (measF l[i] dep m).2.2 = 0 then measFs (l.drop (i + 1)) dep (measF l[i] dep m) else measF l[i] dep m := by
  rw [List.drop_eq_getElem_cons h, measFs]
set_option maxHeartbeats 8000000 in
theorem walkF_calls : ∀ (n : Nat) (t : S39), SizeOf.sizeOf t < n → ∀ (A : Option Addr) (c0 : Nat) (B : Option Addr) (c1 : Nat) (dep : Int) (m : Int × Int × Int) (w0 w : World) (c g : Nat), w0.heap.size ≤ g → Going w0 w w c g m → Kd.C k66 w0 A t.f3.length t.f3 → t.f3.length ≤ c0 → Kd.C k39 w0 B t.f4.length t.f4 → t.f4.length ≤ c1 →
    Calls Try.prog 118 #[.func (.func 161) #[] #[.pointer (some ⟨c, 0, none⟩)], .agg #[.int .i64 t.f0, .string t.f1, .int .i64 t.f2, .slice A t.f3.length c0, .slice B t.f4.length c1], .int .i64 dep] w fun en w' => en = .returned (.bool ((measF t dep m).2.2 == 0)) ∧ Going w0 w w' c g (measF t dep m) := by
  intro n
  induction n with
  | zero => exact fun t h => absurd h (Nat.not_lt_zero _)
  | succ n ih =>
  intro t ht A c0 B c1 dep m w0 w c g hwg hG hr hc0 hr4 hc1
  have hu66 := Try.underlying66
  have hu39 := Try.underlying39
  have HR := Aside0.mk hr
  have HC := Aside0.mk hc0
  have HR4 := Aside0.mk hr4
  have HC4 := Aside0.mk hc1
  have HG := Aside0.mk hG
  have HT := Aside0.mk ht
  clear hr hc0 hr4 hc1 hG ht
  have hok := Aside0.mk (okF_at t)
  rw [measF_eq]
  have hlen := HR.out.2.1
  have hlen4 := HR4.out.2.1
  generalize hN : nodeM dep (okF t) m = nm
  have HN := Aside0.mk hN
  clear hN
  obtain ⟨s1, d1, e1⟩ := nm
  by_cases he : e1 = 0
  · subst he
    rw [if_pos rfl]
    generalize hRR : (if (measTs t.f3 (wrap64 (dep + 1)) (s1, d1, 0)).2.2 = 0 then measFs t.f4 (wrap64 (dep + 1)) (measTs t.f3 (wrap64 (dep + 1)) (s1, d1, 0)) else measTs t.f3 (wrap64 (dep + 1)) (s1, d1, 0)) = R
    have HRR := Aside0.mk hRR
    clear hRR
    go_enter Try.func118, Try.ntmps118
    go_wp2_with (first | ((with_reducible refine gate_dst (N := 4) rfl ?_); refine box_event ?hg (N := 4) ?hd (cs := #[.int .i64 t.f0, .string t.f1, .int .i64 t.f2, .slice A t.f3.length c0, .slice B t.f4.length c1]) (t := 39) ?hr ?_; (case hd => rfl); (case hg => rfl); (case hr => first | (go_simp; done) | (go_simp; rfl)); intro gb hgb w1 hbox hb; have HG1 := Aside0.mk (HG.out.then_ hb); have BK := Aside0.mk hbox; clear HG hb hbox hgb; have q0 : w1.cell? ⟨gb, 0, none⟩ = some (.int .i64 t.f0) := (blk_cell BK.out 0).trans rfl; have q1 : w1.cell? ⟨gb, 1, none⟩ = some (.string t.f1) := (blk_cell BK.out 1).trans rfl; have q2 : w1.cell? ⟨gb, 2, none⟩ = some (.int .i64 t.f2) := (blk_cell BK.out 2).trans rfl; have q3 : w1.cell? ⟨gb, 3, none⟩ = some (.slice A t.f3.length c0) := (blk_cell BK.out 3).trans rfl; have q4 : w1.cell? ⟨gb, 4, none⟩ = some (.slice B t.f4.length c1) := (blk_cell BK.out 4).trans rfl) | (go_at_call 162; (with_reducible refine (tree_formula.calls 6 t.f0 t.f1 t.f2 A c0 t.f3 B c1 t.f4 (okF t) _ ?side1 ?side2 ?side3 ?side4 hok.out).mono ?_); (case side1 => exact Kd.C_below HR.out HG1.out.below); (case side2 => exact HC.out); (case side3 => exact Kd.C_below HR4.out HG1.out.below); (case side4 => exact HC4.out); rintro e w2 ⟨rfl, hb⟩; have HG2 := Aside0.mk (HG1.out.then_ hb); have BK2 := Aside0.mk (blk_below BK.out hb); clear HG1 BK hb) | (go_at_call 161; refine (met_calls c g m.1 m.2.1 m.2.2 dep (okF t) w0 _ hwg HG2.out.below HG2.out.st HG2.out.cl).mono ?_; rw [show ((m.1, m.2.1, m.2.2) : Int × Int × Int) = m from rfl, HN.out]; rintro e w3 ⟨rfl, hs, hk, hb⟩; have BK3 := Aside0.mk (hk.blk BK2.out (blk_ne BK2.out HG2.out.st (by decide)) (by simp)); have HG3 := Aside0.mk (HG2.out.step hs hk hb); clear HG2 BK2 hs hk hb; have r3 : w3.cell? ⟨gb, 3, none⟩ = some (.slice A t.f3.length c0) := (blk_cell BK3.out 3).trans rfl))
    go_loopg [20] t.f3.length (fun gq v wr => ∃ (i : Nat) (mm : Int × Int × Int), v = .int .i64 i ∧ Aside0 (i ≤ t.f3.length) ∧ Aside0 (t.f3.length - i ≤ gq) ∧ Aside0 (measTs (t.f3.drop i) (wrap64 (dep + 1)) mm = measTs t.f3 (wrap64 (dep + 1)) (s1, d1, 0)) ∧ Aside0 (mm.2.2 = 0) ∧ Aside0 (wr.heap[gb]? = some (.cells #[.int .i64 t.f0, .string t.f1, .int .i64 t.f2, .slice A t.f3.length c0, .slice B t.f4.length c1] 39 (0, 0))) ∧ Aside0 (Going w0 w wr c g mm))
    case atStart => exact ⟨0, (s1, d1, 0), rfl, ⟨Nat.zero_le _⟩, ⟨by omega⟩, ⟨by rw [List.drop_zero]⟩, ⟨rfl⟩, ⟨BK3.out⟩, ⟨HG3.out⟩⟩
    case round =>
      obtain ⟨i, mm, rfl, HI, HQ, HM, HZ, BK, HG⟩ := hrel
      by_cases hi : i < t.f3.length
      · have hiz : (i : Int) < (t.f3.length : Int) := by omega
        have hi0 : (0 : Int) ≤ (i : Int) := by omega
        obtain ⟨ad, A2, c2, ead, hx0, hx1, hx2, hx3, hl3, hi3⟩ := at_T66 HR.out (i : Int) hi0 hiz
        cases ead
        have hx : rd_T66 t.f3 (i : Int) = t.f3[i] := by simp [rd_T66, hi]
        rw [hx] at hx0 hx1 hx2 hx3 hl3 hi3
        rw [Int.toNat_natCast] at hx0 hx1 hx2 hx3
        have hB := HG.out.below
        replace hx0 := (hB.cell (World.block_lt_of_cell? _ _ hx0)).trans hx0
        replace hx1 := (hB.cell (World.block_lt_of_cell? _ _ hx1)).trans hx1
        replace hx2 := (hB.cell (World.block_lt_of_cell? _ _ hx2)).trans hx2
        replace hx3 := (hB.cell (World.block_lt_of_cell? _ _ hx3)).trans hx3
        have Hhl3 := Aside0.mk hl3
        have Hhi3 := Aside0.mk hi3
        have HMD := Aside0.mk ((measTs_drop hi (wrap64 (dep + 1)) mm).symm.trans HM.out)
        clear hl3 hi3 hB hx HM
        generalize t.f3[i] = y at hx0 hx1 hx2 hx3 Hhl3 Hhi3 HMD
        by_cases hy : (measT y (wrap64 (dep + 1)) mm).2.2 = 0
        · have hyb : ((measT y (wrap64 (dep + 1)) mm).2.2 == 0) = true := beq_iff_eq.2 hy
          have HY := Aside0.mk hy
          rw [if_pos hy] at HMD
          clear hy
          go_wp2_with (first | ((with_reducible refine gate_dst (N := 8) rfl ?_); refine box_event ?hg (N := 8) ?hd (cs := #[.int .i64 0, .int .i64 0, .string (⟨#[]⟩ : ByteArray), .slice none 0 0]) (t := 66) ?hr ?_; (case hd => rfl); (case hg => rfl); (case hr => first | (go_simp; done) | (go_simp; rfl)); intro gb2 hgb2 w4 hbox hb; have BK4 := Aside0.mk hbox; have HB4 := Aside0.mk hb; have GE4 := Aside0.mk (Nat.le_of_eq hgb2.symm); clear hb hbox hgb2; have z0 : w4.cell? ⟨gb2, 0, none⟩ = some (.int .i64 0) := (blk_cell BK4.out 0).trans rfl; have z1 : w4.cell? ⟨gb2, 1, none⟩ = some (.int .i64 0) := (blk_cell BK4.out 1).trans rfl; have z2 : w4.cell? ⟨gb2, 2, none⟩ = some (.string (⟨#[]⟩ : ByteArray)) := (blk_cell BK4.out 2).trans rfl; have z3 : w4.cell? ⟨gb2, 3, none⟩ = some (.slice none 0 0) := (blk_cell BK4.out 3).trans rfl; have y0 := blk_frozen BK4.out 0; have y1 := blk_frozen BK4.out 1; have y2 := blk_frozen BK4.out 2; have y3 := blk_frozen BK4.out 3) | (go_at_call 126; refine (walkT_calls _ y (Nat.lt_succ_self _) A2 c2 (wrap64 (dep + 1)) mm w0 _ c g hwg ?s1 Hhi3.out Hhl3.out).mono ?_; (case s1 => exact (HG.out.then_ (by repeat (first | (with_reducible exact HB4.out) | (with_reducible refine below_set ?_ GE4.out)))).self); rw [hyb]; rintro e w5 ⟨rfl, hg5⟩; have HG5 := Aside0.mk ((HG.out.then_ (by repeat (first | (with_reducible exact HB4.out) | (with_reducible refine below_set ?_ GE4.out)))).step hg5.st hg5.keep hg5.below); have BK5 := Aside0.mk (hg5.keep.blk (blk_below BK.out (by repeat (first | (with_reducible exact HB4.out) | (with_reducible refine below_set ?_ GE4.out)))) (blk_ne BK.out HG.out.st (by decide)) (by simp)); clear hg5))
          go_roundg (t.f3.length - (i + 1))
          case measure => have := HQ.out; omega
          case rel => exact ⟨i + 1, _, by first | rfl | rw [show wrap64 ((i : Int) + 1) = ((i + 1 : Nat) : Int) from by unfold wrap64; omega], ⟨by omega⟩, ⟨by omega⟩, HMD, HY, BK5, HG5⟩
        · have hyb : ((measT y (wrap64 (dep + 1)) mm).2.2 == 0) = false := beq_eq_false_iff_ne.2 hy
          rw [if_neg hy] at HMD
          have HRS := Aside0.mk (show measT y (wrap64 (dep + 1)) mm = R by rw [← HRR.out, if_neg (by rw [← HMD.out]; exact hy), HMD.out])
          clear hy
          go_wp2_with (first | ((with_reducible refine gate_dst (N := 8) rfl ?_); refine box_event ?hg (N := 8) ?hd (cs := #[.int .i64 0, .int .i64 0, .string (⟨#[]⟩ : ByteArray), .slice none 0 0]) (t := 66) ?hr ?_; (case hd => rfl); (case hg => rfl); (case hr => first | (go_simp; done) | (go_simp; rfl)); intro gb2 hgb2 w4 hbox hb; have BK4 := Aside0.mk hbox; have HB4 := Aside0.mk hb; have GE4 := Aside0.mk (Nat.le_of_eq hgb2.symm); clear hb hbox hgb2; have z0 : w4.cell? ⟨gb2, 0, none⟩ = some (.int .i64 0) := (blk_cell BK4.out 0).trans rfl; have z1 : w4.cell? ⟨gb2, 1, none⟩ = some (.int .i64 0) := (blk_cell BK4.out 1).trans rfl; have z2 : w4.cell? ⟨gb2, 2, none⟩ = some (.string (⟨#[]⟩ : ByteArray)) := (blk_cell BK4.out 2).trans rfl; have z3 : w4.cell? ⟨gb2, 3, none⟩ = some (.slice none 0 0) := (blk_cell BK4.out 3).trans rfl; have y0 := blk_frozen BK4.out 0; have y1 := blk_frozen BK4.out 1; have y2 := blk_frozen BK4.out 2; have y3 := blk_frozen BK4.out 3) | (go_at_call 126; refine (walkT_calls _ y (Nat.lt_succ_self _) A2 c2 (wrap64 (dep + 1)) mm w0 _ c g hwg ?s1 Hhi3.out Hhl3.out).mono ?_; (case s1 => exact (HG.out.then_ (by repeat (first | (with_reducible exact HB4.out) | (with_reducible refine below_set ?_ GE4.out)))).self); rw [hyb]; rintro e w5 ⟨rfl, hg5⟩; have HG5 := Aside0.mk ((HG.out.then_ (by repeat (first | (with_reducible exact HB4.out) | (with_reducible refine below_set ?_ GE4.out)))).step hg5.st hg5.keep hg5.below); have BK5 := Aside0.mk (hg5.keep.blk (blk_below BK.out (by repeat (first | (with_reducible exact HB4.out) | (with_reducible refine below_set ?_ GE4.out)))) (blk_ne BK.out HG.out.st (by decide)) (by simp)); clear hg5))
          go_ret
          exact ⟨by rw [← HRS.out, hyb]; rfl, by rw [← HRS.out]; exact HG5.out⟩
      · have hiz : ¬ (i : Int) < (t.f3.length : Int) := by omega
        have hil : i = t.f3.length := by have := HI.out; omega
        have HE := Aside0.mk (show mm = measTs t.f3 (wrap64 (dep + 1)) (s1, d1, 0) by rw [← HM.out, hil, List.drop_length]; rfl)
        clear hil HM hi
        have r4 : wr.cell? ⟨gb, 4, none⟩ = some (.slice B t.f4.length c1) := (blk_cell BK.out 4).trans rfl
        have hz1 : (measTs t.f3 (wrap64 (dep + 1)) (s1, d1, 0)).2.2 = 0 := by rw [← HE.out]; exact HZ.out
        have HRF := Aside0.mk (show R = measFs t.f4 (wrap64 (dep + 1)) mm by rw [← HRR.out, if_pos hz1, HE.out])
        clear hz1 HE HRR
        rename Int × Int × Int => m0
        go_wp2
        go_loopg [34] t.f4.length (fun gq v wr => ∃ (i : Nat) (mm : Int × Int × Int), v = .int .i64 i ∧ Aside0 (i ≤ t.f4.length) ∧ Aside0 (t.f4.length - i ≤ gq) ∧ Aside0 (measFs (t.f4.drop i) (wrap64 (dep + 1)) mm = measFs t.f4 (wrap64 (dep + 1)) m0) ∧ Aside0 (mm.2.2 = 0) ∧ Aside0 (wr.heap[gb]? = some (.cells #[.int .i64 t.f0, .string t.f1, .int .i64 t.f2, .slice A t.f3.length c0, .slice B t.f4.length c1] 39 (0, 0))) ∧ Aside0 (Going w0 w wr c g mm))
        case atStart => exact ⟨0, m0, rfl, ⟨Nat.zero_le _⟩, ⟨by omega⟩, ⟨by rw [List.drop_zero]⟩, HZ, ⟨BK.out⟩, ⟨HG.out⟩⟩
        case round =>
          clear BK HG HZ HQ HI
          obtain ⟨i, mm, rfl, HI, HQ, HM, HZ, BK, HG⟩ := hrel
          by_cases hi : i < t.f4.length
          · have hiz : (i : Int) < (t.f4.length : Int) := by omega
            have hi0 : (0 : Int) ≤ (i : Int) := by omega
            obtain ⟨ad, A2, c2, A3, c3, ead, hx0, hx1, hx2, hx3, hx4, hl3, hi3, hl4, hi4⟩ := at_T39 HR4.out (i : Int) hi0 hiz
            cases ead
            have hx : rd_T39 t.f4 (i : Int) = t.f4[i] := by simp [rd_T39, hi]
            rw [hx] at hx0 hx1 hx2 hx3 hx4 hl3 hi3 hl4 hi4
            rw [Int.toNat_natCast] at hx0 hx1 hx2 hx3 hx4
            have hB := HG.out.below
            replace hx0 := (hB.cell (World.block_lt_of_cell? _ _ hx0)).trans hx0
            replace hx1 := (hB.cell (World.block_lt_of_cell? _ _ hx1)).trans hx1
            replace hx2 := (hB.cell (World.block_lt_of_cell? _ _ hx2)).trans hx2
            replace hx3 := (hB.cell (World.block_lt_of_cell? _ _ hx3)).trans hx3
            replace hx4 := (hB.cell (World.block_lt_of_cell? _ _ hx4)).trans hx4
            have Hhl3 := Aside0.mk hl3
            have Hhi3 := Aside0.mk hi3
            have Hhl4 := Aside0.mk hl4
            have Hhi4 := Aside0.mk hi4
            have HMD := Aside0.mk ((measFs_drop hi (wrap64 (dep + 1)) mm).symm.trans HM.out)
            have HSZ := Aside0.mk (show SizeOf.sizeOf t.f4[i] < n by
              have h1 := List.sizeOf_lt_of_mem (List.getElem_mem hi)
              have h2 : SizeOf.sizeOf t.f4 < SizeOf.sizeOf t := by cases t; simp; omega
              have := HT.out
              omega)
            clear hl3 hi3 hl4 hi4 hB hx HM
            generalize t.f4[i] = y at hx0 hx1 hx2 hx3 hx4 Hhl3 Hhi3 Hhl4 Hhi4 HMD HSZ
            by_cases hy : (measF y (wrap64 (dep + 1)) mm).2.2 = 0
            · have hyb : ((measF y (wrap64 (dep + 1)) mm).2.2 == 0) = true := beq_iff_eq.2 hy
              have HY := Aside0.mk hy
              rw [if_pos hy] at HMD
              clear hy
              go_wp2_with (first | ((with_reducible refine gate_dst (N := 10) rfl ?_); refine box_event ?hg (N := 10) ?hd (cs := #[.int .i64 0, .string (⟨#[]⟩ : ByteArray), .int .i64 0, .slice none 0 0, .slice none 0 0]) (t := 39) ?hr ?_; (case hd => rfl); (case hg => rfl); (case hr => first | (go_simp; done) | (go_simp; rfl)); intro gb2 hgb2 w4 hbox hb; have BK4 := Aside0.mk hbox; have HB4 := Aside0.mk hb; have GE4 := Aside0.mk (Nat.le_of_eq hgb2.symm); clear hb hbox hgb2; have z0 : w4.cell? ⟨gb2, 0, none⟩ = some (.int .i64 0) := (blk_cell BK4.out 0).trans rfl; have z1 : w4.cell? ⟨gb2, 1, none⟩ = some (.string (⟨#[]⟩ : ByteArray)) := (blk_cell BK4.out 1).trans rfl; have z2 : w4.cell? ⟨gb2, 2, none⟩ = some (.int .i64 0) := (blk_cell BK4.out 2).trans rfl; have z3 : w4.cell? ⟨gb2, 3, none⟩ = some (.slice none 0 0) := (blk_cell BK4.out 3).trans rfl; have z4 : w4.cell? ⟨gb2, 4, none⟩ = some (.slice none 0 0) := (blk_cell BK4.out 4).trans rfl; have y0 := blk_frozen BK4.out 0; have y1 := blk_frozen BK4.out 1; have y2 := blk_frozen BK4.out 2; have y3 := blk_frozen BK4.out 3; have y4 := blk_frozen BK4.out 4) | (go_at_call 118; refine (ih y HSZ.out A2 c2 A3 c3 (wrap64 (dep + 1)) mm w0 _ c g hwg ?s1 Hhi3.out Hhl3.out Hhi4.out Hhl4.out).mono ?_; (case s1 => exact (HG.out.then_ (by repeat (first | (with_reducible exact HB4.out) | (with_reducible refine below_set ?_ GE4.out)))).self); rw [hyb]; rintro e w5 ⟨rfl, hg5⟩; have HG5 := Aside0.mk ((HG.out.then_ (by repeat (first | (with_reducible exact HB4.out) | (with_reducible refine below_set ?_ GE4.out)))).step hg5.st hg5.keep hg5.below); have BK5 := Aside0.mk (hg5.keep.blk (blk_below BK.out (by repeat (first | (with_reducible exact HB4.out) | (with_reducible refine below_set ?_ GE4.out)))) (blk_ne BK.out HG.out.st (by decide)) (by simp)); clear hg5))
              go_roundg (t.f4.length - (i + 1))
              case measure => have := HQ.out; omega
              case rel => exact ⟨i + 1, _, by first | rfl | rw [show wrap64 ((i : Int) + 1) = ((i + 1 : Nat) : Int) from by unfold wrap64; omega], ⟨by omega⟩, ⟨by omega⟩, HMD, HY, BK5, HG5⟩
            · have hyb : ((measF y (wrap64 (dep + 1)) mm).2.2 == 0) = false := beq_eq_false_iff_ne.2 hy
              rw [if_neg hy] at HMD
              have HRS := Aside0.mk (HMD.out.trans HRF.out.symm)
              clear hy
              go_wp2_with (first | ((with_reducible refine gate_dst (N := 10) rfl ?_); refine box_event ?hg (N := 10) ?hd (cs := #[.int .i64 0, .string (⟨#[]⟩ : ByteArray), .int .i64 0, .slice none 0 0, .slice none 0 0]) (t := 39) ?hr ?_; (case hd => rfl); (case hg => rfl); (case hr => first | (go_simp; done) | (go_simp; rfl)); intro gb2 hgb2 w4 hbox hb; have BK4 := Aside0.mk hbox; have HB4 := Aside0.mk hb; have GE4 := Aside0.mk (Nat.le_of_eq hgb2.symm); clear hb hbox hgb2; have z0 : w4.cell? ⟨gb2, 0, none⟩ = some (.int .i64 0) := (blk_cell BK4.out 0).trans rfl; have z1 : w4.cell? ⟨gb2, 1, none⟩ = some (.string (⟨#[]⟩ : ByteArray)) := (blk_cell BK4.out 1).trans rfl; have z2 : w4.cell? ⟨gb2, 2, none⟩ = some (.int .i64 0) := (blk_cell BK4.out 2).trans rfl; have z3 : w4.cell? ⟨gb2, 3, none⟩ = some (.slice none 0 0) := (blk_cell BK4.out 3).trans rfl; have z4 : w4.cell? ⟨gb2, 4, none⟩ = some (.slice none 0 0) := (blk_cell BK4.out 4).trans rfl; have y0 := blk_frozen BK4.out 0; have y1 := blk_frozen BK4.out 1; have y2 := blk_frozen BK4.out 2; have y3 := blk_frozen BK4.out 3; have y4 := blk_frozen BK4.out 4) | (go_at_call 118; refine (ih y HSZ.out A2 c2 A3 c3 (wrap64 (dep + 1)) mm w0 _ c g hwg ?s1 Hhi3.out Hhl3.out Hhi4.out Hhl4.out).mono ?_; (case s1 => exact (HG.out.then_ (by repeat (first | (with_reducible exact HB4.out) | (with_reducible refine below_set ?_ GE4.out)))).self); rw [hyb]; rintro e w5 ⟨rfl, hg5⟩; have HG5 := Aside0.mk ((HG.out.then_ (by repeat (first | (with_reducible exact HB4.out) | (with_reducible refine below_set ?_ GE4.out)))).step hg5.st hg5.keep hg5.below); have BK5 := Aside0.mk (hg5.keep.blk (blk_below BK.out (by repeat (first | (with_reducible exact HB4.out) | (with_reducible refine below_set ?_ GE4.out)))) (blk_ne BK.out HG.out.st (by decide)) (by simp)); clear hg5))
              go_ret
              exact ⟨by rw [← HRS.out, hyb]; rfl, by rw [← HRS.out]; exact HG5.out⟩
          · have hiz : ¬ (i : Int) < (t.f4.length : Int) := by omega
            have hil : i = t.f4.length := by have := HI.out; omega
            have HE := Aside0.mk (show mm = measFs t.f4 (wrap64 (dep + 1)) m0 by rw [← HM.out, hil, List.drop_length]; rfl)
            clear hil HM hi
            have HRS := Aside0.mk (HE.out.trans HRF.out.symm)
            go_wp2
            go_ret
            exact ⟨by rw [← HRS.out, beq_iff_eq.2 HZ.out]; rfl, by rw [← HRS.out]; exact HG.out⟩
  · have he1 : (e1 == 0) = false := beq_eq_false_iff_ne.2 he
    rw [if_neg he]
    go_enter Try.func118, Try.ntmps118
    go_wp2_with (first | ((with_reducible refine gate_dst (N := 4) rfl ?_); refine box_event ?hg (N := 4) ?hd (cs := #[.int .i64 t.f0, .string t.f1, .int .i64 t.f2, .slice A t.f3.length c0, .slice B t.f4.length c1]) (t := 39) ?hr ?_; (case hd => rfl); (case hg => rfl); (case hr => first | (go_simp; done) | (go_simp; rfl)); intro gb hgb w1 hbox hb; have HG1 := Aside0.mk (HG.out.then_ hb); have BK := Aside0.mk hbox; clear HG hb hbox hgb; have q0 : w1.cell? ⟨gb, 0, none⟩ = some (.int .i64 t.f0) := (blk_cell BK.out 0).trans rfl; have q1 : w1.cell? ⟨gb, 1, none⟩ = some (.string t.f1) := (blk_cell BK.out 1).trans rfl; have q2 : w1.cell? ⟨gb, 2, none⟩ = some (.int .i64 t.f2) := (blk_cell BK.out 2).trans rfl; have q3 : w1.cell? ⟨gb, 3, none⟩ = some (.slice A t.f3.length c0) := (blk_cell BK.out 3).trans rfl; have q4 : w1.cell? ⟨gb, 4, none⟩ = some (.slice B t.f4.length c1) := (blk_cell BK.out 4).trans rfl) | (go_at_call 162; (with_reducible refine (tree_formula.calls 6 t.f0 t.f1 t.f2 A c0 t.f3 B c1 t.f4 (okF t) _ ?side1 ?side2 ?side3 ?side4 hok.out).mono ?_); (case side1 => exact Kd.C_below HR.out HG1.out.below); (case side2 => exact HC.out); (case side3 => exact Kd.C_below HR4.out HG1.out.below); (case side4 => exact HC4.out); rintro e w2 ⟨rfl, hb⟩; have HG2 := Aside0.mk (HG1.out.then_ hb); have BK2 := Aside0.mk (blk_below BK.out hb); clear HG1 BK hb) | (go_at_call 161; refine (met_calls c g m.1 m.2.1 m.2.2 dep (okF t) w0 _ hwg HG2.out.below HG2.out.st HG2.out.cl).mono ?_; rw [show ((m.1, m.2.1, m.2.2) : Int × Int × Int) = m from rfl, HN.out]; rintro e w3 ⟨rfl, hs, hk, hb⟩; have BK3 := Aside0.mk (hk.blk BK2.out (blk_ne BK2.out HG2.out.st (by decide)) (by simp)); have HG3 := Aside0.mk (HG2.out.step hs hk hb); clear HG2 BK2 hs hk hb; have r3 : w3.cell? ⟨gb, 3, none⟩ = some (.slice A t.f3.length c0) := (blk_cell BK3.out 3).trans rfl))
    go_ret
    exact ⟨by rw [he1]; rfl, HG3.out⟩
end Go.Proofs.Ytjknpmibdkoklaa.Q
namespace Go.Proofs.Ytjknpmibdkoklaa.Q
open Go.RowKit Go.Proofs.YtjknpmibdkoklaaW.PrintWords Go.Proofs.YtjknpmibdkoklaaW.PrintLast Go.Proofs.YtjknpmibdkoklaaW.PrintMore
attribute [local go_sem] max2_int min2_int max_two min_two max_three min_three max_four min_four   -- for this text's walks alone
set_option linter.unusedVariables false
set_option linter.unusedSimpArgs false
attribute [local go_sem] fld99_2 fld103_2 fld160_0 fld160_1
end Go.Proofs.Ytjknpmibdkoklaa.Q
namespace Go.Proofs.Ytjknpmibdkoklaa.Q
open Go.RowKit Go.Proofs.YtjknpmibdkoklaaW.PrintWords Go.Proofs.YtjknpmibdkoklaaW.PrintLast Go.Proofs.YtjknpmibdkoklaaW.PrintMore
attribute [local go_sem] max2_int min2_int max_two min_two max_three min_three max_four min_four   -- for this text's walks alone
set_option linter.unusedVariables false
set_option linter.unusedSimpArgs false
attribute [local go_sem] fld99_2 fld103_2 fld160_0 fld160_1
end Go.Proofs.Ytjknpmibdkoklaa.Q
set_option maxRecDepth 100000
namespace Go.Proofs.Ytjknpmibdkoklaa.Q
open Go.RowKit Go.Proofs.YtjknpmibdkoklaaW.PrintWords Go.Proofs.YtjknpmibdkoklaaW.PrintLast Go.Proofs.YtjknpmibdkoklaaW.PrintMore
theorem met0_calls (g : Nat) (w : World) : Calls Try.prog 117 #[.pointer (some ⟨g, 0, none⟩)] w fun e w' => ∃ c, e = .returned (.func (.func 161) #[] #[.pointer (some ⟨c, 0, none⟩)]) ∧ w.heap.size ≤ c ∧ ClM w' c g ∧ Below w.heap.size w w' := by
  go_enter Try.func117, Try.ntmps117
  go_wp2_with ((with_reducible refine gate_dst (N := 1) rfl ?_); refine box_event ?hg (N := 1) ?hd (cs := #[.pointer (some ⟨g, 0, none⟩)]) (t := 191) ?hr ?_; (case hd => rfl); (case hg => rfl); (case hr => first | (go_simp; done) | (go_simp; rfl)); intro gb hgb w1 hbox hb; have BK := Aside0.mk hbox; have HB := Aside0.mk hb; have GE := Aside0.mk (Nat.le_of_eq hgb.symm); clear hbox hb hgb)
  go_ret
  exact ⟨gb, rfl, GE.out, BK.out, HB.out⟩
set_option maxHeartbeats 8000000 in
theorem measured_calls (t : S39) (A : Option Addr) (c0 : Nat) (B : Option Addr) (c1 : Nat) (w : World) (hr : Kd.C k66 w A t.f3.length t.f3) (hc : t.f3.length ≤ c0) (hr4 : Kd.C k39 w B t.f4.length t.f4) (hc4 : t.f4.length ≤ c1) :
    Calls Try.prog 76 #[.agg #[.int .i64 t.f0, .string t.f1, .int .i64 t.f2, .slice A t.f3.length c0, .slice B t.f4.length c1]] w fun e w' => e = .returned (.agg #[.int .i64 (measF t 1 (0, 0, 0)).1, .int .i64 (measF t 1 (0, 0, 0)).2.1, .int .i64 (measF t 1 (0, 0, 0)).2.2]) ∧ Below w.heap.size w w' := by
  have hu66 := Try.underlying66
  have hu39 := Try.underlying39
  have HR := Aside0.mk hr
  have HC := Aside0.mk hc
  have HR4 := Aside0.mk hr4
  have HC4 := Aside0.mk hc4
  clear hr hc hr4 hc4
  go_enter Try.func76, Try.ntmps76
  go_wp2_with (first | ((with_reducible refine gate_dst (N := 1) rfl ?_); refine box_event ?hg (N := 1) ?hd (cs := #[.int .i64 t.f0, .string t.f1, .int .i64 t.f2, .slice A t.f3.length c0, .slice B t.f4.length c1]) (t := 39) ?hr ?_; (case hd => rfl); (case hg => rfl); (case hr => first | (go_simp; done) | (go_simp; rfl)); intro g1 hg1 w1 hbox hb; have BKf := Aside0.mk hbox; have HWf := Aside0.mk hb; have GEf := Aside0.mk (Nat.le_of_eq hg1.symm); skip; clear hb hbox hg1; have fz0 := blk_frozen BKf.out 0; have fz1 := blk_frozen BKf.out 1; have fz2 := blk_frozen BKf.out 2; have fz3 := blk_frozen BKf.out 3; have fz4 := blk_frozen BKf.out 4; have fc0 : w1.cell? ⟨g1, 0, none⟩ = some (.int .i64 t.f0) := (blk_cell BKf.out 0).trans rfl; have fc1 : w1.cell? ⟨g1, 1, none⟩ = some (.string t.f1) := (blk_cell BKf.out 1).trans rfl; have fc2 : w1.cell? ⟨g1, 2, none⟩ = some (.int .i64 t.f2) := (blk_cell BKf.out 2).trans rfl; have fc3 : w1.cell? ⟨g1, 3, none⟩ = some (.slice A t.f3.length c0) := (blk_cell BKf.out 3).trans rfl; have fc4 : w1.cell? ⟨g1, 4, none⟩ = some (.slice B t.f4.length c1) := (blk_cell BKf.out 4).trans rfl) | ((with_reducible refine gate_dst (N := 2) rfl ?_); refine box_event ?hg (N := 2) ?hd (cs := #[.int .i64 0, .int .i64 0, .int .i64 0]) (t := 103) ?hr ?_; (case hd => rfl); (case hg => rfl); (case hr => first | (go_simp; done) | (go_simp; rfl)); intro g2 hg2 w2 hbox hb; have BKr := Aside0.mk hbox; have HWr := Aside0.mk hb; have GEr := Aside0.mk (Nat.le_of_eq hg2.symm); have BKf2 := Aside0.mk (blk_below BKf.out hb); clear hb hbox hg2; have rz0 := blk_frozen BKr.out 0; have rz1 := blk_frozen BKr.out 1; have rz2 := blk_frozen BKr.out 2; have rc0 : w2.cell? ⟨g2, 0, none⟩ = some (.int .i64 0) := (blk_cell BKr.out 0).trans rfl; have rc1 : w2.cell? ⟨g2, 1, none⟩ = some (.int .i64 0) := (blk_cell BKr.out 1).trans rfl; have rc2 : w2.cell? ⟨g2, 2, none⟩ = some (.int .i64 0) := (blk_cell BKr.out 2).trans rfl) | ((with_reducible refine gate_dst (N := 3) rfl ?_); refine box_event ?hg (N := 3) ?hd (cs := #[.int .i64 0, .int .i64 0, .int .i64 0]) (t := 103) ?hr ?_; (case hd => rfl); (case hg => rfl); (case hr => first | (go_simp; done) | (go_simp; rfl)); intro g3 hg3 w3 hbox hb; have BKm := Aside0.mk hbox; have HWm := Aside0.mk hb; have GEm := Aside0.mk (Nat.le_of_eq hg3.symm); skip; clear hb hbox hg3; have mz0 := blk_frozen BKm.out 0; have mz1 := blk_frozen BKm.out 1; have mz2 := blk_frozen BKm.out 2; have mc0 : w3.cell? ⟨g3, 0, none⟩ = some (.int .i64 0) := (blk_cell BKm.out 0).trans rfl; have mc1 : w3.cell? ⟨g3, 1, none⟩ = some (.int .i64 0) := (blk_cell BKm.out 1).trans rfl; have mc2 : w3.cell? ⟨g3, 2, none⟩ = some (.int .i64 0) := (blk_cell BKm.out 2).trans rfl))
  generalize hW : ((w3.setCell ⟨g3, 0, none⟩ (.int .i64 0)).setCell ⟨g3, 1, none⟩ (.int .i64 0)).setCell ⟨g3, 2, none⟩ (.int .i64 0) = W
  have B1 := Aside0.mk (show Below w.heap.size w W by rw [← hW]; exact below_set (below_set (below_set (below_step (below_step HWf.out HWr.out) HWm.out) (by have := GEm.out; have := HWr.out.size; have := HWf.out.size; omega)) (by have := GEm.out; have := HWr.out.size; have := HWf.out.size; omega)) (by have := GEm.out; have := HWr.out.size; have := HWf.out.size; omega))
  have N13 := Aside0.mk (show g1 ≠ g3 from blk_ne (blk_below BKf2.out HWm.out) BKm.out (by decide))
  have N23 := Aside0.mk (show g2 ≠ g3 from fun e => by have := GEm.out; have := blk_lt BKr.out; omega)
  have K3 := Aside0.mk (show StM 103 W g3 (0, 0, 0) from by rw [← hW]; exact StM.set2 (StM.set1 (StM.set0 (a := 0) (b := 0) (c := 0) BKm.out 0) 0) 0)
  have K1 := Aside0.mk (show W.heap[g1]? = some (.cells #[.int .i64 t.f0, .string t.f1, .int .i64 t.f2, .slice A t.f3.length c0, .slice B t.f4.length c1] 39 (0, 0)) by rw [← hW]; exact blk_far (blk_far (blk_far (blk_below BKf2.out HWm.out) N13.out _) N13.out _) N13.out _)
  have K2 := Aside0.mk (show StM 103 W g2 (0, 0, 0) from by rw [← hW]; exact blk_far (blk_far (blk_far (blk_below BKr.out HWm.out) N23.out _) N23.out _) N23.out _)
  have HG3 := Aside0.mk (show w.heap.size ≤ g3 by have := GEm.out; have := HWr.out.size; have := HWf.out.size; omega)
  have HG2 := Aside0.mk (show w.heap.size ≤ g2 by have := GEr.out; have := HWf.out.size; omega)
  clear hW BKf BKf2 BKr BKm HWf HWr HWm GEf GEr GEm fz0 fz1 fz2 fz3 fz4 rz0 rz1 rz2 mz0 mz1 mz2 fc0 fc1 fc2 fc3 fc4 rc0 rc1 rc2 mc0 mc1 mc2
  have x0 : W.cell? ⟨g1, 0, none⟩ = some (.int .i64 t.f0) := (blk_cell K1.out 0).trans rfl; have x1 : W.cell? ⟨g1, 1, none⟩ = some (.string t.f1) := (blk_cell K1.out 1).trans rfl; have x2 : W.cell? ⟨g1, 2, none⟩ = some (.int .i64 t.f2) := (blk_cell K1.out 2).trans rfl; have x3 : W.cell? ⟨g1, 3, none⟩ = some (.slice A t.f3.length c0) := (blk_cell K1.out 3).trans rfl; have x4 : W.cell? ⟨g1, 4, none⟩ = some (.slice B t.f4.length c1) := (blk_cell K1.out 4).trans rfl
  go_region_with (first | (go_at_call 117; refine (met0_calls g3 _).mono ?_; rintro e w5 ⟨cc, rfl, hcc, hcl, hb⟩; have CC := Aside0.mk hcl; have HGC := Aside0.mk (Nat.le_trans B1.out.size hcc); have B5 := Aside0.mk (below_step (by repeat (first | exact B1.out | (with_reducible first | apply pw_below_drewN | apply below_drew1))) hb); have K35 := Aside0.mk (StM.below (StM.drew K3.out) hb); have K15 := Aside0.mk (blk_below (blk_drew K1.out) hb); have K25 := Aside0.mk (StM.below (StM.drew K2.out) hb); clear hcl hb hcc; have v0 : w5.cell? ⟨g1, 0, none⟩ = some (.int .i64 t.f0) := (blk_cell K15.out 0).trans rfl; have v1 : w5.cell? ⟨g1, 1, none⟩ = some (.string t.f1) := (blk_cell K15.out 1).trans rfl; have v2 : w5.cell? ⟨g1, 2, none⟩ = some (.int .i64 t.f2) := (blk_cell K15.out 2).trans rfl; have v3 : w5.cell? ⟨g1, 3, none⟩ = some (.slice A t.f3.length c0) := (blk_cell K15.out 3).trans rfl; have v4 : w5.cell? ⟨g1, 4, none⟩ = some (.slice B t.f4.length c1) := (blk_cell K15.out 4).trans rfl) | (go_at_call 118; refine (walkF_calls _ t (Nat.lt_succ_self _) A c0 B c1 1 (0, 0, 0) w _ cc g3 HG3.out ⟨K35.out, CC.out, KeepBut.refl _ _ _, B5.out⟩ HR.out HC.out HR4.out HC4.out).mono ?_; rintro e w6 ⟨rfl, hg⟩; have KG := Aside0.mk hg; have K26 := Aside0.mk (hg.keep.blk K25.out N23.out (by simp)); clear hg))
  all_goals
    generalize hRR0 : measF t 1 (0, 0, 0) = R at KG ⊢
    have hRR := Aside0.mk hRR0
    clear hRR0
    obtain ⟨r1, r2, r3⟩ := R
    obtain ⟨⟨s0, s1, s2⟩, _, _, _⟩ := KG.out.st.cells
    have K27 : StM 103 w6 g2 (0, 0, 0) := K26.out
    obtain ⟨⟨p0, p1, p2⟩, e0, e1, e2⟩ := StM.cells K27
    go_wp2
    refine bodyPost_ret (results_cell_row rfl _ _ g2 103 #[.int .i64 r1, .int .i64 r2, .int .i64 r3] (0, 0) _ rfl (StM.set2 (StM.set1 (StM.set0 K27 r1) r2) r3) Try.underlying103 rfl (by kernel_rfl)) rfl ?_
    exact ⟨by rw [hRR.out], below_set (below_set (below_set KG.out.below HG2.out) HG2.out) HG2.out⟩
end Go.Proofs.Ytjknpmibdkoklaa.Q
namespace Go.Proofs.Ytjknpmibdkoklaa.Q
open Go.RowKit Go.Proofs.YtjknpmibdkoklaaW.PrintWords Go.Proofs.YtjknpmibdkoklaaW.PrintLast Go.Proofs.YtjknpmibdkoklaaW.PrintMore
attribute [local go_sem] max2_int min2_int max_two min_two max_three min_three max_four min_four   -- for this text's walks alone
set_option linter.unusedVariables false
set_option linter.unusedSimpArgs false
attribute [local go_sem] fld99_2 fld103_2 fld160_0 fld160_1
end Go.Proofs.Ytjknpmibdkoklaa.Q
namespace Go.Proofs.Ytjknpmibdkoklaa.Q
open Go.RowKit Go.Proofs.YtjknpmibdkoklaaW.PrintWords Go.Proofs.YtjknpmibdkoklaaW.PrintLast Go.Proofs.YtjknpmibdkoklaaW.PrintMore
def tree_measured.f (a0_0 : Int) (a0_1 : ByteArray) (a0_2 : Int) (l0_3 : List (S66)) (l0_4 : List (S39)) : Option (Int × Int × Int) := some (measF ⟨a0_0, a0_1, a0_2, l0_3, l0_4⟩ 1 (0, 0, 0))
theorem tree_measured.calls (a0_0 : Int) (a0_1 : ByteArray) (a0_2 : Int) (A0_3 : Option Addr) (c0_3 : Nat) (l0_3 : List (S66)) (A0_4 : Option Addr) (c0_4 : Nat) (l0_4 : List (S39)) (r1 r2 r3 : Int) (w : World) (hr0_3 : Kd.C k66 w A0_3 l0_3.length l0_3) (hc0_3 : l0_3.length ≤ c0_3) (hr0_4 : Kd.C k39 w A0_4 l0_4.length l0_4) (hc0_4 : l0_4.length ≤ c0_4) (h : tree_measured.f a0_0 a0_1 a0_2 l0_3 l0_4 = some (r1, r2, r3)) :
    Calls Try.prog 76 #[.agg #[.int .i64 a0_0, .string a0_1, .int .i64 a0_2, .slice A0_3 l0_3.length c0_3, .slice A0_4 l0_4.length c0_4]] w fun e w' => e = .returned (.agg #[.int .i64 r1, .int .i64 r2, .int .i64 r3]) ∧ Below w.heap.size w w' := by
  have h1 := Option.some.inj h
  have := measured_calls ⟨a0_0, a0_1, a0_2, l0_3, l0_4⟩ A0_3 c0_3 A0_4 c0_4 w hr0_3 hc0_3 hr0_4 hc0_4
  rw [h1] at this
  exact this
end Go.Proofs.Ytjknpmibdkoklaa.Q
namespace Go.Proofs.Ytjknpmibdkoklaa.Q
open Go.RowKit Go.Proofs.YtjknpmibdkoklaaW.PrintWords Go.Proofs.YtjknpmibdkoklaaW.PrintLast Go.Proofs.YtjknpmibdkoklaaW.PrintMore
attribute [local go_sem] max2_int min2_int max_two min_two max_three min_three max_four min_four   -- for this text's walks alone
set_option linter.unusedVariables false
set_option linter.unusedSimpArgs false
attribute [local go_sem] fld99_2 fld103_2 fld160_0 fld160_1
def tree_Check.f (a0_0 : Int) (a0_1 : ByteArray) (a0_2 : Int) (l0_3 : List (S66)) (l0_4 : List (S39)) : Option (Int) := (tree_measured.f a0_0 a0_1 a0_2 l0_3 l0_4).bind fun bt107 => (some bt107.2.2)
set_option maxHeartbeats 8000000 in
set_option maxRecDepth 100000 in
theorem tree_Check.calls (a0_0 : Int) (a0_1 : ByteArray) (a0_2 : Int) (A0_3 : Option Addr) (c0_3 : Nat) (l0_3 : List (S66)) (A0_4 : Option Addr) (c0_4 : Nat) (l0_4 : List (S39)) (r : Int) (w : World) (hr0_3 : Kd.C k66 w A0_3 l0_3.length l0_3) (hc0_3 : l0_3.length ≤ c0_3) (hr0_4 : Kd.C k39 w A0_4 l0_4.length l0_4) (hc0_4 : l0_4.length ≤ c0_4) (h : tree_Check.f a0_0 a0_1 a0_2 l0_3 l0_4 = some r) :
    Calls Try.prog 36 #[.agg #[.int .i64 a0_0, .string a0_1, .int .i64 a0_2, .slice A0_3 l0_3.length c0_3, .slice A0_4 l0_4.length c0_4]] w fun e w' => e = .returned (.int .i64 r) ∧ Below w.heap.size w w' := by
  have hu39 := Try.underlying39
  have HR0_3 := Aside0.mk hr0_3
  have HC0_3 := Aside0.mk hc0_3
  clear hr0_3 hc0_3
  have HR0_4 := Aside0.mk hr0_4
  have HC0_4 := Aside0.mk hc0_4
  clear hr0_4 hc0_4
  have HB := Aside0.mk (Below.refl w.heap.size w)
  have H : ((tree_measured.f a0_0 a0_1 a0_2 l0_3 l0_4).bind fun bt107 => (some bt107.2.2)) = some r := h
  clear h
  replace H := Option.bind_eq_some_iff.mp H
  obtain ⟨⟨t107, t108, t109⟩, A20, H⟩ := H
  replace H : (some t109) = some r := H
  have A2 := Aside0.mk A20
  clear A20
  obtain rfl := Option.some.inj H
  go_enter Try.func36, Try.ntmps36
  go_wp2_with (first | ((with_reducible refine gate_dst (N := 1) rfl ?_); refine box_event ?hg (N := 1) ?hd (cs := #[.int .i64 a0_0, .string a0_1, .int .i64 a0_2, .slice A0_3 l0_3.length c0_3, .slice A0_4 l0_4.length c0_4]) (t := 39) ?hr ?_; (case hd => rfl); (case hg => rfl); (case hr => first | (go_simp; done) | (go_simp; rfl)); intro gb106 hg w3 hbox hb; have n0_ := Aside0.mk (below_step (by repeat (first | (with_reducible first | exact HB.out | apply below_alloc | apply pw_below_drewN | apply below_drew1) | exact HB.out)) hb); have n1_ := Aside0.mk (hbox); have n2_ := Aside0.mk ((by rw [hg]; exact (below_size (by repeat (first | (with_reducible first | exact HB.out | apply below_alloc | apply pw_below_drewN | apply below_drew1) | exact HB.out))) : w.heap.size ≤ gb106)); have n3_ := Aside0.mk ((by rw [hg]; exact (below_size (by repeat (first | (with_reducible first | exact HB.out | apply below_alloc | apply pw_below_drewN | apply below_drew1) | exact HB.out))) : w.heap.size ≤ gb106)); clear HB; have HB := n0_; have BK106 := n1_; have GW106 := n2_; have GE106 := n3_; clear n0_ n1_ n2_ n3_; clear hb hbox hg; have hcz4_0 : w3.cell? ⟨gb106, 0, none⟩ = some (.int .i64 a0_0) := (blk_cell BK106.out 0).trans rfl; have hcz4_1 : w3.cell? ⟨gb106, 1, none⟩ = some (.string a0_1) := (blk_cell BK106.out 1).trans rfl; have hcz4_2 : w3.cell? ⟨gb106, 2, none⟩ = some (.int .i64 a0_2) := (blk_cell BK106.out 2).trans rfl; have hcz4_3 : w3.cell? ⟨gb106, 3, none⟩ = some (.slice A0_3 l0_3.length c0_3) := (blk_cell BK106.out 3).trans rfl; have hcz4_4 : w3.cell? ⟨gb106, 4, none⟩ = some (.slice A0_4 l0_4.length c0_4) := (blk_cell BK106.out 4).trans rfl; have hfz4_0 := blk_frozen BK106.out 0; have hfz4_1 := blk_frozen BK106.out 1; have hfz4_2 := blk_frozen BK106.out 2; have hfz4_3 := blk_frozen BK106.out 3; have hfz4_4 := blk_frozen BK106.out 4) | ((with_reducible refine gate_callee (f := 76) rfl ?_); refine goesL_ (some 4) rfl rfl Try.func76 (by kernel_rfl) rfl #[.agg #[.int .i64 a0_0, .string a0_1, .int .i64 a0_2, .slice A0_3 l0_3.length c0_3, .slice A0_4 l0_4.length c0_4]] rfl (by (try simp only [List.map_toArray, List.map_cons, List.map_nil]); first | done | rfl | (simp only [List.length_drop, List.length_take]; rfl)) ?_; (with_reducible refine (tree_measured.calls a0_0 a0_1 a0_2 _ _ l0_3 _ _ l0_4 t107 t108 t109 _ ?side1 ?side2 ?side3 ?side4 A2.out).mono ?_); (case side1 => repeat (first | exact (Kd.C_below HR0_3.out HB.out) | (with_reducible refine Kd.C_alloc ?_ _) | (with_reducible refine Kd.C_drewN ?_ _) | (with_reducible refine Kd.C_drew ?_))); (case side2 => exact HC0_3.out); (case side3 => repeat (first | exact (Kd.C_below HR0_4.out HB.out) | (with_reducible refine Kd.C_alloc ?_ _) | (with_reducible refine Kd.C_drewN ?_ _) | (with_reducible refine Kd.C_drew ?_))); (case side4 => exact HC0_4.out); rintro e w5 ⟨rfl, hb⟩; refine ⟨_, rfl, ?_⟩; have n0_ := Aside0.mk (blk_below (g := gb106) (o := .cells #[.int .i64 a0_0, .string a0_1, .int .i64 a0_2, .slice A0_3 l0_3.length c0_3, .slice A0_4 l0_4.length c0_4] 39 (0, 0)) (by (with_reducible repeat (first | refine blk_drewN ?_ _ | refine blk_drew ?_ | refine blk_alloc ?_ _)); exact BK106.out) hb); have n1_ := Aside0.mk (below_step (by repeat (first | (with_reducible first | exact HB.out | apply below_alloc | apply pw_below_drewN | apply below_drew1 | refine below_set ?_ GE106.out) | exact HB.out)) hb); clear BK106; clear HB; have BK106 := n0_; have HB := n1_; clear n0_ n1_; (try clear hb); (try clear hb2); (try clear hk); (try clear hi)))
  go_ret
  exact ⟨by first | rfl | (simp [errW_none, errW_some] <;> rfl) | (simp [*, errW_none, errW_some] <;> rfl), by repeat (first | (with_reducible first | exact HB.out | apply below_alloc | apply pw_below_drewN | apply below_drew1 | refine below_set ?_ GE106.out) | exact HB.out)⟩
end Go.Proofs.Ytjknpmibdkoklaa.Q
namespace Go.Proofs
open Go.Shelf
def Try.lays190_ren : Go.Shelf.Ren := ⟨fun | 190 => 63 | 125 => 104 | 258 => 103 | 128 => 156 | 129 => 157 | 302 => 147 | 303 => 148 | 304 => 149 | 305 => 150 | 306 => 151 | 307 => 152 | 308 => 153 | 309 => 154 | 310 => 155 | 333 => 181 | 329 => 182 | 330 => 183 | 334 => 184 | 335 => 185 | 336 => 186 | 344 => 196 | n => n, fun | 31 => 22 | 9 => 9 | 3 => 3 | 46 => 46 | 0 => 0 | 51 => 185 | 53 => 187 | 4 => 4 | 183 => 177 | 182 => 176 | 131 => 182 | 5 => 5 | 218 => 207 | 222 => 211 | 228 => 220 | 229 => 221 | n => n, fun | n => n⟩
theorem Try.lays190 : Go.Proofs.Lays.n190 Try.prog Try.lays190_ren := {
  mixed := by kernel_rfl
  f125 := Try.func104.trans (congrArg some (by kernel_rfl))
  f128 := Try.func156.trans (congrArg some (by kernel_rfl))
  f129 := Try.func157.trans (congrArg some (by kernel_rfl))
  f190 := Try.func63.trans (congrArg some (by kernel_rfl))
  f258 := Try.func103.trans (congrArg some (by kernel_rfl))
  f302 := Try.func147.trans (congrArg some (by kernel_rfl))
  f303 := Try.func148.trans (congrArg some (by kernel_rfl))
  f304 := Try.func149.trans (congrArg some (by kernel_rfl))
  f305 := Try.func150.trans (congrArg some (by kernel_rfl))
  f306 := Try.func151.trans (congrArg some (by kernel_rfl))
  f307 := Try.func152.trans (congrArg some (by kernel_rfl))
  f308 := Try.func153.trans (congrArg some (by kernel_rfl))
  f309 := Try.func154.trans (congrArg some (by kernel_rfl))
  f310 := Try.func155.trans (congrArg some (by kernel_rfl))
  f329 := Try.func182.trans (congrArg some (by kernel_rfl))
  f330 := Try.func183.trans (congrArg some (by kernel_rfl))
  f333 := Try.func181.trans (congrArg some (by kernel_rfl))
  f334 := Try.func184.trans (congrArg some (by kernel_rfl))
  f335 := Try.func185.trans (congrArg some (by kernel_rfl))
  f336 := Try.func186.trans (congrArg some (by kernel_rfl))
  f344 := Try.func196.trans (congrArg some (by kernel_rfl))
  t0 := Try.underlying0
  a0 := Try.isAgg0
  z0 := Try.sizeOf0
  v0 := Try.zeroValue0
  t3 := Try.underlying3
  a3 := Try.isAgg3
  z3 := Try.sizeOf3
  v3 := Try.zeroValue3
  t4 := Try.underlying4
  a4 := Try.isAgg4
  z4 := Try.sizeOf4
  v4 := Try.zeroValue4
  t5 := Try.underlying5
  a5 := Try.isAgg5
  z5 := Try.sizeOf5
  v5 := Try.zeroValue5
  t9 := Try.underlying9
  a9 := Try.isAgg9
  z9 := Try.sizeOf9
  v9 := Try.zeroValue9
  t31 := Try.underlying22
  a31 := Try.isAgg22
  z31 := Try.sizeOf22
  v31 := Try.zeroValue22
  t46 := Try.underlying46
  a46 := Try.isAgg46
  z46 := Try.sizeOf46
  v46 := Try.zeroValue46
  t51 := Try.underlying185
  a51 := Try.isAgg185
  z51 := Try.sizeOf185
  v51 := Try.zeroValue185
  t53 := Try.underlying187
  a53 := Try.isAgg187
  z53 := Try.sizeOf187
  v53 := Try.zeroValue187
  t131 := Try.underlying182
  a131 := Try.isAgg182
  z131 := Try.sizeOf182
  v131 := Try.zeroValue182
  t182 := Try.underlying176
  a182 := Try.isAgg176
  z182 := Try.sizeOf176
  v182 := Try.zeroValue176
  t183 := Try.underlying177
  a183 := Try.isAgg177
  z183 := Try.sizeOf177
  v183 := Try.zeroValue177
  t218 := Try.underlying207
  a218 := Try.isAgg207
  z218 := Try.sizeOf207
  v218 := Try.zeroValue207
  t222 := Try.underlying211
  a222 := Try.isAgg211
  z222 := Try.sizeOf211
  v222 := Try.zeroValue211
  t228 := Try.underlying220
  a228 := Try.isAgg220
  z228 := Try.sizeOf220
  v228 := Try.zeroValue220
  t229 := Try.underlying221
  a229 := Try.isAgg221
  z229 := Try.sizeOf221
  v229 := Try.zeroValue221 }
open Go.Sort Go.RowKit in
theorem Try.slices_Sort_string (blk off cap : Nat) (ss : List (List UInt8)) (w : World) (hH : Holds encStr w blk off ss.toArray) (hblk : blk < w.heap.size) (hsz : ss.length < 4611686018427387904) :
    Calls Try.prog 63 #[.slice (some ⟨blk, off, none⟩) ss.length cap] w fun e w' =>
      e = .returned (.tuple #[]) ∧ ∃ n os, w' = grow (putRow encStr (Sort.ahead w n) blk off (ss.mergeSort fun x y => decide (x ≤ y)).toArray) os := Any.slices_Sort_string Try.lays190 blk off cap ss w hH hblk hsz
def Try.lays194_ren : Go.Shelf.Ren := ⟨fun | 194 => 66 | n => n, fun | 31 => 22 | 9 => 9 | 3 => 3 | 4 => 4 | 0 => 0 | n => n, fun | n => n⟩
theorem Try.lays194 : Go.Proofs.Lays.n194 Try.prog Try.lays194_ren := {
  mixed := by kernel_rfl
  f194 := Try.func66.trans (congrArg some (by kernel_rfl))
  t0 := Try.underlying0
  a0 := Try.isAgg0
  z0 := Try.sizeOf0
  v0 := Try.zeroValue0
  t3 := Try.underlying3
  a3 := Try.isAgg3
  z3 := Try.sizeOf3
  v3 := Try.zeroValue3
  t4 := Try.underlying4
  a4 := Try.isAgg4
  z4 := Try.sizeOf4
  v4 := Try.zeroValue4
  t9 := Try.underlying9
  a9 := Try.isAgg9
  z9 := Try.sizeOf9
  v9 := Try.zeroValue9
  t31 := Try.underlying22
  a31 := Try.isAgg22
  z31 := Try.sizeOf22
  v31 := Try.zeroValue22 }
open Go.RowKit Go.Lib Go.Sort in
/-- slices.Compact at []string: "Compact replaces consecutive runs of equal elements with a single copy. This is like the uniq command found on Unix. Compact modifies the contents of the slice s and returns the modified slice, which may have a smaller length. Compact zeroes the elements between the new length and the original length. The result preserves the nilness of s.": IT RETURNS THE SLICE CUT TO 'Lib.compact zs'; ITS CELLS HOLD 'Lib.compact zs', THEN ZERO VALUES up to the old length; all else is as it was, but for the count of draws. IN THE WORDS OF slices.Sort's CONTRACT ('Holds', 'putRow'): so the everyday 'slices.Sort(xs); xs = slices.Compact(xs)' goes from the one contract to the other. It asks 'zs.length ≤ cap' (every slice's: the reslicing 's[:k]' looks at it). Length 0, nil: '.._empty'. (LAID: no walk: one application.) -/
theorem Try.slices_Compact_string (blk off cap : Nat) (zs : List (List UInt8)) (w : World) (hH : Holds encStr w blk off zs.toArray) (hsz : zs.length ≤ 9223372036854775807) (hcap : zs.length ≤ cap) :
    Calls Try.prog 66 #[.slice (some ⟨blk, off, none⟩) zs.length cap] w fun e w' => e = .returned (.slice (some ⟨blk, off, none⟩) (Lib.compact zs).length cap) ∧ ∃ q, w' = putRow encStr (Sort.ahead w q) blk off (Lib.compact zs ++ List.replicate (zs.length - (Lib.compact zs).length) []).toArray := Any.slices_Compact_string Try.lays194 blk off cap zs w hH hsz hcap
open Go.RowKit Go.Lib Go.Sort in
/-- The same at a slice of length 0, a nil one too: it comes back as it is. (LAID: no walk: one application.) -/
theorem Try.slices_Compact_string_empty (a : Option Addr) (cap : Nat) (w : World) :
    Calls Try.prog 66 #[.slice a 0 cap] w fun e w' => e = .returned (.slice a 0 cap) ∧ w' = w := Any.slices_Compact_string_empty Try.lays194 a cap w
open Go.RowKit Go.Sort in
/-- .. and plain. (LAID: no walk: one application.) -/
theorem Try.slices_Sort_string_none (p : Option Addr) (cap : Nat) (w : World) :
    Calls Try.prog 63 #[.slice p 0 cap] w fun e w' => e = .returned (.tuple #[]) ∧ w' = w := Any.slices_Sort_string_none Try.lays190 p cap w
end Go.Proofs
namespace Go.Proofs.Ytjknpmibdkoklaa.Q
open Go.RowKit Go.Sort Go.Proofs.YtjknpmibdkoklaaW.PrintWords Go.Proofs.YtjknpmibdkoklaaW.PrintLast Go.Proofs.YtjknpmibdkoklaaW.PrintMore
theorem R_to_own {w : World} {base e : Nat} {ok : Nat → Prop} {v : Value} {xs : List ByteArray} (h : Kd.R Kd.string e w base ok v xs) : w.ownsRow base e 1 v xs.length (xs.map Value.string) := by
  obtain ⟨_, inner, ho, hl, hr⟩ := h
  have : inner = xs.map Value.string := by
    apply List.ext_getElem?
    intro j
    by_cases hj : j < xs.length
    · have h1 := hr j xs[j] (List.getElem?_eq_getElem hj)
      have h2 : (inner.drop (j * 1)).take 1 = [Value.string xs[j]] := h1
      have hi : j < inner.length := by have : inner.length = xs.length * 1 := hl; omega
      rw [Nat.mul_one, List.drop_eq_getElem_cons hi] at h2
      rw [List.take_succ_cons, List.take_zero] at h2
      rw [List.getElem?_eq_getElem hi, List.head_eq_of_cons_eq h2]
      simp [hj]
    · have : inner.length = xs.length * 1 := hl
      rw [List.getElem?_eq_none (by omega), List.getElem?_eq_none (by simp; omega)]
  rw [this] at ho
  exact ho
theorem R_of_own {w : World} {base e : Nat} {ok : Nat → Prop} {v : Value} {xs : List ByteArray} (h0 : ∀ k, v.ownBlock = some k → ok k) (ho : w.ownsRow base e 1 v xs.length (xs.map Value.string)) : Kd.R Kd.string e w base ok v xs := by
  refine ⟨h0, xs.map Value.string, ho, by show _ = xs.length * 1; simp, fun j p hj => ?_⟩
  show ((xs.map Value.string).drop (j * 1)).take 1 = [Value.string p]
  obtain ⟨hl, hp⟩ := List.getElem?_eq_some_iff.1 hj
  rw [Nat.mul_one, List.drop_eq_getElem_cons (by simpa using hl)]
  simp [hp]
/-- A text as the shelf has it, and back. -/
def bl (s : ByteArray) : List UInt8 := s.data.toList
def lb (l : List UInt8) : ByteArray := ⟨l.toArray⟩
theorem lb_bl (s : ByteArray) : lb (bl s) = s := by cases s; simp [lb, bl]
theorem map_lb_bl (xs : List ByteArray) : (xs.map bl).map lb = xs := by
  rw [List.map_map]
  refine Eq.trans ?_ (List.map_id xs)
  refine congrArg (fun q => List.map q xs) (funext fun s => lb_bl s)
theorem map_enc (ts : List (List UInt8)) : ts.map encStr = (ts.map lb).map Value.string := by
  rw [List.map_map]
  exact congrArg (fun q => List.map q ts) (funext fun s => rfl)
theorem map_str (xs : List ByteArray) : xs.map Value.string = (xs.map bl).map encStr := by
  rw [map_enc, map_lb_bl]
def sortedS (l : List ByteArray) : List ByteArray := ((l.map bl).mergeSort fun x y => decide (x ≤ y)).map lb
theorem sortedS_nil : sortedS [] = [] := by simp [sortedS]
theorem sortedS_length (l : List ByteArray) : (sortedS l).length = l.length := by unfold sortedS; simp
def slices_Sort_string_string.f (l0 : List ByteArray) : Option (List ByteArray) := if l0.length < 4611686018427387904 then some (sortedS l0) else none
theorem slices_Sort_string_string.calls (P0_ : Nat → Prop) (u9000_ : Value) (l0 : List ByteArray) (r : List ByteArray) (w0 w : World) (hB : Below w0.heap.size w0 w) (ho0 : Kd.R Kd.string 9 w w0.heap.size P0_ u9000_ l0) (h : slices_Sort_string_string.f l0 = some r) :
    Calls Try.prog 63 #[u9000_] w fun e w' => e = .returned (.tuple #[]) ∧ Kd.R Kd.string 9 w' w0.heap.size (fun k_ => (P0_ k_ ∨ w.heap.size ≤ k_)) u9000_ r ∧ Below w0.heap.size w0 w' ∧ Kept w w' (fun k_ => P0_ k_) := by
  unfold slices_Sort_string_string.f at h
  by_cases hb : l0.length < 4611686018427387904
  · rw [if_pos hb] at h
    obtain rfl := Option.some.inj h
    have hrow := R_to_own ho0
    have hok := ho0.1
    obtain ⟨_, hcase⟩ := hrow
    rcases hcase with ⟨rfl, h0⟩ | ⟨g, cap, cur, rfl, hbase, hh, h1, h2, h3, h4⟩
    · obtain rfl : l0 = [] := List.eq_nil_of_length_eq_zero h0
      exact (Try.slices_Sort_string_none none 0 w).mono fun e w' ⟨he, hw⟩ => ⟨he, by rw [hw, sortedS_nil]; exact Kd.R_nil _ _ _ _ _, by rw [hw]; exact hB, by rw [hw]; exact Kept.refl _ _⟩
    · have hl : ((l0.map bl)).length = l0.length := by simp
      have hH : Holds encStr w g 0 (l0.map bl).toArray := holds_of_block hh (by rw [hl, ← map_str]; simpa using h4)
      have hg : g < w.heap.size := (Array.getElem?_eq_some_iff.1 hh).1
      have hcall := Try.slices_Sort_string g 0 cap (l0.map bl) w hH hg (by rw [hl]; exact hb)
      rw [hl] at hcall
      refine hcall.mono fun e w' ⟨he, n, os, hw⟩ => ?_
      subst hw
      have hts : ((l0.map bl).mergeSort fun x y => decide (x ≤ y)).length = (l0.map bl).length := by simp
      have hrow2 := ownsRow_sorted (n := n) (os := os) (e := 9) (base := w0.heap.size) (ss := l0.map bl) (ts := (l0.map bl).mergeSort fun x y => decide (x ≤ y)) hts hbase hh (by rw [hl]; exact h1) h2 (by simpa using h3)
      rw [hl, map_enc] at hrow2
      have hgr := grownBy_sorted (w := w) (g := g) (n := n) (os := os) ((l0.map bl).mergeSort fun x y => decide (x ≤ y)).toArray
      refine ⟨he, R_of_own (fun k hk => .inl (hok k hk)) (by rw [sortedS_length]; exact hrow2), hB.grown hgr hB.size (fun k hk => by cases hk; exact hbase), ⟨hgr.size, fun i hi hn => hgr.block i hi (fun e => hn (hok i (by rw [e]; rfl)))⟩⟩
  · rw [if_neg hb] at h
    cases h
theorem grow_none (w : World) : grow w #[] = w := by cases w; simp [grow]
def compactS (l : List ByteArray) : List ByteArray := (Lib.compact (l.map bl)).map lb
theorem compactS_nil : compactS [] = [] := rfl
theorem compact_le (zs : List (List UInt8)) : (Lib.compact zs).length ≤ zs.length := Lib.compact_length_le zs
def slices_Compact_string_string.f (l0 : List ByteArray) : Option (List ByteArray) := if l0.length ≤ 9223372036854775807 then some (compactS l0) else none
theorem slices_Compact_string_string.calls (P0_ : Nat → Prop) (u9000_ : Value) (l0 : List ByteArray) (r : List ByteArray) (w0 w : World) (hB : Below w0.heap.size w0 w) (ho0 : Kd.R Kd.string 9 w w0.heap.size P0_ u9000_ l0) (h : slices_Compact_string_string.f l0 = some r) :
    Calls Try.prog 66 #[u9000_] w fun e w' => ∃ v0_ : Value, e = .returned (v0_) ∧ Kd.R Kd.string 9 w' w0.heap.size (fun k_ => (P0_ k_ ∨ w.heap.size ≤ k_)) v0_ r ∧ Below w0.heap.size w0 w' ∧ Kept w w' (fun k_ => P0_ k_) := by
  unfold slices_Compact_string_string.f at h
  by_cases hb : l0.length ≤ 9223372036854775807
  · rw [if_pos hb] at h
    obtain rfl := Option.some.inj h
    have hrow := R_to_own ho0
    have hok := ho0.1
    obtain ⟨_, hcase⟩ := hrow
    rcases hcase with ⟨rfl, h0⟩ | ⟨g, cap, cur, rfl, hbase, hh, h1, h2, h3, h4⟩
    · obtain rfl : l0 = [] := List.eq_nil_of_length_eq_zero h0
      exact (Try.slices_Compact_string_empty none 0 w).mono fun e w' ⟨he, hw⟩ => ⟨_, he, by rw [hw, compactS_nil]; exact Kd.R_nil _ _ _ _ _, by rw [hw]; exact hB, by rw [hw]; exact Kept.refl _ _⟩
    · have hl : ((l0.map bl)).length = l0.length := by simp
      have hH : Holds encStr w g 0 (l0.map bl).toArray := holds_of_block hh (by rw [hl, ← map_str]; simpa using h4)
      have hcall := Try.slices_Compact_string g 0 cap (l0.map bl) w hH (by rw [hl]; exact hb) (by rw [hl]; exact h1)
      rw [hl] at hcall
      refine hcall.mono fun e w' ⟨he, n, hw⟩ => ?_
      have hle : (Lib.compact (l0.map bl)).length ≤ l0.length := by rw [← hl]; exact compact_le _
      have hts : (Lib.compact (l0.map bl) ++ List.replicate (l0.length - (Lib.compact (l0.map bl)).length) []).length = (l0.map bl).length := by rw [List.length_append, List.length_replicate, hl]; omega
      have hrow2 := ownsRow_sorted (n := n) (os := #[]) (e := 9) (base := w0.heap.size) (ss := l0.map bl) hts hbase hh (by rw [hl]; exact h1) h2 (by simpa using h3)
      have hg0 : grow (putRow encStr (Sort.ahead w n) g 0 (Lib.compact (l0.map bl) ++ List.replicate (l0.length - (Lib.compact (l0.map bl)).length) []).toArray) #[] = w' := by rw [hw]; exact grow_none _
      rw [hl, map_enc] at hrow2
      have hgr := grownBy_sorted (w := w) (g := g) (n := n) (os := #[]) (Lib.compact (l0.map bl) ++ List.replicate (l0.length - (Lib.compact (l0.map bl)).length) []).toArray
      rw [hg0] at hrow2 hgr
      refine ⟨_, he, R_of_own (fun k hk => .inl (hok k hk)) ?_, hB.grown hgr hB.size (fun k hk => by cases hk; exact hbase), ⟨hgr.size, fun i hi hn => hgr.block i hi (fun e => hn (hok i (by rw [e]; rfl)))⟩⟩
      obtain ⟨_, hc2⟩ := hrow2
      rcases hc2 with ⟨hx, _⟩ | ⟨g', cap', cur', hx, hbase', hh', h1', h2', h3', h4'⟩
      · cases hx
      · cases hx
        have hlc : (compactS l0).length = (Lib.compact (l0.map bl)).length := by simp [compactS]
        refine ⟨by simp, .inr ⟨g, cap, cur', by rw [hlc], hbase', hh', by rw [hlc]; omega, h2', h3', ?_⟩⟩
        rw [Nat.mul_one] at h4' ⊢
        have h5 := congrArg (List.take (compactS l0).length) h4'
        rw [List.take_take, Nat.min_eq_left (by rw [hlc]; exact hle), List.map_append, List.map_append, List.take_append_of_le_length (by simp [compactS])] at h5
        rw [h5]
        show _ = (compactS l0).map Value.string
        rw [show compactS l0 = (Lib.compact (l0.map bl)).map lb from rfl]
        exact List.take_of_length_le (by simp)
  · rw [if_neg hb] at h
    cases h
end Go.Proofs.Ytjknpmibdkoklaa.Q
namespace Go.Proofs.Ytjknpmibdkoklaa.Q
open Go.RowKit Go.Proofs.YtjknpmibdkoklaaW.PrintWords Go.Proofs.YtjknpmibdkoklaaW.PrintLast Go.Proofs.YtjknpmibdkoklaaW.PrintMore
attribute [local go_sem] max2_int min2_int max_two min_two max_three min_three max_four min_four   -- for this text's walks alone
set_option linter.unusedVariables false
set_option linter.unusedSimpArgs false
attribute [local go_sem] fld99_2 fld103_2 fld160_0 fld160_1
def tree_sorted.f (l0 : List ByteArray) : Option (List ByteArray) := (slices_Sort_string_string.f l0).bind fun t229 => ((slices_Compact_string_string.f t229).bind fun t230 => (some t230))
set_option maxHeartbeats 8000000 in
set_option maxRecDepth 100000 in
theorem tree_sorted.calls (P0_ : Nat → Prop) (u9000_ : Value) (l0 : List ByteArray) (r : List ByteArray) (w0 w : World) (hB : Below w0.heap.size w0 w) (ho0 : Kd.R Kd.string 9 w w0.heap.size P0_ u9000_ l0) (h : tree_sorted.f l0 = some r) :
    Calls Try.prog 112 #[u9000_] w fun e w' => ∃ v0_ : Value, e = .returned (v0_) ∧ Kd.R Kd.string 9 w' w0.heap.size (fun k_ => (P0_ k_ ∨ w.heap.size ≤ k_)) v0_ r ∧ Below w0.heap.size w0 w' ∧ Kept w w' (fun k_ => P0_ k_) := by
  have HO0 := Aside0.mk (show Kd.R Kd.string 9 w w0.heap.size (fun k_ => (P0_ k_ ∨ w.heap.size ≤ k_)) u9000_ l0 from Kd.R_mono ho0 (fun k_ hk => (.inl hk)))
  have HK := Aside0.mk (Kept.refl w (fun k_ => P0_ k_))
  have HW0 := Aside0.mk hB.size
  have HB := Aside0.mk hB
  clear hB
  have H : ((slices_Sort_string_string.f l0).bind fun t229 => ((slices_Compact_string_string.f t229).bind fun t230 => (some t230))) = some r := h
  clear h
  replace H := Option.bind_eq_some_iff.mp H
  obtain ⟨t229, A20, H⟩ := H
  replace H : ((slices_Compact_string_string.f t229).bind fun t230 => (some t230)) = some r := H
  have A2 := Aside0.mk A20
  clear A20
  replace H := Option.bind_eq_some_iff.mp H
  obtain ⟨t230, A30, H⟩ := H
  replace H : (some t230) = some r := H
  have A3 := Aside0.mk A30
  clear A30
  obtain rfl := Option.some.inj H
  obtain ⟨Ao4, co4, eo4⟩ := Kd.R_slice HO0.out
  subst eo4
  go_enter Try.func112, Try.ntmps112
  go_wp2_with (first | ((with_reducible refine gate_callee (f := 63) rfl ?_); refine goesL_ (some 4) rfl rfl Try.func63 (by kernel_rfl) rfl #[.slice Ao4 l0.length co4] rfl (by (try simp only [List.map_toArray, List.map_cons, List.map_nil]); first | done | rfl | (simp only [List.length_drop, List.length_take]; rfl)) ?_; (with_reducible refine (slices_Sort_string_string.calls (fun k_ => some k_ = (.slice Ao4 l0.length co4 : Value).ownBlock) (.slice Ao4 l0.length co4) l0 t229 w0 _ ?side1 ?side2 A2.out).mono ?_); (case side1 => repeat (first | (with_reducible first | exact HB.out | apply below_alloc | apply pw_below_drewN | apply below_drew1) | exact HB.out)); (case side2 => exact Kd.R_tight rfl HO0.out); rintro e w5 ⟨rfl, hy0, hb, hkp⟩; refine ⟨_, rfl, ?_⟩; have n0_ := Aside0.mk (Kd.R_reok rfl hy0 (fun k_ e_ => HO0.out.1 k_ e_)); have n1_ := Aside0.mk (Kept.then_ (S := (fun k_ => P0_ k_)) (by repeat (first | (with_reducible first | exact HK.out | apply Kept.alloc | apply Kept.drewN | apply Kept.drew) | exact HK.out)) hkp (fun k_ hs_ => (fun e_ => (HO0.out.1 k_ e_.symm)) hs_)); have n2_ := Aside0.mk (hb); clear HO0; clear HK; clear HB; have HO0 := n0_; have HK := n1_; have HB := n2_; clear n0_ n1_ n2_; (try clear hb); (try clear hkp); (try clear hy0)) | ((with_reducible refine gate_callee (f := 66) rfl ?_); refine goesL_ (some 6) rfl rfl Try.func66 (by kernel_rfl) rfl #[.slice Ao4 l0.length co4] rfl (by (try simp only [List.map_toArray, List.map_cons, List.map_nil]); first | done | rfl | (simp only [List.length_drop, List.length_take]; rfl)) ?_; (with_reducible refine (slices_Compact_string_string.calls (fun k_ => some k_ = (.slice Ao4 l0.length co4 : Value).ownBlock) (.slice Ao4 l0.length co4) t229 t230 w0 _ ?side1 ?side2 A3.out).mono ?_); (case side1 => repeat (first | (with_reducible first | exact HB.out | apply below_alloc | apply pw_below_drewN | apply below_drew1) | exact HB.out)); (case side2 => exact Kd.R_tight rfl HO0.out); rintro e w6 ⟨v231, rfl, ho0, hb, hkp⟩; refine ⟨_, rfl, ?_⟩; have n0_ := Aside0.mk (Kd.R_mono (ok' := fun k_ => (P0_ k_ ∨ w.heap.size ≤ k_)) ho0 (fun k_ hk_ => Or.elim hk_ (fun hs_ => (HO0.out.1 k_ (hs_).symm)) (fun hn_ => (.inr (Nat.le_trans (by first | exact HK.out.1 | exact (show Kept w _ (fun k_ => P0_ k_) from by repeat (first | (with_reducible first | exact HK.out | apply Kept.alloc | apply Kept.drewN | apply Kept.drew) | exact HK.out)).1) hn_))))); have n1_ := Aside0.mk (Kept.then_ (S := (fun k_ => P0_ k_)) (by repeat (first | (with_reducible first | exact HK.out | apply Kept.alloc | apply Kept.drewN | apply Kept.drew) | exact HK.out)) hkp (fun k_ hs_ => (fun e_ => (HO0.out.1 k_ e_.symm)) hs_)); have n2_ := Aside0.mk (hb); clear HK; clear HB; clear HO0; have HO232 := n0_; have HK := n1_; have HB := n2_; clear n0_ n1_ n2_; (try clear hb); (try clear hkp); (try clear ho0)))
  go_ret
  exact ⟨_, by first | rfl | (simp [errW_none, errW_some] <;> rfl) | (simp [*, errW_none, errW_some] <;> rfl), by (with_reducible repeat (first | apply Kd.R_alloc | apply Kd.R_drewN | apply Kd.R_drew)); exact HO232.out, by repeat (first | (with_reducible first | exact HB.out | apply below_alloc | apply pw_below_drewN | apply below_drew1) | exact HB.out), by repeat (first | (with_reducible first | exact HK.out | apply Kept.alloc | apply Kept.drewN | apply Kept.drew) | exact HK.out)⟩
end Go.Proofs.Ytjknpmibdkoklaa.Q
