/- Functions of the given program as Lean functions, each with its contract, and what they answer; words for it. No condition but those of each. -/
import Derived.Test.YtjknpmibdkoklaaMG12
import Derived.Test.YtjknpmibdkoklaaMG13
import Derived.LoopTactic
import Derived.Shelf.Abstract
set_option maxRecDepth 100000
namespace Go.Proofs.Ytjknpmibdkoklaa.Q
open Go.RowKit Go.Proofs.YtjknpmibdkoklaaW.PrintWords Go.Proofs.YtjknpmibdkoklaaW.PrintLast Go.Proofs.YtjknpmibdkoklaaW.PrintMore
open Aside0 (mk)
def okF (t : S39) : Bool := (tree_formula.f 6 t.f0 t.f1 t.f2 t.f3 t.f4).getD false
theorem some_getD {o : Option Bool} (h : o.isSome = true) : o = some (o.getD false) := by cases o <;> simp_all
theorem j4_some (a0 : Bool) (a1 : Int) (a2 : Int) (a3 : Bool) (a4 : Int) (a5 : ByteArray) (a6 : Int) (a7 : List S66) (a8 : List S39) : (tree_formula.j4 2 a0 a1 a2 a3 a4 a5 a6 a7 a8).isSome = true := by
  simp only [tree_formula.j4, glyph_Name.f, Option.bind_some]
  repeat' split
  all_goals first | rfl
theorem j3_some (a0 : Bool) (a1 : Int) (a2 : Int) (a3 : Bool) (a4 : Int) (a5 : ByteArray) (a6 : Int) (a7 : List S66) (a8 : List S39) : (tree_formula.j3 3 a0 a1 a2 a3 a4 a5 a6 a7 a8).isSome = true := by
  simp only [tree_formula.j3, glyph_Name.f, Option.bind_some]
  repeat' split
  all_goals first | rfl | exact j4_some ..
theorem j2_some (a0 : Bool) (a1 : Int) (a2 : Int) (a3 : Bool) (a4 : Int) (a5 : ByteArray) (a6 : Int) (a7 : List S66) (a8 : List S39) : (tree_formula.j2 4 a0 a1 a2 a3 a4 a5 a6 a7 a8).isSome = true := by
  simp only [tree_formula.j2, glyph_Name.f, Option.bind_some]
  repeat' split
  all_goals first | rfl | exact j3_some ..
theorem j1_some (a0 : Bool) (a1 : Int) (a2 : Int) (a3 : Bool) (a4 : Int) (a5 : ByteArray) (a6 : Int) (a7 : List S66) (a8 : List S39) : (tree_formula.j1 5 a0 a1 a2 a3 a4 a5 a6 a7 a8).isSome = true := by
  simp only [tree_formula.j1, glyph_Name.f, Option.bind_some]
  repeat' split
  all_goals first | rfl | exact j2_some ..
theorem j0_some (a0 : Bool) (a1 : Int) (a2 : ByteArray) (a3 : Int) (a4 : List S66) (a5 : List S39) : (tree_formula.j0 6 a0 a1 a2 a3 a4 a5).isSome = true := by
  simp only [tree_formula.j0, glyph_Name.f, Option.bind_some]
  repeat' split
  all_goals first | rfl | exact j1_some ..
theorem okF_at (t : S39) : tree_formula.f 6 t.f0 t.f1 t.f2 t.f3 t.f4 = some (okF t) := by
  refine some_getD ?_
  unfold tree_formula.f
  split
  all_goals exact j0_some ..
mutual
def measF : S39 → Int → Int × Int × Int → Int × Int × Int
  | ⟨a, s, b, l, q⟩, dep, m => if (nodeM dep (okF ⟨a, s, b, l, q⟩) m).2.2 = 0 then (if (measTs l (wrap64 (dep + 1)) (nodeM dep (okF ⟨a, s, b, l, q⟩) m)).2.2 = 0 then measFs q (wrap64 (dep + 1)) (measTs l (wrap64 (dep + 1)) (nodeM dep (okF ⟨a, s, b, l, q⟩) m)) else measTs l (wrap64 (dep + 1)) (nodeM dep (okF ⟨a, s, b, l, q⟩) m)) else nodeM dep (okF ⟨a, s, b, l, q⟩) m
def measFs : List S39 → Int → Int × Int × Int → Int × Int × Int
  | [], _, m => m
  | t :: l, dep, m => if (measF t dep m).2.2 = 0 then measFs l dep (measF t dep m) else measF t dep m
end
theorem measF_eq (t : S39) (dep : Int) (m : Int × Int × Int) : measF t dep m = if (nodeM dep (okF t) m).2.2 = 0 then (if (measTs t.f3 (wrap64 (dep + 1)) (nodeM dep (okF t) m)).2.2 = 0 then measFs t.f4 (wrap64 (dep + 1)) (measTs t.f3 (wrap64 (dep + 1)) (nodeM dep (okF t) m)) else measTs t.f3 (wrap64 (dep + 1)) (nodeM dep (okF t) m)) else nodeM dep (okF t) m := by
  cases t; rw [measF]
theorem measFs_drop {l : List S39} {i : Nat} (h : i < l.length) (dep : Int) (m : Int × Int × Int) : measFs (l.drop i) dep m = if (measF l[i] dep m).2.2 = 0 then measFs (l.drop (i + 1)) dep (measF l[i] dep m) else measF l[i] dep m := by
  rw [List.drop_eq_getElem_cons h, measFs]
set_option maxHeartbeats 8000000 in
theorem walkF_calls : ∀ (n : Nat) (t : S39), SizeOf.sizeOf t < n → ∀ (A : Option Addr) (c0 : Nat) (B : Option Addr) (c1 : Nat) (dep : Int) (m : Int × Int × Int) (w0 w : World) (c g : Nat), w0.heap.size ≤ g → Going w0 w w c g m → Kd.C k66 w0 A t.f3.length t.f3 → t.f3.length ≤ c0 → Kd.C k39 w0 B t.f4.length t.f4 → t.f4.length ≤ c1 →
    Calls Try.prog 118 #[.func (.func 161) #[] #[.pointer (some ⟨c, 0, none⟩)], .agg #[.int .i64 t.f0, .string t.f1, .int .i64 t.f2, .slice A t.f3.length c0, .slice B t.f4.length c1], .int .i64 dep] w fun en w' => en = .returned (.bool ((measF t dep m).2.2 == 0)) ∧ Going w0 w w' c g (measF t dep m) := by
  intro n
  induction n with
  | zero => exact fun t h => absurd h (Nat.not_lt_zero _)
  | succ n ih =>
  intro t ht A c0 B c1 dep m w0 w c g hwg hG hr hc0 hr4 hc1
  have hu66 := Try.underlying66
  have hu39 := Try.underlying39
  have HR := mk hr
  have HC := mk hc0
  have HR4 := mk hr4
  have HC4 := mk hc1
  have HG := mk hG
  have HT := mk ht
  clear hr hc0 hr4 hc1 hG ht
  have hok := mk (okF_at t)
  rw [measF_eq]
  have hlen := HR.out.2.1
  have hlen4 := HR4.out.2.1
  generalize hN : nodeM dep (okF t) m = nm
  have HN := mk hN
  clear hN
  obtain ⟨s1, d1, e1⟩ := nm
  by_cases he : e1 = 0
  · subst he
    rw [if_pos rfl]
    generalize hRR : (if (measTs t.f3 (wrap64 (dep + 1)) (s1, d1, 0)).2.2 = 0 then measFs t.f4 (wrap64 (dep + 1)) (measTs t.f3 (wrap64 (dep + 1)) (s1, d1, 0)) else measTs t.f3 (wrap64 (dep + 1)) (s1, d1, 0)) = R
    have HRR := mk hRR
    clear hRR
    go_enter Try.func118, Try.ntmps118
    go_wp2_with (first | ((with_reducible refine gate_dst (N := 4) rfl ?_); refine box_event ?hg (N := 4) ?hd (cs := #[.int .i64 t.f0, .string t.f1, .int .i64 t.f2, .slice A t.f3.length c0, .slice B t.f4.length c1]) (t := 39) ?hr ?_; (case hd => rfl); (case hg => rfl); (case hr => first | (go_simp; done) | (go_simp; rfl)); intro gb hgb w1 hbox hb; have HG1 := mk (HG.out.then_ hb); have BK := mk hbox; clear HG hb hbox hgb; have q0 : w1.cell? ⟨gb, 0, none⟩ = some (.int .i64 t.f0) := (blk_cell BK.out 0).trans rfl; have q1 : w1.cell? ⟨gb, 1, none⟩ = some (.string t.f1) := (blk_cell BK.out 1).trans rfl; have q2 : w1.cell? ⟨gb, 2, none⟩ = some (.int .i64 t.f2) := (blk_cell BK.out 2).trans rfl; have q3 : w1.cell? ⟨gb, 3, none⟩ = some (.slice A t.f3.length c0) := (blk_cell BK.out 3).trans rfl; have q4 : w1.cell? ⟨gb, 4, none⟩ = some (.slice B t.f4.length c1) := (blk_cell BK.out 4).trans rfl) | (go_at_call 162; (with_reducible refine (tree_formula.calls 6 t.f0 t.f1 t.f2 A c0 t.f3 B c1 t.f4 (okF t) _ ?side1 ?side2 ?side3 ?side4 hok.out).mono ?_); (case side1 => exact Kd.C_below HR.out HG1.out.below); (case side2 => exact HC.out); (case side3 => exact Kd.C_below HR4.out HG1.out.below); (case side4 => exact HC4.out); rintro e w2 ⟨rfl, hb⟩; have HG2 := mk (HG1.out.then_ hb); have BK2 := mk (blk_below BK.out hb); clear HG1 BK hb) | (go_at_call 161; refine (met_calls c g m.1 m.2.1 m.2.2 dep (okF t) w0 _ hwg HG2.out.below HG2.out.st HG2.out.cl).mono ?_; rw [show ((m.1, m.2.1, m.2.2) : Int × Int × Int) = m from rfl, HN.out]; rintro e w3 ⟨rfl, hs, hk, hb⟩; have BK3 := mk (hk.blk BK2.out (blk_ne BK2.out HG2.out.st (by decide)) (by simp)); have HG3 := mk (HG2.out.step hs hk hb); clear HG2 BK2 hs hk hb; have r3 : w3.cell? ⟨gb, 3, none⟩ = some (.slice A t.f3.length c0) := (blk_cell BK3.out 3).trans rfl))
    go_loopg [20] t.f3.length (fun gq v wr => ∃ (i : Nat) (mm : Int × Int × Int), v = .int .i64 i ∧ Aside0 (i ≤ t.f3.length) ∧ Aside0 (t.f3.length - i ≤ gq) ∧ Aside0 (measTs (t.f3.drop i) (wrap64 (dep + 1)) mm = measTs t.f3 (wrap64 (dep + 1)) (s1, d1, 0)) ∧ Aside0 (mm.2.2 = 0) ∧ Aside0 (wr.heap[gb]? = some (.cells #[.int .i64 t.f0, .string t.f1, .int .i64 t.f2, .slice A t.f3.length c0, .slice B t.f4.length c1] 39 (0, 0))) ∧ Aside0 (Going w0 w wr c g mm))
    case atStart => exact ⟨0, (s1, d1, 0), rfl, ⟨Nat.zero_le _⟩, ⟨by omega⟩, ⟨by rw [List.drop_zero]⟩, ⟨rfl⟩, ⟨BK3.out⟩, ⟨HG3.out⟩⟩
    case round =>
      obtain ⟨i, mm, rfl, HI, HQ, HM, HZ, BK, HG⟩ := hrel
      by_cases hi : i < t.f3.length
      · have hiz : (i : Int) < (t.f3.length : Int) := by omega
        have hi0 : (0 : Int) ≤ (i : Int) := by omega
        obtain ⟨ad, A2, c2, ead, hx0, hx1, hx2, hx3, hl3, hi3⟩ := at_T66 HR.out (i : Int) hi0 hiz
        cases ead
        have hx : rd_T66 t.f3 (i : Int) = t.f3[i] := by simp [rd_T66, hi]
        rw [hx] at hx0 hx1 hx2 hx3 hl3 hi3
        rw [Int.toNat_natCast] at hx0 hx1 hx2 hx3
        have hB := HG.out.below
        replace hx0 := (hB.cell (World.block_lt_of_cell? _ _ hx0)).trans hx0
        replace hx1 := (hB.cell (World.block_lt_of_cell? _ _ hx1)).trans hx1
        replace hx2 := (hB.cell (World.block_lt_of_cell? _ _ hx2)).trans hx2
        replace hx3 := (hB.cell (World.block_lt_of_cell? _ _ hx3)).trans hx3
        have Hhl3 := mk hl3
        have Hhi3 := mk hi3
        have HMD := mk ((measTs_drop hi (wrap64 (dep + 1)) mm).symm.trans HM.out)
        clear hl3 hi3 hB hx HM
        generalize t.f3[i] = y at hx0 hx1 hx2 hx3 Hhl3 Hhi3 HMD
        by_cases hy : (measT y (wrap64 (dep + 1)) mm).2.2 = 0
        · have hyb : ((measT y (wrap64 (dep + 1)) mm).2.2 == 0) = true := beq_iff_eq.2 hy
          have HY := mk hy
          rw [if_pos hy] at HMD
          clear hy
          go_wp2_with (first | ((with_reducible refine gate_dst (N := 8) rfl ?_); refine box_event ?hg (N := 8) ?hd (cs := #[.int .i64 0, .int .i64 0, .string (⟨#[]⟩ : ByteArray), .slice none 0 0]) (t := 66) ?hr ?_; (case hd => rfl); (case hg => rfl); (case hr => first | (go_simp; done) | (go_simp; rfl)); intro gb2 hgb2 w4 hbox hb; have BK4 := mk hbox; have HB4 := mk hb; have GE4 := mk (Nat.le_of_eq hgb2.symm); clear hb hbox hgb2; have z0 : w4.cell? ⟨gb2, 0, none⟩ = some (.int .i64 0) := (blk_cell BK4.out 0).trans rfl; have z1 : w4.cell? ⟨gb2, 1, none⟩ = some (.int .i64 0) := (blk_cell BK4.out 1).trans rfl; have z2 : w4.cell? ⟨gb2, 2, none⟩ = some (.string (⟨#[]⟩ : ByteArray)) := (blk_cell BK4.out 2).trans rfl; have z3 : w4.cell? ⟨gb2, 3, none⟩ = some (.slice none 0 0) := (blk_cell BK4.out 3).trans rfl; have y0 := blk_frozen BK4.out 0; have y1 := blk_frozen BK4.out 1; have y2 := blk_frozen BK4.out 2; have y3 := blk_frozen BK4.out 3) | (go_at_call 126; refine (walkT_calls _ y (Nat.lt_succ_self _) A2 c2 (wrap64 (dep + 1)) mm w0 _ c g hwg ?s1 Hhi3.out Hhl3.out).mono ?_; (case s1 => exact (HG.out.then_ (by repeat (first | (with_reducible exact HB4.out) | (with_reducible refine below_set ?_ GE4.out)))).self); rw [hyb]; rintro e w5 ⟨rfl, hg5⟩; have HG5 := mk ((HG.out.then_ (by repeat (first | (with_reducible exact HB4.out) | (with_reducible refine below_set ?_ GE4.out)))).step hg5.st hg5.keep hg5.below); have BK5 := mk (hg5.keep.blk (blk_below BK.out (by repeat (first | (with_reducible exact HB4.out) | (with_reducible refine below_set ?_ GE4.out)))) (blk_ne BK.out HG.out.st (by decide)) (by simp)); clear hg5))
          go_roundg (t.f3.length - (i + 1))
          case measure => have := HQ.out; omega
          case rel => exact ⟨i + 1, _, by first | rfl | rw [show wrap64 ((i : Int) + 1) = ((i + 1 : Nat) : Int) from by unfold wrap64; omega], ⟨by omega⟩, ⟨by omega⟩, HMD, HY, BK5, HG5⟩
        · have hyb : ((measT y (wrap64 (dep + 1)) mm).2.2 == 0) = false := beq_eq_false_iff_ne.2 hy
          rw [if_neg hy] at HMD
          have HRS := mk (show measT y (wrap64 (dep + 1)) mm = R by rw [← HRR.out, if_neg (by rw [← HMD.out]; exact hy), HMD.out])
          clear hy
          go_wp2_with (first | ((with_reducible refine gate_dst (N := 8) rfl ?_); refine box_event ?hg (N := 8) ?hd (cs := #[.int .i64 0, .int .i64 0, .string (⟨#[]⟩ : ByteArray), .slice none 0 0]) (t := 66) ?hr ?_; (case hd => rfl); (case hg => rfl); (case hr => first | (go_simp; done) | (go_simp; rfl)); intro gb2 hgb2 w4 hbox hb; have BK4 := mk hbox; have HB4 := mk hb; have GE4 := mk (Nat.le_of_eq hgb2.symm); clear hb hbox hgb2; have z0 : w4.cell? ⟨gb2, 0, none⟩ = some (.int .i64 0) := (blk_cell BK4.out 0).trans rfl; have z1 : w4.cell? ⟨gb2, 1, none⟩ = some (.int .i64 0) := (blk_cell BK4.out 1).trans rfl; have z2 : w4.cell? ⟨gb2, 2, none⟩ = some (.string (⟨#[]⟩ : ByteArray)) := (blk_cell BK4.out 2).trans rfl; have z3 : w4.cell? ⟨gb2, 3, none⟩ = some (.slice none 0 0) := (blk_cell BK4.out 3).trans rfl; have y0 := blk_frozen BK4.out 0; have y1 := blk_frozen BK4.out 1; have y2 := blk_frozen BK4.out 2; have y3 := blk_frozen BK4.out 3) | (go_at_call 126; refine (walkT_calls _ y (Nat.lt_succ_self _) A2 c2 (wrap64 (dep + 1)) mm w0 _ c g hwg ?s1 Hhi3.out Hhl3.out).mono ?_; (case s1 => exact (HG.out.then_ (by repeat (first | (with_reducible exact HB4.out) | (with_reducible refine below_set ?_ GE4.out)))).self); rw [hyb]; rintro e w5 ⟨rfl, hg5⟩; have HG5 := mk ((HG.out.then_ (by repeat (first | (with_reducible exact HB4.out) | (with_reducible refine below_set ?_ GE4.out)))).step hg5.st hg5.keep hg5.below); have BK5 := mk (hg5.keep.blk (blk_below BK.out (by repeat (first | (with_reducible exact HB4.out) | (with_reducible refine below_set ?_ GE4.out)))) (blk_ne BK.out HG.out.st (by decide)) (by simp)); clear hg5))
          go_ret
          exact ⟨by rw [← HRS.out, hyb]; rfl, by rw [← HRS.out]; exact HG5.out⟩
      · have hiz : ¬ (i : Int) < (t.f3.length : Int) := by omega
        have hil : i = t.f3.length := by have := HI.out; omega
        have HE := mk (show mm = measTs t.f3 (wrap64 (dep + 1)) (s1, d1, 0) by rw [← HM.out, hil, List.drop_length]; rfl)
        clear hil HM hi
        have r4 : wr.cell? ⟨gb, 4, none⟩ = some (.slice B t.f4.length c1) := (blk_cell BK.out 4).trans rfl
        have hz1 : (measTs t.f3 (wrap64 (dep + 1)) (s1, d1, 0)).2.2 = 0 := by rw [← HE.out]; exact HZ.out
        have HRF := mk (show R = measFs t.f4 (wrap64 (dep + 1)) mm by rw [← HRR.out, if_pos hz1, HE.out])
        clear hz1 HE HRR
        rename Int × Int × Int => m0
        go_wp2
        go_loopg [34] t.f4.length (fun gq v wr => ∃ (i : Nat) (mm : Int × Int × Int), v = .int .i64 i ∧ Aside0 (i ≤ t.f4.length) ∧ Aside0 (t.f4.length - i ≤ gq) ∧ Aside0 (measFs (t.f4.drop i) (wrap64 (dep + 1)) mm = measFs t.f4 (wrap64 (dep + 1)) m0) ∧ Aside0 (mm.2.2 = 0) ∧ Aside0 (wr.heap[gb]? = some (.cells #[.int .i64 t.f0, .string t.f1, .int .i64 t.f2, .slice A t.f3.length c0, .slice B t.f4.length c1] 39 (0, 0))) ∧ Aside0 (Going w0 w wr c g mm))
        case atStart => exact ⟨0, m0, rfl, ⟨Nat.zero_le _⟩, ⟨by omega⟩, ⟨by rw [List.drop_zero]⟩, HZ, ⟨BK.out⟩, ⟨HG.out⟩⟩
        case round =>
          clear BK HG HZ HQ HI
          obtain ⟨i, mm, rfl, HI, HQ, HM, HZ, BK, HG⟩ := hrel
          by_cases hi : i < t.f4.length
          · have hiz : (i : Int) < (t.f4.length : Int) := by omega
            have hi0 : (0 : Int) ≤ (i : Int) := by omega
            obtain ⟨ad, A2, c2, A3, c3, ead, hx0, hx1, hx2, hx3, hx4, hl3, hi3, hl4, hi4⟩ := at_T39 HR4.out (i : Int) hi0 hiz
            cases ead
            have hx : rd_T39 t.f4 (i : Int) = t.f4[i] := by simp [rd_T39, hi]
            rw [hx] at hx0 hx1 hx2 hx3 hx4 hl3 hi3 hl4 hi4
            rw [Int.toNat_natCast] at hx0 hx1 hx2 hx3 hx4
            have hB := HG.out.below
            replace hx0 := (hB.cell (World.block_lt_of_cell? _ _ hx0)).trans hx0
            replace hx1 := (hB.cell (World.block_lt_of_cell? _ _ hx1)).trans hx1
            replace hx2 := (hB.cell (World.block_lt_of_cell? _ _ hx2)).trans hx2
            replace hx3 := (hB.cell (World.block_lt_of_cell? _ _ hx3)).trans hx3
            replace hx4 := (hB.cell (World.block_lt_of_cell? _ _ hx4)).trans hx4
            have Hhl3 := mk hl3
            have Hhi3 := mk hi3
            have Hhl4 := mk hl4
            have Hhi4 := mk hi4
            have HMD := mk ((measFs_drop hi (wrap64 (dep + 1)) mm).symm.trans HM.out)
            have HSZ := mk (show SizeOf.sizeOf t.f4[i] < n by
              have h1 := List.sizeOf_lt_of_mem (List.getElem_mem hi)
              have h2 : SizeOf.sizeOf t.f4 < SizeOf.sizeOf t := by cases t; simp; omega
              have := HT.out
              omega)
            clear hl3 hi3 hl4 hi4 hB hx HM
            generalize t.f4[i] = y at hx0 hx1 hx2 hx3 hx4 Hhl3 Hhi3 Hhl4 Hhi4 HMD HSZ
            by_cases hy : (measF y (wrap64 (dep + 1)) mm).2.2 = 0
            · have hyb : ((measF y (wrap64 (dep + 1)) mm).2.2 == 0) = true := beq_iff_eq.2 hy
              have HY := mk hy
              rw [if_pos hy] at HMD
              clear hy
              go_wp2_with (first | ((with_reducible refine gate_dst (N := 10) rfl ?_); refine box_event ?hg (N := 10) ?hd (cs := #[.int .i64 0, .string (⟨#[]⟩ : ByteArray), .int .i64 0, .slice none 0 0, .slice none 0 0]) (t := 39) ?hr ?_; (case hd => rfl); (case hg => rfl); (case hr => first | (go_simp; done) | (go_simp; rfl)); intro gb2 hgb2 w4 hbox hb; have BK4 := mk hbox; have HB4 := mk hb; have GE4 := mk (Nat.le_of_eq hgb2.symm); clear hb hbox hgb2; have z0 : w4.cell? ⟨gb2, 0, none⟩ = some (.int .i64 0) := (blk_cell BK4.out 0).trans rfl; have z1 : w4.cell? ⟨gb2, 1, none⟩ = some (.string (⟨#[]⟩ : ByteArray)) := (blk_cell BK4.out 1).trans rfl; have z2 : w4.cell? ⟨gb2, 2, none⟩ = some (.int .i64 0) := (blk_cell BK4.out 2).trans rfl; have z3 : w4.cell? ⟨gb2, 3, none⟩ = some (.slice none 0 0) := (blk_cell BK4.out 3).trans rfl; have z4 : w4.cell? ⟨gb2, 4, none⟩ = some (.slice none 0 0) := (blk_cell BK4.out 4).trans rfl; have y0 := blk_frozen BK4.out 0; have y1 := blk_frozen BK4.out 1; have y2 := blk_frozen BK4.out 2; have y3 := blk_frozen BK4.out 3; have y4 := blk_frozen BK4.out 4) | (go_at_call 118; refine (ih y HSZ.out A2 c2 A3 c3 (wrap64 (dep + 1)) mm w0 _ c g hwg ?s1 Hhi3.out Hhl3.out Hhi4.out Hhl4.out).mono ?_; (case s1 => exact (HG.out.then_ (by repeat (first | (with_reducible exact HB4.out) | (with_reducible refine below_set ?_ GE4.out)))).self); rw [hyb]; rintro e w5 ⟨rfl, hg5⟩; have HG5 := mk ((HG.out.then_ (by repeat (first | (with_reducible exact HB4.out) | (with_reducible refine below_set ?_ GE4.out)))).step hg5.st hg5.keep hg5.below); have BK5 := mk (hg5.keep.blk (blk_below BK.out (by repeat (first | (with_reducible exact HB4.out) | (with_reducible refine below_set ?_ GE4.out)))) (blk_ne BK.out HG.out.st (by decide)) (by simp)); clear hg5))
              go_roundg (t.f4.length - (i + 1))
              case measure => have := HQ.out; omega
              case rel => exact ⟨i + 1, _, by first | rfl | rw [show wrap64 ((i : Int) + 1) = ((i + 1 : Nat) : Int) from by unfold wrap64; omega], ⟨by omega⟩, ⟨by omega⟩, HMD, HY, BK5, HG5⟩
            · have hyb : ((measF y (wrap64 (dep + 1)) mm).2.2 == 0) = false := beq_eq_false_iff_ne.2 hy
              rw [if_neg hy] at HMD
              have HRS := mk (HMD.out.trans HRF.out.symm)
              clear hy
              go_wp2_with (first | ((with_reducible refine gate_dst (N := 10) rfl ?_); refine box_event ?hg (N := 10) ?hd (cs := #[.int .i64 0, .string (⟨#[]⟩ : ByteArray), .int .i64 0, .slice none 0 0, .slice none 0 0]) (t := 39) ?hr ?_; (case hd => rfl); (case hg => rfl); (case hr => first | (go_simp; done) | (go_simp; rfl)); intro gb2 hgb2 w4 hbox hb; have BK4 := mk hbox; have HB4 := mk hb; have GE4 := mk (Nat.le_of_eq hgb2.symm); clear hb hbox hgb2; have z0 : w4.cell? ⟨gb2, 0, none⟩ = some (.int .i64 0) := (blk_cell BK4.out 0).trans rfl; have z1 : w4.cell? ⟨gb2, 1, none⟩ = some (.string (⟨#[]⟩ : ByteArray)) := (blk_cell BK4.out 1).trans rfl; have z2 : w4.cell? ⟨gb2, 2, none⟩ = some (.int .i64 0) := (blk_cell BK4.out 2).trans rfl; have z3 : w4.cell? ⟨gb2, 3, none⟩ = some (.slice none 0 0) := (blk_cell BK4.out 3).trans rfl; have z4 : w4.cell? ⟨gb2, 4, none⟩ = some (.slice none 0 0) := (blk_cell BK4.out 4).trans rfl; have y0 := blk_frozen BK4.out 0; have y1 := blk_frozen BK4.out 1; have y2 := blk_frozen BK4.out 2; have y3 := blk_frozen BK4.out 3; have y4 := blk_frozen BK4.out 4) | (go_at_call 118; refine (ih y HSZ.out A2 c2 A3 c3 (wrap64 (dep + 1)) mm w0 _ c g hwg ?s1 Hhi3.out Hhl3.out Hhi4.out Hhl4.out).mono ?_; (case s1 => exact (HG.out.then_ (by repeat (first | (with_reducible exact HB4.out) | (with_reducible refine below_set ?_ GE4.out)))).self); rw [hyb]; rintro e w5 ⟨rfl, hg5⟩; have HG5 := mk ((HG.out.then_ (by repeat (first | (with_reducible exact HB4.out) | (with_reducible refine below_set ?_ GE4.out)))).step hg5.st hg5.keep hg5.below); have BK5 := mk (hg5.keep.blk (blk_below BK.out (by repeat (first | (with_reducible exact HB4.out) | (with_reducible refine below_set ?_ GE4.out)))) (blk_ne BK.out HG.out.st (by decide)) (by simp)); clear hg5))
              go_ret
              exact ⟨by rw [← HRS.out, hyb]; rfl, by rw [← HRS.out]; exact HG5.out⟩
          · have hiz : ¬ (i : Int) < (t.f4.length : Int) := by omega
            have hil : i = t.f4.length := by have := HI.out; omega
            have HE := mk (show mm = measFs t.f4 (wrap64 (dep + 1)) m0 by rw [← HM.out, hil, List.drop_length]; rfl)
            clear hil HM hi
            have HRS := mk (HE.out.trans HRF.out.symm)
            go_wp2
            go_ret
            exact ⟨by rw [← HRS.out, beq_iff_eq.2 HZ.out]; rfl, by rw [← HRS.out]; exact HG.out⟩
  · have he1 : (e1 == 0) = false := beq_eq_false_iff_ne.2 he
    rw [if_neg he]
    go_enter Try.func118, Try.ntmps118
    go_wp2_with (first | ((with_reducible refine gate_dst (N := 4) rfl ?_); refine box_event ?hg (N := 4) ?hd (cs := #[.int .i64 t.f0, .string t.f1, .int .i64 t.f2, .slice A t.f3.length c0, .slice B t.f4.length c1]) (t := 39) ?hr ?_; (case hd => rfl); (case hg => rfl); (case hr => first | (go_simp; done) | (go_simp; rfl)); intro gb hgb w1 hbox hb; have HG1 := mk (HG.out.then_ hb); have BK := mk hbox; clear HG hb hbox hgb; have q0 : w1.cell? ⟨gb, 0, none⟩ = some (.int .i64 t.f0) := (blk_cell BK.out 0).trans rfl; have q1 : w1.cell? ⟨gb, 1, none⟩ = some (.string t.f1) := (blk_cell BK.out 1).trans rfl; have q2 : w1.cell? ⟨gb, 2, none⟩ = some (.int .i64 t.f2) := (blk_cell BK.out 2).trans rfl; have q3 : w1.cell? ⟨gb, 3, none⟩ = some (.slice A t.f3.length c0) := (blk_cell BK.out 3).trans rfl; have q4 : w1.cell? ⟨gb, 4, none⟩ = some (.slice B t.f4.length c1) := (blk_cell BK.out 4).trans rfl) | (go_at_call 162; (with_reducible refine (tree_formula.calls 6 t.f0 t.f1 t.f2 A c0 t.f3 B c1 t.f4 (okF t) _ ?side1 ?side2 ?side3 ?side4 hok.out).mono ?_); (case side1 => exact Kd.C_below HR.out HG1.out.below); (case side2 => exact HC.out); (case side3 => exact Kd.C_below HR4.out HG1.out.below); (case side4 => exact HC4.out); rintro e w2 ⟨rfl, hb⟩; have HG2 := mk (HG1.out.then_ hb); have BK2 := mk (blk_below BK.out hb); clear HG1 BK hb) | (go_at_call 161; refine (met_calls c g m.1 m.2.1 m.2.2 dep (okF t) w0 _ hwg HG2.out.below HG2.out.st HG2.out.cl).mono ?_; rw [show ((m.1, m.2.1, m.2.2) : Int × Int × Int) = m from rfl, HN.out]; rintro e w3 ⟨rfl, hs, hk, hb⟩; have BK3 := mk (hk.blk BK2.out (blk_ne BK2.out HG2.out.st (by decide)) (by simp)); have HG3 := mk (HG2.out.step hs hk hb); clear HG2 BK2 hs hk hb; have r3 : w3.cell? ⟨gb, 3, none⟩ = some (.slice A t.f3.length c0) := (blk_cell BK3.out 3).trans rfl))
    go_ret
    exact ⟨by rw [he1]; rfl, HG3.out⟩
end Go.Proofs.Ytjknpmibdkoklaa.Q
