/- Functions of the given program as Lean functions, each with its contract, and what they answer; words for it. No condition but those of each. -/
import Derived.Test.YtjknpmibdkoklaaMRS
import Derived.Test.YtjknpmibdkoklaaMR6
import Derived.Test.YtjknpmibdkoklaaMR3
import Derived.LoopTactic
import Derived.Shelf.Abstract
import Derived.Test.YtjknpmibdkoklaaMR4
import Derived.Test.YtjknpmibdkoklaaMR2
import Derived.Test.YtjknpmibdkoklaaMR1
import Derived.Deep.RegionHeld3
set_option linter.unusedVariables false
set_option linter.unusedSimpArgs false
set_option maxRecDepth 100000
namespace Go.Proofs.Ytjknpmibdkoklaa.Q
open Go.RowKit Go.Proofs.YtjknpmibdkoklaaW.PrintWords Go.Proofs.YtjknpmibdkoklaaW.PrintLast Go.Proofs.YtjknpmibdkoklaaW.PrintMore
open Aside0 (mk)
def okT (t : S66) : Bool := (tree_term.f t.f0 t.f1 t.f2 t.f3).getD false
theorem okT_at (t : S66) : tree_term.f t.f0 t.f1 t.f2 t.f3 = some (okT t) := by
  unfold okT tree_term.f
  simp only [glyph_Name.f, Option.bind_some]
  (repeat' split) <;> rfl
mutual
def measT : S66 → Int → Int × Int × Int → Int × Int × Int
  | ⟨a, b, s, l⟩, dep, m => if (nodeM dep (okT ⟨a, b, s, l⟩) m).2.2 = 0 then measTs l (wrap64 (dep + 1)) (nodeM dep (okT ⟨a, b, s, l⟩) m) else nodeM dep (okT ⟨a, b, s, l⟩) m
def measTs : List S66 → Int → Int × Int × Int → Int × Int × Int
  | [], _, m => m
  | t :: l, dep, m => if (measT t dep m).2.2 = 0 then measTs l dep (measT t dep m) else measT t dep m
end
theorem measT_eq (t : S66) (dep : Int) (m : Int × Int × Int) : measT t dep m = if (nodeM dep (okT t) m).2.2 = 0 then measTs t.f3 (wrap64 (dep + 1)) (nodeM dep (okT t) m) else nodeM dep (okT t) m := by
  cases t; rw [measT]
theorem measTs_drop {l : List S66} {i : Nat} (h : i < l.length) (dep : Int) (m : Int × Int × Int) : measTs (l.drop i) dep m = if (measT l[i] dep m).2.2 = 0 then measTs (l.drop (i + 1)) dep (measT l[i] dep m) else measT l[i] dep m := by
  rw [List.drop_eq_getElem_cons h, measTs]
structure Going (w0 w W : World) (c g : Nat) (m : Int × Int × Int) : Prop where
  st : StM 103 W g m
  cl : ClM W c g
  keep : KeepBut w W g none
  below : Below w0.heap.size w0 W
theorem Going.ne {w0 w W : World} {c g : Nat} {m : Int × Int × Int} (h : Going w0 w W c g m) : c ≠ g := blk_ne h.cl h.st kq2
theorem Going.then_ {w0 w W W' : World} {c g : Nat} {m : Int × Int × Int} (h : Going w0 w W c g m) (hb : Below W.heap.size W W') : Going w0 w W' c g m :=
  ⟨h.st.below hb, blk_below h.cl hb, h.keep.trans (KeepBut.of_below hb g none) (.inl rfl), below_step h.below hb⟩
theorem Going.step {w0 w W W' : World} {c g : Nat} {m m' : Int × Int × Int} (h : Going w0 w W c g m) (hs : StM 103 W' g m') (hk : KeepBut W W' g none) (hb : Below w0.heap.size w0 W') : Going w0 w W' c g m' :=
  ⟨hs, hk.blk h.cl h.ne (by simp), h.keep.trans hk (.inl rfl), hb⟩
theorem Going.self {w0 w W : World} {c g : Nat} {m : Int × Int × Int} (h : Going w0 w W c g m) : Going w0 W W c g m := ⟨h.st, h.cl, KeepBut.refl W g none, h.below⟩
theorem Going.drewN {w0 w W : World} {c g : Nat} {m : Int × Int × Int} (h : Going w0 w W c g m) (n : Nat) : Going w0 w (W.drewN n) c g m := h.then_ (pw_below_drewN (Below.refl _ _) n)
set_option maxHeartbeats 8000000 in
theorem walkT_calls : ∀ (n : Nat) (t : S66), SizeOf.sizeOf t < n → ∀ (A : Option Addr) (c0 : Nat) (dep : Int) (m : Int × Int × Int) (w0 w : World) (c g : Nat), w0.heap.size ≤ g → Going w0 w w c g m → Kd.C k66 w0 A t.f3.length t.f3 → t.f3.length ≤ c0 →
    Calls Try.prog 126 #[.func (.func 161) #[] #[.pointer (some ⟨c, 0, none⟩)], .agg #[.int .i64 t.f0, .int .i64 t.f1, .string t.f2, .slice A t.f3.length c0], .int .i64 dep] w fun en w' => en = .returned (.bool ((measT t dep m).2.2 == 0)) ∧ Going w0 w w' c g (measT t dep m) := by
  intro n
  induction n with
  | zero => exact fun t h => absurd h (Nat.not_lt_zero _)
  | succ n ih =>
  intro t ht A c0 dep m w0 w c g hwg hG hr hc0
  have hu66 := Try.underlying66
  have HR := mk hr
  have HC := mk hc0
  have HG := mk hG
  have HT := mk ht
  clear hr hc0 hG ht
  have hok := mk (okT_at t)
  rw [measT_eq]
  have hlen := HR.out.2.1
  generalize hN : nodeM dep (okT t) m = nm
  have HN := mk hN
  clear hN
  obtain ⟨s1, d1, e1⟩ := nm
  by_cases he : e1 = 0
  · subst he
    rw [if_pos rfl]
    go_enter Try.func126, Try.ntmps126
    go_wp2_with (first | ((with_reducible refine gate_dst (N := 4) rfl ?_); refine box_event ?hg (N := 4) ?hd (cs := #[.int .i64 t.f0, .int .i64 t.f1, .string t.f2, .slice A t.f3.length c0]) (t := 66) ?hr ?_; (case hd => rfl); (case hg => rfl); (case hr => exact kq11); intro gb hgb w1 hbox hb; have HG1 := mk (HG.out.then_ hb); have BK := mk hbox; have GE := mk (Nat.le_of_eq hgb.symm); clear HG hb hbox hgb; obtain ⟨_, _, _, _⟩ := cy4_ BK.out) | (go_at_call 165; (with_reducible refine (tree_term.calls t.f0 t.f1 t.f2 A c0 t.f3 (okT t) _ ?side1 ?side2 hok.out).mono ?_); (case side1 => exact Kd.C_below HR.out HG1.out.below); (case side2 => exact HC.out); rintro e w2 ⟨rfl, hb⟩; have HG2 := mk (HG1.out.then_ hb); have BK2 := mk (blk_below BK.out hb); clear HG1 BK hb) | (go_at_call 161; refine (met_calls c g m.1 m.2.1 m.2.2 dep (okT t) w0 _ hwg HG2.out.below HG2.out.st HG2.out.cl).mono ?_; rw [show ((m.1, m.2.1, m.2.2) : Int × Int × Int) = m from rfl, HN.out]; rintro e w3 ⟨rfl, hs, hk, hb⟩; have BK3 := mk (hk.blk BK2.out (blk_ne BK2.out HG2.out.st kq2) (by simp)); have HG3 := mk (HG2.out.step hs hk hb); clear HG2 BK2 hs hk hb; have r3 : w3.cell? ⟨gb, 3, none⟩ = some (.slice A t.f3.length c0) := bk_ BK3 3))
    go_loopg [18] t.f3.length (fun gq v18 wr => ∃ (i : Nat) (mm : Int × Int × Int), v18 = .int .i64 i ∧ Aside0 (i ≤ t.f3.length) ∧ Aside0 (t.f3.length - i ≤ gq) ∧ Aside0 (measTs (t.f3.drop i) (wrap64 (dep + 1)) mm = measTs t.f3 (wrap64 (dep + 1)) (s1, d1, 0)) ∧ Aside0 (mm.2.2 = 0) ∧ Aside0 (wr.heap[gb]? = some (.cells #[.int .i64 t.f0, .int .i64 t.f1, .string t.f2, .slice A t.f3.length c0] 66 (0, 0))) ∧ Aside0 (Going w0 w wr c g mm))
    case atStart => exact ⟨0, (s1, d1, 0), rfl, ⟨Nat.zero_le _⟩, ⟨kq1⟩, ⟨by rw [List.drop_zero]⟩, ⟨rfl⟩, ⟨BK3.out⟩, ⟨HG3.out⟩⟩
    case round =>
      obtain ⟨i, mm, rfl, HI, HQ, HM, HZ, BK, HG⟩ := hrel
      by_cases hi : i < t.f3.length
      · have hiz : (i : Int) < (t.f3.length : Int) := by omega
        have hi0 : (0 : Int) ≤ (i : Int) := by omega
        obtain ⟨ad, A2, c2, ead, hx0, hx1, hx2, hx3, hl3, hi3⟩ := at_T66 HR.out (i : Int) hi0 hiz
        cases ead
        have hx : rd_T66 t.f3 (i : Int) = t.f3[i] := by simp [rd_T66, hi]
        rw [hx] at hx0 hx1 hx2 hx3 hl3 hi3
        rw [Int.toNat_natCast] at hx0 hx1 hx2 hx3
        have hB := HG.out.below
        replace hx0 := (hB.cell (World.block_lt_of_cell? _ _ hx0)).trans hx0
        replace hx1 := (hB.cell (World.block_lt_of_cell? _ _ hx1)).trans hx1
        replace hx2 := (hB.cell (World.block_lt_of_cell? _ _ hx2)).trans hx2
        replace hx3 := (hB.cell (World.block_lt_of_cell? _ _ hx3)).trans hx3
        have HL3 := mk hl3
        have HI3 := mk hi3
        have HMD := mk ((measTs_drop hi (wrap64 (dep + 1)) mm).symm.trans HM.out)
        have HSZ := mk (show SizeOf.sizeOf t.f3[i] < n by
          have h1 := List.sizeOf_lt_of_mem (List.getElem_mem hi)
          have h2 : SizeOf.sizeOf t.f3 < SizeOf.sizeOf t := by cases t; simp; omega
          have := HT.out
          omega)
        clear hl3 hi3 hB hx HM
        generalize t.f3[i] = y at hx0 hx1 hx2 hx3 HL3 HI3 HMD HSZ
        by_cases hy : (measT y (wrap64 (dep + 1)) mm).2.2 = 0
        · have hyb : ((measT y (wrap64 (dep + 1)) mm).2.2 == 0) = true := beq_iff_eq.2 hy
          have HY := mk hy
          rw [if_pos hy] at HMD
          clear hy
          go_wp2_with (first | ((with_reducible refine gate_dst (N := 8) rfl ?_); refine box_event ?hg (N := 8) ?hd (cs := #[.int .i64 0, .int .i64 0, .string (⟨#[]⟩ : ByteArray), .slice none 0 0]) (t := 66) ?hr ?_; (case hd => rfl); (case hg => rfl); (case hr => exact kq11); intro gb2 hgb2 w4 hbox hb; have BK4 := mk hbox; have HB4 := mk hb; have GE4 := mk (Nat.le_of_eq hgb2.symm); clear hb hbox hgb2; obtain ⟨_, _, _, _, y0, y1, y2, _⟩ := cz4_ BK4.out) | (go_at_call 126; refine (ih y HSZ.out A2 c2 (wrap64 (dep + 1)) mm w0 _ c g hwg ?s1 HI3.out HL3.out).mono ?_; (case s1 => exact kq18 GE4); rw [hyb]; rintro e w5 ⟨rfl, hg5⟩; have HG5 := mk ((HG.out.then_ (kq16 GE4)).step hg5.st hg5.keep hg5.below); have BK5 := mk (hg5.keep.blk (blk_below BK.out (kq16 GE4)) (blk_ne BK.out HG.out.st kq2) (by simp)); clear hg5))
          go_roundg (t.f3.length - (i + 1))
          case measure => have := HQ.out; omega
          case rel => exact ⟨i + 1, _, kq19, ⟨kq1⟩, ⟨kq1⟩, HMD, HY, BK5, HG5⟩
        · have hyb : ((measT y (wrap64 (dep + 1)) mm).2.2 == 0) = false := beq_eq_false_iff_ne.2 hy
          rw [if_neg hy] at HMD
          clear hy
          go_wp2_with (first | ((with_reducible refine gate_dst (N := 8) rfl ?_); refine box_event ?hg (N := 8) ?hd (cs := #[.int .i64 0, .int .i64 0, .string (⟨#[]⟩ : ByteArray), .slice none 0 0]) (t := 66) ?hr ?_; (case hd => rfl); (case hg => rfl); (case hr => exact kq11); intro gb2 hgb2 w4 hbox hb; have BK4 := mk hbox; have HB4 := mk hb; have GE4 := mk (Nat.le_of_eq hgb2.symm); clear hb hbox hgb2; obtain ⟨_, _, _, _, y0, y1, y2, _⟩ := cz4_ BK4.out) | (go_at_call 126; refine (ih y HSZ.out A2 c2 (wrap64 (dep + 1)) mm w0 _ c g hwg ?s1 HI3.out HL3.out).mono ?_; (case s1 => exact kq18 GE4); rw [hyb]; rintro e w5 ⟨rfl, hg5⟩; have HG5 := mk ((HG.out.then_ (kq16 GE4)).step hg5.st hg5.keep hg5.below); have BK5 := mk (hg5.keep.blk (blk_below BK.out (kq16 GE4)) (blk_ne BK.out HG.out.st kq2) (by simp)); clear hg5))
          go_ret
          exact ⟨by rw [← HMD.out, hyb]; rfl, by rw [← HMD.out]; exact HG5.out⟩
      · have hiz : ¬ (i : Int) < (t.f3.length : Int) := by omega
        have hil : i = t.f3.length := by have := HI.out; omega
        have HE := mk (show mm = measTs t.f3 (wrap64 (dep + 1)) (s1, d1, 0) by rw [← HM.out, hil, List.drop_length]; rfl)
        clear hil HM hi
        go_wp2
        go_ret
        exact ⟨by rw [← HE.out, beq_iff_eq.2 HZ.out]; rfl, by rw [← HE.out]; exact HG.out⟩
  · have he1 : (e1 == 0) = false := beq_eq_false_iff_ne.2 he
    rw [if_neg he]
    go_enter Try.func126, Try.ntmps126
    go_wp2_with (first | ((with_reducible refine gate_dst (N := 4) rfl ?_); refine box_event ?hg (N := 4) ?hd (cs := #[.int .i64 t.f0, .int .i64 t.f1, .string t.f2, .slice A t.f3.length c0]) (t := 66) ?hr ?_; (case hd => rfl); (case hg => rfl); (case hr => exact kq11); intro gb hgb w1 hbox hb; have HG1 := mk (HG.out.then_ hb); have BK := mk hbox; have GE := mk (Nat.le_of_eq hgb.symm); clear HG hb hbox hgb; obtain ⟨_, _, _, _⟩ := cy4_ BK.out) | (go_at_call 165; (with_reducible refine (tree_term.calls t.f0 t.f1 t.f2 A c0 t.f3 (okT t) _ ?side1 ?side2 hok.out).mono ?_); (case side1 => exact Kd.C_below HR.out HG1.out.below); (case side2 => exact HC.out); rintro e w2 ⟨rfl, hb⟩; have HG2 := mk (HG1.out.then_ hb); have BK2 := mk (blk_below BK.out hb); clear HG1 BK hb) | (go_at_call 161; refine (met_calls c g m.1 m.2.1 m.2.2 dep (okT t) w0 _ hwg HG2.out.below HG2.out.st HG2.out.cl).mono ?_; rw [show ((m.1, m.2.1, m.2.2) : Int × Int × Int) = m from rfl, HN.out]; rintro e w3 ⟨rfl, hs, hk, hb⟩; have BK3 := mk (hk.blk BK2.out (blk_ne BK2.out HG2.out.st kq2) (by simp)); have HG3 := mk (HG2.out.step hs hk hb); clear HG2 BK2 hs hk hb; have r3 : w3.cell? ⟨gb, 3, none⟩ = some (.slice A t.f3.length c0) := bk_ BK3 3))
    go_ret
    exact ⟨by rw [he1]; rfl, HG3.out⟩
end Go.Proofs.Ytjknpmibdkoklaa.Q
set_option maxRecDepth 100000
namespace Go.Proofs.Ytjknpmibdkoklaa.Q
open Go.RowKit Go.Proofs.YtjknpmibdkoklaaW.PrintWords Go.Proofs.YtjknpmibdkoklaaW.PrintLast Go.Proofs.YtjknpmibdkoklaaW.PrintMore
open Aside0 (mk)
def okF (t : S39) : Bool := (tree_formula.f 6 t.f0 t.f1 t.f2 t.f3 t.f4).getD false
theorem some_getD {o : Option Bool} (h : o.isSome = true) : o = some (o.getD false) := by cases o <;> simp_all
theorem j4_some (a0 : Bool) (a1 : Int) (a2 : Int) (a3 : Bool) (a4 : Int) (a5 : ByteArray) (a6 : Int) (a7 : List S66) (a8 : List S39) : (tree_formula.j4 2 a0 a1 a2 a3 a4 a5 a6 a7 a8).isSome = true := by
  simp only [tree_formula.j4, glyph_Name.f, Option.bind_some]
  repeat' split
  all_goals first | rfl
theorem j3_some (a0 : Bool) (a1 : Int) (a2 : Int) (a3 : Bool) (a4 : Int) (a5 : ByteArray) (a6 : Int) (a7 : List S66) (a8 : List S39) : (tree_formula.j3 3 a0 a1 a2 a3 a4 a5 a6 a7 a8).isSome = true := by
  simp only [tree_formula.j3, glyph_Name.f, Option.bind_some]
  repeat' split
  all_goals first | rfl | exact j4_some ..
theorem j2_some (a0 : Bool) (a1 : Int) (a2 : Int) (a3 : Bool) (a4 : Int) (a5 : ByteArray) (a6 : Int) (a7 : List S66) (a8 : List S39) : (tree_formula.j2 4 a0 a1 a2 a3 a4 a5 a6 a7 a8).isSome = true := by
  simp only [tree_formula.j2, glyph_Name.f, Option.bind_some]
  repeat' split
  all_goals first | rfl | exact j3_some ..
theorem j1_some (a0 : Bool) (a1 : Int) (a2 : Int) (a3 : Bool) (a4 : Int) (a5 : ByteArray) (a6 : Int) (a7 : List S66) (a8 : List S39) : (tree_formula.j1 5 a0 a1 a2 a3 a4 a5 a6 a7 a8).isSome = true := by
  simp only [tree_formula.j1, glyph_Name.f, Option.bind_some]
  repeat' split
  all_goals first | rfl | exact j2_some ..
theorem j0_some (a0 : Bool) (a1 : Int) (a2 : ByteArray) (a3 : Int) (a4 : List S66) (a5 : List S39) : (tree_formula.j0 6 a0 a1 a2 a3 a4 a5).isSome = true := by
  simp only [tree_formula.j0, glyph_Name.f, Option.bind_some]
  repeat' split
  all_goals first | rfl | exact j1_some ..
theorem okF_at (t : S39) : tree_formula.f 6 t.f0 t.f1 t.f2 t.f3 t.f4 = some (okF t) := by
  refine some_getD ?_
  unfold tree_formula.f
  split
  all_goals exact j0_some ..
mutual
def measF : S39 → Int → Int × Int × Int → Int × Int × Int
  | ⟨a, s, b, l, q⟩, dep, m => if (nodeM dep (okF ⟨a, s, b, l, q⟩) m).2.2 = 0 then (if (measTs l (wrap64 (dep + 1)) (nodeM dep (okF ⟨a, s, b, l, q⟩) m)).2.2 = 0 then measFs q (wrap64 (dep + 1)) (measTs l (wrap64 (dep + 1)) (nodeM dep (okF ⟨a, s, b, l, q⟩) m)) else measTs l (wrap64 (dep + 1)) (nodeM dep (okF ⟨a, s, b, l, q⟩) m)) else nodeM dep (okF ⟨a, s, b, l, q⟩) m
def measFs : List S39 → Int → Int × Int × Int → Int × Int × Int
  | [], _, m => m
  | t :: l, dep, m => if (measF t dep m).2.2 = 0 then measFs l dep (measF t dep m) else measF t dep m
end
theorem measF_eq (t : S39) (dep : Int) (m : Int × Int × Int) : measF t dep m = if (nodeM dep (okF t) m).2.2 = 0 then (if (measTs t.f3 (wrap64 (dep + 1)) (nodeM dep (okF t) m)).2.2 = 0 then measFs t.f4 (wrap64 (dep + 1)) (measTs t.f3 (wrap64 (dep + 1)) (nodeM dep (okF t) m)) else measTs t.f3 (wrap64 (dep + 1)) (nodeM dep (okF t) m)) else nodeM dep (okF t) m := by
  cases t; rw [measF]
theorem measFs_drop {l : List S39} {i : Nat} (h : i < l.length) (dep : Int) (m : Int × Int × Int) : measFs (l.drop i) dep m = if (measF l[i] dep m).2.2 = 0 then measFs (l.drop (i + 1)) dep (measF l[i] dep m) else measF l[i] dep m := by
  rw [List.drop_eq_getElem_cons h, measFs]
set_option maxHeartbeats 8000000 in
theorem walkF_calls : ∀ (n : Nat) (t : S39), SizeOf.sizeOf t < n → ∀ (A : Option Addr) (c0 : Nat) (B : Option Addr) (c1 : Nat) (dep : Int) (m : Int × Int × Int) (w0 w : World) (c g : Nat), w0.heap.size ≤ g → Going w0 w w c g m → Kd.C k66 w0 A t.f3.length t.f3 → t.f3.length ≤ c0 → Kd.C k39 w0 B t.f4.length t.f4 → t.f4.length ≤ c1 →
    Calls Try.prog 118 #[.func (.func 161) #[] #[.pointer (some ⟨c, 0, none⟩)], .agg #[.int .i64 t.f0, .string t.f1, .int .i64 t.f2, .slice A t.f3.length c0, .slice B t.f4.length c1], .int .i64 dep] w fun en w' => en = .returned (.bool ((measF t dep m).2.2 == 0)) ∧ Going w0 w w' c g (measF t dep m) := by
  intro n
  induction n with
  | zero => exact fun t h => absurd h (Nat.not_lt_zero _)
  | succ n ih =>
  intro t ht A c0 B c1 dep m w0 w c g hwg hG hr hc0 hr4 hc1
  have hu66 := Try.underlying66
  have hu39 := Try.underlying39
  have HR := mk hr
  have HC := mk hc0
  have HR4 := mk hr4
  have HC4 := mk hc1
  have HG := mk hG
  have HT := mk ht
  clear hr hc0 hr4 hc1 hG ht
  have hok := mk (okF_at t)
  rw [measF_eq]
  have hlen := HR.out.2.1
  have hlen4 := HR4.out.2.1
  generalize hN : nodeM dep (okF t) m = nm
  have HN := mk hN
  clear hN
  obtain ⟨s1, d1, e1⟩ := nm
  by_cases he : e1 = 0
  · subst he
    rw [if_pos rfl]
    generalize hRR : (if (measTs t.f3 (wrap64 (dep + 1)) (s1, d1, 0)).2.2 = 0 then measFs t.f4 (wrap64 (dep + 1)) (measTs t.f3 (wrap64 (dep + 1)) (s1, d1, 0)) else measTs t.f3 (wrap64 (dep + 1)) (s1, d1, 0)) = R
    have HRR := mk hRR
    clear hRR
    go_enter Try.func118, Try.ntmps118
    go_wp2_with (first | ((with_reducible refine gate_dst (N := 4) rfl ?_); refine box_event ?hg (N := 4) ?hd (cs := #[.int .i64 t.f0, .string t.f1, .int .i64 t.f2, .slice A t.f3.length c0, .slice B t.f4.length c1]) (t := 39) ?hr ?_; (case hd => rfl); (case hg => rfl); (case hr => exact kq11); intro gb hgb w1 hbox hb; have HG1 := mk (HG.out.then_ hb); have BK := mk hbox; clear HG hb hbox hgb; obtain ⟨_, _, _, _, _⟩ := cy5_ BK.out) | (go_at_call 162; (with_reducible refine (tree_formula.calls 6 t.f0 t.f1 t.f2 A c0 t.f3 B c1 t.f4 (okF t) _ ?side1 ?side2 ?side3 ?side4 hok.out).mono ?_); (case side1 => exact Kd.C_below HR.out HG1.out.below); (case side2 => exact HC.out); (case side3 => exact Kd.C_below HR4.out HG1.out.below); (case side4 => exact HC4.out); rintro e w2 ⟨rfl, hb⟩; have HG2 := mk (HG1.out.then_ hb); have BK2 := mk (blk_below BK.out hb); clear HG1 BK hb) | (go_at_call 161; refine (met_calls c g m.1 m.2.1 m.2.2 dep (okF t) w0 _ hwg HG2.out.below HG2.out.st HG2.out.cl).mono ?_; rw [show ((m.1, m.2.1, m.2.2) : Int × Int × Int) = m from rfl, HN.out]; rintro e w3 ⟨rfl, hs, hk, hb⟩; have BK3 := mk (hk.blk BK2.out (blk_ne BK2.out HG2.out.st kq2) (by simp)); have HG3 := mk (HG2.out.step hs hk hb); clear HG2 BK2 hs hk hb; have r3 : w3.cell? ⟨gb, 3, none⟩ = some (.slice A t.f3.length c0) := bk_ BK3 3))
    go_loopg [20] t.f3.length (fun gq v wr => ∃ (i : Nat) (mm : Int × Int × Int), v = .int .i64 i ∧ Aside0 (i ≤ t.f3.length) ∧ Aside0 (t.f3.length - i ≤ gq) ∧ Aside0 (measTs (t.f3.drop i) (wrap64 (dep + 1)) mm = measTs t.f3 (wrap64 (dep + 1)) (s1, d1, 0)) ∧ Aside0 (mm.2.2 = 0) ∧ Aside0 (wr.heap[gb]? = some (.cells #[.int .i64 t.f0, .string t.f1, .int .i64 t.f2, .slice A t.f3.length c0, .slice B t.f4.length c1] 39 (0, 0))) ∧ Aside0 (Going w0 w wr c g mm))
    case atStart => exact ⟨0, (s1, d1, 0), rfl, ⟨Nat.zero_le _⟩, ⟨kq1⟩, ⟨by rw [List.drop_zero]⟩, ⟨rfl⟩, ⟨BK3.out⟩, ⟨HG3.out⟩⟩
    case round =>
      obtain ⟨i, mm, rfl, HI, HQ, HM, HZ, BK, HG⟩ := hrel
      by_cases hi : i < t.f3.length
      · have hiz : (i : Int) < (t.f3.length : Int) := by omega
        have hi0 : (0 : Int) ≤ (i : Int) := by omega
        obtain ⟨ad, A2, c2, ead, hx0, hx1, hx2, hx3, hl3, hi3⟩ := at_T66 HR.out (i : Int) hi0 hiz
        cases ead
        have hx : rd_T66 t.f3 (i : Int) = t.f3[i] := by simp [rd_T66, hi]
        rw [hx] at hx0 hx1 hx2 hx3 hl3 hi3
        rw [Int.toNat_natCast] at hx0 hx1 hx2 hx3
        have hB := HG.out.below
        replace hx0 := (hB.cell (World.block_lt_of_cell? _ _ hx0)).trans hx0
        replace hx1 := (hB.cell (World.block_lt_of_cell? _ _ hx1)).trans hx1
        replace hx2 := (hB.cell (World.block_lt_of_cell? _ _ hx2)).trans hx2
        replace hx3 := (hB.cell (World.block_lt_of_cell? _ _ hx3)).trans hx3
        have Hhl3 := mk hl3
        have Hhi3 := mk hi3
        have HMD := mk ((measTs_drop hi (wrap64 (dep + 1)) mm).symm.trans HM.out)
        clear hl3 hi3 hB hx HM
        generalize t.f3[i] = y at hx0 hx1 hx2 hx3 Hhl3 Hhi3 HMD
        by_cases hy : (measT y (wrap64 (dep + 1)) mm).2.2 = 0
        · have hyb : ((measT y (wrap64 (dep + 1)) mm).2.2 == 0) = true := beq_iff_eq.2 hy
          have HY := mk hy
          rw [if_pos hy] at HMD
          clear hy
          go_wp2_with (first | ((with_reducible refine gate_dst (N := 8) rfl ?_); refine box_event ?hg (N := 8) ?hd (cs := #[.int .i64 0, .int .i64 0, .string (⟨#[]⟩ : ByteArray), .slice none 0 0]) (t := 66) ?hr ?_; (case hd => rfl); (case hg => rfl); (case hr => exact kq11); intro gb2 hgb2 w4 hbox hb; have BK4 := mk hbox; have HB4 := mk hb; have GE4 := mk (Nat.le_of_eq hgb2.symm); clear hb hbox hgb2; obtain ⟨_, _, _, _, y0, y1, y2, _⟩ := cz4_ BK4.out) | (go_at_call 126; refine (walkT_calls _ y (Nat.lt_succ_self _) A2 c2 (wrap64 (dep + 1)) mm w0 _ c g hwg ?s1 Hhi3.out Hhl3.out).mono ?_; (case s1 => exact kq18 GE4); rw [hyb]; rintro e w5 ⟨rfl, hg5⟩; have HG5 := mk ((HG.out.then_ (kq16 GE4)).step hg5.st hg5.keep hg5.below); have BK5 := mk (hg5.keep.blk (blk_below BK.out (kq16 GE4)) (blk_ne BK.out HG.out.st kq2) (by simp)); clear hg5))
          go_roundg (t.f3.length - (i + 1))
          case measure => have := HQ.out; omega
          case rel => exact ⟨i + 1, _, kq19, ⟨kq1⟩, ⟨kq1⟩, HMD, HY, BK5, HG5⟩
        · have hyb : ((measT y (wrap64 (dep + 1)) mm).2.2 == 0) = false := beq_eq_false_iff_ne.2 hy
          rw [if_neg hy] at HMD
          have HRS := mk (show measT y (wrap64 (dep + 1)) mm = R by rw [← HRR.out, if_neg (by rw [← HMD.out]; exact hy), HMD.out])
          clear hy
          go_wp2_with (first | ((with_reducible refine gate_dst (N := 8) rfl ?_); refine box_event ?hg (N := 8) ?hd (cs := #[.int .i64 0, .int .i64 0, .string (⟨#[]⟩ : ByteArray), .slice none 0 0]) (t := 66) ?hr ?_; (case hd => rfl); (case hg => rfl); (case hr => exact kq11); intro gb2 hgb2 w4 hbox hb; have BK4 := mk hbox; have HB4 := mk hb; have GE4 := mk (Nat.le_of_eq hgb2.symm); clear hb hbox hgb2; obtain ⟨_, _, _, _, y0, y1, y2, _⟩ := cz4_ BK4.out) | (go_at_call 126; refine (walkT_calls _ y (Nat.lt_succ_self _) A2 c2 (wrap64 (dep + 1)) mm w0 _ c g hwg ?s1 Hhi3.out Hhl3.out).mono ?_; (case s1 => exact kq18 GE4); rw [hyb]; rintro e w5 ⟨rfl, hg5⟩; have HG5 := mk ((HG.out.then_ (kq16 GE4)).step hg5.st hg5.keep hg5.below); have BK5 := mk (hg5.keep.blk (blk_below BK.out (kq16 GE4)) (blk_ne BK.out HG.out.st kq2) (by simp)); clear hg5))
          go_ret
          exact ⟨by rw [← HRS.out, hyb]; rfl, by rw [← HRS.out]; exact HG5.out⟩
      · have hiz : ¬ (i : Int) < (t.f3.length : Int) := by omega
        have hil : i = t.f3.length := by have := HI.out; omega
        have HE := mk (show mm = measTs t.f3 (wrap64 (dep + 1)) (s1, d1, 0) by rw [← HM.out, hil, List.drop_length]; rfl)
        clear hil HM hi
        have r4 : wr.cell? ⟨gb, 4, none⟩ = some (.slice B t.f4.length c1) := bk_ BK 4
        have hz1 : (measTs t.f3 (wrap64 (dep + 1)) (s1, d1, 0)).2.2 = 0 := by rw [← HE.out]; exact HZ.out
        have HRF := mk (show R = measFs t.f4 (wrap64 (dep + 1)) mm by rw [← HRR.out, if_pos hz1, HE.out])
        clear hz1 HE HRR
        rename Int × Int × Int => m0
        go_wp2
        go_loopg [34] t.f4.length (fun gq v wr => ∃ (i : Nat) (mm : Int × Int × Int), v = .int .i64 i ∧ Aside0 (i ≤ t.f4.length) ∧ Aside0 (t.f4.length - i ≤ gq) ∧ Aside0 (measFs (t.f4.drop i) (wrap64 (dep + 1)) mm = measFs t.f4 (wrap64 (dep + 1)) m0) ∧ Aside0 (mm.2.2 = 0) ∧ Aside0 (wr.heap[gb]? = some (.cells #[.int .i64 t.f0, .string t.f1, .int .i64 t.f2, .slice A t.f3.length c0, .slice B t.f4.length c1] 39 (0, 0))) ∧ Aside0 (Going w0 w wr c g mm))
        case atStart => exact ⟨0, m0, rfl, ⟨Nat.zero_le _⟩, ⟨kq1⟩, ⟨by rw [List.drop_zero]⟩, HZ, ⟨BK.out⟩, ⟨HG.out⟩⟩
        case round =>
          clear BK HG HZ HQ HI
          obtain ⟨i, mm, rfl, HI, HQ, HM, HZ, BK, HG⟩ := hrel
          by_cases hi : i < t.f4.length
          · have hiz : (i : Int) < (t.f4.length : Int) := by omega
            have hi0 : (0 : Int) ≤ (i : Int) := by omega
            obtain ⟨ad, A2, c2, A3, c3, ead, hx0, hx1, hx2, hx3, hx4, hl3, hi3, hl4, hi4⟩ := at_T39 HR4.out (i : Int) hi0 hiz
            cases ead
            have hx : rd_T39 t.f4 (i : Int) = t.f4[i] := by simp [rd_T39, hi]
            rw [hx] at hx0 hx1 hx2 hx3 hx4 hl3 hi3 hl4 hi4
            rw [Int.toNat_natCast] at hx0 hx1 hx2 hx3 hx4
            have hB := HG.out.below
            replace hx0 := (hB.cell (World.block_lt_of_cell? _ _ hx0)).trans hx0
            replace hx1 := (hB.cell (World.block_lt_of_cell? _ _ hx1)).trans hx1
            replace hx2 := (hB.cell (World.block_lt_of_cell? _ _ hx2)).trans hx2
            replace hx3 := (hB.cell (World.block_lt_of_cell? _ _ hx3)).trans hx3
            replace hx4 := (hB.cell (World.block_lt_of_cell? _ _ hx4)).trans hx4
            have Hhl3 := mk hl3
            have Hhi3 := mk hi3
            have Hhl4 := mk hl4
            have Hhi4 := mk hi4
            have HMD := mk ((measFs_drop hi (wrap64 (dep + 1)) mm).symm.trans HM.out)
            have HSZ := mk (show SizeOf.sizeOf t.f4[i] < n by
              have h1 := List.sizeOf_lt_of_mem (List.getElem_mem hi)
              have h2 : SizeOf.sizeOf t.f4 < SizeOf.sizeOf t := by cases t; simp; omega
              have := HT.out
              omega)
            clear hl3 hi3 hl4 hi4 hB hx HM
            generalize t.f4[i] = y at hx0 hx1 hx2 hx3 hx4 Hhl3 Hhi3 Hhl4 Hhi4 HMD HSZ
            by_cases hy : (measF y (wrap64 (dep + 1)) mm).2.2 = 0
            · have hyb : ((measF y (wrap64 (dep + 1)) mm).2.2 == 0) = true := beq_iff_eq.2 hy
              have HY := mk hy
              rw [if_pos hy] at HMD
              clear hy
              go_wp2_with (first | ((with_reducible refine gate_dst (N := 10) rfl ?_); refine box_event ?hg (N := 10) ?hd (cs := #[.int .i64 0, .string (⟨#[]⟩ : ByteArray), .int .i64 0, .slice none 0 0, .slice none 0 0]) (t := 39) ?hr ?_; (case hd => rfl); (case hg => rfl); (case hr => exact kq11); intro gb2 hgb2 w4 hbox hb; have BK4 := mk hbox; have HB4 := mk hb; have GE4 := mk (Nat.le_of_eq hgb2.symm); clear hb hbox hgb2; obtain ⟨_, _, _, _, _, y0, y1, y2, _, _⟩ := cz5_ BK4.out) | (go_at_call 118; refine (ih y HSZ.out A2 c2 A3 c3 (wrap64 (dep + 1)) mm w0 _ c g hwg ?s1 Hhi3.out Hhl3.out Hhi4.out Hhl4.out).mono ?_; (case s1 => exact kq18 GE4); rw [hyb]; rintro e w5 ⟨rfl, hg5⟩; have HG5 := mk ((HG.out.then_ (kq16 GE4)).step hg5.st hg5.keep hg5.below); have BK5 := mk (hg5.keep.blk (blk_below BK.out (kq16 GE4)) (blk_ne BK.out HG.out.st kq2) (by simp)); clear hg5))
              go_roundg (t.f4.length - (i + 1))
              case measure => have := HQ.out; omega
              case rel => exact ⟨i + 1, _, kq19, ⟨kq1⟩, ⟨kq1⟩, HMD, HY, BK5, HG5⟩
            · have hyb : ((measF y (wrap64 (dep + 1)) mm).2.2 == 0) = false := beq_eq_false_iff_ne.2 hy
              rw [if_neg hy] at HMD
              have HRS := mk (HMD.out.trans HRF.out.symm)
              clear hy
              go_wp2_with (first | ((with_reducible refine gate_dst (N := 10) rfl ?_); refine box_event ?hg (N := 10) ?hd (cs := #[.int .i64 0, .string (⟨#[]⟩ : ByteArray), .int .i64 0, .slice none 0 0, .slice none 0 0]) (t := 39) ?hr ?_; (case hd => rfl); (case hg => rfl); (case hr => exact kq11); intro gb2 hgb2 w4 hbox hb; have BK4 := mk hbox; have HB4 := mk hb; have GE4 := mk (Nat.le_of_eq hgb2.symm); clear hb hbox hgb2; obtain ⟨_, _, _, _, _, y0, y1, y2, _, _⟩ := cz5_ BK4.out) | (go_at_call 118; refine (ih y HSZ.out A2 c2 A3 c3 (wrap64 (dep + 1)) mm w0 _ c g hwg ?s1 Hhi3.out Hhl3.out Hhi4.out Hhl4.out).mono ?_; (case s1 => exact kq18 GE4); rw [hyb]; rintro e w5 ⟨rfl, hg5⟩; have HG5 := mk ((HG.out.then_ (kq16 GE4)).step hg5.st hg5.keep hg5.below); have BK5 := mk (hg5.keep.blk (blk_below BK.out (kq16 GE4)) (blk_ne BK.out HG.out.st kq2) (by simp)); clear hg5))
              go_ret
              exact ⟨by rw [← HRS.out, hyb]; rfl, by rw [← HRS.out]; exact HG5.out⟩
          · have hiz : ¬ (i : Int) < (t.f4.length : Int) := by omega
            have hil : i = t.f4.length := by have := HI.out; omega
            have HE := mk (show mm = measFs t.f4 (wrap64 (dep + 1)) m0 by rw [← HM.out, hil, List.drop_length]; rfl)
            clear hil HM hi
            have HRS := mk (HE.out.trans HRF.out.symm)
            go_wp2
            go_ret
            exact ⟨by rw [← HRS.out, beq_iff_eq.2 HZ.out]; rfl, by rw [← HRS.out]; exact HG.out⟩
  · have he1 : (e1 == 0) = false := beq_eq_false_iff_ne.2 he
    rw [if_neg he]
    go_enter Try.func118, Try.ntmps118
    go_wp2_with (first | ((with_reducible refine gate_dst (N := 4) rfl ?_); refine box_event ?hg (N := 4) ?hd (cs := #[.int .i64 t.f0, .string t.f1, .int .i64 t.f2, .slice A t.f3.length c0, .slice B t.f4.length c1]) (t := 39) ?hr ?_; (case hd => rfl); (case hg => rfl); (case hr => exact kq11); intro gb hgb w1 hbox hb; have HG1 := mk (HG.out.then_ hb); have BK := mk hbox; clear HG hb hbox hgb; obtain ⟨_, _, _, _, _⟩ := cy5_ BK.out) | (go_at_call 162; (with_reducible refine (tree_formula.calls 6 t.f0 t.f1 t.f2 A c0 t.f3 B c1 t.f4 (okF t) _ ?side1 ?side2 ?side3 ?side4 hok.out).mono ?_); (case side1 => exact Kd.C_below HR.out HG1.out.below); (case side2 => exact HC.out); (case side3 => exact Kd.C_below HR4.out HG1.out.below); (case side4 => exact HC4.out); rintro e w2 ⟨rfl, hb⟩; have HG2 := mk (HG1.out.then_ hb); have BK2 := mk (blk_below BK.out hb); clear HG1 BK hb) | (go_at_call 161; refine (met_calls c g m.1 m.2.1 m.2.2 dep (okF t) w0 _ hwg HG2.out.below HG2.out.st HG2.out.cl).mono ?_; rw [show ((m.1, m.2.1, m.2.2) : Int × Int × Int) = m from rfl, HN.out]; rintro e w3 ⟨rfl, hs, hk, hb⟩; have BK3 := mk (hk.blk BK2.out (blk_ne BK2.out HG2.out.st kq2) (by simp)); have HG3 := mk (HG2.out.step hs hk hb); clear HG2 BK2 hs hk hb; have r3 : w3.cell? ⟨gb, 3, none⟩ = some (.slice A t.f3.length c0) := bk_ BK3 3))
    go_ret
    exact ⟨by rw [he1]; rfl, HG3.out⟩
end Go.Proofs.Ytjknpmibdkoklaa.Q
namespace Go.Proofs.Ytjknpmibdkoklaa.Q
open Go.RowKit Go.Proofs.YtjknpmibdkoklaaW.PrintWords Go.Proofs.YtjknpmibdkoklaaW.PrintLast Go.Proofs.YtjknpmibdkoklaaW.PrintMore
def partN (op : Int) : Int := rd ([0, 0, 1, 2, 2, 2, 2, 1, 1, 0, 0, 0, 0, 0, 0, 0] : List Int) op
def shapeF (op : Int) (b : Bool) (l : List S66) (q : List S39) : Bool := !b && decide ((q.length : Int) = partN op) && decide ((l.length : Int) = if op ≥ 9 then 2 else 0)
def badF (op : Int) (qb : Bool) (s : ByteArray) (m : Int) : Bool := (if qb = true then !nameB s else !(decide (s.toList = []))) || (if op = 15 then decide (m < 1) else !(decide (m = 0)))
set_option maxHeartbeats 2000000 in
theorem okF_in (op : Int) (s : ByteArray) (m : Int) (l : List S66) (q : List S39) (h0 : 0 ≤ op) (h1 : op ≤ 15) : tree_formula.f 6 op s m l q = some (shapeF op (badF op (decide (op = 7 ∨ op = 8)) s m) l q) := by
  unfold tree_formula.f
  simp only [tree_formula.j0, tree_formula.j1, tree_formula.j2, tree_formula.j3, tree_formula.j4, glyph_Name.f, Option.bind_some, shapeF, badF, partN]
  have hb : ∀ (x y : Int), (x == y) = decide (x = y) := fun _ _ => rfl
  simp only [hb]
  have hop : op = 0 ∨ op = 1 ∨ op = 2 ∨ op = 3 ∨ op = 4 ∨ op = 5 ∨ op = 6 ∨ op = 7 ∨ op = 8 ∨ op = 9 ∨ op = 10 ∨ op = 11 ∨ op = 12 ∨ op = 13 ∨ op = 14 ∨ op = 15 := by omega
  generalize (l.length : Int) = n
  generalize (q.length : Int) = n2
  generalize nameB s = b
  generalize s.toList = x
  rcases hop with rfl | rfl | rfl | rfl | rfl | rfl | rfl | rfl | rfl | rfl | rfl | rfl | rfl | rfl | rfl | rfl
  all_goals
    by_cases hx : x = [] <;> by_cases hm : m = 0
    all_goals simp [hx, hm, rd]
    all_goals by_cases hn : n = 0 <;> by_cases hn2 : n = 2 <;> cases b
    all_goals (try subst hn) <;> (try subst hn2)
    all_goals first | (simp_all; done) | (by_cases hm1 : m < 1 <;> simp_all <;> omega)
theorem okF_out (op : Int) (s : ByteArray) (m : Int) (l : List S66) (q : List S39) (h : op < 0 ∨ op > 15) : tree_formula.f 6 op s m l q = some false := by
  unfold tree_formula.f
  simp only [tree_formula.j0, tree_formula.j1, tree_formula.j2, tree_formula.j3, tree_formula.j4, glyph_Name.f, Option.bind_some]
  have hb : ∀ (x y : Int), (x == y) = decide (x = y) := fun _ _ => rfl
  simp only [hb]
  have e : ∀ n : Int, 0 ≤ n → n ≤ 15 → (op = n) = False := fun n h0 h1 => eq_false kq1
  simp only [e 0 kq2 kq2, e 1 kq2 kq2, e 2 kq2 kq2, e 7 kq2 kq2, e 8 kq2 kq2, e 15 kq2 kq2, if_false, decide_false, Bool.false_eq_true]
  rcases h with h | h
  · simp [show ¬ (op ≥ 3) by omega, show ¬ (op ≥ 9) by omega]
  · simp [show op ≥ 3 by omega, show op ≥ 9 by omega, show ¬ op ≤ 6 by omega, show ¬ op ≤ 14 by omega]
theorem okF_val (t : S39) : okF t = (if t.f0 < 0 ∨ t.f0 > 15 then false else shapeF t.f0 (badF t.f0 (decide (t.f0 = 7 ∨ t.f0 = 8)) t.f1 t.f2) t.f3 t.f4) := by
  unfold okF
  by_cases h : t.f0 < 0 ∨ t.f0 > 15
  · rw [if_pos h, okF_out _ _ _ _ _ h]; rfl
  · rw [if_neg h, okF_in _ _ _ _ _ kq1 kq1]; rfl
end Go.Proofs.Ytjknpmibdkoklaa.Q
set_option maxRecDepth 100000
namespace Go.Proofs.Ytjknpmibdkoklaa.Q
open Go.RowKit Go.Proofs.YtjknpmibdkoklaaW.PrintWords Go.Proofs.YtjknpmibdkoklaaW.PrintLast Go.Proofs.YtjknpmibdkoklaaW.PrintMore
open Aside0 (mk)
theorem met0_calls (g : Nat) (w : World) : Calls Try.prog 117 #[.pointer (some ⟨g, 0, none⟩)] w fun e w' => ∃ c, e = .returned (.func (.func 161) #[] #[.pointer (some ⟨c, 0, none⟩)]) ∧ w.heap.size ≤ c ∧ ClM w' c g ∧ Below w.heap.size w w' := by
  go_enter Try.func117, Try.ntmps117
  go_wp2_with ((with_reducible refine gate_dst (N := 1) rfl ?_); refine box_event ?hg (N := 1) ?hd (cs := #[.pointer (some ⟨g, 0, none⟩)]) (t := 191) ?hr ?_; (case hd => rfl); (case hg => rfl); (case hr => exact kq11); intro gb hgb w1 hbox hb; have BK := mk hbox; have HB := mk hb; have GE := mk (Nat.le_of_eq hgb.symm); clear hbox hb hgb)
  go_ret
  exact ⟨gb, rfl, GE.out, BK.out, HB.out⟩
set_option maxHeartbeats 8000000 in
theorem measured_calls (t : S39) (A : Option Addr) (c0 : Nat) (B : Option Addr) (c1 : Nat) (w : World) (hr : Kd.C k66 w A t.f3.length t.f3) (hc : t.f3.length ≤ c0) (hr4 : Kd.C k39 w B t.f4.length t.f4) (hc4 : t.f4.length ≤ c1) :
    Calls Try.prog 76 #[.agg #[.int .i64 t.f0, .string t.f1, .int .i64 t.f2, .slice A t.f3.length c0, .slice B t.f4.length c1]] w fun e w' => e = .returned (.agg #[.int .i64 (measF t 1 (0, 0, 0)).1, .int .i64 (measF t 1 (0, 0, 0)).2.1, .int .i64 (measF t 1 (0, 0, 0)).2.2]) ∧ Below w.heap.size w w' := by
  have hu66 := Try.underlying66
  have hu39 := Try.underlying39
  have HR := mk hr
  have HC := mk hc
  have HR4 := mk hr4
  have HC4 := mk hc4
  clear hr hc hr4 hc4
  go_enter Try.func76, Try.ntmps76
  go_wp2_with (first | ((with_reducible refine gate_dst (N := 1) rfl ?_); refine box_event ?hg (N := 1) ?hd (cs := #[.int .i64 t.f0, .string t.f1, .int .i64 t.f2, .slice A t.f3.length c0, .slice B t.f4.length c1]) (t := 39) ?hr ?_; (case hd => rfl); (case hg => rfl); (case hr => exact kq11); intro g1 hg1 w1 hbox hb; have BKf := mk hbox; have HWf := mk hb; have GEf := mk (Nat.le_of_eq hg1.symm); skip; clear hb hbox hg1; have fz0 := blk_frozen BKf.out 0; have fz1 := blk_frozen BKf.out 1; have fz2 := blk_frozen BKf.out 2; have fz3 := blk_frozen BKf.out 3; have fz4 := blk_frozen BKf.out 4; obtain ⟨fc0, fc1, fc2, fc3, fc4⟩ := cy5_ BKf.out) | ((with_reducible refine gate_dst (N := 2) rfl ?_); refine box_event ?hg (N := 2) ?hd (cs := #[.int .i64 0, .int .i64 0, .int .i64 0]) (t := 103) ?hr ?_; (case hd => rfl); (case hg => rfl); (case hr => exact kq11); intro g2 hg2 w2 hbox hb; have BKr := mk hbox; have HWr := mk hb; have GEr := mk (Nat.le_of_eq hg2.symm); have BKf2 := mk (blk_below BKf.out hb); clear hb hbox hg2; have rz0 := blk_frozen BKr.out 0; have rz1 := blk_frozen BKr.out 1; have rz2 := blk_frozen BKr.out 2; obtain ⟨rc0, rc1, rc2⟩ := cy3_ BKr.out) | ((with_reducible refine gate_dst (N := 3) rfl ?_); refine box_event ?hg (N := 3) ?hd (cs := #[.int .i64 0, .int .i64 0, .int .i64 0]) (t := 103) ?hr ?_; (case hd => rfl); (case hg => rfl); (case hr => exact kq11); intro g3 hg3 w3 hbox hb; have BKm := mk hbox; have HWm := mk hb; have GEm := mk (Nat.le_of_eq hg3.symm); skip; clear hb hbox hg3; have mz0 := blk_frozen BKm.out 0; have mz1 := blk_frozen BKm.out 1; have mz2 := blk_frozen BKm.out 2; obtain ⟨mc0, mc1, mc2⟩ := cy3_ BKm.out))
  generalize hW : ((w3.setCell ⟨g3, 0, none⟩ (.int .i64 0)).setCell ⟨g3, 1, none⟩ (.int .i64 0)).setCell ⟨g3, 2, none⟩ (.int .i64 0) = W
  have B1 := mk (show Below w.heap.size w W by rw [← hW]; exact below_set (below_set (below_set (below_step (below_step HWf.out HWr.out) HWm.out) (by have := GEm.out; have := HWr.out.size; have := HWf.out.size; omega)) (by have := GEm.out; have := HWr.out.size; have := HWf.out.size; omega)) (by have := GEm.out; have := HWr.out.size; have := HWf.out.size; omega))
  have N13 := mk (show g1 ≠ g3 from blk_ne (blk_below BKf2.out HWm.out) BKm.out kq2)
  have N23 := mk (show g2 ≠ g3 from fun e => by have := GEm.out; have := blk_lt BKr.out; omega)
  have K3 := mk (show StM 103 W g3 (0, 0, 0) from by rw [← hW]; exact StM.set2 (StM.set1 (StM.set0 (a := 0) (b := 0) (c := 0) BKm.out 0) 0) 0)
  have K1 := mk (show W.heap[g1]? = some (.cells #[.int .i64 t.f0, .string t.f1, .int .i64 t.f2, .slice A t.f3.length c0, .slice B t.f4.length c1] 39 (0, 0)) by rw [← hW]; exact blk_far (blk_far (blk_far (blk_below BKf2.out HWm.out) N13.out _) N13.out _) N13.out _)
  have K2 := mk (show StM 103 W g2 (0, 0, 0) from by rw [← hW]; exact blk_far (blk_far (blk_far (blk_below BKr.out HWm.out) N23.out _) N23.out _) N23.out _)
  have HG3 := mk (show w.heap.size ≤ g3 by have := GEm.out; have := HWr.out.size; have := HWf.out.size; omega)
  have HG2 := mk (show w.heap.size ≤ g2 by have := GEr.out; have := HWf.out.size; omega)
  clear hW BKf BKf2 BKr BKm HWf HWr HWm GEf GEr GEm fz0 fz1 fz2 fz3 fz4 rz0 rz1 rz2 mz0 mz1 mz2 fc0 fc1 fc2 fc3 fc4 rc0 rc1 rc2 mc0 mc1 mc2
  obtain ⟨x0, x1, _, _, _⟩ := cy5_ K1.out
  go_region_with (first | (go_at_call 117; refine (met0_calls g3 _).mono ?_; rintro e w5 ⟨cc, rfl, hcc, hcl, hb⟩; have CC := mk hcl; have HGC := mk (Nat.le_trans B1.out.size hcc); have B5 := mk (below_step (by repeat (first | exact B1.out | (with_reducible first | apply pw_below_drewN | apply below_drew1))) hb); have K35 := mk (StM.below (StM.drew K3.out) hb); have K15 := mk (blk_below (blk_drew K1.out) hb); have K25 := mk (StM.below (StM.drew K2.out) hb); clear hcl hb hcc; obtain ⟨_, _, _, _, _⟩ := cy5_ K15.out) | (go_at_call 118; refine (walkF_calls _ t (Nat.lt_succ_self _) A c0 B c1 1 (0, 0, 0) w _ cc g3 HG3.out ⟨K35.out, CC.out, KeepBut.refl _ _ _, B5.out⟩ HR.out HC.out HR4.out HC4.out).mono ?_; rintro e w6 ⟨rfl, hg⟩; have KG := mk hg; have K26 := mk (hg.keep.blk K25.out N23.out (by simp)); clear hg))
  all_goals
    generalize hRR0 : measF t 1 (0, 0, 0) = R at KG ⊢
    have hRR := mk hRR0
    clear hRR0
    obtain ⟨r1, r2, r3⟩ := R
    obtain ⟨⟨s0, s1, s2⟩, _, _, _⟩ := KG.out.st.cells
    have K27 : StM 103 w6 g2 (0, 0, 0) := K26.out
    obtain ⟨⟨p0, p1, p2⟩, e0, e1, e2⟩ := StM.cells K27
    go_wp2
    refine bodyPost_ret (results_cell_row rfl _ _ g2 103 #[.int .i64 r1, .int .i64 r2, .int .i64 r3] (0, 0) _ rfl (StM.set2 (StM.set1 (StM.set0 K27 r1) r2) r3) Try.underlying103 rfl kq0) rfl ?_
    exact ⟨by rw [hRR.out], below_set (below_set (below_set KG.out.below HG2.out) HG2.out) HG2.out⟩
end Go.Proofs.Ytjknpmibdkoklaa.Q
namespace Go.Proofs.Ytjknpmibdkoklaa.Q
open Go.RowKit Go.Proofs.YtjknpmibdkoklaaW.PrintWords Go.Proofs.YtjknpmibdkoklaaW.PrintLast Go.Proofs.YtjknpmibdkoklaaW.PrintMore
open Aside0 (mk)
def tree_measured.f (a0_0 : Int) (a0_1 : ByteArray) (a0_2 : Int) (l0_3 : List (S66)) (l0_4 : List (S39)) : Option (Int × Int × Int) := some (measF ⟨a0_0, a0_1, a0_2, l0_3, l0_4⟩ 1 (0, 0, 0))
theorem tree_measured.calls (a0_0 : Int) (a0_1 : ByteArray) (a0_2 : Int) (A0_3 : Option Addr) (c0_3 : Nat) (l0_3 : List (S66)) (A0_4 : Option Addr) (c0_4 : Nat) (l0_4 : List (S39)) (r1 r2 r3 : Int) (w : World) (hr0_3 : Kd.C k66 w A0_3 l0_3.length l0_3) (hc0_3 : l0_3.length ≤ c0_3) (hr0_4 : Kd.C k39 w A0_4 l0_4.length l0_4) (hc0_4 : l0_4.length ≤ c0_4) (h : tree_measured.f a0_0 a0_1 a0_2 l0_3 l0_4 = some (r1, r2, r3)) :
    Calls Try.prog 76 #[.agg #[.int .i64 a0_0, .string a0_1, .int .i64 a0_2, .slice A0_3 l0_3.length c0_3, .slice A0_4 l0_4.length c0_4]] w fun e w' => e = .returned (.agg #[.int .i64 r1, .int .i64 r2, .int .i64 r3]) ∧ Below w.heap.size w w' := by
  have h1 := Option.some.inj h
  have := measured_calls ⟨a0_0, a0_1, a0_2, l0_3, l0_4⟩ A0_3 c0_3 A0_4 c0_4 w hr0_3 hc0_3 hr0_4 hc0_4
  rw [h1] at this
  exact this
end Go.Proofs.Ytjknpmibdkoklaa.Q
namespace Go.Proofs.Ytjknpmibdkoklaa.Q
open Go.RowKit Go.Proofs.YtjknpmibdkoklaaW.PrintWords Go.Proofs.YtjknpmibdkoklaaW.PrintLast Go.Proofs.YtjknpmibdkoklaaW.PrintMore
open Aside0 (mk)
open List (setIfInBounds_toArray set_cons_zero set_cons_succ)
attribute [local go_sem] max2_int min2_int max_two min_two max_three min_three max_four min_four
set_option linter.unusedVariables false
set_option linter.unusedSimpArgs false
attribute [local go_sem] fld99_2 fld103_2 fld160_0 fld160_1
def glyph_Union.j0 : Nat → List ByteArray → List ByteArray → Bool → Option (List ByteArray × Int)
  | 0, _, _, _ => none
  | k + 1, x0, x1, x14 => if x14 = true then (some (([] : List ByteArray), 3)) else ((slices_Clone_string_string.f x0).bind fun t541 => (if t541.length + x1.length < 8796093022208 then ((slices_Sort_string_string.f (t541 ++ x1)).bind fun t547 => ((slices_Compact_string_string.f t547).bind fun t548 => (some (t548, 0)))) else (none)))
def glyph_Union.f (k : Nat) (l0 : List ByteArray) (l1 : List ByteArray) : Option (List ByteArray × Int) := (glyph_Rises.f k l0).bind fun t539 => (if t539 = true then ((glyph_Rises.f k l1).bind fun t540 => (glyph_Union.j0 k l0 l1 (!t540))) else (glyph_Union.j0 k l0 l1 true))
theorem glyph_Union.mono_l : ∀ k, (∀ y0 y1 y2, LeO (glyph_Union.j0 k y0 y1 y2) (glyph_Union.j0 (k + 1) y0 y1 y2))
  | 0 => fun _ _ _ r h => by simp [glyph_Union.j0] at h
  | k + 1 => by
    have ih0 := glyph_Union.mono_l k
    · intro y0 y1 y2; (unfold glyph_Union.j0)
      repeat' first
      | (with_reducible exact ih0 _ _ _)
      | (with_reducible exact glyph_Rises.mono _ _)
      | (with_reducible exact LeO.refl _)
      | (with_reducible exact LeO.none _)
      | (with_reducible refine LeO.ite ?_ ?_)
      | (with_reducible refine LeO.bind ?_ (fun _ => ?_))
      | exact ih0 _ _ _
      | exact glyph_Rises.mono _ _
      | exact LeO.none _
      | refine LeO.ite ?_ ?_
      | refine LeO.bind ?_ (fun _ => ?_)
theorem glyph_Union.mono : ∀ a0 a1 k, LeO (glyph_Union.f k a0 a1) (glyph_Union.f (k + 1) a0 a1) := by
  intro a0 a1 k
  have ih0 := glyph_Union.mono_l k
  unfold glyph_Union.f
  repeat' first
      | (with_reducible exact ih0 _ _ _)
      | (with_reducible exact glyph_Rises.mono _ _)
      | (with_reducible exact LeO.refl _)
      | (with_reducible exact LeO.none _)
      | (with_reducible refine LeO.ite ?_ ?_)
      | (with_reducible refine LeO.bind ?_ (fun _ => ?_))
      | exact ih0 _ _ _
      | exact glyph_Rises.mono _ _
      | exact LeO.none _
      | refine LeO.ite ?_ ?_
      | refine LeO.bind ?_ (fun _ => ?_)
set_option maxHeartbeats 8000000 in
set_option maxRecDepth 100000 in
theorem glyph_Union.calls (k : Nat) (A0 : Option Addr) (c0 : Nat) (l0 : List ByteArray) (A1 : Option Addr) (c1 : Nat) (l1 : List ByteArray) (r1 : List ByteArray) (r2 : Int) (w : World) (hr0 : Kd.C Kd.string w A0 l0.length l0) (hc0 : l0.length ≤ c0) (hr1 : Kd.C Kd.string w A1 l1.length l1) (hc1 : l1.length ≤ c1) (h : glyph_Union.f k l0 l1 = some (r1, r2)) :
    Calls Try.prog 21 #[.slice A0 l0.length c0, .slice A1 l1.length c1] w fun e w' => ∃ v0_ : Value, e = .returned (.tuple #[v0_, .int .i64 r2]) ∧ Kd.R Kd.string 9 w' w.heap.size (fun _ => True) v0_ r1 ∧ Below w.heap.size w w' := by
  have HR0 := mk hr0
  have HC0 := mk hc0
  clear hr0 hc0
  have HR1 := mk hr1
  have HC1 := mk hc1
  clear hr1 hc1
  have HB := mk (Below.refl w.heap.size w)
  have H : ((glyph_Rises.f k l0).bind fun t539 => (if t539 = true then ((glyph_Rises.f k l1).bind fun t540 => (glyph_Union.j0 k l0 l1 (!t540))) else (glyph_Union.j0 k l0 l1 true))) = some (r1, r2) := h
  clear h
  have HC3 := mk H
  clear H
  go_enter Try.func21, Try.ntmps21
  go_upto_region 1 with (fail)
  go_cut [14] (fun v14 wc => ∃ (kq : Nat) (x14_2 : Bool), v14 = .bool x14_2 ∧ Aside0 (glyph_Union.j0 kq l0 l1 x14_2 = some (r1, r2)) ∧ Aside0 (kq ≤ k) ∧ Aside0 (Below w.heap.size w wc))
  case first =>
    have H := HC3.out
    clear HC3
    replace H := Option.bind_eq_some_iff.mp H
    obtain ⟨t539, A40, H⟩ := H
    replace H : (if t539 = true then ((glyph_Rises.f k l1).bind fun t540 => (glyph_Union.j0 k l0 l1 (!t540))) else (glyph_Union.j0 k l0 l1 true)) = some (r1, r2) := H
    have A4 := mk A40
    clear A40
    by_cases c5 : t539 = true
    · subst c5; (have H1 : ((glyph_Rises.f k l1).bind fun t540 => (glyph_Union.j0 k l0 l1 (!t540))) = some (r1, r2) := by rw [if_pos rfl] at H; exact H); clear H; (have H := H1); clear H1; (replace H := Option.bind_eq_some_iff.mp H); (obtain ⟨t540, A60, H⟩ := H); (replace H : (glyph_Union.j0 k l0 l1 (!t540)) = some (r1, r2) := H); (have A6 := mk A60); clear A60; (have H' := mk H); clear H; (go_wp2_with (first | ((with_reducible refine gate_callee (f := 25) rfl ?_); refine goesL_ (some 8) rfl rfl Try.func25 kq0 rfl #[.slice A0 l0.length c0] rfl kq7 ?_; (with_reducible refine (glyph_Rises.calls k _ _ l0 true _ ?side1 ?side2 A4.out).mono ?_); (case side1 => exact kq13 HR0); (case side2 => exact HC0.out); rintro e w7 ⟨rfl, hb⟩; refine ⟨_, rfl, ?_⟩; replace HB := mk (below_step kq9 hb)) | (go_at_call 25; (with_reducible refine (glyph_Rises.calls k _ _ l1 t540 _ ?side1 ?side2 A6.out).mono ?_); (case side1 => exact kq13 HR1); (case side2 => exact HC1.out); rintro e w8 ⟨rfl, hb⟩; replace HB := mk (below_step kq9 hb)))); (go_meet)
      case rel => exact ⟨_, (!t540), kq3, H', ⟨kq4⟩, ⟨kq9⟩⟩
    · (replace c5 := Bool.eq_false_iff.mpr c5); subst c5; (have H1 : (glyph_Union.j0 k l0 l1 true) = some (r1, r2) := by rw [if_neg (show ¬ (false = true) by decide)] at H; exact H); clear H; (have H := H1); clear H1; (have H' := mk H); clear H; (go_wp2_with (first | ((with_reducible refine gate_callee (f := 25) rfl ?_); refine goesL_ (some 8) rfl rfl Try.func25 kq0 rfl #[.slice A0 l0.length c0] rfl kq7 ?_; (with_reducible refine (glyph_Rises.calls k _ _ l0 false _ ?side1 ?side2 A4.out).mono ?_); (case side1 => exact kq13 HR0); (case side2 => exact HC0.out); rintro e w9 ⟨rfl, hb⟩; refine ⟨_, rfl, ?_⟩; replace HB := mk (below_step kq9 hb)))); (go_meet)
      case rel => exact ⟨_, (true), kq3, H', ⟨kq4⟩, ⟨kq9⟩⟩
  case rest =>
    clear HC3
    obtain ⟨kq, x14_2, rfl, HA, HJ2, HB⟩ := hcut
    cases kq with
    | zero => exact absurd HA.out (by simp [glyph_Union.j0])
    | succ kj2 =>
      (have H := HA.out); clear HA; (simp only [glyph_Union.j0] at H); (by_cases c10 : x14_2 = true)
      · subst c10; (have H1 : (some (([] : List ByteArray), 3)) = some (r1, r2) := by rw [if_pos rfl] at H; exact H); clear H; (have H := H1); clear H1; (simp only [Option.some.injEq, Prod.mk.injEq] at H); (obtain ⟨rfl, rfl⟩ := H); go_wp2; go_ret2; (exact ⟨_, kq12, kq20, kq9⟩)
      · (replace c10 := Bool.eq_false_iff.mpr c10); subst c10; (have H1 : ((slices_Clone_string_string.f l0).bind fun t541 => (if t541.length + l1.length < 8796093022208 then ((slices_Sort_string_string.f (t541 ++ l1)).bind fun t547 => ((slices_Compact_string_string.f t547).bind fun t548 => (some (t548, 0)))) else (none))) = some (r1, r2) := by rw [if_neg (show ¬ (false = true) by decide)] at H; exact H); clear H; (have H := H1); clear H1; (replace H := Option.bind_eq_some_iff.mp H); (obtain ⟨t541, A110, H⟩ := H); (replace H : (if t541.length + l1.length < 8796093022208 then ((slices_Sort_string_string.f (t541 ++ l1)).bind fun t547 => ((slices_Compact_string_string.f t547).bind fun t548 => (some (t548, 0)))) else (none)) = some (r1, r2) := H); (have A11 := mk A110); clear A110; replace H := ic_ H; obtain ⟨c12, H⟩ | ⟨c12, H⟩ := H
        · (have LMc12 := mk c12); clear c12; (obtain ⟨y544, hy544⟩ : ∃ y_ : List ByteArray, y_ = (t541 ++ l1) := ⟨_, rfl⟩); (replace H : ((slices_Sort_string_string.f y544).bind fun t547 => ((slices_Compact_string_string.f t547).bind fun t548 => (some (t548, 0)))) = some (r1, r2) := by first | (rw [hy544]; with_reducible exact H) | (have H2_ := (Option.bind_some _ _).symm.trans H; rw [hy544]; with_reducible exact H2_) | (have H2_ := (Option.bind_some _ _).symm.trans H; with_reducible exact H2_) | with_reducible exact H | (rw [hy544]; exact H) | exact H); (have Ny544 := mk hy544); clear hy544; (replace H := Option.bind_eq_some_iff.mp H); (obtain ⟨t547, A130, H⟩ := H); (replace H : ((slices_Compact_string_string.f t547).bind fun t548 => (some (t548, 0))) = some (r1, r2) := H); (have A13 := mk A130); clear A130; (replace H := Option.bind_eq_some_iff.mp H); (obtain ⟨t548, A140, H⟩ := H); (replace H : (some (t548, 0)) = some (r1, r2) := H); (have A14 := mk A140); clear A140; (simp only [Option.some.injEq, Prod.mk.injEq] at H); (obtain ⟨rfl, rfl⟩ := H); (go_wp2_with (first | ((with_reducible refine gate_callee (f := 62) rfl ?_); refine goesL_ (some 16) rfl rfl Try.func62 kq0 rfl #[.slice A0 l0.length c0] rfl kq7 ?_; (with_reducible refine (slices_Clone_string_string.calls _ _ l0 t541 _ ?side1 ?side2 A11.out).mono ?_); (case side1 => exact kq13 HR0); (case side2 => exact HC0.out); rintro e w15 ⟨v542, rfl, ho0, hb⟩; refine ⟨_, rfl, ?_⟩; have HO543 := mk (Kd.R_lower ho0 (below_size kq9)); replace HB := mk (below_step kq9 hb)) | ((with_reducible refine gate_builtin (b := .append) (xs := #[.tmp 16, .tmp 17]) rfl ?_); at_builtin; refine Kd.R_append_rows Kd.string (w0 := w) w.heap.size rfl (.tmp 16) (.tmp 17) 22 9 (.string ⟨#[]⟩) 16 rfl Try.underlying22 info9 rfl kq2 kq1 v542 t541 l1 _ _ _ (fun _ => True) (fun _ => False) rfl rfl ?aO ?aR (fun _ _ h => h) (fun _ h => h.elim) ?aF ?aB ?aS ?aL ?_; (case aR => exact kq13 HR1); (case aB => exact kq9); (case aF => exact (fun _ _ => trivial)); (case aO => exact (kq17 HO543)); (case aS => exact (below_size kq9)); (case aL => have := LMc12.out; omega); intro v545 w16 ho hb hg hat; rw [← Ny544.out] at ho; have HO546 := mk (ho); replace HB := mk (hb); clear HO543; clear ho hb hg hat; obtain ⟨Ao17, co17, eo17⟩ := Kd.R_slice HO546.out; subst eo17) | ((with_reducible refine gate_callee (f := 63) rfl ?_); refine goesL_ (some 20) rfl rfl Try.func63 kq0 rfl #[.slice Ao17 y544.length co17] rfl kq7 ?_; (with_reducible refine (slices_Sort_string_string.calls (fun k_ => some k_ = (.slice Ao17 y544.length co17 : Value).ownBlock) (.slice Ao17 y544.length co17) y544 t547 w _ ?side1 ?side2 A13.out).mono ?_); (case side1 => exact kq9); (case side2 => exact Kd.R_tight rfl HO546.out); rintro e w18 ⟨rfl, hy0, hb, hkp⟩; refine ⟨_, rfl, ?_⟩; replace HO546 := mk (Kd.R_reok rfl hy0 (fun k_ e_ => HO546.out.1 k_ e_)); replace HB := mk (hb)) | ((with_reducible refine gate_callee (f := 66) rfl ?_); refine goesL_ (some 22) rfl rfl Try.func66 kq0 rfl #[.slice Ao17 y544.length co17] rfl kq7 ?_; (with_reducible refine (slices_Compact_string_string.calls (fun k_ => some k_ = (.slice Ao17 y544.length co17 : Value).ownBlock) (.slice Ao17 y544.length co17) t547 t548 w _ ?side1 ?side2 A14.out).mono ?_); (case side1 => exact kq9); (case side2 => exact Kd.R_tight rfl HO546.out); rintro e w19 ⟨v549, rfl, ho0, hb, hkp⟩; refine ⟨_, rfl, ?_⟩; have HO550 := mk (Kd.R_mono (ok' := fun k_ => True) ho0 (fun k_ hk_ => trivial)); replace HB := mk (hb); clear HO546))); go_ret2; (exact ⟨_, kq12, (kq17 HO550), kq9⟩)
        · (exact absurd H (by simp))
end Go.Proofs.Ytjknpmibdkoklaa.Q
set_option maxRecDepth 100000
namespace Go.Proofs.Ytjknpmibdkoklaa.Q
open Go.RowKit Go.Proofs.YtjknpmibdkoklaaW.PrintWords Go.Proofs.YtjknpmibdkoklaaW.PrintLast Go.Proofs.YtjknpmibdkoklaaW.PrintMore
def risesB : Option ByteArray → List ByteArray → Bool
  | _, [] => true
  | p, x :: l => nameB x && ((match p with | none => true | some y => decide (bl y < bl x)) && risesB (some x) l)
theorem risesB_some : ∀ (l : List ByteArray) (y : ByteArray), risesB (some y) l = true ↔ (∀ x ∈ l, nameB x = true) ∧ Rise (y :: l)
  | [], y => by simp [risesB, Rise]
  | x :: l, y => by
    unfold risesB
    rw [Bool.and_eq_true, Bool.and_eq_true, risesB_some l x]
    simp only [decide_eq_true_eq, Rise, List.pairwise_cons]
    constructor
    · rintro ⟨h1, h2, h3, h4, h5⟩
      refine ⟨fun z hz => ?_, fun z hz => ?_, h4, h5⟩
      · rcases List.mem_cons.1 hz with rfl | hz
        · exact h1
        · exact h3 z hz
      · rcases List.mem_cons.1 hz with rfl | hz
        · exact h2
        · exact ltt h2 (h4 z hz)
    · rintro ⟨h1, h2, h4, h5⟩
      exact ⟨h1 x (List.mem_cons_self ..), h2 x (List.mem_cons_self ..), fun z hz => h1 z (List.mem_cons_of_mem _ hz), h4, h5⟩
theorem risesB_none (l : List ByteArray) : risesB none l = true ↔ (∀ x ∈ l, nameB x = true) ∧ Rise l := by
  cases l with
  | nil => simp [risesB, Rise]
  | cons x l =>
    unfold risesB
    rw [Bool.and_eq_true, Bool.and_eq_true, risesB_some l x]
    constructor
    · rintro ⟨h1, _, h3, h4⟩
      refine ⟨fun z hz => ?_, h4⟩
      rcases List.mem_cons.1 hz with rfl | hz
      · exact h1
      · exact h3 z hz
    · rintro ⟨h1, h4⟩
      exact ⟨h1 x (List.mem_cons_self ..), rfl, fun z hz => h1 z (List.mem_cons_of_mem _ hz), h4⟩
theorem rd_nat {l : List ByteArray} {i : Nat} (h : i < l.length) : rdOf ByteArray.empty l (i : Int) = l[i] := by rw [rdOf_nat, List.getD_eq_getElem?_getD, List.getElem?_eq_getElem h]; rfl
def prevS (l : List ByteArray) (i : Nat) : Option ByteArray := if i = 0 then none else l[i - 1]?
theorem prevS_succ {l : List ByteArray} {i : Nat} (h : i < l.length) : prevS l (i + 1) = some l[i] := by
  unfold prevS
  rw [if_neg kq1]
  exact List.getElem?_eq_getElem h
theorem rises_loop (l : List ByteArray) (hl : l.length < 4611686018427387904) : ∀ (n i : Nat), i ≤ l.length → l.length - i = n → Ev (fun k => glyph_Rises.l0 k l l (l.length : Int) (i : Int)) (risesB (prevS l i) (l.drop i))
  | 0, i, hi, hn => by
    rw [List.drop_of_length_le kq1]
    exact Ev.step (f := fun _ => some true) (fun k => by
      show glyph_Rises.l0 (k + 1) l l (l.length : Int) (i : Int) = _
      conv => lhs; unfold glyph_Rises.l0
      rw [if_neg kq1]) (Ev.now _)
  | n + 1, i, hi, hn => by
    have hlt : i < l.length := by omega
    have ih := rises_loop l hl n (i + 1) kq1 kq1
    rw [prevS_succ hlt] at ih
    rw [List.drop_eq_getElem_cons hlt]
    have hw : wrap64 ((i : Int) + 1) = ((i + 1 : Nat) : Int) := by unfold wrap64; omega
    have hw2 : wrap64 ((i : Int) - 1) = (i : Int) - 1 := by unfold wrap64; omega
    have step : ∀ k, glyph_Rises.l0 (k + 1) l l (l.length : Int) (i : Int) = (if nameB l[i] = true then (if (match prevS l i with | none => true | some y => decide (bl y < bl l[i])) = true then glyph_Rises.l0 k l l (l.length : Int) ((i + 1 : Nat) : Int) else some false) else some false) := fun k => by
      conv => lhs; unfold glyph_Rises.l0
      rw [if_pos kq1, if_pos kq1, if_pos kq1, rd_nat hlt, hw]
      unfold glyph_Name.f
      rw [Option.bind_some]
      by_cases hnm : nameB l[i] = true
      · rw [if_pos hnm, if_pos hnm]
        by_cases h0 : i = 0
        · subst h0
          rw [if_neg kq1]
          simp [prevS]
        · have hp : prevS l i = some l[i - 1] := by
            unfold prevS
            rw [if_neg h0]
            exact List.getElem?_eq_getElem kq1
          rw [if_pos kq1, hw2, if_pos kq1, if_pos kq1, show (i : Int) - 1 = ((i - 1 : Nat) : Int) by omega, rd_nat kq1, less_eq, hp]
      · rw [if_neg hnm, if_neg hnm]
    refine Ev.step step ?_
    unfold risesB
    by_cases h1 : nameB l[i] = true
    · refine Ev.congr (fun k => if_pos h1) ?_
      rw [h1, Bool.true_and]
      by_cases h2 : (match prevS l i with | none => true | some y => decide (bl y < bl l[i])) = true
      · refine Ev.congr (fun k => if_pos h2) ?_
        rw [h2, Bool.true_and]
        exact ih
      · refine Ev.congr (fun k => if_neg h2) ?_
        rw [Bool.eq_false_iff.mpr h2, Bool.false_and]
        exact Ev.now _
    · refine Ev.congr (fun k => if_neg h1) ?_
      rw [Bool.eq_false_iff.mpr h1, Bool.false_and]
      exact Ev.now _
theorem rises_ev (l : List ByteArray) (hl : l.length < 4611686018427387904) : Ev (fun k => glyph_Rises.f k l) (risesB none l) := rises_loop l hl _ 0 (Nat.zero_le _) rfl
def unionA (a b : List ByteArray) : List ByteArray × Int := if risesB none a = true then (if risesB none b = true then (canon (a ++ b), 0) else ([], 3)) else ([], 3)
theorem union_ev (a b : List ByteArray) (ha : a.length ≤ 1000000) (hb : b.length ≤ 1000000) : Ev (fun k => glyph_Union.f k a b) (unionA a b) := by
  have stop : ∀ r, r = true → Ev (fun k => glyph_Union.j0 k a b r) ([], 3) := fun r hr => Ev.step (f := fun _ => some ([], 3)) (fun k => by
    show glyph_Union.j0 (k + 1) a b r = _
    simp only [glyph_Union.j0]
    rw [if_pos hr]) (Ev.now _)
  refine Ev.bind (rises_ev a kq1) ?_
  unfold unionA
  by_cases h1 : risesB none a = true
  · rw [if_pos h1]
    refine Ev.congr (fun k => if_pos h1) (Ev.bind (rises_ev b kq1) ?_)
    by_cases h2 : risesB none b = true
    · rw [if_pos h2, h2]
      refine Ev.step (f := fun _ => some (canon (a ++ b), 0)) (fun k => ?_) (Ev.now _)
      show glyph_Union.j0 (k + 1) a b (!true) = _
      simp only [glyph_Union.j0]
      unfold slices_Clone_string_string.f slices_Sort_string_string.f slices_Compact_string_string.f
      rw [if_neg kq2, if_pos kq1, Option.bind_some, if_pos kq1, if_pos (by rw [List.length_append]; omega), Option.bind_some, if_pos (by rw [sortedS_length, List.length_append]; omega), Option.bind_some]
      rfl
    · rw [if_neg h2]
      exact stop _ (by rw [Bool.eq_false_iff.mpr h2]; rfl)
  · rw [if_neg h1]
    exact Ev.congr (fun k => if_neg h1) (stop true rfl)
end Go.Proofs.Ytjknpmibdkoklaa.Q
set_option maxRecDepth 100000
namespace Go.Proofs.Ytjknpmibdkoklaa.Q
open Go.RowKit Go.Proofs.YtjknpmibdkoklaaW.PrintWords Go.Proofs.YtjknpmibdkoklaaW.PrintLast Go.Proofs.YtjknpmibdkoklaaW.PrintMore
def idxFrom (s : ByteArray) : Int → List ByteArray → Int
  | _, [] => -1
  | i, x :: l => if x = s then i else idxFrom s (i + 1) l
theorem idxFrom_range (s : ByteArray) : ∀ (l : List ByteArray) (i : Int), 0 ≤ i → idxFrom s i l = -1 ∨ (i ≤ idxFrom s i l ∧ idxFrom s i l < i + l.length)
  | [], i, h => .inl rfl
  | x :: l, i, h => by
    unfold idxFrom
    split
    · right; rw [List.length_cons]; omega
    · rcases idxFrom_range s l (i + 1) kq1 with e | e
      · exact .inl e
      · right; rw [List.length_cons]; omega
theorem index_loop (l : List ByteArray) (s : ByteArray) (hl : l.length < 4611686018427387904) : ∀ (n i : Nat), i ≤ l.length → l.length - i = n → Ev (fun k => slices_Index_string_string.l0 k l s (l.length : Int) (i : Int)) (idxFrom s (i : Int) (l.drop i))
  | 0, i, hi, hn => by
    rw [List.drop_of_length_le kq1]
    exact Ev.step (f := fun _ => some (-1)) (fun k => by
      show slices_Index_string_string.l0 (k + 1) l s (l.length : Int) (i : Int) = _
      rw [slices_Index_string_string.l0, if_neg kq1]) (Ev.now _)
  | n + 1, i, hi, hn => by
    have hlt : i < l.length := by omega
    have ih := index_loop l s hl n (i + 1) kq1 kq1
    rw [List.drop_eq_getElem_cons hlt]
    unfold idxFrom
    have hw : wrap64 ((i : Int) + 1) = ((i + 1 : Nat) : Int) := by unfold wrap64; omega
    by_cases h : l[i] = s
    · rw [if_pos h]
      refine Ev.step (f := fun _ => some (i : Int)) (fun k => ?_) (Ev.now _)
      show slices_Index_string_string.l0 (k + 1) l s (l.length : Int) (i : Int) = _
      rw [slices_Index_string_string.l0, if_pos kq1, if_pos kq1, if_pos kq1, rd_nat hlt, if_pos (by rw [h])]
    · rw [if_neg h, show (i : Int) + 1 = ((i + 1 : Nat) : Int) by omega]
      refine Ev.step (f := fun k => slices_Index_string_string.l0 k l s (l.length : Int) ((i + 1 : Nat) : Int)) (fun k => ?_) ih
      show slices_Index_string_string.l0 (k + 1) l s (l.length : Int) (i : Int) = _
      rw [slices_Index_string_string.l0, if_pos kq1, if_pos kq1, if_pos kq1, rd_nat hlt, if_neg (fun e => h (bl_inj (by rw [← bl_eq, ← bl_eq, e]))), hw]
theorem index_ev (l : List ByteArray) (s : ByteArray) (hl : l.length < 4611686018427387904) : Ev (fun k => glyph_Index.f k l s) (idxFrom s 0 l) := by
  refine Ev.bind (a := idxFrom s 0 l) ?_ (Ev.now _)
  exact index_loop l s hl _ 0 (Nat.zero_le _) rfl
def ofS (l0 : List ByteArray) (l1 : List Int) (s : ByteArray) : Int := if idxFrom s 0 l0 ≥ 0 then rd l1 (idxFrom s 0 l0) else 0
theorem of_ev (l0 : List ByteArray) (l1 : List Int) (ka ea : Int) (s : ByteArray) (hl : l0.length ≤ 1000000) (h : l0.length ≤ l1.length) : Ev (fun k => norm_sum_of.f k l0 l1 ka ea s) (ofS l0 l1 s) := by
  refine Ev.bind (index_ev l0 s kq1) ?_
  by_cases h0 : idxFrom s 0 l0 ≥ 0
  · rw [show ofS l0 l1 s = rd l1 (idxFrom s 0 l0) from if_pos h0]
    refine Ev.congr (f := fun _ => some (rd l1 (idxFrom s 0 l0))) (fun k => ?_) (Ev.now _)
    rcases idxFrom_range s l0 0 kq1 with e | e
    · omega
    · rw [if_pos h0, if_pos kq1, if_pos kq1]
  · rw [show ofS l0 l1 s = 0 from if_neg h0]
    exact Ev.congr (fun k => if_neg h0) (Ev.now _)
theorem of_at (l0 : List ByteArray) (l1 : List Int) (ka ea : Int) (s : ByteArray) (hl : l0.length ≤ 1000000) (h : l0.length ≤ l1.length) : ∃ k, norm_sum_of.f k l0 l1 ka ea s = some (ofS l0 l1 s) := (of_ev l0 l1 ka ea s hl h).rounds
end Go.Proofs.Ytjknpmibdkoklaa.Q
set_option maxRecDepth 100000
namespace Go.Proofs.Ytjknpmibdkoklaa.Q
open Go.RowKit Go.Proofs.YtjknpmibdkoklaaW.PrintWords Go.Proofs.YtjknpmibdkoklaaW.PrintLast Go.Proofs.YtjknpmibdkoklaaW.PrintMore
open Aside0 (mk)
def coeffE (er e : Int) : Int := if e = 0 then er else if er = 0 then 91 else er
set_option maxHeartbeats 4000000 in
theorem coeff_calls (g : Nat) (nm cf : Value) (ko er v e : Int) (w0 w : World) (hw : w0.heap.size ≤ g) (hB : Below w0.heap.size w0 w) (hg : w.heap[g]? = some (.cells #[nm, cf, .int .i64 ko, .int .i64 er] 107 (0, 0))) :
    Calls Try.prog 84 #[.pointer (some ⟨g, 0, none⟩), .int .i64 v, .int .i64 e] w fun en w' => en = .returned (.int .i64 v) ∧ w'.heap[g]? = some (.cells #[nm, cf, .int .i64 ko, .int .i64 (coeffE er e)] 107 (0, 0)) ∧ KeepBut w w' g none ∧ Below w0.heap.size w0 w' := by
  have h3 : w.cell? ⟨g, 3, none⟩ = some (.int .i64 er) := (blk_cell hg 3).trans rfl
  have hf := blk_frozen hg 3
  have HG := mk hg
  have HB := mk hB
  have HK := mk (KeepBut.refl w g none)
  clear hg hB
  by_cases he : e = 0
  · have he0 : (e != 0) = false := bne_eq_false_iff_eq.mpr he
    have he1 : (e == 0) = true := beq_iff_eq.mpr he
    have HE := mk he
    clear he
    go_enter Try.func84, Try.ntmps84
    go_wp2
    go_ret
    exact ⟨rfl, by unfold coeffE; rw [if_pos HE.out]; exact HG.out, HK.out, HB.out⟩
  · have he0 : (e != 0) = true := bne_iff_ne.mpr he
    have he1 : (e == 0) = false := beq_eq_false_iff_ne.mpr he
    have HE := mk he
    clear he
    by_cases hr : er = 0
    · have hr0 : (er == 0) = true := beq_iff_eq.mpr hr
      have HR := mk hr
      clear hr
      go_enter Try.func84, Try.ntmps84
      go_wp2
      go_ret
      exact ⟨rfl, by unfold coeffE; rw [if_neg HE.out, if_pos HR.out]; exact blk_put HG.out 3 _ rfl, KeepBut.set_ HK.out _ _, below_set HB.out hw⟩
    · have hr0 : (er == 0) = false := beq_eq_false_iff_ne.mpr hr
      have HR := mk hr
      clear hr
      go_enter Try.func84, Try.ntmps84
      go_wp2
      go_ret
      exact ⟨rfl, by unfold coeffE; rw [if_neg HE.out, if_neg HR.out]; exact HG.out, HK.out, HB.out⟩
end Go.Proofs.Ytjknpmibdkoklaa.Q
