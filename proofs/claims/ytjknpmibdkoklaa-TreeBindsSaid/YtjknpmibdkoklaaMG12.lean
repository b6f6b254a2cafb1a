/- Functions of the given program as Lean functions, each with its contract, and what they answer; words for it. No condition but those of each. -/
import Derived.Test.YtjknpmibdkoklaaMG8
import Derived.Test.YtjknpmibdkoklaaMG11
import Derived.LoopTactic
import Derived.Shelf.Abstract
set_option maxRecDepth 100000
namespace Go.Proofs.Ytjknpmibdkoklaa.Q
open Go.RowKit Go.Proofs.YtjknpmibdkoklaaW.PrintWords Go.Proofs.YtjknpmibdkoklaaW.PrintLast Go.Proofs.YtjknpmibdkoklaaW.PrintMore
open Aside0 (mk)
def okT (t : S66) : Bool := (tree_term.f t.f0 t.f1 t.f2 t.f3).getD false
theorem okT_at (t : S66) : tree_term.f t.f0 t.f1 t.f2 t.f3 = some (okT t) := by
  unfold okT tree_term.f
  simp only [glyph_Name.f, Option.bind_some]
  (repeat' split) <;> rfl
mutual
def measT : S66 → Int → Int × Int × Int → Int × Int × Int
  | ⟨a, b, s, l⟩, dep, m => if (nodeM dep (okT ⟨a, b, s, l⟩) m).2.2 = 0 then measTs l (wrap64 (dep + 1)) (nodeM dep (okT ⟨a, b, s, l⟩) m) else nodeM dep (okT ⟨a, b, s, l⟩) m
def measTs : List S66 → Int → Int × Int × Int → Int × Int × Int
  | [], _, m => m
  | t :: l, dep, m => if (measT t dep m).2.2 = 0 then measTs l dep (measT t dep m) else measT t dep m
end
theorem measT_eq (t : S66) (dep : Int) (m : Int × Int × Int) : measT t dep m = if (nodeM dep (okT t) m).2.2 = 0 then measTs t.f3 (wrap64 (dep + 1)) (nodeM dep (okT t) m) else nodeM dep (okT t) m := by
  cases t; rw [measT]
theorem measTs_drop {l : List S66} {i : Nat} (h : i < l.length) (dep : Int) (m : Int × Int × Int) : measTs (l.drop i) dep m = if (measT l[i] dep m).2.2 = 0 then measTs (l.drop (i + 1)) dep (measT l[i] dep m) else measT l[i] dep m := by
  rw [List.drop_eq_getElem_cons h, measTs]
structure Going (w0 w W : World) (c g : Nat) (m : Int × Int × Int) : Prop where
  st : StM 103 W g m
  cl : ClM W c g
  keep : KeepBut w W g none
  below : Below w0.heap.size w0 W
theorem Going.ne {w0 w W : World} {c g : Nat} {m : Int × Int × Int} (h : Going w0 w W c g m) : c ≠ g := blk_ne h.cl h.st (by decide)
theorem Going.then_ {w0 w W W' : World} {c g : Nat} {m : Int × Int × Int} (h : Going w0 w W c g m) (hb : Below W.heap.size W W') : Going w0 w W' c g m :=
  ⟨h.st.below hb, blk_below h.cl hb, h.keep.trans (KeepBut.of_below hb g none) (.inl rfl), below_step h.below hb⟩
theorem Going.step {w0 w W W' : World} {c g : Nat} {m m' : Int × Int × Int} (h : Going w0 w W c g m) (hs : StM 103 W' g m') (hk : KeepBut W W' g none) (hb : Below w0.heap.size w0 W') : Going w0 w W' c g m' :=
  ⟨hs, hk.blk h.cl h.ne (by simp), h.keep.trans hk (.inl rfl), hb⟩
theorem Going.self {w0 w W : World} {c g : Nat} {m : Int × Int × Int} (h : Going w0 w W c g m) : Going w0 W W c g m := ⟨h.st, h.cl, KeepBut.refl W g none, h.below⟩
theorem Going.drewN {w0 w W : World} {c g : Nat} {m : Int × Int × Int} (h : Going w0 w W c g m) (n : Nat) : Going w0 w (W.drewN n) c g m := h.then_ (pw_below_drewN (Below.refl _ _) n)
set_option maxHeartbeats 8000000 in
theorem walkT_calls : ∀ (n : Nat) (t : S66), SizeOf.sizeOf t < n → ∀ (A : Option Addr) (c0 : Nat) (dep : Int) (m : Int × Int × Int) (w0 w : World) (c g : Nat), w0.heap.size ≤ g → Going w0 w w c g m → Kd.C k66 w0 A t.f3.length t.f3 → t.f3.length ≤ c0 →
    Calls Try.prog 126 #[.func (.func 161) #[] #[.pointer (some ⟨c, 0, none⟩)], .agg #[.int .i64 t.f0, .int .i64 t.f1, .string t.f2, .slice A t.f3.length c0], .int .i64 dep] w fun en w' => en = .returned (.bool ((measT t dep m).2.2 == 0)) ∧ Going w0 w w' c g (measT t dep m) := by
  intro n
  induction n with
  | zero => exact fun t h => absurd h (Nat.not_lt_zero _)
  | succ n ih =>
  intro t ht A c0 dep m w0 w c g hwg hG hr hc0
  have hu66 := Try.underlying66
  have HR := mk hr
  have HC := mk hc0
  have HG := mk hG
  have HT := mk ht
  clear hr hc0 hG ht
  have hok := mk (okT_at t)
  rw [measT_eq]
  have hlen := HR.out.2.1
  generalize hN : nodeM dep (okT t) m = nm
  have HN := mk hN
  clear hN
  obtain ⟨s1, d1, e1⟩ := nm
  by_cases he : e1 = 0
  · subst he
    rw [if_pos rfl]
    go_enter Try.func126, Try.ntmps126
    go_wp2_with (first | ((with_reducible refine gate_dst (N := 4) rfl ?_); refine box_event ?hg (N := 4) ?hd (cs := #[.int .i64 t.f0, .int .i64 t.f1, .string t.f2, .slice A t.f3.length c0]) (t := 66) ?hr ?_; (case hd => rfl); (case hg => rfl); (case hr => first | (go_simp; done) | (go_simp; rfl)); intro gb hgb w1 hbox hb; have HG1 := mk (HG.out.then_ hb); have BK := mk hbox; have GE := mk (Nat.le_of_eq hgb.symm); clear HG hb hbox hgb; have q0 : w1.cell? ⟨gb, 0, none⟩ = some (.int .i64 t.f0) := (blk_cell BK.out 0).trans rfl; have q1 : w1.cell? ⟨gb, 1, none⟩ = some (.int .i64 t.f1) := (blk_cell BK.out 1).trans rfl; have q2 : w1.cell? ⟨gb, 2, none⟩ = some (.string t.f2) := (blk_cell BK.out 2).trans rfl; have q3 : w1.cell? ⟨gb, 3, none⟩ = some (.slice A t.f3.length c0) := (blk_cell BK.out 3).trans rfl) | (go_at_call 165; (with_reducible refine (tree_term.calls t.f0 t.f1 t.f2 A c0 t.f3 (okT t) _ ?side1 ?side2 hok.out).mono ?_); (case side1 => exact Kd.C_below HR.out HG1.out.below); (case side2 => exact HC.out); rintro e w2 ⟨rfl, hb⟩; have HG2 := mk (HG1.out.then_ hb); have BK2 := mk (blk_below BK.out hb); clear HG1 BK hb) | (go_at_call 161; refine (met_calls c g m.1 m.2.1 m.2.2 dep (okT t) w0 _ hwg HG2.out.below HG2.out.st HG2.out.cl).mono ?_; rw [show ((m.1, m.2.1, m.2.2) : Int × Int × Int) = m from rfl, HN.out]; rintro e w3 ⟨rfl, hs, hk, hb⟩; have BK3 := mk (hk.blk BK2.out (blk_ne BK2.out HG2.out.st (by decide)) (by simp)); have HG3 := mk (HG2.out.step hs hk hb); clear HG2 BK2 hs hk hb; have r3 : w3.cell? ⟨gb, 3, none⟩ = some (.slice A t.f3.length c0) := (blk_cell BK3.out 3).trans rfl))
    go_loopg [18] t.f3.length (fun gq v18 wr => ∃ (i : Nat) (mm : Int × Int × Int), v18 = .int .i64 i ∧ Aside0 (i ≤ t.f3.length) ∧ Aside0 (t.f3.length - i ≤ gq) ∧ Aside0 (measTs (t.f3.drop i) (wrap64 (dep + 1)) mm = measTs t.f3 (wrap64 (dep + 1)) (s1, d1, 0)) ∧ Aside0 (mm.2.2 = 0) ∧ Aside0 (wr.heap[gb]? = some (.cells #[.int .i64 t.f0, .int .i64 t.f1, .string t.f2, .slice A t.f3.length c0] 66 (0, 0))) ∧ Aside0 (Going w0 w wr c g mm))
    case atStart => exact ⟨0, (s1, d1, 0), rfl, ⟨Nat.zero_le _⟩, ⟨by omega⟩, ⟨by rw [List.drop_zero]⟩, ⟨rfl⟩, ⟨BK3.out⟩, ⟨HG3.out⟩⟩
    case round =>
      obtain ⟨i, mm, rfl, HI, HQ, HM, HZ, BK, HG⟩ := hrel
      by_cases hi : i < t.f3.length
      · have hiz : (i : Int) < (t.f3.length : Int) := by omega
        have hi0 : (0 : Int) ≤ (i : Int) := by omega
        obtain ⟨ad, A2, c2, ead, hx0, hx1, hx2, hx3, hl3, hi3⟩ := at_T66 HR.out (i : Int) hi0 hiz
        cases ead
        have hx : rd_T66 t.f3 (i : Int) = t.f3[i] := by simp [rd_T66, hi]
        rw [hx] at hx0 hx1 hx2 hx3 hl3 hi3
        rw [Int.toNat_natCast] at hx0 hx1 hx2 hx3
        have hB := HG.out.below
        replace hx0 := (hB.cell (World.block_lt_of_cell? _ _ hx0)).trans hx0
        replace hx1 := (hB.cell (World.block_lt_of_cell? _ _ hx1)).trans hx1
        replace hx2 := (hB.cell (World.block_lt_of_cell? _ _ hx2)).trans hx2
        replace hx3 := (hB.cell (World.block_lt_of_cell? _ _ hx3)).trans hx3
        have HL3 := mk hl3
        have HI3 := mk hi3
        have HMD := mk ((measTs_drop hi (wrap64 (dep + 1)) mm).symm.trans HM.out)
        have HSZ := mk (show SizeOf.sizeOf t.f3[i] < n by
          have h1 := List.sizeOf_lt_of_mem (List.getElem_mem hi)
          have h2 : SizeOf.sizeOf t.f3 < SizeOf.sizeOf t := by cases t; simp; omega
          have := HT.out
          omega)
        clear hl3 hi3 hB hx HM
        generalize t.f3[i] = y at hx0 hx1 hx2 hx3 HL3 HI3 HMD HSZ
        by_cases hy : (measT y (wrap64 (dep + 1)) mm).2.2 = 0
        · have hyb : ((measT y (wrap64 (dep + 1)) mm).2.2 == 0) = true := beq_iff_eq.2 hy
          have HY := mk hy
          rw [if_pos hy] at HMD
          clear hy
          go_wp2_with (first | ((with_reducible refine gate_dst (N := 8) rfl ?_); refine box_event ?hg (N := 8) ?hd (cs := #[.int .i64 0, .int .i64 0, .string (⟨#[]⟩ : ByteArray), .slice none 0 0]) (t := 66) ?hr ?_; (case hd => rfl); (case hg => rfl); (case hr => first | (go_simp; done) | (go_simp; rfl)); intro gb2 hgb2 w4 hbox hb; have BK4 := mk hbox; have HB4 := mk hb; have GE4 := mk (Nat.le_of_eq hgb2.symm); clear hb hbox hgb2; have z0 : w4.cell? ⟨gb2, 0, none⟩ = some (.int .i64 0) := (blk_cell BK4.out 0).trans rfl; have z1 : w4.cell? ⟨gb2, 1, none⟩ = some (.int .i64 0) := (blk_cell BK4.out 1).trans rfl; have z2 : w4.cell? ⟨gb2, 2, none⟩ = some (.string (⟨#[]⟩ : ByteArray)) := (blk_cell BK4.out 2).trans rfl; have z3 : w4.cell? ⟨gb2, 3, none⟩ = some (.slice none 0 0) := (blk_cell BK4.out 3).trans rfl; have y0 := blk_frozen BK4.out 0; have y1 := blk_frozen BK4.out 1; have y2 := blk_frozen BK4.out 2; have y3 := blk_frozen BK4.out 3) | (go_at_call 126; refine (ih y HSZ.out A2 c2 (wrap64 (dep + 1)) mm w0 _ c g hwg ?s1 HI3.out HL3.out).mono ?_; (case s1 => exact (HG.out.then_ (by repeat (first | (with_reducible exact HB4.out) | (with_reducible refine below_set ?_ GE4.out)))).self); rw [hyb]; rintro e w5 ⟨rfl, hg5⟩; have HG5 := mk ((HG.out.then_ (by repeat (first | (with_reducible exact HB4.out) | (with_reducible refine below_set ?_ GE4.out)))).step hg5.st hg5.keep hg5.below); have BK5 := mk (hg5.keep.blk (blk_below BK.out (by repeat (first | (with_reducible exact HB4.out) | (with_reducible refine below_set ?_ GE4.out)))) (blk_ne BK.out HG.out.st (by decide)) (by simp)); clear hg5))
          go_roundg (t.f3.length - (i + 1))
          case measure => have := HQ.out; omega
          case rel => exact ⟨i + 1, _, by first | rfl | rw [show wrap64 ((i : Int) + 1) = ((i + 1 : Nat) : Int) from by unfold wrap64; omega], ⟨by omega⟩, ⟨by omega⟩, HMD, HY, BK5, HG5⟩
        · have hyb : ((measT y (wrap64 (dep + 1)) mm).2.2 == 0) = false := beq_eq_false_iff_ne.2 hy
          rw [if_neg hy] at HMD
          clear hy
          go_wp2_with (first | ((with_reducible refine gate_dst (N := 8) rfl ?_); refine box_event ?hg (N := 8) ?hd (cs := #[.int .i64 0, .int .i64 0, .string (⟨#[]⟩ : ByteArray), .slice none 0 0]) (t := 66) ?hr ?_; (case hd => rfl); (case hg => rfl); (case hr => first | (go_simp; done) | (go_simp; rfl)); intro gb2 hgb2 w4 hbox hb; have BK4 := mk hbox; have HB4 := mk hb; have GE4 := mk (Nat.le_of_eq hgb2.symm); clear hb hbox hgb2; have z0 : w4.cell? ⟨gb2, 0, none⟩ = some (.int .i64 0) := (blk_cell BK4.out 0).trans rfl; have z1 : w4.cell? ⟨gb2, 1, none⟩ = some (.int .i64 0) := (blk_cell BK4.out 1).trans rfl; have z2 : w4.cell? ⟨gb2, 2, none⟩ = some (.string (⟨#[]⟩ : ByteArray)) := (blk_cell BK4.out 2).trans rfl; have z3 : w4.cell? ⟨gb2, 3, none⟩ = some (.slice none 0 0) := (blk_cell BK4.out 3).trans rfl; have y0 := blk_frozen BK4.out 0; have y1 := blk_frozen BK4.out 1; have y2 := blk_frozen BK4.out 2; have y3 := blk_frozen BK4.out 3) | (go_at_call 126; refine (ih y HSZ.out A2 c2 (wrap64 (dep + 1)) mm w0 _ c g hwg ?s1 HI3.out HL3.out).mono ?_; (case s1 => exact (HG.out.then_ (by repeat (first | (with_reducible exact HB4.out) | (with_reducible refine below_set ?_ GE4.out)))).self); rw [hyb]; rintro e w5 ⟨rfl, hg5⟩; have HG5 := mk ((HG.out.then_ (by repeat (first | (with_reducible exact HB4.out) | (with_reducible refine below_set ?_ GE4.out)))).step hg5.st hg5.keep hg5.below); have BK5 := mk (hg5.keep.blk (blk_below BK.out (by repeat (first | (with_reducible exact HB4.out) | (with_reducible refine below_set ?_ GE4.out)))) (blk_ne BK.out HG.out.st (by decide)) (by simp)); clear hg5))
          go_ret
          exact ⟨by rw [← HMD.out, hyb]; rfl, by rw [← HMD.out]; exact HG5.out⟩
      · have hiz : ¬ (i : Int) < (t.f3.length : Int) := by omega
        have hil : i = t.f3.length := by have := HI.out; omega
        have HE := mk (show mm = measTs t.f3 (wrap64 (dep + 1)) (s1, d1, 0) by rw [← HM.out, hil, List.drop_length]; rfl)
        clear hil HM hi
        go_wp2
        go_ret
        exact ⟨by rw [← HE.out, beq_iff_eq.2 HZ.out]; rfl, by rw [← HE.out]; exact HG.out⟩
  · have he1 : (e1 == 0) = false := beq_eq_false_iff_ne.2 he
    rw [if_neg he]
    go_enter Try.func126, Try.ntmps126
    go_wp2_with (first | ((with_reducible refine gate_dst (N := 4) rfl ?_); refine box_event ?hg (N := 4) ?hd (cs := #[.int .i64 t.f0, .int .i64 t.f1, .string t.f2, .slice A t.f3.length c0]) (t := 66) ?hr ?_; (case hd => rfl); (case hg => rfl); (case hr => first | (go_simp; done) | (go_simp; rfl)); intro gb hgb w1 hbox hb; have HG1 := mk (HG.out.then_ hb); have BK := mk hbox; have GE := mk (Nat.le_of_eq hgb.symm); clear HG hb hbox hgb; have q0 : w1.cell? ⟨gb, 0, none⟩ = some (.int .i64 t.f0) := (blk_cell BK.out 0).trans rfl; have q1 : w1.cell? ⟨gb, 1, none⟩ = some (.int .i64 t.f1) := (blk_cell BK.out 1).trans rfl; have q2 : w1.cell? ⟨gb, 2, none⟩ = some (.string t.f2) := (blk_cell BK.out 2).trans rfl; have q3 : w1.cell? ⟨gb, 3, none⟩ = some (.slice A t.f3.length c0) := (blk_cell BK.out 3).trans rfl) | (go_at_call 165; (with_reducible refine (tree_term.calls t.f0 t.f1 t.f2 A c0 t.f3 (okT t) _ ?side1 ?side2 hok.out).mono ?_); (case side1 => exact Kd.C_below HR.out HG1.out.below); (case side2 => exact HC.out); rintro e w2 ⟨rfl, hb⟩; have HG2 := mk (HG1.out.then_ hb); have BK2 := mk (blk_below BK.out hb); clear HG1 BK hb) | (go_at_call 161; refine (met_calls c g m.1 m.2.1 m.2.2 dep (okT t) w0 _ hwg HG2.out.below HG2.out.st HG2.out.cl).mono ?_; rw [show ((m.1, m.2.1, m.2.2) : Int × Int × Int) = m from rfl, HN.out]; rintro e w3 ⟨rfl, hs, hk, hb⟩; have BK3 := mk (hk.blk BK2.out (blk_ne BK2.out HG2.out.st (by decide)) (by simp)); have HG3 := mk (HG2.out.step hs hk hb); clear HG2 BK2 hs hk hb; have r3 : w3.cell? ⟨gb, 3, none⟩ = some (.slice A t.f3.length c0) := (blk_cell BK3.out 3).trans rfl))
    go_ret
    exact ⟨by rw [he1]; rfl, HG3.out⟩
end Go.Proofs.Ytjknpmibdkoklaa.Q
