/- Functions of the given program as Lean functions, each with its contract, and what they answer; words for it. No condition but those of each. -/
import Derived.Test.YtjknpmibdkoklaaMLS
import Derived.Test.YtjknpmibdkoklaaMLR
import Derived.Test.YtjknpmibdkoklaaML13
import Derived.Test.YtjknpmibdkoklaaML12
import Derived.Test.YtjknpmibdkoklaaML6
import Derived.LoopTactic
import Derived.Shelf.Abstract
import Derived.Deep.RegionHeld3
import Derived.Deep.RegionLaw
import Derived.Test.YtjknpmibdkoklaaML3
set_option linter.unusedVariables false
set_option linter.unusedSimpArgs false
set_option maxRecDepth 100000
namespace Go.Proofs.Ytjknpmibdkoklaa.Q
open Go.RowKit Go.Proofs.YtjknpmibdkoklaaW.PrintWords Go.Proofs.YtjknpmibdkoklaaW.PrintLast Go.Proofs.YtjknpmibdkoklaaW.PrintMore
open Aside0 (mk)
def negP (a : Int) : Int × Int := (chk_Neg.f a).getD (0, 0)
theorem neg_at (a : Int) : chk_Neg.f a = some ((negP a).1, (negP a).2) := by
  unfold negP chk_Neg.f
  rw [sub_at]
  rfl
def restP (c m : Int) : Int × Int := (chk_Rest.f c m).getD (0, 0)
theorem rest9_at (c m : Int) : chk_Rest.f c m = some ((restP c m).1, (restP c m).2) := by
  have h : ∃ p, chk_Rest.f c m = some p := by
    unfold chk_Rest.f
    by_cases h1 : m < 1
    · exact ⟨_, if_pos h1⟩
    · rw [if_neg h1, if_neg kq1]
      split <;> exact ⟨_, rfl⟩
  obtain ⟨p, hp⟩ := h
  unfold restP
  rw [hp]
  rfl
def restsL (m : Int) (cs : List Int) (i : Nat) : List Int := (cs.take i).map (fun c => (restP c m).1) ++ cs.drop i
theorem restsL_zero (m : Int) (cs : List Int) : restsL m cs 0 = cs := by simp [restsL]
theorem restsL_length (m : Int) (cs : List Int) (i : Nat) : (restsL m cs i).length = cs.length := by simp [restsL]; omega
theorem restsL_all (m : Int) (cs : List Int) : restsL m cs cs.length = cs.map fun c => (restP c m).1 := by simp [restsL]
theorem restsL_at (m : Int) (cs : List Int) (i : Nat) (h : i < cs.length) : rdOf 0 (restsL m cs i) (i : Int) = cs[i] := by
  unfold rdOf restsL
  rw [Int.toNat_natCast, List.getD_eq_getElem?_getD, List.getElem?_append_right (by simp; omega)]
  simp [List.getElem?_drop, Nat.min_eq_left (Nat.le_of_lt h), List.getElem?_eq_getElem h]
theorem restsL_set (m : Int) (cs : List Int) (i : Nat) (h : i < cs.length) : (restsL m cs i).set i (restP cs[i] m).1 = restsL m cs (i + 1) := by
  unfold restsL
  rw [List.set_append_right _ _ (by simp; omega), List.take_succ_eq_append_getElem h, List.map_append, List.append_assoc]
  congr 1
  simp only [List.length_map, List.length_take, Nat.min_eq_left (Nat.le_of_lt h), Nat.sub_self]
  rw [List.drop_eq_getElem_cons h]
  rfl
set_option maxHeartbeats 8000000 in
theorem rests_calls (g : Nat) (kd b md : Int) (vn vc : Value) (cs : List Int) (w0 w : World) (hw : w0.heap.size ≤ g) (hB : Below w0.heap.size w0 w) (hg : w.heap[g]? = some (.cells #[.int .i64 kd, vn, vc, .int .i64 b, .int .i64 md] 58 (0, 0))) (hc : Kd.R (Kd.int .i64) 2 w w0.heap.size (fun _ => True) vc cs) (hl : cs.length ≤ 1000000) :
    Calls Try.prog 86 #[.pointer (some ⟨g, 0, none⟩)] w fun e w' => e = .returned (.tuple #[]) ∧ w'.heap[g]? = some (.cells #[.int .i64 kd, vn, vc, .int .i64 (restP b md).1, .int .i64 md] 58 (0, 0)) ∧ Kd.R (Kd.int .i64) 2 w' w0.heap.size (fun _ => True) vc (cs.map fun c => (restP c md).1) ∧ KeepBut w w' g vc.ownBlock ∧ Below w0.heap.size w0 w' := by
  have hu58 := Try.underlying58
  obtain ⟨A, c, rfl⟩ := Kd.R_slice hc
  have BKg := mk hg
  have HLL := mk hl
  have HW := mk hw
  have HRc := mk (show Kd.R (Kd.int .i64) 2 w w0.heap.size (fun _ => True) (.slice A cs.length c) (restsL md cs 0) by rw [restsL_zero]; exact hc)
  have HB := mk hB
  have HK := mk (KeepBut.refl w g (Value.slice A cs.length c).ownBlock)
  clear hg hl hw hc hB
  go_enter Try.func86, Try.ntmps86
  have c0_ : w.cell? ⟨g, 2, none⟩ = some (.slice A cs.length c) := (blk_cell BKg.out 2).trans rfl
  go_wp2
  clear c0_
  go_loopg [9] cs.length (fun gq v9 wr => ∃ (i : Nat), v9 = .int .i64 i ∧ Aside0 (i ≤ cs.length) ∧ Aside0 (cs.length - i ≤ gq) ∧ Aside0 (wr.heap[g]? = some (.cells #[.int .i64 kd, vn, .slice A cs.length c, .int .i64 b, .int .i64 md] 58 (0, 0))) ∧ Aside0 (Kd.R (Kd.int .i64) 2 wr w0.heap.size (fun _ => True) (.slice A cs.length c) (restsL md cs i)) ∧ Aside0 (KeepBut w wr g (Value.slice A cs.length c).ownBlock) ∧ Aside0 (Below w0.heap.size w0 wr))
  case atStart => exact ⟨0, rfl, ⟨Nat.zero_le _⟩, ⟨kq1⟩, BKg, HRc, HK, HB⟩
  case round =>
    clear BKg HRc HK HB
    obtain ⟨i, rfl, HI, HQ, BKg, HRc, HK, HB⟩ := hrel
    by_cases hi : i < cs.length
    · have hiz : (i : Int) < (cs.length : Int) := by omega
      have hi0 : (0 : Int) ≤ (i : Int) := by omega
      have hln := restsL_length md cs i
      obtain ⟨h, cap, ev, hbh, hlh, cells_, hcells⟩ := Kd.R_form HRc.out (by rw [hln]; omega)
      injection ev with ev1 ev2 ev3
      subst ev1 ev3
      rw [hln] at ev2
      clear ev2
      have hx := (Kd.R_celln 0 HRc.out (i : Int) hi0 hiz)
      rw [Int.toNat_natCast, show rdOf 0 (restsL md cs i) (i : Int) = cs[i] from restsL_at md cs i hi] at hx
      obtain ⟨hx, hxf⟩ := hx
      have HST := mk (restsL_set md cs i hi)
      have hne : h ≠ g := fun e => by subst e; have q_ := BKg.out.symm.trans hcells; injection q_ with q_; injection q_ with _ q_; exact absurd q_ kq2
      have HNE := mk hne
      have HHG := mk (show w0.heap.size ≤ h from hbh)
      clear hln hcells hlh hbh hne
      generalize cs[i] = x at hx HST
      go_wp2
      refine start_ (n := 16) (S := fun w' => w'.cell? ⟨g, 2, none⟩ = some (.slice (some ⟨h, 0, none⟩) cs.length c) ∧ w'.cell? ⟨g, 4, none⟩ = some (.int .i64 md)) (ds := [15]) #[false,false,false,false,false,false,false,false,false,false,false,false,false,false,false,false] kq0 rfl rfl ⟨(blk_cell BKg.out 2).trans rfl, (blk_cell BKg.out 4).trans rfl⟩ (fun hHeld => ?_)
      replace BKg : Aside0 (wr.drew.heap[g]? = some (.cells #[.int .i64 kd, vn, .slice (some ⟨h, 0, none⟩) cs.length c, .int .i64 b, .int .i64 md] 58 (0, 0))) := ⟨BKg.out⟩
      replace HRc : Aside0 (Kd.R (Kd.int .i64) 2 wr.drew w0.heap.size (fun _ => True) (.slice (some ⟨h, 0, none⟩) cs.length c) (restsL md cs i)) := ⟨HRc.out⟩
      replace HK : Aside0 (KeepBut w wr.drew g (some h)) := ⟨HK.out⟩
      replace HB : Aside0 (Below w0.heap.size w0 wr.drew) := ⟨below_drew1 HB.out⟩
      generalize wr.drew = w5 at BKg HRc HK HB hHeld ⊢
      refine pu_ 0 15 ?_
      refine pu_ 1 16 ?_
      refine pu_ 2 17 ?_
      refine ta_ 3 18 hHeld ?_
      refine pu_ 4 19 ?_
      refine pu_ 5 20 ?_
      refine pu_ 6 21 ?_
      refine pu_ 7 22 ?_
      refine pu_ 8 23 ?_
      refine ta_ 9 24 hHeld ?_
      refine on_ 10 25 (fun K hK => ?_)
      refine goes_ Try.func124 kq0 rfl #[.int .i64 x, .int .i64 md] (by rfl) rfl rfl kq50 ?_
      refine (chk_Rest.calls x md _ _ _ (rest9_at x md)).mono ?_
      rintro e w6 ⟨rfl, hd⟩
      have hb := hd.below
      clear hd
      refine ⟨_, rfl, ?_⟩
      have m0_ := mk (blk_below BKg.out hb)
      have m1_ := mk (Kd.R_below HRc.out hb)
      have m2_ := mk (KeepBut.trans HK.out (KeepBut.of_below hb g _) (.inl rfl))
      have m3_ := mk (below_then HB.out HB.out.size hb)
      clear BKg HRc HK HB
      have BKg := m0_
      have HRc := m1_
      have HK := m2_
      have HB := m3_
      clear m0_ m1_ m2_ m3_
      clear hb
      refine hK.out _ _ ⟨(blk_cell BKg.out 2).trans rfl, (blk_cell BKg.out 4).trans rfl⟩ (fun hHeld => ?_)
      clear hK K
      refine norm_ (a' := ?_) ?_ ?_
      rotate_left
      · show Act.put _ (some 25) _ = _
        simp only [Act.put, List.setIfInBounds_toArray, List.set_cons_zero, List.set_cons_succ]
        rfl
      refine pu_ 11 14 ?_
      refine pu_ 12 26 ?_
      refine pu_ 13 27 ?_
      refine pu_ 14 28 ?_
      have hput := Kd.R_putg HRc.out (i : Int) (restP x md).1
      rw [Int.toNat_natCast, HST.out] at hput
      have hxc := (Kd.R_celln 0 HRc.out (i : Int) hi0 hiz)
      rw [Int.toNat_natCast] at hxc
      obtain ⟨hxc, hxg⟩ := hxc
      refine last_ (i := 15) (N := none) #[true,true,true,true,true,true,true,true,true,true,true,true,true,true,true,true] rfl rfl kq0 kq2 (fun K hK => ?_)
      refine skip_ (w1 := ?_) (by rfl) rfl ?_ ?_
      rotate_left
      · go_simp
        rfl
      refine hK.out _ _ ?_
      clear hK K
      refine done_ kq0 ?_
      try go_wp2
      go_roundg (cs.length - (i + 1))
      case measure => have := HQ.out; omega
      case rel =>
        exact ⟨i + 1, by first | rfl | rw [show wrap64 ((i : Int) + 1) = ((i + 1 : Nat) : Int) from by have := HLL.out; unfold wrap64; omega], ⟨kq1⟩, ⟨kq1⟩, ⟨blk_far BKg.out (Ne.symm HNE.out) _⟩, ⟨hput.1⟩, ⟨KeepBut.trans HK.out (KeepBut.of_grown hput.2 g) (.inl rfl)⟩, ⟨HB.out.setCell HHG.out _⟩⟩
    · have hiz : ¬ (i : Int) < (cs.length : Int) := by omega
      have hil : i = cs.length := by have := HI.out; omega
      subst hil
      have HRd := mk (show Kd.R (Kd.int .i64) 2 wr w0.heap.size (fun _ => True) (.slice A cs.length c) (cs.map fun c => (restP c md).1) by have q_ := HRc.out; rw [restsL_all] at q_; exact q_)
      clear HRc
      go_wp2
      refine start_ (n := 16) (S := fun w' => w'.cell? ⟨g, 3, none⟩ = some (.int .i64 b) ∧ w'.cell? ⟨g, 4, none⟩ = some (.int .i64 md)) (ds := [15]) #[false,false,false,false,false,false,false,false,false,false,false,false,false,false,false,false] kq0 rfl rfl ⟨(blk_cell BKg.out 3).trans rfl, (blk_cell BKg.out 4).trans rfl⟩ (fun hHeld => ?_)
      replace BKg : Aside0 (wr.drew.heap[g]? = some (.cells #[.int .i64 kd, vn, .slice A cs.length c, .int .i64 b, .int .i64 md] 58 (0, 0))) := ⟨BKg.out⟩
      replace HRd : Aside0 (Kd.R (Kd.int .i64) 2 wr.drew w0.heap.size (fun _ => True) (.slice A cs.length c) (cs.map fun c => (restP c md).1)) := ⟨HRd.out⟩
      replace HK : Aside0 (KeepBut w wr.drew g (Value.slice A cs.length c).ownBlock) := ⟨HK.out⟩
      replace HB : Aside0 (Below w0.heap.size w0 wr.drew) := ⟨below_drew1 HB.out⟩
      generalize wr.drew = w5 at BKg HRd HK HB hHeld ⊢
      refine pu_ 0 31 ?_
      refine pu_ 1 32 ?_
      refine pu_ 2 33 ?_
      refine pu_ 3 34 ?_
      refine ta_ 4 35 hHeld ?_
      refine pu_ 5 36 ?_
      refine pu_ 6 37 ?_
      refine pu_ 7 38 ?_
      refine ta_ 8 39 hHeld ?_
      refine on_ 9 40 (fun K hK => ?_)
      refine goes_ Try.func124 kq0 rfl #[.int .i64 b, .int .i64 md] (by rfl) rfl rfl kq50 ?_
      refine (chk_Rest.calls b md _ _ _ (rest9_at b md)).mono ?_
      rintro e w6 ⟨rfl, hd⟩
      have hb := hd.below
      clear hd
      refine ⟨_, rfl, ?_⟩
      have m0_ := mk (blk_below BKg.out hb)
      have m1_ := mk (Kd.R_below HRd.out hb)
      have m2_ := mk (KeepBut.trans HK.out (KeepBut.of_below hb g _) (.inl rfl))
      have m3_ := mk (below_then HB.out HB.out.size hb)
      clear BKg HRd HK HB
      have BKg := m0_
      have HRd := m1_
      have HK := m2_
      have HB := m3_
      clear m0_ m1_ m2_ m3_
      clear hb
      refine hK.out _ _ ⟨(blk_cell BKg.out 3).trans rfl, (blk_cell BKg.out 4).trans rfl⟩ (fun hHeld => ?_)
      clear hK K
      refine norm_ (a' := ?_) ?_ ?_
      rotate_left
      · show Act.put _ (some 40) _ = _
        simp only [Act.put, List.setIfInBounds_toArray, List.set_cons_zero, List.set_cons_succ]
        rfl
      refine pu_ 10 30 ?_
      refine pu_ 11 41 ?_
      refine pu_ 12 42 ?_
      refine pu_ 13 43 ?_
      refine pu_ 14 44 ?_
      have c3_ : w6.cell? ⟨g, 3, none⟩ = some (.int .i64 b) := (blk_cell BKg.out 3).trans rfl
      have f3_ := blk_frozen BKg.out 3
      refine last_ (i := 15) (N := none) #[true,true,true,true,true,true,true,true,true,true,true,true,true,true,true,true] rfl rfl kq0 kq2 (fun K hK => ?_)
      refine skip_ (w1 := ?_) (by rfl) rfl ?_ ?_
      rotate_left
      · go_simp
        rfl
      refine hK.out _ _ ?_
      clear hK K
      refine done_ kq0 ?_
      try go_wp2
      first | go_end0 | ((try simp only [Exit.inBlock, Exit.then]); refine bodyPost_ret (results_none rfl _ _ _) rfl ?_)
      exact ⟨rfl, blk_put BKg.out 3 _ rfl, Kd.R_set HRd.out BKg.out kq2 3 _, KeepBut.set_ HK.out _ _, HB.out.setCell HW.out _⟩
theorem both_own (u0 : Value) (l0 : List ByteArray) (u1 : Value) (l1 : List Int) (ka ea : Int) (v0 : Value) (m0 : List ByteArray) (v1 : Value) (m1 : List Int) (kb eb : Int) (r1 : List ByteArray) (r2 : List Int) (r3 r4 : Int) (w0 w : World) (hB : Below w0.heap.size w0 w) (h0 : Kd.R Kd.string 9 w w0.heap.size (fun _ => True) u0 l0) (h1 : Kd.R (Kd.int .i64) 2 w w0.heap.size (fun _ => True) u1 l1) (h2 : Kd.R Kd.string 9 w w0.heap.size (fun _ => True) v0 m0) (h3 : Kd.R (Kd.int .i64) 2 w w0.heap.size (fun _ => True) v1 m1) (h : norm_both.f l0 l1 ka ea m0 m1 kb eb 1 = some (r1, r2, r3, r4)) :
    Calls Try.prog 82 #[.agg #[u0, u1, .int .i64 ka, .int .i64 ea], .agg #[v0, v1, .int .i64 kb, .int .i64 eb], .func (.func 83) #[] #[]] w fun e w' => ∃ x0 x1 : Value, e = .returned (.agg #[x0, x1, .int .i64 r3, .int .i64 r4]) ∧ Kd.R Kd.string 9 w' w0.heap.size (fun _ => True) x0 r1 ∧ Kd.R (Kd.int .i64) 2 w' w0.heap.size (fun _ => True) x1 r2 ∧ Below w.heap.size w w' := by
  obtain ⟨A0, c0, rfl⟩ := Kd.R_slice h0
  obtain ⟨A1, c1, rfl⟩ := Kd.R_slice h1
  obtain ⟨B0, d0, rfl⟩ := Kd.R_slice h2
  obtain ⟨B1, d1, rfl⟩ := Kd.R_slice h3
  unfold norm_both.f at h
  by_cases ha : ea = 0
  · rw [if_neg (by simp [ha])] at h
    by_cases hb : eb = 0
    · rw [if_neg (by simp [hb])] at h
      split at h
      · rename_i hl
        simp only [if_true, Option.some.injEq, Prod.mk.injEq] at h
        obtain ⟨rfl, rfl, rfl, rfl⟩ := h
        refine (bothSub_core A0 c0 l0 A1 c1 l1 ka ea B0 d0 m0 B1 d1 m1 kb eb w (Kd.R_reads' h0).2.2 (Kd.R_reads' h0).2.1 (Kd.R_reads' h1).2.2 (Kd.R_reads' h1).2.1 (Kd.R_reads' h2).2.2 (Kd.R_reads' h2).2.1 (Kd.R_reads' h3).2.2 (Kd.R_reads' h3).2.1 hl.1 hl.2.1 hl.2.2.1 hl.2.2.2 ha hb).mono ?_
        rintro e w' ⟨x0, x1, rfl, y0, y1, hw⟩
        exact ⟨x0, x1, rfl, Kd.R_lower y0 hB.size, Kd.R_lower y1 hB.size, hw⟩
      · cases h
    · rw [if_pos (by simpa using hb)] at h
      simp only [Option.some.injEq, Prod.mk.injEq] at h
      obtain ⟨rfl, rfl, rfl, rfl⟩ := h
      subst ha
      refine (both_stopb A0 c0 l0 A1 c1 l1 ka B0 d0 m0 B1 d1 m1 kb eb _ w hb).mono ?_
      rintro e w' ⟨rfl, hw⟩
      exact ⟨_, _, rfl, Kd.R_below h2 hw, Kd.R_below h3 hw, hw⟩
  · rw [if_pos (by simpa using ha)] at h
    simp only [Option.some.injEq, Prod.mk.injEq] at h
    obtain ⟨rfl, rfl, rfl, rfl⟩ := h
    refine (both_stopa A0 c0 l0 A1 c1 l1 ka ea B0 d0 m0 B1 d1 m1 kb eb _ w ha).mono ?_
    rintro e w' ⟨rfl, hw⟩
    exact ⟨_, _, rfl, Kd.R_below h0 hw, Kd.R_below h1 hw, hw⟩
end Go.Proofs.Ytjknpmibdkoklaa.Q
set_option maxRecDepth 100000
namespace Go.Proofs.Ytjknpmibdkoklaa.Q
open Go.RowKit Go.Proofs.YtjknpmibdkoklaaW.PrintWords Go.Proofs.YtjknpmibdkoklaaW.PrintLast Go.Proofs.YtjknpmibdkoklaaW.PrintMore
open Aside0 (mk)
def mulP (c n : Int) : Int × Int := (chk_Mul.f 3 c n).getD (0, 0)
theorem mul_at (c n : Int) : chk_Mul.f 3 c n = some ((mulP c n).1, (mulP c n).2) := by
  have h : ∃ p, chk_Mul.f 3 c n = some p := by
    have j0 : ∃ p, chk_Mul.j0 3 c n true = some p := ⟨(0, 0), by rw [chk_Mul.j0, if_pos rfl]⟩
    unfold chk_Mul.f
    by_cases hc : c = 0
    · rw [if_pos hc]; exact j0
    · rw [if_neg hc]
      by_cases hn : n = 0
      · rw [show (n == 0) = true from beq_iff_eq.2 hn]; exact j0
      · rw [show (n == 0) = false from beq_eq_false_iff_ne.2 hn]
        have j1 : ∀ b, ∃ p, chk_Mul.j1 2 c n b = some p := by
          intro b
          rw [chk_Mul.j1]
          split
          · exact ⟨_, rfl⟩
          · first | (split <;> exact ⟨_, rfl⟩) | (rw [if_neg hn]; split <;> exact ⟨_, rfl⟩)
        rw [chk_Mul.j0, if_neg kq2]
        split
        · split
          · exact j1 _
          · split <;> exact j1 _
        · split <;> exact j1 _
  obtain ⟨p, hp⟩ := h
  unfold mulP
  rw [hp]
  rfl
def errM (n : Int) (er : Int) : List Int → Int
  | [] => er
  | c :: l => errM n (coeffE er (mulP c n).2) l
theorem errM_take (n : Int) (l : List Int) (er : Int) (i : Nat) (h : i < l.length) : errM n er (l.take (i + 1)) = coeffE (errM n er (l.take i)) (mulP l[i] n).2 := by
  induction l generalizing er i with
  | nil => exact absurd h (Nat.not_lt_zero _)
  | cons c l ih =>
    cases i with
    | zero => rfl
    | succ i => exact ih (coeffE er (mulP c n).2) i (by simpa using h)
def mulL (n : Int) (l : List Int) : List Int := l.map fun c => (mulP c n).1
theorem mulL_take (n : Int) (l : List Int) (i : Nat) (h : i < l.length) : mulL n (l.take (i + 1)) = mulL n (l.take i) ++ [(mulP l[i] n).1] := by
  unfold mulL
  rw [List.take_succ_eq_append_getElem h, List.map_append]
  rfl
theorem rd_at {l : List Int} {i : Nat} (h : i < l.length) : rd l (i : Int) = l[i] := by unfold rd; rw [Int.toNat_natCast, List.getD_eq_getElem?_getD, List.getElem?_eq_getElem h]; rfl
set_option maxHeartbeats 8000000 in
theorem times_core (A0 : Option Addr) (c0 : Nat) (l0 : List ByteArray) (A1 : Option Addr) (c1 : Nat) (l1 : List Int) (ko er n : Int) (w : World) (hr1 : Kd.C (Kd.int .i64) w A1 l1.length l1) (hc1 : l1.length ≤ c1) (hl : l1.length ≤ 1000000) :
    Calls Try.prog 164 #[.agg #[.slice A0 l0.length c0, .slice A1 l1.length c1, .int .i64 ko, .int .i64 er], .int .i64 n] w fun e w' => ∃ v1 : Value, e = .returned (.agg #[.slice A0 l0.length c0, v1, .int .i64 (mulP ko n).1, .int .i64 (coeffE (errM n 0 l1) (mulP ko n).2)]) ∧ Kd.R (Kd.int .i64) 2 w' w.heap.size (fun _ => True) v1 (mulL n l1) ∧ Below w.heap.size w w' := by
  have hu107 := Try.underlying107
  have HR1 := mk hr1
  have HC1 := mk hc1
  have HLL := mk hl
  have hlen1 := hr1.2.1
  clear hr1 hc1 hl
  have HB := mk (Below.refl w.heap.size w)
  go_enter Try.func164, Try.ntmps164
  go_wp2_with (first | ((with_reducible refine gate_dst (N := 2) rfl ?_); refine box_event ?hg (N := 2) ?hd (cs := #[.slice A0 l0.length c0, .slice A1 l1.length c1, .int .i64 ko, .int .i64 er]) (t := 107) ?hr ?_; (case hd => rfl); (case hg => rfl); (case hr => exact kq11); intro g2 hg w2 hbox hb; have BKg2 := mk hbox; have GEg2 := mk (kq38 : w.heap.size ≤ g2); replace HB := mk (below_step kq39 hb); clear hb hbox hg; obtain ⟨_, _, _, _, _, _, _, _⟩ := cz4_ BKg2.out) | ((with_reducible refine gate_dst (N := 4) rfl ?_); refine box_event ?hg (N := 4) ?hd (cs := #[.slice none 0 0, .slice none 0 0, .int .i64 0, .int .i64 0]) (t := 107) ?hr ?_; (case hd => rfl); (case hg => rfl); (case hr => exact kq11); intro g4 hg w4 hbox hb; have BKg4 := mk hbox; have GEg4 := mk (kq38 : w.heap.size ≤ g4); have NBg2g4 := mk ((kq40 BKg2) : g2 ≠ g4); have NBg4g2 := mk ((kq42 BKg2) : g4 ≠ g2); have m0_ := mk (blk_below (kq41 BKg2) hb); have m1_ := mk (below_step kq39 hb); clear BKg2; have BKg2 := m0_; clear m0_; clear HB; have HB := m1_; clear m1_; clear hb hbox hg; have ne_g2g4 := NBg2g4.out; have ne_g4g2 := NBg4g2.out; obtain ⟨_, _, _, _, _, _, _, _⟩ := cz4_ BKg2.out; obtain ⟨_, _, _, _, _, _, _, _⟩ := cz4_ BKg4.out) | ((with_reducible refine gate_dst (N := 5) rfl ?_); refine box_event ?hg (N := 5) ?hd (cs := #[.slice none 0 0, .slice none 0 0, .int .i64 0, .int .i64 0]) (t := 107) ?hr ?_; (case hd => rfl); (case hg => rfl); (case hr => exact kq11); intro g5 hg w5 hbox hb; have BKg5 := mk hbox; have GEg5 := mk (kq38 : w.heap.size ≤ g5); have NBg2g5 := mk ((kq43 BKg2 NBg2g4) : g2 ≠ g5); have NBg5g2 := mk ((kq45 BKg2 NBg2g4) : g5 ≠ g2); have NBg4g5 := mk ((kq43 BKg4 NBg4g2) : g4 ≠ g5); have NBg5g4 := mk ((kq45 BKg4 NBg4g2) : g5 ≠ g4); have m0_ := mk (blk_below (kq44 BKg2 NBg2g4) hb); have m1_ := mk (blk_below (kq44 BKg4 NBg4g2) hb); have m2_ := mk (below_step kq39 hb); clear BKg2; have BKg2 := m0_; clear m0_; clear BKg4; have BKg4 := m1_; clear m1_; clear HB; have HB := m2_; clear m2_; clear hb hbox hg; have ne_g2g5 := NBg2g5.out; have ne_g5g2 := NBg5g2.out; have ne_g4g5 := NBg4g5.out; have ne_g5g4 := NBg5g4.out; obtain ⟨_, _, _, _, _, _, _, _⟩ := cz4_ BKg2.out; obtain ⟨_, _, _, _, _, _, _, _⟩ := cz4_ BKg4.out; obtain ⟨_, _, _, _, _, _, _, _⟩ := cz4_ BKg5.out))
  go_loopg [14] l1.length (fun gq v14 wr => ∃ (i : Nat) (vc : Value), v14 = .int .i64 i ∧ Aside0 (i ≤ l1.length) ∧ Aside0 (l1.length - i ≤ gq) ∧ Aside0 (wr.heap[g5]? = some (.cells #[.slice A0 l0.length c0, vc, .int .i64 0, .int .i64 (errM n 0 (l1.take i))] 107 (0, 0))) ∧ Aside0 (Kd.R (Kd.int .i64) 2 wr w.heap.size (fun _ => True) vc (mulL n (l1.take i))) ∧ Aside0 (wr.heap[g2]? = some (.cells #[.slice A0 l0.length c0, .slice A1 l1.length c1, .int .i64 ko, .int .i64 er] 107 (0, 0))) ∧ Aside0 (wr.heap[g4]? = some (.cells #[.slice none 0 0, .slice none 0 0, .int .i64 0, .int .i64 0] 107 (0, 0))) ∧ Aside0 (Below w.heap.size w wr))
  case atStart => exact ⟨0, .slice none 0 0, rfl, ⟨Nat.zero_le _⟩, ⟨kq1⟩, ⟨blk_put (blk_put (blk_put (blk_put BKg5.out 0 _ rfl) 1 _ rfl) 2 _ rfl) 3 _ rfl⟩, ⟨by first | exact Kd.R_nil _ _ _ _ _ | (rw [List.take_zero]; exact Kd.R_nil _ _ _ _ _)⟩, ⟨(kq44 BKg2 NBg2g5)⟩, ⟨(kq44 BKg4 NBg4g5)⟩, ⟨(kq49 GEg5)⟩⟩
  case round =>
    clear BKg5 BKg2 BKg4 HB
    obtain ⟨i, vc, rfl, HI, HQ, BKg5, HRc, BKg2, BKg4, HB⟩ := hrel
    by_cases hi : i < l1.length
    · have hiz : (i : Int) < (l1.length : Int) := by omega
      have hi0 : (0 : Int) ≤ (i : Int) := by omega
      obtain ⟨ad, ead, hx⟩ := Kd.at_int HR1.out (i : Int) hi0 hiz
      cases ead
      rw [Int.toNat_natCast, rd_at hi] at hx
      replace hx := (HB.out.cell (World.block_lt_of_cell? _ _ hx)).trans hx
      have HE := mk (errM_take n l1 0 i hi)
      have HM := mk (mulL_take n l1 i hi)
      have hlt : (mulL n (l1.take i)).length ≤ 1000000 := by have := HLL.out; unfold mulL; rw [List.length_map, List.length_take]; omega
      have HLT := mk hlt
      clear hlt
      generalize l1[i] = c at hx HE HM
      obtain ⟨_, _, _, _, _, _, _, _⟩ := cz4_ BKg5.out
      go_wp2
      go_region_law (first | ((refine goes_ (N := some 22) Try.func187 kq0 rfl #[.int .i64 c, .int .i64 n] (by rfl) rfl rfl kq50 ?_; refine (chk_Mul.calls 3 c n _ _ _ (mul_at c n)).mono ?_; rintro e w6 ⟨rfl, hd⟩; obtain ⟨nd, rfl⟩ := hd.out; clear hd; refine ⟨_, rfl, ?_⟩)) | ((refine goes_ (N := some 25) Try.func84 kq0 rfl #[.pointer (some ⟨g5, 0, none⟩), .int .i64 (mulP c n).1, .int .i64 (mulP c n).2] (by rfl) rfl rfl kq50 ?_; (refine (coeff_calls g5 (.slice A0 l0.length c0) vc 0 (errM n 0 (l1.take i)) (mulP c n).1 (mulP c n).2 w _ GEg5.out ?s1 ?s2).mono ?_); (case s1 => exact (kq49 GEg5)); (case s2 => exact kq55 BKg5); rintro e w7 ⟨rfl, hg, hk, hb⟩; refine ⟨_, rfl, ?_⟩; have n0_ := mk (Kd.R_mono (Kd.R_keep (Kd.R_types (kq56 HRc) (kq41 BKg5) kq2) hk (fun _ h => h.2)) (fun _ h => h.1)); have n2_ := mk (hk.blk (kq41 BKg2) ne_g2g5 (by simp)); have n4_ := mk (hk.blk (kq41 BKg4) ne_g4g5 (by simp)); have n5_ := mk hg; have n6_ := mk hb; clear hg hk hb HRc BKg2 BKg4 BKg5 HB; have HRc := n0_; have BKg2 := n2_; have BKg4 := n4_; have BKg5 := n5_; have HB := n6_; clear n0_ n2_ n4_ n5_ n6_; have c20_ : w7.cell? ⟨g5, 1, none⟩ = some vc := (blk_cell BKg5.out 1).trans rfl; have c22_ := blk_frozen BKg5.out 1; have e20_ := World.new_ne w7 _ c20_; have e21_ : ∀ o, (w7.alloc o).cell? ⟨g5, 1, none⟩ = some vc := fun o => (blk_cell (blk_alloc BKg5.out o) 1).trans rfl; have e22_ := Ne.symm e20_)) | ((refine Kd.R_append_step (Kd.int .i64) (w0 := w) w.heap.size (by rfl) (.tmp 19) (.tmp 26) 55 2 (.int .i64 0) 8 (by rfl) Try.underlying55 info2 rfl kq2 kq2 vc (mulL n (l1.take i)) (mulP c n).1 [.int .i64 (mulP c n).1] (fun _ => True) (fun _ => False) (by rfl) (by rfl) rfl (fun _ hk => hk.elim) (fun _ _ => trivial) (kq56 HRc) kq39 (below_size kq39) (by have := HLT.out; omega) ?_); intro v8 w8 hr8 hb8 hg8 hat8; obtain ⟨A8, c8, ev8⟩ := Kd.R_slice hr8; subst ev8; have n2_ := mk (blk_grown (kq41 BKg2) hg8 (Kd.R_ne (kq56 HRc) (kq41 BKg2) kq2)); have n4_ := mk (blk_grown (kq41 BKg4) hg8 (Kd.R_ne (kq56 HRc) (kq41 BKg4) kq2)); have n5_ := mk (blk_grown (kq41 BKg5) hg8 (Kd.R_ne (kq56 HRc) (kq41 BKg5) kq2)); have n6_ := mk hb8; have n7_ := mk hr8; clear hr8 hb8 hg8 hat8 HRc BKg2 BKg4 BKg5 HB; have HRc := n7_; have BKg2 := n2_; have BKg4 := n4_; have BKg5 := n5_; have HB := n6_; clear n2_ n4_ n5_ n6_ n7_; have c21_ : w8.cell? ⟨g5, 1, none⟩ = some vc := (blk_cell BKg5.out 1).trans rfl; have c23_ := blk_frozen BKg5.out 1))
      all_goals
       go_wp2
       go_roundg (l1.length - (i + 1))
       case measure => have := HQ.out; omega
       case rel =>
        have hr9 := HRc.out
        rw [List.length_append, List.length_singleton, ← HM.out] at hr9
        exact ⟨i + 1, .slice A8 ((mulL n (l1.take i)).length + 1) c8, by first | rfl | rw [show wrap64 ((i : Int) + 1) = ((i + 1 : Nat) : Int) from by have := HLL.out; unfold wrap64; omega], ⟨kq1⟩, ⟨kq1⟩, ⟨by rw [HE.out]; exact blk_put BKg5.out 1 _ rfl⟩, ⟨Kd.R_set hr9 BKg5.out kq2 1 _⟩, ⟨blk_far BKg2.out ne_g2g5 _⟩, ⟨blk_far BKg4.out ne_g4g5 _⟩, ⟨below_set HB.out GEg5.out⟩⟩
    · have hiz : ¬ (i : Int) < (l1.length : Int) := by omega
      have hil : i = l1.length := by have := HI.out; omega
      have HX := mk (show errM n 0 (l1.take i) = errM n 0 l1 by rw [hil, List.take_length])
      have HY := mk (show mulL n (l1.take i) = mulL n l1 by rw [hil, List.take_length])
      clear hil hi
      obtain ⟨Av, cv, ev⟩ := Kd.R_slice HRc.out
      subst ev
      have kz1 : wr.cell? ⟨g2, 2, none⟩ = some (.int .i64 ko) := (blk_cell BKg2.out 2).trans rfl
      obtain ⟨_, _, _, _, _, _, _, _⟩ := cz4_ BKg5.out
      obtain ⟨_, _, _, _, _, _, _, _⟩ := cz4_ BKg4.out
      go_wp2_with (first | ((go_at_call 187; (with_reducible refine (chk_Mul.calls 3 ko n _ _ _ (mul_at ko n)).mono ?_); rintro e w6 ⟨rfl, hd⟩; obtain ⟨nd, rfl⟩ := hd.out; clear hd)) | ((go_at_call 84; (with_reducible refine (coeff_calls g5 (.slice A0 l0.length c0) (.slice Av (mulL n (l1.take i)).length cv) 0 (errM n 0 (l1.take i)) (mulP ko n).1 (mulP ko n).2 w _ GEg5.out ?s1 ?s2).mono ?_); (case s1 => exact kq54); (case s2 => exact kq55 BKg5); rintro e w7 ⟨rfl, hg, hk, hb⟩; have n0_ := mk (Kd.R_mono (Kd.R_keep (Kd.R_types (kq56 HRc) (kq41 BKg5) kq2) hk (fun _ h => h.2)) (fun _ h => h.1)); have n2_ := mk (hk.blk (kq41 BKg2) ne_g2g5 (by simp)); have n4_ := mk (hk.blk (kq41 BKg4) ne_g4g5 (by simp)); have n5_ := mk hg; have n6_ := mk hb; clear hg hk hb HRc BKg2 BKg4 BKg5 HB; have HRc := n0_; have BKg2 := n2_; have BKg4 := n4_; have BKg5 := n5_; have HB := n6_; clear n0_ n2_ n4_ n5_ n6_; obtain ⟨_, _, _, _, _, _, _, _⟩ := cz4_ BKg5.out; obtain ⟨_, _, _, _, _, _, _, _⟩ := cz4_ BKg4.out)))
      refine bodyPost_ret (results_cell_row rfl _ _ g4 107 #[.slice A0 l0.length c0, .slice Av (mulL n (l1.take i)).length cv, .int .i64 (mulP ko n).1, .int .i64 (coeffE (errM n 0 (l1.take i)) (mulP ko n).2)] (0, 0) _ rfl (blk_put (blk_put (blk_put (blk_put (blk_far BKg4.out ne_g4g5 _) 0 _ rfl) 1 _ rfl) 2 _ rfl) 3 _ rfl) Try.underlying107 rfl kq0) rfl ?_
      have hr9 := Kd.R_types (Kd.R_types HRc.out BKg5.out kq2) BKg4.out kq2
      have r1 := Kd.R_far (p := ⟨g5, 2, none⟩) hr9 (fun _ h => h.1.2) (.int .i64 (mulP ko n).1)
      have r2 := Kd.R_far (p := ⟨g4, 0, none⟩) r1 (fun _ h => h.2) (.slice A0 l0.length c0)
      have r3 := Kd.R_far (p := ⟨g4, 1, none⟩) r2 (fun _ h => h.2) (.slice Av (mulL n (l1.take i)).length cv)
      have r4 := Kd.R_far (p := ⟨g4, 2, none⟩) r3 (fun _ h => h.2) (.int .i64 (mulP ko n).1)
      have r5 := Kd.R_far (p := ⟨g4, 3, none⟩) r4 (fun _ h => h.2) (.int .i64 (coeffE (errM n 0 (l1.take i)) (mulP ko n).2))
      exact ⟨.slice Av (mulL n (l1.take i)).length cv, by rw [← HX.out], by rw [← HY.out]; exact Kd.R_mono r5 (fun _ _ => trivial), by repeat (first | exact HB.out | refine below_set ?_ GEg4.out | refine below_set ?_ GEg5.out)⟩
def norm_times.f (l0 : List ByteArray) (l1 : List Int) (ko er n : Int) : Option (List ByteArray × List Int × Int × Int) := if l1.length ≤ 1000000 then some (l0, mulL n l1, (mulP ko n).1, coeffE (errM n 0 l1) (mulP ko n).2) else none
theorem norm_times.calls (P0_0_ : Nat → Prop) (u9000_ : Value) (l0_0 : List ByteArray) (A0_1 : Option Addr) (c0_1 : Nat) (l0_1 : List Int) (a0_2 a0_3 a1 : Int) (r1 : List ByteArray) (r2 : List Int) (r3 r4 : Int) (w0 w : World) (hB : Below w0.heap.size w0 w) (ho0_0 : Kd.R Kd.string 9 w w0.heap.size P0_0_ u9000_ l0_0) (hr0_1 : ∀ W_, Kept w W_ (fun k_ => P0_0_ k_) → Kd.C (Kd.int .i64) W_ A0_1 l0_1.length l0_1) (hc0_1 : l0_1.length ≤ c0_1) (h : norm_times.f l0_0 l0_1 a0_2 a0_3 a1 = some (r1, r2, r3, r4)) :
    Calls Try.prog 164 #[.agg #[u9000_, .slice A0_1 l0_1.length c0_1, .int .i64 a0_2, .int .i64 a0_3], .int .i64 a1] w fun e w' => ∃ v0_ v1_ : Value, e = .returned (.agg #[v0_, v1_, .int .i64 r3, .int .i64 r4]) ∧ Kd.R Kd.string 9 w' w0.heap.size (fun k_ => (P0_0_ k_ ∨ w.heap.size ≤ k_)) v0_ r1 ∧ Kd.R (Kd.int .i64) 2 w' w0.heap.size (fun k_ => (P0_0_ k_ ∨ w.heap.size ≤ k_)) v1_ r2 ∧ Below w0.heap.size w0 w' ∧ Kept w w' (fun k_ => P0_0_ k_) := by
  obtain ⟨A0, c0, rfl⟩ := Kd.R_slice ho0_0
  unfold norm_times.f at h
  by_cases hl : l0_1.length ≤ 1000000
  · rw [if_pos hl] at h
    simp only [Option.some.injEq, Prod.mk.injEq] at h
    obtain ⟨rfl, rfl, rfl, rfl⟩ := h
    refine (times_core A0 c0 l0_0 A0_1 c0_1 l0_1 a0_2 a0_3 a1 w (hr0_1 w ⟨Nat.le_refl _, fun _ _ _ => rfl⟩) hc0_1 hl).mono ?_
    rintro e w' ⟨v1, rfl, h1, hw⟩
    exact ⟨_, v1, rfl, Kd.R_mono (Kd.R_below ho0_0 hw) (fun k hk => .inl hk), Kd.R_lower (Kd.R_mono (Kd.R_bound h1) (fun k hk => .inr hk.2.1)) hB.size, below_step hB hw, hw.size, fun i hi _ => hw.block i hi⟩
  · rw [if_neg hl] at h
    cases h
end Go.Proofs.Ytjknpmibdkoklaa.Q
namespace Go.Proofs.Ytjknpmibdkoklaa.Q
open Go.RowKit Go.Proofs.YtjknpmibdkoklaaW.PrintWords Go.Proofs.YtjknpmibdkoklaaW.PrintLast Go.Proofs.YtjknpmibdkoklaaW.PrintMore
open Aside0 (mk)
open List (setIfInBounds_toArray set_cons_zero set_cons_succ)
attribute [local go_sem] max2_int min2_int max_two min_two max_three min_three max_four min_four
set_option linter.unusedVariables false
set_option linter.unusedSimpArgs false
attribute [local go_sem] fld99_2 fld103_2 fld160_0 fld160_1
def norm_product.j0 : Nat → Bool → List ByteArray → List Int → Int → Int → List ByteArray → List Int → Int → Int → Option (List ByteArray × List Int × Int × Int)
  | 0, _, _, _, _, _, _, _, _, _ => none
  | k + 1, x15, x673000, x673001, x673002, x673003, x674000, x674001, x674002, x674003 => if x15 = true then (some (([] : List ByteArray), ([] : List Int), 0, 90)) else (if (x673000.length : Int) > 0 then ((norm_times.f x673000 x673001 x673002 x673003 x674002).bind fun bt675 => (some (bt675.1, bt675.2.1, bt675.2.2.1, bt675.2.2.2))) else ((norm_times.f x674000 x674001 x674002 x674003 x673002).bind fun bt683 => (some (bt683.1, bt683.2.1, bt683.2.2.1, bt683.2.2.2))))
def norm_product.f (k : Nat) (l0_0 : List ByteArray) (l0_1 : List Int) (a0_2 : Int) (a0_3 : Int) (l1_0 : List ByteArray) (l1_1 : List Int) (a1_2 : Int) (a1_3 : Int) : Option (List ByteArray × List Int × Int × Int) := if a0_3 = 0 then (if a1_3 = 0 then (if (l0_0.length : Int) > 0 then (norm_product.j0 k (decide ((l1_0.length : Int) > 0)) l0_0 l0_1 a0_2 a0_3 l1_0 l1_1 a1_2 a1_3) else (norm_product.j0 k false l0_0 l0_1 a0_2 a0_3 l1_0 l1_1 a1_2 a1_3)) else (some (l1_0, l1_1, a1_2, a1_3))) else (some (l0_0, l0_1, a0_2, a0_3))
theorem norm_product.mono_l : ∀ k, (∀ y0 y1 y2 y3 y4 y5 y6 y7 y8, LeO (norm_product.j0 k y0 y1 y2 y3 y4 y5 y6 y7 y8) (norm_product.j0 (k + 1) y0 y1 y2 y3 y4 y5 y6 y7 y8))
  | 0 => fun _ _ _ _ _ _ _ _ _ r h => by simp [norm_product.j0] at h
  | k + 1 => by
    have ih0 := norm_product.mono_l k
    · intro y0 y1 y2 y3 y4 y5 y6 y7 y8; (unfold norm_product.j0)
      repeat' first
      | (with_reducible exact ih0 _ _ _ _ _ _ _ _ _)
      | (with_reducible exact LeO.refl _)
      | (with_reducible exact LeO.none _)
      | (with_reducible refine LeO.ite ?_ ?_)
      | (with_reducible refine LeO.bind ?_ (fun _ => ?_))
      | exact ih0 _ _ _ _ _ _ _ _ _
      | exact LeO.none _
      | refine LeO.ite ?_ ?_
      | refine LeO.bind ?_ (fun _ => ?_)
theorem norm_product.mono : ∀ a0 a1 a2 a3 a4 a5 a6 a7 k, LeO (norm_product.f k a0 a1 a2 a3 a4 a5 a6 a7) (norm_product.f (k + 1) a0 a1 a2 a3 a4 a5 a6 a7) := by
  intro a0 a1 a2 a3 a4 a5 a6 a7 k
  have ih0 := norm_product.mono_l k
  unfold norm_product.f
  repeat' first
      | (with_reducible exact ih0 _ _ _ _ _ _ _ _ _)
      | (with_reducible exact LeO.refl _)
      | (with_reducible exact LeO.none _)
      | (with_reducible refine LeO.ite ?_ ?_)
      | (with_reducible refine LeO.bind ?_ (fun _ => ?_))
      | exact ih0 _ _ _ _ _ _ _ _ _
      | exact LeO.none _
      | refine LeO.ite ?_ ?_
      | refine LeO.bind ?_ (fun _ => ?_)
set_option maxHeartbeats 8000000 in
set_option maxRecDepth 100000 in
theorem norm_product.calls (k : Nat) (P0_0_ : Nat → Prop) (u9000_ : Value) (l0_0 : List ByteArray) (P0_1_ : Nat → Prop) (u9001_ : Value) (l0_1 : List Int) (a0_2 : Int) (a0_3 : Int) (P1_0_ : Nat → Prop) (u9002_ : Value) (l1_0 : List ByteArray) (P1_1_ : Nat → Prop) (u9003_ : Value) (l1_1 : List Int) (a1_2 : Int) (a1_3 : Int) (r1 : List ByteArray) (r2 : List Int) (r3 : Int) (r4 : Int) (w0 w : World) (hB : Below w0.heap.size w0 w) (ho0_0 : Kd.R Kd.string 9 w w0.heap.size P0_0_ u9000_ l0_0) (hp0_0_1_0 : ∀ k_, P0_0_ k_ → ¬ P1_0_ k_) (ho0_1 : Kd.R (Kd.int .i64) 2 w w0.heap.size P0_1_ u9001_ l0_1) (hp0_1_1_1 : ∀ k_, P0_1_ k_ → ¬ P1_1_ k_) (ho1_0 : Kd.R Kd.string 9 w w0.heap.size P1_0_ u9002_ l1_0) (hp1_0_0_0 : ∀ k_, P1_0_ k_ → ¬ P0_0_ k_) (ho1_1 : Kd.R (Kd.int .i64) 2 w w0.heap.size P1_1_ u9003_ l1_1) (hp1_1_0_1 : ∀ k_, P1_1_ k_ → ¬ P0_1_ k_) (h : norm_product.f k l0_0 l0_1 a0_2 a0_3 l1_0 l1_1 a1_2 a1_3 = some (r1, r2, r3, r4)) :
    Calls Try.prog 122 #[.agg #[u9000_, u9001_, .int .i64 a0_2, .int .i64 a0_3], .agg #[u9002_, u9003_, .int .i64 a1_2, .int .i64 a1_3]] w fun e w' => ∃ v0_ v1_ : Value, e = .returned (.agg #[v0_, v1_, .int .i64 r3, .int .i64 r4]) ∧ Kd.R Kd.string 9 w' w0.heap.size (fun k_ => ((P0_0_ k_ ∨ P0_1_ k_ ∨ P1_0_ k_ ∨ P1_1_ k_) ∨ w.heap.size ≤ k_)) v0_ r1 ∧ Kd.R (Kd.int .i64) 2 w' w0.heap.size (fun k_ => ((P0_0_ k_ ∨ P0_1_ k_ ∨ P1_0_ k_ ∨ P1_1_ k_) ∨ w.heap.size ≤ k_)) v1_ r2 ∧ Below w0.heap.size w0 w' ∧ Kept w w' (fun k_ => P0_0_ k_ ∨ P0_1_ k_ ∨ P1_0_ k_ ∨ P1_1_ k_) := by
  have hu107 := Try.underlying107
  have HO0_0 := mk (show Kd.R Kd.string 9 w w0.heap.size (fun k_ => ((P0_0_ k_ ∨ P0_1_ k_ ∨ P1_0_ k_ ∨ P1_1_ k_) ∨ w.heap.size ≤ k_) ∧ some k_ ≠ (u9002_ : Value).ownBlock) u9000_ l0_0 from Kd.R_mono ho0_0 (fun k_ hk => ⟨(.inl (.inl hk)), fun e_ => hp0_0_1_0 k_ hk (ho1_0.1 k_ e_.symm)⟩))
  have HO0_1 := mk (show Kd.R (Kd.int .i64) 2 w w0.heap.size (fun k_ => ((P0_0_ k_ ∨ P0_1_ k_ ∨ P1_0_ k_ ∨ P1_1_ k_) ∨ w.heap.size ≤ k_) ∧ some k_ ≠ (u9003_ : Value).ownBlock) u9001_ l0_1 from Kd.R_mono ho0_1 (fun k_ hk => ⟨(.inl (.inr (.inl hk))), fun e_ => hp0_1_1_1 k_ hk (ho1_1.1 k_ e_.symm)⟩))
  have HO1_0 := mk (show Kd.R Kd.string 9 w w0.heap.size (fun k_ => ((P0_0_ k_ ∨ P0_1_ k_ ∨ P1_0_ k_ ∨ P1_1_ k_) ∨ w.heap.size ≤ k_) ∧ some k_ ≠ (u9000_ : Value).ownBlock) u9002_ l1_0 from Kd.R_mono ho1_0 (fun k_ hk => ⟨(.inl (.inr (.inr (.inl hk)))), fun e_ => hp1_0_0_0 k_ hk (ho0_0.1 k_ e_.symm)⟩))
  have HO1_1 := mk (show Kd.R (Kd.int .i64) 2 w w0.heap.size (fun k_ => ((P0_0_ k_ ∨ P0_1_ k_ ∨ P1_0_ k_ ∨ P1_1_ k_) ∨ w.heap.size ≤ k_) ∧ some k_ ≠ (u9001_ : Value).ownBlock) u9003_ l1_1 from Kd.R_mono ho1_1 (fun k_ hk => ⟨(.inl (.inr (.inr (.inr hk)))), fun e_ => hp1_1_0_1 k_ hk (ho0_1.1 k_ e_.symm)⟩))
  have HK := mk (Kept.refl w (fun k_ => P0_0_ k_ ∨ P0_1_ k_ ∨ P1_0_ k_ ∨ P1_1_ k_))
  have HW0 := mk hB.size
  have HB := mk hB
  clear hB
  have H : (if a0_3 = 0 then (if a1_3 = 0 then (if (l0_0.length : Int) > 0 then (norm_product.j0 k (decide ((l1_0.length : Int) > 0)) l0_0 l0_1 a0_2 a0_3 l1_0 l1_1 a1_2 a1_3) else (norm_product.j0 k false l0_0 l0_1 a0_2 a0_3 l1_0 l1_1 a1_2 a1_3)) else (some (l1_0, l1_1, a1_2, a1_3))) else (some (l0_0, l0_1, a0_2, a0_3))) = some (r1, r2, r3, r4) := h
  clear h
  by_cases c3 : a0_3 = 0
  · rw [if_pos c3] at H
    have c3b0 := eT_ c3
    have c3b1 := nF_ c3
    clear c3
    replace H := ic_ H; obtain ⟨c4, H⟩ | ⟨c4, H⟩ := H
    · (obtain ⟨c4b0, c4b1⟩ := eTn_ c4); clear c4; (have HC5 := mk H); clear H; (obtain ⟨Ao6, co6, eo6⟩ := Kd.R_slice HO0_0.out); subst eo6; (obtain ⟨Ao7, co7, eo7⟩ := Kd.R_slice HO0_1.out); subst eo7; (go_enter Try.func122, Try.ntmps122); (go_upto_region 5 with (first | ((with_reducible refine gate_dst (N := 2) rfl ?_); (try (refine gate_guard (by rfl) ?_; dsimp only)); refine box_event ?hg (N := 2) ?hd (cs := #[.slice Ao6 l0_0.length co6, .slice Ao7 l0_1.length co7, .int .i64 a0_2, .int .i64 a0_3]) (t := 107) ?hr ?_; (case hd => rfl); (case hg => rfl); (case hr => exact kq11); intro gb672 hg w8 hbox hb; have BK672 := mk (hbox); have GW672 := mk ((by rw [hg]; exact kq57 : w.heap.size ≤ gb672)); have GE672 := (gs_ hg kq9); replace HO0_0 := mk (Kd.R_below (kq15 HO0_0) hb); replace HO0_1 := mk (Kd.R_below (kq15 HO0_1) hb); replace HO1_0 := mk (Kd.R_below (kq15 HO1_0) hb); replace HO1_1 := mk (Kd.R_below (kq15 HO1_1) hb); replace HK := mk (Kept.below (S := (fun k_ => P0_0_ k_ ∨ P0_1_ k_ ∨ P1_0_ k_ ∨ P1_1_ k_)) kq58 hb); replace HB := mk (below_step kq9 hb); clear hb hbox hg; obtain ⟨Ao9, co9, eo9⟩ := Kd.R_slice HO1_0.out; subst eo9; obtain ⟨Ao10, co10, eo10⟩ := Kd.R_slice HO1_1.out; subst eo10) | ((with_reducible refine gate_dst (N := 3) rfl ?_); (try (refine gate_guard (by rfl) ?_; dsimp only)); refine box_event ?hg (N := 3) ?hd (cs := #[.slice Ao9 l1_0.length co9, .slice Ao10 l1_1.length co10, .int .i64 a1_2, .int .i64 a1_3]) (t := 107) ?hr ?_; (case hd => rfl); (case hg => rfl); (case hr => exact kq11); intro gb673 hg w11 hbox hb; have BK673 := mk (hbox); have GW673 := mk ((by rw [hg]; exact (kq59 GW672) : w.heap.size ≤ gb673)); have GE673 := (gs_ hg (kq16 GE672)); have NB672_673 := (nl_ hg BK672); have NB673_672 := (ng_ hg BK672); replace HO0_0 := mk (Kd.R_below (kq15 HO0_0) hb); replace HO0_1 := mk (Kd.R_below (kq15 HO0_1) hb); replace HO1_0 := mk (Kd.R_below (kq15 HO1_0) hb); replace HO1_1 := mk (Kd.R_below (kq15 HO1_1) hb); replace BK672 := (bb_ BK672 hb); replace HK := mk (Kept.below (S := (fun k_ => P0_0_ k_ ∨ P0_1_ k_ ∨ P1_0_ k_ ∨ P1_1_ k_)) (kq60 GW672) hb); replace HB := mk (below_step (kq16 GE672) hb); clear hb hbox hg) | ((with_reducible refine gate_dst (N := 4) rfl ?_); (try (refine gate_guard (by rfl) ?_; dsimp only)); refine box_event ?hg (N := 4) ?hd (cs := #[.slice none 0 0, .slice none 0 0, .int .i64 0, .int .i64 0]) (t := 107) ?hr ?_; (case hd => rfl); (case hg => rfl); (case hr => exact kq11); intro gb674 hg w12 hbox hb; have BK674 := mk (hbox); have GW674 := mk ((by rw [hg]; exact (kq61 GW672 GW673) : w.heap.size ≤ gb674)); have GE674 := (gs_ hg (kq23 GE672 GE673)); have NB672_674 := (nl_ hg BK672); have NB674_672 := (ng_ hg BK672); have NB673_674 := (nl_ hg BK673); have NB674_673 := (ng_ hg BK673); replace HO0_0 := mk (Kd.R_below (kq15 HO0_0) hb); replace HO0_1 := mk (Kd.R_below (kq15 HO0_1) hb); replace HO1_0 := mk (Kd.R_below (kq15 HO1_0) hb); replace HO1_1 := mk (Kd.R_below (kq15 HO1_1) hb); replace BK672 := (bb_ BK672 hb); replace BK673 := (bb_ BK673 hb); replace HK := mk (Kept.below (S := (fun k_ => P0_0_ k_ ∨ P0_1_ k_ ∨ P1_0_ k_ ∨ P1_1_ k_)) (kq62 GW672 GW673) hb); replace HB := mk (below_step (kq23 GE672 GE673) hb); clear hb hbox hg; have hnb13 := NB672_673.out; have hnc13 := NB673_672.out; have hnb14 := NB672_674.out; have hnc14 := NB674_672.out; obtain ⟨_, _, _, _, _, _, _, _⟩ := cz4_ BK672.out; have hnb16 := NB673_674.out; have hnc16 := NB674_673.out; obtain ⟨_, _, _, _, _, _, _, _⟩ := cz4_ BK673.out))); ((try simp only [Act.put, setIfInBounds_toArray, set_cons_zero, set_cons_succ])); (go_cut [15] (fun v15 wc => ∃ (kq : Nat) (x15_4 : Bool), v15 = .bool x15_4 ∧ Aside0 (norm_product.j0 kq x15_4 l0_0 l0_1 a0_2 a0_3 l1_0 l1_1 a1_2 a1_3 = some (r1, r2, r3, r4)) ∧ Aside0 (kq ≤ k) ∧ Aside0 (Kd.R Kd.string 9 wc w0.heap.size (fun k_ => ((P0_0_ k_ ∨ P0_1_ k_ ∨ P1_0_ k_ ∨ P1_1_ k_) ∨ w.heap.size ≤ k_) ∧ some k_ ≠ ((.slice Ao9 l1_0.length co9) : Value).ownBlock) (.slice Ao6 l0_0.length co6) l0_0) ∧ Aside0 (Kd.R (Kd.int .i64) 2 wc w0.heap.size (fun k_ => ((P0_0_ k_ ∨ P0_1_ k_ ∨ P1_0_ k_ ∨ P1_1_ k_) ∨ w.heap.size ≤ k_) ∧ some k_ ≠ ((.slice Ao10 l1_1.length co10) : Value).ownBlock) (.slice Ao7 l0_1.length co7) l0_1) ∧ Aside0 (Kd.R Kd.string 9 wc w0.heap.size (fun k_ => ((P0_0_ k_ ∨ P0_1_ k_ ∨ P1_0_ k_ ∨ P1_1_ k_) ∨ w.heap.size ≤ k_) ∧ some k_ ≠ ((.slice Ao6 l0_0.length co6) : Value).ownBlock) (.slice Ao9 l1_0.length co9) l1_0) ∧ Aside0 (Kd.R (Kd.int .i64) 2 wc w0.heap.size (fun k_ => ((P0_0_ k_ ∨ P0_1_ k_ ∨ P1_0_ k_ ∨ P1_1_ k_) ∨ w.heap.size ≤ k_) ∧ some k_ ≠ ((.slice Ao7 l0_1.length co7) : Value).ownBlock) (.slice Ao10 l1_1.length co10) l1_1) ∧ Aside0 (wc.heap[gb672]? = some (.cells #[(.slice Ao6 l0_0.length co6), (.slice Ao7 l0_1.length co7), .int .i64 a0_2, .int .i64 a0_3] 107 (0, 0))) ∧ Aside0 (wc.heap[gb673]? = some (.cells #[(.slice Ao9 l1_0.length co9), (.slice Ao10 l1_1.length co10), .int .i64 a1_2, .int .i64 a1_3] 107 (0, 0))) ∧ Aside0 (wc.heap[gb674]? = some (.cells #[(.slice none 0 0), (.slice none 0 0), .int .i64 0, .int .i64 0] 107 (0, 0))) ∧ Aside0 (Kept w wc (fun k_ => P0_0_ k_ ∨ P0_1_ k_ ∨ P1_0_ k_ ∨ P1_1_ k_)) ∧ Aside0 (Below w0.heap.size w0 wc)))
      case first =>
        (have H := HC5.out); clear HC5; replace H := ic_ H; obtain ⟨c18, H⟩ | ⟨c18, H⟩ := H
        · (have c18b0 : decide (0 < (l0_0.length : Int)) = true := decide_eq_true c18); (have c18b1 : decide (0 < l0_0.length) = true := decide_eq_true kq1); clear c18; ((first | rw [c18b0] | (simp only [i64_w, i32_w]; rw [c18b0]) | skip)); (have H' := mk H); clear H; (have hnb19 := NB672_673.out); (have hnc19 := NB673_672.out); (have hnb20 := NB672_674.out); (have hnc20 := NB674_672.out); (obtain ⟨_, _, _, _, _, _, _, _⟩ := cz4_ BK672.out); (have hnb22 := NB673_674.out); (have hnc22 := NB674_673.out); (obtain ⟨_, _, _, _, _, _, _, _⟩ := cz4_ BK673.out); go_wp2; (go_meet)
          case rel => exact ⟨_, (decide ((l1_0.length : Int) > 0)), kq3, H', ⟨kq4⟩, ⟨(kq15 HO0_0)⟩, ⟨(kq15 HO0_1)⟩, ⟨(kq15 HO1_0)⟩, ⟨(kq15 HO1_1)⟩, ⟨(kq18 BK672)⟩, ⟨(kq18 BK673)⟩, ⟨(kq18 BK674)⟩, ⟨(kq64 GW672 GW673 GW674)⟩, ⟨(kq28 GE672 GE673 GE674)⟩⟩
        · (have c18b0 : decide (0 < (l0_0.length : Int)) = false := decide_eq_false c18); (have c18b1 : decide (0 < l0_0.length) = false := decide_eq_false kq1); clear c18; ((first | rw [c18b0] | (simp only [i64_w, i32_w]; rw [c18b0]) | skip)); (have H' := mk H); clear H; (have hnb24 := NB672_673.out); (have hnc24 := NB673_672.out); (have hnb25 := NB672_674.out); (have hnc25 := NB674_672.out); (obtain ⟨_, _, _, _, _, _, _, _⟩ := cz4_ BK672.out); go_wp2; (go_meet)
          case rel => exact ⟨_, (false), kq3, H', ⟨kq4⟩, ⟨(kq15 HO0_0)⟩, ⟨(kq15 HO0_1)⟩, ⟨(kq15 HO1_0)⟩, ⟨(kq15 HO1_1)⟩, ⟨(kq18 BK672)⟩, ⟨(kq18 BK673)⟩, ⟨(kq18 BK674)⟩, ⟨(kq64 GW672 GW673 GW674)⟩, ⟨(kq28 GE672 GE673 GE674)⟩⟩
      case rest =>
        clear HC5; (obtain ⟨kq, x15_4, rfl, HA, HJ4, HO_673000, HO_673001, HO_674000, HO_674001, BK672, BK673, BK674, HK, HB⟩ := hcut)
        cases kq with
        | zero => exact absurd HA.out (by simp [norm_product.j0])
        | succ kj4 =>
          (have H := HA.out); clear HA; (simp only [norm_product.j0] at H); (by_cases c27 : x15_4 = true)
          · subst c27; (have H1 : (some (([] : List ByteArray), ([] : List Int), 0, 90)) = some (r1, r2, r3, r4) := by rw [if_pos rfl] at H; exact H); clear H; (have H := H1); clear H1; (simp only [Option.some.injEq, Prod.mk.injEq] at H); (obtain ⟨rfl, rfl, rfl, rfl⟩ := H); (have hnb28 := NB674_672.out); (have hnc28 := NB672_674.out); (have hnb29 := NB674_673.out); (have hnc29 := NB673_674.out); (obtain ⟨_, _, _, _, _, _, _, _⟩ := cz4_ BK674.out); go_wp2; (refine bodyPost_ret (results_cell_row rfl _ _ gb674 107 #[.slice none 0 0, .slice none 0 0, .int .i64 0, .int .i64 90] (0, 0) _ rfl (by (with_reducible repeat (first | refine blk_drewN ?_ _ | refine blk_drew ?_ | refine blk_alloc ?_ _)); refine blk_put (cs := #[.slice none 0 0, .slice none 0 0, .int .i64 0, .int .i64 0]) ?_ 3 _ rfl; (with_reducible repeat (first | refine blk_drewN ?_ _ | refine blk_drew ?_ | refine blk_alloc ?_ _)); refine blk_put (cs := #[.slice none 0 0, .slice none 0 0, .int .i64 0, .int .i64 0]) ?_ 2 _ rfl; (with_reducible repeat (first | refine blk_drewN ?_ _ | refine blk_drew ?_ | refine blk_alloc ?_ _)); refine blk_put (cs := #[.slice none 0 0, .slice none 0 0, .int .i64 0, .int .i64 0]) ?_ 1 _ rfl; (with_reducible repeat (first | refine blk_drewN ?_ _ | refine blk_drew ?_ | refine blk_alloc ?_ _)); refine blk_put (cs := #[.slice none 0 0, .slice none 0 0, .int .i64 0, .int .i64 0]) ?_ 0 _ rfl; (with_reducible repeat (first | refine blk_drewN ?_ _ | refine blk_drew ?_ | refine blk_alloc ?_ _)); exact BK674.out) Try.underlying107 rfl kq0) rfl ?_); (exact ⟨_, _, kq14, kq27, kq27, (kq28 GE672 GE673 GE674), (kq64 GW672 GW673 GW674)⟩)
          · (replace c27 := Bool.eq_false_iff.mpr c27); subst c27; (have H1 : (if (l0_0.length : Int) > 0 then ((norm_times.f l0_0 l0_1 a0_2 a0_3 a1_2).bind fun bt675 => (some (bt675.1, bt675.2.1, bt675.2.2.1, bt675.2.2.2))) else ((norm_times.f l1_0 l1_1 a1_2 a1_3 a0_2).bind fun bt683 => (some (bt683.1, bt683.2.1, bt683.2.2.1, bt683.2.2.2)))) = some (r1, r2, r3, r4) := by rw [if_neg (show ¬ (false = true) by decide)] at H; exact H); clear H; (have H := H1); clear H1; replace H := ic_ H; obtain ⟨c31, H⟩ | ⟨c31, H⟩ := H
            · (have c31b0 : decide (0 < (l0_0.length : Int)) = true := decide_eq_true c31); (have c31b1 : decide (0 < l0_0.length) = true := decide_eq_true kq1); clear c31; (replace H := Option.bind_eq_some_iff.mp H); (obtain ⟨⟨t675, t678, t681, t682⟩, A320, H⟩ := H); (replace H : (some (t675, t678, t681, t682)) = some (r1, r2, r3, r4) := H); (have A32 := mk A320); clear A320; (simp only [Option.some.injEq, Prod.mk.injEq] at H); (obtain ⟨rfl, rfl, rfl, rfl⟩ := H); (have hnb33 := NB672_673.out); (have hnc33 := NB673_672.out); (have hnb34 := NB672_674.out); (have hnc34 := NB674_672.out); (obtain ⟨_, _, _, _, _, _, _, _⟩ := cz4_ BK672.out); (have hnb36 := NB673_674.out); (have hnc36 := NB674_673.out); (obtain ⟨_, _, _, _, _, _, _, _⟩ := cz4_ BK673.out); (go_wp2_with (first | ((with_reducible refine gate_callee (f := 164) rfl ?_); refine goesL_ (some 35) rfl rfl Try.func164 kq0 rfl #[.agg #[.slice Ao6 l0_0.length co6, .slice Ao7 l0_1.length co7, .int .i64 a0_2, .int .i64 a0_3], .int .i64 a1_2] rfl kq7 ?_; (with_reducible refine (norm_times.calls (fun k_ => some k_ = (.slice Ao6 l0_0.length co6 : Value).ownBlock) (.slice Ao6 l0_0.length co6) l0_0 _ _ l0_1 a0_2 a0_3 a1_2 t675 t678 t681 t682 w0 _ ?side1 ?side2 ?side3 ?side4 A32.out).mono ?_); (case side1 => exact kq28 GE672 GE673 GE674); (case side2 => exact Kd.R_tight rfl HO_673000.out); (case side3 => exact Kd.C_kept_own ((Kd.R_apart' HO_673001.out (Kd.R_typed HO_673000.out) kq2)) (fun k_ hk_ hs_ => (hk_.2) hs_)); (case side4 => exact (Kd.R_reads' HO_673001.out).2.1); rintro e w38 ⟨v676, v679, rfl, ho0, ho1, hb, hkp⟩; refine ⟨_, rfl, ?_⟩; have HO677 := mk (Kd.R_mono (ok' := fun k_ => ((P0_0_ k_ ∨ P0_1_ k_ ∨ P1_0_ k_ ∨ P1_1_ k_) ∨ w.heap.size ≤ k_) ∧ some k_ ≠ (.slice Ao9 l1_0.length co9 : Value).ownBlock) ho0 (fun k_ hk_ => ⟨Or.elim hk_ (fun hs_ => (HO_673000.out.1 k_ (hs_).symm).1) (fun hn_ => (.inr (Nat.le_trans (kq63 GW672 GW673 GW674) hn_))), Or.elim hk_ (fun hs_ => fun e_ => (((HO_674000.out).1 k_ e_.symm).2) hs_) (fun hn_ => (Kd.fresh' (Kd.R_lt (kq15 HO_674000)) k_ hn_))⟩)); have HO680 := mk (Kd.R_mono (ok' := fun k_ => ((P0_0_ k_ ∨ P0_1_ k_ ∨ P1_0_ k_ ∨ P1_1_ k_) ∨ w.heap.size ≤ k_) ∧ some k_ ≠ (.slice Ao7 l0_1.length co7 : Value).ownBlock ∧ some k_ ≠ (.slice Ao10 l1_1.length co10 : Value).ownBlock) ho1 (fun k_ hk_ => ⟨Or.elim hk_ (fun hs_ => (HO_673000.out.1 k_ (hs_).symm).1) (fun hn_ => (.inr (Nat.le_trans (kq63 GW672 GW673 GW674) hn_))), Or.elim hk_ (fun hs_ => fun e_ => ((((Kd.R_apart' HO_673001.out (Kd.R_typed HO_673000.out) kq2)).1 k_ e_.symm).2) hs_) (fun hn_ => (Kd.fresh' (Kd.R_lt (kq15 HO_673001)) k_ hn_)), Or.elim hk_ (fun hs_ => fun e_ => ((((Kd.R_apart' HO_674001.out (Kd.R_typed HO_673000.out) kq2)).1 k_ e_.symm).2) hs_) (fun hn_ => (Kd.fresh' (Kd.R_lt (kq15 HO_674001)) k_ hn_))⟩)); replace HO_673001 := mk (Kd.R_mono (ok' := fun k_ => ((P0_0_ k_ ∨ P0_1_ k_ ∨ P1_0_ k_ ∨ P1_1_ k_) ∨ w.heap.size ≤ k_) ∧ some k_ ≠ (.slice Ao10 l1_1.length co10 : Value).ownBlock ∧ some k_ ≠ (v679 : Value).ownBlock) (Kd.R_keptB ((Kd.R_apart' HO_673001.out (Kd.R_typed HO_673000.out) kq2)) hkp (fun k_ hk_ hs_ => (hk_.2) hs_)) (fun k_ hk_ => ⟨hk_.1.1.1, hk_.1.1.2, fun e_ => Or.elim (ho1.1 k_ e_.symm) (fun hs_ => hk_.2.1 hs_) (fun hn_ => Nat.not_le.2 hk_.2.2 hn_)⟩)); replace HO_674000 := mk (Kd.R_mono (ok' := fun k_ => ((P0_0_ k_ ∨ P0_1_ k_ ∨ P1_0_ k_ ∨ P1_1_ k_) ∨ w.heap.size ≤ k_) ∧ some k_ ≠ (v676 : Value).ownBlock) (Kd.R_keptB (HO_674000.out) hkp (fun k_ hk_ hs_ => (hk_.2) hs_)) (fun k_ hk_ => ⟨hk_.1.1, fun e_ => Or.elim (ho0.1 k_ e_.symm) (fun hs_ => hk_.2.1 hs_) (fun hn_ => Nat.not_le.2 hk_.2.2 hn_)⟩)); replace HO_674001 := mk (Kd.R_mono (ok' := fun k_ => ((P0_0_ k_ ∨ P0_1_ k_ ∨ P1_0_ k_ ∨ P1_1_ k_) ∨ w.heap.size ≤ k_) ∧ some k_ ≠ (.slice Ao7 l0_1.length co7 : Value).ownBlock ∧ some k_ ≠ (v679 : Value).ownBlock) (Kd.R_keptB ((Kd.R_apart' HO_674001.out (Kd.R_typed HO_673000.out) kq2)) hkp (fun k_ hk_ hs_ => (hk_.2) hs_)) (fun k_ hk_ => ⟨hk_.1.1.1, hk_.1.1.2, fun e_ => Or.elim (ho1.1 k_ e_.symm) (fun hs_ => hk_.2.1 hs_) (fun hn_ => Nat.not_le.2 hk_.2.2 hn_)⟩)); replace BK672 := mk (blk_kept (kq18 BK672) hkp (fun hs_ => (fun e_ => (Kd.R_ne HO_673000.out BK672.out kq2) e_) hs_)); replace BK673 := mk (blk_kept (kq18 BK673) hkp (fun hs_ => (fun e_ => (Kd.R_ne HO_673000.out BK673.out kq2) e_) hs_)); replace BK674 := mk (blk_kept (kq18 BK674) hkp (fun hs_ => (fun e_ => (Kd.R_ne HO_673000.out BK674.out kq2) e_) hs_)); replace HK := mk (Kept.then_ (S := (fun k_ => P0_0_ k_ ∨ P0_1_ k_ ∨ P1_0_ k_ ∨ P1_1_ k_)) (kq64 GW672 GW673 GW674) hkp (fun k_ hs_ => (fun e_ => (HO_673000.out.1 k_ e_.symm).1) hs_)); replace HB := mk (hb); clear HO_673000; obtain ⟨Ao39, co39, eo39⟩ := Kd.R_slice HO677.out; subst eo39; obtain ⟨_, _, _, _, _, _, _, _⟩ := cz4_ BK674.out; obtain ⟨Ao41, co41, eo41⟩ := Kd.R_slice HO680.out; subst eo41))); (refine bodyPost_ret (results_cell_row rfl _ _ gb674 107 #[.slice Ao39 t675.length co39, .slice Ao41 t678.length co41, .int .i64 t681, .int .i64 t682] (0, 0) _ rfl (by (with_reducible repeat (first | refine blk_drewN ?_ _ | refine blk_drew ?_ | refine blk_alloc ?_ _)); refine blk_put (cs := #[.slice Ao39 t675.length co39, .slice Ao41 t678.length co41, .int .i64 t681, .int .i64 0]) ?_ 3 _ rfl; (with_reducible repeat (first | refine blk_drewN ?_ _ | refine blk_drew ?_ | refine blk_alloc ?_ _)); refine blk_put (cs := #[.slice Ao39 t675.length co39, .slice Ao41 t678.length co41, .int .i64 0, .int .i64 0]) ?_ 2 _ rfl; (with_reducible repeat (first | refine blk_drewN ?_ _ | refine blk_drew ?_ | refine blk_alloc ?_ _)); refine blk_put (cs := #[.slice Ao39 t675.length co39, .slice none 0 0, .int .i64 0, .int .i64 0]) ?_ 1 _ rfl; (with_reducible repeat (first | refine blk_drewN ?_ _ | refine blk_drew ?_ | refine blk_alloc ?_ _)); refine blk_put (cs := #[.slice none 0 0, .slice none 0 0, .int .i64 0, .int .i64 0]) ?_ 0 _ rfl; (with_reducible repeat (first | refine blk_drewN ?_ _ | refine blk_drew ?_ | refine blk_alloc ?_ _)); exact BK674.out) Try.underlying107 rfl kq0) rfl ?_); (exact ⟨_, _, kq14, (kq65 HO677 BK674), (kq65 HO680 BK674), (kq28 GE672 GE673 GE674), (kq64 GW672 GW673 GW674)⟩)
            · (have c31b0 : decide (0 < (l0_0.length : Int)) = false := decide_eq_false c31); (have c31b1 : decide (0 < l0_0.length) = false := decide_eq_false kq1); clear c31; (replace H := Option.bind_eq_some_iff.mp H); (obtain ⟨⟨t683, t686, t689, t690⟩, A420, H⟩ := H); (replace H : (some (t683, t686, t689, t690)) = some (r1, r2, r3, r4) := H); (have A42 := mk A420); clear A420; (simp only [Option.some.injEq, Prod.mk.injEq] at H); (obtain ⟨rfl, rfl, rfl, rfl⟩ := H); (have hnb43 := NB672_673.out); (have hnc43 := NB673_672.out); (have hnb44 := NB672_674.out); (have hnc44 := NB674_672.out); (obtain ⟨_, _, _, _, _, _, _, _⟩ := cz4_ BK672.out); (have hnb46 := NB673_674.out); (have hnc46 := NB674_673.out); (obtain ⟨_, _, _, _, _, _, _, _⟩ := cz4_ BK673.out); (go_wp2_with (first | ((with_reducible refine gate_callee (f := 164) rfl ?_); refine goesL_ (some 39) rfl rfl Try.func164 kq0 rfl #[.agg #[.slice Ao9 l1_0.length co9, .slice Ao10 l1_1.length co10, .int .i64 a1_2, .int .i64 a1_3], .int .i64 a0_2] rfl kq7 ?_; (with_reducible refine (norm_times.calls (fun k_ => some k_ = (.slice Ao9 l1_0.length co9 : Value).ownBlock) (.slice Ao9 l1_0.length co9) l1_0 _ _ l1_1 a1_2 a1_3 a0_2 t683 t686 t689 t690 w0 _ ?side1 ?side2 ?side3 ?side4 A42.out).mono ?_); (case side1 => exact kq28 GE672 GE673 GE674); (case side2 => exact Kd.R_tight rfl HO_674000.out); (case side3 => exact Kd.C_kept_own ((Kd.R_apart' HO_674001.out (Kd.R_typed HO_674000.out) kq2)) (fun k_ hk_ hs_ => (hk_.2) hs_)); (case side4 => exact (Kd.R_reads' HO_674001.out).2.1); rintro e w48 ⟨v684, v687, rfl, ho0, ho1, hb, hkp⟩; refine ⟨_, rfl, ?_⟩; have HO685 := mk (Kd.R_mono (ok' := fun k_ => ((P0_0_ k_ ∨ P0_1_ k_ ∨ P1_0_ k_ ∨ P1_1_ k_) ∨ w.heap.size ≤ k_) ∧ some k_ ≠ (.slice Ao6 l0_0.length co6 : Value).ownBlock) ho0 (fun k_ hk_ => ⟨Or.elim hk_ (fun hs_ => (HO_674000.out.1 k_ (hs_).symm).1) (fun hn_ => (.inr (Nat.le_trans (kq63 GW672 GW673 GW674) hn_))), Or.elim hk_ (fun hs_ => fun e_ => (((HO_673000.out).1 k_ e_.symm).2) hs_) (fun hn_ => (Kd.fresh' (Kd.R_lt (kq15 HO_673000)) k_ hn_))⟩)); have HO688 := mk (Kd.R_mono (ok' := fun k_ => ((P0_0_ k_ ∨ P0_1_ k_ ∨ P1_0_ k_ ∨ P1_1_ k_) ∨ w.heap.size ≤ k_) ∧ some k_ ≠ (.slice Ao7 l0_1.length co7 : Value).ownBlock ∧ some k_ ≠ (.slice Ao10 l1_1.length co10 : Value).ownBlock) ho1 (fun k_ hk_ => ⟨Or.elim hk_ (fun hs_ => (HO_674000.out.1 k_ (hs_).symm).1) (fun hn_ => (.inr (Nat.le_trans (kq63 GW672 GW673 GW674) hn_))), Or.elim hk_ (fun hs_ => fun e_ => ((((Kd.R_apart' HO_673001.out (Kd.R_typed HO_674000.out) kq2)).1 k_ e_.symm).2) hs_) (fun hn_ => (Kd.fresh' (Kd.R_lt (kq15 HO_673001)) k_ hn_)), Or.elim hk_ (fun hs_ => fun e_ => ((((Kd.R_apart' HO_674001.out (Kd.R_typed HO_674000.out) kq2)).1 k_ e_.symm).2) hs_) (fun hn_ => (Kd.fresh' (Kd.R_lt (kq15 HO_674001)) k_ hn_))⟩)); replace HO_673000 := mk (Kd.R_mono (ok' := fun k_ => ((P0_0_ k_ ∨ P0_1_ k_ ∨ P1_0_ k_ ∨ P1_1_ k_) ∨ w.heap.size ≤ k_) ∧ some k_ ≠ (v684 : Value).ownBlock) (Kd.R_keptB (HO_673000.out) hkp (fun k_ hk_ hs_ => (hk_.2) hs_)) (fun k_ hk_ => ⟨hk_.1.1, fun e_ => Or.elim (ho0.1 k_ e_.symm) (fun hs_ => hk_.2.1 hs_) (fun hn_ => Nat.not_le.2 hk_.2.2 hn_)⟩)); replace HO_673001 := mk (Kd.R_mono (ok' := fun k_ => ((P0_0_ k_ ∨ P0_1_ k_ ∨ P1_0_ k_ ∨ P1_1_ k_) ∨ w.heap.size ≤ k_) ∧ some k_ ≠ (.slice Ao10 l1_1.length co10 : Value).ownBlock ∧ some k_ ≠ (v687 : Value).ownBlock) (Kd.R_keptB ((Kd.R_apart' HO_673001.out (Kd.R_typed HO_674000.out) kq2)) hkp (fun k_ hk_ hs_ => (hk_.2) hs_)) (fun k_ hk_ => ⟨hk_.1.1.1, hk_.1.1.2, fun e_ => Or.elim (ho1.1 k_ e_.symm) (fun hs_ => hk_.2.1 hs_) (fun hn_ => Nat.not_le.2 hk_.2.2 hn_)⟩)); replace HO_674001 := mk (Kd.R_mono (ok' := fun k_ => ((P0_0_ k_ ∨ P0_1_ k_ ∨ P1_0_ k_ ∨ P1_1_ k_) ∨ w.heap.size ≤ k_) ∧ some k_ ≠ (.slice Ao7 l0_1.length co7 : Value).ownBlock ∧ some k_ ≠ (v687 : Value).ownBlock) (Kd.R_keptB ((Kd.R_apart' HO_674001.out (Kd.R_typed HO_674000.out) kq2)) hkp (fun k_ hk_ hs_ => (hk_.2) hs_)) (fun k_ hk_ => ⟨hk_.1.1.1, hk_.1.1.2, fun e_ => Or.elim (ho1.1 k_ e_.symm) (fun hs_ => hk_.2.1 hs_) (fun hn_ => Nat.not_le.2 hk_.2.2 hn_)⟩)); replace BK672 := mk (blk_kept (kq18 BK672) hkp (fun hs_ => (fun e_ => (Kd.R_ne HO_674000.out BK672.out kq2) e_) hs_)); replace BK673 := mk (blk_kept (kq18 BK673) hkp (fun hs_ => (fun e_ => (Kd.R_ne HO_674000.out BK673.out kq2) e_) hs_)); replace BK674 := mk (blk_kept (kq18 BK674) hkp (fun hs_ => (fun e_ => (Kd.R_ne HO_674000.out BK674.out kq2) e_) hs_)); replace HK := mk (Kept.then_ (S := (fun k_ => P0_0_ k_ ∨ P0_1_ k_ ∨ P1_0_ k_ ∨ P1_1_ k_)) (kq64 GW672 GW673 GW674) hkp (fun k_ hs_ => (fun e_ => (HO_674000.out.1 k_ e_.symm).1) hs_)); replace HB := mk (hb); clear HO_674000; obtain ⟨Ao49, co49, eo49⟩ := Kd.R_slice HO685.out; subst eo49; obtain ⟨_, _, _, _, _, _, _, _⟩ := cz4_ BK674.out; obtain ⟨Ao51, co51, eo51⟩ := Kd.R_slice HO688.out; subst eo51))); (refine bodyPost_ret (results_cell_row rfl _ _ gb674 107 #[.slice Ao49 t683.length co49, .slice Ao51 t686.length co51, .int .i64 t689, .int .i64 t690] (0, 0) _ rfl (by (with_reducible repeat (first | refine blk_drewN ?_ _ | refine blk_drew ?_ | refine blk_alloc ?_ _)); refine blk_put (cs := #[.slice Ao49 t683.length co49, .slice Ao51 t686.length co51, .int .i64 t689, .int .i64 0]) ?_ 3 _ rfl; (with_reducible repeat (first | refine blk_drewN ?_ _ | refine blk_drew ?_ | refine blk_alloc ?_ _)); refine blk_put (cs := #[.slice Ao49 t683.length co49, .slice Ao51 t686.length co51, .int .i64 0, .int .i64 0]) ?_ 2 _ rfl; (with_reducible repeat (first | refine blk_drewN ?_ _ | refine blk_drew ?_ | refine blk_alloc ?_ _)); refine blk_put (cs := #[.slice Ao49 t683.length co49, .slice none 0 0, .int .i64 0, .int .i64 0]) ?_ 1 _ rfl; (with_reducible repeat (first | refine blk_drewN ?_ _ | refine blk_drew ?_ | refine blk_alloc ?_ _)); refine blk_put (cs := #[.slice none 0 0, .slice none 0 0, .int .i64 0, .int .i64 0]) ?_ 0 _ rfl; (with_reducible repeat (first | refine blk_drewN ?_ _ | refine blk_drew ?_ | refine blk_alloc ?_ _)); exact BK674.out) Try.underlying107 rfl kq0) rfl ?_); (exact ⟨_, _, kq14, (kq66 HO685 BK674), (kq66 HO688 BK674), (kq28 GE672 GE673 GE674), (kq64 GW672 GW673 GW674)⟩)
    · (obtain ⟨c4b0, c4b1⟩ := eFn_ c4); (simp only [Option.some.injEq, Prod.mk.injEq] at H); (obtain ⟨rfl, rfl, rfl, rfl⟩ := H); (obtain ⟨Ao52, co52, eo52⟩ := Kd.R_slice HO0_0.out); subst eo52; (obtain ⟨Ao53, co53, eo53⟩ := Kd.R_slice HO0_1.out); subst eo53; (go_enter Try.func122, Try.ntmps122); (go_wp2_with (first | ((with_reducible refine gate_dst (N := 2) rfl ?_); (try (refine gate_guard (by rfl) ?_; dsimp only)); refine box_event ?hg (N := 2) ?hd (cs := #[.slice Ao52 l0_0.length co52, .slice Ao53 l0_1.length co53, .int .i64 a0_2, .int .i64 a0_3]) (t := 107) ?hr ?_; (case hd => rfl); (case hg => rfl); (case hr => exact kq11); intro gb672 hg w54 hbox hb; have BK672 := mk (hbox); have GW672 := mk ((by rw [hg]; exact kq57 : w.heap.size ≤ gb672)); have GE672 := (gs_ hg kq9); replace HO0_0 := mk (Kd.R_below (kq15 HO0_0) hb); replace HO0_1 := mk (Kd.R_below (kq15 HO0_1) hb); replace HO1_0 := mk (Kd.R_below (kq15 HO1_0) hb); replace HO1_1 := mk (Kd.R_below (kq15 HO1_1) hb); replace HK := mk (Kept.below (S := (fun k_ => P0_0_ k_ ∨ P0_1_ k_ ∨ P1_0_ k_ ∨ P1_1_ k_)) kq58 hb); replace HB := mk (below_step kq9 hb); clear hb hbox hg; obtain ⟨Ao55, co55, eo55⟩ := Kd.R_slice HO1_0.out; subst eo55; obtain ⟨Ao56, co56, eo56⟩ := Kd.R_slice HO1_1.out; subst eo56) | ((with_reducible refine gate_dst (N := 3) rfl ?_); (try (refine gate_guard (by rfl) ?_; dsimp only)); refine box_event ?hg (N := 3) ?hd (cs := #[.slice Ao55 l1_0.length co55, .slice Ao56 l1_1.length co56, .int .i64 a1_2, .int .i64 a1_3]) (t := 107) ?hr ?_; (case hd => rfl); (case hg => rfl); (case hr => exact kq11); intro gb673 hg w57 hbox hb; have BK673 := mk (hbox); have GW673 := mk ((by rw [hg]; exact (kq59 GW672) : w.heap.size ≤ gb673)); have GE673 := (gs_ hg (kq16 GE672)); have NB672_673 := (nl_ hg BK672); have NB673_672 := (ng_ hg BK672); replace HO0_0 := mk (Kd.R_below (kq15 HO0_0) hb); replace HO0_1 := mk (Kd.R_below (kq15 HO0_1) hb); replace HO1_0 := mk (Kd.R_below (kq15 HO1_0) hb); replace HO1_1 := mk (Kd.R_below (kq15 HO1_1) hb); replace BK672 := (bb_ BK672 hb); replace HK := mk (Kept.below (S := (fun k_ => P0_0_ k_ ∨ P0_1_ k_ ∨ P1_0_ k_ ∨ P1_1_ k_)) (kq60 GW672) hb); replace HB := mk (below_step (kq16 GE672) hb); clear hb hbox hg) | ((with_reducible refine gate_dst (N := 4) rfl ?_); (try (refine gate_guard (by rfl) ?_; dsimp only)); refine box_event ?hg (N := 4) ?hd (cs := #[.slice none 0 0, .slice none 0 0, .int .i64 0, .int .i64 0]) (t := 107) ?hr ?_; (case hd => rfl); (case hg => rfl); (case hr => exact kq11); intro gb674 hg w58 hbox hb; have BK674 := mk (hbox); have GW674 := mk ((by rw [hg]; exact (kq61 GW672 GW673) : w.heap.size ≤ gb674)); have GE674 := (gs_ hg (kq23 GE672 GE673)); have NB672_674 := (nl_ hg BK672); have NB674_672 := (ng_ hg BK672); have NB673_674 := (nl_ hg BK673); have NB674_673 := (ng_ hg BK673); replace HO0_0 := mk (Kd.R_below (kq15 HO0_0) hb); replace HO0_1 := mk (Kd.R_below (kq15 HO0_1) hb); replace HO1_0 := mk (Kd.R_below (kq15 HO1_0) hb); replace HO1_1 := mk (Kd.R_below (kq15 HO1_1) hb); replace BK672 := (bb_ BK672 hb); replace BK673 := (bb_ BK673 hb); replace HK := mk (Kept.below (S := (fun k_ => P0_0_ k_ ∨ P0_1_ k_ ∨ P1_0_ k_ ∨ P1_1_ k_)) (kq62 GW672 GW673) hb); replace HB := mk (below_step (kq23 GE672 GE673) hb); clear hb hbox hg; have hnb59 := NB672_673.out; have hnc59 := NB673_672.out; have hnb60 := NB672_674.out; have hnc60 := NB674_672.out; obtain ⟨_, _, _, _, _, _, _, _⟩ := cz4_ BK672.out; have hnb62 := NB673_674.out; have hnc62 := NB674_673.out; obtain ⟨_, _, _, _, _, _, _, _⟩ := cz4_ BK673.out; obtain ⟨_, _, _, _, _, _, _, _⟩ := cz4_ BK674.out))); (refine bodyPost_ret (results_cell_row rfl _ _ gb674 107 #[.slice Ao55 l1_0.length co55, .slice Ao56 l1_1.length co56, .int .i64 a1_2, .int .i64 a1_3] (0, 0) _ rfl (by (with_reducible repeat (first | refine blk_drewN ?_ _ | refine blk_drew ?_ | refine blk_alloc ?_ _)); refine blk_put (cs := #[.slice Ao55 l1_0.length co55, .slice Ao56 l1_1.length co56, .int .i64 a1_2, .int .i64 0]) ?_ 3 _ rfl; (with_reducible repeat (first | refine blk_drewN ?_ _ | refine blk_drew ?_ | refine blk_alloc ?_ _)); refine blk_put (cs := #[.slice Ao55 l1_0.length co55, .slice Ao56 l1_1.length co56, .int .i64 0, .int .i64 0]) ?_ 2 _ rfl; (with_reducible repeat (first | refine blk_drewN ?_ _ | refine blk_drew ?_ | refine blk_alloc ?_ _)); refine blk_put (cs := #[.slice Ao55 l1_0.length co55, .slice none 0 0, .int .i64 0, .int .i64 0]) ?_ 1 _ rfl; (with_reducible repeat (first | refine blk_drewN ?_ _ | refine blk_drew ?_ | refine blk_alloc ?_ _)); refine blk_put (cs := #[.slice none 0 0, .slice none 0 0, .int .i64 0, .int .i64 0]) ?_ 0 _ rfl; (with_reducible repeat (first | refine blk_drewN ?_ _ | refine blk_drew ?_ | refine blk_alloc ?_ _)); exact BK674.out) Try.underlying107 rfl kq0) rfl ?_); (exact ⟨_, _, kq14, (kq67 HO1_0 BK674), (kq67 HO1_1 BK674), (kq28 GE672 GE673 GE674), (kq64 GW672 GW673 GW674)⟩)
  · rw [if_neg c3] at H
    have c3b0 := eF_ c3
    have c3b1 := nT_ c3
    simp only [Option.some.injEq, Prod.mk.injEq] at H
    obtain ⟨rfl, rfl, rfl, rfl⟩ := H
    obtain ⟨Ao65, co65, eo65⟩ := Kd.R_slice HO0_0.out
    subst eo65
    obtain ⟨Ao66, co66, eo66⟩ := Kd.R_slice HO0_1.out
    subst eo66
    go_enter Try.func122, Try.ntmps122
    go_wp2_with (first | ((with_reducible refine gate_dst (N := 2) rfl ?_); (try (refine gate_guard (by rfl) ?_; dsimp only)); refine box_event ?hg (N := 2) ?hd (cs := #[.slice Ao65 l0_0.length co65, .slice Ao66 l0_1.length co66, .int .i64 a0_2, .int .i64 a0_3]) (t := 107) ?hr ?_; (case hd => rfl); (case hg => rfl); (case hr => exact kq11); intro gb672 hg w67 hbox hb; have BK672 := mk (hbox); have GW672 := mk ((by rw [hg]; exact kq57 : w.heap.size ≤ gb672)); have GE672 := (gs_ hg kq9); replace HO0_0 := mk (Kd.R_below (kq15 HO0_0) hb); replace HO0_1 := mk (Kd.R_below (kq15 HO0_1) hb); replace HO1_0 := mk (Kd.R_below (kq15 HO1_0) hb); replace HO1_1 := mk (Kd.R_below (kq15 HO1_1) hb); replace HK := mk (Kept.below (S := (fun k_ => P0_0_ k_ ∨ P0_1_ k_ ∨ P1_0_ k_ ∨ P1_1_ k_)) kq58 hb); replace HB := mk (below_step kq9 hb); clear hb hbox hg; obtain ⟨Ao68, co68, eo68⟩ := Kd.R_slice HO1_0.out; subst eo68; obtain ⟨Ao69, co69, eo69⟩ := Kd.R_slice HO1_1.out; subst eo69) | ((with_reducible refine gate_dst (N := 3) rfl ?_); (try (refine gate_guard (by rfl) ?_; dsimp only)); refine box_event ?hg (N := 3) ?hd (cs := #[.slice Ao68 l1_0.length co68, .slice Ao69 l1_1.length co69, .int .i64 a1_2, .int .i64 a1_3]) (t := 107) ?hr ?_; (case hd => rfl); (case hg => rfl); (case hr => exact kq11); intro gb673 hg w70 hbox hb; have BK673 := mk (hbox); have GW673 := mk ((by rw [hg]; exact (kq59 GW672) : w.heap.size ≤ gb673)); have GE673 := (gs_ hg (kq16 GE672)); have NB672_673 := (nl_ hg BK672); have NB673_672 := (ng_ hg BK672); replace HO0_0 := mk (Kd.R_below (kq15 HO0_0) hb); replace HO0_1 := mk (Kd.R_below (kq15 HO0_1) hb); replace HO1_0 := mk (Kd.R_below (kq15 HO1_0) hb); replace HO1_1 := mk (Kd.R_below (kq15 HO1_1) hb); replace BK672 := (bb_ BK672 hb); replace HK := mk (Kept.below (S := (fun k_ => P0_0_ k_ ∨ P0_1_ k_ ∨ P1_0_ k_ ∨ P1_1_ k_)) (kq60 GW672) hb); replace HB := mk (below_step (kq16 GE672) hb); clear hb hbox hg) | ((with_reducible refine gate_dst (N := 4) rfl ?_); (try (refine gate_guard (by rfl) ?_; dsimp only)); refine box_event ?hg (N := 4) ?hd (cs := #[.slice none 0 0, .slice none 0 0, .int .i64 0, .int .i64 0]) (t := 107) ?hr ?_; (case hd => rfl); (case hg => rfl); (case hr => exact kq11); intro gb674 hg w71 hbox hb; have BK674 := mk (hbox); have GW674 := mk ((by rw [hg]; exact (kq61 GW672 GW673) : w.heap.size ≤ gb674)); have GE674 := (gs_ hg (kq23 GE672 GE673)); have NB672_674 := (nl_ hg BK672); have NB674_672 := (ng_ hg BK672); have NB673_674 := (nl_ hg BK673); have NB674_673 := (ng_ hg BK673); replace HO0_0 := mk (Kd.R_below (kq15 HO0_0) hb); replace HO0_1 := mk (Kd.R_below (kq15 HO0_1) hb); replace HO1_0 := mk (Kd.R_below (kq15 HO1_0) hb); replace HO1_1 := mk (Kd.R_below (kq15 HO1_1) hb); replace BK672 := (bb_ BK672 hb); replace BK673 := (bb_ BK673 hb); replace HK := mk (Kept.below (S := (fun k_ => P0_0_ k_ ∨ P0_1_ k_ ∨ P1_0_ k_ ∨ P1_1_ k_)) (kq62 GW672 GW673) hb); replace HB := mk (below_step (kq23 GE672 GE673) hb); clear hb hbox hg; have hnb72 := NB672_673.out; have hnc72 := NB673_672.out; have hnb73 := NB672_674.out; have hnc73 := NB674_672.out; obtain ⟨_, _, _, _, _, _, _, _⟩ := cz4_ BK672.out; have hnb75 := NB674_673.out; have hnc75 := NB673_674.out; obtain ⟨_, _, _, _, _, _, _, _⟩ := cz4_ BK674.out))
    refine bodyPost_ret (results_cell_row rfl _ _ gb674 107 #[.slice Ao65 l0_0.length co65, .slice Ao66 l0_1.length co66, .int .i64 a0_2, .int .i64 a0_3] (0, 0) _ rfl (by (with_reducible repeat (first | refine blk_drewN ?_ _ | refine blk_drew ?_ | refine blk_alloc ?_ _)); refine blk_put (cs := #[.slice Ao65 l0_0.length co65, .slice Ao66 l0_1.length co66, .int .i64 a0_2, .int .i64 0]) ?_ 3 _ rfl; (with_reducible repeat (first | refine blk_drewN ?_ _ | refine blk_drew ?_ | refine blk_alloc ?_ _)); refine blk_put (cs := #[.slice Ao65 l0_0.length co65, .slice Ao66 l0_1.length co66, .int .i64 0, .int .i64 0]) ?_ 2 _ rfl; (with_reducible repeat (first | refine blk_drewN ?_ _ | refine blk_drew ?_ | refine blk_alloc ?_ _)); refine blk_put (cs := #[.slice Ao65 l0_0.length co65, .slice none 0 0, .int .i64 0, .int .i64 0]) ?_ 1 _ rfl; (with_reducible repeat (first | refine blk_drewN ?_ _ | refine blk_drew ?_ | refine blk_alloc ?_ _)); refine blk_put (cs := #[.slice none 0 0, .slice none 0 0, .int .i64 0, .int .i64 0]) ?_ 0 _ rfl; (with_reducible repeat (first | refine blk_drewN ?_ _ | refine blk_drew ?_ | refine blk_alloc ?_ _)); exact BK674.out) Try.underlying107 rfl kq0) rfl ?_
    exact ⟨_, _, kq14, (kq68 HO0_0 BK674), (kq68 HO0_1 BK674), (kq28 GE672 GE673 GE674), (kq64 GW672 GW673 GW674)⟩
end Go.Proofs.Ytjknpmibdkoklaa.Q
