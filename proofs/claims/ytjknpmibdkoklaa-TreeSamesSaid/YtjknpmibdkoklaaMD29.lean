/- Functions of the given program as Lean functions, each with its contract, and what they answer; words for it. No condition but those of each. -/
import Derived.Test.YtjknpmibdkoklaaMD26
import Derived.Test.YtjknpmibdkoklaaMD27
import Derived.Test.YtjknpmibdkoklaaMD28
import Derived.Test.YtjknpmibdkoklaaMD24
import Derived.Test.YtjknpmibdkoklaaMD25
import Derived.LoopTactic
import Derived.Shelf.Abstract
set_option maxRecDepth 100000
namespace Go.Proofs.Ytjknpmibdkoklaa.Q
open Go.RowKit Go.Proofs.YtjknpmibdkoklaaW.PrintWords Go.Proofs.YtjknpmibdkoklaaW.PrintLast Go.Proofs.YtjknpmibdkoklaaW.PrintMore
open Aside0 (mk)
mutual
def sizedT : S66 → Bool
  | ⟨_, _, s, l⟩ => decide (s.size ≤ 140737488351232) && sizedTs l
def sizedTs : List S66 → Bool
  | [] => true
  | t :: l => sizedT t && sizedTs l
end
theorem sizedTs_mem : ∀ {l : List S66}, sizedTs l = true → ∀ t ∈ l, sizedT t = true
  | t :: l, h, x, hx => by
    rw [sizedTs, Bool.and_eq_true] at h
    rcases List.mem_cons.1 hx with rfl | hx
    · exact h.1
    · exact sizedTs_mem h.2 x hx
theorem sizedT_eq (t : S66) : sizedT t = (decide (t.f2.size ≤ 140737488351232) && sizedTs t.f3) := by cases t; rw [sizedT]
mutual
def sizedF : S39 → Bool
  | ⟨_, s, _, l, q⟩ => decide (s.size ≤ 140737488351232) && (sizedTs l && sizedFs q)
def sizedFs : List S39 → Bool
  | [] => true
  | t :: l => sizedF t && sizedFs l
end
theorem sizedFs_mem : ∀ {l : List S39}, sizedFs l = true → ∀ t ∈ l, sizedF t = true
  | t :: l, h, x, hx => by
    rw [sizedFs, Bool.and_eq_true] at h
    rcases List.mem_cons.1 hx with rfl | hx
    · exact h.1
    · exact sizedFs_mem h.2 x hx
theorem sizedF_eq (t : S39) : sizedF t = (decide (t.f1.size ≤ 140737488351232) && (sizedTs t.f3 && sizedFs t.f4)) := by cases t; rw [sizedF]
theorem node_at (m : Int × Int × Int) (dep : Int) (good : Bool) : tabardref06_Meter_node.f m.1 m.2.1 m.2.2 dep good = some ((nodeM dep good m).1, (nodeM dep good m).2.1, (nodeM dep good m).2.2) := by
  unfold tabardref06_Meter_node.f nodeM
  (repeat' split) <;> rfl
structure Goes (w0 w W : World) (g : Nat) (m : Int × Int × Int) : Prop where
  st : StM 99 W g m
  keep : KeepBut w W g none
  below : Below w0.heap.size w0 W
theorem Goes.then_ {w0 w W W' : World} {g : Nat} {m : Int × Int × Int} (h : Goes w0 w W g m) (hb : Below W.heap.size W W') : Goes w0 w W' g m :=
  ⟨h.st.below hb, h.keep.trans (KeepBut.of_below hb g none) (.inl rfl), below_step h.below hb⟩
theorem Goes.step {w0 w W W' : World} {g : Nat} {m m' : Int × Int × Int} (h : Goes w0 w W g m) (hs : StM 99 W' g m') (hk : KeepBut W W' g none) (hb : Below w0.heap.size w0 W') : Goes w0 w W' g m' :=
  ⟨hs, h.keep.trans hk (.inl rfl), hb⟩
theorem Goes.self {w0 w W : World} {g : Nat} {m : Int × Int × Int} (h : Goes w0 w W g m) : Goes w0 W W g m := ⟨h.st, KeepBut.refl W g none, h.below⟩
set_option maxHeartbeats 8000000 in
theorem meterT_calls : ∀ (n : Nat) (t : S66), SizeOf.sizeOf t < n → sizedT t = true → ∀ (A : Option Addr) (c0 : Nat) (dep : Int) (m : Int × Int × Int) (w0 w : World) (g : Nat), w0.heap.size ≤ g → Goes w0 w w g m → Kd.C k66 w0 A t.f3.length t.f3 → t.f3.length ≤ c0 →
    Calls Try.prog 127 #[.pointer (some ⟨g, 0, none⟩), .agg #[.int .i64 t.f0, .int .i64 t.f1, .string t.f2, .slice A t.f3.length c0], .int .i64 dep] w fun en w' => en = .returned (.tuple #[]) ∧ Goes w0 w w' g (measT t dep m) := by
  intro n
  induction n with
  | zero => exact fun t h => absurd h (Nat.not_lt_zero _)
  | succ n ih =>
  intro t ht hs A c0 dep m w0 w g hwg hG hr hc0
  have hu66 := Try.underlying66
  have HR := mk hr
  have HC := mk hc0
  have HG := mk hG
  have HT := mk ht
  rw [sizedT_eq, Bool.and_eq_true] at hs
  obtain ⟨kw, hkw⟩ := (well_term t (of_decide_eq_true hs.1)).rounds
  have hok := mk hkw
  have HSS := mk hs.2
  clear hr hc0 hG ht hkw hs
  have hlen := HR.out.2.1
  have HRR := mk (measT_eq t dep m)
  generalize measT t dep m = R at HRR ⊢
  go_enter Try.func127, Try.ntmps127
  go_wp2_with (first | ((with_reducible refine gate_dst (N := 4) rfl ?_); refine box_event ?hg (N := 4) ?hd (cs := #[.int .i64 t.f0, .int .i64 t.f1, .string t.f2, .slice A t.f3.length c0]) (t := 66) ?hr ?_; (case hd => rfl); (case hg => rfl); (case hr => first | (go_simp; done) | (go_simp; rfl)); intro gb hgb w1 hbox hb; have HG1 := mk (HG.out.then_ hb); have BK := mk hbox; clear HG hb hbox hgb; have q0 : w1.cell? ⟨gb, 0, none⟩ = some (.int .i64 t.f0) := (blk_cell BK.out 0).trans rfl; have q1 : w1.cell? ⟨gb, 1, none⟩ = some (.int .i64 t.f1) := (blk_cell BK.out 1).trans rfl; have q2 : w1.cell? ⟨gb, 2, none⟩ = some (.string t.f2) := (blk_cell BK.out 2).trans rfl; have q3 : w1.cell? ⟨gb, 3, none⟩ = some (.slice A t.f3.length c0) := (blk_cell BK.out 3).trans rfl) | (go_at_call 166; refine (tabardref06_wellTerm.calls kw t.f0 t.f1 t.f2 A c0 t.f3 (okT t) _ ?side1 ?side2 hok.out).mono ?_; (case side1 => exact Kd.C_below HR.out HG1.out.below); (case side2 => exact HC.out); rintro e w2 ⟨rfl, hb⟩; have HG2 := mk (HG1.out.then_ hb); have BK2 := mk (blk_below BK.out hb); clear HG1 BK hb) | (go_at_call 159; refine (tabardref06_Meter_node.calls g m.1 m.2.1 m.2.2 dep (okT t) _ _ _ w0 _ ⟨HG2.out.st, hwg⟩ HG2.out.below (node_at m dep (okT t))).mono ?_; rintro e w3 ⟨rfl, hs, hb, hk⟩; have BK3 := mk (hk.blk BK2.out (blk_ne BK2.out HG2.out.st (by decide)) (by simp)); have HG3 := mk (HG2.out.step (m' := nodeM dep (okT t) m) hs.1 hk hb); clear HG2 BK2 hs hk hb))
  go_loopg [6] t.f3.length (fun gq v wr => ∃ (i : Nat) (mm : Int × Int × Int), v = .int .i64 i ∧ Aside0 (i ≤ t.f3.length) ∧ Aside0 (t.f3.length - i ≤ gq) ∧ Aside0 ((if mm.2.2 = 0 then measTs (t.f3.drop i) (wrap64 (dep + 1)) mm else mm) = R) ∧ Aside0 (wr.heap[gb]? = some (.cells #[.int .i64 t.f0, .int .i64 t.f1, .string t.f2, .slice A t.f3.length c0] 66 (0, 0))) ∧ Aside0 (Goes w0 w wr g mm))
  case atStart => exact ⟨0, _, rfl, ⟨Nat.zero_le _⟩, ⟨by omega⟩, ⟨by rw [List.drop_zero]; exact HRR.out.symm⟩, ⟨BK3.out⟩, ⟨HG3.out⟩⟩
  case round =>
    obtain ⟨i, mm, rfl, HI, HQ, HM, BK, HG⟩ := hrel
    obtain ⟨⟨d0, d1, d2⟩, _, _, _⟩ := HG.out.st.cells
    have q3 : wr.cell? ⟨gb, 3, none⟩ = some (.slice A t.f3.length c0) := (blk_cell BK.out 3).trans rfl
    by_cases hi : i < t.f3.length
    · have hiz : (i : Int) < (t.f3.length : Int) := by omega
      by_cases hz : mm.2.2 = 0
      · have hzb : (mm.2.2 == 0) = true := beq_iff_eq.2 hz
        have hi0 : (0 : Int) ≤ (i : Int) := by omega
        obtain ⟨ad, A2, c2, ead, hx0, hx1, hx2, hx3, hl3, hi3⟩ := at_T66 HR.out (i : Int) hi0 hiz
        cases ead
        have hx : rd_T66 t.f3 (i : Int) = t.f3[i] := by simp [rd_T66, hi]
        rw [hx] at hx0 hx1 hx2 hx3 hl3 hi3
        rw [Int.toNat_natCast] at hx0 hx1 hx2 hx3
        have hB := HG.out.below
        replace hx0 := (hB.cell (World.block_lt_of_cell? _ _ hx0)).trans hx0
        replace hx1 := (hB.cell (World.block_lt_of_cell? _ _ hx1)).trans hx1
        replace hx2 := (hB.cell (World.block_lt_of_cell? _ _ hx2)).trans hx2
        replace hx3 := (hB.cell (World.block_lt_of_cell? _ _ hx3)).trans hx3
        have Hhl3 := mk hl3
        have Hhi3 := mk hi3
        have HMD := mk (show (if (measT t.f3[i] (wrap64 (dep + 1)) mm).2.2 = 0 then measTs (t.f3.drop (i + 1)) (wrap64 (dep + 1)) (measT t.f3[i] (wrap64 (dep + 1)) mm) else measT t.f3[i] (wrap64 (dep + 1)) mm) = R by rw [← HM.out, if_pos hz, measTs_drop hi])
        have HZS := mk (sizedTs_mem HSS.out t.f3[i] (List.getElem_mem hi))
        have HSZ := mk (show SizeOf.sizeOf t.f3[i] < n by
          have h1 := List.sizeOf_lt_of_mem (List.getElem_mem hi)
          have h2 : SizeOf.sizeOf t.f3 < SizeOf.sizeOf t := by cases t; simp; omega
          have := HT.out
          omega)
        clear hl3 hi3 hB hx HM
        generalize t.f3[i] = y at hx0 hx1 hx2 hx3 Hhl3 Hhi3 HMD HZS HSZ
        go_wp2_with (go_at_call 127; refine (ih y HSZ.out HZS.out A2 c2 (wrap64 (dep + 1)) mm w0 wr g hwg HG.out.self Hhi3.out Hhl3.out).mono ?_; rintro e w5 ⟨rfl, hg5⟩; have HG5 := mk (HG.out.step hg5.st hg5.keep hg5.below); have BK5 := mk (hg5.keep.blk BK.out (blk_ne BK.out HG.out.st (by decide)) (by simp)); clear hg5)
        go_roundg (t.f3.length - (i + 1))
        case measure => have := HQ.out; omega
        case rel => exact ⟨i + 1, _, by first | rfl | rw [show wrap64 ((i : Int) + 1) = ((i + 1 : Nat) : Int) from by unfold wrap64; omega], ⟨by omega⟩, ⟨by omega⟩, HMD, BK5, HG5⟩
      · have hzb : (mm.2.2 == 0) = false := beq_eq_false_iff_ne.2 hz
        have HE := mk (show mm = R by rw [← HM.out, if_neg hz])
        clear HM hi hz HQ HI
        go_wp2
        first | go_end0 | ((try simp only [Exit.inBlock, Exit.then]); refine bodyPost_ret (results_none rfl _ _ _) rfl ?_)
        exact ⟨rfl, by rw [← HE.out]; exact HG.out⟩
    · have hiz : ¬ (i : Int) < (t.f3.length : Int) := by omega
      have hil : i = t.f3.length := by have := HI.out; omega
      have HE := mk (show mm = R by rw [← HM.out, hil, List.drop_length]; split <;> rfl)
      clear hil HM hi HQ HI
      go_wp2
      first | go_end0 | ((try simp only [Exit.inBlock, Exit.then]); refine bodyPost_ret (results_none rfl _ _ _) rfl ?_)
      exact ⟨rfl, by rw [← HE.out]; exact HG.out⟩
set_option maxHeartbeats 16000000 in
theorem meterF_calls : ∀ (n : Nat) (t : S39), SizeOf.sizeOf t < n → sizedF t = true → ∀ (A : Option Addr) (c0 : Nat) (B : Option Addr) (c1 : Nat) (dep : Int) (m : Int × Int × Int) (w0 w : World) (g : Nat), w0.heap.size ≤ g → Goes w0 w w g m → Kd.C k66 w0 A t.f3.length t.f3 → t.f3.length ≤ c0 → Kd.C k39 w0 B t.f4.length t.f4 → t.f4.length ≤ c1 →
    Calls Try.prog 113 #[.pointer (some ⟨g, 0, none⟩), .agg #[.int .i64 t.f0, .string t.f1, .int .i64 t.f2, .slice A t.f3.length c0, .slice B t.f4.length c1], .int .i64 dep] w fun en w' => en = .returned (.tuple #[]) ∧ Goes w0 w w' g (measF t dep m) := by
  intro n
  induction n with
  | zero => exact fun t h => absurd h (Nat.not_lt_zero _)
  | succ n ih =>
  intro t ht hs A c0 B c1 dep m w0 w g hwg hG hr hc0 hr4 hc1
  have hu66 := Try.underlying66
  have hu39 := Try.underlying39
  have HR := mk hr
  have HC := mk hc0
  have HR4 := mk hr4
  have HC4 := mk hc1
  have HG := mk hG
  have HT := mk ht
  rw [sizedF_eq, Bool.and_eq_true, Bool.and_eq_true] at hs
  obtain ⟨kw, hkw⟩ := (well_made t (of_decide_eq_true hs.1)).rounds
  have hok := mk hkw
  have HSS := mk hs.2.1
  have HSF := mk hs.2.2
  clear hr hc0 hr4 hc1 hG ht hkw hs
  have hlen := HR.out.2.1
  have hlen4 := HR4.out.2.1
  have HRR0 := mk (measF_eq t dep m)
  generalize measF t dep m = R at HRR0 ⊢
  obtain ⟨R1, HR1⟩ : ∃ R1, R1 = (if (nodeM dep (okF t) m).2.2 = 0 then measTs t.f3 (wrap64 (dep + 1)) (nodeM dep (okF t) m) else nodeM dep (okF t) m) := ⟨_, rfl⟩
  have HRR := mk (show R = if R1.2.2 = 0 then measFs t.f4 (wrap64 (dep + 1)) R1 else R1 by
    rw [HRR0.out, HR1]
    by_cases h : (nodeM dep (okF t) m).2.2 = 0
    · rw [if_pos h, if_pos h]
    · rw [if_neg h, if_neg h, if_neg h])
  have HRA := mk HR1
  clear HRR0 HR1
  go_enter Try.func113, Try.ntmps113
  go_wp2_with (first | ((with_reducible refine gate_dst (N := 4) rfl ?_); refine box_event ?hg (N := 4) ?hd (cs := #[.int .i64 t.f0, .string t.f1, .int .i64 t.f2, .slice A t.f3.length c0, .slice B t.f4.length c1]) (t := 39) ?hr ?_; (case hd => rfl); (case hg => rfl); (case hr => first | (go_simp; done) | (go_simp; rfl)); intro gb hgb w1 hbox hb; have HG1 := mk (HG.out.then_ hb); have BK := mk hbox; clear HG hb hbox hgb; have q0 : w1.cell? ⟨gb, 0, none⟩ = some (.int .i64 t.f0) := (blk_cell BK.out 0).trans rfl; have q1 : w1.cell? ⟨gb, 1, none⟩ = some (.string t.f1) := (blk_cell BK.out 1).trans rfl; have q2 : w1.cell? ⟨gb, 2, none⟩ = some (.int .i64 t.f2) := (blk_cell BK.out 2).trans rfl; have q3 : w1.cell? ⟨gb, 3, none⟩ = some (.slice A t.f3.length c0) := (blk_cell BK.out 3).trans rfl; have q4 : w1.cell? ⟨gb, 4, none⟩ = some (.slice B t.f4.length c1) := (blk_cell BK.out 4).trans rfl) | (go_at_call 160; refine (tabardref06_wellMade.calls kw t.f0 t.f1 t.f2 A c0 t.f3 B c1 t.f4 (okF t) _ ?side1 ?side2 ?side3 ?side4 hok.out).mono ?_; (case side1 => exact Kd.C_below HR.out HG1.out.below); (case side2 => exact HC.out); (case side3 => exact Kd.C_below HR4.out HG1.out.below); (case side4 => exact HC4.out); rintro e w2 ⟨rfl, hb⟩; have HG2 := mk (HG1.out.then_ hb); have BK2 := mk (blk_below BK.out hb); clear HG1 BK hb) | (go_at_call 159; refine (tabardref06_Meter_node.calls g m.1 m.2.1 m.2.2 dep (okF t) _ _ _ w0 _ ⟨HG2.out.st, hwg⟩ HG2.out.below (node_at m dep (okF t))).mono ?_; rintro e w3 ⟨rfl, hs, hb, hk⟩; have BK3 := mk (hk.blk BK2.out (blk_ne BK2.out HG2.out.st (by decide)) (by simp)); have HG3 := mk (HG2.out.step (m' := nodeM dep (okF t) m) hs.1 hk hb); clear HG2 BK2 hs hk hb))
  go_loopg [6] t.f3.length (fun gq v wr => ∃ (i : Nat) (mm : Int × Int × Int), v = .int .i64 i ∧ Aside0 (i ≤ t.f3.length) ∧ Aside0 (t.f3.length - i ≤ gq) ∧ Aside0 ((if mm.2.2 = 0 then measTs (t.f3.drop i) (wrap64 (dep + 1)) mm else mm) = R1) ∧ Aside0 (wr.heap[gb]? = some (.cells #[.int .i64 t.f0, .string t.f1, .int .i64 t.f2, .slice A t.f3.length c0, .slice B t.f4.length c1] 39 (0, 0))) ∧ Aside0 (Goes w0 w wr g mm))
  case atStart => exact ⟨0, _, rfl, ⟨Nat.zero_le _⟩, ⟨by omega⟩, ⟨by rw [List.drop_zero]; exact HRA.out.symm⟩, ⟨BK3.out⟩, ⟨HG3.out⟩⟩
  case round =>
    obtain ⟨i, mm, rfl, HI, HQ, HM, BK, HG⟩ := hrel
    obtain ⟨⟨d0, d1, d2⟩, _, _, _⟩ := HG.out.st.cells
    have q3 : wr.cell? ⟨gb, 3, none⟩ = some (.slice A t.f3.length c0) := (blk_cell BK.out 3).trans rfl
    by_cases hi : i < t.f3.length
    · have hiz : (i : Int) < (t.f3.length : Int) := by omega
      by_cases hz : mm.2.2 = 0
      · have hzb : (mm.2.2 == 0) = true := beq_iff_eq.2 hz
        have hi0 : (0 : Int) ≤ (i : Int) := by omega
        obtain ⟨ad, A2, c2, ead, hx0, hx1, hx2, hx3, hl3, hi3⟩ := at_T66 HR.out (i : Int) hi0 hiz
        cases ead
        have hx : rd_T66 t.f3 (i : Int) = t.f3[i] := by simp [rd_T66, hi]
        rw [hx] at hx0 hx1 hx2 hx3 hl3 hi3
        rw [Int.toNat_natCast] at hx0 hx1 hx2 hx3
        have hB := HG.out.below
        replace hx0 := (hB.cell (World.block_lt_of_cell? _ _ hx0)).trans hx0
        replace hx1 := (hB.cell (World.block_lt_of_cell? _ _ hx1)).trans hx1
        replace hx2 := (hB.cell (World.block_lt_of_cell? _ _ hx2)).trans hx2
        replace hx3 := (hB.cell (World.block_lt_of_cell? _ _ hx3)).trans hx3
        have Hhl3 := mk hl3
        have Hhi3 := mk hi3
        have HMD := mk (show (if (measT t.f3[i] (wrap64 (dep + 1)) mm).2.2 = 0 then measTs (t.f3.drop (i + 1)) (wrap64 (dep + 1)) (measT t.f3[i] (wrap64 (dep + 1)) mm) else measT t.f3[i] (wrap64 (dep + 1)) mm) = R1 by rw [← HM.out, if_pos hz, measTs_drop hi])
        have HZS := mk (sizedTs_mem HSS.out t.f3[i] (List.getElem_mem hi))
        clear hl3 hi3 hB hx HM
        generalize t.f3[i] = y at hx0 hx1 hx2 hx3 Hhl3 Hhi3 HMD HZS
        go_wp2_with (go_at_call 127; refine (meterT_calls _ y (Nat.lt_succ_self _) HZS.out A2 c2 (wrap64 (dep + 1)) mm w0 wr g hwg HG.out.self Hhi3.out Hhl3.out).mono ?_; rintro e w5 ⟨rfl, hg5⟩; have HG5 := mk (HG.out.step hg5.st hg5.keep hg5.below); have BK5 := mk (hg5.keep.blk BK.out (blk_ne BK.out HG.out.st (by decide)) (by simp)); clear hg5)
        go_roundg (t.f3.length - (i + 1))
        case measure => have := HQ.out; omega
        case rel => exact ⟨i + 1, _, by first | rfl | rw [show wrap64 ((i : Int) + 1) = ((i + 1 : Nat) : Int) from by unfold wrap64; omega], ⟨by omega⟩, ⟨by omega⟩, HMD, BK5, HG5⟩
      · have hzb : (mm.2.2 == 0) = false := beq_eq_false_iff_ne.2 hz
        have HE := mk (show mm = R1 by rw [← HM.out, if_neg hz])
        clear HM hi hz HQ HI
        have HRF := mk (show R = if mm.2.2 = 0 then measFs t.f4 (wrap64 (dep + 1)) mm else mm by rw [HRR.out, ← HE.out])
        clear HE HRR
        go_wp2
        go_loopg [7] t.f4.length (fun gq v wr => ∃ (i : Nat) (mm : Int × Int × Int), v = .int .i64 i ∧ Aside0 (i ≤ t.f4.length) ∧ Aside0 (t.f4.length - i ≤ gq) ∧ Aside0 ((if mm.2.2 = 0 then measFs (t.f4.drop i) (wrap64 (dep + 1)) mm else mm) = R) ∧ Aside0 (wr.heap[gb]? = some (.cells #[.int .i64 t.f0, .string t.f1, .int .i64 t.f2, .slice A t.f3.length c0, .slice B t.f4.length c1] 39 (0, 0))) ∧ Aside0 (Goes w0 w wr g mm))
        case atStart => exact ⟨0, _, rfl, ⟨Nat.zero_le _⟩, ⟨by omega⟩, ⟨by rw [List.drop_zero]; exact HRF.out.symm⟩, ⟨BK.out⟩, ⟨HG.out⟩⟩
        case round =>
          clear BK HG; obtain ⟨i, mm, rfl, HI, HQ, HM, BK, HG⟩ := hrel
          obtain ⟨⟨d0, d1, d2⟩, _, _, _⟩ := HG.out.st.cells
          have q4 : wr.cell? ⟨gb, 4, none⟩ = some (.slice B t.f4.length c1) := (blk_cell BK.out 4).trans rfl
          by_cases hi : i < t.f4.length
          · have hiz : (i : Int) < (t.f4.length : Int) := by omega
            by_cases hz : mm.2.2 = 0
            · have hzb : (mm.2.2 == 0) = true := beq_iff_eq.2 hz
              have hi0 : (0 : Int) ≤ (i : Int) := by omega
              obtain ⟨ad, A2, c2, A3, c3, ead, hx0, hx1, hx2, hx3, hx4, hl3, hi3, hl4, hi4⟩ := at_T39 HR4.out (i : Int) hi0 hiz
              cases ead
              have hx : rd_T39 t.f4 (i : Int) = t.f4[i] := by simp [rd_T39, hi]
              rw [hx] at hx0 hx1 hx2 hx3 hx4 hl3 hi3 hl4 hi4
              rw [Int.toNat_natCast] at hx0 hx1 hx2 hx3 hx4
              have hB := HG.out.below
              replace hx0 := (hB.cell (World.block_lt_of_cell? _ _ hx0)).trans hx0
              replace hx1 := (hB.cell (World.block_lt_of_cell? _ _ hx1)).trans hx1
              replace hx2 := (hB.cell (World.block_lt_of_cell? _ _ hx2)).trans hx2
              replace hx3 := (hB.cell (World.block_lt_of_cell? _ _ hx3)).trans hx3
              replace hx4 := (hB.cell (World.block_lt_of_cell? _ _ hx4)).trans hx4
              have Hhl3 := mk hl3
              have Hhi3 := mk hi3
              have Hhl4 := mk hl4
              have Hhi4 := mk hi4
              have HMD := mk (show (if (measF t.f4[i] (wrap64 (dep + 1)) mm).2.2 = 0 then measFs (t.f4.drop (i + 1)) (wrap64 (dep + 1)) (measF t.f4[i] (wrap64 (dep + 1)) mm) else measF t.f4[i] (wrap64 (dep + 1)) mm) = R by rw [← HM.out, if_pos hz, measFs_drop hi])
              have HZS := mk (sizedFs_mem HSF.out t.f4[i] (List.getElem_mem hi))
              have HSZ := mk (show SizeOf.sizeOf t.f4[i] < n by
                have h1 := List.sizeOf_lt_of_mem (List.getElem_mem hi)
                have h2 : SizeOf.sizeOf t.f4 < SizeOf.sizeOf t := by cases t; simp; omega
                have := HT.out
                omega)
              clear hl3 hi3 hl4 hi4 hB hx HM
              generalize t.f4[i] = y at hx0 hx1 hx2 hx3 hx4 Hhl3 Hhi3 Hhl4 Hhi4 HMD HZS HSZ
              go_wp2_with (go_at_call 113; refine (ih y HSZ.out HZS.out A2 c2 A3 c3 (wrap64 (dep + 1)) mm w0 wr g hwg HG.out.self Hhi3.out Hhl3.out Hhi4.out Hhl4.out).mono ?_; rintro e w5 ⟨rfl, hg5⟩; have HG5 := mk (HG.out.step hg5.st hg5.keep hg5.below); have BK5 := mk (hg5.keep.blk BK.out (blk_ne BK.out HG.out.st (by decide)) (by simp)); clear hg5)
              go_roundg (t.f4.length - (i + 1))
              case measure => have := HQ.out; omega
              case rel => exact ⟨i + 1, _, by first | rfl | rw [show wrap64 ((i : Int) + 1) = ((i + 1 : Nat) : Int) from by unfold wrap64; omega], ⟨by omega⟩, ⟨by omega⟩, HMD, BK5, HG5⟩
            · have hzb : (mm.2.2 == 0) = false := beq_eq_false_iff_ne.2 hz
              have HE := mk (show mm = R by rw [← HM.out, if_neg hz])
              clear HM hi hz HQ HI
              go_wp2
              first | go_end0 | ((try simp only [Exit.inBlock, Exit.then]); refine bodyPost_ret (results_none rfl _ _ _) rfl ?_)
              exact ⟨rfl, by rw [← HE.out]; exact HG.out⟩
          · have hiz : ¬ (i : Int) < (t.f4.length : Int) := by omega
            have hil : i = t.f4.length := by have := HI.out; omega
            have HE := mk (show mm = R by rw [← HM.out, hil, List.drop_length]; split <;> rfl)
            clear hil HM hi HQ HI
            go_wp2
            first | go_end0 | ((try simp only [Exit.inBlock, Exit.then]); refine bodyPost_ret (results_none rfl _ _ _) rfl ?_)
            exact ⟨rfl, by rw [← HE.out]; exact HG.out⟩
    · have hiz : ¬ (i : Int) < (t.f3.length : Int) := by omega
      have hil : i = t.f3.length := by have := HI.out; omega
      have HE := mk (show mm = R1 by rw [← HM.out, hil, List.drop_length]; split <;> rfl)
      clear hil HM hi HQ HI
      have HRF := mk (show R = if mm.2.2 = 0 then measFs t.f4 (wrap64 (dep + 1)) mm else mm by rw [HRR.out, ← HE.out])
      clear HE HRR
      go_wp2
      go_loopg [7] t.f4.length (fun gq v wr => ∃ (i : Nat) (mm : Int × Int × Int), v = .int .i64 i ∧ Aside0 (i ≤ t.f4.length) ∧ Aside0 (t.f4.length - i ≤ gq) ∧ Aside0 ((if mm.2.2 = 0 then measFs (t.f4.drop i) (wrap64 (dep + 1)) mm else mm) = R) ∧ Aside0 (wr.heap[gb]? = some (.cells #[.int .i64 t.f0, .string t.f1, .int .i64 t.f2, .slice A t.f3.length c0, .slice B t.f4.length c1] 39 (0, 0))) ∧ Aside0 (Goes w0 w wr g mm))
      case atStart => exact ⟨0, _, rfl, ⟨Nat.zero_le _⟩, ⟨by omega⟩, ⟨by rw [List.drop_zero]; exact HRF.out.symm⟩, ⟨BK.out⟩, ⟨HG.out⟩⟩
      case round =>
        clear BK HG; obtain ⟨i, mm, rfl, HI, HQ, HM, BK, HG⟩ := hrel
        obtain ⟨⟨d0, d1, d2⟩, _, _, _⟩ := HG.out.st.cells
        have q4 : wr.cell? ⟨gb, 4, none⟩ = some (.slice B t.f4.length c1) := (blk_cell BK.out 4).trans rfl
        by_cases hi : i < t.f4.length
        · have hiz : (i : Int) < (t.f4.length : Int) := by omega
          by_cases hz : mm.2.2 = 0
          · have hzb : (mm.2.2 == 0) = true := beq_iff_eq.2 hz
            have hi0 : (0 : Int) ≤ (i : Int) := by omega
            obtain ⟨ad, A2, c2, A3, c3, ead, hx0, hx1, hx2, hx3, hx4, hl3, hi3, hl4, hi4⟩ := at_T39 HR4.out (i : Int) hi0 hiz
            cases ead
            have hx : rd_T39 t.f4 (i : Int) = t.f4[i] := by simp [rd_T39, hi]
            rw [hx] at hx0 hx1 hx2 hx3 hx4 hl3 hi3 hl4 hi4
            rw [Int.toNat_natCast] at hx0 hx1 hx2 hx3 hx4
            have hB := HG.out.below
            replace hx0 := (hB.cell (World.block_lt_of_cell? _ _ hx0)).trans hx0
            replace hx1 := (hB.cell (World.block_lt_of_cell? _ _ hx1)).trans hx1
            replace hx2 := (hB.cell (World.block_lt_of_cell? _ _ hx2)).trans hx2
            replace hx3 := (hB.cell (World.block_lt_of_cell? _ _ hx3)).trans hx3
            replace hx4 := (hB.cell (World.block_lt_of_cell? _ _ hx4)).trans hx4
            have Hhl3 := mk hl3
            have Hhi3 := mk hi3
            have Hhl4 := mk hl4
            have Hhi4 := mk hi4
            have HMD := mk (show (if (measF t.f4[i] (wrap64 (dep + 1)) mm).2.2 = 0 then measFs (t.f4.drop (i + 1)) (wrap64 (dep + 1)) (measF t.f4[i] (wrap64 (dep + 1)) mm) else measF t.f4[i] (wrap64 (dep + 1)) mm) = R by rw [← HM.out, if_pos hz, measFs_drop hi])
            have HZS := mk (sizedFs_mem HSF.out t.f4[i] (List.getElem_mem hi))
            have HSZ := mk (show SizeOf.sizeOf t.f4[i] < n by
              have h1 := List.sizeOf_lt_of_mem (List.getElem_mem hi)
              have h2 : SizeOf.sizeOf t.f4 < SizeOf.sizeOf t := by cases t; simp; omega
              have := HT.out
              omega)
            clear hl3 hi3 hl4 hi4 hB hx HM
            generalize t.f4[i] = y at hx0 hx1 hx2 hx3 hx4 Hhl3 Hhi3 Hhl4 Hhi4 HMD HZS HSZ
            go_wp2_with (go_at_call 113; refine (ih y HSZ.out HZS.out A2 c2 A3 c3 (wrap64 (dep + 1)) mm w0 wr g hwg HG.out.self Hhi3.out Hhl3.out Hhi4.out Hhl4.out).mono ?_; rintro e w5 ⟨rfl, hg5⟩; have HG5 := mk (HG.out.step hg5.st hg5.keep hg5.below); have BK5 := mk (hg5.keep.blk BK.out (blk_ne BK.out HG.out.st (by decide)) (by simp)); clear hg5)
            go_roundg (t.f4.length - (i + 1))
            case measure => have := HQ.out; omega
            case rel => exact ⟨i + 1, _, by first | rfl | rw [show wrap64 ((i : Int) + 1) = ((i + 1 : Nat) : Int) from by unfold wrap64; omega], ⟨by omega⟩, ⟨by omega⟩, HMD, BK5, HG5⟩
          · have hzb : (mm.2.2 == 0) = false := beq_eq_false_iff_ne.2 hz
            have HE := mk (show mm = R by rw [← HM.out, if_neg hz])
            clear HM hi hz HQ HI
            go_wp2
            first | go_end0 | ((try simp only [Exit.inBlock, Exit.then]); refine bodyPost_ret (results_none rfl _ _ _) rfl ?_)
            exact ⟨rfl, by rw [← HE.out]; exact HG.out⟩
        · have hiz : ¬ (i : Int) < (t.f4.length : Int) := by omega
          have hil : i = t.f4.length := by have := HI.out; omega
          have HE := mk (show mm = R by rw [← HM.out, hil, List.drop_length]; split <;> rfl)
          clear hil HM hi HQ HI
          go_wp2
          first | go_end0 | ((try simp only [Exit.inBlock, Exit.then]); refine bodyPost_ret (results_none rfl _ _ _) rfl ?_)
          exact ⟨rfl, by rw [← HE.out]; exact HG.out⟩
end Go.Proofs.Ytjknpmibdkoklaa.Q
