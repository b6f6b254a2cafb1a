/- Functions of the given program as Lean functions, each with its contract, and what they answer; words for it. No condition but those of each. -/
import Derived.Test.YtoopddhkjhpbnaaDoorMB10
import Derived.Test.YtoopddhkjhpbnaaDoorMB2
import Derived.Test.YtoopddhkjhpbnaaDoorMB3
import Derived.Test.YtoopddhkjhpbnaaDoorMB4
import Derived.Test.YtoopddhkjhpbnaaDoorMB8
import Derived.Lib.OthersKept
import Derived.Laws.RangeAny
import Derived.LoopTactic
set_option maxRecDepth 100000
namespace Go.Proofs.YtoopddhkjhpbnaaDoor.Q
open Go.RowKit Go.Proofs.YtoopddhkjhpbnaaDoorW.PrintWords Go.Proofs.YtoopddhkjhpbnaaDoorW.PrintLast Go.Proofs.YtoopddhkjhpbnaaDoorW.PrintMore
open Aside0 (mk)
attribute [local go_sem] max2_int min2_int max_two min_two max_three min_three max_four min_four
attribute [local go_sem high] eqA26
set_option maxHeartbeats 8000000 in
theorem GlyphRange_calls (s : ByteArray) (hs : s.size ≤ 140737488351232) (w : World) (hT : Lib.Utf8Tabs 0 1 w) :
    Calls Tryd.prog 4 #[.string s] w fun e w' => e = .returned (.bool true) ∧ Below w.heap.size w w' := by
  have HT := mk hT
  have HS := mk hs
  have HB := mk (Below.refl w.heap.size w)
  clear hT hs
  go_enter Tryd.func4, Tryd.ntmps4
  go_wp2_with (go_at_call 5; (with_reducible refine (tabardlaw04_fixed.calls true _ fixed4).mono ?_); rintro e w1 ⟨rfl, hb⟩; have m0_ := mk (below_step HB.out hb); clear HB hb; have HB := m0_; clear m0_)
  have HL := mk (below_size HB.out)
  go_loopw [3, 4, 5] (fun a b c wr => ∃ (pos : Nat) (n g : Int) (nm : Bool), a = .int .i64 n ∧ b = .int .i64 g ∧ c = .bool nm ∧ Aside0 (Runs s pos n) ∧ Aside0 (Good3 s pos g) ∧ Aside0 (Name3 s pos n nm) ∧ Aside0 (wr.heap[w1.heap.size]? = some (.stringIter s pos)) ∧ Aside0 (Below w.heap.size w wr)) (fun _ _ _ wr => s.size - wr.iterPos w1.heap.size)
  case atStart => exact ⟨0, 0, _, true, rfl, rfl, rfl, ⟨Runs.here⟩, ⟨Good3.start s⟩, ⟨by unfold Name3; rw [if_pos rfl]⟩, ⟨World.iter_heap w1 s 0⟩, ⟨below_alloc HB.out _⟩⟩
  case round =>
    obtain ⟨pos, n, g, nm, rfl, rfl, rfl, HR, HG, HN, HI, HW⟩ := hrel
    clear HB
    generalize hk : w1.heap.size = k at HL HI
    by_cases hp : pos < s.size
    · have hnx := fun ty => Lib.run_next_any_at (P := Tryd.prog) wr k s pos ty HI.out hp
      have HI2 := mk (Lib.iterAt_heap wr k s pos (pos + (Utf8.decode s pos).2) HI.out)
      have HW2 := mk (Lib.below_iterAt HW.out HL.out s (pos + (Utf8.decode s pos).2))
      have HM := mk (show s.size - (pos + (Utf8.decode s pos).2) < s.size - pos by have := decode_pos s pos hp; omega)
      have HMM := mk (fun (W : World) (h : W.heap[k]? = some (.stringIter s (pos + (Utf8.decode s pos).2))) => show s.size - W.iterPos k < s.size - wr.iterPos k by rw [iterPos_of h, iterPos_of HI.out]; exact HM.out)
      have HA := mk (at_ok HR.out)
      have HN2 := mk (HN.out.step HS.out hp HR.out)
      have HR2 := mk (Runs.step hp HR.out)
      have HGb := mk (fun hb => HG.out.bad hp hb)
      have HGo := mk (fun hb => HG.out.ok hp hb)
      have HP := mk hp
      have HD := mk (bad_iff (s := s) (pos := pos))
      have HSt := mk (start_at ((Utf8.decode s pos).1 : Nat))
      have HRt := mk (rest_at ((Utf8.decode s pos).1 : Nat))
      clear HR HN HG HW HI HM hp
      generalize startB ((Utf8.decode s pos).1 : Nat) = sb at HSt HN2
      generalize restB ((Utf8.decode s pos).1 : Nat) = rb at HRt HN2
      have HS2 := HS.out
      have HP2 := HP.out
      have qw : wrap64 ((s.size : Int) - (pos : Int)) = (s.size : Int) - (pos : Int) := w64 (by omega) (by omega)
      have qv : wrap64 ((pos : Int) + 3) = (pos : Int) + 3 := w64 (by omega) (by omega)
      have QW := mk qw
      have QV := mk qv
      clear HS2 HP2 qw qv
      by_cases c1 : (Utf8.decode s pos).1 = 65533
      · have c2 : (((Utf8.decode s pos).1 : Nat) : Int) = 65533 := by rw [c1]; rfl
        simp only [c2] at hnx
        rw [c2] at HSt HRt
        have HD2 := mk (HD.out c1)
        have HC := mk c1
        clear c1 c2 HD
        by_cases c3 : s.size - pos < 3
        · have HGx := mk (fun v hv => HGb.out ⟨HC.out, HD2.out.2 (fun h => by omega)⟩ v hv)
          have qw := QW.out
          have c4 : (s.size : Int) - (pos : Int) < 3 := by omega
          clear HGb HGo HD2 HC c3
          go_wp2_with (first | (go_at_call 12; (with_reducible refine (glyph_At.calls s (pos : Int) (pos : Int) n 0 _ HA.out).mono ?_); rintro e w8 ⟨rfl, hb⟩; have HI3 := mk (blk_below (g := k) (o := .stringIter s (pos + (Utf8.decode s pos).2)) HI2.out hb); have HW3 := mk (below_step HW2.out hb); clear HI2 HW2 hb) | (go_at_call 14; (with_reducible refine (glyph_Start.calls 6 _ _ _ HSt.out).mono ?_); rintro e w' ⟨rfl, ⟨nd, rfl⟩⟩) | (go_at_call 13; (with_reducible refine (glyph_Rest.calls 6 _ _ _ HRt.out).mono ?_); rintro e w' ⟨rfl, ⟨nd, rfl⟩⟩))
          all_goals
            refine ⟨⟨_, _, _, _, rfl, rfl, rfl, HR2, ⟨HGx.out _ (by first | omega | (split <;> omega))⟩, ⟨cast (congrArg (Name3 s _ _) ?_) HN2.out⟩, ⟨?hi⟩, ⟨?hw⟩⟩, HMM.out _ ?hm⟩
            case hi => (with_reducible repeat (first | refine blk_drewN ?_ _ | refine blk_drew ?_ | refine blk_alloc ?_ _)); exact HI3.out
            case hm => (with_reducible repeat (first | refine blk_drewN ?_ _ | refine blk_drew ?_ | refine blk_alloc ?_ _)); exact HI3.out
            case hw => repeat (first | exact HW3.out | apply below_alloc | apply pw_below_drewN | apply below_drew1)
            first | rfl | (simp [*]; done) | (simp [*]; omega)
        · have HU := mk (show pos + 3 ≤ s.size by have := HP.out; omega)
          have HY := mk (cut3 HU.out)
          have hsl := fun (w : World) => Go.run_slice_string (P := Tryd.prog) w 9 s .i64 .i64 (pos : Int) ((pos : Int) + 3) (by kernel_rfl) (by omega) (by omega) (by have := HU.out; omega)
          simp only [show ((pos : Int) + 3).toNat = pos + 3 by omega, Int.toNat_natCast] at hsl
          generalize s.extract pos (pos + 3) = cut at HY hsl
          have qw := QW.out
          have qv := QV.out
          have c4 : ¬ (s.size : Int) - (pos : Int) < 3 := by omega
          have QX := mk (show 2 < s.size - pos by omega)
          clear c3
          by_cases c5 : cut.toList = [239, 191, 189]
          · have HGx := mk (HGo.out (fun h => (HD2.out.1 h.2) ⟨QX.out, HY.out.1 c5⟩))
            have c6 : (cut.toList == [239, 191, 189]) = true := beq_iff_eq.2 c5
            clear HGb HGo HD2 HC HY QX c5
            go_wp2_with (first | (go_at_call 12; (with_reducible refine (glyph_At.calls s (pos : Int) (pos : Int) n 0 _ HA.out).mono ?_); rintro e w8 ⟨rfl, hb⟩; have HI3 := mk (blk_below (g := k) (o := .stringIter s (pos + (Utf8.decode s pos).2)) HI2.out hb); have HW3 := mk (below_step HW2.out hb); clear HI2 HW2 hb) | (go_at_call 14; (with_reducible refine (glyph_Start.calls 6 _ _ _ HSt.out).mono ?_); rintro e w' ⟨rfl, ⟨nd, rfl⟩⟩) | (go_at_call 13; (with_reducible refine (glyph_Rest.calls 6 _ _ _ HRt.out).mono ?_); rintro e w' ⟨rfl, ⟨nd, rfl⟩⟩))
            all_goals
              refine ⟨⟨_, _, _, _, rfl, rfl, rfl, HR2, ⟨HGx.out⟩, ⟨cast (congrArg (Name3 s _ _) ?_) HN2.out⟩, ⟨?hi⟩, ⟨?hw⟩⟩, HMM.out _ ?hm⟩
              case hi => (with_reducible repeat (first | refine blk_drewN ?_ _ | refine blk_drew ?_ | refine blk_alloc ?_ _)); exact HI3.out
              case hm => (with_reducible repeat (first | refine blk_drewN ?_ _ | refine blk_drew ?_ | refine blk_alloc ?_ _)); exact HI3.out
              case hw => repeat (first | exact HW3.out | apply below_alloc | apply pw_below_drewN | apply below_drew1)
              first | rfl | (simp [*]; done) | (simp [*]; omega)
          · have HGx := mk (fun v hv => HGb.out ⟨HC.out, HD2.out.2 (fun h => c5 (HY.out.2 h.2))⟩ v hv)
            have c6 : (cut.toList == [239, 191, 189]) = false := beq_eq_false_iff_ne.2 c5
            clear HGb HGo HD2 HC HY QX c5
            go_wp2_with (first | (go_at_call 12; (with_reducible refine (glyph_At.calls s (pos : Int) (pos : Int) n 0 _ HA.out).mono ?_); rintro e w8 ⟨rfl, hb⟩; have HI3 := mk (blk_below (g := k) (o := .stringIter s (pos + (Utf8.decode s pos).2)) HI2.out hb); have HW3 := mk (below_step HW2.out hb); clear HI2 HW2 hb) | (go_at_call 14; (with_reducible refine (glyph_Start.calls 6 _ _ _ HSt.out).mono ?_); rintro e w' ⟨rfl, ⟨nd, rfl⟩⟩) | (go_at_call 13; (with_reducible refine (glyph_Rest.calls 6 _ _ _ HRt.out).mono ?_); rintro e w' ⟨rfl, ⟨nd, rfl⟩⟩))
            all_goals
              refine ⟨⟨_, _, _, _, rfl, rfl, rfl, HR2, ⟨HGx.out _ (by first | omega | (split <;> omega))⟩, ⟨cast (congrArg (Name3 s _ _) ?_) HN2.out⟩, ⟨?hi⟩, ⟨?hw⟩⟩, HMM.out _ ?hm⟩
              case hi => (with_reducible repeat (first | refine blk_drewN ?_ _ | refine blk_drew ?_ | refine blk_alloc ?_ _)); exact HI3.out
              case hm => (with_reducible repeat (first | refine blk_drewN ?_ _ | refine blk_drew ?_ | refine blk_alloc ?_ _)); exact HI3.out
              case hw => repeat (first | exact HW3.out | apply below_alloc | apply pw_below_drewN | apply below_drew1)
              first | rfl | (simp [*]; done) | (simp [*]; omega)
      · have HGx := mk (HGo.out (fun h => c1 h.1))
        have c2 : ((((Utf8.decode s pos).1 : Nat) : Int) == 65533) = false := beq_eq_false_iff_ne.2 (fun h => c1 (by omega))
        clear HGb HGo HD c1
        go_wp2_with (first | (go_at_call 12; (with_reducible refine (glyph_At.calls s (pos : Int) (pos : Int) n 0 _ HA.out).mono ?_); rintro e w8 ⟨rfl, hb⟩; have HI3 := mk (blk_below (g := k) (o := .stringIter s (pos + (Utf8.decode s pos).2)) HI2.out hb); have HW3 := mk (below_step HW2.out hb); clear HI2 HW2 hb) | (go_at_call 14; (with_reducible refine (glyph_Start.calls 6 _ _ _ HSt.out).mono ?_); rintro e w' ⟨rfl, ⟨nd, rfl⟩⟩) | (go_at_call 13; (with_reducible refine (glyph_Rest.calls 6 _ _ _ HRt.out).mono ?_); rintro e w' ⟨rfl, ⟨nd, rfl⟩⟩))
        all_goals
          refine ⟨⟨_, _, _, _, rfl, rfl, rfl, HR2, ⟨HGx.out⟩, ⟨cast (congrArg (Name3 s _ _) ?_) HN2.out⟩, ⟨?hi⟩, ⟨?hw⟩⟩, HMM.out _ ?hm⟩
          case hi => (with_reducible repeat (first | refine blk_drewN ?_ _ | refine blk_drew ?_ | refine blk_alloc ?_ _)); exact HI3.out
          case hm => (with_reducible repeat (first | refine blk_drewN ?_ _ | refine blk_drew ?_ | refine blk_alloc ?_ _)); exact HI3.out
          case hw => repeat (first | exact HW3.out | apply below_alloc | apply pw_below_drewN | apply below_drew1)
          first | rfl | (simp [*]; done) | (simp [*]; omega)
    · have hnx := fun ty => Lib.run_next_end_at (P := Tryd.prog) wr k s pos ty HI.out hp
      have hps : pos = s.size := by have := HR.out.le; omega
      have HA := mk (at_ok HR.out)
      rw [hps] at HA
      have HE := mk (HN.out.last hp)
      have hg : ((goodGo s 0 : Nat) : Int) = g := HG.out.last hp
      clear hp hps HR HN HG
      go_wp2_with (first
        | (go_at_call 12; (with_reducible refine (glyph_At.calls s (s.size : Int) (s.size : Int) n 0 _ HA.out).mono ?_); rintro e w8 ⟨rfl, hb⟩; have HW3 := mk (below_step HW.out hb); clear hb)
        | (go_at_call 10; (with_reducible refine (glyph_Good.calls s _ (Utf8Tabs_below HT.out (below_alloc HW3.out _))).mono ?_); rintro e w9 ⟨rfl, hb⟩; have HW4 := mk (below_step (below_alloc HW3.out _) hb); clear hb)
        | (go_at_call 6; (with_reducible refine (glyph_Name.calls s (nameB s) _ rfl).mono ?_); rintro e w10 ⟨rfl, hb⟩; have HW5 := mk (below_step HW4.out hb); clear hb)
        | (go_at_call 8; (with_reducible refine (glyph_Reserved.calls s (reservedB s) _ (reserved_at s)).mono ?_); rintro e w11 ⟨rfl, hd⟩; have HW6 := mk (below_draw0 HW5.out hd); clear hd))
      all_goals go_ret
      all_goals
        refine ⟨?_, by first | exact HW6.out | exact HW5.out⟩
        rw [HE.out]
        first | (simp [*]; done) | (have q1 : decide (n ≤ 16) = false := decide_eq_false (by omega); simp [q1]; done) | (have q1 : decide (n > 0) = false := decide_eq_false (by omega); simp [q1]; done)
end Go.Proofs.YtoopddhkjhpbnaaDoor.Q
