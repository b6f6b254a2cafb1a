/- Functions of the given program as Lean functions, each with its contract, and what they answer; words for it. No condition but those of each. -/
import Derived.Test.YtjknpmibdkoklaaMLS
import Derived.Test.YtjknpmibdkoklaaMLR
import Derived.Test.YtjknpmibdkoklaaML3
import Derived.Test.YtjknpmibdkoklaaML7
import Derived.Test.YtjknpmibdkoklaaML8
import Derived.Test.YtjknpmibdkoklaaML6
namespace Go.Proofs.Ytjknpmibdkoklaa.Q
open Go.RowKit Go.Proofs.YtjknpmibdkoklaaW.PrintWords Go.Proofs.YtjknpmibdkoklaaW.PrintLast Go.Proofs.YtjknpmibdkoklaaW.PrintMore
open Aside0 (mk)
open List (setIfInBounds_toArray set_cons_zero set_cons_succ)
attribute [local go_sem] max2_int min2_int max_two min_two max_three min_three max_four min_four
set_option linter.unusedVariables false
set_option linter.unusedSimpArgs false
attribute [local go_sem] fld99_2 fld103_2 fld160_0 fld160_1
def tabardref01_Minus.f (k : Nat) (a0_0 : Bool) (l0_1 : List Int) : Option (Bool × List Int) := (tabardref01_Wide_trimmed.f k (!a0_0) l0_1).bind fun bt1037 => (some (bt1037.1, bt1037.2))
theorem tabardref01_Minus.mono : ∀ a0 a1 k, LeO (tabardref01_Minus.f k a0 a1) (tabardref01_Minus.f (k + 1) a0 a1) := by
  intro a0 a1 k
  unfold tabardref01_Minus.f
  repeat' first
      | (with_reducible exact tabardref01_Wide_trimmed.mono _ _ _)
      | (with_reducible exact LeO.refl _)
      | (with_reducible exact LeO.none _)
      | (with_reducible refine LeO.ite ?_ ?_)
      | (with_reducible refine LeO.bind ?_ (fun _ => ?_))
      | exact tabardref01_Wide_trimmed.mono _ _ _
      | exact LeO.none _
      | refine LeO.ite ?_ ?_
      | refine LeO.bind ?_ (fun _ => ?_)
set_option maxHeartbeats 8000000 in
set_option maxRecDepth 100000 in
theorem tabardref01_Minus.calls (k : Nat) (a0_0 : Bool) (P0_1_ : Nat → Prop) (A0_1 : Option Addr) (c0_1 : Nat) (l0_1 : List Int) (r1 : Bool) (r2 : List Int) (w : World) (hs0_1 : Kd.V (Kd.int .u64) 187 w w.heap.size (fun k_ => P0_1_ k_) (.slice A0_1 l0_1.length c0_1) l0_1) (h : tabardref01_Minus.f k a0_0 l0_1 = some (r1, r2)) :
    Calls Try.prog 134 #[.agg #[.bool a0_0, .slice A0_1 l0_1.length c0_1]] w fun e w' => ∃ v1_ : Value, e = .returned (.agg #[.bool r1, v1_]) ∧ Kd.V (Kd.int .u64) 187 w' w.heap.size (fun k_ => (P0_1_ k_ ∨ w.heap.size ≤ k_)) v1_ r2 ∧ Below w.heap.size w w' := by
  have hu160 := Try.underlying160
  have HO0_1 := mk (show Kd.V (Kd.int .u64) 187 w w.heap.size (fun k_ => (P0_1_ k_ ∨ w.heap.size ≤ k_)) (.slice A0_1 l0_1.length c0_1) l0_1 from Kd.V_mono hs0_1 (fun k_ hk => .inl hk))
  have HB := mk (Below.refl w.heap.size w)
  have H : ((tabardref01_Wide_trimmed.f k (!a0_0) l0_1).bind fun bt1037 => (some (bt1037.1, bt1037.2))) = some (r1, r2) := h
  clear h
  replace H := Option.bind_eq_some_iff.mp H
  obtain ⟨⟨t1037, t1038⟩, A20, H⟩ := H
  replace H : (some (t1037, t1038)) = some (r1, r2) := H
  have A2 := mk A20
  clear A20
  simp only [Option.some.injEq, Prod.mk.injEq] at H
  obtain ⟨rfl, rfl⟩ := H
  go_enter Try.func134, Try.ntmps134
  go_wp2_with (first | ((with_reducible refine gate_dst (N := 1) rfl ?_); refine box_event ?hg (N := 1) ?hd (cs := #[.bool a0_0, .slice A0_1 l0_1.length c0_1]) (t := 160) ?hr ?_; (case hd => rfl); (case hg => rfl); (case hr => exact kq11); intro gb1035 hg w3 hbox hb; have BK1035 := mk (hbox); have GW1035 := (gs_ hg kq9); have GE1035 := GW1035; replace HO0_1 := mk (Kd.V_below (Kd.V_elderB (kq21 HO0_1) gb1035 (Nat.le_of_eq hg.symm)) hb); replace HB := mk (below_step kq9 hb); clear hb hbox hg) | ((with_reducible refine gate_dst (N := 2) rfl ?_); refine box_event ?hg (N := 2) ?hd (cs := #[.bool false, .slice none 0 0]) (t := 160) ?hr ?_; (case hd => rfl); (case hg => rfl); (case hr => exact kq11); intro gb1036 hg w4 hbox hb; have BK1036 := mk (hbox); have GW1036 := (gs_ hg (kq16 GE1035)); have GE1036 := GW1036; have NB1035_1036 := (nl_ hg BK1035); have NB1036_1035 := (ng_ hg BK1035); replace HO0_1 := mk (Kd.V_below (Kd.V_elderB (kq21 HO0_1) gb1036 (Nat.le_of_eq hg.symm)) hb); replace BK1035 := (bb_ BK1035 hb); replace HB := mk (below_step (kq16 GE1035) hb); clear hb hbox hg; have hnb5 := NB1035_1036.out; have hnc5 := NB1036_1035.out; obtain ⟨_, _, _, _⟩ := cz2_ BK1035.out) | ((with_reducible refine gate_callee (f := 170) rfl ?_); refine goesL_ (some 9) rfl rfl Try.func170 kq0 rfl #[.agg #[.bool (!a0_0), .slice A0_1 l0_1.length c0_1]] rfl kq7 ?_; (with_reducible refine (tabardref01_Wide_trimmed.calls k (!a0_0) (fun k_ => (((P0_1_ k_ ∨ w.heap.size ≤ k_) ∧ k_ ≠ gb1035) ∧ k_ ≠ gb1036)) _ _ l0_1 t1037 t1038 _ ?side1 A2.out).mono ?_); (case side1 => exact HO0_1.out); rintro e w7 ⟨v1039, rfl, ho0, hb⟩; refine ⟨_, rfl, ?_⟩; have HO1040 := mk (Kd.V_lower (Kd.V_mono (ok' := fun k_ => (P0_1_ k_ ∨ w.heap.size ≤ k_) ∧ k_ ≠ gb1035 ∧ k_ ≠ gb1036) ho0 (fun k_ hk_ => ⟨Or.elim hk_ (fun hs_ => hs_.1.1) (fun hn_ => (.inr (Nat.le_trans (below_size (kq23 GE1035 GE1036)) hn_))), Or.elim hk_ (fun hs_ => hs_.1.2) (fun hn_ => (Kd.freshB (g := gb1035) (o := .cells #[.bool a0_0, .slice A0_1 l0_1.length c0_1] 160 (0, 0)) (kq18 BK1035) k_ hn_)), Or.elim hk_ (fun hs_ => hs_.2) (fun hn_ => (Kd.freshB (g := gb1036) (o := .cells #[.bool false, .slice none 0 0] 160 (0, 0)) (kq18 BK1036) k_ hn_))⟩)) (below_size (kq23 GE1035 GE1036))); replace HO0_1 := mk (Kd.V_below (kq21 HO0_1) hb); replace BK1035 := (bb_ BK1035 hb); replace BK1036 := (bb_ BK1036 hb); replace HB := mk (below_step (kq23 GE1035 GE1036) hb); obtain ⟨_, _, _, _⟩ := cz2_ BK1036.out; obtain ⟨Ao9, co9, eo9⟩ := Kd.V_slice HO1040.out; subst eo9))
  refine bodyPost_ret (results_cell_row rfl _ _ gb1036 160 #[.bool t1037, .slice Ao9 t1038.length co9] (0, 0) _ rfl (by (with_reducible repeat (first | refine blk_drewN ?_ _ | refine blk_drew ?_ | refine blk_alloc ?_ _)); refine blk_put (cs := #[.bool t1037, .slice none 0 0]) ?_ 1 _ rfl; (with_reducible repeat (first | refine blk_drewN ?_ _ | refine blk_drew ?_ | refine blk_alloc ?_ _)); refine blk_put (cs := #[.bool false, .slice none 0 0]) ?_ 0 _ rfl; (with_reducible repeat (first | refine blk_drewN ?_ _ | refine blk_drew ?_ | refine blk_alloc ?_ _)); exact BK1036.out) Try.underlying160 rfl kq0) rfl ?_
  exact ⟨_, kq14, by (with_reducible repeat (first | apply Kd.V_alloc | apply Kd.V_drewN | apply Kd.V_drew)); exact Kd.V_mono (Kd.V_far (p := ⟨gb1036, 1, none⟩) (Kd.V_far (p := ⟨gb1036, 0, none⟩) (Kd.V_mono HO1040.out (fun k_ hk => (⟨hk, hk.2.2⟩ : _ ∧ k_ ≠ gb1036))) (fun _ hk => hk.2) (.bool t1037)) (fun _ hk => hk.2) (.slice Ao9 t1038.length co9)) (fun _ hk => hk.1.1), (kq23 GE1035 GE1036)⟩
def tabardref01_Less.f (k : Nat) (a0_0 : Bool) (l0_1 : List Int) (a1_0 : Bool) (l1_1 : List Int) : Option (Bool) := (tabardref01_Minus.f k a1_0 l1_1).bind fun bt1043 => ((tabardref01_Plus.f k a0_0 l0_1 bt1043.1 bt1043.2).bind fun bt1047 => (some bt1047.1))
theorem tabardref01_Less.mono : ∀ a0 a1 a2 a3 k, LeO (tabardref01_Less.f k a0 a1 a2 a3) (tabardref01_Less.f (k + 1) a0 a1 a2 a3) := by
  intro a0 a1 a2 a3 k
  unfold tabardref01_Less.f
  repeat' first
      | (with_reducible exact tabardref01_Minus.mono _ _ _)
      | (with_reducible exact tabardref01_Plus.mono _ _ _ _ _)
      | (with_reducible exact LeO.refl _)
      | (with_reducible exact LeO.none _)
      | (with_reducible refine LeO.ite ?_ ?_)
      | (with_reducible refine LeO.bind ?_ (fun _ => ?_))
      | exact tabardref01_Minus.mono _ _ _
      | exact tabardref01_Plus.mono _ _ _ _ _
      | exact LeO.none _
      | refine LeO.ite ?_ ?_
      | refine LeO.bind ?_ (fun _ => ?_)
set_option maxHeartbeats 8000000 in
set_option maxRecDepth 100000 in
theorem tabardref01_Less.calls (k : Nat) (a0_0 : Bool) (A0_1 : Option Addr) (c0_1 : Nat) (l0_1 : List Int) (a1_0 : Bool) (A1_1 : Option Addr) (c1_1 : Nat) (l1_1 : List Int) (r : Bool) (w : World) (hr0_1 : Kd.C (Kd.int .u64) w A0_1 l0_1.length l0_1) (hc0_1 : l0_1.length ≤ c0_1) (hr1_1 : Kd.C (Kd.int .u64) w A1_1 l1_1.length l1_1) (hc1_1 : l1_1.length ≤ c1_1) (h : tabardref01_Less.f k a0_0 l0_1 a1_0 l1_1 = some r) :
    Calls Try.prog 188 #[.agg #[.bool a0_0, .slice A0_1 l0_1.length c0_1], .agg #[.bool a1_0, .slice A1_1 l1_1.length c1_1]] w fun e w' => e = .returned (.bool r) ∧ Below w.heap.size w w' := by
  have hu160 := Try.underlying160
  have HR0_1 := mk hr0_1
  have HC0_1 := mk hc0_1
  clear hr0_1 hc0_1
  have HR1_1 := mk hr1_1
  have HC1_1 := mk hc1_1
  clear hr1_1 hc1_1
  have HB := mk (Below.refl w.heap.size w)
  have H : ((tabardref01_Minus.f k a1_0 l1_1).bind fun bt1043 => ((tabardref01_Plus.f k a0_0 l0_1 bt1043.1 bt1043.2).bind fun bt1047 => (some bt1047.1))) = some r := h
  clear h
  replace H := Option.bind_eq_some_iff.mp H
  obtain ⟨⟨t1043, t1044⟩, A30, H⟩ := H
  replace H : ((tabardref01_Plus.f k a0_0 l0_1 t1043 t1044).bind fun bt1047 => (some bt1047.1)) = some r := H
  have A3 := mk A30
  clear A30
  replace H := Option.bind_eq_some_iff.mp H
  obtain ⟨⟨t1047, t1048⟩, A40, H⟩ := H
  replace H : (some t1047) = some r := H
  have A4 := mk A40
  clear A40
  obtain rfl := Option.some.inj H
  go_enter Try.func188, Try.ntmps188
  try go_wp2_with (first | ((with_reducible refine gate_dst (N := 2) rfl ?_); refine box_event ?hg (N := 2) ?hd (cs := #[.bool a0_0, .slice A0_1 l0_1.length c0_1]) (t := 160) ?hr ?_; (case hd => rfl); (case hg => rfl); (case hr => exact kq11); intro gb1041 hg w5 hbox hb; have BK1041 := mk (hbox); have GW1041 := (gs_ hg kq9); have GE1041 := GW1041; replace HB := mk (below_step kq9 hb); clear hb hbox hg) | ((with_reducible refine gate_dst (N := 3) rfl ?_); refine box_event ?hg (N := 3) ?hd (cs := #[.bool a1_0, .slice A1_1 l1_1.length c1_1]) (t := 160) ?hr ?_; (case hd => rfl); (case hg => rfl); (case hr => exact kq11); intro gb1042 hg w6 hbox hb; have BK1042 := mk (hbox); have GW1042 := (gs_ hg (kq16 GE1041)); have GE1042 := GW1042; have NB1041_1042 := (nl_ hg BK1041); have NB1042_1041 := (ng_ hg BK1041); replace BK1041 := (bb_ BK1041 hb); replace HB := mk (below_step (kq16 GE1041) hb); clear hb hbox hg))
  have n0_ := mk (blk_drew BK1041.out)
  have n1_ := mk (blk_drew BK1042.out)
  have n2_ := mk (below_drew1 HB.out)
  clear BK1041
  clear BK1042
  clear HB
  have BK1041 := n0_
  have BK1042 := n1_
  have HB := n2_
  clear n0_ n1_ n2_
  refine start_ (n := 6) (S := fun w' => w'.cell? ⟨gb1041, 0, none⟩ = some (.bool a0_0) ∧ w'.cell? ⟨gb1041, 1, none⟩ = some (.slice A0_1 l0_1.length c0_1) ∧ w'.cell? ⟨gb1042, 0, none⟩ = some (.bool a1_0) ∧ w'.cell? ⟨gb1042, 1, none⟩ = some (.slice A1_1 l1_1.length c1_1)) (ds := []) #[false,false,false,false,false,false] kq0 rfl rfl ⟨(blk_cell BK1041.out 0).trans rfl, (blk_cell BK1041.out 1).trans rfl, (blk_cell BK1042.out 0).trans rfl, (blk_cell BK1042.out 1).trans rfl⟩ (fun hHeld => ?_)
  generalize w6.drew = w7 at BK1041 BK1042 HB hHeld ⊢
  refine ta_ 0 5 hHeld ?_
  refine ta_ 1 6 hHeld ?_
  refine on_ 2 7 (fun K hK => ?_)
  refine goes_ Try.func134 kq0 rfl #[.agg #[.bool a1_0, .slice A1_1 l1_1.length c1_1]] (by rfl) rfl rfl kq7 ?_
  with_reducible refine (tabardref01_Minus.calls k a1_0 (fun k_ => k_ < w.heap.size) _ _ l1_1 t1043 t1044 _ ?side1 A3.out).mono ?_
  (case side1 => exact Kd.V_mk HC1_1.out (Kd.F_below (Kd.C_F (Kd.heap_int .u64) HR1_1.out) (kq23 GE1041 GE1042)))
  rintro e w8 ⟨v1045, rfl, ho0, hb⟩
  refine ⟨_, rfl, ?_⟩
  have n0_ := mk (Kd.V_lower (Kd.V_mono (ok' := fun k_ => k_ ≠ gb1041 ∧ k_ ≠ gb1042) ho0 (fun k_ hk_ => ⟨Or.elim hk_ (fun hs_ => fun e_ => Nat.not_le.2 hs_ (by rw [e_]; exact GW1041.out)) (fun hn_ => (Kd.freshB (g := gb1041) (o := .cells #[.bool a0_0, .slice A0_1 l0_1.length c0_1] 160 (0, 0)) (kq18 BK1041) k_ hn_)), Or.elim hk_ (fun hs_ => fun e_ => Nat.not_le.2 hs_ (by rw [e_]; exact GW1042.out)) (fun hn_ => (Kd.freshB (g := gb1042) (o := .cells #[.bool a1_0, .slice A1_1 l1_1.length c1_1] 160 (0, 0)) (kq18 BK1042) k_ hn_))⟩)) (below_size (kq23 GE1041 GE1042)))
  have n1_ := (bb_ BK1041 hb)
  have n2_ := (bb_ BK1042 hb)
  have n3_ := mk (below_step (kq23 GE1041 GE1042) hb)
  clear BK1041
  clear BK1042
  clear HB
  have HO1046 := n0_
  have BK1041 := n1_
  have BK1042 := n2_
  have HB := n3_
  clear n0_ n1_ n2_ n3_
  obtain ⟨Ao9, co9, eo9⟩ := Kd.V_slice HO1046.out
  (first | subst eo9 | (injection eo9 with f1_ f2_ f3_; have f4_ := f1_.symm; have f5_ := f3_.symm; clear f1_ f2_ f3_; subst f4_; subst f5_))
  refine hK.out _ _ ⟨(blk_cell BK1041.out 0).trans rfl, (blk_cell BK1041.out 1).trans rfl, (blk_cell BK1042.out 0).trans rfl, (blk_cell BK1042.out 1).trans rfl⟩ (fun hHeld => ?_)
  clear hK K
  refine norm_ (a' := ?_) ?_ ?_
  rotate_left
  · show Act.put _ (some 7) _ = _
    simp only [Act.put, setIfInBounds_toArray, set_cons_zero, set_cons_succ, i64_w, i32_w]
    rfl
  refine on_ 3 8 (fun K hK => ?_)
  refine goes_ Try.func132 kq0 rfl #[.agg #[.bool a0_0, .slice A0_1 l0_1.length c0_1], .agg #[.bool t1043, .slice Ao9 t1044.length co9]] (by rfl) rfl rfl kq7 ?_
  with_reducible refine (tabardref01_Plus.calls k a0_0 _ _ l0_1 t1043 _ _ t1044 t1047 t1048 _ ?side1 ?side2 ?side3 ?side4 A4.out).mono ?_
  (case side1 => exact kq17 HR0_1)
  (case side2 => exact HC0_1.out)
  (case side3 => exact kq31 HO1046)
  (case side4 => exact (Kd.V_reads' HO1046.out).2.1)
  rintro e w10 ⟨v1049, rfl, ho0, hb⟩
  refine ⟨_, rfl, ?_⟩
  have n0_ := mk (Kd.V_below (kq21 HO1046) hb)
  have n1_ := mk (Kd.V_lower (Kd.V_mono (ok' := fun k_ => k_ ≠ gb1041 ∧ k_ ≠ gb1042) ho0 (fun k_ hk_ => ⟨(Kd.freshB (g := gb1041) (o := .cells #[.bool a0_0, .slice A0_1 l0_1.length c0_1] 160 (0, 0)) (kq18 BK1041) k_ hk_), (Kd.freshB (g := gb1042) (o := .cells #[.bool a1_0, .slice A1_1 l1_1.length c1_1] 160 (0, 0)) (kq18 BK1042) k_ hk_)⟩)) (below_size (kq23 GE1041 GE1042)))
  have n2_ := (bb_ BK1041 hb)
  have n3_ := (bb_ BK1042 hb)
  have n4_ := mk (below_step (kq23 GE1041 GE1042) hb)
  clear HO1046
  clear BK1041
  clear BK1042
  clear HB
  have HO1046 := n0_
  have HO1050 := n1_
  have BK1041 := n2_
  have BK1042 := n3_
  have HB := n4_
  clear n0_ n1_ n2_ n3_ n4_
  obtain ⟨Ao11, co11, eo11⟩ := Kd.V_slice HO1050.out
  (first | subst eo11 | (injection eo11 with f1_ f2_ f3_; have f4_ := f1_.symm; have f5_ := f3_.symm; clear f1_ f2_ f3_; subst f4_; subst f5_))
  refine hK.out _ _ ⟨(blk_cell BK1041.out 0).trans rfl, (blk_cell BK1041.out 1).trans rfl, (blk_cell BK1042.out 0).trans rfl, (blk_cell BK1042.out 1).trans rfl⟩ (fun hHeld => ?_)
  clear hK K
  refine norm_ (a' := ?_) ?_ ?_
  rotate_left
  · show Act.put _ (some 8) _ = _
    simp only [Act.put, setIfInBounds_toArray, set_cons_zero, set_cons_succ, i64_w, i32_w]
    rfl
  refine pu_ 4 9 ?_
  refine pu_ 5 4 ?_
  refine done_ kq0 ?_
  try go_wp2
  go_ret
  exact ⟨kq14, (kq23 GE1041 GE1042)⟩
end Go.Proofs.Ytjknpmibdkoklaa.Q
namespace Go.Proofs.Ytjknpmibdkoklaa.Q
open Go.RowKit Go.Proofs.YtjknpmibdkoklaaW.PrintWords Go.Proofs.YtjknpmibdkoklaaW.PrintLast Go.Proofs.YtjknpmibdkoklaaW.PrintMore
def val : List Int → Int
  | [] => 0
  | d :: l => d + 65536 * val l
def dig (n : Nat) : List Int := if h : n = 0 then [] else ((n % 65536 : Nat) : Int) :: dig (n / 65536)
termination_by n
decreasing_by omega
def D16 (l : List Int) : Prop := ∀ d ∈ l, 0 ≤ d ∧ d < 65536
theorem dig_zero : dig 0 = [] := by rw [dig, dif_pos rfl]
theorem dig_pos {n : Nat} (h : n ≠ 0) : dig n = ((n % 65536 : Nat) : Int) :: dig (n / 65536) := by rw [dig, dif_neg h]
theorem D16_nil : D16 [] := fun d h => by cases h
theorem D16_cons {d : Int} {l : List Int} (h0 : 0 ≤ d) (h1 : d < 65536) (hl : D16 l) : D16 (d :: l) := fun x hx => by
  rcases List.mem_cons.1 hx with rfl | hx
  · exact ⟨h0, h1⟩
  · exact hl x hx
theorem D16_tail {d : Int} {l : List Int} (h : D16 (d :: l)) : D16 l := fun x hx => h x (List.mem_cons_of_mem _ hx)
theorem D16_append {l m : List Int} (h : D16 l) (h' : D16 m) : D16 (l ++ m) := fun x hx => by
  rcases List.mem_append.1 hx with hx | hx
  · exact h x hx
  · exact h' x hx
theorem D16_one {d : Int} (h0 : 0 ≤ d) (h1 : d < 65536) : D16 [d] := D16_cons h0 h1 D16_nil
theorem val_nonneg {l : List Int} (h : D16 l) : 0 ≤ val l := by
  induction l with
  | nil => exact Int.le_refl _
  | cons d l ih =>
    have := ih (D16_tail h)
    have := h d List.mem_cons_self
    simp only [val]
    omega
theorem val_lt {l : List Int} (h : D16 l) : val l < 65536 ^ l.length := by
  induction l with
  | nil => simp [val]
  | cons d l ih =>
    have h1 := ih (D16_tail h)
    have h2 := h d List.mem_cons_self
    simp only [val, List.length_cons, Int.pow_succ]
    omega
theorem val_append (l m : List Int) : val (l ++ m) = val l + 65536 ^ l.length * val m := by
  induction l with
  | nil => simp [val]
  | cons d l ih =>
    simp only [List.cons_append, val, ih, List.length_cons, Int.pow_succ, Int.mul_add, ← Int.mul_assoc]
    rw [Int.mul_comm 65536 (65536 ^ l.length)]
    omega
theorem dig_D16 (n : Nat) : D16 (dig n) := by
  induction n using Nat.strongRecOn with
  | _ n ih =>
    by_cases h : n = 0
    · rw [h, dig_zero]; exact D16_nil
    · rw [dig_pos h]
      exact D16_cons kq1 kq1 (ih _ kq1)
theorem dig_val (n : Nat) : val (dig n) = n := by
  induction n using Nat.strongRecOn with
  | _ n ih =>
    by_cases h : n = 0
    · rw [h, dig_zero]; rfl
    · rw [dig_pos h]
      simp only [val]
      rw [ih _ kq1]
      omega
theorem dig_of {l : List Int} (h : D16 l) (hl : l = [] ∨ ∃ m d, l = m ++ [d] ∧ d ≠ 0) : dig (val l).toNat = l := by
  induction l with
  | nil => simp [val, dig_zero]
  | cons d l ih =>
    have h1 := val_nonneg (D16_tail h)
    have h2 := h d List.mem_cons_self
    have hl' : l = [] ∨ ∃ m d, l = m ++ [d] ∧ d ≠ 0 := by
      rcases hl with hl | ⟨m, e, hl, he⟩
      · cases hl
      · cases m with
        | nil =>
          simp at hl
          exact .inl hl.2
        | cons x m =>
          simp at hl
          exact .inr ⟨m, e, hl.2, he⟩
    have h3 := ih (D16_tail h) hl'
    have hne : (val (d :: l)).toNat ≠ 0 := by
      simp only [val]
      rcases hl' with hn | hn
      · subst hn
        rcases hl with hl | ⟨m, e, hl, he⟩
        · cases hl
        · cases m with
          | nil =>
            simp at hl
            simp only [val]
            omega
          | cons x m => simp at hl
      · have : (val l).toNat ≠ 0 := by
          intro hz
          rw [hz, dig_zero] at h3
          obtain ⟨m, e, hm, _⟩ := hn
          rw [hm] at h3
          simp at h3
        omega
    rw [dig_pos hne]
    have e1 : ((val (d :: l)).toNat % 65536 : Nat) = d.toNat := by simp only [val]; omega
    have e2 : (val (d :: l)).toNat / 65536 = (val l).toNat := by simp only [val]; omega
    rw [e1, e2, h3]
    congr 1
    omega
theorem dig_len (n : Nat) (j : Nat) (h : n < 65536 ^ j) : (dig n).length ≤ j := by
  induction j generalizing n with
  | zero =>
    have : n = 0 := by simpa using h
    rw [this, dig_zero]
    simp
  | succ j ih =>
    by_cases h0 : n = 0
    · rw [h0, dig_zero]; simp
    · rw [dig_pos h0]
      have : n / 65536 < 65536 ^ j := by
        rw [Nat.pow_succ] at h
        exact Nat.div_lt_of_lt_mul (by rw [Nat.mul_comm]; exact h)
      have := ih _ this
      simp
      exact this
def W (z : Int) : Bool × List Int := (decide (z < 0), dig z.natAbs)
theorem rd_ge {l : List Int} {i : Nat} (h : l.length ≤ i) : rd l (i : Int) = 0 := by
  unfold rd
  simp [List.getD_eq_getElem?_getD, h]
theorem rd_D16 {l : List Int} (h : D16 l) (i : Nat) : 0 ≤ rd l (i : Int) ∧ rd l (i : Int) < 65536 := by
  by_cases hi : i < l.length
  · rw [rd_of_lt hi]
    exact h _ (List.getElem_mem hi)
  · rw [rd_ge kq1]
    omega
theorem val_drop (l : List Int) (i : Nat) : val (l.drop i) = rd l (i : Int) + 65536 * val (l.drop (i + 1)) := by
  by_cases hi : i < l.length
  · rw [rd_of_lt hi, List.drop_eq_getElem_cons hi]
    rfl
  · rw [rd_ge kq1, List.drop_eq_nil_of_le kq1, List.drop_eq_nil_of_le kq1]
    rfl
theorem val_take (l : List Int) (i : Nat) (hi : i < l.length) : val (l.take (i + 1)) = val (l.take i) + 65536 ^ i * rd l (i : Int) := by
  rw [List.take_succ_eq_append_getElem hi, val_append, List.length_take, Nat.min_eq_left kq1, rd_of_lt hi]
  simp [val]
theorem val_split (l : List Int) (i : Nat) (hi : i ≤ l.length) : val l = val (l.take i) + 65536 ^ i * val (l.drop i) := by
  have := val_append (l.take i) (l.drop i)
  rw [List.take_append_drop, List.length_take, Nat.min_eq_left hi] at this
  exact this
theorem D16_take {l : List Int} (h : D16 l) (i : Nat) : D16 (l.take i) := fun d hd => h d (List.mem_of_mem_take hd)
theorem D16_drop {l : List Int} (h : D16 l) (i : Nat) : D16 (l.drop i) := fun d hd => h d (List.mem_of_mem_drop hd)
theorem pow_pos (i : Nat) : (0 : Int) < 65536 ^ i := Int.pow_pos kq2
theorem wrap_pred {i : Nat} (h : i < 9223372036854775808) : wrap64 (((i + 1 : Nat) : Int) - 1) = i := by
  rw [show (((i + 1 : Nat) : Int) - 1) = i by omega]
  exact wrap_nat h
theorem digit_spec (s : Bool) (l : List Int) (i : Nat) : tabardref01_Wide_digit.f s l (i : Int) = some (rd l (i : Int)) := by
  unfold tabardref01_Wide_digit.f
  by_cases h : (i : Int) < l.length
  · rw [if_pos h, if_pos kq1]
  · rw [if_neg h, rd_ge kq1]
theorem wraps64 (j : Nat) (hj : j ≤ 64) (n : Int) (h0 : 0 ≤ n) (h1 : n < 2 ^ j) : IntKind.u64.wrap n = n := by
  refine uwrap_in h0 (Int.lt_of_lt_of_le h1 ?_)
  have : (2 : Int) ^ j ≤ 2 ^ 64 := by exact_mod_cast Nat.pow_le_pow_right (n := 2) kq2 hj
  simpa using this
theorem mask16 {n : Int} (h0 : 0 ≤ n) (h1 : n < 18446744073709551616) : Go.bits .and .u64 n 65535 = n % 65536 :=
  bits_mask .u64 64 kq2 (fun n h h' => wraps64 64 kq2 n h h') 16 kq2 n h0 (by simpa using h1)
theorem trimmed_loop {l : List Int} (hd : D16 l) (s : Bool) (hl : l.length < 9223372036854775808) (j : Nat) (hj : j ≤ l.length) :
    ∀ k, j < k → tabardref01_Wide_trimmed.l0 k (j : Int) s l = some (s && decide (val (l.take j) ≠ 0), dig (val (l.take j)).toNat) := by
  induction j with
  | zero =>
    intro k hk
    obtain ⟨k, rfl⟩ : ∃ m, k = m + 1 := ⟨k - 1, kq1⟩
    simp only [tabardref01_Wide_trimmed.l0]
    cases s <;> simp [val, dig_zero]
  | succ j ih =>
    intro k hk
    obtain ⟨k, rfl⟩ : ∃ m, k = m + 1 := ⟨k - 1, kq1⟩
    simp only [tabardref01_Wide_trimmed.l0]
    rw [wrap_pred kq1, if_pos kq1, if_pos kq1, if_pos kq1]
    have hv := val_take l j kq1
    by_cases h0 : rd l (j : Int) = 0
    · rw [if_pos h0, ih kq1 k kq1, hv, h0]
      simp
    · rw [if_neg h0]
      have h1 := rd_D16 hd j
      have h2 := val_nonneg (D16_take hd j)
      have h3 : 0 < 65536 ^ j * rd l (j : Int) := Int.mul_pos (pow_pos j) kq1
      have h4 : val (l.take (j + 1)) ≠ 0 := by omega
      have h5 : dig (val (l.take (j + 1))).toNat = l.take (j + 1) := by
        refine dig_of (D16_take hd _) (.inr ⟨l.take j, l[j], List.take_succ_eq_append_getElem kq1, ?_⟩)
        rw [← rd_of_lt]
        exact h0
      rw [h5]
      have e1 : (((j + 1 : Nat) : Int)).toNat = j + 1 := by omega
      have e2 : (0 : Int) ≤ ((j + 1 : Nat) : Int) := by omega
      have e3 : ((j + 1 : Nat) : Int) ≤ l.length := by omega
      have e4 : ((j + 1 : Nat) : Int) > 0 := by omega
      rw [if_pos e2, if_pos e3, if_pos e2, if_pos e3, e1]
      cases s <;> simp [h4] <;> omega
theorem trimmed_spec {l : List Int} (hd : D16 l) (s : Bool) (hl : l.length < 9223372036854775808) (k : Nat) (hk : l.length < k) :
    tabardref01_Wide_trimmed.f k s l = some (W (if s = true then -(val l) else val l)) := by
  unfold tabardref01_Wide_trimmed.f
  rw [trimmed_loop hd s hl l.length (Nat.le_refl _) k hk, List.take_length]
  have := val_nonneg hd
  unfold W
  cases s
  · simp
    have : ¬ val l < 0 := by omega
    refine ⟨kq1, by congr 1; omega⟩
  · simp
    refine ⟨by by_cases h : val l = 0 <;> simp [h] <;> omega, by congr 1; omega⟩
theorem of_spec {a : Int} (ha : In64 a) : Ev (fun k => tabardref01_Of.f k a) (W a) := by
  refine Ev_at 4 (fun k hk => ?_)
  obtain ⟨ha1, ha2⟩ := ha
  unfold tabardref01_Of.f
  have key : ∀ n : Int, 0 ≤ n → n < 18446744073709551616 → D16 [Go.bits .and .u64 n 65535, Go.bits .and .u64 (n / 65536) 65535, Go.bits .and .u64 (n / 4294967296) 65535, n / 281474976710656] ∧ val [Go.bits .and .u64 n 65535, Go.bits .and .u64 (n / 65536) 65535, Go.bits .and .u64 (n / 4294967296) 65535, n / 281474976710656] = n := by
    intro n h0 h1
    rw [mask16 h0 h1, mask16 kq1 kq1, mask16 kq1 kq1]
    refine ⟨D16_cons kq1 kq1 (D16_cons kq1 kq1 (D16_cons kq1 kq1 (D16_one kq1 kq1))), ?_⟩
    simp only [val]
    omega
  by_cases h : a < 0
  · rw [if_pos h]
    have e : IntKind.u64.wrap (-(IntKind.u64.wrap a)) = -a := by rw [uwrap, uwrap]; omega
    rw [e]
    obtain ⟨k1, k2⟩ := key (-a) kq1 kq1
    rw [trimmed_spec k1 _ (by simp) k (by simpa using hk), k2]
    simp
  · rw [if_neg h]
    have e : IntKind.u64.wrap a = a := by rw [uwrap]; omega
    rw [e]
    obtain ⟨k1, k2⟩ := key a kq1 kq1
    rw [trimmed_spec k1 _ (by simp) k (by simpa using hk), k2]
    simp
def Small (z : Int) : Prop := (dig z.natAbs).length < 1000000000000
theorem minus_spec {a : Int} (ha : Small a) : Ev (fun k => tabardref01_Minus.f k (W a).1 (W a).2) (W (-a)) := by
  refine Ev_at (dig a.natAbs).length (fun k hk => ?_)
  unfold tabardref01_Minus.f
  unfold Small at ha
  rw [show (W a).2 = dig a.natAbs from rfl, trimmed_spec (dig_D16 _) _ kq1 k hk, dig_val]
  have : (if (!(W a).1) = true then -(a.natAbs : Int) else (a.natAbs : Int)) = -a := by
    simp only [W, Bool.not_eq_true', decide_eq_false_iff_not]
    split <;> omega
  rw [this]
  rfl
end Go.Proofs.Ytjknpmibdkoklaa.Q
namespace Go.Proofs.Ytjknpmibdkoklaa.Q
open Go.RowKit Go.Proofs.YtjknpmibdkoklaaW.PrintWords Go.Proofs.YtjknpmibdkoklaaW.PrintLast Go.Proofs.YtjknpmibdkoklaaW.PrintMore
open Aside0 (mk)
open List (setIfInBounds_toArray set_cons_zero set_cons_succ)
attribute [local go_sem] max2_int min2_int max_two min_two max_three min_three max_four min_four
set_option linter.unusedVariables false
set_option linter.unusedSimpArgs false
attribute [local go_sem] fld99_2 fld103_2 fld160_0 fld160_1
mutual
def tabardref01_Fits.j0 : Nat → Bool → Bool → List Int → Option (Int × Bool)
  | 0, _, _, _ => none
  | k + 1, x13, x1052000, x1052001 => if x13 = true then (some (0, false)) else (tabardref01_Fits.l0 k 0 (wrap64 ((x1052001.length : Int) - 1)) x1052000 x1052001)
def tabardref01_Fits.l0 : Nat → Int → Int → Bool → List Int → Option (Int × Bool)
  | 0, _, _, _, _ => none
  | k + 1, x4, x5, x1052000, x1052001 => if x5 ≥ 0 then (if 0 ≤ x5 then (if x5 < (x1052001.length : Int) then (tabardref01_Fits.l0 k (Go.bits .or .u64 (IntKind.u64.wrap (x4 * 65536)) (rd x1052001 x5)) (wrap64 (x5 - 1)) x1052000 x1052001) else (none)) else (none)) else (if x1052000 = true then (some (wrap64 (IntKind.u64.wrap (-x4)), true)) else (some (wrap64 (x4), true)))
end
def tabardref01_Fits.f (k : Nat) (a0_0 : Bool) (l0_1 : List Int) : Option (Int × Bool) := (tabardref01_Of.f k (-9223372036854775808)).bind fun bt1052 => ((tabardref01_Less.f k a0_0 l0_1 bt1052.1 bt1052.2).bind fun t1056 => (if t1056 = true then (tabardref01_Fits.j0 k true a0_0 l0_1) else ((tabardref01_Of.f k 9223372036854775807).bind fun bt1057 => ((tabardref01_Less.f k bt1057.1 bt1057.2 a0_0 l0_1).bind fun t1061 => (tabardref01_Fits.j0 k t1061 a0_0 l0_1)))))
theorem tabardref01_Fits.mono_l : ∀ k, (∀ y0 y1 y2, LeO (tabardref01_Fits.j0 k y0 y1 y2) (tabardref01_Fits.j0 (k + 1) y0 y1 y2)) ∧ (∀ y0 y1 y2 y3, LeO (tabardref01_Fits.l0 k y0 y1 y2 y3) (tabardref01_Fits.l0 (k + 1) y0 y1 y2 y3))
  | 0 => ⟨fun _ _ _ r h => by simp [tabardref01_Fits.j0] at h, fun _ _ _ _ r h => by simp [tabardref01_Fits.l0] at h⟩
  | k + 1 => by
    obtain ⟨ih0, ih1⟩ := tabardref01_Fits.mono_l k
    refine ⟨?_, ?_⟩ <;> intros <;> (first | unfold tabardref01_Fits.j0 | unfold tabardref01_Fits.l0) <;> repeat' first | (with_reducible first | exact ih0 _ _ _ | exact ih1 _ _ _ _ | exact tabardref01_Less.mono _ _ _ _ _ | exact tabardref01_Of.mono _ _ | exact LeO.refl _ | exact LeO.none _ | refine LeO.ite ?_ ?_ | refine LeO.bind ?_ (fun _ => ?_)) | exact ih0 _ _ _ | exact ih1 _ _ _ _ | exact tabardref01_Less.mono _ _ _ _ _ | exact tabardref01_Of.mono _ _ | exact LeO.none _ | refine LeO.ite ?_ ?_ | refine LeO.bind ?_ (fun _ => ?_)
theorem tabardref01_Fits.mono : ∀ a0 a1 k, LeO (tabardref01_Fits.f k a0 a1) (tabardref01_Fits.f (k + 1) a0 a1) := by
  intro a0 a1 k
  obtain ⟨ih0, ih1⟩ := tabardref01_Fits.mono_l k
  unfold tabardref01_Fits.f
  repeat' first
      | (with_reducible exact ih0 _ _ _)
      | (with_reducible exact ih1 _ _ _ _)
      | (with_reducible exact tabardref01_Less.mono _ _ _ _ _)
      | (with_reducible exact tabardref01_Of.mono _ _)
      | (with_reducible exact LeO.refl _)
      | (with_reducible exact LeO.none _)
      | (with_reducible refine LeO.ite ?_ ?_)
      | (with_reducible refine LeO.bind ?_ (fun _ => ?_))
      | exact ih0 _ _ _
      | exact ih1 _ _ _ _
      | exact tabardref01_Less.mono _ _ _ _ _
      | exact tabardref01_Of.mono _ _
      | exact LeO.none _
      | refine LeO.ite ?_ ?_
      | refine LeO.bind ?_ (fun _ => ?_)
def tabardref01_Fits.T1 : Bool × List (List Nat × List Nat) := (true, [([], []), ([], []), ([0, 1, 1], [0, 1]), ([2, 2], [2]), ([3, 3], [3]), ([3], [3]), ([4, 5, 4, 3], [3, 4, 5]), ([3, 6], [3, 6])])
def tabardref01_Fits.B1 : List Nat := [0, 0, 3, 7, 15, 15, 63, 127]
theorem tabardref01_Fits.tab1 : rtab .any (opsOf Try.f168 1) = tabardref01_Fits.T1 := by kernel_rfl
theorem tabardref01_Fits.bits1 : waitsOk tabardref01_Fits.T1.2 tabardref01_Fits.B1 = true := by kernel_rfl
set_option maxHeartbeats 8000000 in
set_option maxRecDepth 100000 in
theorem tabardref01_Fits.calls (k : Nat) (a0_0 : Bool) (A0_1 : Option Addr) (c0_1 : Nat) (l0_1 : List Int) (r1 : Int) (r2 : Bool) (w : World) (hr0_1 : Kd.C (Kd.int .u64) w A0_1 l0_1.length l0_1) (hc0_1 : l0_1.length ≤ c0_1) (h : tabardref01_Fits.f k a0_0 l0_1 = some (r1, r2)) :
    Calls Try.prog 168 #[.agg #[.bool a0_0, .slice A0_1 l0_1.length c0_1]] w fun e w' => e = .returned (.tuple #[.int .i64 r1, .bool r2]) ∧ Below w.heap.size w w' := by
  have hu160 := Try.underlying160
  have HR0_1 := mk hr0_1
  have HC0_1 := mk hc0_1
  clear hr0_1 hc0_1
  have HB := mk (Below.refl w.heap.size w)
  have H : ((tabardref01_Of.f k (-9223372036854775808)).bind fun bt1052 => ((tabardref01_Less.f k a0_0 l0_1 bt1052.1 bt1052.2).bind fun t1056 => (if t1056 = true then (tabardref01_Fits.j0 k true a0_0 l0_1) else ((tabardref01_Of.f k 9223372036854775807).bind fun bt1057 => ((tabardref01_Less.f k bt1057.1 bt1057.2 a0_0 l0_1).bind fun t1061 => (tabardref01_Fits.j0 k t1061 a0_0 l0_1)))))) = some (r1, r2) := h
  clear h
  have HC2 := mk H
  clear H
  go_enter Try.func168, Try.ntmps168
  go_upto_region 1 with (first | ((with_reducible refine gate_dst (N := 1) rfl ?_); refine box_event ?hg (N := 1) ?hd (cs := #[.bool a0_0, .slice A0_1 l0_1.length c0_1]) (t := 160) ?hr ?_; (case hd => rfl); (case hg => rfl); (case hr => exact kq11); intro gb1051 hg w3 hbox hb; have BK1051 := mk (hbox); have GW1051 := (gs_ hg kq9); have GE1051 := GW1051; replace HB := mk (below_step kq9 hb); clear hb hbox hg))
  (try simp only [Act.put, setIfInBounds_toArray, set_cons_zero, set_cons_succ])
  go_cut [13] (fun v13 wc => ∃ (kq : Nat) (x13_1 : Bool), v13 = .bool x13_1 ∧ Aside0 (tabardref01_Fits.j0 kq x13_1 a0_0 l0_1 = some (r1, r2)) ∧ Aside0 (kq ≤ k) ∧ Aside0 (wc.heap[gb1051]? = some (.cells #[.bool a0_0, (.slice A0_1 l0_1.length c0_1)] 160 (0, 0))) ∧ Aside0 (Below w.heap.size w wc))
  case first =>
    have H := HC2.out
    clear HC2
    replace H := Option.bind_eq_some_iff.mp H
    obtain ⟨⟨t1052, t1053⟩, A40, H⟩ := H
    replace H : ((tabardref01_Less.f k a0_0 l0_1 t1052 t1053).bind fun t1056 => (if t1056 = true then (tabardref01_Fits.j0 k true a0_0 l0_1) else ((tabardref01_Of.f k 9223372036854775807).bind fun bt1057 => ((tabardref01_Less.f k bt1057.1 bt1057.2 a0_0 l0_1).bind fun t1061 => (tabardref01_Fits.j0 k t1061 a0_0 l0_1))))) = some (r1, r2) := H
    have A4 := mk A40
    clear A40
    replace H := Option.bind_eq_some_iff.mp H
    obtain ⟨t1056, A50, H⟩ := H
    replace H : (if t1056 = true then (tabardref01_Fits.j0 k true a0_0 l0_1) else ((tabardref01_Of.f k 9223372036854775807).bind fun bt1057 => ((tabardref01_Less.f k bt1057.1 bt1057.2 a0_0 l0_1).bind fun t1061 => (tabardref01_Fits.j0 k t1061 a0_0 l0_1)))) = some (r1, r2) := H
    have A5 := mk A50
    clear A50
    by_cases c6 : t1056 = true
    · subst c6; (have H1 : (tabardref01_Fits.j0 k true a0_0 l0_1) = some (r1, r2) := by rw [if_pos rfl] at H; exact H); clear H; (have H := H1); clear H1; (have H' := mk H); clear H; (try go_wp2); (replace BK1051 := mk (blk_drew BK1051.out)); (replace HB := mk (below_drew1 HB.out)); (refine start_ (n := 8) (S := fun w' => w'.cell? ⟨gb1051, 0, none⟩ = some (.bool a0_0) ∧ w'.cell? ⟨gb1051, 1, none⟩ = some (.slice A0_1 l0_1.length c0_1)) (ds := []) #[false,false,false,false,false,false,false,false] kq0 rfl rfl ⟨(blk_cell BK1051.out 0).trans rfl, (blk_cell BK1051.out 1).trans rfl⟩ (fun hHeld => ?_); refine with_tabW tabardref01_Fits.tab1 tabardref01_Fits.bits1 (fun HT_ HW_ => ?_)); (generalize w3.drew = w7 at BK1051 HB hHeld ⊢); refine taT_ 0 6 hHeld ?_
      (refine onT_ 1 7 (fun K hK => ?_)); (refine goes_ Try.func133 kq0 rfl #[.int .i64 (-9223372036854775808)] (by rfl) rfl rfl kq7 ?_); (with_reducible refine (tabardref01_Of.calls k (-9223372036854775808) t1052 t1053 _ A4.out).mono ?_); (rintro e w8 ⟨v1054, rfl, ho0, hb⟩); (refine ⟨_, rfl, ?_⟩); (have HO1055 := mk (Kd.V_lower (Kd.V_mono (ok' := fun k_ => k_ ≠ gb1051) ho0 (fun k_ hk_ => (Kd.freshB (g := gb1051) (o := .cells #[.bool a0_0, .slice A0_1 l0_1.length c0_1] 160 (0, 0)) (kq18 BK1051) k_ hk_))) (below_size (kq16 GE1051)))); (replace BK1051 := (bb_ BK1051 hb)); (replace HB := mk (below_step (kq16 GE1051) hb)); ((try clear hb)); ((try clear hb2)); ((try clear hk)); ((try clear hi)); ((try clear ho0)); (obtain ⟨Ao9, co9, eo9⟩ := Kd.V_slice HO1055.out); ((first | subst eo9 | (injection eo9 with f1_ f2_ f3_; have f4_ := f1_.symm; have f5_ := f3_.symm; clear f1_ f2_ f3_; subst f4_; subst f5_))); (refine hK.out _ _ ⟨(blk_cell BK1051.out 0).trans rfl, (blk_cell BK1051.out 1).trans rfl⟩ (fun hHeld => ?_)); clear hK K; (refine norm_ (a' := ?_) ?_ ?_); rotate_left
      · (show Act.put _ (some 7) _ = _); (simp only [Act.put, setIfInBounds_toArray, set_cons_zero, set_cons_succ, i64_w, i32_w]); rfl
      (refine onT_ 2 8 (fun K hK => ?_)); (refine goes_ Try.func188 kq0 rfl #[.agg #[.bool a0_0, .slice A0_1 l0_1.length c0_1], .agg #[.bool t1052, .slice Ao9 t1053.length co9]] (by rfl) rfl rfl kq7 ?_); (with_reducible refine (tabardref01_Less.calls k a0_0 _ _ l0_1 t1052 _ _ t1053 true _ ?side1 ?side2 ?side3 ?side4 A5.out).mono ?_); ((case side1 => exact kq17 HR0_1)); ((case side2 => exact HC0_1.out)); ((case side3 => exact kq31 HO1055)); ((case side4 => exact (Kd.V_reads' HO1055.out).2.1)); (rintro e w10 ⟨rfl, hb⟩); (refine ⟨_, rfl, ?_⟩); (replace HO1055 := mk (Kd.V_below (kq21 HO1055) hb)); (replace BK1051 := (bb_ BK1051 hb)); (replace HB := mk (below_step (kq16 GE1051) hb)); ((try clear hb)); ((try clear hb2)); ((try clear hk)); ((try clear hi)); (refine hK.out _ _ ⟨(blk_cell BK1051.out 0).trans rfl, (blk_cell BK1051.out 1).trans rfl⟩ (fun hHeld => ?_)); clear hK K; (refine norm_ (a' := ?_) ?_ ?_); rotate_left
      · (show Act.put _ (some 8) _ = _); (simp only [Act.put, setIfInBounds_toArray, set_cons_zero, set_cons_succ, i64_w, i32_w]); rfl
      refine puT_ 3 9 ?_
      refine pvT_ 4 10 ?_
      refine pvT_ 5 11 ?_
      refine pvT_ 6 12 ?_
      refine puT_ 7 13 ?_
      (refine done_ (done_of HT_.out kq0) ?_); (try go_wp2); (go_meet)
      case rel => exact ⟨_, (true), kq3, H', ⟨kq4⟩, ⟨(kq18 BK1051)⟩, ⟨(kq16 GE1051)⟩⟩
    · (replace c6 := Bool.eq_false_iff.mpr c6); subst c6; (have H1 : ((tabardref01_Of.f k 9223372036854775807).bind fun bt1057 => ((tabardref01_Less.f k bt1057.1 bt1057.2 a0_0 l0_1).bind fun t1061 => (tabardref01_Fits.j0 k t1061 a0_0 l0_1))) = some (r1, r2) := by rw [if_neg (show ¬ (false = true) by decide)] at H; exact H); clear H; (have H := H1); clear H1; (replace H := Option.bind_eq_some_iff.mp H); (obtain ⟨⟨t1057, t1058⟩, A110, H⟩ := H); (replace H : ((tabardref01_Less.f k t1057 t1058 a0_0 l0_1).bind fun t1061 => (tabardref01_Fits.j0 k t1061 a0_0 l0_1)) = some (r1, r2) := H); (have A11 := mk A110); clear A110; (replace H := Option.bind_eq_some_iff.mp H); (obtain ⟨t1061, A120, H⟩ := H); (replace H : (tabardref01_Fits.j0 k t1061 a0_0 l0_1) = some (r1, r2) := H); (have A12 := mk A120); clear A120; (have H' := mk H); clear H; (try go_wp2); (replace BK1051 := mk (blk_drew BK1051.out)); (replace HB := mk (below_drew1 HB.out)); (refine start_ (n := 8) (S := fun w' => w'.cell? ⟨gb1051, 0, none⟩ = some (.bool a0_0) ∧ w'.cell? ⟨gb1051, 1, none⟩ = some (.slice A0_1 l0_1.length c0_1)) (ds := []) #[false,false,false,false,false,false,false,false] kq0 rfl rfl ⟨(blk_cell BK1051.out 0).trans rfl, (blk_cell BK1051.out 1).trans rfl⟩ (fun hHeld => ?_); refine with_tabW tabardref01_Fits.tab1 tabardref01_Fits.bits1 (fun HT_ HW_ => ?_)); (generalize w3.drew = w13 at BK1051 HB hHeld ⊢); refine taT_ 0 6 hHeld ?_
      (refine onT_ 1 7 (fun K hK => ?_)); (refine goes_ Try.func133 kq0 rfl #[.int .i64 (-9223372036854775808)] (by rfl) rfl rfl kq7 ?_); (with_reducible refine (tabardref01_Of.calls k (-9223372036854775808) t1052 t1053 _ A4.out).mono ?_); (rintro e w14 ⟨v1054, rfl, ho0, hb⟩); (refine ⟨_, rfl, ?_⟩); (have HO1055 := mk (Kd.V_lower (Kd.V_mono (ok' := fun k_ => k_ ≠ gb1051) ho0 (fun k_ hk_ => (Kd.freshB (g := gb1051) (o := .cells #[.bool a0_0, .slice A0_1 l0_1.length c0_1] 160 (0, 0)) (kq18 BK1051) k_ hk_))) (below_size (kq16 GE1051)))); (replace BK1051 := (bb_ BK1051 hb)); (replace HB := mk (below_step (kq16 GE1051) hb)); ((try clear hb)); ((try clear hb2)); ((try clear hk)); ((try clear hi)); ((try clear ho0)); (obtain ⟨Ao15, co15, eo15⟩ := Kd.V_slice HO1055.out); ((first | subst eo15 | (injection eo15 with f1_ f2_ f3_; have f4_ := f1_.symm; have f5_ := f3_.symm; clear f1_ f2_ f3_; subst f4_; subst f5_))); (refine hK.out _ _ ⟨(blk_cell BK1051.out 0).trans rfl, (blk_cell BK1051.out 1).trans rfl⟩ (fun hHeld => ?_)); clear hK K; (refine norm_ (a' := ?_) ?_ ?_); rotate_left
      · (show Act.put _ (some 7) _ = _); (simp only [Act.put, setIfInBounds_toArray, set_cons_zero, set_cons_succ, i64_w, i32_w]); rfl
      (refine onT_ 2 8 (fun K hK => ?_)); (refine goes_ Try.func188 kq0 rfl #[.agg #[.bool a0_0, .slice A0_1 l0_1.length c0_1], .agg #[.bool t1052, .slice Ao15 t1053.length co15]] (by rfl) rfl rfl kq7 ?_); (with_reducible refine (tabardref01_Less.calls k a0_0 _ _ l0_1 t1052 _ _ t1053 false _ ?side1 ?side2 ?side3 ?side4 A5.out).mono ?_); ((case side1 => exact kq17 HR0_1)); ((case side2 => exact HC0_1.out)); ((case side3 => exact kq31 HO1055)); ((case side4 => exact (Kd.V_reads' HO1055.out).2.1)); (rintro e w16 ⟨rfl, hb⟩); (refine ⟨_, rfl, ?_⟩); (replace HO1055 := mk (Kd.V_below (kq21 HO1055) hb)); (replace BK1051 := (bb_ BK1051 hb)); (replace HB := mk (below_step (kq16 GE1051) hb)); ((try clear hb)); ((try clear hb2)); ((try clear hk)); ((try clear hi)); (refine hK.out _ _ ⟨(blk_cell BK1051.out 0).trans rfl, (blk_cell BK1051.out 1).trans rfl⟩ (fun hHeld => ?_)); clear hK K; (refine norm_ (a' := ?_) ?_ ?_); rotate_left
      · (show Act.put _ (some 8) _ = _); (simp only [Act.put, setIfInBounds_toArray, set_cons_zero, set_cons_succ, i64_w, i32_w]); rfl
      refine puT_ 3 9 ?_
      refine taT_ 5 11 hHeld ?_
      (refine onT_ 4 10 (fun K hK => ?_)); (refine goes_ Try.func133 kq0 rfl #[.int .i64 9223372036854775807] (by rfl) rfl rfl kq7 ?_); (with_reducible refine (tabardref01_Of.calls k 9223372036854775807 t1057 t1058 _ A11.out).mono ?_); (rintro e w17 ⟨v1059, rfl, ho0, hb⟩); (refine ⟨_, rfl, ?_⟩); (have HO1060 := mk (Kd.V_lower (Kd.V_mono (ok' := fun k_ => k_ ≠ gb1051) ho0 (fun k_ hk_ => (Kd.freshB (g := gb1051) (o := .cells #[.bool a0_0, .slice A0_1 l0_1.length c0_1] 160 (0, 0)) (kq18 BK1051) k_ hk_))) (below_size (kq16 GE1051)))); (replace HO1055 := mk (Kd.V_below (kq21 HO1055) hb)); (replace BK1051 := (bb_ BK1051 hb)); (replace HB := mk (below_step (kq16 GE1051) hb)); ((try clear hb)); ((try clear hb2)); ((try clear hk)); ((try clear hi)); ((try clear ho0)); (obtain ⟨Ao18, co18, eo18⟩ := Kd.V_slice HO1060.out); ((first | subst eo18 | (injection eo18 with f1_ f2_ f3_; have f4_ := f1_.symm; have f5_ := f3_.symm; clear f1_ f2_ f3_; subst f4_; subst f5_))); (refine hK.out _ _ ⟨(blk_cell BK1051.out 0).trans rfl, (blk_cell BK1051.out 1).trans rfl⟩ (fun hHeld => ?_)); clear hK K; (refine norm_ (a' := ?_) ?_ ?_); rotate_left
      · (show Act.put _ (some 10) _ = _); (simp only [Act.put, setIfInBounds_toArray, set_cons_zero, set_cons_succ, i64_w, i32_w]); rfl
      (refine onT_ 6 12 (fun K hK => ?_)); (refine goes_ Try.func188 kq0 rfl #[.agg #[.bool t1057, .slice Ao18 t1058.length co18], .agg #[.bool a0_0, .slice A0_1 l0_1.length c0_1]] (by rfl) rfl rfl kq7 ?_); (with_reducible refine (tabardref01_Less.calls k t1057 _ _ t1058 a0_0 _ _ l0_1 t1061 _ ?side1 ?side2 ?side3 ?side4 A12.out).mono ?_); ((case side1 => exact kq31 HO1060)); ((case side2 => exact (Kd.V_reads' HO1060.out).2.1)); ((case side3 => exact kq17 HR0_1)); ((case side4 => exact HC0_1.out)); (rintro e w19 ⟨rfl, hb⟩); (refine ⟨_, rfl, ?_⟩); (replace HO1055 := mk (Kd.V_below (kq21 HO1055) hb)); (replace HO1060 := mk (Kd.V_below (kq21 HO1060) hb)); (replace BK1051 := (bb_ BK1051 hb)); (replace HB := mk (below_step (kq16 GE1051) hb)); ((try clear hb)); ((try clear hb2)); ((try clear hk)); ((try clear hi)); (refine hK.out _ _ ⟨(blk_cell BK1051.out 0).trans rfl, (blk_cell BK1051.out 1).trans rfl⟩ (fun hHeld => ?_)); clear hK K; (refine norm_ (a' := ?_) ?_ ?_); rotate_left
      · (show Act.put _ (some 12) _ = _); (simp only [Act.put, setIfInBounds_toArray, set_cons_zero, set_cons_succ, i64_w, i32_w]); rfl
      refine puT_ 7 13 ?_
      (refine done_ (done_of HT_.out kq0) ?_); (try go_wp2); (go_meet)
      case rel => exact ⟨_, (t1061), kq3, H', ⟨kq4⟩, ⟨(kq18 BK1051)⟩, ⟨(kq16 GE1051)⟩⟩
  case rest =>
    clear HC2
    obtain ⟨kq, x13_1, rfl, HA, HJ1, BK1051, HB⟩ := hcut
    cases kq with
    | zero => exact absurd HA.out (by simp [tabardref01_Fits.j0])
    | succ kj1 =>
      (have H := HA.out); clear HA; (simp only [tabardref01_Fits.j0] at H); (by_cases c20 : x13_1 = true)
      · subst c20; (have H1 : (some (0, false)) = some (r1, r2) := by rw [if_pos rfl] at H; exact H); clear H; (have H := H1); clear H1; (simp only [Option.some.injEq, Prod.mk.injEq] at H); (obtain ⟨rfl, rfl⟩ := H); go_wp2; go_ret2; (exact ⟨kq14, (kq16 GE1051)⟩)
      · (replace c20 := Bool.eq_false_iff.mpr c20); subst c20; (have H1 : (tabardref01_Fits.l0 kj1 0 (wrap64 ((l0_1.length : Int) - 1)) a0_0 l0_1) = some (r1, r2) := by rw [if_neg (show ¬ (false = true) by decide)] at H; exact H); clear H; (have H := H1); clear H1; (have H' := mk H); clear H; (obtain ⟨_, _, _, _⟩ := cz2_ BK1051.out); go_wp2; (go_loopg [4, 5] kj1 (fun kq v4 v5 w' => ∃ (x4_2 : Int) (x5_2 : Int), v4 = .int .u64 x4_2 ∧ v5 = .int .i64 x5_2 ∧ Aside0 (tabardref01_Fits.l0 kq x4_2 x5_2 a0_0 l0_1 = some (r1, r2)) ∧ Aside0 (kq ≤ kj1) ∧ Aside0 (w'.heap[gb1051]? = some (.cells #[.bool a0_0, (.slice A0_1 l0_1.length c0_1)] 160 (0, 0))) ∧ Aside0 (Below w.heap.size w w')))
        case atStart => exact ⟨(0), (wrap64 ((l0_1.length : Int) - 1)), kq3, kq3, H', ⟨Nat.le_refl _⟩, ⟨(kq18 BK1051)⟩, ⟨(kq16 GE1051)⟩⟩
        case round =>
          clear H'; (obtain ⟨x4_2, x5_2, rfl, rfl, HA, HK2, BK1051, HB⟩ := hrel)
          cases gk with
          | zero => exact absurd HA.out (by simp [tabardref01_Fits.l0])
          | succ k2 =>
            (have H := HA.out); clear HA; (simp only [tabardref01_Fits.l0] at H); replace H := ic_ H; obtain ⟨c22, H⟩ | ⟨c22, H⟩ := H
            · (have c22b0 : decide (0 ≤ x5_2) = true := decide_eq_true c22); clear c22; replace H := ic_ H; obtain ⟨c23, H⟩ | ⟨c23, H⟩ := H
              · (have c23b0 := decide_eq_true c23); clear c23; replace H := ic_ H; obtain ⟨c24, H⟩ | ⟨c24, H⟩ := H
                · (have c24b0 := decide_eq_true c24); clear c24; (have H' := mk H); clear H; (obtain ⟨_, _, _, _⟩ := cz2_ BK1051.out); (have p1062 : 0 ≤ (x5_2 : Int) := of_decide_eq_true kq8); (have q1062 : x5_2 < (l0_1.length : Int) := of_decide_eq_true kq8); (obtain ⟨ad1062, e1062, hx1062_0⟩ := Kd.at_int HR0_1.out x5_2 p1062 q1062); cases e1062; (replace hx1062_0 := (HB.out.cell (World.block_lt_of_cell? w _ hx1062_0)).trans hx1062_0); replace p1062 := eq_true p1062; replace q1062 := eq_true q1062; go_wp2; (go_roundg k2)
                  case measure => have := HJ1.out; have := HK2.out; omega
                  case rel => exact ⟨(Go.bits .or .u64 (IntKind.u64.wrap (x4_2 * 65536)) (rd l0_1 x5_2)), (wrap64 (x5_2 - 1)), kq3, kq3, H', ⟨by have := HJ1.out; have := HK2.out; omega⟩, ⟨(kq18 BK1051)⟩, ⟨(kq16 GE1051)⟩⟩
                · (exact absurd H (by simp))
              · (exact absurd H (by simp))
            · (have c22b0 : decide (0 ≤ x5_2) = false := decide_eq_false c22); clear c22; (by_cases c26 : a0_0 = true)
              · subst c26; (have H1 : (some (wrap64 (IntKind.u64.wrap (-x4_2)), true)) = some (r1, r2) := by rw [if_pos rfl] at H; exact H); clear H; (have H := H1); clear H1; (simp only [Option.some.injEq, Prod.mk.injEq] at H); (obtain ⟨rfl, rfl⟩ := H); (obtain ⟨_, _, _, _⟩ := cz2_ BK1051.out); go_wp2; go_ret2; (exact ⟨kq14, (kq16 GE1051)⟩)
              · (replace c26 := Bool.eq_false_iff.mpr c26); subst c26; (have H1 : (some (wrap64 (x4_2), true)) = some (r1, r2) := by rw [if_neg (show ¬ (false = true) by decide)] at H; exact H); clear H; (have H := H1); clear H1; (simp only [Option.some.injEq, Prod.mk.injEq] at H); (obtain ⟨rfl, rfl⟩ := H); (obtain ⟨_, _, _, _⟩ := cz2_ BK1051.out); go_wp2; go_ret2; (exact ⟨kq14, (kq16 GE1051)⟩)
end Go.Proofs.Ytjknpmibdkoklaa.Q
namespace Go.Proofs.Ytjknpmibdkoklaa.Q
open Go.RowKit Go.Proofs.YtjknpmibdkoklaaW.PrintWords Go.Proofs.YtjknpmibdkoklaaW.PrintLast Go.Proofs.YtjknpmibdkoklaaW.PrintMore
open Aside0 (mk)
open List (setIfInBounds_toArray set_cons_zero set_cons_succ)
attribute [local go_sem] max2_int min2_int max_two min_two max_three min_three max_four min_four
set_option linter.unusedVariables false
set_option linter.unusedSimpArgs false
attribute [local go_sem] fld99_2 fld103_2 fld160_0 fld160_1
def tabardref01_told.f (k : Nat) (a0_0 : Bool) (l0_1 : List Int) : Option (Int × Int) := (tabardref01_Fits.f k a0_0 l0_1).bind fun bt1064 => (if bt1064.2 = true then (some (bt1064.1, 0)) else (some (0, 10)))
theorem tabardref01_told.mono : ∀ a0 a1 k, LeO (tabardref01_told.f k a0 a1) (tabardref01_told.f (k + 1) a0 a1) := by
  intro a0 a1 k
  unfold tabardref01_told.f
  repeat' first
      | (with_reducible exact tabardref01_Fits.mono _ _ _)
      | (with_reducible exact LeO.refl _)
      | (with_reducible exact LeO.none _)
      | (with_reducible refine LeO.ite ?_ ?_)
      | (with_reducible refine LeO.bind ?_ (fun _ => ?_))
      | exact tabardref01_Fits.mono _ _ _
      | exact LeO.none _
      | refine LeO.ite ?_ ?_
      | refine LeO.bind ?_ (fun _ => ?_)
set_option maxHeartbeats 8000000 in
set_option maxRecDepth 100000 in
theorem tabardref01_told.calls (k : Nat) (a0_0 : Bool) (A0_1 : Option Addr) (c0_1 : Nat) (l0_1 : List Int) (r1 : Int) (r2 : Int) (w : World) (hr0_1 : Kd.C (Kd.int .u64) w A0_1 l0_1.length l0_1) (hc0_1 : l0_1.length ≤ c0_1) (h : tabardref01_told.f k a0_0 l0_1 = some (r1, r2)) :
    Calls Try.prog 131 #[.agg #[.bool a0_0, .slice A0_1 l0_1.length c0_1]] w fun e w' => e = .returned (.tuple #[.int .i64 r1, .int .i64 r2]) ∧ Below w.heap.size w w' := by
  have hu160 := Try.underlying160
  have HR0_1 := mk hr0_1
  have HC0_1 := mk hc0_1
  clear hr0_1 hc0_1
  have HB := mk (Below.refl w.heap.size w)
  have H : ((tabardref01_Fits.f k a0_0 l0_1).bind fun bt1064 => (if bt1064.2 = true then (some (bt1064.1, 0)) else (some (0, 10)))) = some (r1, r2) := h
  clear h
  replace H := Option.bind_eq_some_iff.mp H
  obtain ⟨⟨t1064, t1065⟩, A20, H⟩ := H
  replace H : (if t1065 = true then (some (t1064, 0)) else (some (0, 10))) = some (r1, r2) := H
  have A2 := mk A20
  clear A20
  by_cases c3 : t1065 = true
  · subst c3
    have H1 : (some (t1064, 0)) = some (r1, r2) := by rw [if_pos rfl] at H; exact H
    clear H
    have H := H1
    clear H1
    simp only [Option.some.injEq, Prod.mk.injEq] at H
    obtain ⟨rfl, rfl⟩ := H
    go_enter Try.func131, Try.ntmps131
    go_wp2_with (first | ((with_reducible refine gate_dst (N := 1) rfl ?_); refine box_event ?hg (N := 1) ?hd (cs := #[.bool a0_0, .slice A0_1 l0_1.length c0_1]) (t := 160) ?hr ?_; (case hd => rfl); (case hg => rfl); (case hr => exact kq11); intro gb1063 hg w4 hbox hb; have BK1063 := mk (hbox); have GW1063 := (gs_ hg kq9); have GE1063 := GW1063; replace HB := mk (below_step kq9 hb); clear hb hbox hg; obtain ⟨_, _, _, _⟩ := cz2_ BK1063.out) | ((with_reducible refine gate_callee (f := 168) rfl ?_); refine goesL_ (some 8) rfl rfl Try.func168 kq0 rfl #[.agg #[.bool a0_0, .slice A0_1 l0_1.length c0_1]] rfl kq7 ?_; (with_reducible refine (tabardref01_Fits.calls k a0_0 _ _ l0_1 t1064 true _ ?side1 ?side2 A2.out).mono ?_); (case side1 => exact kq17 HR0_1); (case side2 => exact HC0_1.out); rintro e w6 ⟨rfl, hb⟩; refine ⟨_, rfl, ?_⟩; replace BK1063 := (bb_ BK1063 hb); replace HB := mk (below_step (kq16 GE1063) hb)))
    go_ret2
    exact ⟨kq14, (kq16 GE1063)⟩
  · replace c3 := Bool.eq_false_iff.mpr c3
    subst c3
    have H1 : (some (0, 10)) = some (r1, r2) := by rw [if_neg (show ¬ (false = true) by decide)] at H; exact H
    clear H
    have H := H1
    clear H1
    simp only [Option.some.injEq, Prod.mk.injEq] at H
    obtain ⟨rfl, rfl⟩ := H
    go_enter Try.func131, Try.ntmps131
    go_wp2_with (first | ((with_reducible refine gate_dst (N := 1) rfl ?_); refine box_event ?hg (N := 1) ?hd (cs := #[.bool a0_0, .slice A0_1 l0_1.length c0_1]) (t := 160) ?hr ?_; (case hd => rfl); (case hg => rfl); (case hr => exact kq11); intro gb1063 hg w7 hbox hb; have BK1063 := mk (hbox); have GW1063 := (gs_ hg kq9); have GE1063 := GW1063; replace HB := mk (below_step kq9 hb); clear hb hbox hg; obtain ⟨_, _, _, _⟩ := cz2_ BK1063.out) | ((with_reducible refine gate_callee (f := 168) rfl ?_); refine goesL_ (some 8) rfl rfl Try.func168 kq0 rfl #[.agg #[.bool a0_0, .slice A0_1 l0_1.length c0_1]] rfl kq7 ?_; (with_reducible refine (tabardref01_Fits.calls k a0_0 _ _ l0_1 t1064 false _ ?side1 ?side2 A2.out).mono ?_); (case side1 => exact kq17 HR0_1); (case side2 => exact HC0_1.out); rintro e w9 ⟨rfl, hb⟩; refine ⟨_, rfl, ?_⟩; replace BK1063 := (bb_ BK1063 hb); replace HB := mk (below_step (kq16 GE1063) hb)))
    go_ret2
    exact ⟨kq14, (kq16 GE1063)⟩
end Go.Proofs.Ytjknpmibdkoklaa.Q
namespace Go.Proofs.Ytjknpmibdkoklaa.Q
open Go.RowKit Go.Proofs.YtjknpmibdkoklaaW.PrintWords Go.Proofs.YtjknpmibdkoklaaW.PrintLast Go.Proofs.YtjknpmibdkoklaaW.PrintMore
theorem val_split' (l : List Int) (i : Nat) : val l = val (l.take i) + 65536 ^ i * val (l.drop i) := by
  by_cases h : i ≤ l.length
  · exact val_split l i h
  · rw [List.take_of_length_le kq1, List.drop_eq_nil_of_le kq1, show val [] = 0 from rfl, Int.mul_zero, Int.add_zero]
theorem pow_mono {i j : Nat} (h : i ≤ j) : (65536 : Int) ^ i ≤ 65536 ^ j := by
  obtain ⟨d, rfl⟩ := Nat.exists_eq_add_of_le h
  rw [Int.pow_add]
  have : (65536 : Int) ^ i * 1 ≤ 65536 ^ i * 65536 ^ d := Int.mul_le_mul_of_nonneg_left (by have := pow_pos d; omega) (Int.le_of_lt (pow_pos i))
  omega
theorem val_take_lt {l : List Int} (h : D16 l) (i : Nat) : val (l.take i) < 65536 ^ i := by
  refine Int.lt_of_lt_of_le (val_lt (D16_take h i)) (pow_mono ?_)
  rw [List.length_take]
  omega
theorem mx_nat (a b : Nat) : mx (a : Int) (b : Int) = ((max a b : Nat) : Int) := by unfold mx; split <;> omega
theorem plus_loop {a b : List Int} (ha : D16 a) (hb : D16 b) (sa sb : Bool) (M : Nat) (hM : max a.length b.length = M) (hM2 : M < 1000000000000) :
    ∀ (d i : Nat) (out : List Int) (c : Int), i + d = M + 1 → out.length = i → D16 out → 0 ≤ c → c ≤ 1 → (i = M + 1 → c = 0) →
      ∃ r, Ev (fun k => tabardref01_plus.l0 k out c (i : Int) sa a sb b) r ∧ D16 r ∧ r.length ≤ M + 1 ∧ val r = val out + 65536 ^ i * (c + val (a.drop i) + val (b.drop i)) := by
  intro d
  induction d with
  | zero =>
    intro i out c hi ho hd h0 h1 hc
    refine ⟨out, Ev_at 1 (fun k hk => ?_), hd, kq1, ?_⟩
    · obtain ⟨k, rfl⟩ : ∃ m, k = m + 2 := ⟨k - 2, kq1⟩
      simp only [tabardref01_plus.l0, mx_nat]
      rw [if_neg kq1]
      simp only [tabardref01_plus.j1]
      have : c = 0 := hc kq1
      subst this
      simp
    · have : c = 0 := hc kq1
      subst this
      rw [List.drop_eq_nil_of_le kq1, List.drop_eq_nil_of_le kq1]
      simp [val]
  | succ d ih =>
    intro i out c hi ho hd h0 h1 hc
    have ra := rd_D16 ha i
    have rb := rd_D16 hb i
    have step : ∃ r, Ev (fun k => tabardref01_plus.j1 k out c (i : Int) true sa a sb b) r ∧ D16 r ∧ r.length ≤ M + 1 ∧ val r = val out + 65536 ^ i * (c + val (a.drop i) + val (b.drop i)) := by
      have hs : IntKind.u64.wrap ((IntKind.u64.wrap (rd a i + rd b i)) + c) = rd a i + rd b i + c := by
        rw [uwrap_in (n := rd a i + rd b i) kq1 kq1, uwrap_in kq1 kq1]
      generalize hse : rd a (i : Int) + rd b (i : Int) + c = s at hs
      obtain ⟨r, hr, hr1, hr2, hr3⟩ := ih (i + 1) (out ++ [s % 65536]) (s / 65536) kq1 (by simp [ho]) (D16_append hd (D16_one kq1 kq1)) kq1 kq1 (by
        intro he
        have : rd a (i : Int) = 0 := rd_ge kq1
        have : rd b (i : Int) = 0 := rd_ge kq1
        omega)
      refine ⟨r, ?_, hr1, hr2, ?_⟩
      · refine Ev.step (f := fun k => tabardref01_plus.l0 k (out ++ [s % 65536]) (s / 65536) ((i + 1 : Nat) : Int) sa a sb b) (fun k => ?_) hr
        simp only [tabardref01_plus.j1, digit_spec, Option.bind_some, if_true]
        rw [if_pos kq1, hs, mask16 kq1 kq1, wrap_succ kq1]
      · rw [hr3, val_append, ho, val_drop a i, val_drop b i]
        have e : c + (rd a (i : Int) + 65536 * val (a.drop (i + 1))) + (rd b (i : Int) + 65536 * val (b.drop (i + 1))) = s % 65536 + 65536 * (s / 65536 + val (a.drop (i + 1)) + val (b.drop (i + 1))) := by omega
        rw [e, Int.pow_succ]
        simp only [val]
        grind
    by_cases hlt : i < M
    · obtain ⟨r, hr, h⟩ := step
      refine ⟨r, Ev.step (fun k => ?_) hr, h⟩
      simp only [tabardref01_plus.l0, mx_nat]
      rw [if_pos kq1]
    · by_cases hc0 : c = 0
      · subst hc0
        refine ⟨out, Ev_at 1 (fun k hk => ?_), hd, kq1, ?_⟩
        · obtain ⟨k, rfl⟩ : ∃ m, k = m + 2 := ⟨k - 2, kq1⟩
          simp only [tabardref01_plus.l0, mx_nat]
          rw [if_neg kq1]
          simp only [tabardref01_plus.j1]
          simp
        · rw [List.drop_eq_nil_of_le kq1, List.drop_eq_nil_of_le kq1]
          simp [val]
      · obtain ⟨r, hr, h⟩ := step
        refine ⟨r, Ev.step (fun k => ?_) hr, h⟩
        simp only [tabardref01_plus.l0, mx_nat]
        rw [if_neg kq1, show decide (c > 0) = true from decide_eq_true kq1]
theorem plus_digits {a b : List Int} (ha : D16 a) (hb : D16 b) (sa sb : Bool) (hla : a.length < 1000000000000) (hlb : b.length < 1000000000000) :
    ∃ r, Ev (fun k => tabardref01_plus.f k sa a sb b) r ∧ D16 r ∧ r.length ≤ 1000000000000 ∧ val r = val a + val b := by
  obtain ⟨r, h1, h2, h3, h4⟩ := plus_loop ha hb sa sb _ rfl kq1 (max a.length b.length + 1) 0 [] 0 kq1 rfl D16_nil kq1 kq1 kq1
  refine ⟨r, h1, h2, kq1, ?_⟩
  rw [h4]
  simp [val]
theorem minus_loop {a b : List Int} (ha : D16 a) (hb : D16 b) (sa sb : Bool) (hM2 : a.length < 1000000000000) :
    ∀ (d i : Nat) (out : List Int) (c : Int), i + d = a.length → out.length = i → D16 out → 0 ≤ c → c ≤ 1 →
      ∃ r e, Ev (fun k => tabardref01_minus.l0 k out c (i : Int) sa a sb b) r ∧ D16 r ∧ r.length = a.length ∧ 0 ≤ e ∧ val r = val out + 65536 ^ i * (val (a.drop i) - val (b.drop i) - c) + 65536 ^ a.length * e := by
  intro d
  induction d with
  | zero =>
    intro i out c hi ho hd h0 h1
    refine ⟨out, val (b.drop i) + c, Ev_at 0 (fun k hk => ?_), hd, kq1, ?_, ?_⟩
    · obtain ⟨k, rfl⟩ : ∃ m, k = m + 1 := ⟨k - 1, kq1⟩
      simp only [tabardref01_minus.l0]
      rw [if_neg kq1]
    · have := val_nonneg (D16_drop hb i)
      omega
    · have : a.length = i := by omega
      rw [this, List.drop_eq_nil_of_le kq1]
      rw [Int.add_assoc, ← Int.mul_add, show val [] - val (b.drop i) - c + (val (b.drop i) + c) = 0 by simp [val]; omega]
      simp
  | succ d ih =>
    intro i out c hi ho hd h0 h1
    have ra := rd_D16 ha i
    have rb := rd_D16 hb i
    have hs : IntKind.u64.wrap ((IntKind.u64.wrap ((IntKind.u64.wrap (rd a (i : Int) + 65536)) - rd b (i : Int))) - c) = rd a (i : Int) + 65536 - rd b (i : Int) - c := by
      rw [uwrap_in (n := rd a (i : Int) + 65536) kq1 kq1, uwrap_in (n := rd a (i : Int) + 65536 - rd b (i : Int)) kq1 kq1, uwrap_in kq1 kq1]
    generalize hse : rd a (i : Int) + 65536 - rd b (i : Int) - c = s at hs
    obtain ⟨r, e, hr, hr1, hr2, hr3, hr4⟩ := ih (i + 1) (out ++ [s % 65536]) (1 - s / 65536) kq1 (by simp [ho]) (D16_append hd (D16_one kq1 kq1)) kq1 kq1
    refine ⟨r, e, ?_, hr1, hr2, hr3, ?_⟩
    · refine Ev.step (f := fun k => tabardref01_minus.l0 k (out ++ [s % 65536]) (1 - s / 65536) ((i + 1 : Nat) : Int) sa a sb b) (fun k => ?_) hr
      simp only [tabardref01_minus.l0, digit_spec, Option.bind_some]
      rw [if_pos kq1, if_pos kq1, hs, mask16 kq1 kq1, wrap_succ kq1, uwrap_in (n := 1 - s / 65536) kq1 kq1]
    · rw [hr4, val_append, ho, val_drop a i, val_drop b i]
      have e2 : (rd a (i : Int) + 65536 * val (a.drop (i + 1))) - (rd b (i : Int) + 65536 * val (b.drop (i + 1))) - c = s % 65536 + 65536 * (val (a.drop (i + 1)) - val (b.drop (i + 1)) - (1 - s / 65536)) := by omega
      rw [e2, Int.pow_succ]
      simp only [val]
      grind
theorem minus_digits {a b : List Int} (ha : D16 a) (hb : D16 b) (sa sb : Bool) (hla : a.length < 1000000000000) (hle : val b ≤ val a) :
    ∃ r, Ev (fun k => tabardref01_minus.f k sa a sb b) r ∧ D16 r ∧ r.length ≤ 1000000000000 ∧ val r = val a - val b := by
  obtain ⟨r, e, h1, h2, h3, h4, h5⟩ := minus_loop ha hb sa sb hla a.length 0 [] 0 kq1 rfl D16_nil kq1 kq1
  refine ⟨r, h1, h2, kq1, ?_⟩
  have hlt := val_lt h2
  rw [h3] at hlt
  simp [val] at h5
  have he : e = 0 := by
    by_cases h : 0 < e
    · have : 65536 ^ a.length * 1 ≤ 65536 ^ a.length * e := Int.mul_le_mul_of_nonneg_left kq1 (Int.le_of_lt (pow_pos _))
      omega
    · omega
  rw [h5, he]
  simp
def cmp (x y : Int) : Int := if x < y then -1 else if x > y then 1 else 0
theorem above {a b : List Int} (ha : D16 a) (hb : D16 b) (j : Nat) (h : val (a.drop j) < val (b.drop j)) : val a < val b := by
  have h1 := val_split' a j
  have h2 := val_split' b j
  have h3 := val_take_lt ha j
  have h4 := val_nonneg (D16_take hb j)
  have h5 : (65536 : Int) ^ j * (val (a.drop j) + 1) ≤ 65536 ^ j * val (b.drop j) := Int.mul_le_mul_of_nonneg_left kq1 (Int.le_of_lt (pow_pos _))
  rw [Int.mul_add] at h5
  omega
theorem size_loop {a b : List Int} (ha : D16 a) (hb : D16 b) (sa sb : Bool) (j : Nat) (hj : j < 1000000000000) (h : val (a.drop j) = val (b.drop j)) :
    ∀ k, j < k → tabardref01_Size.l0 k ((j : Int) - 1) sa a sb b = some (cmp (val a) (val b)) := by
  induction j with
  | zero =>
    intro k hk
    obtain ⟨k, rfl⟩ : ∃ m, k = m + 1 := ⟨k - 1, kq1⟩
    simp only [tabardref01_Size.l0]
    rw [if_neg kq1]
    simp at h
    unfold cmp
    rw [if_neg kq1, if_neg kq1]
  | succ j ih =>
    intro k hk
    obtain ⟨k, rfl⟩ : ∃ m, k = m + 1 := ⟨k - 1, kq1⟩
    rw [show ((j + 1 : Nat) : Int) - 1 = (j : Int) by omega]
    simp only [tabardref01_Size.l0, digit_spec, Option.bind_some]
    have h1 := val_drop a j
    have h2 := val_drop b j
    rw [if_pos kq1]
    by_cases hlt : rd a (j : Int) < rd b (j : Int)
    · rw [if_pos hlt]
      have := above ha hb j kq1
      unfold cmp
      rw [if_pos this]
    · rw [if_neg hlt]
      by_cases hgt : rd a (j : Int) > rd b (j : Int)
      · rw [if_pos hgt]
        have := above hb ha j kq1
        unfold cmp
        rw [if_neg kq1, if_pos this]
      · rw [if_neg hgt, wrap_in ⟨kq1, kq1⟩]
        exact ih kq1 kq1 k kq1
theorem size_spec {a b : List Int} (ha : D16 a) (hb : D16 b) (sa sb : Bool) (hla : a.length < 1000000000000) (hlb : b.length < 1000000000000) :
    Ev (fun k => tabardref01_Size.f k sa a sb b) (cmp (val a) (val b)) := by
  refine Ev_at (max a.length b.length) (fun k hk => ?_)
  unfold tabardref01_Size.f
  rw [mx_nat, wrap_in ⟨kq1, kq1⟩]
  exact size_loop ha hb sa sb _ kq1 (by rw [List.drop_eq_nil_of_le kq1, List.drop_eq_nil_of_le kq1]) k hk
theorem Wd (z : Int) : D16 (W z).2 := dig_D16 _
theorem Wv (z : Int) : val (W z).2 = z.natAbs := dig_val _
theorem plus_spec {a b : Int} (ha : Small a) (hb : Small b) : Ev (fun k => tabardref01_Plus.f k (W a).1 (W a).2 (W b).1 (W b).2) (W (a + b)) := by
  have sa : (W a).2.length < 1000000000000 := ha
  have sb : (W b).2.length < 1000000000000 := hb
  unfold tabardref01_Plus.f
  by_cases hs : ((W a).1 == (W b).1) = true
  · obtain ⟨r, h1, h2, h3, h4⟩ := plus_digits (Wd a) (Wd b) (W a).1 (W b).1 sa sb
    refine Ev.congr (fun k => if_pos hs) (Ev.bind h1 ?_)
    refine Ev_at r.length (fun k hk => ?_)
    rw [trimmed_spec h2 _ kq1 k hk, h4, Wv, Wv]
    have : (if (W a).1 = true then -((a.natAbs : Int) + b.natAbs) else (a.natAbs : Int) + b.natAbs) = a + b := by
      simp only [W] at hs ⊢
      by_cases h5 : a < 0 <;> by_cases h6 : b < 0 <;> simp [h5, h6] at hs ⊢ <;> omega
    rw [this]
    rfl
  · by_cases hge : (b.natAbs : Int) ≤ a.natAbs
    · obtain ⟨r, h1, h2, h3, h4⟩ := minus_digits (Wd a) (Wd b) (W a).1 (W b).1 sa (by rw [Wv, Wv]; exact hge)
      refine Ev.congr (fun k => if_neg hs) (Ev.bind (size_spec (Wd a) (Wd b) _ _ sa sb) ?_)
      have hc : cmp (val (W a).2) (val (W b).2) ≥ 0 := by rw [Wv, Wv]; unfold cmp; split <;> (try split) <;> omega
      refine Ev.congr (fun k => if_pos hc) (Ev.bind h1 ?_)
      refine Ev_at r.length (fun k hk => ?_)
      rw [trimmed_spec h2 _ kq1 k hk, h4, Wv, Wv]
      have : (if (W a).1 = true then -((a.natAbs : Int) - b.natAbs) else (a.natAbs : Int) - b.natAbs) = a + b := by
        simp only [W] at hs ⊢
        by_cases h5 : a < 0 <;> by_cases h6 : b < 0 <;> simp [h5, h6] at hs ⊢ <;> omega
      rw [this]
      rfl
    · obtain ⟨r, h1, h2, h3, h4⟩ := minus_digits (Wd b) (Wd a) (W b).1 (W a).1 sb (by rw [Wv, Wv]; omega)
      refine Ev.congr (fun k => if_neg hs) (Ev.bind (size_spec (Wd a) (Wd b) _ _ sa sb) ?_)
      have hc : ¬ cmp (val (W a).2) (val (W b).2) ≥ 0 := by rw [Wv, Wv]; unfold cmp; split <;> (try split) <;> omega
      refine Ev.congr (fun k => if_neg hc) (Ev.bind h1 ?_)
      refine Ev_at r.length (fun k hk => ?_)
      rw [trimmed_spec h2 _ kq1 k hk, h4, Wv, Wv]
      have : (if (W b).1 = true then -((b.natAbs : Int) - a.natAbs) else (b.natAbs : Int) - a.natAbs) = a + b := by
        simp only [W] at hs ⊢
        by_cases h5 : a < 0 <;> by_cases h6 : b < 0 <;> simp [h5, h6] at hs ⊢ <;> omega
      rw [this]
      rfl
theorem small_neg {a : Int} (h : Small a) : Small (-a) := by unfold Small at *; rw [Int.natAbs_neg]; exact h
theorem small_of {a : Int} (j : Nat) (hj : j < 1000000000000) (h : a.natAbs < 65536 ^ j) : Small a := Nat.lt_of_le_of_lt (dig_len _ j h) hj
theorem small_in {a : Int} (h : In64 a) : Small a := by
  obtain ⟨h1, h2⟩ := h
  refine small_of 4 kq2 ?_
  have : (65536 : Nat) ^ 4 = 18446744073709551616 := by decide
  omega
theorem less_spec {a b : Int} (ha : Small a) (hb : Small b) : Ev (fun k => tabardref01_Less.f k (W a).1 (W a).2 (W b).1 (W b).2) (decide (a < b)) := by
  unfold tabardref01_Less.f
  refine Ev.bind (minus_spec hb) (Ev.bind (plus_spec ha (small_neg hb)) ?_)
  have : (W (a + -b)).1 = decide (a < b) := by
    simp only [W]
    by_cases h : a < b <;> simp [h] <;> omega
  exact Ev.congr (fun k => by rw [this]) (Ev.now _)
theorem fits_loop {l : List Int} (hd : D16 l) (s : Bool) (hl : l.length < 1000000000000) (hv : val l < 18446744073709551616) (j : Nat) (hj : j ≤ l.length) :
    ∀ k, j < k → tabardref01_Fits.l0 k (val (l.drop j)) ((j : Int) - 1) s l = some (wrap64 (if s = true then -(val l) else val l), true) := by
  induction j with
  | zero =>
    intro k hk
    obtain ⟨k, rfl⟩ : ∃ m, k = m + 1 := ⟨k - 1, kq1⟩
    simp only [tabardref01_Fits.l0, List.drop_zero]
    rw [if_neg kq1]
    cases s
    · simp
    · simp only [if_true]
      have := val_nonneg hd
      rw [uwrap]
      simp only [Option.some.injEq, Prod.mk.injEq, and_true]
      unfold wrap64
      omega
  | succ j ih =>
    intro k hk
    obtain ⟨k, rfl⟩ : ∃ m, k = m + 1 := ⟨k - 1, kq1⟩
    rw [show ((j + 1 : Nat) : Int) - 1 = (j : Int) by omega]
    simp only [tabardref01_Fits.l0]
    have h1 := val_drop l j
    have h2 := val_split l j kq1
    have h3 := val_nonneg (D16_take hd j)
    have h4 := val_nonneg (D16_drop hd j)
    have h5 := val_nonneg (D16_drop hd (j + 1))
    have h6 : 1 * val (l.drop j) ≤ 65536 ^ j * val (l.drop j) := Int.mul_le_mul_of_nonneg_right (by have := pow_pos j; omega) h4
    have h7 := rd_D16 hd j
    rw [if_pos kq1, if_pos kq1, if_pos kq1, wrap_in ⟨kq1, kq1⟩, uwrap_in kq1 kq1]
    rw [bits_join .u64 64 kq2 (fun n h h' => wraps64 64 kq2 n h h') 16 _ _ kq1 kq1 kq1 kq1 kq1 kq1]
    rw [show val (l.drop (j + 1)) * 65536 + rd l (j : Int) = val (l.drop j) by omega]
    exact ih kq1 k kq1
theorem fits_spec {z : Int} (hz : Small z) : Ev (fun k => tabardref01_Fits.f k (W z).1 (W z).2) (if In64 z then (z, true) else (0, false)) := by
  have sz : (W z).2.length < 1000000000000 := hz
  unfold tabardref01_Fits.f
  refine Ev.bind (of_spec (a := -9223372036854775808) kq2) (Ev.bind (less_spec hz (small_in kq2)) ?_)
  by_cases h1 : z < -9223372036854775808
  · have hn : ¬ In64 z := fun h => by have := h.1; omega
    refine Ev.congr (fun k => if_pos (decide_eq_true h1)) (Ev_at 0 (fun k hk => ?_))
    obtain ⟨k, rfl⟩ : ∃ m, k = m + 1 := ⟨k - 1, kq1⟩
    simp [tabardref01_Fits.j0, hn]
  · refine Ev.congr (fun k => if_neg (by simpa using h1)) (Ev.bind (of_spec (a := 9223372036854775807) kq2) (Ev.bind (less_spec (small_in kq2) hz) ?_))
    by_cases h2 : 9223372036854775807 < z
    · have hn : ¬ In64 z := fun h => by have := h.2; omega
      refine Ev_at 0 (fun k hk => ?_)
      obtain ⟨k, rfl⟩ : ∃ m, k = m + 1 := ⟨k - 1, kq1⟩
      simp [tabardref01_Fits.j0, hn, h2]
    · have hin : In64 z := ⟨kq1, kq1⟩
      refine Ev_at ((W z).2.length + 1) (fun k hk => ?_)
      obtain ⟨k, rfl⟩ : ∃ m, k = m + 1 := ⟨k - 1, kq1⟩
      simp only [tabardref01_Fits.j0]
      rw [if_neg (by simpa using h2), wrap_in ⟨kq1, kq1⟩, if_pos hin]
      have h3 := fits_loop (Wd z) (W z).1 sz (by rw [Wv]; omega) (W z).2.length (Nat.le_refl _) k kq1
      rw [List.drop_length] at h3
      rw [show (0 : Int) = val [] from rfl, h3, Wv]
      have : (if (W z).1 = true then -(z.natAbs : Int) else (z.natAbs : Int)) = z := by
        simp only [W]
        by_cases h : z < 0 <;> simp [h] <;> omega
      rw [this, wrap_in hin]
theorem told_spec {z : Int} (hz : Small z) : Ev (fun k => tabardref01_told.f k (W z).1 (W z).2) (fit z) := by
  unfold tabardref01_told.f
  refine Ev.bind (fits_spec hz) ?_
  by_cases h : In64 z
  · rw [if_pos h, fit_in h]
    exact Ev.congr (fun k => if_pos rfl) (Ev.now _)
  · rw [if_neg h, fit_out h]
    exact Ev.congr (fun k => if_neg (by simp)) (Ev.now _)
theorem Ev.pair {α β : Type} {g : Nat → Option (α × β)} {r : α × β} (h : Ev g r) : Ev (fun k => (g k).bind fun b => some (b.1, b.2)) r := Ev.bind h (Ev.now _)
theorem W_abs (a : Int) : W (a.natAbs : Int) = (false, (W a).2) := by
  unfold W
  simp
theorem small_abs {a : Int} (h : Small a) : Small (a.natAbs : Int) := by unfold Small at *; simpa using h
end Go.Proofs.Ytjknpmibdkoklaa.Q
namespace Go.Proofs.Ytjknpmibdkoklaa.Q
open Go.RowKit Go.Proofs.YtjknpmibdkoklaaW.PrintWords Go.Proofs.YtjknpmibdkoklaaW.PrintLast Go.Proofs.YtjknpmibdkoklaaW.PrintMore
open Aside0 (mk)
open List (setIfInBounds_toArray set_cons_zero set_cons_succ)
attribute [local go_sem] max2_int min2_int max_two min_two max_three min_three max_four min_four
set_option linter.unusedVariables false
set_option linter.unusedSimpArgs false
attribute [local go_sem] fld99_2 fld103_2 fld160_0 fld160_1
def tabardref01_Total.l0 : Nat → List Int → Int → Bool → List Int → Option (Int × Int)
  | 0, _, _, _, _ => none
  | k + 1, x0, x5, x1361000, x1361001 => if x5 < (x0.length : Int) then (if 0 ≤ x5 then ((tabardref01_Of.f k (rd x0 x5)).bind fun bt1362 => ((tabardref01_Plus.f k x1361000 x1361001 false bt1362.2).bind fun bt1366 => (tabardref01_Total.l0 k x0 (wrap64 (x5 + 1)) bt1366.1 bt1366.2))) else (none)) else ((tabardref01_told.f k x1361000 x1361001).bind fun bt1370 => (some (bt1370.1, bt1370.2)))
def tabardref01_Total.f (k : Nat) (l0 : List Int) : Option (Int × Int) := (tabardref01_Of.f k 0).bind fun bt1356 => (tabardref01_Total.l0 k l0 0 bt1356.1 bt1356.2)
theorem tabardref01_Total.mono_l : ∀ k, (∀ y0 y1 y2 y3, LeO (tabardref01_Total.l0 k y0 y1 y2 y3) (tabardref01_Total.l0 (k + 1) y0 y1 y2 y3))
  | 0 => fun _ _ _ _ r h => by simp [tabardref01_Total.l0] at h
  | k + 1 => by
    have ih0 := tabardref01_Total.mono_l k
    · intro y0 y1 y2 y3; (unfold tabardref01_Total.l0)
      repeat' first
      | (with_reducible exact ih0 _ _ _ _)
      | (with_reducible exact tabardref01_Of.mono _ _)
      | (with_reducible exact tabardref01_Plus.mono _ _ _ _ _)
      | (with_reducible exact tabardref01_told.mono _ _ _)
      | (with_reducible exact LeO.refl _)
      | (with_reducible exact LeO.none _)
      | (with_reducible refine LeO.ite ?_ ?_)
      | (with_reducible refine LeO.bind ?_ (fun _ => ?_))
      | exact ih0 _ _ _ _
      | exact tabardref01_Of.mono _ _
      | exact tabardref01_Plus.mono _ _ _ _ _
      | exact tabardref01_told.mono _ _ _
      | exact LeO.none _
      | refine LeO.ite ?_ ?_
      | refine LeO.bind ?_ (fun _ => ?_)
theorem tabardref01_Total.mono : ∀ a0 k, LeO (tabardref01_Total.f k a0) (tabardref01_Total.f (k + 1) a0) := by
  intro a0 k
  have ih0 := tabardref01_Total.mono_l k
  unfold tabardref01_Total.f
  repeat' first
      | (with_reducible exact ih0 _ _ _ _)
      | (with_reducible exact tabardref01_Of.mono _ _)
      | (with_reducible exact tabardref01_Plus.mono _ _ _ _ _)
      | (with_reducible exact tabardref01_told.mono _ _ _)
      | (with_reducible exact LeO.refl _)
      | (with_reducible exact LeO.none _)
      | (with_reducible refine LeO.ite ?_ ?_)
      | (with_reducible refine LeO.bind ?_ (fun _ => ?_))
      | exact ih0 _ _ _ _
      | exact tabardref01_Of.mono _ _
      | exact tabardref01_Plus.mono _ _ _ _ _
      | exact tabardref01_told.mono _ _ _
      | exact LeO.none _
      | refine LeO.ite ?_ ?_
      | refine LeO.bind ?_ (fun _ => ?_)
def tabardref01_Total.T5 : Bool × List (List Nat × List Nat) := (true, [([], []), ([], []), ([], []), ([1, 2], [1, 2]), ([3], [3]), ([4], [4]), ([5], [5]), ([6], [6]), ([0, 7, 5], [0, 7]), ([8, 8, 0, 1, 2, 3, 4, 5, 6, 7, 8], [8])])
def tabardref01_Total.B5 : List Nat := [0, 0, 0, 6, 14, 30, 62, 126, 255, 511]
theorem tabardref01_Total.tab5 : rtab .any (opsOf Try.f95 5) = tabardref01_Total.T5 := by kernel_rfl
theorem tabardref01_Total.bits5 : waitsOk tabardref01_Total.T5.2 tabardref01_Total.B5 = true := by kernel_rfl
set_option maxHeartbeats 8000000 in
set_option maxRecDepth 100000 in
theorem tabardref01_Total.calls (k : Nat) (A0 : Option Addr) (c0 : Nat) (l0 : List Int) (r1 : Int) (r2 : Int) (w : World) (hr0 : Kd.C (Kd.int .i64) w A0 l0.length l0) (hc0 : l0.length ≤ c0) (h : tabardref01_Total.f k l0 = some (r1, r2)) :
    Calls Try.prog 95 #[.slice A0 l0.length c0] w fun e w' => e = .returned (.tuple #[.int .i64 r1, .int .i64 r2]) ∧ Below w.heap.size w w' := by
  have hu160 := Try.underlying160
  have HR0 := mk hr0
  have HC0 := mk hc0
  clear hr0 hc0
  have HB := mk (Below.refl w.heap.size w)
  have H : ((tabardref01_Of.f k 0).bind fun bt1356 => (tabardref01_Total.l0 k l0 0 bt1356.1 bt1356.2)) = some (r1, r2) := h
  clear h
  replace H := Option.bind_eq_some_iff.mp H
  obtain ⟨⟨t1356, t1357⟩, A20, H⟩ := H
  replace H : (tabardref01_Total.l0 k l0 0 t1356 t1357) = some (r1, r2) := H
  have A2 := mk A20
  clear A20
  have H' := mk H
  clear H
  go_enter Try.func95, Try.ntmps95
  go_wp2_with (first | ((with_reducible refine gate_callee (f := 133) rfl ?_); refine goesL_ (some 8) rfl rfl Try.func133 kq0 rfl #[.int .i64 0] rfl kq7 ?_; (with_reducible refine (tabardref01_Of.calls k 0 t1356 t1357 _ A2.out).mono ?_); rintro e w3 ⟨v1358, rfl, ho0, hb⟩; refine ⟨_, rfl, ?_⟩; have HO1359 := mk (Kd.V_lower (Kd.V_mono (ok' := fun k_ => True) ho0 (fun k_ hk_ => trivial)) (below_size kq9)); replace HB := mk (below_step kq9 hb)) | ((with_reducible refine gate_dst (N := 4) rfl ?_); refine box_event ?hg (N := 4) ?hd (cs := #[.bool false, .slice none 0 0]) (t := 160) ?hr ?_; (case hd => rfl); (case hg => rfl); (case hr => exact kq11); intro gb1360 hg w4 hbox hb; have BK1360 := mk (hbox); have GW1360 := (gs_ hg kq9); have GE1360 := GW1360; replace HO1359 := mk (Kd.V_below (Kd.V_elderB (kq21 HO1359) gb1360 (Nat.le_of_eq hg.symm)) hb); replace HB := mk (below_step kq9 hb); clear hb hbox hg; obtain ⟨_, _, _, _⟩ := cz2_ BK1360.out; obtain ⟨Ao6, co6, eo6⟩ := Kd.V_slice HO1359.out; subst eo6))
  go_loopg [5] k (fun kq v5 w' => ∃ (x5_1 : Int) (x1361000_1 : Bool) (x1361001_1 : List Int) (u1361001 : Value), v5 = .int .i64 x5_1 ∧ Aside0 (tabardref01_Total.l0 kq l0 x5_1 x1361000_1 x1361001_1 = some (r1, r2)) ∧ Aside0 (kq ≤ k) ∧ Aside0 (Kd.V (Kd.int .u64) 187 w' w.heap.size (fun k_ => k_ ≠ gb1360) u1361001 x1361001_1) ∧ Aside0 (w'.heap[gb1360]? = some (.cells #[.bool x1361000_1, u1361001] 160 (0, 0))) ∧ Aside0 (Below w.heap.size w w'))
  case atStart => exact ⟨(0), (t1356), (t1357), (.slice Ao6 t1357.length co6), kq3, H', ⟨Nat.le_refl _⟩, ⟨by (with_reducible repeat (first | apply Kd.V_alloc | apply Kd.V_drewN | apply Kd.V_drew)); exact Kd.V_mono (Kd.V_far (p := ⟨gb1360, 1, none⟩) (Kd.V_far (p := ⟨gb1360, 0, none⟩) (Kd.V_mono HO1359.out (fun k_ hk => (⟨hk, hk.2⟩ : _ ∧ k_ ≠ gb1360))) (fun _ hk => hk.2) (.bool t1356)) (fun _ hk => hk.2) (.slice Ao6 t1357.length co6)) (fun _ hk => hk.1.2)⟩, ⟨by (with_reducible repeat (first | refine blk_drewN ?_ _ | refine blk_drew ?_ | refine blk_alloc ?_ _)); refine blk_put (cs := #[.bool t1356, .slice none 0 0]) ?_ 1 _ rfl; (with_reducible repeat (first | refine blk_drewN ?_ _ | refine blk_drew ?_ | refine blk_alloc ?_ _)); refine blk_put (cs := #[.bool false, .slice none 0 0]) ?_ 0 _ rfl; (with_reducible repeat (first | refine blk_drewN ?_ _ | refine blk_drew ?_ | refine blk_alloc ?_ _)); exact BK1360.out⟩, ⟨(kq16 GE1360)⟩⟩
  case round =>
    clear H'
    obtain ⟨x5_1, x1361000_1, x1361001_1, u1361001, rfl, HA, HK1, HO_1361001, BK1360, HB⟩ := hrel
    cases gk with
    | zero => exact absurd HA.out (by simp [tabardref01_Total.l0])
    | succ k1 =>
      (have H := HA.out); clear HA; (simp only [tabardref01_Total.l0] at H); replace H := ic_ H; obtain ⟨c7, H⟩ | ⟨c7, H⟩ := H
      · (have c7b0 := decide_eq_true c7); clear c7; replace H := ic_ H; obtain ⟨c8, H⟩ | ⟨c8, H⟩ := H
        · (have c8b0 := decide_eq_true c8); clear c8; (replace H := Option.bind_eq_some_iff.mp H); (obtain ⟨⟨t1362, t1363⟩, A90, H⟩ := H); (replace H : ((tabardref01_Plus.f k1 x1361000_1 x1361001_1 false t1363).bind fun bt1366 => (tabardref01_Total.l0 k1 l0 (wrap64 (x5_1 + 1)) bt1366.1 bt1366.2)) = some (r1, r2) := H); (have A9 := mk A90); clear A90; (replace H := Option.bind_eq_some_iff.mp H); (obtain ⟨⟨t1366, t1367⟩, A100, H⟩ := H); (replace H : (tabardref01_Total.l0 k1 l0 (wrap64 (x5_1 + 1)) t1366 t1367) = some (r1, r2) := H); (have A10 := mk A100); clear A100; (have H' := mk H); clear H; (try go_wp2); (replace HO_1361001 := mk (Kd.V_drew HO_1361001.out)); (replace BK1360 := mk (blk_drew BK1360.out)); (replace HB := mk (below_drew1 HB.out)); (have p1361 : 0 ≤ (x5_1 : Int) := of_decide_eq_true kq8); (have q1361 : x5_1 < (l0.length : Int) := of_decide_eq_true kq8); (obtain ⟨ad1361, e1361, hx1361_0⟩ := Kd.at_int HR0.out x5_1 p1361 q1361); (have hw1361_0 := hx1361_0); cases e1361; (replace hx1361_0 := (HB.out.cell (World.block_lt_of_cell? w _ hx1361_0)).trans hx1361_0); replace p1361 := eq_true p1361; replace q1361 := eq_true q1361; (refine start_ (n := 10) (S := fun w' => w'.cell? ⟨gb1360, 0, none⟩ = some (.bool x1361000_1) ∧ w'.cell? ⟨gb1360, 1, none⟩ = some (u1361001) ∧ w'.cell? (ad1361.add (x5_1).toNat) = some (.int .i64 (rd l0 x5_1))) (ds := [9]) #[false,false,false,false,false,false,false,false,false,false] kq0 rfl rfl ⟨(blk_cell BK1360.out 0).trans rfl, (blk_cell BK1360.out 1).trans rfl, ((HB.out.cell (World.block_lt_of_cell? w _ hw1361_0)).trans hw1361_0)⟩ (fun hHeld => ?_); refine with_tabW tabardref01_Total.tab5 tabardref01_Total.bits5 (fun HT_ HW_ => ?_)); (generalize wr.drew = w11 at HO_1361001 BK1360 HB hx1361_0 hHeld ⊢); refine puT_ 1 16 ?_
          refine puT_ 2 17 ?_
          refine puT_ 3 18 ?_
          refine taT_ 0 15 hHeld ?_
          refine taT_ 4 19 hHeld ?_
          (refine onT_ 5 20 (fun K hK => ?_)); (refine goes_ Try.func133 kq0 rfl #[.int .i64 (rd l0 x5_1)] (by rfl) rfl rfl kq7 ?_); (with_reducible refine (tabardref01_Of.calls k1 (rd l0 x5_1) t1362 t1363 _ A9.out).mono ?_); (rintro e w12 ⟨v1364, rfl, ho0, hb⟩); (refine ⟨_, rfl, ?_⟩); (have HO1365 := mk (Kd.V_lower (Kd.V_mono (ok' := fun k_ => k_ ≠ gb1360) ho0 (fun k_ hk_ => (Kd.freshB (g := gb1360) (o := .cells #[.bool x1361000_1, u1361001] 160 (0, 0)) (kq18 BK1360) k_ hk_))) (below_size (kq16 GE1360)))); (replace HO_1361001 := mk (Kd.V_below (kq21 HO_1361001) hb)); (replace BK1360 := (bb_ BK1360 hb)); (replace HB := mk (below_step (kq16 GE1360) hb)); ((try clear hb)); ((try clear hb2)); ((try clear hk)); ((try clear hi)); ((try clear ho0)); (obtain ⟨Ao13, co13, eo13⟩ := Kd.V_slice HO1365.out); ((first | subst eo13 | (injection eo13 with f1_ f2_ f3_; have f4_ := f1_.symm; have f5_ := f3_.symm; clear f1_ f2_ f3_; subst f4_; subst f5_))); (obtain ⟨Ao14, co14, eo14⟩ := Kd.V_slice HO_1361001.out); ((first | subst eo14 | (injection eo14 with f1_ f2_ f3_; have f4_ := f1_.symm; have f5_ := f3_.symm; clear f1_ f2_ f3_; subst f4_; subst f5_))); (refine hK.out _ _ ⟨(blk_cell BK1360.out 0).trans rfl, (blk_cell BK1360.out 1).trans rfl, ((HB.out.cell (World.block_lt_of_cell? w _ hw1361_0)).trans hw1361_0)⟩ (fun hHeld => ?_)); clear hK K; (refine norm_ (a' := ?_) ?_ ?_); rotate_left
          · (show Act.put _ (some 20) _ = _); (simp only [Act.put, setIfInBounds_toArray, set_cons_zero, set_cons_succ, i64_w, i32_w]); rfl
          refine puT_ 6 21 ?_
          refine puT_ 7 22 ?_
          (refine onT_ 8 23 (fun K hK => ?_)); (refine goes_ Try.func132 kq0 rfl #[.agg #[.bool x1361000_1, .slice Ao14 x1361001_1.length co14], .agg #[.bool false, .slice Ao13 t1363.length co13]] (by rfl) rfl rfl kq7 ?_); (with_reducible refine (tabardref01_Plus.calls k1 x1361000_1 _ _ x1361001_1 false _ _ t1363 t1366 t1367 _ ?side1 ?side2 ?side3 ?side4 A10.out).mono ?_); ((case side1 => exact kq31 HO_1361001)); ((case side2 => exact (Kd.V_reads' HO_1361001.out).2.1)); ((case side3 => exact kq31 HO1365)); ((case side4 => exact (Kd.V_reads' HO1365.out).2.1)); (rintro e w15 ⟨v1368, rfl, ho0, hb⟩); (refine ⟨_, rfl, ?_⟩); (have HO1369 := mk (Kd.V_lower (Kd.V_mono (ok' := fun k_ => k_ ≠ gb1360) ho0 (fun k_ hk_ => (Kd.freshB (g := gb1360) (o := .cells #[.bool x1361000_1, .slice Ao14 x1361001_1.length co14] 160 (0, 0)) (kq18 BK1360) k_ hk_))) (below_size (kq16 GE1360)))); (replace HO_1361001 := mk (Kd.V_below (kq21 HO_1361001) hb)); (replace HO1365 := mk (Kd.V_below (kq21 HO1365) hb)); (replace BK1360 := (bb_ BK1360 hb)); (replace HB := mk (below_step (kq16 GE1360) hb)); ((try clear hb)); ((try clear hb2)); ((try clear hk)); ((try clear hi)); ((try clear ho0)); (obtain ⟨Ao17, co17, eo17⟩ := Kd.V_slice HO1369.out); ((first | subst eo17 | (injection eo17 with f1_ f2_ f3_; have f4_ := f1_.symm; have f5_ := f3_.symm; clear f1_ f2_ f3_; subst f4_; subst f5_))); (refine hK.out _ _ ⟨(blk_cell BK1360.out 0).trans rfl, (blk_cell BK1360.out 1).trans rfl, ((HB.out.cell (World.block_lt_of_cell? w _ hw1361_0)).trans hw1361_0)⟩ (fun hHeld => ?_)); clear hK K; (refine norm_ (a' := ?_) ?_ ?_); rotate_left
          · (show Act.put _ (some 23) _ = _); (simp only [Act.put, setIfInBounds_toArray, set_cons_zero, set_cons_succ, i64_w, i32_w]); rfl
          (refine last_ (i := 9) (N := none) #[true,true,true,true,true,true,true,true,true,true] rfl rfl (one_of HT_.out kq0) kq2 (fun K hK => ?_)); (have hs16 : w15.cell? ⟨gb1360, 0, none⟩ = some (.bool x1361000_1) := (blk_cell BK1360.out 0).trans rfl); (have hfs16 := blk_frozen BK1360.out 0); (have hs18 : w15.cell? ⟨gb1360, 1, none⟩ = some (.slice Ao14 x1361001_1.length co14) := (blk_cell BK1360.out 1).trans rfl); (have hfs18 := blk_frozen BK1360.out 1); (refine skip_ (w1 := ?_) (by rfl) rfl ?_ ?_); rotate_left
          · go_simp; rfl
          (refine hK.out _ _ ?_); clear hK K; (refine done_ (done_of HT_.out kq0) ?_); (try go_wp2); (go_roundg k1)
          case measure => have := HK1.out; omega
          case rel => exact ⟨(wrap64 (x5_1 + 1)), (t1366), (t1367), (.slice Ao17 t1367.length co17), kq3, H', ⟨kq13⟩, ⟨by (with_reducible repeat (first | apply Kd.V_alloc | apply Kd.V_drewN | apply Kd.V_drew)); exact Kd.V_mono (Kd.V_far (p := ⟨gb1360, 1, none⟩) (Kd.V_far (p := ⟨gb1360, 0, none⟩) (Kd.V_mono HO1369.out (fun k_ hk => (⟨hk, hk⟩ : _ ∧ k_ ≠ gb1360))) (fun _ hk => hk.2) (.bool t1366)) (fun _ hk => hk.2) (.slice Ao17 t1367.length co17)) (fun _ hk => hk.1)⟩, ⟨by (with_reducible repeat (first | refine blk_drewN ?_ _ | refine blk_drew ?_ | refine blk_alloc ?_ _)); refine blk_put (cs := #[.bool t1366, .slice Ao14 x1361001_1.length co14]) ?_ 1 _ rfl; (with_reducible repeat (first | refine blk_drewN ?_ _ | refine blk_drew ?_ | refine blk_alloc ?_ _)); refine blk_put (cs := #[.bool x1361000_1, .slice Ao14 x1361001_1.length co14]) ?_ 0 _ rfl; (with_reducible repeat (first | refine blk_drewN ?_ _ | refine blk_drew ?_ | refine blk_alloc ?_ _)); exact BK1360.out⟩, ⟨(kq16 GE1360)⟩⟩
        · (exact absurd H (by simp))
      · (have c7b0 := decide_eq_false c7); clear c7; (replace H := Option.bind_eq_some_iff.mp H); (obtain ⟨⟨t1370, t1371⟩, A190, H⟩ := H); (replace H : (some (t1370, t1371)) = some (r1, r2) := H); (have A19 := mk A190); clear A190; (simp only [Option.some.injEq, Prod.mk.injEq] at H); (obtain ⟨rfl, rfl⟩ := H); (obtain ⟨_, _, _, _⟩ := cz2_ BK1360.out); (obtain ⟨Ao21, co21, eo21⟩ := Kd.V_slice HO_1361001.out); subst eo21; (go_wp2_with (first | ((with_reducible refine gate_callee (f := 131) rfl ?_); refine goesL_ (some 26) rfl rfl Try.func131 kq0 rfl #[.agg #[.bool x1361000_1, .slice Ao21 x1361001_1.length co21]] rfl kq7 ?_; (with_reducible refine (tabardref01_told.calls k1 x1361000_1 _ _ x1361001_1 t1370 t1371 _ ?side1 ?side2 A19.out).mono ?_); (case side1 => exact kq31 HO_1361001); (case side2 => exact (Kd.V_reads' HO_1361001.out).2.1); rintro e w22 ⟨rfl, hb⟩; refine ⟨_, rfl, ?_⟩; replace HO_1361001 := mk (Kd.V_below (kq21 HO_1361001) hb); replace BK1360 := (bb_ BK1360 hb); replace HB := mk (below_step (kq16 GE1360) hb)))); go_ret2; (exact ⟨kq14, (kq16 GE1360)⟩)
end Go.Proofs.Ytjknpmibdkoklaa.Q
namespace Go.Proofs.Ytjknpmibdkoklaa.Q
open Go.RowKit Go.Proofs.YtjknpmibdkoklaaW.PrintWords Go.Proofs.YtjknpmibdkoklaaW.PrintLast Go.Proofs.YtjknpmibdkoklaaW.PrintMore
theorem rtotal_loop {l : List Int} (h : ∀ x ∈ l, In64 x) (hl : l.length < 100000000000000) :
    ∀ (d i : Nat), i + d = l.length → Ev (fun k => tabardref01_Total.l0 k l (i : Int) (W (total (l.take i))).1 (W (total (l.take i))).2) (fit (total l)) := by
  have big8 : (65536 : Nat) ^ 8 = 340282366920938463463374607431768211456 := by decide
  have sm : ∀ i, Small (total (l.take i)) := fun i => by
    have h1 := total_le (l := l.take i) (fun x hx => h x (List.mem_of_mem_take hx))
    have h2 := total_nonneg (l.take i)
    have h3 : (l.take i).length ≤ l.length := by rw [List.length_take]; omega
    refine small_of 8 kq2 ?_
    omega
  intro d
  induction d with
  | zero =>
    intro i hi
    have t := told_spec (sm i)
    rw [List.take_of_length_le kq1] at t ⊢
    refine Ev.step (fun k => ?_) (Ev.pair t)
    simp only [tabardref01_Total.l0]
    rw [if_neg kq1]
  | succ d ih =>
    intro i hi
    have hil : i < l.length := by omega
    have hx := h _ (List.getElem_mem hil)
    have p := plus_spec (sm i) (small_abs (small_in hx))
    have e : total (l.take (i + 1)) = total (l.take i) + (l[i].natAbs : Int) := by
      rw [List.take_succ_eq_append_getElem hil, total_append]
      simp [total]
    rw [← e, W_abs] at p
    refine Ev.step (f := fun k => (tabardref01_Of.f k l[i]).bind fun b => (tabardref01_Plus.f k (W (total (l.take i))).1 (W (total (l.take i))).2 false b.2).bind fun c => tabardref01_Total.l0 k l ((i + 1 : Nat) : Int) c.1 c.2) (fun k => ?_) (Ev.bind (of_spec hx) (Ev.bind p (ih (i + 1) kq1)))
    simp only [tabardref01_Total.l0]
    rw [if_pos kq1, if_pos kq1, rd_of_lt hil, wrap_succ kq1]
theorem rtotal_spec {l : List Int} (h : ∀ x ∈ l, In64 x) (hl : l.length < 100000000000000) : Ev (fun k => tabardref01_Total.f k l) (fit (total l)) := by
  unfold tabardref01_Total.f
  exact Ev.bind (of_spec (a := 0) kq2) (rtotal_loop h hl l.length 0 kq1)
end Go.Proofs.Ytjknpmibdkoklaa.Q
