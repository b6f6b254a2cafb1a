/- Functions of the given program as Lean functions, each with its contract, and what they answer; words for it. No condition but those of each. -/
import Derived.Test.YtoopddhkjhpbnaaDoorMA5
import Derived.Test.YtoopddhkjhpbnaaDoorMA12
import Derived.Test.YtoopddhkjhpbnaaDoorMA13
import Derived.Test.YtoopddhkjhpbnaaDoorMA2
import Derived.Test.YtoopddhkjhpbnaaDoorMA9
import Derived.Test.YtoopddhkjhpbnaaDoorMA11
set_option maxRecDepth 100000
namespace Go.Proofs.YtoopddhkjhpbnaaDoor.Q
open Go.RowKit Go.Proofs.YtoopddhkjhpbnaaDoorW.PrintWords Go.Proofs.YtoopddhkjhpbnaaDoorW.PrintLast Go.Proofs.YtoopddhkjhpbnaaDoorW.PrintMore
theorem fixed4 : tabardlaw04_fixed.f = some true := by decide +kernel
theorem readN_le {n p b0 b1 b2 b3 : Nat} (h : p < n) : p + (readN n p b0 b1 b2 b3).2.1 ≤ n := by
  unfold readN
  repeat' split
  all_goals simp only
  all_goals omega
theorem good_loop (s : ByteArray) (hs : s.size ≤ 140737488351232) : ∀ (d pos : Nat), s.size - pos ≤ d → pos ≤ s.size → Ev (fun k => tabardref04_Good.l0 k s (pos : Int)) ((goodGo s pos : Nat) : Int) := by
  intro d
  induction d with
  | zero =>
    intro pos hd hp
    refine EvK 2 (fun k => ?_)
    rw [tabardref04_Good.l0, if_neg (by omega), goodGo, dif_neg (by omega)]
    have : pos = s.size := by omega
    rw [this]
  | succ d ih =>
    intro pos hd hp
    by_cases h : pos < s.size
    · have h1 := decode_pos s pos h
      obtain ⟨h2, hbad, hone⟩ := decode_read s pos
      have hw : (readB s pos).2.1 = (Utf8.decode s pos).2 := by rw [h2]
      have hr : (readB s pos).1 = (Utf8.decode s pos).1 := by rw [h2]
      have hle : pos + (readB s pos).2.1 ≤ s.size := readN_le h
      have next := ih (pos + (Utf8.decode s pos).2) (by omega) (by omega)
      have rd0 : Ev (fun k => tabardref04_Read.f k s (pos : Int)) (((readB s pos).1 : Int), ((readB s pos).2.1 : Int), (readB s pos).2.2) := EvK 8 (fun k => read_at hs h k)
      have hstep : ∀ k, tabardref04_Good.l0 (k + 1) s (pos : Int) = (tabardref04_Read.f k s (pos : Int)).bind fun b => (if b.2.2 = true then tabardref04_Good.l0 k s (wrap64 ((pos : Int) + b.2.1)) else some (pos : Int)) := fun k => by
        rw [tabardref04_Good.l0, if_pos (by omega)]
      refine Ev.step hstep (Ev.bind rd0 ?_)
      rw [goodGo, dif_pos h]
      cases hok : (readB s pos).2.2 with
      | false =>
        have hb := hbad hok
        rw [if_pos (by rw [← hr, ← hw, hb]; exact ⟨rfl, Nat.le_refl _⟩)]
        exact Ev.congr (fun k => if_neg (by decide)) (Ev.now _)
      | true =>
        rw [if_neg (fun e => by have h3 := hone hok (by omega); omega)]
        refine Ev.congr (fun k => if_pos rfl) ?_
        dsimp only
        rw [hw, w64 (by omega) (by omega), show ((pos : Int) + (((Utf8.decode s pos).2 : Nat) : Int)) = ((pos + (Utf8.decode s pos).2 : Nat) : Int) by omega]
        exact next
    · refine EvK 2 (fun k => ?_)
      rw [tabardref04_Good.l0, if_neg (by omega), goodGo, dif_neg (by omega)]
      have : pos = s.size := by omega
      rw [this]
theorem good_spec (s : ByteArray) (hs : s.size ≤ 140737488351232) : Ev (fun k => tabardref04_Good.f k s) ((goodGo s 0 : Nat) : Int) := good_loop s hs s.size 0 (by omega) (Nat.zero_le _)
set_option maxHeartbeats 4000000 in
theorem GlyphNames_calls (s : ByteArray) (hs : s.size ≤ 140737488351232) (w : World) (hT : Lib.Utf8Tabs 0 1 w) :
    Calls Tryd.prog 3 #[.string s] w fun e w' => e = .returned (.bool true) ∧ Below w.heap.size w w' := by
  obtain ⟨k1, h1⟩ := (name_spec s hs).rounds
  obtain ⟨k2, h2⟩ := (good_spec s hs).rounds
  have H1 := Aside0.mk h1
  have H2 := Aside0.mk h2
  have HT := Aside0.mk hT
  have HS := Aside0.mk hs
  have HB := Aside0.mk (Below.refl w.heap.size w)
  clear h1 h2 hT hs
  go_enter Tryd.func3, Tryd.ntmps3
  go_wp2_with (first | ((go_at_call 5; (with_reducible refine (tabardlaw04_fixed.calls true _ fixed4).mono ?_); rintro e w1 ⟨rfl, hb⟩; have m0_ := Aside0.mk (below_step HB.out hb); clear HB hb; have HB := m0_; clear m0_)) | ((go_at_call 6; (with_reducible refine (glyph_Name.calls s (nameB s) _ rfl).mono ?_); rintro e w1 ⟨rfl, hb⟩; have m0_ := Aside0.mk (below_step HB.out hb); clear HB hb; have HB := m0_; clear m0_)) | ((go_at_call 7; (with_reducible refine (tabardref04_Name.calls k1 s (nameB s) _ H1.out).mono ?_); rintro e w1 ⟨rfl, hb⟩; have m0_ := Aside0.mk (below_step HB.out hb); clear HB hb; have HB := m0_; clear m0_)) | ((go_at_call 8; (with_reducible refine (glyph_Reserved.calls s (reservedB s) _ (reserved_at s)).mono ?_); rintro e w1 ⟨rfl, hd⟩; have m0_ := Aside0.mk (below_draw0 HB.out hd); clear HB hd; have HB := m0_; clear m0_)) | ((go_at_call 9; (with_reducible refine (tabardref04_Reserved.calls 9 s (reservedB s) _ (rreserved_at 0 s)).mono ?_); rintro e w1 ⟨rfl, hb⟩; have m0_ := Aside0.mk (below_step HB.out hb); clear HB hb; have HB := m0_; clear m0_)) | ((go_at_call 10; (with_reducible refine (glyph_Good.calls s _ (Utf8Tabs_below HT.out HB.out)).mono ?_); rintro e w1 ⟨rfl, hb⟩; have m0_ := Aside0.mk (below_step HB.out hb); clear HB hb; have HB := m0_; clear m0_)) | ((go_at_call 11; (with_reducible refine (tabardref04_Good.calls k2 s _ _ H2.out).mono ?_); rintro e w1 ⟨rfl, hd⟩; have m0_ := Aside0.mk (below_draw0 HB.out hd); clear HB hd; have HB := m0_; clear m0_)))
  go_ret
  exact ⟨rfl, HB.out⟩
end Go.Proofs.YtoopddhkjhpbnaaDoor.Q
