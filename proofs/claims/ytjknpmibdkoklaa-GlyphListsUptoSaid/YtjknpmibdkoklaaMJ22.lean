/- Functions of the given program as Lean functions, each with its contract, and what they answer; words for it. No condition but those of each. -/
import Derived.Test.YtjknpmibdkoklaaMJ3
import Derived.Test.YtjknpmibdkoklaaMJ15
import Derived.LoopTactic
import Derived.Shelf.Abstract
set_option maxRecDepth 100000
namespace Go.Proofs.Ytjknpmibdkoklaa.G
open Go.RowKit Go.Proofs.YtjknpmibdkoklaaW.PrintWords Go.Proofs.YtjknpmibdkoklaaW.PrintLast Go.Proofs.YtjknpmibdkoklaaW.PrintMore
def TellsS (g : Nat) (lb : Array Value) (p : ByteArray → Bool) (w : World) : Prop :=
  ∀ (W : World) (x : ByteArray), Below w.heap.size w W → Calls Try.prog g (#[.string x] ++ lb) W fun e w' => e = .returned (.bool (p x)) ∧ Below W.heap.size W w'
set_option maxHeartbeats 4000000 in
theorem indexFunc_calls (g : Nat) (lb : Array Value) (p : ByteArray → Bool) (eg : ∀ args w, (callFunc g args).run Try.prog w = .ok (.enter g args) w) (A0 : Option Addr) (c0 : Nat) (l0 : List ByteArray) (w : World) (hr0 : Kd.C Kd.string w A0 l0.length l0) (hn : l0.length < 9223372036854775807) (hp : TellsS g lb p w) :
    Calls Try.prog 102 #[.slice A0 l0.length c0, .func (.func g) #[] lb] w fun e w' => ∃ r : Int, e = .returned (.int .i64 r) ∧ decide (r ≥ 0) = l0.any p ∧ Below w.heap.size w w' := by
  have HR0 := Aside0.mk hr0
  have HN := Aside0.mk hn
  have HP := Aside0.mk hp
  clear hr0 hn hp
  go_enter Try.func102, Try.ntmps102
  go_wp2
  go_loopg [5, 8] l0.length (fun gg _ s8 wr => ∃ kk : Nat, Aside0 (kk ≤ l0.length) ∧ Aside0 (l0.length - kk ≤ gg) ∧ s8 = .int .i64 kk ∧ Aside0 (Below w.heap.size w wr) ∧ Aside0 (∀ j, (hj : j < l0.length) → j < kk → p l0[j] = false))
  case atStart => exact ⟨0, ⟨Nat.zero_le _⟩, ⟨by omega⟩, rfl, ⟨Below.refl _ w⟩, ⟨fun j _ hj => absurd hj (Nat.not_lt_zero _)⟩⟩
  case round =>
    obtain ⟨kk, hkk, hg, rfl, BW, A⟩ := hrel
    by_cases hlt : kk < l0.length
    · have hltz : (kk : Int) < (l0.length : Int) := by omega
      obtain ⟨ad, e1, hx⟩ := Kd.at_string HR0.out (kk : Int) (by omega) hltz
      cases e1
      have h0z : (0 : Int) ≤ (kk : Int) := by omega
      replace hx := (BW.out.cell (World.block_lt_of_cell? w _ hx)).trans hx
      have hy : rdOf ByteArray.empty l0 (kk : Int) = l0[kk] := by simp [rdOf, hlt]
      rw [hy, Int.toNat_natCast] at hx
      have hcall := HP.out wr l0[kk] BW.out
      have hf := fun h => A.out kk hlt h
      have hany : p l0[kk] = true → l0.any p = true := fun h => List.any_eq_true.2 ⟨_, List.getElem_mem hlt, h⟩
      have hstep : p l0[kk] = false → ∀ j, (hj : j < l0.length) → j < kk + 1 → p l0[j] = false := fun h j hj h1 => by
        by_cases e : j = kk
        · subst e; exact h
        · exact A.out j hj (by omega)
      have HS := Aside0.mk hstep
      have HY := Aside0.mk hany
      clear hf hstep hany A hy
      generalize l0[kk] = y at hx hcall HS HY
      cases hq : p y with
      | true =>
        have HY1 := Aside0.mk (HY.out hq)
        rw [hq] at hcall
        clear HY HS
        go_wp2_with (go_at_fn g; refine hcall.mono ?_; rintro e w' ⟨rfl, hb'⟩)
        go_ret
        exact ⟨_, rfl, by rw [HY1.out]; exact decide_eq_true (by omega), below_step BW.out hb'⟩
      | false =>
        have HS1 := Aside0.mk (HS.out hq)
        rw [hq] at hcall
        clear HY HS
        go_wp2_with (go_at_fn g; refine hcall.mono ?_; rintro e w' ⟨rfl, hb'⟩)
        go_roundg (l0.length - (kk + 1))
        case measure => have := hg.out; omega
        case rel => exact ⟨kk + 1, ⟨by omega⟩, ⟨by omega⟩, by have := HN.out; rw [show wrap64 ((kk : Int) + 1) = ((kk + 1 : Nat) : Int) from by unfold wrap64; omega], ⟨below_step BW.out hb'⟩, HS1⟩
    · have hltz : ¬ (kk : Int) < (l0.length : Int) := by omega
      have HA := Aside0.mk (show l0.any p = false from by
        rw [List.any_eq_false]
        intro x hx
        obtain ⟨j, hj, rfl⟩ := List.getElem_of_mem hx
        rw [A.out j hj (by omega)]
        simp)
      clear A
      go_wp2
      go_ret
      exact ⟨_, rfl, by rw [HA.out]; rfl, BW.out⟩
set_option maxHeartbeats 4000000 in
theorem containsFunc_calls (g : Nat) (lb : Array Value) (p : ByteArray → Bool) (eg : ∀ args w, (callFunc g args).run Try.prog w = .ok (.enter g args) w) (A0 : Option Addr) (c0 : Nat) (l0 : List ByteArray) (w : World) (hr0 : Kd.C Kd.string w A0 l0.length l0) (hn : l0.length < 9223372036854775807) (hp : TellsS g lb p w) :
    Calls Try.prog 60 #[.slice A0 l0.length c0, .func (.func g) #[] lb] w fun e w' => e = .returned (.bool (l0.any p)) ∧ Below w.heap.size w w' := by
  have hI := indexFunc_calls g lb p eg A0 c0 l0 w hr0 hn hp
  clear hr0 hn hp
  go_enter Try.func60, Try.ntmps60
  go_wp2_with (go_at_call 102; refine hI.mono ?_; rintro e w' ⟨r, rfl, hr, hb'⟩)
  go_ret
  exact ⟨by rw [← hr]; rfl, hb'⟩
theorem notName_calls (x : ByteArray) (w : World) : Calls Try.prog 61 #[.string x] w fun e w' => e = .returned (.bool (!nameB x)) ∧ Below w.heap.size w w' := by
  go_enter Try.func61, Try.ntmps61
  go_wp2_with (go_at_call 41; (with_reducible refine (glyph_Name.calls x (nameB x) _ rfl).mono ?_); rintro e w' ⟨rfl, hb⟩)
  go_ret
  exact ⟨rfl, hb⟩
def glyph_Sorted.f (k : Nat) (l0 : List ByteArray) : Option (List ByteArray × Int) :=
  if l0.length < 9223372036854775807 then (if l0.any (fun x => !nameB x) = true then some (([] : List ByteArray), 6) else ((slices_Clone_string_string.f l0).bind fun t1 => (slices_Sort_string_string.f t1).bind fun t2 => (glyph_Rises.f k t2).bind fun t3 => if t3 = true then some (t2, 0) else some (([] : List ByteArray), 5))) else none
theorem glyph_Sorted.mono : ∀ a0 k, LeO (glyph_Sorted.f k a0) (glyph_Sorted.f (k + 1) a0) := by
  intro a0 k
  unfold glyph_Sorted.f
  refine LeO.ite (LeO.ite (LeO.refl _) (LeO.bind (LeO.refl _) fun _ => LeO.bind (LeO.refl _) fun _ => LeO.bind (glyph_Rises.mono _ _) fun _ => LeO.refl _)) (LeO.refl _)
set_option maxHeartbeats 4000000 in
theorem glyph_Sorted.calls (k : Nat) (A0 : Option Addr) (c0 : Nat) (l0 : List ByteArray) (r1 : List ByteArray) (r2 : Int) (w : World) (hr0 : Kd.C Kd.string w A0 l0.length l0) (hc0 : l0.length ≤ c0) (h : glyph_Sorted.f k l0 = some (r1, r2)) :
    Calls Try.prog 19 #[.slice A0 l0.length c0] w fun e w' => ∃ v0_ : Value, e = .returned (.tuple #[v0_, .int .i64 r2]) ∧ Kd.R Kd.string 9 w' w.heap.size (fun _ => True) v0_ r1 ∧ Below w.heap.size w w' := by
  unfold glyph_Sorted.f at h
  by_cases hn : l0.length < 9223372036854775807
  · rw [if_pos hn] at h
    have hE : ∀ args w, (callFunc 61 args).run Try.prog w = .ok (.enter 61 args) w := enters_of Try.func61 (by kernel_rfl) rfl
    have hP := containsFunc_calls 61 #[] (fun x => !nameB x) hE A0 c0 l0 w hr0 hn (fun W x _ => notName_calls x W)
    by_cases ha : l0.any (fun x => !nameB x) = true
    · rw [if_pos ha] at h
      rw [ha] at hP
      simp only [Option.some.injEq, Prod.mk.injEq] at h
      obtain ⟨rfl, rfl⟩ := h
      clear hr0 hc0 ha hE
      go_enter Try.func19, Try.ntmps19
      go_wp2_with (go_at_call 60; refine hP.mono ?_; rintro e w' ⟨rfl, hb'⟩)
      go_ret2
      exact ⟨_, rfl, Kd.R_nil _ _ _ _ _, hb'⟩
    · rw [if_neg ha] at h
      rw [Bool.eq_false_iff.2 ha] at hP
      obtain ⟨t1, h1, h⟩ := Option.bind_eq_some_iff.1 h
      obtain ⟨t2, h2, h⟩ := Option.bind_eq_some_iff.1 h
      obtain ⟨t3, h3, h⟩ := Option.bind_eq_some_iff.1 h
      have H1 := Aside0.mk h1
      have H2 := Aside0.mk h2
      have H3 := Aside0.mk h3
      have H := Aside0.mk h
      have HR := Aside0.mk hr0
      clear h1 h2 h3 h hr0 ha hE
      cases t3 with
      | true =>
        have H := H.out
        simp only [if_true, Option.some.injEq, Prod.mk.injEq] at H
        obtain ⟨rfl, rfl⟩ := H
        go_enter Try.func19, Try.ntmps19
        go_wp2_with (first | (go_at_call 60; refine hP.mono ?_; rintro e w1 ⟨rfl, hb1⟩) | (go_at_call 62; refine (slices_Clone_string_string.calls A0 c0 l0 t1 w1 (Kd.C_below HR.out hb1) hc0 H1.out).mono ?_; rintro e w2 ⟨u, rfl, ho, hb2⟩; have HB2 := Aside0.mk (below_step hb1 hb2); have HO := Aside0.mk (Kd.R_lower ho (below_size hb1)); clear hb2 ho hb1) | (go_at_call 63; refine (slices_Sort_string_string.calls (fun _ => True) u t1 t2 w w2 HB2.out HO.out H2.out).mono ?_; rintro e w3 ⟨rfl, ho, hb, _⟩; obtain ⟨A5, c5, rfl, hc5, hC5⟩ := Kd.R_reads ho; have HB3 := Aside0.mk hb; have HO3 := Aside0.mk ho; have HC3 := Aside0.mk hC5; have HL3 := Aside0.mk hc5; clear hb ho hC5 hc5) | (go_at_call 25; refine (glyph_Rises.calls k A5 c5 t2 true w3 HC3.out HL3.out H3.out).mono ?_; rintro e w4 ⟨rfl, hb⟩))
        go_ret2
        exact ⟨_, rfl, Kd.R_mono (Kd.R_below HO3.out hb) (fun _ _ => trivial), below_step HB3.out hb⟩
      | false =>
        have H := H.out
        simp only [Bool.false_eq_true, if_false, Option.some.injEq, Prod.mk.injEq] at H
        obtain ⟨rfl, rfl⟩ := H
        go_enter Try.func19, Try.ntmps19
        go_wp2_with (first | (go_at_call 60; refine hP.mono ?_; rintro e w1 ⟨rfl, hb1⟩) | (go_at_call 62; refine (slices_Clone_string_string.calls A0 c0 l0 t1 w1 (Kd.C_below HR.out hb1) hc0 H1.out).mono ?_; rintro e w2 ⟨u, rfl, ho, hb2⟩; have HB2 := Aside0.mk (below_step hb1 hb2); have HO := Aside0.mk (Kd.R_lower ho (below_size hb1)); clear hb2 ho hb1) | (go_at_call 63; refine (slices_Sort_string_string.calls (fun _ => True) u t1 t2 w w2 HB2.out HO.out H2.out).mono ?_; rintro e w3 ⟨rfl, ho, hb, _⟩; obtain ⟨A5, c5, rfl, hc5, hC5⟩ := Kd.R_reads ho; have HB3 := Aside0.mk hb; have HO3 := Aside0.mk ho; have HC3 := Aside0.mk hC5; have HL3 := Aside0.mk hc5; clear hb ho hC5 hc5) | (go_at_call 25; refine (glyph_Rises.calls k A5 c5 t2 false w3 HC3.out HL3.out H3.out).mono ?_; rintro e w4 ⟨rfl, hb⟩))
        go_ret2
        exact ⟨_, rfl, Kd.R_nil _ _ _ _ _, below_step HB3.out hb⟩
  · rw [if_neg hn] at h
    cases h
end Go.Proofs.Ytjknpmibdkoklaa.G
