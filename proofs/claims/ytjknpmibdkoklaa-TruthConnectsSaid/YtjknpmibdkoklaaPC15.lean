/- Functions of the given program as Lean functions, each with its contract, and what they answer; words for it. No condition but those of each. -/
import Derived.Test.YtjknpmibdkoklaaPCS
import Derived.Test.YtjknpmibdkoklaaPC13
import Derived.Test.YtjknpmibdkoklaaPC11
import Derived.Test.YtjknpmibdkoklaaPC14
import Derived.Test.YtjknpmibdkoklaaPC2
import Derived.Test.YtjknpmibdkoklaaPC5
import Derived.LoopTactic
import Derived.Shelf.Abstract
set_option linter.unusedVariables false
set_option linter.unusedSimpArgs false
set_option maxRecDepth 100000
namespace Go.Proofs.Ytjknpmibdkoklaa.U
open Go.RowKit Go.Proofs.YtjknpmibdkoklaaW.PrintWords Go.Proofs.YtjknpmibdkoklaaW.PrintLast Go.Proofs.YtjknpmibdkoklaaW.PrintMore
mutual
theorem valZ_congr (w v : ByteArray → Int) : ∀ t : S66, (∀ s ∈ namesT t, w s = v s) → valZ w t = valZ v t
  | ⟨op, num, nm, l⟩, h => by
    have hl := valZs_congr w v l fun s hs => h s (by rw [namesT_eq]; exact mem_canon.2 (List.mem_append_right _ hs))
    rw [valZ, valZ, hl]
    unfold opT
    by_cases h1 : op = 1
    · rw [h nm (by rw [namesT_eq]; simp only; rw [if_pos h1]; exact mem_canon.2 (List.mem_append_left _ (List.mem_singleton.2 rfl)))]
    · rw [if_neg h1, if_neg h1]
theorem valZs_congr (w v : ByteArray → Int) : ∀ l : List S66, (∀ s ∈ namesTs l, w s = v s) → valZs w l = valZs v l
  | [], _ => rfl
  | t :: l, h => by
    rw [valZs, valZs, valZ_congr w v t fun s hs => h s (by rw [namesTs]; exact List.mem_append_left _ hs), valZs_congr w v l fun s hs => h s (by rw [namesTs]; exact List.mem_append_right _ hs)]
end
mutual
theorem holdZ_congr (w v : ByteArray → Int) : ∀ t : S39, plainF t = true → (∀ s ∈ freeF t, w s = v s) → holdZ w t = holdZ v t
  | ⟨op, nm, md, l, q⟩, hp, h => by
    rw [plainF_eq] at hp
    simp only [Bool.and_eq_true, bne_iff_ne, ne_eq] at hp
    obtain ⟨p7, p8, pq⟩ := hp
    have hfr : freeF ⟨op, nm, md, l, q⟩ = canon (namesTs l ++ freeFs q) := by rw [freeF_eq]; simp only; rw [if_neg kq1]
    rw [hfr] at h
    rw [holdZ, holdZ, valZs_congr w v l fun s hs => h s (mem_canon.2 (List.mem_append_left _ hs)), holdZs_congr w v q pq fun s hs => h s (mem_canon.2 (List.mem_append_right _ hs))]
theorem holdZs_congr (w v : ByteArray → Int) : ∀ l : List S39, plainFs l = true → (∀ s ∈ freeFs l, w s = v s) → holdZs w l = holdZs v l
  | [], _, _ => rfl
  | t :: l, hp, h => by
    rw [plainFs, Bool.and_eq_true] at hp
    rw [holdZs, holdZs, holdZ_congr w v t hp.1 fun s hs => h s (by rw [freeFs]; exact List.mem_append_left _ hs), holdZs_congr w v l hp.2 fun s hs => h s (by rw [freeFs]; exact List.mem_append_right _ hs)]
end
theorem plainF_join {k : Int} (t u : S39) (h3 : 3 ≤ k) (h6 : k ≤ 6) : plainF (joinF k t u) = (plainF t && plainF u) := by
  rw [plainF_eq]
  show ((k != 7) && ((k != 8) && plainFs [t, u])) = _
  have e7 : (k != 7) = true := bne_iff_ne.2 kq1
  have e8 : (k != 8) = true := bne_iff_ne.2 kq1
  rw [e7, e8]
  simp [plainFs]
theorem holdZ_join {k : Int} (w : ByteArray → Int) (t u : S39) (h3 : 3 ≤ k) (h6 : k ≤ 6) : holdZ w (joinF k t u) = connB k (holdZ w t) (holdZ w u) := by
  unfold joinF
  rw [holdZ]
  unfold opF
  rw [if_neg kq1, if_neg kq1, if_neg kq1, if_pos kq1]
  rfl
theorem FitF_join {k : Int} {t u : S39} (ht : FitF t) (hu : FitF u) (h3 : 3 ≤ k) (h6 : k ≤ 6) : FitF (joinF k t u) := by
  refine .mk (by unfold fitI joinF; simp only; omega) (by show (0 : Nat) ≤ _; omega) (by unfold fitI joinF; simp only; omega) (by show 0 * 56 ≤ _; omega) (by show 2 * 80 ≤ _; omega) (fun x hx => absurd hx List.not_mem_nil) (fun x hx => ?_)
  rcases List.mem_cons.1 hx with rfl | hx
  · exact ht
  · rw [List.mem_singleton.1 hx]; exact hu
def notF (t : S39) : S39 := ⟨2, ⟨#[]⟩, 0, [], [t]⟩
theorem notF_free (t : S39) : freeF (notF t) = freeF t := by
  have h : freeF (notF t) = canon (freeF t) := by rw [freeF_eq]; simp [notF, namesTs, freeFs]
  rw [h]
  exact canon_of_rise (freeF_rise t)
theorem plainF_not (t : S39) : plainF (notF t) = plainF t := by
  rw [plainF_eq]
  simp [notF, plainFs]
theorem holdZ_not (w : ByteArray → Int) (t : S39) : holdZ w (notF t) = !holdZ w t := by
  unfold notF
  rw [holdZ]
  rfl
theorem FitF_not {t : S39} (ht : FitF t) : FitF (notF t) := by
  refine .mk (by unfold fitI notF; simp only; omega) (by show (0 : Nat) ≤ _; omega) (by unfold fitI notF; simp only; omega) (by show 0 * 56 ≤ _; omega) (by show 1 * 80 ≤ _; omega) (fun x hx => absurd hx List.not_mem_nil) (fun x hx => ?_)
  rw [List.mem_singleton.1 hx]; exact ht
theorem first_ev {l : List Int} (hv : Nums l) (n : Nat) (hn : n ≤ 1000000) : ∃ L : List Int, L.length = n ∧ Nums L ∧ Ev (fun k => tabardlaw10_first.f k l (n : Int)) L := by
  have loop : ∀ (m i : Nat) (x : List Int), i ≤ n → n - i = m → x.length = n → Nums x → ∃ L : List Int, L.length = n ∧ Nums L ∧ Ev (fun k => tabardlaw10_first.l0 k l x (n : Int) (i : Int)) L := by
    intro m
    induction m with
    | zero =>
      intro i x hi hm hx hnx
      refine ⟨x, hx, hnx, Ev.step (f := fun _ => some x) (fun k => ?_) (Ev.now _)⟩
      show tabardlaw10_first.l0 (k + 1) l x (n : Int) (i : Int) = _
      rw [tabardlaw10_first.l0, if_neg kq1]
    | succ m ih =>
      intro i x hi hm hx hnx
      have hw : wrap64 ((i : Int) + 1) = ((i + 1 : Nat) : Int) := wrap_add (n := n) kq1 kq1
      by_cases hl : (i : Int) < (l.length : Int)
      · have hmem : rd l (i : Int) ∈ l := by
          unfold rd
          rw [Int.toNat_natCast, List.getD_eq_getElem?_getD, List.getElem?_eq_getElem kq1]
          exact List.getElem_mem _
        obtain ⟨L, h1, h2, h3⟩ := ih (i + 1) (x.set i (rd l (i : Int))) kq1 kq1 (by rw [List.length_set]; exact hx) (fun v hvv => by
          rcases List.mem_or_eq_of_mem_set hvv with h | h
          · exact hnx v h
          · rw [h]; exact hv _ hmem)
        refine ⟨L, h1, h2, Ev.step (fun k => ?_) h3⟩
        show tabardlaw10_first.l0 (k + 1) l x (n : Int) (i : Int) = _
        rw [tabardlaw10_first.l0, if_pos kq1, if_pos hl, if_pos kq1, if_pos kq1, hw]
        rfl
      · obtain ⟨L, h1, h2, h3⟩ := ih (i + 1) x kq1 kq1 hx hnx
        refine ⟨L, h1, h2, Ev.step (fun k => ?_) h3⟩
        show tabardlaw10_first.l0 (k + 1) l x (n : Int) (i : Int) = _
        rw [tabardlaw10_first.l0, if_pos kq1, if_neg hl, hw]
  obtain ⟨L, h1, h2, h3⟩ := loop n 0 (List.replicate n 0) (Nat.zero_le _) rfl (by simp) (fun v hvv => by rw [(List.mem_replicate.1 hvv).2]; decide)
  refine ⟨L, h1, h2, Ev.congr (fun k => ?_) h3⟩
  show tabardlaw10_first.f k l (n : Int) = _
  unfold tabardlaw10_first.f
  rw [if_pos kq1, if_pos kq1, Option.bind_some, Int.toNat_natCast, List.length_replicate]
  rfl
theorem ten_text : decS 9223372036854775808 = ⟨#[57, 50, 50, 51, 51, 55, 50, 48, 51, 54, 56, 53, 52, 55, 55, 53, 56, 48, 56]⟩ := by
  have h : NumOf false [0, 2147483648] 9223372036854775808 := ⟨kq2, kq2, kq2, kq2⟩
  have h1 := text_ev h (N := 20) kq2 kq2 kq2
  have h2 : truth_whole_text.f (20 + 1) false [0, 2147483648] = some ⟨#[57, 50, 50, 51, 51, 55, 50, 48, 51, 54, 56, 53, 52, 55, 55, 53, 56, 48, 56]⟩ := by decide +kernel
  exact (Option.some.inj (h2.symm.trans h1)).symm
theorem fixed10_ev : Ev (fun k => tabardlaw10_fixed.f k) true := by
  have hx : FitT ⟨1, 0, ⟨#[120]⟩, []⟩ := .mk (by unfold fitI; decide) (by unfold fitI; decide) kq2 kq2 (fun u hu => absurd hu List.not_mem_nil)
  have h1 : FitT ⟨0, 1, ⟨#[]⟩, []⟩ := .mk (by unfold fitI; decide) (by unfold fitI; decide) kq2 kq2 (fun u hu => absurd hu List.not_mem_nil)
  have hT : FitT ⟨2, 0, ⟨#[]⟩, [⟨1, 0, ⟨#[120]⟩, []⟩]⟩ := .mk (by unfold fitI; decide) (by unfold fitI; decide) kq2 kq2 (fun u hu => by rw [List.mem_singleton.1 hu]; exact hx)
  have hF : FitF ⟨9, ⟨#[]⟩, 0, [⟨1, 0, ⟨#[120]⟩, []⟩, ⟨0, 1, ⟨#[]⟩, []⟩], []⟩ := .mk (by unfold fitI; decide) kq2 (by unfold fitI; decide) kq2 kq2 (fun u hu => by
    rcases List.mem_cons.1 hu with rfl | hu
    · exact hx
    · rw [List.mem_singleton.1 hu]; exact h1) (fun u hu => absurd hu List.not_mem_nil)
  have e1 := Term_ev hT [⟨#[120]⟩] [-9223372036854775808] kq2 (by unfold Nums; decide)
  have e2 := Formula_ev hF [⟨#[120]⟩] [1] kq2 (by unfold Nums; decide)
  have hr : risesB none [(⟨#[120]⟩ : ByteArray)] = true := by decide +kernel
  have n1 : fitA (namesT ⟨2, 0, ⟨#[]⟩, [⟨1, 0, ⟨#[120]⟩, []⟩]⟩) [⟨#[120]⟩] [-9223372036854775808] = 0 := by
    unfold fitA
    rw [if_pos ⟨hr, rfl⟩, if_pos]
    intro s hs
    have : s = ⟨#[120]⟩ := by simpa [namesT_eq, namesTs, mem_canon, canon_one] using hs
    rw [this]; decide
  have n2 : fitA (freeF ⟨9, ⟨#[]⟩, 0, [⟨1, 0, ⟨#[120]⟩, []⟩, ⟨0, 1, ⟨#[]⟩, []⟩], []⟩) [⟨#[120]⟩] [1] = 0 := by
    unfold fitA
    rw [if_pos ⟨hr, rfl⟩, if_pos]
    intro s hs
    have : s = ⟨#[120]⟩ := by simpa [freeF_eq, freeFs, namesT_eq, namesTs, mem_canon, canon_one, canon_nil] using hs
    rw [this]; decide
  have t1 : termA ⟨2, 0, ⟨#[]⟩, [⟨1, 0, ⟨#[120]⟩, []⟩]⟩ [⟨#[120]⟩] [-9223372036854775808] = (⟨#[57, 50, 50, 51, 51, 55, 50, 48, 51, 54, 56, 53, 52, 55, 55, 53, 56, 48, 56]⟩, 0) := by
    unfold termA
    rw [if_pos (by decide +kernel), if_pos n1, ← ten_text]
    rfl
  have t2 : formA ⟨9, ⟨#[]⟩, 0, [⟨1, 0, ⟨#[120]⟩, []⟩, ⟨0, 1, ⟨#[]⟩, []⟩], []⟩ [⟨#[120]⟩] [1] = (true, 0) := by
    unfold formA
    rw [if_pos (by decide +kernel), if_pos (by decide +kernel), if_pos n2]
    rfl
  rw [t1] at e1
  rw [t2] at e2
  refine Ev.bind e1 (Ev.bind e2 ?_)
  refine Ev.congr (fun k => ?_) (Ev.now true)
  rw [if_pos (by decide +kernel), if_pos rfl, if_pos rfl, if_pos rfl]
theorem formA_fit {t : S39} {names : List ByteArray} {vals : List Int} (he : errF t = 0) (hf : fitA (freeF t) names vals = 0) : formA t names vals = if plainF t = true then (holdZ (look names vals) t, 0) else (false, 100) := by
  unfold formA
  rw [if_pos he, if_pos hf]
theorem fitA_in {free names : List ByteArray} {vals : List Int} (hr : risesB none names = true) (hl : names.length = vals.length) (h : ∀ s ∈ free, s ∈ names) : fitA free names vals = 0 := by
  unfold fitA
  rw [if_pos ⟨hr, hl⟩, if_pos (fun s hs => idx_mem.2 (h s hs))]
theorem Nums_of {l : List Int} (h : ∀ p ∈ l, fitI p) : Nums l := fun v hv => by have := h v hv; unfold fitI at this; omega
end Go.Proofs.Ytjknpmibdkoklaa.U
set_option maxRecDepth 100000
namespace Go.Proofs.Ytjknpmibdkoklaa.U
open Go.RowKit Go.Proofs.YtjknpmibdkoklaaW.PrintWords Go.Proofs.YtjknpmibdkoklaaW.PrintLast Go.Proofs.YtjknpmibdkoklaaW.PrintMore
open Aside0 (mk)
def TellsS (g : Nat) (lb : Array Value) (p : ByteArray → Bool) (w : World) : Prop :=
  ∀ (W : World) (x : ByteArray), Below w.heap.size w W → Calls Try.prog g (#[.string x] ++ lb) W fun e w' => e = .returned (.bool (p x)) ∧ Below W.heap.size W w'
set_option maxHeartbeats 4000000 in
theorem indexFunc_calls (g : Nat) (lb : Array Value) (p : ByteArray → Bool) (eg : ∀ args w, (callFunc g args).run Try.prog w = .ok (.enter g args) w) (A0 : Option Addr) (c0 : Nat) (l0 : List ByteArray) (w : World) (hr0 : Kd.C Kd.string w A0 l0.length l0) (hn : l0.length < 9223372036854775807) (hp : TellsS g lb p w) :
    Calls Try.prog 102 #[.slice A0 l0.length c0, .func (.func g) #[] lb] w fun e w' => ∃ r : Int, e = .returned (.int .i64 r) ∧ decide (r ≥ 0) = l0.any p ∧ Below w.heap.size w w' := by
  have HR0 := mk hr0
  have HN := mk hn
  have HP := mk hp
  clear hr0 hn hp
  go_enter Try.func102, Try.ntmps102
  go_wp2
  go_loopg [5, 8] l0.length (fun gg _ s8 wr => ∃ kk : Nat, Aside0 (kk ≤ l0.length) ∧ Aside0 (l0.length - kk ≤ gg) ∧ s8 = .int .i64 kk ∧ Aside0 (Below w.heap.size w wr) ∧ Aside0 (∀ j, (hj : j < l0.length) → j < kk → p l0[j] = false))
  case atStart => exact ⟨0, ⟨Nat.zero_le _⟩, ⟨kq1⟩, rfl, ⟨Below.refl _ w⟩, ⟨fun j _ hj => absurd hj (Nat.not_lt_zero _)⟩⟩
  case round =>
    obtain ⟨kk, hkk, hg, rfl, BW, A⟩ := hrel
    by_cases hlt : kk < l0.length
    · have hltz : (kk : Int) < (l0.length : Int) := by omega
      obtain ⟨ad, e1, hx⟩ := Kd.at_string HR0.out (kk : Int) kq1 hltz
      cases e1
      have h0z : (0 : Int) ≤ (kk : Int) := by omega
      replace hx := (BW.out.cell (World.block_lt_of_cell? w _ hx)).trans hx
      have hy : rdOf ByteArray.empty l0 (kk : Int) = l0[kk] := by simp [rdOf, hlt]
      rw [hy, Int.toNat_natCast] at hx
      have hcall := HP.out wr l0[kk] BW.out
      have hf := fun h => A.out kk hlt h
      have hany : p l0[kk] = true → l0.any p = true := fun h => List.any_eq_true.2 ⟨_, List.getElem_mem hlt, h⟩
      have hstep : p l0[kk] = false → ∀ j, (hj : j < l0.length) → j < kk + 1 → p l0[j] = false := fun h j hj h1 => by
        by_cases e : j = kk
        · subst e; exact h
        · exact A.out j hj kq1
      have HS := mk hstep
      have HY := mk hany
      clear hf hstep hany A hy
      generalize l0[kk] = y at hx hcall HS HY
      cases hq : p y with
      | true =>
        have HY1 := mk (HY.out hq)
        rw [hq] at hcall
        clear HY HS
        go_wp2_with (go_at_fn g; refine hcall.mono ?_; rintro e w' ⟨rfl, hb'⟩)
        go_ret
        exact ⟨_, rfl, by rw [HY1.out]; exact decide_eq_true kq1, below_step BW.out hb'⟩
      | false =>
        have HS1 := mk (HS.out hq)
        rw [hq] at hcall
        clear HY HS
        go_wp2_with (go_at_fn g; refine hcall.mono ?_; rintro e w' ⟨rfl, hb'⟩)
        go_roundg (l0.length - (kk + 1))
        case measure => have := hg.out; omega
        case rel => exact ⟨kk + 1, ⟨kq1⟩, ⟨kq1⟩, by have := HN.out; rw [show wrap64 ((kk : Int) + 1) = ((kk + 1 : Nat) : Int) from by unfold wrap64; omega], ⟨below_step BW.out hb'⟩, HS1⟩
    · have hltz : ¬ (kk : Int) < (l0.length : Int) := by omega
      have HA := mk (show l0.any p = false from by
        rw [List.any_eq_false]
        intro x hx
        obtain ⟨j, hj, rfl⟩ := List.getElem_of_mem hx
        rw [A.out j hj kq1]
        simp)
      clear A
      go_wp2
      go_ret
      exact ⟨_, rfl, by rw [HA.out]; rfl, BW.out⟩
set_option maxHeartbeats 4000000 in
theorem containsFunc_calls (g : Nat) (lb : Array Value) (p : ByteArray → Bool) (eg : ∀ args w, (callFunc g args).run Try.prog w = .ok (.enter g args) w) (A0 : Option Addr) (c0 : Nat) (l0 : List ByteArray) (w : World) (hr0 : Kd.C Kd.string w A0 l0.length l0) (hn : l0.length < 9223372036854775807) (hp : TellsS g lb p w) :
    Calls Try.prog 60 #[.slice A0 l0.length c0, .func (.func g) #[] lb] w fun e w' => e = .returned (.bool (l0.any p)) ∧ Below w.heap.size w w' := by
  have hI := indexFunc_calls g lb p eg A0 c0 l0 w hr0 hn hp
  clear hr0 hn hp
  go_enter Try.func60, Try.ntmps60
  go_wp2_with (go_at_call 102; refine hI.mono ?_; rintro e w' ⟨r, rfl, hr, hb'⟩)
  go_ret
  exact ⟨by rw [← hr]; rfl, hb'⟩
theorem notName_calls (x : ByteArray) (w : World) : Calls Try.prog 61 #[.string x] w fun e w' => e = .returned (.bool (!nameB x)) ∧ Below w.heap.size w w' := by
  go_enter Try.func61, Try.ntmps61
  go_wp2_with (go_at_call 41; (with_reducible refine (glyph_Name.calls x (nameB x) _ rfl).mono ?_); rintro e w' ⟨rfl, hb⟩)
  go_ret
  exact ⟨rfl, hb⟩
def glyph_Sorted.f (k : Nat) (l0 : List ByteArray) : Option (List ByteArray × Int) :=
  if l0.length < 9223372036854775807 then (if l0.any (fun x => !nameB x) = true then some (([] : List ByteArray), 6) else ((slices_Clone_string_string.f l0).bind fun t1 => (slices_Sort_string_string.f t1).bind fun t2 => (glyph_Rises.f k t2).bind fun t3 => if t3 = true then some (t2, 0) else some (([] : List ByteArray), 5))) else none
theorem glyph_Sorted.mono : ∀ a0 k, LeO (glyph_Sorted.f k a0) (glyph_Sorted.f (k + 1) a0) := by
  intro a0 k
  unfold glyph_Sorted.f
  refine LeO.ite (LeO.ite (LeO.refl _) (LeO.bind (LeO.refl _) fun _ => LeO.bind (LeO.refl _) fun _ => LeO.bind (glyph_Rises.mono _ _) fun _ => LeO.refl _)) (LeO.refl _)
set_option maxHeartbeats 4000000 in
theorem glyph_Sorted.calls (k : Nat) (A0 : Option Addr) (c0 : Nat) (l0 : List ByteArray) (r1 : List ByteArray) (r2 : Int) (w : World) (hr0 : Kd.C Kd.string w A0 l0.length l0) (hc0 : l0.length ≤ c0) (h : glyph_Sorted.f k l0 = some (r1, r2)) :
    Calls Try.prog 19 #[.slice A0 l0.length c0] w fun e w' => ∃ v0_ : Value, e = .returned (.tuple #[v0_, .int .i64 r2]) ∧ Kd.R Kd.string 9 w' w.heap.size (fun _ => True) v0_ r1 ∧ Below w.heap.size w w' := by
  unfold glyph_Sorted.f at h
  by_cases hn : l0.length < 9223372036854775807
  · rw [if_pos hn] at h
    have hE : ∀ args w, (callFunc 61 args).run Try.prog w = .ok (.enter 61 args) w := enters_of Try.func61 kq0 rfl
    have hP := containsFunc_calls 61 #[] (fun x => !nameB x) hE A0 c0 l0 w hr0 hn (fun W x _ => notName_calls x W)
    by_cases ha : l0.any (fun x => !nameB x) = true
    · rw [if_pos ha] at h
      rw [ha] at hP
      simp only [Option.some.injEq, Prod.mk.injEq] at h
      obtain ⟨rfl, rfl⟩ := h
      clear hr0 hc0 ha hE
      go_enter Try.func19, Try.ntmps19
      go_wp2_with (go_at_call 60; refine hP.mono ?_; rintro e w' ⟨rfl, hb'⟩)
      go_ret2
      exact ⟨_, rfl, Kd.R_nil _ _ _ _ _, hb'⟩
    · rw [if_neg ha] at h
      rw [Bool.eq_false_iff.2 ha] at hP
      obtain ⟨t1, h1, h⟩ := Option.bind_eq_some_iff.1 h
      obtain ⟨t2, h2, h⟩ := Option.bind_eq_some_iff.1 h
      obtain ⟨t3, h3, h⟩ := Option.bind_eq_some_iff.1 h
      have H1 := mk h1
      have H2 := mk h2
      have H3 := mk h3
      have H := mk h
      have HR := mk hr0
      clear h1 h2 h3 h hr0 ha hE
      cases t3 with
      | true =>
        have H := H.out
        simp only [if_true, Option.some.injEq, Prod.mk.injEq] at H
        obtain ⟨rfl, rfl⟩ := H
        go_enter Try.func19, Try.ntmps19
        go_wp2_with (first | (go_at_call 60; refine hP.mono ?_; rintro e w1 ⟨rfl, hb1⟩) | (go_at_call 62; refine (slices_Clone_string_string.calls A0 c0 l0 t1 w1 (Kd.C_below HR.out hb1) hc0 H1.out).mono ?_; rintro e w2 ⟨u, rfl, ho, hb2⟩; have HB2 := mk (below_step hb1 hb2); have HO := mk (Kd.R_lower ho (below_size hb1)); clear hb2 ho hb1) | (go_at_call 63; refine (slices_Sort_string_string.calls (fun _ => True) u t1 t2 w w2 HB2.out HO.out H2.out).mono ?_; rintro e w3 ⟨rfl, ho, hb, _⟩; obtain ⟨A5, c5, rfl, hc5, hC5⟩ := Kd.R_reads ho; have HB3 := mk hb; have HO3 := mk ho; have HC3 := mk hC5; have HL3 := mk hc5; clear hb ho hC5 hc5) | (go_at_call 25; refine (glyph_Rises.calls k A5 c5 t2 true w3 HC3.out HL3.out H3.out).mono ?_; rintro e w4 ⟨rfl, hb⟩))
        go_ret2
        exact ⟨_, rfl, Kd.R_mono (Kd.R_below HO3.out hb) (fun _ _ => trivial), below_step HB3.out hb⟩
      | false =>
        have H := H.out
        simp only [Bool.false_eq_true, if_false, Option.some.injEq, Prod.mk.injEq] at H
        obtain ⟨rfl, rfl⟩ := H
        go_enter Try.func19, Try.ntmps19
        go_wp2_with (first | (go_at_call 60; refine hP.mono ?_; rintro e w1 ⟨rfl, hb1⟩) | (go_at_call 62; refine (slices_Clone_string_string.calls A0 c0 l0 t1 w1 (Kd.C_below HR.out hb1) hc0 H1.out).mono ?_; rintro e w2 ⟨u, rfl, ho, hb2⟩; have HB2 := mk (below_step hb1 hb2); have HO := mk (Kd.R_lower ho (below_size hb1)); clear hb2 ho hb1) | (go_at_call 63; refine (slices_Sort_string_string.calls (fun _ => True) u t1 t2 w w2 HB2.out HO.out H2.out).mono ?_; rintro e w3 ⟨rfl, ho, hb, _⟩; obtain ⟨A5, c5, rfl, hc5, hC5⟩ := Kd.R_reads ho; have HB3 := mk hb; have HO3 := mk ho; have HC3 := mk hC5; have HL3 := mk hc5; clear hb ho hC5 hc5) | (go_at_call 25; refine (glyph_Rises.calls k A5 c5 t2 false w3 HC3.out HL3.out H3.out).mono ?_; rintro e w4 ⟨rfl, hb⟩))
        go_ret2
        exact ⟨_, rfl, Kd.R_nil _ _ _ _ _, below_step HB3.out hb⟩
  · rw [if_neg hn] at h
    cases h
end Go.Proofs.Ytjknpmibdkoklaa.U
