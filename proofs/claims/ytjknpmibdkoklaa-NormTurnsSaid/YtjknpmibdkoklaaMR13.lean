/- Functions of the given program as Lean functions, each with its contract, and what they answer; words for it. No condition but those of each. -/
import Derived.Test.YtjknpmibdkoklaaMRS
import Derived.Test.YtjknpmibdkoklaaMR12
import Derived.LoopTactic
import Derived.Shelf.Abstract
import Derived.Test.YtjknpmibdkoklaaMR11
import Derived.Test.YtjknpmibdkoklaaMR5
import Derived.Test.YtjknpmibdkoklaaMR4
import Derived.Test.YtjknpmibdkoklaaMR2
import Derived.Test.YtjknpmibdkoklaaMR7
import Derived.Test.YtjknpmibdkoklaaMR3
set_option linter.unusedVariables false
set_option linter.unusedSimpArgs false
set_option maxRecDepth 100000
namespace Go.Proofs.Ytjknpmibdkoklaa.Q
open Go.RowKit Go.Proofs.YtjknpmibdkoklaaW.PrintWords Go.Proofs.YtjknpmibdkoklaaW.PrintLast Go.Proofs.YtjknpmibdkoklaaW.PrintMore
open Aside0 (mk)
def norm_Atom.f (k : Nat) (op : Int) (nm : ByteArray) (md : Int) (l3 : List S66) (l4 : List S39) : Option (Int × List ByteArray × List Int × Int × Int × Int) :=
  (tree_Check.f op nm md l3 l4).bind fun e => if e ≠ 0 then some (0, [], [], 0, 0, e) else if op < 9 then some (0, [], [], 0, 0, 3) else if 1 < l3.length then
    ((norm_worked.f k (rd_T66 l3 0).f0 (rd_T66 l3 0).f1 (rd_T66 l3 0).f2 (rd_T66 l3 0).f3).bind fun a =>
      (norm_worked.f k (rd_T66 l3 1).f0 (rd_T66 l3 1).f1 (rd_T66 l3 1).f2 (rd_T66 l3 1).f3).bind fun b =>
      (norm_both.f a.1 a.2.1 a.2.2.1 a.2.2.2 b.1 b.2.1 b.2.2.1 b.2.2.2 1).bind fun s0 =>
      (if a.2.2.2 = 0 ∧ b.2.2.2 = 0 ∧ (op = 11 ∨ op = 12) then norm_both.f b.1 b.2.1 b.2.2.1 b.2.2.2 a.1 a.2.1 a.2.2.1 a.2.2.2 1 else some s0).bind fun s =>
      if s.2.1.length ≤ 1000000 then ((chk_Total.f k ([atomB op md s.2.2.1] ++ atomC op md s.2.1)).bind fun t => some (atomR op md s.1 s.2.1 s.2.2.1 s.2.2.2 t.2)) else none)
    else none
theorem norm_Atom.mono : ∀ a0 a1 a2 a3 a4 k, LeO (norm_Atom.f k a0 a1 a2 a3 a4) (norm_Atom.f (k + 1) a0 a1 a2 a3 a4) := by
  intro a0 a1 a2 a3 a4 k
  unfold norm_Atom.f
  exact LeO.bind (LeO.refl _) fun _ => LeO.ite (LeO.refl _) (LeO.ite (LeO.refl _) (LeO.ite (LeO.bind (norm_worked.mono _ _ _ _ _) fun _ => LeO.bind (norm_worked.mono _ _ _ _ _) fun _ => LeO.bind (LeO.refl _) fun _ => LeO.bind (LeO.refl _) fun _ => LeO.ite (LeO.bind (chk_Total.mono _ _) fun _ => LeO.refl _) (LeO.refl _)) (LeO.refl _)))
theorem norm_Atom.calls (k : Nat) (op : Int) (nm : ByteArray) (md : Int) (A3 : Option Addr) (c3 : Nat) (l3 : List S66) (A4 : Option Addr) (c4 : Nat) (l4 : List S39) (r1 : Int) (r2 : List ByteArray) (r3 : List Int) (r4 r5 r6 : Int) (w : World) (hr3 : Kd.C k66 w A3 l3.length l3) (hc3 : l3.length ≤ c3) (hr4 : Kd.C k39 w A4 l4.length l4) (hc4 : l4.length ≤ c4) (h : norm_Atom.f k op nm md l3 l4 = some (r1, r2, r3, r4, r5, r6)) :
    Calls Try.prog 44 #[.agg #[.int .i64 op, .string nm, .int .i64 md, .slice A3 l3.length c3, .slice A4 l4.length c4]] w fun e w' => ∃ v0 v1 : Value, e = .returned (.tuple #[.agg #[.int .i64 r1, v0, v1, .int .i64 r4, .int .i64 r5], .int .i64 r6]) ∧ Kd.R Kd.string 9 w' w.heap.size (fun _ => True) v0 r2 ∧ Kd.R (Kd.int .i64) 2 w' w.heap.size (fun _ => True) v1 r3 ∧ Below w.heap.size w w' := by
  unfold norm_Atom.f at h
  obtain ⟨ev, hck, h⟩ := Option.bind_eq_some_iff.1 h
  by_cases he : ev = 0
  · subst he
    rw [if_neg kq2] at h
    by_cases ho : op < 9
    · rw [if_pos ho] at h
      simp only [Option.some.injEq, Prod.mk.injEq] at h
      obtain ⟨rfl, rfl, rfl, rfl, rfl, rfl⟩ := h
      refine (atom_shape op nm md A3 c3 l3 A4 c4 l4 w hr3 hc3 hr4 hc4 hck ho).mono ?_
      rintro e w' ⟨rfl, hb⟩
      exact ⟨_, _, rfl, Kd.R_nil _ _ _ _ _, Kd.R_nil _ _ _ _ _, hb⟩
    · rw [if_neg ho] at h
      by_cases h2 : 1 < l3.length
      · rw [if_pos h2] at h
        obtain ⟨⟨na, ca, ka, ea⟩, hwa, h⟩ := Option.bind_eq_some_iff.1 h
        obtain ⟨⟨nb, cb, kb, eb⟩, hwb, h⟩ := Option.bind_eq_some_iff.1 h
        obtain ⟨⟨n0, z0, k0, e0⟩, hs0, h⟩ := Option.bind_eq_some_iff.1 h
        obtain ⟨⟨ns, cs, ks, es⟩, hs, h⟩ := Option.bind_eq_some_iff.1 h
        dsimp only at hs0 hs h
        by_cases hl : cs.length ≤ 1000000
        · rw [if_pos hl] at h
          obtain ⟨⟨tt, te⟩, ht, h⟩ := Option.bind_eq_some_iff.1 h
          refine (atom_core k op nm md A3 c3 l3 A4 c4 l4 w hr3 hc3 hr4 hc4 hck ho h2 na ca ka ea nb cb kb eb n0 z0 k0 e0 ns cs ks es tt te hwa hwb hs0 (fun hc => by rw [if_pos hc] at hs; exact hs) (fun hc => by rw [if_neg hc] at hs; simpa only [Option.some.injEq, Prod.mk.injEq] using hs) hl ht).mono ?_
          have hR := Option.some.inj h
          dsimp only at hR
          rw [hR]
          exact fun e w' he => he
        · rw [if_neg hl] at h
          cases h
      · rw [if_neg h2] at h
        cases h
  · rw [if_pos he] at h
    simp only [Option.some.injEq, Prod.mk.injEq] at h
    obtain ⟨rfl, rfl, rfl, rfl, rfl, rfl⟩ := h
    refine (atom_err op nm md A3 c3 l3 A4 c4 l4 ev w hr3 hc3 hr4 hc4 hck he).mono ?_
    rintro e w' ⟨rfl, hb⟩
    exact ⟨_, _, rfl, Kd.R_nil _ _ _ _ _, Kd.R_nil _ _ _ _ _, hb⟩
end Go.Proofs.Ytjknpmibdkoklaa.Q
set_option maxRecDepth 100000
namespace Go.Proofs.Ytjknpmibdkoklaa.Q
open Go.RowKit Go.Proofs.YtjknpmibdkoklaaW.PrintWords Go.Proofs.YtjknpmibdkoklaaW.PrintLast Go.Proofs.YtjknpmibdkoklaaW.PrintMore
abbrev Nm := Int × List ByteArray × List Int × Int × Int × Int
def errN (e : Int) : Nm := (0, [], [], 0, 0, e)
abbrev subS (a b : Sm) : Sm := bothS (fun x y => x - y) a b
def bndS (op md k : Int) : Int := if op = 15 then (-k) % md else if op = 10 ∨ op = 12 then -k - 1 else -k
def cofS (op md : Int) (cs : List Int) : List Int := if op = 15 then cs.map (fun c => c % md) else cs
def okS (op md : Int) (s : Sm) : Bool := in64B (-s.2.2.1) && ((if op = 10 ∨ op = 12 then in64B (-s.2.2.1 - 1) else true) && in64B (total ([bndS op md s.2.2.1] ++ cofS op md s.2.1)))
def lastA (op md : Int) (s : Sm) : Nm := if s.2.2.2 ≠ 0 then errN s.2.2.2 else if okS op md s = true then (atomK op, s.1, cofS op md s.2.1, bndS op md s.2.2.1, md, 0) else errN 91
def atomS (op md : Int) (a b : Sm) : Nm := if a.2.2.2 ≠ 0 then errN a.2.2.2 else if b.2.2.2 ≠ 0 then errN b.2.2.2 else lastA op md (if op = 11 ∨ op = 12 then subS b a else subS a b)
def atomA (t : S39) : Nm :=
  if (measF t 1 (0, 0, 0)).2.2 ≠ 0 then errN (measF t 1 (0, 0, 0)).2.2 else if t.f0 < 9 then errN 3 else atomS t.f0 t.f2 (sumT (rd_T66 t.f3 0)) (sumT (rd_T66 t.f3 1))
theorem FitF.mod {t : S39} (h : FitF t) : In64 t.f2 := by cases h with | mk h0 h1 h2 h3 h4 hT h => exact h2
theorem FitF.terms {t : S39} (h : FitF t) : ∀ u ∈ t.f3, FitT u := by cases h with | mk h0 h1 h2 h3 h4 hT h => exact hT
theorem atom_parts {t : S39} (hf : FitF t) (hm : (measF t 1 (0, 0, 0)).2.2 = 0) (h9 : ¬ t.f0 < 9) :
    t.f0 ≤ 15 ∧ (if t.f0 = 15 then 1 ≤ t.f2 else t.f2 = 0) ∧ ∃ u v, t.f3 = [u, v] ∧ RightT u ∧ RightT v ∧ FitT u ∧ FitT v ∧ cntT u + cntT v ≤ 500 := by
  obtain ⟨hr, _, hc⟩ := measF_right t 1 (0, 0, 0) kq2 kq2 hm
  obtain ⟨ho, hs, _⟩ := RightF_eq hr
  rw [okF_val] at ho
  split at ho
  · cases ho
  · rename_i h15
    unfold shapeF at ho
    simp only [Bool.and_eq_true, decide_eq_true_eq, Bool.not_eq_true'] at ho
    obtain ⟨⟨hb, _⟩, hl⟩ := ho
    rw [if_pos kq1] at hl
    have hl2 : t.f3.length = 2 := by omega
    unfold badF at hb
    rw [Bool.or_eq_false_iff] at hb
    have hmod : if t.f0 = 15 then 1 ≤ t.f2 else t.f2 = 0 := by
      have := hb.2
      by_cases h : t.f0 = 15
      · rw [if_pos h] at this ⊢
        have := of_decide_eq_false this
        omega
      · rw [if_neg h] at this ⊢
        simpa using this
    have hcnt : cntF t = 1 + (cntTs t.f3 + cntFs t.f4) := by cases t; rw [cntF]
    match hl3 : t.f3, hl2 with
    | [u, v], _ =>
      rw [hl3] at hs hcnt
      simp only [cntTs] at hcnt
      simp only [RightTs] at hs
      exact ⟨kq1, hmod, u, v, rfl, hs.1, hs.2.1, hf.terms u (by rw [hl3]; exact .head _), hf.terms v (by rw [hl3]; exact .tail _ (.head _)), by simp at hc; omega⟩
theorem negP_fit {a : Int} (ha : In64 a) : negP a = fit (-a) := by unfold negP; rw [neg_spec ha]; rfl
theorem restP_mod {c m : Int} (hm : In64 m) (h : 1 ≤ m) : restP c m = (c % m, 0) := by unfold restP; rw [rest_spec hm h]; rfl
theorem rest_in {c m : Int} (hm : In64 m) (h : 1 ≤ m) : In64 (c % m) := by
  have := Int.emod_nonneg c (show m ≠ 0 by omega)
  have := Int.emod_lt_of_pos c (show 0 < m by omega)
  obtain ⟨_, _⟩ := hm
  exact ⟨kq1, kq1⟩
theorem one_in64 : In64 1 := ⟨kq2, kq2⟩
theorem fit_val {c : Int} (h : in64B c = true) : (fit c).1 = c := by rw [fit_of, if_pos h]
theorem last_n {op md : Int} {s : Sm} {n : Nat} (hw : Raw s n) (hn : n ≤ 1000) (hm : In64 md) (h15 : op = 15 → 1 ≤ md) : ∃ te : Int, Ev (fun k => (chk_Total.f k ([atomB op md s.2.2.1] ++ atomC op md s.2.1)).bind fun t => some t.2) te ∧
    atomR op md s.1 s.2.1 s.2.2.1 s.2.2.2 te = (if s.2.2.2 ≠ 0 then errN s.2.2.2 else lastA op md s) := by
  have hneg := negP_fit hw.const
  have hb : In64 (atomB op md s.2.2.1) := by
    unfold atomB
    split
    · rw [subP_fit (by rw [hneg]; exact fit_in64 _) one_in64]; exact fit_in64 _
    · split
      · rename_i h; rw [restP_mod hm (h15 h)]; exact rest_in hm (h15 h)
      · rw [hneg]; exact fit_in64 _
  have hc : ∀ c ∈ atomC op md s.2.1, In64 c := by
    unfold atomC
    split
    · rename_i h
      intro c hc
      obtain ⟨x, _, rfl⟩ := List.mem_map.1 hc
      rw [restP_mod hm (h15 h)]
      exact rest_in hm (h15 h)
    · exact hw.ints
  have hlen : ([atomB op md s.2.2.1] ++ atomC op md s.2.1).length = s.2.1.length + 1 := by simp [atomC_length]
  have ht := total_spec (l := [atomB op md s.2.2.1] ++ atomC op md s.2.1) (fun c h => (List.mem_append.1 h).elim (fun h => by rw [List.mem_singleton.1 h]; exact hb) (hc c)) (by have := hw.few; omega)
  refine ⟨_, Ev.bind ht (Ev.now _), ?_⟩
  by_cases h0 : s.2.2.2 = 0
  · have e1 : (if s.2.2.2 ≠ 0 then errN s.2.2.2 else lastA op md s) = if okS op md s = true then (atomK op, s.1, cofS op md s.2.1, bndS op md s.2.2.1, md, 0) else errN 91 := by
      rw [if_neg (fun h => h h0)]
      unfold lastA
      rw [if_neg (fun h => h h0)]
    rw [e1]
    unfold atomR
    rw [h0]

    have hC : atomC op md s.2.1 = cofS op md s.2.1 := by
      unfold atomC cofS
      by_cases h : op = 15
      · rw [if_pos h, if_pos h]
        exact List.map_congr_left fun c _ => by rw [restP_mod hm (h15 h)]
      · rw [if_neg h, if_neg h]
    have hE : atomE op s.2.2.1 0 = if (in64B (-s.2.2.1) && (if op = 10 ∨ op = 12 then in64B (-s.2.2.1 - 1) else true)) = true then 0 else 91 := by
      unfold atomE
      rw [hneg]
      by_cases h : op = 10 ∨ op = 12
      · rw [if_pos h, if_pos h, subP_fit (fit_in64 _) one_in64, coeff_fit, coeff_fit]
        by_cases h1 : in64B (-s.2.2.1) = true
        · rw [fit_val h1, h1]
          simp
        · simp [h1]
      · rw [if_neg h, if_neg h, coeff_fit]
        by_cases h1 : in64B (-s.2.2.1) = true <;> simp [h1]
    by_cases hok : (in64B (-s.2.2.1) && (if op = 10 ∨ op = 12 then in64B (-s.2.2.1 - 1) else true)) = true
    · rw [if_pos hok] at hE
      have h1 : in64B (-s.2.2.1) = true := by
        rw [Bool.and_eq_true] at hok; exact hok.1
      have hB : atomB op md s.2.2.1 = bndS op md s.2.2.1 := by
        unfold atomB bndS
        rw [hneg, fit_val h1]
        by_cases h : op = 10 ∨ op = 12
        · rw [if_pos h, if_neg (show ¬ op = 15 by omega), if_pos h, subP_fit (in64B_in h1) one_in64]
          have : in64B (-s.2.2.1 - 1) = true := by rw [Bool.and_eq_true, if_pos h] at hok; exact hok.2
          exact fit_val this
        · rw [if_neg h]
          by_cases h' : op = 15
          · rw [if_pos h', if_pos h', restP_mod hm (h15 h')]
          · rw [if_neg h', if_neg h', if_neg h]
      rw [hE, hB, hC, coeff_fit]
      have hokS : okS op md s = in64B (total ([bndS op md s.2.2.1] ++ cofS op md s.2.1)) := by
        unfold okS
        rw [← Bool.and_assoc, hok, Bool.true_and]
      rw [hokS]
      by_cases h2 : in64B (total ([bndS op md s.2.2.1] ++ cofS op md s.2.1)) = true
      · rw [if_pos h2, if_pos h2, if_pos rfl]
      · rw [if_neg h2, if_neg h2, if_pos rfl, if_neg (show ¬ (91 : Int) = 0 by decide)]
        rfl
    · rw [if_neg hok] at hE
      have hokS : okS op md s = false := by
        unfold okS
        rw [← Bool.and_assoc, Bool.eq_false_iff.2 hok, Bool.false_and]
      have h91 : coeffE 91 (fit (total ([atomB op md s.2.2.1] ++ atomC op md s.2.1))).2 = 91 := by
        rw [coeff_fit]
        by_cases h : in64B (total ([atomB op md s.2.2.1] ++ atomC op md s.2.1)) = true <;> simp [h]
      rw [hE, h91, if_neg (show ¬ (91 : Int) = 0 by decide), hokS, if_neg kq2]
      rfl
  · rw [if_pos h0]
    unfold atomR
    have keep : ∀ e : Int, coeffE s.2.2.2 e = s.2.2.2 := fun e => by unfold coeffE; by_cases h : e = 0 <;> simp [h, h0]
    have hE : atomE op s.2.2.1 s.2.2.2 = s.2.2.2 := by
      unfold atomE
      split
      · rw [keep, keep]
      · rw [keep]
    rw [hE, keep, if_neg h0]
    rfl
theorem last_nrm (op md : Int) (s : Sm) : (if s.2.2.2 ≠ 0 then errN s.2.2.2 else lastA op md s) = lastA op md (nrm s) := by
  unfold nrm
  by_cases h : s.2.2.2 = 0
  · rw [if_neg (fun k => k h), if_pos h]
  · rw [if_pos h, if_neg h]
    unfold lastA
    rw [if_pos h]
theorem fin_n {op md : Int} {s : Sm} {n : Nat} (hw : Raw s n) (hn : n ≤ 1000) (hm : In64 md) (h15 : op = 15 → 1 ≤ md) :
    Ev (fun k => if s.2.1.length ≤ 1000000 then ((chk_Total.f k ([atomB op md s.2.2.1] ++ atomC op md s.2.1)).bind fun t => some (atomR op md s.1 s.2.1 s.2.2.1 s.2.2.2 t.2)) else none) (lastA op md (nrm s)) := by
  obtain ⟨te, hte, hr⟩ := last_n hw hn hm h15
  have := hw.few
  refine Ev.congr (fun k => if_pos kq1) ?_
  rw [← last_nrm, ← hr]
  obtain ⟨K, hK⟩ := hte
  refine ⟨K, fun k hk => ?_⟩
  obtain ⟨t, h1, h2⟩ := Option.bind_eq_some_iff.1 (hK k hk)
  dsimp only
  rw [h1, Option.bind_some, Option.some.inj h2]
theorem Check_at (t : S39) : tree_Check.f t.f0 t.f1 t.f2 t.f3 t.f4 = some (measF t 1 (0, 0, 0)).2.2 := by
  unfold tree_Check.f tree_measured.f
  rw [eta39]
  rfl
theorem Atom_ev {t : S39} (hf : FitF t) : Ev (fun k => norm_Atom.f k t.f0 t.f1 t.f2 t.f3 t.f4) (atomA t) := by
  unfold norm_Atom.f atomA
  rw [Check_at]
  refine Ev.congr (fun k => Option.bind_some _ _) ?_
  by_cases hm : (measF t 1 (0, 0, 0)).2.2 = 0
  · rw [if_neg (fun h => h hm)]
    refine Ev.congr (fun k => if_neg (fun h => h hm)) ?_
    by_cases h9 : t.f0 < 9
    · rw [if_pos h9]
      exact Ev.congr (fun k => if_pos h9) (Ev.now _)
    · rw [if_neg h9]
      refine Ev.congr (fun k => if_neg h9) ?_
      obtain ⟨_, hmd, u, v, hl, ru, rv, fu, fv, hc⟩ := atom_parts hf hm h9
      have h15 : t.f0 = 15 → 1 ≤ t.f2 := fun h => by rwa [if_pos h] at hmd
      rw [hl, rd_two0, rd_two1]
      refine Ev.congr (fun k => if_pos (by simp)) ?_
      have wu := sumT_wf 500 u ru fu kq1
      have wv := sumT_wf 500 v rv fv kq1
      obtain ⟨a, ea, na, ra⟩ := worked_ev 500 u ru fu kq1 kq2
      obtain ⟨b, eb, nb, rb⟩ := worked_ev 500 v rv fv kq1 kq2
      refine Ev.bind ea (Ev.bind eb ?_)
      unfold atomS
      by_cases ha : (sumT u).2.2.2 = 0
      · obtain ⟨_, e1⟩ := wf_of na ha wu
        subst e1
        rw [if_neg (fun h => h ha)]
        by_cases hb : (sumT v).2.2.2 = 0
        · obtain ⟨_, e2⟩ := wf_of nb hb wv
          subst e2
          rw [if_neg (fun h => h hb)]
          obtain ⟨s0, e0, n0, r0⟩ := both_sub wu wv kq1 kq1 ha hb
          obtain ⟨s1, e1, n1, r1⟩ := both_sub wv wu kq1 kq1 hb ha
          unfold subS
          by_cases ho : t.f0 = 11 ∨ t.f0 = 12
          · rw [if_pos ho, ← n1]
            exact Ev.congr (fun k => by rw [e0, Option.bind_some, if_pos ⟨ha, hb, ho⟩, e1, Option.bind_some]) (fin_n r1 kq1 hf.mod h15)
          · rw [if_neg ho, ← n0]
            exact Ev.congr (fun k => by rw [e0, Option.bind_some, if_neg (fun h => ho h.2.2), Option.bind_some]) (fin_n r0 kq1 hf.mod h15)
        · have hb' := nrm_bad nb hb
          rw [if_pos hb]
          have := fin_n (op := t.f0) rb kq1 hf.mod h15
          rw [nb] at this
          unfold lastA at this
          rw [if_pos hb] at this
          exact Ev.congr (fun k => by rw [both_b 1 ha hb', Option.bind_some, if_neg (fun h => hb' h.2.1), Option.bind_some]) this
      · have ha' := nrm_bad na ha
        rw [if_pos ha]
        have := fin_n (op := t.f0) ra kq1 hf.mod h15
        rw [na] at this
        unfold lastA at this
        rw [if_pos ha] at this
        exact Ev.congr (fun k => by rw [both_a 1 ha', Option.bind_some, if_neg (fun h => ha' h.1), Option.bind_some]) this
  · rw [if_pos hm]
    exact Ev.congr (fun k => if_pos hm) (Ev.now _)
end Go.Proofs.Ytjknpmibdkoklaa.Q
namespace Go.Proofs.Ytjknpmibdkoklaa.Q
open Go.RowKit Go.Proofs.YtjknpmibdkoklaaW.PrintWords Go.Proofs.YtjknpmibdkoklaaW.PrintLast Go.Proofs.YtjknpmibdkoklaaW.PrintMore
open Aside0 (mk)
open List (setIfInBounds_toArray set_cons_zero set_cons_succ)
attribute [local go_sem] max2_int min2_int max_two min_two max_three min_three max_four min_four
set_option linter.unusedVariables false
set_option linter.unusedSimpArgs false
attribute [local go_sem] fld99_2 fld103_2 fld160_0 fld160_1
def tabardlaw09_fixed.f (k : Nat)  : Option (Bool) := (norm_Atom.f k 12 (⟨#[]⟩ : ByteArray) 0 (([(⟨1, 0, (⟨#[120]⟩ : ByteArray), ([] : List (S66))⟩ : S66), (⟨0, 1, (⟨#[]⟩ : ByteArray), ([] : List (S66))⟩ : S66)] : List (S66))) ([] : List (S39))).bind fun bt780 => (if bt780.2.2.2.2.2 = 0 then (if bt780.1 = 0 then ((tabardlaw09_same.f k bt780.2.1 (([(⟨#[120]⟩ : ByteArray)] : List ByteArray))).bind fun t794 => (if t794 = true then ((tabardlaw09_numbers.f k bt780.2.2.1 (([(-1)] : List Int))).bind fun t798 => (if t798 = true then (if bt780.2.2.2.1 = (-2) then (some true) else (some false)) else (some false))) else (some false))) else (some false)) else (some false))
theorem tabardlaw09_fixed.mono : ∀ k, LeO (tabardlaw09_fixed.f k ) (tabardlaw09_fixed.f (k + 1) ) := by
  intro  k
  unfold tabardlaw09_fixed.f
  repeat' first
      | (with_reducible exact norm_Atom.mono _ _ _ _ _ _)
      | (with_reducible exact tabardlaw09_numbers.mono _ _ _)
      | (with_reducible exact tabardlaw09_same.mono _ _ _)
      | (with_reducible exact LeO.refl _)
      | (with_reducible exact LeO.none _)
      | (with_reducible refine LeO.ite ?_ ?_)
      | (with_reducible refine LeO.bind ?_ (fun _ => ?_))
      | exact norm_Atom.mono _ _ _ _ _ _
      | exact tabardlaw09_numbers.mono _ _ _
      | exact tabardlaw09_same.mono _ _ _
      | exact LeO.none _
      | refine LeO.ite ?_ ?_
      | refine LeO.bind ?_ (fun _ => ?_)
theorem tabardlaw09_fixed.only {k : Nat} {r : Bool} (h : tabardlaw09_fixed.f k = some r) : r = true := by
  obtain ⟨K, hK⟩ := Ev.of (fun k => tabardlaw09_fixed.mono k) h
  obtain ⟨K2, hK2⟩ := Ev.of (g := fun k => tabardlaw09_fixed.f k) (fun k => tabardlaw09_fixed.mono k) (show tabardlaw09_fixed.f 20 = some true by decide +kernel)
  exact Option.some.inj ((hK (K + K2) kq1).symm.trans (hK2 (K + K2) kq1))
set_option maxHeartbeats 8000000 in
set_option maxRecDepth 100000 in
theorem tabardlaw09_fixed.calls (k : Nat)  (r : Bool) (w : World) (h : tabardlaw09_fixed.f k  = some r) :
    Calls Try.prog 43 #[] w fun e w' => e = .returned (.bool r) ∧ Below w.heap.size w w' := by
  have HRt_ := mk (tabardlaw09_fixed.only h)
  have hu66 := Try.underlying66
  have hu39 := Try.underlying39
  have hu58 := Try.underlying58
  have HB := mk (Below.refl w.heap.size w)
  have H : ((norm_Atom.f k 12 (⟨#[]⟩ : ByteArray) 0 (([(⟨1, 0, (⟨#[120]⟩ : ByteArray), ([] : List (S66))⟩ : S66), (⟨0, 1, (⟨#[]⟩ : ByteArray), ([] : List (S66))⟩ : S66)] : List (S66))) ([] : List (S39))).bind fun bt780 => (if bt780.2.2.2.2.2 = 0 then (if bt780.1 = 0 then ((tabardlaw09_same.f k bt780.2.1 (([(⟨#[120]⟩ : ByteArray)] : List ByteArray))).bind fun t794 => (if t794 = true then ((tabardlaw09_numbers.f k bt780.2.2.1 (([(-1)] : List Int))).bind fun t798 => (if t798 = true then (if bt780.2.2.2.1 = (-2) then (some true) else (some false)) else (some false))) else (some false))) else (some false)) else (some false))) = some r := h
  clear h
  obtain ⟨y777, hy777⟩ : ∃ y_ : List (S66), y_ = (([(⟨1, 0, (⟨#[120]⟩ : ByteArray), ([] : List (S66))⟩ : S66), (⟨0, 1, (⟨#[]⟩ : ByteArray), ([] : List (S66))⟩ : S66)] : List (S66))) := ⟨_, rfl⟩
  replace H : ((norm_Atom.f k 12 (⟨#[]⟩ : ByteArray) 0 y777 ([] : List (S39))).bind fun bt780 => (if bt780.2.2.2.2.2 = 0 then (if bt780.1 = 0 then ((tabardlaw09_same.f k bt780.2.1 (([(⟨#[120]⟩ : ByteArray)] : List ByteArray))).bind fun t794 => (if t794 = true then ((tabardlaw09_numbers.f k bt780.2.2.1 (([(-1)] : List Int))).bind fun t798 => (if t798 = true then (if bt780.2.2.2.1 = (-2) then (some true) else (some false)) else (some false))) else (some false))) else (some false)) else (some false))) = some r := by first | (rw [hy777]; with_reducible exact H) | (have H2_ := (Option.bind_some _ _).symm.trans H; rw [hy777]; with_reducible exact H2_) | (have H2_ := (Option.bind_some _ _).symm.trans H; with_reducible exact H2_) | with_reducible exact H | (rw [hy777]; exact H) | exact H
  have Ny777 := mk hy777
  clear hy777
  replace H := Option.bind_eq_some_iff.mp H
  obtain ⟨⟨t780, t781, t784, t787, t788, t789⟩, A10, H⟩ := H
  replace H : (if t789 = 0 then (if t780 = 0 then ((tabardlaw09_same.f k t781 (([(⟨#[120]⟩ : ByteArray)] : List ByteArray))).bind fun t794 => (if t794 = true then ((tabardlaw09_numbers.f k t784 (([(-1)] : List Int))).bind fun t798 => (if t798 = true then (if t787 = (-2) then (some true) else (some false)) else (some false))) else (some false))) else (some false)) else (some false)) = some r := H
  have A1 := mk A10
  clear A10
  by_cases c2 : t789 = 0
  · rw [if_pos c2] at H
    have c2b0 := eT_ c2
    have c2b1 := nF_ c2
    clear c2
    replace H := ic_ H; obtain ⟨c3, H⟩ | ⟨c3, H⟩ := H
    · (obtain ⟨c3b0, c3b1⟩ := eTn_ c3); clear c3; (obtain ⟨y791, hy791⟩ : ∃ y_ : List ByteArray, y_ = (([(⟨#[120]⟩ : ByteArray)] : List ByteArray)) := ⟨_, rfl⟩); (replace H : ((tabardlaw09_same.f k t781 y791).bind fun t794 => (if t794 = true then ((tabardlaw09_numbers.f k t784 (([(-1)] : List Int))).bind fun t798 => (if t798 = true then (if t787 = (-2) then (some true) else (some false)) else (some false))) else (some false))) = some r := by first | (rw [hy791]; with_reducible exact H) | (have H2_ := (Option.bind_some _ _).symm.trans H; rw [hy791]; with_reducible exact H2_) | (have H2_ := (Option.bind_some _ _).symm.trans H; with_reducible exact H2_) | with_reducible exact H | (rw [hy791]; exact H) | exact H); (have Ny791 := mk hy791); clear hy791; (replace H := Option.bind_eq_some_iff.mp H); (obtain ⟨t794, A40, H⟩ := H); (replace H : (if t794 = true then ((tabardlaw09_numbers.f k t784 (([(-1)] : List Int))).bind fun t798 => (if t798 = true then (if t787 = (-2) then (some true) else (some false)) else (some false))) else (some false)) = some r := H); (have A4 := mk A40); clear A40; (by_cases c5 : t794 = true)
      · subst c5; (have H1 : ((tabardlaw09_numbers.f k t784 (([(-1)] : List Int))).bind fun t798 => (if t798 = true then (if t787 = (-2) then (some true) else (some false)) else (some false))) = some r := by rw [if_pos rfl] at H; exact H); clear H; (have H := H1); clear H1; (obtain ⟨y795, hy795⟩ : ∃ y_ : List Int, y_ = (([(-1)] : List Int)) := ⟨_, rfl⟩); (replace H : ((tabardlaw09_numbers.f k t784 y795).bind fun t798 => (if t798 = true then (if t787 = (-2) then (some true) else (some false)) else (some false))) = some r := by first | (rw [hy795]; with_reducible exact H) | (have H2_ := (Option.bind_some _ _).symm.trans H; rw [hy795]; with_reducible exact H2_) | (have H2_ := (Option.bind_some _ _).symm.trans H; with_reducible exact H2_) | with_reducible exact H | (rw [hy795]; exact H) | exact H); (have Ny795 := mk hy795); clear hy795; (replace H := Option.bind_eq_some_iff.mp H); (obtain ⟨t798, A60, H⟩ := H); (replace H : (if t798 = true then (if t787 = (-2) then (some true) else (some false)) else (some false)) = some r := H); (have A6 := mk A60); clear A60; (by_cases c7 : t798 = true)
        · subst c7; (have H1 : (if t787 = (-2) then (some true) else (some false)) = some r := by rw [if_pos rfl] at H; exact H); clear H; (have H := H1); clear H1; replace H := ic_ H; obtain ⟨c8, H⟩ | ⟨c8, H⟩ := H
          · (obtain ⟨c8b0, c8b1⟩ := eTn_ c8); clear c8; (obtain rfl := Option.some.inj H); (go_enter Try.func43, Try.ntmps43); (go_wp2_with (first | ((with_reducible refine gate_dst (N := 1) rfl ?_); (try (refine gate_guard (by rfl) ?_; dsimp only)); refine box_event ?hg (N := 1) ?hd (cs := #[.int .i64 0, .int .i64 0, .string (⟨#[]⟩ : ByteArray), .slice none 0 0]) (t := 66) ?hr ?_; (case hd => rfl); (case hg => rfl); (case hr => exact kq11); intro gb776 hg w9 hbox hb; have BK776 := mk (hbox); have GW776 := (gs_ hg kq9); have GE776 := GW776; replace HB := mk (below_step kq9 hb); clear hb hbox hg; obtain ⟨_, _, _, _, _, _, _, _⟩ := cz4_ BK776.out) | ((with_reducible refine gate_dst (N := 8) rfl ?_); (try (refine gate_guard (by rfl) ?_; dsimp only)); refine Kd.R_lit k66 _ 66 ?hg (N := 8) ?hd (xs := ([(⟨1, 0, (⟨#[120]⟩ : ByteArray), ([] : List (S66))⟩ : S66), (⟨0, 1, (⟨#[]⟩ : ByteArray), ([] : List (S66))⟩ : S66)] : List (S66))) (inner := [.int .i64 1, .int .i64 0, .string (⟨#[120]⟩ : ByteArray), .slice none 0 0, .int .i64 0, .int .i64 1, .string (⟨#[]⟩ : ByteArray), .slice none 0 0]) (ok := fun _ => True) (okp := fun _ => True) ?hr ?hp (fun _ hk => hk) trivial (Below.refl _ _) (Nat.le_refl _) (by simp) ?_; (case hd => rfl); (case hg => rfl); (case hr => exact kq11); (case hp => exact (Reps.c4 (show Kd.M k66 _ _ _ (⟨1, 0, (⟨#[120]⟩ : ByteArray), ([] : List (S66))⟩ : S66) [.int .i64 1, .int .i64 0, .string (⟨#[120]⟩ : ByteArray), .slice none 0 0] from (k66_mkM _ _ _ (⟨1, 0, (⟨#[120]⟩ : ByteArray), ([] : List (S66))⟩ : S66) (Kd.R_nil _ _ _ _ _))) (Reps.c4 (show Kd.M k66 _ _ _ (⟨0, 1, (⟨#[]⟩ : ByteArray), ([] : List (S66))⟩ : S66) [.int .i64 0, .int .i64 1, .string (⟨#[]⟩ : ByteArray), .slice none 0 0] from (k66_mkM _ _ _ (⟨0, 1, (⟨#[]⟩ : ByteArray), ([] : List (S66))⟩ : S66) (Kd.R_nil _ _ _ _ _))) (Reps.none _ _)))); intro v778 w11 ho12 hb hg_ hnew_; clear hg_ hnew_; (first | rw [← Ny777.out] at ho12 | (simp only [Int.reduceToNat] at ho12; rw [← Ny777.out] at ho12)); have HO779 := mk (Kd.R_lower (Kd.R_newB ho12 (g := gb776) (o := .cells #[.int .i64 1, .int .i64 0, .string (⟨#[120]⟩ : ByteArray), .slice none 0 0] 66 (0, 0)) (kq89 BK776)) (below_size (kq10 GE776))); replace BK776 := mk (blk_below (g := gb776) (o := .cells #[.int .i64 1, .int .i64 0, .string (⟨#[120]⟩ : ByteArray), .slice none 0 0] 66 (0, 0)) (kq89 BK776) hb); replace HB := mk (below_step (kq10 GE776) hb); clear hb ho12; obtain ⟨Ao13, co13, eo13⟩ := Kd.R_slice HO779.out; subst eo13) | ((with_reducible refine gate_callee (f := 44) rfl ?_); refine goesL_ (some 10) rfl rfl Try.func44 kq0 rfl #[.agg #[.int .i64 12, .string (⟨#[]⟩ : ByteArray), .int .i64 0, .slice Ao13 y777.length co13, .slice none 0 0]] rfl kq7 ?_; (refine (norm_Atom.calls k 12 (⟨#[]⟩ : ByteArray) 0 _ _ y777 _ _ ([] : List (S39)) t780 t781 t784 t787 t788 t789 _ ?side1 ?side2 ?side3 ?side4 A1.out).mono ?_); (case side1 => exact kq92 HO779); (case side2 => exact (Kd.R_reads' HO779.out).2.1); (case side3 => exact Kd.C_nil _ _); (case side4 => exact Nat.le_refl _); rintro e w14 ⟨v782, v785, rfl, ho0, ho1, hb⟩; refine ⟨_, rfl, ?_⟩; have HO783 := mk (Kd.R_lower ho0 (below_size (kq10 GE776))); have HO786 := mk (Kd.R_lower ho1 (below_size (kq10 GE776))); replace HO779 := mk (Kd.R_below (kq17 HO779) hb); replace BK776 := (bb_ BK776 hb); replace HB := mk (below_step (kq10 GE776) hb)) | ((with_reducible refine gate_dst (N := 2) rfl ?_); (try (refine gate_guard (by rfl) ?_; dsimp only)); refine box_event ?hg (N := 2) ?hd (cs := #[.int .i64 0, .slice none 0 0, .slice none 0 0, .int .i64 0, .int .i64 0]) (t := 58) ?hr ?_; (case hd => rfl); (case hg => rfl); (case hr => exact kq11); intro gb790 hg w15 hbox hb; have BK790 := mk (hbox); have GW790 := (gs_ hg (kq10 GE776)); have GE790 := GW790; have NB776_790 := (nl_ hg BK776); have NB790_776 := (ng_ hg BK776); replace HO779 := mk (Kd.R_below (kq17 HO779) hb); replace HO783 := mk (Kd.R_below (kq17 HO783) hb); replace HO786 := mk (Kd.R_below (kq17 HO786) hb); replace BK776 := (bb_ BK776 hb); replace HB := mk (below_step (kq10 GE776) hb); clear hb hbox hg; have hnb16 := NB790_776.out; have hnc16 := NB776_790.out; obtain ⟨_, _, _, _, _, _, _, _, _, _⟩ := cz5_ BK790.out; obtain ⟨Ao18, co18, eo18⟩ := Kd.R_slice HO783.out; subst eo18; obtain ⟨Ao19, co19, eo19⟩ := Kd.R_slice HO786.out; subst eo19) | ((with_reducible refine gate_dst (N := 23) rfl ?_); (try (refine gate_guard (by rfl) ?_; dsimp only)); refine Kd.R_lit Kd.string _ 9 ?hg (N := 23) ?hd (xs := ([(⟨#[120]⟩ : ByteArray)] : List ByteArray)) (inner := [.string (⟨#[120]⟩ : ByteArray)]) (ok := fun _ => True) (okp := fun _ => True) ?hr ?hp (fun _ hk => hk) trivial (Below.refl _ _) (Nat.le_refl _) (by simp) ?_; (case hd => rfl); (case hg => rfl); (case hr => exact kq11); (case hp => exact (Reps.one (show Kd.M Kd.string _ _ _ (⟨#[120]⟩ : ByteArray) [.string (⟨#[120]⟩ : ByteArray)] from rfl) (Reps.none _ _))); intro v792 w20 ho21 hb hg_ hnew_; clear hg_ hnew_; (first | rw [← Ny791.out] at ho21 | (simp only [Int.reduceToNat] at ho21; rw [← Ny791.out] at ho21)); have HO793 := mk (Kd.R_lower (Kd.R_new' ho21 (Kd.R_lt (kq90 HO783 BK790))) (below_size (kq45 GE776 GE790))); replace HO779 := mk (Kd.R_below (kq90 HO779 BK790) hb); replace HO783 := mk (Kd.R_elder' (kq90 HO783 BK790) (Kd.R_base ho21) hb); replace HO786 := mk (Kd.R_below (kq90 HO786 BK790) hb); replace BK776 := mk (blk_below (g := gb776) (o := .cells #[.int .i64 1, .int .i64 0, .string (⟨#[120]⟩ : ByteArray), .slice none 0 0] 66 (0, 0)) (kq91 NB776_790 BK776) hb); replace BK790 := mk (blk_below (g := gb790) (o := .cells #[.int .i64 t780, .slice Ao18 t781.length co18, .slice Ao19 t784.length co19, .int .i64 t787, .int .i64 t788] 58 (0, 0)) (by (with_reducible repeat (first | refine blk_drewN ?_ _ | refine blk_drew ?_ | refine blk_alloc ?_ _)); refine blk_put (cs := #[.int .i64 t780, .slice Ao18 t781.length co18, .slice Ao19 t784.length co19, .int .i64 t787, .int .i64 0]) ?_ 4 _ rfl; (with_reducible repeat (first | refine blk_drewN ?_ _ | refine blk_drew ?_ | refine blk_alloc ?_ _)); refine blk_put (cs := #[.int .i64 t780, .slice Ao18 t781.length co18, .slice Ao19 t784.length co19, .int .i64 0, .int .i64 0]) ?_ 3 _ rfl; (with_reducible repeat (first | refine blk_drewN ?_ _ | refine blk_drew ?_ | refine blk_alloc ?_ _)); refine blk_put (cs := #[.int .i64 t780, .slice Ao18 t781.length co18, .slice none 0 0, .int .i64 0, .int .i64 0]) ?_ 2 _ rfl; (with_reducible repeat (first | refine blk_drewN ?_ _ | refine blk_drew ?_ | refine blk_alloc ?_ _)); refine blk_put (cs := #[.int .i64 t780, .slice none 0 0, .slice none 0 0, .int .i64 0, .int .i64 0]) ?_ 1 _ rfl; (with_reducible repeat (first | refine blk_drewN ?_ _ | refine blk_drew ?_ | refine blk_alloc ?_ _)); refine blk_put (cs := #[.int .i64 0, .slice none 0 0, .slice none 0 0, .int .i64 0, .int .i64 0]) ?_ 0 _ rfl; (with_reducible repeat (first | refine blk_drewN ?_ _ | refine blk_drew ?_ | refine blk_alloc ?_ _)); exact BK790.out) hb); replace HB := mk (below_step (kq45 GE776 GE790) hb); clear hb ho21; obtain ⟨Ao22, co22, eo22⟩ := Kd.R_slice HO793.out; subst eo22) | (go_at_call 51; (with_reducible refine (tabardlaw09_same.calls k _ _ t781 _ _ y791 true _ ?side1 ?side2 ?side3 ?side4 A4.out).mono ?_); (case side1 => exact kq92 HO783); (case side2 => exact (Kd.R_reads' HO783.out).2.1); (case side3 => exact kq92 HO793); (case side4 => exact (Kd.R_reads' HO793.out).2.1); rintro e w' ⟨rfl, ⟨nd, rfl⟩⟩; obtain ⟨_, _, _, _, _, _, _, _, _, _⟩ := cz5_ BK790.out) | ((with_reducible refine gate_dst (N := 29) rfl ?_); (try (refine gate_guard (by rfl) ?_; dsimp only)); refine Kd.R_lit (Kd.int .i64) _ 2 ?hg (N := 29) ?hd (xs := ([(-1)] : List Int)) (inner := [.int .i64 (-1)]) (ok := fun _ => True) (okp := fun _ => True) ?hr ?hp (fun _ hk => hk) trivial (Below.refl _ _) (Nat.le_refl _) (by simp) ?_; (case hd => rfl); (case hg => rfl); (case hr => exact kq11); (case hp => exact (Reps.one (show Kd.M (Kd.int .i64) _ _ _ (-1) [.int .i64 (-1)] from rfl) (Reps.none _ _))); intro v796 w24 ho25 hb hg_ hnew_; clear hg_ hnew_; (first | rw [← Ny795.out] at ho25 | (simp only [Int.reduceToNat] at ho25; rw [← Ny795.out] at ho25)); have HO797 := mk (Kd.R_lower (Kd.R_new' ho25 (Kd.R_lt (kq17 HO786))) (below_size (kq45 GE776 GE790))); replace HO779 := mk (Kd.R_below (kq17 HO779) hb); replace HO783 := mk (Kd.R_below (kq17 HO783) hb); replace HO786 := mk (Kd.R_elder' (kq17 HO786) (Kd.R_base ho25) hb); replace HO793 := mk (Kd.R_below (kq17 HO793) hb); replace BK776 := (bb_ BK776 hb); replace BK790 := (bb_ BK790 hb); replace HB := mk (below_step (kq45 GE776 GE790) hb); clear hb ho25; obtain ⟨Ao26, co26, eo26⟩ := Kd.R_slice HO797.out; subst eo26) | (go_at_call 52; (with_reducible refine (tabardlaw09_numbers.calls k _ _ t784 _ _ y795 true _ ?side1 ?side2 ?side3 ?side4 A6.out).mono ?_); (case side1 => exact kq92 HO786); (case side2 => exact (Kd.R_reads' HO786.out).2.1); (case side3 => exact kq92 HO797); (case side4 => exact (Kd.R_reads' HO797.out).2.1); rintro e w' ⟨rfl, ⟨nd, rfl⟩⟩; obtain ⟨_, _, _, _, _, _, _, _, _, _⟩ := cz5_ BK790.out))); go_ret; (exact ⟨kq12, (kq45 GE776 GE790)⟩)
          · (obtain ⟨c8b0, c8b1⟩ := eFn_ c8); (cases (Option.some.inj H).trans HRt_.out)
        · (replace c7 := Bool.eq_false_iff.mpr c7); subst c7; (have H1 : (some false) = some r := by rw [if_neg (show ¬ (false = true) by decide)] at H; exact H); clear H; (have H := H1); clear H1; (cases (Option.some.inj H).trans HRt_.out)
      · (replace c5 := Bool.eq_false_iff.mpr c5); subst c5; (have H1 : (some false) = some r := by rw [if_neg (show ¬ (false = true) by decide)] at H; exact H); clear H; (have H := H1); clear H1; (cases (Option.some.inj H).trans HRt_.out)
    · (obtain ⟨c3b0, c3b1⟩ := eFn_ c3); (cases (Option.some.inj H).trans HRt_.out)
  · rw [if_neg c2] at H
    have c2b0 := eF_ c2
    have c2b1 := nT_ c2
    cases (Option.some.inj H).trans HRt_.out
end Go.Proofs.Ytjknpmibdkoklaa.Q
set_option maxRecDepth 100000
namespace Go.Proofs.Ytjknpmibdkoklaa.Q
open Go.RowKit Go.Proofs.YtjknpmibdkoklaaW.PrintWords Go.Proofs.YtjknpmibdkoklaaW.PrintLast Go.Proofs.YtjknpmibdkoklaaW.PrintMore
theorem fixed9_true : tabardlaw09_fixed.f 20 = some true := by decide +kernel
theorem fixed9_ev : Ev (fun k => tabardlaw09_fixed.f k) true := Ev.of (fun k => tabardlaw09_fixed.mono k) fixed9_true
theorem same9_loop (a b : List ByteArray) (hab : a.length = b.length) (hl : a.length < 4611686018427387904) : ∀ (n i : Nat), i ≤ a.length → a.length - i = n → Ev (fun k => tabardlaw09_same.l0 k a b (a.length : Int) (i : Int)) (decide (a.drop i = b.drop i))
  | 0, i, hi, hn => by
    rw [List.drop_of_length_le kq1, List.drop_of_length_le kq1]
    exact Ev.step (f := fun _ => some true) (fun k => by
      show tabardlaw09_same.l0 (k + 1) a b (a.length : Int) (i : Int) = _
      rw [tabardlaw09_same.l0, if_neg kq1]) (Ev.now _)
  | n + 1, i, hi, hn => by
    have hlt : i < a.length := by omega
    have ih := same9_loop a b hab hl n (i + 1) kq1 kq1
    have hw : wrap64 ((i : Int) + 1) = ((i + 1 : Nat) : Int) := by unfold wrap64; omega
    rw [List.drop_eq_getElem_cons hlt, List.drop_eq_getElem_cons (show i < b.length by omega)]
    by_cases h : a[i] = b[i]
    · refine Ev.step (f := fun k => tabardlaw09_same.l0 k a b (a.length : Int) ((i + 1 : Nat) : Int)) (fun k => ?_) ?_
      · show tabardlaw09_same.l0 (k + 1) a b (a.length : Int) (i : Int) = _
        rw [tabardlaw09_same.l0, if_pos kq1, if_pos kq1, if_pos kq1, if_pos kq1, rd_nat hlt, rd_nat (show i < b.length by omega), if_pos (by rw [h]), hw]
      · rw [h, show decide (b[i] :: a.drop (i + 1) = b[i] :: b.drop (i + 1)) = decide (a.drop (i + 1) = b.drop (i + 1)) from decide_eq_decide.2 ⟨fun e => (List.cons.inj e).2, fun e => by rw [e]⟩]
        exact ih
    · refine Ev.step (f := fun _ => some false) (fun k => ?_) ?_
      · show tabardlaw09_same.l0 (k + 1) a b (a.length : Int) (i : Int) = _
        rw [tabardlaw09_same.l0, if_pos kq1, if_pos kq1, if_pos kq1, if_pos kq1, rd_nat hlt, rd_nat (show i < b.length by omega), if_neg (fun e => h (bl_inj (by rw [← bl_eq, ← bl_eq, e])))]
      · rw [decide_eq_false (fun e => h (List.cons.inj e).1)]
        exact Ev.now _
theorem same9_ev (a b : List ByteArray) (hl : a.length < 4611686018427387904) : Ev (fun k => tabardlaw09_same.f k a b) (decide (a = b)) := by
  unfold tabardlaw09_same.f
  by_cases h : a.length = b.length
  · refine Ev.congr (fun k => if_pos kq1) ?_
    exact same9_loop a b h hl _ 0 (Nat.zero_le _) rfl
  · refine Ev.congr (fun k => if_neg kq1) ?_
    rw [decide_eq_false (fun e => h (by rw [e]))]
    exact Ev.now _
theorem numbers9_loop (a b : List Int) (hab : a.length = b.length) (hl : a.length < 4611686018427387904) : ∀ (n i : Nat), i ≤ a.length → a.length - i = n → Ev (fun k => tabardlaw09_numbers.l0 k a b (a.length : Int) (i : Int)) (decide (a.drop i = b.drop i))
  | 0, i, hi, hn => by
    rw [List.drop_of_length_le kq1, List.drop_of_length_le kq1]
    exact Ev.step (f := fun _ => some true) (fun k => by
      show tabardlaw09_numbers.l0 (k + 1) a b (a.length : Int) (i : Int) = _
      rw [tabardlaw09_numbers.l0, if_neg kq1]) (Ev.now _)
  | n + 1, i, hi, hn => by
    have hlt : i < a.length := by omega
    have ih := numbers9_loop a b hab hl n (i + 1) kq1 kq1
    have hw : wrap64 ((i : Int) + 1) = ((i + 1 : Nat) : Int) := by unfold wrap64; omega
    rw [List.drop_eq_getElem_cons hlt, List.drop_eq_getElem_cons (show i < b.length by omega)]
    by_cases h : a[i] = b[i]
    · refine Ev.step (f := fun k => tabardlaw09_numbers.l0 k a b (a.length : Int) ((i + 1 : Nat) : Int)) (fun k => ?_) ?_
      · show tabardlaw09_numbers.l0 (k + 1) a b (a.length : Int) (i : Int) = _
        rw [tabardlaw09_numbers.l0, if_pos kq1, if_pos kq1, if_pos kq1, if_pos kq1, rd_of_lt hlt, rd_of_lt (show i < b.length by omega), if_pos h, hw]
      · rw [h, show decide (b[i] :: a.drop (i + 1) = b[i] :: b.drop (i + 1)) = decide (a.drop (i + 1) = b.drop (i + 1)) from decide_eq_decide.2 ⟨fun e => (List.cons.inj e).2, fun e => by rw [e]⟩]
        exact ih
    · refine Ev.step (f := fun _ => some false) (fun k => ?_) ?_
      · show tabardlaw09_numbers.l0 (k + 1) a b (a.length : Int) (i : Int) = _
        rw [tabardlaw09_numbers.l0, if_pos kq1, if_pos kq1, if_pos kq1, if_pos kq1, rd_of_lt hlt, rd_of_lt (show i < b.length by omega), if_neg h]
      · rw [decide_eq_false (fun e => h (List.cons.inj e).1)]
        exact Ev.now _
theorem numbers9_ev (a b : List Int) (hl : a.length < 4611686018427387904) : Ev (fun k => tabardlaw09_numbers.f k a b) (decide (a = b)) := by
  unfold tabardlaw09_numbers.f
  by_cases h : a.length = b.length
  · refine Ev.congr (fun k => if_pos kq1) ?_
    exact numbers9_loop a b h hl _ 0 (Nat.zero_le _) rfl
  · refine Ev.congr (fun k => if_neg kq1) ?_
    rw [decide_eq_false (fun e => h (by rw [e]))]
    exact Ev.now _
theorem normals_ev (k1 : Int) (n1 : List ByteArray) (c1 : List Int) (b1 m1 : Int) (k2 : Int) (n2 : List ByteArray) (c2 : List Int) (b2 m2 : Int) (hn : n1.length < 4611686018427387904) (hc : c1.length < 4611686018427387904) :
    Ev (fun k => tabardlaw09_normals.f k k1 n1 c1 b1 m1 k2 n2 c2 b2 m2) (decide (k1 = k2 ∧ n1 = n2 ∧ c1 = c2 ∧ b1 = b2 ∧ m1 = m2)) := by
  unfold tabardlaw09_normals.f
  by_cases hk : k1 = k2
  · refine Ev.congr (fun k => if_pos hk) (Ev.bind (same9_ev n1 n2 hn) ?_)
    by_cases h1 : n1 = n2
    · refine Ev.congr (fun k => if_pos (decide_eq_true h1)) (Ev.bind (numbers9_ev c1 c2 hc) ?_)
      by_cases h2 : c1 = c2
      · refine Ev.congr (fun k => if_pos (decide_eq_true h2)) ?_
        by_cases h3 : b1 = b2
        · refine Ev.congr (fun k => if_pos h3) ?_
          rw [show decide (k1 = k2 ∧ n1 = n2 ∧ c1 = c2 ∧ b1 = b2 ∧ m1 = m2) = (m1 == m2) by simp [hk, h1, h2, h3]; rfl]
          exact Ev.now _
        · refine Ev.congr (fun k => if_neg h3) ?_
          rw [decide_eq_false (fun h => h3 h.2.2.2.1)]
          exact Ev.now _
      · refine Ev.congr (fun k => if_neg (by simp [h2])) ?_
        rw [decide_eq_false (fun h => h2 h.2.2.1)]
        exact Ev.now _
    · refine Ev.congr (fun k => if_neg (by simp [h1])) ?_
      rw [decide_eq_false (fun h => h1 h.2.1)]
      exact Ev.now _
  · refine Ev.congr (fun k => if_neg hk) ?_
    rw [decide_eq_false (fun h => hk h.1)]
    exact Ev.now _
end Go.Proofs.Ytjknpmibdkoklaa.Q
set_option maxRecDepth 100000
namespace Go.Proofs.Ytjknpmibdkoklaa.Q
open Go.RowKit Go.Proofs.YtjknpmibdkoklaaW.PrintWords Go.Proofs.YtjknpmibdkoklaaW.PrintLast Go.Proofs.YtjknpmibdkoklaaW.PrintMore
theorem lastA_err {op md : Int} {s : Sm} (h : (lastA op md s).2.2.2.2.2 ≠ 0) : lastA op md s = errN (lastA op md s).2.2.2.2.2 := by
  unfold lastA at h ⊢
  by_cases h0 : s.2.2.2 = 0
  · rw [if_neg (fun k => k h0)] at h ⊢
    by_cases hok : okS op md s = true
    · rw [if_pos hok] at h
      exact absurd rfl h
    · rw [if_neg hok]
      rfl
  · rw [if_pos h0]
    rfl
theorem lastA_ok {op md : Int} {s : Sm} (h : (lastA op md s).2.2.2.2.2 = 0) : s.2.2.2 = 0 ∧ lastA op md s = (atomK op, s.1, cofS op md s.2.1, bndS op md s.2.2.1, md, 0) := by
  unfold lastA at h ⊢
  by_cases h0 : s.2.2.2 = 0
  · rw [if_neg (fun k => k h0)] at h ⊢
    by_cases hok : okS op md s = true
    · rw [if_pos hok]
      exact ⟨h0, rfl⟩
    · rw [if_neg hok] at h
      exact absurd h kq2
  · rw [if_pos h0] at h
    exact absurd h h0
theorem atomS_err {op md : Int} {a b : Sm} (h : (atomS op md a b).2.2.2.2.2 ≠ 0) : atomS op md a b = errN (atomS op md a b).2.2.2.2.2 := by
  unfold atomS at h ⊢
  by_cases ha : a.2.2.2 = 0
  · rw [if_neg (fun k => k ha)] at h ⊢
    by_cases hb : b.2.2.2 = 0
    · rw [if_neg (fun k => k hb)] at h ⊢
      exact lastA_err h
    · rw [if_pos hb]
      rfl
  · rw [if_pos ha]
    rfl
theorem atomA_err {t : S39} (h : (atomA t).2.2.2.2.2 ≠ 0) : atomA t = errN (atomA t).2.2.2.2.2 := by
  unfold atomA at h ⊢
  by_cases hm : (measF t 1 (0, 0, 0)).2.2 = 0
  · rw [if_neg (fun k => k hm)] at h ⊢
    by_cases h9 : t.f0 < 9
    · rw [if_pos h9]
      rfl
    · rw [if_neg h9] at h ⊢
      exact atomS_err h
  · rw [if_pos hm]
    rfl
theorem atomA_ok {t : S39} (hf : FitF t) (h : (atomA t).2.2.2.2.2 = 0) : 9 ≤ t.f0 ∧ t.f0 ≤ 15 ∧ (if t.f0 = 15 then 1 ≤ t.f2 else t.f2 = 0) ∧ ∃ u v s, t.f3 = [u, v] ∧ RightT u ∧ RightT v ∧ FitT u ∧ FitT v ∧ cntT u ≤ 500 ∧ cntT v ≤ 500 ∧ (sumT u).2.2.2 = 0 ∧ (sumT v).2.2.2 = 0 ∧
    s = (if t.f0 = 11 ∨ t.f0 = 12 then subS (sumT v) (sumT u) else subS (sumT u) (sumT v)) ∧ s.2.2.2 = 0 ∧ Wf s 1000 ∧ atomA t = (atomK t.f0, s.1, cofS t.f0 t.f2 s.2.1, bndS t.f0 t.f2 s.2.2.1, t.f2, 0) := by
  by_cases hm : (measF t 1 (0, 0, 0)).2.2 = 0
  · by_cases h9 : t.f0 < 9
    · unfold atomA at h
      rw [if_neg (fun k => k hm), if_pos h9] at h
      exact absurd h kq2
    · obtain ⟨h15, hmd, u, v, hl, ru, rv, fu, fv, hc⟩ := atom_parts hf hm h9
      have e1 : atomA t = atomS t.f0 t.f2 (sumT u) (sumT v) := by
        unfold atomA
        rw [if_neg (fun k => k hm), if_neg h9, hl, rd_two0, rd_two1]
      rw [e1] at h ⊢
      have wu := sumT_wf 500 u ru fu kq1
      have wv := sumT_wf 500 v rv fv kq1
      by_cases ha : (sumT u).2.2.2 = 0
      · by_cases hb : (sumT v).2.2.2 = 0
        · have e2 : atomS t.f0 t.f2 (sumT u) (sumT v) = lastA t.f0 t.f2 (if t.f0 = 11 ∨ t.f0 = 12 then subS (sumT v) (sumT u) else subS (sumT u) (sumT v)) := by
            unfold atomS
            rw [if_neg (fun k => k ha), if_neg (fun k => k hb)]
          rw [e2] at h ⊢
          obtain ⟨h0, he⟩ := lastA_ok h
          refine ⟨kq1, h15, hmd, u, v, _, hl, ru, rv, fu, fv, kq1, kq1, ha, hb, rfl, h0, ?_, he⟩
          by_cases ho : t.f0 = 11 ∨ t.f0 = 12
          · rw [if_pos ho]
            exact (Wf.both wv wu).up kq1
          · rw [if_neg ho]
            exact (Wf.both wu wv).up kq1
        · unfold atomS at h
          rw [if_neg (fun k => k ha), if_pos hb] at h
          exact absurd h hb
      · unfold atomS at h
        rw [if_pos ha] at h
        exact absurd h ha
  · unfold atomA at h
    rw [if_pos hm] at h
    exact absurd h hm
theorem cof_len9 (op md : Int) (cs : List Int) : (cofS op md cs).length = cs.length := by unfold cofS; split <;> simp
end Go.Proofs.Ytjknpmibdkoklaa.Q
set_option maxRecDepth 100000
namespace Go.Proofs.Ytjknpmibdkoklaa.Q
open Go.RowKit Go.Proofs.YtjknpmibdkoklaaW.PrintWords Go.Proofs.YtjknpmibdkoklaaW.PrintLast Go.Proofs.YtjknpmibdkoklaaW.PrintMore
mutual
def depT : S66 → Nat
  | ⟨_, _, _, l⟩ => 1 + depTs l
def depTs : List S66 → Nat
  | [] => 0
  | t :: l => max (depT t) (depTs l)
end
mutual
def depF : S39 → Nat
  | ⟨_, _, _, l, q⟩ => 1 + max (depTs l) (depFs q)
def depFs : List S39 → Nat
  | [] => 0
  | t :: l => max (depF t) (depFs l)
end
theorem nodeM_fine {s d dep : Int} (h0 : 0 ≤ s) (h1 : s + 1 ≤ 500) (h2 : dep ≤ 40) : nodeM dep true (s, d, 0) = (s + 1, mx d dep, 0) := by
  have hw : wrap64 (s + 1) = s + 1 := by unfold wrap64; omega
  unfold nodeM
  simp only [hw]
  rw [if_neg kq1, if_neg kq1, if_pos trivial]
theorem nodeM_deep {s d dep : Int} {g : Bool} (h0 : 0 ≤ s) (h1 : s + 1 ≤ 500) (h2 : 40 < dep) : (nodeM dep g (s, d, 0)).2.2 = 72 := by
  have hw : wrap64 (s + 1) = s + 1 := by unfold wrap64; omega
  unfold nodeM
  simp only [hw]
  rw [if_neg kq1, if_pos kq1]
theorem trip {a b c a' b' c' : Int} (h1 : a = a') (h2 : b = b') (h3 : c = c') : (a, b, c) = (a', b', c') := by rw [h1, h2, h3]
theorem wrap_dep {dep : Int} (h1 : 1 ≤ dep) (h2 : dep ≤ 41) : wrap64 (dep + 1) = dep + 1 := by unfold wrap64; omega
mutual
theorem measT_told : ∀ (t : S66) (dep s d : Int), 0 ≤ s → 1 ≤ dep → dep ≤ 41 → RightT t → s + cntT t ≤ 500 →
    (dep + depT t ≤ 41 → measT t dep (s, d, 0) = (s + cntT t, mx d (dep + depT t - 1), 0)) ∧ (¬ dep + depT t ≤ 41 → (measT t dep (s, d, 0)).2.2 = 72)
  | ⟨a, b, n, l⟩, dep, s, d, h0, h1, h2, hr, hc => by
    rw [RightT] at hr
    rw [cntT] at hc ⊢
    rw [depT, measT, hr.1]
    by_cases hd : dep ≤ 40
    · rw [nodeM_fine h0 kq1 hd]
      rw [if_pos rfl, wrap_dep h1 h2]
      obtain ⟨k1, k2⟩ := measTs_told l (dep + 1) (s + 1) (mx d dep) kq1 kq1 kq1 (by unfold mx; omega) hr.2 kq1
      constructor
      · intro h
        rw [k1 kq1]
        exact trip kq1 (by unfold mx; omega) rfl
      · intro h
        exact k2 kq1
    · have e := nodeM_deep (d := d) (g := true) h0 (show s + 1 ≤ 500 by omega) (show 40 < dep by omega)
      constructor
      · intro h; omega
      · intro _
        rw [if_neg (by rw [e]; decide)]
        exact e
theorem measTs_told : ∀ (l : List S66) (dep s d : Int), 0 ≤ s → 1 ≤ dep → dep ≤ 41 → dep - 1 ≤ d → RightTs l → s + cntTs l ≤ 500 →
    (dep + depTs l ≤ 41 → measTs l dep (s, d, 0) = (s + cntTs l, mx d (dep + depTs l - 1), 0)) ∧ (¬ dep + depTs l ≤ 41 → (measTs l dep (s, d, 0)).2.2 = 72)
  | [], dep, s, d, h0, h1, h2, h3, hr, hc => by
    rw [measTs, cntTs, depTs]
    exact ⟨fun _ => trip kq1 (by unfold mx; omega) rfl, fun h => absurd kq1 h⟩
  | t :: l, dep, s, d, h0, h1, h2, h3, hr, hc => by
    rw [RightTs] at hr
    rw [cntTs] at hc ⊢
    rw [depTs, measTs]
    obtain ⟨k1, k2⟩ := measT_told t dep s d h0 h1 h2 hr.1 kq1
    by_cases hd : dep + depT t ≤ 41
    · rw [k1 hd, if_pos rfl]
      obtain ⟨j1, j2⟩ := measTs_told l dep (s + cntT t) (mx d (dep + depT t - 1)) kq1 h1 h2 (by unfold mx; omega) hr.2 kq1
      constructor
      · intro h
        rw [j1 kq1]
        exact trip kq1 (by unfold mx; omega) rfl
      · intro h
        exact j2 kq1
    · have e := k2 hd
      constructor
      · intro h; omega
      · intro _
        rw [if_neg (by rw [e]; decide)]
        exact e
end
mutual
theorem measF_told : ∀ (t : S39) (dep s d : Int), 0 ≤ s → 1 ≤ dep → dep ≤ 41 → RightF t → s + cntF t ≤ 500 →
    (dep + depF t ≤ 41 → measF t dep (s, d, 0) = (s + cntF t, mx d (dep + depF t - 1), 0)) ∧ (¬ dep + depF t ≤ 41 → (measF t dep (s, d, 0)).2.2 = 72)
  | ⟨a, b, n, l, q⟩, dep, s, d, h0, h1, h2, hr, hc => by
    rw [RightF] at hr
    rw [cntF] at hc ⊢
    rw [depF, measF, hr.1]
    by_cases hd : dep ≤ 40
    · rw [nodeM_fine h0 kq1 hd]
      rw [if_pos rfl, wrap_dep h1 h2]
      obtain ⟨k1, k2⟩ := measTs_told l (dep + 1) (s + 1) (mx d dep) kq1 kq1 kq1 (by unfold mx; omega) hr.2.1 kq1
      by_cases hl : dep + 1 + depTs l ≤ 41
      · rw [k1 hl, if_pos rfl]
        obtain ⟨j1, j2⟩ := measFs_told q (dep + 1) (s + 1 + cntTs l) (mx (mx d dep) (dep + 1 + depTs l - 1)) kq1 kq1 kq1 (by unfold mx; omega) hr.2.2 kq1
        constructor
        · intro h
          rw [j1 kq1]
          exact trip kq1 (by unfold mx; omega) rfl
        · intro h
          exact j2 kq1
      · have e := k2 hl
        constructor
        · intro h; omega
        · intro _
          rw [if_neg (by rw [e]; decide)]
          exact e
    · have e := nodeM_deep (d := d) (g := true) h0 (show s + 1 ≤ 500 by omega) (show 40 < dep by omega)
      constructor
      · intro h; omega
      · intro _
        rw [if_neg (by rw [e]; decide)]
        exact e
theorem measFs_told : ∀ (l : List S39) (dep s d : Int), 0 ≤ s → 1 ≤ dep → dep ≤ 41 → dep - 1 ≤ d → RightFs l → s + cntFs l ≤ 500 →
    (dep + depFs l ≤ 41 → measFs l dep (s, d, 0) = (s + cntFs l, mx d (dep + depFs l - 1), 0)) ∧ (¬ dep + depFs l ≤ 41 → (measFs l dep (s, d, 0)).2.2 = 72)
  | [], dep, s, d, h0, h1, h2, h3, hr, hc => by
    rw [measFs, cntFs, depFs]
    exact ⟨fun _ => trip kq1 (by unfold mx; omega) rfl, fun h => absurd kq1 h⟩
  | t :: l, dep, s, d, h0, h1, h2, h3, hr, hc => by
    rw [RightFs] at hr
    rw [cntFs] at hc ⊢
    rw [depFs, measFs]
    obtain ⟨k1, k2⟩ := measF_told t dep s d h0 h1 h2 hr.1 kq1
    by_cases hd : dep + depF t ≤ 41
    · rw [k1 hd, if_pos rfl]
      obtain ⟨j1, j2⟩ := measFs_told l dep (s + cntF t) (mx d (dep + depF t - 1)) kq1 h1 h2 (by unfold mx; omega) hr.2 kq1
      constructor
      · intro h
        rw [j1 kq1]
        exact trip kq1 (by unfold mx; omega) rfl
      · intro h
        exact j2 kq1
    · have e := k2 hd
      constructor
      · intro h; omega
      · intro _
        rw [if_neg (by rw [e]; decide)]
        exact e
end
theorem errF_iff (t : S39) : (measF t 1 (0, 0, 0)).2.2 = 0 ↔ RightF t ∧ cntF t ≤ 500 ∧ depF t ≤ 40 := by
  constructor
  · intro h
    obtain ⟨hr, _, hc⟩ := measF_right t 1 (0, 0, 0) kq2 kq2 h
    have hc' : (0 : Int) + (cntF t : Int) ≤ 500 := hc
    refine ⟨hr, kq1, Classical.byContradiction fun hd => ?_⟩
    have := (measF_told t 1 0 0 kq2 kq2 kq2 hr hc').2 kq1
    rw [h] at this
    cases this
  · rintro ⟨hr, hc, hd⟩
    rw [(measF_told t 1 0 0 kq2 kq2 kq2 hr kq1).1 kq1]
end Go.Proofs.Ytjknpmibdkoklaa.Q
set_option maxRecDepth 100000
namespace Go.Proofs.Ytjknpmibdkoklaa.Q
open Go.RowKit Go.Proofs.YtjknpmibdkoklaaW.PrintWords Go.Proofs.YtjknpmibdkoklaaW.PrintLast Go.Proofs.YtjknpmibdkoklaaW.PrintMore
theorem nz_ {α : Type} {x : Int} {a b : α} (h : x = 0) : (if x ≠ 0 then a else b) = b := if_neg (fun k => k h)
def atomF (op : Int) (a b : S66) : S39 := ⟨op, ⟨#[]⟩, 0, [a, b], []⟩
theorem okF_atom {op : Int} (h9 : 9 ≤ op) (h14 : op ≤ 14) (a b : S66) : okF (atomF op a b) = true := by
  rw [okF_val, if_neg (by show ¬ (op < 0 ∨ op > 15); omega)]
  show shapeF op (badF op (decide (op = 7 ∨ op = 8)) ⟨#[]⟩ 0) [a, b] [] = true
  have hb : badF op (decide (op = 7 ∨ op = 8)) ⟨#[]⟩ 0 = false := by
    unfold badF
    rw [decide_eq_false (show ¬ (op = 7 ∨ op = 8) by omega), if_neg kq2, if_neg (show ¬ op = 15 by omega), decide_eq_true (show (⟨#[]⟩ : ByteArray).toList = ([] : List UInt8) by rw [bl_eq]; rfl)]
    rfl
  have hp : partN op = 0 := by
    have : op = 9 ∨ op = 10 ∨ op = 11 ∨ op = 12 ∨ op = 13 ∨ op = 14 := by omega
    rcases this with h | h | h | h | h | h <;> (rw [h]; rfl)
  unfold shapeF
  rw [hb, hp, if_pos kq1]
  rfl
def errA (a b : S66) : Int := (measF (atomF 9 a b) 1 (0, 0, 0)).2.2
theorem measF_atom {op : Int} (h9 : 9 ≤ op) (h14 : op ≤ 14) (a b : S66) : (measF (atomF op a b) 1 (0, 0, 0)).2.2 = errA a b := by
  unfold errA
  rw [measF_eq (atomF op a b), measF_eq (atomF 9 a b), okF_atom h9 h14, okF_atom kq2 kq2]
  rfl
theorem errA_swap {a b : S66} (h : errA a b = 0) : errA b a = 0 := by
  unfold errA at h ⊢
  rw [errF_iff] at h ⊢
  obtain ⟨hr, hc, hd⟩ := h
  refine ⟨?_, ?_, ?_⟩
  · unfold atomF at hr ⊢
    rw [RightF] at hr ⊢
    simp only [RightTs] at hr ⊢
    exact ⟨okF_atom kq2 kq2 b a, ⟨hr.2.1.2.1, hr.2.1.1, trivial⟩, hr.2.2⟩
  · unfold atomF at hc ⊢
    rw [cntF] at hc ⊢
    simp only [cntTs] at hc ⊢
    omega
  · unfold atomF at hd ⊢
    rw [depF] at hd ⊢
    simp only [depTs] at hd ⊢
    omega
theorem atomA_at {op : Int} (h9 : 9 ≤ op) (h14 : op ≤ 14) (a b : S66) : atomA (atomF op a b) = if errA a b ≠ 0 then errN (errA a b) else atomS op 0 (sumT a) (sumT b) := by
  unfold atomA
  rw [measF_atom h9 h14]
  by_cases h : errA a b = 0
  · rw [nz_ h, nz_ h]
    exact if_neg (show ¬ op < 9 by omega)
  · rw [if_pos h, if_pos h]
theorem fit_atom {op : Int} (h9 : 9 ≤ op) (h14 : op ≤ 14) {a b : S66} (ha : FitT a) (hb : FitT b) : FitF (atomF op a b) :=
  FitF.mk ⟨by show -9223372036854775808 ≤ op; omega, by show op ≤ 9223372036854775807; omega⟩ (by show (0 : Nat) ≤ _; omega) ⟨show (-9223372036854775808 : Int) ≤ 0 by decide, show (0 : Int) ≤ 9223372036854775807 by decide⟩ (by show (2 : Nat) * 56 ≤ _; omega) (by show (0 : Nat) * 80 ≤ _; omega)
    (fun u hu => by
      rcases List.mem_cons.1 hu with k | k
      · rw [k]; exact ha
      · rw [List.mem_singleton.1 k]; exact hb) (fun u hu => nomatch hu)
def lowA (k : Int) (op : Int) (s : Sm) : Nm := if s.2.2.2 ≠ 0 then errN s.2.2.2 else if okS op 0 s = true then (k, s.1, s.2.1, (if op = 10 ∨ op = 12 then -s.2.2.1 - 1 else -s.2.2.1), 0, 0) else errN 91
theorem last_low {op : Int} (h : op ≠ 15) (s : Sm) : lastA op 0 s = lowA (atomK op) op s := by
  unfold lastA lowA cofS bndS
  rw [if_neg h, if_neg h]
theorem okS_same {op op' : Int} (h : (op = 10 ∨ op = 12) ↔ (op' = 10 ∨ op' = 12)) (h1 : op ≠ 15) (h2 : op' ≠ 15) (s : Sm) : okS op 0 s = okS op' 0 s := by
  unfold okS bndS cofS
  rw [if_neg h1, if_neg h1, if_neg h2, if_neg h2]
  by_cases c : op = 10 ∨ op = 12
  · rw [if_pos c, if_pos c, if_pos (h.1 c), if_pos (h.1 c)]
  · rw [if_neg c, if_neg c, if_neg (fun k => c (h.2 k)), if_neg (fun k => c (h.2 k))]
theorem low_same {op op' k : Int} (h : (op = 10 ∨ op = 12) ↔ (op' = 10 ∨ op' = 12)) (h1 : op ≠ 15) (h2 : op' ≠ 15) (s : Sm) : lowA k op s = lowA k op' s := by
  unfold lowA
  rw [okS_same h h1 h2]
  by_cases c : op = 10 ∨ op = 12
  · rw [if_pos c, if_pos (h.1 c)]
  · rw [if_neg c, if_neg (fun k => c (h.2 k))]
theorem low_err (k k' op : Int) (s : Sm) : (lowA k op s).2.2.2.2.2 = (lowA k' op s).2.2.2.2.2 := by
  unfold lowA
  by_cases h0 : s.2.2.2 = 0
  · rw [nz_ h0, nz_ h0]
    by_cases c : okS op 0 s = true
    · rw [if_pos c, if_pos c]
    · rw [if_neg c, if_neg c]
  · rw [if_pos h0, if_pos h0]
theorem atom_fine {op : Int} (h9 : 9 ≤ op) (h14 : op ≤ 14) {a b : S66} (he : errA a b = 0) (ha : (sumT a).2.2.2 = 0) (hb : (sumT b).2.2.2 = 0) : atomA (atomF op a b) = lowA (atomK op) op (if op = 11 ∨ op = 12 then subS (sumT b) (sumT a) else subS (sumT a) (sumT b)) := by
  rw [atomA_at h9 h14, nz_ he]
  unfold atomS
  rw [nz_ ha, nz_ hb, last_low kq1]
theorem atom_bad {op : Int} (h9 : 9 ≤ op) (h14 : op ≤ 14) {a b : S66} (h : ¬ (errA a b = 0 ∧ (sumT a).2.2.2 = 0 ∧ (sumT b).2.2.2 = 0)) : atomA (atomF op a b) = errN (if errA a b ≠ 0 then errA a b else if (sumT a).2.2.2 ≠ 0 then (sumT a).2.2.2 else (sumT b).2.2.2) ∧ (if errA a b ≠ 0 then errA a b else if (sumT a).2.2.2 ≠ 0 then (sumT a).2.2.2 else (sumT b).2.2.2) ≠ 0 := by
  rw [atomA_at h9 h14]
  by_cases he : errA a b = 0
  · rw [nz_ he, nz_ he]
    unfold atomS
    by_cases ha : (sumT a).2.2.2 = 0
    · rw [nz_ ha, nz_ ha]
      have hb : (sumT b).2.2.2 ≠ 0 := fun hb => h ⟨he, ha, hb⟩
      rw [if_pos hb]
      exact ⟨rfl, hb⟩
    · rw [if_pos ha, if_pos ha]
      exact ⟨rfl, ha⟩
  · rw [if_pos he, if_pos he]
    exact ⟨rfl, he⟩
theorem len_atom {op : Int} (h9 : 9 ≤ op) (h14 : op ≤ 14) {a b : S66} (fa : FitT a) (fb : FitT b) : (atomA (atomF op a b)).2.1.length ≤ 1000 ∧ (atomA (atomF op a b)).2.2.1.length ≤ 1000 := by
  by_cases h0 : (atomA (atomF op a b)).2.2.2.2.2 = 0
  · obtain ⟨_, _, _, u, v, s, _, _, _, _, _, _, _, _, _, _, _, ws, hA⟩ := atomA_ok (fit_atom h9 h14 fa fb) h0
    rw [hA]
    have := ws.few
    have := ws.len
    exact ⟨by show s.1.length ≤ 1000; omega, by show (cofS (atomF op a b).f0 (atomF op a b).f2 s.2.1).length ≤ 1000; rw [cof_len9]; omega⟩
  · rw [atomA_err h0]
    exact ⟨Nat.zero_le _, Nat.zero_le _⟩
end Go.Proofs.Ytjknpmibdkoklaa.Q
namespace Go.Proofs.Ytjknpmibdkoklaa.Q
open Go.RowKit Go.Proofs.YtjknpmibdkoklaaW.PrintWords Go.Proofs.YtjknpmibdkoklaaW.PrintLast Go.Proofs.YtjknpmibdkoklaaW.PrintMore
open Aside0 (mk)
attribute [local go_sem] max2_int min2_int max_two min_two max_three min_three max_four min_four
set_option linter.unusedVariables false
set_option linter.unusedSimpArgs false
attribute [local go_sem] fld103_2
mutual
def tabardlaw09_NormTurns.j0 : Nat → Int → Int → Bool → Int → List ByteArray → List Int → Int → Int → Int → List ByteArray → List Int → Int → Int → Int → List ByteArray → List Int → Int → Int → Int → List ByteArray → List Int → Int → Int → Int → List ByteArray → List Int → Int → Int → Option (Bool)
  | 0, _, _, _, _, _, _, _, _, _, _, _, _, _, _, _, _, _, _, _, _, _, _, _, _, _, _, _, _ => none
  | k + 1, x6, x10, x94, x397000, x397001, x397002, x397003, x397004, x411000, x411001, x411002, x411003, x411004, x425000, x425001, x425002, x425003, x425004, x439000, x439001, x439002, x439003, x439004, x453000, x453001, x453002, x453003, x453004 => if x94 = true then (some false) else (if x6 = 0 then ((tabardlaw09_normals.f k x397000 x397001 x397002 x397003 x397004 x411000 x411001 x411002 x411003 x411004).bind fun t468 => (if t468 = true then (if x10 = 0 then ((tabardlaw09_normals.f k x425000 x425001 x425002 x425003 x425004 x439000 x439001 x439002 x439003 x439004).bind fun t469 => (tabardlaw09_NormTurns.j1 k x6 x10 (!t469) x397000 x397001 x397002 x397003 x397004 x425000 x425001 x425002 x425003 x425004 x453000 x453001 x453002 x453003 x453004)) else (tabardlaw09_NormTurns.j1 k x6 x10 false x397000 x397001 x397002 x397003 x397004 x425000 x425001 x425002 x425003 x425004 x453000 x453001 x453002 x453003 x453004)) else (tabardlaw09_NormTurns.j1 k x6 x10 true x397000 x397001 x397002 x397003 x397004 x425000 x425001 x425002 x425003 x425004 x453000 x453001 x453002 x453003 x453004))) else (if x10 = 0 then ((tabardlaw09_normals.f k x425000 x425001 x425002 x425003 x425004 x439000 x439001 x439002 x439003 x439004).bind fun t470 => (tabardlaw09_NormTurns.j1 k x6 x10 (!t470) x397000 x397001 x397002 x397003 x397004 x425000 x425001 x425002 x425003 x425004 x453000 x453001 x453002 x453003 x453004)) else (tabardlaw09_NormTurns.j1 k x6 x10 false x397000 x397001 x397002 x397003 x397004 x425000 x425001 x425002 x425003 x425004 x453000 x453001 x453002 x453003 x453004)))
def tabardlaw09_NormTurns.j1 : Nat → Int → Int → Bool → Int → List ByteArray → List Int → Int → Int → Int → List ByteArray → List Int → Int → Int → Int → List ByteArray → List Int → Int → Int → Option (Bool)
  | 0, _, _, _, _, _, _, _, _, _, _, _, _, _, _, _, _, _, _ => none
  | k + 1, x6, x10, x112, x397000, x397001, x397002, x397003, x397004, x425000, x425001, x425002, x425003, x425004, x453000, x453001, x453002, x453003, x453004 => if x112 = true then (some false) else (if x6 = 0 then (tabardlaw09_NormTurns.j2 k (x10 != 0) x397000 x397001 x397002 x397003 x397004 x425000 x425001 x425002 x425003 x425004 x453000 x453001 x453002 x453003 x453004) else (tabardlaw09_NormTurns.j2 k true x397000 x397001 x397002 x397003 x397004 x425000 x425001 x425002 x425003 x425004 x453000 x453001 x453002 x453003 x453004))
def tabardlaw09_NormTurns.j2 : Nat → Bool → Int → List ByteArray → List Int → Int → Int → Int → List ByteArray → List Int → Int → Int → Int → List ByteArray → List Int → Int → Int → Option (Bool)
  | 0, _, _, _, _, _, _, _, _, _, _, _, _, _, _, _, _ => none
  | k + 1, x118, x397000, x397001, x397002, x397003, x397004, x425000, x425001, x425002, x425003, x425004, x453000, x453001, x453002, x453003, x453004 => if x118 = true then (some true) else ((tabardlaw09_normals.f k x425000 x425001 x425002 (wrap64 (x425003 + 1)) x425004 x397000 x397001 x397002 x397003 x397004).bind fun t471 => (if t471 = true then ((tabardlaw09_normals.f k 0 x453001 x453002 x453003 x453004 x397000 x397001 x397002 x397003 x397004).bind fun t472 => (some t472)) else (some false)))
end
def tabardlaw09_NormTurns.f (k : Nat) (a0_0 : Int) (a0_1 : Int) (a0_2 : ByteArray) (l0_3 : List (S66)) (a1_0 : Int) (a1_1 : Int) (a1_2 : ByteArray) (l1_3 : List (S66)) : Option (Bool) := (tabardlaw09_fixed.f k).bind fun t382 => (if t382 = true then ((norm_Atom.f k 9 (⟨#[]⟩ : ByteArray) 0 (([(⟨a0_0, a0_1, a0_2, l0_3⟩ : S66), (⟨a1_0, a1_1, a1_2, l1_3⟩ : S66)] : List (S66))) ([] : List (S39))).bind fun bt386 => ((norm_Atom.f k 11 (⟨#[]⟩ : ByteArray) 0 (([(⟨a1_0, a1_1, a1_2, l1_3⟩ : S66), (⟨a0_0, a0_1, a0_2, l0_3⟩ : S66)] : List (S66))) ([] : List (S39))).bind fun bt400 => ((norm_Atom.f k 10 (⟨#[]⟩ : ByteArray) 0 (([(⟨a0_0, a0_1, a0_2, l0_3⟩ : S66), (⟨a1_0, a1_1, a1_2, l1_3⟩ : S66)] : List (S66))) ([] : List (S39))).bind fun bt414 => ((norm_Atom.f k 12 (⟨#[]⟩ : ByteArray) 0 (([(⟨a1_0, a1_1, a1_2, l1_3⟩ : S66), (⟨a0_0, a0_1, a0_2, l0_3⟩ : S66)] : List (S66))) ([] : List (S39))).bind fun bt428 => ((norm_Atom.f k 13 (⟨#[]⟩ : ByteArray) 0 (([(⟨a0_0, a0_1, a0_2, l0_3⟩ : S66), (⟨a1_0, a1_1, a1_2, l1_3⟩ : S66)] : List (S66))) ([] : List (S39))).bind fun bt442 => ((norm_Atom.f k 14 (⟨#[]⟩ : ByteArray) 0 (([(⟨a0_0, a0_1, a0_2, l0_3⟩ : S66), (⟨a1_0, a1_1, a1_2, l1_3⟩ : S66)] : List (S66))) ([] : List (S39))).bind fun bt456 => (if ((bt386.2.2.2.2.2 == 0) != (bt400.2.2.2.2.2 == 0)) = true then (tabardlaw09_NormTurns.j0 k bt386.2.2.2.2.2 bt414.2.2.2.2.2 true bt386.1 bt386.2.1 bt386.2.2.1 bt386.2.2.2.1 bt386.2.2.2.2.1 bt400.1 bt400.2.1 bt400.2.2.1 bt400.2.2.2.1 bt400.2.2.2.2.1 bt414.1 bt414.2.1 bt414.2.2.1 bt414.2.2.2.1 bt414.2.2.2.2.1 bt428.1 bt428.2.1 bt428.2.2.1 bt428.2.2.2.1 bt428.2.2.2.2.1 bt442.1 bt442.2.1 bt442.2.2.1 bt442.2.2.2.1 bt442.2.2.2.2.1) else (if ((bt414.2.2.2.2.2 == 0) != (bt428.2.2.2.2.2 == 0)) = true then (tabardlaw09_NormTurns.j0 k bt386.2.2.2.2.2 bt414.2.2.2.2.2 true bt386.1 bt386.2.1 bt386.2.2.1 bt386.2.2.2.1 bt386.2.2.2.2.1 bt400.1 bt400.2.1 bt400.2.2.1 bt400.2.2.2.1 bt400.2.2.2.2.1 bt414.1 bt414.2.1 bt414.2.2.1 bt414.2.2.2.1 bt414.2.2.2.2.1 bt428.1 bt428.2.1 bt428.2.2.1 bt428.2.2.2.1 bt428.2.2.2.2.1 bt442.1 bt442.2.1 bt442.2.2.1 bt442.2.2.2.1 bt442.2.2.2.2.1) else (if bt442.2.2.2.2.2 = bt456.2.2.2.2.2 then ((tabardlaw09_normals.f k bt442.1 bt442.2.1 bt442.2.2.1 bt442.2.2.2.1 bt442.2.2.2.2.1 bt456.1 bt456.2.1 bt456.2.2.1 bt456.2.2.2.1 bt456.2.2.2.2.1).bind fun t467 => (if t467 = true then (tabardlaw09_NormTurns.j0 k bt386.2.2.2.2.2 bt414.2.2.2.2.2 (bt386.2.2.2.2.2 != bt442.2.2.2.2.2) bt386.1 bt386.2.1 bt386.2.2.1 bt386.2.2.2.1 bt386.2.2.2.2.1 bt400.1 bt400.2.1 bt400.2.2.1 bt400.2.2.2.1 bt400.2.2.2.2.1 bt414.1 bt414.2.1 bt414.2.2.1 bt414.2.2.2.1 bt414.2.2.2.2.1 bt428.1 bt428.2.1 bt428.2.2.1 bt428.2.2.2.1 bt428.2.2.2.2.1 bt442.1 bt442.2.1 bt442.2.2.1 bt442.2.2.2.1 bt442.2.2.2.2.1) else (tabardlaw09_NormTurns.j0 k bt386.2.2.2.2.2 bt414.2.2.2.2.2 true bt386.1 bt386.2.1 bt386.2.2.1 bt386.2.2.2.1 bt386.2.2.2.2.1 bt400.1 bt400.2.1 bt400.2.2.1 bt400.2.2.2.1 bt400.2.2.2.2.1 bt414.1 bt414.2.1 bt414.2.2.1 bt414.2.2.2.1 bt414.2.2.2.2.1 bt428.1 bt428.2.1 bt428.2.2.1 bt428.2.2.2.1 bt428.2.2.2.2.1 bt442.1 bt442.2.1 bt442.2.2.1 bt442.2.2.2.1 bt442.2.2.2.2.1))) else (tabardlaw09_NormTurns.j0 k bt386.2.2.2.2.2 bt414.2.2.2.2.2 true bt386.1 bt386.2.1 bt386.2.2.1 bt386.2.2.2.1 bt386.2.2.2.2.1 bt400.1 bt400.2.1 bt400.2.2.1 bt400.2.2.2.1 bt400.2.2.2.2.1 bt414.1 bt414.2.1 bt414.2.2.1 bt414.2.2.2.1 bt414.2.2.2.2.1 bt428.1 bt428.2.1 bt428.2.2.1 bt428.2.2.2.1 bt428.2.2.2.2.1 bt442.1 bt442.2.1 bt442.2.2.1 bt442.2.2.2.1 bt442.2.2.2.2.1)))))))))) else (some false))
end Go.Proofs.Ytjknpmibdkoklaa.Q
set_option maxRecDepth 100000
namespace Go.Proofs.Ytjknpmibdkoklaa.Q
open Go.RowKit Go.Proofs.YtjknpmibdkoklaaW.PrintWords Go.Proofs.YtjknpmibdkoklaaW.PrintLast Go.Proofs.YtjknpmibdkoklaaW.PrintMore
theorem atom_ev {op : Int} (h9 : 9 ≤ op) (h14 : op ≤ 14) {a b : S66} (fa : FitT a) (fb : FitT b) : Ev (fun k => norm_Atom.f k op (⟨#[]⟩ : ByteArray) 0 [⟨a.f0, a.f1, a.f2, a.f3⟩, ⟨b.f0, b.f1, b.f2, b.f3⟩] []) (atomA (atomF op a b)) := by
  have h := Atom_ev (fit_atom h9 h14 fa fb)
  cases a
  cases b
  exact h
theorem normals_same {x y : Nm} (h : x.1 = y.1 ∧ x.2.1 = y.2.1 ∧ x.2.2.1 = y.2.2.1 ∧ x.2.2.2.1 = y.2.2.2.1 ∧ x.2.2.2.2.1 = y.2.2.2.2.1) (hl : x.2.1.length ≤ 1000 ∧ x.2.2.1.length ≤ 1000) :
    Ev (fun k => tabardlaw09_normals.f k x.1 x.2.1 x.2.2.1 x.2.2.2.1 x.2.2.2.2.1 y.1 y.2.1 y.2.2.1 y.2.2.2.1 y.2.2.2.2.1) true := by
  have := normals_ev x.1 x.2.1 x.2.2.1 x.2.2.2.1 x.2.2.2.2.1 y.1 y.2.1 y.2.2.1 y.2.2.2.1 y.2.2.2.2.1 kq1 kq1
  rwa [decide_eq_true h] at this
theorem NormTurns_ev {s t : S66} (fs : FitT s) (ft : FitT t) : Ev (fun k => tabardlaw09_NormTurns.f k s.f0 s.f1 s.f2 s.f3 t.f0 t.f1 t.f2 t.f3) true := by
  have L1 := len_atom (op := 9) kq2 kq2 fs ft
  have L3 := len_atom (op := 10) kq2 kq2 fs ft
  have L5 := len_atom (op := 13) kq2 kq2 fs ft

  obtain ⟨A, hA⟩ : ∃ A, A = atomA (atomF 9 s t) := ⟨_, rfl⟩
  obtain ⟨B, hB⟩ : ∃ B, B = atomA (atomF 11 t s) := ⟨_, rfl⟩
  obtain ⟨C, hC⟩ : ∃ C, C = atomA (atomF 10 s t) := ⟨_, rfl⟩
  obtain ⟨D, hD⟩ : ∃ D, D = atomA (atomF 12 t s) := ⟨_, rfl⟩
  obtain ⟨G, hG⟩ : ∃ G, G = atomA (atomF 13 s t) := ⟨_, rfl⟩
  obtain ⟨H, hH⟩ : ∃ H, H = atomA (atomF 14 s t) := ⟨_, rfl⟩
  have eA : Ev (fun k => norm_Atom.f k 9 (⟨#[]⟩ : ByteArray) 0 [⟨s.f0, s.f1, s.f2, s.f3⟩, ⟨t.f0, t.f1, t.f2, t.f3⟩] []) A := hA ▸ atom_ev kq2 kq2 fs ft
  have eB : Ev (fun k => norm_Atom.f k 11 (⟨#[]⟩ : ByteArray) 0 [⟨t.f0, t.f1, t.f2, t.f3⟩, ⟨s.f0, s.f1, s.f2, s.f3⟩] []) B := hB ▸ atom_ev kq2 kq2 ft fs
  have eC : Ev (fun k => norm_Atom.f k 10 (⟨#[]⟩ : ByteArray) 0 [⟨s.f0, s.f1, s.f2, s.f3⟩, ⟨t.f0, t.f1, t.f2, t.f3⟩] []) C := hC ▸ atom_ev kq2 kq2 fs ft
  have eD : Ev (fun k => norm_Atom.f k 12 (⟨#[]⟩ : ByteArray) 0 [⟨t.f0, t.f1, t.f2, t.f3⟩, ⟨s.f0, s.f1, s.f2, s.f3⟩] []) D := hD ▸ atom_ev kq2 kq2 ft fs
  have eG : Ev (fun k => norm_Atom.f k 13 (⟨#[]⟩ : ByteArray) 0 [⟨s.f0, s.f1, s.f2, s.f3⟩, ⟨t.f0, t.f1, t.f2, t.f3⟩] []) G := hG ▸ atom_ev kq2 kq2 fs ft
  have eH : Ev (fun k => norm_Atom.f k 14 (⟨#[]⟩ : ByteArray) 0 [⟨s.f0, s.f1, s.f2, s.f3⟩, ⟨t.f0, t.f1, t.f2, t.f3⟩] []) H := hH ▸ atom_ev kq2 kq2 fs ft
  rw [← hA] at L1
  rw [← hC] at L3
  rw [← hG] at L5

  have facts : ((A.2.2.2.2.2 = 0 ↔ B.2.2.2.2.2 = 0) ∧ (C.2.2.2.2.2 = 0 ↔ D.2.2.2.2.2 = 0)) ∧ G = H ∧ A.2.2.2.2.2 = G.2.2.2.2.2 ∧ (A.2.2.2.2.2 = 0 → A = B) ∧ (C.2.2.2.2.2 = 0 → C = D) ∧
      (A.2.2.2.2.2 = 0 → C.2.2.2.2.2 = 0 → (C.1 = A.1 ∧ C.2.1 = A.2.1 ∧ C.2.2.1 = A.2.2.1 ∧ wrap64 (C.2.2.2.1 + 1) = A.2.2.2.1 ∧ C.2.2.2.2.1 = A.2.2.2.2.1) ∧ (0 = A.1 ∧ G.2.1 = A.2.1 ∧ G.2.2.1 = A.2.2.1 ∧ G.2.2.2.1 = A.2.2.2.1 ∧ G.2.2.2.2.1 = A.2.2.2.2.1)) := by
    by_cases hf : errA s t = 0 ∧ (sumT s).2.2.2 = 0 ∧ (sumT t).2.2.2 = 0
    · obtain ⟨he, h1, h2⟩ := hf
      have he' := errA_swap he
      rw [atom_fine kq2 kq2 he h1 h2, if_neg kq2] at hA hC hG hH
      rw [atom_fine kq2 kq2 he' h2 h1, if_pos kq2] at hB hD
      have k9 : atomK 9 = 0 := by decide
      have k10 : atomK 10 = 0 := by decide
      have k11 : atomK 11 = 0 := by decide
      have k12 : atomK 12 = 0 := by decide
      have k13 : atomK 13 = 1 := by decide
      have k14 : atomK 14 = 1 := by decide
      rw [k9] at hA
      rw [k11, low_same (op := 11) (op' := 9) kq2 kq2 kq2] at hB
      rw [k10] at hC
      rw [k12, low_same (op := 12) (op' := 10) kq2 kq2 kq2] at hD
      rw [k13, low_same (op := 13) (op' := 9) kq2 kq2 kq2] at hG
      rw [k14, low_same (op := 14) (op' := 9) kq2 kq2 kq2] at hH
      have eAB : A = B := by rw [hA, hB]
      have eCD : C = D := by rw [hC, hD]
      have eAG : A.2.2.2.2.2 = G.2.2.2.2.2 := by rw [hA, hG]; exact low_err 0 1 9 _
      refine ⟨⟨by rw [eAB], by rw [eCD]⟩, by rw [hG, hH], eAG, fun _ => eAB, fun _ => eCD, fun a0 c0 => ?_⟩
      rw [hA] at a0
      rw [hC] at c0
      rw [hA, hC, hG]
      unfold lowA at a0 c0 ⊢
      by_cases h0 : (subS (sumT s) (sumT t)).2.2.2 = 0
      · rw [nz_ h0] at a0 c0
        rw [nz_ h0, nz_ h0, nz_ h0]
        by_cases ok9 : okS 9 0 (subS (sumT s) (sumT t)) = true
        · by_cases ok10 : okS 10 0 (subS (sumT s) (sumT t)) = true
          · rw [if_pos ok9, if_pos ok9, if_pos ok10]
            have hk : In64 (-(subS (sumT s) (sumT t)).2.2.1) := by
              unfold okS at ok9
              rw [Bool.and_eq_true] at ok9
              exact in64B_in ok9.1
            refine ⟨⟨rfl, rfl, rfl, ?_, rfl⟩, rfl, rfl, rfl, rfl, rfl⟩
            show wrap64 (-(subS (sumT s) (sumT t)).2.2.1 - 1 + 1) = -(subS (sumT s) (sumT t)).2.2.1
            rw [Int.sub_add_cancel]
            exact wrap_in hk
          · rw [if_neg ok10] at c0
            exact absurd c0 kq2
        · rw [if_neg ok9] at a0
          exact absurd a0 kq2
      · rw [if_pos h0] at a0
        exact absurd a0 h0
    · have hf' : ¬ (errA t s = 0 ∧ (sumT t).2.2.2 = 0 ∧ (sumT s).2.2.2 = 0) := fun h => hf ⟨errA_swap h.1, h.2.2, h.2.1⟩
      obtain ⟨a1, a2⟩ := atom_bad (op := 9) kq2 kq2 hf
      obtain ⟨b1, b2⟩ := atom_bad (op := 11) kq2 kq2 hf'
      obtain ⟨c1, _⟩ := atom_bad (op := 10) kq2 kq2 hf
      obtain ⟨d1, _⟩ := atom_bad (op := 12) kq2 kq2 hf'
      obtain ⟨g1, _⟩ := atom_bad (op := 13) kq2 kq2 hf
      obtain ⟨h1, _⟩ := atom_bad (op := 14) kq2 kq2 hf
      rw [a1] at hA
      rw [b1] at hB
      rw [c1] at hC
      rw [d1] at hD
      rw [g1] at hG
      rw [h1] at hH
      have zA : A.2.2.2.2.2 ≠ 0 := by rw [hA]; exact a2
      have zC : C.2.2.2.2.2 ≠ 0 := by rw [hC]; exact a2
      have zB : B.2.2.2.2.2 ≠ 0 := by rw [hB]; exact b2
      have zD : D.2.2.2.2.2 ≠ 0 := by rw [hD]; exact b2
      exact ⟨⟨⟨fun h => absurd h zA, fun h => absurd h zB⟩, ⟨fun h => absurd h zC, fun h => absurd h zD⟩⟩, by rw [hG, hH], by rw [hA, hG], fun h => absurd h zA, fun h => absurd h zC, fun h => absurd h zA⟩
  obtain ⟨⟨iAB, iCD⟩, eGH, eAG, sAB, sCD, sAC⟩ := facts
  clear hA hB hC hD hG hH
  have nAB : ((A.2.2.2.2.2 == 0) != (B.2.2.2.2.2 == 0)) = false := by
    by_cases h : A.2.2.2.2.2 = 0
    · rw [beq_iff_eq.2 h, beq_iff_eq.2 (iAB.1 h)]; rfl
    · rw [beq_eq_false_iff_ne.2 h, beq_eq_false_iff_ne.2 fun k => h (iAB.2 k)]; rfl
  have nCD : ((C.2.2.2.2.2 == 0) != (D.2.2.2.2.2 == 0)) = false := by
    by_cases h : C.2.2.2.2.2 = 0
    · rw [beq_iff_eq.2 h, beq_iff_eq.2 (iCD.1 h)]; rfl
    · rw [beq_eq_false_iff_ne.2 h, beq_eq_false_iff_ne.2 fun k => h (iCD.2 k)]; rfl
  have nAG : (A.2.2.2.2.2 != G.2.2.2.2.2) = false := bne_eq_false_iff_eq.2 eAG

  have j2 : A.2.2.2.2.2 = 0 → C.2.2.2.2.2 = 0 → Ev (fun k => tabardlaw09_NormTurns.j2 k false A.1 A.2.1 A.2.2.1 A.2.2.2.1 A.2.2.2.2.1 C.1 C.2.1 C.2.2.1 C.2.2.2.1 C.2.2.2.2.1 G.1 G.2.1 G.2.2.1 G.2.2.2.1 G.2.2.2.2.1) true := fun a0 c0 => by
    obtain ⟨q1, q2⟩ := sAC a0 c0
    have n1 := normals_same (x := (C.1, C.2.1, C.2.2.1, wrap64 (C.2.2.2.1 + 1), C.2.2.2.2.1, 0)) (y := A) q1 L3
    have n2 := normals_same (x := (0, G.2.1, G.2.2.1, G.2.2.2.1, G.2.2.2.2.1, 0)) (y := A) q2 L5
    refine Ev.step (f := fun k => (tabardlaw09_normals.f k C.1 C.2.1 C.2.2.1 (wrap64 (C.2.2.2.1 + 1)) C.2.2.2.2.1 A.1 A.2.1 A.2.2.1 A.2.2.2.1 A.2.2.2.2.1).bind fun x => (if x = true then ((tabardlaw09_normals.f k 0 G.2.1 G.2.2.1 G.2.2.2.1 G.2.2.2.2.1 A.1 A.2.1 A.2.2.1 A.2.2.2.1 A.2.2.2.2.1).bind fun y => (some y)) else (some false))) (fun k => ?_) (Ev.bind n1 (Ev.congr (fun k => if_pos rfl) (Ev.bind n2 (Ev.now _))))
    conv => lhs; rw [tabardlaw09_NormTurns.j2]
    rw [if_neg kq2]
  have j2t : Ev (fun k => tabardlaw09_NormTurns.j2 k true A.1 A.2.1 A.2.2.1 A.2.2.2.1 A.2.2.2.2.1 C.1 C.2.1 C.2.2.1 C.2.2.2.1 C.2.2.2.2.1 G.1 G.2.1 G.2.2.1 G.2.2.2.1 G.2.2.2.2.1) true := Ev.step (f := fun _ => some true) (fun k => by
    conv => lhs; rw [tabardlaw09_NormTurns.j2]
    rw [if_pos rfl]) (Ev.now _)
  have j1 : Ev (fun k => tabardlaw09_NormTurns.j1 k A.2.2.2.2.2 C.2.2.2.2.2 false A.1 A.2.1 A.2.2.1 A.2.2.2.1 A.2.2.2.2.1 C.1 C.2.1 C.2.2.1 C.2.2.2.1 C.2.2.2.2.1 G.1 G.2.1 G.2.2.1 G.2.2.2.1 G.2.2.2.2.1) true := by
    by_cases a0 : A.2.2.2.2.2 = 0
    · by_cases c0 : C.2.2.2.2.2 = 0
      · refine Ev.step (fun k => ?_) (j2 a0 c0)
        conv => lhs; rw [tabardlaw09_NormTurns.j1]
        rw [if_neg kq2, if_pos a0, show (C.2.2.2.2.2 != 0) = false from bne_eq_false_iff_eq.2 c0]
      · refine Ev.step (fun k => ?_) j2t
        conv => lhs; rw [tabardlaw09_NormTurns.j1]
        rw [if_neg kq2, if_pos a0, show (C.2.2.2.2.2 != 0) = true from bne_iff_ne.2 c0]
    · refine Ev.step (fun k => ?_) j2t
      conv => lhs; rw [tabardlaw09_NormTurns.j1]
      rw [if_neg kq2, if_neg a0]
  have j0 : Ev (fun k => tabardlaw09_NormTurns.j0 k A.2.2.2.2.2 C.2.2.2.2.2 false A.1 A.2.1 A.2.2.1 A.2.2.2.1 A.2.2.2.2.1 B.1 B.2.1 B.2.2.1 B.2.2.2.1 B.2.2.2.2.1 C.1 C.2.1 C.2.2.1 C.2.2.2.1 C.2.2.2.2.1 D.1 D.2.1 D.2.2.1 D.2.2.2.1 D.2.2.2.2.1 G.1 G.2.1 G.2.2.1 G.2.2.2.1 G.2.2.2.2.1) true := by
    have hAB : A.2.2.2.2.2 = 0 → Ev (fun k => tabardlaw09_normals.f k A.1 A.2.1 A.2.2.1 A.2.2.2.1 A.2.2.2.2.1 B.1 B.2.1 B.2.2.1 B.2.2.2.1 B.2.2.2.2.1) true := fun a0 => normals_same (by rw [← sAB a0]; exact ⟨rfl, rfl, rfl, rfl, rfl⟩) L1
    have hCD : C.2.2.2.2.2 = 0 → Ev (fun k => tabardlaw09_normals.f k C.1 C.2.1 C.2.2.1 C.2.2.2.1 C.2.2.2.2.1 D.1 D.2.1 D.2.2.1 D.2.2.2.1 D.2.2.2.2.1) true := fun c0 => normals_same (by rw [← sCD c0]; exact ⟨rfl, rfl, rfl, rfl, rfl⟩) L3
    have cont : Ev (fun k => if C.2.2.2.2.2 = 0 then ((tabardlaw09_normals.f k C.1 C.2.1 C.2.2.1 C.2.2.2.1 C.2.2.2.2.1 D.1 D.2.1 D.2.2.1 D.2.2.2.1 D.2.2.2.2.1).bind fun x => (tabardlaw09_NormTurns.j1 k A.2.2.2.2.2 C.2.2.2.2.2 (!x) A.1 A.2.1 A.2.2.1 A.2.2.2.1 A.2.2.2.2.1 C.1 C.2.1 C.2.2.1 C.2.2.2.1 C.2.2.2.2.1 G.1 G.2.1 G.2.2.1 G.2.2.2.1 G.2.2.2.2.1)) else (tabardlaw09_NormTurns.j1 k A.2.2.2.2.2 C.2.2.2.2.2 false A.1 A.2.1 A.2.2.1 A.2.2.2.1 A.2.2.2.2.1 C.1 C.2.1 C.2.2.1 C.2.2.2.1 C.2.2.2.2.1 G.1 G.2.1 G.2.2.1 G.2.2.2.1 G.2.2.2.2.1)) true := by
      by_cases c0 : C.2.2.2.2.2 = 0
      · exact Ev.congr (fun k => if_pos c0) (Ev.bind (hCD c0) j1)
      · exact Ev.congr (fun k => if_neg c0) j1
    by_cases a0 : A.2.2.2.2.2 = 0
    · refine Ev.step (f := fun k => (tabardlaw09_normals.f k A.1 A.2.1 A.2.2.1 A.2.2.2.1 A.2.2.2.2.1 B.1 B.2.1 B.2.2.1 B.2.2.2.1 B.2.2.2.2.1).bind fun x => (if x = true then (if C.2.2.2.2.2 = 0 then ((tabardlaw09_normals.f k C.1 C.2.1 C.2.2.1 C.2.2.2.1 C.2.2.2.2.1 D.1 D.2.1 D.2.2.1 D.2.2.2.1 D.2.2.2.2.1).bind fun x => (tabardlaw09_NormTurns.j1 k A.2.2.2.2.2 C.2.2.2.2.2 (!x) A.1 A.2.1 A.2.2.1 A.2.2.2.1 A.2.2.2.2.1 C.1 C.2.1 C.2.2.1 C.2.2.2.1 C.2.2.2.2.1 G.1 G.2.1 G.2.2.1 G.2.2.2.1 G.2.2.2.2.1)) else (tabardlaw09_NormTurns.j1 k A.2.2.2.2.2 C.2.2.2.2.2 false A.1 A.2.1 A.2.2.1 A.2.2.2.1 A.2.2.2.2.1 C.1 C.2.1 C.2.2.1 C.2.2.2.1 C.2.2.2.2.1 G.1 G.2.1 G.2.2.1 G.2.2.2.1 G.2.2.2.2.1)) else (tabardlaw09_NormTurns.j1 k A.2.2.2.2.2 C.2.2.2.2.2 true A.1 A.2.1 A.2.2.1 A.2.2.2.1 A.2.2.2.2.1 C.1 C.2.1 C.2.2.1 C.2.2.2.1 C.2.2.2.2.1 G.1 G.2.1 G.2.2.1 G.2.2.2.1 G.2.2.2.2.1))) (fun k => ?_) (Ev.bind (hAB a0) (Ev.congr (fun k => if_pos rfl) cont))
      conv => lhs; rw [tabardlaw09_NormTurns.j0]
      rw [if_neg kq2, if_pos a0]
    · refine Ev.step (fun k => ?_) cont
      conv => lhs; rw [tabardlaw09_NormTurns.j0]
      rw [if_neg kq2, if_neg a0]
  unfold tabardlaw09_NormTurns.f
  refine Ev.bind fixed9_ev (Ev.congr (fun k => if_pos rfl) (Ev.bind eA (Ev.bind eB (Ev.bind eC (Ev.bind eD (Ev.bind eG (Ev.bind eH ?_)))))))
  refine Ev.congr (fun k => if_neg (by rw [nAB]; decide)) (Ev.congr (fun k => if_neg (by rw [nCD]; decide)) ?_)
  refine Ev.congr (fun k => if_pos (by rw [eGH])) ?_
  refine Ev.bind (normals_same (by rw [eGH]; exact ⟨rfl, rfl, rfl, rfl, rfl⟩) L5) (Ev.congr (fun k => if_pos rfl) ?_)
  rw [nAG]
  exact j0
end Go.Proofs.Ytjknpmibdkoklaa.Q
