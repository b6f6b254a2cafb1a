/- Functions of the given program as Lean functions, each with its contract, and what they answer; words for it. No condition but those of each. -/
import Derived.Test.YtjknpmibdkoklaaMG36
import Derived.Test.YtjknpmibdkoklaaMG37
import Derived.Test.YtjknpmibdkoklaaMG38
import Derived.Test.YtjknpmibdkoklaaMG39
set_option maxRecDepth 100000
namespace Go.Proofs.Ytjknpmibdkoklaa.Q
open Go.RowKit Go.Proofs.YtjknpmibdkoklaaW.PrintWords Go.Proofs.YtjknpmibdkoklaaW.PrintLast Go.Proofs.YtjknpmibdkoklaaW.PrintMore
def bindF (k : Int) (s : ByteArray) (t : S39) : S39 := ⟨k, s, 0, [], [t]⟩
theorem bindF_ok {k : Int} (s : ByteArray) (t : S39) (hk : k = 7 ∨ k = 8) : okF (bindF k s t) = nameB s := by
  rw [okF_told]
  show (if k = 0 ∨ k = 1 then _ else if k = 2 then _ else if 3 ≤ k ∧ k ≤ 6 then _ else if k = 7 ∨ k = 8 then _ else _) = _
  rw [if_neg (by omega), if_neg (by omega), if_neg (by omega), if_pos hk]
  show (nameB s && true) = nameB s
  rw [Bool.and_true]
theorem bindF_right {k : Int} {s : ByteArray} {t : S39} (hk : k = 7 ∨ k = 8) : RightF (bindF k s t) ↔ nameB s = true ∧ RightF t := by
  have h := bindF_ok s t hk
  unfold bindF at h ⊢
  rw [RightF, RightTs, RightFs, RightFs, h]
  exact ⟨fun ⟨n, _, a, _⟩ => ⟨n, a⟩, fun ⟨n, a⟩ => ⟨n, trivial, a, trivial⟩⟩
theorem bindF_cnt (k : Int) (s : ByteArray) (t : S39) : cntF (bindF k s t) = cntF t + 1 := by
  unfold bindF
  rw [cntF, cntTs, cntFs, cntFs]
  omega
theorem bindF_dep (k : Int) (s : ByteArray) (t : S39) : depF (bindF k s t) = depF t + 1 := by
  unfold bindF
  rw [depF, depTs, depFs, depFs]
  omega
theorem bindF_err {k : Int} {s : ByteArray} {t : S39} (hk : k = 7 ∨ k = 8) : errF (bindF k s t) = 0 ↔ nameB s = true ∧ errF t = 0 ∧ cntF t + 1 ≤ 500 ∧ depF t + 1 ≤ 40 := by
  unfold errF
  rw [errF_iff, errF_iff, bindF_right hk, bindF_cnt, bindF_dep]
  constructor
  · rintro ⟨⟨a, b⟩, c, d⟩
    exact ⟨a, ⟨b, by omega, by omega⟩, c, d⟩
  · rintro ⟨a, ⟨b, _, _⟩, c, d⟩
    exact ⟨⟨a, b⟩, c, d⟩
theorem freeF_rise (t : S39) : Rise (freeF t) := by rw [freeF_eq]; exact canon_rise _
theorem bindF_free {k : Int} (s : ByteArray) (t : S39) (hk : k = 7 ∨ k = 8) : freeF (bindF k s t) = delS (freeF t) s := by
  rw [freeF_eq]
  show canon (if k = 7 ∨ k = 8 then delS (namesTs [] ++ freeFs [t]) s else _) = _
  rw [if_pos hk, namesTs, freeFs, freeFs, List.nil_append, List.append_nil]
  exact canon_of_rise (List.Pairwise.sublist List.filter_sublist (freeF_rise t))
mutual
theorem sameT_cnt : ∀ (t u : S66), sameT t u = true → cntT t = cntT u
  | ⟨a, b, s, l⟩, u, h => by
    rw [sameT] at h
    simp only [Bool.and_eq_true] at h
    have := sameTs_cnt l u.f3 h.2.2.2
    cases u
    rw [cntT, cntT]
    exact congrArg (1 + ·) this
theorem sameTs_cnt : ∀ (l q : List S66), sameTs l q = true → cntTs l = cntTs q
  | [], [], _ => rfl
  | [], _ :: _, h => by rw [sameTs] at h; cases h
  | _ :: _, [], h => by rw [sameTs] at h; cases h
  | t :: l, u :: q, h => by
    rw [sameTs] at h
    replace h : (sameT t u && sameTs l q) = true := h
    rw [Bool.and_eq_true] at h
    rw [cntTs, cntTs, sameT_cnt t u h.1, sameTs_cnt l q h.2]
end
mutual
theorem sameF_cnt : ∀ (t u : S39), sameF t u = true → cntF t = cntF u
  | ⟨a, s, b, l, q⟩, u, h => by
    rw [sameF] at h
    simp only [Bool.and_eq_true] at h
    have h1 := sameTs_cnt l u.f3 h.2.2.2.1
    have h2 := sameFs_cnt q u.f4 h.2.2.2.2
    cases u
    rw [cntF, cntF]
    have h1' : cntTs l = _ := h1
    have h2' : cntFs q = _ := h2
    rw [h1', h2']
theorem sameFs_cnt : ∀ (l q : List S39), sameFs l q = true → cntFs l = cntFs q
  | [], [], _ => rfl
  | [], _ :: _, h => by rw [sameFs] at h; cases h
  | _ :: _, [], h => by rw [sameFs] at h; cases h
  | t :: l, u :: q, h => by
    rw [sameFs] at h
    replace h : (sameF t u && sameFs l q) = true := h
    rw [Bool.and_eq_true] at h
    rw [cntFs, cntFs, sameF_cnt t u h.1, sameFs_cnt l q h.2]
end
theorem binds_loop (k : Int) (s : ByteArray) (t : S39) (fb l : List ByteArray) (hl : l.length ≤ 1000000) (hend : Ev (fun n => tabardlaw06_TreeBinds.l0 n s fb 0 (delS l s) l (l.length : Int) (l.length : Int) t.f0 t.f1 t.f2 t.f3 t.f4 k s 0 [t]) true) : ∀ (n i : Nat), i ≤ l.length → l.length - i = n → Ev (fun n => tabardlaw06_TreeBinds.l0 n s fb 0 (delS (l.take i) s) l (l.length : Int) (i : Int) t.f0 t.f1 t.f2 t.f3 t.f4 k s 0 [t]) true
  | 0, i, hi, hn => by
    have e : i = l.length := by omega
    subst e
    rw [List.take_length]
    exact hend
  | n + 1, i, hi, hn => by
    have hlt : i < l.length := by omega
    have ih := binds_loop k s t fb l hl hend n (i + 1) (by omega) (by omega)
    have hdl := delS_len (l.take i) s
    rw [List.length_take] at hdl
    refine Ev.step (f := fun n => tabardlaw06_TreeBinds.l0 n s fb 0 (delS (l.take (i + 1)) s) l (l.length : Int) ((i + 1 : Nat) : Int) t.f0 t.f1 t.f2 t.f3 t.f4 k s 0 [t]) (fun m => ?_) ih
    show tabardlaw06_TreeBinds.l0 (m + 1) _ _ _ _ _ _ _ _ _ _ _ _ _ _ _ _ = _
    rw [tabardlaw06_TreeBinds.l0, if_pos (by omega), if_pos (by omega), if_pos (by omega), rd_nat hlt, wrap_add hlt (by omega)]
    have e : delS (l.take (i + 1)) s = delS (l.take i) s ++ (if l[i] = s then [] else [l[i]]) := by
      rw [List.take_succ_eq_append_getElem hlt]
      unfold delS
      rw [List.filter_append]
      congr 1
      by_cases h : l[i] = s <;> simp [h]
    by_cases h : l[i] = s
    · rw [if_pos (by rw [h]), e, if_pos h, List.append_nil]
    · rw [if_neg (fun c => h (bl_inj (by rw [← bl_eq, ← bl_eq, c]))), if_pos (by omega), e, if_neg h]
theorem plainF_bind {k : Int} (s : ByteArray) (t : S39) (hk : k = 7 ∨ k = 8) : plainF (bindF k s t) = false := by
  rw [plainF_eq]
  show ((k != 7) && ((k != 8) && _)) = false
  rcases hk with rfl | rfl <;> simp
theorem binds_end (k : Int) (s : ByteArray) (t : S39) (hk : k = 7 ∨ k = 8) (hB : errF (bindF k s t) = 0) (ht : errF t = 0) : Ev (fun n => tabardlaw06_TreeBinds.l0 n s (delS (freeF t) s) 0 (delS (freeF t) s) (freeF t) ((freeF t).length : Int) ((freeF t).length : Int) t.f0 t.f1 t.f2 t.f3 t.f4 k s 0 [t]) true := by
  obtain ⟨rt, ct, dt⟩ := (errF_iff t).1 ht
  have hl1 := freeF_len t
  have hl2 := delS_len (freeF t) s
  have hP : tree_Plain.f k s 0 ([] : List S66) [t] = some (false, 0) := by
    have hC : tree_Check.f k s 0 ([] : List S66) [t] = some (errF (bindF k s t)) := Check_eq (bindF k s t)
    unfold tree_Plain.f tree_plain.f
    rw [hC, Option.bind_some, if_pos hB, Option.bind_some]
    exact congrArg (fun b => some (b, (0 : Int))) (plainF_bind s t hk)
  have hS1 : tree_Same.f k s 0 ([] : List S66) [t] k s 0 ([] : List S66) [t] = some true := by
    refine (Same_eq (bindF k s t) (bindF k s t)).trans ?_
    unfold sameA
    rw [if_pos hB, if_pos hB, sameF_refl]
  have hS2 : tree_Same.f k s 0 ([] : List S66) [t] t.f0 t.f1 t.f2 t.f3 t.f4 = some false := by
    refine (Same_eq (bindF k s t) t).trans ?_
    unfold sameA
    rw [if_pos hB, if_pos ht]
    cases h : sameF (bindF k s t) t with
    | false => rfl
    | true => have := sameF_cnt _ _ h; rw [bindF_cnt] at this; omega
  obtain ⟨K1, e1⟩ := same_ev (delS (freeF t) s) (by omega)
  obtain ⟨K2, e2⟩ := rises_ev (delS (freeF t) s) (by omega)
  have hr : risesB none (delS (freeF t) s) = true := (risesB_none _).2 ⟨fun x hx => freeF_good t rt x (List.mem_filter.1 hx).1, List.Pairwise.sublist List.filter_sublist (freeF_rise t)⟩
  rw [hr] at e2
  refine ⟨K1 + K2 + 1, fun n hn => ?_⟩
  obtain ⟨n, rfl⟩ : ∃ m, n = m + 1 := ⟨n - 1, by omega⟩
  have f1 := e1 n (by omega)
  have f2 := e2 n (by omega)
  dsimp only at f1 f2
  show tabardlaw06_TreeBinds.l0 (n + 1) _ _ _ _ _ _ _ _ _ _ _ _ _ _ _ _ = _
  rw [tabardlaw06_TreeBinds.l0, if_neg (by omega), hP, Option.bind_some]
  dsimp only
  rw [if_pos rfl, if_pos rfl, if_neg (by decide), f1, Option.bind_some, if_pos rfl, f2, Option.bind_some, if_pos rfl, hS1, Option.bind_some, if_pos rfl, hS2, Option.bind_some]
  rfl
theorem binds_ev (k : Int) (s : ByteArray) (t : S39) (hk : k = 7 ∨ k = 8) : Ev (fun n => tabardlaw06_TreeBinds.j0 n s k t.f0 t.f1 t.f2 t.f3 t.f4) true := by
  have hC : tree_Check.f k s 0 ([] : List S66) [t] = some (errF (bindF k s t)) := Check_eq (bindF k s t)
  by_cases hB : errF (bindF k s t) = 0
  · obtain ⟨hn, ht, hc, hd⟩ := (bindF_err hk).1 hB
    have hl1 := freeF_len t
    have hFB := Free_fine hB
    rw [bindF_free s t hk] at hFB
    refine Ev.step (f := fun n => tabardlaw06_TreeBinds.j1 n s 0 false t.f0 t.f1 t.f2 t.f3 t.f4 k s 0 [t]) (fun n => ?_) ?_
    · show tabardlaw06_TreeBinds.j0 (n + 1) _ _ _ _ _ _ _ = _
      rw [tabardlaw06_TreeBinds.j0, Option.bind_some, eta39, hC, Option.bind_some, if_pos hB, Check_eq, Option.bind_some, hB, ht]
      rfl
    · refine Ev.step (f := fun n => (tree_Free.f n t.f0 t.f1 t.f2 t.f3 t.f4).bind fun x => (tree_Free.f n k s 0 ([] : List S66) [t]).bind fun y => tabardlaw06_TreeBinds.l0 n s y.1 y.2 ([] : List ByteArray) x.1 (x.1.length : Int) 0 t.f0 t.f1 t.f2 t.f3 t.f4 k s 0 [t]) (fun n => ?_) (Ev.bind (Free_fine ht) (Ev.bind hFB ?_))
      · show tabardlaw06_TreeBinds.j1 (n + 1) _ _ _ _ _ _ _ _ _ _ _ _ = _
        rw [tabardlaw06_TreeBinds.j1, if_neg (by decide)]
      · exact binds_loop k s t _ (freeF t) (by omega) (binds_end k s t hk hB ht) _ 0 (Nat.zero_le _) rfl
  · refine Ev.step (f := fun n => tabardlaw06_TreeBinds.j1 n s (errF (bindF k s t)) true t.f0 t.f1 t.f2 t.f3 t.f4 k s 0 [t]) (fun n => ?_) (Ev.step (f := fun _ => some true) (fun n => ?_) (Ev.now _))
    · show tabardlaw06_TreeBinds.j0 (n + 1) _ _ _ _ _ _ _ = _
      rw [tabardlaw06_TreeBinds.j0, Option.bind_some, eta39, hC, Option.bind_some, if_neg hB]
    · show tabardlaw06_TreeBinds.j1 (n + 1) _ _ _ _ _ _ _ _ _ _ _ _ = _
      rw [tabardlaw06_TreeBinds.j1, if_pos rfl, Depth_eq, Option.bind_some, Size_eq, Option.bind_some, if_neg hB]
      unfold glyph_Name.f
      rw [Option.bind_some]
      by_cases hn : nameB s = true
      · rw [if_pos hn]
        by_cases ht : errF t = 0
        · rw [if_pos ht, if_pos ht]
          dsimp only
          rw [if_pos rfl]
          obtain ⟨_, ct, dt⟩ := (errF_iff t).1 ht
          by_cases hd : (depF t : Int) = 40
          · rw [if_pos hd]
          · rw [if_neg hd]
            have : ¬ (cntF t + 1 ≤ 500 ∧ depF t + 1 ≤ 40) := fun h => hB ((bindF_err hk).2 ⟨hn, ht, h.1, h.2⟩)
            have h5 : (cntF t : Int) = 500 := by omega
            rw [h5]
            rfl
        · rw [if_neg ht, if_neg ht]
          first | done | (dsimp only; rw [if_neg ht])
      · rw [if_neg hn]
theorem TreeBinds_ev {t : S39} (_ : FitF t) {s : ByteArray} (_ : s.size ≤ 140737488351232) (b : Bool) : Ev (fun n => tabardlaw06_TreeBinds.f n t.f0 t.f1 t.f2 t.f3 t.f4 s b) true := by
  refine Ev.bind fixed_ev (Ev.congr (fun n => if_pos rfl) ?_)
  cases b with
  | true => exact Ev.congr (fun n => if_pos rfl) (binds_ev 8 s t (.inr rfl))
  | false => exact Ev.congr (fun n => if_neg (by decide)) (binds_ev 7 s t (.inl rfl))
end Go.Proofs.Ytjknpmibdkoklaa.Q
