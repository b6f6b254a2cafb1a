/- Functions of the given program as Lean functions, each with its contract, and what they answer; words for it. No condition but those of each. -/
import Derived.Test.YtjknpmibdkoklaaPCS
import Derived.Test.YtjknpmibdkoklaaPC15
import Derived.Test.YtjknpmibdkoklaaPC16
import Derived.Test.YtjknpmibdkoklaaPC13
import Derived.ChangeArms
import Derived.SizedLaws
import Derived.DataShut
import Derived.DataElems
set_option linter.unusedVariables false
set_option linter.unusedSimpArgs false
set_option maxRecDepth 100000
namespace Go.Proofs.Ytjknpmibdkoklaa.U
open Go.RowKit Go.Proofs.YtjknpmibdkoklaaW.PrintWords Go.Proofs.YtjknpmibdkoklaaW.PrintLast Go.Proofs.YtjknpmibdkoklaaW.PrintMore
theorem rise_sorted {l : List ByteArray} (h : (l.map bl).Nodup) : Rise (sortedS l) := by
  have h1 := sortedS_le l
  have h2 : ((sortedS l).map bl).Nodup := by
    unfold sortedS
    rw [map_bl_lb]
    exact (List.mergeSort_perm (l.map bl) fun x y => decide (x ≤ y)).nodup_iff.2 h
  have h3 := h1.and h2
  rw [List.pairwise_map] at h3
  exact h3.imp fun ⟨a, b⟩ => lle a b
theorem rise_nodup {l : List ByteArray} (h : Rise l) : (l.map bl).Nodup := by
  rw [List.Nodup, List.pairwise_map]
  exact h.imp (fun {a b} hab (e : bl a = bl b) => lti (bl b) (by rw [e] at hab; exact hab))
theorem more_sorted {names : List ByteArray} {s : ByteArray} (hr : Rise names) (hg : ∀ x ∈ names, nameB x = true) (hs : nameB s = true) (hn : s ∉ names) (hl : names.length ≤ 1000000) : Ev (fun k => glyph_Sorted.f k (names ++ [s])) (sortedS (names ++ [s]), 0) := by
  have hnd : ((names ++ [s]).map bl).Nodup := by
    rw [List.map_append, List.nodup_append]
    refine ⟨rise_nodup hr, by simp, fun a ha b hb e => ?_⟩
    obtain ⟨x, hx, rfl⟩ := List.mem_map.1 ha
    have hb2 : b = bl s := by simpa using hb
    rw [hb2] at e
    exact hn (by rw [← bl_inj e]; exact hx)
  have hR := rise_sorted hnd
  have hG : ∀ x ∈ sortedS (names ++ [s]), nameB x = true := fun x hx => by
    rcases List.mem_append.1 (mem_sortedS.1 hx) with h | h
    · exact hg x h
    · rw [List.mem_singleton.1 h]; exact hs
  have hlen : (sortedS (names ++ [s])).length ≤ 1000001 := by rw [sortedS_length, List.length_append, List.length_singleton]; omega
  have hany : ¬ ((names ++ [s]).any fun x => !nameB x) = true := by
    intro h
    obtain ⟨x, hx, h2⟩ := List.any_eq_true.1 h
    rw [hG x (mem_sortedS.2 hx)] at h2
    cases h2
  have hrise := rises_ev (sortedS (names ++ [s])) kq1
  rw [(risesB_none _).2 ⟨hG, hR⟩] at hrise
  have hl2 : (names ++ [s]).length = names.length + 1 := by simp
  refine Ev.congr (f := fun k => (glyph_Rises.f k (sortedS (names ++ [s]))).bind fun t3 => if t3 = true then some (sortedS (names ++ [s]), 0) else some (([] : List ByteArray), 5)) (fun k => ?_) (Ev.bind hrise (Ev.congr (fun k => if_pos rfl) (Ev.now _)))
  show glyph_Sorted.f k (names ++ [s]) = _
  unfold glyph_Sorted.f slices_Clone_string_string.f slices_Sort_string_string.f
  rw [if_pos kq1, if_neg hany]
  first
    | (rw [if_pos kq1, Option.bind_some, if_pos kq1, Option.bind_some])
    | (rw [Option.bind_some, if_pos kq1, Option.bind_some])
theorem look_map (F : ByteArray → Int) {s : ByteArray} : ∀ {l : List ByteArray} {i : Int}, s ∈ l → (l.map F).getD (idxFrom s i l - i).toNat 0 = F s
  | x :: l, i, h => by
    unfold idxFrom
    by_cases e : x = s
    · rw [if_pos e, e]
      simp
    · rw [if_neg e]
      have hm : s ∈ l := by
        rcases List.mem_cons.1 h with h | h
        · exact absurd h.symm e
        · exact h
      have h1 := (idx_some (i := i + 1) hm).1
      have h2 := look_map F (i := i + 1) hm
      rw [List.map_cons, show (idxFrom s (i + 1) l - i).toNat = (idxFrom s (i + 1) l - (i + 1)).toNat + 1 by omega, List.getD_cons_succ]
      exact h2
def wideV (names : List ByteArray) (at_ : List Int) (s : ByteArray) : Int := if 0 ≤ idxFrom s 0 names then look names at_ s else 1099511627776
theorem wide_loop (names : List ByteArray) (at_ : List Int) (x : Bool) (wide l : List ByteArray) (t : S39) (hn : names.length = at_.length) (hl : names.length < 4611686018427387904) (hw : l.length ≤ 2000000) (R : Bool)
    (hend : Ev (fun k => tabardlaw10_TruthConnects.l1 k names at_ x wide (l.map (wideV names at_)) l (l.length : Int) (l.length : Int) t.f0 t.f1 t.f2 t.f3 t.f4) R) : ∀ (n i : Nat), i ≤ l.length → l.length - i = n →
    Ev (fun k => tabardlaw10_TruthConnects.l1 k names at_ x wide ((l.take i).map (wideV names at_)) l (l.length : Int) (i : Int) t.f0 t.f1 t.f2 t.f3 t.f4) R
  | 0, i, hi, hm => by
    have : i = l.length := by omega
    subst this
    rw [List.take_length]
    exact hend
  | n + 1, i, hi, hm => by
    have hlt : i < l.length := by omega
    have ih := wide_loop names at_ x wide l t hn hl hw R hend n (i + 1) kq1 kq1
    rw [List.take_succ_eq_append_getElem hlt, List.map_append, List.map_singleton] at ih
    have hlen : ((l.take i).map (wideV names at_)).length < 17592186044416 := by rw [List.length_map, List.length_take]; omega
    refine Ev.step (f := fun k => (glyph_Index.f k names l[i]).bind fun j => if j ≥ 0 then (if 0 ≤ j then (if j < (at_.length : Int) then (if ((l.take i).map (wideV names at_)).length < 17592186044416 then tabardlaw10_TruthConnects.l1 k names at_ x wide ((l.take i).map (wideV names at_) ++ [rd at_ j]) l (l.length : Int) ((i + 1 : Nat) : Int) t.f0 t.f1 t.f2 t.f3 t.f4 else none) else none) else none) else (if ((l.take i).map (wideV names at_)).length < 17592186044416 then tabardlaw10_TruthConnects.l1 k names at_ x wide ((l.take i).map (wideV names at_) ++ [1099511627776]) l (l.length : Int) ((i + 1 : Nat) : Int) t.f0 t.f1 t.f2 t.f3 t.f4 else none)) (fun k => ?_) (Ev.bind (index_ev names l[i] hl) ?_)
    · show tabardlaw10_TruthConnects.l1 (k + 1) _ _ _ _ _ _ _ _ _ _ _ _ _ = _
      rw [tabardlaw10_TruthConnects.l1, if_pos kq1, if_pos kq1, if_pos kq1, rd_nat hlt, wrap_add hlt kq1]
    · by_cases hmem : l[i] ∈ names
      · have h0 := idx_some (i := 0) hmem
        have hv : wideV names at_ l[i] = rd at_ (idxFrom l[i] 0 names) := if_pos h0.1
        rw [hv] at ih
        refine Ev.congr (fun k => ?_) ih
        rw [if_pos kq1, if_pos kq1, if_pos kq1, if_pos hlen]
      · have hv : wideV names at_ l[i] = 1099511627776 := if_neg (fun h => hmem (idx_mem.1 h))
        rw [hv] at ih
        refine Ev.congr (fun k => ?_) ih
        rw [idx_none hmem, if_neg kq2, if_pos hlen]
theorem connB_wants (a b : Bool) : ∀ i : Nat, i < 4 → rdOf false (if a = true then [b, true, b, (a == b)] else [false, b, true, (a == b)]) (i : Int) = connB (3 + (i : Int)) a b
  | 0, _ => by cases a <;> cases b <;> rfl
  | 1, _ => by cases a <;> cases b <;> rfl
  | 2, _ => by cases a <;> cases b <;> rfl
  | 3, _ => by cases a <;> cases b <;> rfl
theorem connects_more (t u : S39) (ht : FitF t) (names : List ByteArray) (at_ : List Int) (s : ByteArray) (het : errF t = 0) (hN : names = canon (freeF t ++ freeF u)) (hl : names.length = at_.length) (hv : Nums at_) (hr : risesB none names = true) (hnl : names.length ≤ 1000) : Ev (fun k => tabardlaw10_TruthConnects.j5 k s (formA t names at_).2 names at_ (formA t names at_).1 false t.f0 t.f1 t.f2 t.f3 t.f4) true := by
  have hmt : ∀ x ∈ freeF t, x ∈ names := fun x hx => by rw [hN]; exact mem_canon.2 (List.mem_append_left _ hx)
  have hA := formA_fit (vals := at_) het (fitA_in hr hl hmt)
  have stop : ∀ x : Bool, Ev (fun k => tabardlaw10_TruthConnects.j6 k s names at_ x true t.f0 t.f1 t.f2 t.f3 t.f4) true := fun x => Ev.step (f := fun _ => some true) (fun k => by
    show tabardlaw10_TruthConnects.j6 (k + 1) _ _ _ _ _ _ _ _ _ _ = _
    rw [tabardlaw10_TruthConnects.j6, if_pos rfl]) (Ev.now _)
  rw [hA]
  by_cases hp : plainF t = true
  · rw [if_pos hp]
    by_cases hs : nameB s = true
    · refine Ev.step (f := fun k => (glyph_Index.f k names s).bind fun j => tabardlaw10_TruthConnects.j6 k s names at_ (holdZ (look names at_) t) (decide (j ≥ 0)) t.f0 t.f1 t.f2 t.f3 t.f4) (fun k => ?_) (Ev.bind (index_ev names s kq1) ?_)
      · show tabardlaw10_TruthConnects.j5 (k + 1) _ _ _ _ _ _ _ _ _ _ _ = _
        rw [tabardlaw10_TruthConnects.j5, if_neg kq2, if_pos rfl]
        unfold glyph_Name.f
        rw [Option.bind_some, if_pos hs]
      · by_cases hm : s ∈ names
        · rw [decide_eq_true (idx_mem.2 hm)]
          exact stop _
        · rw [idx_none hm, show decide ((-1 : Int) ≥ 0) = false by decide]
          have hgr := (risesB_none names).1 hr
          have hW := more_sorted hgr.2 hgr.1 hs hm kq1
          have hwl : (sortedS (names ++ [s])).length = names.length + 1 := by rw [sortedS_length, List.length_append, List.length_singleton]
          have hmw : ∀ x, x ∈ sortedS (names ++ [s]) ↔ x ∈ names ∨ x = s := fun x => by rw [mem_sortedS, List.mem_append, List.mem_singleton]
          have hrw : risesB none (sortedS (names ++ [s])) = true := (risesB_none _).2 ⟨fun x hx => by
            rcases (hmw x).1 hx with h | h
            · exact hgr.1 x h
            · rw [h]; exact hs, rise_sorted (by
            rw [List.map_append, List.nodup_append]
            refine ⟨rise_nodup hgr.2, by simp, fun a ha b hb e => ?_⟩
            obtain ⟨x, hx, rfl⟩ := List.mem_map.1 ha
            have hb2 : b = bl s := by simpa using hb
            rw [hb2] at e
            exact hm (by rw [← bl_inj e]; exact hx))⟩
          generalize hw : sortedS (names ++ [s]) = wide at *
          have hnum : Nums (wide.map (wideV names at_)) := fun v hvm => by
            obtain ⟨x, _, rfl⟩ := List.mem_map.1 hvm
            unfold wideV
            split
            · exact look_in hv x
            · decide
          have hB := Formula_ev ht wide (wide.map (wideV names at_)) kq1 hnum
          rw [formA_fit het (fitA_in hrw (by rw [List.length_map]) fun x hx => (hmw x).2 (.inl (hmt x hx))), if_pos hp] at hB
          have hcg : holdZ (look wide (wide.map (wideV names at_))) t = holdZ (look names at_) t := holdZ_congr _ _ t hp fun x hx => by
            have h1 := look_map (wideV names at_) (i := 0) ((hmw x).2 (.inl (hmt x hx)))
            have h2 : wideV names at_ x = look names at_ x := if_pos (idx_mem.2 (hmt x hx))
            rw [← h2, ← h1]
            unfold look rd
            rw [Int.sub_zero]
          rw [hcg] at hB
          have hend : Ev (fun k => tabardlaw10_TruthConnects.l1 k names at_ (holdZ (look names at_) t) wide (wide.map (wideV names at_)) wide (wide.length : Int) (wide.length : Int) t.f0 t.f1 t.f2 t.f3 t.f4) true := by
            refine Ev.step (f := fun k => (truth_Formula.f k t.f0 t.f1 t.f2 t.f3 t.f4 wide (wide.map (wideV names at_))).bind fun b => if b.2 = 0 then some (b.1 == holdZ (look names at_) t) else some false) (fun k => ?_) (Ev.bind hB ?_)
            · show tabardlaw10_TruthConnects.l1 (k + 1) _ _ _ _ _ _ _ _ _ _ _ _ _ = _
              rw [tabardlaw10_TruthConnects.l1, if_neg kq1]
            · refine Ev.congr (fun k => ?_) (Ev.now true)
              rw [if_pos rfl]
              simp
          have hloop := wide_loop names at_ (holdZ (look names at_) t) wide wide t hl kq1 kq1 true hend _ 0 (Nat.zero_le _) rfl
          rw [List.take_zero, List.map_nil] at hloop
          refine Ev.step (f := fun k => (glyph_Sorted.f k (names ++ [s])).bind fun b => if b.2 = 0 then tabardlaw10_TruthConnects.l1 k names at_ (holdZ (look names at_) t) b.1 ([] : List Int) b.1 (b.1.length : Int) ((0 : Nat) : Int) t.f0 t.f1 t.f2 t.f3 t.f4 else some false) (fun k => ?_) (Ev.bind hW (Ev.congr (fun k => if_pos rfl) hloop))
          show tabardlaw10_TruthConnects.j6 (k + 1) _ _ _ _ _ _ _ _ _ _ = _
          rw [tabardlaw10_TruthConnects.j6, if_neg kq2, Option.bind_some, List.nil_append, if_pos (by simp; omega), Option.bind_some, if_pos kq1]
          rfl
    · refine Ev.step (fun k => ?_) (stop (holdZ (look names at_) t))
      show tabardlaw10_TruthConnects.j5 (k + 1) _ _ _ _ _ _ _ _ _ _ _ = _
      rw [tabardlaw10_TruthConnects.j5, if_neg kq2, if_pos rfl]
      unfold glyph_Name.f
      rw [Option.bind_some, if_neg hs]
  · rw [if_neg hp]
    refine Ev.step (fun k => ?_) (stop false)
    show tabardlaw10_TruthConnects.j5 (k + 1) _ _ _ _ _ _ _ _ _ _ _ = _
    rw [tabardlaw10_TruthConnects.j5, if_neg kq2, if_neg kq2]
theorem connects_not (t u : S39) (ht : FitF t) (names : List ByteArray) (at_ : List Int) (s : ByteArray) (het : errF t = 0) (hN : names = canon (freeF t ++ freeF u)) (hl : names.length = at_.length) (hv : Nums at_) (hr : risesB none names = true) (hnl : names.length ≤ 1000) (y : Int) (ws : List Bool) : Ev (fun k => tabardlaw10_TruthConnects.l0 k s (formA t names at_).2 y names at_ (formA t names at_).1 ws 4 ((4 : Nat) : Int) t.f0 t.f1 t.f2 t.f3 t.f4 u.f0 u.f1 u.f2 u.f3 u.f4) true := by
  have hmt : ∀ x ∈ freeF t, x ∈ names := fun x hx => by rw [hN]; exact mem_canon.2 (List.mem_append_left _ hx)
  have hA := formA_fit (vals := at_) het (fitA_in hr hl hmt)
  have hmore := connects_more t u ht names at_ s het hN hl hv hr hnl
  have hB := Formula_ev (FitF_not ht) names at_ kq1 hv
  have hC : tree_Check.f 2 (⟨#[]⟩ : ByteArray) 0 ([] : List S66) [t] = some (errF (notF t)) := Check_eq (notF t)
  refine Ev.step (f := fun k => (truth_Formula.f k 2 (⟨#[]⟩ : ByteArray) 0 ([] : List S66) [t] names at_).bind fun b => if errF (notF t) = 0 then (if b.2 = (formA t names at_).2 then (if (formA t names at_).2 = 0 then tabardlaw10_TruthConnects.j5 k s (formA t names at_).2 names at_ (formA t names at_).1 (b.1 == (formA t names at_).1) t.f0 t.f1 t.f2 t.f3 t.f4 else tabardlaw10_TruthConnects.j5 k s (formA t names at_).2 names at_ (formA t names at_).1 false t.f0 t.f1 t.f2 t.f3 t.f4) else tabardlaw10_TruthConnects.j5 k s (formA t names at_).2 names at_ (formA t names at_).1 true t.f0 t.f1 t.f2 t.f3 t.f4) else tabardlaw10_TruthConnects.j5 k s (formA t names at_).2 names at_ (formA t names at_).1 false t.f0 t.f1 t.f2 t.f3 t.f4) (fun k => ?_) (Ev.bind hB ?_)
  · show tabardlaw10_TruthConnects.l0 (k + 1) _ _ _ _ _ _ _ _ _ _ _ _ _ _ _ _ _ _ _ = _
    rw [tabardlaw10_TruthConnects.l0, if_neg kq2, Option.bind_some, eta39, hC]
    rfl
  · by_cases hn : errF (notF t) = 0
    · refine Ev.congr (fun k => if_pos hn) ?_
      have hB2 := formA_fit (vals := at_) hn (fitA_in hr hl (by rw [notF_free]; exact hmt))
      rw [plainF_not, holdZ_not] at hB2
      by_cases hp : plainF t = true
      · rw [if_pos hp] at hA hB2
        rw [hB2]
        rw [hA] at hmore ⊢
        refine Ev.congr (fun k => ?_) hmore
        rw [if_pos rfl, if_pos rfl]
        simp
      · rw [if_neg hp] at hA hB2
        rw [hB2]
        rw [hA] at hmore ⊢
        refine Ev.congr (fun k => ?_) hmore
        rw [if_pos rfl, if_neg kq2]
    · exact Ev.congr (fun k => if_neg hn) hmore
theorem connects_loop (t u : S39) (ht : FitF t) (hu : FitF u) (names : List ByteArray) (at_ : List Int) (s : ByteArray) (het : errF t = 0) (heu : errF u = 0) (hN : names = canon (freeF t ++ freeF u)) (hl : names.length = at_.length) (hv : Nums at_) (hr : risesB none names = true) (hnl : names.length ≤ 1000) (ws : List Bool) (hws : ws = if (formA t names at_).1 = true then [(formA u names at_).1, true, (formA u names at_).1, ((formA t names at_).1 == (formA u names at_).1)] else [false, (formA u names at_).1, true, ((formA t names at_).1 == (formA u names at_).1)]) : ∀ (n i : Nat), i ≤ 4 → 4 - i = n →
    Ev (fun k => tabardlaw10_TruthConnects.l0 k s (formA t names at_).2 (formA u names at_).2 names at_ (formA t names at_).1 ws 4 (i : Int) t.f0 t.f1 t.f2 t.f3 t.f4 u.f0 u.f1 u.f2 u.f3 u.f4) true
  | 0, i, hi, hm => by
    have : i = 4 := by omega
    subst this
    exact connects_not t u ht names at_ s het hN hl hv hr hnl _ ws
  | n + 1, i, hi, hm => by
    have ih := connects_loop t u ht hu names at_ s het heu hN hl hv hr hnl ws hws n (i + 1) kq1 kq1
    have hmt : ∀ x ∈ freeF t, x ∈ names := fun x hx => by rw [hN]; exact mem_canon.2 (List.mem_append_left _ hx)
    have hmu : ∀ x ∈ freeF u, x ∈ names := fun x hx => by rw [hN]; exact mem_canon.2 (List.mem_append_right _ hx)
    have hA := formA_fit (vals := at_) het (fitA_in hr hl hmt)
    have hB := formA_fit (vals := at_) heu (fitA_in hr hl hmu)
    have hwi := connB_wants (formA t names at_).1 (formA u names at_).1 i kq1
    rw [← hws] at hwi
    have hlen : ws.length = 4 := by rw [hws]; split <;> rfl
    have hk : wrap64 (3 + (i : Int)) = 3 + (i : Int) := by unfold wrap64; omega
    have hw : wrap64 ((i : Int) + 1) = ((i + 1 : Nat) : Int) := wrap_add (n := 4) kq1 kq1
    have h3 : (3 : Int) ≤ 3 + (i : Int) := by omega
    have h6 : 3 + (i : Int) ≤ 6 := by omega
    have hC : tree_Check.f (3 + (i : Int)) (⟨#[]⟩ : ByteArray) 0 ([] : List S66) [t, u] = some (errF (joinF (3 + (i : Int)) t u)) := Check_eq (joinF (3 + (i : Int)) t u)
    have hJ := Formula_ev (FitF_join ht hu h3 h6) names at_ kq1 hv
    generalize hX : formA t names at_ = X at *
    generalize hY : formA u names at_ = Y at *
    obtain ⟨x, ex⟩ := X
    obtain ⟨y, ey⟩ := Y
    dsimp only at *
    refine Ev.step (f := fun k => (truth_Formula.f k (3 + (i : Int)) (⟨#[]⟩ : ByteArray) 0 ([] : List S66) [t, u] names at_).bind fun b => if errF (joinF (3 + (i : Int)) t u) = 0 then (if ex = 0 then tabardlaw10_TruthConnects.j3 k s ex ey names at_ x (rdOf false ws (i : Int)) b.1 b.2 ws 4 (i : Int) (ey != 0) t.f0 t.f1 t.f2 t.f3 t.f4 u.f0 u.f1 u.f2 u.f3 u.f4 else tabardlaw10_TruthConnects.j3 k s ex ey names at_ x (rdOf false ws (i : Int)) b.1 b.2 ws 4 (i : Int) true t.f0 t.f1 t.f2 t.f3 t.f4 u.f0 u.f1 u.f2 u.f3 u.f4) else (if b.2 = 0 then some false else if b.1 = true then some false else tabardlaw10_TruthConnects.l0 k s ex ey names at_ x ws 4 ((i + 1 : Nat) : Int) t.f0 t.f1 t.f2 t.f3 t.f4 u.f0 u.f1 u.f2 u.f3 u.f4)) (fun k => ?_) (Ev.bind hJ ?_)
    · show tabardlaw10_TruthConnects.l0 (k + 1) _ _ _ _ _ _ _ _ _ _ _ _ _ _ _ _ _ _ _ = _
      rw [tabardlaw10_TruthConnects.l0, if_pos kq1, if_pos kq1, if_pos kq1, Option.bind_some, eta39, eta39, hk, hC, hw]
      rfl
    · by_cases hn : errF (joinF (3 + (i : Int)) t u) = 0
      · refine Ev.congr (fun k => if_pos hn) ?_
        have hj := formA_fit (vals := at_) hn (fitA_in hr hl (by rw [joinF_free t u h6, ← hN]; exact fun s hs => hs))
        rw [plainF_join t u h3 h6, holdZ_join _ t u h3 h6] at hj
        have kind : ∀ e2 : Bool × Int, e2 = (false, 100) → Ev (fun k => tabardlaw10_TruthConnects.j3 k s ex ey names at_ x (rdOf false ws (i : Int)) e2.1 e2.2 ws 4 (i : Int) true t.f0 t.f1 t.f2 t.f3 t.f4 u.f0 u.f1 u.f2 u.f3 u.f4) true := by
          intro e2 h2
          rw [h2]
          refine Ev.step (f := fun k => tabardlaw10_TruthConnects.j4 k s ex ey names at_ x ws 4 (i : Int) false t.f0 t.f1 t.f2 t.f3 t.f4 u.f0 u.f1 u.f2 u.f3 u.f4) (fun k => ?_) (Ev.step (fun k => ?_) ih)
          · show tabardlaw10_TruthConnects.j3 (k + 1) _ _ _ _ _ _ _ _ _ _ _ _ _ _ _ _ _ _ _ _ _ _ _ = _
            rw [tabardlaw10_TruthConnects.j3, if_pos rfl, if_pos rfl]
          · show tabardlaw10_TruthConnects.j4 (k + 1) _ _ _ _ _ _ _ _ _ _ _ _ _ _ _ _ _ _ _ _ = _
            rw [tabardlaw10_TruthConnects.j4, if_neg kq2, hw]
        by_cases hp : plainF t = true
        · rw [if_pos hp] at hA
          obtain ⟨hx1, hx2⟩ := Prod.mk.inj hA
          subst hx2
          refine Ev.congr (fun k => if_pos rfl) ?_
          by_cases hq : plainF u = true
          · rw [if_pos hq] at hB
            obtain ⟨hy1, hy2⟩ := Prod.mk.inj hB
            subst hy2
            rw [if_pos (by rw [hp, hq]; rfl), ← hx1, ← hy1, ← hwi] at hj
            rw [hj]
            refine Ev.step (fun k => ?_) ih
            show tabardlaw10_TruthConnects.j3 (k + 1) _ _ _ _ _ _ _ _ _ _ _ _ (0 != 0) _ _ _ _ _ _ _ _ _ _ = _
            rw [tabardlaw10_TruthConnects.j3, if_neg kq2, if_pos rfl, if_neg (by simp), hw]
          · rw [if_neg hq] at hB
            obtain ⟨hy1, hy2⟩ := Prod.mk.inj hB
            subst hy2
            rw [if_neg (by rw [hp]; simpa using hq)] at hj
            exact kind _ hj
        · rw [if_neg hp] at hA
          obtain ⟨hx1, hx2⟩ := Prod.mk.inj hA
          subst hx2
          rw [if_neg (fun h => hp (Bool.and_eq_true_iff.1 h).1)] at hj
          exact Ev.congr (fun k => if_neg kq2) (kind _ hj)
      · refine Ev.congr (fun k => if_neg hn) ?_
        have hj : formA (joinF (3 + (i : Int)) t u) names at_ = (false, errF (joinF (3 + (i : Int)) t u)) := if_neg hn
        rw [hj]
        refine Ev.congr (fun k => ?_) ih
        rw [if_neg hn, if_neg (show ¬ (false = true) from Bool.noConfusion)]
theorem TruthConnects_ev {t u : S39} (ht : FitF t) (hu : FitF u) {l : List Int} (hv : Nums l) (s : ByteArray) : Ev (fun k => tabardlaw10_TruthConnects.f k t.f0 t.f1 t.f2 t.f3 t.f4 u.f0 u.f1 u.f2 u.f3 u.f4 l s) true := by
  refine Ev.bind fixed10_ev (Ev.congr (fun k => if_pos rfl) ?_)
  have hft := Free_ev t
  have hfu := Free_ev u
  have stop : ∀ a b : List ByteArray, Ev (fun k => tabardlaw10_TruthConnects.j0 k l s a b true t.f0 t.f1 t.f2 t.f3 t.f4 u.f0 u.f1 u.f2 u.f3 u.f4) true := fun a b => Ev.step (f := fun _ => some true) (fun k => by
    show tabardlaw10_TruthConnects.j0 (k + 1) _ _ _ _ _ _ _ _ _ _ _ _ _ _ _ = _
    rw [tabardlaw10_TruthConnects.j0, if_pos rfl]) (Ev.now _)
  by_cases het : errF t = 0
  · refine Ev.bind (Free_fine het) ?_
    by_cases heu : errF u = 0
    · refine Ev.bind (Free_fine heu) (Ev.congr (fun k => if_pos rfl) ?_)
      obtain ⟨rt, ct, _⟩ := (errF_iff t).1 het
      obtain ⟨ru, cu, _⟩ := (errF_iff u).1 heu
      have hl1 := freeF_len t
      have hl2 := freeF_len u
      have hcl := canon_length (freeF t ++ freeF u)
      rw [List.length_append] at hcl
      have hU := union_ev (freeF t) (freeF u) kq1 kq1
      unfold unionA at hU
      rw [if_pos (freeF_rises rt), if_pos (freeF_rises ru)] at hU
      obtain ⟨L, hL1, hL2, hL3⟩ := first_ev hv (canon (freeF t ++ freeF u)).length kq1
      have hr : risesB none (canon (freeF t ++ freeF u)) = true := (risesB_none _).2 ⟨fun x hx => by
        rcases List.mem_append.1 (mem_canon.1 hx) with h | h
        · exact freeF_good t rt x h
        · exact freeF_good u ru x h, canon_rise _⟩
      generalize hN : canon (freeF t ++ freeF u) = names at *
      have hA := Formula_ev ht names L kq1 hL2
      have hB := Formula_ev hu names L kq1 hL2
      refine Ev.step (f := fun k => (glyph_Union.f k (freeF t) (freeF u)).bind fun b => if b.2 = 0 then ((tabardlaw10_first.f k l (b.1.length : Int)).bind fun v => (truth_Formula.f k t.f0 t.f1 t.f2 t.f3 t.f4 b.1 v).bind fun x => (truth_Formula.f k u.f0 u.f1 u.f2 u.f3 u.f4 b.1 v).bind fun y => if x.1 = true then tabardlaw10_TruthConnects.j1 k s x.2 y.2 b.1 v x.1 [y.1, true, y.1, (x.1 == y.1)] t.f0 t.f1 t.f2 t.f3 t.f4 u.f0 u.f1 u.f2 u.f3 u.f4 else tabardlaw10_TruthConnects.j1 k s x.2 y.2 b.1 v x.1 [false, y.1, true, (x.1 == y.1)] t.f0 t.f1 t.f2 t.f3 t.f4 u.f0 u.f1 u.f2 u.f3 u.f4) else some false) (fun k => ?_) (Ev.bind hU (Ev.congr (fun k => if_pos rfl) (Ev.bind hL3 (Ev.bind hA (Ev.bind hB ?_)))))
      · show tabardlaw10_TruthConnects.j0 (k + 1) _ _ _ _ (0 != 0) _ _ _ _ _ _ _ _ _ _ = _
        rw [tabardlaw10_TruthConnects.j0, if_neg kq2]
      · have key := connects_loop t u ht hu names L s het heu hN.symm hL1.symm hL2 hr kq1 _ rfl _ 0 (Nat.zero_le _) rfl
        by_cases hx : (formA t names L).1 = true
        · refine Ev.congr (fun k => if_pos hx) (Ev.step (fun k => ?_) key)
          show tabardlaw10_TruthConnects.j1 (k + 1) _ _ _ _ _ _ _ _ _ _ _ _ _ _ _ _ _ = _
          rw [tabardlaw10_TruthConnects.j1, if_pos hx]
          rfl
        · refine Ev.congr (fun k => if_neg hx) (Ev.step (fun k => ?_) key)
          show tabardlaw10_TruthConnects.j1 (k + 1) _ _ _ _ _ _ _ _ _ _ _ _ _ _ _ _ _ = _
          rw [tabardlaw10_TruthConnects.j1, if_neg hx]
          rfl
    · unfold freeA at hfu
      rw [if_neg (show ¬ (measF u 1 (0, 0, 0)).2.2 = 0 from heu)] at hfu
      refine Ev.bind hfu (Ev.congr (fun k => if_pos rfl) ?_)
      rw [show ((measF u 1 (0, 0, 0)).2.2 != 0) = true from bne_iff_ne.2 heu]
      exact stop _ _
  · unfold freeA at hft
    rw [if_neg (show ¬ (measF t 1 (0, 0, 0)).2.2 = 0 from het)] at hft
    exact Ev.bind hft (Ev.bind hfu (Ev.congr (fun k => if_neg het) (stop _ _)))
theorem TruthConnects_row {t u : S39} (ht : FitF t) (hu : FitF u) {l : List Int} (_ : l.length * 8 ≤ 140737488351232) (hv : ∀ p ∈ l, fitI p) {s : ByteArray} (_ : s.size ≤ 140737488351232) : Ev (fun k => tabardlaw10_TruthConnects.f k t.f0 t.f1 t.f2 t.f3 t.f4 u.f0 u.f1 u.f2 u.f3 u.f4 l s) true := TruthConnects_ev ht hu (Nums_of hv) s
end Go.Proofs.Ytjknpmibdkoklaa.U
set_option maxRecDepth 100000
namespace Go.Proofs.Ytjknpmibdkoklaa.U
open Go.ChangeShapes Go.WideShapes Go.RowKit Go.Proofs.YtjknpmibdkoklaaW.PrintWords Go.Proofs.YtjknpmibdkoklaaW.PrintLast Go.Proofs.YtjknpmibdkoklaaW.PrintMore
section
variable {H : Type} {enc : TypeId × Value → H} {W : World} {base : Nat} {spare : Nat → Bool} {held : Bool}
theorem ints_arg {fuel : Nat} {cs : List Value} {x : DataW H × List MemPlace} (h : DataW.trod enc Try.prog W base spare held fuel 55 cs = some x) (hw : ∀ m ∈ x.1.weights Try.prog 55, m ≤ reachBytes) :
    ∃ A l c, cs = [.slice A l.length c] ∧ l.length ≤ c ∧ Kd.C (Kd.int .i64) W A l.length l ∧ l.length * 8 ≤ 140737488351232 ∧ ∀ p ∈ l, fitI p :=
  row_arg (Kd.int .i64) fitI 8 Try.underlying55 kq0 kq0 (fun m _ cs x h _ => by
    obtain ⟨a, rfl, ha⟩ := int_arg Try.underlying2 h
    exact ⟨a, rfl, rfl, ha⟩) h hw
theorem open_ints {v : Value} {d : DataW H} {ps : List MemPlace} {r : Reach} {b0 : Nat} (hv : Value.okWide Try.prog W r b0 55 v) (h : DataW.Trod enc Try.prog W base spare held 55 v d ps) (hw : ∀ m ∈ d.weights Try.prog 55, m ≤ reachBytes) :
    ∃ (A : Option Addr) (l : List Int) (c : Nat), v = .slice A l.length c ∧ l.length ≤ c ∧ Kd.C (Kd.int .i64) W A l.length l ∧ l.length * 8 ≤ 140737488351232 ∧ ∀ p ∈ l, fitI p := by
  obtain ⟨fuel, hf⟩ := h
  obtain ⟨A, l, c, he, h1, h2, h3, h4⟩ := ints_arg hf hw
  obtain ⟨A', n', c', rfl⟩ := okWide_slice Try.underlying55 hv
  have e : (Value.slice A' n' c') = .slice A l.length c := by simpa [Value.cells] using he
  exact ⟨A, l, c, e, h1, h2, h3, h4⟩
end
end Go.Proofs.Ytjknpmibdkoklaa.U
