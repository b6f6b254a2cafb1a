/- Functions of the given program as Lean functions, each with its contract, and what they answer; words for it. No condition but those of each. -/
import Derived.Test.YtjknpmibdkoklaaMG6
import Derived.LoopTactic
import Derived.Shelf.Abstract
set_option maxRecDepth 100000
namespace Go.Proofs.Ytjknpmibdkoklaa.Q
open Go.RowKit Go.Proofs.YtjknpmibdkoklaaW.PrintWords Go.Proofs.YtjknpmibdkoklaaW.PrintLast Go.Proofs.YtjknpmibdkoklaaW.PrintMore
open Aside0 (mk)
theorem cell_far {w : World} {a : Addr} {v : Value} (h : w.cell? a = some v) {g : Nat} (hp : a.block ≠ g) (i : Nat) (u : Value) : (w.setCell ⟨g, i, none⟩ u).cell? a = some v := by
  have := Below.heap_setCell w ⟨g, i, none⟩ u a.block hp
  simpa [World.cell?, this] using h
mutual
def sameT : S66 → S66 → Bool
  | ⟨x0, x1, x2, x3⟩, u => ((x0 == u.f0) && ((x1 == u.f1) && (decide (x2 = u.f2) && sameTs x3 u.f3)))
def sameTs : List S66 → List S66 → Bool
  | [], q => q.isEmpty
  | t :: l, q => match q with
    | [] => false
    | u :: q => sameT t u && sameTs l q
end
theorem sameT_eq (t u : S66) : sameT t u = ((t.f0 == u.f0) && ((t.f1 == u.f1) && (decide (t.f2 = u.f2) && sameTs t.f3 u.f3))) := by cases t; rw [sameT]
theorem sameTs_len : ∀ {l q : List S66}, l.length ≠ q.length → sameTs l q = false
  | [], [], h => absurd rfl h
  | [], _ :: _, _ => by rw [sameTs]; rfl
  | _ :: _, [], _ => by rw [sameTs]
  | t :: l, u :: q, h => by
    rw [sameTs]
    show (sameT t u && sameTs l q) = false
    rw [sameTs_len (fun e => h (by simp [e])), Bool.and_false]
theorem sameTs_drop {l q : List S66} {i : Nat} (h0 : i < l.length) (h1 : i < q.length) : sameTs (l.drop i) (q.drop i) = (sameT l[i] q[i] && sameTs (l.drop (i + 1)) (q.drop (i + 1))) := by
  rw [List.drop_eq_getElem_cons h0, List.drop_eq_getElem_cons h1, sameTs]
set_option maxHeartbeats 8000000 in
theorem eqT_calls (l0 l1 : List S66) (A0 : Option Addr) (c0 : Nat) (A1 : Option Addr) (c1 : Nat) (w : World) (hr0 : Kd.C k66 w A0 l0.length l0) (hr1 : Kd.C k66 w A1 l1.length l1)
    (ih : ∀ (i : Nat) (h0 : i < l0.length) (h1 : i < l1.length) (Af3 : Option Addr) (af3 : Nat) (Bf3 : Option Addr) (bf3 : Nat) (W : World), Below w.heap.size w W → Kd.C k66 W Af3 l0[i].f3.length l0[i].f3 → l0[i].f3.length ≤ af3 → Kd.C k66 W Bf3 l1[i].f3.length l1[i].f3 → l1[i].f3.length ≤ bf3 → Calls Try.prog 115 #[.agg #[.int .i64 l0[i].f0, .int .i64 l0[i].f1, .string l0[i].f2, .slice Af3 l0[i].f3.length af3], .agg #[.int .i64 l1[i].f0, .int .i64 l1[i].f1, .string l1[i].f2, .slice Bf3 l1[i].f3.length bf3]] W fun e w' => e = .returned (.bool (sameT l0[i] l1[i])) ∧ Below W.heap.size W w') :
    Calls Try.prog 114 #[.slice A0 l0.length c0, .slice A1 l1.length c1, .func (.func 115) #[] #[]] w fun e w' => e = .returned (.bool (sameTs l0 l1)) ∧ Below w.heap.size w w' := by
  have hu66 := Try.underlying66
  have hu39 := Try.underlying39
  have IH := mk ih
  have hlen0 := hr0.2.1
  clear ih
  by_cases hl : l0.length = l1.length
  · rw [← hl]
    rw [← hl] at hr1
    have HR0 := mk hr0
    have HR1 := mk hr1
    have HL := mk hl
    clear hr0 hr1 hl
    have HB0 := mk (Below.refl w.heap.size w)
    go_enter Try.func114, Try.ntmps114
    go_wp2
    go_loopg [7, 17] l0.length (fun gq v7 v17 wr => ∃ (i : Nat), v17 = .int .i64 i ∧ Aside0 (i ≤ l0.length) ∧ Aside0 (l0.length - i ≤ gq) ∧ Aside0 (sameTs (l0.drop i) (l1.drop i) = sameTs l0 l1) ∧ Aside0 (Below w.heap.size w wr))
    case atStart => exact ⟨0, rfl, ⟨Nat.zero_le _⟩, ⟨by omega⟩, ⟨by rw [List.drop_zero, List.drop_zero]⟩, ⟨HB0.out⟩⟩
    case round =>
      obtain ⟨i, rfl, HI, HQ, HM, HB⟩ := hrel
      by_cases hi : i < l0.length
      · have hi1 : i < l1.length := by have := HL.out; omega
        have hiz : (i : Int) < (l0.length : Int) := by omega
        have hi0 : (0 : Int) ≤ (i : Int) := by omega
        obtain ⟨ad, Af3, af3, ae, ax0, ax1, ax2, ax3, alf3, aif3⟩ := at_T66 HR0.out (i : Int) hi0 hiz
        cases ae
        have ahx : rd_T66 l0 (i : Int) = l0[i] := by simp [rd_T66, hi]
        rw [ahx] at ax0 ax1 ax2 ax3 alf3 aif3
        rw [Int.toNat_natCast] at ax0 ax1 ax2 ax3
        replace ax0 := (HB.out.cell (World.block_lt_of_cell? _ _ ax0)).trans ax0
        replace ax1 := (HB.out.cell (World.block_lt_of_cell? _ _ ax1)).trans ax1
        replace ax2 := (HB.out.cell (World.block_lt_of_cell? _ _ ax2)).trans ax2
        replace ax3 := (HB.out.cell (World.block_lt_of_cell? _ _ ax3)).trans ax3
        obtain ⟨bd, Bf3, bf3, be, bx0, bx1, bx2, bx3, blf3, bif3⟩ := at_T66 HR1.out (i : Int) hi0 hiz
        cases be
        have bhx : rd_T66 l1 (i : Int) = l1[i] := by simp [rd_T66, hi1]
        rw [bhx] at bx0 bx1 bx2 bx3 blf3 bif3
        rw [Int.toNat_natCast] at bx0 bx1 bx2 bx3
        replace bx0 := (HB.out.cell (World.block_lt_of_cell? _ _ bx0)).trans bx0
        replace bx1 := (HB.out.cell (World.block_lt_of_cell? _ _ bx1)).trans bx1
        replace bx2 := (HB.out.cell (World.block_lt_of_cell? _ _ bx2)).trans bx2
        replace bx3 := (HB.out.cell (World.block_lt_of_cell? _ _ bx3)).trans bx3
        have hcall := fun (W : World) (hW : Below w.heap.size w W) => IH.out i hi hi1 Af3 af3 Bf3 bf3 W hW (Kd.C_below aif3 hW) alf3 (Kd.C_below bif3 hW) blf3
        have HMD := mk ((sameTs_drop hi hi1).symm.trans HM.out)
        have HCALL := mk hcall
        clear hcall HM ahx bhx alf3 aif3 blf3 bif3
        generalize l0[i] = x at ax0 ax1 ax2 ax3 HMD HCALL
        generalize l1[i] = y at bx0 bx1 bx2 bx3 HMD HCALL
        cases hy : sameT x y with
        | true =>
          rw [hy] at HMD HCALL
          go_wp2_with (first | ((with_reducible refine gate_dst (N := 8) rfl ?_); refine box_event ?hg (N := 8) ?hd (cs := #[.int .i64 0, .int .i64 0, .string (⟨#[]⟩ : ByteArray), .slice none 0 0]) (t := 66) ?hr ?_; (case hd => rfl); (case hg => rfl); (case hr => first | (go_simp; done) | (go_simp; rfl)); intro g8 hg8 w4 hbox hb; have hlt8 : (bd.add (i * 4)).block < g8 := (by have := World.block_lt_of_cell? _ _ bx0; have := Nat.le_of_eq hg8.symm; omega); have BK8 := mk hbox; have HB8 := mk (below_step HB.out hb); have L8 := mk (show w.heap.size ≤ g8 by have := Nat.le_of_eq hg8.symm; have := HB.out.size; omega); have uc0 : w4.cell? ⟨g8, 0, none⟩ = some (.int .i64 0) := (blk_cell BK8.out 0).trans rfl; have uf0 := blk_frozen BK8.out 0; have uc1 : w4.cell? ⟨g8, 1, none⟩ = some (.int .i64 0) := (blk_cell BK8.out 1).trans rfl; have uf1 := blk_frozen BK8.out 1; have uc2 : w4.cell? ⟨g8, 2, none⟩ = some (.string (⟨#[]⟩ : ByteArray)) := (blk_cell BK8.out 2).trans rfl; have uf2 := blk_frozen BK8.out 2; have uc3 : w4.cell? ⟨g8, 3, none⟩ = some (.slice none 0 0) := (blk_cell BK8.out 3).trans rfl; have uf3 := blk_frozen BK8.out 3; replace bx0 := (hb.cell (World.block_lt_of_cell? _ _ bx0)).trans bx0; replace bx1 := (hb.cell (World.block_lt_of_cell? _ _ bx1)).trans bx1; replace bx2 := (hb.cell (World.block_lt_of_cell? _ _ bx2)).trans bx2; replace bx3 := (hb.cell (World.block_lt_of_cell? _ _ bx3)).trans bx3; have kx0 : ((((w4.setCell ⟨g8, 0, none⟩ (.int .i64 x.f0)).setCell ⟨g8, 1, none⟩ (.int .i64 x.f1)).setCell ⟨g8, 2, none⟩ (.string x.f2)).setCell ⟨g8, 3, none⟩ (.slice Af3 x.f3.length af3)).cell? (bd.add (i * 4)) = some (.int .i64 y.f0) := cell_far (cell_far (cell_far (cell_far (bx0) (Nat.ne_of_lt hlt8) 0 _) (Nat.ne_of_lt hlt8) 1 _) (Nat.ne_of_lt hlt8) 2 _) (Nat.ne_of_lt hlt8) 3 _; have kx1 : ((((w4.setCell ⟨g8, 0, none⟩ (.int .i64 x.f0)).setCell ⟨g8, 1, none⟩ (.int .i64 x.f1)).setCell ⟨g8, 2, none⟩ (.string x.f2)).setCell ⟨g8, 3, none⟩ (.slice Af3 x.f3.length af3)).cell? ⟨(bd.add (i * 4)).block, (bd.add (i * 4)).off + 1, none⟩ = some (.int .i64 y.f1) := cell_far (cell_far (cell_far (cell_far (bx1) (Nat.ne_of_lt hlt8) 0 _) (Nat.ne_of_lt hlt8) 1 _) (Nat.ne_of_lt hlt8) 2 _) (Nat.ne_of_lt hlt8) 3 _; have kx2 : ((((w4.setCell ⟨g8, 0, none⟩ (.int .i64 x.f0)).setCell ⟨g8, 1, none⟩ (.int .i64 x.f1)).setCell ⟨g8, 2, none⟩ (.string x.f2)).setCell ⟨g8, 3, none⟩ (.slice Af3 x.f3.length af3)).cell? ⟨(bd.add (i * 4)).block, (bd.add (i * 4)).off + 2, none⟩ = some (.string y.f2) := cell_far (cell_far (cell_far (cell_far (bx2) (Nat.ne_of_lt hlt8) 0 _) (Nat.ne_of_lt hlt8) 1 _) (Nat.ne_of_lt hlt8) 2 _) (Nat.ne_of_lt hlt8) 3 _; have kx3 : ((((w4.setCell ⟨g8, 0, none⟩ (.int .i64 x.f0)).setCell ⟨g8, 1, none⟩ (.int .i64 x.f1)).setCell ⟨g8, 2, none⟩ (.string x.f2)).setCell ⟨g8, 3, none⟩ (.slice Af3 x.f3.length af3)).cell? ⟨(bd.add (i * 4)).block, (bd.add (i * 4)).off + 3, none⟩ = some (.slice Bf3 y.f3.length bf3) := cell_far (cell_far (cell_far (cell_far (bx3) (Nat.ne_of_lt hlt8) 0 _) (Nat.ne_of_lt hlt8) 1 _) (Nat.ne_of_lt hlt8) 2 _) (Nat.ne_of_lt hlt8) 3 _; have BK8d := mk (show ((((w4.setCell ⟨g8, 0, none⟩ (.int .i64 x.f0)).setCell ⟨g8, 1, none⟩ (.int .i64 x.f1)).setCell ⟨g8, 2, none⟩ (.string x.f2)).setCell ⟨g8, 3, none⟩ (.slice Af3 x.f3.length af3)).heap[g8]? = some (.cells #[.int .i64 x.f0, .int .i64 x.f1, .string x.f2, .slice Af3 x.f3.length af3] 66 (0, 0)) from blk_set (blk_set (blk_set (blk_set (BK8.out) 0 _) 1 _) 2 _) 3 _); clear hb hbox hg8 hlt8) | ((with_reducible refine gate_dst (N := 9) rfl ?_); refine box_event ?hg (N := 9) ?hd (cs := #[.int .i64 0, .int .i64 0, .string (⟨#[]⟩ : ByteArray), .slice none 0 0]) (t := 66) ?hr ?_; (case hd => rfl); (case hg => rfl); (case hr => first | (go_simp; done) | (go_simp; rfl)); intro g9 hg9 w5 hbox hb; have BK9 := mk hbox; have HB9 := mk (below_step (by repeat (first | exact HB8.out | refine below_set ?_ L8.out)) hb); have BK8b : w5.heap[g8]? = some (.cells #[.int .i64 x.f0, .int .i64 x.f1, .string x.f2, .slice Af3 x.f3.length af3] 66 (0, 0)) := blk_below BK8d.out hb; have BK8c := mk BK8b; have N89 : g8 ≠ g9 := (by have h1 := blk_lt BK8d.out; have := Nat.le_of_eq hg9.symm; omega); have N98 : g9 ≠ g8 := N89.symm; have L9 := mk (show w.heap.size ≤ g9 by have := HB9.out.size; have h2 := L8.out; have h1 := blk_lt BK8d.out; have := Nat.le_of_eq hg9.symm; omega); clear BK8b; have vc0 : w5.cell? ⟨g9, 0, none⟩ = some (.int .i64 0) := (blk_cell BK9.out 0).trans rfl; have vf0 := blk_frozen BK9.out 0; have vc1 : w5.cell? ⟨g9, 1, none⟩ = some (.int .i64 0) := (blk_cell BK9.out 1).trans rfl; have vf1 := blk_frozen BK9.out 1; have vc2 : w5.cell? ⟨g9, 2, none⟩ = some (.string (⟨#[]⟩ : ByteArray)) := (blk_cell BK9.out 2).trans rfl; have vf2 := blk_frozen BK9.out 2; have vc3 : w5.cell? ⟨g9, 3, none⟩ = some (.slice none 0 0) := (blk_cell BK9.out 3).trans rfl; have vf3 := blk_frozen BK9.out 3; have rc0 : w5.cell? ⟨g8, 0, none⟩ = some (.int .i64 x.f0) := (blk_cell BK8c.out 0).trans rfl; have rf0 := blk_frozen BK8c.out 0; have rc1 : w5.cell? ⟨g8, 1, none⟩ = some (.int .i64 x.f1) := (blk_cell BK8c.out 1).trans rfl; have rf1 := blk_frozen BK8c.out 1; have rc2 : w5.cell? ⟨g8, 2, none⟩ = some (.string x.f2) := (blk_cell BK8c.out 2).trans rfl; have rf2 := blk_frozen BK8c.out 2; have rc3 : w5.cell? ⟨g8, 3, none⟩ = some (.slice Af3 x.f3.length af3) := (blk_cell BK8c.out 3).trans rfl; have rf3 := blk_frozen BK8c.out 3; have ky0 : ((((w5.setCell ⟨g9, 0, none⟩ (.int .i64 y.f0)).setCell ⟨g9, 1, none⟩ (.int .i64 y.f1)).setCell ⟨g9, 2, none⟩ (.string y.f2)).setCell ⟨g9, 3, none⟩ (.slice Bf3 y.f3.length bf3)).cell? ⟨g8, 0, none⟩ = some (.int .i64 x.f0) := (blk_cell (blk_far (blk_far (blk_far (blk_far (BK8c.out) N89 _) N89 _) N89 _) N89 _) 0).trans rfl; have ky1 : ((((w5.setCell ⟨g9, 0, none⟩ (.int .i64 y.f0)).setCell ⟨g9, 1, none⟩ (.int .i64 y.f1)).setCell ⟨g9, 2, none⟩ (.string y.f2)).setCell ⟨g9, 3, none⟩ (.slice Bf3 y.f3.length bf3)).cell? ⟨g8, 1, none⟩ = some (.int .i64 x.f1) := (blk_cell (blk_far (blk_far (blk_far (blk_far (BK8c.out) N89 _) N89 _) N89 _) N89 _) 1).trans rfl; have ky2 : ((((w5.setCell ⟨g9, 0, none⟩ (.int .i64 y.f0)).setCell ⟨g9, 1, none⟩ (.int .i64 y.f1)).setCell ⟨g9, 2, none⟩ (.string y.f2)).setCell ⟨g9, 3, none⟩ (.slice Bf3 y.f3.length bf3)).cell? ⟨g8, 2, none⟩ = some (.string x.f2) := (blk_cell (blk_far (blk_far (blk_far (blk_far (BK8c.out) N89 _) N89 _) N89 _) N89 _) 2).trans rfl; have ky3 : ((((w5.setCell ⟨g9, 0, none⟩ (.int .i64 y.f0)).setCell ⟨g9, 1, none⟩ (.int .i64 y.f1)).setCell ⟨g9, 2, none⟩ (.string y.f2)).setCell ⟨g9, 3, none⟩ (.slice Bf3 y.f3.length bf3)).cell? ⟨g8, 3, none⟩ = some (.slice Af3 x.f3.length af3) := (blk_cell (blk_far (blk_far (blk_far (blk_far (BK8c.out) N89 _) N89 _) N89 _) N89 _) 3).trans rfl; clear hb hbox hg9) | (go_at_call 115; refine (HCALL.out _ (by repeat (first | exact HB9.out | refine below_set ?_ L9.out))).mono ?_; rintro e w6 ⟨rfl, hb⟩; have HB6 := mk (below_step (by repeat (first | exact HB9.out | refine below_set ?_ L9.out)) hb); clear hb))
          go_roundg (l0.length - (i + 1))
          case measure => have := HQ.out; omega
          case rel => exact ⟨i + 1, by first | rfl | rw [show wrap64 ((i : Int) + 1) = ((i + 1 : Nat) : Int) from by unfold wrap64; omega], ⟨by omega⟩, ⟨by omega⟩, ⟨by have := HMD.out; simpa using this⟩, HB6⟩
        | false =>
          rw [hy] at HMD HCALL
          go_wp2_with (first | ((with_reducible refine gate_dst (N := 8) rfl ?_); refine box_event ?hg (N := 8) ?hd (cs := #[.int .i64 0, .int .i64 0, .string (⟨#[]⟩ : ByteArray), .slice none 0 0]) (t := 66) ?hr ?_; (case hd => rfl); (case hg => rfl); (case hr => first | (go_simp; done) | (go_simp; rfl)); intro g8 hg8 w4 hbox hb; have hlt8 : (bd.add (i * 4)).block < g8 := (by have := World.block_lt_of_cell? _ _ bx0; have := Nat.le_of_eq hg8.symm; omega); have BK8 := mk hbox; have HB8 := mk (below_step HB.out hb); have L8 := mk (show w.heap.size ≤ g8 by have := Nat.le_of_eq hg8.symm; have := HB.out.size; omega); have uc0 : w4.cell? ⟨g8, 0, none⟩ = some (.int .i64 0) := (blk_cell BK8.out 0).trans rfl; have uf0 := blk_frozen BK8.out 0; have uc1 : w4.cell? ⟨g8, 1, none⟩ = some (.int .i64 0) := (blk_cell BK8.out 1).trans rfl; have uf1 := blk_frozen BK8.out 1; have uc2 : w4.cell? ⟨g8, 2, none⟩ = some (.string (⟨#[]⟩ : ByteArray)) := (blk_cell BK8.out 2).trans rfl; have uf2 := blk_frozen BK8.out 2; have uc3 : w4.cell? ⟨g8, 3, none⟩ = some (.slice none 0 0) := (blk_cell BK8.out 3).trans rfl; have uf3 := blk_frozen BK8.out 3; replace bx0 := (hb.cell (World.block_lt_of_cell? _ _ bx0)).trans bx0; replace bx1 := (hb.cell (World.block_lt_of_cell? _ _ bx1)).trans bx1; replace bx2 := (hb.cell (World.block_lt_of_cell? _ _ bx2)).trans bx2; replace bx3 := (hb.cell (World.block_lt_of_cell? _ _ bx3)).trans bx3; have kx0 : ((((w4.setCell ⟨g8, 0, none⟩ (.int .i64 x.f0)).setCell ⟨g8, 1, none⟩ (.int .i64 x.f1)).setCell ⟨g8, 2, none⟩ (.string x.f2)).setCell ⟨g8, 3, none⟩ (.slice Af3 x.f3.length af3)).cell? (bd.add (i * 4)) = some (.int .i64 y.f0) := cell_far (cell_far (cell_far (cell_far (bx0) (Nat.ne_of_lt hlt8) 0 _) (Nat.ne_of_lt hlt8) 1 _) (Nat.ne_of_lt hlt8) 2 _) (Nat.ne_of_lt hlt8) 3 _; have kx1 : ((((w4.setCell ⟨g8, 0, none⟩ (.int .i64 x.f0)).setCell ⟨g8, 1, none⟩ (.int .i64 x.f1)).setCell ⟨g8, 2, none⟩ (.string x.f2)).setCell ⟨g8, 3, none⟩ (.slice Af3 x.f3.length af3)).cell? ⟨(bd.add (i * 4)).block, (bd.add (i * 4)).off + 1, none⟩ = some (.int .i64 y.f1) := cell_far (cell_far (cell_far (cell_far (bx1) (Nat.ne_of_lt hlt8) 0 _) (Nat.ne_of_lt hlt8) 1 _) (Nat.ne_of_lt hlt8) 2 _) (Nat.ne_of_lt hlt8) 3 _; have kx2 : ((((w4.setCell ⟨g8, 0, none⟩ (.int .i64 x.f0)).setCell ⟨g8, 1, none⟩ (.int .i64 x.f1)).setCell ⟨g8, 2, none⟩ (.string x.f2)).setCell ⟨g8, 3, none⟩ (.slice Af3 x.f3.length af3)).cell? ⟨(bd.add (i * 4)).block, (bd.add (i * 4)).off + 2, none⟩ = some (.string y.f2) := cell_far (cell_far (cell_far (cell_far (bx2) (Nat.ne_of_lt hlt8) 0 _) (Nat.ne_of_lt hlt8) 1 _) (Nat.ne_of_lt hlt8) 2 _) (Nat.ne_of_lt hlt8) 3 _; have kx3 : ((((w4.setCell ⟨g8, 0, none⟩ (.int .i64 x.f0)).setCell ⟨g8, 1, none⟩ (.int .i64 x.f1)).setCell ⟨g8, 2, none⟩ (.string x.f2)).setCell ⟨g8, 3, none⟩ (.slice Af3 x.f3.length af3)).cell? ⟨(bd.add (i * 4)).block, (bd.add (i * 4)).off + 3, none⟩ = some (.slice Bf3 y.f3.length bf3) := cell_far (cell_far (cell_far (cell_far (bx3) (Nat.ne_of_lt hlt8) 0 _) (Nat.ne_of_lt hlt8) 1 _) (Nat.ne_of_lt hlt8) 2 _) (Nat.ne_of_lt hlt8) 3 _; have BK8d := mk (show ((((w4.setCell ⟨g8, 0, none⟩ (.int .i64 x.f0)).setCell ⟨g8, 1, none⟩ (.int .i64 x.f1)).setCell ⟨g8, 2, none⟩ (.string x.f2)).setCell ⟨g8, 3, none⟩ (.slice Af3 x.f3.length af3)).heap[g8]? = some (.cells #[.int .i64 x.f0, .int .i64 x.f1, .string x.f2, .slice Af3 x.f3.length af3] 66 (0, 0)) from blk_set (blk_set (blk_set (blk_set (BK8.out) 0 _) 1 _) 2 _) 3 _); clear hb hbox hg8 hlt8) | ((with_reducible refine gate_dst (N := 9) rfl ?_); refine box_event ?hg (N := 9) ?hd (cs := #[.int .i64 0, .int .i64 0, .string (⟨#[]⟩ : ByteArray), .slice none 0 0]) (t := 66) ?hr ?_; (case hd => rfl); (case hg => rfl); (case hr => first | (go_simp; done) | (go_simp; rfl)); intro g9 hg9 w5 hbox hb; have BK9 := mk hbox; have HB9 := mk (below_step (by repeat (first | exact HB8.out | refine below_set ?_ L8.out)) hb); have BK8b : w5.heap[g8]? = some (.cells #[.int .i64 x.f0, .int .i64 x.f1, .string x.f2, .slice Af3 x.f3.length af3] 66 (0, 0)) := blk_below BK8d.out hb; have BK8c := mk BK8b; have N89 : g8 ≠ g9 := (by have h1 := blk_lt BK8d.out; have := Nat.le_of_eq hg9.symm; omega); have N98 : g9 ≠ g8 := N89.symm; have L9 := mk (show w.heap.size ≤ g9 by have := HB9.out.size; have h2 := L8.out; have h1 := blk_lt BK8d.out; have := Nat.le_of_eq hg9.symm; omega); clear BK8b; have vc0 : w5.cell? ⟨g9, 0, none⟩ = some (.int .i64 0) := (blk_cell BK9.out 0).trans rfl; have vf0 := blk_frozen BK9.out 0; have vc1 : w5.cell? ⟨g9, 1, none⟩ = some (.int .i64 0) := (blk_cell BK9.out 1).trans rfl; have vf1 := blk_frozen BK9.out 1; have vc2 : w5.cell? ⟨g9, 2, none⟩ = some (.string (⟨#[]⟩ : ByteArray)) := (blk_cell BK9.out 2).trans rfl; have vf2 := blk_frozen BK9.out 2; have vc3 : w5.cell? ⟨g9, 3, none⟩ = some (.slice none 0 0) := (blk_cell BK9.out 3).trans rfl; have vf3 := blk_frozen BK9.out 3; have rc0 : w5.cell? ⟨g8, 0, none⟩ = some (.int .i64 x.f0) := (blk_cell BK8c.out 0).trans rfl; have rf0 := blk_frozen BK8c.out 0; have rc1 : w5.cell? ⟨g8, 1, none⟩ = some (.int .i64 x.f1) := (blk_cell BK8c.out 1).trans rfl; have rf1 := blk_frozen BK8c.out 1; have rc2 : w5.cell? ⟨g8, 2, none⟩ = some (.string x.f2) := (blk_cell BK8c.out 2).trans rfl; have rf2 := blk_frozen BK8c.out 2; have rc3 : w5.cell? ⟨g8, 3, none⟩ = some (.slice Af3 x.f3.length af3) := (blk_cell BK8c.out 3).trans rfl; have rf3 := blk_frozen BK8c.out 3; have ky0 : ((((w5.setCell ⟨g9, 0, none⟩ (.int .i64 y.f0)).setCell ⟨g9, 1, none⟩ (.int .i64 y.f1)).setCell ⟨g9, 2, none⟩ (.string y.f2)).setCell ⟨g9, 3, none⟩ (.slice Bf3 y.f3.length bf3)).cell? ⟨g8, 0, none⟩ = some (.int .i64 x.f0) := (blk_cell (blk_far (blk_far (blk_far (blk_far (BK8c.out) N89 _) N89 _) N89 _) N89 _) 0).trans rfl; have ky1 : ((((w5.setCell ⟨g9, 0, none⟩ (.int .i64 y.f0)).setCell ⟨g9, 1, none⟩ (.int .i64 y.f1)).setCell ⟨g9, 2, none⟩ (.string y.f2)).setCell ⟨g9, 3, none⟩ (.slice Bf3 y.f3.length bf3)).cell? ⟨g8, 1, none⟩ = some (.int .i64 x.f1) := (blk_cell (blk_far (blk_far (blk_far (blk_far (BK8c.out) N89 _) N89 _) N89 _) N89 _) 1).trans rfl; have ky2 : ((((w5.setCell ⟨g9, 0, none⟩ (.int .i64 y.f0)).setCell ⟨g9, 1, none⟩ (.int .i64 y.f1)).setCell ⟨g9, 2, none⟩ (.string y.f2)).setCell ⟨g9, 3, none⟩ (.slice Bf3 y.f3.length bf3)).cell? ⟨g8, 2, none⟩ = some (.string x.f2) := (blk_cell (blk_far (blk_far (blk_far (blk_far (BK8c.out) N89 _) N89 _) N89 _) N89 _) 2).trans rfl; have ky3 : ((((w5.setCell ⟨g9, 0, none⟩ (.int .i64 y.f0)).setCell ⟨g9, 1, none⟩ (.int .i64 y.f1)).setCell ⟨g9, 2, none⟩ (.string y.f2)).setCell ⟨g9, 3, none⟩ (.slice Bf3 y.f3.length bf3)).cell? ⟨g8, 3, none⟩ = some (.slice Af3 x.f3.length af3) := (blk_cell (blk_far (blk_far (blk_far (blk_far (BK8c.out) N89 _) N89 _) N89 _) N89 _) 3).trans rfl; clear hb hbox hg9) | (go_at_call 115; refine (HCALL.out _ (by repeat (first | exact HB9.out | refine below_set ?_ L9.out))).mono ?_; rintro e w6 ⟨rfl, hb⟩; have HB6 := mk (below_step (by repeat (first | exact HB9.out | refine below_set ?_ L9.out)) hb); clear hb))
          go_ret
          exact ⟨by rw [← HMD.out]; rfl, HB6.out⟩
      · have hiz : ¬ (i : Int) < (l0.length : Int) := by omega
        have HE := mk (show sameTs l0 l1 = true by have := HL.out; rw [← HM.out, List.drop_of_length_le (by omega), List.drop_of_length_le (by omega)]; rfl)
        clear HM hi
        go_wp2
        go_ret
        exact ⟨by rw [HE.out]; rfl, HB.out⟩
  · have hlz : ¬ (l0.length : Int) = (l1.length : Int) := by omega
    have hlb : ((l0.length : Int) != (l1.length : Int)) = true := bne_iff_ne.mpr hlz
    rw [sameTs_len hl]
    go_enter Try.func114, Try.ntmps114
    go_wp2
    go_ret
    exact ⟨rfl, Below.refl _ _⟩
end Go.Proofs.Ytjknpmibdkoklaa.Q
