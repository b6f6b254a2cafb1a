/- Of every character glyph's Start, Rest, Blank and Plain answer as the reference does. No condition. -/
import Derived.Test.YtcphnnopjfogdaaPureGlyph
import Derived.Test.YtcphnnopjfogdaaG10
namespace Go.Proofs.Ytcphnnopjfogdaa.Pure
open Go.RowKit Go.Proofs.Ytcphnnopjfogdaa.G Go.Proofs.YtcphnnopjfogdaaW.PrintWords Go.Proofs.YtcphnnopjfogdaaW.PrintLast
theorem in32 {a : Int} (h : (Lit.int .i32 a).wf = true) : -2147483648 ≤ a ∧ a ≤ 2147483647 := by
  simp [Lit.wf, IntKind.min, IntKind.max, IntKind.bits, IntKind.signed] at h
  exact h
theorem GlyphChars : tabardlaw04_GlyphChars.Pure := by
  intro a ha
  obtain ⟨h1, h2⟩ := in32 ha
  refine ⟨20, ?_⟩
  have hw : wrap64 a = a := w64 (by omega) (by omega)
  unfold tabardlaw04_GlyphChars.f
  rw [fixed04, hw, show (20 : Nat) = 16 + 4 from rfl, start_ev, rest_ev, show (16 + 4 : Nat) = 7 + 13 from rfl, rstart_at, rrest_at, show (7 + 13 : Nat) = 6 + 14 from rfl, rplain_at, plain_at]
  have hb : glyph_Blank.f a = tabardref04_Blank.f a := rfl
  obtain ⟨b, hb2⟩ : ∃ b, tabardref04_Blank.f a = some b := by unfold tabardref04_Blank.f; repeat' split
                                                              all_goals exact ⟨_, rfl⟩
  rw [hb, hb2]
  simp
end Go.Proofs.Ytcphnnopjfogdaa.Pure
