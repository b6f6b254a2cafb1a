/- Of every text and every number glyph.At answers as the reference counts. No condition but the form's own reach. -/
import Derived.Test.YtcphnnopjfogdaaPureGlyph
import Derived.Test.YtcphnnopjfogdaaG7
namespace Go.Proofs.Ytcphnnopjfogdaa.Pure
open Go.RowKit Go.Proofs.Ytcphnnopjfogdaa.G Go.Proofs.YtcphnnopjfogdaaW.PrintWords Go.Proofs.YtcphnnopjfogdaaW.PrintLast
theorem GlyphPlaces : tabardlaw04_GlyphPlaces.Pure := by
  intro s a hs ha
  apply Ev.rounds
  have main : ∀ r, glyph_At.f s a = some r → Ev (fun k => if a < 0 then (if (r.1 == 0 && (r.2.1 == 0)) = true then (some (r.2.2 == 2)) else (some false)) else (if a > (s.size : Int) then (if (r.1 == 0 && (r.2.1 == 0)) = true then (some (r.2.2 == 2)) else (some false)) else (if r.2.2 = 0 then (if 0 ≤ a then (if a ≤ (s.size : Int) then ((tabardref04_Chars.f k (s.extract 0 (a : Int).toNat)).bind fun t117 => (some (r.1 == a && (r.2.1 == t117)))) else (none)) else (none)) else (some false)))) true := by
    intro r hr
    unfold glyph_At.f at hr
    by_cases h : 0 ≤ a ∧ a ≤ (s.size : Int)
    · rw [if_pos h] at hr
      obtain rfl := Option.some.inj hr
      have hsz : (s.extract 0 a.toNat).size ≤ 140737488351232 := by rw [ByteArray.size_extract]; omega
      refine Ev.congr (fun k => ?_) (Ev.bind (f := fun k t => some (a == a && (charsGo (s.extract 0 a.toNat) 0 0 == t))) (chars_spec _ hsz) (Ev.congr (fun k => ?_) (Ev.now true)))
      · rw [if_neg (by omega), if_neg (by omega), if_pos rfl, if_pos h.1, if_pos h.2]
      · simp
    · rw [if_neg h] at hr
      obtain rfl := Option.some.inj hr
      refine Ev.congr (fun k => ?_) (Ev.now true)
      by_cases h0 : a < 0
      · rw [if_pos h0]
        rfl
      · rw [if_neg h0, if_pos (by omega)]
        rfl
  obtain ⟨r, hr⟩ : ∃ r, glyph_At.f s a = some r := by unfold glyph_At.f; split <;> exact ⟨_, rfl⟩
  refine Ev.congr (fun k => ?_) (main r hr)
  unfold tabardlaw04_GlyphPlaces.f
  rw [hr, fixed04]
  rfl
end Go.Proofs.Ytcphnnopjfogdaa.Pure
