/-
  DERIVED. GIVEN WITH THE SEED: THE CARDS: each row of YtoopddhkjhpbnaaDoorRows.lean that lists a variable, with what it lists TIED to the program's text (the seventh form; the later family's looks); each row that meets fmt, with fmt's text TOLD by the authors' own Lean function (tested against real Go, not proved from fmt's source: count such statements apart). THE CARD IS WHAT COUNTS. Prove the row's statement (the work); the ties are given (YtoopddhkjhpbnaaDoorTie.lean); close each card by the builder's one call (the guide's Derived/Test/ToyasCard.lean, 'card_holds'). Laid BY PROGRAM, IN A SANDBOX (cutbox-door.mjs). By AI agents, Wed Nov 11 2026. No macro, syntax, notation, axiom, sorry.
-/
import Derived.Test.YtoopddhkjhpbnaaDoorRows
import GoSem.ClaimSeven
namespace Go.Proofs.YtoopddhkjhpbnaaDoor
namespace Rows

/-- THE TIED CARD OF 'tabardlaw04.GlyphNames'. -/
def glyphNamesCard : Claim7 := { stood := { row := glyphNamesRow, standIns := [], harness := (true, "f4d4cc886077fbb934070680de020240dfcbb336d51db89c848bb9f62483d9f6"), looks := false }, kinds := [], alts := [], laidByText := true, laidKinds := [.data, .pinned], laidTests := true, laidLooks := .later }
def GlyphNamesCardSaid : Prop := Claim7.holds Tryd.pinned (.plain (OpenSpec.ofChange glyphNamesSpec)) glyphNamesCard

/-- THE TIED CARD OF 'tabardlaw04.GlyphRange'. -/
def glyphRangeCard : Claim7 := { stood := { row := glyphRangeRow, standIns := [], harness := (true, "f4d4cc886077fbb934070680de020240dfcbb336d51db89c848bb9f62483d9f6"), looks := false }, kinds := [], alts := [], laidByText := true, laidKinds := [.data, .pinned], laidTests := true, laidLooks := .later }
def GlyphRangeCardSaid : Prop := Claim7.holds Tryd.pinned (.plain (OpenSpec.ofChange glyphRangeSpec)) glyphRangeCard

/-- THE SECOND FORM's CARD OF 'tabardlaw04.GlyphNames'. -/
def glyphNamesUptoCard : Claim7 := { stood := { row := glyphNamesUptoRow, standIns := [], harness := (true, "f4d4cc886077fbb934070680de020240dfcbb336d51db89c848bb9f62483d9f6"), looks := false }, kinds := [], alts := [], laidByText := true, laidKinds := [.data, .pinned], laidTests := true, laidLooks := .later }
def GlyphNamesUptoCardSaid : Prop := Claim7.holds Tryd.pinned (.plain (OpenSpec.upto glyphNamesSpec)) glyphNamesUptoCard

/-- THE SECOND FORM's CARD OF 'tabardlaw04.GlyphRange'. -/
def glyphRangeUptoCard : Claim7 := { stood := { row := glyphRangeUptoRow, standIns := [], harness := (true, "f4d4cc886077fbb934070680de020240dfcbb336d51db89c848bb9f62483d9f6"), looks := false }, kinds := [], alts := [], laidByText := true, laidKinds := [.data, .pinned], laidTests := true, laidLooks := .later }
def GlyphRangeUptoCardSaid : Prop := Claim7.holds Tryd.pinned (.plain (OpenSpec.upto glyphRangeSpec)) glyphRangeUptoCard
end Rows
end Go.Proofs.YtoopddhkjhpbnaaDoor
