/-
  No cell of these rows narrows 'for every input' (looked for: loops, veiled, ifaces, maps, wideKeys, modest, calm, conditions, laid).
  DERIVED. THE GIVEN ROWS OF THIS SEAT. 10 by the template 'for every input the law returns true; each argument reads behind the call as it read before'; 0 by the template 'total and deterministic' (their statements: YtcphnnopjfogdaaTotals.lean).
  GIVEN WITH THE SEED: the statements are not yours to turn. If you find one false, say at which input.
  Laid BY PROGRAM, IN A SANDBOX (cutbox-rows.mjs): the forced cells as the released guide's own fill.sh prints them over the translation 7c60db12bafcfd4b… (all of the seat's roots in one cut). By AI agents, Wed Nov 11 2026. No macro, syntax, notation, axiom, sorry.
-/
import Derived.Test.YtcphnnopjfogdaaChecked
import GoSem.Claim
import GoSem.ClaimJoined
import GoSem.ClaimMapViews
import Derived.JoinedTies
import Derived.KernelRfl
namespace Go.Proofs.Ytcphnnopjfogdaa
/- THE CELL 'sum', in the pinned program and in every row, IS THE sha256 OF THE DUMP (.gsa) THAT YtcphnnopjfogdaaProg.lean LOADS. Nothing in Lean hashes anything: it is a label: what it is worth is what the hold of that sum in a sandbox is worth. -/
noncomputable def Try.pinned : Pinned := { name := "ytcphnnopjfogdaa", sum := "7c60db12bafcfd4b7f94dcb445aa00c6fb08c3de589c9f2821caae1880b0f008", checked := Try.checked }
namespace Rows
def none {H : Type} : Left H := { results := [], args := [] }

/-- 'tabardlaw01.ChkProducts': WHATEVER THE INPUT: true; the input reads as it did. -/
def chkProductsSpec : ChangeSpec := { name := "chkProducts", fn := fun _ => fun
  | [d1, d2] => { results := [.lit (.bool true)], args := [d1, d2] }
  | _ => none }
def chkProductsRow : OpenClaim := { program := "ytcphnnopjfogdaa", sum := "7c60db12bafcfd4b7f94dcb445aa00c6fb08c3de589c9f2821caae1880b0f008", func := "tabard/tabardlaw01.ChkProducts", spec := "chkProducts", apart := false }
def ChkProductsSaid : Prop := chkProductsRow.holds Try.pinned (OpenSpec.ofChange chkProductsSpec)

/-- ITS FALSE NEIGHBOUR: 'it returns false'. Refute it at one input. -/
def chkProductsWrong : ChangeSpec := { name := "chkProducts", fn := fun _ => fun
  | [d1, d2] => { results := [.lit (.bool false)], args := [d1, d2] }
  | _ => none }
def ChkProductsWrongFalsely : Prop := chkProductsRow.holds Try.pinned (OpenSpec.ofChange chkProductsWrong)

/-- 'tabardlaw01.ChkSums': WHATEVER THE INPUT: true; the input reads as it did. -/
def chkSumsSpec : ChangeSpec := { name := "chkSums", fn := fun _ => fun
  | [d1, d2] => { results := [.lit (.bool true)], args := [d1, d2] }
  | _ => none }
def chkSumsRow : OpenClaim := { program := "ytcphnnopjfogdaa", sum := "7c60db12bafcfd4b7f94dcb445aa00c6fb08c3de589c9f2821caae1880b0f008", func := "tabard/tabardlaw01.ChkSums", spec := "chkSums", apart := false }
def ChkSumsSaid : Prop := chkSumsRow.holds Try.pinned (OpenSpec.ofChange chkSumsSpec)

/-- ITS FALSE NEIGHBOUR: 'it returns false'. Refute it at one input. -/
def chkSumsWrong : ChangeSpec := { name := "chkSums", fn := fun _ => fun
  | [d1, d2] => { results := [.lit (.bool false)], args := [d1, d2] }
  | _ => none }
def ChkSumsWrongFalsely : Prop := chkSumsRow.holds Try.pinned (OpenSpec.ofChange chkSumsWrong)

/-- 'tabardlaw01.ChkTotals': WHATEVER THE INPUT: true; the input reads as it did. -/
def chkTotalsSpec : ChangeSpec := { name := "chkTotals", fn := fun _ => fun
  | [d] => { results := [.lit (.bool true)], args := [d] }
  | _ => none }
def chkTotalsRow : OpenClaim := { program := "ytcphnnopjfogdaa", sum := "7c60db12bafcfd4b7f94dcb445aa00c6fb08c3de589c9f2821caae1880b0f008", func := "tabard/tabardlaw01.ChkTotals", spec := "chkTotals", apart := false }
def ChkTotalsSaid : Prop := chkTotalsRow.holds Try.pinned (OpenSpec.ofChange chkTotalsSpec)

/-- ITS FALSE NEIGHBOUR: 'it returns false'. Refute it at one input. -/
def chkTotalsWrong : ChangeSpec := { name := "chkTotals", fn := fun _ => fun
  | [d] => { results := [.lit (.bool false)], args := [d] }
  | _ => none }
def ChkTotalsWrongFalsely : Prop := chkTotalsRow.holds Try.pinned (OpenSpec.ofChange chkTotalsWrong)

/-- 'tabardlaw01.ChkParts': WHATEVER THE INPUT: true; the input reads as it did. -/
def chkPartsSpec : ChangeSpec := { name := "chkParts", fn := fun _ => fun
  | [d1, d2] => { results := [.lit (.bool true)], args := [d1, d2] }
  | _ => none }
def chkPartsRow : OpenClaim := { program := "ytcphnnopjfogdaa", sum := "7c60db12bafcfd4b7f94dcb445aa00c6fb08c3de589c9f2821caae1880b0f008", func := "tabard/tabardlaw01.ChkParts", spec := "chkParts", apart := false }
def ChkPartsSaid : Prop := chkPartsRow.holds Try.pinned (OpenSpec.ofChange chkPartsSpec)

/-- ITS FALSE NEIGHBOUR: 'it returns false'. Refute it at one input. -/
def chkPartsWrong : ChangeSpec := { name := "chkParts", fn := fun _ => fun
  | [d1, d2] => { results := [.lit (.bool false)], args := [d1, d2] }
  | _ => none }
def ChkPartsWrongFalsely : Prop := chkPartsRow.holds Try.pinned (OpenSpec.ofChange chkPartsWrong)

/-- 'tabardlaw01.ChkQuotients': WHATEVER THE INPUT: true; the input reads as it did. -/
def chkQuotientsSpec : ChangeSpec := { name := "chkQuotients", fn := fun _ => fun
  | [d1, d2] => { results := [.lit (.bool true)], args := [d1, d2] }
  | _ => none }
def chkQuotientsRow : OpenClaim := { program := "ytcphnnopjfogdaa", sum := "7c60db12bafcfd4b7f94dcb445aa00c6fb08c3de589c9f2821caae1880b0f008", func := "tabard/tabardlaw01.ChkQuotients", spec := "chkQuotients", apart := false }
def ChkQuotientsSaid : Prop := chkQuotientsRow.holds Try.pinned (OpenSpec.ofChange chkQuotientsSpec)

/-- ITS FALSE NEIGHBOUR: 'it returns false'. Refute it at one input. -/
def chkQuotientsWrong : ChangeSpec := { name := "chkQuotients", fn := fun _ => fun
  | [d1, d2] => { results := [.lit (.bool false)], args := [d1, d2] }
  | _ => none }
def ChkQuotientsWrongFalsely : Prop := chkQuotientsRow.holds Try.pinned (OpenSpec.ofChange chkQuotientsWrong)

/-- 'tabardlaw01.ChkAgrees': WHATEVER THE INPUT: true; the input reads as it did. -/
def chkAgreesSpec : ChangeSpec := { name := "chkAgrees", fn := fun _ => fun
  | [d1, d2] => { results := [.lit (.bool true)], args := [d1, d2] }
  | _ => none }
def chkAgreesRow : OpenClaim := { program := "ytcphnnopjfogdaa", sum := "7c60db12bafcfd4b7f94dcb445aa00c6fb08c3de589c9f2821caae1880b0f008", func := "tabard/tabardlaw01.ChkAgrees", spec := "chkAgrees", apart := false }
def ChkAgreesSaid : Prop := chkAgreesRow.holds Try.pinned (OpenSpec.ofChange chkAgreesSpec)

/-- ITS FALSE NEIGHBOUR: 'it returns false'. Refute it at one input. -/
def chkAgreesWrong : ChangeSpec := { name := "chkAgrees", fn := fun _ => fun
  | [d1, d2] => { results := [.lit (.bool false)], args := [d1, d2] }
  | _ => none }
def ChkAgreesWrongFalsely : Prop := chkAgreesRow.holds Try.pinned (OpenSpec.ofChange chkAgreesWrong)

/-- 'tabardlaw04.GlyphPlaces': WHATEVER THE INPUT: true; the input reads as it did. -/
def glyphPlacesSpec : ChangeSpec := { name := "glyphPlaces", fn := fun _ => fun
  | [d1, d2] => { results := [.lit (.bool true)], args := [d1, d2] }
  | _ => none }
def glyphPlacesRow : OpenClaim := { program := "ytcphnnopjfogdaa", sum := "7c60db12bafcfd4b7f94dcb445aa00c6fb08c3de589c9f2821caae1880b0f008", func := "tabard/tabardlaw04.GlyphPlaces", spec := "glyphPlaces", apart := false }
def GlyphPlacesSaid : Prop := glyphPlacesRow.holds Try.pinned (OpenSpec.ofChange glyphPlacesSpec)

/-- ITS FALSE NEIGHBOUR: 'it returns false'. Refute it at one input. -/
def glyphPlacesWrong : ChangeSpec := { name := "glyphPlaces", fn := fun _ => fun
  | [d1, d2] => { results := [.lit (.bool false)], args := [d1, d2] }
  | _ => none }
def GlyphPlacesWrongFalsely : Prop := glyphPlacesRow.holds Try.pinned (OpenSpec.ofChange glyphPlacesWrong)

/-- 'tabardlaw04.GlyphChars': WHATEVER THE INPUT: true; the input reads as it did. -/
def glyphCharsSpec : ChangeSpec := { name := "glyphChars", fn := fun _ => fun
  | [d] => { results := [.lit (.bool true)], args := [d] }
  | _ => none }
def glyphCharsRow : OpenClaim := { program := "ytcphnnopjfogdaa", sum := "7c60db12bafcfd4b7f94dcb445aa00c6fb08c3de589c9f2821caae1880b0f008", func := "tabard/tabardlaw04.GlyphChars", spec := "glyphChars", apart := false }
def GlyphCharsSaid : Prop := glyphCharsRow.holds Try.pinned (OpenSpec.ofChange glyphCharsSpec)

/-- ITS FALSE NEIGHBOUR: 'it returns false'. Refute it at one input. -/
def glyphCharsWrong : ChangeSpec := { name := "glyphChars", fn := fun _ => fun
  | [d] => { results := [.lit (.bool false)], args := [d] }
  | _ => none }
def GlyphCharsWrongFalsely : Prop := glyphCharsRow.holds Try.pinned (OpenSpec.ofChange glyphCharsWrong)

/-- 'tabardlaw04.GlyphClasses': WHATEVER THE INPUT: true; the input reads as it did. -/
def glyphClassesSpec : ChangeSpec := { name := "glyphClasses", fn := fun _ => fun
  | [d] => { results := [.lit (.bool true)], args := [d] }
  | _ => none }
def glyphClassesRow : OpenClaim := { program := "ytcphnnopjfogdaa", sum := "7c60db12bafcfd4b7f94dcb445aa00c6fb08c3de589c9f2821caae1880b0f008", func := "tabard/tabardlaw04.GlyphClasses", spec := "glyphClasses", apart := false }
def GlyphClassesSaid : Prop := glyphClassesRow.holds Try.pinned (OpenSpec.ofChange glyphClassesSpec)

/-- ITS FALSE NEIGHBOUR: 'it returns false'. Refute it at one input. -/
def glyphClassesWrong : ChangeSpec := { name := "glyphClasses", fn := fun _ => fun
  | [d] => { results := [.lit (.bool false)], args := [d] }
  | _ => none }
def GlyphClassesWrongFalsely : Prop := glyphClassesRow.holds Try.pinned (OpenSpec.ofChange glyphClassesWrong)

/-- 'tabardlaw04.GlyphLists': WHATEVER THE INPUT: true; the input reads as it did. -/
def glyphListsSpec : ChangeSpec := { name := "glyphLists", fn := fun _ => fun
  | [d1, d2, d3] => { results := [.lit (.bool true)], args := [d1, d2, d3] }
  | _ => none }
def glyphListsRow : OpenClaim := { program := "ytcphnnopjfogdaa", sum := "7c60db12bafcfd4b7f94dcb445aa00c6fb08c3de589c9f2821caae1880b0f008", func := "tabard/tabardlaw04.GlyphLists", spec := "glyphLists", unfollowed := true, recurses := true, apart := false }
def GlyphListsSaid : Prop := glyphListsRow.holds Try.pinned (OpenSpec.ofChange glyphListsSpec)

/-- ITS FALSE NEIGHBOUR: 'it returns false'. Refute it at one input. -/
def glyphListsWrong : ChangeSpec := { name := "glyphLists", fn := fun _ => fun
  | [d1, d2, d3] => { results := [.lit (.bool false)], args := [d1, d2, d3] }
  | _ => none }
def GlyphListsWrongFalsely : Prop := glyphListsRow.holds Try.pinned (OpenSpec.ofChange glyphListsWrong)

/- THE SECOND FORM. 'bulk': how many values and letters a reading holds, each counted each time it is reached (what is shared counts as often as it is met; a slice's spare places count too). A statement '..UptoSaid' is the law's where the arguments, and the package variables that the reading takes, are together of bulk at most 1048576: NARROWER than '..Said'. Prove '..Said' where nothing that the law and all that it calls make is longer than what came in: it says more and counts as full. Else prove '..UptoSaid'. A law counts once. -/
mutual
def uptoBulk {H : Type} : DataW H → Nat
  | .lit (.string bytes) => bytes.length + 1
  | .lit _ => 1
  | .nil => 1
  | .ptr d => uptoBulk d + 1
  | .slice elems spare => uptoBulkAll elems + uptoBulkAll spare + 1
  | .agg parts => uptoBulkAll parts + 1
  | .iface _ d => uptoBulk d + 1
  | .map entries => uptoBulkEntries entries + 1
  | .held _ => 1
def uptoBulkAll {H : Type} : List (DataW H) → Nat
  | [] => 0
  | d :: r => uptoBulk d + uptoBulkAll r
def uptoBulkEntries {H : Type} : List (Lit × DataW H) → Nat
  | [] => 0
  | x :: r => uptoBulkEntry x + uptoBulkEntries r
def uptoBulkEntry {H : Type} : Lit × DataW H → Nat
  | (.string bytes, d) => bytes.length + uptoBulk d + 1
  | (_, d) => uptoBulk d + 1
 end
def uptoSmall : (H : Type) → List (DataW H) → Bool := fun _ ds => decide (uptoBulkAll ds ≤ 1048576)
def OpenSpec.upto (s : _root_.Go.ChangeSpec) : _root_.Go.OpenSpec := { _root_.Go.OpenSpec.ofChange s with cond := some uptoSmall }

/-- 'tabardlaw01.ChkProducts', WHERE WHAT IT READS IS OF BULK AT MOST 1048576: true; the input reads as it did. -/
def chkProductsUptoRow : OpenClaim := { program := "ytcphnnopjfogdaa", sum := "7c60db12bafcfd4b7f94dcb445aa00c6fb08c3de589c9f2821caae1880b0f008", func := "tabard/tabardlaw01.ChkProducts", spec := "chkProducts", apart := false, narrowed := true }
def ChkProductsUptoSaid : Prop := chkProductsUptoRow.holds Try.pinned (OpenSpec.upto chkProductsSpec)

/-- 'tabardlaw01.ChkSums', WHERE WHAT IT READS IS OF BULK AT MOST 1048576: true; the input reads as it did. -/
def chkSumsUptoRow : OpenClaim := { program := "ytcphnnopjfogdaa", sum := "7c60db12bafcfd4b7f94dcb445aa00c6fb08c3de589c9f2821caae1880b0f008", func := "tabard/tabardlaw01.ChkSums", spec := "chkSums", apart := false, narrowed := true }
def ChkSumsUptoSaid : Prop := chkSumsUptoRow.holds Try.pinned (OpenSpec.upto chkSumsSpec)

/-- 'tabardlaw01.ChkTotals', WHERE WHAT IT READS IS OF BULK AT MOST 1048576: true; the input reads as it did. -/
def chkTotalsUptoRow : OpenClaim := { program := "ytcphnnopjfogdaa", sum := "7c60db12bafcfd4b7f94dcb445aa00c6fb08c3de589c9f2821caae1880b0f008", func := "tabard/tabardlaw01.ChkTotals", spec := "chkTotals", apart := false, narrowed := true }
def ChkTotalsUptoSaid : Prop := chkTotalsUptoRow.holds Try.pinned (OpenSpec.upto chkTotalsSpec)

/-- 'tabardlaw01.ChkParts', WHERE WHAT IT READS IS OF BULK AT MOST 1048576: true; the input reads as it did. -/
def chkPartsUptoRow : OpenClaim := { program := "ytcphnnopjfogdaa", sum := "7c60db12bafcfd4b7f94dcb445aa00c6fb08c3de589c9f2821caae1880b0f008", func := "tabard/tabardlaw01.ChkParts", spec := "chkParts", apart := false, narrowed := true }
def ChkPartsUptoSaid : Prop := chkPartsUptoRow.holds Try.pinned (OpenSpec.upto chkPartsSpec)

/-- 'tabardlaw01.ChkQuotients', WHERE WHAT IT READS IS OF BULK AT MOST 1048576: true; the input reads as it did. -/
def chkQuotientsUptoRow : OpenClaim := { program := "ytcphnnopjfogdaa", sum := "7c60db12bafcfd4b7f94dcb445aa00c6fb08c3de589c9f2821caae1880b0f008", func := "tabard/tabardlaw01.ChkQuotients", spec := "chkQuotients", apart := false, narrowed := true }
def ChkQuotientsUptoSaid : Prop := chkQuotientsUptoRow.holds Try.pinned (OpenSpec.upto chkQuotientsSpec)

/-- 'tabardlaw01.ChkAgrees', WHERE WHAT IT READS IS OF BULK AT MOST 1048576: true; the input reads as it did. -/
def chkAgreesUptoRow : OpenClaim := { program := "ytcphnnopjfogdaa", sum := "7c60db12bafcfd4b7f94dcb445aa00c6fb08c3de589c9f2821caae1880b0f008", func := "tabard/tabardlaw01.ChkAgrees", spec := "chkAgrees", apart := false, narrowed := true }
def ChkAgreesUptoSaid : Prop := chkAgreesUptoRow.holds Try.pinned (OpenSpec.upto chkAgreesSpec)

/-- 'tabardlaw04.GlyphPlaces', WHERE WHAT IT READS IS OF BULK AT MOST 1048576: true; the input reads as it did. -/
def glyphPlacesUptoRow : OpenClaim := { program := "ytcphnnopjfogdaa", sum := "7c60db12bafcfd4b7f94dcb445aa00c6fb08c3de589c9f2821caae1880b0f008", func := "tabard/tabardlaw04.GlyphPlaces", spec := "glyphPlaces", apart := false, narrowed := true }
def GlyphPlacesUptoSaid : Prop := glyphPlacesUptoRow.holds Try.pinned (OpenSpec.upto glyphPlacesSpec)

/-- 'tabardlaw04.GlyphChars', WHERE WHAT IT READS IS OF BULK AT MOST 1048576: true; the input reads as it did. -/
def glyphCharsUptoRow : OpenClaim := { program := "ytcphnnopjfogdaa", sum := "7c60db12bafcfd4b7f94dcb445aa00c6fb08c3de589c9f2821caae1880b0f008", func := "tabard/tabardlaw04.GlyphChars", spec := "glyphChars", apart := false, narrowed := true }
def GlyphCharsUptoSaid : Prop := glyphCharsUptoRow.holds Try.pinned (OpenSpec.upto glyphCharsSpec)

/-- 'tabardlaw04.GlyphClasses', WHERE WHAT IT READS IS OF BULK AT MOST 1048576: true; the input reads as it did. -/
def glyphClassesUptoRow : OpenClaim := { program := "ytcphnnopjfogdaa", sum := "7c60db12bafcfd4b7f94dcb445aa00c6fb08c3de589c9f2821caae1880b0f008", func := "tabard/tabardlaw04.GlyphClasses", spec := "glyphClasses", apart := false, narrowed := true }
def GlyphClassesUptoSaid : Prop := glyphClassesUptoRow.holds Try.pinned (OpenSpec.upto glyphClassesSpec)

/-- 'tabardlaw04.GlyphLists', WHERE WHAT IT READS IS OF BULK AT MOST 1048576: true; the input reads as it did. -/
def glyphListsUptoRow : OpenClaim := { program := "ytcphnnopjfogdaa", sum := "7c60db12bafcfd4b7f94dcb445aa00c6fb08c3de589c9f2821caae1880b0f008", func := "tabard/tabardlaw04.GlyphLists", spec := "glyphLists", unfollowed := true, recurses := true, apart := false, narrowed := true }
def GlyphListsUptoSaid : Prop := glyphListsUptoRow.holds Try.pinned (OpenSpec.upto glyphListsSpec)

end Rows
end Go.Proofs.Ytcphnnopjfogdaa
