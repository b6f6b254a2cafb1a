/-
  NARROWER THAN 'FOR EVERY INPUT', by the rows' own cells (each row's printed sentence says how): TreeFree: loops · TreeMemory: loops · TreeSames: loops · TreeJoins: loops · TreeBinds: loops · NormHolds: loops · NormTurns: loops · NormLinear: loops · NormValues: loops · NormAtoms: loops · TruthTurns: loops · TruthConnects: loops.
  DERIVED. THE GIVEN ROWS OF THIS SEAT. 16 by the template 'for every input the law returns true; each argument reads behind the call as it read before'; 0 by the template 'total and deterministic' (their statements: YtjknpmibdkoklaaTotals.lean).
  GIVEN WITH THE SEED: the statements are not yours to turn. If you find one false, say at which input.
  Laid BY PROGRAM, IN A SANDBOX (cutbox-rows.mjs): the forced cells as the released guide's own fill.sh prints them over the translation 68f6a01997e7dc24… (all of the seat's roots in one cut). By AI agents, Wed Nov 11 2026. No macro, syntax, notation, axiom, sorry.
-/
import Derived.Test.YtjknpmibdkoklaaChecked
import GoSem.Claim
import GoSem.ClaimJoined
import GoSem.ClaimMapViews
import Derived.JoinedTies
import Derived.KernelRfl
namespace Go.Proofs.Ytjknpmibdkoklaa
/- THE CELL 'sum', in the pinned program and in every row, IS THE sha256 OF THE DUMP (.gsa) THAT YtjknpmibdkoklaaProg.lean LOADS. Nothing in Lean hashes anything: it is a label: what it is worth is what the hold of that sum in a sandbox is worth. -/
noncomputable def Try.pinned : Pinned := { name := "ytjknpmibdkoklaa", sum := "68f6a01997e7dc24404435513c4d31815138d8b5b8567f4c31869fd24fc3987b", checked := Try.checked }
namespace Rows
def none {H : Type} : Left H := { results := [], args := [] }

/-- 'tabardlaw04.GlyphLists': WHATEVER THE INPUT: true; the input reads as it did. -/
def glyphListsSpec : ChangeSpec := { name := "glyphLists", fn := fun _ => fun
  | [d1, d2, d3] => { results := [.lit (.bool true)], args := [d1, d2, d3] }
  | _ => none }
def glyphListsRow : OpenClaim := { program := "ytjknpmibdkoklaa", sum := "68f6a01997e7dc24404435513c4d31815138d8b5b8567f4c31869fd24fc3987b", func := "tabard/tabardlaw04.GlyphLists", spec := "glyphLists", unfollowed := true, recurses := true, apart := false }
def GlyphListsSaid : Prop := glyphListsRow.holds Try.pinned (OpenSpec.ofChange glyphListsSpec)

/-- ITS FALSE NEIGHBOUR: 'it returns false'. Refute it at one input. -/
def glyphListsWrong : ChangeSpec := { name := "glyphLists", fn := fun _ => fun
  | [d1, d2, d3] => { results := [.lit (.bool false)], args := [d1, d2, d3] }
  | _ => none }
def GlyphListsWrongFalsely : Prop := glyphListsRow.holds Try.pinned (OpenSpec.ofChange glyphListsWrong)

/-- 'tabardlaw04.GlyphUnions': WHATEVER THE INPUT: true; the input reads as it did. -/
def glyphUnionsSpec : ChangeSpec := { name := "glyphUnions", fn := fun _ => fun
  | [d1, d2] => { results := [.lit (.bool true)], args := [d1, d2] }
  | _ => none }
def glyphUnionsRow : OpenClaim := { program := "ytjknpmibdkoklaa", sum := "68f6a01997e7dc24404435513c4d31815138d8b5b8567f4c31869fd24fc3987b", func := "tabard/tabardlaw04.GlyphUnions", spec := "glyphUnions", unfollowed := true, recurses := true, apart := false }
def GlyphUnionsSaid : Prop := glyphUnionsRow.holds Try.pinned (OpenSpec.ofChange glyphUnionsSpec)

/-- ITS FALSE NEIGHBOUR: 'it returns false'. Refute it at one input. -/
def glyphUnionsWrong : ChangeSpec := { name := "glyphUnions", fn := fun _ => fun
  | [d1, d2] => { results := [.lit (.bool false)], args := [d1, d2] }
  | _ => none }
def GlyphUnionsWrongFalsely : Prop := glyphUnionsRow.holds Try.pinned (OpenSpec.ofChange glyphUnionsWrong)

/-- 'tabardlaw06.TreeNumbers': WHATEVER THE INPUT: true; the input reads as it did. -/
def treeNumbersSpec : ChangeSpec := { name := "treeNumbers", fn := fun _ => fun
  | [] => { results := [.lit (.bool true)], args := [] }
  | _ => none }
def treeNumbersRow : OpenClaim := { program := "ytjknpmibdkoklaa", sum := "68f6a01997e7dc24404435513c4d31815138d8b5b8567f4c31869fd24fc3987b", func := "tabard/tabardlaw06.TreeNumbers", spec := "treeNumbers", unfollowed := true, recurses := true, apart := false }
def TreeNumbersSaid : Prop := treeNumbersRow.holds Try.pinned (OpenSpec.ofChange treeNumbersSpec)

/-- ITS FALSE NEIGHBOUR: 'it returns false'. Refute it at one input. -/
def treeNumbersWrong : ChangeSpec := { name := "treeNumbers", fn := fun _ => fun
  | [] => { results := [.lit (.bool false)], args := [] }
  | _ => none }
def TreeNumbersWrongFalsely : Prop := treeNumbersRow.holds Try.pinned (OpenSpec.ofChange treeNumbersWrong)

/-- 'tabardlaw06.TreeFree': WHATEVER THE INPUT: true; the input reads as it did. -/
def treeFreeSpec : ChangeSpec := { name := "treeFree", fn := fun _ => fun
  | [d] => { results := [.lit (.bool true)], args := [d] }
  | _ => none }
def treeFreeRow : OpenClaim := { program := "ytjknpmibdkoklaa", sum := "68f6a01997e7dc24404435513c4d31815138d8b5b8567f4c31869fd24fc3987b", func := "tabard/tabardlaw06.TreeFree", spec := "treeFree", unfollowed := true, recurses := true, loops := true, apart := false }
def TreeFreeSaid : Prop := treeFreeRow.holds Try.pinned (OpenSpec.ofChange treeFreeSpec)

/-- ITS FALSE NEIGHBOUR: 'it returns false'. Refute it at one input. -/
def treeFreeWrong : ChangeSpec := { name := "treeFree", fn := fun _ => fun
  | [d] => { results := [.lit (.bool false)], args := [d] }
  | _ => none }
def TreeFreeWrongFalsely : Prop := treeFreeRow.holds Try.pinned (OpenSpec.ofChange treeFreeWrong)

/-- 'tabardlaw06.TreeMemory': WHATEVER THE INPUT: true; the input reads as it did. -/
def treeMemorySpec : ChangeSpec := { name := "treeMemory", fn := fun _ => fun
  | [d] => { results := [.lit (.bool true)], args := [d] }
  | _ => none }
def treeMemoryRow : OpenClaim := { program := "ytjknpmibdkoklaa", sum := "68f6a01997e7dc24404435513c4d31815138d8b5b8567f4c31869fd24fc3987b", func := "tabard/tabardlaw06.TreeMemory", spec := "treeMemory", unfollowed := true, recurses := true, loops := true, apart := false }
def TreeMemorySaid : Prop := treeMemoryRow.holds Try.pinned (OpenSpec.ofChange treeMemorySpec)

/-- ITS FALSE NEIGHBOUR: 'it returns false'. Refute it at one input. -/
def treeMemoryWrong : ChangeSpec := { name := "treeMemory", fn := fun _ => fun
  | [d] => { results := [.lit (.bool false)], args := [d] }
  | _ => none }
def TreeMemoryWrongFalsely : Prop := treeMemoryRow.holds Try.pinned (OpenSpec.ofChange treeMemoryWrong)

/-- 'tabardlaw06.TreeSames': WHATEVER THE INPUT: true; the input reads as it did. -/
def treeSamesSpec : ChangeSpec := { name := "treeSames", fn := fun _ => fun
  | [d1, d2] => { results := [.lit (.bool true)], args := [d1, d2] }
  | _ => none }
def treeSamesRow : OpenClaim := { program := "ytjknpmibdkoklaa", sum := "68f6a01997e7dc24404435513c4d31815138d8b5b8567f4c31869fd24fc3987b", func := "tabard/tabardlaw06.TreeSames", spec := "treeSames", unfollowed := true, recurses := true, loops := true, apart := false }
def TreeSamesSaid : Prop := treeSamesRow.holds Try.pinned (OpenSpec.ofChange treeSamesSpec)

/-- ITS FALSE NEIGHBOUR: 'it returns false'. Refute it at one input. -/
def treeSamesWrong : ChangeSpec := { name := "treeSames", fn := fun _ => fun
  | [d1, d2] => { results := [.lit (.bool false)], args := [d1, d2] }
  | _ => none }
def TreeSamesWrongFalsely : Prop := treeSamesRow.holds Try.pinned (OpenSpec.ofChange treeSamesWrong)

/-- 'tabardlaw06.TreeJoins': WHATEVER THE INPUT: true; the input reads as it did. -/
def treeJoinsSpec : ChangeSpec := { name := "treeJoins", fn := fun _ => fun
  | [d1, d2, d3] => { results := [.lit (.bool true)], args := [d1, d2, d3] }
  | _ => none }
def treeJoinsRow : OpenClaim := { program := "ytjknpmibdkoklaa", sum := "68f6a01997e7dc24404435513c4d31815138d8b5b8567f4c31869fd24fc3987b", func := "tabard/tabardlaw06.TreeJoins", spec := "treeJoins", unfollowed := true, recurses := true, loops := true, apart := false }
def TreeJoinsSaid : Prop := treeJoinsRow.holds Try.pinned (OpenSpec.ofChange treeJoinsSpec)

/-- ITS FALSE NEIGHBOUR: 'it returns false'. Refute it at one input. -/
def treeJoinsWrong : ChangeSpec := { name := "treeJoins", fn := fun _ => fun
  | [d1, d2, d3] => { results := [.lit (.bool false)], args := [d1, d2, d3] }
  | _ => none }
def TreeJoinsWrongFalsely : Prop := treeJoinsRow.holds Try.pinned (OpenSpec.ofChange treeJoinsWrong)

/-- 'tabardlaw06.TreeBinds': WHATEVER THE INPUT: true; the input reads as it did. -/
def treeBindsSpec : ChangeSpec := { name := "treeBinds", fn := fun _ => fun
  | [d1, d2, d3] => { results := [.lit (.bool true)], args := [d1, d2, d3] }
  | _ => none }
def treeBindsRow : OpenClaim := { program := "ytjknpmibdkoklaa", sum := "68f6a01997e7dc24404435513c4d31815138d8b5b8567f4c31869fd24fc3987b", func := "tabard/tabardlaw06.TreeBinds", spec := "treeBinds", unfollowed := true, recurses := true, loops := true, apart := false }
def TreeBindsSaid : Prop := treeBindsRow.holds Try.pinned (OpenSpec.ofChange treeBindsSpec)

/-- ITS FALSE NEIGHBOUR: 'it returns false'. Refute it at one input. -/
def treeBindsWrong : ChangeSpec := { name := "treeBinds", fn := fun _ => fun
  | [d1, d2, d3] => { results := [.lit (.bool false)], args := [d1, d2, d3] }
  | _ => none }
def TreeBindsWrongFalsely : Prop := treeBindsRow.holds Try.pinned (OpenSpec.ofChange treeBindsWrong)

/-- 'tabardlaw09.NormHolds': WHATEVER THE INPUT: true; the input reads as it did. -/
def normHoldsSpec : ChangeSpec := { name := "normHolds", fn := fun _ => fun
  | [d1, d2] => { results := [.lit (.bool true)], args := [d1, d2] }
  | _ => none }
def normHoldsRow : OpenClaim := { program := "ytjknpmibdkoklaa", sum := "68f6a01997e7dc24404435513c4d31815138d8b5b8567f4c31869fd24fc3987b", func := "tabard/tabardlaw09.NormHolds", spec := "normHolds", unfollowed := true, recurses := true, loops := true, apart := false }
def NormHoldsSaid : Prop := normHoldsRow.holds Try.pinned (OpenSpec.ofChange normHoldsSpec)

/-- ITS FALSE NEIGHBOUR: 'it returns false'. Refute it at one input. -/
def normHoldsWrong : ChangeSpec := { name := "normHolds", fn := fun _ => fun
  | [d1, d2] => { results := [.lit (.bool false)], args := [d1, d2] }
  | _ => none }
def NormHoldsWrongFalsely : Prop := normHoldsRow.holds Try.pinned (OpenSpec.ofChange normHoldsWrong)

/-- 'tabardlaw09.NormTurns': WHATEVER THE INPUT: true; the input reads as it did. -/
def normTurnsSpec : ChangeSpec := { name := "normTurns", fn := fun _ => fun
  | [d1, d2] => { results := [.lit (.bool true)], args := [d1, d2] }
  | _ => none }
def normTurnsRow : OpenClaim := { program := "ytjknpmibdkoklaa", sum := "68f6a01997e7dc24404435513c4d31815138d8b5b8567f4c31869fd24fc3987b", func := "tabard/tabardlaw09.NormTurns", spec := "normTurns", unfollowed := true, recurses := true, loops := true, apart := false }
def NormTurnsSaid : Prop := normTurnsRow.holds Try.pinned (OpenSpec.ofChange normTurnsSpec)

/-- ITS FALSE NEIGHBOUR: 'it returns false'. Refute it at one input. -/
def normTurnsWrong : ChangeSpec := { name := "normTurns", fn := fun _ => fun
  | [d1, d2] => { results := [.lit (.bool false)], args := [d1, d2] }
  | _ => none }
def NormTurnsWrongFalsely : Prop := normTurnsRow.holds Try.pinned (OpenSpec.ofChange normTurnsWrong)

/-- 'tabardlaw09.NormLinear': WHATEVER THE INPUT: true; the input reads as it did. -/
def normLinearSpec : ChangeSpec := { name := "normLinear", fn := fun _ => fun
  | [d] => { results := [.lit (.bool true)], args := [d] }
  | _ => none }
def normLinearRow : OpenClaim := { program := "ytjknpmibdkoklaa", sum := "68f6a01997e7dc24404435513c4d31815138d8b5b8567f4c31869fd24fc3987b", func := "tabard/tabardlaw09.NormLinear", spec := "normLinear", unfollowed := true, recurses := true, loops := true, apart := false }
def NormLinearSaid : Prop := normLinearRow.holds Try.pinned (OpenSpec.ofChange normLinearSpec)

/-- ITS FALSE NEIGHBOUR: 'it returns false'. Refute it at one input. -/
def normLinearWrong : ChangeSpec := { name := "normLinear", fn := fun _ => fun
  | [d] => { results := [.lit (.bool false)], args := [d] }
  | _ => none }
def NormLinearWrongFalsely : Prop := normLinearRow.holds Try.pinned (OpenSpec.ofChange normLinearWrong)

/-- 'tabardlaw09.NormValues': WHATEVER THE INPUT: true; the input reads as it did. -/
def normValuesSpec : ChangeSpec := { name := "normValues", fn := fun _ => fun
  | [d1, d2] => { results := [.lit (.bool true)], args := [d1, d2] }
  | _ => none }
def normValuesRow : OpenClaim := { program := "ytjknpmibdkoklaa", sum := "68f6a01997e7dc24404435513c4d31815138d8b5b8567f4c31869fd24fc3987b", func := "tabard/tabardlaw09.NormValues", spec := "normValues", unfollowed := true, recurses := true, loops := true, apart := false }
def NormValuesSaid : Prop := normValuesRow.holds Try.pinned (OpenSpec.ofChange normValuesSpec)

/-- ITS FALSE NEIGHBOUR: 'it returns false'. Refute it at one input. -/
def normValuesWrong : ChangeSpec := { name := "normValues", fn := fun _ => fun
  | [d1, d2] => { results := [.lit (.bool false)], args := [d1, d2] }
  | _ => none }
def NormValuesWrongFalsely : Prop := normValuesRow.holds Try.pinned (OpenSpec.ofChange normValuesWrong)

/-- 'tabardlaw09.NormAtoms': WHATEVER THE INPUT: true; the input reads as it did. -/
def normAtomsSpec : ChangeSpec := { name := "normAtoms", fn := fun _ => fun
  | [d] => { results := [.lit (.bool true)], args := [d] }
  | _ => none }
def normAtomsRow : OpenClaim := { program := "ytjknpmibdkoklaa", sum := "68f6a01997e7dc24404435513c4d31815138d8b5b8567f4c31869fd24fc3987b", func := "tabard/tabardlaw09.NormAtoms", spec := "normAtoms", unfollowed := true, recurses := true, loops := true, apart := false }
def NormAtomsSaid : Prop := normAtomsRow.holds Try.pinned (OpenSpec.ofChange normAtomsSpec)

/-- ITS FALSE NEIGHBOUR: 'it returns false'. Refute it at one input. -/
def normAtomsWrong : ChangeSpec := { name := "normAtoms", fn := fun _ => fun
  | [d] => { results := [.lit (.bool false)], args := [d] }
  | _ => none }
def NormAtomsWrongFalsely : Prop := normAtomsRow.holds Try.pinned (OpenSpec.ofChange normAtomsWrong)

/-- 'tabardlaw09.NormChecks': WHATEVER THE INPUT: true; the input reads as it did. -/
def normChecksSpec : ChangeSpec := { name := "normChecks", fn := fun _ => fun
  | [d] => { results := [.lit (.bool true)], args := [d] }
  | _ => none }
def normChecksRow : OpenClaim := { program := "ytjknpmibdkoklaa", sum := "68f6a01997e7dc24404435513c4d31815138d8b5b8567f4c31869fd24fc3987b", func := "tabard/tabardlaw09.NormChecks", spec := "normChecks", unfollowed := true, recurses := true, apart := false }
def NormChecksSaid : Prop := normChecksRow.holds Try.pinned (OpenSpec.ofChange normChecksSpec)

/-- ITS FALSE NEIGHBOUR: 'it returns false'. Refute it at one input. -/
def normChecksWrong : ChangeSpec := { name := "normChecks", fn := fun _ => fun
  | [d] => { results := [.lit (.bool false)], args := [d] }
  | _ => none }
def NormChecksWrongFalsely : Prop := normChecksRow.holds Try.pinned (OpenSpec.ofChange normChecksWrong)

/-- 'tabardlaw10.TruthTurns': WHATEVER THE INPUT: true; the input reads as it did. -/
def truthTurnsSpec : ChangeSpec := { name := "truthTurns", fn := fun _ => fun
  | [d1, d2, d3, d4] => { results := [.lit (.bool true)], args := [d1, d2, d3, d4] }
  | _ => none }
def truthTurnsRow : OpenClaim := { program := "ytjknpmibdkoklaa", sum := "68f6a01997e7dc24404435513c4d31815138d8b5b8567f4c31869fd24fc3987b", func := "tabard/tabardlaw10.TruthTurns", spec := "truthTurns", unfollowed := true, recurses := true, loops := true, apart := false }
def TruthTurnsSaid : Prop := truthTurnsRow.holds Try.pinned (OpenSpec.ofChange truthTurnsSpec)

/-- ITS FALSE NEIGHBOUR: 'it returns false'. Refute it at one input. -/
def truthTurnsWrong : ChangeSpec := { name := "truthTurns", fn := fun _ => fun
  | [d1, d2, d3, d4] => { results := [.lit (.bool false)], args := [d1, d2, d3, d4] }
  | _ => none }
def TruthTurnsWrongFalsely : Prop := truthTurnsRow.holds Try.pinned (OpenSpec.ofChange truthTurnsWrong)

/-- 'tabardlaw10.TruthConnects': WHATEVER THE INPUT: true; the input reads as it did. -/
def truthConnectsSpec : ChangeSpec := { name := "truthConnects", fn := fun _ => fun
  | [d1, d2, d3, d4] => { results := [.lit (.bool true)], args := [d1, d2, d3, d4] }
  | _ => none }
def truthConnectsRow : OpenClaim := { program := "ytjknpmibdkoklaa", sum := "68f6a01997e7dc24404435513c4d31815138d8b5b8567f4c31869fd24fc3987b", func := "tabard/tabardlaw10.TruthConnects", spec := "truthConnects", unfollowed := true, recurses := true, loops := true, apart := false }
def TruthConnectsSaid : Prop := truthConnectsRow.holds Try.pinned (OpenSpec.ofChange truthConnectsSpec)

/-- ITS FALSE NEIGHBOUR: 'it returns false'. Refute it at one input. -/
def truthConnectsWrong : ChangeSpec := { name := "truthConnects", fn := fun _ => fun
  | [d1, d2, d3, d4] => { results := [.lit (.bool false)], args := [d1, d2, d3, d4] }
  | _ => none }
def TruthConnectsWrongFalsely : Prop := truthConnectsRow.holds Try.pinned (OpenSpec.ofChange truthConnectsWrong)

/- THE SECOND FORM. 'bulk': how many values and letters a reading holds, each counted each time it is reached (what is shared counts as often as it is met; a slice's spare places count too). A statement '..UptoSaid' is the law's where the arguments, and the package variables that the reading takes, are together of bulk at most 1048576: NARROWER than '..Said'. Prove '..Said' where nothing that the law and all that it calls make is longer than what came in: it says more and counts as full. Else prove '..UptoSaid'. A law counts once. -/
mutual
def uptoBulk {H : Type} : DataW H → Nat
  | .lit (.string bytes) => bytes.length + 1
  | .lit _ => 1
  | .nil => 1
  | .ptr d => uptoBulk d + 1
  | .slice elems spare => uptoBulkAll elems + uptoBulkAll spare + 1
  | .agg parts => uptoBulkAll parts + 1
  | .iface _ d => uptoBulk d + 1
  | .map entries => uptoBulkEntries entries + 1
  | .held _ => 1
def uptoBulkAll {H : Type} : List (DataW H) → Nat
  | [] => 0
  | d :: r => uptoBulk d + uptoBulkAll r
def uptoBulkEntries {H : Type} : List (Lit × DataW H) → Nat
  | [] => 0
  | x :: r => uptoBulkEntry x + uptoBulkEntries r
def uptoBulkEntry {H : Type} : Lit × DataW H → Nat
  | (.string bytes, d) => bytes.length + uptoBulk d + 1
  | (_, d) => uptoBulk d + 1
 end
def uptoSmall : (H : Type) → List (DataW H) → Bool := fun _ ds => decide (uptoBulkAll ds ≤ 1048576)
def OpenSpec.upto (s : _root_.Go.ChangeSpec) : _root_.Go.OpenSpec := { _root_.Go.OpenSpec.ofChange s with cond := some uptoSmall }

/-- 'tabardlaw04.GlyphLists', WHERE WHAT IT READS IS OF BULK AT MOST 1048576: true; the input reads as it did. -/
def glyphListsUptoRow : OpenClaim := { program := "ytjknpmibdkoklaa", sum := "68f6a01997e7dc24404435513c4d31815138d8b5b8567f4c31869fd24fc3987b", func := "tabard/tabardlaw04.GlyphLists", spec := "glyphLists", unfollowed := true, recurses := true, apart := false, narrowed := true }
def GlyphListsUptoSaid : Prop := glyphListsUptoRow.holds Try.pinned (OpenSpec.upto glyphListsSpec)

/-- 'tabardlaw04.GlyphUnions', WHERE WHAT IT READS IS OF BULK AT MOST 1048576: true; the input reads as it did. -/
def glyphUnionsUptoRow : OpenClaim := { program := "ytjknpmibdkoklaa", sum := "68f6a01997e7dc24404435513c4d31815138d8b5b8567f4c31869fd24fc3987b", func := "tabard/tabardlaw04.GlyphUnions", spec := "glyphUnions", unfollowed := true, recurses := true, apart := false, narrowed := true }
def GlyphUnionsUptoSaid : Prop := glyphUnionsUptoRow.holds Try.pinned (OpenSpec.upto glyphUnionsSpec)

/-- 'tabardlaw06.TreeNumbers', WHERE WHAT IT READS IS OF BULK AT MOST 1048576: true; the input reads as it did. -/
def treeNumbersUptoRow : OpenClaim := { program := "ytjknpmibdkoklaa", sum := "68f6a01997e7dc24404435513c4d31815138d8b5b8567f4c31869fd24fc3987b", func := "tabard/tabardlaw06.TreeNumbers", spec := "treeNumbers", unfollowed := true, recurses := true, apart := false, narrowed := true }
def TreeNumbersUptoSaid : Prop := treeNumbersUptoRow.holds Try.pinned (OpenSpec.upto treeNumbersSpec)

/-- 'tabardlaw06.TreeFree', WHERE WHAT IT READS IS OF BULK AT MOST 1048576: true; the input reads as it did. -/
def treeFreeUptoRow : OpenClaim := { program := "ytjknpmibdkoklaa", sum := "68f6a01997e7dc24404435513c4d31815138d8b5b8567f4c31869fd24fc3987b", func := "tabard/tabardlaw06.TreeFree", spec := "treeFree", unfollowed := true, recurses := true, loops := true, apart := false, narrowed := true }
def TreeFreeUptoSaid : Prop := treeFreeUptoRow.holds Try.pinned (OpenSpec.upto treeFreeSpec)

/-- 'tabardlaw06.TreeMemory', WHERE WHAT IT READS IS OF BULK AT MOST 1048576: true; the input reads as it did. -/
def treeMemoryUptoRow : OpenClaim := { program := "ytjknpmibdkoklaa", sum := "68f6a01997e7dc24404435513c4d31815138d8b5b8567f4c31869fd24fc3987b", func := "tabard/tabardlaw06.TreeMemory", spec := "treeMemory", unfollowed := true, recurses := true, loops := true, apart := false, narrowed := true }
def TreeMemoryUptoSaid : Prop := treeMemoryUptoRow.holds Try.pinned (OpenSpec.upto treeMemorySpec)

/-- 'tabardlaw06.TreeSames', WHERE WHAT IT READS IS OF BULK AT MOST 1048576: true; the input reads as it did. -/
def treeSamesUptoRow : OpenClaim := { program := "ytjknpmibdkoklaa", sum := "68f6a01997e7dc24404435513c4d31815138d8b5b8567f4c31869fd24fc3987b", func := "tabard/tabardlaw06.TreeSames", spec := "treeSames", unfollowed := true, recurses := true, loops := true, apart := false, narrowed := true }
def TreeSamesUptoSaid : Prop := treeSamesUptoRow.holds Try.pinned (OpenSpec.upto treeSamesSpec)

/-- 'tabardlaw06.TreeJoins', WHERE WHAT IT READS IS OF BULK AT MOST 1048576: true; the input reads as it did. -/
def treeJoinsUptoRow : OpenClaim := { program := "ytjknpmibdkoklaa", sum := "68f6a01997e7dc24404435513c4d31815138d8b5b8567f4c31869fd24fc3987b", func := "tabard/tabardlaw06.TreeJoins", spec := "treeJoins", unfollowed := true, recurses := true, loops := true, apart := false, narrowed := true }
def TreeJoinsUptoSaid : Prop := treeJoinsUptoRow.holds Try.pinned (OpenSpec.upto treeJoinsSpec)

/-- 'tabardlaw06.TreeBinds', WHERE WHAT IT READS IS OF BULK AT MOST 1048576: true; the input reads as it did. -/
def treeBindsUptoRow : OpenClaim := { program := "ytjknpmibdkoklaa", sum := "68f6a01997e7dc24404435513c4d31815138d8b5b8567f4c31869fd24fc3987b", func := "tabard/tabardlaw06.TreeBinds", spec := "treeBinds", unfollowed := true, recurses := true, loops := true, apart := false, narrowed := true }
def TreeBindsUptoSaid : Prop := treeBindsUptoRow.holds Try.pinned (OpenSpec.upto treeBindsSpec)

/-- 'tabardlaw09.NormHolds', WHERE WHAT IT READS IS OF BULK AT MOST 1048576: true; the input reads as it did. -/
def normHoldsUptoRow : OpenClaim := { program := "ytjknpmibdkoklaa", sum := "68f6a01997e7dc24404435513c4d31815138d8b5b8567f4c31869fd24fc3987b", func := "tabard/tabardlaw09.NormHolds", spec := "normHolds", unfollowed := true, recurses := true, loops := true, apart := false, narrowed := true }
def NormHoldsUptoSaid : Prop := normHoldsUptoRow.holds Try.pinned (OpenSpec.upto normHoldsSpec)

/-- 'tabardlaw09.NormTurns', WHERE WHAT IT READS IS OF BULK AT MOST 1048576: true; the input reads as it did. -/
def normTurnsUptoRow : OpenClaim := { program := "ytjknpmibdkoklaa", sum := "68f6a01997e7dc24404435513c4d31815138d8b5b8567f4c31869fd24fc3987b", func := "tabard/tabardlaw09.NormTurns", spec := "normTurns", unfollowed := true, recurses := true, loops := true, apart := false, narrowed := true }
def NormTurnsUptoSaid : Prop := normTurnsUptoRow.holds Try.pinned (OpenSpec.upto normTurnsSpec)

/-- 'tabardlaw09.NormLinear', WHERE WHAT IT READS IS OF BULK AT MOST 1048576: true; the input reads as it did. -/
def normLinearUptoRow : OpenClaim := { program := "ytjknpmibdkoklaa", sum := "68f6a01997e7dc24404435513c4d31815138d8b5b8567f4c31869fd24fc3987b", func := "tabard/tabardlaw09.NormLinear", spec := "normLinear", unfollowed := true, recurses := true, loops := true, apart := false, narrowed := true }
def NormLinearUptoSaid : Prop := normLinearUptoRow.holds Try.pinned (OpenSpec.upto normLinearSpec)

/-- 'tabardlaw09.NormValues', WHERE WHAT IT READS IS OF BULK AT MOST 1048576: true; the input reads as it did. -/
def normValuesUptoRow : OpenClaim := { program := "ytjknpmibdkoklaa", sum := "68f6a01997e7dc24404435513c4d31815138d8b5b8567f4c31869fd24fc3987b", func := "tabard/tabardlaw09.NormValues", spec := "normValues", unfollowed := true, recurses := true, loops := true, apart := false, narrowed := true }
def NormValuesUptoSaid : Prop := normValuesUptoRow.holds Try.pinned (OpenSpec.upto normValuesSpec)

/-- 'tabardlaw09.NormAtoms', WHERE WHAT IT READS IS OF BULK AT MOST 1048576: true; the input reads as it did. -/
def normAtomsUptoRow : OpenClaim := { program := "ytjknpmibdkoklaa", sum := "68f6a01997e7dc24404435513c4d31815138d8b5b8567f4c31869fd24fc3987b", func := "tabard/tabardlaw09.NormAtoms", spec := "normAtoms", unfollowed := true, recurses := true, loops := true, apart := false, narrowed := true }
def NormAtomsUptoSaid : Prop := normAtomsUptoRow.holds Try.pinned (OpenSpec.upto normAtomsSpec)

/-- 'tabardlaw09.NormChecks', WHERE WHAT IT READS IS OF BULK AT MOST 1048576: true; the input reads as it did. -/
def normChecksUptoRow : OpenClaim := { program := "ytjknpmibdkoklaa", sum := "68f6a01997e7dc24404435513c4d31815138d8b5b8567f4c31869fd24fc3987b", func := "tabard/tabardlaw09.NormChecks", spec := "normChecks", unfollowed := true, recurses := true, apart := false, narrowed := true }
def NormChecksUptoSaid : Prop := normChecksUptoRow.holds Try.pinned (OpenSpec.upto normChecksSpec)

/-- 'tabardlaw10.TruthTurns', WHERE WHAT IT READS IS OF BULK AT MOST 1048576: true; the input reads as it did. -/
def truthTurnsUptoRow : OpenClaim := { program := "ytjknpmibdkoklaa", sum := "68f6a01997e7dc24404435513c4d31815138d8b5b8567f4c31869fd24fc3987b", func := "tabard/tabardlaw10.TruthTurns", spec := "truthTurns", unfollowed := true, recurses := true, loops := true, apart := false, narrowed := true }
def TruthTurnsUptoSaid : Prop := truthTurnsUptoRow.holds Try.pinned (OpenSpec.upto truthTurnsSpec)

/-- 'tabardlaw10.TruthConnects', WHERE WHAT IT READS IS OF BULK AT MOST 1048576: true; the input reads as it did. -/
def truthConnectsUptoRow : OpenClaim := { program := "ytjknpmibdkoklaa", sum := "68f6a01997e7dc24404435513c4d31815138d8b5b8567f4c31869fd24fc3987b", func := "tabard/tabardlaw10.TruthConnects", spec := "truthConnects", unfollowed := true, recurses := true, loops := true, apart := false, narrowed := true }
def TruthConnectsUptoSaid : Prop := truthConnectsUptoRow.holds Try.pinned (OpenSpec.upto truthConnectsSpec)

end Rows
end Go.Proofs.Ytjknpmibdkoklaa
