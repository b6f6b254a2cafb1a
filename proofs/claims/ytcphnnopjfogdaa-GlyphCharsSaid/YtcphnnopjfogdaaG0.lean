/- Functions of the given program as Lean functions, each with its contract: written by this session's program (wip/xprint.py). No condition but those of each contract. -/
import Derived.Test.YtcphnnopjfogdaaProg
import Derived.Below
import Derived.Deep.Draws
import Derived.Deep.AppendLies
import Derived.Maps.AppendAt
import Derived.OwnWalk
import Derived.Laws.BytesArg
import Derived.Laws.MakeOwn
import Derived.Laws.OwnMore
import Derived.Deep.OwnRows
import Derived.Tactics
import Derived.Lib.ConvBytes
import Derived.Laws.Slices
import Derived.WalkKit
import Derived.KernelRfl
import Derived.RowKit3
import Derived.Deep.LoopGhost
import Derived.Deep.QuietTactic
import Derived.BigQuiet
import Derived.WideLaws
import Derived.Deep.DeepCutAuto
import Derived.Deep.CutBlock
import Derived.Deep.RegionHeld3
import Derived.Laws.Rows
import Derived.Lib.AppendStr
import Derived.ArgAppend
import Derived.Laws.IdiomCopy
import Derived.OrdersHeld
import Derived.Laws.BitsLemmas
import Derived.RowKit
import Derived.Test.YtcphnnopjfogdaaXWords
import Derived.Test.YtcphnnopjfogdaaWWords
import Derived.Test.YtcphnnopjfogdaaWLast
import Derived.Test.YtcphnnopjfogdaaWTab
import Derived.Test.YtcphnnopjfogdaaWFour
import Derived.Test.YtcphnnopjfogdaaWQPut
import Derived.Test.YtcphnnopjfogdaaWApart
import Derived.Test.YtcphnnopjfogdaaWArr
import Derived.Test.YtcphnnopjfogdaaWZeros
import Derived.Test.YtcphnnopjfogdaaWFoot
import Derived.Test.YtcphnnopjfogdaaWKept
import Derived.Test.YtcphnnopjfogdaaWShare
import Derived.Test.YtcphnnopjfogdaaWN
import Derived.Test.YtcphnnopjfogdaaWFootNe
import Derived.Test.YtcphnnopjfogdaaWAt
import Derived.Test.YtcphnnopjfogdaaWEqStruct
import Derived.Test.YtcphnnopjfogdaaWRepsOne
import Derived.Test.YtcphnnopjfogdaaWInv
import Derived.Test.YtcphnnopjfogdaaWInvWords
import Derived.Test.YtcphnnopjfogdaaWGuard
import Derived.Test.YtcphnnopjfogdaaWNEv
import Derived.Test.YtcphnnopjfogdaaWMore
namespace Go.Proofs.Ytcphnnopjfogdaa.G
open Go.RowKit Go.Proofs.YtcphnnopjfogdaaW.PrintWords Go.Proofs.YtcphnnopjfogdaaW.PrintLast Go.Proofs.YtcphnnopjfogdaaW.PrintMore
attribute [local go_sem] max2_int min2_int max_two min_two max_three min_three max_four min_four   -- for this text's walks alone
set_option linter.unusedVariables false
set_option linter.unusedSimpArgs false



def errW : Option Int → Value
  | none => .nilIface
  | some c => .iface 0 (.int .i64 c)
theorem errW_none : errW none = .nilIface := rfl
theorem errW_some (c : Int) : errW (some c) = .iface 0 (.int .i64 c) := rfl

theorem info3 : (Try.prog.info? 3).map (fun i => (i.zero, i.size, i.bytes)) = some (some (.int .i64 0), 1, 8) := by kernel_rfl
theorem info9 : (Try.prog.info? 9).map (fun i => (i.zero, i.size, i.bytes)) = some (some (.string ⟨#[]⟩), 1, 16) := by kernel_rfl
-- the values' own types

end Go.Proofs.Ytcphnnopjfogdaa.G
