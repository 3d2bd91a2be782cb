-- PRINTED by print.py (a twelfth state) out of the translation. Not trusted: Lean checks it.
import Derived.Test.YtekfcbgndjmhnaaProg
import Derived.Below
import Derived.Deep.Draws
import Derived.Deep.AppendLies
import Derived.Maps.AppendAt
import Derived.OwnWalk
import Derived.Laws.BytesArg
import Derived.Laws.MakeOwn
import Derived.Laws.OwnMore
import Derived.Deep.OwnRows
import Derived.Tactics
import Derived.Lib.ConvBytes
import Derived.Laws.Slices
import Derived.WalkKit
import Derived.KernelRfl
import Derived.RowKit3
import Derived.Deep.LoopGhost
import Derived.Deep.QuietTactic
import Derived.BigQuiet
import Derived.WideLaws
import Derived.Deep.DeepCutAuto
import Derived.Deep.CutBlock
import Derived.Deep.RegionHeld3
import Derived.Laws.Rows
import Derived.Lib.AppendStr
import Derived.ArgAppend
import Derived.Laws.IdiomCopy
import Derived.OrdersHeld
import Derived.Laws.BitsLemmas
import Derived.RowKit
import Derived.Test.YtekfcbgndjmhnaaWWords
import Derived.Test.YtekfcbgndjmhnaaWLast
import Derived.Test.YtekfcbgndjmhnaaWTab
import Derived.Test.YtekfcbgndjmhnaaWFour
import Derived.Test.YtekfcbgndjmhnaaWQPut
import Derived.Test.YtekfcbgndjmhnaaWApart
import Derived.Test.YtekfcbgndjmhnaaWArr
import Derived.Test.YtekfcbgndjmhnaaWZeros
import Derived.Test.YtekfcbgndjmhnaaWFoot
import Derived.Test.YtekfcbgndjmhnaaWKept
import Derived.Test.YtekfcbgndjmhnaaWShare
import Derived.Test.YtekfcbgndjmhnaaWN
import Derived.Test.YtekfcbgndjmhnaaWFootNe
import Derived.Test.YtekfcbgndjmhnaaWAt
import Derived.Test.YtekfcbgndjmhnaaWEqStruct
import Derived.Test.YtekfcbgndjmhnaaWRepsOne
import Derived.Test.YtekfcbgndjmhnaaWInv
import Derived.Test.YtekfcbgndjmhnaaWInvWords
import Derived.Test.YtekfcbgndjmhnaaWGuard
import Derived.Test.YtekfcbgndjmhnaaWNEv
import Derived.Test.YtekfcbgndjmhnaaWMore
namespace Go.Proofs.Ytekfcbgndjmhnaa.Fn
open Go.RowKit Go.Proofs.YtekfcbgndjmhnaaW.PrintWords Go.Proofs.YtekfcbgndjmhnaaW.PrintLast Go.Proofs.YtekfcbgndjmhnaaW.PrintMore
attribute [local go_sem] max2_int min2_int max_two min_two max_three min_three max_four min_four   -- for this text's walks alone
set_option linter.unusedVariables false
set_option linter.unusedSimpArgs false



def errW : Option Int → Value
  | none => .nilIface
  | some c => .iface 0 (.int .i64 c)
theorem errW_none : errW none = .nilIface := rfl
theorem errW_some (c : Int) : errW (some c) = .iface 0 (.int .i64 c) := rfl

theorem info4 : (Try.prog.info? 4).map (fun i => (i.zero, i.size, i.bytes)) = some (some (.bool false), 1, 1) := by kernel_rfl
-- the values' own types

end Go.Proofs.Ytekfcbgndjmhnaa.Fn
