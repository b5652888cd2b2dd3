-- PRINTED by print.py (a twelfth state) out of the translation. Not trusted: Lean checks it.
import Derived.Test.YtmodmjeibbgdgaaProg
import Derived.Below
import Derived.Deep.Draws
import Derived.Deep.AppendLies
import Derived.Maps.AppendAt
import Derived.OwnWalk
import Derived.Laws.BytesArg
import Derived.Laws.MakeOwn
import Derived.Laws.OwnMore
import Derived.Deep.OwnRows
import Derived.Tactics
import Derived.Lib.ConvBytes
import Derived.Laws.Slices
import Derived.WalkKit
import Derived.KernelRfl
import Derived.RowKit3
import Derived.Deep.LoopGhost
import Derived.Deep.QuietTactic
import Derived.BigQuiet
import Derived.WideLaws
import Derived.Deep.DeepCutAuto
import Derived.Deep.CutBlock
import Derived.Deep.RegionHeld3
import Derived.Laws.Rows
import Derived.Lib.AppendStr
import Derived.ArgAppend
import Derived.Laws.IdiomCopy
import Derived.OrdersHeld
import Derived.Laws.BitsLemmas
import Derived.RowKit
import Derived.Test.YtmodmjeibbgdgaaWWords
import Derived.Test.YtmodmjeibbgdgaaWLast
import Derived.Test.YtmodmjeibbgdgaaWTab
import Derived.Test.YtmodmjeibbgdgaaWFour
import Derived.Test.YtmodmjeibbgdgaaWQPut
import Derived.Test.YtmodmjeibbgdgaaWApart
import Derived.Test.YtmodmjeibbgdgaaWArr
import Derived.Test.YtmodmjeibbgdgaaWZeros
import Derived.Test.YtmodmjeibbgdgaaWFoot
import Derived.Test.YtmodmjeibbgdgaaWKept
import Derived.Test.YtmodmjeibbgdgaaWShare
import Derived.Test.YtmodmjeibbgdgaaWN
import Derived.Test.YtmodmjeibbgdgaaWFootNe
import Derived.Test.YtmodmjeibbgdgaaWAt
import Derived.Test.YtmodmjeibbgdgaaWEqStruct
import Derived.Test.YtmodmjeibbgdgaaWRepsOne
import Derived.Test.YtmodmjeibbgdgaaWInv
import Derived.Test.YtmodmjeibbgdgaaWInvWords
import Derived.Test.YtmodmjeibbgdgaaWGuard
import Derived.Test.YtmodmjeibbgdgaaWNEv
import Derived.Test.YtmodmjeibbgdgaaWMore
namespace Go.Proofs.Ytmodmjeibbgdgaa.PR
open Go.RowKit Go.Proofs.YtmodmjeibbgdgaaW.PrintWords Go.Proofs.YtmodmjeibbgdgaaW.PrintLast Go.Proofs.YtmodmjeibbgdgaaW.PrintMore
attribute [local go_sem] max2_int min2_int max_two min_two max_three min_three max_four min_four   -- for this text's walks alone
set_option linter.unusedVariables false
set_option linter.unusedSimpArgs false



def errW : Option Int → Value
  | none => .nilIface
  | some c => .iface 0 (.int .i64 c)
theorem errW_none : errW none = .nilIface := rfl
theorem errW_some (c : Int) : errW (some c) = .iface 0 (.int .i64 c) := rfl

theorem info3 : (Try.prog.info? 3).map (fun i => (i.zero, i.size, i.bytes)) = some (some (.int .i64 0), 1, 8) := by kernel_rfl
theorem info5 : (Try.prog.info? 5).map (fun i => (i.zero, i.size, i.bytes)) = some (some (.int .u8 0), 1, 1) := by kernel_rfl
theorem info33 : (Try.prog.info? 33).map (fun i => (i.zero, i.size, i.bytes)) = some (some (.int .u32 0), 1, 4) := by kernel_rfl
-- the values' own types

end Go.Proofs.Ytmodmjeibbgdgaa.PR
