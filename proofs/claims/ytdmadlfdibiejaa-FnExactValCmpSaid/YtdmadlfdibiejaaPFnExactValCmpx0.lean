/- Written by this session's own driver (wip/dprint.py): the functions that the law FnExactValCmp reaches, as Lean functions, each with its contract. -/
import Derived.Test.YtdmadlfdibiejaaProg
import Derived.Below
import Derived.Deep.Draws
import Derived.Deep.AppendLies
import Derived.Maps.AppendAt
import Derived.OwnWalk
import Derived.Laws.BytesArg
import Derived.Laws.MakeOwn
import Derived.Laws.OwnMore
import Derived.Deep.OwnRows
import Derived.Tactics
import Derived.Lib.ConvBytes
import Derived.Laws.Slices
import Derived.WalkKit
import Derived.KernelRfl
import Derived.RowKit3
import Derived.Deep.LoopGhost
import Derived.Deep.QuietTactic
import Derived.BigQuiet
import Derived.WideLaws
import Derived.Deep.DeepCutAuto
import Derived.Deep.CutBlock
import Derived.Deep.RegionHeld3
import Derived.Laws.Rows
import Derived.Lib.AppendStr
import Derived.ArgAppend
import Derived.Laws.IdiomCopy
import Derived.OrdersHeld
import Derived.Laws.BitsLemmas
import Derived.RowKit
import Derived.Test.YtdmadlfdibiejaaSet
import Derived.Test.YtdmadlfdibiejaaVWords
import Derived.Test.YtdmadlfdibiejaaVLast
import Derived.Test.YtdmadlfdibiejaaVTab
import Derived.Test.YtdmadlfdibiejaaVFour
import Derived.Test.YtdmadlfdibiejaaVQPut
import Derived.Test.YtdmadlfdibiejaaVApart
import Derived.Test.YtdmadlfdibiejaaVArr
import Derived.Test.YtdmadlfdibiejaaVZeros
import Derived.Test.YtdmadlfdibiejaaVFoot
import Derived.Test.YtdmadlfdibiejaaVKept
import Derived.Test.YtdmadlfdibiejaaVShare
import Derived.Test.YtdmadlfdibiejaaVN
import Derived.Test.YtdmadlfdibiejaaVFootNe
import Derived.Test.YtdmadlfdibiejaaVAt
import Derived.Test.YtdmadlfdibiejaaVEqStruct
import Derived.Test.YtdmadlfdibiejaaVRepsOne
import Derived.Test.YtdmadlfdibiejaaVInv
import Derived.Test.YtdmadlfdibiejaaVInvWords
import Derived.Test.YtdmadlfdibiejaaVGuard
import Derived.Test.YtdmadlfdibiejaaVNEv
import Derived.Test.YtdmadlfdibiejaaVMore
import Derived.Test.YtdmadlfdibiejaaSv
namespace Go.Proofs.Ytdmadlfdibiejaa.PFnExactValCmp
open Go.RowKit Go.Proofs.YtdmadlfdibiejaaV.PrintWords Go.Proofs.YtdmadlfdibiejaaV.PrintLast Go.Proofs.YtdmadlfdibiejaaV.PrintMore Go.Proofs.YtdmadlfdibiejaaSv
set_option linter.unusedVariables false
set_option linter.unusedSimpArgs false
section
attribute [local go_sem] max2_int min2_int max_two min_two max_three min_three max_four min_four
def errW : Option Int → Value
 | none => .nilIface
 | some c => .iface 0 (.int .i64 c)
theorem errW_none : errW none = .nilIface := rfl
theorem errW_some (c : Int) : errW (some c) = .iface 0 (.int .i64 c) := rfl

theorem info3 : (Try.prog.info? 3).map (fun i => (i.zero, i.size, i.bytes)) = some (some (.int .i64 0), 1, 8) := by kernel_rfl
-- the values' own types
end
end Go.Proofs.Ytdmadlfdibiejaa.PFnExactValCmp
