/- Written by this session's own driver (wip/dprint.py): the functions that the law FnValTurn reaches, as Lean functions, each with its contract. -/
import Derived.Test.YthbkakcchgnhpaaProg
import Derived.Below
import Derived.Deep.Draws
import Derived.Deep.AppendLies
import Derived.Maps.AppendAt
import Derived.OwnWalk
import Derived.Laws.BytesArg
import Derived.Laws.MakeOwn
import Derived.Laws.OwnMore
import Derived.Deep.OwnRows
import Derived.Tactics
import Derived.Lib.ConvBytes
import Derived.Laws.Slices
import Derived.WalkKit
import Derived.KernelRfl
import Derived.RowKit3
import Derived.Deep.LoopGhost
import Derived.Deep.QuietTactic
import Derived.BigQuiet
import Derived.WideLaws
import Derived.Deep.DeepCutAuto
import Derived.Deep.CutBlock
import Derived.Deep.RegionHeld3
import Derived.Laws.Rows
import Derived.Lib.AppendStr
import Derived.ArgAppend
import Derived.Laws.IdiomCopy
import Derived.OrdersHeld
import Derived.Laws.BitsLemmas
import Derived.RowKit
import Derived.Test.YthbkakcchgnhpaaSet
import Derived.Test.YthbkakcchgnhpaaVWords
import Derived.Test.YthbkakcchgnhpaaVLast
import Derived.Test.YthbkakcchgnhpaaVTab
import Derived.Test.YthbkakcchgnhpaaVFour
import Derived.Test.YthbkakcchgnhpaaVQPut
import Derived.Test.YthbkakcchgnhpaaVApart
import Derived.Test.YthbkakcchgnhpaaVArr
import Derived.Test.YthbkakcchgnhpaaVZeros
import Derived.Test.YthbkakcchgnhpaaVFoot
import Derived.Test.YthbkakcchgnhpaaVKept
import Derived.Test.YthbkakcchgnhpaaVShare
import Derived.Test.YthbkakcchgnhpaaVN
import Derived.Test.YthbkakcchgnhpaaVFootNe
import Derived.Test.YthbkakcchgnhpaaVAt
import Derived.Test.YthbkakcchgnhpaaVEqStruct
import Derived.Test.YthbkakcchgnhpaaVRepsOne
import Derived.Test.YthbkakcchgnhpaaVInv
import Derived.Test.YthbkakcchgnhpaaVInvWords
import Derived.Test.YthbkakcchgnhpaaVGuard
import Derived.Test.YthbkakcchgnhpaaVNEv
import Derived.Test.YthbkakcchgnhpaaVMore
import Derived.Test.YthbkakcchgnhpaaSv
namespace Go.Proofs.Ythbkakcchgnhpaa.PFnValTurn
open Go.RowKit Go.Proofs.YthbkakcchgnhpaaV.PrintWords Go.Proofs.YthbkakcchgnhpaaV.PrintLast Go.Proofs.YthbkakcchgnhpaaV.PrintMore Go.Proofs.YthbkakcchgnhpaaSv
set_option linter.unusedVariables false
set_option linter.unusedSimpArgs false
section
attribute [local go_sem] max2_int min2_int max_two min_two max_three min_three max_four min_four
def errW : Option Int → Value
 | none => .nilIface
 | some c => .iface 0 (.int .i64 c)
theorem errW_none : errW none = .nilIface := rfl
theorem errW_some (c : Int) : errW (some c) = .iface 0 (.int .i64 c) := rfl

theorem info3 : (Try.prog.info? 3).map (fun i => (i.zero, i.size, i.bytes)) = some (some (.int .i64 0), 1, 8) := by kernel_rfl
theorem info5 : (Try.prog.info? 5).map (fun i => (i.zero, i.size, i.bytes)) = some (some (.int .u8 0), 1, 1) := by kernel_rfl
-- the values' own types
end
end Go.Proofs.Ythbkakcchgnhpaa.PFnValTurn
