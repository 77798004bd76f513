/- Written by this session's own driver (wip/dprint.py): the functions that the law FnExactValWiden reaches, as Lean functions, each with its contract. -/
import Derived.Test.YtnmccgjdnceheaaProg
import Derived.Below
import Derived.Deep.Draws
import Derived.Deep.AppendLies
import Derived.Maps.AppendAt
import Derived.OwnWalk
import Derived.Laws.BytesArg
import Derived.Laws.MakeOwn
import Derived.Laws.OwnMore
import Derived.Deep.OwnRows
import Derived.Tactics
import Derived.Lib.ConvBytes
import Derived.Laws.Slices
import Derived.WalkKit
import Derived.KernelRfl
import Derived.RowKit3
import Derived.Deep.LoopGhost
import Derived.Deep.QuietTactic
import Derived.BigQuiet
import Derived.WideLaws
import Derived.Deep.DeepCutAuto
import Derived.Deep.CutBlock
import Derived.Deep.RegionHeld3
import Derived.Laws.Rows
import Derived.Lib.AppendStr
import Derived.ArgAppend
import Derived.Laws.IdiomCopy
import Derived.OrdersHeld
import Derived.Laws.BitsLemmas
import Derived.RowKit
import Derived.Test.YtnmccgjdnceheaaVWords
import Derived.Test.YtnmccgjdnceheaaVLast
import Derived.Test.YtnmccgjdnceheaaVTab
import Derived.Test.YtnmccgjdnceheaaVFour
import Derived.Test.YtnmccgjdnceheaaVQPut
import Derived.Test.YtnmccgjdnceheaaVApart
import Derived.Test.YtnmccgjdnceheaaVArr
import Derived.Test.YtnmccgjdnceheaaVZeros
import Derived.Test.YtnmccgjdnceheaaVFoot
import Derived.Test.YtnmccgjdnceheaaVKept
import Derived.Test.YtnmccgjdnceheaaVShare
import Derived.Test.YtnmccgjdnceheaaVN
import Derived.Test.YtnmccgjdnceheaaVFootNe
import Derived.Test.YtnmccgjdnceheaaVAt
import Derived.Test.YtnmccgjdnceheaaVEqStruct
import Derived.Test.YtnmccgjdnceheaaVRepsOne
import Derived.Test.YtnmccgjdnceheaaVInv
import Derived.Test.YtnmccgjdnceheaaVInvWords
import Derived.Test.YtnmccgjdnceheaaVGuard
import Derived.Test.YtnmccgjdnceheaaVNEv
import Derived.Test.YtnmccgjdnceheaaVMore
import Derived.Test.YtnmccgjdnceheaaSv
namespace Go.Proofs.Ytnmccgjdnceheaa.PFnExactValWiden
open Go.RowKit Go.Proofs.YtnmccgjdnceheaaV.PrintWords Go.Proofs.YtnmccgjdnceheaaV.PrintLast Go.Proofs.YtnmccgjdnceheaaV.PrintMore Go.Proofs.YtnmccgjdnceheaaSv
attribute [local go_sem] max2_int min2_int max_two min_two max_three min_three max_four min_four   -- for this text's walks alone
set_option linter.unusedVariables false
set_option linter.unusedSimpArgs false



def errW : Option Int → Value
 | none => .nilIface
 | some c => .iface 0 (.int .i64 c)
theorem errW_none : errW none = .nilIface := rfl
theorem errW_some (c : Int) : errW (some c) = .iface 0 (.int .i64 c) := rfl

theorem info3 : (Try.prog.info? 3).map (fun i => (i.zero, i.size, i.bytes)) = some (some (.int .i64 0), 1, 8) := by kernel_rfl
-- the values' own types

end Go.Proofs.Ytnmccgjdnceheaa.PFnExactValWiden
