/- Written by this session's own driver (wip/dprint.py): the functions that the law FnExactGapsHas reaches, as Lean functions, each with its contract. -/
import Derived.Test.YtnmccgjdnceheaaProg
import Derived.Below
import Derived.Deep.Draws
import Derived.Deep.AppendLies
import Derived.Maps.AppendAt
import Derived.OwnWalk
import Derived.Laws.BytesArg
import Derived.Laws.MakeOwn
import Derived.Laws.OwnMore
import Derived.Deep.OwnRows
import Derived.Tactics
import Derived.Lib.ConvBytes
import Derived.Laws.Slices
import Derived.WalkKit
import Derived.KernelRfl
import Derived.RowKit3
import Derived.Deep.LoopGhost
import Derived.Deep.QuietTactic
import Derived.BigQuiet
import Derived.WideLaws
import Derived.Deep.DeepCutAuto
import Derived.Deep.CutBlock
import Derived.Deep.RegionHeld3
import Derived.Laws.Rows
import Derived.Lib.AppendStr
import Derived.ArgAppend
import Derived.Laws.IdiomCopy
import Derived.OrdersHeld
import Derived.Laws.BitsLemmas
import Derived.RowKit
import Derived.Test.YtnmccgjdnceheaaCap
import Derived.Test.YtnmccgjdnceheaaWWords
import Derived.Test.YtnmccgjdnceheaaWLast
import Derived.Test.YtnmccgjdnceheaaWTab
import Derived.Test.YtnmccgjdnceheaaWFour
import Derived.Test.YtnmccgjdnceheaaWQPut
import Derived.Test.YtnmccgjdnceheaaWApart
import Derived.Test.YtnmccgjdnceheaaWArr
import Derived.Test.YtnmccgjdnceheaaWZeros
import Derived.Test.YtnmccgjdnceheaaWFoot
import Derived.Test.YtnmccgjdnceheaaWKept
import Derived.Test.YtnmccgjdnceheaaWShare
import Derived.Test.YtnmccgjdnceheaaWN
import Derived.Test.YtnmccgjdnceheaaWFootNe
import Derived.Test.YtnmccgjdnceheaaWAt
import Derived.Test.YtnmccgjdnceheaaWEqStruct
import Derived.Test.YtnmccgjdnceheaaWRepsOne
import Derived.Test.YtnmccgjdnceheaaWInv
import Derived.Test.YtnmccgjdnceheaaWInvWords
import Derived.Test.YtnmccgjdnceheaaWGuard
import Derived.Test.YtnmccgjdnceheaaWNEv
import Derived.Test.YtnmccgjdnceheaaWMore
namespace Go.Proofs.Ytnmccgjdnceheaa.PFnExactGapsHas
open Go.RowKit Go.Proofs.YtnmccgjdnceheaaW.PrintWords Go.Proofs.YtnmccgjdnceheaaW.PrintLast Go.Proofs.YtnmccgjdnceheaaW.PrintMore
attribute [local go_sem] max2_int min2_int max_two min_two max_three min_three max_four min_four   -- for this text's walks alone
set_option linter.unusedVariables false
set_option linter.unusedSimpArgs false



def errW : Option Int → Value
  | none => .nilIface
  | some c => .iface 0 (.int .i64 c)
theorem errW_none : errW none = .nilIface := rfl
theorem errW_some (c : Int) : errW (some c) = .iface 0 (.int .i64 c) := rfl

theorem info3 : (Try.prog.info? 3).map (fun i => (i.zero, i.size, i.bytes)) = some (some (.int .i64 0), 1, 8) := by kernel_rfl
-- the values' own types

end Go.Proofs.Ytnmccgjdnceheaa.PFnExactGapsHas
