/- Written by this session's own driver (wip/dprint.py): the functions that the law FnExactRangeWiden reaches, as Lean functions, each with its contract. -/
import Derived.Test.YtlipfemjlicbbaaProg
import Derived.Below
import Derived.Deep.Draws
import Derived.Deep.AppendLies
import Derived.Maps.AppendAt
import Derived.OwnWalk
import Derived.Laws.BytesArg
import Derived.Laws.MakeOwn
import Derived.Laws.OwnMore
import Derived.Deep.OwnRows
import Derived.Tactics
import Derived.Lib.ConvBytes
import Derived.Laws.Slices
import Derived.WalkKit
import Derived.KernelRfl
import Derived.RowKit3
import Derived.Deep.LoopGhost
import Derived.Deep.QuietTactic
import Derived.BigQuiet
import Derived.WideLaws
import Derived.Deep.DeepCutAuto
import Derived.Deep.CutBlock
import Derived.Deep.RegionHeld3
import Derived.Laws.Rows
import Derived.Lib.AppendStr
import Derived.ArgAppend
import Derived.Laws.IdiomCopy
import Derived.OrdersHeld
import Derived.Laws.BitsLemmas
import Derived.RowKit
import Derived.Test.YtlipfemjlicbbaaWWords
import Derived.Test.YtlipfemjlicbbaaWLast
import Derived.Test.YtlipfemjlicbbaaWTab
import Derived.Test.YtlipfemjlicbbaaWFour
import Derived.Test.YtlipfemjlicbbaaWQPut
import Derived.Test.YtlipfemjlicbbaaWApart
import Derived.Test.YtlipfemjlicbbaaWArr
import Derived.Test.YtlipfemjlicbbaaWZeros
import Derived.Test.YtlipfemjlicbbaaWFoot
import Derived.Test.YtlipfemjlicbbaaWKept
import Derived.Test.YtlipfemjlicbbaaWShare
import Derived.Test.YtlipfemjlicbbaaWN
import Derived.Test.YtlipfemjlicbbaaWFootNe
import Derived.Test.YtlipfemjlicbbaaWAt
import Derived.Test.YtlipfemjlicbbaaWEqStruct
import Derived.Test.YtlipfemjlicbbaaWRepsOne
import Derived.Test.YtlipfemjlicbbaaWInv
import Derived.Test.YtlipfemjlicbbaaWInvWords
import Derived.Test.YtlipfemjlicbbaaWGuard
import Derived.Test.YtlipfemjlicbbaaWNEv
import Derived.Test.YtlipfemjlicbbaaWMore
import Derived.Test.YtlipfemjlicbbaaSq
namespace Go.Proofs.Ytlipfemjlicbbaa.PFnExactRangeWiden
open Go.RowKit Go.Proofs.YtlipfemjlicbbaaW.PrintWords Go.Proofs.YtlipfemjlicbbaaW.PrintLast Go.Proofs.YtlipfemjlicbbaaW.PrintMore Go.Proofs.YtlipfemjlicbbaaSq
attribute [local go_sem] max2_int min2_int max_two min_two max_three min_three max_four min_four   -- for this text's walks alone
set_option linter.unusedVariables false
set_option linter.unusedSimpArgs false



def errW : Option Int → Value
 | none => .nilIface
 | some c => .iface 0 (.int .i64 c)
theorem errW_none : errW none = .nilIface := rfl
theorem errW_some (c : Int) : errW (some c) = .iface 0 (.int .i64 c) := rfl

theorem info3 : (Try.prog.info? 3).map (fun i => (i.zero, i.size, i.bytes)) = some (some (.int .i64 0), 1, 8) := by kernel_rfl
-- the values' own types

end Go.Proofs.Ytlipfemjlicbbaa.PFnExactRangeWiden
