/- Written by this session's own driver (wip/dprint.py): the functions that the law FnExactRangeCmp reaches, as Lean functions, each with its contract. -/
import Derived.Test.YtlipfemjlicbbaaProg
import Derived.Below
import Derived.Deep.Draws
import Derived.Deep.AppendLies
import Derived.Maps.AppendAt
import Derived.OwnWalk
import Derived.Laws.BytesArg
import Derived.Laws.MakeOwn
import Derived.Laws.OwnMore
import Derived.Deep.OwnRows
import Derived.Tactics
import Derived.Lib.ConvBytes
import Derived.Laws.Slices
import Derived.WalkKit
import Derived.KernelRfl
import Derived.RowKit3
import Derived.Deep.LoopGhost
import Derived.Deep.QuietTactic
import Derived.BigQuiet
import Derived.WideLaws
import Derived.Deep.DeepCutAuto
import Derived.Deep.CutBlock
import Derived.Deep.RegionHeld3
import Derived.Laws.Rows
import Derived.Lib.AppendStr
import Derived.ArgAppend
import Derived.Laws.IdiomCopy
import Derived.OrdersHeld
import Derived.Laws.BitsLemmas
import Derived.RowKit
import Derived.Test.YtlipfemjlicbbaaVWords
import Derived.Test.YtlipfemjlicbbaaVLast
import Derived.Test.YtlipfemjlicbbaaVTab
import Derived.Test.YtlipfemjlicbbaaVFour
import Derived.Test.YtlipfemjlicbbaaVQPut
import Derived.Test.YtlipfemjlicbbaaVApart
import Derived.Test.YtlipfemjlicbbaaVArr
import Derived.Test.YtlipfemjlicbbaaVZeros
import Derived.Test.YtlipfemjlicbbaaVFoot
import Derived.Test.YtlipfemjlicbbaaVKept
import Derived.Test.YtlipfemjlicbbaaVShare
import Derived.Test.YtlipfemjlicbbaaVN
import Derived.Test.YtlipfemjlicbbaaVFootNe
import Derived.Test.YtlipfemjlicbbaaVAt
import Derived.Test.YtlipfemjlicbbaaVEqStruct
import Derived.Test.YtlipfemjlicbbaaVRepsOne
import Derived.Test.YtlipfemjlicbbaaVInv
import Derived.Test.YtlipfemjlicbbaaVInvWords
import Derived.Test.YtlipfemjlicbbaaVGuard
import Derived.Test.YtlipfemjlicbbaaVNEv
import Derived.Test.YtlipfemjlicbbaaVMore
import Derived.Test.YtlipfemjlicbbaaSv
namespace Go.Proofs.Ytlipfemjlicbbaa.PFnExactRangeCmp
open Go.RowKit Go.Proofs.YtlipfemjlicbbaaV.PrintWords Go.Proofs.YtlipfemjlicbbaaV.PrintLast Go.Proofs.YtlipfemjlicbbaaV.PrintMore Go.Proofs.YtlipfemjlicbbaaSv
attribute [local go_sem] max2_int min2_int max_two min_two max_three min_three max_four min_four   -- for this text's walks alone
set_option linter.unusedVariables false
set_option linter.unusedSimpArgs false



def errW : Option Int → Value
 | none => .nilIface
 | some c => .iface 0 (.int .i64 c)
theorem errW_none : errW none = .nilIface := rfl
theorem errW_some (c : Int) : errW (some c) = .iface 0 (.int .i64 c) := rfl

-- the values' own types

end Go.Proofs.Ytlipfemjlicbbaa.PFnExactRangeCmp
