/- Written by this session's own driver (wip/dprint.py): the functions that the law FnNumDo reaches, as Lean functions, each with its contract. -/
import Derived.Test.YtjkmefkgagfcaaaProg
import Derived.Below
import Derived.Deep.Draws
import Derived.Deep.AppendLies
import Derived.Maps.AppendAt
import Derived.OwnWalk
import Derived.Laws.BytesArg
import Derived.Laws.MakeOwn
import Derived.Laws.OwnMore
import Derived.Deep.OwnRows
import Derived.Tactics
import Derived.Lib.ConvBytes
import Derived.Laws.Slices
import Derived.WalkKit
import Derived.KernelRfl
import Derived.RowKit3
import Derived.Deep.LoopGhost
import Derived.Deep.QuietTactic
import Derived.BigQuiet
import Derived.WideLaws
import Derived.Deep.DeepCutAuto
import Derived.Deep.CutBlock
import Derived.Deep.RegionHeld3
import Derived.Laws.Rows
import Derived.Lib.AppendStr
import Derived.ArgAppend
import Derived.Laws.IdiomCopy
import Derived.OrdersHeld
import Derived.Laws.BitsLemmas
import Derived.RowKit
import Derived.Test.YtjkmefkgagfcaaaWWords
import Derived.Test.YtjkmefkgagfcaaaWLast
import Derived.Test.YtjkmefkgagfcaaaWTab
import Derived.Test.YtjkmefkgagfcaaaWFour
import Derived.Test.YtjkmefkgagfcaaaWQPut
import Derived.Test.YtjkmefkgagfcaaaWApart
import Derived.Test.YtjkmefkgagfcaaaWArr
import Derived.Test.YtjkmefkgagfcaaaWZeros
import Derived.Test.YtjkmefkgagfcaaaWFoot
import Derived.Test.YtjkmefkgagfcaaaWKept
import Derived.Test.YtjkmefkgagfcaaaWShare
import Derived.Test.YtjkmefkgagfcaaaWN
import Derived.Test.YtjkmefkgagfcaaaWFootNe
import Derived.Test.YtjkmefkgagfcaaaWAt
import Derived.Test.YtjkmefkgagfcaaaWEqStruct
import Derived.Test.YtjkmefkgagfcaaaWRepsOne
import Derived.Test.YtjkmefkgagfcaaaWInv
import Derived.Test.YtjkmefkgagfcaaaWInvWords
import Derived.Test.YtjkmefkgagfcaaaWGuard
import Derived.Test.YtjkmefkgagfcaaaWNEv
import Derived.Test.YtjkmefkgagfcaaaWMore
namespace Go.Proofs.Ytjkmefkgagfcaaa.PFnNumDo
open Go.RowKit Go.Proofs.YtjkmefkgagfcaaaW.PrintWords Go.Proofs.YtjkmefkgagfcaaaW.PrintLast Go.Proofs.YtjkmefkgagfcaaaW.PrintMore
attribute [local go_sem] max2_int min2_int max_two min_two max_three min_three max_four min_four   -- for this text's walks alone
set_option linter.unusedVariables false
set_option linter.unusedSimpArgs false



def errW : Option Int → Value
  | none => .nilIface
  | some c => .iface 0 (.int .i64 c)
theorem errW_none : errW none = .nilIface := rfl
theorem errW_some (c : Int) : errW (some c) = .iface 0 (.int .i64 c) := rfl

theorem info5 : (Try.prog.info? 5).map (fun i => (i.zero, i.size, i.bytes)) = some (some (.int .u8 0), 1, 1) := by kernel_rfl
-- the values' own types

end Go.Proofs.Ytjkmefkgagfcaaa.PFnNumDo
