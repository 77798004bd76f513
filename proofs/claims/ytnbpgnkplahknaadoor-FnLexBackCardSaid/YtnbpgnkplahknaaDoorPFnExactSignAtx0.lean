-- PRINTED BY print.sh 35421559b90ae4d0a3588c463048766b98c2df88dd9212a6774a882060cdf62d: not written by this session
import Derived.Test.YtnbpgnkplahknaaDoorProg
import Derived.Below
import Derived.Deep.Draws
import Derived.Deep.AppendLies
import Derived.Maps.AppendAt
import Derived.OwnWalk
import Derived.Laws.BytesArg
import Derived.Laws.MakeOwn
import Derived.Laws.OwnMore
import Derived.Deep.OwnRows
import Derived.Tactics
import Derived.Lib.ConvBytes
import Derived.Laws.Slices
import Derived.WalkKit
import Derived.KernelRfl
import Derived.RowKit3
import Derived.Deep.LoopGhost
import Derived.Deep.QuietTactic
import Derived.BigQuiet
import Derived.WideLaws
import Derived.Deep.DeepCutAuto
import Derived.Deep.CutBlock
import Derived.Deep.RegionHeld3
import Derived.Laws.Rows
import Derived.Lib.AppendStr
import Derived.ArgAppend
import Derived.Laws.IdiomCopy
import Derived.OrdersHeld
import Derived.Laws.BitsLemmas
import Derived.RowKit
import Derived.Test.YtnbpgnkplahknaaDoorWWords
import Derived.Test.YtnbpgnkplahknaaDoorWLast
import Derived.Test.YtnbpgnkplahknaaDoorWTab
import Derived.Test.YtnbpgnkplahknaaDoorWFour
import Derived.Test.YtnbpgnkplahknaaDoorWQPut
import Derived.Test.YtnbpgnkplahknaaDoorWApart
import Derived.Test.YtnbpgnkplahknaaDoorWArr
import Derived.Test.YtnbpgnkplahknaaDoorWZeros
import Derived.Test.YtnbpgnkplahknaaDoorWFoot
import Derived.Test.YtnbpgnkplahknaaDoorWKept
import Derived.Test.YtnbpgnkplahknaaDoorWShare
import Derived.Test.YtnbpgnkplahknaaDoorWN
import Derived.Test.YtnbpgnkplahknaaDoorWFootNe
import Derived.Test.YtnbpgnkplahknaaDoorWAt
import Derived.Test.YtnbpgnkplahknaaDoorWEqStruct
import Derived.Test.YtnbpgnkplahknaaDoorWRepsOne
import Derived.Test.YtnbpgnkplahknaaDoorWInv
import Derived.Test.YtnbpgnkplahknaaDoorWInvWords
import Derived.Test.YtnbpgnkplahknaaDoorWGuard
import Derived.Test.YtnbpgnkplahknaaDoorWNEv
import Derived.Test.YtnbpgnkplahknaaDoorWMore
namespace Go.Proofs.YtnbpgnkplahknaaDoor.PFnExactSignAt
open Go.RowKit Go.Proofs.YtnbpgnkplahknaaDoorW.PrintWords Go.Proofs.YtnbpgnkplahknaaDoorW.PrintLast Go.Proofs.YtnbpgnkplahknaaDoorW.PrintMore
attribute [local go_sem] max2_int min2_int max_two min_two max_three min_three max_four min_four   -- for this text's walks alone
set_option linter.unusedVariables false
set_option linter.unusedSimpArgs false



def errW : Option Int → Value
  | none => .nilIface
  | some c => .iface 0 (.int .i64 c)
theorem errW_none : errW none = .nilIface := rfl
theorem errW_some (c : Int) : errW (some c) = .iface 0 (.int .i64 c) := rfl

theorem info9 : (Tryd.prog.info? 9).map (fun i => (i.zero, i.size, i.bytes)) = some (some (.string ⟨#[]⟩), 1, 16) := by kernel_rfl
-- the values' own types

end Go.Proofs.YtnbpgnkplahknaaDoor.PFnExactSignAt
