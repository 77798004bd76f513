-- the words of print.sh, of which this session's own tool (wip/prune.py) has left out what this claim does not name
import Derived.Test.YtdmadlfdibiejaaVInv
import Derived.Test.YtdmadlfdibiejaaVFootNe
namespace Go.Proofs.YtdmadlfdibiejaaV.PrintWords
open Go.RowKit
end Go.Proofs.YtdmadlfdibiejaaV.PrintWords
namespace Go.Proofs.YtdmadlfdibiejaaV.PrintLast
section
variable {ops : Array Oper} {a : Act} {o og : Oper} {g : Nat} {t : Tmp} {u : Bool}
end
end Go.Proofs.YtdmadlfdibiejaaV.PrintLast
