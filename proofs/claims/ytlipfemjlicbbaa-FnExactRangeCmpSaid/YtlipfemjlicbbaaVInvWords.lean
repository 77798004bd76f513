-- the words of print.sh, of which this session's own tool (wip/prune.py) has left out what this claim does not name
import Derived.Test.YtlipfemjlicbbaaVInv
import Derived.Test.YtlipfemjlicbbaaVFootNe
namespace Go.Proofs.YtlipfemjlicbbaaV.PrintWords
open Go.RowKit
end Go.Proofs.YtlipfemjlicbbaaV.PrintWords
namespace Go.Proofs.YtlipfemjlicbbaaV.PrintLast
section
variable {ops : Array Oper} {a : Act} {o og : Oper} {g : Nat} {t : Tmp} {u : Bool}
end
end Go.Proofs.YtlipfemjlicbbaaV.PrintLast
