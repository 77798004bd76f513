-- the words of print.sh, of which this session's own tool (wip/prune.py) has left out what this claim does not name
import Derived.Test.YtnmccgjdnceheaaVInv
import Derived.Test.YtnmccgjdnceheaaVFootNe
namespace Go.Proofs.YtnmccgjdnceheaaV.PrintWords
open Go.RowKit
end Go.Proofs.YtnmccgjdnceheaaV.PrintWords
namespace Go.Proofs.YtnmccgjdnceheaaV.PrintLast
section
variable {ops : Array Oper} {a : Act} {o og : Oper} {g : Nat} {t : Tmp} {u : Bool}
end
end Go.Proofs.YtnmccgjdnceheaaV.PrintLast
