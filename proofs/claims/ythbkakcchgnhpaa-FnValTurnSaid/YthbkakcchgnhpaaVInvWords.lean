-- the words of print.sh, of which this session's own tool (wip/prune.py) has left out what this claim does not name
import Derived.Test.YthbkakcchgnhpaaVInv
import Derived.Test.YthbkakcchgnhpaaVFootNe
namespace Go.Proofs.YthbkakcchgnhpaaV.PrintWords
open Go.RowKit
end Go.Proofs.YthbkakcchgnhpaaV.PrintWords
namespace Go.Proofs.YthbkakcchgnhpaaV.PrintLast
section
variable {ops : Array Oper} {a : Act} {o og : Oper} {g : Nat} {t : Tmp} {u : Bool}
end
end Go.Proofs.YthbkakcchgnhpaaV.PrintLast
