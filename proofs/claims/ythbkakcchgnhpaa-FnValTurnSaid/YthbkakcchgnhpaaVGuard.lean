-- the words of print.sh, of which this session's own tool (wip/prune.py) has left out what this claim does not name
import Derived.Test.YthbkakcchgnhpaaVWords
namespace Go.Proofs.YthbkakcchgnhpaaV.PrintWords
open Go.RowKit
section
variable {P : Program} {ops : Array Oper} {rest : List Oper} {o : Oper} {a : Act} {Q : Exit → Act → World → Prop} {W : World}
end
end Go.Proofs.YthbkakcchgnhpaaV.PrintWords
