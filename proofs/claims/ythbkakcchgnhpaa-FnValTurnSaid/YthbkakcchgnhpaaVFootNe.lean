-- the words of print.sh, of which this session's own tool (wip/prune.py) has left out what this claim does not name
import Derived.Test.YthbkakcchgnhpaaVN
namespace Go.Proofs.YthbkakcchgnhpaaV.PrintWords
open Go.RowKit
namespace Kd
section
variable {α : Type} {d : Kd α} {W : World} {g n : Nat} {S ok : Nat → Prop} {A : Option Addr} {ad : Addr} {xs : List α}
end
end Kd
end Go.Proofs.YthbkakcchgnhpaaV.PrintWords
