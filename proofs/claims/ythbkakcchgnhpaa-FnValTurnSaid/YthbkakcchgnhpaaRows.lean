/-
  No cell of these rows narrows 'for every input' (looked for: loops, veiled, ifaces, maps, wideKeys, modest, calm, conditions, laid).
  DERIVED. THE GIVEN ROWS OF THIS SEAT. 6 by the template 'for every input the law returns true; each argument reads behind the call as it read before'; 0 by the template 'total and deterministic' (their statements: YthbkakcchgnhpaaTotals.lean).
  GIVEN WITH THE SEED: the statements are not yours to turn. If you find one false, say at which input.
  Laid BY PROGRAM, IN A SANDBOX (cutbox-rows.mjs): the forced cells as the released guide's own fill.sh prints them over the translation 4e1b0e14ac681a8e… (all of the seat's roots in one cut). By AI agents, Wed Nov 11 2026. No macro, syntax, notation, axiom, sorry.
-/
import Derived.Test.YthbkakcchgnhpaaChecked
import GoSem.Claim
import GoSem.ClaimJoined
import GoSem.ClaimMapViews
import Derived.JoinedTies
import Derived.KernelRfl
namespace Go.Proofs.Ythbkakcchgnhpaa
/- THE CELL 'sum', in the pinned program and in every row, IS THE sha256 OF THE DUMP (.gsa) THAT YthbkakcchgnhpaaProg.lean LOADS. Nothing in Lean hashes anything: it is a label: what it is worth is what the hold of that sum in a sandbox is worth. -/
noncomputable def Try.pinned : Pinned := { name := "ythbkakcchgnhpaa", sum := "4e1b0e14ac681a8ed3e0afed28dcb01d7caec830ce303a02338fe5248199e606", checked := Try.checked }
namespace Rows
def none {H : Type} : Left H := { results := [], args := [] }

/-- 'laws.FnExactRangeDo': WHATEVER THE INPUT: true; the input reads as it did. -/
def fnExactRangeDoSpec : ChangeSpec := { name := "fnExactRangeDo", fn := fun _ => fun
  | [d1, d2, d3] => { results := [.lit (.bool true)], args := [d1, d2, d3] }
  | _ => none }
def fnExactRangeDoRow : OpenClaim := { program := "ythbkakcchgnhpaa", sum := "4e1b0e14ac681a8ed3e0afed28dcb01d7caec830ce303a02338fe5248199e606", func := "loop.example/sedge/laws.FnExactRangeDo", spec := "fnExactRangeDo", apart := false }
def FnExactRangeDoSaid : Prop := fnExactRangeDoRow.holds Try.pinned (OpenSpec.ofChange fnExactRangeDoSpec)

/-- ITS FALSE NEIGHBOUR: 'it returns false'. Refute it at one input. -/
def fnExactRangeDoWrong : ChangeSpec := { name := "fnExactRangeDo", fn := fun _ => fun
  | [d1, d2, d3] => { results := [.lit (.bool false)], args := [d1, d2, d3] }
  | _ => none }
def FnExactRangeDoWrongFalsely : Prop := fnExactRangeDoRow.holds Try.pinned (OpenSpec.ofChange fnExactRangeDoWrong)

/-- 'laws.FnRangeOne': WHATEVER THE INPUT: true; the input reads as it did. -/
def fnRangeOneSpec : ChangeSpec := { name := "fnRangeOne", fn := fun _ => fun
  | [d] => { results := [.lit (.bool true)], args := [d] }
  | _ => none }
def fnRangeOneRow : OpenClaim := { program := "ythbkakcchgnhpaa", sum := "4e1b0e14ac681a8ed3e0afed28dcb01d7caec830ce303a02338fe5248199e606", func := "loop.example/sedge/laws.FnRangeOne", spec := "fnRangeOne", apart := false }
def FnRangeOneSaid : Prop := fnRangeOneRow.holds Try.pinned (OpenSpec.ofChange fnRangeOneSpec)

/-- ITS FALSE NEIGHBOUR: 'it returns false'. Refute it at one input. -/
def fnRangeOneWrong : ChangeSpec := { name := "fnRangeOne", fn := fun _ => fun
  | [d] => { results := [.lit (.bool false)], args := [d] }
  | _ => none }
def FnRangeOneWrongFalsely : Prop := fnRangeOneRow.holds Try.pinned (OpenSpec.ofChange fnRangeOneWrong)

/-- 'laws.FnRangeFaults': WHATEVER THE INPUT: true; the input reads as it did. -/
def fnRangeFaultsSpec : ChangeSpec := { name := "fnRangeFaults", fn := fun _ => fun
  | [d] => { results := [.lit (.bool true)], args := [d] }
  | _ => none }
def fnRangeFaultsRow : OpenClaim := { program := "ythbkakcchgnhpaa", sum := "4e1b0e14ac681a8ed3e0afed28dcb01d7caec830ce303a02338fe5248199e606", func := "loop.example/sedge/laws.FnRangeFaults", spec := "fnRangeFaults", apart := false }
def FnRangeFaultsSaid : Prop := fnRangeFaultsRow.holds Try.pinned (OpenSpec.ofChange fnRangeFaultsSpec)

/-- ITS FALSE NEIGHBOUR: 'it returns false'. Refute it at one input. -/
def fnRangeFaultsWrong : ChangeSpec := { name := "fnRangeFaults", fn := fun _ => fun
  | [d] => { results := [.lit (.bool false)], args := [d] }
  | _ => none }
def FnRangeFaultsWrongFalsely : Prop := fnRangeFaultsRow.holds Try.pinned (OpenSpec.ofChange fnRangeFaultsWrong)

/-- 'laws.FnRangeMore': WHATEVER THE INPUT: true; the input reads as it did. -/
def fnRangeMoreSpec : ChangeSpec := { name := "fnRangeMore", fn := fun _ => fun
  | [d] => { results := [.lit (.bool true)], args := [d] }
  | _ => none }
def fnRangeMoreRow : OpenClaim := { program := "ythbkakcchgnhpaa", sum := "4e1b0e14ac681a8ed3e0afed28dcb01d7caec830ce303a02338fe5248199e606", func := "loop.example/sedge/laws.FnRangeMore", spec := "fnRangeMore", apart := false }
def FnRangeMoreSaid : Prop := fnRangeMoreRow.holds Try.pinned (OpenSpec.ofChange fnRangeMoreSpec)

/-- ITS FALSE NEIGHBOUR: 'it returns false'. Refute it at one input. -/
def fnRangeMoreWrong : ChangeSpec := { name := "fnRangeMore", fn := fun _ => fun
  | [d] => { results := [.lit (.bool false)], args := [d] }
  | _ => none }
def FnRangeMoreWrongFalsely : Prop := fnRangeMoreRow.holds Try.pinned (OpenSpec.ofChange fnRangeMoreWrong)

/-- 'laws.FnExactValDo': WHATEVER THE INPUT: true; the input reads as it did. -/
def fnExactValDoSpec : ChangeSpec := { name := "fnExactValDo", fn := fun _ => fun
  | [d1, d2, d3] => { results := [.lit (.bool true)], args := [d1, d2, d3] }
  | _ => none }
def fnExactValDoRow : OpenClaim := { program := "ythbkakcchgnhpaa", sum := "4e1b0e14ac681a8ed3e0afed28dcb01d7caec830ce303a02338fe5248199e606", func := "loop.example/sedge/laws.FnExactValDo", spec := "fnExactValDo", apart := false }
def FnExactValDoSaid : Prop := fnExactValDoRow.holds Try.pinned (OpenSpec.ofChange fnExactValDoSpec)

/-- ITS FALSE NEIGHBOUR: 'it returns false'. Refute it at one input. -/
def fnExactValDoWrong : ChangeSpec := { name := "fnExactValDo", fn := fun _ => fun
  | [d1, d2, d3] => { results := [.lit (.bool false)], args := [d1, d2, d3] }
  | _ => none }
def FnExactValDoWrongFalsely : Prop := fnExactValDoRow.holds Try.pinned (OpenSpec.ofChange fnExactValDoWrong)

/-- 'laws.FnValTurn': WHATEVER THE INPUT: true; the input reads as it did. -/
def fnValTurnSpec : ChangeSpec := { name := "fnValTurn", fn := fun _ => fun
  | [d] => { results := [.lit (.bool true)], args := [d] }
  | _ => none }
def fnValTurnRow : OpenClaim := { program := "ythbkakcchgnhpaa", sum := "4e1b0e14ac681a8ed3e0afed28dcb01d7caec830ce303a02338fe5248199e606", func := "loop.example/sedge/laws.FnValTurn", spec := "fnValTurn", recurses := true, apart := false }
def FnValTurnSaid : Prop := fnValTurnRow.holds Try.pinned (OpenSpec.ofChange fnValTurnSpec)

/-- ITS FALSE NEIGHBOUR: 'it returns false'. Refute it at one input. -/
def fnValTurnWrong : ChangeSpec := { name := "fnValTurn", fn := fun _ => fun
  | [d] => { results := [.lit (.bool false)], args := [d] }
  | _ => none }
def FnValTurnWrongFalsely : Prop := fnValTurnRow.holds Try.pinned (OpenSpec.ofChange fnValTurnWrong)

/- THE SECOND FORM. 'bulk': how many values and letters a reading holds, each counted each time it is reached (what is shared counts as often as it is met; a slice's spare places count too). A statement '..UptoSaid' is the law's where the arguments, and the package variables that the reading takes, are together of bulk at most 1048576: NARROWER than '..Said'. Prove '..Said' where nothing that the law and all that it calls make is longer than what came in: it says more and counts as full. Else prove '..UptoSaid'. A law counts once. -/
mutual
def uptoBulk {H : Type} : DataW H → Nat
  | .lit (.string bytes) => bytes.length + 1
  | .lit _ => 1
  | .nil => 1
  | .ptr d => uptoBulk d + 1
  | .slice elems spare => uptoBulkAll elems + uptoBulkAll spare + 1
  | .agg parts => uptoBulkAll parts + 1
  | .iface _ d => uptoBulk d + 1
  | .map entries => uptoBulkEntries entries + 1
  | .held _ => 1
def uptoBulkAll {H : Type} : List (DataW H) → Nat
  | [] => 0
  | d :: r => uptoBulk d + uptoBulkAll r
def uptoBulkEntries {H : Type} : List (Lit × DataW H) → Nat
  | [] => 0
  | x :: r => uptoBulkEntry x + uptoBulkEntries r
def uptoBulkEntry {H : Type} : Lit × DataW H → Nat
  | (.string bytes, d) => bytes.length + uptoBulk d + 1
  | (_, d) => uptoBulk d + 1
 end
def uptoSmall : (H : Type) → List (DataW H) → Bool := fun _ ds => decide (uptoBulkAll ds ≤ 1048576)
def OpenSpec.upto (s : _root_.Go.ChangeSpec) : _root_.Go.OpenSpec := { _root_.Go.OpenSpec.ofChange s with cond := some uptoSmall }

/-- 'laws.FnExactRangeDo', WHERE WHAT IT READS IS OF BULK AT MOST 1048576: true; the input reads as it did. -/
def fnExactRangeDoUptoRow : OpenClaim := { program := "ythbkakcchgnhpaa", sum := "4e1b0e14ac681a8ed3e0afed28dcb01d7caec830ce303a02338fe5248199e606", func := "loop.example/sedge/laws.FnExactRangeDo", spec := "fnExactRangeDo", apart := false, narrowed := true }
def FnExactRangeDoUptoSaid : Prop := fnExactRangeDoUptoRow.holds Try.pinned (OpenSpec.upto fnExactRangeDoSpec)

/-- 'laws.FnRangeOne', WHERE WHAT IT READS IS OF BULK AT MOST 1048576: true; the input reads as it did. -/
def fnRangeOneUptoRow : OpenClaim := { program := "ythbkakcchgnhpaa", sum := "4e1b0e14ac681a8ed3e0afed28dcb01d7caec830ce303a02338fe5248199e606", func := "loop.example/sedge/laws.FnRangeOne", spec := "fnRangeOne", apart := false, narrowed := true }
def FnRangeOneUptoSaid : Prop := fnRangeOneUptoRow.holds Try.pinned (OpenSpec.upto fnRangeOneSpec)

/-- 'laws.FnRangeFaults', WHERE WHAT IT READS IS OF BULK AT MOST 1048576: true; the input reads as it did. -/
def fnRangeFaultsUptoRow : OpenClaim := { program := "ythbkakcchgnhpaa", sum := "4e1b0e14ac681a8ed3e0afed28dcb01d7caec830ce303a02338fe5248199e606", func := "loop.example/sedge/laws.FnRangeFaults", spec := "fnRangeFaults", apart := false, narrowed := true }
def FnRangeFaultsUptoSaid : Prop := fnRangeFaultsUptoRow.holds Try.pinned (OpenSpec.upto fnRangeFaultsSpec)

/-- 'laws.FnRangeMore', WHERE WHAT IT READS IS OF BULK AT MOST 1048576: true; the input reads as it did. -/
def fnRangeMoreUptoRow : OpenClaim := { program := "ythbkakcchgnhpaa", sum := "4e1b0e14ac681a8ed3e0afed28dcb01d7caec830ce303a02338fe5248199e606", func := "loop.example/sedge/laws.FnRangeMore", spec := "fnRangeMore", apart := false, narrowed := true }
def FnRangeMoreUptoSaid : Prop := fnRangeMoreUptoRow.holds Try.pinned (OpenSpec.upto fnRangeMoreSpec)

/-- 'laws.FnExactValDo', WHERE WHAT IT READS IS OF BULK AT MOST 1048576: true; the input reads as it did. -/
def fnExactValDoUptoRow : OpenClaim := { program := "ythbkakcchgnhpaa", sum := "4e1b0e14ac681a8ed3e0afed28dcb01d7caec830ce303a02338fe5248199e606", func := "loop.example/sedge/laws.FnExactValDo", spec := "fnExactValDo", apart := false, narrowed := true }
def FnExactValDoUptoSaid : Prop := fnExactValDoUptoRow.holds Try.pinned (OpenSpec.upto fnExactValDoSpec)

/-- 'laws.FnValTurn', WHERE WHAT IT READS IS OF BULK AT MOST 1048576: true; the input reads as it did. -/
def fnValTurnUptoRow : OpenClaim := { program := "ythbkakcchgnhpaa", sum := "4e1b0e14ac681a8ed3e0afed28dcb01d7caec830ce303a02338fe5248199e606", func := "loop.example/sedge/laws.FnValTurn", spec := "fnValTurn", recurses := true, apart := false, narrowed := true }
def FnValTurnUptoSaid : Prop := fnValTurnUptoRow.holds Try.pinned (OpenSpec.upto fnValTurnSpec)

end Rows
end Go.Proofs.Ythbkakcchgnhpaa
