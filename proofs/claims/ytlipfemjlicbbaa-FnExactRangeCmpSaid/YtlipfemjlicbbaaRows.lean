/-
  No cell of these rows narrows 'for every input' (looked for: loops, veiled, ifaces, maps, wideKeys, modest, calm, conditions, laid).
  DERIVED. THE GIVEN ROWS OF THIS SEAT. 12 by the template 'for every input the law returns true; each argument reads behind the call as it read before'; 0 by the template 'total and deterministic' (their statements: YtlipfemjlicbbaaTotals.lean).
  GIVEN WITH THE SEED: the statements are not yours to turn. If you find one false, say at which input.
  Laid BY PROGRAM, IN A SANDBOX (cutbox-rows.mjs): the forced cells as the released guide's own fill.sh prints them over the translation cabdf3626879a680… (all of the seat's roots in one cut). By AI agents, Wed Nov 11 2026. No macro, syntax, notation, axiom, sorry.
-/
import Derived.Test.YtlipfemjlicbbaaChecked
import GoSem.Claim
import GoSem.ClaimJoined
import GoSem.ClaimMapViews
import Derived.JoinedTies
import Derived.KernelRfl
namespace Go.Proofs.Ytlipfemjlicbbaa
/- THE CELL 'sum', in the pinned program and in every row, IS THE sha256 OF THE DUMP (.gsa) THAT YtlipfemjlicbbaaProg.lean LOADS. Nothing in Lean hashes anything: it is a label: what it is worth is what the hold of that sum in a sandbox is worth. -/
noncomputable def Try.pinned : Pinned := { name := "ytlipfemjlicbbaa", sum := "cabdf3626879a680f28dd71cbd310296471f1e10e17a7887ac30e4d9d4e12660", checked := Try.checked }
namespace Rows
def none {H : Type} : Left H := { results := [], args := [] }

/-- 'laws.FnExactRangeJoin': WHATEVER THE INPUT: true; the input reads as it did. -/
def fnExactRangeJoinSpec : ChangeSpec := { name := "fnExactRangeJoin", fn := fun _ => fun
  | [d1, d2] => { results := [.lit (.bool true)], args := [d1, d2] }
  | _ => none }
def fnExactRangeJoinRow : OpenClaim := { program := "ytlipfemjlicbbaa", sum := "cabdf3626879a680f28dd71cbd310296471f1e10e17a7887ac30e4d9d4e12660", func := "loop.example/sedge/laws.FnExactRangeJoin", spec := "fnExactRangeJoin", apart := false }
def FnExactRangeJoinSaid : Prop := fnExactRangeJoinRow.holds Try.pinned (OpenSpec.ofChange fnExactRangeJoinSpec)

/-- ITS FALSE NEIGHBOUR: 'it returns false'. Refute it at one input. -/
def fnExactRangeJoinWrong : ChangeSpec := { name := "fnExactRangeJoin", fn := fun _ => fun
  | [d1, d2] => { results := [.lit (.bool false)], args := [d1, d2] }
  | _ => none }
def FnExactRangeJoinWrongFalsely : Prop := fnExactRangeJoinRow.holds Try.pinned (OpenSpec.ofChange fnExactRangeJoinWrong)

/-- 'laws.FnExactRangeMeet': WHATEVER THE INPUT: true; the input reads as it did. -/
def fnExactRangeMeetSpec : ChangeSpec := { name := "fnExactRangeMeet", fn := fun _ => fun
  | [d1, d2] => { results := [.lit (.bool true)], args := [d1, d2] }
  | _ => none }
def fnExactRangeMeetRow : OpenClaim := { program := "ytlipfemjlicbbaa", sum := "cabdf3626879a680f28dd71cbd310296471f1e10e17a7887ac30e4d9d4e12660", func := "loop.example/sedge/laws.FnExactRangeMeet", spec := "fnExactRangeMeet", apart := false }
def FnExactRangeMeetSaid : Prop := fnExactRangeMeetRow.holds Try.pinned (OpenSpec.ofChange fnExactRangeMeetSpec)

/-- ITS FALSE NEIGHBOUR: 'it returns false'. Refute it at one input. -/
def fnExactRangeMeetWrong : ChangeSpec := { name := "fnExactRangeMeet", fn := fun _ => fun
  | [d1, d2] => { results := [.lit (.bool false)], args := [d1, d2] }
  | _ => none }
def FnExactRangeMeetWrongFalsely : Prop := fnExactRangeMeetRow.holds Try.pinned (OpenSpec.ofChange fnExactRangeMeetWrong)

/-- 'laws.FnExactRangeWiden': WHATEVER THE INPUT: true; the input reads as it did. -/
def fnExactRangeWidenSpec : ChangeSpec := { name := "fnExactRangeWiden", fn := fun _ => fun
  | [d1, d2, d3] => { results := [.lit (.bool true)], args := [d1, d2, d3] }
  | _ => none }
def fnExactRangeWidenRow : OpenClaim := { program := "ytlipfemjlicbbaa", sum := "cabdf3626879a680f28dd71cbd310296471f1e10e17a7887ac30e4d9d4e12660", func := "loop.example/sedge/laws.FnExactRangeWiden", spec := "fnExactRangeWiden", apart := false }
def FnExactRangeWidenSaid : Prop := fnExactRangeWidenRow.holds Try.pinned (OpenSpec.ofChange fnExactRangeWidenSpec)

/-- ITS FALSE NEIGHBOUR: 'it returns false'. Refute it at one input. -/
def fnExactRangeWidenWrong : ChangeSpec := { name := "fnExactRangeWiden", fn := fun _ => fun
  | [d1, d2, d3] => { results := [.lit (.bool false)], args := [d1, d2, d3] }
  | _ => none }
def FnExactRangeWidenWrongFalsely : Prop := fnExactRangeWidenRow.holds Try.pinned (OpenSpec.ofChange fnExactRangeWidenWrong)

/-- 'laws.FnExactRangeCmp': WHATEVER THE INPUT: true; the input reads as it did. -/
def fnExactRangeCmpSpec : ChangeSpec := { name := "fnExactRangeCmp", fn := fun _ => fun
  | [d1, d2, d3] => { results := [.lit (.bool true)], args := [d1, d2, d3] }
  | _ => none }
def fnExactRangeCmpRow : OpenClaim := { program := "ytlipfemjlicbbaa", sum := "cabdf3626879a680f28dd71cbd310296471f1e10e17a7887ac30e4d9d4e12660", func := "loop.example/sedge/laws.FnExactRangeCmp", spec := "fnExactRangeCmp", recurses := true, apart := false }
def FnExactRangeCmpSaid : Prop := fnExactRangeCmpRow.holds Try.pinned (OpenSpec.ofChange fnExactRangeCmpSpec)

/-- ITS FALSE NEIGHBOUR: 'it returns false'. Refute it at one input. -/
def fnExactRangeCmpWrong : ChangeSpec := { name := "fnExactRangeCmp", fn := fun _ => fun
  | [d1, d2, d3] => { results := [.lit (.bool false)], args := [d1, d2, d3] }
  | _ => none }
def FnExactRangeCmpWrongFalsely : Prop := fnExactRangeCmpRow.holds Try.pinned (OpenSpec.ofChange fnExactRangeCmpWrong)

/-- 'laws.FnExactRestOk': WHATEVER THE INPUT: true; the input reads as it did. -/
def fnExactRestOkSpec : ChangeSpec := { name := "fnExactRestOk", fn := fun _ => fun
  | [d] => { results := [.lit (.bool true)], args := [d] }
  | _ => none }
def fnExactRestOkRow : OpenClaim := { program := "ytlipfemjlicbbaa", sum := "cabdf3626879a680f28dd71cbd310296471f1e10e17a7887ac30e4d9d4e12660", func := "loop.example/sedge/laws.FnExactRestOk", spec := "fnExactRestOk", apart := false }
def FnExactRestOkSaid : Prop := fnExactRestOkRow.holds Try.pinned (OpenSpec.ofChange fnExactRestOkSpec)

/-- ITS FALSE NEIGHBOUR: 'it returns false'. Refute it at one input. -/
def fnExactRestOkWrong : ChangeSpec := { name := "fnExactRestOk", fn := fun _ => fun
  | [d] => { results := [.lit (.bool false)], args := [d] }
  | _ => none }
def FnExactRestOkWrongFalsely : Prop := fnExactRestOkRow.holds Try.pinned (OpenSpec.ofChange fnExactRestOkWrong)

/-- 'laws.FnExactRestHas': WHATEVER THE INPUT: true; the input reads as it did. -/
def fnExactRestHasSpec : ChangeSpec := { name := "fnExactRestHas", fn := fun _ => fun
  | [d1, d2] => { results := [.lit (.bool true)], args := [d1, d2] }
  | _ => none }
def fnExactRestHasRow : OpenClaim := { program := "ytlipfemjlicbbaa", sum := "cabdf3626879a680f28dd71cbd310296471f1e10e17a7887ac30e4d9d4e12660", func := "loop.example/sedge/laws.FnExactRestHas", spec := "fnExactRestHas", apart := false }
def FnExactRestHasSaid : Prop := fnExactRestHasRow.holds Try.pinned (OpenSpec.ofChange fnExactRestHasSpec)

/-- ITS FALSE NEIGHBOUR: 'it returns false'. Refute it at one input. -/
def fnExactRestHasWrong : ChangeSpec := { name := "fnExactRestHas", fn := fun _ => fun
  | [d1, d2] => { results := [.lit (.bool false)], args := [d1, d2] }
  | _ => none }
def FnExactRestHasWrongFalsely : Prop := fnExactRestHasRow.holds Try.pinned (OpenSpec.ofChange fnExactRestHasWrong)

/-- 'laws.FnExactRestIn': WHATEVER THE INPUT: true; the input reads as it did. -/
def fnExactRestInSpec : ChangeSpec := { name := "fnExactRestIn", fn := fun _ => fun
  | [d1, d2] => { results := [.lit (.bool true)], args := [d1, d2] }
  | _ => none }
def fnExactRestInRow : OpenClaim := { program := "ytlipfemjlicbbaa", sum := "cabdf3626879a680f28dd71cbd310296471f1e10e17a7887ac30e4d9d4e12660", func := "loop.example/sedge/laws.FnExactRestIn", spec := "fnExactRestIn", apart := false }
def FnExactRestInSaid : Prop := fnExactRestInRow.holds Try.pinned (OpenSpec.ofChange fnExactRestInSpec)

/-- ITS FALSE NEIGHBOUR: 'it returns false'. Refute it at one input. -/
def fnExactRestInWrong : ChangeSpec := { name := "fnExactRestIn", fn := fun _ => fun
  | [d1, d2] => { results := [.lit (.bool false)], args := [d1, d2] }
  | _ => none }
def FnExactRestInWrongFalsely : Prop := fnExactRestInRow.holds Try.pinned (OpenSpec.ofChange fnExactRestInWrong)

/-- 'laws.FnExactRestJoin': WHATEVER THE INPUT: true; the input reads as it did. -/
def fnExactRestJoinSpec : ChangeSpec := { name := "fnExactRestJoin", fn := fun _ => fun
  | [d1, d2] => { results := [.lit (.bool true)], args := [d1, d2] }
  | _ => none }
def fnExactRestJoinRow : OpenClaim := { program := "ytlipfemjlicbbaa", sum := "cabdf3626879a680f28dd71cbd310296471f1e10e17a7887ac30e4d9d4e12660", func := "loop.example/sedge/laws.FnExactRestJoin", spec := "fnExactRestJoin", apart := false }
def FnExactRestJoinSaid : Prop := fnExactRestJoinRow.holds Try.pinned (OpenSpec.ofChange fnExactRestJoinSpec)

/-- ITS FALSE NEIGHBOUR: 'it returns false'. Refute it at one input. -/
def fnExactRestJoinWrong : ChangeSpec := { name := "fnExactRestJoin", fn := fun _ => fun
  | [d1, d2] => { results := [.lit (.bool false)], args := [d1, d2] }
  | _ => none }
def FnExactRestJoinWrongFalsely : Prop := fnExactRestJoinRow.holds Try.pinned (OpenSpec.ofChange fnExactRestJoinWrong)

/-- 'laws.FnExactRestMeet': WHATEVER THE INPUT: true; the input reads as it did. -/
def fnExactRestMeetSpec : ChangeSpec := { name := "fnExactRestMeet", fn := fun _ => fun
  | [d1, d2] => { results := [.lit (.bool true)], args := [d1, d2] }
  | _ => none }
def fnExactRestMeetRow : OpenClaim := { program := "ytlipfemjlicbbaa", sum := "cabdf3626879a680f28dd71cbd310296471f1e10e17a7887ac30e4d9d4e12660", func := "loop.example/sedge/laws.FnExactRestMeet", spec := "fnExactRestMeet", recurses := true, apart := false }
def FnExactRestMeetSaid : Prop := fnExactRestMeetRow.holds Try.pinned (OpenSpec.ofChange fnExactRestMeetSpec)

/-- ITS FALSE NEIGHBOUR: 'it returns false'. Refute it at one input. -/
def fnExactRestMeetWrong : ChangeSpec := { name := "fnExactRestMeet", fn := fun _ => fun
  | [d1, d2] => { results := [.lit (.bool false)], args := [d1, d2] }
  | _ => none }
def FnExactRestMeetWrongFalsely : Prop := fnExactRestMeetRow.holds Try.pinned (OpenSpec.ofChange fnExactRestMeetWrong)

/-- 'laws.FnExactRestDo': WHATEVER THE INPUT: true; the input reads as it did. -/
def fnExactRestDoSpec : ChangeSpec := { name := "fnExactRestDo", fn := fun _ => fun
  | [d1, d2, d3] => { results := [.lit (.bool true)], args := [d1, d2, d3] }
  | _ => none }
def fnExactRestDoRow : OpenClaim := { program := "ytlipfemjlicbbaa", sum := "cabdf3626879a680f28dd71cbd310296471f1e10e17a7887ac30e4d9d4e12660", func := "loop.example/sedge/laws.FnExactRestDo", spec := "fnExactRestDo", apart := false }
def FnExactRestDoSaid : Prop := fnExactRestDoRow.holds Try.pinned (OpenSpec.ofChange fnExactRestDoSpec)

/-- ITS FALSE NEIGHBOUR: 'it returns false'. Refute it at one input. -/
def fnExactRestDoWrong : ChangeSpec := { name := "fnExactRestDo", fn := fun _ => fun
  | [d1, d2, d3] => { results := [.lit (.bool false)], args := [d1, d2, d3] }
  | _ => none }
def FnExactRestDoWrongFalsely : Prop := fnExactRestDoRow.holds Try.pinned (OpenSpec.ofChange fnExactRestDoWrong)

/-- 'laws.FnExactValMake': WHATEVER THE INPUT: true; the input reads as it did. -/
def fnExactValMakeSpec : ChangeSpec := { name := "fnExactValMake", fn := fun _ => fun
  | [d1, d2] => { results := [.lit (.bool true)], args := [d1, d2] }
  | _ => none }
def fnExactValMakeRow : OpenClaim := { program := "ytlipfemjlicbbaa", sum := "cabdf3626879a680f28dd71cbd310296471f1e10e17a7887ac30e4d9d4e12660", func := "loop.example/sedge/laws.FnExactValMake", spec := "fnExactValMake", apart := false }
def FnExactValMakeSaid : Prop := fnExactValMakeRow.holds Try.pinned (OpenSpec.ofChange fnExactValMakeSpec)

/-- ITS FALSE NEIGHBOUR: 'it returns false'. Refute it at one input. -/
def fnExactValMakeWrong : ChangeSpec := { name := "fnExactValMake", fn := fun _ => fun
  | [d1, d2] => { results := [.lit (.bool false)], args := [d1, d2] }
  | _ => none }
def FnExactValMakeWrongFalsely : Prop := fnExactValMakeRow.holds Try.pinned (OpenSpec.ofChange fnExactValMakeWrong)

/-- 'laws.FnExactValOk': WHATEVER THE INPUT: true; the input reads as it did. -/
def fnExactValOkSpec : ChangeSpec := { name := "fnExactValOk", fn := fun _ => fun
  | [d] => { results := [.lit (.bool true)], args := [d] }
  | _ => none }
def fnExactValOkRow : OpenClaim := { program := "ytlipfemjlicbbaa", sum := "cabdf3626879a680f28dd71cbd310296471f1e10e17a7887ac30e4d9d4e12660", func := "loop.example/sedge/laws.FnExactValOk", spec := "fnExactValOk", apart := false }
def FnExactValOkSaid : Prop := fnExactValOkRow.holds Try.pinned (OpenSpec.ofChange fnExactValOkSpec)

/-- ITS FALSE NEIGHBOUR: 'it returns false'. Refute it at one input. -/
def fnExactValOkWrong : ChangeSpec := { name := "fnExactValOk", fn := fun _ => fun
  | [d] => { results := [.lit (.bool false)], args := [d] }
  | _ => none }
def FnExactValOkWrongFalsely : Prop := fnExactValOkRow.holds Try.pinned (OpenSpec.ofChange fnExactValOkWrong)

/- THE SECOND FORM. 'bulk': how many values and letters a reading holds, each counted each time it is reached (what is shared counts as often as it is met; a slice's spare places count too). A statement '..UptoSaid' is the law's where the arguments, and the package variables that the reading takes, are together of bulk at most 1048576: NARROWER than '..Said'. Prove '..Said' where nothing that the law and all that it calls make is longer than what came in: it says more and counts as full. Else prove '..UptoSaid'. A law counts once. -/
mutual
def uptoBulk {H : Type} : DataW H → Nat
  | .lit (.string bytes) => bytes.length + 1
  | .lit _ => 1
  | .nil => 1
  | .ptr d => uptoBulk d + 1
  | .slice elems spare => uptoBulkAll elems + uptoBulkAll spare + 1
  | .agg parts => uptoBulkAll parts + 1
  | .iface _ d => uptoBulk d + 1
  | .map entries => uptoBulkEntries entries + 1
  | .held _ => 1
def uptoBulkAll {H : Type} : List (DataW H) → Nat
  | [] => 0
  | d :: r => uptoBulk d + uptoBulkAll r
def uptoBulkEntries {H : Type} : List (Lit × DataW H) → Nat
  | [] => 0
  | x :: r => uptoBulkEntry x + uptoBulkEntries r
def uptoBulkEntry {H : Type} : Lit × DataW H → Nat
  | (.string bytes, d) => bytes.length + uptoBulk d + 1
  | (_, d) => uptoBulk d + 1
 end
def uptoSmall : (H : Type) → List (DataW H) → Bool := fun _ ds => decide (uptoBulkAll ds ≤ 1048576)
def OpenSpec.upto (s : _root_.Go.ChangeSpec) : _root_.Go.OpenSpec := { _root_.Go.OpenSpec.ofChange s with cond := some uptoSmall }

/-- 'laws.FnExactRangeJoin', WHERE WHAT IT READS IS OF BULK AT MOST 1048576: true; the input reads as it did. -/
def fnExactRangeJoinUptoRow : OpenClaim := { program := "ytlipfemjlicbbaa", sum := "cabdf3626879a680f28dd71cbd310296471f1e10e17a7887ac30e4d9d4e12660", func := "loop.example/sedge/laws.FnExactRangeJoin", spec := "fnExactRangeJoin", apart := false, narrowed := true }
def FnExactRangeJoinUptoSaid : Prop := fnExactRangeJoinUptoRow.holds Try.pinned (OpenSpec.upto fnExactRangeJoinSpec)

/-- 'laws.FnExactRangeMeet', WHERE WHAT IT READS IS OF BULK AT MOST 1048576: true; the input reads as it did. -/
def fnExactRangeMeetUptoRow : OpenClaim := { program := "ytlipfemjlicbbaa", sum := "cabdf3626879a680f28dd71cbd310296471f1e10e17a7887ac30e4d9d4e12660", func := "loop.example/sedge/laws.FnExactRangeMeet", spec := "fnExactRangeMeet", apart := false, narrowed := true }
def FnExactRangeMeetUptoSaid : Prop := fnExactRangeMeetUptoRow.holds Try.pinned (OpenSpec.upto fnExactRangeMeetSpec)

/-- 'laws.FnExactRangeWiden', WHERE WHAT IT READS IS OF BULK AT MOST 1048576: true; the input reads as it did. -/
def fnExactRangeWidenUptoRow : OpenClaim := { program := "ytlipfemjlicbbaa", sum := "cabdf3626879a680f28dd71cbd310296471f1e10e17a7887ac30e4d9d4e12660", func := "loop.example/sedge/laws.FnExactRangeWiden", spec := "fnExactRangeWiden", apart := false, narrowed := true }
def FnExactRangeWidenUptoSaid : Prop := fnExactRangeWidenUptoRow.holds Try.pinned (OpenSpec.upto fnExactRangeWidenSpec)

/-- 'laws.FnExactRangeCmp', WHERE WHAT IT READS IS OF BULK AT MOST 1048576: true; the input reads as it did. -/
def fnExactRangeCmpUptoRow : OpenClaim := { program := "ytlipfemjlicbbaa", sum := "cabdf3626879a680f28dd71cbd310296471f1e10e17a7887ac30e4d9d4e12660", func := "loop.example/sedge/laws.FnExactRangeCmp", spec := "fnExactRangeCmp", recurses := true, apart := false, narrowed := true }
def FnExactRangeCmpUptoSaid : Prop := fnExactRangeCmpUptoRow.holds Try.pinned (OpenSpec.upto fnExactRangeCmpSpec)

/-- 'laws.FnExactRestOk', WHERE WHAT IT READS IS OF BULK AT MOST 1048576: true; the input reads as it did. -/
def fnExactRestOkUptoRow : OpenClaim := { program := "ytlipfemjlicbbaa", sum := "cabdf3626879a680f28dd71cbd310296471f1e10e17a7887ac30e4d9d4e12660", func := "loop.example/sedge/laws.FnExactRestOk", spec := "fnExactRestOk", apart := false, narrowed := true }
def FnExactRestOkUptoSaid : Prop := fnExactRestOkUptoRow.holds Try.pinned (OpenSpec.upto fnExactRestOkSpec)

/-- 'laws.FnExactRestHas', WHERE WHAT IT READS IS OF BULK AT MOST 1048576: true; the input reads as it did. -/
def fnExactRestHasUptoRow : OpenClaim := { program := "ytlipfemjlicbbaa", sum := "cabdf3626879a680f28dd71cbd310296471f1e10e17a7887ac30e4d9d4e12660", func := "loop.example/sedge/laws.FnExactRestHas", spec := "fnExactRestHas", apart := false, narrowed := true }
def FnExactRestHasUptoSaid : Prop := fnExactRestHasUptoRow.holds Try.pinned (OpenSpec.upto fnExactRestHasSpec)

/-- 'laws.FnExactRestIn', WHERE WHAT IT READS IS OF BULK AT MOST 1048576: true; the input reads as it did. -/
def fnExactRestInUptoRow : OpenClaim := { program := "ytlipfemjlicbbaa", sum := "cabdf3626879a680f28dd71cbd310296471f1e10e17a7887ac30e4d9d4e12660", func := "loop.example/sedge/laws.FnExactRestIn", spec := "fnExactRestIn", apart := false, narrowed := true }
def FnExactRestInUptoSaid : Prop := fnExactRestInUptoRow.holds Try.pinned (OpenSpec.upto fnExactRestInSpec)

/-- 'laws.FnExactRestJoin', WHERE WHAT IT READS IS OF BULK AT MOST 1048576: true; the input reads as it did. -/
def fnExactRestJoinUptoRow : OpenClaim := { program := "ytlipfemjlicbbaa", sum := "cabdf3626879a680f28dd71cbd310296471f1e10e17a7887ac30e4d9d4e12660", func := "loop.example/sedge/laws.FnExactRestJoin", spec := "fnExactRestJoin", apart := false, narrowed := true }
def FnExactRestJoinUptoSaid : Prop := fnExactRestJoinUptoRow.holds Try.pinned (OpenSpec.upto fnExactRestJoinSpec)

/-- 'laws.FnExactRestMeet', WHERE WHAT IT READS IS OF BULK AT MOST 1048576: true; the input reads as it did. -/
def fnExactRestMeetUptoRow : OpenClaim := { program := "ytlipfemjlicbbaa", sum := "cabdf3626879a680f28dd71cbd310296471f1e10e17a7887ac30e4d9d4e12660", func := "loop.example/sedge/laws.FnExactRestMeet", spec := "fnExactRestMeet", recurses := true, apart := false, narrowed := true }
def FnExactRestMeetUptoSaid : Prop := fnExactRestMeetUptoRow.holds Try.pinned (OpenSpec.upto fnExactRestMeetSpec)

/-- 'laws.FnExactRestDo', WHERE WHAT IT READS IS OF BULK AT MOST 1048576: true; the input reads as it did. -/
def fnExactRestDoUptoRow : OpenClaim := { program := "ytlipfemjlicbbaa", sum := "cabdf3626879a680f28dd71cbd310296471f1e10e17a7887ac30e4d9d4e12660", func := "loop.example/sedge/laws.FnExactRestDo", spec := "fnExactRestDo", apart := false, narrowed := true }
def FnExactRestDoUptoSaid : Prop := fnExactRestDoUptoRow.holds Try.pinned (OpenSpec.upto fnExactRestDoSpec)

/-- 'laws.FnExactValMake', WHERE WHAT IT READS IS OF BULK AT MOST 1048576: true; the input reads as it did. -/
def fnExactValMakeUptoRow : OpenClaim := { program := "ytlipfemjlicbbaa", sum := "cabdf3626879a680f28dd71cbd310296471f1e10e17a7887ac30e4d9d4e12660", func := "loop.example/sedge/laws.FnExactValMake", spec := "fnExactValMake", apart := false, narrowed := true }
def FnExactValMakeUptoSaid : Prop := fnExactValMakeUptoRow.holds Try.pinned (OpenSpec.upto fnExactValMakeSpec)

/-- 'laws.FnExactValOk', WHERE WHAT IT READS IS OF BULK AT MOST 1048576: true; the input reads as it did. -/
def fnExactValOkUptoRow : OpenClaim := { program := "ytlipfemjlicbbaa", sum := "cabdf3626879a680f28dd71cbd310296471f1e10e17a7887ac30e4d9d4e12660", func := "loop.example/sedge/laws.FnExactValOk", spec := "fnExactValOk", apart := false, narrowed := true }
def FnExactValOkUptoSaid : Prop := fnExactValOkUptoRow.holds Try.pinned (OpenSpec.upto fnExactValOkSpec)

end Rows
end Go.Proofs.Ytlipfemjlicbbaa
