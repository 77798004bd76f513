/-
  No cell of these rows narrows 'for every input' (looked for: loops, veiled, ifaces, maps, wideKeys, modest, calm, conditions, laid).
  DERIVED. THE GIVEN ROWS OF THIS SEAT. 12 by the template 'for every input the law returns true; each argument reads behind the call as it read before'; 0 by the template 'total and deterministic' (their statements: YtnmccgjdnceheaaTotals.lean).
  GIVEN WITH THE SEED: the statements are not yours to turn. If you find one false, say at which input.
  Laid BY PROGRAM, IN A SANDBOX (cutbox-rows.mjs): the forced cells as the released guide's own fill.sh prints them over the translation 0a0bf48cf3798c18… (all of the seat's roots in one cut). By AI agents, Wed Nov 11 2026. No macro, syntax, notation, axiom, sorry.
-/
import Derived.Test.YtnmccgjdnceheaaChecked
import GoSem.Claim
import GoSem.ClaimJoined
import GoSem.ClaimMapViews
import Derived.JoinedTies
import Derived.KernelRfl
namespace Go.Proofs.Ytnmccgjdnceheaa
/- THE CELL 'sum', in the pinned program and in every row, IS THE sha256 OF THE DUMP (.gsa) THAT YtnmccgjdnceheaaProg.lean LOADS. Nothing in Lean hashes anything: it is a label: what it is worth is what the hold of that sum in a sandbox is worth. -/
noncomputable def Try.pinned : Pinned := { name := "ytnmccgjdnceheaa", sum := "0a0bf48cf3798c18bc7e89d73ff9ef71c72c970d023fcee3ef9ec8cb78efed05", checked := Try.checked }
namespace Rows
def none {H : Type} : Left H := { results := [], args := [] }

/-- 'laws.FnExactValHas': WHATEVER THE INPUT: true; the input reads as it did. -/
def fnExactValHasSpec : ChangeSpec := { name := "fnExactValHas", fn := fun _ => fun
  | [d1, d2] => { results := [.lit (.bool true)], args := [d1, d2] }
  | _ => none }
def fnExactValHasRow : OpenClaim := { program := "ytnmccgjdnceheaa", sum := "0a0bf48cf3798c18bc7e89d73ff9ef71c72c970d023fcee3ef9ec8cb78efed05", func := "loop.example/sedge/laws.FnExactValHas", spec := "fnExactValHas", apart := false }
def FnExactValHasSaid : Prop := fnExactValHasRow.holds Try.pinned (OpenSpec.ofChange fnExactValHasSpec)

/-- ITS FALSE NEIGHBOUR: 'it returns false'. Refute it at one input. -/
def fnExactValHasWrong : ChangeSpec := { name := "fnExactValHas", fn := fun _ => fun
  | [d1, d2] => { results := [.lit (.bool false)], args := [d1, d2] }
  | _ => none }
def FnExactValHasWrongFalsely : Prop := fnExactValHasRow.holds Try.pinned (OpenSpec.ofChange fnExactValHasWrong)

/-- 'laws.FnExactValIn': WHATEVER THE INPUT: true; the input reads as it did. -/
def fnExactValInSpec : ChangeSpec := { name := "fnExactValIn", fn := fun _ => fun
  | [d1, d2] => { results := [.lit (.bool true)], args := [d1, d2] }
  | _ => none }
def fnExactValInRow : OpenClaim := { program := "ytnmccgjdnceheaa", sum := "0a0bf48cf3798c18bc7e89d73ff9ef71c72c970d023fcee3ef9ec8cb78efed05", func := "loop.example/sedge/laws.FnExactValIn", spec := "fnExactValIn", apart := false }
def FnExactValInSaid : Prop := fnExactValInRow.holds Try.pinned (OpenSpec.ofChange fnExactValInSpec)

/-- ITS FALSE NEIGHBOUR: 'it returns false'. Refute it at one input. -/
def fnExactValInWrong : ChangeSpec := { name := "fnExactValIn", fn := fun _ => fun
  | [d1, d2] => { results := [.lit (.bool false)], args := [d1, d2] }
  | _ => none }
def FnExactValInWrongFalsely : Prop := fnExactValInRow.holds Try.pinned (OpenSpec.ofChange fnExactValInWrong)

/-- 'laws.FnExactValJoin': WHATEVER THE INPUT: true; the input reads as it did. -/
def fnExactValJoinSpec : ChangeSpec := { name := "fnExactValJoin", fn := fun _ => fun
  | [d1, d2] => { results := [.lit (.bool true)], args := [d1, d2] }
  | _ => none }
def fnExactValJoinRow : OpenClaim := { program := "ytnmccgjdnceheaa", sum := "0a0bf48cf3798c18bc7e89d73ff9ef71c72c970d023fcee3ef9ec8cb78efed05", func := "loop.example/sedge/laws.FnExactValJoin", spec := "fnExactValJoin", apart := false }
def FnExactValJoinSaid : Prop := fnExactValJoinRow.holds Try.pinned (OpenSpec.ofChange fnExactValJoinSpec)

/-- ITS FALSE NEIGHBOUR: 'it returns false'. Refute it at one input. -/
def fnExactValJoinWrong : ChangeSpec := { name := "fnExactValJoin", fn := fun _ => fun
  | [d1, d2] => { results := [.lit (.bool false)], args := [d1, d2] }
  | _ => none }
def FnExactValJoinWrongFalsely : Prop := fnExactValJoinRow.holds Try.pinned (OpenSpec.ofChange fnExactValJoinWrong)

/-- 'laws.FnExactValMeet': WHATEVER THE INPUT: true; the input reads as it did. -/
def fnExactValMeetSpec : ChangeSpec := { name := "fnExactValMeet", fn := fun _ => fun
  | [d1, d2] => { results := [.lit (.bool true)], args := [d1, d2] }
  | _ => none }
def fnExactValMeetRow : OpenClaim := { program := "ytnmccgjdnceheaa", sum := "0a0bf48cf3798c18bc7e89d73ff9ef71c72c970d023fcee3ef9ec8cb78efed05", func := "loop.example/sedge/laws.FnExactValMeet", spec := "fnExactValMeet", recurses := true, apart := false }
def FnExactValMeetSaid : Prop := fnExactValMeetRow.holds Try.pinned (OpenSpec.ofChange fnExactValMeetSpec)

/-- ITS FALSE NEIGHBOUR: 'it returns false'. Refute it at one input. -/
def fnExactValMeetWrong : ChangeSpec := { name := "fnExactValMeet", fn := fun _ => fun
  | [d1, d2] => { results := [.lit (.bool false)], args := [d1, d2] }
  | _ => none }
def FnExactValMeetWrongFalsely : Prop := fnExactValMeetRow.holds Try.pinned (OpenSpec.ofChange fnExactValMeetWrong)

/-- 'laws.FnExactValWiden': WHATEVER THE INPUT: true; the input reads as it did. -/
def fnExactValWidenSpec : ChangeSpec := { name := "fnExactValWiden", fn := fun _ => fun
  | [d1, d2, d3] => { results := [.lit (.bool true)], args := [d1, d2, d3] }
  | _ => none }
def fnExactValWidenRow : OpenClaim := { program := "ytnmccgjdnceheaa", sum := "0a0bf48cf3798c18bc7e89d73ff9ef71c72c970d023fcee3ef9ec8cb78efed05", func := "loop.example/sedge/laws.FnExactValWiden", spec := "fnExactValWiden", apart := false }
def FnExactValWidenSaid : Prop := fnExactValWidenRow.holds Try.pinned (OpenSpec.ofChange fnExactValWidenSpec)

/-- ITS FALSE NEIGHBOUR: 'it returns false'. Refute it at one input. -/
def fnExactValWidenWrong : ChangeSpec := { name := "fnExactValWiden", fn := fun _ => fun
  | [d1, d2, d3] => { results := [.lit (.bool false)], args := [d1, d2, d3] }
  | _ => none }
def FnExactValWidenWrongFalsely : Prop := fnExactValWidenRow.holds Try.pinned (OpenSpec.ofChange fnExactValWidenWrong)

/-- 'laws.FnExactValCmp': WHATEVER THE INPUT: true; the input reads as it did. -/
def fnExactValCmpSpec : ChangeSpec := { name := "fnExactValCmp", fn := fun _ => fun
  | [d1, d2, d3] => { results := [.lit (.bool true)], args := [d1, d2, d3] }
  | _ => none }
def fnExactValCmpRow : OpenClaim := { program := "ytnmccgjdnceheaa", sum := "0a0bf48cf3798c18bc7e89d73ff9ef71c72c970d023fcee3ef9ec8cb78efed05", func := "loop.example/sedge/laws.FnExactValCmp", spec := "fnExactValCmp", recurses := true, apart := false }
def FnExactValCmpSaid : Prop := fnExactValCmpRow.holds Try.pinned (OpenSpec.ofChange fnExactValCmpSpec)

/-- ITS FALSE NEIGHBOUR: 'it returns false'. Refute it at one input. -/
def fnExactValCmpWrong : ChangeSpec := { name := "fnExactValCmp", fn := fun _ => fun
  | [d1, d2, d3] => { results := [.lit (.bool false)], args := [d1, d2, d3] }
  | _ => none }
def FnExactValCmpWrongFalsely : Prop := fnExactValCmpRow.holds Try.pinned (OpenSpec.ofChange fnExactValCmpWrong)

/-- 'laws.FnExactGapsTop': WHATEVER THE INPUT: true; the input reads as it did. -/
def fnExactGapsTopSpec : ChangeSpec := { name := "fnExactGapsTop", fn := fun _ => fun
  | [d] => { results := [.lit (.bool true)], args := [d] }
  | _ => none }
def fnExactGapsTopRow : OpenClaim := { program := "ytnmccgjdnceheaa", sum := "0a0bf48cf3798c18bc7e89d73ff9ef71c72c970d023fcee3ef9ec8cb78efed05", func := "loop.example/sedge/laws.FnExactGapsTop", spec := "fnExactGapsTop", apart := false }
def FnExactGapsTopSaid : Prop := fnExactGapsTopRow.holds Try.pinned (OpenSpec.ofChange fnExactGapsTopSpec)

/-- ITS FALSE NEIGHBOUR: 'it returns false'. Refute it at one input. -/
def fnExactGapsTopWrong : ChangeSpec := { name := "fnExactGapsTop", fn := fun _ => fun
  | [d] => { results := [.lit (.bool false)], args := [d] }
  | _ => none }
def FnExactGapsTopWrongFalsely : Prop := fnExactGapsTopRow.holds Try.pinned (OpenSpec.ofChange fnExactGapsTopWrong)

/-- 'laws.FnExactGapsOk': WHATEVER THE INPUT: true; the input reads as it did. -/
def fnExactGapsOkSpec : ChangeSpec := { name := "fnExactGapsOk", fn := fun _ => fun
  | [d] => { results := [.lit (.bool true)], args := [d] }
  | _ => none }
def fnExactGapsOkRow : OpenClaim := { program := "ytnmccgjdnceheaa", sum := "0a0bf48cf3798c18bc7e89d73ff9ef71c72c970d023fcee3ef9ec8cb78efed05", func := "loop.example/sedge/laws.FnExactGapsOk", spec := "fnExactGapsOk", apart := false }
def FnExactGapsOkSaid : Prop := fnExactGapsOkRow.holds Try.pinned (OpenSpec.ofChange fnExactGapsOkSpec)

/-- ITS FALSE NEIGHBOUR: 'it returns false'. Refute it at one input. -/
def fnExactGapsOkWrong : ChangeSpec := { name := "fnExactGapsOk", fn := fun _ => fun
  | [d] => { results := [.lit (.bool false)], args := [d] }
  | _ => none }
def FnExactGapsOkWrongFalsely : Prop := fnExactGapsOkRow.holds Try.pinned (OpenSpec.ofChange fnExactGapsOkWrong)

/-- 'laws.FnExactGapsIn': WHATEVER THE INPUT: true; the input reads as it did. -/
def fnExactGapsInSpec : ChangeSpec := { name := "fnExactGapsIn", fn := fun _ => fun
  | [d1, d2] => { results := [.lit (.bool true)], args := [d1, d2] }
  | _ => none }
def fnExactGapsInRow : OpenClaim := { program := "ytnmccgjdnceheaa", sum := "0a0bf48cf3798c18bc7e89d73ff9ef71c72c970d023fcee3ef9ec8cb78efed05", func := "loop.example/sedge/laws.FnExactGapsIn", spec := "fnExactGapsIn", apart := false }
def FnExactGapsInSaid : Prop := fnExactGapsInRow.holds Try.pinned (OpenSpec.ofChange fnExactGapsInSpec)

/-- ITS FALSE NEIGHBOUR: 'it returns false'. Refute it at one input. -/
def fnExactGapsInWrong : ChangeSpec := { name := "fnExactGapsIn", fn := fun _ => fun
  | [d1, d2] => { results := [.lit (.bool false)], args := [d1, d2] }
  | _ => none }
def FnExactGapsInWrongFalsely : Prop := fnExactGapsInRow.holds Try.pinned (OpenSpec.ofChange fnExactGapsInWrong)

/-- 'laws.FnExactGapsHas': WHATEVER THE INPUT: true; the input reads as it did. -/
def fnExactGapsHasSpec : ChangeSpec := { name := "fnExactGapsHas", fn := fun _ => fun
  | [d1, d2] => { results := [.lit (.bool true)], args := [d1, d2] }
  | _ => none }
def fnExactGapsHasRow : OpenClaim := { program := "ytnmccgjdnceheaa", sum := "0a0bf48cf3798c18bc7e89d73ff9ef71c72c970d023fcee3ef9ec8cb78efed05", func := "loop.example/sedge/laws.FnExactGapsHas", spec := "fnExactGapsHas", apart := false }
def FnExactGapsHasSaid : Prop := fnExactGapsHasRow.holds Try.pinned (OpenSpec.ofChange fnExactGapsHasSpec)

/-- ITS FALSE NEIGHBOUR: 'it returns false'. Refute it at one input. -/
def fnExactGapsHasWrong : ChangeSpec := { name := "fnExactGapsHas", fn := fun _ => fun
  | [d1, d2] => { results := [.lit (.bool false)], args := [d1, d2] }
  | _ => none }
def FnExactGapsHasWrongFalsely : Prop := fnExactGapsHasRow.holds Try.pinned (OpenSpec.ofChange fnExactGapsHasWrong)

/-- 'laws.FnExactFlowOut': WHATEVER THE INPUT: true; the input reads as it did. -/
def fnExactFlowOutSpec : ChangeSpec := { name := "fnExactFlowOut", fn := fun _ => fun
  | [d1, d2] => { results := [.lit (.bool true)], args := [d1, d2] }
  | _ => none }
def fnExactFlowOutRow : OpenClaim := { program := "ytnmccgjdnceheaa", sum := "0a0bf48cf3798c18bc7e89d73ff9ef71c72c970d023fcee3ef9ec8cb78efed05", func := "loop.example/sedge/laws.FnExactFlowOut", spec := "fnExactFlowOut", apart := false }
def FnExactFlowOutSaid : Prop := fnExactFlowOutRow.holds Try.pinned (OpenSpec.ofChange fnExactFlowOutSpec)

/-- ITS FALSE NEIGHBOUR: 'it returns false'. Refute it at one input. -/
def fnExactFlowOutWrong : ChangeSpec := { name := "fnExactFlowOut", fn := fun _ => fun
  | [d1, d2] => { results := [.lit (.bool false)], args := [d1, d2] }
  | _ => none }
def FnExactFlowOutWrongFalsely : Prop := fnExactFlowOutRow.holds Try.pinned (OpenSpec.ofChange fnExactFlowOutWrong)

/-- 'laws.FnExactNameKind': WHATEVER THE INPUT: true; the input reads as it did. -/
def fnExactNameKindSpec : ChangeSpec := { name := "fnExactNameKind", fn := fun _ => fun
  | [d1, d2, d3] => { results := [.lit (.bool true)], args := [d1, d2, d3] }
  | _ => none }
def fnExactNameKindRow : OpenClaim := { program := "ytnmccgjdnceheaa", sum := "0a0bf48cf3798c18bc7e89d73ff9ef71c72c970d023fcee3ef9ec8cb78efed05", func := "loop.example/sedge/laws.FnExactNameKind", spec := "fnExactNameKind", apart := false }
def FnExactNameKindSaid : Prop := fnExactNameKindRow.holds Try.pinned (OpenSpec.ofChange fnExactNameKindSpec)

/-- ITS FALSE NEIGHBOUR: 'it returns false'. Refute it at one input. -/
def fnExactNameKindWrong : ChangeSpec := { name := "fnExactNameKind", fn := fun _ => fun
  | [d1, d2, d3] => { results := [.lit (.bool false)], args := [d1, d2, d3] }
  | _ => none }
def FnExactNameKindWrongFalsely : Prop := fnExactNameKindRow.holds Try.pinned (OpenSpec.ofChange fnExactNameKindWrong)

/- THE SECOND FORM. 'bulk': how many values and letters a reading holds, each counted each time it is reached (what is shared counts as often as it is met; a slice's spare places count too). A statement '..UptoSaid' is the law's where the arguments, and the package variables that the reading takes, are together of bulk at most 1048576: NARROWER than '..Said'. Prove '..Said' where nothing that the law and all that it calls make is longer than what came in: it says more and counts as full. Else prove '..UptoSaid'. A law counts once. -/
mutual
def uptoBulk {H : Type} : DataW H → Nat
  | .lit (.string bytes) => bytes.length + 1
  | .lit _ => 1
  | .nil => 1
  | .ptr d => uptoBulk d + 1
  | .slice elems spare => uptoBulkAll elems + uptoBulkAll spare + 1
  | .agg parts => uptoBulkAll parts + 1
  | .iface _ d => uptoBulk d + 1
  | .map entries => uptoBulkEntries entries + 1
  | .held _ => 1
def uptoBulkAll {H : Type} : List (DataW H) → Nat
  | [] => 0
  | d :: r => uptoBulk d + uptoBulkAll r
def uptoBulkEntries {H : Type} : List (Lit × DataW H) → Nat
  | [] => 0
  | x :: r => uptoBulkEntry x + uptoBulkEntries r
def uptoBulkEntry {H : Type} : Lit × DataW H → Nat
  | (.string bytes, d) => bytes.length + uptoBulk d + 1
  | (_, d) => uptoBulk d + 1
 end
def uptoSmall : (H : Type) → List (DataW H) → Bool := fun _ ds => decide (uptoBulkAll ds ≤ 1048576)
def OpenSpec.upto (s : _root_.Go.ChangeSpec) : _root_.Go.OpenSpec := { _root_.Go.OpenSpec.ofChange s with cond := some uptoSmall }

/-- 'laws.FnExactValHas', WHERE WHAT IT READS IS OF BULK AT MOST 1048576: true; the input reads as it did. -/
def fnExactValHasUptoRow : OpenClaim := { program := "ytnmccgjdnceheaa", sum := "0a0bf48cf3798c18bc7e89d73ff9ef71c72c970d023fcee3ef9ec8cb78efed05", func := "loop.example/sedge/laws.FnExactValHas", spec := "fnExactValHas", apart := false, narrowed := true }
def FnExactValHasUptoSaid : Prop := fnExactValHasUptoRow.holds Try.pinned (OpenSpec.upto fnExactValHasSpec)

/-- 'laws.FnExactValIn', WHERE WHAT IT READS IS OF BULK AT MOST 1048576: true; the input reads as it did. -/
def fnExactValInUptoRow : OpenClaim := { program := "ytnmccgjdnceheaa", sum := "0a0bf48cf3798c18bc7e89d73ff9ef71c72c970d023fcee3ef9ec8cb78efed05", func := "loop.example/sedge/laws.FnExactValIn", spec := "fnExactValIn", apart := false, narrowed := true }
def FnExactValInUptoSaid : Prop := fnExactValInUptoRow.holds Try.pinned (OpenSpec.upto fnExactValInSpec)

/-- 'laws.FnExactValJoin', WHERE WHAT IT READS IS OF BULK AT MOST 1048576: true; the input reads as it did. -/
def fnExactValJoinUptoRow : OpenClaim := { program := "ytnmccgjdnceheaa", sum := "0a0bf48cf3798c18bc7e89d73ff9ef71c72c970d023fcee3ef9ec8cb78efed05", func := "loop.example/sedge/laws.FnExactValJoin", spec := "fnExactValJoin", apart := false, narrowed := true }
def FnExactValJoinUptoSaid : Prop := fnExactValJoinUptoRow.holds Try.pinned (OpenSpec.upto fnExactValJoinSpec)

/-- 'laws.FnExactValMeet', WHERE WHAT IT READS IS OF BULK AT MOST 1048576: true; the input reads as it did. -/
def fnExactValMeetUptoRow : OpenClaim := { program := "ytnmccgjdnceheaa", sum := "0a0bf48cf3798c18bc7e89d73ff9ef71c72c970d023fcee3ef9ec8cb78efed05", func := "loop.example/sedge/laws.FnExactValMeet", spec := "fnExactValMeet", recurses := true, apart := false, narrowed := true }
def FnExactValMeetUptoSaid : Prop := fnExactValMeetUptoRow.holds Try.pinned (OpenSpec.upto fnExactValMeetSpec)

/-- 'laws.FnExactValWiden', WHERE WHAT IT READS IS OF BULK AT MOST 1048576: true; the input reads as it did. -/
def fnExactValWidenUptoRow : OpenClaim := { program := "ytnmccgjdnceheaa", sum := "0a0bf48cf3798c18bc7e89d73ff9ef71c72c970d023fcee3ef9ec8cb78efed05", func := "loop.example/sedge/laws.FnExactValWiden", spec := "fnExactValWiden", apart := false, narrowed := true }
def FnExactValWidenUptoSaid : Prop := fnExactValWidenUptoRow.holds Try.pinned (OpenSpec.upto fnExactValWidenSpec)

/-- 'laws.FnExactValCmp', WHERE WHAT IT READS IS OF BULK AT MOST 1048576: true; the input reads as it did. -/
def fnExactValCmpUptoRow : OpenClaim := { program := "ytnmccgjdnceheaa", sum := "0a0bf48cf3798c18bc7e89d73ff9ef71c72c970d023fcee3ef9ec8cb78efed05", func := "loop.example/sedge/laws.FnExactValCmp", spec := "fnExactValCmp", recurses := true, apart := false, narrowed := true }
def FnExactValCmpUptoSaid : Prop := fnExactValCmpUptoRow.holds Try.pinned (OpenSpec.upto fnExactValCmpSpec)

/-- 'laws.FnExactGapsTop', WHERE WHAT IT READS IS OF BULK AT MOST 1048576: true; the input reads as it did. -/
def fnExactGapsTopUptoRow : OpenClaim := { program := "ytnmccgjdnceheaa", sum := "0a0bf48cf3798c18bc7e89d73ff9ef71c72c970d023fcee3ef9ec8cb78efed05", func := "loop.example/sedge/laws.FnExactGapsTop", spec := "fnExactGapsTop", apart := false, narrowed := true }
def FnExactGapsTopUptoSaid : Prop := fnExactGapsTopUptoRow.holds Try.pinned (OpenSpec.upto fnExactGapsTopSpec)

/-- 'laws.FnExactGapsOk', WHERE WHAT IT READS IS OF BULK AT MOST 1048576: true; the input reads as it did. -/
def fnExactGapsOkUptoRow : OpenClaim := { program := "ytnmccgjdnceheaa", sum := "0a0bf48cf3798c18bc7e89d73ff9ef71c72c970d023fcee3ef9ec8cb78efed05", func := "loop.example/sedge/laws.FnExactGapsOk", spec := "fnExactGapsOk", apart := false, narrowed := true }
def FnExactGapsOkUptoSaid : Prop := fnExactGapsOkUptoRow.holds Try.pinned (OpenSpec.upto fnExactGapsOkSpec)

/-- 'laws.FnExactGapsIn', WHERE WHAT IT READS IS OF BULK AT MOST 1048576: true; the input reads as it did. -/
def fnExactGapsInUptoRow : OpenClaim := { program := "ytnmccgjdnceheaa", sum := "0a0bf48cf3798c18bc7e89d73ff9ef71c72c970d023fcee3ef9ec8cb78efed05", func := "loop.example/sedge/laws.FnExactGapsIn", spec := "fnExactGapsIn", apart := false, narrowed := true }
def FnExactGapsInUptoSaid : Prop := fnExactGapsInUptoRow.holds Try.pinned (OpenSpec.upto fnExactGapsInSpec)

/-- 'laws.FnExactGapsHas', WHERE WHAT IT READS IS OF BULK AT MOST 1048576: true; the input reads as it did. -/
def fnExactGapsHasUptoRow : OpenClaim := { program := "ytnmccgjdnceheaa", sum := "0a0bf48cf3798c18bc7e89d73ff9ef71c72c970d023fcee3ef9ec8cb78efed05", func := "loop.example/sedge/laws.FnExactGapsHas", spec := "fnExactGapsHas", apart := false, narrowed := true }
def FnExactGapsHasUptoSaid : Prop := fnExactGapsHasUptoRow.holds Try.pinned (OpenSpec.upto fnExactGapsHasSpec)

/-- 'laws.FnExactFlowOut', WHERE WHAT IT READS IS OF BULK AT MOST 1048576: true; the input reads as it did. -/
def fnExactFlowOutUptoRow : OpenClaim := { program := "ytnmccgjdnceheaa", sum := "0a0bf48cf3798c18bc7e89d73ff9ef71c72c970d023fcee3ef9ec8cb78efed05", func := "loop.example/sedge/laws.FnExactFlowOut", spec := "fnExactFlowOut", apart := false, narrowed := true }
def FnExactFlowOutUptoSaid : Prop := fnExactFlowOutUptoRow.holds Try.pinned (OpenSpec.upto fnExactFlowOutSpec)

/-- 'laws.FnExactNameKind', WHERE WHAT IT READS IS OF BULK AT MOST 1048576: true; the input reads as it did. -/
def fnExactNameKindUptoRow : OpenClaim := { program := "ytnmccgjdnceheaa", sum := "0a0bf48cf3798c18bc7e89d73ff9ef71c72c970d023fcee3ef9ec8cb78efed05", func := "loop.example/sedge/laws.FnExactNameKind", spec := "fnExactNameKind", apart := false, narrowed := true }
def FnExactNameKindUptoSaid : Prop := fnExactNameKindUptoRow.holds Try.pinned (OpenSpec.upto fnExactNameKindSpec)

end Rows
end Go.Proofs.Ytnmccgjdnceheaa
