/-
  No cell of these rows narrows 'for every input' (looked for: loops, veiled, ifaces, maps, wideKeys, modest, calm, conditions, laid).
  DERIVED. THE GIVEN ROWS OF THIS SEAT. 12 by the template 'for every input the law returns true; each argument reads behind the call as it read before'; 0 by the template 'total and deterministic' (their statements: YtjkmefkgagfcaaaTotals.lean).
  GIVEN WITH THE SEED: the statements are not yours to turn. If you find one false, say at which input.
  Laid BY PROGRAM, IN A SANDBOX (cutbox-rows.mjs): the forced cells as the released guide's own fill.sh prints them over the translation 6064aea700fcad4b… (all of the seat's roots in one cut). By AI agents, Wed Nov 11 2026. No macro, syntax, notation, axiom, sorry.
-/
import Derived.Test.YtjkmefkgagfcaaaChecked
import GoSem.Claim
import GoSem.ClaimJoined
import GoSem.ClaimMapViews
import Derived.JoinedTies
import Derived.KernelRfl
namespace Go.Proofs.Ytjkmefkgagfcaaa
/- THE CELL 'sum', in the pinned program and in every row, IS THE sha256 OF THE DUMP (.gsa) THAT YtjkmefkgagfcaaaProg.lean LOADS. Nothing in Lean hashes anything: it is a label: what it is worth is what the hold of that sum in a sandbox is worth. -/
noncomputable def Try.pinned : Pinned := { name := "ytjkmefkgagfcaaa", sum := "6064aea700fcad4bf15f6de238d4acc7d8548c2e33938e4730b959677dffe6d7", checked := Try.checked }
namespace Rows
def none {H : Type} : Left H := { results := [], args := [] }

/-- 'laws.FnExactConstants': WHATEVER THE INPUT: true; the input reads as it did. -/
def fnExactConstantsSpec : ChangeSpec := { name := "fnExactConstants", fn := fun _ => fun
  | [] => { results := [.lit (.bool true)], args := [] }
  | _ => none }
def fnExactConstantsRow : OpenClaim := { program := "ytjkmefkgagfcaaa", sum := "6064aea700fcad4bf15f6de238d4acc7d8548c2e33938e4730b959677dffe6d7", func := "loop.example/sedge/laws.FnExactConstants", spec := "fnExactConstants", apart := false }
def FnExactConstantsSaid : Prop := fnExactConstantsRow.holds Try.pinned (OpenSpec.ofChange fnExactConstantsSpec)

/-- ITS FALSE NEIGHBOUR: 'it returns false'. Refute it at one input. -/
def fnExactConstantsWrong : ChangeSpec := { name := "fnExactConstants", fn := fun _ => fun
  | [] => { results := [.lit (.bool false)], args := [] }
  | _ => none }
def FnExactConstantsWrongFalsely : Prop := fnExactConstantsRow.holds Try.pinned (OpenSpec.ofChange fnExactConstantsWrong)

/-- 'laws.FnExactNumOk': WHATEVER THE INPUT: true; the input reads as it did. -/
def fnExactNumOkSpec : ChangeSpec := { name := "fnExactNumOk", fn := fun _ => fun
  | [d] => { results := [.lit (.bool true)], args := [d] }
  | _ => none }
def fnExactNumOkRow : OpenClaim := { program := "ytjkmefkgagfcaaa", sum := "6064aea700fcad4bf15f6de238d4acc7d8548c2e33938e4730b959677dffe6d7", func := "loop.example/sedge/laws.FnExactNumOk", spec := "fnExactNumOk", apart := false }
def FnExactNumOkSaid : Prop := fnExactNumOkRow.holds Try.pinned (OpenSpec.ofChange fnExactNumOkSpec)

/-- ITS FALSE NEIGHBOUR: 'it returns false'. Refute it at one input. -/
def fnExactNumOkWrong : ChangeSpec := { name := "fnExactNumOk", fn := fun _ => fun
  | [d] => { results := [.lit (.bool false)], args := [d] }
  | _ => none }
def FnExactNumOkWrongFalsely : Prop := fnExactNumOkRow.holds Try.pinned (OpenSpec.ofChange fnExactNumOkWrong)

/-- 'laws.FnExactNumWrap': WHATEVER THE INPUT: true; the input reads as it did. -/
def fnExactNumWrapSpec : ChangeSpec := { name := "fnExactNumWrap", fn := fun _ => fun
  | [d] => { results := [.lit (.bool true)], args := [d] }
  | _ => none }
def fnExactNumWrapRow : OpenClaim := { program := "ytjkmefkgagfcaaa", sum := "6064aea700fcad4bf15f6de238d4acc7d8548c2e33938e4730b959677dffe6d7", func := "loop.example/sedge/laws.FnExactNumWrap", spec := "fnExactNumWrap", apart := false }
def FnExactNumWrapSaid : Prop := fnExactNumWrapRow.holds Try.pinned (OpenSpec.ofChange fnExactNumWrapSpec)

/-- ITS FALSE NEIGHBOUR: 'it returns false'. Refute it at one input. -/
def fnExactNumWrapWrong : ChangeSpec := { name := "fnExactNumWrap", fn := fun _ => fun
  | [d] => { results := [.lit (.bool false)], args := [d] }
  | _ => none }
def FnExactNumWrapWrongFalsely : Prop := fnExactNumWrapRow.holds Try.pinned (OpenSpec.ofChange fnExactNumWrapWrong)

/-- 'laws.FnExactCmpTurn': WHATEVER THE INPUT: true; the input reads as it did. -/
def fnExactCmpTurnSpec : ChangeSpec := { name := "fnExactCmpTurn", fn := fun _ => fun
  | [d] => { results := [.lit (.bool true)], args := [d] }
  | _ => none }
def fnExactCmpTurnRow : OpenClaim := { program := "ytjkmefkgagfcaaa", sum := "6064aea700fcad4bf15f6de238d4acc7d8548c2e33938e4730b959677dffe6d7", func := "loop.example/sedge/laws.FnExactCmpTurn", spec := "fnExactCmpTurn", apart := false }
def FnExactCmpTurnSaid : Prop := fnExactCmpTurnRow.holds Try.pinned (OpenSpec.ofChange fnExactCmpTurnSpec)

/-- ITS FALSE NEIGHBOUR: 'it returns false'. Refute it at one input. -/
def fnExactCmpTurnWrong : ChangeSpec := { name := "fnExactCmpTurn", fn := fun _ => fun
  | [d] => { results := [.lit (.bool false)], args := [d] }
  | _ => none }
def FnExactCmpTurnWrongFalsely : Prop := fnExactCmpTurnRow.holds Try.pinned (OpenSpec.ofChange fnExactCmpTurnWrong)

/-- 'laws.FnExactNumCmp': WHATEVER THE INPUT: true; the input reads as it did. -/
def fnExactNumCmpSpec : ChangeSpec := { name := "fnExactNumCmp", fn := fun _ => fun
  | [d1, d2, d3] => { results := [.lit (.bool true)], args := [d1, d2, d3] }
  | _ => none }
def fnExactNumCmpRow : OpenClaim := { program := "ytjkmefkgagfcaaa", sum := "6064aea700fcad4bf15f6de238d4acc7d8548c2e33938e4730b959677dffe6d7", func := "loop.example/sedge/laws.FnExactNumCmp", spec := "fnExactNumCmp", apart := false }
def FnExactNumCmpSaid : Prop := fnExactNumCmpRow.holds Try.pinned (OpenSpec.ofChange fnExactNumCmpSpec)

/-- ITS FALSE NEIGHBOUR: 'it returns false'. Refute it at one input. -/
def fnExactNumCmpWrong : ChangeSpec := { name := "fnExactNumCmp", fn := fun _ => fun
  | [d1, d2, d3] => { results := [.lit (.bool false)], args := [d1, d2, d3] }
  | _ => none }
def FnExactNumCmpWrongFalsely : Prop := fnExactNumCmpRow.holds Try.pinned (OpenSpec.ofChange fnExactNumCmpWrong)

/-- 'laws.FnExactCmpNot': WHATEVER THE INPUT: true; the input reads as it did. -/
def fnExactCmpNotSpec : ChangeSpec := { name := "fnExactCmpNot", fn := fun _ => fun
  | [d] => { results := [.lit (.bool true)], args := [d] }
  | _ => none }
def fnExactCmpNotRow : OpenClaim := { program := "ytjkmefkgagfcaaa", sum := "6064aea700fcad4bf15f6de238d4acc7d8548c2e33938e4730b959677dffe6d7", func := "loop.example/sedge/laws.FnExactCmpNot", spec := "fnExactCmpNot", apart := false }
def FnExactCmpNotSaid : Prop := fnExactCmpNotRow.holds Try.pinned (OpenSpec.ofChange fnExactCmpNotSpec)

/-- ITS FALSE NEIGHBOUR: 'it returns false'. Refute it at one input. -/
def fnExactCmpNotWrong : ChangeSpec := { name := "fnExactCmpNot", fn := fun _ => fun
  | [d] => { results := [.lit (.bool false)], args := [d] }
  | _ => none }
def FnExactCmpNotWrongFalsely : Prop := fnExactCmpNotRow.holds Try.pinned (OpenSpec.ofChange fnExactCmpNotWrong)

/-- 'laws.FnNumCmp': WHATEVER THE INPUT: true; the input reads as it did. -/
def fnNumCmpSpec : ChangeSpec := { name := "fnNumCmp", fn := fun _ => fun
  | [d] => { results := [.lit (.bool true)], args := [d] }
  | _ => none }
def fnNumCmpRow : OpenClaim := { program := "ytjkmefkgagfcaaa", sum := "6064aea700fcad4bf15f6de238d4acc7d8548c2e33938e4730b959677dffe6d7", func := "loop.example/sedge/laws.FnNumCmp", spec := "fnNumCmp", apart := false }
def FnNumCmpSaid : Prop := fnNumCmpRow.holds Try.pinned (OpenSpec.ofChange fnNumCmpSpec)

/-- ITS FALSE NEIGHBOUR: 'it returns false'. Refute it at one input. -/
def fnNumCmpWrong : ChangeSpec := { name := "fnNumCmp", fn := fun _ => fun
  | [d] => { results := [.lit (.bool false)], args := [d] }
  | _ => none }
def FnNumCmpWrongFalsely : Prop := fnNumCmpRow.holds Try.pinned (OpenSpec.ofChange fnNumCmpWrong)

/-- 'laws.FnNumBits': WHATEVER THE INPUT: true; the input reads as it did. -/
def fnNumBitsSpec : ChangeSpec := { name := "fnNumBits", fn := fun _ => fun
  | [d] => { results := [.lit (.bool true)], args := [d] }
  | _ => none }
def fnNumBitsRow : OpenClaim := { program := "ytjkmefkgagfcaaa", sum := "6064aea700fcad4bf15f6de238d4acc7d8548c2e33938e4730b959677dffe6d7", func := "loop.example/sedge/laws.FnNumBits", spec := "fnNumBits", apart := false }
def FnNumBitsSaid : Prop := fnNumBitsRow.holds Try.pinned (OpenSpec.ofChange fnNumBitsSpec)

/-- ITS FALSE NEIGHBOUR: 'it returns false'. Refute it at one input. -/
def fnNumBitsWrong : ChangeSpec := { name := "fnNumBits", fn := fun _ => fun
  | [d] => { results := [.lit (.bool false)], args := [d] }
  | _ => none }
def FnNumBitsWrongFalsely : Prop := fnNumBitsRow.holds Try.pinned (OpenSpec.ofChange fnNumBitsWrong)

/-- 'laws.FnNumDo': WHATEVER THE INPUT: true; the input reads as it did. -/
def fnNumDoSpec : ChangeSpec := { name := "fnNumDo", fn := fun _ => fun
  | [d] => { results := [.lit (.bool true)], args := [d] }
  | _ => none }
def fnNumDoRow : OpenClaim := { program := "ytjkmefkgagfcaaa", sum := "6064aea700fcad4bf15f6de238d4acc7d8548c2e33938e4730b959677dffe6d7", func := "loop.example/sedge/laws.FnNumDo", spec := "fnNumDo", apart := false }
def FnNumDoSaid : Prop := fnNumDoRow.holds Try.pinned (OpenSpec.ofChange fnNumDoSpec)

/-- ITS FALSE NEIGHBOUR: 'it returns false'. Refute it at one input. -/
def fnNumDoWrong : ChangeSpec := { name := "fnNumDo", fn := fun _ => fun
  | [d] => { results := [.lit (.bool false)], args := [d] }
  | _ => none }
def FnNumDoWrongFalsely : Prop := fnNumDoRow.holds Try.pinned (OpenSpec.ofChange fnNumDoWrong)

/-- 'laws.FnExactRangeOk': WHATEVER THE INPUT: true; the input reads as it did. -/
def fnExactRangeOkSpec : ChangeSpec := { name := "fnExactRangeOk", fn := fun _ => fun
  | [d] => { results := [.lit (.bool true)], args := [d] }
  | _ => none }
def fnExactRangeOkRow : OpenClaim := { program := "ytjkmefkgagfcaaa", sum := "6064aea700fcad4bf15f6de238d4acc7d8548c2e33938e4730b959677dffe6d7", func := "loop.example/sedge/laws.FnExactRangeOk", spec := "fnExactRangeOk", apart := false }
def FnExactRangeOkSaid : Prop := fnExactRangeOkRow.holds Try.pinned (OpenSpec.ofChange fnExactRangeOkSpec)

/-- ITS FALSE NEIGHBOUR: 'it returns false'. Refute it at one input. -/
def fnExactRangeOkWrong : ChangeSpec := { name := "fnExactRangeOk", fn := fun _ => fun
  | [d] => { results := [.lit (.bool false)], args := [d] }
  | _ => none }
def FnExactRangeOkWrongFalsely : Prop := fnExactRangeOkRow.holds Try.pinned (OpenSpec.ofChange fnExactRangeOkWrong)

/-- 'laws.FnExactRangeHas': WHATEVER THE INPUT: true; the input reads as it did. -/
def fnExactRangeHasSpec : ChangeSpec := { name := "fnExactRangeHas", fn := fun _ => fun
  | [d1, d2] => { results := [.lit (.bool true)], args := [d1, d2] }
  | _ => none }
def fnExactRangeHasRow : OpenClaim := { program := "ytjkmefkgagfcaaa", sum := "6064aea700fcad4bf15f6de238d4acc7d8548c2e33938e4730b959677dffe6d7", func := "loop.example/sedge/laws.FnExactRangeHas", spec := "fnExactRangeHas", apart := false }
def FnExactRangeHasSaid : Prop := fnExactRangeHasRow.holds Try.pinned (OpenSpec.ofChange fnExactRangeHasSpec)

/-- ITS FALSE NEIGHBOUR: 'it returns false'. Refute it at one input. -/
def fnExactRangeHasWrong : ChangeSpec := { name := "fnExactRangeHas", fn := fun _ => fun
  | [d1, d2] => { results := [.lit (.bool false)], args := [d1, d2] }
  | _ => none }
def FnExactRangeHasWrongFalsely : Prop := fnExactRangeHasRow.holds Try.pinned (OpenSpec.ofChange fnExactRangeHasWrong)

/-- 'laws.FnExactRangeIn': WHATEVER THE INPUT: true; the input reads as it did. -/
def fnExactRangeInSpec : ChangeSpec := { name := "fnExactRangeIn", fn := fun _ => fun
  | [d1, d2] => { results := [.lit (.bool true)], args := [d1, d2] }
  | _ => none }
def fnExactRangeInRow : OpenClaim := { program := "ytjkmefkgagfcaaa", sum := "6064aea700fcad4bf15f6de238d4acc7d8548c2e33938e4730b959677dffe6d7", func := "loop.example/sedge/laws.FnExactRangeIn", spec := "fnExactRangeIn", apart := false }
def FnExactRangeInSaid : Prop := fnExactRangeInRow.holds Try.pinned (OpenSpec.ofChange fnExactRangeInSpec)

/-- ITS FALSE NEIGHBOUR: 'it returns false'. Refute it at one input. -/
def fnExactRangeInWrong : ChangeSpec := { name := "fnExactRangeIn", fn := fun _ => fun
  | [d1, d2] => { results := [.lit (.bool false)], args := [d1, d2] }
  | _ => none }
def FnExactRangeInWrongFalsely : Prop := fnExactRangeInRow.holds Try.pinned (OpenSpec.ofChange fnExactRangeInWrong)

/- THE SECOND FORM. 'bulk': how many values and letters a reading holds, each counted each time it is reached (what is shared counts as often as it is met; a slice's spare places count too). A statement '..UptoSaid' is the law's where the arguments, and the package variables that the reading takes, are together of bulk at most 1048576: NARROWER than '..Said'. Prove '..Said' where nothing that the law and all that it calls make is longer than what came in: it says more and counts as full. Else prove '..UptoSaid'. A law counts once. -/
mutual
def uptoBulk {H : Type} : DataW H → Nat
  | .lit (.string bytes) => bytes.length + 1
  | .lit _ => 1
  | .nil => 1
  | .ptr d => uptoBulk d + 1
  | .slice elems spare => uptoBulkAll elems + uptoBulkAll spare + 1
  | .agg parts => uptoBulkAll parts + 1
  | .iface _ d => uptoBulk d + 1
  | .map entries => uptoBulkEntries entries + 1
  | .held _ => 1
def uptoBulkAll {H : Type} : List (DataW H) → Nat
  | [] => 0
  | d :: r => uptoBulk d + uptoBulkAll r
def uptoBulkEntries {H : Type} : List (Lit × DataW H) → Nat
  | [] => 0
  | x :: r => uptoBulkEntry x + uptoBulkEntries r
def uptoBulkEntry {H : Type} : Lit × DataW H → Nat
  | (.string bytes, d) => bytes.length + uptoBulk d + 1
  | (_, d) => uptoBulk d + 1
 end
def uptoSmall : (H : Type) → List (DataW H) → Bool := fun _ ds => decide (uptoBulkAll ds ≤ 1048576)
def OpenSpec.upto (s : _root_.Go.ChangeSpec) : _root_.Go.OpenSpec := { _root_.Go.OpenSpec.ofChange s with cond := some uptoSmall }

/-- 'laws.FnExactConstants', WHERE WHAT IT READS IS OF BULK AT MOST 1048576: true; the input reads as it did. -/
def fnExactConstantsUptoRow : OpenClaim := { program := "ytjkmefkgagfcaaa", sum := "6064aea700fcad4bf15f6de238d4acc7d8548c2e33938e4730b959677dffe6d7", func := "loop.example/sedge/laws.FnExactConstants", spec := "fnExactConstants", apart := false, narrowed := true }
def FnExactConstantsUptoSaid : Prop := fnExactConstantsUptoRow.holds Try.pinned (OpenSpec.upto fnExactConstantsSpec)

/-- 'laws.FnExactNumOk', WHERE WHAT IT READS IS OF BULK AT MOST 1048576: true; the input reads as it did. -/
def fnExactNumOkUptoRow : OpenClaim := { program := "ytjkmefkgagfcaaa", sum := "6064aea700fcad4bf15f6de238d4acc7d8548c2e33938e4730b959677dffe6d7", func := "loop.example/sedge/laws.FnExactNumOk", spec := "fnExactNumOk", apart := false, narrowed := true }
def FnExactNumOkUptoSaid : Prop := fnExactNumOkUptoRow.holds Try.pinned (OpenSpec.upto fnExactNumOkSpec)

/-- 'laws.FnExactNumWrap', WHERE WHAT IT READS IS OF BULK AT MOST 1048576: true; the input reads as it did. -/
def fnExactNumWrapUptoRow : OpenClaim := { program := "ytjkmefkgagfcaaa", sum := "6064aea700fcad4bf15f6de238d4acc7d8548c2e33938e4730b959677dffe6d7", func := "loop.example/sedge/laws.FnExactNumWrap", spec := "fnExactNumWrap", apart := false, narrowed := true }
def FnExactNumWrapUptoSaid : Prop := fnExactNumWrapUptoRow.holds Try.pinned (OpenSpec.upto fnExactNumWrapSpec)

/-- 'laws.FnExactCmpTurn', WHERE WHAT IT READS IS OF BULK AT MOST 1048576: true; the input reads as it did. -/
def fnExactCmpTurnUptoRow : OpenClaim := { program := "ytjkmefkgagfcaaa", sum := "6064aea700fcad4bf15f6de238d4acc7d8548c2e33938e4730b959677dffe6d7", func := "loop.example/sedge/laws.FnExactCmpTurn", spec := "fnExactCmpTurn", apart := false, narrowed := true }
def FnExactCmpTurnUptoSaid : Prop := fnExactCmpTurnUptoRow.holds Try.pinned (OpenSpec.upto fnExactCmpTurnSpec)

/-- 'laws.FnExactNumCmp', WHERE WHAT IT READS IS OF BULK AT MOST 1048576: true; the input reads as it did. -/
def fnExactNumCmpUptoRow : OpenClaim := { program := "ytjkmefkgagfcaaa", sum := "6064aea700fcad4bf15f6de238d4acc7d8548c2e33938e4730b959677dffe6d7", func := "loop.example/sedge/laws.FnExactNumCmp", spec := "fnExactNumCmp", apart := false, narrowed := true }
def FnExactNumCmpUptoSaid : Prop := fnExactNumCmpUptoRow.holds Try.pinned (OpenSpec.upto fnExactNumCmpSpec)

/-- 'laws.FnExactCmpNot', WHERE WHAT IT READS IS OF BULK AT MOST 1048576: true; the input reads as it did. -/
def fnExactCmpNotUptoRow : OpenClaim := { program := "ytjkmefkgagfcaaa", sum := "6064aea700fcad4bf15f6de238d4acc7d8548c2e33938e4730b959677dffe6d7", func := "loop.example/sedge/laws.FnExactCmpNot", spec := "fnExactCmpNot", apart := false, narrowed := true }
def FnExactCmpNotUptoSaid : Prop := fnExactCmpNotUptoRow.holds Try.pinned (OpenSpec.upto fnExactCmpNotSpec)

/-- 'laws.FnNumCmp', WHERE WHAT IT READS IS OF BULK AT MOST 1048576: true; the input reads as it did. -/
def fnNumCmpUptoRow : OpenClaim := { program := "ytjkmefkgagfcaaa", sum := "6064aea700fcad4bf15f6de238d4acc7d8548c2e33938e4730b959677dffe6d7", func := "loop.example/sedge/laws.FnNumCmp", spec := "fnNumCmp", apart := false, narrowed := true }
def FnNumCmpUptoSaid : Prop := fnNumCmpUptoRow.holds Try.pinned (OpenSpec.upto fnNumCmpSpec)

/-- 'laws.FnNumBits', WHERE WHAT IT READS IS OF BULK AT MOST 1048576: true; the input reads as it did. -/
def fnNumBitsUptoRow : OpenClaim := { program := "ytjkmefkgagfcaaa", sum := "6064aea700fcad4bf15f6de238d4acc7d8548c2e33938e4730b959677dffe6d7", func := "loop.example/sedge/laws.FnNumBits", spec := "fnNumBits", apart := false, narrowed := true }
def FnNumBitsUptoSaid : Prop := fnNumBitsUptoRow.holds Try.pinned (OpenSpec.upto fnNumBitsSpec)

/-- 'laws.FnNumDo', WHERE WHAT IT READS IS OF BULK AT MOST 1048576: true; the input reads as it did. -/
def fnNumDoUptoRow : OpenClaim := { program := "ytjkmefkgagfcaaa", sum := "6064aea700fcad4bf15f6de238d4acc7d8548c2e33938e4730b959677dffe6d7", func := "loop.example/sedge/laws.FnNumDo", spec := "fnNumDo", apart := false, narrowed := true }
def FnNumDoUptoSaid : Prop := fnNumDoUptoRow.holds Try.pinned (OpenSpec.upto fnNumDoSpec)

/-- 'laws.FnExactRangeOk', WHERE WHAT IT READS IS OF BULK AT MOST 1048576: true; the input reads as it did. -/
def fnExactRangeOkUptoRow : OpenClaim := { program := "ytjkmefkgagfcaaa", sum := "6064aea700fcad4bf15f6de238d4acc7d8548c2e33938e4730b959677dffe6d7", func := "loop.example/sedge/laws.FnExactRangeOk", spec := "fnExactRangeOk", apart := false, narrowed := true }
def FnExactRangeOkUptoSaid : Prop := fnExactRangeOkUptoRow.holds Try.pinned (OpenSpec.upto fnExactRangeOkSpec)

/-- 'laws.FnExactRangeHas', WHERE WHAT IT READS IS OF BULK AT MOST 1048576: true; the input reads as it did. -/
def fnExactRangeHasUptoRow : OpenClaim := { program := "ytjkmefkgagfcaaa", sum := "6064aea700fcad4bf15f6de238d4acc7d8548c2e33938e4730b959677dffe6d7", func := "loop.example/sedge/laws.FnExactRangeHas", spec := "fnExactRangeHas", apart := false, narrowed := true }
def FnExactRangeHasUptoSaid : Prop := fnExactRangeHasUptoRow.holds Try.pinned (OpenSpec.upto fnExactRangeHasSpec)

/-- 'laws.FnExactRangeIn', WHERE WHAT IT READS IS OF BULK AT MOST 1048576: true; the input reads as it did. -/
def fnExactRangeInUptoRow : OpenClaim := { program := "ytjkmefkgagfcaaa", sum := "6064aea700fcad4bf15f6de238d4acc7d8548c2e33938e4730b959677dffe6d7", func := "loop.example/sedge/laws.FnExactRangeIn", spec := "fnExactRangeIn", apart := false, narrowed := true }
def FnExactRangeInUptoSaid : Prop := fnExactRangeInUptoRow.holds Try.pinned (OpenSpec.upto fnExactRangeInSpec)

end Rows
end Go.Proofs.Ytjkmefkgagfcaaa
