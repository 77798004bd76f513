/-
  DERIVED. GIVEN WITH THE SEED: THE CARDS: each row of YtnbpgnkplahknaaDoorRows.lean that lists a variable, with what it lists TIED to the program's text (the seventh form; the later family's looks); each row that meets fmt, with fmt's text TOLD by the authors' own Lean function (tested against real Go, not proved from fmt's source: count such statements apart). THE CARD IS WHAT COUNTS. Prove the row's statement (the work); the ties are given (YtnbpgnkplahknaaDoorTie.lean); close each card by the builder's one call (the guide's Derived/Test/ToyasCard.lean, 'card_holds'). Laid BY PROGRAM, IN A SANDBOX (cutbox-door.mjs). By AI agents, Wed Nov 11 2026. No macro, syntax, notation, axiom, sorry.
-/
import Derived.Test.YtnbpgnkplahknaaDoorRows
import GoSem.ClaimSeven
namespace Go.Proofs.YtnbpgnkplahknaaDoor
namespace Rows

/-- THE TIED CARD OF 'laws.FnExactSignAt'. -/
def fnExactSignAtCard : Claim7 := { stood := { row := fnExactSignAtRow, standIns := [], harness := (true, "01e77b8f5adf450592ce163fca760ba18852e1ebbcd2c1ec7aa46a6b68f93540"), looks := true }, kinds := [], alts := [], laidByText := true, laidKinds := [.data], laidTests := true, laidLooks := .later }
def FnExactSignAtCardSaid : Prop := Claim7.holds Tryd.pinned (.plain (OpenSpec.ofChange fnExactSignAtSpec)) fnExactSignAtCard

/-- THE TIED CARD OF 'laws.FnExactLexTokens'. -/
def fnExactLexTokensCard : Claim7 := { stood := { row := fnExactLexTokensRow, standIns := [], harness := (true, "01e77b8f5adf450592ce163fca760ba18852e1ebbcd2c1ec7aa46a6b68f93540"), looks := true }, kinds := [], alts := [], laidByText := true, laidKinds := [.data, .data, .data, .sentinel, .sentinel, .data], laidTests := true, laidLooks := .later }
def FnExactLexTokensCardSaid : Prop := Claim7.holds Tryd.pinned (.plain (OpenSpec.ofChange fnExactLexTokensSpec)) fnExactLexTokensCard

/-- THE TIED CARD OF 'laws.FnExactLexJoin'. -/
def fnExactLexJoinCard : Claim7 := { stood := { row := fnExactLexJoinRow, standIns := [], harness := (true, "01e77b8f5adf450592ce163fca760ba18852e1ebbcd2c1ec7aa46a6b68f93540"), looks := true }, kinds := [], alts := [], laidByText := true, laidKinds := [.data, .data, .data, .sentinel, .sentinel, .data], laidTests := true, laidLooks := .later }
def FnExactLexJoinCardSaid : Prop := Claim7.holds Tryd.pinned (.plain (OpenSpec.ofChange fnExactLexJoinSpec)) fnExactLexJoinCard

/-- THE TIED CARD OF 'laws.FnLexBack'. -/
def fnLexBackCard : Claim7 := { stood := { row := fnLexBackRow, standIns := [], harness := (true, "01e77b8f5adf450592ce163fca760ba18852e1ebbcd2c1ec7aa46a6b68f93540"), looks := true }, kinds := [], alts := [], laidByText := true, laidKinds := [.data, .data, .data, .sentinel, .sentinel, .data], laidTests := true, laidLooks := .later }
def FnLexBackCardSaid : Prop := Claim7.holds Tryd.pinned (.plain (OpenSpec.ofChange fnLexBackSpec)) fnLexBackCard

/-- THE TIED CARD OF 'laws.FnLexPlaces'. -/
def fnLexPlacesCard : Claim7 := { stood := { row := fnLexPlacesRow, standIns := [], harness := (true, "01e77b8f5adf450592ce163fca760ba18852e1ebbcd2c1ec7aa46a6b68f93540"), looks := true }, kinds := [], alts := [], laidByText := true, laidKinds := [.data, .data, .data, .sentinel, .sentinel, .data], laidTests := true, laidLooks := .later }
def FnLexPlacesCardSaid : Prop := Claim7.holds Tryd.pinned (.plain (OpenSpec.ofChange fnLexPlacesSpec)) fnLexPlacesCard

/-- THE SECOND FORM's CARD OF 'laws.FnExactSignAt'. -/
def fnExactSignAtUptoCard : Claim7 := { stood := { row := fnExactSignAtUptoRow, standIns := [], harness := (true, "01e77b8f5adf450592ce163fca760ba18852e1ebbcd2c1ec7aa46a6b68f93540"), looks := true }, kinds := [], alts := [], laidByText := true, laidKinds := [.data], laidTests := true, laidLooks := .later }
def FnExactSignAtUptoCardSaid : Prop := Claim7.holds Tryd.pinned (.plain (OpenSpec.upto fnExactSignAtSpec)) fnExactSignAtUptoCard

/-- THE SECOND FORM's CARD OF 'laws.FnExactLexTokens'. -/
def fnExactLexTokensUptoCard : Claim7 := { stood := { row := fnExactLexTokensUptoRow, standIns := [], harness := (true, "01e77b8f5adf450592ce163fca760ba18852e1ebbcd2c1ec7aa46a6b68f93540"), looks := true }, kinds := [], alts := [], laidByText := true, laidKinds := [.data, .data, .data, .sentinel, .sentinel, .data], laidTests := true, laidLooks := .later }
def FnExactLexTokensUptoCardSaid : Prop := Claim7.holds Tryd.pinned (.plain (OpenSpec.upto fnExactLexTokensSpec)) fnExactLexTokensUptoCard

/-- THE SECOND FORM's CARD OF 'laws.FnExactLexJoin'. -/
def fnExactLexJoinUptoCard : Claim7 := { stood := { row := fnExactLexJoinUptoRow, standIns := [], harness := (true, "01e77b8f5adf450592ce163fca760ba18852e1ebbcd2c1ec7aa46a6b68f93540"), looks := true }, kinds := [], alts := [], laidByText := true, laidKinds := [.data, .data, .data, .sentinel, .sentinel, .data], laidTests := true, laidLooks := .later }
def FnExactLexJoinUptoCardSaid : Prop := Claim7.holds Tryd.pinned (.plain (OpenSpec.upto fnExactLexJoinSpec)) fnExactLexJoinUptoCard

/-- THE SECOND FORM's CARD OF 'laws.FnLexBack'. -/
def fnLexBackUptoCard : Claim7 := { stood := { row := fnLexBackUptoRow, standIns := [], harness := (true, "01e77b8f5adf450592ce163fca760ba18852e1ebbcd2c1ec7aa46a6b68f93540"), looks := true }, kinds := [], alts := [], laidByText := true, laidKinds := [.data, .data, .data, .sentinel, .sentinel, .data], laidTests := true, laidLooks := .later }
def FnLexBackUptoCardSaid : Prop := Claim7.holds Tryd.pinned (.plain (OpenSpec.upto fnLexBackSpec)) fnLexBackUptoCard

/-- THE SECOND FORM's CARD OF 'laws.FnLexPlaces'. -/
def fnLexPlacesUptoCard : Claim7 := { stood := { row := fnLexPlacesUptoRow, standIns := [], harness := (true, "01e77b8f5adf450592ce163fca760ba18852e1ebbcd2c1ec7aa46a6b68f93540"), looks := true }, kinds := [], alts := [], laidByText := true, laidKinds := [.data, .data, .data, .sentinel, .sentinel, .data], laidTests := true, laidLooks := .later }
def FnLexPlacesUptoCardSaid : Prop := Claim7.holds Tryd.pinned (.plain (OpenSpec.upto fnLexPlacesSpec)) fnLexPlacesUptoCard
end Rows
end Go.Proofs.YtnbpgnkplahknaaDoor
