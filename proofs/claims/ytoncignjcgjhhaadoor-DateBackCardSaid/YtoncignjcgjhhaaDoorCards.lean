/-
  DERIVED. GIVEN WITH THE SEED: THE CARDS: each row of YtoncignjcgjhhaaDoorRows.lean that lists a variable, with what it lists TIED to the program's text (the seventh form; the later family's looks); each row that meets fmt, with fmt's text TOLD by the authors' own Lean function (tested against real Go, not proved from fmt's source: count such statements apart). THE CARD IS WHAT COUNTS. Prove the row's statement (the work); the ties are given (YtoncignjcgjhhaaDoorTie.lean); close each card by the builder's one call (the guide's Derived/Test/ToyasCard.lean, 'card_holds'). Laid BY PROGRAM, IN A SANDBOX (cutbox-door.mjs). By AI agents, Wed Nov 11 2026. No macro, syntax, notation, axiom, sorry.
-/
import Derived.Test.YtoncignjcgjhhaaDoorRows
import GoSem.ClaimSeven
namespace Go.Proofs.YtoncignjcgjhhaaDoor
namespace Rows

/-- THE TIED CARD OF 'tenorlaw5.DateNamed'. -/
def dateNamedCard : Claim7 := { stood := { row := dateNamedRow, standIns := [], harness := (true, "9b90702b2593c5b92d7366f198ea2153bd70fda9869e501bc49150307087770f"), looks := true }, kinds := [], alts := [], laidByText := true, laidKinds := [.data, .data, .data, .sentinel, .sentinel], laidTests := true, laidLooks := .later }
def DateNamedCardSaid : Prop := Claim7.holds Tryd.pinned (.plain (OpenSpec.ofChange dateNamedSpec)) dateNamedCard

/-- THE TIED CARD OF 'tenorlaw5.DateTexts'. -/
def dateTextsCard : Claim7 := { stood := { row := dateTextsRow, standIns := [], harness := (true, "9b90702b2593c5b92d7366f198ea2153bd70fda9869e501bc49150307087770f"), looks := true }, kinds := [], alts := [], laidByText := true, laidKinds := [.data, .data, .data, .sentinel, .sentinel], laidTests := true, laidLooks := .later }
def DateTextsCardSaid : Prop := Claim7.holds Tryd.pinned (.plain (OpenSpec.ofChange dateTextsSpec)) dateTextsCard

/-- THE TIED CARD OF 'tenorlaw5.DateCivil'. -/
def dateCivilCard : Claim7 := { stood := { row := dateCivilRow, standIns := [], harness := (true, "9b90702b2593c5b92d7366f198ea2153bd70fda9869e501bc49150307087770f"), looks := true }, kinds := [], alts := [], laidByText := true, laidKinds := [.data, .data, .data, .sentinel, .sentinel], laidTests := true, laidLooks := .later }
def DateCivilCardSaid : Prop := Claim7.holds Tryd.pinned (.plain (OpenSpec.ofChange dateCivilSpec)) dateCivilCard

/-- THE TIED CARD OF 'tenorlaw5.DateEaster'. -/
def dateEasterCard : Claim7 := { stood := { row := dateEasterRow, standIns := [], harness := (true, "9b90702b2593c5b92d7366f198ea2153bd70fda9869e501bc49150307087770f"), looks := true }, kinds := [], alts := [], laidByText := true, laidKinds := [.data, .data, .data, .sentinel, .sentinel], laidTests := true, laidLooks := .later }
def DateEasterCardSaid : Prop := Claim7.holds Tryd.pinned (.plain (OpenSpec.ofChange dateEasterSpec)) dateEasterCard

/-- THE TIED CARD OF 'tenorlaw5.DateMonths'. -/
def dateMonthsCard : Claim7 := { stood := { row := dateMonthsRow, standIns := [], harness := (true, "9b90702b2593c5b92d7366f198ea2153bd70fda9869e501bc49150307087770f"), looks := true }, kinds := [], alts := [], laidByText := true, laidKinds := [.data, .data, .data, .sentinel, .sentinel], laidTests := true, laidLooks := .later }
def DateMonthsCardSaid : Prop := Claim7.holds Tryd.pinned (.plain (OpenSpec.ofChange dateMonthsSpec)) dateMonthsCard

/-- THE TIED CARD OF 'tenorlaw5.DateBack'. -/
def dateBackCard : Claim7 := { stood := { row := dateBackRow, standIns := [], harness := (true, "9b90702b2593c5b92d7366f198ea2153bd70fda9869e501bc49150307087770f"), looks := true }, kinds := [], alts := [], laidByText := true, laidKinds := [.data, .data, .data, .sentinel, .sentinel], laidTests := true, laidLooks := .later }
def DateBackCardSaid : Prop := Claim7.holds Tryd.pinned (.plain (OpenSpec.ofChange dateBackSpec)) dateBackCard

/-- THE TIED CARD OF 'tenorlaw5.DateMoves'. -/
def dateMovesCard : Claim7 := { stood := { row := dateMovesRow, standIns := [], harness := (true, "9b90702b2593c5b92d7366f198ea2153bd70fda9869e501bc49150307087770f"), looks := true }, kinds := [], alts := [], laidByText := true, laidKinds := [.data, .data, .data, .sentinel, .sentinel], laidTests := true, laidLooks := .later }
def DateMovesCardSaid : Prop := Claim7.holds Tryd.pinned (.plain (OpenSpec.ofChange dateMovesSpec)) dateMovesCard

/-- THE SECOND FORM's CARD OF 'tenorlaw5.DateNamed'. -/
def dateNamedUptoCard : Claim7 := { stood := { row := dateNamedUptoRow, standIns := [], harness := (true, "9b90702b2593c5b92d7366f198ea2153bd70fda9869e501bc49150307087770f"), looks := true }, kinds := [], alts := [], laidByText := true, laidKinds := [.data, .data, .data, .sentinel, .sentinel], laidTests := true, laidLooks := .later }
def DateNamedUptoCardSaid : Prop := Claim7.holds Tryd.pinned (.plain (OpenSpec.upto dateNamedSpec)) dateNamedUptoCard

/-- THE SECOND FORM's CARD OF 'tenorlaw5.DateTexts'. -/
def dateTextsUptoCard : Claim7 := { stood := { row := dateTextsUptoRow, standIns := [], harness := (true, "9b90702b2593c5b92d7366f198ea2153bd70fda9869e501bc49150307087770f"), looks := true }, kinds := [], alts := [], laidByText := true, laidKinds := [.data, .data, .data, .sentinel, .sentinel], laidTests := true, laidLooks := .later }
def DateTextsUptoCardSaid : Prop := Claim7.holds Tryd.pinned (.plain (OpenSpec.upto dateTextsSpec)) dateTextsUptoCard

/-- THE SECOND FORM's CARD OF 'tenorlaw5.DateCivil'. -/
def dateCivilUptoCard : Claim7 := { stood := { row := dateCivilUptoRow, standIns := [], harness := (true, "9b90702b2593c5b92d7366f198ea2153bd70fda9869e501bc49150307087770f"), looks := true }, kinds := [], alts := [], laidByText := true, laidKinds := [.data, .data, .data, .sentinel, .sentinel], laidTests := true, laidLooks := .later }
def DateCivilUptoCardSaid : Prop := Claim7.holds Tryd.pinned (.plain (OpenSpec.upto dateCivilSpec)) dateCivilUptoCard

/-- THE SECOND FORM's CARD OF 'tenorlaw5.DateEaster'. -/
def dateEasterUptoCard : Claim7 := { stood := { row := dateEasterUptoRow, standIns := [], harness := (true, "9b90702b2593c5b92d7366f198ea2153bd70fda9869e501bc49150307087770f"), looks := true }, kinds := [], alts := [], laidByText := true, laidKinds := [.data, .data, .data, .sentinel, .sentinel], laidTests := true, laidLooks := .later }
def DateEasterUptoCardSaid : Prop := Claim7.holds Tryd.pinned (.plain (OpenSpec.upto dateEasterSpec)) dateEasterUptoCard

/-- THE SECOND FORM's CARD OF 'tenorlaw5.DateMonths'. -/
def dateMonthsUptoCard : Claim7 := { stood := { row := dateMonthsUptoRow, standIns := [], harness := (true, "9b90702b2593c5b92d7366f198ea2153bd70fda9869e501bc49150307087770f"), looks := true }, kinds := [], alts := [], laidByText := true, laidKinds := [.data, .data, .data, .sentinel, .sentinel], laidTests := true, laidLooks := .later }
def DateMonthsUptoCardSaid : Prop := Claim7.holds Tryd.pinned (.plain (OpenSpec.upto dateMonthsSpec)) dateMonthsUptoCard

/-- THE SECOND FORM's CARD OF 'tenorlaw5.DateBack'. -/
def dateBackUptoCard : Claim7 := { stood := { row := dateBackUptoRow, standIns := [], harness := (true, "9b90702b2593c5b92d7366f198ea2153bd70fda9869e501bc49150307087770f"), looks := true }, kinds := [], alts := [], laidByText := true, laidKinds := [.data, .data, .data, .sentinel, .sentinel], laidTests := true, laidLooks := .later }
def DateBackUptoCardSaid : Prop := Claim7.holds Tryd.pinned (.plain (OpenSpec.upto dateBackSpec)) dateBackUptoCard

/-- THE SECOND FORM's CARD OF 'tenorlaw5.DateMoves'. -/
def dateMovesUptoCard : Claim7 := { stood := { row := dateMovesUptoRow, standIns := [], harness := (true, "9b90702b2593c5b92d7366f198ea2153bd70fda9869e501bc49150307087770f"), looks := true }, kinds := [], alts := [], laidByText := true, laidKinds := [.data, .data, .data, .sentinel, .sentinel], laidTests := true, laidLooks := .later }
def DateMovesUptoCardSaid : Prop := Claim7.holds Tryd.pinned (.plain (OpenSpec.upto dateMovesSpec)) dateMovesUptoCard
end Rows
end Go.Proofs.YtoncignjcgjhhaaDoor
