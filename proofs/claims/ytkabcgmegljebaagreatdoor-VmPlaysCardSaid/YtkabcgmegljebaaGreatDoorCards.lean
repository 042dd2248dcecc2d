/-
  DERIVED. GIVEN WITH THE SEED: THE CARDS: each row of YtkabcgmegljebaaGreatDoorRows.lean that lists a variable, with what it lists TIED to the program's text (the seventh form; the later family's looks); each row that meets fmt, with fmt's text TOLD by the authors' own Lean function (tested against real Go, not proved from fmt's source: count such statements apart). THE CARD IS WHAT COUNTS. Prove the row's statement (the work); the ties are given (YtkabcgmegljebaaGreatDoorTie.lean); close each card by the builder's one call (the guide's Derived/Test/ToyasCard.lean, 'card_holds'). Laid BY PROGRAM, IN A SANDBOX (cutbox-door.mjs). By AI agents, Wed Nov 11 2026. No macro, syntax, notation, axiom, sorry.
-/
import Derived.Test.YtkabcgmegljebaaGreatDoorRows
import GoSem.ClaimSeven
namespace Go.Proofs.YtkabcgmegljebaaGreatDoor
namespace Rows

/-- THE TIED CARD OF 'tenorlaw19.VmRuns'. -/
def vmRunsCard : Claim7 := { stood := { row := vmRunsRow, standIns := [], harness := (true, "ae20e7a9fdd1ea84fde4133d566fbb64c0989a09a6ec964e7a3a5a3b7e29102b"), looks := false }, kinds := [], alts := [], laidByText := true, laidKinds := [.widerDeep], laidTests := true, laidLooks := .later }
def VmRunsCardSaid : Prop := Claim7.holds Tryz.pinned (.plain (OpenSpec.ofChange vmRunsSpec)) vmRunsCard

/-- THE TIED CARD OF 'tenorlaw19.VmLent'. -/
def vmLentCard : Claim7 := { stood := { row := vmLentRow, standIns := [], harness := (true, "ae20e7a9fdd1ea84fde4133d566fbb64c0989a09a6ec964e7a3a5a3b7e29102b"), looks := false }, kinds := [], alts := [], laidByText := true, laidKinds := [.widerDeep], laidTests := true, laidLooks := .later }
def VmLentCardSaid : Prop := Claim7.holds Tryz.pinned (.plain (OpenSpec.ofChange vmLentSpec)) vmLentCard

/-- THE TIED CARD OF 'tenorlaw19.VmPlays'. -/
def vmPlaysCard : Claim7 := { stood := { row := vmPlaysRow, standIns := [], harness := (true, "ae20e7a9fdd1ea84fde4133d566fbb64c0989a09a6ec964e7a3a5a3b7e29102b"), looks := false }, kinds := [], alts := [], laidByText := true, laidKinds := [.widerDeep], laidTests := true, laidLooks := .later }
def VmPlaysCardSaid : Prop := Claim7.holds Tryz.pinned (.plain (OpenSpec.ofChange vmPlaysSpec)) vmPlaysCard

/-- THE TIED CARD OF 'tenorlaw19.VmCuts'. -/
def vmCutsCard : Claim7 := { stood := { row := vmCutsRow, standIns := [], harness := (true, "ae20e7a9fdd1ea84fde4133d566fbb64c0989a09a6ec964e7a3a5a3b7e29102b"), looks := false }, kinds := [], alts := [], laidByText := true, laidKinds := [.widerDeep], laidTests := true, laidLooks := .later }
def VmCutsCardSaid : Prop := Claim7.holds Tryz.pinned (.plain (OpenSpec.ofChange vmCutsSpec)) vmCutsCard

/-- THE TIED CARD OF 'tenorlaw19.VmTrims'. -/
def vmTrimsCard : Claim7 := { stood := { row := vmTrimsRow, standIns := [], harness := (true, "ae20e7a9fdd1ea84fde4133d566fbb64c0989a09a6ec964e7a3a5a3b7e29102b"), looks := false }, kinds := [], alts := [], laidByText := true, laidKinds := [.widerDeep], laidTests := true, laidLooks := .later }
def VmTrimsCardSaid : Prop := Claim7.holds Tryz.pinned (.plain (OpenSpec.ofChange vmTrimsSpec)) vmTrimsCard

/-- THE TIED CARD OF 'tenorlaw19.VmDeals'. -/
def vmDealsCard : Claim7 := { stood := { row := vmDealsRow, standIns := [], harness := (true, "ae20e7a9fdd1ea84fde4133d566fbb64c0989a09a6ec964e7a3a5a3b7e29102b"), looks := false }, kinds := [], alts := [], laidByText := true, laidKinds := [.widerDeep], laidTests := true, laidLooks := .later }
def VmDealsCardSaid : Prop := Claim7.holds Tryz.pinned (.plain (OpenSpec.ofChange vmDealsSpec)) vmDealsCard

/-- THE SECOND FORM's CARD OF 'tenorlaw19.VmRuns'. -/
def vmRunsUptoCard : Claim7 := { stood := { row := vmRunsUptoRow, standIns := [], harness := (true, "ae20e7a9fdd1ea84fde4133d566fbb64c0989a09a6ec964e7a3a5a3b7e29102b"), looks := false }, kinds := [], alts := [], laidByText := true, laidKinds := [.widerDeep], laidTests := true, laidLooks := .later }
def VmRunsUptoCardSaid : Prop := Claim7.holds Tryz.pinned (.plain (OpenSpec.upto vmRunsSpec)) vmRunsUptoCard

/-- THE SECOND FORM's CARD OF 'tenorlaw19.VmLent'. -/
def vmLentUptoCard : Claim7 := { stood := { row := vmLentUptoRow, standIns := [], harness := (true, "ae20e7a9fdd1ea84fde4133d566fbb64c0989a09a6ec964e7a3a5a3b7e29102b"), looks := false }, kinds := [], alts := [], laidByText := true, laidKinds := [.widerDeep], laidTests := true, laidLooks := .later }
def VmLentUptoCardSaid : Prop := Claim7.holds Tryz.pinned (.plain (OpenSpec.upto vmLentSpec)) vmLentUptoCard

/-- THE SECOND FORM's CARD OF 'tenorlaw19.VmPlays'. -/
def vmPlaysUptoCard : Claim7 := { stood := { row := vmPlaysUptoRow, standIns := [], harness := (true, "ae20e7a9fdd1ea84fde4133d566fbb64c0989a09a6ec964e7a3a5a3b7e29102b"), looks := false }, kinds := [], alts := [], laidByText := true, laidKinds := [.widerDeep], laidTests := true, laidLooks := .later }
def VmPlaysUptoCardSaid : Prop := Claim7.holds Tryz.pinned (.plain (OpenSpec.upto vmPlaysSpec)) vmPlaysUptoCard

/-- THE SECOND FORM's CARD OF 'tenorlaw19.VmCuts'. -/
def vmCutsUptoCard : Claim7 := { stood := { row := vmCutsUptoRow, standIns := [], harness := (true, "ae20e7a9fdd1ea84fde4133d566fbb64c0989a09a6ec964e7a3a5a3b7e29102b"), looks := false }, kinds := [], alts := [], laidByText := true, laidKinds := [.widerDeep], laidTests := true, laidLooks := .later }
def VmCutsUptoCardSaid : Prop := Claim7.holds Tryz.pinned (.plain (OpenSpec.upto vmCutsSpec)) vmCutsUptoCard

/-- THE SECOND FORM's CARD OF 'tenorlaw19.VmTrims'. -/
def vmTrimsUptoCard : Claim7 := { stood := { row := vmTrimsUptoRow, standIns := [], harness := (true, "ae20e7a9fdd1ea84fde4133d566fbb64c0989a09a6ec964e7a3a5a3b7e29102b"), looks := false }, kinds := [], alts := [], laidByText := true, laidKinds := [.widerDeep], laidTests := true, laidLooks := .later }
def VmTrimsUptoCardSaid : Prop := Claim7.holds Tryz.pinned (.plain (OpenSpec.upto vmTrimsSpec)) vmTrimsUptoCard

/-- THE SECOND FORM's CARD OF 'tenorlaw19.VmDeals'. -/
def vmDealsUptoCard : Claim7 := { stood := { row := vmDealsUptoRow, standIns := [], harness := (true, "ae20e7a9fdd1ea84fde4133d566fbb64c0989a09a6ec964e7a3a5a3b7e29102b"), looks := false }, kinds := [], alts := [], laidByText := true, laidKinds := [.widerDeep], laidTests := true, laidLooks := .later }
def VmDealsUptoCardSaid : Prop := Claim7.holds Tryz.pinned (.plain (OpenSpec.upto vmDealsSpec)) vmDealsUptoCard
end Rows
end Go.Proofs.YtkabcgmegljebaaGreatDoor
