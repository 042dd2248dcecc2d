/-
  NARROWER THAN 'FOR EVERY INPUT', by the rows' own cells (each row's printed sentence says how): VmRuns: laid · VmLent: laid · VmPlays: laid · VmCuts: laid · VmTrims: laid · VmDeals: laid.
  DERIVED. THE GIVEN ROWS OF THIS SEAT. 6 by the template 'for every input the law returns true; each argument reads behind the call as it read before'; 0 by the template 'total and deterministic' (their statements: YtkabcgmegljebaaGreatDoorTotals.lean).
  GIVEN WITH THE SEED: the statements are not yours to turn. If you find one false, say at which input.
  Laid BY PROGRAM, IN A SANDBOX (cutbox-rows.mjs): the forced cells as the released guide's own fill.sh prints them over the translation 0c5d990e22eaeda9… (all of the seat's roots in one cut). By AI agents, Wed Nov 11 2026. No macro, syntax, notation, axiom, sorry.
-/
import Derived.Test.YtkabcgmegljebaaGreatDoorChecked
import GoSem.Claim
import GoSem.ClaimJoined
import GoSem.ClaimMapViews
import Derived.JoinedTies
import Derived.KernelRfl
namespace Go.Proofs.YtkabcgmegljebaaGreatDoor
/- THE CELL 'sum', in the pinned program and in every row, IS THE sha256 OF THE DUMP (.gsa) THAT YtkabcgmegljebaaGreatDoorProg.lean LOADS. Nothing in Lean hashes anything: it is a label: what it is worth is what the hold of that sum in a sandbox is worth. -/
noncomputable def Tryz.pinned : Pinned := { name := "ytkabcgmegljebaagreatdoor", sum := "0c5d990e22eaeda9cb9de09feaed81294067fcdb28d4f1551afafd92185f9738", checked := Tryz.checked }
namespace Rows
def none {H : Type} : Left H := { results := [], args := [] }

/- WHAT THE LISTED PACKAGE-LEVEL VARIABLES READ AS WHEN THE CALL BEGINS. Each datum BY PROGRAM (the guide's laid-datum.mjs) off the statement by which the dump's own 'gosem.cut.vars' lays the variable. In a bare row this is a premise. The card (YtkabcgmegljebaaGreatDoorCards.lean) ties it to the program's text. -/
def laid_tenor_code_kinds {H : Type} : DataW H := .slice [.lit (.int .i64 0), .lit (.int .i64 0), .lit (.int .i64 2), .lit (.int .i64 3), .lit (.int .i64 4), .lit (.int .i64 6), .lit (.int .i64 7), .lit (.int .i64 8)] []

/-- 'tenorlaw19.VmRuns': WHATEVER THE INPUT: true; the input reads as it did. -/
def vmRunsSpec : ChangeSpec := { name := "vmRuns", fn := fun _ => fun
  | [d] => { results := [.lit (.bool true)], args := [d] }
  | _ => none }
def vmRunsRow : OpenClaim := { program := "ytkabcgmegljebaagreatdoor", sum := "0c5d990e22eaeda9cb9de09feaed81294067fcdb28d4f1551afafd92185f9738", func := "tenor/tenorlaw19.VmRuns", spec := "vmRuns", inPlace := ["math.Float64bits"], unfollowed := true, recurses := true, named := ["tenor/code.kinds"], apart := false, laid := [("tenor/code.kinds", laid_tenor_code_kinds)] }
def VmRunsSaid : Prop := vmRunsRow.holds Tryz.pinned (OpenSpec.ofChange vmRunsSpec)

/-- ITS FALSE NEIGHBOUR: 'it returns false'. Refute it at one input. -/
def vmRunsWrong : ChangeSpec := { name := "vmRuns", fn := fun _ => fun
  | [d] => { results := [.lit (.bool false)], args := [d] }
  | _ => none }
def VmRunsWrongFalsely : Prop := vmRunsRow.holds Tryz.pinned (OpenSpec.ofChange vmRunsWrong)

/-- 'tenorlaw19.VmLent': WHATEVER THE INPUT: true; the input reads as it did. -/
def vmLentSpec : ChangeSpec := { name := "vmLent", fn := fun _ => fun
  | [d] => { results := [.lit (.bool true)], args := [d] }
  | _ => none }
def vmLentRow : OpenClaim := { program := "ytkabcgmegljebaagreatdoor", sum := "0c5d990e22eaeda9cb9de09feaed81294067fcdb28d4f1551afafd92185f9738", func := "tenor/tenorlaw19.VmLent", spec := "vmLent", inPlace := ["math.Float64bits"], unfollowed := true, recurses := true, named := ["tenor/code.kinds"], apart := false, laid := [("tenor/code.kinds", laid_tenor_code_kinds)] }
def VmLentSaid : Prop := vmLentRow.holds Tryz.pinned (OpenSpec.ofChange vmLentSpec)

/-- ITS FALSE NEIGHBOUR: 'it returns false'. Refute it at one input. -/
def vmLentWrong : ChangeSpec := { name := "vmLent", fn := fun _ => fun
  | [d] => { results := [.lit (.bool false)], args := [d] }
  | _ => none }
def VmLentWrongFalsely : Prop := vmLentRow.holds Tryz.pinned (OpenSpec.ofChange vmLentWrong)

/-- 'tenorlaw19.VmPlays': WHATEVER THE INPUT: true; the input reads as it did. -/
def vmPlaysSpec : ChangeSpec := { name := "vmPlays", fn := fun _ => fun
  | [d1, d2, d3] => { results := [.lit (.bool true)], args := [d1, d2, d3] }
  | _ => none }
def vmPlaysRow : OpenClaim := { program := "ytkabcgmegljebaagreatdoor", sum := "0c5d990e22eaeda9cb9de09feaed81294067fcdb28d4f1551afafd92185f9738", func := "tenor/tenorlaw19.VmPlays", spec := "vmPlays", inPlace := ["math.Float64bits"], unfollowed := true, recurses := true, named := ["tenor/code.kinds"], apart := false, laid := [("tenor/code.kinds", laid_tenor_code_kinds)] }
def VmPlaysSaid : Prop := vmPlaysRow.holds Tryz.pinned (OpenSpec.ofChange vmPlaysSpec)

/-- ITS FALSE NEIGHBOUR: 'it returns false'. Refute it at one input. -/
def vmPlaysWrong : ChangeSpec := { name := "vmPlays", fn := fun _ => fun
  | [d1, d2, d3] => { results := [.lit (.bool false)], args := [d1, d2, d3] }
  | _ => none }
def VmPlaysWrongFalsely : Prop := vmPlaysRow.holds Tryz.pinned (OpenSpec.ofChange vmPlaysWrong)

/-- 'tenorlaw19.VmCuts': WHATEVER THE INPUT: true; the input reads as it did. -/
def vmCutsSpec : ChangeSpec := { name := "vmCuts", fn := fun _ => fun
  | [d1, d2] => { results := [.lit (.bool true)], args := [d1, d2] }
  | _ => none }
def vmCutsRow : OpenClaim := { program := "ytkabcgmegljebaagreatdoor", sum := "0c5d990e22eaeda9cb9de09feaed81294067fcdb28d4f1551afafd92185f9738", func := "tenor/tenorlaw19.VmCuts", spec := "vmCuts", inPlace := ["math.Float64bits"], unfollowed := true, recurses := true, named := ["tenor/code.kinds"], apart := false, laid := [("tenor/code.kinds", laid_tenor_code_kinds)] }
def VmCutsSaid : Prop := vmCutsRow.holds Tryz.pinned (OpenSpec.ofChange vmCutsSpec)

/-- ITS FALSE NEIGHBOUR: 'it returns false'. Refute it at one input. -/
def vmCutsWrong : ChangeSpec := { name := "vmCuts", fn := fun _ => fun
  | [d1, d2] => { results := [.lit (.bool false)], args := [d1, d2] }
  | _ => none }
def VmCutsWrongFalsely : Prop := vmCutsRow.holds Tryz.pinned (OpenSpec.ofChange vmCutsWrong)

/-- 'tenorlaw19.VmTrims': WHATEVER THE INPUT: true; the input reads as it did. -/
def vmTrimsSpec : ChangeSpec := { name := "vmTrims", fn := fun _ => fun
  | [d] => { results := [.lit (.bool true)], args := [d] }
  | _ => none }
def vmTrimsRow : OpenClaim := { program := "ytkabcgmegljebaagreatdoor", sum := "0c5d990e22eaeda9cb9de09feaed81294067fcdb28d4f1551afafd92185f9738", func := "tenor/tenorlaw19.VmTrims", spec := "vmTrims", inPlace := ["math.Float64bits"], unfollowed := true, recurses := true, named := ["tenor/code.kinds"], apart := false, laid := [("tenor/code.kinds", laid_tenor_code_kinds)] }
def VmTrimsSaid : Prop := vmTrimsRow.holds Tryz.pinned (OpenSpec.ofChange vmTrimsSpec)

/-- ITS FALSE NEIGHBOUR: 'it returns false'. Refute it at one input. -/
def vmTrimsWrong : ChangeSpec := { name := "vmTrims", fn := fun _ => fun
  | [d] => { results := [.lit (.bool false)], args := [d] }
  | _ => none }
def VmTrimsWrongFalsely : Prop := vmTrimsRow.holds Tryz.pinned (OpenSpec.ofChange vmTrimsWrong)

/-- 'tenorlaw19.VmDeals': WHATEVER THE INPUT: true; the input reads as it did. -/
def vmDealsSpec : ChangeSpec := { name := "vmDeals", fn := fun _ => fun
  | [d] => { results := [.lit (.bool true)], args := [d] }
  | _ => none }
def vmDealsRow : OpenClaim := { program := "ytkabcgmegljebaagreatdoor", sum := "0c5d990e22eaeda9cb9de09feaed81294067fcdb28d4f1551afafd92185f9738", func := "tenor/tenorlaw19.VmDeals", spec := "vmDeals", inPlace := ["math.Float64bits"], unfollowed := true, recurses := true, named := ["tenor/code.kinds"], apart := false, laid := [("tenor/code.kinds", laid_tenor_code_kinds)] }
def VmDealsSaid : Prop := vmDealsRow.holds Tryz.pinned (OpenSpec.ofChange vmDealsSpec)

/-- ITS FALSE NEIGHBOUR: 'it returns false'. Refute it at one input. -/
def vmDealsWrong : ChangeSpec := { name := "vmDeals", fn := fun _ => fun
  | [d] => { results := [.lit (.bool false)], args := [d] }
  | _ => none }
def VmDealsWrongFalsely : Prop := vmDealsRow.holds Tryz.pinned (OpenSpec.ofChange vmDealsWrong)

/- THE SECOND FORM. 'bulk': how many values and letters a reading holds, each counted each time it is reached (what is shared counts as often as it is met; a slice's spare places count too). A statement '..UptoSaid' is the law's where the arguments, and the package variables that the reading takes, are together of bulk at most 1048576: NARROWER than '..Said'. Prove '..Said' where nothing that the law and all that it calls make is longer than what came in: it says more and counts as full. Else prove '..UptoSaid'. A law counts once. -/
mutual
def uptoBulk {H : Type} : DataW H → Nat
  | .lit (.string bytes) => bytes.length + 1
  | .lit _ => 1
  | .nil => 1
  | .ptr d => uptoBulk d + 1
  | .slice elems spare => uptoBulkAll elems + uptoBulkAll spare + 1
  | .agg parts => uptoBulkAll parts + 1
  | .iface _ d => uptoBulk d + 1
  | .map entries => uptoBulkEntries entries + 1
  | .held _ => 1
def uptoBulkAll {H : Type} : List (DataW H) → Nat
  | [] => 0
  | d :: r => uptoBulk d + uptoBulkAll r
def uptoBulkEntries {H : Type} : List (Lit × DataW H) → Nat
  | [] => 0
  | x :: r => uptoBulkEntry x + uptoBulkEntries r
def uptoBulkEntry {H : Type} : Lit × DataW H → Nat
  | (.string bytes, d) => bytes.length + uptoBulk d + 1
  | (_, d) => uptoBulk d + 1
 end
def uptoSmall : (H : Type) → List (DataW H) → Bool := fun _ ds => decide (uptoBulkAll ds ≤ 1048576)
def OpenSpec.upto (s : _root_.Go.ChangeSpec) : _root_.Go.OpenSpec := { _root_.Go.OpenSpec.ofChange s with cond := some uptoSmall }

/-- 'tenorlaw19.VmRuns', WHERE WHAT IT READS IS OF BULK AT MOST 1048576: true; the input reads as it did. -/
def vmRunsUptoRow : OpenClaim := { program := "ytkabcgmegljebaagreatdoor", sum := "0c5d990e22eaeda9cb9de09feaed81294067fcdb28d4f1551afafd92185f9738", func := "tenor/tenorlaw19.VmRuns", spec := "vmRuns", inPlace := ["math.Float64bits"], unfollowed := true, recurses := true, named := ["tenor/code.kinds"], apart := false, laid := [("tenor/code.kinds", laid_tenor_code_kinds)], narrowed := true }
def VmRunsUptoSaid : Prop := vmRunsUptoRow.holds Tryz.pinned (OpenSpec.upto vmRunsSpec)

/-- 'tenorlaw19.VmLent', WHERE WHAT IT READS IS OF BULK AT MOST 1048576: true; the input reads as it did. -/
def vmLentUptoRow : OpenClaim := { program := "ytkabcgmegljebaagreatdoor", sum := "0c5d990e22eaeda9cb9de09feaed81294067fcdb28d4f1551afafd92185f9738", func := "tenor/tenorlaw19.VmLent", spec := "vmLent", inPlace := ["math.Float64bits"], unfollowed := true, recurses := true, named := ["tenor/code.kinds"], apart := false, laid := [("tenor/code.kinds", laid_tenor_code_kinds)], narrowed := true }
def VmLentUptoSaid : Prop := vmLentUptoRow.holds Tryz.pinned (OpenSpec.upto vmLentSpec)

/-- 'tenorlaw19.VmPlays', WHERE WHAT IT READS IS OF BULK AT MOST 1048576: true; the input reads as it did. -/
def vmPlaysUptoRow : OpenClaim := { program := "ytkabcgmegljebaagreatdoor", sum := "0c5d990e22eaeda9cb9de09feaed81294067fcdb28d4f1551afafd92185f9738", func := "tenor/tenorlaw19.VmPlays", spec := "vmPlays", inPlace := ["math.Float64bits"], unfollowed := true, recurses := true, named := ["tenor/code.kinds"], apart := false, laid := [("tenor/code.kinds", laid_tenor_code_kinds)], narrowed := true }
def VmPlaysUptoSaid : Prop := vmPlaysUptoRow.holds Tryz.pinned (OpenSpec.upto vmPlaysSpec)

/-- 'tenorlaw19.VmCuts', WHERE WHAT IT READS IS OF BULK AT MOST 1048576: true; the input reads as it did. -/
def vmCutsUptoRow : OpenClaim := { program := "ytkabcgmegljebaagreatdoor", sum := "0c5d990e22eaeda9cb9de09feaed81294067fcdb28d4f1551afafd92185f9738", func := "tenor/tenorlaw19.VmCuts", spec := "vmCuts", inPlace := ["math.Float64bits"], unfollowed := true, recurses := true, named := ["tenor/code.kinds"], apart := false, laid := [("tenor/code.kinds", laid_tenor_code_kinds)], narrowed := true }
def VmCutsUptoSaid : Prop := vmCutsUptoRow.holds Tryz.pinned (OpenSpec.upto vmCutsSpec)

/-- 'tenorlaw19.VmTrims', WHERE WHAT IT READS IS OF BULK AT MOST 1048576: true; the input reads as it did. -/
def vmTrimsUptoRow : OpenClaim := { program := "ytkabcgmegljebaagreatdoor", sum := "0c5d990e22eaeda9cb9de09feaed81294067fcdb28d4f1551afafd92185f9738", func := "tenor/tenorlaw19.VmTrims", spec := "vmTrims", inPlace := ["math.Float64bits"], unfollowed := true, recurses := true, named := ["tenor/code.kinds"], apart := false, laid := [("tenor/code.kinds", laid_tenor_code_kinds)], narrowed := true }
def VmTrimsUptoSaid : Prop := vmTrimsUptoRow.holds Tryz.pinned (OpenSpec.upto vmTrimsSpec)

/-- 'tenorlaw19.VmDeals', WHERE WHAT IT READS IS OF BULK AT MOST 1048576: true; the input reads as it did. -/
def vmDealsUptoRow : OpenClaim := { program := "ytkabcgmegljebaagreatdoor", sum := "0c5d990e22eaeda9cb9de09feaed81294067fcdb28d4f1551afafd92185f9738", func := "tenor/tenorlaw19.VmDeals", spec := "vmDeals", inPlace := ["math.Float64bits"], unfollowed := true, recurses := true, named := ["tenor/code.kinds"], apart := false, laid := [("tenor/code.kinds", laid_tenor_code_kinds)], narrowed := true }
def VmDealsUptoSaid : Prop := vmDealsUptoRow.holds Tryz.pinned (OpenSpec.upto vmDealsSpec)

end Rows
end Go.Proofs.YtkabcgmegljebaaGreatDoor
