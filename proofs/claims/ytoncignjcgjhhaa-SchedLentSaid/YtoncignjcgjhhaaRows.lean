/-
  No cell of these rows narrows 'for every input' (looked for: loops, veiled, ifaces, maps, wideKeys, modest, calm, conditions, laid).
  DERIVED. THE GIVEN ROWS OF THIS SEAT. 22 by the template 'for every input the law returns true; each argument reads behind the call as it read before'; 0 by the template 'total and deterministic' (their statements: YtoncignjcgjhhaaTotals.lean).
  GIVEN WITH THE SEED: the statements are not yours to turn. If you find one false, say at which input.
  Laid BY PROGRAM, IN A SANDBOX (cutbox-rows.mjs): the forced cells as the released guide's own fill.sh prints them over the translation c08042a6e4ae4940… (all of the seat's roots in one cut). By AI agents, Wed Nov 11 2026. No macro, syntax, notation, axiom, sorry.
-/
import Derived.Test.YtoncignjcgjhhaaChecked
import GoSem.Claim
import GoSem.ClaimJoined
import GoSem.ClaimMapViews
import Derived.JoinedTies
import Derived.KernelRfl
namespace Go.Proofs.Ytoncignjcgjhhaa
/- THE CELL 'sum', in the pinned program and in every row, IS THE sha256 OF THE DUMP (.gsa) THAT YtoncignjcgjhhaaProg.lean LOADS. Nothing in Lean hashes anything: it is a label: what it is worth is what the hold of that sum in a sandbox is worth. -/
noncomputable def Try.pinned : Pinned := { name := "ytoncignjcgjhhaa", sum := "c08042a6e4ae494025b9713c0259c510f0e02b0e1145daecb16aeb14a5dc9d00", checked := Try.checked }
namespace Rows
def none {H : Type} : Left H := { results := [], args := [] }

/-- 'tenorlaw7.CountFractions': WHATEVER THE INPUT: true; the input reads as it did. -/
def countFractionsSpec : ChangeSpec := { name := "countFractions", fn := fun _ => fun
  | [d1, d2, d3, d4] => { results := [.lit (.bool true)], args := [d1, d2, d3, d4] }
  | _ => none }
def countFractionsRow : OpenClaim := { program := "ytoncignjcgjhhaa", sum := "c08042a6e4ae494025b9713c0259c510f0e02b0e1145daecb16aeb14a5dc9d00", func := "tenor/tenorlaw7.CountFractions", spec := "countFractions", unfollowed := true, recurses := true, apart := false }
def CountFractionsSaid : Prop := countFractionsRow.holds Try.pinned (OpenSpec.ofChange countFractionsSpec)

/-- ITS FALSE NEIGHBOUR: 'it returns false'. Refute it at one input. -/
def countFractionsWrong : ChangeSpec := { name := "countFractions", fn := fun _ => fun
  | [d1, d2, d3, d4] => { results := [.lit (.bool false)], args := [d1, d2, d3, d4] }
  | _ => none }
def CountFractionsWrongFalsely : Prop := countFractionsRow.holds Try.pinned (OpenSpec.ofChange countFractionsWrong)

/-- 'tenorlaw7.CountAdds': WHATEVER THE INPUT: true; the input reads as it did. -/
def countAddsSpec : ChangeSpec := { name := "countAdds", fn := fun _ => fun
  | [d1, d2, d3, d4, d5] => { results := [.lit (.bool true)], args := [d1, d2, d3, d4, d5] }
  | _ => none }
def countAddsRow : OpenClaim := { program := "ytoncignjcgjhhaa", sum := "c08042a6e4ae494025b9713c0259c510f0e02b0e1145daecb16aeb14a5dc9d00", func := "tenor/tenorlaw7.CountAdds", spec := "countAdds", unfollowed := true, recurses := true, apart := false }
def CountAddsSaid : Prop := countAddsRow.holds Try.pinned (OpenSpec.ofChange countAddsSpec)

/-- ITS FALSE NEIGHBOUR: 'it returns false'. Refute it at one input. -/
def countAddsWrong : ChangeSpec := { name := "countAdds", fn := fun _ => fun
  | [d1, d2, d3, d4, d5] => { results := [.lit (.bool false)], args := [d1, d2, d3, d4, d5] }
  | _ => none }
def CountAddsWrongFalsely : Prop := countAddsRow.holds Try.pinned (OpenSpec.ofChange countAddsWrong)

/-- 'tenorlaw7.CountTurns': WHATEVER THE INPUT: true; the input reads as it did. -/
def countTurnsSpec : ChangeSpec := { name := "countTurns", fn := fun _ => fun
  | [d1, d2, d3, d4] => { results := [.lit (.bool true)], args := [d1, d2, d3, d4] }
  | _ => none }
def countTurnsRow : OpenClaim := { program := "ytoncignjcgjhhaa", sum := "c08042a6e4ae494025b9713c0259c510f0e02b0e1145daecb16aeb14a5dc9d00", func := "tenor/tenorlaw7.CountTurns", spec := "countTurns", unfollowed := true, recurses := true, apart := false }
def CountTurnsSaid : Prop := countTurnsRow.holds Try.pinned (OpenSpec.ofChange countTurnsSpec)

/-- ITS FALSE NEIGHBOUR: 'it returns false'. Refute it at one input. -/
def countTurnsWrong : ChangeSpec := { name := "countTurns", fn := fun _ => fun
  | [d1, d2, d3, d4] => { results := [.lit (.bool false)], args := [d1, d2, d3, d4] }
  | _ => none }
def CountTurnsWrongFalsely : Prop := countTurnsRow.holds Try.pinned (OpenSpec.ofChange countTurnsWrong)

/-- 'tenorlaw7.CountRises': WHATEVER THE INPUT: true; the input reads as it did. -/
def countRisesSpec : ChangeSpec := { name := "countRises", fn := fun _ => fun
  | [d1, d2, d3, d4, d5] => { results := [.lit (.bool true)], args := [d1, d2, d3, d4, d5] }
  | _ => none }
def countRisesRow : OpenClaim := { program := "ytoncignjcgjhhaa", sum := "c08042a6e4ae494025b9713c0259c510f0e02b0e1145daecb16aeb14a5dc9d00", func := "tenor/tenorlaw7.CountRises", spec := "countRises", unfollowed := true, recurses := true, apart := false }
def CountRisesSaid : Prop := countRisesRow.holds Try.pinned (OpenSpec.ofChange countRisesSpec)

/-- ITS FALSE NEIGHBOUR: 'it returns false'. Refute it at one input. -/
def countRisesWrong : ChangeSpec := { name := "countRises", fn := fun _ => fun
  | [d1, d2, d3, d4, d5] => { results := [.lit (.bool false)], args := [d1, d2, d3, d4, d5] }
  | _ => none }
def CountRisesWrongFalsely : Prop := countRisesRow.holds Try.pinned (OpenSpec.ofChange countRisesWrong)

/-- 'tenorlaw7.CountYears': WHATEVER THE INPUT: true; the input reads as it did. -/
def countYearsSpec : ChangeSpec := { name := "countYears", fn := fun _ => fun
  | [d1, d2, d3, d4] => { results := [.lit (.bool true)], args := [d1, d2, d3, d4] }
  | _ => none }
def countYearsRow : OpenClaim := { program := "ytoncignjcgjhhaa", sum := "c08042a6e4ae494025b9713c0259c510f0e02b0e1145daecb16aeb14a5dc9d00", func := "tenor/tenorlaw7.CountYears", spec := "countYears", inPlace := ["math.Float64bits"], unfollowed := true, recurses := true, apart := false }
def CountYearsSaid : Prop := countYearsRow.holds Try.pinned (OpenSpec.ofChange countYearsSpec)

/-- ITS FALSE NEIGHBOUR: 'it returns false'. Refute it at one input. -/
def countYearsWrong : ChangeSpec := { name := "countYears", fn := fun _ => fun
  | [d1, d2, d3, d4] => { results := [.lit (.bool false)], args := [d1, d2, d3, d4] }
  | _ => none }
def CountYearsWrongFalsely : Prop := countYearsRow.holds Try.pinned (OpenSpec.ofChange countYearsWrong)

/-- 'tenorlaw6.CalDays': WHATEVER THE INPUT: true; the input reads as it did. -/
def calDaysSpec : ChangeSpec := { name := "calDays", fn := fun _ => fun
  | [d1, d2] => { results := [.lit (.bool true)], args := [d1, d2] }
  | _ => none }
def calDaysRow : OpenClaim := { program := "ytoncignjcgjhhaa", sum := "c08042a6e4ae494025b9713c0259c510f0e02b0e1145daecb16aeb14a5dc9d00", func := "tenor/tenorlaw6.CalDays", spec := "calDays", unfollowed := true, recurses := true, apart := false }
def CalDaysSaid : Prop := calDaysRow.holds Try.pinned (OpenSpec.ofChange calDaysSpec)

/-- ITS FALSE NEIGHBOUR: 'it returns false'. Refute it at one input. -/
def calDaysWrong : ChangeSpec := { name := "calDays", fn := fun _ => fun
  | [d1, d2] => { results := [.lit (.bool false)], args := [d1, d2] }
  | _ => none }
def CalDaysWrongFalsely : Prop := calDaysRow.holds Try.pinned (OpenSpec.ofChange calDaysWrong)

/-- 'tenorlaw6.CalMoves': WHATEVER THE INPUT: true; the input reads as it did. -/
def calMovesSpec : ChangeSpec := { name := "calMoves", fn := fun _ => fun
  | [d1, d2, d3] => { results := [.lit (.bool true)], args := [d1, d2, d3] }
  | _ => none }
def calMovesRow : OpenClaim := { program := "ytoncignjcgjhhaa", sum := "c08042a6e4ae494025b9713c0259c510f0e02b0e1145daecb16aeb14a5dc9d00", func := "tenor/tenorlaw6.CalMoves", spec := "calMoves", unfollowed := true, recurses := true, apart := false }
def CalMovesSaid : Prop := calMovesRow.holds Try.pinned (OpenSpec.ofChange calMovesSpec)

/-- ITS FALSE NEIGHBOUR: 'it returns false'. Refute it at one input. -/
def calMovesWrong : ChangeSpec := { name := "calMoves", fn := fun _ => fun
  | [d1, d2, d3] => { results := [.lit (.bool false)], args := [d1, d2, d3] }
  | _ => none }
def CalMovesWrongFalsely : Prop := calMovesRow.holds Try.pinned (OpenSpec.ofChange calMovesWrong)

/-- 'tenorlaw6.CalAdds': WHATEVER THE INPUT: true; the input reads as it did. -/
def calAddsSpec : ChangeSpec := { name := "calAdds", fn := fun _ => fun
  | [d1, d2, d3] => { results := [.lit (.bool true)], args := [d1, d2, d3] }
  | _ => none }
def calAddsRow : OpenClaim := { program := "ytoncignjcgjhhaa", sum := "c08042a6e4ae494025b9713c0259c510f0e02b0e1145daecb16aeb14a5dc9d00", func := "tenor/tenorlaw6.CalAdds", spec := "calAdds", unfollowed := true, recurses := true, apart := false }
def CalAddsSaid : Prop := calAddsRow.holds Try.pinned (OpenSpec.ofChange calAddsSpec)

/-- ITS FALSE NEIGHBOUR: 'it returns false'. Refute it at one input. -/
def calAddsWrong : ChangeSpec := { name := "calAdds", fn := fun _ => fun
  | [d1, d2, d3] => { results := [.lit (.bool false)], args := [d1, d2, d3] }
  | _ => none }
def CalAddsWrongFalsely : Prop := calAddsRow.holds Try.pinned (OpenSpec.ofChange calAddsWrong)

/-- 'tenorlaw6.CalCounts': WHATEVER THE INPUT: true; the input reads as it did. -/
def calCountsSpec : ChangeSpec := { name := "calCounts", fn := fun _ => fun
  | [d1, d2, d3] => { results := [.lit (.bool true)], args := [d1, d2, d3] }
  | _ => none }
def calCountsRow : OpenClaim := { program := "ytoncignjcgjhhaa", sum := "c08042a6e4ae494025b9713c0259c510f0e02b0e1145daecb16aeb14a5dc9d00", func := "tenor/tenorlaw6.CalCounts", spec := "calCounts", unfollowed := true, recurses := true, apart := false }
def CalCountsSaid : Prop := calCountsRow.holds Try.pinned (OpenSpec.ofChange calCountsSpec)

/-- ITS FALSE NEIGHBOUR: 'it returns false'. Refute it at one input. -/
def calCountsWrong : ChangeSpec := { name := "calCounts", fn := fun _ => fun
  | [d1, d2, d3] => { results := [.lit (.bool false)], args := [d1, d2, d3] }
  | _ => none }
def CalCountsWrongFalsely : Prop := calCountsRow.holds Try.pinned (OpenSpec.ofChange calCountsWrong)

/-- 'tenorlaw6.CalOpen': WHATEVER THE INPUT: true; the input reads as it did. -/
def calOpenSpec : ChangeSpec := { name := "calOpen", fn := fun _ => fun
  | [d1, d2, d3] => { results := [.lit (.bool true)], args := [d1, d2, d3] }
  | _ => none }
def calOpenRow : OpenClaim := { program := "ytoncignjcgjhhaa", sum := "c08042a6e4ae494025b9713c0259c510f0e02b0e1145daecb16aeb14a5dc9d00", func := "tenor/tenorlaw6.CalOpen", spec := "calOpen", unfollowed := true, recurses := true, apart := false }
def CalOpenSaid : Prop := calOpenRow.holds Try.pinned (OpenSpec.ofChange calOpenSpec)

/-- ITS FALSE NEIGHBOUR: 'it returns false'. Refute it at one input. -/
def calOpenWrong : ChangeSpec := { name := "calOpen", fn := fun _ => fun
  | [d1, d2, d3] => { results := [.lit (.bool false)], args := [d1, d2, d3] }
  | _ => none }
def CalOpenWrongFalsely : Prop := calOpenRow.holds Try.pinned (OpenSpec.ofChange calOpenWrong)

/-- 'tenorlaw6.CalSteps': WHATEVER THE INPUT: true; the input reads as it did. -/
def calStepsSpec : ChangeSpec := { name := "calSteps", fn := fun _ => fun
  | [d1, d2, d3, d4] => { results := [.lit (.bool true)], args := [d1, d2, d3, d4] }
  | _ => none }
def calStepsRow : OpenClaim := { program := "ytoncignjcgjhhaa", sum := "c08042a6e4ae494025b9713c0259c510f0e02b0e1145daecb16aeb14a5dc9d00", func := "tenor/tenorlaw6.CalSteps", spec := "calSteps", unfollowed := true, recurses := true, apart := false }
def CalStepsSaid : Prop := calStepsRow.holds Try.pinned (OpenSpec.ofChange calStepsSpec)

/-- ITS FALSE NEIGHBOUR: 'it returns false'. Refute it at one input. -/
def calStepsWrong : ChangeSpec := { name := "calSteps", fn := fun _ => fun
  | [d1, d2, d3, d4] => { results := [.lit (.bool false)], args := [d1, d2, d3, d4] }
  | _ => none }
def CalStepsWrongFalsely : Prop := calStepsRow.holds Try.pinned (OpenSpec.ofChange calStepsWrong)

/-- 'tenorlaw6.CalChecks': WHATEVER THE INPUT: true; the input reads as it did. -/
def calChecksSpec : ChangeSpec := { name := "calChecks", fn := fun _ => fun
  | [d1, d2, d3] => { results := [.lit (.bool true)], args := [d1, d2, d3] }
  | _ => none }
def calChecksRow : OpenClaim := { program := "ytoncignjcgjhhaa", sum := "c08042a6e4ae494025b9713c0259c510f0e02b0e1145daecb16aeb14a5dc9d00", func := "tenor/tenorlaw6.CalChecks", spec := "calChecks", unfollowed := true, recurses := true, apart := false }
def CalChecksSaid : Prop := calChecksRow.holds Try.pinned (OpenSpec.ofChange calChecksSpec)

/-- ITS FALSE NEIGHBOUR: 'it returns false'. Refute it at one input. -/
def calChecksWrong : ChangeSpec := { name := "calChecks", fn := fun _ => fun
  | [d1, d2, d3] => { results := [.lit (.bool false)], args := [d1, d2, d3] }
  | _ => none }
def CalChecksWrongFalsely : Prop := calChecksRow.holds Try.pinned (OpenSpec.ofChange calChecksWrong)

/-- 'tenorlaw6.CalJoins': WHATEVER THE INPUT: true; the input reads as it did. -/
def calJoinsSpec : ChangeSpec := { name := "calJoins", fn := fun _ => fun
  | [d1, d2] => { results := [.lit (.bool true)], args := [d1, d2] }
  | _ => none }
def calJoinsRow : OpenClaim := { program := "ytoncignjcgjhhaa", sum := "c08042a6e4ae494025b9713c0259c510f0e02b0e1145daecb16aeb14a5dc9d00", func := "tenor/tenorlaw6.CalJoins", spec := "calJoins", unfollowed := true, recurses := true, apart := false }
def CalJoinsSaid : Prop := calJoinsRow.holds Try.pinned (OpenSpec.ofChange calJoinsSpec)

/-- ITS FALSE NEIGHBOUR: 'it returns false'. Refute it at one input. -/
def calJoinsWrong : ChangeSpec := { name := "calJoins", fn := fun _ => fun
  | [d1, d2] => { results := [.lit (.bool false)], args := [d1, d2] }
  | _ => none }
def CalJoinsWrongFalsely : Prop := calJoinsRow.holds Try.pinned (OpenSpec.ofChange calJoinsWrong)

/-- 'tenorlaw6.CalBoth': WHATEVER THE INPUT: true; the input reads as it did. -/
def calBothSpec : ChangeSpec := { name := "calBoth", fn := fun _ => fun
  | [d1, d2, d3] => { results := [.lit (.bool true)], args := [d1, d2, d3] }
  | _ => none }
def calBothRow : OpenClaim := { program := "ytoncignjcgjhhaa", sum := "c08042a6e4ae494025b9713c0259c510f0e02b0e1145daecb16aeb14a5dc9d00", func := "tenor/tenorlaw6.CalBoth", spec := "calBoth", unfollowed := true, recurses := true, apart := false }
def CalBothSaid : Prop := calBothRow.holds Try.pinned (OpenSpec.ofChange calBothSpec)

/-- ITS FALSE NEIGHBOUR: 'it returns false'. Refute it at one input. -/
def calBothWrong : ChangeSpec := { name := "calBoth", fn := fun _ => fun
  | [d1, d2, d3] => { results := [.lit (.bool false)], args := [d1, d2, d3] }
  | _ => none }
def CalBothWrongFalsely : Prop := calBothRow.holds Try.pinned (OpenSpec.ofChange calBothWrong)

/-- 'tenorlaw8.SchedDates': WHATEVER THE INPUT: true; the input reads as it did. -/
def schedDatesSpec : ChangeSpec := { name := "schedDates", fn := fun _ => fun
  | [d] => { results := [.lit (.bool true)], args := [d] }
  | _ => none }
def schedDatesRow : OpenClaim := { program := "ytoncignjcgjhhaa", sum := "c08042a6e4ae494025b9713c0259c510f0e02b0e1145daecb16aeb14a5dc9d00", func := "tenor/tenorlaw8.SchedDates", spec := "schedDates", unfollowed := true, recurses := true, apart := false }
def SchedDatesSaid : Prop := schedDatesRow.holds Try.pinned (OpenSpec.ofChange schedDatesSpec)

/-- ITS FALSE NEIGHBOUR: 'it returns false'. Refute it at one input. -/
def schedDatesWrong : ChangeSpec := { name := "schedDates", fn := fun _ => fun
  | [d] => { results := [.lit (.bool false)], args := [d] }
  | _ => none }
def SchedDatesWrongFalsely : Prop := schedDatesRow.holds Try.pinned (OpenSpec.ofChange schedDatesWrong)

/-- 'tenorlaw8.SchedPeriods': WHATEVER THE INPUT: true; the input reads as it did. -/
def schedPeriodsSpec : ChangeSpec := { name := "schedPeriods", fn := fun _ => fun
  | [d] => { results := [.lit (.bool true)], args := [d] }
  | _ => none }
def schedPeriodsRow : OpenClaim := { program := "ytoncignjcgjhhaa", sum := "c08042a6e4ae494025b9713c0259c510f0e02b0e1145daecb16aeb14a5dc9d00", func := "tenor/tenorlaw8.SchedPeriods", spec := "schedPeriods", unfollowed := true, recurses := true, apart := false }
def SchedPeriodsSaid : Prop := schedPeriodsRow.holds Try.pinned (OpenSpec.ofChange schedPeriodsSpec)

/-- ITS FALSE NEIGHBOUR: 'it returns false'. Refute it at one input. -/
def schedPeriodsWrong : ChangeSpec := { name := "schedPeriods", fn := fun _ => fun
  | [d] => { results := [.lit (.bool false)], args := [d] }
  | _ => none }
def SchedPeriodsWrongFalsely : Prop := schedPeriodsRow.holds Try.pinned (OpenSpec.ofChange schedPeriodsWrong)

/-- 'tenorlaw8.SchedEnds': WHATEVER THE INPUT: true; the input reads as it did. -/
def schedEndsSpec : ChangeSpec := { name := "schedEnds", fn := fun _ => fun
  | [d] => { results := [.lit (.bool true)], args := [d] }
  | _ => none }
def schedEndsRow : OpenClaim := { program := "ytoncignjcgjhhaa", sum := "c08042a6e4ae494025b9713c0259c510f0e02b0e1145daecb16aeb14a5dc9d00", func := "tenor/tenorlaw8.SchedEnds", spec := "schedEnds", unfollowed := true, recurses := true, apart := false }
def SchedEndsSaid : Prop := schedEndsRow.holds Try.pinned (OpenSpec.ofChange schedEndsSpec)

/-- ITS FALSE NEIGHBOUR: 'it returns false'. Refute it at one input. -/
def schedEndsWrong : ChangeSpec := { name := "schedEnds", fn := fun _ => fun
  | [d] => { results := [.lit (.bool false)], args := [d] }
  | _ => none }
def SchedEndsWrongFalsely : Prop := schedEndsRow.holds Try.pinned (OpenSpec.ofChange schedEndsWrong)

/-- 'tenorlaw8.SchedEven': WHATEVER THE INPUT: true; the input reads as it did. -/
def schedEvenSpec : ChangeSpec := { name := "schedEven", fn := fun _ => fun
  | [d1, d2, d3, d4] => { results := [.lit (.bool true)], args := [d1, d2, d3, d4] }
  | _ => none }
def schedEvenRow : OpenClaim := { program := "ytoncignjcgjhhaa", sum := "c08042a6e4ae494025b9713c0259c510f0e02b0e1145daecb16aeb14a5dc9d00", func := "tenor/tenorlaw8.SchedEven", spec := "schedEven", unfollowed := true, recurses := true, apart := false }
def SchedEvenSaid : Prop := schedEvenRow.holds Try.pinned (OpenSpec.ofChange schedEvenSpec)

/-- ITS FALSE NEIGHBOUR: 'it returns false'. Refute it at one input. -/
def schedEvenWrong : ChangeSpec := { name := "schedEven", fn := fun _ => fun
  | [d1, d2, d3, d4] => { results := [.lit (.bool false)], args := [d1, d2, d3, d4] }
  | _ => none }
def SchedEvenWrongFalsely : Prop := schedEvenRow.holds Try.pinned (OpenSpec.ofChange schedEvenWrong)

/-- 'tenorlaw8.SchedLent': WHATEVER THE INPUT: true; the input reads as it did. -/
def schedLentSpec : ChangeSpec := { name := "schedLent", fn := fun _ => fun
  | [d] => { results := [.lit (.bool true)], args := [d] }
  | _ => none }
def schedLentRow : OpenClaim := { program := "ytoncignjcgjhhaa", sum := "c08042a6e4ae494025b9713c0259c510f0e02b0e1145daecb16aeb14a5dc9d00", func := "tenor/tenorlaw8.SchedLent", spec := "schedLent", unfollowed := true, recurses := true, apart := false }
def SchedLentSaid : Prop := schedLentRow.holds Try.pinned (OpenSpec.ofChange schedLentSpec)

/-- ITS FALSE NEIGHBOUR: 'it returns false'. Refute it at one input. -/
def schedLentWrong : ChangeSpec := { name := "schedLent", fn := fun _ => fun
  | [d] => { results := [.lit (.bool false)], args := [d] }
  | _ => none }
def SchedLentWrongFalsely : Prop := schedLentRow.holds Try.pinned (OpenSpec.ofChange schedLentWrong)

/-- 'tenorlaw8.SchedChecks': WHATEVER THE INPUT: true; the input reads as it did. -/
def schedChecksSpec : ChangeSpec := { name := "schedChecks", fn := fun _ => fun
  | [d] => { results := [.lit (.bool true)], args := [d] }
  | _ => none }
def schedChecksRow : OpenClaim := { program := "ytoncignjcgjhhaa", sum := "c08042a6e4ae494025b9713c0259c510f0e02b0e1145daecb16aeb14a5dc9d00", func := "tenor/tenorlaw8.SchedChecks", spec := "schedChecks", unfollowed := true, recurses := true, apart := false }
def SchedChecksSaid : Prop := schedChecksRow.holds Try.pinned (OpenSpec.ofChange schedChecksSpec)

/-- ITS FALSE NEIGHBOUR: 'it returns false'. Refute it at one input. -/
def schedChecksWrong : ChangeSpec := { name := "schedChecks", fn := fun _ => fun
  | [d] => { results := [.lit (.bool false)], args := [d] }
  | _ => none }
def SchedChecksWrongFalsely : Prop := schedChecksRow.holds Try.pinned (OpenSpec.ofChange schedChecksWrong)

/-- 'tenorlaw8.SchedPoints': WHATEVER THE INPUT: true; the input reads as it did. -/
def schedPointsSpec : ChangeSpec := { name := "schedPoints", fn := fun _ => fun
  | [d1, d2, d3] => { results := [.lit (.bool true)], args := [d1, d2, d3] }
  | _ => none }
def schedPointsRow : OpenClaim := { program := "ytoncignjcgjhhaa", sum := "c08042a6e4ae494025b9713c0259c510f0e02b0e1145daecb16aeb14a5dc9d00", func := "tenor/tenorlaw8.SchedPoints", spec := "schedPoints", unfollowed := true, recurses := true, apart := false }
def SchedPointsSaid : Prop := schedPointsRow.holds Try.pinned (OpenSpec.ofChange schedPointsSpec)

/-- ITS FALSE NEIGHBOUR: 'it returns false'. Refute it at one input. -/
def schedPointsWrong : ChangeSpec := { name := "schedPoints", fn := fun _ => fun
  | [d1, d2, d3] => { results := [.lit (.bool false)], args := [d1, d2, d3] }
  | _ => none }
def SchedPointsWrongFalsely : Prop := schedPointsRow.holds Try.pinned (OpenSpec.ofChange schedPointsWrong)

/-- 'tenorlaw8.SchedSteps': WHATEVER THE INPUT: true; the input reads as it did. -/
def schedStepsSpec : ChangeSpec := { name := "schedSteps", fn := fun _ => fun
  | [d] => { results := [.lit (.bool true)], args := [d] }
  | _ => none }
def schedStepsRow : OpenClaim := { program := "ytoncignjcgjhhaa", sum := "c08042a6e4ae494025b9713c0259c510f0e02b0e1145daecb16aeb14a5dc9d00", func := "tenor/tenorlaw8.SchedSteps", spec := "schedSteps", unfollowed := true, recurses := true, apart := false }
def SchedStepsSaid : Prop := schedStepsRow.holds Try.pinned (OpenSpec.ofChange schedStepsSpec)

/-- ITS FALSE NEIGHBOUR: 'it returns false'. Refute it at one input. -/
def schedStepsWrong : ChangeSpec := { name := "schedSteps", fn := fun _ => fun
  | [d] => { results := [.lit (.bool false)], args := [d] }
  | _ => none }
def SchedStepsWrongFalsely : Prop := schedStepsRow.holds Try.pinned (OpenSpec.ofChange schedStepsWrong)

/- THE SECOND FORM. 'bulk': how many values and letters a reading holds, each counted each time it is reached (what is shared counts as often as it is met; a slice's spare places count too). A statement '..UptoSaid' is the law's where the arguments, and the package variables that the reading takes, are together of bulk at most 1048576: NARROWER than '..Said'. Prove '..Said' where nothing that the law and all that it calls make is longer than what came in: it says more and counts as full. Else prove '..UptoSaid'. A law counts once. -/
mutual
def uptoBulk {H : Type} : DataW H → Nat
  | .lit (.string bytes) => bytes.length + 1
  | .lit _ => 1
  | .nil => 1
  | .ptr d => uptoBulk d + 1
  | .slice elems spare => uptoBulkAll elems + uptoBulkAll spare + 1
  | .agg parts => uptoBulkAll parts + 1
  | .iface _ d => uptoBulk d + 1
  | .map entries => uptoBulkEntries entries + 1
  | .held _ => 1
def uptoBulkAll {H : Type} : List (DataW H) → Nat
  | [] => 0
  | d :: r => uptoBulk d + uptoBulkAll r
def uptoBulkEntries {H : Type} : List (Lit × DataW H) → Nat
  | [] => 0
  | x :: r => uptoBulkEntry x + uptoBulkEntries r
def uptoBulkEntry {H : Type} : Lit × DataW H → Nat
  | (.string bytes, d) => bytes.length + uptoBulk d + 1
  | (_, d) => uptoBulk d + 1
 end
def uptoSmall : (H : Type) → List (DataW H) → Bool := fun _ ds => decide (uptoBulkAll ds ≤ 1048576)
def OpenSpec.upto (s : _root_.Go.ChangeSpec) : _root_.Go.OpenSpec := { _root_.Go.OpenSpec.ofChange s with cond := some uptoSmall }

/-- 'tenorlaw7.CountFractions', WHERE WHAT IT READS IS OF BULK AT MOST 1048576: true; the input reads as it did. -/
def countFractionsUptoRow : OpenClaim := { program := "ytoncignjcgjhhaa", sum := "c08042a6e4ae494025b9713c0259c510f0e02b0e1145daecb16aeb14a5dc9d00", func := "tenor/tenorlaw7.CountFractions", spec := "countFractions", unfollowed := true, recurses := true, apart := false, narrowed := true }
def CountFractionsUptoSaid : Prop := countFractionsUptoRow.holds Try.pinned (OpenSpec.upto countFractionsSpec)

/-- 'tenorlaw7.CountAdds', WHERE WHAT IT READS IS OF BULK AT MOST 1048576: true; the input reads as it did. -/
def countAddsUptoRow : OpenClaim := { program := "ytoncignjcgjhhaa", sum := "c08042a6e4ae494025b9713c0259c510f0e02b0e1145daecb16aeb14a5dc9d00", func := "tenor/tenorlaw7.CountAdds", spec := "countAdds", unfollowed := true, recurses := true, apart := false, narrowed := true }
def CountAddsUptoSaid : Prop := countAddsUptoRow.holds Try.pinned (OpenSpec.upto countAddsSpec)

/-- 'tenorlaw7.CountTurns', WHERE WHAT IT READS IS OF BULK AT MOST 1048576: true; the input reads as it did. -/
def countTurnsUptoRow : OpenClaim := { program := "ytoncignjcgjhhaa", sum := "c08042a6e4ae494025b9713c0259c510f0e02b0e1145daecb16aeb14a5dc9d00", func := "tenor/tenorlaw7.CountTurns", spec := "countTurns", unfollowed := true, recurses := true, apart := false, narrowed := true }
def CountTurnsUptoSaid : Prop := countTurnsUptoRow.holds Try.pinned (OpenSpec.upto countTurnsSpec)

/-- 'tenorlaw7.CountRises', WHERE WHAT IT READS IS OF BULK AT MOST 1048576: true; the input reads as it did. -/
def countRisesUptoRow : OpenClaim := { program := "ytoncignjcgjhhaa", sum := "c08042a6e4ae494025b9713c0259c510f0e02b0e1145daecb16aeb14a5dc9d00", func := "tenor/tenorlaw7.CountRises", spec := "countRises", unfollowed := true, recurses := true, apart := false, narrowed := true }
def CountRisesUptoSaid : Prop := countRisesUptoRow.holds Try.pinned (OpenSpec.upto countRisesSpec)

/-- 'tenorlaw7.CountYears', WHERE WHAT IT READS IS OF BULK AT MOST 1048576: true; the input reads as it did. -/
def countYearsUptoRow : OpenClaim := { program := "ytoncignjcgjhhaa", sum := "c08042a6e4ae494025b9713c0259c510f0e02b0e1145daecb16aeb14a5dc9d00", func := "tenor/tenorlaw7.CountYears", spec := "countYears", inPlace := ["math.Float64bits"], unfollowed := true, recurses := true, apart := false, narrowed := true }
def CountYearsUptoSaid : Prop := countYearsUptoRow.holds Try.pinned (OpenSpec.upto countYearsSpec)

/-- 'tenorlaw6.CalDays', WHERE WHAT IT READS IS OF BULK AT MOST 1048576: true; the input reads as it did. -/
def calDaysUptoRow : OpenClaim := { program := "ytoncignjcgjhhaa", sum := "c08042a6e4ae494025b9713c0259c510f0e02b0e1145daecb16aeb14a5dc9d00", func := "tenor/tenorlaw6.CalDays", spec := "calDays", unfollowed := true, recurses := true, apart := false, narrowed := true }
def CalDaysUptoSaid : Prop := calDaysUptoRow.holds Try.pinned (OpenSpec.upto calDaysSpec)

/-- 'tenorlaw6.CalMoves', WHERE WHAT IT READS IS OF BULK AT MOST 1048576: true; the input reads as it did. -/
def calMovesUptoRow : OpenClaim := { program := "ytoncignjcgjhhaa", sum := "c08042a6e4ae494025b9713c0259c510f0e02b0e1145daecb16aeb14a5dc9d00", func := "tenor/tenorlaw6.CalMoves", spec := "calMoves", unfollowed := true, recurses := true, apart := false, narrowed := true }
def CalMovesUptoSaid : Prop := calMovesUptoRow.holds Try.pinned (OpenSpec.upto calMovesSpec)

/-- 'tenorlaw6.CalAdds', WHERE WHAT IT READS IS OF BULK AT MOST 1048576: true; the input reads as it did. -/
def calAddsUptoRow : OpenClaim := { program := "ytoncignjcgjhhaa", sum := "c08042a6e4ae494025b9713c0259c510f0e02b0e1145daecb16aeb14a5dc9d00", func := "tenor/tenorlaw6.CalAdds", spec := "calAdds", unfollowed := true, recurses := true, apart := false, narrowed := true }
def CalAddsUptoSaid : Prop := calAddsUptoRow.holds Try.pinned (OpenSpec.upto calAddsSpec)

/-- 'tenorlaw6.CalCounts', WHERE WHAT IT READS IS OF BULK AT MOST 1048576: true; the input reads as it did. -/
def calCountsUptoRow : OpenClaim := { program := "ytoncignjcgjhhaa", sum := "c08042a6e4ae494025b9713c0259c510f0e02b0e1145daecb16aeb14a5dc9d00", func := "tenor/tenorlaw6.CalCounts", spec := "calCounts", unfollowed := true, recurses := true, apart := false, narrowed := true }
def CalCountsUptoSaid : Prop := calCountsUptoRow.holds Try.pinned (OpenSpec.upto calCountsSpec)

/-- 'tenorlaw6.CalOpen', WHERE WHAT IT READS IS OF BULK AT MOST 1048576: true; the input reads as it did. -/
def calOpenUptoRow : OpenClaim := { program := "ytoncignjcgjhhaa", sum := "c08042a6e4ae494025b9713c0259c510f0e02b0e1145daecb16aeb14a5dc9d00", func := "tenor/tenorlaw6.CalOpen", spec := "calOpen", unfollowed := true, recurses := true, apart := false, narrowed := true }
def CalOpenUptoSaid : Prop := calOpenUptoRow.holds Try.pinned (OpenSpec.upto calOpenSpec)

/-- 'tenorlaw6.CalSteps', WHERE WHAT IT READS IS OF BULK AT MOST 1048576: true; the input reads as it did. -/
def calStepsUptoRow : OpenClaim := { program := "ytoncignjcgjhhaa", sum := "c08042a6e4ae494025b9713c0259c510f0e02b0e1145daecb16aeb14a5dc9d00", func := "tenor/tenorlaw6.CalSteps", spec := "calSteps", unfollowed := true, recurses := true, apart := false, narrowed := true }
def CalStepsUptoSaid : Prop := calStepsUptoRow.holds Try.pinned (OpenSpec.upto calStepsSpec)

/-- 'tenorlaw6.CalChecks', WHERE WHAT IT READS IS OF BULK AT MOST 1048576: true; the input reads as it did. -/
def calChecksUptoRow : OpenClaim := { program := "ytoncignjcgjhhaa", sum := "c08042a6e4ae494025b9713c0259c510f0e02b0e1145daecb16aeb14a5dc9d00", func := "tenor/tenorlaw6.CalChecks", spec := "calChecks", unfollowed := true, recurses := true, apart := false, narrowed := true }
def CalChecksUptoSaid : Prop := calChecksUptoRow.holds Try.pinned (OpenSpec.upto calChecksSpec)

/-- 'tenorlaw6.CalJoins', WHERE WHAT IT READS IS OF BULK AT MOST 1048576: true; the input reads as it did. -/
def calJoinsUptoRow : OpenClaim := { program := "ytoncignjcgjhhaa", sum := "c08042a6e4ae494025b9713c0259c510f0e02b0e1145daecb16aeb14a5dc9d00", func := "tenor/tenorlaw6.CalJoins", spec := "calJoins", unfollowed := true, recurses := true, apart := false, narrowed := true }
def CalJoinsUptoSaid : Prop := calJoinsUptoRow.holds Try.pinned (OpenSpec.upto calJoinsSpec)

/-- 'tenorlaw6.CalBoth', WHERE WHAT IT READS IS OF BULK AT MOST 1048576: true; the input reads as it did. -/
def calBothUptoRow : OpenClaim := { program := "ytoncignjcgjhhaa", sum := "c08042a6e4ae494025b9713c0259c510f0e02b0e1145daecb16aeb14a5dc9d00", func := "tenor/tenorlaw6.CalBoth", spec := "calBoth", unfollowed := true, recurses := true, apart := false, narrowed := true }
def CalBothUptoSaid : Prop := calBothUptoRow.holds Try.pinned (OpenSpec.upto calBothSpec)

/-- 'tenorlaw8.SchedDates', WHERE WHAT IT READS IS OF BULK AT MOST 1048576: true; the input reads as it did. -/
def schedDatesUptoRow : OpenClaim := { program := "ytoncignjcgjhhaa", sum := "c08042a6e4ae494025b9713c0259c510f0e02b0e1145daecb16aeb14a5dc9d00", func := "tenor/tenorlaw8.SchedDates", spec := "schedDates", unfollowed := true, recurses := true, apart := false, narrowed := true }
def SchedDatesUptoSaid : Prop := schedDatesUptoRow.holds Try.pinned (OpenSpec.upto schedDatesSpec)

/-- 'tenorlaw8.SchedPeriods', WHERE WHAT IT READS IS OF BULK AT MOST 1048576: true; the input reads as it did. -/
def schedPeriodsUptoRow : OpenClaim := { program := "ytoncignjcgjhhaa", sum := "c08042a6e4ae494025b9713c0259c510f0e02b0e1145daecb16aeb14a5dc9d00", func := "tenor/tenorlaw8.SchedPeriods", spec := "schedPeriods", unfollowed := true, recurses := true, apart := false, narrowed := true }
def SchedPeriodsUptoSaid : Prop := schedPeriodsUptoRow.holds Try.pinned (OpenSpec.upto schedPeriodsSpec)

/-- 'tenorlaw8.SchedEnds', WHERE WHAT IT READS IS OF BULK AT MOST 1048576: true; the input reads as it did. -/
def schedEndsUptoRow : OpenClaim := { program := "ytoncignjcgjhhaa", sum := "c08042a6e4ae494025b9713c0259c510f0e02b0e1145daecb16aeb14a5dc9d00", func := "tenor/tenorlaw8.SchedEnds", spec := "schedEnds", unfollowed := true, recurses := true, apart := false, narrowed := true }
def SchedEndsUptoSaid : Prop := schedEndsUptoRow.holds Try.pinned (OpenSpec.upto schedEndsSpec)

/-- 'tenorlaw8.SchedEven', WHERE WHAT IT READS IS OF BULK AT MOST 1048576: true; the input reads as it did. -/
def schedEvenUptoRow : OpenClaim := { program := "ytoncignjcgjhhaa", sum := "c08042a6e4ae494025b9713c0259c510f0e02b0e1145daecb16aeb14a5dc9d00", func := "tenor/tenorlaw8.SchedEven", spec := "schedEven", unfollowed := true, recurses := true, apart := false, narrowed := true }
def SchedEvenUptoSaid : Prop := schedEvenUptoRow.holds Try.pinned (OpenSpec.upto schedEvenSpec)

/-- 'tenorlaw8.SchedLent', WHERE WHAT IT READS IS OF BULK AT MOST 1048576: true; the input reads as it did. -/
def schedLentUptoRow : OpenClaim := { program := "ytoncignjcgjhhaa", sum := "c08042a6e4ae494025b9713c0259c510f0e02b0e1145daecb16aeb14a5dc9d00", func := "tenor/tenorlaw8.SchedLent", spec := "schedLent", unfollowed := true, recurses := true, apart := false, narrowed := true }
def SchedLentUptoSaid : Prop := schedLentUptoRow.holds Try.pinned (OpenSpec.upto schedLentSpec)

/-- 'tenorlaw8.SchedChecks', WHERE WHAT IT READS IS OF BULK AT MOST 1048576: true; the input reads as it did. -/
def schedChecksUptoRow : OpenClaim := { program := "ytoncignjcgjhhaa", sum := "c08042a6e4ae494025b9713c0259c510f0e02b0e1145daecb16aeb14a5dc9d00", func := "tenor/tenorlaw8.SchedChecks", spec := "schedChecks", unfollowed := true, recurses := true, apart := false, narrowed := true }
def SchedChecksUptoSaid : Prop := schedChecksUptoRow.holds Try.pinned (OpenSpec.upto schedChecksSpec)

/-- 'tenorlaw8.SchedPoints', WHERE WHAT IT READS IS OF BULK AT MOST 1048576: true; the input reads as it did. -/
def schedPointsUptoRow : OpenClaim := { program := "ytoncignjcgjhhaa", sum := "c08042a6e4ae494025b9713c0259c510f0e02b0e1145daecb16aeb14a5dc9d00", func := "tenor/tenorlaw8.SchedPoints", spec := "schedPoints", unfollowed := true, recurses := true, apart := false, narrowed := true }
def SchedPointsUptoSaid : Prop := schedPointsUptoRow.holds Try.pinned (OpenSpec.upto schedPointsSpec)

/-- 'tenorlaw8.SchedSteps', WHERE WHAT IT READS IS OF BULK AT MOST 1048576: true; the input reads as it did. -/
def schedStepsUptoRow : OpenClaim := { program := "ytoncignjcgjhhaa", sum := "c08042a6e4ae494025b9713c0259c510f0e02b0e1145daecb16aeb14a5dc9d00", func := "tenor/tenorlaw8.SchedSteps", spec := "schedSteps", unfollowed := true, recurses := true, apart := false, narrowed := true }
def SchedStepsUptoSaid : Prop := schedStepsUptoRow.holds Try.pinned (OpenSpec.upto schedStepsSpec)

end Rows
end Go.Proofs.Ytoncignjcgjhhaa
