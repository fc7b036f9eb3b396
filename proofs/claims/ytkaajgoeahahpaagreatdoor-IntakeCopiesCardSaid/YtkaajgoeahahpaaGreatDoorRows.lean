/-
  NARROWER THAN 'FOR EVERY INPUT', by the rows' own cells (each row's printed sentence says how): IntakeChecks: laid · IntakeCanonical: laid · IntakeDiffers: laid · IntakeLabels: laid · IntakeSorts: laid · IntakeAnyOrder: laid · IntakeFits: laid · IntakeStates: laid · IntakeOnce: laid · IntakeRejects: laid · IntakeCopies: laid · IntakeIndexes: laid · IntakeWhole: laid.
  DERIVED. THE GIVEN ROWS OF THIS SEAT. 13 by the template 'for every input the law returns true; each argument reads behind the call as it read before'; 0 by the template 'total and deterministic' (their statements: YtkaajgoeahahpaaGreatDoorTotals.lean).
  GIVEN WITH THE SEED: the statements are not yours to turn. If you find one false, say at which input.
  Laid BY PROGRAM, IN A SANDBOX (cutbox-rows.mjs): the forced cells as the released guide's own fill.sh prints them over the translation ed156f0d3336ad24… (all of the seat's roots in one cut). By AI agents, Wed Nov 11 2026. No macro, syntax, notation, axiom, sorry.
-/
import Derived.Test.YtkaajgoeahahpaaGreatDoorChecked
import GoSem.Claim
import GoSem.ClaimJoined
import GoSem.ClaimMapViews
import Derived.JoinedTies
import Derived.KernelRfl
namespace Go.Proofs.YtkaajgoeahahpaaGreatDoor
/- THE CELL 'sum', in the pinned program and in every row, IS THE sha256 OF THE DUMP (.gsa) THAT YtkaajgoeahahpaaGreatDoorProg.lean LOADS. Nothing in Lean hashes anything: it is a label: what it is worth is what the hold of that sum in a sandbox is worth. -/
noncomputable def Tryz.pinned : Pinned := { name := "ytkaajgoeahahpaagreatdoor", sum := "ed156f0d3336ad24e597d2a17b24db694630b8cfc55d210dfdc2a71689459b5e", checked := Tryz.checked }
namespace Rows
def none {H : Type} : Left H := { results := [], args := [] }

/- WHAT THE LISTED PACKAGE-LEVEL VARIABLES READ AS WHEN THE CALL BEGINS. Each datum BY PROGRAM (the guide's laid-datum.mjs) off the statement by which the dump's own 'gosem.cut.vars' lays the variable. In a bare row this is a premise. The card (YtkaajgoeahahpaaGreatDoorCards.lean) ties it to the program's text. -/
def laid_awardingbody_rscode_powers {H : Type} : DataW H := .agg [.lit (.int .i64 1), .lit (.int .i64 2), .lit (.int .i64 4), .lit (.int .i64 8), .lit (.int .i64 16), .lit (.int .i64 5), .lit (.int .i64 10), .lit (.int .i64 20), .lit (.int .i64 13), .lit (.int .i64 26), .lit (.int .i64 17), .lit (.int .i64 7), .lit (.int .i64 14), .lit (.int .i64 28), .lit (.int .i64 29), .lit (.int .i64 31), .lit (.int .i64 27), .lit (.int .i64 19), .lit (.int .i64 3), .lit (.int .i64 6), .lit (.int .i64 12), .lit (.int .i64 24), .lit (.int .i64 21), .lit (.int .i64 15), .lit (.int .i64 30), .lit (.int .i64 25), .lit (.int .i64 23), .lit (.int .i64 11), .lit (.int .i64 22), .lit (.int .i64 9), .lit (.int .i64 18)]
def laid_awardingbody_rscode_logs {H : Type} : DataW H := .agg [.lit (.int .i64 0), .lit (.int .i64 0), .lit (.int .i64 1), .lit (.int .i64 18), .lit (.int .i64 2), .lit (.int .i64 5), .lit (.int .i64 19), .lit (.int .i64 11), .lit (.int .i64 3), .lit (.int .i64 29), .lit (.int .i64 6), .lit (.int .i64 27), .lit (.int .i64 20), .lit (.int .i64 8), .lit (.int .i64 12), .lit (.int .i64 23), .lit (.int .i64 4), .lit (.int .i64 10), .lit (.int .i64 30), .lit (.int .i64 17), .lit (.int .i64 7), .lit (.int .i64 22), .lit (.int .i64 28), .lit (.int .i64 26), .lit (.int .i64 21), .lit (.int .i64 25), .lit (.int .i64 9), .lit (.int .i64 16), .lit (.int .i64 13), .lit (.int .i64 14), .lit (.int .i64 24), .lit (.int .i64 15)]

/-- 'awardingbodylaw21.IntakeChecks': WHATEVER THE INPUT: true; the input reads as it did. -/
def intakeChecksSpec : ChangeSpec := { name := "intakeChecks", fn := fun _ => fun
  | [d] => { results := [.lit (.bool true)], args := [d] }
  | _ => none }
def intakeChecksRow : OpenClaim := { program := "ytkaajgoeahahpaagreatdoor", sum := "ed156f0d3336ad24e597d2a17b24db694630b8cfc55d210dfdc2a71689459b5e", func := "awardingbody/awardingbodylaw21.IntakeChecks", spec := "intakeChecks", inPlace := ["internal/abi.NoEscape", "internal/bytealg.MakeNoZero", "internal/bytealg.CountString", "internal/bytealg.IndexByteString", "internal/bytealg.IndexString"], unfollowed := true, recurses := true, named := ["awardingbody/rscode.powers", "awardingbody/rscode.logs", "internal/bytealg.MaxLen"], plainKeys := false, apart := false, laid := [("awardingbody/rscode.powers", laid_awardingbody_rscode_powers), ("awardingbody/rscode.logs", laid_awardingbody_rscode_logs)] }
def IntakeChecksSaid : Prop := intakeChecksRow.holds Tryz.pinned (OpenSpec.ofChange intakeChecksSpec)

/-- ITS FALSE NEIGHBOUR: 'it returns false'. Refute it at one input. -/
def intakeChecksWrong : ChangeSpec := { name := "intakeChecks", fn := fun _ => fun
  | [d] => { results := [.lit (.bool false)], args := [d] }
  | _ => none }
def IntakeChecksWrongFalsely : Prop := intakeChecksRow.holds Tryz.pinned (OpenSpec.ofChange intakeChecksWrong)

/-- 'awardingbodylaw21.IntakeCanonical': WHATEVER THE INPUT: true; the input reads as it did. -/
def intakeCanonicalSpec : ChangeSpec := { name := "intakeCanonical", fn := fun _ => fun
  | [d] => { results := [.lit (.bool true)], args := [d] }
  | _ => none }
def intakeCanonicalRow : OpenClaim := { program := "ytkaajgoeahahpaagreatdoor", sum := "ed156f0d3336ad24e597d2a17b24db694630b8cfc55d210dfdc2a71689459b5e", func := "awardingbody/awardingbodylaw21.IntakeCanonical", spec := "intakeCanonical", inPlace := ["internal/abi.NoEscape", "internal/bytealg.MakeNoZero", "internal/bytealg.CountString", "internal/bytealg.IndexByteString", "internal/bytealg.IndexString"], unfollowed := true, recurses := true, named := ["awardingbody/rscode.powers", "awardingbody/rscode.logs", "internal/bytealg.MaxLen"], plainKeys := false, apart := false, laid := [("awardingbody/rscode.powers", laid_awardingbody_rscode_powers), ("awardingbody/rscode.logs", laid_awardingbody_rscode_logs)] }
def IntakeCanonicalSaid : Prop := intakeCanonicalRow.holds Tryz.pinned (OpenSpec.ofChange intakeCanonicalSpec)

/-- ITS FALSE NEIGHBOUR: 'it returns false'. Refute it at one input. -/
def intakeCanonicalWrong : ChangeSpec := { name := "intakeCanonical", fn := fun _ => fun
  | [d] => { results := [.lit (.bool false)], args := [d] }
  | _ => none }
def IntakeCanonicalWrongFalsely : Prop := intakeCanonicalRow.holds Tryz.pinned (OpenSpec.ofChange intakeCanonicalWrong)

/-- 'awardingbodylaw21.IntakeDiffers': WHATEVER THE INPUT: true; the input reads as it did. -/
def intakeDiffersSpec : ChangeSpec := { name := "intakeDiffers", fn := fun _ => fun
  | [d1, d2] => { results := [.lit (.bool true)], args := [d1, d2] }
  | _ => none }
def intakeDiffersRow : OpenClaim := { program := "ytkaajgoeahahpaagreatdoor", sum := "ed156f0d3336ad24e597d2a17b24db694630b8cfc55d210dfdc2a71689459b5e", func := "awardingbody/awardingbodylaw21.IntakeDiffers", spec := "intakeDiffers", inPlace := ["internal/abi.NoEscape", "internal/bytealg.MakeNoZero", "internal/bytealg.CountString", "internal/bytealg.IndexByteString", "internal/bytealg.IndexString"], unfollowed := true, recurses := true, named := ["awardingbody/rscode.powers", "awardingbody/rscode.logs", "internal/bytealg.MaxLen"], plainKeys := false, apart := false, laid := [("awardingbody/rscode.powers", laid_awardingbody_rscode_powers), ("awardingbody/rscode.logs", laid_awardingbody_rscode_logs)] }
def IntakeDiffersSaid : Prop := intakeDiffersRow.holds Tryz.pinned (OpenSpec.ofChange intakeDiffersSpec)

/-- ITS FALSE NEIGHBOUR: 'it returns false'. Refute it at one input. -/
def intakeDiffersWrong : ChangeSpec := { name := "intakeDiffers", fn := fun _ => fun
  | [d1, d2] => { results := [.lit (.bool false)], args := [d1, d2] }
  | _ => none }
def IntakeDiffersWrongFalsely : Prop := intakeDiffersRow.holds Tryz.pinned (OpenSpec.ofChange intakeDiffersWrong)

/-- 'awardingbodylaw21.IntakeLabels': WHATEVER THE INPUT: true; the input reads as it did. -/
def intakeLabelsSpec : ChangeSpec := { name := "intakeLabels", fn := fun _ => fun
  | [d1, d2, d3] => { results := [.lit (.bool true)], args := [d1, d2, d3] }
  | _ => none }
def intakeLabelsRow : OpenClaim := { program := "ytkaajgoeahahpaagreatdoor", sum := "ed156f0d3336ad24e597d2a17b24db694630b8cfc55d210dfdc2a71689459b5e", func := "awardingbody/awardingbodylaw21.IntakeLabels", spec := "intakeLabels", inPlace := ["internal/bytealg.CountString", "internal/bytealg.IndexByteString", "internal/bytealg.IndexString", "internal/abi.NoEscape", "internal/bytealg.MakeNoZero"], unfollowed := true, recurses := true, named := ["internal/bytealg.MaxLen", "awardingbody/rscode.powers", "awardingbody/rscode.logs"], plainKeys := false, apart := false, laid := [("awardingbody/rscode.powers", laid_awardingbody_rscode_powers), ("awardingbody/rscode.logs", laid_awardingbody_rscode_logs)] }
def IntakeLabelsSaid : Prop := intakeLabelsRow.holds Tryz.pinned (OpenSpec.ofChange intakeLabelsSpec)

/-- ITS FALSE NEIGHBOUR: 'it returns false'. Refute it at one input. -/
def intakeLabelsWrong : ChangeSpec := { name := "intakeLabels", fn := fun _ => fun
  | [d1, d2, d3] => { results := [.lit (.bool false)], args := [d1, d2, d3] }
  | _ => none }
def IntakeLabelsWrongFalsely : Prop := intakeLabelsRow.holds Tryz.pinned (OpenSpec.ofChange intakeLabelsWrong)

/-- 'awardingbodylaw21.IntakeSorts': WHATEVER THE INPUT: true; the input reads as it did. -/
def intakeSortsSpec : ChangeSpec := { name := "intakeSorts", fn := fun _ => fun
  | [d] => { results := [.lit (.bool true)], args := [d] }
  | _ => none }
def intakeSortsRow : OpenClaim := { program := "ytkaajgoeahahpaagreatdoor", sum := "ed156f0d3336ad24e597d2a17b24db694630b8cfc55d210dfdc2a71689459b5e", func := "awardingbody/awardingbodylaw21.IntakeSorts", spec := "intakeSorts", inPlace := ["internal/bytealg.CountString", "internal/bytealg.IndexByteString", "internal/bytealg.IndexString", "internal/abi.NoEscape", "internal/bytealg.MakeNoZero"], unfollowed := true, recurses := true, named := ["internal/bytealg.MaxLen", "awardingbody/rscode.powers", "awardingbody/rscode.logs"], plainKeys := false, apart := false, laid := [("awardingbody/rscode.powers", laid_awardingbody_rscode_powers), ("awardingbody/rscode.logs", laid_awardingbody_rscode_logs)] }
def IntakeSortsSaid : Prop := intakeSortsRow.holds Tryz.pinned (OpenSpec.ofChange intakeSortsSpec)

/-- ITS FALSE NEIGHBOUR: 'it returns false'. Refute it at one input. -/
def intakeSortsWrong : ChangeSpec := { name := "intakeSorts", fn := fun _ => fun
  | [d] => { results := [.lit (.bool false)], args := [d] }
  | _ => none }
def IntakeSortsWrongFalsely : Prop := intakeSortsRow.holds Tryz.pinned (OpenSpec.ofChange intakeSortsWrong)

/-- 'awardingbodylaw21.IntakeAnyOrder': WHATEVER THE INPUT: true; the input reads as it did. -/
def intakeAnyOrderSpec : ChangeSpec := { name := "intakeAnyOrder", fn := fun _ => fun
  | [d] => { results := [.lit (.bool true)], args := [d] }
  | _ => none }
def intakeAnyOrderRow : OpenClaim := { program := "ytkaajgoeahahpaagreatdoor", sum := "ed156f0d3336ad24e597d2a17b24db694630b8cfc55d210dfdc2a71689459b5e", func := "awardingbody/awardingbodylaw21.IntakeAnyOrder", spec := "intakeAnyOrder", inPlace := ["internal/bytealg.CountString", "internal/bytealg.IndexByteString", "internal/bytealg.IndexString", "internal/abi.NoEscape", "internal/bytealg.MakeNoZero"], unfollowed := true, recurses := true, named := ["internal/bytealg.MaxLen", "awardingbody/rscode.powers", "awardingbody/rscode.logs"], plainKeys := false, apart := false, laid := [("awardingbody/rscode.powers", laid_awardingbody_rscode_powers), ("awardingbody/rscode.logs", laid_awardingbody_rscode_logs)] }
def IntakeAnyOrderSaid : Prop := intakeAnyOrderRow.holds Tryz.pinned (OpenSpec.ofChange intakeAnyOrderSpec)

/-- ITS FALSE NEIGHBOUR: 'it returns false'. Refute it at one input. -/
def intakeAnyOrderWrong : ChangeSpec := { name := "intakeAnyOrder", fn := fun _ => fun
  | [d] => { results := [.lit (.bool false)], args := [d] }
  | _ => none }
def IntakeAnyOrderWrongFalsely : Prop := intakeAnyOrderRow.holds Tryz.pinned (OpenSpec.ofChange intakeAnyOrderWrong)

/-- 'awardingbodylaw21.IntakeFits': WHATEVER THE INPUT: true; the input reads as it did. -/
def intakeFitsSpec : ChangeSpec := { name := "intakeFits", fn := fun _ => fun
  | [d1, d2, d3] => { results := [.lit (.bool true)], args := [d1, d2, d3] }
  | _ => none }
def intakeFitsRow : OpenClaim := { program := "ytkaajgoeahahpaagreatdoor", sum := "ed156f0d3336ad24e597d2a17b24db694630b8cfc55d210dfdc2a71689459b5e", func := "awardingbody/awardingbodylaw21.IntakeFits", spec := "intakeFits", inPlace := ["internal/abi.NoEscape", "internal/bytealg.MakeNoZero", "internal/bytealg.CountString", "internal/bytealg.IndexByteString", "internal/bytealg.IndexString"], unfollowed := true, recurses := true, named := ["awardingbody/rscode.powers", "awardingbody/rscode.logs", "internal/bytealg.MaxLen"], plainKeys := false, apart := false, laid := [("awardingbody/rscode.powers", laid_awardingbody_rscode_powers), ("awardingbody/rscode.logs", laid_awardingbody_rscode_logs)] }
def IntakeFitsSaid : Prop := intakeFitsRow.holds Tryz.pinned (OpenSpec.ofChange intakeFitsSpec)

/-- ITS FALSE NEIGHBOUR: 'it returns false'. Refute it at one input. -/
def intakeFitsWrong : ChangeSpec := { name := "intakeFits", fn := fun _ => fun
  | [d1, d2, d3] => { results := [.lit (.bool false)], args := [d1, d2, d3] }
  | _ => none }
def IntakeFitsWrongFalsely : Prop := intakeFitsRow.holds Tryz.pinned (OpenSpec.ofChange intakeFitsWrong)

/-- 'awardingbodylaw21.IntakeStates': WHATEVER THE INPUT: true; the input reads as it did. -/
def intakeStatesSpec : ChangeSpec := { name := "intakeStates", fn := fun _ => fun
  | [d1, d2, d3, d4] => { results := [.lit (.bool true)], args := [d1, d2, d3, d4] }
  | _ => none }
def intakeStatesRow : OpenClaim := { program := "ytkaajgoeahahpaagreatdoor", sum := "ed156f0d3336ad24e597d2a17b24db694630b8cfc55d210dfdc2a71689459b5e", func := "awardingbody/awardingbodylaw21.IntakeStates", spec := "intakeStates", inPlace := ["internal/abi.NoEscape", "internal/bytealg.MakeNoZero", "internal/bytealg.CountString", "internal/bytealg.IndexByteString", "internal/bytealg.IndexString"], unfollowed := true, recurses := true, named := ["awardingbody/rscode.powers", "awardingbody/rscode.logs", "internal/bytealg.MaxLen"], plainKeys := false, apart := false, laid := [("awardingbody/rscode.powers", laid_awardingbody_rscode_powers), ("awardingbody/rscode.logs", laid_awardingbody_rscode_logs)] }
def IntakeStatesSaid : Prop := intakeStatesRow.holds Tryz.pinned (OpenSpec.ofChange intakeStatesSpec)

/-- ITS FALSE NEIGHBOUR: 'it returns false'. Refute it at one input. -/
def intakeStatesWrong : ChangeSpec := { name := "intakeStates", fn := fun _ => fun
  | [d1, d2, d3, d4] => { results := [.lit (.bool false)], args := [d1, d2, d3, d4] }
  | _ => none }
def IntakeStatesWrongFalsely : Prop := intakeStatesRow.holds Tryz.pinned (OpenSpec.ofChange intakeStatesWrong)

/-- 'awardingbodylaw21.IntakeOnce': WHATEVER THE INPUT: true; the input reads as it did. -/
def intakeOnceSpec : ChangeSpec := { name := "intakeOnce", fn := fun _ => fun
  | [d] => { results := [.lit (.bool true)], args := [d] }
  | _ => none }
def intakeOnceRow : OpenClaim := { program := "ytkaajgoeahahpaagreatdoor", sum := "ed156f0d3336ad24e597d2a17b24db694630b8cfc55d210dfdc2a71689459b5e", func := "awardingbody/awardingbodylaw21.IntakeOnce", spec := "intakeOnce", inPlace := ["internal/bytealg.CountString", "internal/bytealg.IndexByteString", "internal/bytealg.IndexString", "internal/abi.NoEscape", "internal/bytealg.MakeNoZero"], unfollowed := true, recurses := true, named := ["internal/bytealg.MaxLen", "awardingbody/rscode.powers", "awardingbody/rscode.logs"], plainKeys := false, apart := false, laid := [("awardingbody/rscode.powers", laid_awardingbody_rscode_powers), ("awardingbody/rscode.logs", laid_awardingbody_rscode_logs)] }
def IntakeOnceSaid : Prop := intakeOnceRow.holds Tryz.pinned (OpenSpec.ofChange intakeOnceSpec)

/-- ITS FALSE NEIGHBOUR: 'it returns false'. Refute it at one input. -/
def intakeOnceWrong : ChangeSpec := { name := "intakeOnce", fn := fun _ => fun
  | [d] => { results := [.lit (.bool false)], args := [d] }
  | _ => none }
def IntakeOnceWrongFalsely : Prop := intakeOnceRow.holds Tryz.pinned (OpenSpec.ofChange intakeOnceWrong)

/-- 'awardingbodylaw21.IntakeRejects': WHATEVER THE INPUT: true; the input reads as it did. -/
def intakeRejectsSpec : ChangeSpec := { name := "intakeRejects", fn := fun _ => fun
  | [d1, d2] => { results := [.lit (.bool true)], args := [d1, d2] }
  | _ => none }
def intakeRejectsRow : OpenClaim := { program := "ytkaajgoeahahpaagreatdoor", sum := "ed156f0d3336ad24e597d2a17b24db694630b8cfc55d210dfdc2a71689459b5e", func := "awardingbody/awardingbodylaw21.IntakeRejects", spec := "intakeRejects", inPlace := ["internal/bytealg.CountString", "internal/bytealg.IndexByteString", "internal/bytealg.IndexString", "internal/abi.NoEscape", "internal/bytealg.MakeNoZero"], unfollowed := true, recurses := true, named := ["internal/bytealg.MaxLen", "awardingbody/rscode.powers", "awardingbody/rscode.logs"], plainKeys := false, apart := false, laid := [("awardingbody/rscode.powers", laid_awardingbody_rscode_powers), ("awardingbody/rscode.logs", laid_awardingbody_rscode_logs)] }
def IntakeRejectsSaid : Prop := intakeRejectsRow.holds Tryz.pinned (OpenSpec.ofChange intakeRejectsSpec)

/-- ITS FALSE NEIGHBOUR: 'it returns false'. Refute it at one input. -/
def intakeRejectsWrong : ChangeSpec := { name := "intakeRejects", fn := fun _ => fun
  | [d1, d2] => { results := [.lit (.bool false)], args := [d1, d2] }
  | _ => none }
def IntakeRejectsWrongFalsely : Prop := intakeRejectsRow.holds Tryz.pinned (OpenSpec.ofChange intakeRejectsWrong)

/-- 'awardingbodylaw21.IntakeCopies': WHATEVER THE INPUT: true; the input reads as it did. -/
def intakeCopiesSpec : ChangeSpec := { name := "intakeCopies", fn := fun _ => fun
  | [d1, d2] => { results := [.lit (.bool true)], args := [d1, d2] }
  | _ => none }
def intakeCopiesRow : OpenClaim := { program := "ytkaajgoeahahpaagreatdoor", sum := "ed156f0d3336ad24e597d2a17b24db694630b8cfc55d210dfdc2a71689459b5e", func := "awardingbody/awardingbodylaw21.IntakeCopies", spec := "intakeCopies", inPlace := ["internal/bytealg.CountString", "internal/bytealg.IndexByteString", "internal/bytealg.IndexString", "internal/abi.NoEscape", "internal/bytealg.MakeNoZero"], unfollowed := true, recurses := true, named := ["internal/bytealg.MaxLen", "awardingbody/rscode.powers", "awardingbody/rscode.logs"], plainKeys := false, apart := false, laid := [("awardingbody/rscode.powers", laid_awardingbody_rscode_powers), ("awardingbody/rscode.logs", laid_awardingbody_rscode_logs)] }
def IntakeCopiesSaid : Prop := intakeCopiesRow.holds Tryz.pinned (OpenSpec.ofChange intakeCopiesSpec)

/-- ITS FALSE NEIGHBOUR: 'it returns false'. Refute it at one input. -/
def intakeCopiesWrong : ChangeSpec := { name := "intakeCopies", fn := fun _ => fun
  | [d1, d2] => { results := [.lit (.bool false)], args := [d1, d2] }
  | _ => none }
def IntakeCopiesWrongFalsely : Prop := intakeCopiesRow.holds Tryz.pinned (OpenSpec.ofChange intakeCopiesWrong)

/-- 'awardingbodylaw21.IntakeIndexes': WHATEVER THE INPUT: true; the input reads as it did. -/
def intakeIndexesSpec : ChangeSpec := { name := "intakeIndexes", fn := fun _ => fun
  | [d1, d2] => { results := [.lit (.bool true)], args := [d1, d2] }
  | _ => none }
def intakeIndexesRow : OpenClaim := { program := "ytkaajgoeahahpaagreatdoor", sum := "ed156f0d3336ad24e597d2a17b24db694630b8cfc55d210dfdc2a71689459b5e", func := "awardingbody/awardingbodylaw21.IntakeIndexes", spec := "intakeIndexes", inPlace := ["internal/abi.NoEscape", "internal/bytealg.MakeNoZero", "internal/bytealg.CountString", "internal/bytealg.IndexByteString", "internal/bytealg.IndexString"], unfollowed := true, recurses := true, named := ["awardingbody/rscode.powers", "awardingbody/rscode.logs", "internal/bytealg.MaxLen"], plainKeys := false, apart := false, laid := [("awardingbody/rscode.powers", laid_awardingbody_rscode_powers), ("awardingbody/rscode.logs", laid_awardingbody_rscode_logs)] }
def IntakeIndexesSaid : Prop := intakeIndexesRow.holds Tryz.pinned (OpenSpec.ofChange intakeIndexesSpec)

/-- ITS FALSE NEIGHBOUR: 'it returns false'. Refute it at one input. -/
def intakeIndexesWrong : ChangeSpec := { name := "intakeIndexes", fn := fun _ => fun
  | [d1, d2] => { results := [.lit (.bool false)], args := [d1, d2] }
  | _ => none }
def IntakeIndexesWrongFalsely : Prop := intakeIndexesRow.holds Tryz.pinned (OpenSpec.ofChange intakeIndexesWrong)

/-- 'awardingbodylaw21.IntakeWhole': WHATEVER THE INPUT: true; the input reads as it did. -/
def intakeWholeSpec : ChangeSpec := { name := "intakeWhole", fn := fun _ => fun
  | [d] => { results := [.lit (.bool true)], args := [d] }
  | _ => none }
def intakeWholeRow : OpenClaim := { program := "ytkaajgoeahahpaagreatdoor", sum := "ed156f0d3336ad24e597d2a17b24db694630b8cfc55d210dfdc2a71689459b5e", func := "awardingbody/awardingbodylaw21.IntakeWhole", spec := "intakeWhole", inPlace := ["internal/bytealg.CountString", "internal/bytealg.IndexByteString", "internal/bytealg.IndexString", "internal/abi.NoEscape", "internal/bytealg.MakeNoZero"], unfollowed := true, recurses := true, named := ["internal/bytealg.MaxLen", "awardingbody/rscode.powers", "awardingbody/rscode.logs"], plainKeys := false, apart := false, laid := [("awardingbody/rscode.powers", laid_awardingbody_rscode_powers), ("awardingbody/rscode.logs", laid_awardingbody_rscode_logs)] }
def IntakeWholeSaid : Prop := intakeWholeRow.holds Tryz.pinned (OpenSpec.ofChange intakeWholeSpec)

/-- ITS FALSE NEIGHBOUR: 'it returns false'. Refute it at one input. -/
def intakeWholeWrong : ChangeSpec := { name := "intakeWhole", fn := fun _ => fun
  | [d] => { results := [.lit (.bool false)], args := [d] }
  | _ => none }
def IntakeWholeWrongFalsely : Prop := intakeWholeRow.holds Tryz.pinned (OpenSpec.ofChange intakeWholeWrong)

/- THE SECOND FORM. 'bulk': how many values and letters a reading holds, each counted each time it is reached (what is shared counts as often as it is met; a slice's spare places count too). A statement '..UptoSaid' is the law's where the arguments, and the package variables that the reading takes, are together of bulk at most 1048576: NARROWER than '..Said'. Prove '..Said' where nothing that the law and all that it calls make is longer than what came in: it says more and counts as full. Else prove '..UptoSaid'. A law counts once. -/
mutual
def uptoBulk {H : Type} : DataW H → Nat
  | .lit (.string bytes) => bytes.length + 1
  | .lit _ => 1
  | .nil => 1
  | .ptr d => uptoBulk d + 1
  | .slice elems spare => uptoBulkAll elems + uptoBulkAll spare + 1
  | .agg parts => uptoBulkAll parts + 1
  | .iface _ d => uptoBulk d + 1
  | .map entries => uptoBulkEntries entries + 1
  | .held _ => 1
def uptoBulkAll {H : Type} : List (DataW H) → Nat
  | [] => 0
  | d :: r => uptoBulk d + uptoBulkAll r
def uptoBulkEntries {H : Type} : List (Lit × DataW H) → Nat
  | [] => 0
  | x :: r => uptoBulkEntry x + uptoBulkEntries r
def uptoBulkEntry {H : Type} : Lit × DataW H → Nat
  | (.string bytes, d) => bytes.length + uptoBulk d + 1
  | (_, d) => uptoBulk d + 1
 end
def uptoSmall : (H : Type) → List (DataW H) → Bool := fun _ ds => decide (uptoBulkAll ds ≤ 1048576)
def OpenSpec.upto (s : _root_.Go.ChangeSpec) : _root_.Go.OpenSpec := { _root_.Go.OpenSpec.ofChange s with cond := some uptoSmall }

/-- 'awardingbodylaw21.IntakeChecks', WHERE WHAT IT READS IS OF BULK AT MOST 1048576: true; the input reads as it did. -/
def intakeChecksUptoRow : OpenClaim := { program := "ytkaajgoeahahpaagreatdoor", sum := "ed156f0d3336ad24e597d2a17b24db694630b8cfc55d210dfdc2a71689459b5e", func := "awardingbody/awardingbodylaw21.IntakeChecks", spec := "intakeChecks", inPlace := ["internal/abi.NoEscape", "internal/bytealg.MakeNoZero", "internal/bytealg.CountString", "internal/bytealg.IndexByteString", "internal/bytealg.IndexString"], unfollowed := true, recurses := true, named := ["awardingbody/rscode.powers", "awardingbody/rscode.logs", "internal/bytealg.MaxLen"], plainKeys := false, apart := false, laid := [("awardingbody/rscode.powers", laid_awardingbody_rscode_powers), ("awardingbody/rscode.logs", laid_awardingbody_rscode_logs)], narrowed := true }
def IntakeChecksUptoSaid : Prop := intakeChecksUptoRow.holds Tryz.pinned (OpenSpec.upto intakeChecksSpec)

/-- 'awardingbodylaw21.IntakeCanonical', WHERE WHAT IT READS IS OF BULK AT MOST 1048576: true; the input reads as it did. -/
def intakeCanonicalUptoRow : OpenClaim := { program := "ytkaajgoeahahpaagreatdoor", sum := "ed156f0d3336ad24e597d2a17b24db694630b8cfc55d210dfdc2a71689459b5e", func := "awardingbody/awardingbodylaw21.IntakeCanonical", spec := "intakeCanonical", inPlace := ["internal/abi.NoEscape", "internal/bytealg.MakeNoZero", "internal/bytealg.CountString", "internal/bytealg.IndexByteString", "internal/bytealg.IndexString"], unfollowed := true, recurses := true, named := ["awardingbody/rscode.powers", "awardingbody/rscode.logs", "internal/bytealg.MaxLen"], plainKeys := false, apart := false, laid := [("awardingbody/rscode.powers", laid_awardingbody_rscode_powers), ("awardingbody/rscode.logs", laid_awardingbody_rscode_logs)], narrowed := true }
def IntakeCanonicalUptoSaid : Prop := intakeCanonicalUptoRow.holds Tryz.pinned (OpenSpec.upto intakeCanonicalSpec)

/-- 'awardingbodylaw21.IntakeDiffers', WHERE WHAT IT READS IS OF BULK AT MOST 1048576: true; the input reads as it did. -/
def intakeDiffersUptoRow : OpenClaim := { program := "ytkaajgoeahahpaagreatdoor", sum := "ed156f0d3336ad24e597d2a17b24db694630b8cfc55d210dfdc2a71689459b5e", func := "awardingbody/awardingbodylaw21.IntakeDiffers", spec := "intakeDiffers", inPlace := ["internal/abi.NoEscape", "internal/bytealg.MakeNoZero", "internal/bytealg.CountString", "internal/bytealg.IndexByteString", "internal/bytealg.IndexString"], unfollowed := true, recurses := true, named := ["awardingbody/rscode.powers", "awardingbody/rscode.logs", "internal/bytealg.MaxLen"], plainKeys := false, apart := false, laid := [("awardingbody/rscode.powers", laid_awardingbody_rscode_powers), ("awardingbody/rscode.logs", laid_awardingbody_rscode_logs)], narrowed := true }
def IntakeDiffersUptoSaid : Prop := intakeDiffersUptoRow.holds Tryz.pinned (OpenSpec.upto intakeDiffersSpec)

/-- 'awardingbodylaw21.IntakeLabels', WHERE WHAT IT READS IS OF BULK AT MOST 1048576: true; the input reads as it did. -/
def intakeLabelsUptoRow : OpenClaim := { program := "ytkaajgoeahahpaagreatdoor", sum := "ed156f0d3336ad24e597d2a17b24db694630b8cfc55d210dfdc2a71689459b5e", func := "awardingbody/awardingbodylaw21.IntakeLabels", spec := "intakeLabels", inPlace := ["internal/bytealg.CountString", "internal/bytealg.IndexByteString", "internal/bytealg.IndexString", "internal/abi.NoEscape", "internal/bytealg.MakeNoZero"], unfollowed := true, recurses := true, named := ["internal/bytealg.MaxLen", "awardingbody/rscode.powers", "awardingbody/rscode.logs"], plainKeys := false, apart := false, laid := [("awardingbody/rscode.powers", laid_awardingbody_rscode_powers), ("awardingbody/rscode.logs", laid_awardingbody_rscode_logs)], narrowed := true }
def IntakeLabelsUptoSaid : Prop := intakeLabelsUptoRow.holds Tryz.pinned (OpenSpec.upto intakeLabelsSpec)

/-- 'awardingbodylaw21.IntakeSorts', WHERE WHAT IT READS IS OF BULK AT MOST 1048576: true; the input reads as it did. -/
def intakeSortsUptoRow : OpenClaim := { program := "ytkaajgoeahahpaagreatdoor", sum := "ed156f0d3336ad24e597d2a17b24db694630b8cfc55d210dfdc2a71689459b5e", func := "awardingbody/awardingbodylaw21.IntakeSorts", spec := "intakeSorts", inPlace := ["internal/bytealg.CountString", "internal/bytealg.IndexByteString", "internal/bytealg.IndexString", "internal/abi.NoEscape", "internal/bytealg.MakeNoZero"], unfollowed := true, recurses := true, named := ["internal/bytealg.MaxLen", "awardingbody/rscode.powers", "awardingbody/rscode.logs"], plainKeys := false, apart := false, laid := [("awardingbody/rscode.powers", laid_awardingbody_rscode_powers), ("awardingbody/rscode.logs", laid_awardingbody_rscode_logs)], narrowed := true }
def IntakeSortsUptoSaid : Prop := intakeSortsUptoRow.holds Tryz.pinned (OpenSpec.upto intakeSortsSpec)

/-- 'awardingbodylaw21.IntakeAnyOrder', WHERE WHAT IT READS IS OF BULK AT MOST 1048576: true; the input reads as it did. -/
def intakeAnyOrderUptoRow : OpenClaim := { program := "ytkaajgoeahahpaagreatdoor", sum := "ed156f0d3336ad24e597d2a17b24db694630b8cfc55d210dfdc2a71689459b5e", func := "awardingbody/awardingbodylaw21.IntakeAnyOrder", spec := "intakeAnyOrder", inPlace := ["internal/bytealg.CountString", "internal/bytealg.IndexByteString", "internal/bytealg.IndexString", "internal/abi.NoEscape", "internal/bytealg.MakeNoZero"], unfollowed := true, recurses := true, named := ["internal/bytealg.MaxLen", "awardingbody/rscode.powers", "awardingbody/rscode.logs"], plainKeys := false, apart := false, laid := [("awardingbody/rscode.powers", laid_awardingbody_rscode_powers), ("awardingbody/rscode.logs", laid_awardingbody_rscode_logs)], narrowed := true }
def IntakeAnyOrderUptoSaid : Prop := intakeAnyOrderUptoRow.holds Tryz.pinned (OpenSpec.upto intakeAnyOrderSpec)

/-- 'awardingbodylaw21.IntakeFits', WHERE WHAT IT READS IS OF BULK AT MOST 1048576: true; the input reads as it did. -/
def intakeFitsUptoRow : OpenClaim := { program := "ytkaajgoeahahpaagreatdoor", sum := "ed156f0d3336ad24e597d2a17b24db694630b8cfc55d210dfdc2a71689459b5e", func := "awardingbody/awardingbodylaw21.IntakeFits", spec := "intakeFits", inPlace := ["internal/abi.NoEscape", "internal/bytealg.MakeNoZero", "internal/bytealg.CountString", "internal/bytealg.IndexByteString", "internal/bytealg.IndexString"], unfollowed := true, recurses := true, named := ["awardingbody/rscode.powers", "awardingbody/rscode.logs", "internal/bytealg.MaxLen"], plainKeys := false, apart := false, laid := [("awardingbody/rscode.powers", laid_awardingbody_rscode_powers), ("awardingbody/rscode.logs", laid_awardingbody_rscode_logs)], narrowed := true }
def IntakeFitsUptoSaid : Prop := intakeFitsUptoRow.holds Tryz.pinned (OpenSpec.upto intakeFitsSpec)

/-- 'awardingbodylaw21.IntakeStates', WHERE WHAT IT READS IS OF BULK AT MOST 1048576: true; the input reads as it did. -/
def intakeStatesUptoRow : OpenClaim := { program := "ytkaajgoeahahpaagreatdoor", sum := "ed156f0d3336ad24e597d2a17b24db694630b8cfc55d210dfdc2a71689459b5e", func := "awardingbody/awardingbodylaw21.IntakeStates", spec := "intakeStates", inPlace := ["internal/abi.NoEscape", "internal/bytealg.MakeNoZero", "internal/bytealg.CountString", "internal/bytealg.IndexByteString", "internal/bytealg.IndexString"], unfollowed := true, recurses := true, named := ["awardingbody/rscode.powers", "awardingbody/rscode.logs", "internal/bytealg.MaxLen"], plainKeys := false, apart := false, laid := [("awardingbody/rscode.powers", laid_awardingbody_rscode_powers), ("awardingbody/rscode.logs", laid_awardingbody_rscode_logs)], narrowed := true }
def IntakeStatesUptoSaid : Prop := intakeStatesUptoRow.holds Tryz.pinned (OpenSpec.upto intakeStatesSpec)

/-- 'awardingbodylaw21.IntakeOnce', WHERE WHAT IT READS IS OF BULK AT MOST 1048576: true; the input reads as it did. -/
def intakeOnceUptoRow : OpenClaim := { program := "ytkaajgoeahahpaagreatdoor", sum := "ed156f0d3336ad24e597d2a17b24db694630b8cfc55d210dfdc2a71689459b5e", func := "awardingbody/awardingbodylaw21.IntakeOnce", spec := "intakeOnce", inPlace := ["internal/bytealg.CountString", "internal/bytealg.IndexByteString", "internal/bytealg.IndexString", "internal/abi.NoEscape", "internal/bytealg.MakeNoZero"], unfollowed := true, recurses := true, named := ["internal/bytealg.MaxLen", "awardingbody/rscode.powers", "awardingbody/rscode.logs"], plainKeys := false, apart := false, laid := [("awardingbody/rscode.powers", laid_awardingbody_rscode_powers), ("awardingbody/rscode.logs", laid_awardingbody_rscode_logs)], narrowed := true }
def IntakeOnceUptoSaid : Prop := intakeOnceUptoRow.holds Tryz.pinned (OpenSpec.upto intakeOnceSpec)

/-- 'awardingbodylaw21.IntakeRejects', WHERE WHAT IT READS IS OF BULK AT MOST 1048576: true; the input reads as it did. -/
def intakeRejectsUptoRow : OpenClaim := { program := "ytkaajgoeahahpaagreatdoor", sum := "ed156f0d3336ad24e597d2a17b24db694630b8cfc55d210dfdc2a71689459b5e", func := "awardingbody/awardingbodylaw21.IntakeRejects", spec := "intakeRejects", inPlace := ["internal/bytealg.CountString", "internal/bytealg.IndexByteString", "internal/bytealg.IndexString", "internal/abi.NoEscape", "internal/bytealg.MakeNoZero"], unfollowed := true, recurses := true, named := ["internal/bytealg.MaxLen", "awardingbody/rscode.powers", "awardingbody/rscode.logs"], plainKeys := false, apart := false, laid := [("awardingbody/rscode.powers", laid_awardingbody_rscode_powers), ("awardingbody/rscode.logs", laid_awardingbody_rscode_logs)], narrowed := true }
def IntakeRejectsUptoSaid : Prop := intakeRejectsUptoRow.holds Tryz.pinned (OpenSpec.upto intakeRejectsSpec)

/-- 'awardingbodylaw21.IntakeCopies', WHERE WHAT IT READS IS OF BULK AT MOST 1048576: true; the input reads as it did. -/
def intakeCopiesUptoRow : OpenClaim := { program := "ytkaajgoeahahpaagreatdoor", sum := "ed156f0d3336ad24e597d2a17b24db694630b8cfc55d210dfdc2a71689459b5e", func := "awardingbody/awardingbodylaw21.IntakeCopies", spec := "intakeCopies", inPlace := ["internal/bytealg.CountString", "internal/bytealg.IndexByteString", "internal/bytealg.IndexString", "internal/abi.NoEscape", "internal/bytealg.MakeNoZero"], unfollowed := true, recurses := true, named := ["internal/bytealg.MaxLen", "awardingbody/rscode.powers", "awardingbody/rscode.logs"], plainKeys := false, apart := false, laid := [("awardingbody/rscode.powers", laid_awardingbody_rscode_powers), ("awardingbody/rscode.logs", laid_awardingbody_rscode_logs)], narrowed := true }
def IntakeCopiesUptoSaid : Prop := intakeCopiesUptoRow.holds Tryz.pinned (OpenSpec.upto intakeCopiesSpec)

/-- 'awardingbodylaw21.IntakeIndexes', WHERE WHAT IT READS IS OF BULK AT MOST 1048576: true; the input reads as it did. -/
def intakeIndexesUptoRow : OpenClaim := { program := "ytkaajgoeahahpaagreatdoor", sum := "ed156f0d3336ad24e597d2a17b24db694630b8cfc55d210dfdc2a71689459b5e", func := "awardingbody/awardingbodylaw21.IntakeIndexes", spec := "intakeIndexes", inPlace := ["internal/abi.NoEscape", "internal/bytealg.MakeNoZero", "internal/bytealg.CountString", "internal/bytealg.IndexByteString", "internal/bytealg.IndexString"], unfollowed := true, recurses := true, named := ["awardingbody/rscode.powers", "awardingbody/rscode.logs", "internal/bytealg.MaxLen"], plainKeys := false, apart := false, laid := [("awardingbody/rscode.powers", laid_awardingbody_rscode_powers), ("awardingbody/rscode.logs", laid_awardingbody_rscode_logs)], narrowed := true }
def IntakeIndexesUptoSaid : Prop := intakeIndexesUptoRow.holds Tryz.pinned (OpenSpec.upto intakeIndexesSpec)

/-- 'awardingbodylaw21.IntakeWhole', WHERE WHAT IT READS IS OF BULK AT MOST 1048576: true; the input reads as it did. -/
def intakeWholeUptoRow : OpenClaim := { program := "ytkaajgoeahahpaagreatdoor", sum := "ed156f0d3336ad24e597d2a17b24db694630b8cfc55d210dfdc2a71689459b5e", func := "awardingbody/awardingbodylaw21.IntakeWhole", spec := "intakeWhole", inPlace := ["internal/bytealg.CountString", "internal/bytealg.IndexByteString", "internal/bytealg.IndexString", "internal/abi.NoEscape", "internal/bytealg.MakeNoZero"], unfollowed := true, recurses := true, named := ["internal/bytealg.MaxLen", "awardingbody/rscode.powers", "awardingbody/rscode.logs"], plainKeys := false, apart := false, laid := [("awardingbody/rscode.powers", laid_awardingbody_rscode_powers), ("awardingbody/rscode.logs", laid_awardingbody_rscode_logs)], narrowed := true }
def IntakeWholeUptoSaid : Prop := intakeWholeUptoRow.holds Tryz.pinned (OpenSpec.upto intakeWholeSpec)

end Rows
end Go.Proofs.YtkaajgoeahahpaaGreatDoor
