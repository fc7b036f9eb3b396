/-
  NARROWER THAN 'FOR EVERY INPUT', by the rows' own cells (each row's printed sentence says how): RscodeMultiplies: laid · RscodePowers: laid · RscodeField: laid · RscodeEncodes: laid · RscodeCodewords: laid · RscodeDecodes: laid · RscodeCorrects: laid · RscodeNear: laid · RscodeLinear: laid · RscodeApart: laid · RscodeDistances: laid.
  DERIVED. THE GIVEN ROWS OF THIS SEAT. 11 by the template 'for every input the law returns true; each argument reads behind the call as it read before'; 0 by the template 'total and deterministic' (their statements: YtlabmdekdhjofaaDoorTotals.lean).
  GIVEN WITH THE SEED: the statements are not yours to turn. If you find one false, say at which input.
  Laid BY PROGRAM, IN A SANDBOX (cutbox-rows.mjs): the forced cells as the released guide's own fill.sh prints them over the translation 999323601dfe2e4b… (all of the seat's roots in one cut). By AI agents, Wed Nov 11 2026. No macro, syntax, notation, axiom, sorry.
-/
import Derived.Test.YtlabmdekdhjofaaDoorChecked
import GoSem.Claim
import GoSem.ClaimJoined
import GoSem.ClaimMapViews
import Derived.JoinedTies
import Derived.KernelRfl
namespace Go.Proofs.YtlabmdekdhjofaaDoor
/- THE CELL 'sum', in the pinned program and in every row, IS THE sha256 OF THE DUMP (.gsa) THAT YtlabmdekdhjofaaDoorProg.lean LOADS. Nothing in Lean hashes anything: it is a label: what it is worth is what the hold of that sum in a sandbox is worth. -/
noncomputable def Tryd.pinned : Pinned := { name := "ytlabmdekdhjofaadoor", sum := "999323601dfe2e4b66fb4636a9a73d02a88b1a593299b5dd0cf2b880e2bbada5", checked := Tryd.checked }
namespace Rows
def none {H : Type} : Left H := { results := [], args := [] }

/- WHAT THE LISTED PACKAGE-LEVEL VARIABLES READ AS WHEN THE CALL BEGINS. Each datum BY PROGRAM (the guide's laid-datum.mjs) off the statement by which the dump's own 'gosem.cut.vars' lays the variable. In a bare row this is a premise. The card (YtlabmdekdhjofaaDoorCards.lean) ties it to the program's text. -/
def laid_awardingbody_rscode_powers {H : Type} : DataW H := .agg [.lit (.int .i64 1), .lit (.int .i64 2), .lit (.int .i64 4), .lit (.int .i64 8), .lit (.int .i64 16), .lit (.int .i64 5), .lit (.int .i64 10), .lit (.int .i64 20), .lit (.int .i64 13), .lit (.int .i64 26), .lit (.int .i64 17), .lit (.int .i64 7), .lit (.int .i64 14), .lit (.int .i64 28), .lit (.int .i64 29), .lit (.int .i64 31), .lit (.int .i64 27), .lit (.int .i64 19), .lit (.int .i64 3), .lit (.int .i64 6), .lit (.int .i64 12), .lit (.int .i64 24), .lit (.int .i64 21), .lit (.int .i64 15), .lit (.int .i64 30), .lit (.int .i64 25), .lit (.int .i64 23), .lit (.int .i64 11), .lit (.int .i64 22), .lit (.int .i64 9), .lit (.int .i64 18)]
def laid_awardingbody_rscode_logs {H : Type} : DataW H := .agg [.lit (.int .i64 0), .lit (.int .i64 0), .lit (.int .i64 1), .lit (.int .i64 18), .lit (.int .i64 2), .lit (.int .i64 5), .lit (.int .i64 19), .lit (.int .i64 11), .lit (.int .i64 3), .lit (.int .i64 29), .lit (.int .i64 6), .lit (.int .i64 27), .lit (.int .i64 20), .lit (.int .i64 8), .lit (.int .i64 12), .lit (.int .i64 23), .lit (.int .i64 4), .lit (.int .i64 10), .lit (.int .i64 30), .lit (.int .i64 17), .lit (.int .i64 7), .lit (.int .i64 22), .lit (.int .i64 28), .lit (.int .i64 26), .lit (.int .i64 21), .lit (.int .i64 25), .lit (.int .i64 9), .lit (.int .i64 16), .lit (.int .i64 13), .lit (.int .i64 14), .lit (.int .i64 24), .lit (.int .i64 15)]

/-- 'awardingbodylaw18.RscodeMultiplies': WHATEVER THE INPUT: true; the input reads as it did. -/
def rscodeMultipliesSpec : ChangeSpec := { name := "rscodeMultiplies", fn := fun _ => fun
  | [d1, d2] => { results := [.lit (.bool true)], args := [d1, d2] }
  | _ => none }
def rscodeMultipliesRow : OpenClaim := { program := "ytlabmdekdhjofaadoor", sum := "999323601dfe2e4b66fb4636a9a73d02a88b1a593299b5dd0cf2b880e2bbada5", func := "awardingbody/awardingbodylaw18.RscodeMultiplies", spec := "rscodeMultiplies", unfollowed := true, recurses := true, named := ["awardingbody/rscode.logs", "awardingbody/rscode.powers"], apart := false, laid := [("awardingbody/rscode.powers", laid_awardingbody_rscode_powers), ("awardingbody/rscode.logs", laid_awardingbody_rscode_logs)] }
def RscodeMultipliesSaid : Prop := rscodeMultipliesRow.holds Tryd.pinned (OpenSpec.ofChange rscodeMultipliesSpec)

/-- ITS FALSE NEIGHBOUR: 'it returns false'. Refute it at one input. -/
def rscodeMultipliesWrong : ChangeSpec := { name := "rscodeMultiplies", fn := fun _ => fun
  | [d1, d2] => { results := [.lit (.bool false)], args := [d1, d2] }
  | _ => none }
def RscodeMultipliesWrongFalsely : Prop := rscodeMultipliesRow.holds Tryd.pinned (OpenSpec.ofChange rscodeMultipliesWrong)

/-- 'awardingbodylaw18.RscodePowers': WHATEVER THE INPUT: true; the input reads as it did. -/
def rscodePowersSpec : ChangeSpec := { name := "rscodePowers", fn := fun _ => fun
  | [d1, d2] => { results := [.lit (.bool true)], args := [d1, d2] }
  | _ => none }
def rscodePowersRow : OpenClaim := { program := "ytlabmdekdhjofaadoor", sum := "999323601dfe2e4b66fb4636a9a73d02a88b1a593299b5dd0cf2b880e2bbada5", func := "awardingbody/awardingbodylaw18.RscodePowers", spec := "rscodePowers", unfollowed := true, recurses := true, named := ["awardingbody/rscode.powers", "awardingbody/rscode.logs"], apart := false, laid := [("awardingbody/rscode.powers", laid_awardingbody_rscode_powers), ("awardingbody/rscode.logs", laid_awardingbody_rscode_logs)] }
def RscodePowersSaid : Prop := rscodePowersRow.holds Tryd.pinned (OpenSpec.ofChange rscodePowersSpec)

/-- ITS FALSE NEIGHBOUR: 'it returns false'. Refute it at one input. -/
def rscodePowersWrong : ChangeSpec := { name := "rscodePowers", fn := fun _ => fun
  | [d1, d2] => { results := [.lit (.bool false)], args := [d1, d2] }
  | _ => none }
def RscodePowersWrongFalsely : Prop := rscodePowersRow.holds Tryd.pinned (OpenSpec.ofChange rscodePowersWrong)

/-- 'awardingbodylaw18.RscodeField': WHATEVER THE INPUT: true; the input reads as it did. -/
def rscodeFieldSpec : ChangeSpec := { name := "rscodeField", fn := fun _ => fun
  | [d1, d2, d3] => { results := [.lit (.bool true)], args := [d1, d2, d3] }
  | _ => none }
def rscodeFieldRow : OpenClaim := { program := "ytlabmdekdhjofaadoor", sum := "999323601dfe2e4b66fb4636a9a73d02a88b1a593299b5dd0cf2b880e2bbada5", func := "awardingbody/awardingbodylaw18.RscodeField", spec := "rscodeField", unfollowed := true, recurses := true, named := ["awardingbody/rscode.logs", "awardingbody/rscode.powers"], apart := false, laid := [("awardingbody/rscode.powers", laid_awardingbody_rscode_powers), ("awardingbody/rscode.logs", laid_awardingbody_rscode_logs)] }
def RscodeFieldSaid : Prop := rscodeFieldRow.holds Tryd.pinned (OpenSpec.ofChange rscodeFieldSpec)

/-- ITS FALSE NEIGHBOUR: 'it returns false'. Refute it at one input. -/
def rscodeFieldWrong : ChangeSpec := { name := "rscodeField", fn := fun _ => fun
  | [d1, d2, d3] => { results := [.lit (.bool false)], args := [d1, d2, d3] }
  | _ => none }
def RscodeFieldWrongFalsely : Prop := rscodeFieldRow.holds Tryd.pinned (OpenSpec.ofChange rscodeFieldWrong)

/-- 'awardingbodylaw18.RscodeEncodes': WHATEVER THE INPUT: true; the input reads as it did. -/
def rscodeEncodesSpec : ChangeSpec := { name := "rscodeEncodes", fn := fun _ => fun
  | [d1, d2] => { results := [.lit (.bool true)], args := [d1, d2] }
  | _ => none }
def rscodeEncodesRow : OpenClaim := { program := "ytlabmdekdhjofaadoor", sum := "999323601dfe2e4b66fb4636a9a73d02a88b1a593299b5dd0cf2b880e2bbada5", func := "awardingbody/awardingbodylaw18.RscodeEncodes", spec := "rscodeEncodes", unfollowed := true, recurses := true, named := ["awardingbody/rscode.powers", "awardingbody/rscode.logs"], apart := false, laid := [("awardingbody/rscode.powers", laid_awardingbody_rscode_powers), ("awardingbody/rscode.logs", laid_awardingbody_rscode_logs)] }
def RscodeEncodesSaid : Prop := rscodeEncodesRow.holds Tryd.pinned (OpenSpec.ofChange rscodeEncodesSpec)

/-- ITS FALSE NEIGHBOUR: 'it returns false'. Refute it at one input. -/
def rscodeEncodesWrong : ChangeSpec := { name := "rscodeEncodes", fn := fun _ => fun
  | [d1, d2] => { results := [.lit (.bool false)], args := [d1, d2] }
  | _ => none }
def RscodeEncodesWrongFalsely : Prop := rscodeEncodesRow.holds Tryd.pinned (OpenSpec.ofChange rscodeEncodesWrong)

/-- 'awardingbodylaw18.RscodeCodewords': WHATEVER THE INPUT: true; the input reads as it did. -/
def rscodeCodewordsSpec : ChangeSpec := { name := "rscodeCodewords", fn := fun _ => fun
  | [d1, d2] => { results := [.lit (.bool true)], args := [d1, d2] }
  | _ => none }
def rscodeCodewordsRow : OpenClaim := { program := "ytlabmdekdhjofaadoor", sum := "999323601dfe2e4b66fb4636a9a73d02a88b1a593299b5dd0cf2b880e2bbada5", func := "awardingbody/awardingbodylaw18.RscodeCodewords", spec := "rscodeCodewords", unfollowed := true, recurses := true, named := ["awardingbody/rscode.powers", "awardingbody/rscode.logs"], apart := false, laid := [("awardingbody/rscode.powers", laid_awardingbody_rscode_powers), ("awardingbody/rscode.logs", laid_awardingbody_rscode_logs)] }
def RscodeCodewordsSaid : Prop := rscodeCodewordsRow.holds Tryd.pinned (OpenSpec.ofChange rscodeCodewordsSpec)

/-- ITS FALSE NEIGHBOUR: 'it returns false'. Refute it at one input. -/
def rscodeCodewordsWrong : ChangeSpec := { name := "rscodeCodewords", fn := fun _ => fun
  | [d1, d2] => { results := [.lit (.bool false)], args := [d1, d2] }
  | _ => none }
def RscodeCodewordsWrongFalsely : Prop := rscodeCodewordsRow.holds Tryd.pinned (OpenSpec.ofChange rscodeCodewordsWrong)

/-- 'awardingbodylaw18.RscodeDecodes': WHATEVER THE INPUT: true; the input reads as it did. -/
def rscodeDecodesSpec : ChangeSpec := { name := "rscodeDecodes", fn := fun _ => fun
  | [d1, d2] => { results := [.lit (.bool true)], args := [d1, d2] }
  | _ => none }
def rscodeDecodesRow : OpenClaim := { program := "ytlabmdekdhjofaadoor", sum := "999323601dfe2e4b66fb4636a9a73d02a88b1a593299b5dd0cf2b880e2bbada5", func := "awardingbody/awardingbodylaw18.RscodeDecodes", spec := "rscodeDecodes", unfollowed := true, recurses := true, named := ["awardingbody/rscode.powers", "awardingbody/rscode.logs"], apart := false, laid := [("awardingbody/rscode.powers", laid_awardingbody_rscode_powers), ("awardingbody/rscode.logs", laid_awardingbody_rscode_logs)] }
def RscodeDecodesSaid : Prop := rscodeDecodesRow.holds Tryd.pinned (OpenSpec.ofChange rscodeDecodesSpec)

/-- ITS FALSE NEIGHBOUR: 'it returns false'. Refute it at one input. -/
def rscodeDecodesWrong : ChangeSpec := { name := "rscodeDecodes", fn := fun _ => fun
  | [d1, d2] => { results := [.lit (.bool false)], args := [d1, d2] }
  | _ => none }
def RscodeDecodesWrongFalsely : Prop := rscodeDecodesRow.holds Tryd.pinned (OpenSpec.ofChange rscodeDecodesWrong)

/-- 'awardingbodylaw18.RscodeCorrects': WHATEVER THE INPUT: true; the input reads as it did. -/
def rscodeCorrectsSpec : ChangeSpec := { name := "rscodeCorrects", fn := fun _ => fun
  | [d1, d2, d3] => { results := [.lit (.bool true)], args := [d1, d2, d3] }
  | _ => none }
def rscodeCorrectsRow : OpenClaim := { program := "ytlabmdekdhjofaadoor", sum := "999323601dfe2e4b66fb4636a9a73d02a88b1a593299b5dd0cf2b880e2bbada5", func := "awardingbody/awardingbodylaw18.RscodeCorrects", spec := "rscodeCorrects", unfollowed := true, recurses := true, named := ["awardingbody/rscode.powers", "awardingbody/rscode.logs"], apart := false, laid := [("awardingbody/rscode.powers", laid_awardingbody_rscode_powers), ("awardingbody/rscode.logs", laid_awardingbody_rscode_logs)] }
def RscodeCorrectsSaid : Prop := rscodeCorrectsRow.holds Tryd.pinned (OpenSpec.ofChange rscodeCorrectsSpec)

/-- ITS FALSE NEIGHBOUR: 'it returns false'. Refute it at one input. -/
def rscodeCorrectsWrong : ChangeSpec := { name := "rscodeCorrects", fn := fun _ => fun
  | [d1, d2, d3] => { results := [.lit (.bool false)], args := [d1, d2, d3] }
  | _ => none }
def RscodeCorrectsWrongFalsely : Prop := rscodeCorrectsRow.holds Tryd.pinned (OpenSpec.ofChange rscodeCorrectsWrong)

/-- 'awardingbodylaw18.RscodeNear': WHATEVER THE INPUT: true; the input reads as it did. -/
def rscodeNearSpec : ChangeSpec := { name := "rscodeNear", fn := fun _ => fun
  | [d] => { results := [.lit (.bool true)], args := [d] }
  | _ => none }
def rscodeNearRow : OpenClaim := { program := "ytlabmdekdhjofaadoor", sum := "999323601dfe2e4b66fb4636a9a73d02a88b1a593299b5dd0cf2b880e2bbada5", func := "awardingbody/awardingbodylaw18.RscodeNear", spec := "rscodeNear", unfollowed := true, recurses := true, named := ["awardingbody/rscode.powers", "awardingbody/rscode.logs"], apart := false, laid := [("awardingbody/rscode.powers", laid_awardingbody_rscode_powers), ("awardingbody/rscode.logs", laid_awardingbody_rscode_logs)] }
def RscodeNearSaid : Prop := rscodeNearRow.holds Tryd.pinned (OpenSpec.ofChange rscodeNearSpec)

/-- ITS FALSE NEIGHBOUR: 'it returns false'. Refute it at one input. -/
def rscodeNearWrong : ChangeSpec := { name := "rscodeNear", fn := fun _ => fun
  | [d] => { results := [.lit (.bool false)], args := [d] }
  | _ => none }
def RscodeNearWrongFalsely : Prop := rscodeNearRow.holds Tryd.pinned (OpenSpec.ofChange rscodeNearWrong)

/-- 'awardingbodylaw18.RscodeLinear': WHATEVER THE INPUT: true; the input reads as it did. -/
def rscodeLinearSpec : ChangeSpec := { name := "rscodeLinear", fn := fun _ => fun
  | [d1, d2] => { results := [.lit (.bool true)], args := [d1, d2] }
  | _ => none }
def rscodeLinearRow : OpenClaim := { program := "ytlabmdekdhjofaadoor", sum := "999323601dfe2e4b66fb4636a9a73d02a88b1a593299b5dd0cf2b880e2bbada5", func := "awardingbody/awardingbodylaw18.RscodeLinear", spec := "rscodeLinear", unfollowed := true, recurses := true, named := ["awardingbody/rscode.logs", "awardingbody/rscode.powers"], apart := false, laid := [("awardingbody/rscode.powers", laid_awardingbody_rscode_powers), ("awardingbody/rscode.logs", laid_awardingbody_rscode_logs)] }
def RscodeLinearSaid : Prop := rscodeLinearRow.holds Tryd.pinned (OpenSpec.ofChange rscodeLinearSpec)

/-- ITS FALSE NEIGHBOUR: 'it returns false'. Refute it at one input. -/
def rscodeLinearWrong : ChangeSpec := { name := "rscodeLinear", fn := fun _ => fun
  | [d1, d2] => { results := [.lit (.bool false)], args := [d1, d2] }
  | _ => none }
def RscodeLinearWrongFalsely : Prop := rscodeLinearRow.holds Tryd.pinned (OpenSpec.ofChange rscodeLinearWrong)

/-- 'awardingbodylaw18.RscodeApart': WHATEVER THE INPUT: true; the input reads as it did. -/
def rscodeApartSpec : ChangeSpec := { name := "rscodeApart", fn := fun _ => fun
  | [d] => { results := [.lit (.bool true)], args := [d] }
  | _ => none }
def rscodeApartRow : OpenClaim := { program := "ytlabmdekdhjofaadoor", sum := "999323601dfe2e4b66fb4636a9a73d02a88b1a593299b5dd0cf2b880e2bbada5", func := "awardingbody/awardingbodylaw18.RscodeApart", spec := "rscodeApart", unfollowed := true, recurses := true, named := ["awardingbody/rscode.powers", "awardingbody/rscode.logs"], apart := false, laid := [("awardingbody/rscode.powers", laid_awardingbody_rscode_powers), ("awardingbody/rscode.logs", laid_awardingbody_rscode_logs)] }
def RscodeApartSaid : Prop := rscodeApartRow.holds Tryd.pinned (OpenSpec.ofChange rscodeApartSpec)

/-- ITS FALSE NEIGHBOUR: 'it returns false'. Refute it at one input. -/
def rscodeApartWrong : ChangeSpec := { name := "rscodeApart", fn := fun _ => fun
  | [d] => { results := [.lit (.bool false)], args := [d] }
  | _ => none }
def RscodeApartWrongFalsely : Prop := rscodeApartRow.holds Tryd.pinned (OpenSpec.ofChange rscodeApartWrong)

/-- 'awardingbodylaw18.RscodeDistances': WHATEVER THE INPUT: true; the input reads as it did. -/
def rscodeDistancesSpec : ChangeSpec := { name := "rscodeDistances", fn := fun _ => fun
  | [d1, d2] => { results := [.lit (.bool true)], args := [d1, d2] }
  | _ => none }
def rscodeDistancesRow : OpenClaim := { program := "ytlabmdekdhjofaadoor", sum := "999323601dfe2e4b66fb4636a9a73d02a88b1a593299b5dd0cf2b880e2bbada5", func := "awardingbody/awardingbodylaw18.RscodeDistances", spec := "rscodeDistances", unfollowed := true, recurses := true, named := ["awardingbody/rscode.powers", "awardingbody/rscode.logs"], apart := false, laid := [("awardingbody/rscode.powers", laid_awardingbody_rscode_powers), ("awardingbody/rscode.logs", laid_awardingbody_rscode_logs)] }
def RscodeDistancesSaid : Prop := rscodeDistancesRow.holds Tryd.pinned (OpenSpec.ofChange rscodeDistancesSpec)

/-- ITS FALSE NEIGHBOUR: 'it returns false'. Refute it at one input. -/
def rscodeDistancesWrong : ChangeSpec := { name := "rscodeDistances", fn := fun _ => fun
  | [d1, d2] => { results := [.lit (.bool false)], args := [d1, d2] }
  | _ => none }
def RscodeDistancesWrongFalsely : Prop := rscodeDistancesRow.holds Tryd.pinned (OpenSpec.ofChange rscodeDistancesWrong)

/- THE SECOND FORM. 'bulk': how many values and letters a reading holds, each counted each time it is reached (what is shared counts as often as it is met; a slice's spare places count too). A statement '..UptoSaid' is the law's where the arguments, and the package variables that the reading takes, are together of bulk at most 1048576: NARROWER than '..Said'. Prove '..Said' where nothing that the law and all that it calls make is longer than what came in: it says more and counts as full. Else prove '..UptoSaid'. A law counts once. -/
mutual
def uptoBulk {H : Type} : DataW H → Nat
  | .lit (.string bytes) => bytes.length + 1
  | .lit _ => 1
  | .nil => 1
  | .ptr d => uptoBulk d + 1
  | .slice elems spare => uptoBulkAll elems + uptoBulkAll spare + 1
  | .agg parts => uptoBulkAll parts + 1
  | .iface _ d => uptoBulk d + 1
  | .map entries => uptoBulkEntries entries + 1
  | .held _ => 1
def uptoBulkAll {H : Type} : List (DataW H) → Nat
  | [] => 0
  | d :: r => uptoBulk d + uptoBulkAll r
def uptoBulkEntries {H : Type} : List (Lit × DataW H) → Nat
  | [] => 0
  | x :: r => uptoBulkEntry x + uptoBulkEntries r
def uptoBulkEntry {H : Type} : Lit × DataW H → Nat
  | (.string bytes, d) => bytes.length + uptoBulk d + 1
  | (_, d) => uptoBulk d + 1
 end
def uptoSmall : (H : Type) → List (DataW H) → Bool := fun _ ds => decide (uptoBulkAll ds ≤ 1048576)
def OpenSpec.upto (s : _root_.Go.ChangeSpec) : _root_.Go.OpenSpec := { _root_.Go.OpenSpec.ofChange s with cond := some uptoSmall }

/-- 'awardingbodylaw18.RscodeMultiplies', WHERE WHAT IT READS IS OF BULK AT MOST 1048576: true; the input reads as it did. -/
def rscodeMultipliesUptoRow : OpenClaim := { program := "ytlabmdekdhjofaadoor", sum := "999323601dfe2e4b66fb4636a9a73d02a88b1a593299b5dd0cf2b880e2bbada5", func := "awardingbody/awardingbodylaw18.RscodeMultiplies", spec := "rscodeMultiplies", unfollowed := true, recurses := true, named := ["awardingbody/rscode.logs", "awardingbody/rscode.powers"], apart := false, laid := [("awardingbody/rscode.powers", laid_awardingbody_rscode_powers), ("awardingbody/rscode.logs", laid_awardingbody_rscode_logs)], narrowed := true }
def RscodeMultipliesUptoSaid : Prop := rscodeMultipliesUptoRow.holds Tryd.pinned (OpenSpec.upto rscodeMultipliesSpec)

/-- 'awardingbodylaw18.RscodePowers', WHERE WHAT IT READS IS OF BULK AT MOST 1048576: true; the input reads as it did. -/
def rscodePowersUptoRow : OpenClaim := { program := "ytlabmdekdhjofaadoor", sum := "999323601dfe2e4b66fb4636a9a73d02a88b1a593299b5dd0cf2b880e2bbada5", func := "awardingbody/awardingbodylaw18.RscodePowers", spec := "rscodePowers", unfollowed := true, recurses := true, named := ["awardingbody/rscode.powers", "awardingbody/rscode.logs"], apart := false, laid := [("awardingbody/rscode.powers", laid_awardingbody_rscode_powers), ("awardingbody/rscode.logs", laid_awardingbody_rscode_logs)], narrowed := true }
def RscodePowersUptoSaid : Prop := rscodePowersUptoRow.holds Tryd.pinned (OpenSpec.upto rscodePowersSpec)

/-- 'awardingbodylaw18.RscodeField', WHERE WHAT IT READS IS OF BULK AT MOST 1048576: true; the input reads as it did. -/
def rscodeFieldUptoRow : OpenClaim := { program := "ytlabmdekdhjofaadoor", sum := "999323601dfe2e4b66fb4636a9a73d02a88b1a593299b5dd0cf2b880e2bbada5", func := "awardingbody/awardingbodylaw18.RscodeField", spec := "rscodeField", unfollowed := true, recurses := true, named := ["awardingbody/rscode.logs", "awardingbody/rscode.powers"], apart := false, laid := [("awardingbody/rscode.powers", laid_awardingbody_rscode_powers), ("awardingbody/rscode.logs", laid_awardingbody_rscode_logs)], narrowed := true }
def RscodeFieldUptoSaid : Prop := rscodeFieldUptoRow.holds Tryd.pinned (OpenSpec.upto rscodeFieldSpec)

/-- 'awardingbodylaw18.RscodeEncodes', WHERE WHAT IT READS IS OF BULK AT MOST 1048576: true; the input reads as it did. -/
def rscodeEncodesUptoRow : OpenClaim := { program := "ytlabmdekdhjofaadoor", sum := "999323601dfe2e4b66fb4636a9a73d02a88b1a593299b5dd0cf2b880e2bbada5", func := "awardingbody/awardingbodylaw18.RscodeEncodes", spec := "rscodeEncodes", unfollowed := true, recurses := true, named := ["awardingbody/rscode.powers", "awardingbody/rscode.logs"], apart := false, laid := [("awardingbody/rscode.powers", laid_awardingbody_rscode_powers), ("awardingbody/rscode.logs", laid_awardingbody_rscode_logs)], narrowed := true }
def RscodeEncodesUptoSaid : Prop := rscodeEncodesUptoRow.holds Tryd.pinned (OpenSpec.upto rscodeEncodesSpec)

/-- 'awardingbodylaw18.RscodeCodewords', WHERE WHAT IT READS IS OF BULK AT MOST 1048576: true; the input reads as it did. -/
def rscodeCodewordsUptoRow : OpenClaim := { program := "ytlabmdekdhjofaadoor", sum := "999323601dfe2e4b66fb4636a9a73d02a88b1a593299b5dd0cf2b880e2bbada5", func := "awardingbody/awardingbodylaw18.RscodeCodewords", spec := "rscodeCodewords", unfollowed := true, recurses := true, named := ["awardingbody/rscode.powers", "awardingbody/rscode.logs"], apart := false, laid := [("awardingbody/rscode.powers", laid_awardingbody_rscode_powers), ("awardingbody/rscode.logs", laid_awardingbody_rscode_logs)], narrowed := true }
def RscodeCodewordsUptoSaid : Prop := rscodeCodewordsUptoRow.holds Tryd.pinned (OpenSpec.upto rscodeCodewordsSpec)

/-- 'awardingbodylaw18.RscodeDecodes', WHERE WHAT IT READS IS OF BULK AT MOST 1048576: true; the input reads as it did. -/
def rscodeDecodesUptoRow : OpenClaim := { program := "ytlabmdekdhjofaadoor", sum := "999323601dfe2e4b66fb4636a9a73d02a88b1a593299b5dd0cf2b880e2bbada5", func := "awardingbody/awardingbodylaw18.RscodeDecodes", spec := "rscodeDecodes", unfollowed := true, recurses := true, named := ["awardingbody/rscode.powers", "awardingbody/rscode.logs"], apart := false, laid := [("awardingbody/rscode.powers", laid_awardingbody_rscode_powers), ("awardingbody/rscode.logs", laid_awardingbody_rscode_logs)], narrowed := true }
def RscodeDecodesUptoSaid : Prop := rscodeDecodesUptoRow.holds Tryd.pinned (OpenSpec.upto rscodeDecodesSpec)

/-- 'awardingbodylaw18.RscodeCorrects', WHERE WHAT IT READS IS OF BULK AT MOST 1048576: true; the input reads as it did. -/
def rscodeCorrectsUptoRow : OpenClaim := { program := "ytlabmdekdhjofaadoor", sum := "999323601dfe2e4b66fb4636a9a73d02a88b1a593299b5dd0cf2b880e2bbada5", func := "awardingbody/awardingbodylaw18.RscodeCorrects", spec := "rscodeCorrects", unfollowed := true, recurses := true, named := ["awardingbody/rscode.powers", "awardingbody/rscode.logs"], apart := false, laid := [("awardingbody/rscode.powers", laid_awardingbody_rscode_powers), ("awardingbody/rscode.logs", laid_awardingbody_rscode_logs)], narrowed := true }
def RscodeCorrectsUptoSaid : Prop := rscodeCorrectsUptoRow.holds Tryd.pinned (OpenSpec.upto rscodeCorrectsSpec)

/-- 'awardingbodylaw18.RscodeNear', WHERE WHAT IT READS IS OF BULK AT MOST 1048576: true; the input reads as it did. -/
def rscodeNearUptoRow : OpenClaim := { program := "ytlabmdekdhjofaadoor", sum := "999323601dfe2e4b66fb4636a9a73d02a88b1a593299b5dd0cf2b880e2bbada5", func := "awardingbody/awardingbodylaw18.RscodeNear", spec := "rscodeNear", unfollowed := true, recurses := true, named := ["awardingbody/rscode.powers", "awardingbody/rscode.logs"], apart := false, laid := [("awardingbody/rscode.powers", laid_awardingbody_rscode_powers), ("awardingbody/rscode.logs", laid_awardingbody_rscode_logs)], narrowed := true }
def RscodeNearUptoSaid : Prop := rscodeNearUptoRow.holds Tryd.pinned (OpenSpec.upto rscodeNearSpec)

/-- 'awardingbodylaw18.RscodeLinear', WHERE WHAT IT READS IS OF BULK AT MOST 1048576: true; the input reads as it did. -/
def rscodeLinearUptoRow : OpenClaim := { program := "ytlabmdekdhjofaadoor", sum := "999323601dfe2e4b66fb4636a9a73d02a88b1a593299b5dd0cf2b880e2bbada5", func := "awardingbody/awardingbodylaw18.RscodeLinear", spec := "rscodeLinear", unfollowed := true, recurses := true, named := ["awardingbody/rscode.logs", "awardingbody/rscode.powers"], apart := false, laid := [("awardingbody/rscode.powers", laid_awardingbody_rscode_powers), ("awardingbody/rscode.logs", laid_awardingbody_rscode_logs)], narrowed := true }
def RscodeLinearUptoSaid : Prop := rscodeLinearUptoRow.holds Tryd.pinned (OpenSpec.upto rscodeLinearSpec)

/-- 'awardingbodylaw18.RscodeApart', WHERE WHAT IT READS IS OF BULK AT MOST 1048576: true; the input reads as it did. -/
def rscodeApartUptoRow : OpenClaim := { program := "ytlabmdekdhjofaadoor", sum := "999323601dfe2e4b66fb4636a9a73d02a88b1a593299b5dd0cf2b880e2bbada5", func := "awardingbody/awardingbodylaw18.RscodeApart", spec := "rscodeApart", unfollowed := true, recurses := true, named := ["awardingbody/rscode.powers", "awardingbody/rscode.logs"], apart := false, laid := [("awardingbody/rscode.powers", laid_awardingbody_rscode_powers), ("awardingbody/rscode.logs", laid_awardingbody_rscode_logs)], narrowed := true }
def RscodeApartUptoSaid : Prop := rscodeApartUptoRow.holds Tryd.pinned (OpenSpec.upto rscodeApartSpec)

/-- 'awardingbodylaw18.RscodeDistances', WHERE WHAT IT READS IS OF BULK AT MOST 1048576: true; the input reads as it did. -/
def rscodeDistancesUptoRow : OpenClaim := { program := "ytlabmdekdhjofaadoor", sum := "999323601dfe2e4b66fb4636a9a73d02a88b1a593299b5dd0cf2b880e2bbada5", func := "awardingbody/awardingbodylaw18.RscodeDistances", spec := "rscodeDistances", unfollowed := true, recurses := true, named := ["awardingbody/rscode.powers", "awardingbody/rscode.logs"], apart := false, laid := [("awardingbody/rscode.powers", laid_awardingbody_rscode_powers), ("awardingbody/rscode.logs", laid_awardingbody_rscode_logs)], narrowed := true }
def RscodeDistancesUptoSaid : Prop := rscodeDistancesUptoRow.holds Tryd.pinned (OpenSpec.upto rscodeDistancesSpec)

end Rows
end Go.Proofs.YtlabmdekdhjofaaDoor
