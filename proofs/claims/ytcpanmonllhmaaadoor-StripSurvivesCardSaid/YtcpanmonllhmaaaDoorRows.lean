/-
  NARROWER THAN 'FOR EVERY INPUT', by the rows' own cells (each row's printed sentence says how): StripSymbols: laid · StripDraws: laid · StripUprights: laid · StripWords: laid · StripReads: laid · StripCandidates: laid · StripSurvives: laid · StripTurns: laid · StripApart: laid.
  DERIVED. THE GIVEN ROWS OF THIS SEAT. 9 by the template 'for every input the law returns true; each argument reads behind the call as it read before'; 0 by the template 'total and deterministic' (their statements: YtcpanmonllhmaaaDoorTotals.lean).
  GIVEN WITH THE SEED: the statements are not yours to turn. If you find one false, say at which input.
  Laid BY PROGRAM, IN A SANDBOX (cutbox-rows.mjs): the forced cells as the released guide's own fill.sh prints them over the translation 50a4e425a597e793… (all of the seat's roots in one cut). By AI agents, Wed Nov 11 2026. No macro, syntax, notation, axiom, sorry.
-/
import Derived.Test.YtcpanmonllhmaaaDoorChecked
import GoSem.Claim
import GoSem.ClaimJoined
import GoSem.ClaimMapViews
import Derived.JoinedTies
import Derived.KernelRfl
namespace Go.Proofs.YtcpanmonllhmaaaDoor
/- THE CELL 'sum', in the pinned program and in every row, IS THE sha256 OF THE DUMP (.gsa) THAT YtcpanmonllhmaaaDoorProg.lean LOADS. Nothing in Lean hashes anything: it is a label: what it is worth is what the hold of that sum in a sandbox is worth. -/
noncomputable def Tryd.pinned : Pinned := { name := "ytcpanmonllhmaaadoor", sum := "50a4e425a597e7930f3c41f688bf2663b817df71446facbf4e6702420092ca19", checked := Tryd.checked }
namespace Rows
def none {H : Type} : Left H := { results := [], args := [] }

/- WHAT THE LISTED PACKAGE-LEVEL VARIABLES READ AS WHEN THE CALL BEGINS. Each datum BY PROGRAM (the guide's laid-datum.mjs) off the statement by which the dump's own 'gosem.cut.vars' lays the variable. In a bare row this is a premise. The card (YtcpanmonllhmaaaDoorCards.lean) ties it to the program's text. -/
def laid_awardingbody_rscode_powers {H : Type} : DataW H := .agg [.lit (.int .i64 1), .lit (.int .i64 2), .lit (.int .i64 4), .lit (.int .i64 8), .lit (.int .i64 16), .lit (.int .i64 5), .lit (.int .i64 10), .lit (.int .i64 20), .lit (.int .i64 13), .lit (.int .i64 26), .lit (.int .i64 17), .lit (.int .i64 7), .lit (.int .i64 14), .lit (.int .i64 28), .lit (.int .i64 29), .lit (.int .i64 31), .lit (.int .i64 27), .lit (.int .i64 19), .lit (.int .i64 3), .lit (.int .i64 6), .lit (.int .i64 12), .lit (.int .i64 24), .lit (.int .i64 21), .lit (.int .i64 15), .lit (.int .i64 30), .lit (.int .i64 25), .lit (.int .i64 23), .lit (.int .i64 11), .lit (.int .i64 22), .lit (.int .i64 9), .lit (.int .i64 18)]
def laid_awardingbody_rscode_logs {H : Type} : DataW H := .agg [.lit (.int .i64 0), .lit (.int .i64 0), .lit (.int .i64 1), .lit (.int .i64 18), .lit (.int .i64 2), .lit (.int .i64 5), .lit (.int .i64 19), .lit (.int .i64 11), .lit (.int .i64 3), .lit (.int .i64 29), .lit (.int .i64 6), .lit (.int .i64 27), .lit (.int .i64 20), .lit (.int .i64 8), .lit (.int .i64 12), .lit (.int .i64 23), .lit (.int .i64 4), .lit (.int .i64 10), .lit (.int .i64 30), .lit (.int .i64 17), .lit (.int .i64 7), .lit (.int .i64 22), .lit (.int .i64 28), .lit (.int .i64 26), .lit (.int .i64 21), .lit (.int .i64 25), .lit (.int .i64 9), .lit (.int .i64 16), .lit (.int .i64 13), .lit (.int .i64 14), .lit (.int .i64 24), .lit (.int .i64 15)]

/-- 'awardingbodylaw19.StripSymbols': WHATEVER THE INPUT: true; the input reads as it did. -/
def stripSymbolsSpec : ChangeSpec := { name := "stripSymbols", fn := fun _ => fun
  | [d1, d2, d3, d4, d5] => { results := [.lit (.bool true)], args := [d1, d2, d3, d4, d5] }
  | _ => none }
def stripSymbolsRow : OpenClaim := { program := "ytcpanmonllhmaaadoor", sum := "50a4e425a597e7930f3c41f688bf2663b817df71446facbf4e6702420092ca19", func := "awardingbody/awardingbodylaw19.StripSymbols", spec := "stripSymbols", inPlace := ["internal/abi.NoEscape", "internal/bytealg.MakeNoZero", "internal/bytealg.CountString", "internal/bytealg.IndexByteString", "internal/bytealg.IndexString"], unfollowed := true, recurses := true, named := ["awardingbody/rscode.powers", "awardingbody/rscode.logs", "internal/bytealg.MaxLen"], apart := false, laid := [("awardingbody/rscode.powers", laid_awardingbody_rscode_powers), ("awardingbody/rscode.logs", laid_awardingbody_rscode_logs)] }
def StripSymbolsSaid : Prop := stripSymbolsRow.holds Tryd.pinned (OpenSpec.ofChange stripSymbolsSpec)

/-- ITS FALSE NEIGHBOUR: 'it returns false'. Refute it at one input. -/
def stripSymbolsWrong : ChangeSpec := { name := "stripSymbols", fn := fun _ => fun
  | [d1, d2, d3, d4, d5] => { results := [.lit (.bool false)], args := [d1, d2, d3, d4, d5] }
  | _ => none }
def StripSymbolsWrongFalsely : Prop := stripSymbolsRow.holds Tryd.pinned (OpenSpec.ofChange stripSymbolsWrong)

/-- 'awardingbodylaw19.StripDraws': WHATEVER THE INPUT: true; the input reads as it did. -/
def stripDrawsSpec : ChangeSpec := { name := "stripDraws", fn := fun _ => fun
  | [d1, d2] => { results := [.lit (.bool true)], args := [d1, d2] }
  | _ => none }
def stripDrawsRow : OpenClaim := { program := "ytcpanmonllhmaaadoor", sum := "50a4e425a597e7930f3c41f688bf2663b817df71446facbf4e6702420092ca19", func := "awardingbody/awardingbodylaw19.StripDraws", spec := "stripDraws", inPlace := ["internal/abi.NoEscape", "internal/bytealg.MakeNoZero", "internal/bytealg.CountString", "internal/bytealg.IndexByteString", "internal/bytealg.IndexString"], unfollowed := true, recurses := true, named := ["awardingbody/rscode.powers", "awardingbody/rscode.logs", "internal/bytealg.MaxLen"], apart := false, laid := [("awardingbody/rscode.powers", laid_awardingbody_rscode_powers), ("awardingbody/rscode.logs", laid_awardingbody_rscode_logs)] }
def StripDrawsSaid : Prop := stripDrawsRow.holds Tryd.pinned (OpenSpec.ofChange stripDrawsSpec)

/-- ITS FALSE NEIGHBOUR: 'it returns false'. Refute it at one input. -/
def stripDrawsWrong : ChangeSpec := { name := "stripDraws", fn := fun _ => fun
  | [d1, d2] => { results := [.lit (.bool false)], args := [d1, d2] }
  | _ => none }
def StripDrawsWrongFalsely : Prop := stripDrawsRow.holds Tryd.pinned (OpenSpec.ofChange stripDrawsWrong)

/-- 'awardingbodylaw19.StripUprights': WHATEVER THE INPUT: true; the input reads as it did. -/
def stripUprightsSpec : ChangeSpec := { name := "stripUprights", fn := fun _ => fun
  | [d1, d2] => { results := [.lit (.bool true)], args := [d1, d2] }
  | _ => none }
def stripUprightsRow : OpenClaim := { program := "ytcpanmonllhmaaadoor", sum := "50a4e425a597e7930f3c41f688bf2663b817df71446facbf4e6702420092ca19", func := "awardingbody/awardingbodylaw19.StripUprights", spec := "stripUprights", inPlace := ["internal/bytealg.CountString", "internal/bytealg.IndexByteString", "internal/bytealg.IndexString", "internal/abi.NoEscape", "internal/bytealg.MakeNoZero"], unfollowed := true, recurses := true, named := ["internal/bytealg.MaxLen", "awardingbody/rscode.powers", "awardingbody/rscode.logs"], apart := false, laid := [("awardingbody/rscode.powers", laid_awardingbody_rscode_powers), ("awardingbody/rscode.logs", laid_awardingbody_rscode_logs)] }
def StripUprightsSaid : Prop := stripUprightsRow.holds Tryd.pinned (OpenSpec.ofChange stripUprightsSpec)

/-- ITS FALSE NEIGHBOUR: 'it returns false'. Refute it at one input. -/
def stripUprightsWrong : ChangeSpec := { name := "stripUprights", fn := fun _ => fun
  | [d1, d2] => { results := [.lit (.bool false)], args := [d1, d2] }
  | _ => none }
def StripUprightsWrongFalsely : Prop := stripUprightsRow.holds Tryd.pinned (OpenSpec.ofChange stripUprightsWrong)

/-- 'awardingbodylaw19.StripWords': WHATEVER THE INPUT: true; the input reads as it did. -/
def stripWordsSpec : ChangeSpec := { name := "stripWords", fn := fun _ => fun
  | [d1, d2] => { results := [.lit (.bool true)], args := [d1, d2] }
  | _ => none }
def stripWordsRow : OpenClaim := { program := "ytcpanmonllhmaaadoor", sum := "50a4e425a597e7930f3c41f688bf2663b817df71446facbf4e6702420092ca19", func := "awardingbody/awardingbodylaw19.StripWords", spec := "stripWords", inPlace := ["internal/abi.NoEscape", "internal/bytealg.MakeNoZero", "internal/bytealg.CountString", "internal/bytealg.IndexByteString", "internal/bytealg.IndexString"], unfollowed := true, recurses := true, named := ["awardingbody/rscode.powers", "awardingbody/rscode.logs", "internal/bytealg.MaxLen"], apart := false, laid := [("awardingbody/rscode.powers", laid_awardingbody_rscode_powers), ("awardingbody/rscode.logs", laid_awardingbody_rscode_logs)] }
def StripWordsSaid : Prop := stripWordsRow.holds Tryd.pinned (OpenSpec.ofChange stripWordsSpec)

/-- ITS FALSE NEIGHBOUR: 'it returns false'. Refute it at one input. -/
def stripWordsWrong : ChangeSpec := { name := "stripWords", fn := fun _ => fun
  | [d1, d2] => { results := [.lit (.bool false)], args := [d1, d2] }
  | _ => none }
def StripWordsWrongFalsely : Prop := stripWordsRow.holds Tryd.pinned (OpenSpec.ofChange stripWordsWrong)

/-- 'awardingbodylaw19.StripReads': WHATEVER THE INPUT: true; the input reads as it did. -/
def stripReadsSpec : ChangeSpec := { name := "stripReads", fn := fun _ => fun
  | [d1, d2] => { results := [.lit (.bool true)], args := [d1, d2] }
  | _ => none }
def stripReadsRow : OpenClaim := { program := "ytcpanmonllhmaaadoor", sum := "50a4e425a597e7930f3c41f688bf2663b817df71446facbf4e6702420092ca19", func := "awardingbody/awardingbodylaw19.StripReads", spec := "stripReads", inPlace := ["internal/bytealg.CountString", "internal/bytealg.IndexByteString", "internal/bytealg.IndexString", "internal/abi.NoEscape", "internal/bytealg.MakeNoZero"], unfollowed := true, recurses := true, named := ["internal/bytealg.MaxLen", "awardingbody/rscode.powers", "awardingbody/rscode.logs"], apart := false, laid := [("awardingbody/rscode.powers", laid_awardingbody_rscode_powers), ("awardingbody/rscode.logs", laid_awardingbody_rscode_logs)] }
def StripReadsSaid : Prop := stripReadsRow.holds Tryd.pinned (OpenSpec.ofChange stripReadsSpec)

/-- ITS FALSE NEIGHBOUR: 'it returns false'. Refute it at one input. -/
def stripReadsWrong : ChangeSpec := { name := "stripReads", fn := fun _ => fun
  | [d1, d2] => { results := [.lit (.bool false)], args := [d1, d2] }
  | _ => none }
def StripReadsWrongFalsely : Prop := stripReadsRow.holds Tryd.pinned (OpenSpec.ofChange stripReadsWrong)

/-- 'awardingbodylaw19.StripCandidates': WHATEVER THE INPUT: true; the input reads as it did. -/
def stripCandidatesSpec : ChangeSpec := { name := "stripCandidates", fn := fun _ => fun
  | [d1, d2] => { results := [.lit (.bool true)], args := [d1, d2] }
  | _ => none }
def stripCandidatesRow : OpenClaim := { program := "ytcpanmonllhmaaadoor", sum := "50a4e425a597e7930f3c41f688bf2663b817df71446facbf4e6702420092ca19", func := "awardingbody/awardingbodylaw19.StripCandidates", spec := "stripCandidates", inPlace := ["internal/bytealg.CountString", "internal/bytealg.IndexByteString", "internal/bytealg.IndexString", "internal/abi.NoEscape", "internal/bytealg.MakeNoZero"], unfollowed := true, recurses := true, named := ["awardingbody/rscode.powers", "awardingbody/rscode.logs", "internal/bytealg.MaxLen"], apart := false, laid := [("awardingbody/rscode.powers", laid_awardingbody_rscode_powers), ("awardingbody/rscode.logs", laid_awardingbody_rscode_logs)] }
def StripCandidatesSaid : Prop := stripCandidatesRow.holds Tryd.pinned (OpenSpec.ofChange stripCandidatesSpec)

/-- ITS FALSE NEIGHBOUR: 'it returns false'. Refute it at one input. -/
def stripCandidatesWrong : ChangeSpec := { name := "stripCandidates", fn := fun _ => fun
  | [d1, d2] => { results := [.lit (.bool false)], args := [d1, d2] }
  | _ => none }
def StripCandidatesWrongFalsely : Prop := stripCandidatesRow.holds Tryd.pinned (OpenSpec.ofChange stripCandidatesWrong)

/-- 'awardingbodylaw19.StripSurvives': WHATEVER THE INPUT: true; the input reads as it did. -/
def stripSurvivesSpec : ChangeSpec := { name := "stripSurvives", fn := fun _ => fun
  | [d1, d2, d3, d4] => { results := [.lit (.bool true)], args := [d1, d2, d3, d4] }
  | _ => none }
def stripSurvivesRow : OpenClaim := { program := "ytcpanmonllhmaaadoor", sum := "50a4e425a597e7930f3c41f688bf2663b817df71446facbf4e6702420092ca19", func := "awardingbody/awardingbodylaw19.StripSurvives", spec := "stripSurvives", inPlace := ["internal/abi.NoEscape", "internal/bytealg.MakeNoZero", "internal/bytealg.CountString", "internal/bytealg.IndexByteString", "internal/bytealg.IndexString"], unfollowed := true, recurses := true, named := ["awardingbody/rscode.powers", "awardingbody/rscode.logs", "internal/bytealg.MaxLen"], apart := false, laid := [("awardingbody/rscode.powers", laid_awardingbody_rscode_powers), ("awardingbody/rscode.logs", laid_awardingbody_rscode_logs)] }
def StripSurvivesSaid : Prop := stripSurvivesRow.holds Tryd.pinned (OpenSpec.ofChange stripSurvivesSpec)

/-- ITS FALSE NEIGHBOUR: 'it returns false'. Refute it at one input. -/
def stripSurvivesWrong : ChangeSpec := { name := "stripSurvives", fn := fun _ => fun
  | [d1, d2, d3, d4] => { results := [.lit (.bool false)], args := [d1, d2, d3, d4] }
  | _ => none }
def StripSurvivesWrongFalsely : Prop := stripSurvivesRow.holds Tryd.pinned (OpenSpec.ofChange stripSurvivesWrong)

/-- 'awardingbodylaw19.StripTurns': WHATEVER THE INPUT: true; the input reads as it did. -/
def stripTurnsSpec : ChangeSpec := { name := "stripTurns", fn := fun _ => fun
  | [d1, d2] => { results := [.lit (.bool true)], args := [d1, d2] }
  | _ => none }
def stripTurnsRow : OpenClaim := { program := "ytcpanmonllhmaaadoor", sum := "50a4e425a597e7930f3c41f688bf2663b817df71446facbf4e6702420092ca19", func := "awardingbody/awardingbodylaw19.StripTurns", spec := "stripTurns", inPlace := ["internal/bytealg.CountString", "internal/bytealg.IndexByteString", "internal/bytealg.IndexString", "internal/abi.NoEscape", "internal/bytealg.MakeNoZero"], unfollowed := true, recurses := true, named := ["internal/bytealg.MaxLen", "awardingbody/rscode.powers", "awardingbody/rscode.logs"], apart := false, laid := [("awardingbody/rscode.powers", laid_awardingbody_rscode_powers), ("awardingbody/rscode.logs", laid_awardingbody_rscode_logs)] }
def StripTurnsSaid : Prop := stripTurnsRow.holds Tryd.pinned (OpenSpec.ofChange stripTurnsSpec)

/-- ITS FALSE NEIGHBOUR: 'it returns false'. Refute it at one input. -/
def stripTurnsWrong : ChangeSpec := { name := "stripTurns", fn := fun _ => fun
  | [d1, d2] => { results := [.lit (.bool false)], args := [d1, d2] }
  | _ => none }
def StripTurnsWrongFalsely : Prop := stripTurnsRow.holds Tryd.pinned (OpenSpec.ofChange stripTurnsWrong)

/-- 'awardingbodylaw19.StripApart': WHATEVER THE INPUT: true; the input reads as it did. -/
def stripApartSpec : ChangeSpec := { name := "stripApart", fn := fun _ => fun
  | [d] => { results := [.lit (.bool true)], args := [d] }
  | _ => none }
def stripApartRow : OpenClaim := { program := "ytcpanmonllhmaaadoor", sum := "50a4e425a597e7930f3c41f688bf2663b817df71446facbf4e6702420092ca19", func := "awardingbody/awardingbodylaw19.StripApart", spec := "stripApart", inPlace := ["internal/abi.NoEscape", "internal/bytealg.MakeNoZero", "internal/bytealg.CountString", "internal/bytealg.IndexByteString", "internal/bytealg.IndexString"], unfollowed := true, recurses := true, named := ["awardingbody/rscode.powers", "awardingbody/rscode.logs", "internal/bytealg.MaxLen"], apart := false, laid := [("awardingbody/rscode.powers", laid_awardingbody_rscode_powers), ("awardingbody/rscode.logs", laid_awardingbody_rscode_logs)] }
def StripApartSaid : Prop := stripApartRow.holds Tryd.pinned (OpenSpec.ofChange stripApartSpec)

/-- ITS FALSE NEIGHBOUR: 'it returns false'. Refute it at one input. -/
def stripApartWrong : ChangeSpec := { name := "stripApart", fn := fun _ => fun
  | [d] => { results := [.lit (.bool false)], args := [d] }
  | _ => none }
def StripApartWrongFalsely : Prop := stripApartRow.holds Tryd.pinned (OpenSpec.ofChange stripApartWrong)

/- THE SECOND FORM. 'bulk': how many values and letters a reading holds, each counted each time it is reached (what is shared counts as often as it is met; a slice's spare places count too). A statement '..UptoSaid' is the law's where the arguments, and the package variables that the reading takes, are together of bulk at most 1048576: NARROWER than '..Said'. Prove '..Said' where nothing that the law and all that it calls make is longer than what came in: it says more and counts as full. Else prove '..UptoSaid'. A law counts once. -/
mutual
def uptoBulk {H : Type} : DataW H → Nat
  | .lit (.string bytes) => bytes.length + 1
  | .lit _ => 1
  | .nil => 1
  | .ptr d => uptoBulk d + 1
  | .slice elems spare => uptoBulkAll elems + uptoBulkAll spare + 1
  | .agg parts => uptoBulkAll parts + 1
  | .iface _ d => uptoBulk d + 1
  | .map entries => uptoBulkEntries entries + 1
  | .held _ => 1
def uptoBulkAll {H : Type} : List (DataW H) → Nat
  | [] => 0
  | d :: r => uptoBulk d + uptoBulkAll r
def uptoBulkEntries {H : Type} : List (Lit × DataW H) → Nat
  | [] => 0
  | x :: r => uptoBulkEntry x + uptoBulkEntries r
def uptoBulkEntry {H : Type} : Lit × DataW H → Nat
  | (.string bytes, d) => bytes.length + uptoBulk d + 1
  | (_, d) => uptoBulk d + 1
 end
def uptoSmall : (H : Type) → List (DataW H) → Bool := fun _ ds => decide (uptoBulkAll ds ≤ 1048576)
def OpenSpec.upto (s : _root_.Go.ChangeSpec) : _root_.Go.OpenSpec := { _root_.Go.OpenSpec.ofChange s with cond := some uptoSmall }

/-- 'awardingbodylaw19.StripSymbols', WHERE WHAT IT READS IS OF BULK AT MOST 1048576: true; the input reads as it did. -/
def stripSymbolsUptoRow : OpenClaim := { program := "ytcpanmonllhmaaadoor", sum := "50a4e425a597e7930f3c41f688bf2663b817df71446facbf4e6702420092ca19", func := "awardingbody/awardingbodylaw19.StripSymbols", spec := "stripSymbols", inPlace := ["internal/abi.NoEscape", "internal/bytealg.MakeNoZero", "internal/bytealg.CountString", "internal/bytealg.IndexByteString", "internal/bytealg.IndexString"], unfollowed := true, recurses := true, named := ["awardingbody/rscode.powers", "awardingbody/rscode.logs", "internal/bytealg.MaxLen"], apart := false, laid := [("awardingbody/rscode.powers", laid_awardingbody_rscode_powers), ("awardingbody/rscode.logs", laid_awardingbody_rscode_logs)], narrowed := true }
def StripSymbolsUptoSaid : Prop := stripSymbolsUptoRow.holds Tryd.pinned (OpenSpec.upto stripSymbolsSpec)

/-- 'awardingbodylaw19.StripDraws', WHERE WHAT IT READS IS OF BULK AT MOST 1048576: true; the input reads as it did. -/
def stripDrawsUptoRow : OpenClaim := { program := "ytcpanmonllhmaaadoor", sum := "50a4e425a597e7930f3c41f688bf2663b817df71446facbf4e6702420092ca19", func := "awardingbody/awardingbodylaw19.StripDraws", spec := "stripDraws", inPlace := ["internal/abi.NoEscape", "internal/bytealg.MakeNoZero", "internal/bytealg.CountString", "internal/bytealg.IndexByteString", "internal/bytealg.IndexString"], unfollowed := true, recurses := true, named := ["awardingbody/rscode.powers", "awardingbody/rscode.logs", "internal/bytealg.MaxLen"], apart := false, laid := [("awardingbody/rscode.powers", laid_awardingbody_rscode_powers), ("awardingbody/rscode.logs", laid_awardingbody_rscode_logs)], narrowed := true }
def StripDrawsUptoSaid : Prop := stripDrawsUptoRow.holds Tryd.pinned (OpenSpec.upto stripDrawsSpec)

/-- 'awardingbodylaw19.StripUprights', WHERE WHAT IT READS IS OF BULK AT MOST 1048576: true; the input reads as it did. -/
def stripUprightsUptoRow : OpenClaim := { program := "ytcpanmonllhmaaadoor", sum := "50a4e425a597e7930f3c41f688bf2663b817df71446facbf4e6702420092ca19", func := "awardingbody/awardingbodylaw19.StripUprights", spec := "stripUprights", inPlace := ["internal/bytealg.CountString", "internal/bytealg.IndexByteString", "internal/bytealg.IndexString", "internal/abi.NoEscape", "internal/bytealg.MakeNoZero"], unfollowed := true, recurses := true, named := ["internal/bytealg.MaxLen", "awardingbody/rscode.powers", "awardingbody/rscode.logs"], apart := false, laid := [("awardingbody/rscode.powers", laid_awardingbody_rscode_powers), ("awardingbody/rscode.logs", laid_awardingbody_rscode_logs)], narrowed := true }
def StripUprightsUptoSaid : Prop := stripUprightsUptoRow.holds Tryd.pinned (OpenSpec.upto stripUprightsSpec)

/-- 'awardingbodylaw19.StripWords', WHERE WHAT IT READS IS OF BULK AT MOST 1048576: true; the input reads as it did. -/
def stripWordsUptoRow : OpenClaim := { program := "ytcpanmonllhmaaadoor", sum := "50a4e425a597e7930f3c41f688bf2663b817df71446facbf4e6702420092ca19", func := "awardingbody/awardingbodylaw19.StripWords", spec := "stripWords", inPlace := ["internal/abi.NoEscape", "internal/bytealg.MakeNoZero", "internal/bytealg.CountString", "internal/bytealg.IndexByteString", "internal/bytealg.IndexString"], unfollowed := true, recurses := true, named := ["awardingbody/rscode.powers", "awardingbody/rscode.logs", "internal/bytealg.MaxLen"], apart := false, laid := [("awardingbody/rscode.powers", laid_awardingbody_rscode_powers), ("awardingbody/rscode.logs", laid_awardingbody_rscode_logs)], narrowed := true }
def StripWordsUptoSaid : Prop := stripWordsUptoRow.holds Tryd.pinned (OpenSpec.upto stripWordsSpec)

/-- 'awardingbodylaw19.StripReads', WHERE WHAT IT READS IS OF BULK AT MOST 1048576: true; the input reads as it did. -/
def stripReadsUptoRow : OpenClaim := { program := "ytcpanmonllhmaaadoor", sum := "50a4e425a597e7930f3c41f688bf2663b817df71446facbf4e6702420092ca19", func := "awardingbody/awardingbodylaw19.StripReads", spec := "stripReads", inPlace := ["internal/bytealg.CountString", "internal/bytealg.IndexByteString", "internal/bytealg.IndexString", "internal/abi.NoEscape", "internal/bytealg.MakeNoZero"], unfollowed := true, recurses := true, named := ["internal/bytealg.MaxLen", "awardingbody/rscode.powers", "awardingbody/rscode.logs"], apart := false, laid := [("awardingbody/rscode.powers", laid_awardingbody_rscode_powers), ("awardingbody/rscode.logs", laid_awardingbody_rscode_logs)], narrowed := true }
def StripReadsUptoSaid : Prop := stripReadsUptoRow.holds Tryd.pinned (OpenSpec.upto stripReadsSpec)

/-- 'awardingbodylaw19.StripCandidates', WHERE WHAT IT READS IS OF BULK AT MOST 1048576: true; the input reads as it did. -/
def stripCandidatesUptoRow : OpenClaim := { program := "ytcpanmonllhmaaadoor", sum := "50a4e425a597e7930f3c41f688bf2663b817df71446facbf4e6702420092ca19", func := "awardingbody/awardingbodylaw19.StripCandidates", spec := "stripCandidates", inPlace := ["internal/bytealg.CountString", "internal/bytealg.IndexByteString", "internal/bytealg.IndexString", "internal/abi.NoEscape", "internal/bytealg.MakeNoZero"], unfollowed := true, recurses := true, named := ["awardingbody/rscode.powers", "awardingbody/rscode.logs", "internal/bytealg.MaxLen"], apart := false, laid := [("awardingbody/rscode.powers", laid_awardingbody_rscode_powers), ("awardingbody/rscode.logs", laid_awardingbody_rscode_logs)], narrowed := true }
def StripCandidatesUptoSaid : Prop := stripCandidatesUptoRow.holds Tryd.pinned (OpenSpec.upto stripCandidatesSpec)

/-- 'awardingbodylaw19.StripSurvives', WHERE WHAT IT READS IS OF BULK AT MOST 1048576: true; the input reads as it did. -/
def stripSurvivesUptoRow : OpenClaim := { program := "ytcpanmonllhmaaadoor", sum := "50a4e425a597e7930f3c41f688bf2663b817df71446facbf4e6702420092ca19", func := "awardingbody/awardingbodylaw19.StripSurvives", spec := "stripSurvives", inPlace := ["internal/abi.NoEscape", "internal/bytealg.MakeNoZero", "internal/bytealg.CountString", "internal/bytealg.IndexByteString", "internal/bytealg.IndexString"], unfollowed := true, recurses := true, named := ["awardingbody/rscode.powers", "awardingbody/rscode.logs", "internal/bytealg.MaxLen"], apart := false, laid := [("awardingbody/rscode.powers", laid_awardingbody_rscode_powers), ("awardingbody/rscode.logs", laid_awardingbody_rscode_logs)], narrowed := true }
def StripSurvivesUptoSaid : Prop := stripSurvivesUptoRow.holds Tryd.pinned (OpenSpec.upto stripSurvivesSpec)

/-- 'awardingbodylaw19.StripTurns', WHERE WHAT IT READS IS OF BULK AT MOST 1048576: true; the input reads as it did. -/
def stripTurnsUptoRow : OpenClaim := { program := "ytcpanmonllhmaaadoor", sum := "50a4e425a597e7930f3c41f688bf2663b817df71446facbf4e6702420092ca19", func := "awardingbody/awardingbodylaw19.StripTurns", spec := "stripTurns", inPlace := ["internal/bytealg.CountString", "internal/bytealg.IndexByteString", "internal/bytealg.IndexString", "internal/abi.NoEscape", "internal/bytealg.MakeNoZero"], unfollowed := true, recurses := true, named := ["internal/bytealg.MaxLen", "awardingbody/rscode.powers", "awardingbody/rscode.logs"], apart := false, laid := [("awardingbody/rscode.powers", laid_awardingbody_rscode_powers), ("awardingbody/rscode.logs", laid_awardingbody_rscode_logs)], narrowed := true }
def StripTurnsUptoSaid : Prop := stripTurnsUptoRow.holds Tryd.pinned (OpenSpec.upto stripTurnsSpec)

/-- 'awardingbodylaw19.StripApart', WHERE WHAT IT READS IS OF BULK AT MOST 1048576: true; the input reads as it did. -/
def stripApartUptoRow : OpenClaim := { program := "ytcpanmonllhmaaadoor", sum := "50a4e425a597e7930f3c41f688bf2663b817df71446facbf4e6702420092ca19", func := "awardingbody/awardingbodylaw19.StripApart", spec := "stripApart", inPlace := ["internal/abi.NoEscape", "internal/bytealg.MakeNoZero", "internal/bytealg.CountString", "internal/bytealg.IndexByteString", "internal/bytealg.IndexString"], unfollowed := true, recurses := true, named := ["awardingbody/rscode.powers", "awardingbody/rscode.logs", "internal/bytealg.MaxLen"], apart := false, laid := [("awardingbody/rscode.powers", laid_awardingbody_rscode_powers), ("awardingbody/rscode.logs", laid_awardingbody_rscode_logs)], narrowed := true }
def StripApartUptoSaid : Prop := stripApartUptoRow.holds Tryd.pinned (OpenSpec.upto stripApartSpec)

end Rows
end Go.Proofs.YtcpanmonllhmaaaDoor
