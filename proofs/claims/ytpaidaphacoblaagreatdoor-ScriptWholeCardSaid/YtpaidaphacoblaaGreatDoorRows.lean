/-
  NARROWER THAN 'FOR EVERY INPUT', by the rows' own cells (each row's printed sentence says how): ScriptWhole: laid · ScriptMisses: laid · ScriptAccountsAll: laid.
  DERIVED. THE GIVEN ROWS OF THIS SEAT. 3 by the template 'for every input the law returns true; each argument reads behind the call as it read before'; 0 by the template 'total and deterministic' (their statements: YtpaidaphacoblaaGreatDoorTotals.lean).
  GIVEN WITH THE SEED: the statements are not yours to turn. If you find one false, say at which input.
  Laid BY PROGRAM, IN A SANDBOX (cutbox-rows.mjs): the forced cells as the released guide's own fill.sh prints them over the translation bf8de6b403708020… (all of the seat's roots in one cut). By AI agents, Wed Nov 11 2026. No macro, syntax, notation, axiom, sorry.
-/
import Derived.Test.YtpaidaphacoblaaGreatDoorChecked
import GoSem.Claim
import GoSem.ClaimJoined
import GoSem.ClaimMapViews
import Derived.JoinedTies
import Derived.KernelRfl
namespace Go.Proofs.YtpaidaphacoblaaGreatDoor
/- THE CELL 'sum', in the pinned program and in every row, IS THE sha256 OF THE DUMP (.gsa) THAT YtpaidaphacoblaaGreatDoorProg.lean LOADS. Nothing in Lean hashes anything: it is a label: what it is worth is what the hold of that sum in a sandbox is worth. -/
noncomputable def Tryz.pinned : Pinned := { name := "ytpaidaphacoblaagreatdoor", sum := "bf8de6b40370802020be17fe22a977c9e15ed75d426e29f711486be70e1d3155", checked := Tryz.checked }
namespace Rows
def none {H : Type} : Left H := { results := [], args := [] }

/- WHAT THE LISTED PACKAGE-LEVEL VARIABLES READ AS WHEN THE CALL BEGINS. Each datum BY PROGRAM (the guide's laid-datum.mjs) off the statement by which the dump's own 'gosem.cut.vars' lays the variable. In a bare row this is a premise. The card (YtpaidaphacoblaaGreatDoorCards.lean) ties it to the program's text. -/
def laid_awardingbody_rscode_powers {H : Type} : DataW H := .agg [.lit (.int .i64 1), .lit (.int .i64 2), .lit (.int .i64 4), .lit (.int .i64 8), .lit (.int .i64 16), .lit (.int .i64 5), .lit (.int .i64 10), .lit (.int .i64 20), .lit (.int .i64 13), .lit (.int .i64 26), .lit (.int .i64 17), .lit (.int .i64 7), .lit (.int .i64 14), .lit (.int .i64 28), .lit (.int .i64 29), .lit (.int .i64 31), .lit (.int .i64 27), .lit (.int .i64 19), .lit (.int .i64 3), .lit (.int .i64 6), .lit (.int .i64 12), .lit (.int .i64 24), .lit (.int .i64 21), .lit (.int .i64 15), .lit (.int .i64 30), .lit (.int .i64 25), .lit (.int .i64 23), .lit (.int .i64 11), .lit (.int .i64 22), .lit (.int .i64 9), .lit (.int .i64 18)]
def laid_awardingbody_rscode_logs {H : Type} : DataW H := .agg [.lit (.int .i64 0), .lit (.int .i64 0), .lit (.int .i64 1), .lit (.int .i64 18), .lit (.int .i64 2), .lit (.int .i64 5), .lit (.int .i64 19), .lit (.int .i64 11), .lit (.int .i64 3), .lit (.int .i64 29), .lit (.int .i64 6), .lit (.int .i64 27), .lit (.int .i64 20), .lit (.int .i64 8), .lit (.int .i64 12), .lit (.int .i64 23), .lit (.int .i64 4), .lit (.int .i64 10), .lit (.int .i64 30), .lit (.int .i64 17), .lit (.int .i64 7), .lit (.int .i64 22), .lit (.int .i64 28), .lit (.int .i64 26), .lit (.int .i64 21), .lit (.int .i64 25), .lit (.int .i64 9), .lit (.int .i64 16), .lit (.int .i64 13), .lit (.int .i64 14), .lit (.int .i64 24), .lit (.int .i64 15)]

/-- 'awardingbodylaw22.ScriptWhole': WHATEVER THE INPUT: true; the input reads as it did. -/
def scriptWholeSpec : ChangeSpec := { name := "scriptWhole", fn := fun _ => fun
  | [d] => { results := [.lit (.bool true)], args := [d] }
  | _ => none }
def scriptWholeRow : OpenClaim := { program := "ytpaidaphacoblaagreatdoor", sum := "bf8de6b40370802020be17fe22a977c9e15ed75d426e29f711486be70e1d3155", func := "awardingbody/awardingbodylaw22.ScriptWhole", spec := "scriptWhole", inPlace := ["internal/bytealg.CountString", "internal/bytealg.IndexByteString", "internal/bytealg.IndexString", "internal/abi.NoEscape"], unfollowed := true, recurses := true, named := ["internal/bytealg.MaxLen", "awardingbody/rscode.powers", "awardingbody/rscode.logs"], plainKeys := false, apart := false, laid := [("awardingbody/rscode.powers", laid_awardingbody_rscode_powers), ("awardingbody/rscode.logs", laid_awardingbody_rscode_logs)] }
def ScriptWholeSaid : Prop := scriptWholeRow.holds Tryz.pinned (OpenSpec.ofChange scriptWholeSpec)

/-- ITS FALSE NEIGHBOUR: 'it returns false'. Refute it at one input. -/
def scriptWholeWrong : ChangeSpec := { name := "scriptWhole", fn := fun _ => fun
  | [d] => { results := [.lit (.bool false)], args := [d] }
  | _ => none }
def ScriptWholeWrongFalsely : Prop := scriptWholeRow.holds Tryz.pinned (OpenSpec.ofChange scriptWholeWrong)

/-- 'awardingbodylaw22.ScriptMisses': WHATEVER THE INPUT: true; the input reads as it did. -/
def scriptMissesSpec : ChangeSpec := { name := "scriptMisses", fn := fun _ => fun
  | [d1, d2] => { results := [.lit (.bool true)], args := [d1, d2] }
  | _ => none }
def scriptMissesRow : OpenClaim := { program := "ytpaidaphacoblaagreatdoor", sum := "bf8de6b40370802020be17fe22a977c9e15ed75d426e29f711486be70e1d3155", func := "awardingbody/awardingbodylaw22.ScriptMisses", spec := "scriptMisses", inPlace := ["internal/bytealg.CountString", "internal/bytealg.IndexByteString", "internal/bytealg.IndexString", "internal/abi.NoEscape"], unfollowed := true, recurses := true, named := ["internal/bytealg.MaxLen", "awardingbody/rscode.powers", "awardingbody/rscode.logs"], plainKeys := false, apart := false, laid := [("awardingbody/rscode.powers", laid_awardingbody_rscode_powers), ("awardingbody/rscode.logs", laid_awardingbody_rscode_logs)] }
def ScriptMissesSaid : Prop := scriptMissesRow.holds Tryz.pinned (OpenSpec.ofChange scriptMissesSpec)

/-- ITS FALSE NEIGHBOUR: 'it returns false'. Refute it at one input. -/
def scriptMissesWrong : ChangeSpec := { name := "scriptMisses", fn := fun _ => fun
  | [d1, d2] => { results := [.lit (.bool false)], args := [d1, d2] }
  | _ => none }
def ScriptMissesWrongFalsely : Prop := scriptMissesRow.holds Tryz.pinned (OpenSpec.ofChange scriptMissesWrong)

/-- 'awardingbodylaw22.ScriptAccountsAll': WHATEVER THE INPUT: true; the input reads as it did. -/
def scriptAccountsAllSpec : ChangeSpec := { name := "scriptAccountsAll", fn := fun _ => fun
  | [d] => { results := [.lit (.bool true)], args := [d] }
  | _ => none }
def scriptAccountsAllRow : OpenClaim := { program := "ytpaidaphacoblaagreatdoor", sum := "bf8de6b40370802020be17fe22a977c9e15ed75d426e29f711486be70e1d3155", func := "awardingbody/awardingbodylaw22.ScriptAccountsAll", spec := "scriptAccountsAll", inPlace := ["internal/bytealg.CountString", "internal/bytealg.IndexByteString", "internal/bytealg.IndexString", "internal/abi.NoEscape"], unfollowed := true, recurses := true, named := ["internal/bytealg.MaxLen", "awardingbody/rscode.powers", "awardingbody/rscode.logs"], plainKeys := false, apart := false, laid := [("awardingbody/rscode.powers", laid_awardingbody_rscode_powers), ("awardingbody/rscode.logs", laid_awardingbody_rscode_logs)] }
def ScriptAccountsAllSaid : Prop := scriptAccountsAllRow.holds Tryz.pinned (OpenSpec.ofChange scriptAccountsAllSpec)

/-- ITS FALSE NEIGHBOUR: 'it returns false'. Refute it at one input. -/
def scriptAccountsAllWrong : ChangeSpec := { name := "scriptAccountsAll", fn := fun _ => fun
  | [d] => { results := [.lit (.bool false)], args := [d] }
  | _ => none }
def ScriptAccountsAllWrongFalsely : Prop := scriptAccountsAllRow.holds Tryz.pinned (OpenSpec.ofChange scriptAccountsAllWrong)

/- THE SECOND FORM. 'bulk': how many values and letters a reading holds, each counted each time it is reached (what is shared counts as often as it is met; a slice's spare places count too). A statement '..UptoSaid' is the law's where the arguments, and the package variables that the reading takes, are together of bulk at most 1048576: NARROWER than '..Said'. Prove '..Said' where nothing that the law and all that it calls make is longer than what came in: it says more and counts as full. Else prove '..UptoSaid'. A law counts once. -/
mutual
def uptoBulk {H : Type} : DataW H → Nat
  | .lit (.string bytes) => bytes.length + 1
  | .lit _ => 1
  | .nil => 1
  | .ptr d => uptoBulk d + 1
  | .slice elems spare => uptoBulkAll elems + uptoBulkAll spare + 1
  | .agg parts => uptoBulkAll parts + 1
  | .iface _ d => uptoBulk d + 1
  | .map entries => uptoBulkEntries entries + 1
  | .held _ => 1
def uptoBulkAll {H : Type} : List (DataW H) → Nat
  | [] => 0
  | d :: r => uptoBulk d + uptoBulkAll r
def uptoBulkEntries {H : Type} : List (Lit × DataW H) → Nat
  | [] => 0
  | x :: r => uptoBulkEntry x + uptoBulkEntries r
def uptoBulkEntry {H : Type} : Lit × DataW H → Nat
  | (.string bytes, d) => bytes.length + uptoBulk d + 1
  | (_, d) => uptoBulk d + 1
 end
def uptoSmall : (H : Type) → List (DataW H) → Bool := fun _ ds => decide (uptoBulkAll ds ≤ 1048576)
def OpenSpec.upto (s : _root_.Go.ChangeSpec) : _root_.Go.OpenSpec := { _root_.Go.OpenSpec.ofChange s with cond := some uptoSmall }

/-- 'awardingbodylaw22.ScriptWhole', WHERE WHAT IT READS IS OF BULK AT MOST 1048576: true; the input reads as it did. -/
def scriptWholeUptoRow : OpenClaim := { program := "ytpaidaphacoblaagreatdoor", sum := "bf8de6b40370802020be17fe22a977c9e15ed75d426e29f711486be70e1d3155", func := "awardingbody/awardingbodylaw22.ScriptWhole", spec := "scriptWhole", inPlace := ["internal/bytealg.CountString", "internal/bytealg.IndexByteString", "internal/bytealg.IndexString", "internal/abi.NoEscape"], unfollowed := true, recurses := true, named := ["internal/bytealg.MaxLen", "awardingbody/rscode.powers", "awardingbody/rscode.logs"], plainKeys := false, apart := false, laid := [("awardingbody/rscode.powers", laid_awardingbody_rscode_powers), ("awardingbody/rscode.logs", laid_awardingbody_rscode_logs)], narrowed := true }
def ScriptWholeUptoSaid : Prop := scriptWholeUptoRow.holds Tryz.pinned (OpenSpec.upto scriptWholeSpec)

/-- 'awardingbodylaw22.ScriptMisses', WHERE WHAT IT READS IS OF BULK AT MOST 1048576: true; the input reads as it did. -/
def scriptMissesUptoRow : OpenClaim := { program := "ytpaidaphacoblaagreatdoor", sum := "bf8de6b40370802020be17fe22a977c9e15ed75d426e29f711486be70e1d3155", func := "awardingbody/awardingbodylaw22.ScriptMisses", spec := "scriptMisses", inPlace := ["internal/bytealg.CountString", "internal/bytealg.IndexByteString", "internal/bytealg.IndexString", "internal/abi.NoEscape"], unfollowed := true, recurses := true, named := ["internal/bytealg.MaxLen", "awardingbody/rscode.powers", "awardingbody/rscode.logs"], plainKeys := false, apart := false, laid := [("awardingbody/rscode.powers", laid_awardingbody_rscode_powers), ("awardingbody/rscode.logs", laid_awardingbody_rscode_logs)], narrowed := true }
def ScriptMissesUptoSaid : Prop := scriptMissesUptoRow.holds Tryz.pinned (OpenSpec.upto scriptMissesSpec)

/-- 'awardingbodylaw22.ScriptAccountsAll', WHERE WHAT IT READS IS OF BULK AT MOST 1048576: true; the input reads as it did. -/
def scriptAccountsAllUptoRow : OpenClaim := { program := "ytpaidaphacoblaagreatdoor", sum := "bf8de6b40370802020be17fe22a977c9e15ed75d426e29f711486be70e1d3155", func := "awardingbody/awardingbodylaw22.ScriptAccountsAll", spec := "scriptAccountsAll", inPlace := ["internal/bytealg.CountString", "internal/bytealg.IndexByteString", "internal/bytealg.IndexString", "internal/abi.NoEscape"], unfollowed := true, recurses := true, named := ["internal/bytealg.MaxLen", "awardingbody/rscode.powers", "awardingbody/rscode.logs"], plainKeys := false, apart := false, laid := [("awardingbody/rscode.powers", laid_awardingbody_rscode_powers), ("awardingbody/rscode.logs", laid_awardingbody_rscode_logs)], narrowed := true }
def ScriptAccountsAllUptoSaid : Prop := scriptAccountsAllUptoRow.holds Tryz.pinned (OpenSpec.upto scriptAccountsAllSpec)

end Rows
end Go.Proofs.YtpaidaphacoblaaGreatDoor
