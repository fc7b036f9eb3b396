/-
  No cell of these rows narrows 'for every input' (looked for: loops, veiled, ifaces, maps, wideKeys, modest, calm, conditions, laid).
  DERIVED. THE GIVEN ROWS OF THIS SEAT. 5 by the template 'for every input the law returns true; each argument reads behind the call as it read before'; 0 by the template 'total and deterministic' (their statements: YtjgfgdcaocbfhaaGreatTotals.lean).
  GIVEN WITH THE SEED: the statements are not yours to turn. If you find one false, say at which input.
  Laid BY PROGRAM, IN A SANDBOX (cutbox-rows.mjs): the forced cells as the released guide's own fill.sh prints them over the translation f248ceb6cd7fd3b3… (all of the seat's roots in one cut). By AI agents, Wed Nov 11 2026. No macro, syntax, notation, axiom, sorry.
-/
import Derived.Test.YtjgfgdcaocbfhaaGreatChecked
import GoSem.Claim
import GoSem.ClaimJoined
import GoSem.ClaimMapViews
import Derived.JoinedTies
import Derived.KernelRfl
namespace Go.Proofs.YtjgfgdcaocbfhaaGreat
/- THE CELL 'sum', in the pinned program and in every row, IS THE sha256 OF THE DUMP (.gsa) THAT YtjgfgdcaocbfhaaGreatProg.lean LOADS. Nothing in Lean hashes anything: it is a label: what it is worth is what the hold of that sum in a sandbox is worth. -/
noncomputable def Tryz.pinned : Pinned := { name := "ytjgfgdcaocbfhaagreat", sum := "f248ceb6cd7fd3b3ee27c9fc2fec708afa28e31cbccc63ea9318d08f3c1d791c", checked := Tryz.checked }
namespace Rows
def none {H : Type} : Left H := { results := [], args := [] }

/-- 'awardingbodylaw22.ScriptStates': WHATEVER THE INPUT: true; the input reads as it did. -/
def scriptStatesSpec : ChangeSpec := { name := "scriptStates", fn := fun _ => fun
  | [d] => { results := [.lit (.bool true)], args := [d] }
  | _ => none }
def scriptStatesRow : OpenClaim := { program := "ytjgfgdcaocbfhaagreat", sum := "f248ceb6cd7fd3b3ee27c9fc2fec708afa28e31cbccc63ea9318d08f3c1d791c", func := "awardingbody/awardingbodylaw22.ScriptStates", spec := "scriptStates", unfollowed := true, recurses := true, apart := false }
def ScriptStatesSaid : Prop := scriptStatesRow.holds Tryz.pinned (OpenSpec.ofChange scriptStatesSpec)

/-- ITS FALSE NEIGHBOUR: 'it returns false'. Refute it at one input. -/
def scriptStatesWrong : ChangeSpec := { name := "scriptStates", fn := fun _ => fun
  | [d] => { results := [.lit (.bool false)], args := [d] }
  | _ => none }
def ScriptStatesWrongFalsely : Prop := scriptStatesRow.holds Tryz.pinned (OpenSpec.ofChange scriptStatesWrong)

/-- 'awardingbodylaw22.ScriptAccepts': WHATEVER THE INPUT: true; the input reads as it did. -/
def scriptAcceptsSpec : ChangeSpec := { name := "scriptAccepts", fn := fun _ => fun
  | [d] => { results := [.lit (.bool true)], args := [d] }
  | _ => none }
def scriptAcceptsRow : OpenClaim := { program := "ytjgfgdcaocbfhaagreat", sum := "f248ceb6cd7fd3b3ee27c9fc2fec708afa28e31cbccc63ea9318d08f3c1d791c", func := "awardingbody/awardingbodylaw22.ScriptAccepts", spec := "scriptAccepts", unfollowed := true, recurses := true, apart := false }
def ScriptAcceptsSaid : Prop := scriptAcceptsRow.holds Tryz.pinned (OpenSpec.ofChange scriptAcceptsSpec)

/-- ITS FALSE NEIGHBOUR: 'it returns false'. Refute it at one input. -/
def scriptAcceptsWrong : ChangeSpec := { name := "scriptAccepts", fn := fun _ => fun
  | [d] => { results := [.lit (.bool false)], args := [d] }
  | _ => none }
def ScriptAcceptsWrongFalsely : Prop := scriptAcceptsRow.holds Tryz.pinned (OpenSpec.ofChange scriptAcceptsWrong)

/-- 'awardingbodylaw22.ScriptRight': WHATEVER THE INPUT: true; the input reads as it did. -/
def scriptRightSpec : ChangeSpec := { name := "scriptRight", fn := fun _ => fun
  | [d1, d2] => { results := [.lit (.bool true)], args := [d1, d2] }
  | _ => none }
def scriptRightRow : OpenClaim := { program := "ytjgfgdcaocbfhaagreat", sum := "f248ceb6cd7fd3b3ee27c9fc2fec708afa28e31cbccc63ea9318d08f3c1d791c", func := "awardingbody/awardingbodylaw22.ScriptRight", spec := "scriptRight", unfollowed := true, recurses := true, apart := false }
def ScriptRightSaid : Prop := scriptRightRow.holds Tryz.pinned (OpenSpec.ofChange scriptRightSpec)

/-- ITS FALSE NEIGHBOUR: 'it returns false'. Refute it at one input. -/
def scriptRightWrong : ChangeSpec := { name := "scriptRight", fn := fun _ => fun
  | [d1, d2] => { results := [.lit (.bool false)], args := [d1, d2] }
  | _ => none }
def ScriptRightWrongFalsely : Prop := scriptRightRow.holds Tryz.pinned (OpenSpec.ofChange scriptRightWrong)

/-- 'awardingbodylaw22.ScriptAccounts': WHATEVER THE INPUT: true; the input reads as it did. -/
def scriptAccountsSpec : ChangeSpec := { name := "scriptAccounts", fn := fun _ => fun
  | [d1, d2] => { results := [.lit (.bool true)], args := [d1, d2] }
  | _ => none }
def scriptAccountsRow : OpenClaim := { program := "ytjgfgdcaocbfhaagreat", sum := "f248ceb6cd7fd3b3ee27c9fc2fec708afa28e31cbccc63ea9318d08f3c1d791c", func := "awardingbody/awardingbodylaw22.ScriptAccounts", spec := "scriptAccounts", unfollowed := true, recurses := true, apart := false }
def ScriptAccountsSaid : Prop := scriptAccountsRow.holds Tryz.pinned (OpenSpec.ofChange scriptAccountsSpec)

/-- ITS FALSE NEIGHBOUR: 'it returns false'. Refute it at one input. -/
def scriptAccountsWrong : ChangeSpec := { name := "scriptAccounts", fn := fun _ => fun
  | [d1, d2] => { results := [.lit (.bool false)], args := [d1, d2] }
  | _ => none }
def ScriptAccountsWrongFalsely : Prop := scriptAccountsRow.holds Tryz.pinned (OpenSpec.ofChange scriptAccountsWrong)

/-- 'awardingbodylaw22.ScriptAnswers': WHATEVER THE INPUT: true; the input reads as it did. -/
def scriptAnswersSpec : ChangeSpec := { name := "scriptAnswers", fn := fun _ => fun
  | [d1, d2] => { results := [.lit (.bool true)], args := [d1, d2] }
  | _ => none }
def scriptAnswersRow : OpenClaim := { program := "ytjgfgdcaocbfhaagreat", sum := "f248ceb6cd7fd3b3ee27c9fc2fec708afa28e31cbccc63ea9318d08f3c1d791c", func := "awardingbody/awardingbodylaw22.ScriptAnswers", spec := "scriptAnswers", unfollowed := true, recurses := true, apart := false }
def ScriptAnswersSaid : Prop := scriptAnswersRow.holds Tryz.pinned (OpenSpec.ofChange scriptAnswersSpec)

/-- ITS FALSE NEIGHBOUR: 'it returns false'. Refute it at one input. -/
def scriptAnswersWrong : ChangeSpec := { name := "scriptAnswers", fn := fun _ => fun
  | [d1, d2] => { results := [.lit (.bool false)], args := [d1, d2] }
  | _ => none }
def ScriptAnswersWrongFalsely : Prop := scriptAnswersRow.holds Tryz.pinned (OpenSpec.ofChange scriptAnswersWrong)

/- THE SECOND FORM. 'bulk': how many values and letters a reading holds, each counted each time it is reached (what is shared counts as often as it is met; a slice's spare places count too). A statement '..UptoSaid' is the law's where the arguments, and the package variables that the reading takes, are together of bulk at most 1048576: NARROWER than '..Said'. Prove '..Said' where nothing that the law and all that it calls make is longer than what came in: it says more and counts as full. Else prove '..UptoSaid'. A law counts once. -/
mutual
def uptoBulk {H : Type} : DataW H → Nat
  | .lit (.string bytes) => bytes.length + 1
  | .lit _ => 1
  | .nil => 1
  | .ptr d => uptoBulk d + 1
  | .slice elems spare => uptoBulkAll elems + uptoBulkAll spare + 1
  | .agg parts => uptoBulkAll parts + 1
  | .iface _ d => uptoBulk d + 1
  | .map entries => uptoBulkEntries entries + 1
  | .held _ => 1
def uptoBulkAll {H : Type} : List (DataW H) → Nat
  | [] => 0
  | d :: r => uptoBulk d + uptoBulkAll r
def uptoBulkEntries {H : Type} : List (Lit × DataW H) → Nat
  | [] => 0
  | x :: r => uptoBulkEntry x + uptoBulkEntries r
def uptoBulkEntry {H : Type} : Lit × DataW H → Nat
  | (.string bytes, d) => bytes.length + uptoBulk d + 1
  | (_, d) => uptoBulk d + 1
 end
def uptoSmall : (H : Type) → List (DataW H) → Bool := fun _ ds => decide (uptoBulkAll ds ≤ 1048576)
def OpenSpec.upto (s : _root_.Go.ChangeSpec) : _root_.Go.OpenSpec := { _root_.Go.OpenSpec.ofChange s with cond := some uptoSmall }

/-- 'awardingbodylaw22.ScriptStates', WHERE WHAT IT READS IS OF BULK AT MOST 1048576: true; the input reads as it did. -/
def scriptStatesUptoRow : OpenClaim := { program := "ytjgfgdcaocbfhaagreat", sum := "f248ceb6cd7fd3b3ee27c9fc2fec708afa28e31cbccc63ea9318d08f3c1d791c", func := "awardingbody/awardingbodylaw22.ScriptStates", spec := "scriptStates", unfollowed := true, recurses := true, apart := false, narrowed := true }
def ScriptStatesUptoSaid : Prop := scriptStatesUptoRow.holds Tryz.pinned (OpenSpec.upto scriptStatesSpec)

/-- 'awardingbodylaw22.ScriptAccepts', WHERE WHAT IT READS IS OF BULK AT MOST 1048576: true; the input reads as it did. -/
def scriptAcceptsUptoRow : OpenClaim := { program := "ytjgfgdcaocbfhaagreat", sum := "f248ceb6cd7fd3b3ee27c9fc2fec708afa28e31cbccc63ea9318d08f3c1d791c", func := "awardingbody/awardingbodylaw22.ScriptAccepts", spec := "scriptAccepts", unfollowed := true, recurses := true, apart := false, narrowed := true }
def ScriptAcceptsUptoSaid : Prop := scriptAcceptsUptoRow.holds Tryz.pinned (OpenSpec.upto scriptAcceptsSpec)

/-- 'awardingbodylaw22.ScriptRight', WHERE WHAT IT READS IS OF BULK AT MOST 1048576: true; the input reads as it did. -/
def scriptRightUptoRow : OpenClaim := { program := "ytjgfgdcaocbfhaagreat", sum := "f248ceb6cd7fd3b3ee27c9fc2fec708afa28e31cbccc63ea9318d08f3c1d791c", func := "awardingbody/awardingbodylaw22.ScriptRight", spec := "scriptRight", unfollowed := true, recurses := true, apart := false, narrowed := true }
def ScriptRightUptoSaid : Prop := scriptRightUptoRow.holds Tryz.pinned (OpenSpec.upto scriptRightSpec)

/-- 'awardingbodylaw22.ScriptAccounts', WHERE WHAT IT READS IS OF BULK AT MOST 1048576: true; the input reads as it did. -/
def scriptAccountsUptoRow : OpenClaim := { program := "ytjgfgdcaocbfhaagreat", sum := "f248ceb6cd7fd3b3ee27c9fc2fec708afa28e31cbccc63ea9318d08f3c1d791c", func := "awardingbody/awardingbodylaw22.ScriptAccounts", spec := "scriptAccounts", unfollowed := true, recurses := true, apart := false, narrowed := true }
def ScriptAccountsUptoSaid : Prop := scriptAccountsUptoRow.holds Tryz.pinned (OpenSpec.upto scriptAccountsSpec)

/-- 'awardingbodylaw22.ScriptAnswers', WHERE WHAT IT READS IS OF BULK AT MOST 1048576: true; the input reads as it did. -/
def scriptAnswersUptoRow : OpenClaim := { program := "ytjgfgdcaocbfhaagreat", sum := "f248ceb6cd7fd3b3ee27c9fc2fec708afa28e31cbccc63ea9318d08f3c1d791c", func := "awardingbody/awardingbodylaw22.ScriptAnswers", spec := "scriptAnswers", unfollowed := true, recurses := true, apart := false, narrowed := true }
def ScriptAnswersUptoSaid : Prop := scriptAnswersUptoRow.holds Tryz.pinned (OpenSpec.upto scriptAnswersSpec)

end Rows
end Go.Proofs.YtjgfgdcaocbfhaaGreat
