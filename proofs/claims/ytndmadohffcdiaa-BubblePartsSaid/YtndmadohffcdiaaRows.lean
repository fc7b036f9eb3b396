/-
  No cell of these rows narrows 'for every input' (looked for: loops, veiled, ifaces, maps, wideKeys, modest, calm, conditions, laid).
  DERIVED. THE GIVEN ROWS OF THIS SEAT. 8 by the template 'for every input the law returns true; each argument reads behind the call as it read before'; 0 by the template 'total and deterministic' (their statements: YtndmadohffcdiaaTotals.lean).
  GIVEN WITH THE SEED: the statements are not yours to turn. If you find one false, say at which input.
  Laid BY PROGRAM, IN A SANDBOX (cutbox-rows.mjs): the forced cells as the released guide's own fill.sh prints them over the translation 641eed91e87b485d… (all of the seat's roots in one cut). By AI agents, Wed Nov 11 2026. No macro, syntax, notation, axiom, sorry.
-/
import Derived.Test.YtndmadohffcdiaaChecked
import GoSem.Claim
import GoSem.ClaimJoined
import GoSem.ClaimMapViews
import Derived.JoinedTies
import Derived.KernelRfl
namespace Go.Proofs.Ytndmadohffcdiaa
/- THE CELL 'sum', in the pinned program and in every row, IS THE sha256 OF THE DUMP (.gsa) THAT YtndmadohffcdiaaProg.lean LOADS. Nothing in Lean hashes anything: it is a label: what it is worth is what the hold of that sum in a sandbox is worth. -/
noncomputable def Try.pinned : Pinned := { name := "ytndmadohffcdiaa", sum := "641eed91e87b485dee4d4c3af8272f074b06f17c2420c77d77d164d4242a13ef", checked := Try.checked }
namespace Rows
def none {H : Type} : Left H := { results := [], args := [] }

/-- 'awardingbodylaw20.BubbleValid': WHATEVER THE INPUT: true; the input reads as it did. -/
def bubbleValidSpec : ChangeSpec := { name := "bubbleValid", fn := fun _ => fun
  | [d1, d2, d3] => { results := [.lit (.bool true)], args := [d1, d2, d3] }
  | _ => none }
def bubbleValidRow : OpenClaim := { program := "ytndmadohffcdiaa", sum := "641eed91e87b485dee4d4c3af8272f074b06f17c2420c77d77d164d4242a13ef", func := "awardingbody/awardingbodylaw20.BubbleValid", spec := "bubbleValid", unfollowed := true, recurses := true, apart := false }
def BubbleValidSaid : Prop := bubbleValidRow.holds Try.pinned (OpenSpec.ofChange bubbleValidSpec)

/-- ITS FALSE NEIGHBOUR: 'it returns false'. Refute it at one input. -/
def bubbleValidWrong : ChangeSpec := { name := "bubbleValid", fn := fun _ => fun
  | [d1, d2, d3] => { results := [.lit (.bool false)], args := [d1, d2, d3] }
  | _ => none }
def BubbleValidWrongFalsely : Prop := bubbleValidRow.holds Try.pinned (OpenSpec.ofChange bubbleValidWrong)

/-- 'awardingbodylaw20.BubbleJudges': WHATEVER THE INPUT: true; the input reads as it did. -/
def bubbleJudgesSpec : ChangeSpec := { name := "bubbleJudges", fn := fun _ => fun
  | [d1, d2] => { results := [.lit (.bool true)], args := [d1, d2] }
  | _ => none }
def bubbleJudgesRow : OpenClaim := { program := "ytndmadohffcdiaa", sum := "641eed91e87b485dee4d4c3af8272f074b06f17c2420c77d77d164d4242a13ef", func := "awardingbody/awardingbodylaw20.BubbleJudges", spec := "bubbleJudges", unfollowed := true, recurses := true, apart := false }
def BubbleJudgesSaid : Prop := bubbleJudgesRow.holds Try.pinned (OpenSpec.ofChange bubbleJudgesSpec)

/-- ITS FALSE NEIGHBOUR: 'it returns false'. Refute it at one input. -/
def bubbleJudgesWrong : ChangeSpec := { name := "bubbleJudges", fn := fun _ => fun
  | [d1, d2] => { results := [.lit (.bool false)], args := [d1, d2] }
  | _ => none }
def BubbleJudgesWrongFalsely : Prop := bubbleJudgesRow.holds Try.pinned (OpenSpec.ofChange bubbleJudgesWrong)

/-- 'awardingbodylaw20.BubbleMoves': WHATEVER THE INPUT: true; the input reads as it did. -/
def bubbleMovesSpec : ChangeSpec := { name := "bubbleMoves", fn := fun _ => fun
  | [d] => { results := [.lit (.bool true)], args := [d] }
  | _ => none }
def bubbleMovesRow : OpenClaim := { program := "ytndmadohffcdiaa", sum := "641eed91e87b485dee4d4c3af8272f074b06f17c2420c77d77d164d4242a13ef", func := "awardingbody/awardingbodylaw20.BubbleMoves", spec := "bubbleMoves", unfollowed := true, recurses := true, apart := false }
def BubbleMovesSaid : Prop := bubbleMovesRow.holds Try.pinned (OpenSpec.ofChange bubbleMovesSpec)

/-- ITS FALSE NEIGHBOUR: 'it returns false'. Refute it at one input. -/
def bubbleMovesWrong : ChangeSpec := { name := "bubbleMoves", fn := fun _ => fun
  | [d] => { results := [.lit (.bool false)], args := [d] }
  | _ => none }
def BubbleMovesWrongFalsely : Prop := bubbleMovesRow.holds Try.pinned (OpenSpec.ofChange bubbleMovesWrong)

/-- 'awardingbodylaw20.BubbleDarker': WHATEVER THE INPUT: true; the input reads as it did. -/
def bubbleDarkerSpec : ChangeSpec := { name := "bubbleDarker", fn := fun _ => fun
  | [d1, d2, d3, d4] => { results := [.lit (.bool true)], args := [d1, d2, d3, d4] }
  | _ => none }
def bubbleDarkerRow : OpenClaim := { program := "ytndmadohffcdiaa", sum := "641eed91e87b485dee4d4c3af8272f074b06f17c2420c77d77d164d4242a13ef", func := "awardingbody/awardingbodylaw20.BubbleDarker", spec := "bubbleDarker", unfollowed := true, recurses := true, apart := false }
def BubbleDarkerSaid : Prop := bubbleDarkerRow.holds Try.pinned (OpenSpec.ofChange bubbleDarkerSpec)

/-- ITS FALSE NEIGHBOUR: 'it returns false'. Refute it at one input. -/
def bubbleDarkerWrong : ChangeSpec := { name := "bubbleDarker", fn := fun _ => fun
  | [d1, d2, d3, d4] => { results := [.lit (.bool false)], args := [d1, d2, d3, d4] }
  | _ => none }
def BubbleDarkerWrongFalsely : Prop := bubbleDarkerRow.holds Try.pinned (OpenSpec.ofChange bubbleDarkerWrong)

/-- 'awardingbodylaw20.BubbleEmpty': WHATEVER THE INPUT: true; the input reads as it did. -/
def bubbleEmptySpec : ChangeSpec := { name := "bubbleEmpty", fn := fun _ => fun
  | [d] => { results := [.lit (.bool true)], args := [d] }
  | _ => none }
def bubbleEmptyRow : OpenClaim := { program := "ytndmadohffcdiaa", sum := "641eed91e87b485dee4d4c3af8272f074b06f17c2420c77d77d164d4242a13ef", func := "awardingbody/awardingbodylaw20.BubbleEmpty", spec := "bubbleEmpty", unfollowed := true, recurses := true, apart := false }
def BubbleEmptySaid : Prop := bubbleEmptyRow.holds Try.pinned (OpenSpec.ofChange bubbleEmptySpec)

/-- ITS FALSE NEIGHBOUR: 'it returns false'. Refute it at one input. -/
def bubbleEmptyWrong : ChangeSpec := { name := "bubbleEmpty", fn := fun _ => fun
  | [d] => { results := [.lit (.bool false)], args := [d] }
  | _ => none }
def BubbleEmptyWrongFalsely : Prop := bubbleEmptyRow.holds Try.pinned (OpenSpec.ofChange bubbleEmptyWrong)

/-- 'awardingbodylaw20.BubbleSplits': WHATEVER THE INPUT: true; the input reads as it did. -/
def bubbleSplitsSpec : ChangeSpec := { name := "bubbleSplits", fn := fun _ => fun
  | [d1, d2] => { results := [.lit (.bool true)], args := [d1, d2] }
  | _ => none }
def bubbleSplitsRow : OpenClaim := { program := "ytndmadohffcdiaa", sum := "641eed91e87b485dee4d4c3af8272f074b06f17c2420c77d77d164d4242a13ef", func := "awardingbody/awardingbodylaw20.BubbleSplits", spec := "bubbleSplits", unfollowed := true, recurses := true, apart := false }
def BubbleSplitsSaid : Prop := bubbleSplitsRow.holds Try.pinned (OpenSpec.ofChange bubbleSplitsSpec)

/-- ITS FALSE NEIGHBOUR: 'it returns false'. Refute it at one input. -/
def bubbleSplitsWrong : ChangeSpec := { name := "bubbleSplits", fn := fun _ => fun
  | [d1, d2] => { results := [.lit (.bool false)], args := [d1, d2] }
  | _ => none }
def BubbleSplitsWrongFalsely : Prop := bubbleSplitsRow.holds Try.pinned (OpenSpec.ofChange bubbleSplitsWrong)

/-- 'awardingbodylaw20.BubblePages': WHATEVER THE INPUT: true; the input reads as it did. -/
def bubblePagesSpec : ChangeSpec := { name := "bubblePages", fn := fun _ => fun
  | [d1, d2, d3] => { results := [.lit (.bool true)], args := [d1, d2, d3] }
  | _ => none }
def bubblePagesRow : OpenClaim := { program := "ytndmadohffcdiaa", sum := "641eed91e87b485dee4d4c3af8272f074b06f17c2420c77d77d164d4242a13ef", func := "awardingbody/awardingbodylaw20.BubblePages", spec := "bubblePages", unfollowed := true, recurses := true, apart := false }
def BubblePagesSaid : Prop := bubblePagesRow.holds Try.pinned (OpenSpec.ofChange bubblePagesSpec)

/-- ITS FALSE NEIGHBOUR: 'it returns false'. Refute it at one input. -/
def bubblePagesWrong : ChangeSpec := { name := "bubblePages", fn := fun _ => fun
  | [d1, d2, d3] => { results := [.lit (.bool false)], args := [d1, d2, d3] }
  | _ => none }
def BubblePagesWrongFalsely : Prop := bubblePagesRow.holds Try.pinned (OpenSpec.ofChange bubblePagesWrong)

/-- 'awardingbodylaw20.BubbleParts': WHATEVER THE INPUT: true; the input reads as it did. -/
def bubblePartsSpec : ChangeSpec := { name := "bubbleParts", fn := fun _ => fun
  | [d] => { results := [.lit (.bool true)], args := [d] }
  | _ => none }
def bubblePartsRow : OpenClaim := { program := "ytndmadohffcdiaa", sum := "641eed91e87b485dee4d4c3af8272f074b06f17c2420c77d77d164d4242a13ef", func := "awardingbody/awardingbodylaw20.BubbleParts", spec := "bubbleParts", unfollowed := true, recurses := true, apart := false }
def BubblePartsSaid : Prop := bubblePartsRow.holds Try.pinned (OpenSpec.ofChange bubblePartsSpec)

/-- ITS FALSE NEIGHBOUR: 'it returns false'. Refute it at one input. -/
def bubblePartsWrong : ChangeSpec := { name := "bubbleParts", fn := fun _ => fun
  | [d] => { results := [.lit (.bool false)], args := [d] }
  | _ => none }
def BubblePartsWrongFalsely : Prop := bubblePartsRow.holds Try.pinned (OpenSpec.ofChange bubblePartsWrong)

/- THE SECOND FORM. 'bulk': how many values and letters a reading holds, each counted each time it is reached (what is shared counts as often as it is met; a slice's spare places count too). A statement '..UptoSaid' is the law's where the arguments, and the package variables that the reading takes, are together of bulk at most 1048576: NARROWER than '..Said'. Prove '..Said' where nothing that the law and all that it calls make is longer than what came in: it says more and counts as full. Else prove '..UptoSaid'. A law counts once. -/
mutual
def uptoBulk {H : Type} : DataW H → Nat
  | .lit (.string bytes) => bytes.length + 1
  | .lit _ => 1
  | .nil => 1
  | .ptr d => uptoBulk d + 1
  | .slice elems spare => uptoBulkAll elems + uptoBulkAll spare + 1
  | .agg parts => uptoBulkAll parts + 1
  | .iface _ d => uptoBulk d + 1
  | .map entries => uptoBulkEntries entries + 1
  | .held _ => 1
def uptoBulkAll {H : Type} : List (DataW H) → Nat
  | [] => 0
  | d :: r => uptoBulk d + uptoBulkAll r
def uptoBulkEntries {H : Type} : List (Lit × DataW H) → Nat
  | [] => 0
  | x :: r => uptoBulkEntry x + uptoBulkEntries r
def uptoBulkEntry {H : Type} : Lit × DataW H → Nat
  | (.string bytes, d) => bytes.length + uptoBulk d + 1
  | (_, d) => uptoBulk d + 1
 end
def uptoSmall : (H : Type) → List (DataW H) → Bool := fun _ ds => decide (uptoBulkAll ds ≤ 1048576)
def OpenSpec.upto (s : _root_.Go.ChangeSpec) : _root_.Go.OpenSpec := { _root_.Go.OpenSpec.ofChange s with cond := some uptoSmall }

/-- 'awardingbodylaw20.BubbleValid', WHERE WHAT IT READS IS OF BULK AT MOST 1048576: true; the input reads as it did. -/
def bubbleValidUptoRow : OpenClaim := { program := "ytndmadohffcdiaa", sum := "641eed91e87b485dee4d4c3af8272f074b06f17c2420c77d77d164d4242a13ef", func := "awardingbody/awardingbodylaw20.BubbleValid", spec := "bubbleValid", unfollowed := true, recurses := true, apart := false, narrowed := true }
def BubbleValidUptoSaid : Prop := bubbleValidUptoRow.holds Try.pinned (OpenSpec.upto bubbleValidSpec)

/-- 'awardingbodylaw20.BubbleJudges', WHERE WHAT IT READS IS OF BULK AT MOST 1048576: true; the input reads as it did. -/
def bubbleJudgesUptoRow : OpenClaim := { program := "ytndmadohffcdiaa", sum := "641eed91e87b485dee4d4c3af8272f074b06f17c2420c77d77d164d4242a13ef", func := "awardingbody/awardingbodylaw20.BubbleJudges", spec := "bubbleJudges", unfollowed := true, recurses := true, apart := false, narrowed := true }
def BubbleJudgesUptoSaid : Prop := bubbleJudgesUptoRow.holds Try.pinned (OpenSpec.upto bubbleJudgesSpec)

/-- 'awardingbodylaw20.BubbleMoves', WHERE WHAT IT READS IS OF BULK AT MOST 1048576: true; the input reads as it did. -/
def bubbleMovesUptoRow : OpenClaim := { program := "ytndmadohffcdiaa", sum := "641eed91e87b485dee4d4c3af8272f074b06f17c2420c77d77d164d4242a13ef", func := "awardingbody/awardingbodylaw20.BubbleMoves", spec := "bubbleMoves", unfollowed := true, recurses := true, apart := false, narrowed := true }
def BubbleMovesUptoSaid : Prop := bubbleMovesUptoRow.holds Try.pinned (OpenSpec.upto bubbleMovesSpec)

/-- 'awardingbodylaw20.BubbleDarker', WHERE WHAT IT READS IS OF BULK AT MOST 1048576: true; the input reads as it did. -/
def bubbleDarkerUptoRow : OpenClaim := { program := "ytndmadohffcdiaa", sum := "641eed91e87b485dee4d4c3af8272f074b06f17c2420c77d77d164d4242a13ef", func := "awardingbody/awardingbodylaw20.BubbleDarker", spec := "bubbleDarker", unfollowed := true, recurses := true, apart := false, narrowed := true }
def BubbleDarkerUptoSaid : Prop := bubbleDarkerUptoRow.holds Try.pinned (OpenSpec.upto bubbleDarkerSpec)

/-- 'awardingbodylaw20.BubbleEmpty', WHERE WHAT IT READS IS OF BULK AT MOST 1048576: true; the input reads as it did. -/
def bubbleEmptyUptoRow : OpenClaim := { program := "ytndmadohffcdiaa", sum := "641eed91e87b485dee4d4c3af8272f074b06f17c2420c77d77d164d4242a13ef", func := "awardingbody/awardingbodylaw20.BubbleEmpty", spec := "bubbleEmpty", unfollowed := true, recurses := true, apart := false, narrowed := true }
def BubbleEmptyUptoSaid : Prop := bubbleEmptyUptoRow.holds Try.pinned (OpenSpec.upto bubbleEmptySpec)

/-- 'awardingbodylaw20.BubbleSplits', WHERE WHAT IT READS IS OF BULK AT MOST 1048576: true; the input reads as it did. -/
def bubbleSplitsUptoRow : OpenClaim := { program := "ytndmadohffcdiaa", sum := "641eed91e87b485dee4d4c3af8272f074b06f17c2420c77d77d164d4242a13ef", func := "awardingbody/awardingbodylaw20.BubbleSplits", spec := "bubbleSplits", unfollowed := true, recurses := true, apart := false, narrowed := true }
def BubbleSplitsUptoSaid : Prop := bubbleSplitsUptoRow.holds Try.pinned (OpenSpec.upto bubbleSplitsSpec)

/-- 'awardingbodylaw20.BubblePages', WHERE WHAT IT READS IS OF BULK AT MOST 1048576: true; the input reads as it did. -/
def bubblePagesUptoRow : OpenClaim := { program := "ytndmadohffcdiaa", sum := "641eed91e87b485dee4d4c3af8272f074b06f17c2420c77d77d164d4242a13ef", func := "awardingbody/awardingbodylaw20.BubblePages", spec := "bubblePages", unfollowed := true, recurses := true, apart := false, narrowed := true }
def BubblePagesUptoSaid : Prop := bubblePagesUptoRow.holds Try.pinned (OpenSpec.upto bubblePagesSpec)

/-- 'awardingbodylaw20.BubbleParts', WHERE WHAT IT READS IS OF BULK AT MOST 1048576: true; the input reads as it did. -/
def bubblePartsUptoRow : OpenClaim := { program := "ytndmadohffcdiaa", sum := "641eed91e87b485dee4d4c3af8272f074b06f17c2420c77d77d164d4242a13ef", func := "awardingbody/awardingbodylaw20.BubbleParts", spec := "bubbleParts", unfollowed := true, recurses := true, apart := false, narrowed := true }
def BubblePartsUptoSaid : Prop := bubblePartsUptoRow.holds Try.pinned (OpenSpec.upto bubblePartsSpec)

end Rows
end Go.Proofs.Ytndmadohffcdiaa
