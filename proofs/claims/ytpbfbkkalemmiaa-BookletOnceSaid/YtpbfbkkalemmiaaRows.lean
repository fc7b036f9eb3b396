/-
  No cell of these rows narrows 'for every input' (looked for: loops, veiled, ifaces, maps, wideKeys, modest, calm, conditions, laid).
  DERIVED. THE GIVEN ROWS OF THIS SEAT. 8 by the template 'for every input the law returns true; each argument reads behind the call as it read before'; 0 by the template 'total and deterministic' (their statements: YtpbfbkkalemmiaaTotals.lean).
  GIVEN WITH THE SEED: the statements are not yours to turn. If you find one false, say at which input.
  Laid BY PROGRAM, IN A SANDBOX (cutbox-rows.mjs): the forced cells as the released guide's own fill.sh prints them over the translation 2dcfb962d333b055… (all of the seat's roots in one cut). By AI agents, Wed Nov 11 2026. No macro, syntax, notation, axiom, sorry.
-/
import Derived.Test.YtpbfbkkalemmiaaChecked
import GoSem.Claim
import GoSem.ClaimJoined
import GoSem.ClaimMapViews
import Derived.JoinedTies
import Derived.KernelRfl
namespace Go.Proofs.Ytpbfbkkalemmiaa
/- THE CELL 'sum', in the pinned program and in every row, IS THE sha256 OF THE DUMP (.gsa) THAT YtpbfbkkalemmiaaProg.lean LOADS. Nothing in Lean hashes anything: it is a label: what it is worth is what the hold of that sum in a sandbox is worth. -/
noncomputable def Try.pinned : Pinned := { name := "ytpbfbkkalemmiaa", sum := "2dcfb962d333b055786e126a000691c25da4b51dade38929d340b5649e061ccf", checked := Try.checked }
namespace Rows
def none {H : Type} : Left H := { results := [], args := [] }

/-- 'awardingbodylaw12.BookletNeeds': WHATEVER THE INPUT: true; the input reads as it did. -/
def bookletNeedsSpec : ChangeSpec := { name := "bookletNeeds", fn := fun _ => fun
  | [d1, d2, d3, d4] => { results := [.lit (.bool true)], args := [d1, d2, d3, d4] }
  | _ => none }
def bookletNeedsRow : OpenClaim := { program := "ytpbfbkkalemmiaa", sum := "2dcfb962d333b055786e126a000691c25da4b51dade38929d340b5649e061ccf", func := "awardingbody/awardingbodylaw12.BookletNeeds", spec := "bookletNeeds", unfollowed := true, recurses := true, apart := false }
def BookletNeedsSaid : Prop := bookletNeedsRow.holds Try.pinned (OpenSpec.ofChange bookletNeedsSpec)

/-- ITS FALSE NEIGHBOUR: 'it returns false'. Refute it at one input. -/
def bookletNeedsWrong : ChangeSpec := { name := "bookletNeeds", fn := fun _ => fun
  | [d1, d2, d3, d4] => { results := [.lit (.bool false)], args := [d1, d2, d3, d4] }
  | _ => none }
def BookletNeedsWrongFalsely : Prop := bookletNeedsRow.holds Try.pinned (OpenSpec.ofChange bookletNeedsWrong)

/-- 'awardingbodylaw12.BookletMakes': WHATEVER THE INPUT: true; the input reads as it did. -/
def bookletMakesSpec : ChangeSpec := { name := "bookletMakes", fn := fun _ => fun
  | [d] => { results := [.lit (.bool true)], args := [d] }
  | _ => none }
def bookletMakesRow : OpenClaim := { program := "ytpbfbkkalemmiaa", sum := "2dcfb962d333b055786e126a000691c25da4b51dade38929d340b5649e061ccf", func := "awardingbody/awardingbodylaw12.BookletMakes", spec := "bookletMakes", unfollowed := true, recurses := true, apart := false }
def BookletMakesSaid : Prop := bookletMakesRow.holds Try.pinned (OpenSpec.ofChange bookletMakesSpec)

/-- ITS FALSE NEIGHBOUR: 'it returns false'. Refute it at one input. -/
def bookletMakesWrong : ChangeSpec := { name := "bookletMakes", fn := fun _ => fun
  | [d] => { results := [.lit (.bool false)], args := [d] }
  | _ => none }
def BookletMakesWrongFalsely : Prop := bookletMakesRow.holds Try.pinned (OpenSpec.ofChange bookletMakesWrong)

/-- 'awardingbodylaw12.BookletFull': WHATEVER THE INPUT: true; the input reads as it did. -/
def bookletFullSpec : ChangeSpec := { name := "bookletFull", fn := fun _ => fun
  | [d1, d2] => { results := [.lit (.bool true)], args := [d1, d2] }
  | _ => none }
def bookletFullRow : OpenClaim := { program := "ytpbfbkkalemmiaa", sum := "2dcfb962d333b055786e126a000691c25da4b51dade38929d340b5649e061ccf", func := "awardingbody/awardingbodylaw12.BookletFull", spec := "bookletFull", unfollowed := true, recurses := true, apart := false }
def BookletFullSaid : Prop := bookletFullRow.holds Try.pinned (OpenSpec.ofChange bookletFullSpec)

/-- ITS FALSE NEIGHBOUR: 'it returns false'. Refute it at one input. -/
def bookletFullWrong : ChangeSpec := { name := "bookletFull", fn := fun _ => fun
  | [d1, d2] => { results := [.lit (.bool false)], args := [d1, d2] }
  | _ => none }
def BookletFullWrongFalsely : Prop := bookletFullRow.holds Try.pinned (OpenSpec.ofChange bookletFullWrong)

/-- 'awardingbodylaw12.BookletValid': WHATEVER THE INPUT: true; the input reads as it did. -/
def bookletValidSpec : ChangeSpec := { name := "bookletValid", fn := fun _ => fun
  | [d] => { results := [.lit (.bool true)], args := [d] }
  | _ => none }
def bookletValidRow : OpenClaim := { program := "ytpbfbkkalemmiaa", sum := "2dcfb962d333b055786e126a000691c25da4b51dade38929d340b5649e061ccf", func := "awardingbody/awardingbodylaw12.BookletValid", spec := "bookletValid", unfollowed := true, recurses := true, apart := false }
def BookletValidSaid : Prop := bookletValidRow.holds Try.pinned (OpenSpec.ofChange bookletValidSpec)

/-- ITS FALSE NEIGHBOUR: 'it returns false'. Refute it at one input. -/
def bookletValidWrong : ChangeSpec := { name := "bookletValid", fn := fun _ => fun
  | [d] => { results := [.lit (.bool false)], args := [d] }
  | _ => none }
def BookletValidWrongFalsely : Prop := bookletValidRow.holds Try.pinned (OpenSpec.ofChange bookletValidWrong)

/-- 'awardingbodylaw12.BookletPages': WHATEVER THE INPUT: true; the input reads as it did. -/
def bookletPagesSpec : ChangeSpec := { name := "bookletPages", fn := fun _ => fun
  | [d1, d2] => { results := [.lit (.bool true)], args := [d1, d2] }
  | _ => none }
def bookletPagesRow : OpenClaim := { program := "ytpbfbkkalemmiaa", sum := "2dcfb962d333b055786e126a000691c25da4b51dade38929d340b5649e061ccf", func := "awardingbody/awardingbodylaw12.BookletPages", spec := "bookletPages", unfollowed := true, recurses := true, apart := false }
def BookletPagesSaid : Prop := bookletPagesRow.holds Try.pinned (OpenSpec.ofChange bookletPagesSpec)

/-- ITS FALSE NEIGHBOUR: 'it returns false'. Refute it at one input. -/
def bookletPagesWrong : ChangeSpec := { name := "bookletPages", fn := fun _ => fun
  | [d1, d2] => { results := [.lit (.bool false)], args := [d1, d2] }
  | _ => none }
def BookletPagesWrongFalsely : Prop := bookletPagesRow.holds Try.pinned (OpenSpec.ofChange bookletPagesWrong)

/-- 'awardingbodylaw12.BookletFewest': WHATEVER THE INPUT: true; the input reads as it did. -/
def bookletFewestSpec : ChangeSpec := { name := "bookletFewest", fn := fun _ => fun
  | [d] => { results := [.lit (.bool true)], args := [d] }
  | _ => none }
def bookletFewestRow : OpenClaim := { program := "ytpbfbkkalemmiaa", sum := "2dcfb962d333b055786e126a000691c25da4b51dade38929d340b5649e061ccf", func := "awardingbody/awardingbodylaw12.BookletFewest", spec := "bookletFewest", unfollowed := true, recurses := true, apart := false }
def BookletFewestSaid : Prop := bookletFewestRow.holds Try.pinned (OpenSpec.ofChange bookletFewestSpec)

/-- ITS FALSE NEIGHBOUR: 'it returns false'. Refute it at one input. -/
def bookletFewestWrong : ChangeSpec := { name := "bookletFewest", fn := fun _ => fun
  | [d] => { results := [.lit (.bool false)], args := [d] }
  | _ => none }
def BookletFewestWrongFalsely : Prop := bookletFewestRow.holds Try.pinned (OpenSpec.ofChange bookletFewestWrong)

/-- 'awardingbodylaw12.BookletFields': WHATEVER THE INPUT: true; the input reads as it did. -/
def bookletFieldsSpec : ChangeSpec := { name := "bookletFields", fn := fun _ => fun
  | [d1, d2] => { results := [.lit (.bool true)], args := [d1, d2] }
  | _ => none }
def bookletFieldsRow : OpenClaim := { program := "ytpbfbkkalemmiaa", sum := "2dcfb962d333b055786e126a000691c25da4b51dade38929d340b5649e061ccf", func := "awardingbody/awardingbodylaw12.BookletFields", spec := "bookletFields", unfollowed := true, recurses := true, apart := false }
def BookletFieldsSaid : Prop := bookletFieldsRow.holds Try.pinned (OpenSpec.ofChange bookletFieldsSpec)

/-- ITS FALSE NEIGHBOUR: 'it returns false'. Refute it at one input. -/
def bookletFieldsWrong : ChangeSpec := { name := "bookletFields", fn := fun _ => fun
  | [d1, d2] => { results := [.lit (.bool false)], args := [d1, d2] }
  | _ => none }
def BookletFieldsWrongFalsely : Prop := bookletFieldsRow.holds Try.pinned (OpenSpec.ofChange bookletFieldsWrong)

/-- 'awardingbodylaw12.BookletOnce': WHATEVER THE INPUT: true; the input reads as it did. -/
def bookletOnceSpec : ChangeSpec := { name := "bookletOnce", fn := fun _ => fun
  | [d] => { results := [.lit (.bool true)], args := [d] }
  | _ => none }
def bookletOnceRow : OpenClaim := { program := "ytpbfbkkalemmiaa", sum := "2dcfb962d333b055786e126a000691c25da4b51dade38929d340b5649e061ccf", func := "awardingbody/awardingbodylaw12.BookletOnce", spec := "bookletOnce", unfollowed := true, recurses := true, apart := false }
def BookletOnceSaid : Prop := bookletOnceRow.holds Try.pinned (OpenSpec.ofChange bookletOnceSpec)

/-- ITS FALSE NEIGHBOUR: 'it returns false'. Refute it at one input. -/
def bookletOnceWrong : ChangeSpec := { name := "bookletOnce", fn := fun _ => fun
  | [d] => { results := [.lit (.bool false)], args := [d] }
  | _ => none }
def BookletOnceWrongFalsely : Prop := bookletOnceRow.holds Try.pinned (OpenSpec.ofChange bookletOnceWrong)

/- THE SECOND FORM. 'bulk': how many values and letters a reading holds, each counted each time it is reached (what is shared counts as often as it is met; a slice's spare places count too). A statement '..UptoSaid' is the law's where the arguments, and the package variables that the reading takes, are together of bulk at most 1048576: NARROWER than '..Said'. Prove '..Said' where nothing that the law and all that it calls make is longer than what came in: it says more and counts as full. Else prove '..UptoSaid'. A law counts once. -/
mutual
def uptoBulk {H : Type} : DataW H → Nat
  | .lit (.string bytes) => bytes.length + 1
  | .lit _ => 1
  | .nil => 1
  | .ptr d => uptoBulk d + 1
  | .slice elems spare => uptoBulkAll elems + uptoBulkAll spare + 1
  | .agg parts => uptoBulkAll parts + 1
  | .iface _ d => uptoBulk d + 1
  | .map entries => uptoBulkEntries entries + 1
  | .held _ => 1
def uptoBulkAll {H : Type} : List (DataW H) → Nat
  | [] => 0
  | d :: r => uptoBulk d + uptoBulkAll r
def uptoBulkEntries {H : Type} : List (Lit × DataW H) → Nat
  | [] => 0
  | x :: r => uptoBulkEntry x + uptoBulkEntries r
def uptoBulkEntry {H : Type} : Lit × DataW H → Nat
  | (.string bytes, d) => bytes.length + uptoBulk d + 1
  | (_, d) => uptoBulk d + 1
 end
def uptoSmall : (H : Type) → List (DataW H) → Bool := fun _ ds => decide (uptoBulkAll ds ≤ 1048576)
def OpenSpec.upto (s : _root_.Go.ChangeSpec) : _root_.Go.OpenSpec := { _root_.Go.OpenSpec.ofChange s with cond := some uptoSmall }

/-- 'awardingbodylaw12.BookletNeeds', WHERE WHAT IT READS IS OF BULK AT MOST 1048576: true; the input reads as it did. -/
def bookletNeedsUptoRow : OpenClaim := { program := "ytpbfbkkalemmiaa", sum := "2dcfb962d333b055786e126a000691c25da4b51dade38929d340b5649e061ccf", func := "awardingbody/awardingbodylaw12.BookletNeeds", spec := "bookletNeeds", unfollowed := true, recurses := true, apart := false, narrowed := true }
def BookletNeedsUptoSaid : Prop := bookletNeedsUptoRow.holds Try.pinned (OpenSpec.upto bookletNeedsSpec)

/-- 'awardingbodylaw12.BookletMakes', WHERE WHAT IT READS IS OF BULK AT MOST 1048576: true; the input reads as it did. -/
def bookletMakesUptoRow : OpenClaim := { program := "ytpbfbkkalemmiaa", sum := "2dcfb962d333b055786e126a000691c25da4b51dade38929d340b5649e061ccf", func := "awardingbody/awardingbodylaw12.BookletMakes", spec := "bookletMakes", unfollowed := true, recurses := true, apart := false, narrowed := true }
def BookletMakesUptoSaid : Prop := bookletMakesUptoRow.holds Try.pinned (OpenSpec.upto bookletMakesSpec)

/-- 'awardingbodylaw12.BookletFull', WHERE WHAT IT READS IS OF BULK AT MOST 1048576: true; the input reads as it did. -/
def bookletFullUptoRow : OpenClaim := { program := "ytpbfbkkalemmiaa", sum := "2dcfb962d333b055786e126a000691c25da4b51dade38929d340b5649e061ccf", func := "awardingbody/awardingbodylaw12.BookletFull", spec := "bookletFull", unfollowed := true, recurses := true, apart := false, narrowed := true }
def BookletFullUptoSaid : Prop := bookletFullUptoRow.holds Try.pinned (OpenSpec.upto bookletFullSpec)

/-- 'awardingbodylaw12.BookletValid', WHERE WHAT IT READS IS OF BULK AT MOST 1048576: true; the input reads as it did. -/
def bookletValidUptoRow : OpenClaim := { program := "ytpbfbkkalemmiaa", sum := "2dcfb962d333b055786e126a000691c25da4b51dade38929d340b5649e061ccf", func := "awardingbody/awardingbodylaw12.BookletValid", spec := "bookletValid", unfollowed := true, recurses := true, apart := false, narrowed := true }
def BookletValidUptoSaid : Prop := bookletValidUptoRow.holds Try.pinned (OpenSpec.upto bookletValidSpec)

/-- 'awardingbodylaw12.BookletPages', WHERE WHAT IT READS IS OF BULK AT MOST 1048576: true; the input reads as it did. -/
def bookletPagesUptoRow : OpenClaim := { program := "ytpbfbkkalemmiaa", sum := "2dcfb962d333b055786e126a000691c25da4b51dade38929d340b5649e061ccf", func := "awardingbody/awardingbodylaw12.BookletPages", spec := "bookletPages", unfollowed := true, recurses := true, apart := false, narrowed := true }
def BookletPagesUptoSaid : Prop := bookletPagesUptoRow.holds Try.pinned (OpenSpec.upto bookletPagesSpec)

/-- 'awardingbodylaw12.BookletFewest', WHERE WHAT IT READS IS OF BULK AT MOST 1048576: true; the input reads as it did. -/
def bookletFewestUptoRow : OpenClaim := { program := "ytpbfbkkalemmiaa", sum := "2dcfb962d333b055786e126a000691c25da4b51dade38929d340b5649e061ccf", func := "awardingbody/awardingbodylaw12.BookletFewest", spec := "bookletFewest", unfollowed := true, recurses := true, apart := false, narrowed := true }
def BookletFewestUptoSaid : Prop := bookletFewestUptoRow.holds Try.pinned (OpenSpec.upto bookletFewestSpec)

/-- 'awardingbodylaw12.BookletFields', WHERE WHAT IT READS IS OF BULK AT MOST 1048576: true; the input reads as it did. -/
def bookletFieldsUptoRow : OpenClaim := { program := "ytpbfbkkalemmiaa", sum := "2dcfb962d333b055786e126a000691c25da4b51dade38929d340b5649e061ccf", func := "awardingbody/awardingbodylaw12.BookletFields", spec := "bookletFields", unfollowed := true, recurses := true, apart := false, narrowed := true }
def BookletFieldsUptoSaid : Prop := bookletFieldsUptoRow.holds Try.pinned (OpenSpec.upto bookletFieldsSpec)

/-- 'awardingbodylaw12.BookletOnce', WHERE WHAT IT READS IS OF BULK AT MOST 1048576: true; the input reads as it did. -/
def bookletOnceUptoRow : OpenClaim := { program := "ytpbfbkkalemmiaa", sum := "2dcfb962d333b055786e126a000691c25da4b51dade38929d340b5649e061ccf", func := "awardingbody/awardingbodylaw12.BookletOnce", spec := "bookletOnce", unfollowed := true, recurses := true, apart := false, narrowed := true }
def BookletOnceUptoSaid : Prop := bookletOnceUptoRow.holds Try.pinned (OpenSpec.upto bookletOnceSpec)

end Rows
end Go.Proofs.Ytpbfbkkalemmiaa
