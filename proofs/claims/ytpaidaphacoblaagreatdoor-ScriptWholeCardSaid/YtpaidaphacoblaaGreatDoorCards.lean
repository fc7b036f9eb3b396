/-
  DERIVED. GIVEN WITH THE SEED: THE CARDS: each row of YtpaidaphacoblaaGreatDoorRows.lean that lists a variable, with what it lists TIED to the program's text (the seventh form; the later family's looks); each row that meets fmt, with fmt's text TOLD by the authors' own Lean function (tested against real Go, not proved from fmt's source: count such statements apart). THE CARD IS WHAT COUNTS. Prove the row's statement (the work); the ties are given (YtpaidaphacoblaaGreatDoorTie.lean); close each card by the builder's one call (the guide's Derived/Test/ToyasCard.lean, 'card_holds'). Laid BY PROGRAM, IN A SANDBOX (cutbox-door.mjs). By AI agents, Wed Nov 11 2026. No macro, syntax, notation, axiom, sorry.
-/
import Derived.Test.YtpaidaphacoblaaGreatDoorRows
import GoSem.ClaimSeven
namespace Go.Proofs.YtpaidaphacoblaaGreatDoor
namespace Rows

/-- THE TIED CARD OF 'awardingbodylaw22.ScriptWhole'. -/
def scriptWholeCard : Claim7 := { stood := { row := scriptWholeRow, standIns := [], harness := (true, "5c22b3c266021d055e2eda8825773c804405a328f1ebffa00cb9e304a3e3f8d9"), looks := false }, kinds := [], alts := [], laidByText := true, laidKinds := [.data, .data], laidTests := true, laidLooks := .later }
def ScriptWholeCardSaid : Prop := Claim7.holds Tryz.pinned (.plain (OpenSpec.ofChange scriptWholeSpec)) scriptWholeCard

/-- THE TIED CARD OF 'awardingbodylaw22.ScriptMisses'. -/
def scriptMissesCard : Claim7 := { stood := { row := scriptMissesRow, standIns := [], harness := (true, "5c22b3c266021d055e2eda8825773c804405a328f1ebffa00cb9e304a3e3f8d9"), looks := false }, kinds := [], alts := [], laidByText := true, laidKinds := [.data, .data], laidTests := true, laidLooks := .later }
def ScriptMissesCardSaid : Prop := Claim7.holds Tryz.pinned (.plain (OpenSpec.ofChange scriptMissesSpec)) scriptMissesCard

/-- THE TIED CARD OF 'awardingbodylaw22.ScriptAccountsAll'. -/
def scriptAccountsAllCard : Claim7 := { stood := { row := scriptAccountsAllRow, standIns := [], harness := (true, "5c22b3c266021d055e2eda8825773c804405a328f1ebffa00cb9e304a3e3f8d9"), looks := false }, kinds := [], alts := [], laidByText := true, laidKinds := [.data, .data], laidTests := true, laidLooks := .later }
def ScriptAccountsAllCardSaid : Prop := Claim7.holds Tryz.pinned (.plain (OpenSpec.ofChange scriptAccountsAllSpec)) scriptAccountsAllCard

/-- THE SECOND FORM's CARD OF 'awardingbodylaw22.ScriptWhole'. -/
def scriptWholeUptoCard : Claim7 := { stood := { row := scriptWholeUptoRow, standIns := [], harness := (true, "5c22b3c266021d055e2eda8825773c804405a328f1ebffa00cb9e304a3e3f8d9"), looks := false }, kinds := [], alts := [], laidByText := true, laidKinds := [.data, .data], laidTests := true, laidLooks := .later }
def ScriptWholeUptoCardSaid : Prop := Claim7.holds Tryz.pinned (.plain (OpenSpec.upto scriptWholeSpec)) scriptWholeUptoCard

/-- THE SECOND FORM's CARD OF 'awardingbodylaw22.ScriptMisses'. -/
def scriptMissesUptoCard : Claim7 := { stood := { row := scriptMissesUptoRow, standIns := [], harness := (true, "5c22b3c266021d055e2eda8825773c804405a328f1ebffa00cb9e304a3e3f8d9"), looks := false }, kinds := [], alts := [], laidByText := true, laidKinds := [.data, .data], laidTests := true, laidLooks := .later }
def ScriptMissesUptoCardSaid : Prop := Claim7.holds Tryz.pinned (.plain (OpenSpec.upto scriptMissesSpec)) scriptMissesUptoCard

/-- THE SECOND FORM's CARD OF 'awardingbodylaw22.ScriptAccountsAll'. -/
def scriptAccountsAllUptoCard : Claim7 := { stood := { row := scriptAccountsAllUptoRow, standIns := [], harness := (true, "5c22b3c266021d055e2eda8825773c804405a328f1ebffa00cb9e304a3e3f8d9"), looks := false }, kinds := [], alts := [], laidByText := true, laidKinds := [.data, .data], laidTests := true, laidLooks := .later }
def ScriptAccountsAllUptoCardSaid : Prop := Claim7.holds Tryz.pinned (.plain (OpenSpec.upto scriptAccountsAllSpec)) scriptAccountsAllUptoCard
end Rows
end Go.Proofs.YtpaidaphacoblaaGreatDoor
