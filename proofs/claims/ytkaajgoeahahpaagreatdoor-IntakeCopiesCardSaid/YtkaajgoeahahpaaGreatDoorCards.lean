/-
  DERIVED. GIVEN WITH THE SEED: THE CARDS: each row of YtkaajgoeahahpaaGreatDoorRows.lean that lists a variable, with what it lists TIED to the program's text (the seventh form; the later family's looks); each row that meets fmt, with fmt's text TOLD by the authors' own Lean function (tested against real Go, not proved from fmt's source: count such statements apart). THE CARD IS WHAT COUNTS. Prove the row's statement (the work); the ties are given (YtkaajgoeahahpaaGreatDoorTie.lean); close each card by the builder's one call (the guide's Derived/Test/ToyasCard.lean, 'card_holds'). Laid BY PROGRAM, IN A SANDBOX (cutbox-door.mjs). By AI agents, Wed Nov 11 2026. No macro, syntax, notation, axiom, sorry.
-/
import Derived.Test.YtkaajgoeahahpaaGreatDoorRows
import GoSem.ClaimSeven
namespace Go.Proofs.YtkaajgoeahahpaaGreatDoor
namespace Rows

/-- THE TIED CARD OF 'awardingbodylaw21.IntakeChecks'. -/
def intakeChecksCard : Claim7 := { stood := { row := intakeChecksRow, standIns := [], harness := (true, "15b3854e3db2b599953cd804742000d89deb6cf0b35419cef967ceaa022f5ac9"), looks := false }, kinds := [], alts := [], laidByText := true, laidKinds := [.data, .data], laidTests := true, laidLooks := .later }
def IntakeChecksCardSaid : Prop := Claim7.holds Tryz.pinned (.plain (OpenSpec.ofChange intakeChecksSpec)) intakeChecksCard

/-- THE TIED CARD OF 'awardingbodylaw21.IntakeCanonical'. -/
def intakeCanonicalCard : Claim7 := { stood := { row := intakeCanonicalRow, standIns := [], harness := (true, "15b3854e3db2b599953cd804742000d89deb6cf0b35419cef967ceaa022f5ac9"), looks := false }, kinds := [], alts := [], laidByText := true, laidKinds := [.data, .data], laidTests := true, laidLooks := .later }
def IntakeCanonicalCardSaid : Prop := Claim7.holds Tryz.pinned (.plain (OpenSpec.ofChange intakeCanonicalSpec)) intakeCanonicalCard

/-- THE TIED CARD OF 'awardingbodylaw21.IntakeDiffers'. -/
def intakeDiffersCard : Claim7 := { stood := { row := intakeDiffersRow, standIns := [], harness := (true, "15b3854e3db2b599953cd804742000d89deb6cf0b35419cef967ceaa022f5ac9"), looks := false }, kinds := [], alts := [], laidByText := true, laidKinds := [.data, .data], laidTests := true, laidLooks := .later }
def IntakeDiffersCardSaid : Prop := Claim7.holds Tryz.pinned (.plain (OpenSpec.ofChange intakeDiffersSpec)) intakeDiffersCard

/-- THE TIED CARD OF 'awardingbodylaw21.IntakeLabels'. -/
def intakeLabelsCard : Claim7 := { stood := { row := intakeLabelsRow, standIns := [], harness := (true, "15b3854e3db2b599953cd804742000d89deb6cf0b35419cef967ceaa022f5ac9"), looks := false }, kinds := [], alts := [], laidByText := true, laidKinds := [.data, .data], laidTests := true, laidLooks := .later }
def IntakeLabelsCardSaid : Prop := Claim7.holds Tryz.pinned (.plain (OpenSpec.ofChange intakeLabelsSpec)) intakeLabelsCard

/-- THE TIED CARD OF 'awardingbodylaw21.IntakeSorts'. -/
def intakeSortsCard : Claim7 := { stood := { row := intakeSortsRow, standIns := [], harness := (true, "15b3854e3db2b599953cd804742000d89deb6cf0b35419cef967ceaa022f5ac9"), looks := false }, kinds := [], alts := [], laidByText := true, laidKinds := [.data, .data], laidTests := true, laidLooks := .later }
def IntakeSortsCardSaid : Prop := Claim7.holds Tryz.pinned (.plain (OpenSpec.ofChange intakeSortsSpec)) intakeSortsCard

/-- THE TIED CARD OF 'awardingbodylaw21.IntakeAnyOrder'. -/
def intakeAnyOrderCard : Claim7 := { stood := { row := intakeAnyOrderRow, standIns := [], harness := (true, "15b3854e3db2b599953cd804742000d89deb6cf0b35419cef967ceaa022f5ac9"), looks := false }, kinds := [], alts := [], laidByText := true, laidKinds := [.data, .data], laidTests := true, laidLooks := .later }
def IntakeAnyOrderCardSaid : Prop := Claim7.holds Tryz.pinned (.plain (OpenSpec.ofChange intakeAnyOrderSpec)) intakeAnyOrderCard

/-- THE TIED CARD OF 'awardingbodylaw21.IntakeFits'. -/
def intakeFitsCard : Claim7 := { stood := { row := intakeFitsRow, standIns := [], harness := (true, "15b3854e3db2b599953cd804742000d89deb6cf0b35419cef967ceaa022f5ac9"), looks := false }, kinds := [], alts := [], laidByText := true, laidKinds := [.data, .data], laidTests := true, laidLooks := .later }
def IntakeFitsCardSaid : Prop := Claim7.holds Tryz.pinned (.plain (OpenSpec.ofChange intakeFitsSpec)) intakeFitsCard

/-- THE TIED CARD OF 'awardingbodylaw21.IntakeStates'. -/
def intakeStatesCard : Claim7 := { stood := { row := intakeStatesRow, standIns := [], harness := (true, "15b3854e3db2b599953cd804742000d89deb6cf0b35419cef967ceaa022f5ac9"), looks := false }, kinds := [], alts := [], laidByText := true, laidKinds := [.data, .data], laidTests := true, laidLooks := .later }
def IntakeStatesCardSaid : Prop := Claim7.holds Tryz.pinned (.plain (OpenSpec.ofChange intakeStatesSpec)) intakeStatesCard

/-- THE TIED CARD OF 'awardingbodylaw21.IntakeOnce'. -/
def intakeOnceCard : Claim7 := { stood := { row := intakeOnceRow, standIns := [], harness := (true, "15b3854e3db2b599953cd804742000d89deb6cf0b35419cef967ceaa022f5ac9"), looks := false }, kinds := [], alts := [], laidByText := true, laidKinds := [.data, .data], laidTests := true, laidLooks := .later }
def IntakeOnceCardSaid : Prop := Claim7.holds Tryz.pinned (.plain (OpenSpec.ofChange intakeOnceSpec)) intakeOnceCard

/-- THE TIED CARD OF 'awardingbodylaw21.IntakeRejects'. -/
def intakeRejectsCard : Claim7 := { stood := { row := intakeRejectsRow, standIns := [], harness := (true, "15b3854e3db2b599953cd804742000d89deb6cf0b35419cef967ceaa022f5ac9"), looks := false }, kinds := [], alts := [], laidByText := true, laidKinds := [.data, .data], laidTests := true, laidLooks := .later }
def IntakeRejectsCardSaid : Prop := Claim7.holds Tryz.pinned (.plain (OpenSpec.ofChange intakeRejectsSpec)) intakeRejectsCard

/-- THE TIED CARD OF 'awardingbodylaw21.IntakeCopies'. -/
def intakeCopiesCard : Claim7 := { stood := { row := intakeCopiesRow, standIns := [], harness := (true, "15b3854e3db2b599953cd804742000d89deb6cf0b35419cef967ceaa022f5ac9"), looks := false }, kinds := [], alts := [], laidByText := true, laidKinds := [.data, .data], laidTests := true, laidLooks := .later }
def IntakeCopiesCardSaid : Prop := Claim7.holds Tryz.pinned (.plain (OpenSpec.ofChange intakeCopiesSpec)) intakeCopiesCard

/-- THE TIED CARD OF 'awardingbodylaw21.IntakeIndexes'. -/
def intakeIndexesCard : Claim7 := { stood := { row := intakeIndexesRow, standIns := [], harness := (true, "15b3854e3db2b599953cd804742000d89deb6cf0b35419cef967ceaa022f5ac9"), looks := false }, kinds := [], alts := [], laidByText := true, laidKinds := [.data, .data], laidTests := true, laidLooks := .later }
def IntakeIndexesCardSaid : Prop := Claim7.holds Tryz.pinned (.plain (OpenSpec.ofChange intakeIndexesSpec)) intakeIndexesCard

/-- THE TIED CARD OF 'awardingbodylaw21.IntakeWhole'. -/
def intakeWholeCard : Claim7 := { stood := { row := intakeWholeRow, standIns := [], harness := (true, "15b3854e3db2b599953cd804742000d89deb6cf0b35419cef967ceaa022f5ac9"), looks := false }, kinds := [], alts := [], laidByText := true, laidKinds := [.data, .data], laidTests := true, laidLooks := .later }
def IntakeWholeCardSaid : Prop := Claim7.holds Tryz.pinned (.plain (OpenSpec.ofChange intakeWholeSpec)) intakeWholeCard

/-- THE SECOND FORM's CARD OF 'awardingbodylaw21.IntakeChecks'. -/
def intakeChecksUptoCard : Claim7 := { stood := { row := intakeChecksUptoRow, standIns := [], harness := (true, "15b3854e3db2b599953cd804742000d89deb6cf0b35419cef967ceaa022f5ac9"), looks := false }, kinds := [], alts := [], laidByText := true, laidKinds := [.data, .data], laidTests := true, laidLooks := .later }
def IntakeChecksUptoCardSaid : Prop := Claim7.holds Tryz.pinned (.plain (OpenSpec.upto intakeChecksSpec)) intakeChecksUptoCard

/-- THE SECOND FORM's CARD OF 'awardingbodylaw21.IntakeCanonical'. -/
def intakeCanonicalUptoCard : Claim7 := { stood := { row := intakeCanonicalUptoRow, standIns := [], harness := (true, "15b3854e3db2b599953cd804742000d89deb6cf0b35419cef967ceaa022f5ac9"), looks := false }, kinds := [], alts := [], laidByText := true, laidKinds := [.data, .data], laidTests := true, laidLooks := .later }
def IntakeCanonicalUptoCardSaid : Prop := Claim7.holds Tryz.pinned (.plain (OpenSpec.upto intakeCanonicalSpec)) intakeCanonicalUptoCard

/-- THE SECOND FORM's CARD OF 'awardingbodylaw21.IntakeDiffers'. -/
def intakeDiffersUptoCard : Claim7 := { stood := { row := intakeDiffersUptoRow, standIns := [], harness := (true, "15b3854e3db2b599953cd804742000d89deb6cf0b35419cef967ceaa022f5ac9"), looks := false }, kinds := [], alts := [], laidByText := true, laidKinds := [.data, .data], laidTests := true, laidLooks := .later }
def IntakeDiffersUptoCardSaid : Prop := Claim7.holds Tryz.pinned (.plain (OpenSpec.upto intakeDiffersSpec)) intakeDiffersUptoCard

/-- THE SECOND FORM's CARD OF 'awardingbodylaw21.IntakeLabels'. -/
def intakeLabelsUptoCard : Claim7 := { stood := { row := intakeLabelsUptoRow, standIns := [], harness := (true, "15b3854e3db2b599953cd804742000d89deb6cf0b35419cef967ceaa022f5ac9"), looks := false }, kinds := [], alts := [], laidByText := true, laidKinds := [.data, .data], laidTests := true, laidLooks := .later }
def IntakeLabelsUptoCardSaid : Prop := Claim7.holds Tryz.pinned (.plain (OpenSpec.upto intakeLabelsSpec)) intakeLabelsUptoCard

/-- THE SECOND FORM's CARD OF 'awardingbodylaw21.IntakeSorts'. -/
def intakeSortsUptoCard : Claim7 := { stood := { row := intakeSortsUptoRow, standIns := [], harness := (true, "15b3854e3db2b599953cd804742000d89deb6cf0b35419cef967ceaa022f5ac9"), looks := false }, kinds := [], alts := [], laidByText := true, laidKinds := [.data, .data], laidTests := true, laidLooks := .later }
def IntakeSortsUptoCardSaid : Prop := Claim7.holds Tryz.pinned (.plain (OpenSpec.upto intakeSortsSpec)) intakeSortsUptoCard

/-- THE SECOND FORM's CARD OF 'awardingbodylaw21.IntakeAnyOrder'. -/
def intakeAnyOrderUptoCard : Claim7 := { stood := { row := intakeAnyOrderUptoRow, standIns := [], harness := (true, "15b3854e3db2b599953cd804742000d89deb6cf0b35419cef967ceaa022f5ac9"), looks := false }, kinds := [], alts := [], laidByText := true, laidKinds := [.data, .data], laidTests := true, laidLooks := .later }
def IntakeAnyOrderUptoCardSaid : Prop := Claim7.holds Tryz.pinned (.plain (OpenSpec.upto intakeAnyOrderSpec)) intakeAnyOrderUptoCard

/-- THE SECOND FORM's CARD OF 'awardingbodylaw21.IntakeFits'. -/
def intakeFitsUptoCard : Claim7 := { stood := { row := intakeFitsUptoRow, standIns := [], harness := (true, "15b3854e3db2b599953cd804742000d89deb6cf0b35419cef967ceaa022f5ac9"), looks := false }, kinds := [], alts := [], laidByText := true, laidKinds := [.data, .data], laidTests := true, laidLooks := .later }
def IntakeFitsUptoCardSaid : Prop := Claim7.holds Tryz.pinned (.plain (OpenSpec.upto intakeFitsSpec)) intakeFitsUptoCard

/-- THE SECOND FORM's CARD OF 'awardingbodylaw21.IntakeStates'. -/
def intakeStatesUptoCard : Claim7 := { stood := { row := intakeStatesUptoRow, standIns := [], harness := (true, "15b3854e3db2b599953cd804742000d89deb6cf0b35419cef967ceaa022f5ac9"), looks := false }, kinds := [], alts := [], laidByText := true, laidKinds := [.data, .data], laidTests := true, laidLooks := .later }
def IntakeStatesUptoCardSaid : Prop := Claim7.holds Tryz.pinned (.plain (OpenSpec.upto intakeStatesSpec)) intakeStatesUptoCard

/-- THE SECOND FORM's CARD OF 'awardingbodylaw21.IntakeOnce'. -/
def intakeOnceUptoCard : Claim7 := { stood := { row := intakeOnceUptoRow, standIns := [], harness := (true, "15b3854e3db2b599953cd804742000d89deb6cf0b35419cef967ceaa022f5ac9"), looks := false }, kinds := [], alts := [], laidByText := true, laidKinds := [.data, .data], laidTests := true, laidLooks := .later }
def IntakeOnceUptoCardSaid : Prop := Claim7.holds Tryz.pinned (.plain (OpenSpec.upto intakeOnceSpec)) intakeOnceUptoCard

/-- THE SECOND FORM's CARD OF 'awardingbodylaw21.IntakeRejects'. -/
def intakeRejectsUptoCard : Claim7 := { stood := { row := intakeRejectsUptoRow, standIns := [], harness := (true, "15b3854e3db2b599953cd804742000d89deb6cf0b35419cef967ceaa022f5ac9"), looks := false }, kinds := [], alts := [], laidByText := true, laidKinds := [.data, .data], laidTests := true, laidLooks := .later }
def IntakeRejectsUptoCardSaid : Prop := Claim7.holds Tryz.pinned (.plain (OpenSpec.upto intakeRejectsSpec)) intakeRejectsUptoCard

/-- THE SECOND FORM's CARD OF 'awardingbodylaw21.IntakeCopies'. -/
def intakeCopiesUptoCard : Claim7 := { stood := { row := intakeCopiesUptoRow, standIns := [], harness := (true, "15b3854e3db2b599953cd804742000d89deb6cf0b35419cef967ceaa022f5ac9"), looks := false }, kinds := [], alts := [], laidByText := true, laidKinds := [.data, .data], laidTests := true, laidLooks := .later }
def IntakeCopiesUptoCardSaid : Prop := Claim7.holds Tryz.pinned (.plain (OpenSpec.upto intakeCopiesSpec)) intakeCopiesUptoCard

/-- THE SECOND FORM's CARD OF 'awardingbodylaw21.IntakeIndexes'. -/
def intakeIndexesUptoCard : Claim7 := { stood := { row := intakeIndexesUptoRow, standIns := [], harness := (true, "15b3854e3db2b599953cd804742000d89deb6cf0b35419cef967ceaa022f5ac9"), looks := false }, kinds := [], alts := [], laidByText := true, laidKinds := [.data, .data], laidTests := true, laidLooks := .later }
def IntakeIndexesUptoCardSaid : Prop := Claim7.holds Tryz.pinned (.plain (OpenSpec.upto intakeIndexesSpec)) intakeIndexesUptoCard

/-- THE SECOND FORM's CARD OF 'awardingbodylaw21.IntakeWhole'. -/
def intakeWholeUptoCard : Claim7 := { stood := { row := intakeWholeUptoRow, standIns := [], harness := (true, "15b3854e3db2b599953cd804742000d89deb6cf0b35419cef967ceaa022f5ac9"), looks := false }, kinds := [], alts := [], laidByText := true, laidKinds := [.data, .data], laidTests := true, laidLooks := .later }
def IntakeWholeUptoCardSaid : Prop := Claim7.holds Tryz.pinned (.plain (OpenSpec.upto intakeWholeSpec)) intakeWholeUptoCard
end Rows
end Go.Proofs.YtkaajgoeahahpaaGreatDoor
