/-
  DERIVED. GIVEN WITH THE SEED: THE CARDS: each row of YtlabmdekdhjofaaDoorRows.lean that lists a variable, with what it lists TIED to the program's text (the seventh form; the later family's looks); each row that meets fmt, with fmt's text TOLD by the authors' own Lean function (tested against real Go, not proved from fmt's source: count such statements apart). THE CARD IS WHAT COUNTS. Prove the row's statement (the work); the ties are given (YtlabmdekdhjofaaDoorTie.lean); close each card by the builder's one call (the guide's Derived/Test/ToyasCard.lean, 'card_holds'). Laid BY PROGRAM, IN A SANDBOX (cutbox-door.mjs). By AI agents, Wed Nov 11 2026. No macro, syntax, notation, axiom, sorry.
-/
import Derived.Test.YtlabmdekdhjofaaDoorRows
import GoSem.ClaimSeven
namespace Go.Proofs.YtlabmdekdhjofaaDoor
namespace Rows

/-- THE TIED CARD OF 'awardingbodylaw18.RscodeMultiplies'. -/
def rscodeMultipliesCard : Claim7 := { stood := { row := rscodeMultipliesRow, standIns := [], harness := (true, "f15f8832a2102c1027e0b674db1d85534548ea26e939b02001d4817b2685665c"), looks := false }, kinds := [], alts := [], laidByText := true, laidKinds := [.data, .data], laidTests := true, laidLooks := .later }
def RscodeMultipliesCardSaid : Prop := Claim7.holds Tryd.pinned (.plain (OpenSpec.ofChange rscodeMultipliesSpec)) rscodeMultipliesCard

/-- THE TIED CARD OF 'awardingbodylaw18.RscodePowers'. -/
def rscodePowersCard : Claim7 := { stood := { row := rscodePowersRow, standIns := [], harness := (true, "f15f8832a2102c1027e0b674db1d85534548ea26e939b02001d4817b2685665c"), looks := false }, kinds := [], alts := [], laidByText := true, laidKinds := [.data, .data], laidTests := true, laidLooks := .later }
def RscodePowersCardSaid : Prop := Claim7.holds Tryd.pinned (.plain (OpenSpec.ofChange rscodePowersSpec)) rscodePowersCard

/-- THE TIED CARD OF 'awardingbodylaw18.RscodeField'. -/
def rscodeFieldCard : Claim7 := { stood := { row := rscodeFieldRow, standIns := [], harness := (true, "f15f8832a2102c1027e0b674db1d85534548ea26e939b02001d4817b2685665c"), looks := false }, kinds := [], alts := [], laidByText := true, laidKinds := [.data, .data], laidTests := true, laidLooks := .later }
def RscodeFieldCardSaid : Prop := Claim7.holds Tryd.pinned (.plain (OpenSpec.ofChange rscodeFieldSpec)) rscodeFieldCard

/-- THE TIED CARD OF 'awardingbodylaw18.RscodeEncodes'. -/
def rscodeEncodesCard : Claim7 := { stood := { row := rscodeEncodesRow, standIns := [], harness := (true, "f15f8832a2102c1027e0b674db1d85534548ea26e939b02001d4817b2685665c"), looks := false }, kinds := [], alts := [], laidByText := true, laidKinds := [.data, .data], laidTests := true, laidLooks := .later }
def RscodeEncodesCardSaid : Prop := Claim7.holds Tryd.pinned (.plain (OpenSpec.ofChange rscodeEncodesSpec)) rscodeEncodesCard

/-- THE TIED CARD OF 'awardingbodylaw18.RscodeCodewords'. -/
def rscodeCodewordsCard : Claim7 := { stood := { row := rscodeCodewordsRow, standIns := [], harness := (true, "f15f8832a2102c1027e0b674db1d85534548ea26e939b02001d4817b2685665c"), looks := false }, kinds := [], alts := [], laidByText := true, laidKinds := [.data, .data], laidTests := true, laidLooks := .later }
def RscodeCodewordsCardSaid : Prop := Claim7.holds Tryd.pinned (.plain (OpenSpec.ofChange rscodeCodewordsSpec)) rscodeCodewordsCard

/-- THE TIED CARD OF 'awardingbodylaw18.RscodeDecodes'. -/
def rscodeDecodesCard : Claim7 := { stood := { row := rscodeDecodesRow, standIns := [], harness := (true, "f15f8832a2102c1027e0b674db1d85534548ea26e939b02001d4817b2685665c"), looks := false }, kinds := [], alts := [], laidByText := true, laidKinds := [.data, .data], laidTests := true, laidLooks := .later }
def RscodeDecodesCardSaid : Prop := Claim7.holds Tryd.pinned (.plain (OpenSpec.ofChange rscodeDecodesSpec)) rscodeDecodesCard

/-- THE TIED CARD OF 'awardingbodylaw18.RscodeCorrects'. -/
def rscodeCorrectsCard : Claim7 := { stood := { row := rscodeCorrectsRow, standIns := [], harness := (true, "f15f8832a2102c1027e0b674db1d85534548ea26e939b02001d4817b2685665c"), looks := false }, kinds := [], alts := [], laidByText := true, laidKinds := [.data, .data], laidTests := true, laidLooks := .later }
def RscodeCorrectsCardSaid : Prop := Claim7.holds Tryd.pinned (.plain (OpenSpec.ofChange rscodeCorrectsSpec)) rscodeCorrectsCard

/-- THE TIED CARD OF 'awardingbodylaw18.RscodeNear'. -/
def rscodeNearCard : Claim7 := { stood := { row := rscodeNearRow, standIns := [], harness := (true, "f15f8832a2102c1027e0b674db1d85534548ea26e939b02001d4817b2685665c"), looks := false }, kinds := [], alts := [], laidByText := true, laidKinds := [.data, .data], laidTests := true, laidLooks := .later }
def RscodeNearCardSaid : Prop := Claim7.holds Tryd.pinned (.plain (OpenSpec.ofChange rscodeNearSpec)) rscodeNearCard

/-- THE TIED CARD OF 'awardingbodylaw18.RscodeLinear'. -/
def rscodeLinearCard : Claim7 := { stood := { row := rscodeLinearRow, standIns := [], harness := (true, "f15f8832a2102c1027e0b674db1d85534548ea26e939b02001d4817b2685665c"), looks := false }, kinds := [], alts := [], laidByText := true, laidKinds := [.data, .data], laidTests := true, laidLooks := .later }
def RscodeLinearCardSaid : Prop := Claim7.holds Tryd.pinned (.plain (OpenSpec.ofChange rscodeLinearSpec)) rscodeLinearCard

/-- THE TIED CARD OF 'awardingbodylaw18.RscodeApart'. -/
def rscodeApartCard : Claim7 := { stood := { row := rscodeApartRow, standIns := [], harness := (true, "f15f8832a2102c1027e0b674db1d85534548ea26e939b02001d4817b2685665c"), looks := false }, kinds := [], alts := [], laidByText := true, laidKinds := [.data, .data], laidTests := true, laidLooks := .later }
def RscodeApartCardSaid : Prop := Claim7.holds Tryd.pinned (.plain (OpenSpec.ofChange rscodeApartSpec)) rscodeApartCard

/-- THE TIED CARD OF 'awardingbodylaw18.RscodeDistances'. -/
def rscodeDistancesCard : Claim7 := { stood := { row := rscodeDistancesRow, standIns := [], harness := (true, "f15f8832a2102c1027e0b674db1d85534548ea26e939b02001d4817b2685665c"), looks := false }, kinds := [], alts := [], laidByText := true, laidKinds := [.data, .data], laidTests := true, laidLooks := .later }
def RscodeDistancesCardSaid : Prop := Claim7.holds Tryd.pinned (.plain (OpenSpec.ofChange rscodeDistancesSpec)) rscodeDistancesCard

/-- THE SECOND FORM's CARD OF 'awardingbodylaw18.RscodeMultiplies'. -/
def rscodeMultipliesUptoCard : Claim7 := { stood := { row := rscodeMultipliesUptoRow, standIns := [], harness := (true, "f15f8832a2102c1027e0b674db1d85534548ea26e939b02001d4817b2685665c"), looks := false }, kinds := [], alts := [], laidByText := true, laidKinds := [.data, .data], laidTests := true, laidLooks := .later }
def RscodeMultipliesUptoCardSaid : Prop := Claim7.holds Tryd.pinned (.plain (OpenSpec.upto rscodeMultipliesSpec)) rscodeMultipliesUptoCard

/-- THE SECOND FORM's CARD OF 'awardingbodylaw18.RscodePowers'. -/
def rscodePowersUptoCard : Claim7 := { stood := { row := rscodePowersUptoRow, standIns := [], harness := (true, "f15f8832a2102c1027e0b674db1d85534548ea26e939b02001d4817b2685665c"), looks := false }, kinds := [], alts := [], laidByText := true, laidKinds := [.data, .data], laidTests := true, laidLooks := .later }
def RscodePowersUptoCardSaid : Prop := Claim7.holds Tryd.pinned (.plain (OpenSpec.upto rscodePowersSpec)) rscodePowersUptoCard

/-- THE SECOND FORM's CARD OF 'awardingbodylaw18.RscodeField'. -/
def rscodeFieldUptoCard : Claim7 := { stood := { row := rscodeFieldUptoRow, standIns := [], harness := (true, "f15f8832a2102c1027e0b674db1d85534548ea26e939b02001d4817b2685665c"), looks := false }, kinds := [], alts := [], laidByText := true, laidKinds := [.data, .data], laidTests := true, laidLooks := .later }
def RscodeFieldUptoCardSaid : Prop := Claim7.holds Tryd.pinned (.plain (OpenSpec.upto rscodeFieldSpec)) rscodeFieldUptoCard

/-- THE SECOND FORM's CARD OF 'awardingbodylaw18.RscodeEncodes'. -/
def rscodeEncodesUptoCard : Claim7 := { stood := { row := rscodeEncodesUptoRow, standIns := [], harness := (true, "f15f8832a2102c1027e0b674db1d85534548ea26e939b02001d4817b2685665c"), looks := false }, kinds := [], alts := [], laidByText := true, laidKinds := [.data, .data], laidTests := true, laidLooks := .later }
def RscodeEncodesUptoCardSaid : Prop := Claim7.holds Tryd.pinned (.plain (OpenSpec.upto rscodeEncodesSpec)) rscodeEncodesUptoCard

/-- THE SECOND FORM's CARD OF 'awardingbodylaw18.RscodeCodewords'. -/
def rscodeCodewordsUptoCard : Claim7 := { stood := { row := rscodeCodewordsUptoRow, standIns := [], harness := (true, "f15f8832a2102c1027e0b674db1d85534548ea26e939b02001d4817b2685665c"), looks := false }, kinds := [], alts := [], laidByText := true, laidKinds := [.data, .data], laidTests := true, laidLooks := .later }
def RscodeCodewordsUptoCardSaid : Prop := Claim7.holds Tryd.pinned (.plain (OpenSpec.upto rscodeCodewordsSpec)) rscodeCodewordsUptoCard

/-- THE SECOND FORM's CARD OF 'awardingbodylaw18.RscodeDecodes'. -/
def rscodeDecodesUptoCard : Claim7 := { stood := { row := rscodeDecodesUptoRow, standIns := [], harness := (true, "f15f8832a2102c1027e0b674db1d85534548ea26e939b02001d4817b2685665c"), looks := false }, kinds := [], alts := [], laidByText := true, laidKinds := [.data, .data], laidTests := true, laidLooks := .later }
def RscodeDecodesUptoCardSaid : Prop := Claim7.holds Tryd.pinned (.plain (OpenSpec.upto rscodeDecodesSpec)) rscodeDecodesUptoCard

/-- THE SECOND FORM's CARD OF 'awardingbodylaw18.RscodeCorrects'. -/
def rscodeCorrectsUptoCard : Claim7 := { stood := { row := rscodeCorrectsUptoRow, standIns := [], harness := (true, "f15f8832a2102c1027e0b674db1d85534548ea26e939b02001d4817b2685665c"), looks := false }, kinds := [], alts := [], laidByText := true, laidKinds := [.data, .data], laidTests := true, laidLooks := .later }
def RscodeCorrectsUptoCardSaid : Prop := Claim7.holds Tryd.pinned (.plain (OpenSpec.upto rscodeCorrectsSpec)) rscodeCorrectsUptoCard

/-- THE SECOND FORM's CARD OF 'awardingbodylaw18.RscodeNear'. -/
def rscodeNearUptoCard : Claim7 := { stood := { row := rscodeNearUptoRow, standIns := [], harness := (true, "f15f8832a2102c1027e0b674db1d85534548ea26e939b02001d4817b2685665c"), looks := false }, kinds := [], alts := [], laidByText := true, laidKinds := [.data, .data], laidTests := true, laidLooks := .later }
def RscodeNearUptoCardSaid : Prop := Claim7.holds Tryd.pinned (.plain (OpenSpec.upto rscodeNearSpec)) rscodeNearUptoCard

/-- THE SECOND FORM's CARD OF 'awardingbodylaw18.RscodeLinear'. -/
def rscodeLinearUptoCard : Claim7 := { stood := { row := rscodeLinearUptoRow, standIns := [], harness := (true, "f15f8832a2102c1027e0b674db1d85534548ea26e939b02001d4817b2685665c"), looks := false }, kinds := [], alts := [], laidByText := true, laidKinds := [.data, .data], laidTests := true, laidLooks := .later }
def RscodeLinearUptoCardSaid : Prop := Claim7.holds Tryd.pinned (.plain (OpenSpec.upto rscodeLinearSpec)) rscodeLinearUptoCard

/-- THE SECOND FORM's CARD OF 'awardingbodylaw18.RscodeApart'. -/
def rscodeApartUptoCard : Claim7 := { stood := { row := rscodeApartUptoRow, standIns := [], harness := (true, "f15f8832a2102c1027e0b674db1d85534548ea26e939b02001d4817b2685665c"), looks := false }, kinds := [], alts := [], laidByText := true, laidKinds := [.data, .data], laidTests := true, laidLooks := .later }
def RscodeApartUptoCardSaid : Prop := Claim7.holds Tryd.pinned (.plain (OpenSpec.upto rscodeApartSpec)) rscodeApartUptoCard

/-- THE SECOND FORM's CARD OF 'awardingbodylaw18.RscodeDistances'. -/
def rscodeDistancesUptoCard : Claim7 := { stood := { row := rscodeDistancesUptoRow, standIns := [], harness := (true, "f15f8832a2102c1027e0b674db1d85534548ea26e939b02001d4817b2685665c"), looks := false }, kinds := [], alts := [], laidByText := true, laidKinds := [.data, .data], laidTests := true, laidLooks := .later }
def RscodeDistancesUptoCardSaid : Prop := Claim7.holds Tryd.pinned (.plain (OpenSpec.upto rscodeDistancesSpec)) rscodeDistancesUptoCard
end Rows
end Go.Proofs.YtlabmdekdhjofaaDoor
