/-
  DERIVED. GIVEN WITH THE SEED: THE CARDS: each row of YtcpanmonllhmaaaDoorRows.lean that lists a variable, with what it lists TIED to the program's text (the seventh form; the later family's looks); each row that meets fmt, with fmt's text TOLD by the authors' own Lean function (tested against real Go, not proved from fmt's source: count such statements apart). THE CARD IS WHAT COUNTS. Prove the row's statement (the work); the ties are given (YtcpanmonllhmaaaDoorTie.lean); close each card by the builder's one call (the guide's Derived/Test/ToyasCard.lean, 'card_holds'). Laid BY PROGRAM, IN A SANDBOX (cutbox-door.mjs). By AI agents, Wed Nov 11 2026. No macro, syntax, notation, axiom, sorry.
-/
import Derived.Test.YtcpanmonllhmaaaDoorRows
import GoSem.ClaimSeven
namespace Go.Proofs.YtcpanmonllhmaaaDoor
namespace Rows

/-- THE TIED CARD OF 'awardingbodylaw19.StripSymbols'. -/
def stripSymbolsCard : Claim7 := { stood := { row := stripSymbolsRow, standIns := [], harness := (true, "52ac6abaa4a76a1a122ec2316b53068a8019507d0e8d9ed3967d4e10766ca356"), looks := false }, kinds := [], alts := [], laidByText := true, laidKinds := [.data, .data], laidTests := true, laidLooks := .later }
def StripSymbolsCardSaid : Prop := Claim7.holds Tryd.pinned (.plain (OpenSpec.ofChange stripSymbolsSpec)) stripSymbolsCard

/-- THE TIED CARD OF 'awardingbodylaw19.StripDraws'. -/
def stripDrawsCard : Claim7 := { stood := { row := stripDrawsRow, standIns := [], harness := (true, "52ac6abaa4a76a1a122ec2316b53068a8019507d0e8d9ed3967d4e10766ca356"), looks := false }, kinds := [], alts := [], laidByText := true, laidKinds := [.data, .data], laidTests := true, laidLooks := .later }
def StripDrawsCardSaid : Prop := Claim7.holds Tryd.pinned (.plain (OpenSpec.ofChange stripDrawsSpec)) stripDrawsCard

/-- THE TIED CARD OF 'awardingbodylaw19.StripUprights'. -/
def stripUprightsCard : Claim7 := { stood := { row := stripUprightsRow, standIns := [], harness := (true, "52ac6abaa4a76a1a122ec2316b53068a8019507d0e8d9ed3967d4e10766ca356"), looks := false }, kinds := [], alts := [], laidByText := true, laidKinds := [.data, .data], laidTests := true, laidLooks := .later }
def StripUprightsCardSaid : Prop := Claim7.holds Tryd.pinned (.plain (OpenSpec.ofChange stripUprightsSpec)) stripUprightsCard

/-- THE TIED CARD OF 'awardingbodylaw19.StripWords'. -/
def stripWordsCard : Claim7 := { stood := { row := stripWordsRow, standIns := [], harness := (true, "52ac6abaa4a76a1a122ec2316b53068a8019507d0e8d9ed3967d4e10766ca356"), looks := false }, kinds := [], alts := [], laidByText := true, laidKinds := [.data, .data], laidTests := true, laidLooks := .later }
def StripWordsCardSaid : Prop := Claim7.holds Tryd.pinned (.plain (OpenSpec.ofChange stripWordsSpec)) stripWordsCard

/-- THE TIED CARD OF 'awardingbodylaw19.StripReads'. -/
def stripReadsCard : Claim7 := { stood := { row := stripReadsRow, standIns := [], harness := (true, "52ac6abaa4a76a1a122ec2316b53068a8019507d0e8d9ed3967d4e10766ca356"), looks := false }, kinds := [], alts := [], laidByText := true, laidKinds := [.data, .data], laidTests := true, laidLooks := .later }
def StripReadsCardSaid : Prop := Claim7.holds Tryd.pinned (.plain (OpenSpec.ofChange stripReadsSpec)) stripReadsCard

/-- THE TIED CARD OF 'awardingbodylaw19.StripCandidates'. -/
def stripCandidatesCard : Claim7 := { stood := { row := stripCandidatesRow, standIns := [], harness := (true, "52ac6abaa4a76a1a122ec2316b53068a8019507d0e8d9ed3967d4e10766ca356"), looks := false }, kinds := [], alts := [], laidByText := true, laidKinds := [.data, .data], laidTests := true, laidLooks := .later }
def StripCandidatesCardSaid : Prop := Claim7.holds Tryd.pinned (.plain (OpenSpec.ofChange stripCandidatesSpec)) stripCandidatesCard

/-- THE TIED CARD OF 'awardingbodylaw19.StripSurvives'. -/
def stripSurvivesCard : Claim7 := { stood := { row := stripSurvivesRow, standIns := [], harness := (true, "52ac6abaa4a76a1a122ec2316b53068a8019507d0e8d9ed3967d4e10766ca356"), looks := false }, kinds := [], alts := [], laidByText := true, laidKinds := [.data, .data], laidTests := true, laidLooks := .later }
def StripSurvivesCardSaid : Prop := Claim7.holds Tryd.pinned (.plain (OpenSpec.ofChange stripSurvivesSpec)) stripSurvivesCard

/-- THE TIED CARD OF 'awardingbodylaw19.StripTurns'. -/
def stripTurnsCard : Claim7 := { stood := { row := stripTurnsRow, standIns := [], harness := (true, "52ac6abaa4a76a1a122ec2316b53068a8019507d0e8d9ed3967d4e10766ca356"), looks := false }, kinds := [], alts := [], laidByText := true, laidKinds := [.data, .data], laidTests := true, laidLooks := .later }
def StripTurnsCardSaid : Prop := Claim7.holds Tryd.pinned (.plain (OpenSpec.ofChange stripTurnsSpec)) stripTurnsCard

/-- THE TIED CARD OF 'awardingbodylaw19.StripApart'. -/
def stripApartCard : Claim7 := { stood := { row := stripApartRow, standIns := [], harness := (true, "52ac6abaa4a76a1a122ec2316b53068a8019507d0e8d9ed3967d4e10766ca356"), looks := false }, kinds := [], alts := [], laidByText := true, laidKinds := [.data, .data], laidTests := true, laidLooks := .later }
def StripApartCardSaid : Prop := Claim7.holds Tryd.pinned (.plain (OpenSpec.ofChange stripApartSpec)) stripApartCard

/-- THE SECOND FORM's CARD OF 'awardingbodylaw19.StripSymbols'. -/
def stripSymbolsUptoCard : Claim7 := { stood := { row := stripSymbolsUptoRow, standIns := [], harness := (true, "52ac6abaa4a76a1a122ec2316b53068a8019507d0e8d9ed3967d4e10766ca356"), looks := false }, kinds := [], alts := [], laidByText := true, laidKinds := [.data, .data], laidTests := true, laidLooks := .later }
def StripSymbolsUptoCardSaid : Prop := Claim7.holds Tryd.pinned (.plain (OpenSpec.upto stripSymbolsSpec)) stripSymbolsUptoCard

/-- THE SECOND FORM's CARD OF 'awardingbodylaw19.StripDraws'. -/
def stripDrawsUptoCard : Claim7 := { stood := { row := stripDrawsUptoRow, standIns := [], harness := (true, "52ac6abaa4a76a1a122ec2316b53068a8019507d0e8d9ed3967d4e10766ca356"), looks := false }, kinds := [], alts := [], laidByText := true, laidKinds := [.data, .data], laidTests := true, laidLooks := .later }
def StripDrawsUptoCardSaid : Prop := Claim7.holds Tryd.pinned (.plain (OpenSpec.upto stripDrawsSpec)) stripDrawsUptoCard

/-- THE SECOND FORM's CARD OF 'awardingbodylaw19.StripUprights'. -/
def stripUprightsUptoCard : Claim7 := { stood := { row := stripUprightsUptoRow, standIns := [], harness := (true, "52ac6abaa4a76a1a122ec2316b53068a8019507d0e8d9ed3967d4e10766ca356"), looks := false }, kinds := [], alts := [], laidByText := true, laidKinds := [.data, .data], laidTests := true, laidLooks := .later }
def StripUprightsUptoCardSaid : Prop := Claim7.holds Tryd.pinned (.plain (OpenSpec.upto stripUprightsSpec)) stripUprightsUptoCard

/-- THE SECOND FORM's CARD OF 'awardingbodylaw19.StripWords'. -/
def stripWordsUptoCard : Claim7 := { stood := { row := stripWordsUptoRow, standIns := [], harness := (true, "52ac6abaa4a76a1a122ec2316b53068a8019507d0e8d9ed3967d4e10766ca356"), looks := false }, kinds := [], alts := [], laidByText := true, laidKinds := [.data, .data], laidTests := true, laidLooks := .later }
def StripWordsUptoCardSaid : Prop := Claim7.holds Tryd.pinned (.plain (OpenSpec.upto stripWordsSpec)) stripWordsUptoCard

/-- THE SECOND FORM's CARD OF 'awardingbodylaw19.StripReads'. -/
def stripReadsUptoCard : Claim7 := { stood := { row := stripReadsUptoRow, standIns := [], harness := (true, "52ac6abaa4a76a1a122ec2316b53068a8019507d0e8d9ed3967d4e10766ca356"), looks := false }, kinds := [], alts := [], laidByText := true, laidKinds := [.data, .data], laidTests := true, laidLooks := .later }
def StripReadsUptoCardSaid : Prop := Claim7.holds Tryd.pinned (.plain (OpenSpec.upto stripReadsSpec)) stripReadsUptoCard

/-- THE SECOND FORM's CARD OF 'awardingbodylaw19.StripCandidates'. -/
def stripCandidatesUptoCard : Claim7 := { stood := { row := stripCandidatesUptoRow, standIns := [], harness := (true, "52ac6abaa4a76a1a122ec2316b53068a8019507d0e8d9ed3967d4e10766ca356"), looks := false }, kinds := [], alts := [], laidByText := true, laidKinds := [.data, .data], laidTests := true, laidLooks := .later }
def StripCandidatesUptoCardSaid : Prop := Claim7.holds Tryd.pinned (.plain (OpenSpec.upto stripCandidatesSpec)) stripCandidatesUptoCard

/-- THE SECOND FORM's CARD OF 'awardingbodylaw19.StripSurvives'. -/
def stripSurvivesUptoCard : Claim7 := { stood := { row := stripSurvivesUptoRow, standIns := [], harness := (true, "52ac6abaa4a76a1a122ec2316b53068a8019507d0e8d9ed3967d4e10766ca356"), looks := false }, kinds := [], alts := [], laidByText := true, laidKinds := [.data, .data], laidTests := true, laidLooks := .later }
def StripSurvivesUptoCardSaid : Prop := Claim7.holds Tryd.pinned (.plain (OpenSpec.upto stripSurvivesSpec)) stripSurvivesUptoCard

/-- THE SECOND FORM's CARD OF 'awardingbodylaw19.StripTurns'. -/
def stripTurnsUptoCard : Claim7 := { stood := { row := stripTurnsUptoRow, standIns := [], harness := (true, "52ac6abaa4a76a1a122ec2316b53068a8019507d0e8d9ed3967d4e10766ca356"), looks := false }, kinds := [], alts := [], laidByText := true, laidKinds := [.data, .data], laidTests := true, laidLooks := .later }
def StripTurnsUptoCardSaid : Prop := Claim7.holds Tryd.pinned (.plain (OpenSpec.upto stripTurnsSpec)) stripTurnsUptoCard

/-- THE SECOND FORM's CARD OF 'awardingbodylaw19.StripApart'. -/
def stripApartUptoCard : Claim7 := { stood := { row := stripApartUptoRow, standIns := [], harness := (true, "52ac6abaa4a76a1a122ec2316b53068a8019507d0e8d9ed3967d4e10766ca356"), looks := false }, kinds := [], alts := [], laidByText := true, laidKinds := [.data, .data], laidTests := true, laidLooks := .later }
def StripApartUptoCardSaid : Prop := Claim7.holds Tryd.pinned (.plain (OpenSpec.upto stripApartSpec)) stripApartUptoCard
end Rows
end Go.Proofs.YtcpanmonllhmaaaDoor
