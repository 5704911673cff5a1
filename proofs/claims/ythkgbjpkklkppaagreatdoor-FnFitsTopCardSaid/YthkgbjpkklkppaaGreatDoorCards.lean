/-
  DERIVED. GIVEN WITH THE SEED: THE CARDS: each row of YthkgbjpkklkppaaGreatDoorRows.lean that lists a variable, with what it lists TIED to the program's text (the seventh form; the later family's looks); each row that meets fmt, with fmt's text TOLD by the authors' own Lean function (tested against real Go, not proved from fmt's source: count such statements apart). THE CARD IS WHAT COUNTS. Prove the row's statement (the work); the ties are given (YthkgbjpkklkppaaGreatDoorTie.lean); close each card by the builder's one call (the guide's Derived/Test/ToyasCard.lean, 'card_holds'). Laid BY PROGRAM, IN A SANDBOX (cutbox-door.mjs). By AI agents, Wed Nov 11 2026. No macro, syntax, notation, axiom, sorry.
-/
import Derived.Test.YthkgbjpkklkppaaGreatDoorRows
import GoSem.ClaimSeven
namespace Go.Proofs.YthkgbjpkklkppaaGreatDoor
namespace Rows

/-- THE TIED CARD OF 'laws.FnFitsTop'. -/
def fnFitsTopCard : Claim7 := { stood := { row := fnFitsTopRow, standIns := [], harness := (true, "e01702c1b2e2047cea68c5c98f295124e74854b7e22fd7058e9d29bcf6e4a588"), looks := true }, kinds := [], alts := [], laidByText := true, laidKinds := [.sentinel], laidTests := true, laidLooks := .later }
def FnFitsTopCardSaid : Prop := Claim7.holds Tryz.pinned (.plain (OpenSpec.ofChange fnFitsTopSpec)) fnFitsTopCard

/-- THE TIED CARD OF 'laws.FnRunFits'. -/
def fnRunFitsCard : Claim7 := { stood := { row := fnRunFitsRow, standIns := [], harness := (true, "e01702c1b2e2047cea68c5c98f295124e74854b7e22fd7058e9d29bcf6e4a588"), looks := true }, kinds := [], alts := [], laidByText := true, laidKinds := [.sentinel], laidTests := true, laidLooks := .later }
def FnRunFitsCardSaid : Prop := Claim7.holds Tryz.pinned (.plain (OpenSpec.ofChange fnRunFitsSpec)) fnRunFitsCard

/-- THE TIED CARD OF 'laws.FnStuckStays'. -/
def fnStuckStaysCard : Claim7 := { stood := { row := fnStuckStaysRow, standIns := [], harness := (true, "e01702c1b2e2047cea68c5c98f295124e74854b7e22fd7058e9d29bcf6e4a588"), looks := true }, kinds := [], alts := [], laidByText := true, laidKinds := [.sentinel], laidTests := true, laidLooks := .later }
def FnStuckStaysCardSaid : Prop := Claim7.holds Tryz.pinned (.plain (OpenSpec.ofChange fnStuckStaysSpec)) fnStuckStaysCard

/-- THE TIED CARD OF 'laws.FnStepFits'. -/
def fnStepFitsCard : Claim7 := { stood := { row := fnStepFitsRow, standIns := [], harness := (true, "e01702c1b2e2047cea68c5c98f295124e74854b7e22fd7058e9d29bcf6e4a588"), looks := true }, kinds := [], alts := [], laidByText := true, laidKinds := [.sentinel], laidTests := true, laidLooks := .later }
def FnStepFitsCardSaid : Prop := Claim7.holds Tryz.pinned (.plain (OpenSpec.ofChange fnStepFitsSpec)) fnStepFitsCard

/-- THE TIED CARD OF 'laws.FnViewTwice'. -/
def fnViewTwiceCard : Claim7 := { stood := { row := fnViewTwiceRow, standIns := [], harness := (true, "e01702c1b2e2047cea68c5c98f295124e74854b7e22fd7058e9d29bcf6e4a588"), looks := true }, kinds := [], alts := [], laidByText := true, laidKinds := [.sentinel], laidTests := true, laidLooks := .later }
def FnViewTwiceCardSaid : Prop := Claim7.holds Tryz.pinned (.plain (OpenSpec.ofChange fnViewTwiceSpec)) fnViewTwiceCard

/-- THE TIED CARD OF 'laws.FnViewStep'. -/
def fnViewStepCard : Claim7 := { stood := { row := fnViewStepRow, standIns := [], harness := (true, "e01702c1b2e2047cea68c5c98f295124e74854b7e22fd7058e9d29bcf6e4a588"), looks := true }, kinds := [], alts := [], laidByText := true, laidKinds := [.sentinel], laidTests := true, laidLooks := .later }
def FnViewStepCardSaid : Prop := Claim7.holds Tryz.pinned (.plain (OpenSpec.ofChange fnViewStepSpec)) fnViewStepCard

/-- THE SECOND FORM's CARD OF 'laws.FnFitsTop'. -/
def fnFitsTopUptoCard : Claim7 := { stood := { row := fnFitsTopUptoRow, standIns := [], harness := (true, "e01702c1b2e2047cea68c5c98f295124e74854b7e22fd7058e9d29bcf6e4a588"), looks := true }, kinds := [], alts := [], laidByText := true, laidKinds := [.sentinel], laidTests := true, laidLooks := .later }
def FnFitsTopUptoCardSaid : Prop := Claim7.holds Tryz.pinned (.plain (OpenSpec.upto fnFitsTopSpec)) fnFitsTopUptoCard

/-- THE SECOND FORM's CARD OF 'laws.FnRunFits'. -/
def fnRunFitsUptoCard : Claim7 := { stood := { row := fnRunFitsUptoRow, standIns := [], harness := (true, "e01702c1b2e2047cea68c5c98f295124e74854b7e22fd7058e9d29bcf6e4a588"), looks := true }, kinds := [], alts := [], laidByText := true, laidKinds := [.sentinel], laidTests := true, laidLooks := .later }
def FnRunFitsUptoCardSaid : Prop := Claim7.holds Tryz.pinned (.plain (OpenSpec.upto fnRunFitsSpec)) fnRunFitsUptoCard

/-- THE SECOND FORM's CARD OF 'laws.FnStuckStays'. -/
def fnStuckStaysUptoCard : Claim7 := { stood := { row := fnStuckStaysUptoRow, standIns := [], harness := (true, "e01702c1b2e2047cea68c5c98f295124e74854b7e22fd7058e9d29bcf6e4a588"), looks := true }, kinds := [], alts := [], laidByText := true, laidKinds := [.sentinel], laidTests := true, laidLooks := .later }
def FnStuckStaysUptoCardSaid : Prop := Claim7.holds Tryz.pinned (.plain (OpenSpec.upto fnStuckStaysSpec)) fnStuckStaysUptoCard

/-- THE SECOND FORM's CARD OF 'laws.FnStepFits'. -/
def fnStepFitsUptoCard : Claim7 := { stood := { row := fnStepFitsUptoRow, standIns := [], harness := (true, "e01702c1b2e2047cea68c5c98f295124e74854b7e22fd7058e9d29bcf6e4a588"), looks := true }, kinds := [], alts := [], laidByText := true, laidKinds := [.sentinel], laidTests := true, laidLooks := .later }
def FnStepFitsUptoCardSaid : Prop := Claim7.holds Tryz.pinned (.plain (OpenSpec.upto fnStepFitsSpec)) fnStepFitsUptoCard

/-- THE SECOND FORM's CARD OF 'laws.FnViewTwice'. -/
def fnViewTwiceUptoCard : Claim7 := { stood := { row := fnViewTwiceUptoRow, standIns := [], harness := (true, "e01702c1b2e2047cea68c5c98f295124e74854b7e22fd7058e9d29bcf6e4a588"), looks := true }, kinds := [], alts := [], laidByText := true, laidKinds := [.sentinel], laidTests := true, laidLooks := .later }
def FnViewTwiceUptoCardSaid : Prop := Claim7.holds Tryz.pinned (.plain (OpenSpec.upto fnViewTwiceSpec)) fnViewTwiceUptoCard

/-- THE SECOND FORM's CARD OF 'laws.FnViewStep'. -/
def fnViewStepUptoCard : Claim7 := { stood := { row := fnViewStepUptoRow, standIns := [], harness := (true, "e01702c1b2e2047cea68c5c98f295124e74854b7e22fd7058e9d29bcf6e4a588"), looks := true }, kinds := [], alts := [], laidByText := true, laidKinds := [.sentinel], laidTests := true, laidLooks := .later }
def FnViewStepUptoCardSaid : Prop := Claim7.holds Tryz.pinned (.plain (OpenSpec.upto fnViewStepSpec)) fnViewStepUptoCard
end Rows
end Go.Proofs.YthkgbjpkklkppaaGreatDoor
