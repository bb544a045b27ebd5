/-
  DERIVED. GIVEN WITH THE SEED: THE CARDS: each row of YtlpmfldijgdcoaaGreatDoorRows.lean that lists a variable, with what it lists TIED to the program's text (the seventh form; the later family's looks); each row that meets fmt, with fmt's text TOLD by the authors' own Lean function (tested against real Go, not proved from fmt's source: count such statements apart). THE CARD IS WHAT COUNTS. Prove the row's statement (the work); the ties are given (YtlpmfldijgdcoaaGreatDoorTie.lean); close each card by the builder's one call (the guide's Derived/Test/ToyasCard.lean, 'card_holds'). Laid BY PROGRAM, IN A SANDBOX (cutbox-door.mjs). By AI agents, Wed Nov 11 2026. No macro, syntax, notation, axiom, sorry.
-/
import Derived.Test.YtlpmfldijgdcoaaGreatDoorRows
import GoSem.ClaimSeven
namespace Go.Proofs.YtlpmfldijgdcoaaGreatDoor
namespace Rows

/-- THE TIED CARD OF 'commonagetop.TopContained'. -/
def topContainedCard : Claim7 := { stood := { row := topContainedRow, standIns := [], harness := (true, "36a47d7eba9bb3b2cfdca5cd5fc630c08c806a747d5e48bcc9bddd83c6607223"), looks := false }, kinds := [], alts := [], laidByText := true, laidKinds := [.data, .data], laidTests := true, laidLooks := .later }
def TopContainedCardSaid : Prop := Claim7.holds Tryz.pinned (.plain (OpenSpec.ofChange topContainedSpec)) topContainedCard

/-- THE TIED CARD OF 'commonagetop.TopAgain'. -/
def topAgainCard : Claim7 := { stood := { row := topAgainRow, standIns := [], harness := (true, "36a47d7eba9bb3b2cfdca5cd5fc630c08c806a747d5e48bcc9bddd83c6607223"), looks := false }, kinds := [], alts := [], laidByText := true, laidKinds := [.data, .data], laidTests := true, laidLooks := .later }
def TopAgainCardSaid : Prop := Claim7.holds Tryz.pinned (.plain (OpenSpec.ofChange topAgainSpec)) topAgainCard

/-- THE TIED CARD OF 'commonagetop.TopFamilies'. -/
def topFamiliesCard : Claim7 := { stood := { row := topFamiliesRow, standIns := [], harness := (true, "36a47d7eba9bb3b2cfdca5cd5fc630c08c806a747d5e48bcc9bddd83c6607223"), looks := false }, kinds := [], alts := [], laidByText := true, laidKinds := [.data, .data], laidTests := true, laidLooks := .later }
def TopFamiliesCardSaid : Prop := Claim7.holds Tryz.pinned (.plain (OpenSpec.ofChange topFamiliesSpec)) topFamiliesCard

/-- THE TIED CARD OF 'commonagetop.TopFull'. -/
def topFullCard : Claim7 := { stood := { row := topFullRow, standIns := [], harness := (true, "36a47d7eba9bb3b2cfdca5cd5fc630c08c806a747d5e48bcc9bddd83c6607223"), looks := false }, kinds := [], alts := [], laidByText := true, laidKinds := [.data, .data], laidTests := true, laidLooks := .later }
def TopFullCardSaid : Prop := Claim7.holds Tryz.pinned (.plain (OpenSpec.ofChange topFullSpec)) topFullCard

/-- THE TIED CARD OF 'commonagetop.TopReached'. -/
def topReachedCard : Claim7 := { stood := { row := topReachedRow, standIns := [], harness := (true, "36a47d7eba9bb3b2cfdca5cd5fc630c08c806a747d5e48bcc9bddd83c6607223"), looks := false }, kinds := [], alts := [], laidByText := true, laidKinds := [.data, .data], laidTests := true, laidLooks := .later }
def TopReachedCardSaid : Prop := Claim7.holds Tryz.pinned (.plain (OpenSpec.ofChange topReachedSpec)) topReachedCard

/-- THE SECOND FORM's CARD OF 'commonagetop.TopContained'. -/
def topContainedUptoCard : Claim7 := { stood := { row := topContainedUptoRow, standIns := [], harness := (true, "36a47d7eba9bb3b2cfdca5cd5fc630c08c806a747d5e48bcc9bddd83c6607223"), looks := false }, kinds := [], alts := [], laidByText := true, laidKinds := [.data, .data], laidTests := true, laidLooks := .later }
def TopContainedUptoCardSaid : Prop := Claim7.holds Tryz.pinned (.plain (OpenSpec.upto topContainedSpec)) topContainedUptoCard

/-- THE SECOND FORM's CARD OF 'commonagetop.TopAgain'. -/
def topAgainUptoCard : Claim7 := { stood := { row := topAgainUptoRow, standIns := [], harness := (true, "36a47d7eba9bb3b2cfdca5cd5fc630c08c806a747d5e48bcc9bddd83c6607223"), looks := false }, kinds := [], alts := [], laidByText := true, laidKinds := [.data, .data], laidTests := true, laidLooks := .later }
def TopAgainUptoCardSaid : Prop := Claim7.holds Tryz.pinned (.plain (OpenSpec.upto topAgainSpec)) topAgainUptoCard

/-- THE SECOND FORM's CARD OF 'commonagetop.TopFamilies'. -/
def topFamiliesUptoCard : Claim7 := { stood := { row := topFamiliesUptoRow, standIns := [], harness := (true, "36a47d7eba9bb3b2cfdca5cd5fc630c08c806a747d5e48bcc9bddd83c6607223"), looks := false }, kinds := [], alts := [], laidByText := true, laidKinds := [.data, .data], laidTests := true, laidLooks := .later }
def TopFamiliesUptoCardSaid : Prop := Claim7.holds Tryz.pinned (.plain (OpenSpec.upto topFamiliesSpec)) topFamiliesUptoCard

/-- THE SECOND FORM's CARD OF 'commonagetop.TopFull'. -/
def topFullUptoCard : Claim7 := { stood := { row := topFullUptoRow, standIns := [], harness := (true, "36a47d7eba9bb3b2cfdca5cd5fc630c08c806a747d5e48bcc9bddd83c6607223"), looks := false }, kinds := [], alts := [], laidByText := true, laidKinds := [.data, .data], laidTests := true, laidLooks := .later }
def TopFullUptoCardSaid : Prop := Claim7.holds Tryz.pinned (.plain (OpenSpec.upto topFullSpec)) topFullUptoCard

/-- THE SECOND FORM's CARD OF 'commonagetop.TopReached'. -/
def topReachedUptoCard : Claim7 := { stood := { row := topReachedUptoRow, standIns := [], harness := (true, "36a47d7eba9bb3b2cfdca5cd5fc630c08c806a747d5e48bcc9bddd83c6607223"), looks := false }, kinds := [], alts := [], laidByText := true, laidKinds := [.data, .data], laidTests := true, laidLooks := .later }
def TopReachedUptoCardSaid : Prop := Claim7.holds Tryz.pinned (.plain (OpenSpec.upto topReachedSpec)) topReachedUptoCard
end Rows
end Go.Proofs.YtlpmfldijgdcoaaGreatDoor
