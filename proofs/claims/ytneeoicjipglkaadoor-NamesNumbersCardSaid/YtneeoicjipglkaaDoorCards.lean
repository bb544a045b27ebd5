/-
  DERIVED. GIVEN WITH THE SEED: THE CARDS: each row of YtneeoicjipglkaaDoorRows.lean that lists a variable, with what it lists TIED to the program's text (the seventh form; the later family's looks); each row that meets fmt, with fmt's text TOLD by the authors' own Lean function (tested against real Go, not proved from fmt's source: count such statements apart). THE CARD IS WHAT COUNTS. Prove the row's statement (the work); the ties are given (YtneeoicjipglkaaDoorTie.lean); close each card by the builder's one call (the guide's Derived/Test/ToyasCard.lean, 'card_holds'). Laid BY PROGRAM, IN A SANDBOX (cutbox-door.mjs). By AI agents, Wed Nov 11 2026. No macro, syntax, notation, axiom, sorry.
-/
import Derived.Test.YtneeoicjipglkaaDoorRows
import GoSem.ClaimSeven
namespace Go.Proofs.YtneeoicjipglkaaDoor
namespace Rows

/-- THE TIED CARD OF 'commonagelaw14.SigStops'. -/
def sigStopsCard : Claim7 := { stood := { row := sigStopsRow, standIns := [], harness := (true, "078c73ddfec8c9c3b5f299b1f901f1ad11d64dbb25a31dca805506656971da5b"), looks := false }, kinds := [], alts := [], laidByText := true, laidKinds := [.data, .data], laidTests := true, laidLooks := .later }
def SigStopsCardSaid : Prop := Claim7.holds Tryd.pinned (.plain (OpenSpec.ofChange sigStopsSpec)) sigStopsCard

/-- THE TIED CARD OF 'commonagelaw14.SigIgnored'. -/
def sigIgnoredCard : Claim7 := { stood := { row := sigIgnoredRow, standIns := [], harness := (true, "078c73ddfec8c9c3b5f299b1f901f1ad11d64dbb25a31dca805506656971da5b"), looks := false }, kinds := [], alts := [], laidByText := true, laidKinds := [.data, .data], laidTests := true, laidLooks := .later }
def SigIgnoredCardSaid : Prop := Claim7.holds Tryd.pinned (.plain (OpenSpec.ofChange sigIgnoredSpec)) sigIgnoredCard

/-- THE TIED CARD OF 'commonagelaw14.SigPlays'. -/
def sigPlaysCard : Claim7 := { stood := { row := sigPlaysRow, standIns := [], harness := (true, "078c73ddfec8c9c3b5f299b1f901f1ad11d64dbb25a31dca805506656971da5b"), looks := false }, kinds := [], alts := [], laidByText := true, laidKinds := [.data, .data], laidTests := true, laidLooks := .later }
def SigPlaysCardSaid : Prop := Claim7.holds Tryd.pinned (.plain (OpenSpec.ofChange sigPlaysSpec)) sigPlaysCard

/-- THE TIED CARD OF 'commonagelaw14.SigHard'. -/
def sigHardCard : Claim7 := { stood := { row := sigHardRow, standIns := [], harness := (true, "078c73ddfec8c9c3b5f299b1f901f1ad11d64dbb25a31dca805506656971da5b"), looks := false }, kinds := [], alts := [], laidByText := true, laidKinds := [.data, .data], laidTests := true, laidLooks := .later }
def SigHardCardSaid : Prop := Claim7.holds Tryd.pinned (.plain (OpenSpec.ofChange sigHardSpec)) sigHardCard

/-- THE TIED CARD OF 'commonagelaw14.SigOnce'. -/
def sigOnceCard : Claim7 := { stood := { row := sigOnceRow, standIns := [], harness := (true, "078c73ddfec8c9c3b5f299b1f901f1ad11d64dbb25a31dca805506656971da5b"), looks := false }, kinds := [], alts := [], laidByText := true, laidKinds := [.data, .data], laidTests := true, laidLooks := .later }
def SigOnceCardSaid : Prop := Claim7.holds Tryd.pinned (.plain (OpenSpec.ofChange sigOnceSpec)) sigOnceCard

/-- THE TIED CARD OF 'commonagelaw0.NamesNumbers'. -/
def namesNumbersCard : Claim7 := { stood := { row := namesNumbersRow, standIns := [], harness := (true, "078c73ddfec8c9c3b5f299b1f901f1ad11d64dbb25a31dca805506656971da5b"), looks := false }, kinds := [], alts := [], laidByText := true, laidKinds := [.data, .data, .data], laidTests := true, laidLooks := .later }
def NamesNumbersCardSaid : Prop := Claim7.holds Tryd.pinned (.plain (OpenSpec.ofChange namesNumbersSpec)) namesNumbersCard

/-- THE SECOND FORM's CARD OF 'commonagelaw14.SigStops'. -/
def sigStopsUptoCard : Claim7 := { stood := { row := sigStopsUptoRow, standIns := [], harness := (true, "078c73ddfec8c9c3b5f299b1f901f1ad11d64dbb25a31dca805506656971da5b"), looks := false }, kinds := [], alts := [], laidByText := true, laidKinds := [.data, .data], laidTests := true, laidLooks := .later }
def SigStopsUptoCardSaid : Prop := Claim7.holds Tryd.pinned (.plain (OpenSpec.upto sigStopsSpec)) sigStopsUptoCard

/-- THE SECOND FORM's CARD OF 'commonagelaw14.SigIgnored'. -/
def sigIgnoredUptoCard : Claim7 := { stood := { row := sigIgnoredUptoRow, standIns := [], harness := (true, "078c73ddfec8c9c3b5f299b1f901f1ad11d64dbb25a31dca805506656971da5b"), looks := false }, kinds := [], alts := [], laidByText := true, laidKinds := [.data, .data], laidTests := true, laidLooks := .later }
def SigIgnoredUptoCardSaid : Prop := Claim7.holds Tryd.pinned (.plain (OpenSpec.upto sigIgnoredSpec)) sigIgnoredUptoCard

/-- THE SECOND FORM's CARD OF 'commonagelaw14.SigPlays'. -/
def sigPlaysUptoCard : Claim7 := { stood := { row := sigPlaysUptoRow, standIns := [], harness := (true, "078c73ddfec8c9c3b5f299b1f901f1ad11d64dbb25a31dca805506656971da5b"), looks := false }, kinds := [], alts := [], laidByText := true, laidKinds := [.data, .data], laidTests := true, laidLooks := .later }
def SigPlaysUptoCardSaid : Prop := Claim7.holds Tryd.pinned (.plain (OpenSpec.upto sigPlaysSpec)) sigPlaysUptoCard

/-- THE SECOND FORM's CARD OF 'commonagelaw14.SigHard'. -/
def sigHardUptoCard : Claim7 := { stood := { row := sigHardUptoRow, standIns := [], harness := (true, "078c73ddfec8c9c3b5f299b1f901f1ad11d64dbb25a31dca805506656971da5b"), looks := false }, kinds := [], alts := [], laidByText := true, laidKinds := [.data, .data], laidTests := true, laidLooks := .later }
def SigHardUptoCardSaid : Prop := Claim7.holds Tryd.pinned (.plain (OpenSpec.upto sigHardSpec)) sigHardUptoCard

/-- THE SECOND FORM's CARD OF 'commonagelaw14.SigOnce'. -/
def sigOnceUptoCard : Claim7 := { stood := { row := sigOnceUptoRow, standIns := [], harness := (true, "078c73ddfec8c9c3b5f299b1f901f1ad11d64dbb25a31dca805506656971da5b"), looks := false }, kinds := [], alts := [], laidByText := true, laidKinds := [.data, .data], laidTests := true, laidLooks := .later }
def SigOnceUptoCardSaid : Prop := Claim7.holds Tryd.pinned (.plain (OpenSpec.upto sigOnceSpec)) sigOnceUptoCard

/-- THE SECOND FORM's CARD OF 'commonagelaw0.NamesNumbers'. -/
def namesNumbersUptoCard : Claim7 := { stood := { row := namesNumbersUptoRow, standIns := [], harness := (true, "078c73ddfec8c9c3b5f299b1f901f1ad11d64dbb25a31dca805506656971da5b"), looks := false }, kinds := [], alts := [], laidByText := true, laidKinds := [.data, .data, .data], laidTests := true, laidLooks := .later }
def NamesNumbersUptoCardSaid : Prop := Claim7.holds Tryd.pinned (.plain (OpenSpec.upto namesNumbersSpec)) namesNumbersUptoCard
end Rows
end Go.Proofs.YtneeoicjipglkaaDoor
