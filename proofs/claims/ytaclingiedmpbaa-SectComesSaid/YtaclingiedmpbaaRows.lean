/-
  No cell of these rows narrows 'for every input' (looked for: loops, veiled, ifaces, maps, wideKeys, modest, calm, conditions, laid).
  DERIVED. THE GIVEN ROWS OF THIS SEAT. 11 by the template 'for every input the law returns true; each argument reads behind the call as it read before'; 0 by the template 'total and deterministic' (their statements: YtaclingiedmpbaaTotals.lean).
  GIVEN WITH THE SEED: the statements are not yours to turn. If you find one false, say at which input.
  Laid BY PROGRAM, IN A SANDBOX (cutbox-rows.mjs): the forced cells as the released guide's own fill.sh prints them over the translation bcb5da733a3df3d3… (all of the seat's roots in one cut). By AI agents, Wed Nov 11 2026. No macro, syntax, notation, axiom, sorry.
-/
import Derived.Test.YtaclingiedmpbaaChecked
import GoSem.Claim
import GoSem.ClaimJoined
import GoSem.ClaimMapViews
import Derived.JoinedTies
import Derived.KernelRfl
namespace Go.Proofs.Ytaclingiedmpbaa
/- THE CELL 'sum', in the pinned program and in every row, IS THE sha256 OF THE DUMP (.gsa) THAT YtaclingiedmpbaaProg.lean LOADS. Nothing in Lean hashes anything: it is a label: what it is worth is what the hold of that sum in a sandbox is worth. -/
noncomputable def Try.pinned : Pinned := { name := "ytaclingiedmpbaa", sum := "bcb5da733a3df3d307701e4238b65c081c3cf61d6e80193f19874b48cf841bde", checked := Try.checked }
namespace Rows
def none {H : Type} : Left H := { results := [], args := [] }

/-- 'commonagelaw6.SectLease': WHATEVER THE INPUT: true; the input reads as it did. -/
def sectLeaseSpec : ChangeSpec := { name := "sectLease", fn := fun _ => fun
  | [d1, d2] => { results := [.lit (.bool true)], args := [d1, d2] }
  | _ => none }
def sectLeaseRow : OpenClaim := { program := "ytaclingiedmpbaa", sum := "bcb5da733a3df3d307701e4238b65c081c3cf61d6e80193f19874b48cf841bde", func := "commonage/commonagelaw6.SectLease", spec := "sectLease", apart := false }
def SectLeaseSaid : Prop := sectLeaseRow.holds Try.pinned (OpenSpec.ofChange sectLeaseSpec)

/-- ITS FALSE NEIGHBOUR: 'it returns false'. Refute it at one input. -/
def sectLeaseWrong : ChangeSpec := { name := "sectLease", fn := fun _ => fun
  | [d1, d2] => { results := [.lit (.bool false)], args := [d1, d2] }
  | _ => none }
def SectLeaseWrongFalsely : Prop := sectLeaseRow.holds Try.pinned (OpenSpec.ofChange sectLeaseWrong)

/-- 'commonagelaw6.SectAgain': WHATEVER THE INPUT: true; the input reads as it did. -/
def sectAgainSpec : ChangeSpec := { name := "sectAgain", fn := fun _ => fun
  | [d] => { results := [.lit (.bool true)], args := [d] }
  | _ => none }
def sectAgainRow : OpenClaim := { program := "ytaclingiedmpbaa", sum := "bcb5da733a3df3d307701e4238b65c081c3cf61d6e80193f19874b48cf841bde", func := "commonage/commonagelaw6.SectAgain", spec := "sectAgain", apart := false }
def SectAgainSaid : Prop := sectAgainRow.holds Try.pinned (OpenSpec.ofChange sectAgainSpec)

/-- ITS FALSE NEIGHBOUR: 'it returns false'. Refute it at one input. -/
def sectAgainWrong : ChangeSpec := { name := "sectAgain", fn := fun _ => fun
  | [d] => { results := [.lit (.bool false)], args := [d] }
  | _ => none }
def SectAgainWrongFalsely : Prop := sectAgainRow.holds Try.pinned (OpenSpec.ofChange sectAgainWrong)

/-- 'commonagelaw6.SectOne': WHATEVER THE INPUT: true; the input reads as it did. -/
def sectOneSpec : ChangeSpec := { name := "sectOne", fn := fun _ => fun
  | [d1, d2] => { results := [.lit (.bool true)], args := [d1, d2] }
  | _ => none }
def sectOneRow : OpenClaim := { program := "ytaclingiedmpbaa", sum := "bcb5da733a3df3d307701e4238b65c081c3cf61d6e80193f19874b48cf841bde", func := "commonage/commonagelaw6.SectOne", spec := "sectOne", apart := false }
def SectOneSaid : Prop := sectOneRow.holds Try.pinned (OpenSpec.ofChange sectOneSpec)

/-- ITS FALSE NEIGHBOUR: 'it returns false'. Refute it at one input. -/
def sectOneWrong : ChangeSpec := { name := "sectOne", fn := fun _ => fun
  | [d1, d2] => { results := [.lit (.bool false)], args := [d1, d2] }
  | _ => none }
def SectOneWrongFalsely : Prop := sectOneRow.holds Try.pinned (OpenSpec.ofChange sectOneWrong)

/-- 'commonagelaw6.SectTurns': WHATEVER THE INPUT: true; the input reads as it did. -/
def sectTurnsSpec : ChangeSpec := { name := "sectTurns", fn := fun _ => fun
  | [d1, d2, d3] => { results := [.lit (.bool true)], args := [d1, d2, d3] }
  | _ => none }
def sectTurnsRow : OpenClaim := { program := "ytaclingiedmpbaa", sum := "bcb5da733a3df3d307701e4238b65c081c3cf61d6e80193f19874b48cf841bde", func := "commonage/commonagelaw6.SectTurns", spec := "sectTurns", apart := false }
def SectTurnsSaid : Prop := sectTurnsRow.holds Try.pinned (OpenSpec.ofChange sectTurnsSpec)

/-- ITS FALSE NEIGHBOUR: 'it returns false'. Refute it at one input. -/
def sectTurnsWrong : ChangeSpec := { name := "sectTurns", fn := fun _ => fun
  | [d1, d2, d3] => { results := [.lit (.bool false)], args := [d1, d2, d3] }
  | _ => none }
def SectTurnsWrongFalsely : Prop := sectTurnsRow.holds Try.pinned (OpenSpec.ofChange sectTurnsWrong)

/-- 'commonagelaw6.SectComes': WHATEVER THE INPUT: true; the input reads as it did. -/
def sectComesSpec : ChangeSpec := { name := "sectComes", fn := fun _ => fun
  | [d1, d2, d3] => { results := [.lit (.bool true)], args := [d1, d2, d3] }
  | _ => none }
def sectComesRow : OpenClaim := { program := "ytaclingiedmpbaa", sum := "bcb5da733a3df3d307701e4238b65c081c3cf61d6e80193f19874b48cf841bde", func := "commonage/commonagelaw6.SectComes", spec := "sectComes", apart := false }
def SectComesSaid : Prop := sectComesRow.holds Try.pinned (OpenSpec.ofChange sectComesSpec)

/-- ITS FALSE NEIGHBOUR: 'it returns false'. Refute it at one input. -/
def sectComesWrong : ChangeSpec := { name := "sectComes", fn := fun _ => fun
  | [d1, d2, d3] => { results := [.lit (.bool false)], args := [d1, d2, d3] }
  | _ => none }
def SectComesWrongFalsely : Prop := sectComesRow.holds Try.pinned (OpenSpec.ofChange sectComesWrong)

/-- 'commonagelaw6.SectQuits': WHATEVER THE INPUT: true; the input reads as it did. -/
def sectQuitsSpec : ChangeSpec := { name := "sectQuits", fn := fun _ => fun
  | [d1, d2] => { results := [.lit (.bool true)], args := [d1, d2] }
  | _ => none }
def sectQuitsRow : OpenClaim := { program := "ytaclingiedmpbaa", sum := "bcb5da733a3df3d307701e4238b65c081c3cf61d6e80193f19874b48cf841bde", func := "commonage/commonagelaw6.SectQuits", spec := "sectQuits", apart := false }
def SectQuitsSaid : Prop := sectQuitsRow.holds Try.pinned (OpenSpec.ofChange sectQuitsSpec)

/-- ITS FALSE NEIGHBOUR: 'it returns false'. Refute it at one input. -/
def sectQuitsWrong : ChangeSpec := { name := "sectQuits", fn := fun _ => fun
  | [d1, d2] => { results := [.lit (.bool false)], args := [d1, d2] }
  | _ => none }
def SectQuitsWrongFalsely : Prop := sectQuitsRow.holds Try.pinned (OpenSpec.ofChange sectQuitsWrong)

/-- 'commonagelaw7.PredSkips': WHATEVER THE INPUT: true; the input reads as it did. -/
def predSkipsSpec : ChangeSpec := { name := "predSkips", fn := fun _ => fun
  | [d1, d2, d3] => { results := [.lit (.bool true)], args := [d1, d2, d3] }
  | _ => none }
def predSkipsRow : OpenClaim := { program := "ytaclingiedmpbaa", sum := "bcb5da733a3df3d307701e4238b65c081c3cf61d6e80193f19874b48cf841bde", func := "commonage/commonagelaw7.PredSkips", spec := "predSkips", apart := false }
def PredSkipsSaid : Prop := predSkipsRow.holds Try.pinned (OpenSpec.ofChange predSkipsSpec)

/-- ITS FALSE NEIGHBOUR: 'it returns false'. Refute it at one input. -/
def predSkipsWrong : ChangeSpec := { name := "predSkips", fn := fun _ => fun
  | [d1, d2, d3] => { results := [.lit (.bool false)], args := [d1, d2, d3] }
  | _ => none }
def PredSkipsWrongFalsely : Prop := predSkipsRow.holds Try.pinned (OpenSpec.ofChange predSkipsWrong)

/-- 'commonagelaw7.PredTells': WHATEVER THE INPUT: true; the input reads as it did. -/
def predTellsSpec : ChangeSpec := { name := "predTells", fn := fun _ => fun
  | [d1, d2, d3, d4] => { results := [.lit (.bool true)], args := [d1, d2, d3, d4] }
  | _ => none }
def predTellsRow : OpenClaim := { program := "ytaclingiedmpbaa", sum := "bcb5da733a3df3d307701e4238b65c081c3cf61d6e80193f19874b48cf841bde", func := "commonage/commonagelaw7.PredTells", spec := "predTells", apart := false }
def PredTellsSaid : Prop := predTellsRow.holds Try.pinned (OpenSpec.ofChange predTellsSpec)

/-- ITS FALSE NEIGHBOUR: 'it returns false'. Refute it at one input. -/
def predTellsWrong : ChangeSpec := { name := "predTells", fn := fun _ => fun
  | [d1, d2, d3, d4] => { results := [.lit (.bool false)], args := [d1, d2, d3, d4] }
  | _ => none }
def PredTellsWrongFalsely : Prop := predTellsRow.holds Try.pinned (OpenSpec.ofChange predTellsWrong)

/-- 'commonagelaw7.PredEnds': WHATEVER THE INPUT: true; the input reads as it did. -/
def predEndsSpec : ChangeSpec := { name := "predEnds", fn := fun _ => fun
  | [d1, d2, d3] => { results := [.lit (.bool true)], args := [d1, d2, d3] }
  | _ => none }
def predEndsRow : OpenClaim := { program := "ytaclingiedmpbaa", sum := "bcb5da733a3df3d307701e4238b65c081c3cf61d6e80193f19874b48cf841bde", func := "commonage/commonagelaw7.PredEnds", spec := "predEnds", apart := false }
def PredEndsSaid : Prop := predEndsRow.holds Try.pinned (OpenSpec.ofChange predEndsSpec)

/-- ITS FALSE NEIGHBOUR: 'it returns false'. Refute it at one input. -/
def predEndsWrong : ChangeSpec := { name := "predEnds", fn := fun _ => fun
  | [d1, d2, d3] => { results := [.lit (.bool false)], args := [d1, d2, d3] }
  | _ => none }
def PredEndsWrongFalsely : Prop := predEndsRow.holds Try.pinned (OpenSpec.ofChange predEndsWrong)

/-- 'commonagelaw7.PredEither': WHATEVER THE INPUT: true; the input reads as it did. -/
def predEitherSpec : ChangeSpec := { name := "predEither", fn := fun _ => fun
  | [d1, d2, d3, d4] => { results := [.lit (.bool true)], args := [d1, d2, d3, d4] }
  | _ => none }
def predEitherRow : OpenClaim := { program := "ytaclingiedmpbaa", sum := "bcb5da733a3df3d307701e4238b65c081c3cf61d6e80193f19874b48cf841bde", func := "commonage/commonagelaw7.PredEither", spec := "predEither", apart := false }
def PredEitherSaid : Prop := predEitherRow.holds Try.pinned (OpenSpec.ofChange predEitherSpec)

/-- ITS FALSE NEIGHBOUR: 'it returns false'. Refute it at one input. -/
def predEitherWrong : ChangeSpec := { name := "predEither", fn := fun _ => fun
  | [d1, d2, d3, d4] => { results := [.lit (.bool false)], args := [d1, d2, d3, d4] }
  | _ => none }
def PredEitherWrongFalsely : Prop := predEitherRow.holds Try.pinned (OpenSpec.ofChange predEitherWrong)

/-- 'commonagelaw7.PredMakes': WHATEVER THE INPUT: true; the input reads as it did. -/
def predMakesSpec : ChangeSpec := { name := "predMakes", fn := fun _ => fun
  | [d1, d2, d3, d4, d5] => { results := [.lit (.bool true)], args := [d1, d2, d3, d4, d5] }
  | _ => none }
def predMakesRow : OpenClaim := { program := "ytaclingiedmpbaa", sum := "bcb5da733a3df3d307701e4238b65c081c3cf61d6e80193f19874b48cf841bde", func := "commonage/commonagelaw7.PredMakes", spec := "predMakes", apart := false }
def PredMakesSaid : Prop := predMakesRow.holds Try.pinned (OpenSpec.ofChange predMakesSpec)

/-- ITS FALSE NEIGHBOUR: 'it returns false'. Refute it at one input. -/
def predMakesWrong : ChangeSpec := { name := "predMakes", fn := fun _ => fun
  | [d1, d2, d3, d4, d5] => { results := [.lit (.bool false)], args := [d1, d2, d3, d4, d5] }
  | _ => none }
def PredMakesWrongFalsely : Prop := predMakesRow.holds Try.pinned (OpenSpec.ofChange predMakesWrong)

/- THE SECOND FORM. 'bulk': how many values and letters a reading holds, each counted each time it is reached (what is shared counts as often as it is met; a slice's spare places count too). A statement '..UptoSaid' is the law's where the arguments, and the package variables that the reading takes, are together of bulk at most 1048576: NARROWER than '..Said'. Prove '..Said' where nothing that the law and all that it calls make is longer than what came in: it says more and counts as full. Else prove '..UptoSaid'. A law counts once. -/
mutual
def uptoBulk {H : Type} : DataW H → Nat
  | .lit (.string bytes) => bytes.length + 1
  | .lit _ => 1
  | .nil => 1
  | .ptr d => uptoBulk d + 1
  | .slice elems spare => uptoBulkAll elems + uptoBulkAll spare + 1
  | .agg parts => uptoBulkAll parts + 1
  | .iface _ d => uptoBulk d + 1
  | .map entries => uptoBulkEntries entries + 1
  | .held _ => 1
def uptoBulkAll {H : Type} : List (DataW H) → Nat
  | [] => 0
  | d :: r => uptoBulk d + uptoBulkAll r
def uptoBulkEntries {H : Type} : List (Lit × DataW H) → Nat
  | [] => 0
  | x :: r => uptoBulkEntry x + uptoBulkEntries r
def uptoBulkEntry {H : Type} : Lit × DataW H → Nat
  | (.string bytes, d) => bytes.length + uptoBulk d + 1
  | (_, d) => uptoBulk d + 1
 end
def uptoSmall : (H : Type) → List (DataW H) → Bool := fun _ ds => decide (uptoBulkAll ds ≤ 1048576)
def OpenSpec.upto (s : _root_.Go.ChangeSpec) : _root_.Go.OpenSpec := { _root_.Go.OpenSpec.ofChange s with cond := some uptoSmall }

/-- 'commonagelaw6.SectLease', WHERE WHAT IT READS IS OF BULK AT MOST 1048576: true; the input reads as it did. -/
def sectLeaseUptoRow : OpenClaim := { program := "ytaclingiedmpbaa", sum := "bcb5da733a3df3d307701e4238b65c081c3cf61d6e80193f19874b48cf841bde", func := "commonage/commonagelaw6.SectLease", spec := "sectLease", apart := false, narrowed := true }
def SectLeaseUptoSaid : Prop := sectLeaseUptoRow.holds Try.pinned (OpenSpec.upto sectLeaseSpec)

/-- 'commonagelaw6.SectAgain', WHERE WHAT IT READS IS OF BULK AT MOST 1048576: true; the input reads as it did. -/
def sectAgainUptoRow : OpenClaim := { program := "ytaclingiedmpbaa", sum := "bcb5da733a3df3d307701e4238b65c081c3cf61d6e80193f19874b48cf841bde", func := "commonage/commonagelaw6.SectAgain", spec := "sectAgain", apart := false, narrowed := true }
def SectAgainUptoSaid : Prop := sectAgainUptoRow.holds Try.pinned (OpenSpec.upto sectAgainSpec)

/-- 'commonagelaw6.SectOne', WHERE WHAT IT READS IS OF BULK AT MOST 1048576: true; the input reads as it did. -/
def sectOneUptoRow : OpenClaim := { program := "ytaclingiedmpbaa", sum := "bcb5da733a3df3d307701e4238b65c081c3cf61d6e80193f19874b48cf841bde", func := "commonage/commonagelaw6.SectOne", spec := "sectOne", apart := false, narrowed := true }
def SectOneUptoSaid : Prop := sectOneUptoRow.holds Try.pinned (OpenSpec.upto sectOneSpec)

/-- 'commonagelaw6.SectTurns', WHERE WHAT IT READS IS OF BULK AT MOST 1048576: true; the input reads as it did. -/
def sectTurnsUptoRow : OpenClaim := { program := "ytaclingiedmpbaa", sum := "bcb5da733a3df3d307701e4238b65c081c3cf61d6e80193f19874b48cf841bde", func := "commonage/commonagelaw6.SectTurns", spec := "sectTurns", apart := false, narrowed := true }
def SectTurnsUptoSaid : Prop := sectTurnsUptoRow.holds Try.pinned (OpenSpec.upto sectTurnsSpec)

/-- 'commonagelaw6.SectComes', WHERE WHAT IT READS IS OF BULK AT MOST 1048576: true; the input reads as it did. -/
def sectComesUptoRow : OpenClaim := { program := "ytaclingiedmpbaa", sum := "bcb5da733a3df3d307701e4238b65c081c3cf61d6e80193f19874b48cf841bde", func := "commonage/commonagelaw6.SectComes", spec := "sectComes", apart := false, narrowed := true }
def SectComesUptoSaid : Prop := sectComesUptoRow.holds Try.pinned (OpenSpec.upto sectComesSpec)

/-- 'commonagelaw6.SectQuits', WHERE WHAT IT READS IS OF BULK AT MOST 1048576: true; the input reads as it did. -/
def sectQuitsUptoRow : OpenClaim := { program := "ytaclingiedmpbaa", sum := "bcb5da733a3df3d307701e4238b65c081c3cf61d6e80193f19874b48cf841bde", func := "commonage/commonagelaw6.SectQuits", spec := "sectQuits", apart := false, narrowed := true }
def SectQuitsUptoSaid : Prop := sectQuitsUptoRow.holds Try.pinned (OpenSpec.upto sectQuitsSpec)

/-- 'commonagelaw7.PredSkips', WHERE WHAT IT READS IS OF BULK AT MOST 1048576: true; the input reads as it did. -/
def predSkipsUptoRow : OpenClaim := { program := "ytaclingiedmpbaa", sum := "bcb5da733a3df3d307701e4238b65c081c3cf61d6e80193f19874b48cf841bde", func := "commonage/commonagelaw7.PredSkips", spec := "predSkips", apart := false, narrowed := true }
def PredSkipsUptoSaid : Prop := predSkipsUptoRow.holds Try.pinned (OpenSpec.upto predSkipsSpec)

/-- 'commonagelaw7.PredTells', WHERE WHAT IT READS IS OF BULK AT MOST 1048576: true; the input reads as it did. -/
def predTellsUptoRow : OpenClaim := { program := "ytaclingiedmpbaa", sum := "bcb5da733a3df3d307701e4238b65c081c3cf61d6e80193f19874b48cf841bde", func := "commonage/commonagelaw7.PredTells", spec := "predTells", apart := false, narrowed := true }
def PredTellsUptoSaid : Prop := predTellsUptoRow.holds Try.pinned (OpenSpec.upto predTellsSpec)

/-- 'commonagelaw7.PredEnds', WHERE WHAT IT READS IS OF BULK AT MOST 1048576: true; the input reads as it did. -/
def predEndsUptoRow : OpenClaim := { program := "ytaclingiedmpbaa", sum := "bcb5da733a3df3d307701e4238b65c081c3cf61d6e80193f19874b48cf841bde", func := "commonage/commonagelaw7.PredEnds", spec := "predEnds", apart := false, narrowed := true }
def PredEndsUptoSaid : Prop := predEndsUptoRow.holds Try.pinned (OpenSpec.upto predEndsSpec)

/-- 'commonagelaw7.PredEither', WHERE WHAT IT READS IS OF BULK AT MOST 1048576: true; the input reads as it did. -/
def predEitherUptoRow : OpenClaim := { program := "ytaclingiedmpbaa", sum := "bcb5da733a3df3d307701e4238b65c081c3cf61d6e80193f19874b48cf841bde", func := "commonage/commonagelaw7.PredEither", spec := "predEither", apart := false, narrowed := true }
def PredEitherUptoSaid : Prop := predEitherUptoRow.holds Try.pinned (OpenSpec.upto predEitherSpec)

/-- 'commonagelaw7.PredMakes', WHERE WHAT IT READS IS OF BULK AT MOST 1048576: true; the input reads as it did. -/
def predMakesUptoRow : OpenClaim := { program := "ytaclingiedmpbaa", sum := "bcb5da733a3df3d307701e4238b65c081c3cf61d6e80193f19874b48cf841bde", func := "commonage/commonagelaw7.PredMakes", spec := "predMakes", apart := false, narrowed := true }
def PredMakesUptoSaid : Prop := predMakesUptoRow.holds Try.pinned (OpenSpec.upto predMakesSpec)

end Rows
end Go.Proofs.Ytaclingiedmpbaa
