/-
  No cell of these rows narrows 'for every input' (looked for: loops, veiled, ifaces, maps, wideKeys, modest, calm, conditions, laid).
  DERIVED. THE GIVEN ROWS OF THIS SEAT. 4 by the template 'for every input the law returns true; each argument reads behind the call as it read before'; 0 by the template 'total and deterministic' (their statements: YtneeoicjipglkaaTotals.lean).
  GIVEN WITH THE SEED: the statements are not yours to turn. If you find one false, say at which input.
  Laid BY PROGRAM, IN A SANDBOX (cutbox-rows.mjs): the forced cells as the released guide's own fill.sh prints them over the translation c41696d52311b384… (all of the seat's roots in one cut). By AI agents, Wed Nov 11 2026. No macro, syntax, notation, axiom, sorry.
-/
import Derived.Test.YtneeoicjipglkaaChecked
import GoSem.Claim
import GoSem.ClaimJoined
import GoSem.ClaimMapViews
import Derived.JoinedTies
import Derived.KernelRfl
namespace Go.Proofs.Ytneeoicjipglkaa
/- THE CELL 'sum', in the pinned program and in every row, IS THE sha256 OF THE DUMP (.gsa) THAT YtneeoicjipglkaaProg.lean LOADS. Nothing in Lean hashes anything: it is a label: what it is worth is what the hold of that sum in a sandbox is worth. -/
noncomputable def Try.pinned : Pinned := { name := "ytneeoicjipglkaa", sum := "c41696d52311b3847506fe5dc8dea7b65d759d819a01084121d5dc5b8aa5a36e", checked := Try.checked }
namespace Rows
def none {H : Type} : Left H := { results := [], args := [] }

/-- 'commonagelaw12.FileCodes': WHATEVER THE INPUT: true; the input reads as it did. -/
def fileCodesSpec : ChangeSpec := { name := "fileCodes", fn := fun _ => fun
  | [d1, d2] => { results := [.lit (.bool true)], args := [d1, d2] }
  | _ => none }
def fileCodesRow : OpenClaim := { program := "ytneeoicjipglkaa", sum := "c41696d52311b3847506fe5dc8dea7b65d759d819a01084121d5dc5b8aa5a36e", func := "commonage/commonagelaw12.FileCodes", spec := "fileCodes", unfollowed := true, recurses := true, apart := false }
def FileCodesSaid : Prop := fileCodesRow.holds Try.pinned (OpenSpec.ofChange fileCodesSpec)

/-- ITS FALSE NEIGHBOUR: 'it returns false'. Refute it at one input. -/
def fileCodesWrong : ChangeSpec := { name := "fileCodes", fn := fun _ => fun
  | [d1, d2] => { results := [.lit (.bool false)], args := [d1, d2] }
  | _ => none }
def FileCodesWrongFalsely : Prop := fileCodesRow.holds Try.pinned (OpenSpec.ofChange fileCodesWrong)

/-- 'commonagelaw12.FileReads': WHATEVER THE INPUT: true; the input reads as it did. -/
def fileReadsSpec : ChangeSpec := { name := "fileReads", fn := fun _ => fun
  | [d1, d2, d3, d4, d5] => { results := [.lit (.bool true)], args := [d1, d2, d3, d4, d5] }
  | _ => none }
def fileReadsRow : OpenClaim := { program := "ytneeoicjipglkaa", sum := "c41696d52311b3847506fe5dc8dea7b65d759d819a01084121d5dc5b8aa5a36e", func := "commonage/commonagelaw12.FileReads", spec := "fileReads", unfollowed := true, recurses := true, apart := false }
def FileReadsSaid : Prop := fileReadsRow.holds Try.pinned (OpenSpec.ofChange fileReadsSpec)

/-- ITS FALSE NEIGHBOUR: 'it returns false'. Refute it at one input. -/
def fileReadsWrong : ChangeSpec := { name := "fileReads", fn := fun _ => fun
  | [d1, d2, d3, d4, d5] => { results := [.lit (.bool false)], args := [d1, d2, d3, d4, d5] }
  | _ => none }
def FileReadsWrongFalsely : Prop := fileReadsRow.holds Try.pinned (OpenSpec.ofChange fileReadsWrong)

/-- 'commonagelaw12.FileOne': WHATEVER THE INPUT: true; the input reads as it did. -/
def fileOneSpec : ChangeSpec := { name := "fileOne", fn := fun _ => fun
  | [d1, d2, d3, d4] => { results := [.lit (.bool true)], args := [d1, d2, d3, d4] }
  | _ => none }
def fileOneRow : OpenClaim := { program := "ytneeoicjipglkaa", sum := "c41696d52311b3847506fe5dc8dea7b65d759d819a01084121d5dc5b8aa5a36e", func := "commonage/commonagelaw12.FileOne", spec := "fileOne", unfollowed := true, recurses := true, apart := false }
def FileOneSaid : Prop := fileOneRow.holds Try.pinned (OpenSpec.ofChange fileOneSpec)

/-- ITS FALSE NEIGHBOUR: 'it returns false'. Refute it at one input. -/
def fileOneWrong : ChangeSpec := { name := "fileOne", fn := fun _ => fun
  | [d1, d2, d3, d4] => { results := [.lit (.bool false)], args := [d1, d2, d3, d4] }
  | _ => none }
def FileOneWrongFalsely : Prop := fileOneRow.holds Try.pinned (OpenSpec.ofChange fileOneWrong)

/-- 'commonagelaw12.FileCodec': WHATEVER THE INPUT: true; the input reads as it did. -/
def fileCodecSpec : ChangeSpec := { name := "fileCodec", fn := fun _ => fun
  | [d1, d2] => { results := [.lit (.bool true)], args := [d1, d2] }
  | _ => none }
def fileCodecRow : OpenClaim := { program := "ytneeoicjipglkaa", sum := "c41696d52311b3847506fe5dc8dea7b65d759d819a01084121d5dc5b8aa5a36e", func := "commonage/commonagelaw12.FileCodec", spec := "fileCodec", unfollowed := true, recurses := true, apart := false }
def FileCodecSaid : Prop := fileCodecRow.holds Try.pinned (OpenSpec.ofChange fileCodecSpec)

/-- ITS FALSE NEIGHBOUR: 'it returns false'. Refute it at one input. -/
def fileCodecWrong : ChangeSpec := { name := "fileCodec", fn := fun _ => fun
  | [d1, d2] => { results := [.lit (.bool false)], args := [d1, d2] }
  | _ => none }
def FileCodecWrongFalsely : Prop := fileCodecRow.holds Try.pinned (OpenSpec.ofChange fileCodecWrong)

/- THE SECOND FORM. 'bulk': how many values and letters a reading holds, each counted each time it is reached (what is shared counts as often as it is met; a slice's spare places count too). A statement '..UptoSaid' is the law's where the arguments, and the package variables that the reading takes, are together of bulk at most 1048576: NARROWER than '..Said'. Prove '..Said' where nothing that the law and all that it calls make is longer than what came in: it says more and counts as full. Else prove '..UptoSaid'. A law counts once. -/
mutual
def uptoBulk {H : Type} : DataW H → Nat
  | .lit (.string bytes) => bytes.length + 1
  | .lit _ => 1
  | .nil => 1
  | .ptr d => uptoBulk d + 1
  | .slice elems spare => uptoBulkAll elems + uptoBulkAll spare + 1
  | .agg parts => uptoBulkAll parts + 1
  | .iface _ d => uptoBulk d + 1
  | .map entries => uptoBulkEntries entries + 1
  | .held _ => 1
def uptoBulkAll {H : Type} : List (DataW H) → Nat
  | [] => 0
  | d :: r => uptoBulk d + uptoBulkAll r
def uptoBulkEntries {H : Type} : List (Lit × DataW H) → Nat
  | [] => 0
  | x :: r => uptoBulkEntry x + uptoBulkEntries r
def uptoBulkEntry {H : Type} : Lit × DataW H → Nat
  | (.string bytes, d) => bytes.length + uptoBulk d + 1
  | (_, d) => uptoBulk d + 1
 end
def uptoSmall : (H : Type) → List (DataW H) → Bool := fun _ ds => decide (uptoBulkAll ds ≤ 1048576)
def OpenSpec.upto (s : _root_.Go.ChangeSpec) : _root_.Go.OpenSpec := { _root_.Go.OpenSpec.ofChange s with cond := some uptoSmall }

/-- 'commonagelaw12.FileCodes', WHERE WHAT IT READS IS OF BULK AT MOST 1048576: true; the input reads as it did. -/
def fileCodesUptoRow : OpenClaim := { program := "ytneeoicjipglkaa", sum := "c41696d52311b3847506fe5dc8dea7b65d759d819a01084121d5dc5b8aa5a36e", func := "commonage/commonagelaw12.FileCodes", spec := "fileCodes", unfollowed := true, recurses := true, apart := false, narrowed := true }
def FileCodesUptoSaid : Prop := fileCodesUptoRow.holds Try.pinned (OpenSpec.upto fileCodesSpec)

/-- 'commonagelaw12.FileReads', WHERE WHAT IT READS IS OF BULK AT MOST 1048576: true; the input reads as it did. -/
def fileReadsUptoRow : OpenClaim := { program := "ytneeoicjipglkaa", sum := "c41696d52311b3847506fe5dc8dea7b65d759d819a01084121d5dc5b8aa5a36e", func := "commonage/commonagelaw12.FileReads", spec := "fileReads", unfollowed := true, recurses := true, apart := false, narrowed := true }
def FileReadsUptoSaid : Prop := fileReadsUptoRow.holds Try.pinned (OpenSpec.upto fileReadsSpec)

/-- 'commonagelaw12.FileOne', WHERE WHAT IT READS IS OF BULK AT MOST 1048576: true; the input reads as it did. -/
def fileOneUptoRow : OpenClaim := { program := "ytneeoicjipglkaa", sum := "c41696d52311b3847506fe5dc8dea7b65d759d819a01084121d5dc5b8aa5a36e", func := "commonage/commonagelaw12.FileOne", spec := "fileOne", unfollowed := true, recurses := true, apart := false, narrowed := true }
def FileOneUptoSaid : Prop := fileOneUptoRow.holds Try.pinned (OpenSpec.upto fileOneSpec)

/-- 'commonagelaw12.FileCodec', WHERE WHAT IT READS IS OF BULK AT MOST 1048576: true; the input reads as it did. -/
def fileCodecUptoRow : OpenClaim := { program := "ytneeoicjipglkaa", sum := "c41696d52311b3847506fe5dc8dea7b65d759d819a01084121d5dc5b8aa5a36e", func := "commonage/commonagelaw12.FileCodec", spec := "fileCodec", unfollowed := true, recurses := true, apart := false, narrowed := true }
def FileCodecUptoSaid : Prop := fileCodecUptoRow.holds Try.pinned (OpenSpec.upto fileCodecSpec)

end Rows
end Go.Proofs.Ytneeoicjipglkaa
