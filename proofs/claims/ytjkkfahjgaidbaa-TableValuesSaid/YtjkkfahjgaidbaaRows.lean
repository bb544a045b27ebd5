/-
  No cell of these rows narrows 'for every input' (looked for: loops, veiled, ifaces, maps, wideKeys, modest, calm, conditions, laid).
  DERIVED. THE GIVEN ROWS OF THIS SEAT. 10 by the template 'for every input the law returns true; each argument reads behind the call as it read before'; 0 by the template 'total and deterministic' (their statements: YtjkkfahjgaidbaaTotals.lean).
  GIVEN WITH THE SEED: the statements are not yours to turn. If you find one false, say at which input.
  Laid BY PROGRAM, IN A SANDBOX (cutbox-rows.mjs): the forced cells as the released guide's own fill.sh prints them over the translation af42ee7f15e2c6a4… (all of the seat's roots in one cut). By AI agents, Wed Nov 11 2026. No macro, syntax, notation, axiom, sorry.
-/
import Derived.Test.YtjkkfahjgaidbaaChecked
import GoSem.Claim
import GoSem.ClaimJoined
import GoSem.ClaimMapViews
import Derived.JoinedTies
import Derived.KernelRfl
namespace Go.Proofs.Ytjkkfahjgaidbaa
/- THE CELL 'sum', in the pinned program and in every row, IS THE sha256 OF THE DUMP (.gsa) THAT YtjkkfahjgaidbaaProg.lean LOADS. Nothing in Lean hashes anything: it is a label: what it is worth is what the hold of that sum in a sandbox is worth. -/
noncomputable def Try.pinned : Pinned := { name := "ytjkkfahjgaidbaa", sum := "af42ee7f15e2c6a4e5d9a837a2ac6870a937810d6847bed4236136bae1b3214c", checked := Try.checked }
namespace Rows
def none {H : Type} : Left H := { results := [], args := [] }

/-- 'commonagelaw1.MemEnds': WHATEVER THE INPUT: true; the input reads as it did. -/
def memEndsSpec : ChangeSpec := { name := "memEnds", fn := fun _ => fun
  | [d1, d2] => { results := [.lit (.bool true)], args := [d1, d2] }
  | _ => none }
def memEndsRow : OpenClaim := { program := "ytjkkfahjgaidbaa", sum := "af42ee7f15e2c6a4e5d9a837a2ac6870a937810d6847bed4236136bae1b3214c", func := "commonage/commonagelaw1.MemEnds", spec := "memEnds", apart := false }
def MemEndsSaid : Prop := memEndsRow.holds Try.pinned (OpenSpec.ofChange memEndsSpec)

/-- ITS FALSE NEIGHBOUR: 'it returns false'. Refute it at one input. -/
def memEndsWrong : ChangeSpec := { name := "memEnds", fn := fun _ => fun
  | [d1, d2] => { results := [.lit (.bool false)], args := [d1, d2] }
  | _ => none }
def MemEndsWrongFalsely : Prop := memEndsRow.holds Try.pinned (OpenSpec.ofChange memEndsWrong)

/-- 'commonagelaw1.MemApart': WHATEVER THE INPUT: true; the input reads as it did. -/
def memApartSpec : ChangeSpec := { name := "memApart", fn := fun _ => fun
  | [d1, d2, d3, d4] => { results := [.lit (.bool true)], args := [d1, d2, d3, d4] }
  | _ => none }
def memApartRow : OpenClaim := { program := "ytjkkfahjgaidbaa", sum := "af42ee7f15e2c6a4e5d9a837a2ac6870a937810d6847bed4236136bae1b3214c", func := "commonage/commonagelaw1.MemApart", spec := "memApart", apart := false }
def MemApartSaid : Prop := memApartRow.holds Try.pinned (OpenSpec.ofChange memApartSpec)

/-- ITS FALSE NEIGHBOUR: 'it returns false'. Refute it at one input. -/
def memApartWrong : ChangeSpec := { name := "memApart", fn := fun _ => fun
  | [d1, d2, d3, d4] => { results := [.lit (.bool false)], args := [d1, d2, d3, d4] }
  | _ => none }
def MemApartWrongFalsely : Prop := memApartRow.holds Try.pinned (OpenSpec.ofChange memApartWrong)

/-- 'commonagelaw1.MemLent': WHATEVER THE INPUT: true; the input reads as it did. -/
def memLentSpec : ChangeSpec := { name := "memLent", fn := fun _ => fun
  | [d1, d2] => { results := [.lit (.bool true)], args := [d1, d2] }
  | _ => none }
def memLentRow : OpenClaim := { program := "ytjkkfahjgaidbaa", sum := "af42ee7f15e2c6a4e5d9a837a2ac6870a937810d6847bed4236136bae1b3214c", func := "commonage/commonagelaw1.MemLent", spec := "memLent", apart := false }
def MemLentSaid : Prop := memLentRow.holds Try.pinned (OpenSpec.ofChange memLentSpec)

/-- ITS FALSE NEIGHBOUR: 'it returns false'. Refute it at one input. -/
def memLentWrong : ChangeSpec := { name := "memLent", fn := fun _ => fun
  | [d1, d2] => { results := [.lit (.bool false)], args := [d1, d2] }
  | _ => none }
def MemLentWrongFalsely : Prop := memLentRow.holds Try.pinned (OpenSpec.ofChange memLentWrong)

/-- 'commonagelaw1.MemZeroes': WHATEVER THE INPUT: true; the input reads as it did. -/
def memZeroesSpec : ChangeSpec := { name := "memZeroes", fn := fun _ => fun
  | [d1, d2] => { results := [.lit (.bool true)], args := [d1, d2] }
  | _ => none }
def memZeroesRow : OpenClaim := { program := "ytjkkfahjgaidbaa", sum := "af42ee7f15e2c6a4e5d9a837a2ac6870a937810d6847bed4236136bae1b3214c", func := "commonage/commonagelaw1.MemZeroes", spec := "memZeroes", apart := false }
def MemZeroesSaid : Prop := memZeroesRow.holds Try.pinned (OpenSpec.ofChange memZeroesSpec)

/-- ITS FALSE NEIGHBOUR: 'it returns false'. Refute it at one input. -/
def memZeroesWrong : ChangeSpec := { name := "memZeroes", fn := fun _ => fun
  | [d1, d2] => { results := [.lit (.bool false)], args := [d1, d2] }
  | _ => none }
def MemZeroesWrongFalsely : Prop := memZeroesRow.holds Try.pinned (OpenSpec.ofChange memZeroesWrong)

/-- 'commonagelaw1.MemWords': WHATEVER THE INPUT: true; the input reads as it did. -/
def memWordsSpec : ChangeSpec := { name := "memWords", fn := fun _ => fun
  | [d1, d2, d3] => { results := [.lit (.bool true)], args := [d1, d2, d3] }
  | _ => none }
def memWordsRow : OpenClaim := { program := "ytjkkfahjgaidbaa", sum := "af42ee7f15e2c6a4e5d9a837a2ac6870a937810d6847bed4236136bae1b3214c", func := "commonage/commonagelaw1.MemWords", spec := "memWords", apart := false }
def MemWordsSaid : Prop := memWordsRow.holds Try.pinned (OpenSpec.ofChange memWordsSpec)

/-- ITS FALSE NEIGHBOUR: 'it returns false'. Refute it at one input. -/
def memWordsWrong : ChangeSpec := { name := "memWords", fn := fun _ => fun
  | [d1, d2, d3] => { results := [.lit (.bool false)], args := [d1, d2, d3] }
  | _ => none }
def MemWordsWrongFalsely : Prop := memWordsRow.holds Try.pinned (OpenSpec.ofChange memWordsWrong)

/-- 'commonagelaw1.MemPlays': WHATEVER THE INPUT: true; the input reads as it did. -/
def memPlaysSpec : ChangeSpec := { name := "memPlays", fn := fun _ => fun
  | [d1, d2] => { results := [.lit (.bool true)], args := [d1, d2] }
  | _ => none }
def memPlaysRow : OpenClaim := { program := "ytjkkfahjgaidbaa", sum := "af42ee7f15e2c6a4e5d9a837a2ac6870a937810d6847bed4236136bae1b3214c", func := "commonage/commonagelaw1.MemPlays", spec := "memPlays", apart := false }
def MemPlaysSaid : Prop := memPlaysRow.holds Try.pinned (OpenSpec.ofChange memPlaysSpec)

/-- ITS FALSE NEIGHBOUR: 'it returns false'. Refute it at one input. -/
def memPlaysWrong : ChangeSpec := { name := "memPlays", fn := fun _ => fun
  | [d1, d2] => { results := [.lit (.bool false)], args := [d1, d2] }
  | _ => none }
def MemPlaysWrongFalsely : Prop := memPlaysRow.holds Try.pinned (OpenSpec.ofChange memPlaysWrong)

/-- 'commonagelaw2.TableOnce': WHATEVER THE INPUT: true; the input reads as it did. -/
def tableOnceSpec : ChangeSpec := { name := "tableOnce", fn := fun _ => fun
  | [d1, d2] => { results := [.lit (.bool true)], args := [d1, d2] }
  | _ => none }
def tableOnceRow : OpenClaim := { program := "ytjkkfahjgaidbaa", sum := "af42ee7f15e2c6a4e5d9a837a2ac6870a937810d6847bed4236136bae1b3214c", func := "commonage/commonagelaw2.TableOnce", spec := "tableOnce", apart := false }
def TableOnceSaid : Prop := tableOnceRow.holds Try.pinned (OpenSpec.ofChange tableOnceSpec)

/-- ITS FALSE NEIGHBOUR: 'it returns false'. Refute it at one input. -/
def tableOnceWrong : ChangeSpec := { name := "tableOnce", fn := fun _ => fun
  | [d1, d2] => { results := [.lit (.bool false)], args := [d1, d2] }
  | _ => none }
def TableOnceWrongFalsely : Prop := tableOnceRow.holds Try.pinned (OpenSpec.ofChange tableOnceWrong)

/-- 'commonagelaw2.TableLeast': WHATEVER THE INPUT: true; the input reads as it did. -/
def tableLeastSpec : ChangeSpec := { name := "tableLeast", fn := fun _ => fun
  | [d1, d2] => { results := [.lit (.bool true)], args := [d1, d2] }
  | _ => none }
def tableLeastRow : OpenClaim := { program := "ytjkkfahjgaidbaa", sum := "af42ee7f15e2c6a4e5d9a837a2ac6870a937810d6847bed4236136bae1b3214c", func := "commonage/commonagelaw2.TableLeast", spec := "tableLeast", apart := false }
def TableLeastSaid : Prop := tableLeastRow.holds Try.pinned (OpenSpec.ofChange tableLeastSpec)

/-- ITS FALSE NEIGHBOUR: 'it returns false'. Refute it at one input. -/
def tableLeastWrong : ChangeSpec := { name := "tableLeast", fn := fun _ => fun
  | [d1, d2] => { results := [.lit (.bool false)], args := [d1, d2] }
  | _ => none }
def TableLeastWrongFalsely : Prop := tableLeastRow.holds Try.pinned (OpenSpec.ofChange tableLeastWrong)

/-- 'commonagelaw2.TableValues': WHATEVER THE INPUT: true; the input reads as it did. -/
def tableValuesSpec : ChangeSpec := { name := "tableValues", fn := fun _ => fun
  | [d1, d2, d3, d4] => { results := [.lit (.bool true)], args := [d1, d2, d3, d4] }
  | _ => none }
def tableValuesRow : OpenClaim := { program := "ytjkkfahjgaidbaa", sum := "af42ee7f15e2c6a4e5d9a837a2ac6870a937810d6847bed4236136bae1b3214c", func := "commonage/commonagelaw2.TableValues", spec := "tableValues", unfollowed := true, recurses := true, apart := false }
def TableValuesSaid : Prop := tableValuesRow.holds Try.pinned (OpenSpec.ofChange tableValuesSpec)

/-- ITS FALSE NEIGHBOUR: 'it returns false'. Refute it at one input. -/
def tableValuesWrong : ChangeSpec := { name := "tableValues", fn := fun _ => fun
  | [d1, d2, d3, d4] => { results := [.lit (.bool false)], args := [d1, d2, d3, d4] }
  | _ => none }
def TableValuesWrongFalsely : Prop := tableValuesRow.holds Try.pinned (OpenSpec.ofChange tableValuesWrong)

/-- 'commonagelaw2.TablePlays': WHATEVER THE INPUT: true; the input reads as it did. -/
def tablePlaysSpec : ChangeSpec := { name := "tablePlays", fn := fun _ => fun
  | [d1, d2] => { results := [.lit (.bool true)], args := [d1, d2] }
  | _ => none }
def tablePlaysRow : OpenClaim := { program := "ytjkkfahjgaidbaa", sum := "af42ee7f15e2c6a4e5d9a837a2ac6870a937810d6847bed4236136bae1b3214c", func := "commonage/commonagelaw2.TablePlays", spec := "tablePlays", apart := false }
def TablePlaysSaid : Prop := tablePlaysRow.holds Try.pinned (OpenSpec.ofChange tablePlaysSpec)

/-- ITS FALSE NEIGHBOUR: 'it returns false'. Refute it at one input. -/
def tablePlaysWrong : ChangeSpec := { name := "tablePlays", fn := fun _ => fun
  | [d1, d2] => { results := [.lit (.bool false)], args := [d1, d2] }
  | _ => none }
def TablePlaysWrongFalsely : Prop := tablePlaysRow.holds Try.pinned (OpenSpec.ofChange tablePlaysWrong)

/- THE SECOND FORM. 'bulk': how many values and letters a reading holds, each counted each time it is reached (what is shared counts as often as it is met; a slice's spare places count too). A statement '..UptoSaid' is the law's where the arguments, and the package variables that the reading takes, are together of bulk at most 1048576: NARROWER than '..Said'. Prove '..Said' where nothing that the law and all that it calls make is longer than what came in: it says more and counts as full. Else prove '..UptoSaid'. A law counts once. -/
mutual
def uptoBulk {H : Type} : DataW H → Nat
  | .lit (.string bytes) => bytes.length + 1
  | .lit _ => 1
  | .nil => 1
  | .ptr d => uptoBulk d + 1
  | .slice elems spare => uptoBulkAll elems + uptoBulkAll spare + 1
  | .agg parts => uptoBulkAll parts + 1
  | .iface _ d => uptoBulk d + 1
  | .map entries => uptoBulkEntries entries + 1
  | .held _ => 1
def uptoBulkAll {H : Type} : List (DataW H) → Nat
  | [] => 0
  | d :: r => uptoBulk d + uptoBulkAll r
def uptoBulkEntries {H : Type} : List (Lit × DataW H) → Nat
  | [] => 0
  | x :: r => uptoBulkEntry x + uptoBulkEntries r
def uptoBulkEntry {H : Type} : Lit × DataW H → Nat
  | (.string bytes, d) => bytes.length + uptoBulk d + 1
  | (_, d) => uptoBulk d + 1
 end
def uptoSmall : (H : Type) → List (DataW H) → Bool := fun _ ds => decide (uptoBulkAll ds ≤ 1048576)
def OpenSpec.upto (s : _root_.Go.ChangeSpec) : _root_.Go.OpenSpec := { _root_.Go.OpenSpec.ofChange s with cond := some uptoSmall }

/-- 'commonagelaw1.MemEnds', WHERE WHAT IT READS IS OF BULK AT MOST 1048576: true; the input reads as it did. -/
def memEndsUptoRow : OpenClaim := { program := "ytjkkfahjgaidbaa", sum := "af42ee7f15e2c6a4e5d9a837a2ac6870a937810d6847bed4236136bae1b3214c", func := "commonage/commonagelaw1.MemEnds", spec := "memEnds", apart := false, narrowed := true }
def MemEndsUptoSaid : Prop := memEndsUptoRow.holds Try.pinned (OpenSpec.upto memEndsSpec)

/-- 'commonagelaw1.MemApart', WHERE WHAT IT READS IS OF BULK AT MOST 1048576: true; the input reads as it did. -/
def memApartUptoRow : OpenClaim := { program := "ytjkkfahjgaidbaa", sum := "af42ee7f15e2c6a4e5d9a837a2ac6870a937810d6847bed4236136bae1b3214c", func := "commonage/commonagelaw1.MemApart", spec := "memApart", apart := false, narrowed := true }
def MemApartUptoSaid : Prop := memApartUptoRow.holds Try.pinned (OpenSpec.upto memApartSpec)

/-- 'commonagelaw1.MemLent', WHERE WHAT IT READS IS OF BULK AT MOST 1048576: true; the input reads as it did. -/
def memLentUptoRow : OpenClaim := { program := "ytjkkfahjgaidbaa", sum := "af42ee7f15e2c6a4e5d9a837a2ac6870a937810d6847bed4236136bae1b3214c", func := "commonage/commonagelaw1.MemLent", spec := "memLent", apart := false, narrowed := true }
def MemLentUptoSaid : Prop := memLentUptoRow.holds Try.pinned (OpenSpec.upto memLentSpec)

/-- 'commonagelaw1.MemZeroes', WHERE WHAT IT READS IS OF BULK AT MOST 1048576: true; the input reads as it did. -/
def memZeroesUptoRow : OpenClaim := { program := "ytjkkfahjgaidbaa", sum := "af42ee7f15e2c6a4e5d9a837a2ac6870a937810d6847bed4236136bae1b3214c", func := "commonage/commonagelaw1.MemZeroes", spec := "memZeroes", apart := false, narrowed := true }
def MemZeroesUptoSaid : Prop := memZeroesUptoRow.holds Try.pinned (OpenSpec.upto memZeroesSpec)

/-- 'commonagelaw1.MemWords', WHERE WHAT IT READS IS OF BULK AT MOST 1048576: true; the input reads as it did. -/
def memWordsUptoRow : OpenClaim := { program := "ytjkkfahjgaidbaa", sum := "af42ee7f15e2c6a4e5d9a837a2ac6870a937810d6847bed4236136bae1b3214c", func := "commonage/commonagelaw1.MemWords", spec := "memWords", apart := false, narrowed := true }
def MemWordsUptoSaid : Prop := memWordsUptoRow.holds Try.pinned (OpenSpec.upto memWordsSpec)

/-- 'commonagelaw1.MemPlays', WHERE WHAT IT READS IS OF BULK AT MOST 1048576: true; the input reads as it did. -/
def memPlaysUptoRow : OpenClaim := { program := "ytjkkfahjgaidbaa", sum := "af42ee7f15e2c6a4e5d9a837a2ac6870a937810d6847bed4236136bae1b3214c", func := "commonage/commonagelaw1.MemPlays", spec := "memPlays", apart := false, narrowed := true }
def MemPlaysUptoSaid : Prop := memPlaysUptoRow.holds Try.pinned (OpenSpec.upto memPlaysSpec)

/-- 'commonagelaw2.TableOnce', WHERE WHAT IT READS IS OF BULK AT MOST 1048576: true; the input reads as it did. -/
def tableOnceUptoRow : OpenClaim := { program := "ytjkkfahjgaidbaa", sum := "af42ee7f15e2c6a4e5d9a837a2ac6870a937810d6847bed4236136bae1b3214c", func := "commonage/commonagelaw2.TableOnce", spec := "tableOnce", apart := false, narrowed := true }
def TableOnceUptoSaid : Prop := tableOnceUptoRow.holds Try.pinned (OpenSpec.upto tableOnceSpec)

/-- 'commonagelaw2.TableLeast', WHERE WHAT IT READS IS OF BULK AT MOST 1048576: true; the input reads as it did. -/
def tableLeastUptoRow : OpenClaim := { program := "ytjkkfahjgaidbaa", sum := "af42ee7f15e2c6a4e5d9a837a2ac6870a937810d6847bed4236136bae1b3214c", func := "commonage/commonagelaw2.TableLeast", spec := "tableLeast", apart := false, narrowed := true }
def TableLeastUptoSaid : Prop := tableLeastUptoRow.holds Try.pinned (OpenSpec.upto tableLeastSpec)

/-- 'commonagelaw2.TableValues', WHERE WHAT IT READS IS OF BULK AT MOST 1048576: true; the input reads as it did. -/
def tableValuesUptoRow : OpenClaim := { program := "ytjkkfahjgaidbaa", sum := "af42ee7f15e2c6a4e5d9a837a2ac6870a937810d6847bed4236136bae1b3214c", func := "commonage/commonagelaw2.TableValues", spec := "tableValues", unfollowed := true, recurses := true, apart := false, narrowed := true }
def TableValuesUptoSaid : Prop := tableValuesUptoRow.holds Try.pinned (OpenSpec.upto tableValuesSpec)

/-- 'commonagelaw2.TablePlays', WHERE WHAT IT READS IS OF BULK AT MOST 1048576: true; the input reads as it did. -/
def tablePlaysUptoRow : OpenClaim := { program := "ytjkkfahjgaidbaa", sum := "af42ee7f15e2c6a4e5d9a837a2ac6870a937810d6847bed4236136bae1b3214c", func := "commonage/commonagelaw2.TablePlays", spec := "tablePlays", apart := false, narrowed := true }
def TablePlaysUptoSaid : Prop := tablePlaysUptoRow.holds Try.pinned (OpenSpec.upto tablePlaysSpec)

end Rows
end Go.Proofs.Ytjkkfahjgaidbaa
