/-
  No cell of these rows narrows 'for every input' (looked for: loops, veiled, ifaces, maps, wideKeys, modest, calm, conditions, laid).
  DERIVED. THE GIVEN ROWS OF THIS SEAT. 9 by the template 'for every input the law returns true; each argument reads behind the call as it read before'; 0 by the template 'total and deterministic' (their statements: YthonajikgljgmaaTotals.lean).
  GIVEN WITH THE SEED: the statements are not yours to turn. If you find one false, say at which input.
  Laid BY PROGRAM, IN A SANDBOX (cutbox-rows.mjs): the forced cells as the released guide's own fill.sh prints them over the translation e52ce83a7ef3a50e… (all of the seat's roots in one cut). By AI agents, Wed Nov 11 2026. No macro, syntax, notation, axiom, sorry.
-/
import Derived.Test.YthonajikgljgmaaChecked
import GoSem.Claim
import GoSem.ClaimJoined
import GoSem.ClaimMapViews
import Derived.JoinedTies
import Derived.KernelRfl
namespace Go.Proofs.Ythonajikgljgmaa
/- THE CELL 'sum', in the pinned program and in every row, IS THE sha256 OF THE DUMP (.gsa) THAT YthonajikgljgmaaProg.lean LOADS. Nothing in Lean hashes anything: it is a label: what it is worth is what the hold of that sum in a sandbox is worth. -/
noncomputable def Try.pinned : Pinned := { name := "ythonajikgljgmaa", sum := "e52ce83a7ef3a50ed00173fa917baa877a2d86e549aa672a0a941c28c9b6c24b", checked := Try.checked }
namespace Rows
def none {H : Type} : Left H := { results := [], args := [] }

/-- 'commonagelaw5.RegionOnly': WHATEVER THE INPUT: true; the input reads as it did. -/
def regionOnlySpec : ChangeSpec := { name := "regionOnly", fn := fun _ => fun
  | [d1, d2, d3, d4] => { results := [.lit (.bool true)], args := [d1, d2, d3, d4] }
  | _ => none }
def regionOnlyRow : OpenClaim := { program := "ythonajikgljgmaa", sum := "e52ce83a7ef3a50ed00173fa917baa877a2d86e549aa672a0a941c28c9b6c24b", func := "commonage/commonagelaw5.RegionOnly", spec := "regionOnly", unfollowed := true, recurses := true, plainKeys := false, apart := false }
def RegionOnlySaid : Prop := regionOnlyRow.holds Try.pinned (OpenSpec.ofChange regionOnlySpec)

/-- ITS FALSE NEIGHBOUR: 'it returns false'. Refute it at one input. -/
def regionOnlyWrong : ChangeSpec := { name := "regionOnly", fn := fun _ => fun
  | [d1, d2, d3, d4] => { results := [.lit (.bool false)], args := [d1, d2, d3, d4] }
  | _ => none }
def RegionOnlyWrongFalsely : Prop := regionOnlyRow.holds Try.pinned (OpenSpec.ofChange regionOnlyWrong)

/-- 'commonagelaw5.RegionCopies': WHATEVER THE INPUT: true; the input reads as it did. -/
def regionCopiesSpec : ChangeSpec := { name := "regionCopies", fn := fun _ => fun
  | [d1, d2, d3, d4, d5, d6] => { results := [.lit (.bool true)], args := [d1, d2, d3, d4, d5, d6] }
  | _ => none }
def regionCopiesRow : OpenClaim := { program := "ythonajikgljgmaa", sum := "e52ce83a7ef3a50ed00173fa917baa877a2d86e549aa672a0a941c28c9b6c24b", func := "commonage/commonagelaw5.RegionCopies", spec := "regionCopies", unfollowed := true, recurses := true, plainKeys := false, apart := false }
def RegionCopiesSaid : Prop := regionCopiesRow.holds Try.pinned (OpenSpec.ofChange regionCopiesSpec)

/-- ITS FALSE NEIGHBOUR: 'it returns false'. Refute it at one input. -/
def regionCopiesWrong : ChangeSpec := { name := "regionCopies", fn := fun _ => fun
  | [d1, d2, d3, d4, d5, d6] => { results := [.lit (.bool false)], args := [d1, d2, d3, d4, d5, d6] }
  | _ => none }
def RegionCopiesWrongFalsely : Prop := regionCopiesRow.holds Try.pinned (OpenSpec.ofChange regionCopiesWrong)

/-- 'commonagelaw5.RegionGone': WHATEVER THE INPUT: true; the input reads as it did. -/
def regionGoneSpec : ChangeSpec := { name := "regionGone", fn := fun _ => fun
  | [d1, d2] => { results := [.lit (.bool true)], args := [d1, d2] }
  | _ => none }
def regionGoneRow : OpenClaim := { program := "ythonajikgljgmaa", sum := "e52ce83a7ef3a50ed00173fa917baa877a2d86e549aa672a0a941c28c9b6c24b", func := "commonage/commonagelaw5.RegionGone", spec := "regionGone", unfollowed := true, recurses := true, plainKeys := false, apart := false }
def RegionGoneSaid : Prop := regionGoneRow.holds Try.pinned (OpenSpec.ofChange regionGoneSpec)

/-- ITS FALSE NEIGHBOUR: 'it returns false'. Refute it at one input. -/
def regionGoneWrong : ChangeSpec := { name := "regionGone", fn := fun _ => fun
  | [d1, d2] => { results := [.lit (.bool false)], args := [d1, d2] }
  | _ => none }
def RegionGoneWrongFalsely : Prop := regionGoneRow.holds Try.pinned (OpenSpec.ofChange regionGoneWrong)

/-- 'commonagelaw3.CapsParts': WHATEVER THE INPUT: true; the input reads as it did. -/
def capsPartsSpec : ChangeSpec := { name := "capsParts", fn := fun _ => fun
  | [d1, d2, d3, d4, d5] => { results := [.lit (.bool true)], args := [d1, d2, d3, d4, d5] }
  | _ => none }
def capsPartsRow : OpenClaim := { program := "ythonajikgljgmaa", sum := "e52ce83a7ef3a50ed00173fa917baa877a2d86e549aa672a0a941c28c9b6c24b", func := "commonage/commonagelaw3.CapsParts", spec := "capsParts", unfollowed := true, recurses := true, plainKeys := false, apart := false }
def CapsPartsSaid : Prop := capsPartsRow.holds Try.pinned (OpenSpec.ofChange capsPartsSpec)

/-- ITS FALSE NEIGHBOUR: 'it returns false'. Refute it at one input. -/
def capsPartsWrong : ChangeSpec := { name := "capsParts", fn := fun _ => fun
  | [d1, d2, d3, d4, d5] => { results := [.lit (.bool false)], args := [d1, d2, d3, d4, d5] }
  | _ => none }
def CapsPartsWrongFalsely : Prop := capsPartsRow.holds Try.pinned (OpenSpec.ofChange capsPartsWrong)

/-- 'commonagelaw3.CapsLess': WHATEVER THE INPUT: true; the input reads as it did. -/
def capsLessSpec : ChangeSpec := { name := "capsLess", fn := fun _ => fun
  | [d1, d2] => { results := [.lit (.bool true)], args := [d1, d2] }
  | _ => none }
def capsLessRow : OpenClaim := { program := "ythonajikgljgmaa", sum := "e52ce83a7ef3a50ed00173fa917baa877a2d86e549aa672a0a941c28c9b6c24b", func := "commonage/commonagelaw3.CapsLess", spec := "capsLess", unfollowed := true, recurses := true, plainKeys := false, apart := false }
def CapsLessSaid : Prop := capsLessRow.holds Try.pinned (OpenSpec.ofChange capsLessSpec)

/-- ITS FALSE NEIGHBOUR: 'it returns false'. Refute it at one input. -/
def capsLessWrong : ChangeSpec := { name := "capsLess", fn := fun _ => fun
  | [d1, d2] => { results := [.lit (.bool false)], args := [d1, d2] }
  | _ => none }
def CapsLessWrongFalsely : Prop := capsLessRow.holds Try.pinned (OpenSpec.ofChange capsLessWrong)

/-- 'commonagelaw3.CapsAlone': WHATEVER THE INPUT: true; the input reads as it did. -/
def capsAloneSpec : ChangeSpec := { name := "capsAlone", fn := fun _ => fun
  | [d] => { results := [.lit (.bool true)], args := [d] }
  | _ => none }
def capsAloneRow : OpenClaim := { program := "ythonajikgljgmaa", sum := "e52ce83a7ef3a50ed00173fa917baa877a2d86e549aa672a0a941c28c9b6c24b", func := "commonage/commonagelaw3.CapsAlone", spec := "capsAlone", unfollowed := true, recurses := true, plainKeys := false, apart := false }
def CapsAloneSaid : Prop := capsAloneRow.holds Try.pinned (OpenSpec.ofChange capsAloneSpec)

/-- ITS FALSE NEIGHBOUR: 'it returns false'. Refute it at one input. -/
def capsAloneWrong : ChangeSpec := { name := "capsAlone", fn := fun _ => fun
  | [d] => { results := [.lit (.bool false)], args := [d] }
  | _ => none }
def CapsAloneWrongFalsely : Prop := capsAloneRow.holds Try.pinned (OpenSpec.ofChange capsAloneWrong)

/-- 'commonagelaw3.CapsFull': WHATEVER THE INPUT: true; the input reads as it did. -/
def capsFullSpec : ChangeSpec := { name := "capsFull", fn := fun _ => fun
  | [d1, d2] => { results := [.lit (.bool true)], args := [d1, d2] }
  | _ => none }
def capsFullRow : OpenClaim := { program := "ythonajikgljgmaa", sum := "e52ce83a7ef3a50ed00173fa917baa877a2d86e549aa672a0a941c28c9b6c24b", func := "commonage/commonagelaw3.CapsFull", spec := "capsFull", unfollowed := true, recurses := true, plainKeys := false, apart := false }
def CapsFullSaid : Prop := capsFullRow.holds Try.pinned (OpenSpec.ofChange capsFullSpec)

/-- ITS FALSE NEIGHBOUR: 'it returns false'. Refute it at one input. -/
def capsFullWrong : ChangeSpec := { name := "capsFull", fn := fun _ => fun
  | [d1, d2] => { results := [.lit (.bool false)], args := [d1, d2] }
  | _ => none }
def CapsFullWrongFalsely : Prop := capsFullRow.holds Try.pinned (OpenSpec.ofChange capsFullWrong)

/-- 'commonagelaw16.AuditLinks': WHATEVER THE INPUT: true; the input reads as it did. -/
def auditLinksSpec : ChangeSpec := { name := "auditLinks", fn := fun _ => fun
  | [d1, d2] => { results := [.lit (.bool true)], args := [d1, d2] }
  | _ => none }
def auditLinksRow : OpenClaim := { program := "ythonajikgljgmaa", sum := "e52ce83a7ef3a50ed00173fa917baa877a2d86e549aa672a0a941c28c9b6c24b", func := "commonage/commonagelaw16.AuditLinks", spec := "auditLinks", unfollowed := true, recurses := true, plainKeys := false, apart := false }
def AuditLinksSaid : Prop := auditLinksRow.holds Try.pinned (OpenSpec.ofChange auditLinksSpec)

/-- ITS FALSE NEIGHBOUR: 'it returns false'. Refute it at one input. -/
def auditLinksWrong : ChangeSpec := { name := "auditLinks", fn := fun _ => fun
  | [d1, d2] => { results := [.lit (.bool false)], args := [d1, d2] }
  | _ => none }
def AuditLinksWrongFalsely : Prop := auditLinksRow.holds Try.pinned (OpenSpec.ofChange auditLinksWrong)

/-- 'commonagelaw16.AuditOne': WHATEVER THE INPUT: true; the input reads as it did. -/
def auditOneSpec : ChangeSpec := { name := "auditOne", fn := fun _ => fun
  | [d1, d2, d3] => { results := [.lit (.bool true)], args := [d1, d2, d3] }
  | _ => none }
def auditOneRow : OpenClaim := { program := "ythonajikgljgmaa", sum := "e52ce83a7ef3a50ed00173fa917baa877a2d86e549aa672a0a941c28c9b6c24b", func := "commonage/commonagelaw16.AuditOne", spec := "auditOne", unfollowed := true, recurses := true, plainKeys := false, apart := false }
def AuditOneSaid : Prop := auditOneRow.holds Try.pinned (OpenSpec.ofChange auditOneSpec)

/-- ITS FALSE NEIGHBOUR: 'it returns false'. Refute it at one input. -/
def auditOneWrong : ChangeSpec := { name := "auditOne", fn := fun _ => fun
  | [d1, d2, d3] => { results := [.lit (.bool false)], args := [d1, d2, d3] }
  | _ => none }
def AuditOneWrongFalsely : Prop := auditOneRow.holds Try.pinned (OpenSpec.ofChange auditOneWrong)

/- THE SECOND FORM. 'bulk': how many values and letters a reading holds, each counted each time it is reached (what is shared counts as often as it is met; a slice's spare places count too). A statement '..UptoSaid' is the law's where the arguments, and the package variables that the reading takes, are together of bulk at most 1048576: NARROWER than '..Said'. Prove '..Said' where nothing that the law and all that it calls make is longer than what came in: it says more and counts as full. Else prove '..UptoSaid'. A law counts once. -/
mutual
def uptoBulk {H : Type} : DataW H → Nat
  | .lit (.string bytes) => bytes.length + 1
  | .lit _ => 1
  | .nil => 1
  | .ptr d => uptoBulk d + 1
  | .slice elems spare => uptoBulkAll elems + uptoBulkAll spare + 1
  | .agg parts => uptoBulkAll parts + 1
  | .iface _ d => uptoBulk d + 1
  | .map entries => uptoBulkEntries entries + 1
  | .held _ => 1
def uptoBulkAll {H : Type} : List (DataW H) → Nat
  | [] => 0
  | d :: r => uptoBulk d + uptoBulkAll r
def uptoBulkEntries {H : Type} : List (Lit × DataW H) → Nat
  | [] => 0
  | x :: r => uptoBulkEntry x + uptoBulkEntries r
def uptoBulkEntry {H : Type} : Lit × DataW H → Nat
  | (.string bytes, d) => bytes.length + uptoBulk d + 1
  | (_, d) => uptoBulk d + 1
 end
def uptoSmall : (H : Type) → List (DataW H) → Bool := fun _ ds => decide (uptoBulkAll ds ≤ 1048576)
def OpenSpec.upto (s : _root_.Go.ChangeSpec) : _root_.Go.OpenSpec := { _root_.Go.OpenSpec.ofChange s with cond := some uptoSmall }

/-- 'commonagelaw5.RegionOnly', WHERE WHAT IT READS IS OF BULK AT MOST 1048576: true; the input reads as it did. -/
def regionOnlyUptoRow : OpenClaim := { program := "ythonajikgljgmaa", sum := "e52ce83a7ef3a50ed00173fa917baa877a2d86e549aa672a0a941c28c9b6c24b", func := "commonage/commonagelaw5.RegionOnly", spec := "regionOnly", unfollowed := true, recurses := true, plainKeys := false, apart := false, narrowed := true }
def RegionOnlyUptoSaid : Prop := regionOnlyUptoRow.holds Try.pinned (OpenSpec.upto regionOnlySpec)

/-- 'commonagelaw5.RegionCopies', WHERE WHAT IT READS IS OF BULK AT MOST 1048576: true; the input reads as it did. -/
def regionCopiesUptoRow : OpenClaim := { program := "ythonajikgljgmaa", sum := "e52ce83a7ef3a50ed00173fa917baa877a2d86e549aa672a0a941c28c9b6c24b", func := "commonage/commonagelaw5.RegionCopies", spec := "regionCopies", unfollowed := true, recurses := true, plainKeys := false, apart := false, narrowed := true }
def RegionCopiesUptoSaid : Prop := regionCopiesUptoRow.holds Try.pinned (OpenSpec.upto regionCopiesSpec)

/-- 'commonagelaw5.RegionGone', WHERE WHAT IT READS IS OF BULK AT MOST 1048576: true; the input reads as it did. -/
def regionGoneUptoRow : OpenClaim := { program := "ythonajikgljgmaa", sum := "e52ce83a7ef3a50ed00173fa917baa877a2d86e549aa672a0a941c28c9b6c24b", func := "commonage/commonagelaw5.RegionGone", spec := "regionGone", unfollowed := true, recurses := true, plainKeys := false, apart := false, narrowed := true }
def RegionGoneUptoSaid : Prop := regionGoneUptoRow.holds Try.pinned (OpenSpec.upto regionGoneSpec)

/-- 'commonagelaw3.CapsParts', WHERE WHAT IT READS IS OF BULK AT MOST 1048576: true; the input reads as it did. -/
def capsPartsUptoRow : OpenClaim := { program := "ythonajikgljgmaa", sum := "e52ce83a7ef3a50ed00173fa917baa877a2d86e549aa672a0a941c28c9b6c24b", func := "commonage/commonagelaw3.CapsParts", spec := "capsParts", unfollowed := true, recurses := true, plainKeys := false, apart := false, narrowed := true }
def CapsPartsUptoSaid : Prop := capsPartsUptoRow.holds Try.pinned (OpenSpec.upto capsPartsSpec)

/-- 'commonagelaw3.CapsLess', WHERE WHAT IT READS IS OF BULK AT MOST 1048576: true; the input reads as it did. -/
def capsLessUptoRow : OpenClaim := { program := "ythonajikgljgmaa", sum := "e52ce83a7ef3a50ed00173fa917baa877a2d86e549aa672a0a941c28c9b6c24b", func := "commonage/commonagelaw3.CapsLess", spec := "capsLess", unfollowed := true, recurses := true, plainKeys := false, apart := false, narrowed := true }
def CapsLessUptoSaid : Prop := capsLessUptoRow.holds Try.pinned (OpenSpec.upto capsLessSpec)

/-- 'commonagelaw3.CapsAlone', WHERE WHAT IT READS IS OF BULK AT MOST 1048576: true; the input reads as it did. -/
def capsAloneUptoRow : OpenClaim := { program := "ythonajikgljgmaa", sum := "e52ce83a7ef3a50ed00173fa917baa877a2d86e549aa672a0a941c28c9b6c24b", func := "commonage/commonagelaw3.CapsAlone", spec := "capsAlone", unfollowed := true, recurses := true, plainKeys := false, apart := false, narrowed := true }
def CapsAloneUptoSaid : Prop := capsAloneUptoRow.holds Try.pinned (OpenSpec.upto capsAloneSpec)

/-- 'commonagelaw3.CapsFull', WHERE WHAT IT READS IS OF BULK AT MOST 1048576: true; the input reads as it did. -/
def capsFullUptoRow : OpenClaim := { program := "ythonajikgljgmaa", sum := "e52ce83a7ef3a50ed00173fa917baa877a2d86e549aa672a0a941c28c9b6c24b", func := "commonage/commonagelaw3.CapsFull", spec := "capsFull", unfollowed := true, recurses := true, plainKeys := false, apart := false, narrowed := true }
def CapsFullUptoSaid : Prop := capsFullUptoRow.holds Try.pinned (OpenSpec.upto capsFullSpec)

/-- 'commonagelaw16.AuditLinks', WHERE WHAT IT READS IS OF BULK AT MOST 1048576: true; the input reads as it did. -/
def auditLinksUptoRow : OpenClaim := { program := "ythonajikgljgmaa", sum := "e52ce83a7ef3a50ed00173fa917baa877a2d86e549aa672a0a941c28c9b6c24b", func := "commonage/commonagelaw16.AuditLinks", spec := "auditLinks", unfollowed := true, recurses := true, plainKeys := false, apart := false, narrowed := true }
def AuditLinksUptoSaid : Prop := auditLinksUptoRow.holds Try.pinned (OpenSpec.upto auditLinksSpec)

/-- 'commonagelaw16.AuditOne', WHERE WHAT IT READS IS OF BULK AT MOST 1048576: true; the input reads as it did. -/
def auditOneUptoRow : OpenClaim := { program := "ythonajikgljgmaa", sum := "e52ce83a7ef3a50ed00173fa917baa877a2d86e549aa672a0a941c28c9b6c24b", func := "commonage/commonagelaw16.AuditOne", spec := "auditOne", unfollowed := true, recurses := true, plainKeys := false, apart := false, narrowed := true }
def AuditOneUptoSaid : Prop := auditOneUptoRow.holds Try.pinned (OpenSpec.upto auditOneSpec)

end Rows
end Go.Proofs.Ythonajikgljgmaa
