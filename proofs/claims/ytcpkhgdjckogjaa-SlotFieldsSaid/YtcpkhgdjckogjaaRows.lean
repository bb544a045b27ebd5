/-
  No cell of these rows narrows 'for every input' (looked for: loops, veiled, ifaces, maps, wideKeys, modest, calm, conditions, laid).
  DERIVED. THE GIVEN ROWS OF THIS SEAT. 11 by the template 'for every input the law returns true; each argument reads behind the call as it read before'; 0 by the template 'total and deterministic' (their statements: YtcpkhgdjckogjaaTotals.lean).
  GIVEN WITH THE SEED: the statements are not yours to turn. If you find one false, say at which input.
  Laid BY PROGRAM, IN A SANDBOX (cutbox-rows.mjs): the forced cells as the released guide's own fill.sh prints them over the translation 78fd5fba7b666568… (all of the seat's roots in one cut). By AI agents, Wed Nov 11 2026. No macro, syntax, notation, axiom, sorry.
-/
import Derived.Test.YtcpkhgdjckogjaaChecked
import GoSem.Claim
import GoSem.ClaimJoined
import GoSem.ClaimMapViews
import Derived.JoinedTies
import Derived.KernelRfl
namespace Go.Proofs.Ytcpkhgdjckogjaa
/- THE CELL 'sum', in the pinned program and in every row, IS THE sha256 OF THE DUMP (.gsa) THAT YtcpkhgdjckogjaaProg.lean LOADS. Nothing in Lean hashes anything: it is a label: what it is worth is what the hold of that sum in a sandbox is worth. -/
noncomputable def Try.pinned : Pinned := { name := "ytcpkhgdjckogjaa", sum := "78fd5fba7b6665683ce5be655f30778c037ba2ee336653053ec29d711e7ab340", checked := Try.checked }
namespace Rows
def none {H : Type} : Left H := { results := [], args := [] }

/-- 'commonagelaw13.RingWhole': WHATEVER THE INPUT: true; the input reads as it did. -/
def ringWholeSpec : ChangeSpec := { name := "ringWhole", fn := fun _ => fun
  | [d1, d2] => { results := [.lit (.bool true)], args := [d1, d2] }
  | _ => none }
def ringWholeRow : OpenClaim := { program := "ytcpkhgdjckogjaa", sum := "78fd5fba7b6665683ce5be655f30778c037ba2ee336653053ec29d711e7ab340", func := "commonage/commonagelaw13.RingWhole", spec := "ringWhole", unfollowed := true, recurses := true, apart := false }
def RingWholeSaid : Prop := ringWholeRow.holds Try.pinned (OpenSpec.ofChange ringWholeSpec)

/-- ITS FALSE NEIGHBOUR: 'it returns false'. Refute it at one input. -/
def ringWholeWrong : ChangeSpec := { name := "ringWhole", fn := fun _ => fun
  | [d1, d2] => { results := [.lit (.bool false)], args := [d1, d2] }
  | _ => none }
def RingWholeWrongFalsely : Prop := ringWholeRow.holds Try.pinned (OpenSpec.ofChange ringWholeWrong)

/-- 'commonagelaw13.RingCodes': WHATEVER THE INPUT: true; the input reads as it did. -/
def ringCodesSpec : ChangeSpec := { name := "ringCodes", fn := fun _ => fun
  | [d1, d2, d3, d4, d5, d6] => { results := [.lit (.bool true)], args := [d1, d2, d3, d4, d5, d6] }
  | _ => none }
def ringCodesRow : OpenClaim := { program := "ytcpkhgdjckogjaa", sum := "78fd5fba7b6665683ce5be655f30778c037ba2ee336653053ec29d711e7ab340", func := "commonage/commonagelaw13.RingCodes", spec := "ringCodes", unfollowed := true, recurses := true, apart := false }
def RingCodesSaid : Prop := ringCodesRow.holds Try.pinned (OpenSpec.ofChange ringCodesSpec)

/-- ITS FALSE NEIGHBOUR: 'it returns false'. Refute it at one input. -/
def ringCodesWrong : ChangeSpec := { name := "ringCodes", fn := fun _ => fun
  | [d1, d2, d3, d4, d5, d6] => { results := [.lit (.bool false)], args := [d1, d2, d3, d4, d5, d6] }
  | _ => none }
def RingCodesWrongFalsely : Prop := ringCodesRow.holds Try.pinned (OpenSpec.ofChange ringCodesWrong)

/-- 'commonagelaw13.RingPlays': WHATEVER THE INPUT: true; the input reads as it did. -/
def ringPlaysSpec : ChangeSpec := { name := "ringPlays", fn := fun _ => fun
  | [d1, d2, d3, d4] => { results := [.lit (.bool true)], args := [d1, d2, d3, d4] }
  | _ => none }
def ringPlaysRow : OpenClaim := { program := "ytcpkhgdjckogjaa", sum := "78fd5fba7b6665683ce5be655f30778c037ba2ee336653053ec29d711e7ab340", func := "commonage/commonagelaw13.RingPlays", spec := "ringPlays", unfollowed := true, recurses := true, apart := false }
def RingPlaysSaid : Prop := ringPlaysRow.holds Try.pinned (OpenSpec.ofChange ringPlaysSpec)

/-- ITS FALSE NEIGHBOUR: 'it returns false'. Refute it at one input. -/
def ringPlaysWrong : ChangeSpec := { name := "ringPlays", fn := fun _ => fun
  | [d1, d2, d3, d4] => { results := [.lit (.bool false)], args := [d1, d2, d3, d4] }
  | _ => none }
def RingPlaysWrongFalsely : Prop := ringPlaysRow.holds Try.pinned (OpenSpec.ofChange ringPlaysWrong)

/-- 'commonagelaw13.RingQueue': WHATEVER THE INPUT: true; the input reads as it did. -/
def ringQueueSpec : ChangeSpec := { name := "ringQueue", fn := fun _ => fun
  | [d1, d2, d3] => { results := [.lit (.bool true)], args := [d1, d2, d3] }
  | _ => none }
def ringQueueRow : OpenClaim := { program := "ytcpkhgdjckogjaa", sum := "78fd5fba7b6665683ce5be655f30778c037ba2ee336653053ec29d711e7ab340", func := "commonage/commonagelaw13.RingQueue", spec := "ringQueue", unfollowed := true, recurses := true, apart := false }
def RingQueueSaid : Prop := ringQueueRow.holds Try.pinned (OpenSpec.ofChange ringQueueSpec)

/-- ITS FALSE NEIGHBOUR: 'it returns false'. Refute it at one input. -/
def ringQueueWrong : ChangeSpec := { name := "ringQueue", fn := fun _ => fun
  | [d1, d2, d3] => { results := [.lit (.bool false)], args := [d1, d2, d3] }
  | _ => none }
def RingQueueWrongFalsely : Prop := ringQueueRow.holds Try.pinned (OpenSpec.ofChange ringQueueWrong)

/-- 'commonagelaw13.RingParts': WHATEVER THE INPUT: true; the input reads as it did. -/
def ringPartsSpec : ChangeSpec := { name := "ringParts", fn := fun _ => fun
  | [d1, d2, d3, d4] => { results := [.lit (.bool true)], args := [d1, d2, d3, d4] }
  | _ => none }
def ringPartsRow : OpenClaim := { program := "ytcpkhgdjckogjaa", sum := "78fd5fba7b6665683ce5be655f30778c037ba2ee336653053ec29d711e7ab340", func := "commonage/commonagelaw13.RingParts", spec := "ringParts", unfollowed := true, recurses := true, apart := false }
def RingPartsSaid : Prop := ringPartsRow.holds Try.pinned (OpenSpec.ofChange ringPartsSpec)

/-- ITS FALSE NEIGHBOUR: 'it returns false'. Refute it at one input. -/
def ringPartsWrong : ChangeSpec := { name := "ringParts", fn := fun _ => fun
  | [d1, d2, d3, d4] => { results := [.lit (.bool false)], args := [d1, d2, d3, d4] }
  | _ => none }
def RingPartsWrongFalsely : Prop := ringPartsRow.holds Try.pinned (OpenSpec.ofChange ringPartsWrong)

/-- 'commonagelaw11.SlotFields': WHATEVER THE INPUT: true; the input reads as it did. -/
def slotFieldsSpec : ChangeSpec := { name := "slotFields", fn := fun _ => fun
  | [d1, d2] => { results := [.lit (.bool true)], args := [d1, d2] }
  | _ => none }
def slotFieldsRow : OpenClaim := { program := "ytcpkhgdjckogjaa", sum := "78fd5fba7b6665683ce5be655f30778c037ba2ee336653053ec29d711e7ab340", func := "commonage/commonagelaw11.SlotFields", spec := "slotFields", unfollowed := true, recurses := true, apart := false }
def SlotFieldsSaid : Prop := slotFieldsRow.holds Try.pinned (OpenSpec.ofChange slotFieldsSpec)

/-- ITS FALSE NEIGHBOUR: 'it returns false'. Refute it at one input. -/
def slotFieldsWrong : ChangeSpec := { name := "slotFields", fn := fun _ => fun
  | [d1, d2] => { results := [.lit (.bool false)], args := [d1, d2] }
  | _ => none }
def SlotFieldsWrongFalsely : Prop := slotFieldsRow.holds Try.pinned (OpenSpec.ofChange slotFieldsWrong)

/-- 'commonagelaw11.SlotCodes': WHATEVER THE INPUT: true; the input reads as it did. -/
def slotCodesSpec : ChangeSpec := { name := "slotCodes", fn := fun _ => fun
  | [d1, d2] => { results := [.lit (.bool true)], args := [d1, d2] }
  | _ => none }
def slotCodesRow : OpenClaim := { program := "ytcpkhgdjckogjaa", sum := "78fd5fba7b6665683ce5be655f30778c037ba2ee336653053ec29d711e7ab340", func := "commonage/commonagelaw11.SlotCodes", spec := "slotCodes", unfollowed := true, recurses := true, apart := false }
def SlotCodesSaid : Prop := slotCodesRow.holds Try.pinned (OpenSpec.ofChange slotCodesSpec)

/-- ITS FALSE NEIGHBOUR: 'it returns false'. Refute it at one input. -/
def slotCodesWrong : ChangeSpec := { name := "slotCodes", fn := fun _ => fun
  | [d1, d2] => { results := [.lit (.bool false)], args := [d1, d2] }
  | _ => none }
def SlotCodesWrongFalsely : Prop := slotCodesRow.holds Try.pinned (OpenSpec.ofChange slotCodesWrong)

/-- 'commonagelaw11.SlotReads': WHATEVER THE INPUT: true; the input reads as it did. -/
def slotReadsSpec : ChangeSpec := { name := "slotReads", fn := fun _ => fun
  | [d1, d2, d3, d4, d5] => { results := [.lit (.bool true)], args := [d1, d2, d3, d4, d5] }
  | _ => none }
def slotReadsRow : OpenClaim := { program := "ytcpkhgdjckogjaa", sum := "78fd5fba7b6665683ce5be655f30778c037ba2ee336653053ec29d711e7ab340", func := "commonage/commonagelaw11.SlotReads", spec := "slotReads", unfollowed := true, recurses := true, apart := false }
def SlotReadsSaid : Prop := slotReadsRow.holds Try.pinned (OpenSpec.ofChange slotReadsSpec)

/-- ITS FALSE NEIGHBOUR: 'it returns false'. Refute it at one input. -/
def slotReadsWrong : ChangeSpec := { name := "slotReads", fn := fun _ => fun
  | [d1, d2, d3, d4, d5] => { results := [.lit (.bool false)], args := [d1, d2, d3, d4, d5] }
  | _ => none }
def SlotReadsWrongFalsely : Prop := slotReadsRow.holds Try.pinned (OpenSpec.ofChange slotReadsWrong)

/-- 'commonagelaw11.SlotOne': WHATEVER THE INPUT: true; the input reads as it did. -/
def slotOneSpec : ChangeSpec := { name := "slotOne", fn := fun _ => fun
  | [d1, d2, d3] => { results := [.lit (.bool true)], args := [d1, d2, d3] }
  | _ => none }
def slotOneRow : OpenClaim := { program := "ytcpkhgdjckogjaa", sum := "78fd5fba7b6665683ce5be655f30778c037ba2ee336653053ec29d711e7ab340", func := "commonage/commonagelaw11.SlotOne", spec := "slotOne", unfollowed := true, recurses := true, apart := false }
def SlotOneSaid : Prop := slotOneRow.holds Try.pinned (OpenSpec.ofChange slotOneSpec)

/-- ITS FALSE NEIGHBOUR: 'it returns false'. Refute it at one input. -/
def slotOneWrong : ChangeSpec := { name := "slotOne", fn := fun _ => fun
  | [d1, d2, d3] => { results := [.lit (.bool false)], args := [d1, d2, d3] }
  | _ => none }
def SlotOneWrongFalsely : Prop := slotOneRow.holds Try.pinned (OpenSpec.ofChange slotOneWrong)

/-- 'commonagelaw11.SlotByte': WHATEVER THE INPUT: true; the input reads as it did. -/
def slotByteSpec : ChangeSpec := { name := "slotByte", fn := fun _ => fun
  | [d1, d2, d3] => { results := [.lit (.bool true)], args := [d1, d2, d3] }
  | _ => none }
def slotByteRow : OpenClaim := { program := "ytcpkhgdjckogjaa", sum := "78fd5fba7b6665683ce5be655f30778c037ba2ee336653053ec29d711e7ab340", func := "commonage/commonagelaw11.SlotByte", spec := "slotByte", unfollowed := true, recurses := true, apart := false }
def SlotByteSaid : Prop := slotByteRow.holds Try.pinned (OpenSpec.ofChange slotByteSpec)

/-- ITS FALSE NEIGHBOUR: 'it returns false'. Refute it at one input. -/
def slotByteWrong : ChangeSpec := { name := "slotByte", fn := fun _ => fun
  | [d1, d2, d3] => { results := [.lit (.bool false)], args := [d1, d2, d3] }
  | _ => none }
def SlotByteWrongFalsely : Prop := slotByteRow.holds Try.pinned (OpenSpec.ofChange slotByteWrong)

/-- 'commonagelaw11.SlotCodec': WHATEVER THE INPUT: true; the input reads as it did. -/
def slotCodecSpec : ChangeSpec := { name := "slotCodec", fn := fun _ => fun
  | [d1, d2, d3] => { results := [.lit (.bool true)], args := [d1, d2, d3] }
  | _ => none }
def slotCodecRow : OpenClaim := { program := "ytcpkhgdjckogjaa", sum := "78fd5fba7b6665683ce5be655f30778c037ba2ee336653053ec29d711e7ab340", func := "commonage/commonagelaw11.SlotCodec", spec := "slotCodec", unfollowed := true, recurses := true, apart := false }
def SlotCodecSaid : Prop := slotCodecRow.holds Try.pinned (OpenSpec.ofChange slotCodecSpec)

/-- ITS FALSE NEIGHBOUR: 'it returns false'. Refute it at one input. -/
def slotCodecWrong : ChangeSpec := { name := "slotCodec", fn := fun _ => fun
  | [d1, d2, d3] => { results := [.lit (.bool false)], args := [d1, d2, d3] }
  | _ => none }
def SlotCodecWrongFalsely : Prop := slotCodecRow.holds Try.pinned (OpenSpec.ofChange slotCodecWrong)

/- THE SECOND FORM. 'bulk': how many values and letters a reading holds, each counted each time it is reached (what is shared counts as often as it is met; a slice's spare places count too). A statement '..UptoSaid' is the law's where the arguments, and the package variables that the reading takes, are together of bulk at most 1048576: NARROWER than '..Said'. Prove '..Said' where nothing that the law and all that it calls make is longer than what came in: it says more and counts as full. Else prove '..UptoSaid'. A law counts once. -/
mutual
def uptoBulk {H : Type} : DataW H → Nat
  | .lit (.string bytes) => bytes.length + 1
  | .lit _ => 1
  | .nil => 1
  | .ptr d => uptoBulk d + 1
  | .slice elems spare => uptoBulkAll elems + uptoBulkAll spare + 1
  | .agg parts => uptoBulkAll parts + 1
  | .iface _ d => uptoBulk d + 1
  | .map entries => uptoBulkEntries entries + 1
  | .held _ => 1
def uptoBulkAll {H : Type} : List (DataW H) → Nat
  | [] => 0
  | d :: r => uptoBulk d + uptoBulkAll r
def uptoBulkEntries {H : Type} : List (Lit × DataW H) → Nat
  | [] => 0
  | x :: r => uptoBulkEntry x + uptoBulkEntries r
def uptoBulkEntry {H : Type} : Lit × DataW H → Nat
  | (.string bytes, d) => bytes.length + uptoBulk d + 1
  | (_, d) => uptoBulk d + 1
 end
def uptoSmall : (H : Type) → List (DataW H) → Bool := fun _ ds => decide (uptoBulkAll ds ≤ 1048576)
def OpenSpec.upto (s : _root_.Go.ChangeSpec) : _root_.Go.OpenSpec := { _root_.Go.OpenSpec.ofChange s with cond := some uptoSmall }

/-- 'commonagelaw13.RingWhole', WHERE WHAT IT READS IS OF BULK AT MOST 1048576: true; the input reads as it did. -/
def ringWholeUptoRow : OpenClaim := { program := "ytcpkhgdjckogjaa", sum := "78fd5fba7b6665683ce5be655f30778c037ba2ee336653053ec29d711e7ab340", func := "commonage/commonagelaw13.RingWhole", spec := "ringWhole", unfollowed := true, recurses := true, apart := false, narrowed := true }
def RingWholeUptoSaid : Prop := ringWholeUptoRow.holds Try.pinned (OpenSpec.upto ringWholeSpec)

/-- 'commonagelaw13.RingCodes', WHERE WHAT IT READS IS OF BULK AT MOST 1048576: true; the input reads as it did. -/
def ringCodesUptoRow : OpenClaim := { program := "ytcpkhgdjckogjaa", sum := "78fd5fba7b6665683ce5be655f30778c037ba2ee336653053ec29d711e7ab340", func := "commonage/commonagelaw13.RingCodes", spec := "ringCodes", unfollowed := true, recurses := true, apart := false, narrowed := true }
def RingCodesUptoSaid : Prop := ringCodesUptoRow.holds Try.pinned (OpenSpec.upto ringCodesSpec)

/-- 'commonagelaw13.RingPlays', WHERE WHAT IT READS IS OF BULK AT MOST 1048576: true; the input reads as it did. -/
def ringPlaysUptoRow : OpenClaim := { program := "ytcpkhgdjckogjaa", sum := "78fd5fba7b6665683ce5be655f30778c037ba2ee336653053ec29d711e7ab340", func := "commonage/commonagelaw13.RingPlays", spec := "ringPlays", unfollowed := true, recurses := true, apart := false, narrowed := true }
def RingPlaysUptoSaid : Prop := ringPlaysUptoRow.holds Try.pinned (OpenSpec.upto ringPlaysSpec)

/-- 'commonagelaw13.RingQueue', WHERE WHAT IT READS IS OF BULK AT MOST 1048576: true; the input reads as it did. -/
def ringQueueUptoRow : OpenClaim := { program := "ytcpkhgdjckogjaa", sum := "78fd5fba7b6665683ce5be655f30778c037ba2ee336653053ec29d711e7ab340", func := "commonage/commonagelaw13.RingQueue", spec := "ringQueue", unfollowed := true, recurses := true, apart := false, narrowed := true }
def RingQueueUptoSaid : Prop := ringQueueUptoRow.holds Try.pinned (OpenSpec.upto ringQueueSpec)

/-- 'commonagelaw13.RingParts', WHERE WHAT IT READS IS OF BULK AT MOST 1048576: true; the input reads as it did. -/
def ringPartsUptoRow : OpenClaim := { program := "ytcpkhgdjckogjaa", sum := "78fd5fba7b6665683ce5be655f30778c037ba2ee336653053ec29d711e7ab340", func := "commonage/commonagelaw13.RingParts", spec := "ringParts", unfollowed := true, recurses := true, apart := false, narrowed := true }
def RingPartsUptoSaid : Prop := ringPartsUptoRow.holds Try.pinned (OpenSpec.upto ringPartsSpec)

/-- 'commonagelaw11.SlotFields', WHERE WHAT IT READS IS OF BULK AT MOST 1048576: true; the input reads as it did. -/
def slotFieldsUptoRow : OpenClaim := { program := "ytcpkhgdjckogjaa", sum := "78fd5fba7b6665683ce5be655f30778c037ba2ee336653053ec29d711e7ab340", func := "commonage/commonagelaw11.SlotFields", spec := "slotFields", unfollowed := true, recurses := true, apart := false, narrowed := true }
def SlotFieldsUptoSaid : Prop := slotFieldsUptoRow.holds Try.pinned (OpenSpec.upto slotFieldsSpec)

/-- 'commonagelaw11.SlotCodes', WHERE WHAT IT READS IS OF BULK AT MOST 1048576: true; the input reads as it did. -/
def slotCodesUptoRow : OpenClaim := { program := "ytcpkhgdjckogjaa", sum := "78fd5fba7b6665683ce5be655f30778c037ba2ee336653053ec29d711e7ab340", func := "commonage/commonagelaw11.SlotCodes", spec := "slotCodes", unfollowed := true, recurses := true, apart := false, narrowed := true }
def SlotCodesUptoSaid : Prop := slotCodesUptoRow.holds Try.pinned (OpenSpec.upto slotCodesSpec)

/-- 'commonagelaw11.SlotReads', WHERE WHAT IT READS IS OF BULK AT MOST 1048576: true; the input reads as it did. -/
def slotReadsUptoRow : OpenClaim := { program := "ytcpkhgdjckogjaa", sum := "78fd5fba7b6665683ce5be655f30778c037ba2ee336653053ec29d711e7ab340", func := "commonage/commonagelaw11.SlotReads", spec := "slotReads", unfollowed := true, recurses := true, apart := false, narrowed := true }
def SlotReadsUptoSaid : Prop := slotReadsUptoRow.holds Try.pinned (OpenSpec.upto slotReadsSpec)

/-- 'commonagelaw11.SlotOne', WHERE WHAT IT READS IS OF BULK AT MOST 1048576: true; the input reads as it did. -/
def slotOneUptoRow : OpenClaim := { program := "ytcpkhgdjckogjaa", sum := "78fd5fba7b6665683ce5be655f30778c037ba2ee336653053ec29d711e7ab340", func := "commonage/commonagelaw11.SlotOne", spec := "slotOne", unfollowed := true, recurses := true, apart := false, narrowed := true }
def SlotOneUptoSaid : Prop := slotOneUptoRow.holds Try.pinned (OpenSpec.upto slotOneSpec)

/-- 'commonagelaw11.SlotByte', WHERE WHAT IT READS IS OF BULK AT MOST 1048576: true; the input reads as it did. -/
def slotByteUptoRow : OpenClaim := { program := "ytcpkhgdjckogjaa", sum := "78fd5fba7b6665683ce5be655f30778c037ba2ee336653053ec29d711e7ab340", func := "commonage/commonagelaw11.SlotByte", spec := "slotByte", unfollowed := true, recurses := true, apart := false, narrowed := true }
def SlotByteUptoSaid : Prop := slotByteUptoRow.holds Try.pinned (OpenSpec.upto slotByteSpec)

/-- 'commonagelaw11.SlotCodec', WHERE WHAT IT READS IS OF BULK AT MOST 1048576: true; the input reads as it did. -/
def slotCodecUptoRow : OpenClaim := { program := "ytcpkhgdjckogjaa", sum := "78fd5fba7b6665683ce5be655f30778c037ba2ee336653053ec29d711e7ab340", func := "commonage/commonagelaw11.SlotCodec", spec := "slotCodec", unfollowed := true, recurses := true, apart := false, narrowed := true }
def SlotCodecUptoSaid : Prop := slotCodecUptoRow.holds Try.pinned (OpenSpec.upto slotCodecSpec)

end Rows
end Go.Proofs.Ytcpkhgdjckogjaa
