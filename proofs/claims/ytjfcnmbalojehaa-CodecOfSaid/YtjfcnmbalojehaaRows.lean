/-
  No cell of these rows narrows 'for every input' (looked for: loops, veiled, ifaces, maps, wideKeys, modest, calm, conditions, laid).
  DERIVED. THE GIVEN ROWS OF THIS SEAT. 11 by the template 'for every input the law returns true; each argument reads behind the call as it read before'; 0 by the template 'total and deterministic' (their statements: YtjfcnmbalojehaaTotals.lean).
  GIVEN WITH THE SEED: the statements are not yours to turn. If you find one false, say at which input.
  Laid BY PROGRAM, IN A SANDBOX (cutbox-rows.mjs): the forced cells as the released guide's own fill.sh prints them over the translation 631956d131260913… (all of the seat's roots in one cut). By AI agents, Wed Nov 11 2026. No macro, syntax, notation, axiom, sorry.
-/
import Derived.Test.YtjfcnmbalojehaaChecked
import GoSem.Claim
import GoSem.ClaimJoined
import GoSem.ClaimMapViews
import Derived.JoinedTies
import Derived.KernelRfl
namespace Go.Proofs.Ytjfcnmbalojehaa
/- THE CELL 'sum', in the pinned program and in every row, IS THE sha256 OF THE DUMP (.gsa) THAT YtjfcnmbalojehaaProg.lean LOADS. Nothing in Lean hashes anything: it is a label: what it is worth is what the hold of that sum in a sandbox is worth. -/
noncomputable def Try.pinned : Pinned := { name := "ytjfcnmbalojehaa", sum := "631956d131260913be1d61a40d4696c11e6ce8ae1cfec5484305eff5655b2baf", checked := Try.checked }
namespace Rows
def none {H : Type} : Left H := { results := [], args := [] }

/-- 'commonagelaw9.BellNone': WHATEVER THE INPUT: true; the input reads as it did. -/
def bellNoneSpec : ChangeSpec := { name := "bellNone", fn := fun _ => fun
  | [d1, d2] => { results := [.lit (.bool true)], args := [d1, d2] }
  | _ => none }
def bellNoneRow : OpenClaim := { program := "ytjfcnmbalojehaa", sum := "631956d131260913be1d61a40d4696c11e6ce8ae1cfec5484305eff5655b2baf", func := "commonage/commonagelaw9.BellNone", spec := "bellNone", apart := false }
def BellNoneSaid : Prop := bellNoneRow.holds Try.pinned (OpenSpec.ofChange bellNoneSpec)

/-- ITS FALSE NEIGHBOUR: 'it returns false'. Refute it at one input. -/
def bellNoneWrong : ChangeSpec := { name := "bellNone", fn := fun _ => fun
  | [d1, d2] => { results := [.lit (.bool false)], args := [d1, d2] }
  | _ => none }
def BellNoneWrongFalsely : Prop := bellNoneRow.holds Try.pinned (OpenSpec.ofChange bellNoneWrong)

/-- 'commonagelaw9.BellPlays': WHATEVER THE INPUT: true; the input reads as it did. -/
def bellPlaysSpec : ChangeSpec := { name := "bellPlays", fn := fun _ => fun
  | [d1, d2, d3] => { results := [.lit (.bool true)], args := [d1, d2, d3] }
  | _ => none }
def bellPlaysRow : OpenClaim := { program := "ytjfcnmbalojehaa", sum := "631956d131260913be1d61a40d4696c11e6ce8ae1cfec5484305eff5655b2baf", func := "commonage/commonagelaw9.BellPlays", spec := "bellPlays", apart := false }
def BellPlaysSaid : Prop := bellPlaysRow.holds Try.pinned (OpenSpec.ofChange bellPlaysSpec)

/-- ITS FALSE NEIGHBOUR: 'it returns false'. Refute it at one input. -/
def bellPlaysWrong : ChangeSpec := { name := "bellPlays", fn := fun _ => fun
  | [d1, d2, d3] => { results := [.lit (.bool false)], args := [d1, d2, d3] }
  | _ => none }
def BellPlaysWrongFalsely : Prop := bellPlaysRow.holds Try.pinned (OpenSpec.ofChange bellPlaysWrong)

/-- 'commonagelaw9.BellOrder': WHATEVER THE INPUT: true; the input reads as it did. -/
def bellOrderSpec : ChangeSpec := { name := "bellOrder", fn := fun _ => fun
  | [d1, d2] => { results := [.lit (.bool true)], args := [d1, d2] }
  | _ => none }
def bellOrderRow : OpenClaim := { program := "ytjfcnmbalojehaa", sum := "631956d131260913be1d61a40d4696c11e6ce8ae1cfec5484305eff5655b2baf", func := "commonage/commonagelaw9.BellOrder", spec := "bellOrder", apart := false }
def BellOrderSaid : Prop := bellOrderRow.holds Try.pinned (OpenSpec.ofChange bellOrderSpec)

/-- ITS FALSE NEIGHBOUR: 'it returns false'. Refute it at one input. -/
def bellOrderWrong : ChangeSpec := { name := "bellOrder", fn := fun _ => fun
  | [d1, d2] => { results := [.lit (.bool false)], args := [d1, d2] }
  | _ => none }
def BellOrderWrongFalsely : Prop := bellOrderRow.holds Try.pinned (OpenSpec.ofChange bellOrderWrong)

/-- 'commonagelaw10.CodecSums': WHATEVER THE INPUT: true; the input reads as it did. -/
def codecSumsSpec : ChangeSpec := { name := "codecSums", fn := fun _ => fun
  | [d1, d2, d3] => { results := [.lit (.bool true)], args := [d1, d2, d3] }
  | _ => none }
def codecSumsRow : OpenClaim := { program := "ytjfcnmbalojehaa", sum := "631956d131260913be1d61a40d4696c11e6ce8ae1cfec5484305eff5655b2baf", func := "commonage/commonagelaw10.CodecSums", spec := "codecSums", unfollowed := true, recurses := true, apart := false }
def CodecSumsSaid : Prop := codecSumsRow.holds Try.pinned (OpenSpec.ofChange codecSumsSpec)

/-- ITS FALSE NEIGHBOUR: 'it returns false'. Refute it at one input. -/
def codecSumsWrong : ChangeSpec := { name := "codecSums", fn := fun _ => fun
  | [d1, d2, d3] => { results := [.lit (.bool false)], args := [d1, d2, d3] }
  | _ => none }
def CodecSumsWrongFalsely : Prop := codecSumsRow.holds Try.pinned (OpenSpec.ofChange codecSumsWrong)

/-- 'commonagelaw10.CodecBytes': WHATEVER THE INPUT: true; the input reads as it did. -/
def codecBytesSpec : ChangeSpec := { name := "codecBytes", fn := fun _ => fun
  | [d1, d2, d3] => { results := [.lit (.bool true)], args := [d1, d2, d3] }
  | _ => none }
def codecBytesRow : OpenClaim := { program := "ytjfcnmbalojehaa", sum := "631956d131260913be1d61a40d4696c11e6ce8ae1cfec5484305eff5655b2baf", func := "commonage/commonagelaw10.CodecBytes", spec := "codecBytes", unfollowed := true, recurses := true, apart := false }
def CodecBytesSaid : Prop := codecBytesRow.holds Try.pinned (OpenSpec.ofChange codecBytesSpec)

/-- ITS FALSE NEIGHBOUR: 'it returns false'. Refute it at one input. -/
def codecBytesWrong : ChangeSpec := { name := "codecBytes", fn := fun _ => fun
  | [d1, d2, d3] => { results := [.lit (.bool false)], args := [d1, d2, d3] }
  | _ => none }
def CodecBytesWrongFalsely : Prop := codecBytesRow.holds Try.pinned (OpenSpec.ofChange codecBytesWrong)

/-- 'commonagelaw10.CodecLent': WHATEVER THE INPUT: true; the input reads as it did. -/
def codecLentSpec : ChangeSpec := { name := "codecLent", fn := fun _ => fun
  | [d] => { results := [.lit (.bool true)], args := [d] }
  | _ => none }
def codecLentRow : OpenClaim := { program := "ytjfcnmbalojehaa", sum := "631956d131260913be1d61a40d4696c11e6ce8ae1cfec5484305eff5655b2baf", func := "commonage/commonagelaw10.CodecLent", spec := "codecLent", unfollowed := true, recurses := true, apart := false }
def CodecLentSaid : Prop := codecLentRow.holds Try.pinned (OpenSpec.ofChange codecLentSpec)

/-- ITS FALSE NEIGHBOUR: 'it returns false'. Refute it at one input. -/
def codecLentWrong : ChangeSpec := { name := "codecLent", fn := fun _ => fun
  | [d] => { results := [.lit (.bool false)], args := [d] }
  | _ => none }
def CodecLentWrongFalsely : Prop := codecLentRow.holds Try.pinned (OpenSpec.ofChange codecLentWrong)

/-- 'commonagelaw10.CodecNone': WHATEVER THE INPUT: true; the input reads as it did. -/
def codecNoneSpec : ChangeSpec := { name := "codecNone", fn := fun _ => fun
  | [d1, d2, d3] => { results := [.lit (.bool true)], args := [d1, d2, d3] }
  | _ => none }
def codecNoneRow : OpenClaim := { program := "ytjfcnmbalojehaa", sum := "631956d131260913be1d61a40d4696c11e6ce8ae1cfec5484305eff5655b2baf", func := "commonage/commonagelaw10.CodecNone", spec := "codecNone", unfollowed := true, recurses := true, apart := false }
def CodecNoneSaid : Prop := codecNoneRow.holds Try.pinned (OpenSpec.ofChange codecNoneSpec)

/-- ITS FALSE NEIGHBOUR: 'it returns false'. Refute it at one input. -/
def codecNoneWrong : ChangeSpec := { name := "codecNone", fn := fun _ => fun
  | [d1, d2, d3] => { results := [.lit (.bool false)], args := [d1, d2, d3] }
  | _ => none }
def CodecNoneWrongFalsely : Prop := codecNoneRow.holds Try.pinned (OpenSpec.ofChange codecNoneWrong)

/-- 'commonagelaw10.CodecOf': WHATEVER THE INPUT: true; the input reads as it did. -/
def codecOfSpec : ChangeSpec := { name := "codecOf", fn := fun _ => fun
  | [d1, d2, d3, d4] => { results := [.lit (.bool true)], args := [d1, d2, d3, d4] }
  | _ => none }
def codecOfRow : OpenClaim := { program := "ytjfcnmbalojehaa", sum := "631956d131260913be1d61a40d4696c11e6ce8ae1cfec5484305eff5655b2baf", func := "commonage/commonagelaw10.CodecOf", spec := "codecOf", unfollowed := true, recurses := true, apart := false }
def CodecOfSaid : Prop := codecOfRow.holds Try.pinned (OpenSpec.ofChange codecOfSpec)

/-- ITS FALSE NEIGHBOUR: 'it returns false'. Refute it at one input. -/
def codecOfWrong : ChangeSpec := { name := "codecOf", fn := fun _ => fun
  | [d1, d2, d3, d4] => { results := [.lit (.bool false)], args := [d1, d2, d3, d4] }
  | _ => none }
def CodecOfWrongFalsely : Prop := codecOfRow.holds Try.pinned (OpenSpec.ofChange codecOfWrong)

/-- 'commonagelaw4.QuotaApart': WHATEVER THE INPUT: true; the input reads as it did. -/
def quotaApartSpec : ChangeSpec := { name := "quotaApart", fn := fun _ => fun
  | [d1, d2, d3, d4] => { results := [.lit (.bool true)], args := [d1, d2, d3, d4] }
  | _ => none }
def quotaApartRow : OpenClaim := { program := "ytjfcnmbalojehaa", sum := "631956d131260913be1d61a40d4696c11e6ce8ae1cfec5484305eff5655b2baf", func := "commonage/commonagelaw4.QuotaApart", spec := "quotaApart", apart := false }
def QuotaApartSaid : Prop := quotaApartRow.holds Try.pinned (OpenSpec.ofChange quotaApartSpec)

/-- ITS FALSE NEIGHBOUR: 'it returns false'. Refute it at one input. -/
def quotaApartWrong : ChangeSpec := { name := "quotaApart", fn := fun _ => fun
  | [d1, d2, d3, d4] => { results := [.lit (.bool false)], args := [d1, d2, d3, d4] }
  | _ => none }
def QuotaApartWrongFalsely : Prop := quotaApartRow.holds Try.pinned (OpenSpec.ofChange quotaApartWrong)

/-- 'commonagelaw4.QuotaPlays': WHATEVER THE INPUT: true; the input reads as it did. -/
def quotaPlaysSpec : ChangeSpec := { name := "quotaPlays", fn := fun _ => fun
  | [d1, d2] => { results := [.lit (.bool true)], args := [d1, d2] }
  | _ => none }
def quotaPlaysRow : OpenClaim := { program := "ytjfcnmbalojehaa", sum := "631956d131260913be1d61a40d4696c11e6ce8ae1cfec5484305eff5655b2baf", func := "commonage/commonagelaw4.QuotaPlays", spec := "quotaPlays", apart := false }
def QuotaPlaysSaid : Prop := quotaPlaysRow.holds Try.pinned (OpenSpec.ofChange quotaPlaysSpec)

/-- ITS FALSE NEIGHBOUR: 'it returns false'. Refute it at one input. -/
def quotaPlaysWrong : ChangeSpec := { name := "quotaPlays", fn := fun _ => fun
  | [d1, d2] => { results := [.lit (.bool false)], args := [d1, d2] }
  | _ => none }
def QuotaPlaysWrongFalsely : Prop := quotaPlaysRow.holds Try.pinned (OpenSpec.ofChange quotaPlaysWrong)

/-- 'commonagelaw4.QuotaAlone': WHATEVER THE INPUT: true; the input reads as it did. -/
def quotaAloneSpec : ChangeSpec := { name := "quotaAlone", fn := fun _ => fun
  | [d1, d2] => { results := [.lit (.bool true)], args := [d1, d2] }
  | _ => none }
def quotaAloneRow : OpenClaim := { program := "ytjfcnmbalojehaa", sum := "631956d131260913be1d61a40d4696c11e6ce8ae1cfec5484305eff5655b2baf", func := "commonage/commonagelaw4.QuotaAlone", spec := "quotaAlone", apart := false }
def QuotaAloneSaid : Prop := quotaAloneRow.holds Try.pinned (OpenSpec.ofChange quotaAloneSpec)

/-- ITS FALSE NEIGHBOUR: 'it returns false'. Refute it at one input. -/
def quotaAloneWrong : ChangeSpec := { name := "quotaAlone", fn := fun _ => fun
  | [d1, d2] => { results := [.lit (.bool false)], args := [d1, d2] }
  | _ => none }
def QuotaAloneWrongFalsely : Prop := quotaAloneRow.holds Try.pinned (OpenSpec.ofChange quotaAloneWrong)

/- THE SECOND FORM. 'bulk': how many values and letters a reading holds, each counted each time it is reached (what is shared counts as often as it is met; a slice's spare places count too). A statement '..UptoSaid' is the law's where the arguments, and the package variables that the reading takes, are together of bulk at most 1048576: NARROWER than '..Said'. Prove '..Said' where nothing that the law and all that it calls make is longer than what came in: it says more and counts as full. Else prove '..UptoSaid'. A law counts once. -/
mutual
def uptoBulk {H : Type} : DataW H → Nat
  | .lit (.string bytes) => bytes.length + 1
  | .lit _ => 1
  | .nil => 1
  | .ptr d => uptoBulk d + 1
  | .slice elems spare => uptoBulkAll elems + uptoBulkAll spare + 1
  | .agg parts => uptoBulkAll parts + 1
  | .iface _ d => uptoBulk d + 1
  | .map entries => uptoBulkEntries entries + 1
  | .held _ => 1
def uptoBulkAll {H : Type} : List (DataW H) → Nat
  | [] => 0
  | d :: r => uptoBulk d + uptoBulkAll r
def uptoBulkEntries {H : Type} : List (Lit × DataW H) → Nat
  | [] => 0
  | x :: r => uptoBulkEntry x + uptoBulkEntries r
def uptoBulkEntry {H : Type} : Lit × DataW H → Nat
  | (.string bytes, d) => bytes.length + uptoBulk d + 1
  | (_, d) => uptoBulk d + 1
 end
def uptoSmall : (H : Type) → List (DataW H) → Bool := fun _ ds => decide (uptoBulkAll ds ≤ 1048576)
def OpenSpec.upto (s : _root_.Go.ChangeSpec) : _root_.Go.OpenSpec := { _root_.Go.OpenSpec.ofChange s with cond := some uptoSmall }

/-- 'commonagelaw9.BellNone', WHERE WHAT IT READS IS OF BULK AT MOST 1048576: true; the input reads as it did. -/
def bellNoneUptoRow : OpenClaim := { program := "ytjfcnmbalojehaa", sum := "631956d131260913be1d61a40d4696c11e6ce8ae1cfec5484305eff5655b2baf", func := "commonage/commonagelaw9.BellNone", spec := "bellNone", apart := false, narrowed := true }
def BellNoneUptoSaid : Prop := bellNoneUptoRow.holds Try.pinned (OpenSpec.upto bellNoneSpec)

/-- 'commonagelaw9.BellPlays', WHERE WHAT IT READS IS OF BULK AT MOST 1048576: true; the input reads as it did. -/
def bellPlaysUptoRow : OpenClaim := { program := "ytjfcnmbalojehaa", sum := "631956d131260913be1d61a40d4696c11e6ce8ae1cfec5484305eff5655b2baf", func := "commonage/commonagelaw9.BellPlays", spec := "bellPlays", apart := false, narrowed := true }
def BellPlaysUptoSaid : Prop := bellPlaysUptoRow.holds Try.pinned (OpenSpec.upto bellPlaysSpec)

/-- 'commonagelaw9.BellOrder', WHERE WHAT IT READS IS OF BULK AT MOST 1048576: true; the input reads as it did. -/
def bellOrderUptoRow : OpenClaim := { program := "ytjfcnmbalojehaa", sum := "631956d131260913be1d61a40d4696c11e6ce8ae1cfec5484305eff5655b2baf", func := "commonage/commonagelaw9.BellOrder", spec := "bellOrder", apart := false, narrowed := true }
def BellOrderUptoSaid : Prop := bellOrderUptoRow.holds Try.pinned (OpenSpec.upto bellOrderSpec)

/-- 'commonagelaw10.CodecSums', WHERE WHAT IT READS IS OF BULK AT MOST 1048576: true; the input reads as it did. -/
def codecSumsUptoRow : OpenClaim := { program := "ytjfcnmbalojehaa", sum := "631956d131260913be1d61a40d4696c11e6ce8ae1cfec5484305eff5655b2baf", func := "commonage/commonagelaw10.CodecSums", spec := "codecSums", unfollowed := true, recurses := true, apart := false, narrowed := true }
def CodecSumsUptoSaid : Prop := codecSumsUptoRow.holds Try.pinned (OpenSpec.upto codecSumsSpec)

/-- 'commonagelaw10.CodecBytes', WHERE WHAT IT READS IS OF BULK AT MOST 1048576: true; the input reads as it did. -/
def codecBytesUptoRow : OpenClaim := { program := "ytjfcnmbalojehaa", sum := "631956d131260913be1d61a40d4696c11e6ce8ae1cfec5484305eff5655b2baf", func := "commonage/commonagelaw10.CodecBytes", spec := "codecBytes", unfollowed := true, recurses := true, apart := false, narrowed := true }
def CodecBytesUptoSaid : Prop := codecBytesUptoRow.holds Try.pinned (OpenSpec.upto codecBytesSpec)

/-- 'commonagelaw10.CodecLent', WHERE WHAT IT READS IS OF BULK AT MOST 1048576: true; the input reads as it did. -/
def codecLentUptoRow : OpenClaim := { program := "ytjfcnmbalojehaa", sum := "631956d131260913be1d61a40d4696c11e6ce8ae1cfec5484305eff5655b2baf", func := "commonage/commonagelaw10.CodecLent", spec := "codecLent", unfollowed := true, recurses := true, apart := false, narrowed := true }
def CodecLentUptoSaid : Prop := codecLentUptoRow.holds Try.pinned (OpenSpec.upto codecLentSpec)

/-- 'commonagelaw10.CodecNone', WHERE WHAT IT READS IS OF BULK AT MOST 1048576: true; the input reads as it did. -/
def codecNoneUptoRow : OpenClaim := { program := "ytjfcnmbalojehaa", sum := "631956d131260913be1d61a40d4696c11e6ce8ae1cfec5484305eff5655b2baf", func := "commonage/commonagelaw10.CodecNone", spec := "codecNone", unfollowed := true, recurses := true, apart := false, narrowed := true }
def CodecNoneUptoSaid : Prop := codecNoneUptoRow.holds Try.pinned (OpenSpec.upto codecNoneSpec)

/-- 'commonagelaw10.CodecOf', WHERE WHAT IT READS IS OF BULK AT MOST 1048576: true; the input reads as it did. -/
def codecOfUptoRow : OpenClaim := { program := "ytjfcnmbalojehaa", sum := "631956d131260913be1d61a40d4696c11e6ce8ae1cfec5484305eff5655b2baf", func := "commonage/commonagelaw10.CodecOf", spec := "codecOf", unfollowed := true, recurses := true, apart := false, narrowed := true }
def CodecOfUptoSaid : Prop := codecOfUptoRow.holds Try.pinned (OpenSpec.upto codecOfSpec)

/-- 'commonagelaw4.QuotaApart', WHERE WHAT IT READS IS OF BULK AT MOST 1048576: true; the input reads as it did. -/
def quotaApartUptoRow : OpenClaim := { program := "ytjfcnmbalojehaa", sum := "631956d131260913be1d61a40d4696c11e6ce8ae1cfec5484305eff5655b2baf", func := "commonage/commonagelaw4.QuotaApart", spec := "quotaApart", apart := false, narrowed := true }
def QuotaApartUptoSaid : Prop := quotaApartUptoRow.holds Try.pinned (OpenSpec.upto quotaApartSpec)

/-- 'commonagelaw4.QuotaPlays', WHERE WHAT IT READS IS OF BULK AT MOST 1048576: true; the input reads as it did. -/
def quotaPlaysUptoRow : OpenClaim := { program := "ytjfcnmbalojehaa", sum := "631956d131260913be1d61a40d4696c11e6ce8ae1cfec5484305eff5655b2baf", func := "commonage/commonagelaw4.QuotaPlays", spec := "quotaPlays", apart := false, narrowed := true }
def QuotaPlaysUptoSaid : Prop := quotaPlaysUptoRow.holds Try.pinned (OpenSpec.upto quotaPlaysSpec)

/-- 'commonagelaw4.QuotaAlone', WHERE WHAT IT READS IS OF BULK AT MOST 1048576: true; the input reads as it did. -/
def quotaAloneUptoRow : OpenClaim := { program := "ytjfcnmbalojehaa", sum := "631956d131260913be1d61a40d4696c11e6ce8ae1cfec5484305eff5655b2baf", func := "commonage/commonagelaw4.QuotaAlone", spec := "quotaAlone", apart := false, narrowed := true }
def QuotaAloneUptoSaid : Prop := quotaAloneUptoRow.holds Try.pinned (OpenSpec.upto quotaAloneSpec)

end Rows
end Go.Proofs.Ytjfcnmbalojehaa
