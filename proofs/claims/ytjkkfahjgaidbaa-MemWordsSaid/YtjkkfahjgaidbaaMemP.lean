/-
  Bytes that were put in, and those beside them.
-/
import Derived.Test.YtjkkfahjgaidbaaMemC
namespace Go.Proofs.Ytjkkfahjgaidbaa.Mem
open Go Go.Proofs Go.Proofs.Ytjkkfahjgaidbaa.Fx

theorem put_far {xs ys : List UInt8} {i j n : Nat} (h : i + ys.length ≤ xs.length) (hj : j + n ≤ i) : ((put xs ys i).drop j).take n = (xs.drop j).take n := by
  unfold put
  rw [List.append_assoc]
  apply List.ext_getElem?
  intro q
  rw [List.getElem?_take, List.getElem?_take]
  split
  · rw [List.getElem?_drop, List.getElem?_drop, List.getElem?_append_left (by simp; omega), List.getElem?_take, if_pos (by omega)]
  · rfl

end Go.Proofs.Ytjkkfahjgaidbaa.Mem
