/-
  From the walk to the row: what the row's frame asks.
-/
import Derived.Test.YtlpmfldijgdcoaaGreatDoorFxM3
import Derived.Below
namespace Go.Proofs.YtlpmfldijgdcoaaGreatDoor.Fx
open Go Go.RowKit

theorem Hp.below {w w' : World} (H : Hp w [] w') : Below w.heap.size w w' :=
  ⟨H.os, H.tape, H.output, H.size, fun k hk => H.old k hk (by simp)⟩

theorem calls_of_ret {P : Program} {f : FuncId} {args : Array Value} {w : World} (h : Ret P f args w fun v w' => v = .bool true ∧ Hp w [] w') :
    Calls P f args w fun e w' => e = .returned (.bool true) ∧ Below w.heap.size w w' :=
  Calls.mono h.out (by rintro e w' ⟨v, rfl, rfl, H⟩; exact ⟨rfl, H.below⟩)

theorem spot_of_cell {w : World} {x : Addr} {v : Value} (h : w.cell? x = some v) : x = ⟨x.block, x.off, none⟩ := by
  cases x with
  | mk b o s =>
    cases s with
    | none => rfl
    | some s =>
      unfold World.cell? at h
      split at h
      · simp at h
      · cases h

/-- a slice of integers that came in -/
theorem rds_of_row {k : IntKind} {w : World} {a : Option Addr} {len cap : Nat} {zs : List Int}
    (h : (a = none ∧ len = 0 ∧ cap = 0 ∧ zs = []) ∨
      ∃ x, a = some x ∧ len ≤ cap ∧ cap ≤ maxLen ∧ zs.length = cap ∧ (∀ i, i < zs.length → w.cell? (x.add i) = some (.int k (zs.getD i 0))) ∧ ∀ n ∈ zs, (Lit.int k n).wf = true) :
    ∃ xs : List Int, xs.length = len ∧ len ≤ 9223372036854775807 ∧ RdS w (.slice a len cap) (xs.map (Value.int k)) ∧ ∀ n ∈ xs, (Lit.int k n).wf = true := by
  rcases h with ⟨rfl, rfl, rfl, rfl⟩ | ⟨x, rfl, hl, hm, hz, hc, hw⟩
  · exact ⟨[], rfl, by omega, RdS.nil, fun n h => nomatch h⟩
  · refine ⟨zs.take len, by simp; omega, by unfold maxLen at hm; omega, ?_, fun n hn => hw n (List.mem_of_mem_take hn)⟩
    have e1 : ((zs.take len).map (Value.int k)).length = len := by simp; omega
    refine ⟨some x, cap, by rw [e1], by rw [e1]; exact hl, ?_⟩
    rcases Nat.eq_zero_or_pos len with rfl | hpos
    · exact .inl (by simp)
    · refine .inr ⟨x.block, x.off, ?_, fun j u hj => ?_⟩
      · have h0 := hc 0 (by omega)
        have hx : x.add 0 = x := by simp [Addr.add]
        rw [hx] at h0
        exact congrArg some (spot_of_cell h0)
      · rw [List.getElem?_map, List.getElem?_take] at hj
        split at hj
        · rename_i hjl
          rw [List.getElem?_eq_getElem (by omega)] at hj
          simp only [Option.map_some, Option.some.injEq] at hj
          have hcj := hc j (by omega)
          have h0 := hc 0 (by omega)
          have hx : x.add 0 = x := by simp [Addr.add]
          rw [hx] at h0
          rw [spot_of_cell h0, add_none] at hcj
          rw [hcj, ← hj]
          simp [List.getD_eq_getElem?_getD, List.getElem?_eq_getElem (show j < zs.length by omega)]
        · simp at hj

end Go.Proofs.YtlpmfldijgdcoaaGreatDoor.Fx
