/-
  cap, an append of zeros, slices with three bounds.
-/
import Derived.Test.YthonajikgljgmaaGreatFxO
import Derived.Lib.AppendZeros
namespace Go.Proofs.YthonajikgljgmaaGreat.Fx
open Go
set_option linter.unusedVariables false

section
variable {P : Program} {E : Env} {w0 w : World} {L : List (Nat × Obj)}
variable {d : Option Nat} {ty : TypeId} {pos : String} {after : Array Edge}

theorem R_cap_slice {t elem : TypeId} {x : Operand} {a : Option Addr} {len cap : Nat} (ht : P.underlying t = some (.slice elem)) (hx : ev E x = .slice a len cap)
    : (execOp (ev E) (mk d (bi .cap #[x] #[t]) ty pos after)).run P w = .ok (.value ((.int .i64 cap))) w := by
  simp [execOp, resolve, invoke, builtin, hx, Builtin.cap_, run_underlying ht, goInt]

theorem E_appendZ {t tn e : TypeId} {i : TypeInfo} {z : Value} {k kn : IntKind} {x y : Operand} {n sz : Nat} {zs : List Value} (H : Hp w0 L w) (ht : P.underlying t = some (.slice e)) (htn : P.underlying tn = some (.int kn)) (hI0 : ∀ w, (typeInfo e).run P w = .ok i w) (hZ : i.zero = some z)
    (hz : z.cells = zs.toArray) (hzl : zs.length = sz) (hsz : i.size = sz) (hs : 0 < sz) (hx : ev E x = nilS) (hy : ev E y = .int k n) (h0 : 0 < n) (h63 : (n : Int) ≤ 9223372036854775807) (h48 : n * i.bytes ≤ 281474976710656) :
    ∃ (v : Value) (m : Nat × Obj) (w' : World), (∃ cap sp, v = sl m.1 0 n cap ∧ m.2 = blk sp e ∧ sp.length = cap * sz ∧ n ≤ cap ∧ w0.heap.size ≤ m.1) ∧ Hp w0 (m :: L) w' ∧
      (execOp (ev E) (mk d (bi .append #[x, y] #[t, tn]) ty pos after)).run P w = .ok (.value v) w' := by
  have hI := info_of_run hI0 w
  have hr := Lib.run_append_nil_zeros w t tn ty e i z k kn ht htn hI hZ n h0 (by omega) h63 h48
  have hzc : ∀ k, (Builtin.zeroCells z.cells k).toList.length = k * sz := by
    intro k; rw [hz]; simp [Builtin.zeroCells, hzl]
  have hge := grownCap_ge w n 0 e
  refine ⟨_, (w.heap.size, blk ((Builtin.zeroCells z.cells n).toList ++ (Builtin.zeroCells z.cells (grownCap w n 0 e - n)).toList) e), w.drew.alloc (blk ((Builtin.zeroCells z.cells n).toList ++ (Builtin.zeroCells z.cells (grownCap w n 0 e - n)).toList) e), ⟨grownCap w n 0 e, _, rfl, rfl, ?_, hge, H.size⟩, ?_, ?_⟩
  · rw [List.length_append, hzc, hzc, ← Nat.add_mul]; congr 1; omega
  · have := H.drew.alloc (blk ((Builtin.zeroCells z.cells n).toList ++ (Builtin.zeroCells z.cells (grownCap w n 0 e - n)).toList) e)
    exact this
  · simp only [execOp, resolve, invoke, builtin, Sem.run_bind, Sem.run_pure, Result.andThen_ok, List.map_toArray, List.map_cons, List.map_nil, hx, hy, hr]
    congr 3
    apply Array.ext'
    simp

theorem R_slice3 {t elem : TypeId} {x hi mx : Operand} {b off len cap sz : Nat} (ht : P.underlying t = some (.slice elem)) (hS : ∀ w, (sizeOf elem).run P w = .ok sz w)
    (hx : ev E x = sl b off len cap) (hhi : ev E hi = I len) (hmx : ev E mx = I len) (hlc : len ≤ cap)
    : (execOp (ev E) (mk d (.slice t x none (some hi) (some mx)) ty pos after)).run P w = .ok (.value (sl b off len len)) w := by
  have hb : (Instr.sliceBounds true len cap none (some (I len)) (some (I len))).run P w = .ok (0, len, len) w := by
    simp [Instr.sliceBounds, Instr.sliceBound, asIntOf, hlc]
  simp [execOp, hx, hhi, hmx, Instr.sliceAt, Instr.slice, run_underlying ht, hb, hS, add_none]
theorem R_slice3n {t elem : TypeId} {x hi mx : Operand} {sz : Nat} (ht : P.underlying t = some (.slice elem)) (hS : ∀ w, (sizeOf elem).run P w = .ok sz w)
    (hx : ev E x = nilS) (hhi : ev E hi = I (0 : Nat)) (hmx : ev E mx = I (0 : Nat))
    : (execOp (ev E) (mk d (.slice t x none (some hi) (some mx)) ty pos after)).run P w = .ok (.value nilS) w := by
  have hb : (Instr.sliceBounds true 0 0 none (some (I (0 : Nat))) (some (I (0 : Nat)))).run P w = .ok (0, 0, 0) w := by
    simp [Instr.sliceBounds, Instr.sliceBound, asIntOf]
  simp only [execOp, hx, hhi, hmx, Instr.sliceAt, Instr.slice, run_underlying ht, Option.map_some, Option.map_none, Sem.run_bind, Sem.run_pure, Result.andThen_ok, hb, hS]
  simp
end
end Go.Proofs.YthonajikgljgmaaGreat.Fx
