/-
  Cells that move within their own block: an append in place, a clear, a cut with both bounds and a capacity.
-/
import Derived.Test.YthonajikgljgmaaGreatFxU
namespace Go.Proofs.YthonajikgljgmaaGreat.Fx
open Go

section
variable {P : Program} {E : Env} {w0 w : World} {L : List (Nat × Obj)}
variable {d : Option Nat} {ty : TypeId} {pos : String} {after : Array Edge}

theorem R_slice3lo {t elem : TypeId} {x lo hi mx : Operand} {b off len cap i j sz : Nat} (ht : P.underlying t = some (.slice elem)) (hS : ∀ w, (sizeOf elem).run P w = .ok sz w)
    (hx : ev E x = sl b off len cap) (hlo : ev E lo = I i) (hhi : ev E hi = I j) (hmx : ev E mx = I len) (hij : i ≤ j) (hj : j ≤ len) (hi' : i < len) (hlc : len ≤ cap)
    : (execOp (ev E) (mk d (.slice t x (some lo) (some hi) (some mx)) ty pos after)).run P w = .ok (.value (sl b (off + i * sz) (j - i) (len - i))) w := by
  have hb : (Instr.sliceBounds true len cap (some (I i)) (some (I j)) (some (I len))).run P w = .ok (i, j, len) w := by
    simp [Instr.sliceBounds, Instr.sliceBound, asIntOf, hlc, hij, hj]
  have hne : ¬ len = i := by omega
  simp [execOp, hx, hhi, hlo, hmx, Instr.sliceAt, Instr.slice, run_underlying ht, hb, hS, hne, Addr.add]

theorem E_appendIn {t tx e : TypeId} {b off len cap m : Nat} {c : List Value} {u : Value} {news : List Value} {i : TypeInfo} {f} {x y : Operand} (H : Hp w0 L w) (hL : At L b (blk c e) f)
    (ht : P.underlying t = some (.slice e)) (hI0 : ∀ w, (typeInfo e).run P w = .ok i w) (hsz : i.size = 1)
    (hx : ev E x = sl b off len cap) (hy : ev E y = u) (hs : Src P 1 tx u m news w) (hroom : len + m ≤ cap) (hcap : off + cap ≤ c.length) :
    ∃ (_q : Nat) (w' : World), True ∧ Hp w0 (f (blk (c.take (off + len) ++ news ++ c.drop (off + len + news.length)) e)) w' ∧ (execOp (ev E) (mk d (bi .append #[x, y] #[t, tx]) ty pos after)).run P w = .ok (.value (sl b off (len + m) cap)) w' := by
  have hI : P.info? e = some i := info_of_run hI0 w
  have hnm : news.length = m := by have := hs.newsLen; simpa using this
  have hexec : (execOp (ev E) (mk d (bi .append #[x, y] #[t, tx]) ty pos after)).run P w = ((Builtin.append_ #[t, tx] ty #[sl b off len cap, u]).run P w).andThen fun a w' => .ok (.value a) w' := by
    subst hy
    simp [execOp, resolve, invoke, builtin, hx]
  rw [hexec]
  have hst := run_storeCells_at P b (off + len) e news 0 c.toArray w (H.get hL) (by simp; omega) hs.one
  simp only [Nat.add_zero] at hst
  have hrun : (Builtin.append_ #[t, tx] ty #[sl b off len cap, u]).run P w = .ok (sl b off (len + m) cap) (w.setRow b (c.take (off + len) ++ news ++ c.drop (off + len + news.length)).toArray) := by
    rw [← hsz] at hs
    have h1 : len * i.size = len := by rw [hsz]; simp
    rcases hs.kind with ⟨e', hk⟩ | hk <;> simp [Builtin.append_, run_underlying ht, run_underlying hk, sizeOf, typeInfo, hI, hs.len, hroom, hs.cells, add_none, h1, hst]
  exact ⟨0, _, trivial, H.setRow hL, by rw [hrun]; rfl⟩

theorem E_clear1 {t e : TypeId} {b off cap : Nat} {c : List Value} {z : Value} {f} {x : Operand} (H : Hp w0 L w) (hL : At L b (blk c e) f)
    (ht : P.underlying t = some (.slice e)) (hZ : ∀ w, (zeroValue e).run P w = .ok z w) (hz : z.cells = #[z]) (h1 : z.oneCell' = true)
    (hx : ev E x = sl b off 1 cap) (hcap : off < c.length) :
    ∃ (_q : Nat) (w' : World), True ∧ Hp w0 (f (blk (c.take off ++ [z] ++ c.drop (off + 1)) e)) w' ∧ (execOp (ev E) (mk d (bi .clear #[x] #[t]) ty pos after)).run P w = .ok (.value (.tuple #[])) w' := by
  have hst := run_storeCells_at P b off e [z] 0 c.toArray w (H.get hL) (by simp; omega) (by simpa using h1)
  simp only [Nat.add_zero] at hst
  have hzc : (Builtin.zeroCells #[z] 1).toList = [z] := by simp [Builtin.zeroCells]
  refine ⟨0, _, trivial, H.setRow hL (c' := c.take off ++ [z] ++ c.drop (off + 1)), ?_⟩
  simp [execOp, resolve, invoke, builtin, hx, Builtin.clear_, run_underlying ht, hZ, hz, hzc, hst]
end
end Go.Proofs.YthonajikgljgmaaGreat.Fx
