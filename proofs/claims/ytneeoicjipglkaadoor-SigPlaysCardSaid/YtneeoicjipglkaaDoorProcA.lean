/-
  Processes: their cells; which may be (a part of SlotA, for a seat without package pslot).
-/
import Derived.Test.YtneeoicjipglkaaDoorFxY
import Derived.Test.YtneeoicjipglkaaDoorFxZ
import Derived.Test.YtneeoicjipglkaaDoorFxT
import Derived.Test.YtneeoicjipglkaaDoorBvA
import Derived.Test.YtneeoicjipglkaaDoorProg
namespace Go.Proofs.YtneeoicjipglkaaDoor.Slot
open Go Go.Proofs Go.Proofs.YtneeoicjipglkaaDoor.Fx
set_option maxRecDepth 100000
set_option linter.unusedVariables false
set_option linter.unusedSimpArgs false
set_option maxHeartbeats 2000000

/-- a slot -/
structure Pi where
  s : Int
  p : Int
  g : Int
  e : Int
  a : BitVec 64
  b : BitVec 64
  c : BitVec 64
  d : BitVec 64
  f : List Int
  hf : f.length = 8
theorem pi_ext {p q : Pi} (h1 : p.s = q.s) (h2 : p.p = q.p) (h3 : p.g = q.g) (h4 : p.e = q.e) (h5 : p.a = q.a) (h6 : p.b = q.b) (h7 : p.c = q.c) (h8 : p.d = q.d) (h9 : p.f = q.f) : p = q := by
  obtain ⟨a, b, c, d, e, f, g, h, i, _⟩ := p
  obtain ⟨a', b', c', d', e', f', g', h', i', _⟩ := q
  simp only at h1 h2 h3 h4 h5 h6 h7 h8 h9
  subst h1 h2 h3 h4 h5 h6 h7 h8 h9
  rfl
def piC (p : Pi) : List Value := [I p.s, I p.p, I p.g, I p.e, I p.a.toInt, I p.b.toInt, I p.c.toInt, I p.d.toInt] ++ p.f.map fun x => I x
abbrev vP (p : Pi) : Value := .agg (piC p).toArray
def zeroP : Pi := ⟨0, 0, 0, 0, 0, 0, 0, 0, List.replicate 8 0, rfl⟩
theorem piC_len (p : Pi) : (piC p).length = 16 := by simp [piC, p.hf]
theorem piC_all (p : Pi) : ((piC p).drop 0).take 16 = piC p := by rw [List.drop_zero, List.take_of_length_le (by rw [piC_len]; decide)]
theorem piC_one (p : Pi) : ∀ v ∈ piC p, v.oneCell' = true := by
  intro v hv
  simp only [piC, List.mem_append, List.mem_cons, List.mem_map, List.not_mem_nil, or_false] at hv
  rcases hv with (rfl | rfl | rfl | rfl | rfl | rfl | rfl | rfl) | ⟨x, _, rfl⟩ <;> rfl

section
variable {E : Env} {w0 w : World} {L : List (Nat × Obj)} {d : Option Nat} {ty e : TypeId} {pos : String} {after : Array Edge} {x y : Operand} {b : Nat} {p q : Pi} {f : Obj → List (Nat × Obj)} {c : List Value}
theorem ldP (hb : w.heap[b]? = some (blk (piC p) e)) : (loadVar 25 ⟨b, 0, none⟩).run Tryd.prog w = .ok (vP p) w :=
  ldA Tryd.isAgg25 Tryd.sizeOf25 hb (piC_all p) (by rw [piC_len]; decide)
theorem R_loadP (hx : ev E x = ptr b 0) (hb : w.heap[b]? = some (blk (piC p) e)) : (execOp (ev E) (mk d (.load 25 x) ty pos after)).run Tryd.prog w = .ok (.value (vP p)) w :=
  R_loadA Tryd.isAgg25 Tryd.sizeOf25 hx hb (piC_all p) (by rw [piC_len]; decide)
/-- a whole slot over whatever was there -/
theorem E_storeV (H : Hp w0 L w) (hx : ev E x = ptr b 0) (hy : ev E y = vP q) (hL : At L b (blk c e) f) (hc : c.length = 16) :
    ∃ w', Hp w0 (f (blk (piC q) e)) w' ∧ (execOp (ev E) (mk d (.store 25 x y) ty pos after)).run Tryd.prog w = .ok .skip w' := by
  have h := E_storeA (d := d) (ty := ty) (pos := pos) (after := after) (vs := piC q) H (fun w => by rw [piC_len]; exact Tryd.sizeOf25 w) hx hy (piC_one q) hL (by rw [piC_len, hc]; decide)
  rw [List.take_zero, List.nil_append, piC_len, List.drop_of_length_le (by rw [hc]; decide), List.append_nil] at h
  exact h
theorem E_storeP (H : Hp w0 L w) (hx : ev E x = ptr b 0) (hy : ev E y = vP q) (hL : At L b (blk (piC p) e) f) :
    ∃ w', Hp w0 (f (blk (piC q) e)) w' ∧ (execOp (ev E) (mk d (.store 25 x y) ty pos after)).run Tryd.prog w = .ok .skip w' :=
  E_storeV H hx hy hL (piC_len p)
theorem E_allocP (H : Hp w0 L w) : ∃ b w', w0.heap.size ≤ b ∧ Hp w0 ((b, blk (piC zeroP) 25) :: L) w' ∧ (execOp (ev E) (mk d (.alloc 25) ty pos after)).run Tryd.prog w = .ok (.value (ptr b 0)) w' :=
  E_alloc (vs := piC zeroP) H Tryd.zeroValue25 rfl
theorem E_boxP (H : Hp w0 L w) (hx : ev E x = vP q) : ∃ b w', w0.heap.size ≤ b ∧ Hp w0 ((b, blk (piC q) 25) :: L) w' ∧ (execOp (ev E) (mk d (.box 25 x) ty pos after)).run Tryd.prog w = .ok (.value (ptr b 0)) w' :=
  E_box (v := vP q) (vs := piC q) H hx rfl
theorem R_zeroP : (execOp (ev E) (mk d (.build 25 #[]) ty pos after)).run Tryd.prog w = .ok (.value (vP zeroP)) w :=
  R_buildL (places := [(0, 1), (1, 1), (2, 1), (3, 1), (4, 1), (5, 1), (6, 1), (7, 1), (8, 8)]) (vs := piC zeroP) Tryd.underlying25 Tryd.typeInfo25 rfl rfl (by kernel_rfl) rfl rfl rfl
/-- an array of nothing -/
theorem R_zeroArr {P : Program} {t elem : TypeId} {n : Nat} {zs : List Value} {i : TypeInfo} {z : Value} (hu : P.underlying t = some (.array n elem)) (hI : ∀ w, (typeInfo t).run P w = .ok i w) (hE : ∃ j, P.info? elem = some j)
    (hZ : i.zero = some z) (hz : z.cells = zs.toArray) : (execOp (ev E) (mk d (.build t #[]) ty pos after)).run P w = .ok (.value (.agg zs.toArray)) w := by
  obtain ⟨j, hj⟩ := hE
  refine R_build (ps := []) rfl ?_
  unfold Program.built
  rw [info_of_run hI w, hu]
  simp only [hZ, hz, hj]
  rfl
end

/-- none but signals -/
def okB (x : BitVec 64) : Prop := x &&& ~~~ 65534#64 = 0#64
instance (x : BitVec 64) : Decidable (okB x) := by unfold okB; infer_instance
def okP (p : Pi) : Prop := ((1 ≤ p.s ∧ p.s ≤ 3) ∧ (0 ≤ p.p ∧ p.p ≤ 8) ∧ (0 ≤ p.g ∧ p.g ≤ 7) ∧ (0 ≤ p.e ∧ p.e ≤ 255)) ∧
  ((okB p.a ∧ okB p.b ∧ okB p.c ∧ okB p.d) ∧ (p.b &&& 16896#64 = 0#64 ∧ p.c &&& 16896#64 = 0#64 ∧ p.d &&& 16896#64 = 0#64) ∧ p.c &&& p.d = 0#64) ∧
  (∀ x ∈ p.f, 0 ≤ x ∧ x ≤ 12) ∧ ((p.s = 2 ∧ p.a = 0#64 ∧ p.f = List.replicate 8 0) ∨ (¬ p.s = 2 ∧ p.e = 0))
instance (p : Pi) : Decidable (okP p) := by unfold okP; infer_instance
end Go.Proofs.YtneeoicjipglkaaDoor.Slot
