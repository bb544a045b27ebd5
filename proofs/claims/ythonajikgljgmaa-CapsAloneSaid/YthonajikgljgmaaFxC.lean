/-
  The operations, one rule each: what an operation makes of the frame and of the memory.
-/
import Derived.Test.YthonajikgljgmaaFxB
import Derived.Laws.Append
import Derived.Laws.Bits
namespace Go.Proofs.Ythonajikgljgmaa.Fx
open Go

section
variable {P : Program} {n : Nat} {ops : Array Oper} {kn : Env → World → Prop} {l : List Oper} {E : Env} {w0 w : World} {L : List (Nat × Obj)}
variable {d : Option Nat} {ty : TypeId} {pos : String} {after : Array Edge}

abbrev mk (d : Option Nat) (op : Op) (ty : TypeId) (pos : String) (after : Array Edge) : Oper := { dst := d, op := op, type := ty, pos := pos, after := after, guard := none }

/-! ### values alone -/
theorem R_move {x : Operand} {v : Value} (hx : ev E x = v)
    : (execOp (ev E) (mk d (.move x) ty pos after)).run P w = .ok (.value (v)) w := by
  subst hx; simp [execOp]
theorem R_mv {x : Operand} : (execOp (ev E) (mk d (.move x) ty pos after)).run P w = .ok (.value (ev E x)) w := by
  simp [execOp]
theorem R_as {x : Operand} : (execOp (ev E) (mk d (.assign x) ty pos after)).run P w = .ok (.value (ev E x)) w := by
  simp [execOp]
theorem R_assign {x : Operand} {v : Value} (hx : ev E x = v)
    : (execOp (ev E) (mk d (.assign x) ty pos after)).run P w = .ok (.value (v)) w := by
  subst hx; simp [execOp]
theorem R_pick {c a b : Operand} {t : Bool} {v : Value} (hc : ev E c = .bool t) (hv : (if t then ev E a else ev E b) = v)
    : (execOp (ev E) (mk d (.pick c a b) ty pos after)).run P w = .ok (.value (v)) w := by
  subst hv; simp [execOp, hc, asBool]


theorem run_eqGuard_int {op : BinOp} {t : TypeId} {x y : Operand} {k j : IntKind} {a b : Int} : (eqGuard op t x y (.int k a) (.int j b)).run P w = .ok () w := by
  unfold eqGuard
  cases op <;> rfl
theorem run_eqGuard_bool {op : BinOp} {t : TypeId} {x y : Operand} {a b : Bool} : (eqGuard op t x y (.bool a) (.bool b)).run P w = .ok () w := by
  unfold eqGuard
  cases op <;> rfl

/-- + - * on integers -/
theorem R_arith {op : BinOp} {t t' : TypeId} {x y : Operand} {k : IntKind} {a b r : Int} (hx : ev E x = .int k a) (hy : ev E y = .int k b)
    (hr : (Op.intArith op k a b).run P w = .ok (.int k r) w) (ho : op = .add ∨ op = .sub ∨ op = .mul)
    : (execOp (ev E) (mk d (.binOp op t x y t') ty pos after)).run P w = .ok (.value ((.int k r))) w := by
  rcases ho with rfl | rfl | rfl <;> simp [execOp, hx, hy, run_eqGuard_int, binOp, hr]


theorem R_add {t t' : TypeId} {x y : Operand} {k : IntKind} {a b r : Int} (hx : ev E x = .int k a) (hy : ev E y = .int k b) (hr : k.wrap (a + b) = r)
    : (execOp (ev E) (mk d (.binOp .add t x y t') ty pos after)).run P w = .ok (.value ((.int k r))) w :=
  R_arith hx hy (by subst hr; rfl) (.inl rfl)
theorem R_sub {t t' : TypeId} {x y : Operand} {k : IntKind} {a b r : Int} (hx : ev E x = .int k a) (hy : ev E y = .int k b) (hr : k.wrap (a - b) = r)
    : (execOp (ev E) (mk d (.binOp .sub t x y t') ty pos after)).run P w = .ok (.value ((.int k r))) w :=
  R_arith hx hy (by subst hr; rfl) (.inr (.inl rfl))
theorem R_mul {t t' : TypeId} {x y : Operand} {k : IntKind} {a b r : Int} (hx : ev E x = .int k a) (hy : ev E y = .int k b) (hr : k.wrap (a * b) = r)
    : (execOp (ev E) (mk d (.binOp .mul t x y t') ty pos after)).run P w = .ok (.value ((.int k r))) w :=
  R_arith hx hy (by subst hr; rfl) (.inr (.inr rfl))


/-- & | ^ &^ on integers -/
def bitsOf (op : BinOp) (k : IntKind) (x y : Int) : Int :=
  let a := BitVec.ofInt k.bits x
  let b := BitVec.ofInt k.bits y
  k.wrap ((match op with
    | .and => a &&& b
    | .or => a ||| b
    | .xor => a ^^^ b
    | _ => a &&& ~~~b : BitVec k.bits).toNat : Int)
theorem R_bits {op : BinOp} {t t' : TypeId} {x y : Operand} {k : IntKind} {a b r : Int} (hx : ev E x = .int k a) (hy : ev E y = .int k b)
    (ho : op = .and ∨ op = .or ∨ op = .xor ∨ op = .andNot) (hr : bitsOf op k a b = r)
    : (execOp (ev E) (mk d (.binOp op t x y t') ty pos after)).run P w = .ok (.value ((.int k r))) w := by
  subst hr
  rcases ho with rfl | rfl | rfl | rfl <;> simp [execOp, hx, hy, run_eqGuard_int, binOp, Op.intBits, bitsOf]


/-- / and % -/
theorem R_quo {t t' : TypeId} {x y : Operand} {k : IntKind} {a b r : Int} (hx : ev E x = .int k a) (hy : ev E y = .int k b) (hb : b ≠ 0) (hr : k.wrap (a.tdiv b) = r)
    : (execOp (ev E) (mk d (.binOp .quo t x y t') ty pos after)).run P w = .ok (.value ((.int k r))) w := by
  subst hr
  simp [execOp, hx, hy, run_eqGuard_int, binOp, Op.intDiv, hb]
theorem R_rem {t t' : TypeId} {x y : Operand} {k : IntKind} {a b r : Int} (hx : ev E x = .int k a) (hy : ev E y = .int k b) (hb : b ≠ 0) (hr : a.tmod b = r)
    : (execOp (ev E) (mk d (.binOp .rem t x y t') ty pos after)).run P w = .ok (.value ((.int k r))) w := by
  subst hr
  simp [execOp, hx, hy, run_eqGuard_int, binOp, Op.intDiv, hb]


/-- << and >> -/
theorem R_shl {t t' : TypeId} {x y : Operand} {k j : IntKind} {a b r : Int} (hx : ev E x = .int k a) (hy : ev E y = .int j b) (hb : 0 ≤ b) (hr : k.wrap (a * 2 ^ (min b.toNat k.bits)) = r)
    : (execOp (ev E) (mk d (.binOp .shl t x y t') ty pos after)).run P w = .ok (.value ((.int k r))) w := by
  subst hr
  have : ¬ b < 0 := by omega
  simp [execOp, hx, hy, run_eqGuard_int, binOp, Op.shift, this]
theorem R_shr {t t' : TypeId} {x y : Operand} {k j : IntKind} {a b r : Int} (hx : ev E x = .int k a) (hy : ev E y = .int j b) (hb : 0 ≤ b) (hr : a.fdiv (2 ^ (min b.toNat k.bits)) = r)
    : (execOp (ev E) (mk d (.binOp .shr t x y t') ty pos after)).run P w = .ok (.value ((.int k r))) w := by
  subst hr
  have : ¬ b < 0 := by omega
  simp [execOp, hx, hy, run_eqGuard_int, binOp, Op.shift, this]


/-- comparisons of integers: the Bool is that of a proposition -/
theorem R_eq {t t' : TypeId} {x y : Operand} {k : IntKind} {a b : Int} (hx : ev E x = .int k a) (hy : ev E y = .int k b)
    : (execOp (ev E) (mk d (.binOp .eql t x y t') ty pos after)).run P w = .ok (.value ((.bool (decide (a = b))))) w := by
  simp [execOp, hx, hy, run_eqGuard_int, binOp, Op.intCmp]
  rfl
theorem R_ne {t t' : TypeId} {x y : Operand} {k : IntKind} {a b : Int} (hx : ev E x = .int k a) (hy : ev E y = .int k b)
    : (execOp (ev E) (mk d (.binOp .neq t x y t') ty pos after)).run P w = .ok (.value ((.bool (decide (a ≠ b))))) w := by
  simp only [execOp, hx, hy, run_eqGuard_int, binOp, Op.intCmp, Sem.run_bind, Result.andThen_ok, ne_eq, not_true_eq_false, if_false, Sem.run_pure, bne, Bool.beq_eq_decide_eq, decide_not]
theorem R_lt {t t' : TypeId} {x y : Operand} {k : IntKind} {a b : Int} (hx : ev E x = .int k a) (hy : ev E y = .int k b)
    : (execOp (ev E) (mk d (.binOp .lss t x y t') ty pos after)).run P w = .ok (.value ((.bool (decide (a < b))))) w := by
  simp [execOp, hx, hy, run_eqGuard_int, binOp, Op.intCmp]
theorem R_le {t t' : TypeId} {x y : Operand} {k : IntKind} {a b : Int} (hx : ev E x = .int k a) (hy : ev E y = .int k b)
    : (execOp (ev E) (mk d (.binOp .leq t x y t') ty pos after)).run P w = .ok (.value ((.bool (decide (a ≤ b))))) w := by
  simp [execOp, hx, hy, run_eqGuard_int, binOp, Op.intCmp]
theorem R_gt {t t' : TypeId} {x y : Operand} {k : IntKind} {a b : Int} (hx : ev E x = .int k a) (hy : ev E y = .int k b)
    : (execOp (ev E) (mk d (.binOp .gtr t x y t') ty pos after)).run P w = .ok (.value ((.bool (decide (b < a))))) w := by
  simp [execOp, hx, hy, run_eqGuard_int, binOp, Op.intCmp]
theorem R_ge {t t' : TypeId} {x y : Operand} {k : IntKind} {a b : Int} (hx : ev E x = .int k a) (hy : ev E y = .int k b)
    : (execOp (ev E) (mk d (.binOp .geq t x y t') ty pos after)).run P w = .ok (.value ((.bool (decide (b ≤ a))))) w := by
  simp [execOp, hx, hy, run_eqGuard_int, binOp, Op.intCmp]


theorem R_not {t : TypeId} {x : Operand} {b : Bool} (hx : ev E x = .bool b)
    : (execOp (ev E) (mk d (.unOp .not t x) ty pos after)).run P w = .ok (.value ((.bool (!b)))) w := by
  simp [execOp, hx, Op.unary]
theorem R_neg {t : TypeId} {x : Operand} {k : IntKind} {a r : Int} (hx : ev E x = .int k a) (hr : k.wrap (0 - a) = r)
    : (execOp (ev E) (mk d (.unOp .neg t x) ty pos after)).run P w = .ok (.value ((.int k r))) w := by
  subst hr
  simp [execOp, hx, Op.unary, Op.intArith]


/-- from one kind of integers to another -/
theorem R_conv_int {s t : TypeId} {x : Operand} {k j : IntKind} {a r : Int} (hs : P.underlying s = some (.int k)) (ht : P.underlying t = some (.int j)) (hx : ev E x = .int k a)
    (hr : j.wrap a = r)
    : (execOp (ev E) (mk d (.convert s t x) ty pos after)).run P w = .ok (.value ((.int j r))) w := by
  subst hr
  simp [execOp, hx, convert, run_underlying hs, run_underlying ht, Conv.intToInt]


theorem R_extract {x : Operand} {i : Nat} {vs : Array Value} {v : Value} (hx : ev E x = .tuple vs) (hv : vs[i]? = some v)
    : (execOp (ev E) (mk d (.extract x i) ty pos after)).run P w = .ok (.value (v)) w := by
  simp [execOp, hx, Instr.extract, hv]


theorem R_makeFunc {fn : Fn} {first captured : Array Operand} {v : Value} (hv : Value.func fn (first.map (ev E)) (captured.map (ev E)) = v)
    : (execOp (ev E) (mk d (.makeFunc fn first captured) ty pos after)).run P w = .ok (.value (v)) w := by
  subst hv
  simp [execOp, Instr.makeFunc]


theorem R_nilCheck {x : Operand} {a : Addr} (hx : ev E x = .pointer (some a))
    : (execOp (ev E) (mk d (.nilCheck x) ty pos after)).run P w = .ok (.value ((.pointer (some a)))) w := by
  simp [execOp, hx]

end

end Go.Proofs.Ythonajikgljgmaa.Fx
