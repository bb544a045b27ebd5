/-
  The built-in functions, strings, equality, calls of functions.
-/
import Derived.Test.YthonajikgljgmaaFxD
import Derived.Laws.Strings
import Derived.Laws.BytesString
namespace Go.Proofs.Ythonajikgljgmaa.Fx
open Go

section
variable {P : Program} {n : Nat} {ops : Array Oper} {kn : Env → World → Prop} {l : List Oper} {E : Env} {w0 w : World} {L : List (Nat × Obj)}
variable {d : Option Nat} {ty : TypeId} {pos : String} {after : Array Edge}

abbrev bi (b : Builtin) (args : Array Operand) (ts : Array TypeId) : Op := .call { callee := .builtin b, args := args, argTypes := ts }

/-! ### len, min, max -/
theorem R_len_slice {t elem : TypeId} {x : Operand} {a : Option Addr} {len cap : Nat} (ht : P.underlying t = some (.slice elem)) (hx : ev E x = .slice a len cap)
    : (execOp (ev E) (mk d (bi .len #[x] #[t]) ty pos after)).run P w = .ok (.value ((.int .i64 len))) w := by
  simp [execOp, resolve, invoke, builtin, hx, Builtin.len_, run_underlying ht, goInt]
theorem R_len_string {t : TypeId} {x : Operand} {s : ByteArray} (ht : P.underlying t = some .string) (hx : ev E x = .string s)
    : (execOp (ev E) (mk d (bi .len #[x] #[t]) ty pos after)).run P w = .ok (.value ((.int .i64 s.size))) w := by
  simp [execOp, resolve, invoke, builtin, hx, Builtin.len_, run_underlying ht, goInt]
theorem R_len_array {t elem : TypeId} {m : Nat} {x : Operand} (ht : P.underlying t = some (.array m elem))
    : (execOp (ev E) (mk d (bi .len #[x] #[t]) ty pos after)).run P w = .ok (.value ((.int .i64 m))) w := by
  simp [execOp, resolve, invoke, builtin, Builtin.len_, run_underlying ht, goInt]
theorem R_len_chan {t elem : TypeId} {dir : ChanDir} {x : Operand} {b c s r : Nat} {buf : List Value} {cl : Bool} (ht : P.underlying t = some (.chan dir elem)) (hx : ev E x = .chan (some b))
    (hb : w.heap[b]? = some (.chan c buf.toArray cl s r false))
    : (execOp (ev E) (mk d (bi .len #[x] #[t]) ty pos after)).run P w = .ok (.value ((.int .i64 buf.length))) w := by
  simp [execOp, resolve, invoke, builtin, hx, Builtin.len_, run_underlying ht, goInt, getObj, Sem.run, hb]
theorem R_min {ts : Array TypeId} {x y : Operand} {k j : IntKind} {a b r : Int} (hx : ev E x = .int k a) (hy : ev E y = .int j b) (hr : min a b = r)
    : (execOp (ev E) (mk d (bi .min #[x, y] ts) ty pos after)).run P w = .ok (.value ((.int k r))) w := by
  subst hr
  simp [execOp, resolve, invoke, builtin, hx, hy, Builtin.min_, Builtin.min2]
  omega
theorem R_max {ts : Array TypeId} {x y : Operand} {k j : IntKind} {a b r : Int} (hx : ev E x = .int k a) (hy : ev E y = .int j b) (hr : max a b = r)
    : (execOp (ev E) (mk d (bi .max #[x, y] ts) ty pos after)).run P w = .ok (.value ((.int k r))) w := by
  subst hr
  simp [execOp, resolve, invoke, builtin, hx, hy, Builtin.max_, Builtin.max2]
  omega


/-! ### a call of a function -/
abbrev callOf (f : Operand) (args : Array Operand) (ts : Array TypeId) : Op := .call { callee := .value f, args := args, argTypes := ts }

theorem run_call {f : FuncId} {args : Array Operand} {ts : Array TypeId} {first captured : Array Value} {x : Operand} (hx : ev E x = .func (.func f) first captured)
    (hf : ∀ as w, (callFunc f as).run P w = .ok (.enter f as) w) :
    (execOp (ev E) (mk d (callOf x args ts) ty pos after)).run P w = .ok (.enter f (first ++ args.map (ev E) ++ captured)) w := by
  simp [execOp, resolve, Deferred.ofValue, hx, invoke, hf]

/-- A call: the contract's arguments are what stands in the slots. -/
theorem R_call {f : FuncId} {args : Array Operand} {ts : Array TypeId} {first captured : Array Value} {x : Operand} {as : List Value}
    (hx : ev E x = .func (.func f) first captured) (hf : ∀ as w, (callFunc f as).run P w = .ok (.enter f as) w)
    (ha : first.toList ++ args.toList.map (ev E) ++ captured.toList = as) : (execOp (ev E) (mk d (callOf x args ts) ty pos after)).run P w = .ok (.enter f as.toArray) w := by
  rw [run_call hx hf]
  have : first ++ args.map (ev E) ++ captured = as.toArray := by
    subst ha
    apply Array.ext'
    simp
  rw [this]

/-! ### equality besides that of integers -/
theorem R_eqv {t t' : TypeId} {x y : Operand} {a b : Value} {r : Bool} (hx : ev E x = a) (hy : ev E y = b) (hg : (eqGuard .eql t x y a b).run P w = .ok () w)
    (hr : (binOp .eql t a b).run P w = .ok (.bool r) w)
    : (execOp (ev E) (mk d (.binOp .eql t x y t') ty pos after)).run P w = .ok (.value ((.bool r))) w := by
  simp [execOp, hx, hy, hg, hr]
theorem R_nev {t t' : TypeId} {x y : Operand} {a b : Value} {r : Bool} (hx : ev E x = a) (hy : ev E y = b) (hg : (eqGuard .neq t x y a b).run P w = .ok () w)
    (hr : (binOp .neq t a b).run P w = .ok (.bool r) w)
    : (execOp (ev E) (mk d (.binOp .neq t x y t') ty pos after)).run P w = .ok (.value ((.bool r))) w := by
  simp [execOp, hx, hy, hg, hr]


theorem run_eqGuard_ptr {op : BinOp} {t : TypeId} {x y : Operand} {a b : Option Addr} : (eqGuard op t x y (.pointer a) (.pointer b)).run P w = .ok () w := by
  unfold eqGuard; cases op <;> rfl
theorem run_eqGuard_slice {op : BinOp} {t : TypeId} {x y : Operand} {a b : Option Addr} {n1 n2 m1 m2 : Nat} : (eqGuard op t x y (.slice a n1 n2) (.slice b m1 m2)).run P w = .ok () w := by
  unfold eqGuard; cases op <;> rfl
theorem run_eqGuard_str {op : BinOp} {t : TypeId} {x y : Operand} {a b : ByteArray} : (eqGuard op t x y (.string a) (.string b)).run P w = .ok () w := by
  unfold eqGuard; cases op <;> rfl
theorem run_eqGuard_fn {op : BinOp} {t : TypeId} {x y : Operand} {f : Fn} {a b : Array Value} : (eqGuard op t x y (.func f a b) .nilFunc).run P w = .ok () w := by
  unfold eqGuard; cases op <;> rfl
theorem run_eqGuard_nofn {op : BinOp} {t : TypeId} {x y : Operand} : (eqGuard op t x y .nilFunc .nilFunc).run P w = .ok () w := by
  unfold eqGuard; cases op <;> rfl

theorem run_equal {t : TypeId} {a b : Value} {r : Bool} (h : ∀ k, (Op.equalIn (k + 1) t a b).run P w = .ok r w) : (Op.equal t a b).run P w = .ok r w := by
  unfold Op.equal Op.maxDepth
  exact h 9999

theorem eqIn_ptr_nil {t e : TypeId} {a : Addr} (ht : P.underlying t = some (.pointer e)) (k : Nat) : (Op.equalIn (k + 1) t (.pointer (some a)) (.pointer none)).run P w = .ok false w := by
  simp [Op.equalIn, run_underlying ht]
theorem eqIn_nil_nil {t e : TypeId} (ht : P.underlying t = some (.pointer e)) (k : Nat) : (Op.equalIn (k + 1) t (.pointer none) (.pointer none)).run P w = .ok true w := by
  simp [Op.equalIn, run_underlying ht]
theorem eqIn_fn {t : TypeId} {ps rs : Array TypeId} {v : Bool} {f : Fn} {a b : Array Value} (ht : P.underlying t = some (.func ps rs v)) (k : Nat) : (Op.equalIn (k + 1) t (.func f a b) .nilFunc).run P w = .ok false w := by
  simp [Op.equalIn, run_underlying ht]
theorem eqIn_nofn {t : TypeId} {ps rs : Array TypeId} {v : Bool} (ht : P.underlying t = some (.func ps rs v)) (k : Nat) : (Op.equalIn (k + 1) t .nilFunc .nilFunc).run P w = .ok true w := by
  simp [Op.equalIn, run_underlying ht]
theorem eqIn_bool {t : TypeId} {a b : Bool} (ht : P.underlying t = some .bool) (k : Nat) : (Op.equalIn (k + 1) t (.bool a) (.bool b)).run P w = .ok (decide (a = b)) w := by
  simp only [Op.equalIn, Sem.run_bind, run_underlying ht, Result.andThen_ok, Sem.run_pure]
  cases a <;> cases b <;> rfl
theorem eqIn_slice_nil {t e : TypeId} {a : Addr} {n1 n2 m1 m2 : Nat} (ht : P.underlying t = some (.slice e)) (k : Nat) : (Op.equalIn (k + 1) t (.slice (some a) n1 n2) (.slice none m1 m2)).run P w = .ok false w := by
  simp [Op.equalIn, run_underlying ht]
theorem eqIn_nils_nil {t e : TypeId} {n1 n2 m1 m2 : Nat} (ht : P.underlying t = some (.slice e)) (k : Nat) : (Op.equalIn (k + 1) t (.slice none n1 n2) (.slice none m1 m2)).run P w = .ok true w := by
  simp [Op.equalIn, run_underlying ht]

/-- a pointer beside nil -/
theorem R_eq_ptr_nil {t t' e : TypeId} {x y : Operand} {a : Addr} (ht : P.underlying t = some (.pointer e)) (hx : ev E x = .pointer (some a)) (hy : ev E y = .pointer none)
    : (execOp (ev E) (mk d (.binOp .eql t x y t') ty pos after)).run P w = .ok (.value ((.bool false))) w :=
  R_eqv hx hy run_eqGuard_ptr (by simp only [binOp, Sem.run_bind, run_equal (eqIn_ptr_nil ht), Result.andThen_ok, Sem.run_pure])
theorem R_ne_ptr_nil {t t' e : TypeId} {x y : Operand} {a : Addr} (ht : P.underlying t = some (.pointer e)) (hx : ev E x = .pointer (some a)) (hy : ev E y = .pointer none)
    : (execOp (ev E) (mk d (.binOp .neq t x y t') ty pos after)).run P w = .ok (.value ((.bool true))) w :=
  R_nev hx hy run_eqGuard_ptr (by simp only [binOp, Sem.run_bind, run_equal (eqIn_ptr_nil ht), Result.andThen_ok, Sem.run_pure, Bool.not_false])
theorem R_eq_nil_nil {t t' e : TypeId} {x y : Operand} (ht : P.underlying t = some (.pointer e)) (hx : ev E x = .pointer none) (hy : ev E y = .pointer none)
    : (execOp (ev E) (mk d (.binOp .eql t x y t') ty pos after)).run P w = .ok (.value ((.bool true))) w :=
  R_eqv hx hy run_eqGuard_ptr (by simp only [binOp, Sem.run_bind, run_equal (eqIn_nil_nil ht), Result.andThen_ok, Sem.run_pure])
theorem R_ne_nil_nil {t t' e : TypeId} {x y : Operand} (ht : P.underlying t = some (.pointer e)) (hx : ev E x = .pointer none) (hy : ev E y = .pointer none)
    : (execOp (ev E) (mk d (.binOp .neq t x y t') ty pos after)).run P w = .ok (.value ((.bool false))) w :=
  R_nev hx hy run_eqGuard_ptr (by simp only [binOp, Sem.run_bind, run_equal (eqIn_nil_nil ht), Result.andThen_ok, Sem.run_pure, Bool.not_true])


/-- a function beside nil -/
theorem R_eq_fn {t t' : TypeId} {ps rs : Array TypeId} {v : Bool} {x y : Operand} {f : Fn} {a b : Array Value} (ht : P.underlying t = some (.func ps rs v)) (hx : ev E x = .func f a b) (hy : ev E y = .nilFunc)
    : (execOp (ev E) (mk d (.binOp .eql t x y t') ty pos after)).run P w = .ok (.value ((.bool false))) w :=
  R_eqv hx hy run_eqGuard_fn (by simp only [binOp, Sem.run_bind, run_equal (eqIn_fn ht), Result.andThen_ok, Sem.run_pure])
theorem R_eq_nofn {t t' : TypeId} {ps rs : Array TypeId} {v : Bool} {x y : Operand} (ht : P.underlying t = some (.func ps rs v)) (hx : ev E x = .nilFunc) (hy : ev E y = .nilFunc)
    : (execOp (ev E) (mk d (.binOp .eql t x y t') ty pos after)).run P w = .ok (.value ((.bool true))) w :=
  R_eqv hx hy run_eqGuard_nofn (by simp only [binOp, Sem.run_bind, run_equal (eqIn_nofn ht), Result.andThen_ok, Sem.run_pure])


/-- Bools -/
theorem R_eq_bool {t t' : TypeId} {x y : Operand} {a b : Bool} (ht : P.underlying t = some .bool) (hx : ev E x = .bool a) (hy : ev E y = .bool b)
    : (execOp (ev E) (mk d (.binOp .eql t x y t') ty pos after)).run P w = .ok (.value ((.bool (decide (a = b))))) w :=
  R_eqv hx hy run_eqGuard_bool (by simp only [binOp, Sem.run_bind, run_equal (eqIn_bool ht), Result.andThen_ok, Sem.run_pure])
theorem R_ne_bool {t t' : TypeId} {x y : Operand} {a b : Bool} (ht : P.underlying t = some .bool) (hx : ev E x = .bool a) (hy : ev E y = .bool b)
    : (execOp (ev E) (mk d (.binOp .neq t x y t') ty pos after)).run P w = .ok (.value ((.bool (decide (a ≠ b))))) w :=
  R_nev (r := decide (a ≠ b)) hx hy run_eqGuard_bool (by simp only [binOp, Sem.run_bind, run_equal (eqIn_bool ht), Result.andThen_ok, Sem.run_pure, ne_eq, decide_not])


theorem beq_bytes (a b : ByteArray) : (a.toList == b.toList) = decide (a.data.toList = b.data.toList) := by
  rw [ByteArray.toList_eq, ByteArray.toList_eq, Bool.beq_eq_decide_eq]

/-- strings, by their bytes -/
theorem R_eq_str {t t' : TypeId} {x y : Operand} {a b : ByteArray} (hx : ev E x = .string a) (hy : ev E y = .string b)
    : (execOp (ev E) (mk d (.binOp .eql t x y t') ty pos after)).run P w = .ok (.value ((.bool (decide (a.data.toList = b.data.toList))))) w :=
  R_eqv (r := decide (a.data.toList = b.data.toList)) hx hy run_eqGuard_str (by simp only [binOp, Op.stringOp, beq_bytes, Sem.run_pure])
theorem R_ne_str {t t' : TypeId} {x y : Operand} {a b : ByteArray} (hx : ev E x = .string a) (hy : ev E y = .string b)
    : (execOp (ev E) (mk d (.binOp .neq t x y t') ty pos after)).run P w = .ok (.value ((.bool (decide (a.data.toList ≠ b.data.toList))))) w :=
  R_nev (r := decide (a.data.toList ≠ b.data.toList)) hx hy run_eqGuard_str (by simp only [binOp, Op.stringOp, beq_bytes, Sem.run_pure, ne_eq, decide_not])
theorem R_cat {t t' : TypeId} {x y : Operand} {a b r : ByteArray} (hx : ev E x = .string a) (hy : ev E y = .string b) (hl : a.size + b.size ≤ 9223372036854775807) (hr : a ++ b = r)
    : (execOp (ev E) (mk d (.binOp .add t x y t') ty pos after)).run P w = .ok (.value ((.string r))) w := by
  subst hr
  have : ¬ (9223372036854775807 < (a.size : Int) + (b.size : Int)) := by omega
  simp [execOp, hx, hy, run_eqGuard_str, binOp, Op.stringOp, IntKind.max, IntKind.signed, IntKind.bits, this]

end
end Go.Proofs.Ythonajikgljgmaa.Fx
