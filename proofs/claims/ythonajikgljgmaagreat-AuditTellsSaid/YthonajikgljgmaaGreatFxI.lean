/-
  The operations once more, where more is known: tests that are decided, numbers that stay in their kind.
-/
import Derived.Test.YthonajikgljgmaaGreatFxH
namespace Go.Proofs.YthonajikgljgmaaGreat.Fx
open Go

/-! ### numbers that stay in their kind -/
theorem w_i64 {x : Int} (h : -9223372036854775808 ≤ x ∧ x ≤ 9223372036854775807) : IntKind.i64.wrap x = x := by
  simp [IntKind.wrap, IntKind.bits, IntKind.signed]; omega
theorem w_i32 {x : Int} (h : -2147483648 ≤ x ∧ x ≤ 2147483647) : IntKind.i32.wrap x = x := by
  simp [IntKind.wrap, IntKind.bits, IntKind.signed]; omega
theorem w_u8 {x : Int} (h : 0 ≤ x ∧ x ≤ 255) : IntKind.u8.wrap x = x := by
  simp [IntKind.wrap, IntKind.bits, IntKind.signed]; omega
theorem w_u16 {x : Int} (h : 0 ≤ x ∧ x ≤ 65535) : IntKind.u16.wrap x = x := by
  simp [IntKind.wrap, IntKind.bits, IntKind.signed]; omega
theorem w_u32 {x : Int} (h : 0 ≤ x ∧ x ≤ 4294967295) : IntKind.u32.wrap x = x := by
  simp [IntKind.wrap, IntKind.bits, IntKind.signed]; omega
theorem w_u64 {x : Int} (h : 0 ≤ x ∧ x ≤ 18446744073709551615) : IntKind.u64.wrap x = x := by
  simp [IntKind.wrap, IntKind.bits, IntKind.signed]; omega
/-- a byte of whatever number -/
theorem m_u8 {x : Int} : IntKind.u8.wrap x = x % 256 := by
  simp [IntKind.wrap, IntKind.bits, IntKind.signed]
theorem m_u32 {x : Int} : IntKind.u32.wrap x = x % 4294967296 := by
  simp [IntKind.wrap, IntKind.bits, IntKind.signed]

theorem quo_pos {a b : Int} (h0 : 0 ≤ a) (_ : 0 < b) (h1 : a ≤ 9223372036854775807) : IntKind.i64.wrap (a.tdiv b) = a / b := by
  have e : a.tdiv b = a / b := Int.tdiv_eq_ediv_of_nonneg h0
  rw [e]
  have h2 : 0 ≤ a / b := Int.ediv_nonneg h0 (by omega)
  have h3 : a / b ≤ a := Int.ediv_le_self b h0
  exact w_i64 ⟨by omega, by omega⟩
theorem rem_pos {a b : Int} (h0 : 0 ≤ a) : a.tmod b = a % b := Int.tmod_eq_emod_of_nonneg h0

theorem shl_i64 {a b : Int} (M : Int) (hM : (2 : Int) ^ (min b.toNat 64) = M) (h : -9223372036854775808 ≤ a * M ∧ a * M ≤ 9223372036854775807) : IntKind.i64.wrap (a * 2 ^ (min b.toNat IntKind.i64.bits)) = a * M := by
  have : IntKind.i64.bits = 64 := rfl
  rw [this, hM]; exact w_i64 h
theorem shr_any {a : Int} {n : Nat} (M : Int) (hM : (2 : Int) ^ n = M) : a.fdiv (2 ^ n) = a / M := by
  rw [← hM]
  exact Int.fdiv_eq_ediv_of_nonneg _ (Int.pow_nonneg (by omega))

theorem and_nat (k x m : Nat) (hm : m = 2 ^ k - 1) : x &&& m = x % 2 ^ k := by
  subst hm; exact Nat.and_two_pow_sub_one_eq_mod x k

theorem and_mask_i64 (k : Nat) {x m : Int} (M : Int) (hM : (2 : Int) ^ k = M) (hm : m = M - 1) (hk : k ≤ 62) : bitsOf .and .i64 x m = x % M := by
  have e1 : ((BitVec.ofInt 64 x &&& BitVec.ofInt 64 m).toNat : Int) = x % M := by
    have hp : (2 : Nat) ^ k ≤ 2 ^ 62 := Nat.pow_le_pow_right (by omega) hk
    have hpos : 0 < (2 : Nat) ^ k := Nat.pow_pos (by omega)
    have hMn : M = ((2 ^ k : Nat) : Int) := by rw [← hM]; simp
    have hmn : m = ((2 ^ k - 1 : Nat) : Int) := by rw [hm, hMn]; omega
    have h2 : (BitVec.ofInt 64 m).toNat = 2 ^ k - 1 := by
      rw [hmn, BitVec.toNat_ofInt]
      have : (2 ^ k - 1 : Nat) < 2 ^ 64 := by omega
      have h3 : (((2 ^ k - 1 : Nat) : Int) % ((2 ^ 64 : Nat) : Int)) = ((2 ^ k - 1 : Nat) : Int) := Int.emod_eq_of_lt (by omega) (by omega)
      rw [h3]; simp
    rw [BitVec.toNat_and, h2, and_nat k _ _ rfl, BitVec.toNat_ofInt]
    rw [Int.natCast_emod, ← hMn]
    have h5 : (((x % ((2 ^ 64 : Nat) : Int)).toNat : Nat) : Int) = x % ((2 ^ 64 : Nat) : Int) := Int.toNat_of_nonneg (Int.emod_nonneg _ (by decide))
    rw [h5]
    refine Int.emod_emod_of_dvd x ?_
    rw [hMn]
    exact Int.natCast_dvd_natCast.2 (Nat.pow_dvd_pow 2 (by omega))
  have hpos : 0 < M := by rw [← hM]; exact Int.pow_pos (by omega)
  have hle : M ≤ 4611686018427387904 := by
    have h1 : (2 : Nat) ^ k ≤ 2 ^ 62 := Nat.pow_le_pow_right (by omega) hk
    have h2 : M = ((2 ^ k : Nat) : Int) := by rw [← hM]; simp
    omega
  have h0 := Int.emod_nonneg x (show M ≠ 0 by omega)
  have h1 := Int.emod_lt_of_pos x hpos
  show IntKind.i64.wrap ((BitVec.ofInt 64 x &&& BitVec.ofInt 64 m).toNat : Int) = x % M
  rw [e1]
  exact w_i64 ⟨by omega, by omega⟩

/-! ### places in a row -/
theorem idx_lit {off sz off' : Nat} {i : Int} (h : off + i.toNat * sz = off') : off + i.toNat * sz = off' := h
theorem idx0_cast {k : Nat} : 0 + ((k : Nat) : Int).toNat * 1 = k := by simp
theorem idx_cast1 {off k : Nat} : off + ((k : Nat) : Int).toNat * 1 = off + k := by simp
theorem idx0_castn {k sz : Nat} : 0 + ((k : Nat) : Int).toNat * sz = k * sz := by simp
theorem idx_castn {off k sz : Nat} : off + ((k : Nat) : Int).toNat * sz = off + k * sz := by simp
theorem idx0_1 {i : Int} : 0 + i.toNat * 1 = i.toNat := by simp
theorem idx_1 {off : Nat} {i : Int} : off + i.toNat * 1 = off + i.toNat := by simp

section
variable {P : Program} {E : Env} {w0 w : World} {L : List (Nat × Obj)}
variable {d : Option Nat} {ty : TypeId} {pos : String} {after : Array Edge}

theorem R_pk_t {c a b : Operand} (hc : ev E c = .bool true)
    : (execOp (ev E) (mk d (.pick c a b) ty pos after)).run P w = .ok (.value (ev E a)) w := R_pick hc (by rw [if_pos rfl])
theorem R_pk_f {c a b : Operand} (hc : ev E c = .bool false)
    : (execOp (ev E) (mk d (.pick c a b) ty pos after)).run P w = .ok (.value (ev E b)) w := R_pick hc (by rw [if_neg (by decide)])
theorem R_fn0 {fn : Fn} : (execOp (ev E) (mk d (.makeFunc fn #[] #[]) ty pos after)).run P w = .ok (.value (.func fn #[] #[])) w := R_makeFunc (by simp)
theorem R_fn1 {fn : Fn} {x : Operand} {a : Option Addr} (h : ev E x = .pointer a) : (execOp (ev E) (mk d (.makeFunc fn #[] #[x]) ty pos after)).run P w = .ok (.value (.func fn #[] #[.pointer a])) w := R_makeFunc (by simp [h])
theorem R_fn2 {fn : Fn} {x y : Operand} {a b : Option Addr} (h : ev E x = .pointer a) (h' : ev E y = .pointer b) : (execOp (ev E) (mk d (.makeFunc fn #[] #[x, y]) ty pos after)).run P w = .ok (.value (.func fn #[] #[.pointer a, .pointer b])) w := R_makeFunc (by simp [h, h'])
theorem R_fn3 {fn : Fn} {x y z : Operand} {a b c : Option Addr} (h : ev E x = .pointer a) (h' : ev E y = .pointer b) (h2 : ev E z = .pointer c) : (execOp (ev E) (mk d (.makeFunc fn #[] #[x, y, z]) ty pos after)).run P w = .ok (.value (.func fn #[] #[.pointer a, .pointer b, .pointer c])) w := R_makeFunc (by simp [h, h', h2])

theorem R_pick_t {c a b : Operand} {v : Value} (hc : ev E c = .bool true) (hv : ev E a = v)
    : (execOp (ev E) (mk d (.pick c a b) ty pos after)).run P w = .ok (.value v) w := R_pick hc (by rw [if_pos rfl]; exact hv)
theorem R_pick_f {c a b : Operand} {v : Value} (hc : ev E c = .bool false) (hv : ev E b = v)
    : (execOp (ev E) (mk d (.pick c a b) ty pos after)).run P w = .ok (.value v) w := R_pick hc (by rw [if_neg (by decide)]; exact hv)
theorem R_pick_b {c a b : Operand} {t x y : Bool} (hc : ev E c = .bool t) (ha : ev E a = .bool x) (hb : ev E b = .bool y)
    : (execOp (ev E) (mk d (.pick c a b) ty pos after)).run P w = .ok (.value (.bool (if t then x else y))) w := R_pick hc (by rw [ha, hb]; cases t <;> rfl)

theorem R_not_t {t : TypeId} {x : Operand} (hx : ev E x = .bool true) : (execOp (ev E) (mk d (.unOp .not t x) ty pos after)).run P w = .ok (.value (.bool false)) w := R_not hx
theorem R_not_f {t : TypeId} {x : Operand} (hx : ev E x = .bool false) : (execOp (ev E) (mk d (.unOp .not t x) ty pos after)).run P w = .ok (.value (.bool true)) w := R_not hx
theorem R_not_d {t : TypeId} {x : Operand} {p : Prop} [Decidable p] (hx : ev E x = .bool (decide p)) : (execOp (ev E) (mk d (.unOp .not t x) ty pos after)).run P w = .ok (.value (.bool (decide (¬ p)))) w := by
  rw [R_not hx, decide_not]

section
variable {t t' : TypeId} {x y : Operand} {k : IntKind} {a b : Int} (hx : ev E x = .int k a) (hy : ev E y = .int k b)
include hx hy
theorem R_eq_t (h : a = b) : (execOp (ev E) (mk d (.binOp .eql t x y t') ty pos after)).run P w = .ok (.value (.bool true)) w := by rw [R_eq hx hy, decide_eq_true h]
theorem R_eq_f (h : ¬ a = b) : (execOp (ev E) (mk d (.binOp .eql t x y t') ty pos after)).run P w = .ok (.value (.bool false)) w := by rw [R_eq hx hy, decide_eq_false h]
theorem R_ne_t (h : ¬ a = b) : (execOp (ev E) (mk d (.binOp .neq t x y t') ty pos after)).run P w = .ok (.value (.bool true)) w := by rw [R_ne hx hy, decide_eq_true h]
theorem R_ne_f (h : a = b) : (execOp (ev E) (mk d (.binOp .neq t x y t') ty pos after)).run P w = .ok (.value (.bool false)) w := by rw [R_ne hx hy, decide_eq_false (fun n => n h)]
theorem R_lt_t (h : a < b) : (execOp (ev E) (mk d (.binOp .lss t x y t') ty pos after)).run P w = .ok (.value (.bool true)) w := by rw [R_lt hx hy, decide_eq_true h]
theorem R_lt_f (h : ¬ a < b) : (execOp (ev E) (mk d (.binOp .lss t x y t') ty pos after)).run P w = .ok (.value (.bool false)) w := by rw [R_lt hx hy, decide_eq_false h]
theorem R_le_t (h : a ≤ b) : (execOp (ev E) (mk d (.binOp .leq t x y t') ty pos after)).run P w = .ok (.value (.bool true)) w := by rw [R_le hx hy, decide_eq_true h]
theorem R_le_f (h : ¬ a ≤ b) : (execOp (ev E) (mk d (.binOp .leq t x y t') ty pos after)).run P w = .ok (.value (.bool false)) w := by rw [R_le hx hy, decide_eq_false h]
theorem R_gt_t (h : b < a) : (execOp (ev E) (mk d (.binOp .gtr t x y t') ty pos after)).run P w = .ok (.value (.bool true)) w := by rw [R_gt hx hy, decide_eq_true h]
theorem R_gt_f (h : ¬ b < a) : (execOp (ev E) (mk d (.binOp .gtr t x y t') ty pos after)).run P w = .ok (.value (.bool false)) w := by rw [R_gt hx hy, decide_eq_false h]
theorem R_ge_t (h : b ≤ a) : (execOp (ev E) (mk d (.binOp .geq t x y t') ty pos after)).run P w = .ok (.value (.bool true)) w := by rw [R_ge hx hy, decide_eq_true h]
theorem R_ge_f (h : ¬ b ≤ a) : (execOp (ev E) (mk d (.binOp .geq t x y t') ty pos after)).run P w = .ok (.value (.bool false)) w := by rw [R_ge hx hy, decide_eq_false h]
end

section
variable {t t' : TypeId} {x y : Operand} {a b : Bool} (ht : P.underlying t = some .bool) (hx : ev E x = .bool a) (hy : ev E y = .bool b)
include ht hx hy
theorem R_eq_bool_t (h : a = b) : (execOp (ev E) (mk d (.binOp .eql t x y t') ty pos after)).run P w = .ok (.value (.bool true)) w := by rw [R_eq_bool ht hx hy, decide_eq_true h]
theorem R_eq_bool_f (h : ¬ a = b) : (execOp (ev E) (mk d (.binOp .eql t x y t') ty pos after)).run P w = .ok (.value (.bool false)) w := by rw [R_eq_bool ht hx hy, decide_eq_false h]
theorem R_ne_bool_t (h : ¬ a = b) : (execOp (ev E) (mk d (.binOp .neq t x y t') ty pos after)).run P w = .ok (.value (.bool true)) w := by rw [R_ne_bool ht hx hy, decide_eq_true h]
theorem R_ne_bool_f (h : a = b) : (execOp (ev E) (mk d (.binOp .neq t x y t') ty pos after)).run P w = .ok (.value (.bool false)) w := by rw [R_ne_bool ht hx hy, decide_eq_false (fun n => n h)]
end
section
variable {t t' : TypeId} {x y : Operand} {p q : Prop} [Decidable p] [Decidable q] (ht : P.underlying t = some .bool) (hx : ev E x = .bool (decide p)) (hy : ev E y = .bool (decide q))
include ht hx hy
theorem R_eq_dec_t (h : p ↔ q) : (execOp (ev E) (mk d (.binOp .eql t x y t') ty pos after)).run P w = .ok (.value (.bool true)) w := R_eq_bool_t ht hx hy (by simp [h])
theorem R_eq_dec_f (h : ¬ (p ↔ q)) : (execOp (ev E) (mk d (.binOp .eql t x y t') ty pos after)).run P w = .ok (.value (.bool false)) w := R_eq_bool_f ht hx hy (by simpa using h)
theorem R_ne_dec_f (h : p ↔ q) : (execOp (ev E) (mk d (.binOp .neq t x y t') ty pos after)).run P w = .ok (.value (.bool false)) w := R_ne_bool_f ht hx hy (by simp [h])
theorem R_ne_dec_t (h : ¬ (p ↔ q)) : (execOp (ev E) (mk d (.binOp .neq t x y t') ty pos after)).run P w = .ok (.value (.bool true)) w := R_ne_bool_t ht hx hy (by simpa using h)
end
section
variable {t t' : TypeId} {x y : Operand} {a b : ByteArray} (hx : ev E x = .string a) (hy : ev E y = .string b)
include hx hy
theorem R_eq_str_t (h : a.data.toList = b.data.toList) : (execOp (ev E) (mk d (.binOp .eql t x y t') ty pos after)).run P w = .ok (.value (.bool true)) w := by rw [R_eq_str hx hy, decide_eq_true h]
theorem R_eq_str_f (h : ¬ a.data.toList = b.data.toList) : (execOp (ev E) (mk d (.binOp .eql t x y t') ty pos after)).run P w = .ok (.value (.bool false)) w := by rw [R_eq_str hx hy, decide_eq_false h]
theorem R_ne_str_t (h : ¬ a.data.toList = b.data.toList) : (execOp (ev E) (mk d (.binOp .neq t x y t') ty pos after)).run P w = .ok (.value (.bool true)) w := by rw [R_ne_str hx hy, decide_eq_true h]
theorem R_ne_str_f (h : a.data.toList = b.data.toList) : (execOp (ev E) (mk d (.binOp .neq t x y t') ty pos after)).run P w = .ok (.value (.bool false)) w := by rw [R_ne_str hx hy, decide_eq_false (fun n => n h)]
end
end

/-! ### odds and ends -/
abbrev I (x : Int) : Value := .int .i64 x
abbrev U (x : UInt8) : Value := .int .u8 x.toNat

theorem Hp.pop {w0 w : World} {L : List (Nat × Obj)} {b : Nat} {o : Obj} (H : Hp w0 ((b, o) :: L) w) (hb : w0.heap.size ≤ b) : Hp w0 L w :=
  H.drop (List.sublist_cons_self _ _) fun p hp hn => by
    rcases List.mem_cons.1 hp with rfl | hp
    · exact hb
    · exact (hn hp).elim
/-- The block behind the first one, of no more interest. -/
theorem Hp.pop2 {w0 w : World} {L : List (Nat × Obj)} {b : Nat} {p : Nat × Obj} {o : Obj} (H : Hp w0 (p :: (b, o) :: L) w) (hb : w0.heap.size ≤ b) : Hp w0 (p :: L) w :=
  (H.perm (List.Perm.swap _ _ _)).pop hb
theorem Hp.pop3 {w0 w : World} {L : List (Nat × Obj)} {b : Nat} {p q : Nat × Obj} {o : Obj} (H : Hp w0 (p :: q :: (b, o) :: L) w) (hb : w0.heap.size ≤ b) : Hp w0 (p :: q :: L) w :=
  Hp.pop (b := b) (o := o) (H.perm (by
    refine List.Perm.trans (List.Perm.cons p (List.Perm.swap _ _ _)) (List.Perm.swap _ _ _))) hb

theorem ne_of_obj {w : World} {a b : Nat} {x y : Obj} (h1 : w.heap[a]? = some x) (h2 : w.heap[b]? = some y) (h : x ≠ y) : a ≠ b := by
  rintro rfl
  rw [h1] at h2
  exact h (Option.some.inj h2)

section
variable {P : Program} {w : World}
theorem src_blk {tx e' e : TypeId} {sz b m c : Nat} {xs sp : List Value} (hk : P.underlying tx = some (.slice e')) (hb : w.heap[b]? = some (blk (xs ++ sp) e)) (hl : xs.length = m * sz) (h1 : ∀ u ∈ xs, u.oneCell' = true) :
    Src P sz tx (sl b 0 m c) m xs w :=
  Src.ofSlice w hk _ m c xs hl (fun j u hj => by
    rw [add_none, cell_blk hb, Nat.zero_add, List.getElem?_append_left (List.getElem?_eq_some_iff.1 hj).1]
    exact hj) h1
theorem src_one {tx e' e : TypeId} {b c : Nat} {x : Value} {sp : List Value} (hk : P.underlying tx = some (.slice e')) (hb : w.heap[b]? = some (blk (x :: sp) e)) (h1 : x.oneCell' = true) :
    Src P 1 tx (sl b 0 1 c) 1 [x] w := src_blk (xs := [x]) hk hb rfl (by simpa using h1)
/-- cells that are known one by one -/
theorem src_cells {tx e' : TypeId} {sz b off m c : Nat} {xs : List Value} (hk : P.underlying tx = some (.slice e')) (hl : xs.length = m * sz) (hc : ∀ j u, xs[j]? = some u → w.cell? ⟨b, off + j, none⟩ = some u) (h1 : ∀ u ∈ xs, u.oneCell' = true) :
    Src P sz tx (sl b off m c) m xs w :=
  Src.ofSlice w hk _ m c xs hl (fun j u hj => by rw [add_none]; exact hc j u hj) h1
end

theorem OwnS.form {B len sz : Nat} {e : TypeId} {v : Value} {xs : List Value} {M : List (Nat × Obj)} (h : OwnS B e sz v len xs M) : ∃ ao cap, v = .slice ao len cap := by
  rcases h.2 with ⟨rfl, rfl, _⟩ | ⟨b, cap, sp, rfl, _⟩
  · exact ⟨none, 0, rfl⟩
  · exact ⟨_, cap, rfl⟩
theorem OwnS.keys {B len sz : Nat} {e : TypeId} {v : Value} {xs : List Value} {M : List (Nat × Obj)} (h : OwnS B e sz v len xs M) : ∀ p ∈ M, B ≤ p.1 := by
  rcases h.2 with ⟨_, _, rfl⟩ | ⟨b, cap, sp, _, hb, rfl, _⟩
  · intro p hp; cases hp
  · intro p hp; rw [List.mem_singleton.1 hp]; exact hb
/-- The new blocks at the list's end are of no more interest. -/
theorem Hp.cut {w0 w : World} {L M : List (Nat × Obj)} (H : Hp w0 (L ++ M) w) (hM : ∀ p ∈ M, w0.heap.size ≤ p.1) : Hp w0 L w :=
  H.drop (List.sublist_append_left L M) fun p hp hn => by
    rcases List.mem_append.1 hp with hp | hp
    · exact (hn hp).elim
    · exact hM p hp

/-! ### bytes -/
theorem u8_ofNat {n : Nat} : IntKind.u8.wrap (n : Int) = ((UInt8.ofNat n).toNat : Int) := by
  rw [m_u8, UInt8.toNat_ofNat']; omega
theorem u8_add {x y : UInt8} : IntKind.u8.wrap ((x.toNat : Int) + (y.toNat : Int)) = ((x + y).toNat : Int) := by
  rw [m_u8, UInt8.toNat_add]; omega
theorem u8_sub255 {x : UInt8} : IntKind.u8.wrap ((x.toNat : Int) - 255) = ((x + 1).toNat : Int) := by
  rw [m_u8, UInt8.toNat_add, show (1 : UInt8).toNat = 1 from rfl]; omega
theorem u8_ne {x : UInt8} : ((x.toNat : Int) ≠ 0) ↔ x ≠ 0 := by
  constructor
  · rintro h rfl; exact h rfl
  · intro h hn; exact h (UInt8.toNat_inj.1 (by rw [UInt8.toNat_zero]; omega))
theorem u8_eq {x y : UInt8} : ((x.toNat : Int) = (y.toNat : Int)) ↔ x = y := by
  constructor
  · intro h; exact UInt8.toNat_inj.1 (by omega)
  · rintro rfl; rfl
theorem or_bytes (x y : UInt8) : bitsOf .or .i64 ((x.toNat : Int) * 256) (y.toNat : Int) = (x.toNat : Int) * 256 + (y.toNat : Int) := by
  have hx := x.toNat_lt
  have hy := y.toNat_lt
  have e1 : (x.toNat : Int) * 256 = ((x.toNat * 256 : Nat) : Int) := by omega
  have h1 : (BitVec.ofInt 64 ((x.toNat : Int) * 256)).toNat = x.toNat * 256 := by rw [e1]; simp; omega
  have h2 : (BitVec.ofInt 64 (y.toNat : Int)).toNat = y.toNat := by simp
  show IntKind.i64.wrap ((BitVec.ofInt 64 ((x.toNat : Int) * 256) ||| BitVec.ofInt 64 (y.toNat : Int)).toNat : Int) = _
  rw [BitVec.toNat_or, h1, h2]
  have h3 : x.toNat * 256 ||| y.toNat = x.toNat * 256 + y.toNat := by
    have := Nat.two_pow_add_eq_or_of_lt (i := 8) (b := y.toNat) (by omega) x.toNat
    rw [Nat.mul_comm]; exact this.symm
  rw [h3, w_i64 ⟨by omega, by omega⟩]
  omega

/-! ### slices that are only read, whose elements take one cell -/
theorem Hp.cell {w0 w : World} {L : List (Nat × Obj)} (H : Hp w0 L w) {a : Addr} {u : Value} (h : w0.cell? a = some u) (hn : a.block ∉ L.map (·.1)) : w.cell? a = some u := by
  have hlt : a.block < w0.heap.size := by
    rcases Nat.lt_or_ge a.block w0.heap.size with h' | h'
    · exact h'
    · simp [World.cell?, Array.getElem?_eq_none h'] at h
  rw [← h]
  simp only [World.cell?, H.old a.block hlt hn]
theorem Hp.block {w0 w : World} {L : List (Nat × Obj)} (H : Hp w0 L w) {b : Nat} {o : Obj} (h : w0.heap[b]? = some o) (hn : b ∉ L.map (·.1)) : w.heap[b]? = some o := by
  rw [H.old b (lt_of_some h) hn]; exact h

theorem AtM.one {b : Nat} {o : Obj} {B : List (Nat × Obj)} : AtM ((b, o) :: B) [(b, o)] (fun M' => M' ++ B) := AtM.here (M := [(b, o)])
theorem OwnS.pos {B len sz : Nat} {e : TypeId} {v : Value} {xs : List Value} {M : List (Nat × Obj)} (h : OwnS B e sz v len xs M) (h0 : 0 < len) :
    ∃ b cap sp, v = sl b 0 len cap ∧ B ≤ b ∧ M = [(b, blk (xs ++ sp) e)] ∧ sp.length = (cap - len) * sz ∧ len ≤ cap := by
  rcases h.2 with ⟨_, hh, _⟩ | h
  · omega
  · exact h
theorem set_map {xs : List UInt8} {sp : List Value} {j : Nat} {y : UInt8} (h : j < xs.length) : (xs.map U ++ sp).set j (.int .u8 y.toNat) = (xs.set j y).map U ++ sp := by
  rw [List.set_append_left _ _ (by simpa using h), List.map_set]
theorem get_map {xs : List UInt8} {sp : List Value} {j : Nat} (h : j < xs.length) : (xs.map U ++ sp)[j]? = some (U xs[j]) := by
  rw [List.getElem?_append_left (by simpa using h), List.getElem?_map, List.getElem?_eq_getElem h]; rfl
theorem kNil {B : Nat} : ∀ p ∈ ([] : List (Nat × Obj)), B ≤ p.1 := fun _ h => nomatch h
theorem kCons {B b : Nat} {o : Obj} {M : List (Nat × Obj)} (hb : B ≤ b) (h : ∀ p ∈ M, B ≤ p.1) : ∀ p ∈ (b, o) :: M, B ≤ p.1 := fun p hp => by
  rcases List.mem_cons.1 hp with rfl | hp
  · exact hb
  · exact h p hp
theorem kApp {B : Nat} {M N : List (Nat × Obj)} (h : ∀ p ∈ M, B ≤ p.1) (h' : ∀ p ∈ N, B ≤ p.1) : ∀ p ∈ M ++ N, B ≤ p.1 := fun p hp => by
  rcases List.mem_append.1 hp with hp | hp
  · exact h p hp
  · exact h' p hp
theorem Hp.blockN {w0 w : World} {L : List (Nat × Obj)} (H : Hp w0 L w) {b : Nat} {o : Obj} (h : w0.heap[b]? = some o) (hn : ∀ p ∈ L, w0.heap.size ≤ p.1) : w.heap[b]? = some o := by
  refine H.block h fun hm => ?_
  obtain ⟨p, hp, e⟩ := List.mem_map.1 hm
  have := hn p hp
  have := lt_of_some h
  omega
theorem At.app {L : List (Nat × Obj)} {b : Nat} {o : Obj} {f} (M : List (Nat × Obj)) (h : At L b o f) : At (M ++ L) b o (fun o => M ++ f o) := by
  induction M with
  | nil => exact h
  | cons p M ih => exact .there ih
theorem AtM.app {L N : List (Nat × Obj)} {f} (M : List (Nat × Obj)) (h : AtM L N f) : AtM (M ++ L) N (fun N => M ++ f N) := by
  induction M with
  | nil => exact h
  | cons p M ih => exact .there ih
theorem okSeq_all {w : World} : ∀ {M L : List (Nat × Obj)}, (∀ p ∈ M, w.heap.size ≤ p.1) → okSeq w L M (M.reverse ++ L)
  | [], _, _ => rfl
  | (b, o) :: M, L, h => by
    rw [List.reverse_cons, List.append_assoc]
    exact okSeq_new (h _ (.head _)) (okSeq_all fun p hp => h p (.tail _ hp))
/-- What a call leaves that only makes new blocks. -/
theorem Hp.seqN {w0 w w' : World} {L M : List (Nat × Obj)} (H : Hp w0 L w) (H1 : Hp w M w') (hM : ∀ p ∈ M, w.heap.size ≤ p.1) : Hp w0 (M ++ L) w' :=
  (H.seq H1 (okSeq_all hM)).perm (List.reverse_perm M |>.append_right L)
theorem Hp.seqD {w0 w w' : World} {L M : List (Nat × Obj)} (H : Hp w0 L w) (H1 : Hp w M w') (hM : ∀ p ∈ M, w.heap.size ≤ p.1) : Hp w0 L w' :=
  (H.seqN H1 hM).drop (List.sublist_append_right M L) fun p hp hn => by
    rcases List.mem_append.1 hp with hp | hp
    · exact Nat.le_trans H.size (hM p hp)
    · exact (hn hp).elim
theorem OwnS.mono {B B' len sz : Nat} {e : TypeId} {v : Value} {xs : List Value} {M : List (Nat × Obj)} (h : OwnS B e sz v len xs M) (hB : B' ≤ B) : OwnS B' e sz v len xs M := by
  refine ⟨h.1, ?_⟩
  rcases h.2 with h | ⟨b, cap, sp, h1, h2, h3⟩
  · exact .inl h
  · exact .inr ⟨b, cap, sp, h1, Nat.le_trans hB h2, h3⟩
theorem Hp.seq1 {w0 w w' : World} {L : List (Nat × Obj)} {b : Nat} {o : Obj} (H : Hp w0 L w) (hb : w.heap.size ≤ b) (H1 : Hp w [(b, o)] w') : w0.heap.size ≤ b ∧ Hp w0 ((b, o) :: L) w' :=
  ⟨Nat.le_trans H.size hb, H.seq H1 (okSeq_new hb okSeq_nil)⟩
theorem Hp.seqB {w0 w w' : World} {L : List (Nat × Obj)} {b : Nat} {o o' : Obj} (H : Hp w0 L w) (hb : w0.heap[b]? = some o) (hn : ∀ p ∈ L, w0.heap.size ≤ p.1) (H1 : Hp w [(b, o')] w') : Hp w0 ((b, o') :: L) w' :=
  (H.focus (H.blockN hb hn) (fun hm => by
    obtain ⟨p, hp, e⟩ := List.mem_map.1 hm
    have := hn p hp
    have := lt_of_some hb
    omega)).seq H1 (okSeq_set .here okSeq_nil)
theorem Hp.none {w0 w : World} {L : List (Nat × Obj)} (H : Hp w0 L w) (hL : ∀ p ∈ L, w0.heap.size ≤ p.1) : Hp w0 [] w :=
  H.drop (List.nil_sublist _) fun p hp _ => hL p hp
theorem Hp.dropN {w0 w : World} {L M : List (Nat × Obj)} (H : Hp w0 (M ++ L) w) (hM : ∀ p ∈ M, w0.heap.size ≤ p.1) : Hp w0 L w :=
  H.drop (List.sublist_append_right M L) fun p hp hn => by
    rcases List.mem_append.1 hp with hp | hp
    · exact hM p hp
    · exact (hn hp).elim
theorem Hp.seqO {w0 w w' : World} {L M : List (Nat × Obj)} {len sz : Nat} {e : TypeId} {v : Value} {xs : List Value} (H : Hp w0 L w) (hO : OwnS w.heap.size e sz v len xs M) (H1 : Hp w M w') :
    OwnS w0.heap.size e sz v len xs M ∧ Hp w0 (M ++ L) w' := ⟨hO.mono H.size, H.seqN H1 hO.keys⟩
/-- Where all that is in sight is new. -/
theorem Hp.cellN {w0 w : World} {L : List (Nat × Obj)} (H : Hp w0 L w) {a : Addr} {u : Value} (h : w0.cell? a = some u) (hn : ∀ p ∈ L, w0.heap.size ≤ p.1) : w.cell? a = some u := by
  refine H.cell h fun hm => ?_
  obtain ⟨p, hp, e⟩ := List.mem_map.1 hm
  have hlt : a.block < w0.heap.size := by
    rcases Nat.lt_or_ge a.block w0.heap.size with h' | h'
    · exact h'
    · simp [World.cell?, Array.getElem?_eq_none h'] at h
  have := hn p hp
  omega

/-- The slice v reads as xs. -/
def RdS (w : World) (v : Value) (xs : List Value) : Prop :=
  ∃ ao cap, v = .slice ao xs.length cap ∧ xs.length ≤ cap ∧ (xs = [] ∨ ∃ b off, ao = some ⟨b, off, none⟩ ∧ ∀ j u, xs[j]? = some u → w.cell? ⟨b, off + j, none⟩ = some u)

theorem RdS.nil {w : World} : RdS w nilS [] := ⟨none, 0, rfl, Nat.le_refl _, .inl rfl⟩
theorem RdS.blk {w : World} {b off m cap : Nat} {c xs : List Value} {e : TypeId} {fz : Nat × Nat} (hb : w.heap[b]? = some (.cells c.toArray e fz)) (h : (c.drop off).take m = xs) (hm : off + m ≤ c.length) (hc : m ≤ cap) : RdS w (sl b off m cap) xs := by
  have hl : xs.length = m := by subst h; simp; omega
  refine ⟨some ⟨b, off, none⟩, cap, by rw [hl], by omega, .inr ⟨b, off, rfl, fun j u hj => ?_⟩⟩
  rw [cell_blk hb]
  subst h
  rw [List.getElem?_take] at hj
  split at hj
  · rwa [List.getElem?_drop] at hj
  · cases hj
theorem RdS.own {w : World} {B : Nat} {e : TypeId} {v : Value} {m : Nat} {xs : List Value} {M : List (Nat × Obj)} (h : OwnS B e 1 v m xs M) (hM : ∀ p ∈ M, w.heap[p.1]? = some p.2) : RdS w v xs := by
  obtain ⟨hl, h⟩ := h
  rw [Nat.mul_one] at hl
  rcases h with ⟨rfl, rfl, rfl⟩ | ⟨b, cap, sp, rfl, hb, rfl, hs, hc⟩
  · obtain rfl : xs = [] := List.length_eq_zero_iff.1 hl
    exact RdS.nil
  · exact RdS.blk (c := xs ++ sp) (off := 0) (hM _ (.head _)) (by simp [← hl]) (by simp; omega) hc
theorem RdS.cell {w : World} {ao : Option Addr} {m cap i : Nat} {xs : List Value} {u : Value} (h : RdS w (.slice ao m cap) xs) (hi : xs[i]? = some u) : ∃ b off, ao = some ⟨b, off, none⟩ ∧ w.cell? ⟨b, off + i, none⟩ = some u := by
  obtain ⟨ao', cap', e, _, h⟩ := h
  cases e
  rcases h with rfl | ⟨b, off, h1, h2⟩
  · simp at hi
  · exact ⟨b, off, h1, h2 i u hi⟩
theorem RdS.mono {w w' : World} {v : Value} {xs : List Value} {L} (h : RdS w v xs) (H : Hp w L w') (hn : ∀ a m c, v = .slice (some a) m c → a.block ∉ L.map (·.1)) : RdS w' v xs := by
  obtain ⟨ao, cap, rfl, hl, h⟩ := h
  refine ⟨ao, cap, rfl, hl, ?_⟩
  rcases h with h | ⟨b, off, rfl, h⟩
  · exact .inl h
  · exact .inr ⟨b, off, rfl, fun j u hj => H.cell (h j u hj) (hn ⟨b, off, none⟩ _ _ rfl)⟩
theorem RdS.monoN {w w' : World} {v : Value} {xs : List Value} {L} (h : RdS w v xs) (H : Hp w L w') (hn : ∀ p ∈ L, w.heap.size ≤ p.1) : RdS w' v xs := by
  obtain ⟨ao, cap, rfl, hl, h⟩ := h
  refine ⟨ao, cap, rfl, hl, ?_⟩
  rcases h with h | ⟨b, off, rfl, h⟩
  · exact .inl h
  · exact .inr ⟨b, off, rfl, fun j u hj => H.cellN (h j u hj) hn⟩
theorem RdS.same {w w' : World} {v : Value} {xs : List Value} (h : RdS w v xs) (H : Hp w [] w') : RdS w' v xs := h.mono H (fun _ _ _ _ => by simp)
/-- What a slice shows of its first elements. -/
theorem RdS.src {P : Program} {w : World} {tx e' : TypeId} {v : Value} {xs : List Value} (h : RdS w v xs) (hk : P.underlying tx = some (.slice e')) (h1 : ∀ u ∈ xs, u.oneCell' = true) : Src P 1 tx v xs.length xs w := by
  obtain ⟨ao, cap, rfl, hl, h⟩ := h
  rcases h with rfl | ⟨b, off, rfl, h⟩
  · cases ao with
    | none => exact Src.ofNil w hk cap
    | some a => exact Src.ofSlice w hk a 0 cap [] rfl (fun j u hj => by simp at hj) (by simp)
  · exact src_cells hk (by simp) h h1
end Go.Proofs.YthonajikgljgmaaGreat.Fx
