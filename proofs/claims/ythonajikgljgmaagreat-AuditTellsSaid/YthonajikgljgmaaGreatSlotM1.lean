/-
  Processes' slots: their cells; which may be.
-/
import Derived.Test.YthonajikgljgmaaGreatBytM
import Derived.Test.YthonajikgljgmaaGreatRefM
import Derived.Test.YthonajikgljgmaaGreatClone
import Derived.Test.YthonajikgljgmaaGreatFxY
import Derived.Test.YthonajikgljgmaaGreatFxZ
import Derived.Test.YthonajikgljgmaaGreatFxT
import Derived.Test.YthonajikgljgmaaGreatBvA
namespace Go.Proofs.YthonajikgljgmaaGreat.Slot
open Go Go.Proofs Go.Proofs.YthonajikgljgmaaGreat.Fx Go.Proofs.YthonajikgljgmaaGreat.Codec
set_option maxRecDepth 100000
set_option linter.unusedVariables false
set_option linter.unusedSimpArgs false
set_option maxHeartbeats 2000000

/-- a slot -/
structure Pi where
  s : Int
  p : Int
  g : Int
  e : Int
  a : BitVec 64
  b : BitVec 64
  c : BitVec 64
  d : BitVec 64
  f : List Int
  hf : f.length = 8
theorem pi_ext {p q : Pi} (h1 : p.s = q.s) (h2 : p.p = q.p) (h3 : p.g = q.g) (h4 : p.e = q.e) (h5 : p.a = q.a) (h6 : p.b = q.b) (h7 : p.c = q.c) (h8 : p.d = q.d) (h9 : p.f = q.f) : p = q := by
  obtain ⟨a, b, c, d, e, f, g, h, i, _⟩ := p
  obtain ⟨a', b', c', d', e', f', g', h', i', _⟩ := q
  simp only at h1 h2 h3 h4 h5 h6 h7 h8 h9
  subst h1 h2 h3 h4 h5 h6 h7 h8 h9
  rfl
def piC (p : Pi) : List Value := [I p.s, I p.p, I p.g, I p.e, I p.a.toInt, I p.b.toInt, I p.c.toInt, I p.d.toInt] ++ p.f.map fun x => I x
abbrev vP (p : Pi) : Value := .agg (piC p).toArray
def zeroP : Pi := ⟨0, 0, 0, 0, 0, 0, 0, 0, List.replicate 8 0, rfl⟩
theorem piC_len (p : Pi) : (piC p).length = 16 := by simp [piC, p.hf]
theorem piC_all (p : Pi) : ((piC p).drop 0).take 16 = piC p := by rw [List.drop_zero, List.take_of_length_le (by rw [piC_len]; decide)]
theorem piC_one (p : Pi) : ∀ v ∈ piC p, v.oneCell' = true := by
  intro v hv
  simp only [piC, List.mem_append, List.mem_cons, List.mem_map, List.not_mem_nil, or_false] at hv
  rcases hv with (rfl | rfl | rfl | rfl | rfl | rfl | rfl | rfl) | ⟨x, _, rfl⟩ <;> rfl

section
variable {E : Env} {w0 w : World} {L : List (Nat × Obj)} {d : Option Nat} {ty e : TypeId} {pos : String} {after : Array Edge} {x y : Operand} {b : Nat} {p q : Pi} {f : Obj → List (Nat × Obj)} {c : List Value}
theorem ldP (hb : w.heap[b]? = some (blk (piC p) e)) : (loadVar 36 ⟨b, 0, none⟩).run Tryz.prog w = .ok (vP p) w :=
  ldA Tryz.isAgg36 Tryz.sizeOf36 hb (piC_all p) (by rw [piC_len]; decide)
theorem R_loadP (hx : ev E x = ptr b 0) (hb : w.heap[b]? = some (blk (piC p) e)) : (execOp (ev E) (mk d (.load 36 x) ty pos after)).run Tryz.prog w = .ok (.value (vP p)) w :=
  R_loadA Tryz.isAgg36 Tryz.sizeOf36 hx hb (piC_all p) (by rw [piC_len]; decide)
/-- a whole slot over whatever was there -/
theorem E_storeV (H : Hp w0 L w) (hx : ev E x = ptr b 0) (hy : ev E y = vP q) (hL : At L b (blk c e) f) (hc : c.length = 16) :
    ∃ w', Hp w0 (f (blk (piC q) e)) w' ∧ (execOp (ev E) (mk d (.store 36 x y) ty pos after)).run Tryz.prog w = .ok .skip w' := by
  have h := E_storeA (d := d) (ty := ty) (pos := pos) (after := after) (vs := piC q) H (fun w => by rw [piC_len]; exact Tryz.sizeOf36 w) hx hy (piC_one q) hL (by rw [piC_len, hc]; decide)
  rw [List.take_zero, List.nil_append, piC_len, List.drop_of_length_le (by rw [hc]; decide), List.append_nil] at h
  exact h
theorem E_storeP (H : Hp w0 L w) (hx : ev E x = ptr b 0) (hy : ev E y = vP q) (hL : At L b (blk (piC p) e) f) :
    ∃ w', Hp w0 (f (blk (piC q) e)) w' ∧ (execOp (ev E) (mk d (.store 36 x y) ty pos after)).run Tryz.prog w = .ok .skip w' :=
  E_storeV H hx hy hL (piC_len p)
theorem E_allocP (H : Hp w0 L w) : ∃ b w', w0.heap.size ≤ b ∧ Hp w0 ((b, blk (piC zeroP) 36) :: L) w' ∧ (execOp (ev E) (mk d (.alloc 36) ty pos after)).run Tryz.prog w = .ok (.value (ptr b 0)) w' :=
  E_alloc (vs := piC zeroP) H Tryz.zeroValue36 rfl
theorem E_boxP (H : Hp w0 L w) (hx : ev E x = vP q) : ∃ b w', w0.heap.size ≤ b ∧ Hp w0 ((b, blk (piC q) 36) :: L) w' ∧ (execOp (ev E) (mk d (.box 36 x) ty pos after)).run Tryz.prog w = .ok (.value (ptr b 0)) w' :=
  E_box (v := vP q) (vs := piC q) H hx rfl
theorem R_zeroP : (execOp (ev E) (mk d (.build 36 #[]) ty pos after)).run Tryz.prog w = .ok (.value (vP zeroP)) w :=
  R_buildL (places := [(0, 1), (1, 1), (2, 1), (3, 1), (4, 1), (5, 1), (6, 1), (7, 1), (8, 8)]) (vs := piC zeroP) Tryz.underlying36 Tryz.typeInfo36 rfl rfl (by kernel_rfl) rfl rfl rfl
/-- an array of nothing -/
theorem R_zeroArr {P : Program} {t elem : TypeId} {n : Nat} {zs : List Value} {i : TypeInfo} {z : Value} (hu : P.underlying t = some (.array n elem)) (hI : ∀ w, (typeInfo t).run P w = .ok i w) (hE : ∃ j, P.info? elem = some j)
    (hZ : i.zero = some z) (hz : z.cells = zs.toArray) : (execOp (ev E) (mk d (.build t #[]) ty pos after)).run P w = .ok (.value (.agg zs.toArray)) w := by
  obtain ⟨j, hj⟩ := hE
  refine R_build (ps := []) rfl ?_
  unfold Program.built
  rw [info_of_run hI w, hu]
  simp only [hZ, hz, hj]
  rfl
end

/-- none but signals -/
def okB (x : BitVec 64) : Prop := x &&& ~~~ 65534#64 = 0#64
instance (x : BitVec 64) : Decidable (okB x) := by unfold okB; infer_instance
def okP (p : Pi) : Prop := ((1 ≤ p.s ∧ p.s ≤ 3) ∧ (0 ≤ p.p ∧ p.p ≤ 8) ∧ (0 ≤ p.g ∧ p.g ≤ 7) ∧ (0 ≤ p.e ∧ p.e ≤ 255)) ∧
  ((okB p.a ∧ okB p.b ∧ okB p.c ∧ okB p.d) ∧ (p.b &&& 16896#64 = 0#64 ∧ p.c &&& 16896#64 = 0#64 ∧ p.d &&& 16896#64 = 0#64) ∧ p.c &&& p.d = 0#64) ∧
  (∀ x ∈ p.f, 0 ≤ x ∧ x ≤ 12) ∧ ((p.s = 2 ∧ p.a = 0#64 ∧ p.f = List.replicate 8 0) ∨ (¬ p.s = 2 ∧ p.e = 0))
instance (p : Pi) : Decidable (okP p) := by unfold okP; infer_instance
def b8 (n : Int) : UInt8 := UInt8.ofNat n.toNat
theorem u8_b8 {n : Int} (h : 0 ≤ n) : IntKind.u8.wrap n = ((b8 n).toNat : Int) := by
  obtain ⟨m, rfl⟩ : ∃ m : Nat, n = (m : Int) := ⟨n.toNat, by omega⟩
  exact u8_ofNat
def two (x : BitVec 64) : List UInt8 := [UInt8.ofNat (x.toNat / 256), UInt8.ofNat x.toNat]
/-- the first twenty-one bytes -/
def hbs (p : Pi) : List UInt8 := [b8 p.s, b8 p.p, b8 p.g, b8 p.e] ++ two p.a ++ two p.b ++ two p.c ++ two p.d ++ p.f.map b8 ++ [167]
theorem hbs_len (p : Pi) : (hbs p).length = 21 := by simp [hbs, two, p.hf]
/-- a slot's bytes -/
def bytesP (p : Pi) : List UInt8 := hbs p ++ [sumB (hbs p), 0, 0]
theorem bytes_len (p : Pi) : (bytesP p).length = 24 := by simp [bytesP, hbs_len]

theorem in_ret (n lo hi : Int) (w : World) : Ret Tryz.prog 77 #[I n, I lo, I hi] w fun v w' => v = .bool (decide (lo ≤ n ∧ n ≤ hi)) ∧ Hp w [] w' := by
  refine Ret_of_W (args := [_, _, _]) Tryz.func77 rfl Tryz.ntmps77 Tryz.results77 (by simp) ?_
  have H := Hp.refl w
  refine W_seq ?_
  refine W_region_l ?_
  refine WL_stepM rfl (R_as) ?_
  refine WL_nil ?_
  refine W_seq ?_
  refine W_region_l ?_
  refine WL_stepM rfl (R_mv) ?_
  refine WL_stepM rfl (R_mv) ?_
  refine WL_step rfl (R_ge rfl rfl) ?_
  refine WL_stepM rfl (R_mv) ?_
  apply WL_andK 4 10 14 [(11, 14)] H
  case hc => rfl
  case h1 =>
    intro h11
    refine WL_guard_t rfl rfl ?_
    refine WL_stepM rfl (R_mv) ?_
    refine WL_guard_t rfl rfl ?_
    refine WL_stepM rfl (R_mv) ?_
    refine WL_guard_t rfl rfl ?_
    refine WL_step rfl (R_le rfl rfl) ?_
    refine WL_stepM rfl (R_pk_t rfl) ?_
    refine WL_nil ?_
    exact ⟨(same_mov rfl (same_updo rfl (same_mov rfl (same_mov rfl Same.refl)))), rfl, H⟩
  case h0 =>
    intro h11
    refine WL_guard_f rfl rfl (by decide) ?_
    refine WL_guard_f rfl rfl (by decide) ?_
    refine WL_guard_f rfl rfl (by decide) ?_
    refine WL_stepM rfl (R_pk_f rfl) ?_
    refine WL_nil ?_
    exact ⟨(same_mov rfl (same_updo rfl (same_updo rfl (same_updo rfl Same.refl)))), rfl, H⟩
  case h2 =>
    (clear H; intro E11 w11 H)
    refine WL_stepM rfl (R_as) ?_
    refine WL_nil ?_
    refine W_ret ?_
    exact ⟨_, rfl, congrArg Value.bool (decide_eq_decide.2 (by omega)), H⟩
theorem fd_ret (n : Int) (w : World) : Ret Tryz.prog 102 #[I n] w fun v w' => v = .bool (decide (n < 0 ∨ 12 < n)) ∧ Hp w [] w' := by
  refine Ret_of_W (args := [_]) Tryz.func102 rfl Tryz.ntmps102 Tryz.results102 (by simp) ?_
  have H := Hp.refl w
  refine W_seq ?_
  refine W_region_l ?_
  refine WL_stepM rfl (R_as) ?_
  refine WL_nil ?_
  refine W_seq ?_
  refine W_region_l ?_
  refine WL_stepM rfl (R_mv) ?_
  refine WL_step rfl (R_lt rfl rfl) ?_
  refine WL_stepM rfl (R_mv) ?_
  apply WL_orK 3 5 8 [(6, 8)] H
  case hc => rfl
  case h1 =>
    intro h10
    refine WL_guard_t rfl rfl ?_
    refine WL_stepM rfl (R_mv) ?_
    refine WL_guard_t rfl rfl ?_
    refine WL_step rfl (R_gt rfl rfl) ?_
    refine WL_stepM rfl (R_pk_f rfl) ?_
    refine WL_nil ?_
    exact ⟨(same_mov rfl (same_updo rfl (same_mov rfl Same.refl))), rfl, H⟩
  case h0 =>
    intro h10
    refine WL_guard_f rfl rfl (by decide) ?_
    refine WL_guard_f rfl rfl (by decide) ?_
    refine WL_stepM rfl (R_pk_t rfl) ?_
    refine WL_nil ?_
    exact ⟨(same_mov rfl (same_updo rfl (same_updo rfl Same.refl))), rfl, H⟩
  case h2 =>
    (clear H; intro E10 w10 H)
    refine WL_stepM rfl (R_as) ?_
    refine WL_nil ?_
    refine W_ret ?_
    exact ⟨_, rfl, congrArg Value.bool (decide_eq_decide.2 (by omega)), H⟩
theorem bits_ret (x k : BitVec 64) (w : World) : Ret Tryz.prog 101 #[I x.toInt, I k.toInt] w fun v w' => v = .bool (decide (okB x ∧ x &&& k = 0#64)) ∧ Hp w [] w' := by
  refine Ret_of_W (args := [_, _]) Tryz.func101 rfl Tryz.ntmps101 Tryz.results101 (by simp) ?_
  have H := Hp.refl w
  have hm : (65534 : Int) = (65534#64).toInt := rfl
  refine W_seq ?_
  refine W_region_l ?_
  refine WL_stepM rfl (R_as) ?_
  refine WL_nil ?_
  refine W_seq ?_
  refine W_region_l ?_
  refine WL_stepM rfl (R_mv) ?_
  refine WL_step rfl (R_bits rfl rfl (by simp) (bv_andNot x 65534#64)) ?_
  refine WL_step rfl (R_eq rfl rfl) ?_
  refine WL_stepM rfl (R_mv) ?_
  apply WL_andK 5 8 13 [(9, 13)] H
  case hc => rfl
  case h1 =>
    intro h11
    refine WL_guard_t rfl rfl ?_
    refine WL_stepM rfl (R_mv) ?_
    refine WL_guard_t rfl rfl ?_
    refine WL_stepM rfl (R_mv) ?_
    refine WL_guard_t rfl rfl ?_
    refine WL_step rfl (R_bits rfl rfl (by simp) (bv_and x k)) ?_
    refine WL_guard_t rfl rfl ?_
    refine WL_step rfl (R_eq rfl rfl) ?_
    refine WL_stepM rfl (R_pk_t rfl) ?_
    refine WL_nil ?_
    exact ⟨(same_mov rfl (same_updo rfl (same_updo rfl (same_mov rfl (same_mov rfl Same.refl))))), rfl, H⟩
  case h0 =>
    intro h11
    refine WL_guard_f rfl rfl (by decide) ?_
    refine WL_guard_f rfl rfl (by decide) ?_
    refine WL_guard_f rfl rfl (by decide) ?_
    refine WL_guard_f rfl rfl (by decide) ?_
    refine WL_stepM rfl (R_pk_f rfl) ?_
    refine WL_nil ?_
    exact ⟨(same_mov rfl (same_updo rfl (same_updo rfl (same_updo rfl (same_updo rfl Same.refl))))), rfl, H⟩
  case h2 =>
    (clear H; intro E11 w11 H)
    refine WL_stepM rfl (R_as) ?_
    refine WL_nil ?_
    refine W_ret ?_
    exact ⟨_, rfl, congrArg Value.bool (decide_eq_decide.2 (by simp only [okB, bv_zero])), H⟩
theorem signals_ret (x : BitVec 64) (w : World) : Ret Tryz.prog 78 #[I x.toInt] w fun v w' => v = .bool (decide (okB x)) ∧ Hp w [] w' := by
  refine Ret_of_W (args := [_]) Tryz.func78 rfl Tryz.ntmps78 Tryz.results78 (by simp) ?_
  have H := Hp.refl w
  have hge : okB x → 0 ≤ x.toInt := fun h => by
    have := bv_lt h
    rw [bv_small (by simp at this; omega)]
    omega
  refine W_seq ?_
  refine W_region_l ?_
  refine WL_stepM rfl (R_as) ?_
  refine WL_nil ?_
  refine W_seq ?_
  refine W_region_l ?_
  refine WL_stepM rfl (R_mv) ?_
  refine WL_step rfl (R_ge rfl rfl) ?_
  refine WL_stepM rfl (R_mv) ?_
  apply WL_andK 4 5 9 [(6, 9)] H
  case hc => rfl
  case h1 =>
    intro h10
    refine WL_guard_t rfl rfl ?_
    refine WL_stepM rfl (R_mv) ?_
    refine WL_guard_t rfl rfl ?_
    refine WL_step rfl (R_bits rfl rfl (by simp) (bv_andNot x 65534#64)) ?_
    refine WL_guard_t rfl rfl ?_
    refine WL_step rfl (R_eq rfl rfl) ?_
    refine WL_stepM rfl (R_pk_t rfl) ?_
    refine WL_nil ?_
    exact ⟨(same_mov rfl (same_updo rfl (same_updo rfl (same_mov rfl Same.refl)))), rfl, H⟩
  case h0 =>
    intro h10
    refine WL_guard_f rfl rfl (by decide) ?_
    refine WL_guard_f rfl rfl (by decide) ?_
    refine WL_guard_f rfl rfl (by decide) ?_
    refine WL_stepM rfl (R_pk_f rfl) ?_
    refine WL_nil ?_
    exact ⟨(same_mov rfl (same_updo rfl (same_updo rfl (same_updo rfl Same.refl)))), rfl, H⟩
  case h2 =>
    (clear H; intro E10 w10 H)
    refine WL_stepM rfl (R_as) ?_
    refine WL_nil ?_
    refine W_ret ?_
    exact ⟨_, rfl, congrArg Value.bool (decide_eq_decide.2 (by rw [bv_zero]; exact ⟨fun h => h.2, fun h => ⟨hge h, h⟩⟩)), H⟩

theorem indexFunc_ret {xs : List Int} {w : World} {l : Value} (hl : RdS w l (xs.map fun x => I x)) (hb : xs.length ≤ 9223372036854775807) :
    Ret Tryz.prog 75 #[l, .func (.func 102) #[] #[]] w fun v w' => ∃ r : Int, v = I r ∧ (0 ≤ r ↔ ∃ x ∈ xs, x < 0 ∨ 12 < x) ∧ Hp w [] w' := by
  refine Ret_of_W (args := [_, _]) Tryz.func75 rfl Tryz.ntmps75 Tryz.results75 (by simp) ?_
  have H := Hp.refl w
  obtain ⟨ao, ca, rfl, hca, hra⟩ := id hl
  simp only [List.length_map] at hl ⊢
  refine W_seq ?_
  refine W_region_l ?_
  refine WL_stepM rfl (R_as) ?_
  refine WL_nil ?_
  refine W_seq ?_
  refine W_seq ?_
  refine W_region_l ?_
  refine WL_stepM rfl (R_mv) ?_
  refine WL_step rfl (R_len_slice Tryz.underlying52 rfl) ?_
  refine WL_stepM rfl (R_mv) ?_
  refine WL_nil ?_
  refine W_block ?_
  refine W_loop (fun (i : Nat) E w' => i ≤ xs.length ∧ E 0 = .slice ao xs.length ca ∧ E 1 = .func (.func 102) #[] #[] ∧ E 7 = I xs.length ∧ E 8 = I i ∧ (∀ x ∈ xs.take i, ¬ (x < 0 ∨ 12 < x)) ∧ Hp w [] w') (fun i => xs.length - i) 0 ?_ ?_
  · exact ⟨by omega, rfl, rfl, rfl, rfl, (by simp), H⟩
  · (clear H; rintro i E w1 ⟨hi, h0, h1, h2, h3, hz, H⟩; refine W_know4 h0 h1 h2 h3 ?_; by_cases hlt : i < xs.length)
    · refine W_seq ?_
      refine W_region_l ?_
      refine WL_step rfl (R_lt_t rfl rfl (by omega)) ?_
      refine WL_nil ?_
      refine W_seq ?_
      refine W_cond_t rfl ?_
      refine W_skip ?_
      refine W_seq ?_
      refine W_block ?_
      refine W_seq ?_
      refine W_region_l ?_
      refine WL_stepM rfl (R_mv) ?_
      refine WL_stepM rfl (R_as) ?_
      refine WL_nil ?_
      refine W_seq ?_
      (obtain ⟨b1, o1, rfl, hc1⟩ := hl.cell (i := i) (u := I xs[i]) (by rw [List.getElem?_map, List.getElem?_eq_getElem (by omega)]; rfl); refine W_region_l ?_)
      refine WL_stepM rfl (R_mv) ?_
      refine WL_stepM rfl (R_mv) ?_
      refine WL_stepM rfl (R_mv) ?_
      refine WL_step rfl (R_indexAddr Tryz.underlying52 Tryz.sizeOf3 rfl rfl (by omega) (by omega) idx_cast1) ?_
      refine WL_step rfl (R_load_cell Tryz.isAgg3 rfl (H.cell hc1 (by simp))) ?_
      (refine WL_call rfl (R_call rfl Tryz.call102 rfl) (fd_ret _ _) ?_; rintro _ w37 ⟨rfl, H1⟩; replace H := H.seq0 H1; clear H1)
      refine WL_nil ?_
      refine W_if rfl (fun hne => ?_) (fun hne => ?_)
      · refine W_seq ?_
        refine W_region_l ?_
        refine WL_stepM rfl (R_mv) ?_
        refine WL_stepM rfl (R_as) ?_
        refine WL_nil ?_
        refine W_ret ?_
        (exact ⟨_, rfl, _, rfl, ⟨fun _ => ⟨xs[i], List.getElem_mem hlt, hne⟩, fun _ => by omega⟩, H⟩)
      · refine W_skip ?_
        refine W_region_l ?_
        refine WL_step rfl (R_add rfl rfl (w_i64 (by omega))) ?_
        refine WL_stepM rfl (R_mv) ?_
        refine WL_nil ?_
        (exact ⟨i + 1, by omega, by omega, rfl, rfl, rfl, rfl, (by intro x hx; rw [List.take_succ_eq_append_getElem hlt] at hx; rcases List.mem_append.1 hx with hx | hx; exact hz x hx; rw [List.mem_singleton.1 hx]; exact hne), H⟩)
    · refine W_seq ?_
      refine W_region_l ?_
      refine WL_step rfl (R_lt_f rfl rfl (by omega)) ?_
      refine WL_nil ?_
      refine W_seq ?_
      refine W_cond_f rfl ?_
      refine W_exit ?_
      refine (if_pos rfl).mpr ?_
      refine W_seq ?_
      refine W_region_l ?_
      refine WL_stepM rfl (R_as) ?_
      refine WL_nil ?_
      refine W_ret ?_
      exact ⟨_, rfl, _, rfl, ⟨fun h => by omega, fun ⟨x, hx, hn⟩ => (hz x (by rw [List.take_of_length_le (by omega)]; exact hx) hn).elim⟩, H⟩
theorem containsFunc_ret {xs : List Int} {w : World} {l : Value} (hl : RdS w l (xs.map fun x => I x)) (hb : xs.length ≤ 9223372036854775807) :
    Ret Tryz.prog 52 #[l, .func (.func 102) #[] #[]] w fun v w' => v = .bool (decide (∃ x ∈ xs, x < 0 ∨ 12 < x)) ∧ Hp w [] w' := by
  refine Ret_of_W (args := [_, _]) Tryz.func52 rfl Tryz.ntmps52 Tryz.results52 (by simp) ?_
  have H := Hp.refl w
  refine W_seq ?_
  refine W_region_l ?_
  refine WL_stepM rfl (R_as) ?_
  refine WL_nil ?_
  refine W_seq ?_
  refine W_region_l ?_
  refine WL_stepM rfl (R_mv) ?_
  refine WL_stepM rfl (R_mv) ?_
  (refine WL_call rfl (R_call rfl Tryz.call75 rfl) (indexFunc_ret hl hb) ?_; rintro _ w9 ⟨r, rfl, hr, H1⟩; replace H := H.seq0 H1; clear H1)
  refine WL_step rfl (R_ge rfl rfl) ?_
  refine WL_stepM rfl (R_as) ?_
  refine WL_nil ?_
  refine W_ret ?_
  exact ⟨_, rfl, congrArg Value.bool (decide_eq_decide.2 hr), H⟩
end Go.Proofs.YthonajikgljgmaaGreat.Slot

/-
  Which slots may be.
-/
namespace Go.Proofs.YthonajikgljgmaaGreat.Slot
open Go Go.Proofs Go.Proofs.YthonajikgljgmaaGreat.Fx Go.Proofs.YthonajikgljgmaaGreat.Codec
set_option maxRecDepth 100000
set_option linter.unusedVariables false
set_option linter.unusedSimpArgs false
set_option maxHeartbeats 2000000

theorem hfd (p : Pi) : ((piC p).drop 8).take 8 = p.f.map fun x => I x := by
  unfold piC
  rw [List.drop_left' (by simp), List.take_of_length_le (by simp [p.hf])]
theorem zip_rep {k : IntKind} : ∀ (n : Nat) (l : List Int), l.length = n → List.zipWith Value.int (List.replicate n k) l = l.map (Value.int k)
  | 0, [], _ => rfl
  | n + 1, a :: l, h => by rw [List.replicate_succ, List.zipWith_cons_cons, List.map_cons, zip_rep n l (by simpa using h)]
theorem eq_fds : EqC Tryz.prog 34 (List.replicate 8 .i64) true 2 :=
  EqC.array (EqC.int Tryz.isAgg3 Tryz.sizeOf3 Tryz.underlying3) Tryz.isAgg34 Tryz.sizeOf34 Tryz.underlying34 (info_of_run Tryz.typeInfo3 default) (by kernel_rfl) rfl
theorem R_eq_fds {E : Env} {w : World} {d : Option Nat} {ty : TypeId} {pos : String} {after : Array Edge} {t' : TypeId} {x y : Operand} {f g : List Int} (hf : f.length = 8) (hg : g.length = 8) (hx : ev E x = .agg (f.map fun x => I x).toArray) (hy : ev E y = .agg (g.map fun x => I x).toArray)
    : (execOp (ev E) (mk d (.binOp .eql 34 x y t') ty pos after)).run Tryz.prog w = .ok (.value (.bool (decide (f = g)))) w :=
  R_eq_C eq_fds (by decide) (by kernel_rfl) hx hy (zip_rep 8 f hf).symm (zip_rep 8 g hg).symm (by rw [hf]; rfl) (by rw [hg]; rfl)

theorem mid_of {a b c d : BitVec 64} (h : ¬((((¬(okB a ∧ a &&& 0#64 = 0#64) ∨ ¬(okB b ∧ b &&& 16896#64 = 0#64)) ∨ ¬(okB c ∧ c &&& 16896#64 = 0#64)) ∨ ¬(okB d ∧ d &&& 16896#64 = 0#64)) ∨ (c &&& d).toInt ≠ 0)) :
    (okB a ∧ okB b ∧ okB c ∧ okB d) ∧ (b &&& 16896#64 = 0#64 ∧ c &&& 16896#64 = 0#64 ∧ d &&& 16896#64 = 0#64) ∧ c &&& d = 0#64 := by
  have h5 : c &&& d = 0#64 := bv_zero.1 (Classical.byContradiction fun hn => h (.inr hn))
  have h1 : okB a ∧ a &&& 0#64 = 0#64 := Classical.byContradiction fun hn => h (.inl (.inl (.inl (.inl hn))))
  have h2 : okB b ∧ b &&& 16896#64 = 0#64 := Classical.byContradiction fun hn => h (.inl (.inl (.inl (.inr hn))))
  have h3 : okB c ∧ c &&& 16896#64 = 0#64 := Classical.byContradiction fun hn => h (.inl (.inl (.inr hn)))
  have h4 : okB d ∧ d &&& 16896#64 = 0#64 := Classical.byContradiction fun hn => h (.inl (.inr hn))
  exact ⟨⟨h1.1, h2.1, h3.1, h4.1⟩, ⟨h2.2, h3.2, h4.2⟩, h5⟩

theorem ok_ret (p : Pi) (w : World) : Ret Tryz.prog 94 #[vP p] w fun v w' => v = .bool (decide (okP p)) ∧ Hp w [] w' := by
  refine Ret_of_W (args := [_]) Tryz.func94 rfl Tryz.ntmps94 Tryz.results94 (by simp) ?_
  have H := Hp.refl w
  have hz8 : (List.replicate 8 (0 : Int)).length = 8 := rfl
  refine W_seq ?_
  refine W_region_l ?_
  (refine WL_effn rfl (E_boxP H rfl) ?_; clear H; intro bx w3 hbx H)
  refine WL_stepM rfl (R_as) ?_
  refine WL_nil ?_
  refine W_seq ?_
  refine W_seq ?_
  refine W_region_l ?_
  refine WL_step rfl (R_fieldAddr (off' := 0) Tryz.underlying36 rfl Tryz.sizeOf3 (by decide) rfl rfl) ?_
  refine WL_step rfl (R_load Tryz.isAgg3 rfl (H.get .here) rfl) ?_
  refine WL_step rfl (R_lt rfl rfl) ?_
  refine WL_stepM rfl (R_mv) ?_
  apply WL_orK 4 6 10 [(7, 10)] H
  case hc => rfl
  case h1 =>
    intro h13
    refine WL_guard_t rfl rfl ?_
    refine WL_step rfl (R_fieldAddr (off' := 0) Tryz.underlying36 rfl Tryz.sizeOf3 (by decide) rfl rfl) ?_
    refine WL_guard_t rfl rfl ?_
    refine WL_step rfl (R_load Tryz.isAgg3 rfl (H.get .here) rfl) ?_
    refine WL_guard_t rfl rfl ?_
    refine WL_step rfl (R_gt rfl rfl) ?_
    refine WL_stepM rfl (R_pk_f rfl) ?_
    refine WL_nil ?_
    exact ⟨(same_mov rfl (same_updo rfl (same_updo rfl (same_updo rfl Same.refl)))), rfl, H⟩
  case h0 =>
    intro h13
    refine WL_guard_f rfl rfl (by decide) ?_
    refine WL_guard_f rfl rfl (by decide) ?_
    refine WL_guard_f rfl rfl (by decide) ?_
    refine WL_stepM rfl (R_pk_t rfl) ?_
    refine WL_nil ?_
    exact ⟨(same_mov rfl (same_updo rfl (same_updo rfl (same_updo rfl Same.refl)))), rfl, H⟩
  case h2 =>
    (clear H; intro E13 w13 H)
    refine WL_stepM rfl (R_mv) ?_
    apply WL_orK 4 11 15 [(12, 15)] H
    case hc => rfl
    case h1 =>
      intro h30
      refine WL_guard_t rfl rfl ?_
      refine WL_step rfl (R_fieldAddr (off' := 1) Tryz.underlying36 rfl Tryz.sizeOf3 (by decide) rfl rfl) ?_
      refine WL_guard_t rfl rfl ?_
      refine WL_step rfl (R_load Tryz.isAgg3 rfl (H.get .here) rfl) ?_
      refine WL_guard_t rfl rfl ?_
      refine WL_step rfl (R_lt rfl rfl) ?_
      refine WL_stepM rfl (R_pk_f rfl) ?_
      refine WL_nil ?_
      exact ⟨(same_mov rfl (same_updo rfl (same_updo rfl (same_updo rfl Same.refl)))), rfl, H⟩
    case h0 =>
      intro h30
      refine WL_guard_f rfl rfl (by decide) ?_
      refine WL_guard_f rfl rfl (by decide) ?_
      refine WL_guard_f rfl rfl (by decide) ?_
      refine WL_stepM rfl (R_pk_t rfl) ?_
      refine WL_nil ?_
      exact ⟨(same_mov rfl (same_updo rfl (same_updo rfl (same_updo rfl Same.refl)))), rfl, H⟩
    case h2 =>
      (clear H; intro E30 w30 H)
      refine WL_stepM rfl (R_mv) ?_
      apply WL_orK 4 16 20 [(17, 20)] H
      case hc => rfl
      case h1 =>
        intro h47
        refine WL_guard_t rfl rfl ?_
        refine WL_step rfl (R_fieldAddr (off' := 1) Tryz.underlying36 rfl Tryz.sizeOf3 (by decide) rfl rfl) ?_
        refine WL_guard_t rfl rfl ?_
        refine WL_step rfl (R_load Tryz.isAgg3 rfl (H.get .here) rfl) ?_
        refine WL_guard_t rfl rfl ?_
        refine WL_step rfl (R_gt rfl rfl) ?_
        refine WL_stepM rfl (R_pk_f rfl) ?_
        refine WL_nil ?_
        exact ⟨(same_mov rfl (same_updo rfl (same_updo rfl (same_updo rfl Same.refl)))), rfl, H⟩
      case h0 =>
        intro h47
        refine WL_guard_f rfl rfl (by decide) ?_
        refine WL_guard_f rfl rfl (by decide) ?_
        refine WL_guard_f rfl rfl (by decide) ?_
        refine WL_stepM rfl (R_pk_t rfl) ?_
        refine WL_nil ?_
        exact ⟨(same_mov rfl (same_updo rfl (same_updo rfl (same_updo rfl Same.refl)))), rfl, H⟩
      case h2 =>
        (clear H; intro E47 w47 H)
        refine WL_stepM rfl (R_mv) ?_
        apply WL_orK 4 21 25 [(22, 25)] H
        case hc => rfl
        case h1 =>
          intro h64
          refine WL_guard_t rfl rfl ?_
          refine WL_step rfl (R_fieldAddr (off' := 2) Tryz.underlying36 rfl Tryz.sizeOf3 (by decide) rfl rfl) ?_
          refine WL_guard_t rfl rfl ?_
          refine WL_step rfl (R_load Tryz.isAgg3 rfl (H.get .here) rfl) ?_
          refine WL_guard_t rfl rfl ?_
          refine WL_step rfl (R_lt rfl rfl) ?_
          refine WL_stepM rfl (R_pk_f rfl) ?_
          refine WL_nil ?_
          exact ⟨(same_mov rfl (same_updo rfl (same_updo rfl (same_updo rfl Same.refl)))), rfl, H⟩
        case h0 =>
          intro h64
          refine WL_guard_f rfl rfl (by decide) ?_
          refine WL_guard_f rfl rfl (by decide) ?_
          refine WL_guard_f rfl rfl (by decide) ?_
          refine WL_stepM rfl (R_pk_t rfl) ?_
          refine WL_nil ?_
          exact ⟨(same_mov rfl (same_updo rfl (same_updo rfl (same_updo rfl Same.refl)))), rfl, H⟩
        case h2 =>
          (clear H; intro E64 w64 H)
          refine WL_stepM rfl (R_mv) ?_
          apply WL_orK 4 26 30 [(27, 30)] H
          case hc => rfl
          case h1 =>
            intro h81
            refine WL_guard_t rfl rfl ?_
            refine WL_step rfl (R_fieldAddr (off' := 2) Tryz.underlying36 rfl Tryz.sizeOf3 (by decide) rfl rfl) ?_
            refine WL_guard_t rfl rfl ?_
            refine WL_step rfl (R_load Tryz.isAgg3 rfl (H.get .here) rfl) ?_
            refine WL_guard_t rfl rfl ?_
            refine WL_step rfl (R_ge rfl rfl) ?_
            refine WL_stepM rfl (R_pk_f rfl) ?_
            refine WL_nil ?_
            exact ⟨(same_mov rfl (same_updo rfl (same_updo rfl (same_updo rfl Same.refl)))), rfl, H⟩
          case h0 =>
            intro h81
            refine WL_guard_f rfl rfl (by decide) ?_
            refine WL_guard_f rfl rfl (by decide) ?_
            refine WL_guard_f rfl rfl (by decide) ?_
            refine WL_stepM rfl (R_pk_t rfl) ?_
            refine WL_nil ?_
            exact ⟨(same_mov rfl (same_updo rfl (same_updo rfl (same_updo rfl Same.refl)))), rfl, H⟩
          case h2 =>
            (clear H; intro E81 w81 H)
            refine WL_stepM rfl (R_mv) ?_
            apply WL_orK 4 31 35 [(32, 35)] H
            case hc => rfl
            case h1 =>
              intro h98
              refine WL_guard_t rfl rfl ?_
              refine WL_step rfl (R_fieldAddr (off' := 3) Tryz.underlying36 rfl Tryz.sizeOf3 (by decide) rfl rfl) ?_
              refine WL_guard_t rfl rfl ?_
              refine WL_step rfl (R_load Tryz.isAgg3 rfl (H.get .here) rfl) ?_
              refine WL_guard_t rfl rfl ?_
              refine WL_step rfl (R_lt rfl rfl) ?_
              refine WL_stepM rfl (R_pk_f rfl) ?_
              refine WL_nil ?_
              exact ⟨(same_mov rfl (same_updo rfl (same_updo rfl (same_updo rfl Same.refl)))), rfl, H⟩
            case h0 =>
              intro h98
              refine WL_guard_f rfl rfl (by decide) ?_
              refine WL_guard_f rfl rfl (by decide) ?_
              refine WL_guard_f rfl rfl (by decide) ?_
              refine WL_stepM rfl (R_pk_t rfl) ?_
              refine WL_nil ?_
              exact ⟨(same_mov rfl (same_updo rfl (same_updo rfl (same_updo rfl Same.refl)))), rfl, H⟩
            case h2 =>
              (clear H; intro E98 w98 H)
              refine WL_stepM rfl (R_mv) ?_
              apply WL_orK 4 36 40 [(37, 40)] H
              case hc => rfl
              case h1 =>
                intro h115
                refine WL_guard_t rfl rfl ?_
                refine WL_step rfl (R_fieldAddr (off' := 3) Tryz.underlying36 rfl Tryz.sizeOf3 (by decide) rfl rfl) ?_
                refine WL_guard_t rfl rfl ?_
                refine WL_step rfl (R_load Tryz.isAgg3 rfl (H.get .here) rfl) ?_
                refine WL_guard_t rfl rfl ?_
                refine WL_step rfl (R_gt rfl rfl) ?_
                refine WL_stepM rfl (R_pk_f rfl) ?_
                refine WL_nil ?_
                exact ⟨(same_mov rfl (same_updo rfl (same_updo rfl (same_updo rfl Same.refl)))), rfl, H⟩
              case h0 =>
                intro h115
                refine WL_guard_f rfl rfl (by decide) ?_
                refine WL_guard_f rfl rfl (by decide) ?_
                refine WL_guard_f rfl rfl (by decide) ?_
                refine WL_stepM rfl (R_pk_t rfl) ?_
                refine WL_nil ?_
                exact ⟨(same_mov rfl (same_updo rfl (same_updo rfl (same_updo rfl Same.refl)))), rfl, H⟩
              case h2 =>
                (clear H; intro E115 w115 H)
                refine WL_nil ?_
                refine W_if rfl (fun h132 => ?_) (fun h132 => ?_)
                · refine W_seq ?_
                  refine W_region_l ?_
                  refine WL_stepM rfl (R_as) ?_
                  refine WL_nil ?_
                  refine W_ret ?_
                  exact ⟨_, rfl, congrArg Value.bool (decide_eq_false (fun h => by simp only [okP] at h; omega)).symm, H.none (by repeat' first | exact kNil | apply kCons | apply kApp | assumption | exact OwnS.keys (by assumption))⟩
                · refine W_skip ?_
                  refine W_seq ?_
                  refine W_seq ?_
                  refine W_region_l ?_
                  refine WL_step rfl (R_fieldAddr (off' := 4) Tryz.underlying36 rfl Tryz.sizeOf3 (by decide) rfl rfl) ?_
                  refine WL_step rfl (R_load Tryz.isAgg3 rfl (H.get .here) rfl) ?_
                  (refine WL_call rfl (R_call rfl Tryz.call101 rfl) (bits_ret _ 0#64 _) ?_; rintro _ w145 ⟨rfl, H1⟩; replace H := H.seq0 H1; clear H1)
                  refine WL_step rfl (R_not_d rfl) ?_
                  refine WL_stepM rfl (R_mv) ?_
                  apply WL_orK 5 45 50 [(46, 50)] H
                  case hc => rfl
                  case h1 =>
                    intro h148
                    refine WL_guard_t rfl rfl ?_
                    refine WL_step rfl (R_fieldAddr (off' := 5) Tryz.underlying36 rfl Tryz.sizeOf3 (by decide) rfl rfl) ?_
                    refine WL_guard_t rfl rfl ?_
                    refine WL_step rfl (R_load Tryz.isAgg3 rfl (H.get .here) rfl) ?_
                    refine WL_guard_t rfl rfl ?_
                    (refine WL_call rfl (R_call rfl Tryz.call101 rfl) (bits_ret _ 16896#64 _) ?_; rintro _ w154 ⟨rfl, H1⟩; replace H := H.seq0 H1; clear H1)
                    refine WL_guard_t rfl rfl ?_
                    refine WL_step rfl (R_not_d rfl) ?_
                    refine WL_stepM rfl (R_pk_f rfl) ?_
                    refine WL_nil ?_
                    exact ⟨(same_mov rfl (same_updo rfl (same_updo rfl (same_updo rfl (same_updo rfl Same.refl))))), rfl, H⟩
                  case h0 =>
                    intro h148
                    refine WL_guard_f rfl rfl (by decide) ?_
                    refine WL_guard_f rfl rfl (by decide) ?_
                    refine WL_guard_f rfl rfl (by decide) ?_
                    refine WL_guard_f rfl rfl (by decide) ?_
                    refine WL_stepM rfl (R_pk_t rfl) ?_
                    refine WL_nil ?_
                    exact ⟨(same_mov rfl (same_updo rfl (same_updo rfl (same_updo rfl (same_updo rfl Same.refl))))), rfl, H⟩
                  case h2 =>
                    (clear H; intro E148 w148 H)
                    refine WL_stepM rfl (R_mv) ?_
                    apply WL_orK 5 51 56 [(52, 56)] H
                    case hc => rfl
                    case h1 =>
                      intro h168
                      refine WL_guard_t rfl rfl ?_
                      refine WL_step rfl (R_fieldAddr (off' := 6) Tryz.underlying36 rfl Tryz.sizeOf3 (by decide) rfl rfl) ?_
                      refine WL_guard_t rfl rfl ?_
                      refine WL_step rfl (R_load Tryz.isAgg3 rfl (H.get .here) rfl) ?_
                      refine WL_guard_t rfl rfl ?_
                      (refine WL_call rfl (R_call rfl Tryz.call101 rfl) (bits_ret _ 16896#64 _) ?_; rintro _ w174 ⟨rfl, H1⟩; replace H := H.seq0 H1; clear H1)
                      refine WL_guard_t rfl rfl ?_
                      refine WL_step rfl (R_not_d rfl) ?_
                      refine WL_stepM rfl (R_pk_f rfl) ?_
                      refine WL_nil ?_
                      exact ⟨(same_mov rfl (same_updo rfl (same_updo rfl (same_updo rfl (same_updo rfl Same.refl))))), rfl, H⟩
                    case h0 =>
                      intro h168
                      refine WL_guard_f rfl rfl (by decide) ?_
                      refine WL_guard_f rfl rfl (by decide) ?_
                      refine WL_guard_f rfl rfl (by decide) ?_
                      refine WL_guard_f rfl rfl (by decide) ?_
                      refine WL_stepM rfl (R_pk_t rfl) ?_
                      refine WL_nil ?_
                      exact ⟨(same_mov rfl (same_updo rfl (same_updo rfl (same_updo rfl (same_updo rfl Same.refl))))), rfl, H⟩
                    case h2 =>
                      (clear H; intro E168 w168 H)
                      refine WL_stepM rfl (R_mv) ?_
                      apply WL_orK 5 57 62 [(58, 62)] H
                      case hc => rfl
                      case h1 =>
                        intro h188
                        refine WL_guard_t rfl rfl ?_
                        refine WL_step rfl (R_fieldAddr (off' := 7) Tryz.underlying36 rfl Tryz.sizeOf3 (by decide) rfl rfl) ?_
                        refine WL_guard_t rfl rfl ?_
                        refine WL_step rfl (R_load Tryz.isAgg3 rfl (H.get .here) rfl) ?_
                        refine WL_guard_t rfl rfl ?_
                        (refine WL_call rfl (R_call rfl Tryz.call101 rfl) (bits_ret _ 16896#64 _) ?_; rintro _ w194 ⟨rfl, H1⟩; replace H := H.seq0 H1; clear H1)
                        refine WL_guard_t rfl rfl ?_
                        refine WL_step rfl (R_not_d rfl) ?_
                        refine WL_stepM rfl (R_pk_f rfl) ?_
                        refine WL_nil ?_
                        exact ⟨(same_mov rfl (same_updo rfl (same_updo rfl (same_updo rfl (same_updo rfl Same.refl))))), rfl, H⟩
                      case h0 =>
                        intro h188
                        refine WL_guard_f rfl rfl (by decide) ?_
                        refine WL_guard_f rfl rfl (by decide) ?_
                        refine WL_guard_f rfl rfl (by decide) ?_
                        refine WL_guard_f rfl rfl (by decide) ?_
                        refine WL_stepM rfl (R_pk_t rfl) ?_
                        refine WL_nil ?_
                        exact ⟨(same_mov rfl (same_updo rfl (same_updo rfl (same_updo rfl (same_updo rfl Same.refl))))), rfl, H⟩
                      case h2 =>
                        (clear H; intro E188 w188 H)
                        refine WL_stepM rfl (R_mv) ?_
                        apply WL_orK 7 63 70 [(64, 70)] H
                        case hc => rfl
                        case h1 =>
                          intro h208
                          refine WL_guard_t rfl rfl ?_
                          refine WL_step rfl (R_fieldAddr (off' := 6) Tryz.underlying36 rfl Tryz.sizeOf3 (by decide) rfl rfl) ?_
                          refine WL_guard_t rfl rfl ?_
                          refine WL_step rfl (R_load Tryz.isAgg3 rfl (H.get .here) rfl) ?_
                          refine WL_guard_t rfl rfl ?_
                          refine WL_step rfl (R_fieldAddr (off' := 7) Tryz.underlying36 rfl Tryz.sizeOf3 (by decide) rfl rfl) ?_
                          refine WL_guard_t rfl rfl ?_
                          refine WL_step rfl (R_load Tryz.isAgg3 rfl (H.get .here) rfl) ?_
                          refine WL_guard_t rfl rfl ?_
                          refine WL_step rfl (R_bits rfl rfl (by simp) (bv_and p.c p.d)) ?_
                          refine WL_guard_t rfl rfl ?_
                          refine WL_step rfl (R_ne rfl rfl) ?_
                          refine WL_stepM rfl (R_pk_f rfl) ?_
                          refine WL_nil ?_
                          exact ⟨(same_mov rfl (same_updo rfl (same_updo rfl (same_updo rfl (same_updo rfl (same_updo rfl (same_updo rfl Same.refl))))))), rfl, H⟩
                        case h0 =>
                          intro h208
                          refine WL_guard_f rfl rfl (by decide) ?_
                          refine WL_guard_f rfl rfl (by decide) ?_
                          refine WL_guard_f rfl rfl (by decide) ?_
                          refine WL_guard_f rfl rfl (by decide) ?_
                          refine WL_guard_f rfl rfl (by decide) ?_
                          refine WL_guard_f rfl rfl (by decide) ?_
                          refine WL_stepM rfl (R_pk_t rfl) ?_
                          refine WL_nil ?_
                          exact ⟨(same_mov rfl (same_updo rfl (same_updo rfl (same_updo rfl (same_updo rfl (same_updo rfl (same_updo rfl Same.refl))))))), rfl, H⟩
                        case h2 =>
                          (clear H; intro E208 w208 H)
                          refine WL_nil ?_
                          refine W_if rfl (fun h234 => ?_) (fun h234 => ?_)
                          · refine W_seq ?_
                            refine W_region_l ?_
                            refine WL_stepM rfl (R_as) ?_
                            refine WL_nil ?_
                            refine W_ret ?_
                            exact ⟨_, rfl, congrArg Value.bool (decide_eq_false (fun h => by have h2 := h.2.1; simp_all [bv_zero])).symm, H.none (by repeat' first | exact kNil | apply kCons | apply kApp | assumption | exact OwnS.keys (by assumption))⟩
                          · refine W_skip ?_
                            refine W_seq ?_
                            refine W_seq ?_
                            refine W_region_l ?_
                            refine WL_step rfl (R_fieldAddr (off' := 8) Tryz.underlying36 rfl Tryz.sizeOf34 (by decide) rfl rfl) ?_
                            refine WL_step rfl (R_all Tryz.underlying34 Tryz.sizeOf3 rfl (by decide)) ?_
                            (refine WL_call rfl (R_call rfl Tryz.call52 rfl) (containsFunc_ret (xs := p.f) (RdS.blk (c := piC p) (off := 8) (H.get .here) (hfd p) (by rw [piC_len]; decide) (by decide)) (by rw [p.hf]; decide)) ?_; rintro _ w247 ⟨rfl, H1⟩; replace H := H.seq0 H1; clear H1)
                            refine WL_nil ?_
                            refine W_if rfl (fun h249 => ?_) (fun h249 => ?_)
                            · refine W_seq ?_
                              refine W_region_l ?_
                              refine WL_stepM rfl (R_as) ?_
                              refine WL_nil ?_
                              refine W_ret ?_
                              exact ⟨_, rfl, congrArg Value.bool (decide_eq_false (fun h => by obtain ⟨x, hx, hn⟩ := ‹∃ x ∈ p.f, _›; have := h.2.2.1 x hx; omega)).symm, H.none (by repeat' first | exact kNil | apply kCons | apply kApp | assumption | exact OwnS.keys (by assumption))⟩
                            · refine W_skip ?_
                              refine W_seq ?_
                              refine W_seq ?_
                              refine W_region_l ?_
                              refine WL_step rfl (R_fieldAddr (off' := 0) Tryz.underlying36 rfl Tryz.sizeOf3 (by decide) rfl rfl) ?_
                              refine WL_step rfl (R_load Tryz.isAgg3 rfl (H.get .here) rfl) ?_
                              refine WL_step rfl (R_eq rfl rfl) ?_
                              refine WL_nil ?_
                              refine W_if rfl (fun h264 => ?_) (fun h264 => ?_)
                              · refine W_seq ?_
                                refine W_region_l ?_
                                refine WL_step rfl (R_fieldAddr (off' := 4) Tryz.underlying36 rfl Tryz.sizeOf3 (by decide) rfl rfl) ?_
                                refine WL_step rfl (R_load Tryz.isAgg3 rfl (H.get .here) rfl) ?_
                                refine WL_step rfl (R_eq rfl rfl) ?_
                                refine WL_stepM rfl (R_mv) ?_
                                apply WL_andK 5 80 85 [(81, 85)] H
                                case hc => rfl
                                case h1 =>
                                  intro h271
                                  refine WL_guard_t rfl rfl ?_
                                  refine WL_step rfl (R_fieldAddr (off' := 8) Tryz.underlying36 rfl Tryz.sizeOf34 (by decide) rfl rfl) ?_
                                  refine WL_guard_t rfl rfl ?_
                                  refine WL_step rfl (R_loadA (vs := p.f.map fun x => I x) Tryz.isAgg34 Tryz.sizeOf34 rfl (H.get .here) (hfd p) (by rw [piC_len]; decide)) ?_
                                  refine WL_guard_t rfl rfl ?_
                                  refine WL_step rfl (R_zeroArr (zs := (List.replicate 8 0).map fun x => I x) Tryz.underlying34 Tryz.typeInfo34 ⟨_, info_of_run Tryz.typeInfo3 default⟩ rfl rfl) ?_
                                  refine WL_guard_t rfl rfl ?_
                                  refine WL_step rfl (R_eq_fds p.hf hz8 rfl rfl) ?_
                                  refine WL_stepM rfl (R_pk_t rfl) ?_
                                  refine WL_nil ?_
                                  exact ⟨(same_mov rfl (same_updo rfl (same_updo rfl (same_updo rfl (same_updo rfl Same.refl))))), rfl, H⟩
                                case h0 =>
                                  intro h271
                                  refine WL_guard_f rfl rfl (by decide) ?_
                                  refine WL_guard_f rfl rfl (by decide) ?_
                                  refine WL_guard_f rfl rfl (by decide) ?_
                                  refine WL_guard_f rfl rfl (by decide) ?_
                                  refine WL_stepM rfl (R_pk_f rfl) ?_
                                  refine WL_nil ?_
                                  exact ⟨(same_mov rfl (same_updo rfl (same_updo rfl (same_updo rfl (same_updo rfl Same.refl))))), rfl, H⟩
                                case h2 =>
                                  (clear H; intro E271 w271 H)
                                  refine WL_stepM rfl (R_as) ?_
                                  refine WL_nil ?_
                                  refine W_ret ?_
                                  exact ⟨_, rfl, congrArg Value.bool (decide_eq_decide.2 ⟨fun h => ⟨by omega, mid_of (by assumption), fun x hx => Classical.byContradiction fun hn => ‹¬ ∃ x ∈ p.f, _› ⟨x, hx, by omega⟩, .inl ⟨by omega, bv_zero.1 h.1, h.2⟩⟩, fun h => by rcases h.2.2.2 with ⟨_, h1, h2⟩ | ⟨h1, _⟩; exact ⟨bv_zero.2 h1, h2⟩; exact (h1 (by omega)).elim⟩), H.none (by repeat' first | exact kNil | apply kCons | apply kApp | assumption | exact OwnS.keys (by assumption))⟩
                              · refine W_skip ?_
                                refine W_seq ?_
                                refine W_region_l ?_
                                refine WL_step rfl (R_fieldAddr (off' := 3) Tryz.underlying36 rfl Tryz.sizeOf3 (by decide) rfl rfl) ?_
                                refine WL_step rfl (R_load Tryz.isAgg3 rfl (H.get .here) rfl) ?_
                                refine WL_step rfl (R_eq rfl rfl) ?_
                                refine WL_stepM rfl (R_as) ?_
                                refine WL_nil ?_
                                refine W_ret ?_
                                exact ⟨_, rfl, congrArg Value.bool (decide_eq_decide.2 ⟨fun h => ⟨by omega, mid_of (by assumption), fun x hx => Classical.byContradiction fun hn => ‹¬ ∃ x ∈ p.f, _› ⟨x, hx, by omega⟩, .inr ⟨by omega, h⟩⟩, fun h => by rcases h.2.2.2 with ⟨h1, _⟩ | ⟨_, h1⟩; exact (‹¬ p.s = 2› h1).elim; exact h1⟩), H.none (by repeat' first | exact kNil | apply kCons | apply kApp | assumption | exact OwnS.keys (by assumption))⟩
end Go.Proofs.YthonajikgljgmaaGreat.Slot

/-
  Slots put into bytes.
-/
namespace Go.Proofs.YthonajikgljgmaaGreat.Slot
open Go Go.Proofs Go.Proofs.YthonajikgljgmaaGreat.Fx Go.Proofs.YthonajikgljgmaaGreat.Codec
set_option maxRecDepth 100000
set_option linter.unusedVariables false
set_option linter.unusedSimpArgs false
set_option maxHeartbeats 2000000

theorem rep_iff {f : List Int} (h : f.length = 8) : f = List.replicate 8 0 ↔ ¬ ∃ x ∈ f, x ≠ 0 := by
  rw [List.eq_replicate_iff]
  constructor
  · rintro ⟨_, h2⟩ ⟨x, hx, hn⟩; exact hn (h2 x hx)
  · intro h2; exact ⟨h, fun x hx => Classical.byContradiction fun hn => h2 ⟨x, hx, hn⟩⟩
theorem mid2_iff {a b c d : BitVec 64} : (((((¬okB a ∨ ¬okB b) ∨ ¬okB c) ∨ ¬okB d) ∨ (((b ||| c) ||| d) &&& 16896#64).toInt ≠ 0) ∨ (c &&& d).toInt ≠ 0) ↔
    ¬ ((okB a ∧ okB b ∧ okB c ∧ okB d) ∧ (b &&& 16896#64 = 0#64 ∧ c &&& 16896#64 = 0#64 ∧ d &&& 16896#64 = 0#64) ∧ c &&& d = 0#64) := by
  rw [ne_eq, ne_eq, bv_zero, bv_zero, bv_or_and]
  simp only [Classical.not_and_iff_not_or_not, or_assoc]
theorem mid2_of {a b c d : BitVec 64} (h : ¬ (((((¬okB a ∨ ¬okB b) ∨ ¬okB c) ∨ ¬okB d) ∨ (((b ||| c) ||| d) &&& 16896#64).toInt ≠ 0) ∨ (c &&& d).toInt ≠ 0)) :
    (okB a ∧ okB b ∧ okB c ∧ okB d) ∧ (b &&& 16896#64 = 0#64 ∧ c &&& 16896#64 = 0#64 ∧ d &&& 16896#64 = 0#64) ∧ c &&& d = 0#64 :=
  Classical.byContradiction fun hn => h (mid2_iff.2 hn)
theorem pi_fd {p : Pi} {i : Nat} (hi : i < 8) : (piC p)[8 + i]? = some (I (p.f[i]'(by rw [p.hf]; exact hi))) := by
  unfold piC
  rw [List.getElem?_append_right (by simp), List.getElem?_map]
  simp only [List.length_cons, List.length_nil, Nat.zero_add]
  rw [show 8 + i - 8 = i from by omega, List.getElem?_eq_getElem (by rw [p.hf]; exact hi)]
  rfl

theorem refOk_ret (p : Pi) (w : World) : Ret Tryz.prog 61 #[vP p] w fun v w' => v = .bool (decide (okP p)) ∧ Hp w [] w' := by
  refine Ret_of_W (args := [_]) Tryz.func61 rfl Tryz.ntmps61 Tryz.results61 (by simp) ?_
  have H := Hp.refl w
  have hf8 := p.hf
  refine W_seq ?_
  refine W_region_l ?_
  (refine WL_effn rfl (E_boxP H rfl) ?_; clear H; intro bx w3 hbx H)
  refine WL_stepM rfl (R_as) ?_
  refine WL_nil ?_
  refine W_seq ?_
  refine W_seq ?_
  refine W_region_l ?_
  refine WL_step rfl (R_fieldAddr (off' := 0) Tryz.underlying36 rfl Tryz.sizeOf3 (by decide) rfl rfl) ?_
  refine WL_step rfl (R_load Tryz.isAgg3 rfl (H.get .here) rfl) ?_
  (refine WL_call rfl (R_call rfl Tryz.call77 rfl) (in_ret _ _ _ _) ?_; rintro _ w11 ⟨rfl, H1⟩; replace H := H.seq0 H1; clear H1)
  refine WL_step rfl (R_not_d rfl) ?_
  refine WL_stepM rfl (R_mv) ?_
  apply WL_orK 5 9 14 [(10, 14)] H
  case hc => rfl
  case h1 =>
    intro h14
    refine WL_guard_t rfl rfl ?_
    refine WL_step rfl (R_fieldAddr (off' := 1) Tryz.underlying36 rfl Tryz.sizeOf3 (by decide) rfl rfl) ?_
    refine WL_guard_t rfl rfl ?_
    refine WL_step rfl (R_load Tryz.isAgg3 rfl (H.get .here) rfl) ?_
    refine WL_guard_t rfl rfl ?_
    (refine WL_call rfl (R_call rfl Tryz.call77 rfl) (in_ret _ _ _ _) ?_; rintro _ w20 ⟨rfl, H1⟩; replace H := H.seq0 H1; clear H1)
    refine WL_guard_t rfl rfl ?_
    refine WL_step rfl (R_not_d rfl) ?_
    refine WL_stepM rfl (R_pk_f rfl) ?_
    refine WL_nil ?_
    exact ⟨(same_mov rfl (same_updo rfl (same_updo rfl (same_updo rfl (same_updo rfl Same.refl))))), rfl, H⟩
  case h0 =>
    intro h14
    refine WL_guard_f rfl rfl (by decide) ?_
    refine WL_guard_f rfl rfl (by decide) ?_
    refine WL_guard_f rfl rfl (by decide) ?_
    refine WL_guard_f rfl rfl (by decide) ?_
    refine WL_stepM rfl (R_pk_t rfl) ?_
    refine WL_nil ?_
    exact ⟨(same_mov rfl (same_updo rfl (same_updo rfl (same_updo rfl (same_updo rfl Same.refl))))), rfl, H⟩
  case h2 =>
    (clear H; intro E14 w14 H)
    refine WL_stepM rfl (R_mv) ?_
    apply WL_orK 5 15 20 [(16, 20)] H
    case hc => rfl
    case h1 =>
      intro h34
      refine WL_guard_t rfl rfl ?_
      refine WL_step rfl (R_fieldAddr (off' := 2) Tryz.underlying36 rfl Tryz.sizeOf3 (by decide) rfl rfl) ?_
      refine WL_guard_t rfl rfl ?_
      refine WL_step rfl (R_load Tryz.isAgg3 rfl (H.get .here) rfl) ?_
      refine WL_guard_t rfl rfl ?_
      (refine WL_call rfl (R_call rfl Tryz.call77 rfl) (in_ret _ _ _ _) ?_; rintro _ w40 ⟨rfl, H1⟩; replace H := H.seq0 H1; clear H1)
      refine WL_guard_t rfl rfl ?_
      refine WL_step rfl (R_not_d rfl) ?_
      refine WL_stepM rfl (R_pk_f rfl) ?_
      refine WL_nil ?_
      exact ⟨(same_mov rfl (same_updo rfl (same_updo rfl (same_updo rfl (same_updo rfl Same.refl))))), rfl, H⟩
    case h0 =>
      intro h34
      refine WL_guard_f rfl rfl (by decide) ?_
      refine WL_guard_f rfl rfl (by decide) ?_
      refine WL_guard_f rfl rfl (by decide) ?_
      refine WL_guard_f rfl rfl (by decide) ?_
      refine WL_stepM rfl (R_pk_t rfl) ?_
      refine WL_nil ?_
      exact ⟨(same_mov rfl (same_updo rfl (same_updo rfl (same_updo rfl (same_updo rfl Same.refl))))), rfl, H⟩
    case h2 =>
      (clear H; intro E34 w34 H)
      refine WL_stepM rfl (R_mv) ?_
      apply WL_orK 5 21 26 [(22, 26)] H
      case hc => rfl
      case h1 =>
        intro h54
        refine WL_guard_t rfl rfl ?_
        refine WL_step rfl (R_fieldAddr (off' := 3) Tryz.underlying36 rfl Tryz.sizeOf3 (by decide) rfl rfl) ?_
        refine WL_guard_t rfl rfl ?_
        refine WL_step rfl (R_load Tryz.isAgg3 rfl (H.get .here) rfl) ?_
        refine WL_guard_t rfl rfl ?_
        (refine WL_call rfl (R_call rfl Tryz.call77 rfl) (in_ret _ _ _ _) ?_; rintro _ w60 ⟨rfl, H1⟩; replace H := H.seq0 H1; clear H1)
        refine WL_guard_t rfl rfl ?_
        refine WL_step rfl (R_not_d rfl) ?_
        refine WL_stepM rfl (R_pk_f rfl) ?_
        refine WL_nil ?_
        exact ⟨(same_mov rfl (same_updo rfl (same_updo rfl (same_updo rfl (same_updo rfl Same.refl))))), rfl, H⟩
      case h0 =>
        intro h54
        refine WL_guard_f rfl rfl (by decide) ?_
        refine WL_guard_f rfl rfl (by decide) ?_
        refine WL_guard_f rfl rfl (by decide) ?_
        refine WL_guard_f rfl rfl (by decide) ?_
        refine WL_stepM rfl (R_pk_t rfl) ?_
        refine WL_nil ?_
        exact ⟨(same_mov rfl (same_updo rfl (same_updo rfl (same_updo rfl (same_updo rfl Same.refl))))), rfl, H⟩
      case h2 =>
        (clear H; intro E54 w54 H)
        refine WL_nil ?_
        refine W_if rfl (fun h74 => ?_) (fun h74 => ?_)
        · refine W_seq ?_
          refine W_region_l ?_
          refine WL_stepM rfl (R_as) ?_
          refine WL_nil ?_
          refine W_ret ?_
          exact ⟨_, rfl, congrArg Value.bool (decide_eq_false (fun h => by simp only [okP] at h; omega)).symm, H.none (by repeat' first | exact kNil | apply kCons | apply kApp | assumption | exact OwnS.keys (by assumption))⟩
        · refine W_skip ?_
          refine W_seq ?_
          refine W_seq ?_
          refine W_region_l ?_
          refine WL_step rfl (R_fieldAddr (off' := 4) Tryz.underlying36 rfl Tryz.sizeOf3 (by decide) rfl rfl) ?_
          refine WL_step rfl (R_load Tryz.isAgg3 rfl (H.get .here) rfl) ?_
          (refine WL_call rfl (R_call rfl Tryz.call78 rfl) (signals_ret _ _) ?_; rintro _ w87 ⟨rfl, H1⟩; replace H := H.seq0 H1; clear H1)
          refine WL_step rfl (R_not_d rfl) ?_
          refine WL_stepM rfl (R_mv) ?_
          apply WL_orK 5 31 36 [(32, 36)] H
          case hc => rfl
          case h1 =>
            intro h90
            refine WL_guard_t rfl rfl ?_
            refine WL_step rfl (R_fieldAddr (off' := 5) Tryz.underlying36 rfl Tryz.sizeOf3 (by decide) rfl rfl) ?_
            refine WL_guard_t rfl rfl ?_
            refine WL_step rfl (R_load Tryz.isAgg3 rfl (H.get .here) rfl) ?_
            refine WL_guard_t rfl rfl ?_
            (refine WL_call rfl (R_call rfl Tryz.call78 rfl) (signals_ret _ _) ?_; rintro _ w96 ⟨rfl, H1⟩; replace H := H.seq0 H1; clear H1)
            refine WL_guard_t rfl rfl ?_
            refine WL_step rfl (R_not_d rfl) ?_
            refine WL_stepM rfl (R_pk_f rfl) ?_
            refine WL_nil ?_
            exact ⟨(same_mov rfl (same_updo rfl (same_updo rfl (same_updo rfl (same_updo rfl Same.refl))))), rfl, H⟩
          case h0 =>
            intro h90
            refine WL_guard_f rfl rfl (by decide) ?_
            refine WL_guard_f rfl rfl (by decide) ?_
            refine WL_guard_f rfl rfl (by decide) ?_
            refine WL_guard_f rfl rfl (by decide) ?_
            refine WL_stepM rfl (R_pk_t rfl) ?_
            refine WL_nil ?_
            exact ⟨(same_mov rfl (same_updo rfl (same_updo rfl (same_updo rfl (same_updo rfl Same.refl))))), rfl, H⟩
          case h2 =>
            (clear H; intro E90 w90 H)
            refine WL_stepM rfl (R_mv) ?_
            apply WL_orK 5 37 42 [(38, 42)] H
            case hc => rfl
            case h1 =>
              intro h110
              refine WL_guard_t rfl rfl ?_
              refine WL_step rfl (R_fieldAddr (off' := 6) Tryz.underlying36 rfl Tryz.sizeOf3 (by decide) rfl rfl) ?_
              refine WL_guard_t rfl rfl ?_
              refine WL_step rfl (R_load Tryz.isAgg3 rfl (H.get .here) rfl) ?_
              refine WL_guard_t rfl rfl ?_
              (refine WL_call rfl (R_call rfl Tryz.call78 rfl) (signals_ret _ _) ?_; rintro _ w116 ⟨rfl, H1⟩; replace H := H.seq0 H1; clear H1)
              refine WL_guard_t rfl rfl ?_
              refine WL_step rfl (R_not_d rfl) ?_
              refine WL_stepM rfl (R_pk_f rfl) ?_
              refine WL_nil ?_
              exact ⟨(same_mov rfl (same_updo rfl (same_updo rfl (same_updo rfl (same_updo rfl Same.refl))))), rfl, H⟩
            case h0 =>
              intro h110
              refine WL_guard_f rfl rfl (by decide) ?_
              refine WL_guard_f rfl rfl (by decide) ?_
              refine WL_guard_f rfl rfl (by decide) ?_
              refine WL_guard_f rfl rfl (by decide) ?_
              refine WL_stepM rfl (R_pk_t rfl) ?_
              refine WL_nil ?_
              exact ⟨(same_mov rfl (same_updo rfl (same_updo rfl (same_updo rfl (same_updo rfl Same.refl))))), rfl, H⟩
            case h2 =>
              (clear H; intro E110 w110 H)
              refine WL_stepM rfl (R_mv) ?_
              apply WL_orK 5 43 48 [(44, 48)] H
              case hc => rfl
              case h1 =>
                intro h130
                refine WL_guard_t rfl rfl ?_
                refine WL_step rfl (R_fieldAddr (off' := 7) Tryz.underlying36 rfl Tryz.sizeOf3 (by decide) rfl rfl) ?_
                refine WL_guard_t rfl rfl ?_
                refine WL_step rfl (R_load Tryz.isAgg3 rfl (H.get .here) rfl) ?_
                refine WL_guard_t rfl rfl ?_
                (refine WL_call rfl (R_call rfl Tryz.call78 rfl) (signals_ret _ _) ?_; rintro _ w136 ⟨rfl, H1⟩; replace H := H.seq0 H1; clear H1)
                refine WL_guard_t rfl rfl ?_
                refine WL_step rfl (R_not_d rfl) ?_
                refine WL_stepM rfl (R_pk_f rfl) ?_
                refine WL_nil ?_
                exact ⟨(same_mov rfl (same_updo rfl (same_updo rfl (same_updo rfl (same_updo rfl Same.refl))))), rfl, H⟩
              case h0 =>
                intro h130
                refine WL_guard_f rfl rfl (by decide) ?_
                refine WL_guard_f rfl rfl (by decide) ?_
                refine WL_guard_f rfl rfl (by decide) ?_
                refine WL_guard_f rfl rfl (by decide) ?_
                refine WL_stepM rfl (R_pk_t rfl) ?_
                refine WL_nil ?_
                exact ⟨(same_mov rfl (same_updo rfl (same_updo rfl (same_updo rfl (same_updo rfl Same.refl))))), rfl, H⟩
              case h2 =>
                (clear H; intro E130 w130 H)
                refine WL_stepM rfl (R_mv) ?_
                apply WL_orK 11 49 60 [(50, 60)] H
                case hc => rfl
                case h1 =>
                  intro h150
                  refine WL_guard_t rfl rfl ?_
                  refine WL_step rfl (R_fieldAddr (off' := 5) Tryz.underlying36 rfl Tryz.sizeOf3 (by decide) rfl rfl) ?_
                  refine WL_guard_t rfl rfl ?_
                  refine WL_step rfl (R_load Tryz.isAgg3 rfl (H.get .here) rfl) ?_
                  refine WL_guard_t rfl rfl ?_
                  refine WL_step rfl (R_fieldAddr (off' := 6) Tryz.underlying36 rfl Tryz.sizeOf3 (by decide) rfl rfl) ?_
                  refine WL_guard_t rfl rfl ?_
                  refine WL_step rfl (R_load Tryz.isAgg3 rfl (H.get .here) rfl) ?_
                  refine WL_guard_t rfl rfl ?_
                  refine WL_step rfl (R_bits rfl rfl (by simp) (bv_or p.b p.c)) ?_
                  refine WL_guard_t rfl rfl ?_
                  refine WL_step rfl (R_fieldAddr (off' := 7) Tryz.underlying36 rfl Tryz.sizeOf3 (by decide) rfl rfl) ?_
                  refine WL_guard_t rfl rfl ?_
                  refine WL_step rfl (R_load Tryz.isAgg3 rfl (H.get .here) rfl) ?_
                  refine WL_guard_t rfl rfl ?_
                  refine WL_step rfl (R_bits rfl rfl (by simp) (bv_or (p.b ||| p.c) p.d)) ?_
                  refine WL_guard_t rfl rfl ?_
                  refine WL_step rfl (R_bits rfl rfl (by simp) (bv_and ((p.b ||| p.c) ||| p.d) 16896#64)) ?_
                  refine WL_guard_t rfl rfl ?_
                  refine WL_step rfl (R_ne rfl rfl) ?_
                  refine WL_stepM rfl (R_pk_f rfl) ?_
                  refine WL_nil ?_
                  exact ⟨(same_mov rfl (same_updo rfl (same_updo rfl (same_updo rfl (same_updo rfl (same_updo rfl (same_updo rfl (same_updo rfl (same_updo rfl (same_updo rfl (same_updo rfl Same.refl))))))))))), rfl, H⟩
                case h0 =>
                  intro h150
                  refine WL_guard_f rfl rfl (by decide) ?_
                  refine WL_guard_f rfl rfl (by decide) ?_
                  refine WL_guard_f rfl rfl (by decide) ?_
                  refine WL_guard_f rfl rfl (by decide) ?_
                  refine WL_guard_f rfl rfl (by decide) ?_
                  refine WL_guard_f rfl rfl (by decide) ?_
                  refine WL_guard_f rfl rfl (by decide) ?_
                  refine WL_guard_f rfl rfl (by decide) ?_
                  refine WL_guard_f rfl rfl (by decide) ?_
                  refine WL_guard_f rfl rfl (by decide) ?_
                  refine WL_stepM rfl (R_pk_t rfl) ?_
                  refine WL_nil ?_
                  exact ⟨(same_mov rfl (same_updo rfl (same_updo rfl (same_updo rfl (same_updo rfl (same_updo rfl (same_updo rfl (same_updo rfl (same_updo rfl (same_updo rfl (same_updo rfl Same.refl))))))))))), rfl, H⟩
                case h2 =>
                  (clear H; intro E150 w150 H)
                  refine WL_stepM rfl (R_mv) ?_
                  apply WL_orK 7 61 68 [(62, 68)] H
                  case hc => rfl
                  case h1 =>
                    intro h188
                    refine WL_guard_t rfl rfl ?_
                    refine WL_step rfl (R_fieldAddr (off' := 6) Tryz.underlying36 rfl Tryz.sizeOf3 (by decide) rfl rfl) ?_
                    refine WL_guard_t rfl rfl ?_
                    refine WL_step rfl (R_load Tryz.isAgg3 rfl (H.get .here) rfl) ?_
                    refine WL_guard_t rfl rfl ?_
                    refine WL_step rfl (R_fieldAddr (off' := 7) Tryz.underlying36 rfl Tryz.sizeOf3 (by decide) rfl rfl) ?_
                    refine WL_guard_t rfl rfl ?_
                    refine WL_step rfl (R_load Tryz.isAgg3 rfl (H.get .here) rfl) ?_
                    refine WL_guard_t rfl rfl ?_
                    refine WL_step rfl (R_bits rfl rfl (by simp) (bv_and p.c p.d)) ?_
                    refine WL_guard_t rfl rfl ?_
                    refine WL_step rfl (R_ne rfl rfl) ?_
                    refine WL_stepM rfl (R_pk_f rfl) ?_
                    refine WL_nil ?_
                    exact ⟨(same_mov rfl (same_updo rfl (same_updo rfl (same_updo rfl (same_updo rfl (same_updo rfl (same_updo rfl Same.refl))))))), rfl, H⟩
                  case h0 =>
                    intro h188
                    refine WL_guard_f rfl rfl (by decide) ?_
                    refine WL_guard_f rfl rfl (by decide) ?_
                    refine WL_guard_f rfl rfl (by decide) ?_
                    refine WL_guard_f rfl rfl (by decide) ?_
                    refine WL_guard_f rfl rfl (by decide) ?_
                    refine WL_guard_f rfl rfl (by decide) ?_
                    refine WL_stepM rfl (R_pk_t rfl) ?_
                    refine WL_nil ?_
                    exact ⟨(same_mov rfl (same_updo rfl (same_updo rfl (same_updo rfl (same_updo rfl (same_updo rfl (same_updo rfl Same.refl))))))), rfl, H⟩
                  case h2 =>
                    (clear H; intro E188 w188 H)
                    refine WL_nil ?_
                    refine W_if rfl (fun h214 => ?_) (fun h214 => ?_)
                    · refine W_seq ?_
                      refine W_region_l ?_
                      refine WL_stepM rfl (R_as) ?_
                      refine WL_nil ?_
                      refine W_ret ?_
                      exact ⟨_, rfl, congrArg Value.bool (decide_eq_false (fun h => mid2_iff.1 (by assumption) h.2.1)).symm, H.none (by repeat' first | exact kNil | apply kCons | apply kApp | assumption | exact OwnS.keys (by assumption))⟩
                    · refine W_skip ?_
                      refine W_seq ?_
                      refine W_region_l ?_
                      refine WL_stepM rfl (R_as) ?_
                      refine WL_nil ?_
                      refine W_seq ?_
                      refine W_seq ?_
                      refine W_region_l ?_
                      refine WL_stepM rfl (R_as) ?_
                      refine WL_nil ?_
                      refine W_block ?_
                      refine W_loopS [(2, 4), (69, 86)] (fun (i : Nat) E w' => ∃ b, i ≤ 8 ∧ E 3 = .bool b ∧ E 4 = I i ∧ (b = true ↔ ∃ x ∈ p.f.take i, x ≠ 0) ∧ (∀ x ∈ p.f.take i, 0 ≤ x ∧ x ≤ 12) ∧ Hp w [(bx, blk (piC p) 36)] w') (fun i => 8 - i) 0 ?e0 ?r0
                      · exact ⟨false, by omega, rfl, rfl, by simp, by simp, H⟩
                      · (clear H; rintro i E w1 ⟨b, hi, h3, h4, hb, hz, H⟩; refine W_kn2 h3 h4 ?_; clear h3; (by_cases hlt : i < 8 <;> cases b))
                        · refine W_seq ?_
                          refine W_seq ?_
                          refine W_region_l ?_
                          refine WL_stepM rfl (R_mv) ?_
                          refine WL_step rfl (R_lt_t rfl rfl (by omega)) ?_
                          refine WL_nil ?_
                          refine W_cond_t rfl ?_
                          refine W_skip ?_
                          refine W_seq ?_
                          refine W_block ?_
                          refine W_seq ?_
                          refine W_seq ?_
                          refine W_region_l ?_
                          refine WL_stepM rfl (R_mv) ?_
                          refine WL_step rfl (R_fieldAddr (off' := 8) Tryz.underlying36 rfl Tryz.sizeOf34 (by decide) rfl rfl) ?_
                          refine WL_step rfl (R_indexAddrA (off' := 8 + i) Tryz.underlying34 Tryz.sizeOf3 rfl rfl (by omega) (by omega) (by omega)) ?_
                          refine WL_step rfl (R_load (v := I p.f[i]) Tryz.isAgg3 rfl (H.get .here) (pi_fd hlt)) ?_
                          (refine WL_call rfl (R_call rfl Tryz.call77 rfl) (in_ret _ _ _ _) ?_; rintro _ w251 ⟨rfl, H1⟩; replace H := H.seq0 H1; clear H1)
                          refine WL_step rfl (R_not_d rfl) ?_
                          refine WL_nil ?_
                          refine W_if rfl (fun h254 => ?_) (fun h254 => ?_)
                          · refine W_seq ?_
                            refine W_region_l ?_
                            refine WL_stepM rfl (R_as) ?_
                            refine WL_nil ?_
                            refine W_ret ?_
                            exact ⟨_, rfl, congrArg Value.bool (decide_eq_false (fun h => by have := h.2.2.1 p.f[i] (List.getElem_mem _); omega)).symm, H.none (by repeat' first | exact kNil | apply kCons | apply kApp | assumption | exact OwnS.keys (by assumption))⟩
                          · refine W_skip ?_
                            refine W_region_l ?_
                            refine WL_stepM rfl (R_mv) ?_
                            refine WL_stepM rfl (R_mv) ?_
                            refine WL_guard_t rfl rfl ?_
                            refine WL_stepM rfl (R_mv) ?_
                            refine WL_guard_t rfl rfl ?_
                            refine WL_step rfl (R_fieldAddr (off' := 8) Tryz.underlying36 rfl Tryz.sizeOf34 (by decide) rfl rfl) ?_
                            refine WL_guard_t rfl rfl ?_
                            refine WL_step rfl (R_indexAddrA (off' := 8 + i) Tryz.underlying34 Tryz.sizeOf3 rfl rfl (by omega) (by omega) (by omega)) ?_
                            refine WL_guard_t rfl rfl ?_
                            refine WL_step rfl (R_load (v := I p.f[i]) Tryz.isAgg3 rfl (H.get .here) (pi_fd hlt)) ?_
                            refine WL_guard_t rfl rfl ?_
                            refine WL_step rfl (R_ne rfl rfl) ?_
                            refine WL_stepM rfl (R_pk_f rfl) ?_
                            refine WL_stepM rfl (R_as) ?_
                            refine WL_nil ?_
                            refine W_region_l ?_
                            refine WL_stepM rfl (R_mv) ?_
                            refine WL_step rfl (R_add rfl rfl (w_i64 (by omega))) ?_
                            refine WL_stepM rfl (R_as) ?_
                            refine WL_nil ?_
                            exact ⟨(same_mov rfl (same_updo rfl (same_mov rfl (same_mov rfl (same_mov rfl (same_updo rfl (same_updo rfl (same_updo rfl (same_updo rfl (same_mov rfl (same_mov rfl (same_mov rfl (same_know rfl (same_updo rfl (same_updo rfl (same_updo rfl (same_updo rfl (same_updo rfl (same_mov rfl (same_updo rfl (same_mov rfl same_ovr))))))))))))))))))))), i + 1, by omega, _, by omega, rfl, rfl, (by rw [decide_eq_true_eq, List.take_succ_eq_append_getElem (by omega)]; exact ⟨fun h => ⟨_, List.mem_append_right _ (List.mem_singleton.2 rfl), h⟩, fun ⟨x, hx, hn⟩ => by rcases List.mem_append.1 hx with hx | hx; exact (nomatch hb.2 ⟨x, hx, hn⟩); rw [← List.mem_singleton.1 hx]; exact hn⟩), (by intro x hx; rw [List.take_succ_eq_append_getElem (by omega)] at hx; rcases List.mem_append.1 hx with hx | hx; exact hz x hx; rw [List.mem_singleton.1 hx]; omega), H⟩
                        · refine W_seq ?_
                          refine W_seq ?_
                          refine W_region_l ?_
                          refine WL_stepM rfl (R_mv) ?_
                          refine WL_step rfl (R_lt_t rfl rfl (by omega)) ?_
                          refine WL_nil ?_
                          refine W_cond_t rfl ?_
                          refine W_skip ?_
                          refine W_seq ?_
                          refine W_block ?_
                          refine W_seq ?_
                          refine W_seq ?_
                          refine W_region_l ?_
                          refine WL_stepM rfl (R_mv) ?_
                          refine WL_step rfl (R_fieldAddr (off' := 8) Tryz.underlying36 rfl Tryz.sizeOf34 (by decide) rfl rfl) ?_
                          refine WL_step rfl (R_indexAddrA (off' := 8 + i) Tryz.underlying34 Tryz.sizeOf3 rfl rfl (by omega) (by omega) (by omega)) ?_
                          refine WL_step rfl (R_load (v := I p.f[i]) Tryz.isAgg3 rfl (H.get .here) (pi_fd hlt)) ?_
                          (refine WL_call rfl (R_call rfl Tryz.call77 rfl) (in_ret _ _ _ _) ?_; rintro _ w301 ⟨rfl, H1⟩; replace H := H.seq0 H1; clear H1)
                          refine WL_step rfl (R_not_d rfl) ?_
                          refine WL_nil ?_
                          refine W_if rfl (fun h304 => ?_) (fun h304 => ?_)
                          · refine W_seq ?_
                            refine W_region_l ?_
                            refine WL_stepM rfl (R_as) ?_
                            refine WL_nil ?_
                            refine W_ret ?_
                            exact ⟨_, rfl, congrArg Value.bool (decide_eq_false (fun h => by have := h.2.2.1 p.f[i] (List.getElem_mem _); omega)).symm, H.none (by repeat' first | exact kNil | apply kCons | apply kApp | assumption | exact OwnS.keys (by assumption))⟩
                          · refine W_skip ?_
                            refine W_region_l ?_
                            refine WL_stepM rfl (R_mv) ?_
                            refine WL_stepM rfl (R_mv) ?_
                            refine WL_guard_f rfl rfl (by decide) ?_
                            refine WL_guard_f rfl rfl (by decide) ?_
                            refine WL_guard_f rfl rfl (by decide) ?_
                            refine WL_guard_f rfl rfl (by decide) ?_
                            refine WL_guard_f rfl rfl (by decide) ?_
                            refine WL_stepM rfl (R_pk_t rfl) ?_
                            refine WL_stepM rfl (R_as) ?_
                            refine WL_nil ?_
                            refine W_region_l ?_
                            refine WL_stepM rfl (R_mv) ?_
                            refine WL_step rfl (R_add rfl rfl (w_i64 (by omega))) ?_
                            refine WL_stepM rfl (R_as) ?_
                            refine WL_nil ?_
                            exact ⟨(same_mov rfl (same_updo rfl (same_mov rfl (same_mov rfl (same_mov rfl (same_updo rfl (same_updo rfl (same_updo rfl (same_updo rfl (same_updo rfl (same_mov rfl (same_mov rfl (same_know rfl (same_updo rfl (same_updo rfl (same_updo rfl (same_updo rfl (same_updo rfl (same_mov rfl (same_updo rfl (same_mov rfl same_ovr))))))))))))))))))))), i + 1, by omega, true, by omega, rfl, rfl, ⟨fun _ => by obtain ⟨x, hx, hn⟩ := hb.1 rfl; exact ⟨x, by rw [List.take_succ_eq_append_getElem (by omega)]; exact List.mem_append_left _ hx, hn⟩, fun _ => rfl⟩, (by intro x hx; rw [List.take_succ_eq_append_getElem (by omega)] at hx; rcases List.mem_append.1 hx with hx | hx; exact hz x hx; rw [List.mem_singleton.1 hx]; omega), H⟩
                        · refine W_seq ?_
                          refine W_seq ?_
                          refine W_region_l ?_
                          refine WL_stepM rfl (R_mv) ?_
                          refine WL_step rfl (R_lt_f rfl rfl (by omega)) ?_
                          refine WL_nil ?_
                          refine W_cond_f rfl ?_
                          refine W_exit ?_
                          refine (if_pos rfl).mpr ?_
                          refine W_seq ?_
                          refine W_seq ?_
                          ((obtain rfl : i = 8 := (by omega); rw [List.take_of_length_le (l := p.f) (i := 8) (by rw [p.hf]; decide)] at hb hz; have hrep := rep_iff p.hf)) <;> refine W_region_l ?_
                          refine WL_step rfl (R_fieldAddr (off' := 0) Tryz.underlying36 rfl Tryz.sizeOf3 (by decide) rfl rfl) ?_
                          refine WL_step rfl (R_load Tryz.isAgg3 rfl (H.get .here) rfl) ?_
                          refine WL_step rfl (R_eq rfl rfl) ?_
                          refine WL_nil ?_
                          refine W_if rfl (fun h345 => ?_) (fun h345 => ?_)
                          · refine W_seq ?_
                            refine W_region_l ?_
                            refine WL_stepM rfl (R_mv) ?_
                            refine WL_step rfl (R_not_f rfl) ?_
                            refine WL_stepM rfl (R_mv) ?_
                            refine WL_guard_t rfl rfl ?_
                            refine WL_step rfl (R_fieldAddr (off' := 4) Tryz.underlying36 rfl Tryz.sizeOf3 (by decide) rfl rfl) ?_
                            refine WL_guard_t rfl rfl ?_
                            refine WL_step rfl (R_load Tryz.isAgg3 rfl (H.get .here) rfl) ?_
                            refine WL_guard_t rfl rfl ?_
                            refine WL_step rfl (R_eq rfl rfl) ?_
                            refine WL_stepM rfl (R_pk_t rfl) ?_
                            refine WL_stepM rfl (R_as) ?_
                            refine WL_nil ?_
                            refine W_ret ?_
                            exact ⟨_, rfl, congrArg Value.bool (decide_eq_decide.2 ⟨fun h => ⟨by omega, mid2_of (by assumption), hz, .inl ⟨by omega, bv_zero.1 h, hrep.2 (fun hn => nomatch hb.2 hn)⟩⟩, fun h => by rcases h.2.2.2 with ⟨_, h1, _⟩ | ⟨h1, _⟩; exact bv_zero.2 h1; exact (h1 (by omega)).elim⟩), H.none (by repeat' first | exact kNil | apply kCons | apply kApp | assumption | exact OwnS.keys (by assumption))⟩
                          · refine W_skip ?_
                            refine W_seq ?_
                            refine W_region_l ?_
                            refine WL_step rfl (R_fieldAddr (off' := 3) Tryz.underlying36 rfl Tryz.sizeOf3 (by decide) rfl rfl) ?_
                            refine WL_step rfl (R_load Tryz.isAgg3 rfl (H.get .here) rfl) ?_
                            refine WL_step rfl (R_eq rfl rfl) ?_
                            refine WL_stepM rfl (R_as) ?_
                            refine WL_nil ?_
                            refine W_ret ?_
                            exact ⟨_, rfl, congrArg Value.bool (decide_eq_decide.2 ⟨fun h => ⟨by omega, mid2_of (by assumption), hz, .inr ⟨by omega, h⟩⟩, fun h => by rcases h.2.2.2 with ⟨h1, _⟩ | ⟨_, h1⟩; exact (‹¬ p.s = 2› h1).elim; exact h1⟩), H.none (by repeat' first | exact kNil | apply kCons | apply kApp | assumption | exact OwnS.keys (by assumption))⟩
                        · refine W_seq ?_
                          refine W_seq ?_
                          refine W_region_l ?_
                          refine WL_stepM rfl (R_mv) ?_
                          refine WL_step rfl (R_lt_f rfl rfl (by omega)) ?_
                          refine WL_nil ?_
                          refine W_cond_f rfl ?_
                          refine W_exit ?_
                          refine (if_pos rfl).mpr ?_
                          refine W_seq ?_
                          refine W_seq ?_
                          ((obtain rfl : i = 8 := (by omega); rw [List.take_of_length_le (l := p.f) (i := 8) (by rw [p.hf]; decide)] at hb hz; have hrep := rep_iff p.hf)) <;> refine W_region_l ?_
                          refine WL_step rfl (R_fieldAddr (off' := 0) Tryz.underlying36 rfl Tryz.sizeOf3 (by decide) rfl rfl) ?_
                          refine WL_step rfl (R_load Tryz.isAgg3 rfl (H.get .here) rfl) ?_
                          refine WL_step rfl (R_eq rfl rfl) ?_
                          refine WL_nil ?_
                          refine W_if rfl (fun h388 => ?_) (fun h388 => ?_)
                          · refine W_seq ?_
                            refine W_region_l ?_
                            refine WL_stepM rfl (R_mv) ?_
                            refine WL_step rfl (R_not_t rfl) ?_
                            refine WL_stepM rfl (R_mv) ?_
                            refine WL_guard_f rfl rfl (by decide) ?_
                            refine WL_guard_f rfl rfl (by decide) ?_
                            refine WL_guard_f rfl rfl (by decide) ?_
                            refine WL_stepM rfl (R_pk_f rfl) ?_
                            refine WL_stepM rfl (R_as) ?_
                            refine WL_nil ?_
                            refine W_ret ?_
                            exact ⟨_, rfl, congrArg Value.bool (decide_eq_false (fun h => by rcases h.2.2.2 with ⟨_, _, h2⟩ | ⟨h1, _⟩; exact hrep.1 h2 (hb.1 rfl); exact h1 (by omega))).symm, H.none (by repeat' first | exact kNil | apply kCons | apply kApp | assumption | exact OwnS.keys (by assumption))⟩
                          · refine W_skip ?_
                            refine W_seq ?_
                            refine W_region_l ?_
                            refine WL_step rfl (R_fieldAddr (off' := 3) Tryz.underlying36 rfl Tryz.sizeOf3 (by decide) rfl rfl) ?_
                            refine WL_step rfl (R_load Tryz.isAgg3 rfl (H.get .here) rfl) ?_
                            refine WL_step rfl (R_eq rfl rfl) ?_
                            refine WL_stepM rfl (R_as) ?_
                            refine WL_nil ?_
                            refine W_ret ?_
                            exact ⟨_, rfl, congrArg Value.bool (decide_eq_decide.2 ⟨fun h => ⟨by omega, mid2_of (by assumption), hz, .inr ⟨by omega, h⟩⟩, fun h => by rcases h.2.2.2 with ⟨h1, _⟩ | ⟨_, h1⟩; exact (‹¬ p.s = 2› h1).elim; exact h1⟩), H.none (by repeat' first | exact kNil | apply kCons | apply kApp | assumption | exact OwnS.keys (by assumption))⟩
end Go.Proofs.YthonajikgljgmaaGreat.Slot

/-
  The bytes of a slot; they are put.
-/
namespace Go.Proofs.YthonajikgljgmaaGreat.Slot
open Go Go.Proofs Go.Proofs.YthonajikgljgmaaGreat.Fx Go.Proofs.YthonajikgljgmaaGreat.Codec
set_option maxRecDepth 100000
set_option linter.unusedVariables false
set_option linter.unusedSimpArgs false
set_option maxHeartbeats 2000000

theorem okB_lt {x : BitVec 64} (h : okB x) : x.toNat < 65536 := by
  have := bv_lt h
  have e : (65534#64).toNat = 65534 := rfl
  omega
theorem two_bv {x : BitVec 64} (h : okB x) (w : World) : Ret Tryz.prog 38 #[I x.toInt] w fun v w' => v = S (two x) ∧ Hp w [] w' := by
  rw [bv_small (okB_lt h)]
  exact two_ret x.toNat w
theorem put2_bv {c : List Value} {w : World} {b off len cap e k : Nat} {x : BitVec 64} (hx : okB x) (hb : w.heap[b]? = some (blk c e)) (h1 : k + 2 ≤ len) (h2 : off + len ≤ c.length) (hlc : len ≤ 9223372036854775807) :
    Ret Tryz.prog 95 #[sl b off len cap, I k, I x.toInt] w fun v w' => v = .bool true ∧ Hp w [(b, blk ((c.set (off + k) (U (UInt8.ofNat (x.toNat / 256)))).set (off + k + 1) (U (UInt8.ofNat x.toNat))) e)] w' := by
  rw [bv_small (okB_lt hx)]
  have := okB_lt hx
  exact put2_yes hb h1 h2 (by omega) hlc

theorem cat_snoc {A xs : List UInt8} {i : Nat} (h : i < xs.length) : (A ++ xs.take i) ++ [xs[i]] = A ++ xs.take (i + 1) := by
  rw [List.append_assoc, ← List.take_succ_eq_append_getElem h]
/-- the first twelve -/
def h12 (p : Pi) : List UInt8 := [b8 p.s, b8 p.p, b8 p.g, b8 p.e] ++ two p.a ++ two p.b ++ two p.c ++ two p.d

theorem refBytes_ret (p : Pi) (hok : okP p) (w : World) : Ret Tryz.prog 14 #[vP p] w fun v w' => v = S (bytesP p) ∧ Hp w [] w' := by
  refine Ret_of_W (args := [_]) Tryz.func14 rfl Tryz.ntmps14 Tryz.results14 (by simp) ?_
  have H := Hp.refl w
  have hf8 := p.hf
  obtain ⟨hr, ⟨⟨ha, hb, hc, hd⟩, _, _⟩, hz, _⟩ := hok
  have hl12 : (h12 p).length = 12 := by simp [h12, two]
  have hbl : (p.f.map b8).length = 8 := by simp [hf8]
  refine W_seq ?_
  refine W_region_l ?_
  (refine WL_effn rfl (E_boxP H rfl) ?_; clear H; intro bx w3 hbx H)
  refine WL_stepM rfl (R_as) ?_
  refine WL_nil ?_
  refine W_seq ?_
  refine W_region_l ?_
  refine WL_step rfl (R_fieldAddr (off' := 0) Tryz.underlying36 rfl Tryz.sizeOf3 (by decide) rfl rfl) ?_
  refine WL_step rfl (R_load Tryz.isAgg3 rfl (H.get .here) rfl) ?_
  refine WL_step rfl (R_conv_int Tryz.underlying3 Tryz.underlying5 rfl (u8_b8 (n := p.s) (by omega))) ?_
  refine WL_step rfl (R_fieldAddr (off' := 1) Tryz.underlying36 rfl Tryz.sizeOf3 (by decide) rfl rfl) ?_
  refine WL_step rfl (R_load Tryz.isAgg3 rfl (H.get .here) rfl) ?_
  refine WL_step rfl (R_conv_int Tryz.underlying3 Tryz.underlying5 rfl (u8_b8 (n := p.p) (by omega))) ?_
  refine WL_step rfl (R_fieldAddr (off' := 2) Tryz.underlying36 rfl Tryz.sizeOf3 (by decide) rfl rfl) ?_
  refine WL_step rfl (R_load Tryz.isAgg3 rfl (H.get .here) rfl) ?_
  refine WL_step rfl (R_conv_int Tryz.underlying3 Tryz.underlying5 rfl (u8_b8 (n := p.g) (by omega))) ?_
  refine WL_step rfl (R_fieldAddr (off' := 3) Tryz.underlying36 rfl Tryz.sizeOf3 (by decide) rfl rfl) ?_
  refine WL_step rfl (R_load Tryz.isAgg3 rfl (H.get .here) rfl) ?_
  refine WL_step rfl (R_conv_int Tryz.underlying3 Tryz.underlying5 rfl (u8_b8 (n := p.e) (by omega))) ?_
  (refine WL_effn rfl (E_buildOnes (vs := [(.int _ _), (.int _ _), (.int _ _), (.int _ _)]) H Tryz.underlying22 Tryz.sizeOf5 Tryz.zeroValue5 rfl rfl (by decide) rfl rfl (by simp [Value.oneCell'])) ?_; clear H; intro b20 w20 hb20 H)
  refine WL_step rfl (R_conv_bs (xs := [b8 p.s, b8 p.p, b8 p.g, b8 p.e]) Tryz.underlying22 Tryz.underlying5 Tryz.underlying9 rfl (RdS.blk (H.get .here) rfl (by simp) (by simp))) ?_
  refine WL_stepM rfl (R_as) ?_
  refine WL_nil ?_
  refine W_seq ?_
  (replace H := H.pop (by assumption); refine W_draw (KH w [(bx, blk (piC p) 36)]) (fun _ => false) (by kernel_rfl) H ?_; clear H; intro w25 H)
  refine WA_takeM 0 rfl rfl rfl (by kernel_rfl) (by kernel_rfl) (H.kh (by simp) (by repeat' first | exact kNil | apply kCons | apply kApp | assumption | exact OwnS.keys (by assumption))) (fun _ hC => R_mv) ?_
  refine WA_take 1 rfl rfl rfl (by kernel_rfl) (by kernel_rfl) (H.kh (by simp) (by repeat' first | exact kNil | apply kCons | apply kApp | assumption | exact OwnS.keys (by assumption))) (fun _ hC => R_fieldAddr (off' := 4) Tryz.underlying36 rfl Tryz.sizeOf3 (by decide) rfl rfl) ?_
  refine WA_take 2 rfl rfl rfl (by kernel_rfl) (by kernel_rfl) (H.kh (by simp) (by repeat' first | exact kNil | apply kCons | apply kApp | assumption | exact OwnS.keys (by assumption))) (fun _ hC => R_load Tryz.isAgg3 rfl (hC.get .here) rfl) ?_
  refine WA_take 5 rfl rfl rfl (by kernel_rfl) (by kernel_rfl) (H.kh (by simp) (by repeat' first | exact kNil | apply kCons | apply kApp | assumption | exact OwnS.keys (by assumption))) (fun _ hC => R_fieldAddr (off' := 5) Tryz.underlying36 rfl Tryz.sizeOf3 (by decide) rfl rfl) ?_
  refine WA_take 6 rfl rfl rfl (by kernel_rfl) (by kernel_rfl) (H.kh (by simp) (by repeat' first | exact kNil | apply kCons | apply kApp | assumption | exact OwnS.keys (by assumption))) (fun _ hC => R_load Tryz.isAgg3 rfl (hC.get .here) rfl) ?_
  refine WA_take 9 rfl rfl rfl (by kernel_rfl) (by kernel_rfl) (H.kh (by simp) (by repeat' first | exact kNil | apply kCons | apply kApp | assumption | exact OwnS.keys (by assumption))) (fun _ hC => R_fieldAddr (off' := 6) Tryz.underlying36 rfl Tryz.sizeOf3 (by decide) rfl rfl) ?_
  refine WA_take 10 rfl rfl rfl (by kernel_rfl) (by kernel_rfl) (H.kh (by simp) (by repeat' first | exact kNil | apply kCons | apply kApp | assumption | exact OwnS.keys (by assumption))) (fun _ hC => R_load Tryz.isAgg3 rfl (hC.get .here) rfl) ?_
  refine WA_take 13 rfl rfl rfl (by kernel_rfl) (by kernel_rfl) (H.kh (by simp) (by repeat' first | exact kNil | apply kCons | apply kApp | assumption | exact OwnS.keys (by assumption))) (fun _ hC => R_fieldAddr (off' := 7) Tryz.underlying36 rfl Tryz.sizeOf3 (by decide) rfl rfl) ?_
  refine WA_take 14 rfl rfl rfl (by kernel_rfl) (by kernel_rfl) (H.kh (by simp) (by repeat' first | exact kNil | apply kCons | apply kApp | assumption | exact OwnS.keys (by assumption))) (fun _ hC => R_load Tryz.isAgg3 rfl (hC.get .here) rfl) ?_
  refine WA_one (i := 3) (by kernel_rfl) ?_
  (refine WI_call rfl (.inl rfl) (R_call rfl Tryz.call38 rfl) (two_bv ha _) (fun _ _ hR _ => (H.seq0 hR.2).kh (by simp) (by repeat' first | exact kNil | apply kCons | apply kApp | assumption | exact OwnS.keys (by assumption))) ?_; rintro _ w36 ⟨rfl, H1⟩; replace H := H.seq0 H1; clear H1)
  refine WA_take 4 rfl rfl rfl (by kernel_rfl) (by kernel_rfl) (H.kh (by simp) (by repeat' first | exact kNil | apply kCons | apply kApp | assumption | exact OwnS.keys (by assumption))) (fun _ hC => R_cat_S rfl rfl (by simp [two])) ?_
  refine WA_one (i := 7) (by kernel_rfl) ?_
  (refine WI_call rfl (.inl rfl) (R_call rfl Tryz.call38 rfl) (two_bv hb _) (fun _ _ hR _ => (H.seq0 hR.2).kh (by simp) (by repeat' first | exact kNil | apply kCons | apply kApp | assumption | exact OwnS.keys (by assumption))) ?_; rintro _ w39 ⟨rfl, H1⟩; replace H := H.seq0 H1; clear H1)
  refine WA_take 8 rfl rfl rfl (by kernel_rfl) (by kernel_rfl) (H.kh (by simp) (by repeat' first | exact kNil | apply kCons | apply kApp | assumption | exact OwnS.keys (by assumption))) (fun _ hC => R_cat_S rfl rfl (by simp [two])) ?_
  refine WA_one (i := 11) (by kernel_rfl) ?_
  (refine WI_call rfl (.inl rfl) (R_call rfl Tryz.call38 rfl) (two_bv hc _) (fun _ _ hR _ => (H.seq0 hR.2).kh (by simp) (by repeat' first | exact kNil | apply kCons | apply kApp | assumption | exact OwnS.keys (by assumption))) ?_; rintro _ w42 ⟨rfl, H1⟩; replace H := H.seq0 H1; clear H1)
  refine WA_take 12 rfl rfl rfl (by kernel_rfl) (by kernel_rfl) (H.kh (by simp) (by repeat' first | exact kNil | apply kCons | apply kApp | assumption | exact OwnS.keys (by assumption))) (fun _ hC => R_cat_S rfl rfl (by simp [two])) ?_
  refine WA_one (i := 15) (by kernel_rfl) ?_
  (refine WI_call rfl (.inl rfl) (R_call rfl Tryz.call38 rfl) (two_bv hd _) (fun _ _ hR _ => (H.seq0 hR.2).kh (by simp) (by repeat' first | exact kNil | apply kCons | apply kApp | assumption | exact OwnS.keys (by assumption))) ?_; rintro _ w45 ⟨rfl, H1⟩; replace H := H.seq0 H1; clear H1)
  refine WA_take 16 rfl rfl rfl (by kernel_rfl) (by kernel_rfl) (H.kh (by simp) (by repeat' first | exact kNil | apply kCons | apply kApp | assumption | exact OwnS.keys (by assumption))) (fun _ hC => R_cat_S rfl rfl (by simp [two])) ?_
  refine WA_takeM 17 rfl rfl rfl (by kernel_rfl) (by kernel_rfl) (H.kh (by simp) (by repeat' first | exact kNil | apply kCons | apply kApp | assumption | exact OwnS.keys (by assumption))) (fun _ hC => R_as) ?_
  refine WA_done (by kernel_rfl) ?_
  refine W_seq ?_
  refine W_seq ?_
  refine W_region_l ?_
  refine WL_stepM rfl (R_as) ?_
  refine WL_nil ?_
  refine W_block ?_
  refine W_loopS [(3, 4), (36, 48)] (fun (i : Nat) E w' => i ≤ 8 ∧ E 3 = S (h12 p ++ (p.f.map b8).take i) ∧ E 4 = I i ∧ Hp w [(bx, blk (piC p) 36)] w') (fun i => 8 - i) 0 ?e0 ?r0
  · exact ⟨by omega, by rw [List.take_zero, List.append_nil]; rfl, rfl, H⟩
  · (clear H; rintro i E w1 ⟨hi, h3, h4, H⟩; refine W_kn2 h3 h4 ?_; by_cases hlt : i < 8)
    · refine W_seq ?_
      refine W_seq ?_
      refine W_region_l ?_
      refine WL_stepM rfl (R_mv) ?_
      refine WL_step rfl (R_lt_t rfl rfl (by omega)) ?_
      refine WL_nil ?_
      refine W_cond_t rfl ?_
      refine W_skip ?_
      refine W_seq ?_
      refine W_block ?_
      refine W_region_l ?_
      refine WL_stepM rfl (R_mv) ?_
      refine WL_stepM rfl (R_mv) ?_
      refine WL_step rfl (R_fieldAddr (off' := 8) Tryz.underlying36 rfl Tryz.sizeOf34 (by decide) rfl rfl) ?_
      refine WL_step rfl (R_indexAddrA (off' := 8 + i) Tryz.underlying34 Tryz.sizeOf3 rfl rfl (by omega) (by omega) (by omega)) ?_
      refine WL_step rfl (R_load (v := I p.f[i]) Tryz.isAgg3 rfl (H.get .here) (pi_fd hlt)) ?_
      refine WL_step rfl (R_conv_int Tryz.underlying3 Tryz.underlying5 rfl (u8_b8 (n := p.f[i]) (hz _ (List.getElem_mem _)).1)) ?_
      (refine WL_effn rfl (E_buildOnes (vs := [(.int _ _)]) H Tryz.underlying22 Tryz.sizeOf5 Tryz.zeroValue5 rfl rfl (by decide) rfl rfl (by simp [Value.oneCell'])) ?_; clear H; intro b74 w74 hb74 H)
      refine WL_step rfl (R_conv_bs (xs := [b8 p.f[i]]) Tryz.underlying22 Tryz.underlying5 Tryz.underlying9 rfl (RdS.blk (H.get .here) rfl (by simp) (by simp))) ?_
      (refine WL_step rfl (R_cat_S rfl rfl (by simp [hl12]; omega)) ?_; replace H := H.pop (by assumption))
      refine WL_stepM rfl (R_as) ?_
      refine WL_nil ?_
      refine W_region_l ?_
      refine WL_stepM rfl (R_mv) ?_
      refine WL_step rfl (R_add rfl rfl (w_i64 (by omega))) ?_
      refine WL_stepM rfl (R_as) ?_
      refine WL_nil ?_
      exact ⟨(same_mov rfl (same_updo rfl (same_mov rfl (same_mov rfl (same_updo rfl (same_updo rfl (same_updo rfl (same_updo rfl (same_updo rfl (same_updo rfl (same_updo rfl (same_mov rfl (same_mov rfl (same_updo rfl (same_mov rfl same_ovr))))))))))))))), i + 1, by omega, by omega, congrArg S ((congrArg (fun y => (h12 p ++ (p.f.map b8).take i) ++ [y]) (List.getElem_map b8 (h := by rw [hbl]; exact hlt)).symm).trans (cat_snoc (by rw [hbl]; exact hlt))), rfl, H⟩
    · refine W_seq ?_
      refine W_seq ?_
      refine W_region_l ?_
      refine WL_stepM rfl (R_mv) ?_
      refine WL_step rfl (R_lt_f rfl rfl (by omega)) ?_
      refine WL_nil ?_
      refine W_cond_f rfl ?_
      refine W_exit ?_
      refine (if_pos rfl).mpr ?_
      refine W_seq ?_
      ((obtain rfl : i = 8 := (by omega); rw [List.take_of_length_le (l := p.f.map b8) (i := 8) (by omega)])) <;> refine W_region_l ?_
      refine WL_stepM rfl (R_mv) ?_
      refine WL_step rfl (R_cat_S (ys := [167]) rfl rfl (by simp [hl12]; omega)) ?_
      refine WL_stepM rfl (R_as) ?_
      refine WL_nil ?_
      refine W_seq ?_
      refine W_region_l ?_
      refine WL_stepM rfl (R_mv) ?_
      refine WL_stepM rfl (R_mv) ?_
      (refine WL_call rfl (R_call rfl Tryz.call39 rfl) (refSum_ret (xs := hbs p) _ (by rw [hbs_len]; decide)) ?_; rintro _ w104 ⟨rfl, H1⟩; replace H := H.seq0 H1; clear H1)
      (refine WL_effn rfl (E_buildOnes (vs := [(.int _ _), (.int _ _), (.int _ _)]) H Tryz.underlying22 Tryz.sizeOf5 Tryz.zeroValue5 rfl rfl (by decide) rfl rfl (by simp [Value.oneCell'])) ?_; clear H; intro b105 w105 hb105 H)
      refine WL_step rfl (R_conv_bs (xs := [sumB (hbs p), 0, 0]) Tryz.underlying22 Tryz.underlying5 Tryz.underlying9 rfl (RdS.blk (H.get .here) rfl (by simp) (by simp))) ?_
      refine WL_step rfl (R_cat_S rfl rfl (by simp; omega)) ?_
      refine WL_stepM rfl (R_as) ?_
      refine WL_nil ?_
      refine W_ret ?_
      exact ⟨_, rfl, rfl, H.none (by repeat' first | exact kNil | apply kCons | apply kApp | assumption | exact OwnS.keys (by assumption))⟩
end Go.Proofs.YthonajikgljgmaaGreat.Slot
