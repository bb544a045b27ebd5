/-
  Processes' slots: their cells; which may be.
-/
import Derived.Test.YtcpkhgdjckogjaaBytA
import Derived.Test.YtcpkhgdjckogjaaBytB
import Derived.Test.YtcpkhgdjckogjaaBytE
import Derived.Test.YtcpkhgdjckogjaaRefA
import Derived.Test.YtcpkhgdjckogjaaRefB
import Derived.Test.YtcpkhgdjckogjaaClone
import Derived.Test.YtcpkhgdjckogjaaFxY
import Derived.Test.YtcpkhgdjckogjaaFxZ
import Derived.Test.YtcpkhgdjckogjaaFxT
import Derived.Test.YtcpkhgdjckogjaaBvA
namespace Go.Proofs.Ytcpkhgdjckogjaa.Slot
open Go Go.Proofs Go.Proofs.Ytcpkhgdjckogjaa.Fx Go.Proofs.Ytcpkhgdjckogjaa.Codec
set_option maxRecDepth 100000
set_option linter.unusedVariables false
set_option linter.unusedSimpArgs false
set_option maxHeartbeats 2000000

/-- a slot -/
structure Pi where
  s : Int
  p : Int
  g : Int
  e : Int
  a : BitVec 64
  b : BitVec 64
  c : BitVec 64
  d : BitVec 64
  f : List Int
  hf : f.length = 8
theorem pi_ext {p q : Pi} (h1 : p.s = q.s) (h2 : p.p = q.p) (h3 : p.g = q.g) (h4 : p.e = q.e) (h5 : p.a = q.a) (h6 : p.b = q.b) (h7 : p.c = q.c) (h8 : p.d = q.d) (h9 : p.f = q.f) : p = q := by
  obtain ⟨a, b, c, d, e, f, g, h, i, _⟩ := p
  obtain ⟨a', b', c', d', e', f', g', h', i', _⟩ := q
  simp only at h1 h2 h3 h4 h5 h6 h7 h8 h9
  subst h1 h2 h3 h4 h5 h6 h7 h8 h9
  rfl
def piC (p : Pi) : List Value := [I p.s, I p.p, I p.g, I p.e, I p.a.toInt, I p.b.toInt, I p.c.toInt, I p.d.toInt] ++ p.f.map fun x => I x
abbrev vP (p : Pi) : Value := .agg (piC p).toArray
def zeroP : Pi := ⟨0, 0, 0, 0, 0, 0, 0, 0, List.replicate 8 0, rfl⟩
theorem piC_len (p : Pi) : (piC p).length = 16 := by simp [piC, p.hf]
theorem piC_all (p : Pi) : ((piC p).drop 0).take 16 = piC p := by rw [List.drop_zero, List.take_of_length_le (by rw [piC_len]; decide)]
theorem piC_one (p : Pi) : ∀ v ∈ piC p, v.oneCell' = true := by
  intro v hv
  simp only [piC, List.mem_append, List.mem_cons, List.mem_map, List.not_mem_nil, or_false] at hv
  rcases hv with (rfl | rfl | rfl | rfl | rfl | rfl | rfl | rfl) | ⟨x, _, rfl⟩ <;> rfl

section
variable {E : Env} {w0 w : World} {L : List (Nat × Obj)} {d : Option Nat} {ty e : TypeId} {pos : String} {after : Array Edge} {x y : Operand} {b : Nat} {p q : Pi} {f : Obj → List (Nat × Obj)} {c : List Value}
theorem ldP (hb : w.heap[b]? = some (blk (piC p) e)) : (loadVar 53 ⟨b, 0, none⟩).run Try.prog w = .ok (vP p) w :=
  ldA Try.isAgg53 Try.sizeOf53 hb (piC_all p) (by rw [piC_len]; decide)
theorem R_loadP (hx : ev E x = ptr b 0) (hb : w.heap[b]? = some (blk (piC p) e)) : (execOp (ev E) (mk d (.load 53 x) ty pos after)).run Try.prog w = .ok (.value (vP p)) w :=
  R_loadA Try.isAgg53 Try.sizeOf53 hx hb (piC_all p) (by rw [piC_len]; decide)
/-- a whole slot over whatever was there -/
theorem E_storeV (H : Hp w0 L w) (hx : ev E x = ptr b 0) (hy : ev E y = vP q) (hL : At L b (blk c e) f) (hc : c.length = 16) :
    ∃ w', Hp w0 (f (blk (piC q) e)) w' ∧ (execOp (ev E) (mk d (.store 53 x y) ty pos after)).run Try.prog w = .ok .skip w' := by
  have h := E_storeA (d := d) (ty := ty) (pos := pos) (after := after) (vs := piC q) H (fun w => by rw [piC_len]; exact Try.sizeOf53 w) hx hy (piC_one q) hL (by rw [piC_len, hc]; decide)
  rw [List.take_zero, List.nil_append, piC_len, List.drop_of_length_le (by rw [hc]; decide), List.append_nil] at h
  exact h
theorem E_storeP (H : Hp w0 L w) (hx : ev E x = ptr b 0) (hy : ev E y = vP q) (hL : At L b (blk (piC p) e) f) :
    ∃ w', Hp w0 (f (blk (piC q) e)) w' ∧ (execOp (ev E) (mk d (.store 53 x y) ty pos after)).run Try.prog w = .ok .skip w' :=
  E_storeV H hx hy hL (piC_len p)
theorem E_allocP (H : Hp w0 L w) : ∃ b w', w0.heap.size ≤ b ∧ Hp w0 ((b, blk (piC zeroP) 53) :: L) w' ∧ (execOp (ev E) (mk d (.alloc 53) ty pos after)).run Try.prog w = .ok (.value (ptr b 0)) w' :=
  E_alloc (vs := piC zeroP) H Try.zeroValue53 rfl
theorem E_boxP (H : Hp w0 L w) (hx : ev E x = vP q) : ∃ b w', w0.heap.size ≤ b ∧ Hp w0 ((b, blk (piC q) 53) :: L) w' ∧ (execOp (ev E) (mk d (.box 53 x) ty pos after)).run Try.prog w = .ok (.value (ptr b 0)) w' :=
  E_box (v := vP q) (vs := piC q) H hx rfl
theorem R_zeroP : (execOp (ev E) (mk d (.build 53 #[]) ty pos after)).run Try.prog w = .ok (.value (vP zeroP)) w :=
  R_buildL (places := [(0, 1), (1, 1), (2, 1), (3, 1), (4, 1), (5, 1), (6, 1), (7, 1), (8, 8)]) (vs := piC zeroP) Try.underlying53 Try.typeInfo53 rfl rfl (by kernel_rfl) rfl rfl rfl
/-- an array of nothing -/
theorem R_zeroArr {P : Program} {t elem : TypeId} {n : Nat} {zs : List Value} {i : TypeInfo} {z : Value} (hu : P.underlying t = some (.array n elem)) (hI : ∀ w, (typeInfo t).run P w = .ok i w) (hE : ∃ j, P.info? elem = some j)
    (hZ : i.zero = some z) (hz : z.cells = zs.toArray) : (execOp (ev E) (mk d (.build t #[]) ty pos after)).run P w = .ok (.value (.agg zs.toArray)) w := by
  obtain ⟨j, hj⟩ := hE
  refine R_build (ps := []) rfl ?_
  unfold Program.built
  rw [info_of_run hI w, hu]
  simp only [hZ, hz, hj]
  rfl
end

/-- none but signals -/
def okB (x : BitVec 64) : Prop := x &&& ~~~ 65534#64 = 0#64
instance (x : BitVec 64) : Decidable (okB x) := by unfold okB; infer_instance
def okP (p : Pi) : Prop := ((1 ≤ p.s ∧ p.s ≤ 3) ∧ (0 ≤ p.p ∧ p.p ≤ 8) ∧ (0 ≤ p.g ∧ p.g ≤ 7) ∧ (0 ≤ p.e ∧ p.e ≤ 255)) ∧
  ((okB p.a ∧ okB p.b ∧ okB p.c ∧ okB p.d) ∧ (p.b &&& 16896#64 = 0#64 ∧ p.c &&& 16896#64 = 0#64 ∧ p.d &&& 16896#64 = 0#64) ∧ p.c &&& p.d = 0#64) ∧
  (∀ x ∈ p.f, 0 ≤ x ∧ x ≤ 12) ∧ ((p.s = 2 ∧ p.a = 0#64 ∧ p.f = List.replicate 8 0) ∨ (¬ p.s = 2 ∧ p.e = 0))
instance (p : Pi) : Decidable (okP p) := by unfold okP; infer_instance
def b8 (n : Int) : UInt8 := UInt8.ofNat n.toNat
theorem u8_b8 {n : Int} (h : 0 ≤ n) : IntKind.u8.wrap n = ((b8 n).toNat : Int) := by
  obtain ⟨m, rfl⟩ : ∃ m : Nat, n = (m : Int) := ⟨n.toNat, by omega⟩
  exact u8_ofNat
def two (x : BitVec 64) : List UInt8 := [UInt8.ofNat (x.toNat / 256), UInt8.ofNat x.toNat]
/-- the first twenty-one bytes -/
def hbs (p : Pi) : List UInt8 := [b8 p.s, b8 p.p, b8 p.g, b8 p.e] ++ two p.a ++ two p.b ++ two p.c ++ two p.d ++ p.f.map b8 ++ [167]
theorem hbs_len (p : Pi) : (hbs p).length = 21 := by simp [hbs, two, p.hf]
/-- a slot's bytes -/
def bytesP (p : Pi) : List UInt8 := hbs p ++ [sumB (hbs p), 0, 0]
theorem bytes_len (p : Pi) : (bytesP p).length = 24 := by simp [bytesP, hbs_len]

theorem in_ret (n lo hi : Int) (w : World) : Ret Try.prog 42 #[I n, I lo, I hi] w fun v w' => v = .bool (decide (lo ≤ n ∧ n ≤ hi)) ∧ Hp w [] w' := by
  refine Ret_of_W (args := [_, _, _]) Try.func42 rfl Try.ntmps42 Try.results42 (by simp) ?_
  have H := Hp.refl w
  refine W_seq ?_
  refine W_region_l ?_
  refine WL_stepM rfl (R_as) ?_
  refine WL_nil ?_
  refine W_seq ?_
  refine W_region_l ?_
  refine WL_stepM rfl (R_mv) ?_
  refine WL_stepM rfl (R_mv) ?_
  refine WL_step rfl (R_ge rfl rfl) ?_
  refine WL_stepM rfl (R_mv) ?_
  apply WL_andK 4 10 14 [(11, 14)] H
  case hc => rfl
  case h1 =>
    intro h11
    refine WL_guard_t rfl rfl ?_
    refine WL_stepM rfl (R_mv) ?_
    refine WL_guard_t rfl rfl ?_
    refine WL_stepM rfl (R_mv) ?_
    refine WL_guard_t rfl rfl ?_
    refine WL_step rfl (R_le rfl rfl) ?_
    refine WL_stepM rfl (R_pk_t rfl) ?_
    refine WL_nil ?_
    exact ⟨(same_mov rfl (same_updo rfl (same_mov rfl (same_mov rfl Same.refl)))), rfl, H⟩
  case h0 =>
    intro h11
    refine WL_guard_f rfl rfl (by decide) ?_
    refine WL_guard_f rfl rfl (by decide) ?_
    refine WL_guard_f rfl rfl (by decide) ?_
    refine WL_stepM rfl (R_pk_f rfl) ?_
    refine WL_nil ?_
    exact ⟨(same_mov rfl (same_updo rfl (same_updo rfl (same_updo rfl Same.refl)))), rfl, H⟩
  case h2 =>
    (clear H; intro E11 w11 H)
    refine WL_stepM rfl (R_as) ?_
    refine WL_nil ?_
    refine W_ret ?_
    exact ⟨_, rfl, congrArg Value.bool (decide_eq_decide.2 (by omega)), H⟩
theorem fd_ret (n : Int) (w : World) : Ret Try.prog 50 #[I n] w fun v w' => v = .bool (decide (n < 0 ∨ 12 < n)) ∧ Hp w [] w' := by
  refine Ret_of_W (args := [_]) Try.func50 rfl Try.ntmps50 Try.results50 (by simp) ?_
  have H := Hp.refl w
  refine W_seq ?_
  refine W_region_l ?_
  refine WL_stepM rfl (R_as) ?_
  refine WL_nil ?_
  refine W_seq ?_
  refine W_region_l ?_
  refine WL_stepM rfl (R_mv) ?_
  refine WL_step rfl (R_lt rfl rfl) ?_
  refine WL_stepM rfl (R_mv) ?_
  apply WL_orK 3 5 8 [(6, 8)] H
  case hc => rfl
  case h1 =>
    intro h10
    refine WL_guard_t rfl rfl ?_
    refine WL_stepM rfl (R_mv) ?_
    refine WL_guard_t rfl rfl ?_
    refine WL_step rfl (R_gt rfl rfl) ?_
    refine WL_stepM rfl (R_pk_f rfl) ?_
    refine WL_nil ?_
    exact ⟨(same_mov rfl (same_updo rfl (same_mov rfl Same.refl))), rfl, H⟩
  case h0 =>
    intro h10
    refine WL_guard_f rfl rfl (by decide) ?_
    refine WL_guard_f rfl rfl (by decide) ?_
    refine WL_stepM rfl (R_pk_t rfl) ?_
    refine WL_nil ?_
    exact ⟨(same_mov rfl (same_updo rfl (same_updo rfl Same.refl))), rfl, H⟩
  case h2 =>
    (clear H; intro E10 w10 H)
    refine WL_stepM rfl (R_as) ?_
    refine WL_nil ?_
    refine W_ret ?_
    exact ⟨_, rfl, congrArg Value.bool (decide_eq_decide.2 (by omega)), H⟩
theorem bits_ret (x k : BitVec 64) (w : World) : Ret Try.prog 48 #[I x.toInt, I k.toInt] w fun v w' => v = .bool (decide (okB x ∧ x &&& k = 0#64)) ∧ Hp w [] w' := by
  refine Ret_of_W (args := [_, _]) Try.func48 rfl Try.ntmps48 Try.results48 (by simp) ?_
  have H := Hp.refl w
  have hm : (65534 : Int) = (65534#64).toInt := rfl
  refine W_seq ?_
  refine W_region_l ?_
  refine WL_stepM rfl (R_as) ?_
  refine WL_nil ?_
  refine W_seq ?_
  refine W_region_l ?_
  refine WL_stepM rfl (R_mv) ?_
  refine WL_step rfl (R_bits rfl rfl (by simp) (bv_andNot x 65534#64)) ?_
  refine WL_step rfl (R_eq rfl rfl) ?_
  refine WL_stepM rfl (R_mv) ?_
  apply WL_andK 5 8 13 [(9, 13)] H
  case hc => rfl
  case h1 =>
    intro h11
    refine WL_guard_t rfl rfl ?_
    refine WL_stepM rfl (R_mv) ?_
    refine WL_guard_t rfl rfl ?_
    refine WL_stepM rfl (R_mv) ?_
    refine WL_guard_t rfl rfl ?_
    refine WL_step rfl (R_bits rfl rfl (by simp) (bv_and x k)) ?_
    refine WL_guard_t rfl rfl ?_
    refine WL_step rfl (R_eq rfl rfl) ?_
    refine WL_stepM rfl (R_pk_t rfl) ?_
    refine WL_nil ?_
    exact ⟨(same_mov rfl (same_updo rfl (same_updo rfl (same_mov rfl (same_mov rfl Same.refl))))), rfl, H⟩
  case h0 =>
    intro h11
    refine WL_guard_f rfl rfl (by decide) ?_
    refine WL_guard_f rfl rfl (by decide) ?_
    refine WL_guard_f rfl rfl (by decide) ?_
    refine WL_guard_f rfl rfl (by decide) ?_
    refine WL_stepM rfl (R_pk_f rfl) ?_
    refine WL_nil ?_
    exact ⟨(same_mov rfl (same_updo rfl (same_updo rfl (same_updo rfl (same_updo rfl Same.refl))))), rfl, H⟩
  case h2 =>
    (clear H; intro E11 w11 H)
    refine WL_stepM rfl (R_as) ?_
    refine WL_nil ?_
    refine W_ret ?_
    exact ⟨_, rfl, congrArg Value.bool (decide_eq_decide.2 (by simp only [okB, bv_zero])), H⟩
theorem signals_ret (x : BitVec 64) (w : World) : Ret Try.prog 51 #[I x.toInt] w fun v w' => v = .bool (decide (okB x)) ∧ Hp w [] w' := by
  refine Ret_of_W (args := [_]) Try.func51 rfl Try.ntmps51 Try.results51 (by simp) ?_
  have H := Hp.refl w
  have hge : okB x → 0 ≤ x.toInt := fun h => by
    have := bv_lt h
    rw [bv_small (by simp at this; omega)]
    omega
  refine W_seq ?_
  refine W_region_l ?_
  refine WL_stepM rfl (R_as) ?_
  refine WL_nil ?_
  refine W_seq ?_
  refine W_region_l ?_
  refine WL_stepM rfl (R_mv) ?_
  refine WL_step rfl (R_ge rfl rfl) ?_
  refine WL_stepM rfl (R_mv) ?_
  apply WL_andK 4 5 9 [(6, 9)] H
  case hc => rfl
  case h1 =>
    intro h10
    refine WL_guard_t rfl rfl ?_
    refine WL_stepM rfl (R_mv) ?_
    refine WL_guard_t rfl rfl ?_
    refine WL_step rfl (R_bits rfl rfl (by simp) (bv_andNot x 65534#64)) ?_
    refine WL_guard_t rfl rfl ?_
    refine WL_step rfl (R_eq rfl rfl) ?_
    refine WL_stepM rfl (R_pk_t rfl) ?_
    refine WL_nil ?_
    exact ⟨(same_mov rfl (same_updo rfl (same_updo rfl (same_mov rfl Same.refl)))), rfl, H⟩
  case h0 =>
    intro h10
    refine WL_guard_f rfl rfl (by decide) ?_
    refine WL_guard_f rfl rfl (by decide) ?_
    refine WL_guard_f rfl rfl (by decide) ?_
    refine WL_stepM rfl (R_pk_f rfl) ?_
    refine WL_nil ?_
    exact ⟨(same_mov rfl (same_updo rfl (same_updo rfl (same_updo rfl Same.refl)))), rfl, H⟩
  case h2 =>
    (clear H; intro E10 w10 H)
    refine WL_stepM rfl (R_as) ?_
    refine WL_nil ?_
    refine W_ret ?_
    exact ⟨_, rfl, congrArg Value.bool (decide_eq_decide.2 (by rw [bv_zero]; exact ⟨fun h => h.2, fun h => ⟨hge h, h⟩⟩)), H⟩

theorem indexFunc_ret {xs : List Int} {w : World} {l : Value} (hl : RdS w l (xs.map fun x => I x)) (hb : xs.length ≤ 9223372036854775807) :
    Ret Try.prog 63 #[l, .func (.func 50) #[] #[]] w fun v w' => ∃ r : Int, v = I r ∧ (0 ≤ r ↔ ∃ x ∈ xs, x < 0 ∨ 12 < x) ∧ Hp w [] w' := by
  refine Ret_of_W (args := [_, _]) Try.func63 rfl Try.ntmps63 Try.results63 (by simp) ?_
  have H := Hp.refl w
  obtain ⟨ao, ca, rfl, hca, hra⟩ := id hl
  simp only [List.length_map] at hl ⊢
  refine W_seq ?_
  refine W_region_l ?_
  refine WL_stepM rfl (R_as) ?_
  refine WL_nil ?_
  refine W_seq ?_
  refine W_seq ?_
  refine W_region_l ?_
  refine WL_stepM rfl (R_mv) ?_
  refine WL_step rfl (R_len_slice Try.underlying57 rfl) ?_
  refine WL_stepM rfl (R_mv) ?_
  refine WL_nil ?_
  refine W_block ?_
  refine W_loop (fun (i : Nat) E w' => i ≤ xs.length ∧ E 0 = .slice ao xs.length ca ∧ E 1 = .func (.func 50) #[] #[] ∧ E 7 = I xs.length ∧ E 8 = I i ∧ (∀ x ∈ xs.take i, ¬ (x < 0 ∨ 12 < x)) ∧ Hp w [] w') (fun i => xs.length - i) 0 ?_ ?_
  · exact ⟨by omega, rfl, rfl, rfl, rfl, (by simp), H⟩
  · (clear H; rintro i E w1 ⟨hi, h0, h1, h2, h3, hz, H⟩; refine W_know4 h0 h1 h2 h3 ?_; by_cases hlt : i < xs.length)
    · refine W_seq ?_
      refine W_region_l ?_
      refine WL_step rfl (R_lt_t rfl rfl (by omega)) ?_
      refine WL_nil ?_
      refine W_seq ?_
      refine W_cond_t rfl ?_
      refine W_skip ?_
      refine W_seq ?_
      refine W_block ?_
      refine W_seq ?_
      refine W_region_l ?_
      refine WL_stepM rfl (R_mv) ?_
      refine WL_stepM rfl (R_as) ?_
      refine WL_nil ?_
      refine W_seq ?_
      (obtain ⟨b1, o1, rfl, hc1⟩ := hl.cell (i := i) (u := I xs[i]) (by rw [List.getElem?_map, List.getElem?_eq_getElem (by omega)]; rfl); refine W_region_l ?_)
      refine WL_stepM rfl (R_mv) ?_
      refine WL_stepM rfl (R_mv) ?_
      refine WL_stepM rfl (R_mv) ?_
      refine WL_step rfl (R_indexAddr Try.underlying57 Try.sizeOf3 rfl rfl (by omega) (by omega) idx_cast1) ?_
      refine WL_step rfl (R_load_cell Try.isAgg3 rfl (H.cell hc1 (by simp))) ?_
      (refine WL_call rfl (R_call rfl Try.call50 rfl) (fd_ret _ _) ?_; rintro _ w37 ⟨rfl, H1⟩; replace H := H.seq0 H1; clear H1)
      refine WL_nil ?_
      refine W_if rfl (fun hne => ?_) (fun hne => ?_)
      · refine W_seq ?_
        refine W_region_l ?_
        refine WL_stepM rfl (R_mv) ?_
        refine WL_stepM rfl (R_as) ?_
        refine WL_nil ?_
        refine W_ret ?_
        (exact ⟨_, rfl, _, rfl, ⟨fun _ => ⟨xs[i], List.getElem_mem hlt, hne⟩, fun _ => by omega⟩, H⟩)
      · refine W_skip ?_
        refine W_region_l ?_
        refine WL_step rfl (R_add rfl rfl (w_i64 (by omega))) ?_
        refine WL_stepM rfl (R_mv) ?_
        refine WL_nil ?_
        (exact ⟨i + 1, by omega, by omega, rfl, rfl, rfl, rfl, (by intro x hx; rw [List.take_succ_eq_append_getElem hlt] at hx; rcases List.mem_append.1 hx with hx | hx; exact hz x hx; rw [List.mem_singleton.1 hx]; exact hne), H⟩)
    · refine W_seq ?_
      refine W_region_l ?_
      refine WL_step rfl (R_lt_f rfl rfl (by omega)) ?_
      refine WL_nil ?_
      refine W_seq ?_
      refine W_cond_f rfl ?_
      refine W_exit ?_
      refine (if_pos rfl).mpr ?_
      refine W_seq ?_
      refine W_region_l ?_
      refine WL_stepM rfl (R_as) ?_
      refine WL_nil ?_
      refine W_ret ?_
      exact ⟨_, rfl, _, rfl, ⟨fun h => by omega, fun ⟨x, hx, hn⟩ => (hz x (by rw [List.take_of_length_le (by omega)]; exact hx) hn).elim⟩, H⟩
theorem containsFunc_ret {xs : List Int} {w : World} {l : Value} (hl : RdS w l (xs.map fun x => I x)) (hb : xs.length ≤ 9223372036854775807) :
    Ret Try.prog 49 #[l, .func (.func 50) #[] #[]] w fun v w' => v = .bool (decide (∃ x ∈ xs, x < 0 ∨ 12 < x)) ∧ Hp w [] w' := by
  refine Ret_of_W (args := [_, _]) Try.func49 rfl Try.ntmps49 Try.results49 (by simp) ?_
  have H := Hp.refl w
  refine W_seq ?_
  refine W_region_l ?_
  refine WL_stepM rfl (R_as) ?_
  refine WL_nil ?_
  refine W_seq ?_
  refine W_region_l ?_
  refine WL_stepM rfl (R_mv) ?_
  refine WL_stepM rfl (R_mv) ?_
  (refine WL_call rfl (R_call rfl Try.call63 rfl) (indexFunc_ret hl hb) ?_; rintro _ w9 ⟨r, rfl, hr, H1⟩; replace H := H.seq0 H1; clear H1)
  refine WL_step rfl (R_ge rfl rfl) ?_
  refine WL_stepM rfl (R_as) ?_
  refine WL_nil ?_
  refine W_ret ?_
  exact ⟨_, rfl, congrArg Value.bool (decide_eq_decide.2 hr), H⟩
end Go.Proofs.Ytcpkhgdjckogjaa.Slot
