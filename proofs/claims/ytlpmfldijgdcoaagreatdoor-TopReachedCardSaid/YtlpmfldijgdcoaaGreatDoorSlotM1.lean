/-
  Processes' slots: their cells; which may be.
-/
import Derived.Test.YtlpmfldijgdcoaaGreatDoorBytM
import Derived.Test.YtlpmfldijgdcoaaGreatDoorRefM
import Derived.Test.YtlpmfldijgdcoaaGreatDoorClone
import Derived.Test.YtlpmfldijgdcoaaGreatDoorFxY
import Derived.Test.YtlpmfldijgdcoaaGreatDoorFxZ
import Derived.Test.YtlpmfldijgdcoaaGreatDoorFxT
import Derived.Test.YtlpmfldijgdcoaaGreatDoorBvA
namespace Go.Proofs.YtlpmfldijgdcoaaGreatDoor.Slot
open Go Go.Proofs Go.Proofs.YtlpmfldijgdcoaaGreatDoor.Fx Go.Proofs.YtlpmfldijgdcoaaGreatDoor.Codec
set_option maxRecDepth 100000
set_option linter.unusedVariables false
set_option linter.unusedSimpArgs false
set_option maxHeartbeats 2000000

/-- a slot -/
structure Pi where
  s : Int
  p : Int
  g : Int
  e : Int
  a : BitVec 64
  b : BitVec 64
  c : BitVec 64
  d : BitVec 64
  f : List Int
  hf : f.length = 8
def piC (p : Pi) : List Value := [I p.s, I p.p, I p.g, I p.e, I p.a.toInt, I p.b.toInt, I p.c.toInt, I p.d.toInt] ++ p.f.map fun x => I x
abbrev vP (p : Pi) : Value := .agg (piC p).toArray
def zeroP : Pi := ⟨0, 0, 0, 0, 0, 0, 0, 0, List.replicate 8 0, rfl⟩
theorem piC_len (p : Pi) : (piC p).length = 16 := by simp [piC, p.hf]
theorem piC_all (p : Pi) : ((piC p).drop 0).take 16 = piC p := by rw [List.drop_zero, List.take_of_length_le (by rw [piC_len]; decide)]
theorem piC_one (p : Pi) : ∀ v ∈ piC p, v.oneCell' = true := by
  intro v hv
  simp only [piC, List.mem_append, List.mem_cons, List.mem_map, List.not_mem_nil, or_false] at hv
  rcases hv with (rfl | rfl | rfl | rfl | rfl | rfl | rfl | rfl) | ⟨x, _, rfl⟩ <;> rfl

section
variable {E : Env} {w0 w : World} {L : List (Nat × Obj)} {d : Option Nat} {ty e : TypeId} {pos : String} {after : Array Edge} {x y : Operand} {b : Nat} {p q : Pi} {f : Obj → List (Nat × Obj)} {c : List Value}
theorem ldP (hb : w.heap[b]? = some (blk (piC p) e)) : (loadVar 58 ⟨b, 0, none⟩).run Tryz.prog w = .ok (vP p) w :=
  ldA Tryz.isAgg58 Tryz.sizeOf58 hb (piC_all p) (by rw [piC_len]; decide)
theorem R_loadP (hx : ev E x = ptr b 0) (hb : w.heap[b]? = some (blk (piC p) e)) : (execOp (ev E) (mk d (.load 58 x) ty pos after)).run Tryz.prog w = .ok (.value (vP p)) w :=
  R_loadA Tryz.isAgg58 Tryz.sizeOf58 hx hb (piC_all p) (by rw [piC_len]; decide)
/-- a whole slot over whatever was there -/
theorem E_storeV (H : Hp w0 L w) (hx : ev E x = ptr b 0) (hy : ev E y = vP q) (hL : At L b (blk c e) f) (hc : c.length = 16) :
    ∃ w', Hp w0 (f (blk (piC q) e)) w' ∧ (execOp (ev E) (mk d (.store 58 x y) ty pos after)).run Tryz.prog w = .ok .skip w' := by
  have h := E_storeA (d := d) (ty := ty) (pos := pos) (after := after) (vs := piC q) H (fun w => by rw [piC_len]; exact Tryz.sizeOf58 w) hx hy (piC_one q) hL (by rw [piC_len, hc]; decide)
  rw [List.take_zero, List.nil_append, piC_len, List.drop_of_length_le (by rw [hc]; decide), List.append_nil] at h
  exact h
theorem E_storeP (H : Hp w0 L w) (hx : ev E x = ptr b 0) (hy : ev E y = vP q) (hL : At L b (blk (piC p) e) f) :
    ∃ w', Hp w0 (f (blk (piC q) e)) w' ∧ (execOp (ev E) (mk d (.store 58 x y) ty pos after)).run Tryz.prog w = .ok .skip w' :=
  E_storeV H hx hy hL (piC_len p)
theorem E_allocP (H : Hp w0 L w) : ∃ b w', w0.heap.size ≤ b ∧ Hp w0 ((b, blk (piC zeroP) 58) :: L) w' ∧ (execOp (ev E) (mk d (.alloc 58) ty pos after)).run Tryz.prog w = .ok (.value (ptr b 0)) w' :=
  E_alloc (vs := piC zeroP) H Tryz.zeroValue58 rfl
theorem E_boxP (H : Hp w0 L w) (hx : ev E x = vP q) : ∃ b w', w0.heap.size ≤ b ∧ Hp w0 ((b, blk (piC q) 58) :: L) w' ∧ (execOp (ev E) (mk d (.box 58 x) ty pos after)).run Tryz.prog w = .ok (.value (ptr b 0)) w' :=
  E_box (v := vP q) (vs := piC q) H hx rfl
theorem R_zeroP : (execOp (ev E) (mk d (.build 58 #[]) ty pos after)).run Tryz.prog w = .ok (.value (vP zeroP)) w :=
  R_buildL (places := [(0, 1), (1, 1), (2, 1), (3, 1), (4, 1), (5, 1), (6, 1), (7, 1), (8, 8)]) (vs := piC zeroP) Tryz.underlying58 Tryz.typeInfo58 rfl rfl (by kernel_rfl) rfl rfl rfl
/-- an array of nothing -/
theorem R_zeroArr {P : Program} {t elem : TypeId} {n : Nat} {zs : List Value} {i : TypeInfo} {z : Value} (hu : P.underlying t = some (.array n elem)) (hI : ∀ w, (typeInfo t).run P w = .ok i w) (hE : ∃ j, P.info? elem = some j)
    (hZ : i.zero = some z) (hz : z.cells = zs.toArray) : (execOp (ev E) (mk d (.build t #[]) ty pos after)).run P w = .ok (.value (.agg zs.toArray)) w := by
  obtain ⟨j, hj⟩ := hE
  refine R_build (ps := []) rfl ?_
  unfold Program.built
  rw [info_of_run hI w, hu]
  simp only [hZ, hz, hj]
  rfl
end

/-- none but signals -/
def okB (x : BitVec 64) : Prop := x &&& ~~~ 65534#64 = 0#64
instance (x : BitVec 64) : Decidable (okB x) := by unfold okB; infer_instance
def okP (p : Pi) : Prop := ((1 ≤ p.s ∧ p.s ≤ 3) ∧ (0 ≤ p.p ∧ p.p ≤ 8) ∧ (0 ≤ p.g ∧ p.g ≤ 7) ∧ (0 ≤ p.e ∧ p.e ≤ 255)) ∧
  ((okB p.a ∧ okB p.b ∧ okB p.c ∧ okB p.d) ∧ (p.b &&& 16896#64 = 0#64 ∧ p.c &&& 16896#64 = 0#64 ∧ p.d &&& 16896#64 = 0#64) ∧ p.c &&& p.d = 0#64) ∧
  (∀ x ∈ p.f, 0 ≤ x ∧ x ≤ 12) ∧ ((p.s = 2 ∧ p.a = 0#64 ∧ p.f = List.replicate 8 0) ∨ (¬ p.s = 2 ∧ p.e = 0))
instance (p : Pi) : Decidable (okP p) := by unfold okP; infer_instance
def b8 (n : Int) : UInt8 := UInt8.ofNat n.toNat
theorem u8_b8 {n : Int} (h : 0 ≤ n) : IntKind.u8.wrap n = ((b8 n).toNat : Int) := by
  obtain ⟨m, rfl⟩ : ∃ m : Nat, n = (m : Int) := ⟨n.toNat, by omega⟩
  exact u8_ofNat
def two (x : BitVec 64) : List UInt8 := [UInt8.ofNat (x.toNat / 256), UInt8.ofNat x.toNat]
/-- the first twenty-one bytes -/
def hbs (p : Pi) : List UInt8 := [b8 p.s, b8 p.p, b8 p.g, b8 p.e] ++ two p.a ++ two p.b ++ two p.c ++ two p.d ++ p.f.map b8 ++ [167]
theorem hbs_len (p : Pi) : (hbs p).length = 21 := by simp [hbs, two, p.hf]
/-- a slot's bytes -/
def bytesP (p : Pi) : List UInt8 := hbs p ++ [sumB (hbs p), 0, 0]
theorem bytes_len (p : Pi) : (bytesP p).length = 24 := by simp [bytesP, hbs_len]

theorem in_ret (n lo hi : Int) (w : World) : Ret Tryz.prog 70 #[I n, I lo, I hi] w fun v w' => v = .bool (decide (lo ≤ n ∧ n ≤ hi)) ∧ Hp w [] w' := by
  refine Ret_of_W (args := [_, _, _]) Tryz.func70 rfl Tryz.ntmps70 Tryz.results70 (by simp) ?_
  have H := Hp.refl w
  refine W_seq ?_
  refine W_region_l ?_
  refine WL_stepM rfl (R_as) ?_
  refine WL_nil ?_
  refine W_seq ?_
  refine W_region_l ?_
  refine WL_stepM rfl (R_mv) ?_
  refine WL_stepM rfl (R_mv) ?_
  refine WL_step rfl (R_ge rfl rfl) ?_
  refine WL_stepM rfl (R_mv) ?_
  apply WL_andK 4 10 14 [(11, 14)] H
  case hc => rfl
  case h1 =>
    intro h11
    refine WL_guard_t rfl rfl ?_
    refine WL_stepM rfl (R_mv) ?_
    refine WL_guard_t rfl rfl ?_
    refine WL_stepM rfl (R_mv) ?_
    refine WL_guard_t rfl rfl ?_
    refine WL_step rfl (R_le rfl rfl) ?_
    refine WL_stepM rfl (R_pk_t rfl) ?_
    refine WL_nil ?_
    exact ⟨(same_mov rfl (same_updo rfl (same_mov rfl (same_mov rfl Same.refl)))), rfl, H⟩
  case h0 =>
    intro h11
    refine WL_guard_f rfl rfl (by decide) ?_
    refine WL_guard_f rfl rfl (by decide) ?_
    refine WL_guard_f rfl rfl (by decide) ?_
    refine WL_stepM rfl (R_pk_f rfl) ?_
    refine WL_nil ?_
    exact ⟨(same_mov rfl (same_updo rfl (same_updo rfl (same_updo rfl Same.refl)))), rfl, H⟩
  case h2 =>
    (clear H; intro E11 w11 H)
    refine WL_stepM rfl (R_as) ?_
    refine WL_nil ?_
    refine W_ret ?_
    exact ⟨_, rfl, congrArg Value.bool (decide_eq_decide.2 (by omega)), H⟩
theorem fd_ret (n : Int) (w : World) : Ret Tryz.prog 236 #[I n] w fun v w' => v = .bool (decide (n < 0 ∨ 12 < n)) ∧ Hp w [] w' := by
  refine Ret_of_W (args := [_]) Tryz.func236 rfl Tryz.ntmps236 Tryz.results236 (by simp) ?_
  have H := Hp.refl w
  refine W_seq ?_
  refine W_region_l ?_
  refine WL_stepM rfl (R_as) ?_
  refine WL_nil ?_
  refine W_seq ?_
  refine W_region_l ?_
  refine WL_stepM rfl (R_mv) ?_
  refine WL_step rfl (R_lt rfl rfl) ?_
  refine WL_stepM rfl (R_mv) ?_
  apply WL_orK 3 5 8 [(6, 8)] H
  case hc => rfl
  case h1 =>
    intro h10
    refine WL_guard_t rfl rfl ?_
    refine WL_stepM rfl (R_mv) ?_
    refine WL_guard_t rfl rfl ?_
    refine WL_step rfl (R_gt rfl rfl) ?_
    refine WL_stepM rfl (R_pk_f rfl) ?_
    refine WL_nil ?_
    exact ⟨(same_mov rfl (same_updo rfl (same_mov rfl Same.refl))), rfl, H⟩
  case h0 =>
    intro h10
    refine WL_guard_f rfl rfl (by decide) ?_
    refine WL_guard_f rfl rfl (by decide) ?_
    refine WL_stepM rfl (R_pk_t rfl) ?_
    refine WL_nil ?_
    exact ⟨(same_mov rfl (same_updo rfl (same_updo rfl Same.refl))), rfl, H⟩
  case h2 =>
    (clear H; intro E10 w10 H)
    refine WL_stepM rfl (R_as) ?_
    refine WL_nil ?_
    refine W_ret ?_
    exact ⟨_, rfl, congrArg Value.bool (decide_eq_decide.2 (by omega)), H⟩
theorem bits_ret (x k : BitVec 64) (w : World) : Ret Tryz.prog 235 #[I x.toInt, I k.toInt] w fun v w' => v = .bool (decide (okB x ∧ x &&& k = 0#64)) ∧ Hp w [] w' := by
  refine Ret_of_W (args := [_, _]) Tryz.func235 rfl Tryz.ntmps235 Tryz.results235 (by simp) ?_
  have H := Hp.refl w
  have hm : (65534 : Int) = (65534#64).toInt := rfl
  refine W_seq ?_
  refine W_region_l ?_
  refine WL_stepM rfl (R_as) ?_
  refine WL_nil ?_
  refine W_seq ?_
  refine W_region_l ?_
  refine WL_stepM rfl (R_mv) ?_
  refine WL_step rfl (R_bits rfl rfl (by simp) (bv_andNot x 65534#64)) ?_
  refine WL_step rfl (R_eq rfl rfl) ?_
  refine WL_stepM rfl (R_mv) ?_
  apply WL_andK 5 8 13 [(9, 13)] H
  case hc => rfl
  case h1 =>
    intro h11
    refine WL_guard_t rfl rfl ?_
    refine WL_stepM rfl (R_mv) ?_
    refine WL_guard_t rfl rfl ?_
    refine WL_stepM rfl (R_mv) ?_
    refine WL_guard_t rfl rfl ?_
    refine WL_step rfl (R_bits rfl rfl (by simp) (bv_and x k)) ?_
    refine WL_guard_t rfl rfl ?_
    refine WL_step rfl (R_eq rfl rfl) ?_
    refine WL_stepM rfl (R_pk_t rfl) ?_
    refine WL_nil ?_
    exact ⟨(same_mov rfl (same_updo rfl (same_updo rfl (same_mov rfl (same_mov rfl Same.refl))))), rfl, H⟩
  case h0 =>
    intro h11
    refine WL_guard_f rfl rfl (by decide) ?_
    refine WL_guard_f rfl rfl (by decide) ?_
    refine WL_guard_f rfl rfl (by decide) ?_
    refine WL_guard_f rfl rfl (by decide) ?_
    refine WL_stepM rfl (R_pk_f rfl) ?_
    refine WL_nil ?_
    exact ⟨(same_mov rfl (same_updo rfl (same_updo rfl (same_updo rfl (same_updo rfl Same.refl))))), rfl, H⟩
  case h2 =>
    (clear H; intro E11 w11 H)
    refine WL_stepM rfl (R_as) ?_
    refine WL_nil ?_
    refine W_ret ?_
    exact ⟨_, rfl, congrArg Value.bool (decide_eq_decide.2 (by simp only [okB, bv_zero])), H⟩
theorem indexFunc_ret {xs : List Int} {w : World} {l : Value} (hl : RdS w l (xs.map fun x => I x)) (hb : xs.length ≤ 9223372036854775807) :
    Ret Tryz.prog 119 #[l, .func (.func 236) #[] #[]] w fun v w' => ∃ r : Int, v = I r ∧ (0 ≤ r ↔ ∃ x ∈ xs, x < 0 ∨ 12 < x) ∧ Hp w [] w' := by
  refine Ret_of_W (args := [_, _]) Tryz.func119 rfl Tryz.ntmps119 Tryz.results119 (by simp) ?_
  have H := Hp.refl w
  obtain ⟨ao, ca, rfl, hca, hra⟩ := id hl
  simp only [List.length_map] at hl ⊢
  refine W_seq ?_
  refine W_region_l ?_
  refine WL_stepM rfl (R_as) ?_
  refine WL_nil ?_
  refine W_seq ?_
  refine W_seq ?_
  refine W_region_l ?_
  refine WL_stepM rfl (R_mv) ?_
  refine WL_step rfl (R_len_slice Tryz.underlying22 rfl) ?_
  refine WL_stepM rfl (R_mv) ?_
  refine WL_nil ?_
  refine W_block ?_
  refine W_loop (fun (i : Nat) E w' => i ≤ xs.length ∧ E 0 = .slice ao xs.length ca ∧ E 1 = .func (.func 236) #[] #[] ∧ E 7 = I xs.length ∧ E 8 = I i ∧ (∀ x ∈ xs.take i, ¬ (x < 0 ∨ 12 < x)) ∧ Hp w [] w') (fun i => xs.length - i) 0 ?_ ?_
  · exact ⟨by omega, rfl, rfl, rfl, rfl, (by simp), H⟩
  · (clear H; rintro i E w1 ⟨hi, h0, h1, h2, h3, hz, H⟩; refine W_know4 h0 h1 h2 h3 ?_; by_cases hlt : i < xs.length)
    · refine W_seq ?_
      refine W_region_l ?_
      refine WL_step rfl (R_lt_t rfl rfl (by omega)) ?_
      refine WL_nil ?_
      refine W_seq ?_
      refine W_cond_t rfl ?_
      refine W_skip ?_
      refine W_seq ?_
      refine W_block ?_
      refine W_seq ?_
      refine W_region_l ?_
      refine WL_stepM rfl (R_mv) ?_
      refine WL_stepM rfl (R_as) ?_
      refine WL_nil ?_
      refine W_seq ?_
      (obtain ⟨b1, o1, rfl, hc1⟩ := hl.cell (i := i) (u := I xs[i]) (by rw [List.getElem?_map, List.getElem?_eq_getElem (by omega)]; rfl); refine W_region_l ?_)
      refine WL_stepM rfl (R_mv) ?_
      refine WL_stepM rfl (R_mv) ?_
      refine WL_stepM rfl (R_mv) ?_
      refine WL_step rfl (R_indexAddr Tryz.underlying22 Tryz.sizeOf3 rfl rfl (by omega) (by omega) idx_cast1) ?_
      refine WL_step rfl (R_load_cell Tryz.isAgg3 rfl (H.cell hc1 (by simp))) ?_
      (refine WL_call rfl (R_call rfl Tryz.call236 rfl) (fd_ret _ _) ?_; rintro _ w37 ⟨rfl, H1⟩; replace H := H.seq0 H1; clear H1)
      refine WL_nil ?_
      refine W_if rfl (fun hne => ?_) (fun hne => ?_)
      · refine W_seq ?_
        refine W_region_l ?_
        refine WL_stepM rfl (R_mv) ?_
        refine WL_stepM rfl (R_as) ?_
        refine WL_nil ?_
        refine W_ret ?_
        (exact ⟨_, rfl, _, rfl, ⟨fun _ => ⟨xs[i], List.getElem_mem hlt, hne⟩, fun _ => by omega⟩, H⟩)
      · refine W_skip ?_
        refine W_region_l ?_
        refine WL_step rfl (R_add rfl rfl (w_i64 (by omega))) ?_
        refine WL_stepM rfl (R_mv) ?_
        refine WL_nil ?_
        (exact ⟨i + 1, by omega, by omega, rfl, rfl, rfl, rfl, (by intro x hx; rw [List.take_succ_eq_append_getElem hlt] at hx; rcases List.mem_append.1 hx with hx | hx; exact hz x hx; rw [List.mem_singleton.1 hx]; exact hne), H⟩)
    · refine W_seq ?_
      refine W_region_l ?_
      refine WL_step rfl (R_lt_f rfl rfl (by omega)) ?_
      refine WL_nil ?_
      refine W_seq ?_
      refine W_cond_f rfl ?_
      refine W_exit ?_
      refine (if_pos rfl).mpr ?_
      refine W_seq ?_
      refine W_region_l ?_
      refine WL_stepM rfl (R_as) ?_
      refine WL_nil ?_
      refine W_ret ?_
      exact ⟨_, rfl, _, rfl, ⟨fun h => by omega, fun ⟨x, hx, hn⟩ => (hz x (by rw [List.take_of_length_le (by omega)]; exact hx) hn).elim⟩, H⟩
theorem containsFunc_ret {xs : List Int} {w : World} {l : Value} (hl : RdS w l (xs.map fun x => I x)) (hb : xs.length ≤ 9223372036854775807) :
    Ret Tryz.prog 75 #[l, .func (.func 236) #[] #[]] w fun v w' => v = .bool (decide (∃ x ∈ xs, x < 0 ∨ 12 < x)) ∧ Hp w [] w' := by
  refine Ret_of_W (args := [_, _]) Tryz.func75 rfl Tryz.ntmps75 Tryz.results75 (by simp) ?_
  have H := Hp.refl w
  refine W_seq ?_
  refine W_region_l ?_
  refine WL_stepM rfl (R_as) ?_
  refine WL_nil ?_
  refine W_seq ?_
  refine W_region_l ?_
  refine WL_stepM rfl (R_mv) ?_
  refine WL_stepM rfl (R_mv) ?_
  (refine WL_call rfl (R_call rfl Tryz.call119 rfl) (indexFunc_ret hl hb) ?_; rintro _ w9 ⟨r, rfl, hr, H1⟩; replace H := H.seq0 H1; clear H1)
  refine WL_step rfl (R_ge rfl rfl) ?_
  refine WL_stepM rfl (R_as) ?_
  refine WL_nil ?_
  refine W_ret ?_
  exact ⟨_, rfl, congrArg Value.bool (decide_eq_decide.2 hr), H⟩
end Go.Proofs.YtlpmfldijgdcoaaGreatDoor.Slot

/-
  Which slots may be.
-/
namespace Go.Proofs.YtlpmfldijgdcoaaGreatDoor.Slot
open Go Go.Proofs Go.Proofs.YtlpmfldijgdcoaaGreatDoor.Fx Go.Proofs.YtlpmfldijgdcoaaGreatDoor.Codec
set_option maxRecDepth 100000
set_option linter.unusedVariables false
set_option linter.unusedSimpArgs false
set_option maxHeartbeats 2000000

theorem hfd (p : Pi) : ((piC p).drop 8).take 8 = p.f.map fun x => I x := by
  unfold piC
  rw [List.drop_left' (by simp), List.take_of_length_le (by simp [p.hf])]
theorem zip_rep {k : IntKind} : ∀ (n : Nat) (l : List Int), l.length = n → List.zipWith Value.int (List.replicate n k) l = l.map (Value.int k)
  | 0, [], _ => rfl
  | n + 1, a :: l, h => by rw [List.replicate_succ, List.zipWith_cons_cons, List.map_cons, zip_rep n l (by simpa using h)]
theorem eq_fds : EqC Tryz.prog 56 (List.replicate 8 .i64) true 2 :=
  EqC.array (EqC.int Tryz.isAgg3 Tryz.sizeOf3 Tryz.underlying3) Tryz.isAgg56 Tryz.sizeOf56 Tryz.underlying56 (info_of_run Tryz.typeInfo3 default) (by kernel_rfl) rfl
theorem R_eq_fds {E : Env} {w : World} {d : Option Nat} {ty : TypeId} {pos : String} {after : Array Edge} {t' : TypeId} {x y : Operand} {f g : List Int} (hf : f.length = 8) (hg : g.length = 8) (hx : ev E x = .agg (f.map fun x => I x).toArray) (hy : ev E y = .agg (g.map fun x => I x).toArray)
    : (execOp (ev E) (mk d (.binOp .eql 56 x y t') ty pos after)).run Tryz.prog w = .ok (.value (.bool (decide (f = g)))) w :=
  R_eq_C eq_fds (by decide) (by kernel_rfl) hx hy (zip_rep 8 f hf).symm (zip_rep 8 g hg).symm (by rw [hf]; rfl) (by rw [hg]; rfl)

theorem mid_of {a b c d : BitVec 64} (h : ¬((((¬(okB a ∧ a &&& 0#64 = 0#64) ∨ ¬(okB b ∧ b &&& 16896#64 = 0#64)) ∨ ¬(okB c ∧ c &&& 16896#64 = 0#64)) ∨ ¬(okB d ∧ d &&& 16896#64 = 0#64)) ∨ (c &&& d).toInt ≠ 0)) :
    (okB a ∧ okB b ∧ okB c ∧ okB d) ∧ (b &&& 16896#64 = 0#64 ∧ c &&& 16896#64 = 0#64 ∧ d &&& 16896#64 = 0#64) ∧ c &&& d = 0#64 := by
  have h5 : c &&& d = 0#64 := bv_zero.1 (Classical.byContradiction fun hn => h (.inr hn))
  have h1 : okB a ∧ a &&& 0#64 = 0#64 := Classical.byContradiction fun hn => h (.inl (.inl (.inl (.inl hn))))
  have h2 : okB b ∧ b &&& 16896#64 = 0#64 := Classical.byContradiction fun hn => h (.inl (.inl (.inl (.inr hn))))
  have h3 : okB c ∧ c &&& 16896#64 = 0#64 := Classical.byContradiction fun hn => h (.inl (.inl (.inr hn)))
  have h4 : okB d ∧ d &&& 16896#64 = 0#64 := Classical.byContradiction fun hn => h (.inl (.inr hn))
  exact ⟨⟨h1.1, h2.1, h3.1, h4.1⟩, ⟨h2.2, h3.2, h4.2⟩, h5⟩

theorem ok_ret (p : Pi) (w : World) : Ret Tryz.prog 199 #[vP p] w fun v w' => v = .bool (decide (okP p)) ∧ Hp w [] w' := by
  refine Ret_of_W (args := [_]) Tryz.func199 rfl Tryz.ntmps199 Tryz.results199 (by simp) ?_
  have H := Hp.refl w
  have hz8 : (List.replicate 8 (0 : Int)).length = 8 := rfl
  refine W_seq ?_
  refine W_region_l ?_
  (refine WL_effn rfl (E_boxP H rfl) ?_; clear H; intro bx w3 hbx H)
  refine WL_stepM rfl (R_as) ?_
  refine WL_nil ?_
  refine W_seq ?_
  refine W_seq ?_
  refine W_region_l ?_
  refine WL_step rfl (R_fieldAddr (off' := 0) Tryz.underlying58 rfl Tryz.sizeOf3 (by decide) rfl rfl) ?_
  refine WL_step rfl (R_load Tryz.isAgg3 rfl (H.get .here) rfl) ?_
  refine WL_step rfl (R_lt rfl rfl) ?_
  refine WL_stepM rfl (R_mv) ?_
  apply WL_orK 4 6 10 [(7, 10)] H
  case hc => rfl
  case h1 =>
    intro h13
    refine WL_guard_t rfl rfl ?_
    refine WL_step rfl (R_fieldAddr (off' := 0) Tryz.underlying58 rfl Tryz.sizeOf3 (by decide) rfl rfl) ?_
    refine WL_guard_t rfl rfl ?_
    refine WL_step rfl (R_load Tryz.isAgg3 rfl (H.get .here) rfl) ?_
    refine WL_guard_t rfl rfl ?_
    refine WL_step rfl (R_gt rfl rfl) ?_
    refine WL_stepM rfl (R_pk_f rfl) ?_
    refine WL_nil ?_
    exact ⟨(same_mov rfl (same_updo rfl (same_updo rfl (same_updo rfl Same.refl)))), rfl, H⟩
  case h0 =>
    intro h13
    refine WL_guard_f rfl rfl (by decide) ?_
    refine WL_guard_f rfl rfl (by decide) ?_
    refine WL_guard_f rfl rfl (by decide) ?_
    refine WL_stepM rfl (R_pk_t rfl) ?_
    refine WL_nil ?_
    exact ⟨(same_mov rfl (same_updo rfl (same_updo rfl (same_updo rfl Same.refl)))), rfl, H⟩
  case h2 =>
    (clear H; intro E13 w13 H)
    refine WL_stepM rfl (R_mv) ?_
    apply WL_orK 4 11 15 [(12, 15)] H
    case hc => rfl
    case h1 =>
      intro h30
      refine WL_guard_t rfl rfl ?_
      refine WL_step rfl (R_fieldAddr (off' := 1) Tryz.underlying58 rfl Tryz.sizeOf3 (by decide) rfl rfl) ?_
      refine WL_guard_t rfl rfl ?_
      refine WL_step rfl (R_load Tryz.isAgg3 rfl (H.get .here) rfl) ?_
      refine WL_guard_t rfl rfl ?_
      refine WL_step rfl (R_lt rfl rfl) ?_
      refine WL_stepM rfl (R_pk_f rfl) ?_
      refine WL_nil ?_
      exact ⟨(same_mov rfl (same_updo rfl (same_updo rfl (same_updo rfl Same.refl)))), rfl, H⟩
    case h0 =>
      intro h30
      refine WL_guard_f rfl rfl (by decide) ?_
      refine WL_guard_f rfl rfl (by decide) ?_
      refine WL_guard_f rfl rfl (by decide) ?_
      refine WL_stepM rfl (R_pk_t rfl) ?_
      refine WL_nil ?_
      exact ⟨(same_mov rfl (same_updo rfl (same_updo rfl (same_updo rfl Same.refl)))), rfl, H⟩
    case h2 =>
      (clear H; intro E30 w30 H)
      refine WL_stepM rfl (R_mv) ?_
      apply WL_orK 4 16 20 [(17, 20)] H
      case hc => rfl
      case h1 =>
        intro h47
        refine WL_guard_t rfl rfl ?_
        refine WL_step rfl (R_fieldAddr (off' := 1) Tryz.underlying58 rfl Tryz.sizeOf3 (by decide) rfl rfl) ?_
        refine WL_guard_t rfl rfl ?_
        refine WL_step rfl (R_load Tryz.isAgg3 rfl (H.get .here) rfl) ?_
        refine WL_guard_t rfl rfl ?_
        refine WL_step rfl (R_gt rfl rfl) ?_
        refine WL_stepM rfl (R_pk_f rfl) ?_
        refine WL_nil ?_
        exact ⟨(same_mov rfl (same_updo rfl (same_updo rfl (same_updo rfl Same.refl)))), rfl, H⟩
      case h0 =>
        intro h47
        refine WL_guard_f rfl rfl (by decide) ?_
        refine WL_guard_f rfl rfl (by decide) ?_
        refine WL_guard_f rfl rfl (by decide) ?_
        refine WL_stepM rfl (R_pk_t rfl) ?_
        refine WL_nil ?_
        exact ⟨(same_mov rfl (same_updo rfl (same_updo rfl (same_updo rfl Same.refl)))), rfl, H⟩
      case h2 =>
        (clear H; intro E47 w47 H)
        refine WL_stepM rfl (R_mv) ?_
        apply WL_orK 4 21 25 [(22, 25)] H
        case hc => rfl
        case h1 =>
          intro h64
          refine WL_guard_t rfl rfl ?_
          refine WL_step rfl (R_fieldAddr (off' := 2) Tryz.underlying58 rfl Tryz.sizeOf3 (by decide) rfl rfl) ?_
          refine WL_guard_t rfl rfl ?_
          refine WL_step rfl (R_load Tryz.isAgg3 rfl (H.get .here) rfl) ?_
          refine WL_guard_t rfl rfl ?_
          refine WL_step rfl (R_lt rfl rfl) ?_
          refine WL_stepM rfl (R_pk_f rfl) ?_
          refine WL_nil ?_
          exact ⟨(same_mov rfl (same_updo rfl (same_updo rfl (same_updo rfl Same.refl)))), rfl, H⟩
        case h0 =>
          intro h64
          refine WL_guard_f rfl rfl (by decide) ?_
          refine WL_guard_f rfl rfl (by decide) ?_
          refine WL_guard_f rfl rfl (by decide) ?_
          refine WL_stepM rfl (R_pk_t rfl) ?_
          refine WL_nil ?_
          exact ⟨(same_mov rfl (same_updo rfl (same_updo rfl (same_updo rfl Same.refl)))), rfl, H⟩
        case h2 =>
          (clear H; intro E64 w64 H)
          refine WL_stepM rfl (R_mv) ?_
          apply WL_orK 4 26 30 [(27, 30)] H
          case hc => rfl
          case h1 =>
            intro h81
            refine WL_guard_t rfl rfl ?_
            refine WL_step rfl (R_fieldAddr (off' := 2) Tryz.underlying58 rfl Tryz.sizeOf3 (by decide) rfl rfl) ?_
            refine WL_guard_t rfl rfl ?_
            refine WL_step rfl (R_load Tryz.isAgg3 rfl (H.get .here) rfl) ?_
            refine WL_guard_t rfl rfl ?_
            refine WL_step rfl (R_ge rfl rfl) ?_
            refine WL_stepM rfl (R_pk_f rfl) ?_
            refine WL_nil ?_
            exact ⟨(same_mov rfl (same_updo rfl (same_updo rfl (same_updo rfl Same.refl)))), rfl, H⟩
          case h0 =>
            intro h81
            refine WL_guard_f rfl rfl (by decide) ?_
            refine WL_guard_f rfl rfl (by decide) ?_
            refine WL_guard_f rfl rfl (by decide) ?_
            refine WL_stepM rfl (R_pk_t rfl) ?_
            refine WL_nil ?_
            exact ⟨(same_mov rfl (same_updo rfl (same_updo rfl (same_updo rfl Same.refl)))), rfl, H⟩
          case h2 =>
            (clear H; intro E81 w81 H)
            refine WL_stepM rfl (R_mv) ?_
            apply WL_orK 4 31 35 [(32, 35)] H
            case hc => rfl
            case h1 =>
              intro h98
              refine WL_guard_t rfl rfl ?_
              refine WL_step rfl (R_fieldAddr (off' := 3) Tryz.underlying58 rfl Tryz.sizeOf3 (by decide) rfl rfl) ?_
              refine WL_guard_t rfl rfl ?_
              refine WL_step rfl (R_load Tryz.isAgg3 rfl (H.get .here) rfl) ?_
              refine WL_guard_t rfl rfl ?_
              refine WL_step rfl (R_lt rfl rfl) ?_
              refine WL_stepM rfl (R_pk_f rfl) ?_
              refine WL_nil ?_
              exact ⟨(same_mov rfl (same_updo rfl (same_updo rfl (same_updo rfl Same.refl)))), rfl, H⟩
            case h0 =>
              intro h98
              refine WL_guard_f rfl rfl (by decide) ?_
              refine WL_guard_f rfl rfl (by decide) ?_
              refine WL_guard_f rfl rfl (by decide) ?_
              refine WL_stepM rfl (R_pk_t rfl) ?_
              refine WL_nil ?_
              exact ⟨(same_mov rfl (same_updo rfl (same_updo rfl (same_updo rfl Same.refl)))), rfl, H⟩
            case h2 =>
              (clear H; intro E98 w98 H)
              refine WL_stepM rfl (R_mv) ?_
              apply WL_orK 4 36 40 [(37, 40)] H
              case hc => rfl
              case h1 =>
                intro h115
                refine WL_guard_t rfl rfl ?_
                refine WL_step rfl (R_fieldAddr (off' := 3) Tryz.underlying58 rfl Tryz.sizeOf3 (by decide) rfl rfl) ?_
                refine WL_guard_t rfl rfl ?_
                refine WL_step rfl (R_load Tryz.isAgg3 rfl (H.get .here) rfl) ?_
                refine WL_guard_t rfl rfl ?_
                refine WL_step rfl (R_gt rfl rfl) ?_
                refine WL_stepM rfl (R_pk_f rfl) ?_
                refine WL_nil ?_
                exact ⟨(same_mov rfl (same_updo rfl (same_updo rfl (same_updo rfl Same.refl)))), rfl, H⟩
              case h0 =>
                intro h115
                refine WL_guard_f rfl rfl (by decide) ?_
                refine WL_guard_f rfl rfl (by decide) ?_
                refine WL_guard_f rfl rfl (by decide) ?_
                refine WL_stepM rfl (R_pk_t rfl) ?_
                refine WL_nil ?_
                exact ⟨(same_mov rfl (same_updo rfl (same_updo rfl (same_updo rfl Same.refl)))), rfl, H⟩
              case h2 =>
                (clear H; intro E115 w115 H)
                refine WL_nil ?_
                refine W_if rfl (fun h132 => ?_) (fun h132 => ?_)
                · refine W_seq ?_
                  refine W_region_l ?_
                  refine WL_stepM rfl (R_as) ?_
                  refine WL_nil ?_
                  refine W_ret ?_
                  exact ⟨_, rfl, congrArg Value.bool (decide_eq_false (fun h => by simp only [okP] at h; omega)).symm, H.none kYs⟩
                · refine W_skip ?_
                  refine W_seq ?_
                  refine W_seq ?_
                  refine W_region_l ?_
                  refine WL_step rfl (R_fieldAddr (off' := 4) Tryz.underlying58 rfl Tryz.sizeOf3 (by decide) rfl rfl) ?_
                  refine WL_step rfl (R_load Tryz.isAgg3 rfl (H.get .here) rfl) ?_
                  (refine WL_call rfl (R_call rfl Tryz.call235 rfl) (bits_ret _ 0#64 _) ?_; rintro _ w145 ⟨rfl, H1⟩; replace H := H.seq0 H1; clear H1)
                  refine WL_step rfl (R_not_d rfl) ?_
                  refine WL_stepM rfl (R_mv) ?_
                  apply WL_orK 5 45 50 [(46, 50)] H
                  case hc => rfl
                  case h1 =>
                    intro h148
                    refine WL_guard_t rfl rfl ?_
                    refine WL_step rfl (R_fieldAddr (off' := 5) Tryz.underlying58 rfl Tryz.sizeOf3 (by decide) rfl rfl) ?_
                    refine WL_guard_t rfl rfl ?_
                    refine WL_step rfl (R_load Tryz.isAgg3 rfl (H.get .here) rfl) ?_
                    refine WL_guard_t rfl rfl ?_
                    (refine WL_call rfl (R_call rfl Tryz.call235 rfl) (bits_ret _ 16896#64 _) ?_; rintro _ w154 ⟨rfl, H1⟩; replace H := H.seq0 H1; clear H1)
                    refine WL_guard_t rfl rfl ?_
                    refine WL_step rfl (R_not_d rfl) ?_
                    refine WL_stepM rfl (R_pk_f rfl) ?_
                    refine WL_nil ?_
                    exact ⟨(same_mov rfl (same_updo rfl (same_updo rfl (same_updo rfl (same_updo rfl Same.refl))))), rfl, H⟩
                  case h0 =>
                    intro h148
                    refine WL_guard_f rfl rfl (by decide) ?_
                    refine WL_guard_f rfl rfl (by decide) ?_
                    refine WL_guard_f rfl rfl (by decide) ?_
                    refine WL_guard_f rfl rfl (by decide) ?_
                    refine WL_stepM rfl (R_pk_t rfl) ?_
                    refine WL_nil ?_
                    exact ⟨(same_mov rfl (same_updo rfl (same_updo rfl (same_updo rfl (same_updo rfl Same.refl))))), rfl, H⟩
                  case h2 =>
                    (clear H; intro E148 w148 H)
                    refine WL_stepM rfl (R_mv) ?_
                    apply WL_orK 5 51 56 [(52, 56)] H
                    case hc => rfl
                    case h1 =>
                      intro h168
                      refine WL_guard_t rfl rfl ?_
                      refine WL_step rfl (R_fieldAddr (off' := 6) Tryz.underlying58 rfl Tryz.sizeOf3 (by decide) rfl rfl) ?_
                      refine WL_guard_t rfl rfl ?_
                      refine WL_step rfl (R_load Tryz.isAgg3 rfl (H.get .here) rfl) ?_
                      refine WL_guard_t rfl rfl ?_
                      (refine WL_call rfl (R_call rfl Tryz.call235 rfl) (bits_ret _ 16896#64 _) ?_; rintro _ w174 ⟨rfl, H1⟩; replace H := H.seq0 H1; clear H1)
                      refine WL_guard_t rfl rfl ?_
                      refine WL_step rfl (R_not_d rfl) ?_
                      refine WL_stepM rfl (R_pk_f rfl) ?_
                      refine WL_nil ?_
                      exact ⟨(same_mov rfl (same_updo rfl (same_updo rfl (same_updo rfl (same_updo rfl Same.refl))))), rfl, H⟩
                    case h0 =>
                      intro h168
                      refine WL_guard_f rfl rfl (by decide) ?_
                      refine WL_guard_f rfl rfl (by decide) ?_
                      refine WL_guard_f rfl rfl (by decide) ?_
                      refine WL_guard_f rfl rfl (by decide) ?_
                      refine WL_stepM rfl (R_pk_t rfl) ?_
                      refine WL_nil ?_
                      exact ⟨(same_mov rfl (same_updo rfl (same_updo rfl (same_updo rfl (same_updo rfl Same.refl))))), rfl, H⟩
                    case h2 =>
                      (clear H; intro E168 w168 H)
                      refine WL_stepM rfl (R_mv) ?_
                      apply WL_orK 5 57 62 [(58, 62)] H
                      case hc => rfl
                      case h1 =>
                        intro h188
                        refine WL_guard_t rfl rfl ?_
                        refine WL_step rfl (R_fieldAddr (off' := 7) Tryz.underlying58 rfl Tryz.sizeOf3 (by decide) rfl rfl) ?_
                        refine WL_guard_t rfl rfl ?_
                        refine WL_step rfl (R_load Tryz.isAgg3 rfl (H.get .here) rfl) ?_
                        refine WL_guard_t rfl rfl ?_
                        (refine WL_call rfl (R_call rfl Tryz.call235 rfl) (bits_ret _ 16896#64 _) ?_; rintro _ w194 ⟨rfl, H1⟩; replace H := H.seq0 H1; clear H1)
                        refine WL_guard_t rfl rfl ?_
                        refine WL_step rfl (R_not_d rfl) ?_
                        refine WL_stepM rfl (R_pk_f rfl) ?_
                        refine WL_nil ?_
                        exact ⟨(same_mov rfl (same_updo rfl (same_updo rfl (same_updo rfl (same_updo rfl Same.refl))))), rfl, H⟩
                      case h0 =>
                        intro h188
                        refine WL_guard_f rfl rfl (by decide) ?_
                        refine WL_guard_f rfl rfl (by decide) ?_
                        refine WL_guard_f rfl rfl (by decide) ?_
                        refine WL_guard_f rfl rfl (by decide) ?_
                        refine WL_stepM rfl (R_pk_t rfl) ?_
                        refine WL_nil ?_
                        exact ⟨(same_mov rfl (same_updo rfl (same_updo rfl (same_updo rfl (same_updo rfl Same.refl))))), rfl, H⟩
                      case h2 =>
                        (clear H; intro E188 w188 H)
                        refine WL_stepM rfl (R_mv) ?_
                        apply WL_orK 7 63 70 [(64, 70)] H
                        case hc => rfl
                        case h1 =>
                          intro h208
                          refine WL_guard_t rfl rfl ?_
                          refine WL_step rfl (R_fieldAddr (off' := 6) Tryz.underlying58 rfl Tryz.sizeOf3 (by decide) rfl rfl) ?_
                          refine WL_guard_t rfl rfl ?_
                          refine WL_step rfl (R_load Tryz.isAgg3 rfl (H.get .here) rfl) ?_
                          refine WL_guard_t rfl rfl ?_
                          refine WL_step rfl (R_fieldAddr (off' := 7) Tryz.underlying58 rfl Tryz.sizeOf3 (by decide) rfl rfl) ?_
                          refine WL_guard_t rfl rfl ?_
                          refine WL_step rfl (R_load Tryz.isAgg3 rfl (H.get .here) rfl) ?_
                          refine WL_guard_t rfl rfl ?_
                          refine WL_step rfl (R_bits rfl rfl (by simp) (bv_and p.c p.d)) ?_
                          refine WL_guard_t rfl rfl ?_
                          refine WL_step rfl (R_ne rfl rfl) ?_
                          refine WL_stepM rfl (R_pk_f rfl) ?_
                          refine WL_nil ?_
                          exact ⟨(same_mov rfl (same_updo rfl (same_updo rfl (same_updo rfl (same_updo rfl (same_updo rfl (same_updo rfl Same.refl))))))), rfl, H⟩
                        case h0 =>
                          intro h208
                          refine WL_guard_f rfl rfl (by decide) ?_
                          refine WL_guard_f rfl rfl (by decide) ?_
                          refine WL_guard_f rfl rfl (by decide) ?_
                          refine WL_guard_f rfl rfl (by decide) ?_
                          refine WL_guard_f rfl rfl (by decide) ?_
                          refine WL_guard_f rfl rfl (by decide) ?_
                          refine WL_stepM rfl (R_pk_t rfl) ?_
                          refine WL_nil ?_
                          exact ⟨(same_mov rfl (same_updo rfl (same_updo rfl (same_updo rfl (same_updo rfl (same_updo rfl (same_updo rfl Same.refl))))))), rfl, H⟩
                        case h2 =>
                          (clear H; intro E208 w208 H)
                          refine WL_nil ?_
                          refine W_if rfl (fun h234 => ?_) (fun h234 => ?_)
                          · refine W_seq ?_
                            refine W_region_l ?_
                            refine WL_stepM rfl (R_as) ?_
                            refine WL_nil ?_
                            refine W_ret ?_
                            exact ⟨_, rfl, congrArg Value.bool (decide_eq_false (fun h => by have h2 := h.2.1; simp_all [bv_zero])).symm, H.none kYs⟩
                          · refine W_skip ?_
                            refine W_seq ?_
                            refine W_seq ?_
                            refine W_region_l ?_
                            refine WL_step rfl (R_fieldAddr (off' := 8) Tryz.underlying58 rfl Tryz.sizeOf56 (by decide) rfl rfl) ?_
                            refine WL_step rfl (R_all Tryz.underlying56 Tryz.sizeOf3 rfl (by decide)) ?_
                            (refine WL_call rfl (R_call rfl Tryz.call75 rfl) (containsFunc_ret (xs := p.f) (RdS.blk (c := piC p) (off := 8) (H.get .here) (hfd p) (by rw [piC_len]; decide) (by decide)) (by rw [p.hf]; decide)) ?_; rintro _ w247 ⟨rfl, H1⟩; replace H := H.seq0 H1; clear H1)
                            refine WL_nil ?_
                            refine W_if rfl (fun h249 => ?_) (fun h249 => ?_)
                            · refine W_seq ?_
                              refine W_region_l ?_
                              refine WL_stepM rfl (R_as) ?_
                              refine WL_nil ?_
                              refine W_ret ?_
                              exact ⟨_, rfl, congrArg Value.bool (decide_eq_false (fun h => by obtain ⟨x, hx, hn⟩ := ‹∃ x ∈ p.f, _›; have := h.2.2.1 x hx; omega)).symm, H.none kYs⟩
                            · refine W_skip ?_
                              refine W_seq ?_
                              refine W_seq ?_
                              refine W_region_l ?_
                              refine WL_step rfl (R_fieldAddr (off' := 0) Tryz.underlying58 rfl Tryz.sizeOf3 (by decide) rfl rfl) ?_
                              refine WL_step rfl (R_load Tryz.isAgg3 rfl (H.get .here) rfl) ?_
                              refine WL_step rfl (R_eq rfl rfl) ?_
                              refine WL_nil ?_
                              refine W_if rfl (fun h264 => ?_) (fun h264 => ?_)
                              · refine W_seq ?_
                                refine W_region_l ?_
                                refine WL_step rfl (R_fieldAddr (off' := 4) Tryz.underlying58 rfl Tryz.sizeOf3 (by decide) rfl rfl) ?_
                                refine WL_step rfl (R_load Tryz.isAgg3 rfl (H.get .here) rfl) ?_
                                refine WL_step rfl (R_eq rfl rfl) ?_
                                refine WL_stepM rfl (R_mv) ?_
                                apply WL_andK 5 80 85 [(81, 85)] H
                                case hc => rfl
                                case h1 =>
                                  intro h271
                                  refine WL_guard_t rfl rfl ?_
                                  refine WL_step rfl (R_fieldAddr (off' := 8) Tryz.underlying58 rfl Tryz.sizeOf56 (by decide) rfl rfl) ?_
                                  refine WL_guard_t rfl rfl ?_
                                  refine WL_step rfl (R_loadA (vs := p.f.map fun x => I x) Tryz.isAgg56 Tryz.sizeOf56 rfl (H.get .here) (hfd p) (by rw [piC_len]; decide)) ?_
                                  refine WL_guard_t rfl rfl ?_
                                  refine WL_step rfl (R_zeroArr (zs := (List.replicate 8 0).map fun x => I x) Tryz.underlying56 Tryz.typeInfo56 ⟨_, info_of_run Tryz.typeInfo3 default⟩ rfl rfl) ?_
                                  refine WL_guard_t rfl rfl ?_
                                  refine WL_step rfl (R_eq_fds p.hf hz8 rfl rfl) ?_
                                  refine WL_stepM rfl (R_pk_t rfl) ?_
                                  refine WL_nil ?_
                                  exact ⟨(same_mov rfl (same_updo rfl (same_updo rfl (same_updo rfl (same_updo rfl Same.refl))))), rfl, H⟩
                                case h0 =>
                                  intro h271
                                  refine WL_guard_f rfl rfl (by decide) ?_
                                  refine WL_guard_f rfl rfl (by decide) ?_
                                  refine WL_guard_f rfl rfl (by decide) ?_
                                  refine WL_guard_f rfl rfl (by decide) ?_
                                  refine WL_stepM rfl (R_pk_f rfl) ?_
                                  refine WL_nil ?_
                                  exact ⟨(same_mov rfl (same_updo rfl (same_updo rfl (same_updo rfl (same_updo rfl Same.refl))))), rfl, H⟩
                                case h2 =>
                                  (clear H; intro E271 w271 H)
                                  refine WL_stepM rfl (R_as) ?_
                                  refine WL_nil ?_
                                  refine W_ret ?_
                                  exact ⟨_, rfl, congrArg Value.bool (decide_eq_decide.2 ⟨fun h => ⟨by omega, mid_of (by assumption), fun x hx => Classical.byContradiction fun hn => ‹¬ ∃ x ∈ p.f, _› ⟨x, hx, by omega⟩, .inl ⟨by omega, bv_zero.1 h.1, h.2⟩⟩, fun h => by rcases h.2.2.2 with ⟨_, h1, h2⟩ | ⟨h1, _⟩; exact ⟨bv_zero.2 h1, h2⟩; exact (h1 (by omega)).elim⟩), H.none kYs⟩
                              · refine W_skip ?_
                                refine W_seq ?_
                                refine W_region_l ?_
                                refine WL_step rfl (R_fieldAddr (off' := 3) Tryz.underlying58 rfl Tryz.sizeOf3 (by decide) rfl rfl) ?_
                                refine WL_step rfl (R_load Tryz.isAgg3 rfl (H.get .here) rfl) ?_
                                refine WL_step rfl (R_eq rfl rfl) ?_
                                refine WL_stepM rfl (R_as) ?_
                                refine WL_nil ?_
                                refine W_ret ?_
                                exact ⟨_, rfl, congrArg Value.bool (decide_eq_decide.2 ⟨fun h => ⟨by omega, mid_of (by assumption), fun x hx => Classical.byContradiction fun hn => ‹¬ ∃ x ∈ p.f, _› ⟨x, hx, by omega⟩, .inr ⟨by omega, h⟩⟩, fun h => by rcases h.2.2.2 with ⟨h1, _⟩ | ⟨_, h1⟩; exact (‹¬ p.s = 2› h1).elim; exact h1⟩), H.none kYs⟩
end Go.Proofs.YtlpmfldijgdcoaaGreatDoor.Slot

/-
  Slots put into bytes.
-/
namespace Go.Proofs.YtlpmfldijgdcoaaGreatDoor.Slot
open Go Go.Proofs Go.Proofs.YtlpmfldijgdcoaaGreatDoor.Fx Go.Proofs.YtlpmfldijgdcoaaGreatDoor.Codec
set_option maxRecDepth 100000
set_option linter.unusedVariables false
set_option linter.unusedSimpArgs false
set_option maxHeartbeats 2000000

theorem pi_fd {p : Pi} {i : Nat} (hi : i < 8) : (piC p)[8 + i]? = some (I (p.f[i]'(by rw [p.hf]; exact hi))) := by
  unfold piC
  rw [List.getElem?_append_right (by simp), List.getElem?_map]
  simp only [List.length_cons, List.length_nil, Nat.zero_add]
  rw [show 8 + i - 8 = i from by omega, List.getElem?_eq_getElem (by rw [p.hf]; exact hi)]
  rfl

end Go.Proofs.YtlpmfldijgdcoaaGreatDoor.Slot

/-
  The bytes of a slot; they are put.
-/
namespace Go.Proofs.YtlpmfldijgdcoaaGreatDoor.Slot
open Go Go.Proofs Go.Proofs.YtlpmfldijgdcoaaGreatDoor.Fx Go.Proofs.YtlpmfldijgdcoaaGreatDoor.Codec
set_option maxRecDepth 100000
set_option linter.unusedVariables false
set_option linter.unusedSimpArgs false
set_option maxHeartbeats 2000000

theorem okB_lt {x : BitVec 64} (h : okB x) : x.toNat < 65536 := by
  have := bv_lt h
  have e : (65534#64).toNat = 65534 := rfl
  omega
theorem put2_bv {c : List Value} {w : World} {b off len cap e k : Nat} {x : BitVec 64} (hx : okB x) (hb : w.heap[b]? = some (blk c e)) (h1 : k + 2 ≤ len) (h2 : off + len ≤ c.length) (hlc : len ≤ 9223372036854775807) :
    Ret Tryz.prog 200 #[sl b off len cap, I k, I x.toInt] w fun v w' => v = .bool true ∧ Hp w [(b, blk ((c.set (off + k) (U (UInt8.ofNat (x.toNat / 256)))).set (off + k + 1) (U (UInt8.ofNat x.toNat))) e)] w' := by
  rw [bv_small (okB_lt hx)]
  have := okB_lt hx
  exact put2_yes hb h1 h2 (by omega) hlc

/-- the first twelve -/
def h12 (p : Pi) : List UInt8 := [b8 p.s, b8 p.p, b8 p.g, b8 p.e] ++ two p.a ++ two p.b ++ two p.c ++ two p.d

end Go.Proofs.YtlpmfldijgdcoaaGreatDoor.Slot
