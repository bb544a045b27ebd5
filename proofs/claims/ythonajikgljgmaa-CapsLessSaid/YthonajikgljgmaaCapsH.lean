/-
  Spaces of caps: grants that are refused; Refs and caps compared.
-/
import Derived.Test.YthonajikgljgmaaCapsF
namespace Go.Proofs.Ythonajikgljgmaa.Caps
open Go Go.Proofs Go.Proofs.Ythonajikgljgmaa.Fx Go.Proofs.Ythonajikgljgmaa.TabC
set_option maxRecDepth 100000
set_option linter.unusedVariables false
set_option linter.unusedSimpArgs false
set_option maxHeartbeats 8000000

section
variable {w : World} {s : Nat} {PB : List (Nat × Nat)} {ts : List (List Pl)} {j i g0 : Nat} {q : Nat × Nat} {t : List Pl} {o r lo n re rn : Int}
theorem grant_right {to : Int} {l1 n1 gv z y : Int} (hS : Sp w s PB ts) (hq : PB[j]? = some q) (ht : ts[j]? = some t) (h : t[i]? = some ⟨cp o r lo n re rn, g0, true⟩)
    (b4 : bitsOf .and .i64 r 4 = z) (hz : z ≠ 0) (b7 : bitsOf .andNot .i64 gv r = y) (hy : y ≠ 0) :
    Ret Try.prog 19 #[ptr s 0, I j, I (i + 256 * g0 : Nat), I to, I gv, I l1, I n1] w fun v w' => v = .tuple #[I 0, I 3] ∧ Hp w [] w' := by
  refine Ret_of_W (args := [_, _, _, _, _, _, _]) Try.func19 rfl Try.ntmps19 Try.results19 (by simp) ?_
  have H := Hp.refl w
  refine W_seq ?_
  refine W_region_l ?_
  refine WL_stepM rfl (R_as) ?_
  refine WL_stepM rfl (R_as) ?_
  refine WL_nil ?_
  refine W_seq ?_
  refine W_region_l ?_
  refine WL_stepM rfl (R_mv) ?_
  refine WL_stepM rfl (R_mv) ?_
  refine WL_stepM rfl (R_mv) ?_
  (refine WL_call rfl (R_call rfl Try.call26 rfl) (Caps.get_yes hS hq ht h rfl) ?_; rintro _ w11 ⟨rfl, H1⟩; replace H := H.seq0 H1; clear H1)
  refine WL_stepM rfl (R_mv) ?_
  refine WL_step rfl (R_extract rfl rfl) ?_
  refine WL_step rfl (R_extract rfl rfl) ?_
  (refine WL_effn rfl (E_allocK H) ?_; clear H; intro c15 w15 hc15 H)
  (refine WL_effu rfl (E_storeA (vs := [(.int _ _), (.int _ _), (.int _ _), (.int _ _), (.int _ _), (.int _ _)]) H Try.sizeOf38 rfl rfl (by simp [Value.oneCell']) .here (Nat.le_of_ble_eq_true rfl)) ?_; clear H; intro w16 H)
  refine WL_stepM rfl (R_as) ?_
  refine WL_nil ?_
  refine W_seq ?_
  refine W_block ?_
  refine W_seq ?_
  refine W_region_l ?_
  refine WL_stepM rfl (R_mv) ?_
  refine WL_step rfl (R_ne_f rfl rfl (by omega)) ?_
  refine WL_stepM rfl (R_as) ?_
  refine WL_nil ?_
  refine W_cond_f rfl ?_
  refine W_seq ?_
  refine W_region_l ?_
  refine WL_step rfl (R_fieldAddr (off' := 1) Try.underlying38 rfl Try.sizeOf3 (by decide) rfl rfl) ?_
  refine WL_step rfl (R_load Try.isAgg3 rfl (H.get .here) rfl) ?_
  refine WL_step rfl (R_bits (r := z) rfl rfl (by simp) b4) ?_
  refine WL_step rfl (R_eq_f rfl rfl (by omega)) ?_
  refine WL_stepM rfl (R_mv) ?_
  refine WL_guard_t rfl rfl ?_
  refine WL_stepM rfl (R_mv) ?_
  refine WL_guard_t rfl rfl ?_
  refine WL_step rfl (R_fieldAddr (off' := 1) Try.underlying38 rfl Try.sizeOf3 (by decide) rfl rfl) ?_
  refine WL_guard_t rfl rfl ?_
  refine WL_step rfl (R_load Try.isAgg3 rfl (H.get .here) rfl) ?_
  refine WL_guard_t rfl rfl ?_
  refine WL_step rfl (R_bits (r := y) rfl rfl (by simp) b7) ?_
  refine WL_guard_t rfl rfl ?_
  refine WL_step rfl (R_ne_t rfl rfl (by omega)) ?_
  refine WL_stepM rfl (R_pk_f rfl) ?_
  refine WL_stepM rfl (R_as) ?_
  refine WL_nil ?_
  refine W_cond_t rfl ?_
  refine W_seq ?_
  refine W_region_l ?_
  refine WL_stepM rfl (R_as) ?_
  refine WL_stepM rfl (R_as) ?_
  refine WL_nil ?_
  refine W_ret ?_
  exact ⟨_, rfl, rfl, H.none (by repeat' first | exact kNil | apply kCons | apply kApp | assumption | exact OwnS.keys (by assumption))⟩
theorem grant_arg {k : Nat} {l1 n1 gv z : Int} (hS : Sp w s PB ts) (hq : PB[j]? = some q) (ht : ts[j]? = some t) (h : t[i]? = some ⟨cp o r lo n re rn, g0, true⟩) (hk : k < PB.length)
    (b4 : bitsOf .and .i64 r 4 = z) (hz : z ≠ 0) (b7 : bitsOf .andNot .i64 gv r = 0) (hn : 0 ≤ n ∧ n ≤ 65536) (hl0 : 0 ≤ l1 ∧ l1 ≤ 100000) (hn0 : 0 ≤ n1 ∧ n1 ≤ 100000) (hno : n < l1 ∨ (l1 ≤ n ∧ n - l1 < n1)) :
    Ret Try.prog 19 #[ptr s 0, I j, I (i + 256 * g0 : Nat), I k, I gv, I l1, I n1] w fun v w' => v = .tuple #[I 0, I 1] ∧ Hp w [] w' := by
  refine Ret_of_W (args := [_, _, _, _, _, _, _]) Try.func19 rfl Try.ntmps19 Try.results19 (by simp) ?_
  have H := Hp.refl w
  refine W_seq ?_
  refine W_region_l ?_
  refine WL_stepM rfl (R_as) ?_
  refine WL_stepM rfl (R_as) ?_
  refine WL_nil ?_
  refine W_seq ?_
  refine W_region_l ?_
  refine WL_stepM rfl (R_mv) ?_
  refine WL_stepM rfl (R_mv) ?_
  refine WL_stepM rfl (R_mv) ?_
  (refine WL_call rfl (R_call rfl Try.call26 rfl) (Caps.get_yes hS hq ht h rfl) ?_; rintro _ w11 ⟨rfl, H1⟩; replace H := H.seq0 H1; clear H1)
  refine WL_stepM rfl (R_mv) ?_
  refine WL_step rfl (R_extract rfl rfl) ?_
  refine WL_step rfl (R_extract rfl rfl) ?_
  (refine WL_effn rfl (E_allocK H) ?_; clear H; intro c15 w15 hc15 H)
  (refine WL_effu rfl (E_storeA (vs := [(.int _ _), (.int _ _), (.int _ _), (.int _ _), (.int _ _), (.int _ _)]) H Try.sizeOf38 rfl rfl (by simp [Value.oneCell']) .here (Nat.le_of_ble_eq_true rfl)) ?_; clear H; intro w16 H)
  refine WL_stepM rfl (R_as) ?_
  refine WL_nil ?_
  refine W_seq ?_
  refine W_block ?_
  refine W_seq ?_
  refine W_region_l ?_
  refine WL_stepM rfl (R_mv) ?_
  refine WL_step rfl (R_ne_f rfl rfl (by omega)) ?_
  refine WL_stepM rfl (R_as) ?_
  refine WL_nil ?_
  refine W_cond_f rfl ?_
  refine W_seq ?_
  refine W_region_l ?_
  refine WL_step rfl (R_fieldAddr (off' := 1) Try.underlying38 rfl Try.sizeOf3 (by decide) rfl rfl) ?_
  refine WL_step rfl (R_load Try.isAgg3 rfl (H.get .here) rfl) ?_
  refine WL_step rfl (R_bits (r := z) rfl rfl (by simp) b4) ?_
  refine WL_step rfl (R_eq_f rfl rfl (by omega)) ?_
  refine WL_stepM rfl (R_mv) ?_
  refine WL_guard_t rfl rfl ?_
  refine WL_stepM rfl (R_mv) ?_
  refine WL_guard_t rfl rfl ?_
  refine WL_step rfl (R_fieldAddr (off' := 1) Try.underlying38 rfl Try.sizeOf3 (by decide) rfl rfl) ?_
  refine WL_guard_t rfl rfl ?_
  refine WL_step rfl (R_load Try.isAgg3 rfl (H.get .here) rfl) ?_
  refine WL_guard_t rfl rfl ?_
  refine WL_step rfl (R_bits (r := 0) rfl rfl (by simp) b7) ?_
  refine WL_guard_t rfl rfl ?_
  refine WL_step rfl (R_ne_f rfl rfl (by omega)) ?_
  refine WL_stepM rfl (R_pk_f rfl) ?_
  refine WL_stepM rfl (R_as) ?_
  refine WL_nil ?_
  refine W_cond_f rfl ?_
  refine W_seq ?_
  refine W_region_l ?_
  refine WL_stepM rfl (R_mv) ?_
  refine WL_stepM rfl (R_mv) ?_
  (refine WL_call rfl (R_call rfl Try.call43 rfl) (is_ret (hS.monoN H (by repeat' first | exact kNil | apply kCons | apply kApp | assumption | exact OwnS.keys (by assumption))) _) ?_; rintro _ w53 ⟨rfl, H1⟩; rw [decide_eq_true (show 0 ≤ (k : Int) ∧ (k : Int) < PB.length by omega)]; replace H := H.seq0 H1; clear H1)
  refine WL_step rfl (R_not_t rfl) ?_
  refine WL_stepM rfl (R_mv) ?_
  refine WL_guard_t rfl rfl ?_
  refine WL_stepM rfl (R_mv) ?_
  refine WL_guard_t rfl rfl ?_
  refine WL_step rfl (R_lt_f rfl rfl (by omega)) ?_
  refine WL_stepM rfl (R_pk_f rfl) ?_
  refine WL_stepM rfl (R_mv) ?_
  refine WL_guard_t rfl rfl ?_
  refine WL_stepM rfl (R_mv) ?_
  refine WL_guard_t rfl rfl ?_
  refine WL_step rfl (R_lt_f rfl rfl (by omega)) ?_
  refine WL_stepM rfl (R_pk_f rfl) ?_
  refine WL_stepM rfl (R_mv) ?_
  refine WL_guard_t rfl rfl ?_
  refine WL_stepM rfl (R_mv) ?_
  refine WL_guard_t rfl rfl ?_
  refine WL_step rfl (R_fieldAddr (off' := 3) Try.underlying38 rfl Try.sizeOf3 (by decide) rfl rfl) ?_
  refine WL_guard_t rfl rfl ?_
  refine WL_step rfl (R_load Try.isAgg3 rfl (H.get .here) rfl) ?_
  refine WL_guard_t rfl rfl ?_
  refine WL_step rfl (R_gt rfl rfl) ?_
  refine WL_stepM rfl (R_pk_f rfl) ?_
  refine WL_stepM rfl (R_mv) ?_
  apply WL_orK 7 60 67 [(61, 67)] H
  case hc => rfl
  case h1 =>
    intro h78
    refine WL_guard_t rfl rfl ?_
    refine WL_stepM rfl (R_mv) ?_
    refine WL_guard_t rfl rfl ?_
    refine WL_step rfl (R_fieldAddr (off' := 3) Try.underlying38 rfl Try.sizeOf3 (by decide) rfl rfl) ?_
    refine WL_guard_t rfl rfl ?_
    refine WL_step rfl (R_load Try.isAgg3 rfl (H.get .here) rfl) ?_
    refine WL_guard_t rfl rfl ?_
    refine WL_stepM rfl (R_mv) ?_
    refine WL_guard_t rfl rfl ?_
    refine WL_step rfl (R_sub rfl rfl (w_i64 (by omega))) ?_
    refine WL_guard_t rfl rfl ?_
    refine WL_step rfl (R_gt rfl rfl) ?_
    refine WL_stepM rfl (R_pk_f rfl) ?_
    refine WL_nil ?_
    exact ⟨(same_mov rfl (same_updo rfl (same_updo rfl (same_mov rfl (same_updo rfl (same_updo rfl (same_mov rfl Same.refl))))))), rfl, H⟩
  case h0 =>
    intro h78
    refine WL_guard_f rfl rfl (by decide) ?_
    refine WL_guard_f rfl rfl (by decide) ?_
    refine WL_guard_f rfl rfl (by decide) ?_
    refine WL_guard_f rfl rfl (by decide) ?_
    refine WL_guard_f rfl rfl (by decide) ?_
    refine WL_guard_f rfl rfl (by decide) ?_
    refine WL_stepM rfl (R_pk_t rfl) ?_
    refine WL_nil ?_
    exact ⟨(same_mov rfl (same_updo rfl (same_updo rfl (same_updo rfl (same_updo rfl (same_updo rfl (same_updo rfl Same.refl))))))), rfl, H⟩
  case h2 =>
    (clear H; intro E78 w78 H)
    refine WL_stepM rfl (R_as) ?_
    refine WL_nil ?_
    refine W_if rfl (fun h105 => ?_) (fun h105 => ?_)
    · refine W_seq ?_
      refine W_region_l ?_
      refine WL_stepM rfl (R_as) ?_
      refine WL_stepM rfl (R_as) ?_
      refine WL_nil ?_
      refine W_ret ?_
      exact ⟨_, rfl, rfl, H.none (by repeat' first | exact kNil | apply kCons | apply kApp | assumption | exact OwnS.keys (by assumption))⟩
    · refine W_skip ?_
      refine W_seq ?_
      refine W_region_l ?_
      refine WL_stepM rfl (R_mv) ?_
      refine WL_stepM rfl (R_mv) ?_
      refine WL_step rfl (R_fieldAddr (off' := 0) Try.underlying38 rfl Try.sizeOf3 (by decide) rfl rfl) ?_
      refine WL_step rfl (R_load Try.isAgg3 rfl (H.get .here) rfl) ?_
      refine WL_stepM rfl (R_mv) ?_
      refine WL_step rfl (R_fieldAddr (off' := 2) Try.underlying38 rfl Try.sizeOf3 (by decide) rfl rfl) ?_
      refine WL_step rfl (R_load Try.isAgg3 rfl (H.get .here) rfl) ?_
      refine WL_stepM rfl (R_mv) ?_
      refine WL_step rfl (R_add rfl rfl (w_i64 (by omega))) ?_
      refine WL_stepM rfl (R_mv) ?_
      refine WL_stepM rfl (R_mv) ?_
      refine WL_stepM rfl (R_mv) ?_
      refine WL_step rfl (R_buildL (places := [(0, 1), (1, 1)]) (vs := [(.int _ _), (.int _ _)]) Try.underlying36 Try.typeInfo36 rfl rfl (by kernel_rfl) rfl rfl rfl) ?_
      refine WL_step rfl (R_buildL (places := [(0, 1), (1, 1), (2, 1), (3, 1), (4, 2)]) (vs := [(.int _ _), (.int _ _), (.int _ _), (.int _ _), (.int _ _), (.int _ _)]) Try.underlying38 Try.typeInfo38 rfl rfl (by kernel_rfl) rfl rfl rfl) ?_
      exact (by omega : False).elim
end
theorem R_eq_ref_t {E : Env} {w : World} {d : Option Nat} {ty : TypeId} {pos : String} {after : Array Edge} {t' : TypeId} {x y : Operand} {a b : Int} (hx : ev E x = .agg #[I a, I b]) (hy : ev E y = .agg #[I a, I b]) :
    (execOp (ev E) (mk d (.binOp .eql 36 x y t') ty pos after)).run Try.prog w = .ok (.value (.bool true)) w := by
  rw [R_eq_C eq_ref (ns := [a, b]) (ms := [a, b]) (xs := [I a, I b]) (ys := [I a, I b]) (by decide) (by kernel_rfl) hx hy rfl rfl rfl rfl, decide_eq_true rfl]
theorem andNot_8 {a b : Nat} (ha : a < 8) (hb : b < 8) : bitsOf .andNot .i64 (a : Int) (b : Int) = ((a &&& (7 - b) : Nat) : Int) := b_andNot ha hb
theorem andNot5 {a : Nat} (ha : a < 8) : bitsOf .andNot .i64 (a : Int) 5 = ((2 * (a / 2 % 2) : Nat) : Int) := by
  have : ∀ a : Fin 8, bitsOf .andNot .i64 (a.val : Int) 5 = ((2 * (a.val / 2 % 2) : Nat) : Int) := by decide
  exact this ⟨a, ha⟩
end Go.Proofs.Ythonajikgljgmaa.Caps
