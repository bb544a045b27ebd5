/-
  Regions: read, written, copied; what is refused.
-/
import Derived.Test.YthonajikgljgmaaRegA
namespace Go.Proofs.Ythonajikgljgmaa.Reg
open Go Go.Proofs Go.Proofs.Ythonajikgljgmaa.Fx Go.Proofs.Ythonajikgljgmaa.TabC Go.Proofs.Ythonajikgljgmaa.Caps
set_option maxRecDepth 100000
set_option linter.unusedVariables false
set_option linter.unusedSimpArgs false
set_option maxHeartbeats 8000000
section
variable {w : World} {rr m mb s N : Nat} {xs : List UInt8}
variable {a ca : Nat} {sp : List Value} {rlo rn : Int} {PB : List (Nat × Nat)} {ts : List (List Pl)} {j i g0 : Nat} {q : Nat × Nat} {t : List Pl} {o r lo n re : Int} {l : Value}

theorem place_right {rt at_ k rx : Int} (hr : w.heap[rr]? = some (blk [ptr m 0, ptr s 0, l] 95)) (hS : Sp w s PB ts)
    (hq : PB[j]? = some q) (ht : ts[j]? = some t) (h : t[i]? = some ⟨cp 0 r lo n re rx, g0, true⟩) (bz : bitsOf .and .i64 r rt = 0) :
    Ret Try.prog 45 #[ptr rr 0, I j, I (i + 256 * g0 : Nat), I rt, I at_, I k] w fun v w' => v = .tuple #[I 0, I 3] ∧ Hp w [] w' := by
  refine Ret_of_W (args := [_, _, _, _, _, _]) Try.func45 rfl Try.ntmps45 Try.results45 (by simp) ?_
  have H := Hp.refl w
  refine W_seq ?_
  refine W_region_l ?_
  refine WL_stepM rfl (R_as) ?_
  refine WL_stepM rfl (R_as) ?_
  refine WL_nil ?_
  refine W_seq ?_
  refine W_region_l ?_
  refine WL_stepM rfl (R_mv) ?_
  refine WL_step rfl (R_nilCheck rfl) ?_
  refine WL_step rfl (R_fieldAddr (off' := 1) Try.underlying95 rfl Try.sizeOf25 (by decide) rfl rfl) ?_
  refine WL_step rfl (R_load (v := ptr s 0) Try.isAgg25 rfl (H.blockN hr (by repeat' first | exact kNil | apply kCons | apply kApp | assumption | exact OwnS.keys (by assumption))) rfl) ?_
  refine WL_stepM rfl (R_mv) ?_
  refine WL_stepM rfl (R_mv) ?_
  (refine WL_call rfl (R_call rfl Try.call26 rfl) (get_yes hS hq ht h rfl) ?_; rintro _ w14 ⟨rfl, H1⟩; replace H := H.seq0 H1; clear H1)
  refine WL_stepM rfl (R_mv) ?_
  refine WL_step rfl (R_extract rfl rfl) ?_
  refine WL_step rfl (R_extract rfl rfl) ?_
  (refine WL_effn rfl (E_allocK H) ?_; clear H; intro c14 w18 hc14 H)
  (refine WL_effu rfl (E_storeK (q := cp 0 r lo n re rx) H rfl rfl .here) ?_; clear H; intro w19 H; replace H : Hp w [(c14, blk [I 0, I r, I lo, I n, I re, I rx] 38)] w19 := H)
  refine WL_stepM rfl (R_as) ?_
  refine WL_nil ?_
  refine W_seq ?_
  refine W_block ?_
  refine W_seq ?_
  refine W_region_l ?_
  refine WL_stepM rfl (R_mv) ?_
  refine WL_step rfl (R_ne_f rfl rfl (by omega)) ?_
  refine WL_stepM rfl (R_as) ?_
  refine WL_nil ?_
  refine W_cond_f rfl ?_
  refine W_seq ?_
  refine W_region_l ?_
  refine WL_step rfl (R_fieldAddr (off' := 1) Try.underlying38 rfl Try.sizeOf3 (by decide) rfl rfl) ?_
  refine WL_step rfl (R_load Try.isAgg3 rfl (H.get .here) rfl) ?_
  refine WL_stepM rfl (R_mv) ?_
  refine WL_step rfl (R_bits (r := 0) rfl rfl (by simp) bz) ?_
  refine WL_step rfl (R_eq_t rfl rfl (by omega)) ?_
  refine WL_stepM rfl (R_as) ?_
  refine WL_nil ?_
  refine W_cond_t rfl ?_
  refine W_seq ?_
  refine W_region_l ?_
  refine WL_stepM rfl (R_as) ?_
  refine WL_stepM rfl (R_as) ?_
  refine WL_nil ?_
  refine W_ret ?_
  exact ⟨_, rfl, rfl, H.none (by repeat' first | exact kNil | apply kCons | apply kApp | assumption | exact OwnS.keys (by assumption))⟩

theorem place_cap {rt at_ k nm : Int} (hr : w.heap[rr]? = some (blk [ptr m 0, ptr s 0, l] 95)) (hS : Sp w s PB ts)
    (hq : PB[j]? = some q) (ht : ts[j]? = some t) (hno : ∀ (i : Nat) (a : Pl), t[i]? = some a → a.u = true → nm ≠ ((i + 256 * a.g : Nat) : Int)) :
    Ret Try.prog 45 #[ptr rr 0, I j, I nm, I rt, I at_, I k] w fun v w' => v = .tuple #[I 0, I 2] ∧ Hp w [] w' := by
  refine Ret_of_W (args := [_, _, _, _, _, _]) Try.func45 rfl Try.ntmps45 Try.results45 (by simp) ?_
  have H := Hp.refl w
  refine W_seq ?_
  refine W_region_l ?_
  refine WL_stepM rfl (R_as) ?_
  refine WL_stepM rfl (R_as) ?_
  refine WL_nil ?_
  refine W_seq ?_
  refine W_region_l ?_
  refine WL_stepM rfl (R_mv) ?_
  refine WL_step rfl (R_nilCheck rfl) ?_
  refine WL_step rfl (R_fieldAddr (off' := 1) Try.underlying95 rfl Try.sizeOf25 (by decide) rfl rfl) ?_
  refine WL_step rfl (R_load (v := ptr s 0) Try.isAgg25 rfl (H.blockN hr (by repeat' first | exact kNil | apply kCons | apply kApp | assumption | exact OwnS.keys (by assumption))) rfl) ?_
  refine WL_stepM rfl (R_mv) ?_
  refine WL_stepM rfl (R_mv) ?_
  (refine WL_call rfl (R_call rfl Try.call26 rfl) (get_no hS hq ht _ hno) ?_; rintro _ w14 ⟨rfl, H1⟩; replace H := H.seq0 H1; clear H1)
  refine WL_stepM rfl (R_mv) ?_
  refine WL_step rfl (R_extract rfl rfl) ?_
  refine WL_step rfl (R_extract rfl rfl) ?_
  (refine WL_effn rfl (E_allocK H) ?_; clear H; intro c14 w18 hc14 H)
  (refine WL_effu rfl (E_storeK (q := zk) H rfl rfl .here) ?_; clear H; intro w19 H)
  refine WL_stepM rfl (R_as) ?_
  refine WL_nil ?_
  refine W_seq ?_
  refine W_block ?_
  refine W_seq ?_
  refine W_region_l ?_
  refine WL_stepM rfl (R_mv) ?_
  refine WL_step rfl (R_ne_t rfl rfl (by omega)) ?_
  refine WL_stepM rfl (R_as) ?_
  refine WL_nil ?_
  refine W_cond_t rfl ?_
  refine W_seq ?_
  refine W_region_l ?_
  refine WL_stepM rfl (R_mv) ?_
  refine WL_stepM rfl (R_as) ?_
  refine WL_stepM rfl (R_as) ?_
  refine WL_nil ?_
  refine W_ret ?_
  exact ⟨_, rfl, rfl, H.none (by repeat' first | exact kNil | apply kCons | apply kApp | assumption | exact OwnS.keys (by assumption))⟩

variable {env nm at_ k p e : Int}

theorem read_no (hP : Ret Try.prog 45 #[ptr rr 0, I env, I nm, I 1, I at_, I k] w fun v w' => v = .tuple #[I 0, I e] ∧ Hp w [] w') (he : e ≠ 0) :
    Ret Try.prog 22 #[ptr rr 0, I env, I nm, I at_, I k] w fun v w' => v = .tuple #[nilS, I e] ∧ Hp w [] w' := by
  refine Ret_of_W (args := [_, _, _, _, _]) Try.func22 rfl Try.ntmps22 Try.results22 (by simp) ?_
  have H := Hp.refl w
  refine W_seq ?_
  refine W_region_l ?_
  refine WL_stepM rfl (R_as) ?_
  refine WL_stepM rfl (R_as) ?_
  refine WL_nil ?_
  refine W_seq ?_
  refine W_region_l ?_
  refine WL_stepM rfl (R_mv) ?_
  refine WL_stepM rfl (R_mv) ?_
  refine WL_stepM rfl (R_mv) ?_
  refine WL_stepM rfl (R_mv) ?_
  refine WL_stepM rfl (R_mv) ?_
  (refine WL_call rfl (R_call rfl Try.call45 rfl) (hP) ?_; rintro _ w13 ⟨rfl, H1⟩; replace H := H.seq0 H1; clear H1)
  refine WL_stepM rfl (R_mv) ?_
  refine WL_step rfl (R_extract rfl rfl) ?_
  refine WL_step rfl (R_extract rfl rfl) ?_
  refine WL_stepM rfl (R_as) ?_
  refine WL_stepM rfl (R_as) ?_
  refine WL_nil ?_
  refine W_seq ?_
  refine W_seq ?_
  refine W_region_l ?_
  refine WL_stepM rfl (R_mv) ?_
  refine WL_step rfl (R_ne_t rfl rfl (by omega)) ?_
  refine WL_nil ?_
  refine W_cond_t rfl ?_
  refine W_seq ?_
  refine W_region_l ?_
  refine WL_stepM rfl (R_mv) ?_
  refine WL_stepM rfl (R_as) ?_
  refine WL_stepM rfl (R_as) ?_
  refine WL_nil ?_
  refine W_ret ?_
  exact ⟨_, rfl, rfl, H⟩

theorem read_yes {p k : Nat} (hP : Ret Try.prog 45 #[ptr rr 0, I env, I nm, I 1, I at_, I k] w fun v w' => v = .tuple #[I p, I 0] ∧ Hp w [] w')
    (hr : w.heap[rr]? = some (blk [ptr m 0, ptr s 0, l] 95)) (hm : w.heap[m]? = some (blk [sl mb 0 N N] 87)) (hb : w.heap[mb]? = some (blk (xs.map U) 5)) (hx : xs.length = N) (hN : N ≤ 16384) (h : p + k ≤ xs.length) :
    Ret Try.prog 22 #[ptr rr 0, I env, I nm, I at_, I k] w fun v w' => ∃ u M, v = .tuple #[u, I 0] ∧ OwnS w.heap.size 5 1 u k (((xs.drop p).take k).map U) M ∧ Hp w M w' := by
  refine Ret_of_W (args := [_, _, _, _, _]) Try.func22 rfl Try.ntmps22 Try.results22 (by simp) ?_
  have H := Hp.refl w
  refine W_seq ?_
  refine W_region_l ?_
  refine WL_stepM rfl (R_as) ?_
  refine WL_stepM rfl (R_as) ?_
  refine WL_nil ?_
  refine W_seq ?_
  refine W_region_l ?_
  refine WL_stepM rfl (R_mv) ?_
  refine WL_stepM rfl (R_mv) ?_
  refine WL_stepM rfl (R_mv) ?_
  refine WL_stepM rfl (R_mv) ?_
  refine WL_stepM rfl (R_mv) ?_
  (refine WL_call rfl (R_call rfl Try.call45 rfl) (hP) ?_; rintro _ w13 ⟨rfl, H1⟩; replace H := H.seq0 H1; clear H1)
  refine WL_stepM rfl (R_mv) ?_
  refine WL_step rfl (R_extract rfl rfl) ?_
  refine WL_step rfl (R_extract rfl rfl) ?_
  refine WL_stepM rfl (R_as) ?_
  refine WL_stepM rfl (R_as) ?_
  refine WL_nil ?_
  refine W_seq ?_
  refine W_seq ?_
  refine W_region_l ?_
  refine WL_stepM rfl (R_mv) ?_
  refine WL_step rfl (R_ne_f rfl rfl (by omega)) ?_
  refine WL_nil ?_
  refine W_cond_f rfl ?_
  refine W_skip ?_
  refine W_seq ?_
  refine W_region_l ?_
  refine WL_stepM rfl (R_mv) ?_
  refine WL_step rfl (R_nilCheck rfl) ?_
  refine WL_step rfl (R_fieldAddr (off' := 0) Try.underlying95 rfl Try.sizeOf23 (by decide) rfl rfl) ?_
  refine WL_step rfl (R_load (v := ptr m 0) Try.isAgg23 rfl (H.blockN hr (by repeat' first | exact kNil | apply kCons | apply kApp | assumption | exact OwnS.keys (by assumption))) rfl) ?_
  refine WL_stepM rfl (R_mv) ?_
  refine WL_stepM rfl (R_mv) ?_
  (refine WL_call rfl (R_call rfl Try.call21 rfl) (Mem.load_yes p k (H.blockN hm (by repeat' first | exact kNil | apply kCons | apply kApp | assumption | exact OwnS.keys (by assumption))) (H.blockN hb (by repeat' first | exact kNil | apply kCons | apply kApp | assumption | exact OwnS.keys (by assumption))) hx (by omega) h) ?_; rintro _ w36 ⟨u, M, rfl, hO, H1⟩; have h36 := H.seqO hO H1; clear H H1 hO; obtain ⟨hO, H⟩ := h36; rw [List.append_nil] at H)
  refine WL_step rfl (R_extract rfl rfl) ?_
  refine WL_step rfl (R_extract rfl rfl) ?_
  refine WL_stepM rfl (R_as) ?_
  refine WL_stepM rfl (R_as) ?_
  refine WL_nil ?_
  refine W_ret ?_
  exact ⟨_, rfl, u, M, rfl, hO, H⟩

theorem write_no {bv : Value} {ys : List Value} (hl : RdS w bv ys) (hy : ys.length ≤ 9223372036854775807) (hP : Ret Try.prog 45 #[ptr rr 0, I env, I nm, I 2, I at_, I ys.length] w fun v w' => v = .tuple #[I 0, I e] ∧ Hp w [] w') (he : e ≠ 0) :
    Ret Try.prog 20 #[ptr rr 0, I env, I nm, I at_, bv] w fun v w' => v = I e ∧ Hp w [] w' := by
  refine Ret_of_W (args := [_, _, _, _, _]) Try.func20 rfl Try.ntmps20 Try.results20 (by simp) ?_
  have H := Hp.refl w
  obtain ⟨ao, co, rfl⟩ := hl.form
  refine W_seq ?_
  refine W_region_l ?_
  refine WL_stepM rfl (R_as) ?_
  refine WL_nil ?_
  refine W_seq ?_
  refine W_region_l ?_
  refine WL_stepM rfl (R_mv) ?_
  refine WL_stepM rfl (R_mv) ?_
  refine WL_stepM rfl (R_mv) ?_
  refine WL_stepM rfl (R_mv) ?_
  refine WL_stepM rfl (R_mv) ?_
  refine WL_step rfl (R_len_slice Try.underlying22 rfl) ?_
  (refine WL_call rfl (R_call rfl Try.call45 rfl) (hP) ?_; rintro _ w13 ⟨rfl, H1⟩; replace H := H.seq0 H1; clear H1)
  refine WL_stepM rfl (R_mv) ?_
  refine WL_step rfl (R_extract rfl rfl) ?_
  refine WL_step rfl (R_extract rfl rfl) ?_
  refine WL_stepM rfl (R_as) ?_
  refine WL_stepM rfl (R_as) ?_
  refine WL_nil ?_
  refine W_seq ?_
  refine W_seq ?_
  refine W_region_l ?_
  refine WL_stepM rfl (R_mv) ?_
  refine WL_step rfl (R_ne_t rfl rfl (by omega)) ?_
  refine WL_nil ?_
  refine W_cond_t rfl ?_
  refine W_seq ?_
  refine W_region_l ?_
  refine WL_stepM rfl (R_mv) ?_
  refine WL_stepM rfl (R_as) ?_
  refine WL_nil ?_
  refine W_ret ?_
  exact ⟨_, rfl, rfl, H⟩

theorem write_yes {bv : Value} {ys : List UInt8} {p : Nat} (hl : RdS w bv (ys.map U)) (hP : Ret Try.prog 45 #[ptr rr 0, I env, I nm, I 2, I at_, I ys.length] w fun v w' => v = .tuple #[I p, I 0] ∧ Hp w [] w')
    (hr : w.heap[rr]? = some (blk [ptr m 0, ptr s 0, l] 95)) (hm : w.heap[m]? = some (blk [sl mb 0 N N] 87)) (hb : w.heap[mb]? = some (blk (xs.map U) 5)) (hx : xs.length = N) (hN : N ≤ 16384) (h : p + ys.length ≤ xs.length) :
    Ret Try.prog 20 #[ptr rr 0, I env, I nm, I at_, bv] w fun v w' => v = I 0 ∧ Hp w [(mb, blk ((Mem.put xs ys p).map U) 5)] w' := by
  refine Ret_of_W (args := [_, _, _, _, _]) Try.func20 rfl Try.ntmps20 Try.results20 (by simp) ?_
  have H := Hp.refl w
  obtain ⟨ao, co, rfl⟩ := hl.form
  simp only [List.length_map] at hl ⊢
  refine W_seq ?_
  refine W_region_l ?_
  refine WL_stepM rfl (R_as) ?_
  refine WL_nil ?_
  refine W_seq ?_
  refine W_region_l ?_
  refine WL_stepM rfl (R_mv) ?_
  refine WL_stepM rfl (R_mv) ?_
  refine WL_stepM rfl (R_mv) ?_
  refine WL_stepM rfl (R_mv) ?_
  refine WL_stepM rfl (R_mv) ?_
  refine WL_step rfl (R_len_slice Try.underlying22 rfl) ?_
  (refine WL_call rfl (R_call rfl Try.call45 rfl) (hP) ?_; rintro _ w13 ⟨rfl, H1⟩; replace H := H.seq0 H1; clear H1)
  refine WL_stepM rfl (R_mv) ?_
  refine WL_step rfl (R_extract rfl rfl) ?_
  refine WL_step rfl (R_extract rfl rfl) ?_
  refine WL_stepM rfl (R_as) ?_
  refine WL_stepM rfl (R_as) ?_
  refine WL_nil ?_
  refine W_seq ?_
  refine W_seq ?_
  refine W_region_l ?_
  refine WL_stepM rfl (R_mv) ?_
  refine WL_step rfl (R_ne_f rfl rfl (by omega)) ?_
  refine WL_nil ?_
  refine W_cond_f rfl ?_
  refine W_skip ?_
  refine W_seq ?_
  refine W_region_l ?_
  refine WL_stepM rfl (R_mv) ?_
  refine WL_step rfl (R_nilCheck rfl) ?_
  refine WL_step rfl (R_fieldAddr (off' := 0) Try.underlying95 rfl Try.sizeOf23 (by decide) rfl rfl) ?_
  refine WL_step rfl (R_load (v := ptr m 0) Try.isAgg23 rfl (H.blockN hr (by repeat' first | exact kNil | apply kCons | apply kApp | assumption | exact OwnS.keys (by assumption))) rfl) ?_
  refine WL_stepM rfl (R_mv) ?_
  refine WL_stepM rfl (R_mv) ?_
  (refine WL_call rfl (R_call rfl Try.call16 rfl) (Mem.store_yes p (H.blockN hm (by repeat' first | exact kNil | apply kCons | apply kApp | assumption | exact OwnS.keys (by assumption))) (H.blockN hb (by repeat' first | exact kNil | apply kCons | apply kApp | assumption | exact OwnS.keys (by assumption))) hx (by omega) (by first | exact hl.same H | exact (hl.same H)) h) ?_; rintro _ w36 ⟨rfl, H1⟩; replace H := H.seqB hb (by repeat' first | exact kNil | apply kCons | apply kApp | assumption | exact OwnS.keys (by assumption)) H1; clear H1)
  refine WL_stepM rfl (R_as) ?_
  refine WL_nil ?_
  refine W_ret ?_
  exact ⟨_, rfl, rfl, H⟩

variable {nm2 on : Int}
theorem copy_rd (hR : Ret Try.prog 22 #[ptr rr 0, I env, I nm, I at_, I k] w fun v w' => v = .tuple #[nilS, I e] ∧ Hp w [] w') (he : e ≠ 0) :
    Ret Try.prog 23 #[ptr rr 0, I env, I nm, I at_, I nm2, I on, I k] w fun v w' => v = I e ∧ Hp w [] w' := by
  refine Ret_of_W (args := [_, _, _, _, _, _, _]) Try.func23 rfl Try.ntmps23 Try.results23 (by simp) ?_
  have H := Hp.refl w
  refine W_seq ?_
  refine W_region_l ?_
  refine WL_stepM rfl (R_as) ?_
  refine WL_nil ?_
  refine W_seq ?_
  refine W_region_l ?_
  refine WL_stepM rfl (R_mv) ?_
  refine WL_stepM rfl (R_mv) ?_
  refine WL_stepM rfl (R_mv) ?_
  refine WL_stepM rfl (R_mv) ?_
  refine WL_stepM rfl (R_mv) ?_
  (refine WL_call rfl (R_call rfl Try.call22 rfl) (hR) ?_; rintro _ w12 ⟨rfl, H1⟩; replace H := H.seq0 H1; clear H1)
  refine WL_stepM rfl (R_mv) ?_
  refine WL_step rfl (R_extract rfl rfl) ?_
  refine WL_step rfl (R_extract rfl rfl) ?_
  refine WL_stepM rfl (R_as) ?_
  refine WL_stepM rfl (R_as) ?_
  refine WL_nil ?_
  refine W_seq ?_
  refine W_seq ?_
  refine W_region_l ?_
  refine WL_stepM rfl (R_mv) ?_
  refine WL_step rfl (R_ne_t rfl rfl (by omega)) ?_
  refine WL_nil ?_
  refine W_cond_t rfl ?_
  refine W_seq ?_
  refine W_region_l ?_
  refine WL_stepM rfl (R_mv) ?_
  refine WL_stepM rfl (R_as) ?_
  refine WL_nil ?_
  refine W_ret ?_
  exact ⟨_, rfl, rfl, H⟩

/-- what Copy does, by what Read and Write do -/
theorem copy_to {k : Nat} {zs : List UInt8} {K : List (Nat × Obj)} (hR : Ret Try.prog 22 #[ptr rr 0, I env, I nm, I at_, I k] w fun v w' => ∃ u M, v = .tuple #[u, I 0] ∧ OwnS w.heap.size 5 1 u k (zs.map U) M ∧ Hp w M w')
    (hW : ∀ u M w', OwnS w.heap.size 5 1 u k (zs.map U) M → Hp w M w' → Ret Try.prog 20 #[ptr rr 0, I env, I nm2, I on, u] w' fun v w'' => v = I e ∧ Hp w (M ++ K) w'') :
    Ret Try.prog 23 #[ptr rr 0, I env, I nm, I at_, I nm2, I on, I k] w fun v w' => ∃ M, v = I e ∧ (∀ p ∈ M, w.heap.size ≤ p.1) ∧ Hp w (M ++ K) w' := by
  refine Ret_of_W (args := [_, _, _, _, _, _, _]) Try.func23 rfl Try.ntmps23 Try.results23 (by simp) ?_
  have H := Hp.refl w
  refine W_seq ?_
  refine W_region_l ?_
  refine WL_stepM rfl (R_as) ?_
  refine WL_nil ?_
  refine W_seq ?_
  refine W_region_l ?_
  refine WL_stepM rfl (R_mv) ?_
  refine WL_stepM rfl (R_mv) ?_
  refine WL_stepM rfl (R_mv) ?_
  refine WL_stepM rfl (R_mv) ?_
  refine WL_stepM rfl (R_mv) ?_
  (refine WL_call rfl (R_call rfl Try.call22 rfl) hR ?_; rintro _ w12 ⟨u, M, rfl, hO, H1⟩; have h12 := H.seqO hO H1; clear H H1 hO; obtain ⟨hO, H⟩ := h12; rw [List.append_nil] at H)
  refine WL_stepM rfl (R_mv) ?_
  refine WL_step rfl (R_extract rfl rfl) ?_
  refine WL_step rfl (R_extract rfl rfl) ?_
  refine WL_stepM rfl (R_as) ?_
  refine WL_stepM rfl (R_as) ?_
  refine WL_nil ?_
  refine W_seq ?_
  refine W_seq ?_
  refine W_region_l ?_
  refine WL_stepM rfl (R_mv) ?_
  refine WL_step rfl (R_ne_f rfl rfl (by omega)) ?_
  refine WL_nil ?_
  refine W_cond_f rfl ?_
  refine W_skip ?_
  refine W_seq ?_
  refine W_region_l ?_
  refine WL_stepM rfl (R_mv) ?_
  refine WL_stepM rfl (R_mv) ?_
  refine WL_stepM rfl (R_mv) ?_
  refine WL_stepM rfl (R_mv) ?_
  refine WL_stepM rfl (R_mv) ?_
  (refine WL_call rfl (R_call rfl Try.call20 rfl) (hW u M _ hO H) ?_; clear H; rintro _ w34 ⟨rfl, H⟩)
  refine WL_stepM rfl (R_as) ?_
  refine WL_nil ?_
  refine W_ret ?_
  exact ⟨_, rfl, M, rfl, hO.keys, H⟩
end
end Go.Proofs.Ythonajikgljgmaa.Reg
