/-
  Regions: one is made, one is added; where bytes of a cap lie.
-/
import Derived.Test.YtlpmfldijgdcoaaGreatDoorCapM
import Derived.Test.YtlpmfldijgdcoaaGreatDoorMemA
namespace Go.Proofs.YtlpmfldijgdcoaaGreatDoor.Reg
open Go Go.Proofs Go.Proofs.YtlpmfldijgdcoaaGreatDoor.Fx Go.Proofs.YtlpmfldijgdcoaaGreatDoor.TabC Go.Proofs.YtlpmfldijgdcoaaGreatDoor.Caps
set_option maxRecDepth 100000
set_option linter.unusedVariables false
set_option linter.unusedSimpArgs false
set_option maxHeartbeats 8000000

theorem new_ret (m s : Nat) (w : World) : Ret Tryz.prog 47 #[ptr m 0, ptr s 0] w fun v w' => ∃ rr, v = ptr rr 0 ∧ w.heap.size ≤ rr ∧ Hp w [(rr, blk [ptr m 0, ptr s 0, nilS] 142)] w' := by
  refine Ret_of_W (args := [_, _]) Tryz.func47 rfl Tryz.ntmps47 Tryz.results47 (by simp) ?_
  have H := Hp.refl w
  refine W_seq ?_
  refine W_region_l ?_
  refine WL_stepM rfl (R_as) ?_
  refine WL_nil ?_
  refine W_seq ?_
  refine W_region_l ?_
  refine WL_stepM rfl (R_mv) ?_
  refine WL_stepM rfl (R_mv) ?_
  refine WL_step rfl (R_buildL (places := [(0, 1), (1, 1), (2, 1)]) (vs := [(.pointer _), (.pointer _), (.slice _ _ _)]) Tryz.underlying142 Tryz.typeInfo142 rfl rfl (by kernel_rfl) rfl rfl rfl) ?_
  (refine WL_effn rfl (E_box (vs := [ptr m 0, ptr s 0, nilS]) H rfl rfl) ?_; clear H; intro rr w10 hrr H)
  refine WL_stepM rfl (R_as) ?_
  refine WL_nil ?_
  refine W_ret ?_
  exact ⟨_, rfl, _, rfl, hrr, H⟩

section
variable {w : World} {rr m mb s N : Nat} {xs : List UInt8}

theorem add_ret (hr : w.heap[rr]? = some (blk [ptr m 0, ptr s 0, nilS] 142)) (hm : w.heap[m]? = some (blk [sl mb 0 N N] 161)) (hx : xs.length = N) (hN : N ≤ 16384) {lo n : Int} (hlo : 0 ≤ lo) (hn : 0 ≤ n) (h : lo + n ≤ N) :
    Ret Tryz.prog 49 #[ptr rr 0, I lo, I n] w fun v w' => ∃ a ca sp, v = .tuple #[I 0, I 0] ∧ w.heap.size ≤ a ∧ Hp w [(rr, blk [ptr m 0, ptr s 0, sl a 0 1 ca] 142), (a, blk ([I lo, I n] ++ sp) 145)] w' := by
  refine Ret_of_W (args := [_, _, _]) Tryz.func49 rfl Tryz.ntmps49 Tryz.results49 (by simp) ?_
  have nm : m ≠ rr := ne_of_obj hm hr (by simp)
  have H := (Hp.focus0 hr).focus hm (by simpa using nm)
  have hO := OwnS.nil w.heap.size 145 2
  refine W_seq ?_
  refine W_region_l ?_
  refine WL_stepM rfl (R_as) ?_
  refine WL_stepM rfl (R_as) ?_
  refine WL_nil ?_
  refine W_seq ?_
  refine W_block ?_
  refine W_seq ?_
  refine W_region_l ?_
  refine WL_stepM rfl (R_mv) ?_
  refine WL_step rfl (R_lt_f rfl rfl (by omega)) ?_
  refine WL_stepM rfl (R_mv) ?_
  refine WL_guard_t rfl rfl ?_
  refine WL_stepM rfl (R_mv) ?_
  refine WL_guard_t rfl rfl ?_
  refine WL_step rfl (R_lt_f rfl rfl (by omega)) ?_
  refine WL_stepM rfl (R_pk_f rfl) ?_
  refine WL_stepM rfl (R_mv) ?_
  refine WL_guard_t rfl rfl ?_
  refine WL_stepM rfl (R_mv) ?_
  refine WL_guard_t rfl rfl ?_
  refine WL_stepM rfl (R_mv) ?_
  refine WL_guard_t rfl rfl ?_
  refine WL_step rfl (R_nilCheck rfl) ?_
  refine WL_guard_t rfl rfl ?_
  refine WL_step rfl (R_fieldAddr (off' := 0) Tryz.underlying142 rfl Tryz.sizeOf105 (by decide) rfl rfl) ?_
  refine WL_guard_t rfl rfl ?_
  refine WL_step rfl (R_load Tryz.isAgg105 rfl (H.get (.there .here)) rfl) ?_
  refine WL_guard_t rfl rfl ?_
  (refine WL_call rfl (R_call rfl Tryz.call78 rfl) (Mem.size_ret (H.get .here) hx) ?_; rintro _ w30 ⟨rfl, H1⟩; replace H := H.seq0 H1; clear H1)
  refine WL_guard_t rfl rfl ?_
  refine WL_step rfl (R_gt_f rfl rfl (by omega)) ?_
  refine WL_stepM rfl (R_pk_f rfl) ?_
  refine WL_stepM rfl (R_mv) ?_
  refine WL_guard_t rfl rfl ?_
  refine WL_stepM rfl (R_mv) ?_
  refine WL_guard_t rfl rfl ?_
  refine WL_stepM rfl (R_mv) ?_
  refine WL_guard_t rfl rfl ?_
  refine WL_step rfl (R_nilCheck rfl) ?_
  refine WL_guard_t rfl rfl ?_
  refine WL_step rfl (R_fieldAddr (off' := 0) Tryz.underlying142 rfl Tryz.sizeOf105 (by decide) rfl rfl) ?_
  refine WL_guard_t rfl rfl ?_
  refine WL_step rfl (R_load Tryz.isAgg105 rfl (H.get (.there .here)) rfl) ?_
  refine WL_guard_t rfl rfl ?_
  (refine WL_call rfl (R_call rfl Tryz.call78 rfl) (Mem.size_ret (H.get .here) hx) ?_; rintro _ w46 ⟨rfl, H1⟩; replace H := H.seq0 H1; clear H1)
  refine WL_guard_t rfl rfl ?_
  refine WL_stepM rfl (R_mv) ?_
  refine WL_guard_t rfl rfl ?_
  refine WL_step rfl (R_sub rfl rfl (w_i64 (by omega))) ?_
  refine WL_guard_t rfl rfl ?_
  refine WL_step rfl (R_gt_f rfl rfl (by omega)) ?_
  refine WL_stepM rfl (R_pk_f rfl) ?_
  refine WL_stepM rfl (R_as) ?_
  refine WL_nil ?_
  refine W_cond_f rfl ?_
  refine W_seq ?_
  refine W_region_l ?_
  refine WL_stepM rfl (R_mv) ?_
  refine WL_step rfl (R_nilCheck rfl) ?_
  refine WL_step rfl (R_fieldAddr (off' := 2) Tryz.underlying142 rfl Tryz.sizeOf140 (by decide) rfl rfl) ?_
  refine WL_step rfl (R_load Tryz.isAgg140 rfl (H.get (.there .here)) rfl) ?_
  refine WL_step rfl (R_len_slice Tryz.underlying140 rfl) ?_
  refine WL_step rfl (R_ge_f rfl rfl (by omega)) ?_
  refine WL_stepM rfl (R_as) ?_
  refine WL_nil ?_
  refine W_cond_f rfl ?_
  refine W_skip ?_
  refine W_seq ?_
  refine W_region_l ?_
  refine WL_stepM rfl (R_mv) ?_
  refine WL_stepM rfl (R_mv) ?_
  refine WL_step rfl (R_nilCheck rfl) ?_
  refine WL_step rfl (R_fieldAddr (off' := 2) Tryz.underlying142 rfl Tryz.sizeOf140 (by decide) rfl rfl) ?_
  refine WL_step rfl (R_load Tryz.isAgg140 rfl (H.get (.there .here)) rfl) ?_
  refine WL_stepM rfl (R_mv) ?_
  refine WL_stepM rfl (R_mv) ?_
  refine WL_step rfl (R_buildL (places := [(0, 1), (1, 1)]) (vs := [(.int _ _), (.int _ _)]) Tryz.underlying145 Tryz.typeInfo145 rfl rfl (by kernel_rfl) rfl rfl rfl) ?_
  (refine WL_effn rfl (E_buildRows (vss := [[I lo, I n]]) H Tryz.underlying140 Tryz.sizeOf145 Tryz.zeroValue145 rfl rfl (by decide) rfl rfl (by simp)) ?_; clear H; intro b79 w79 hb79 H)
  (refine WL_effm rfl (E_append (news := [I lo, I n]) H (.there (.there (.there .last))) hO Tryz.underlying140 Tryz.typeInfo145 rfl rfl rfl rfl rfl rfl (src_blk (m := 1) (sp := []) Tryz.underlying140 (by rw [List.append_nil]; exact H.get .here) rfl (by simp [Value.oneCell'])) (by omega) (by simp only [Tryz.t145]; omega)) ?_; clear H hO; intro vN MN w80 hO H; replace H := H.pop (by assumption); obtain ⟨aN, ca, sp, hv, haN, hM, hsp, hcap⟩ := OwnS.pos hO (by omega); subst hv; subst hM; replace H : Hp w [(m, blk [sl mb 0 N N] 161), (rr, blk [ptr m 0, ptr s 0, nilS] 142), (aN, blk ([I lo, I n] ++ sp) 145)] w80 := H)
  refine WL_step rfl (R_nilCheck rfl) ?_
  refine WL_step rfl (R_fieldAddr (off' := 2) Tryz.underlying142 rfl Tryz.sizeOf140 (by decide) rfl rfl) ?_
  (refine WL_effu rfl (E_store (v := sl aN 0 1 ca) H Tryz.sizeOf140 rfl rfl rfl (.there .here) (by simp)) ?_; clear H; intro w83 H; replace H : Hp w [(m, blk [sl mb 0 N N] 161), (rr, blk [ptr m 0, ptr s 0, sl aN 0 1 ca] 142), (aN, blk ([I lo, I n] ++ sp) 145)] w83 := H)
  refine WL_nil ?_
  refine W_seq ?_
  refine W_region_l ?_
  refine WL_stepM rfl (R_mv) ?_
  refine WL_step rfl (R_nilCheck rfl) ?_
  refine WL_step rfl (R_fieldAddr (off' := 2) Tryz.underlying142 rfl Tryz.sizeOf140 (by decide) rfl rfl) ?_
  refine WL_step rfl (R_load Tryz.isAgg140 rfl (H.get (.there .here)) rfl) ?_
  refine WL_step rfl (R_len_slice Tryz.underlying140 rfl) ?_
  refine WL_step rfl (R_sub rfl rfl (w_i64 (by omega))) ?_
  refine WL_stepM rfl (R_as) ?_
  refine WL_stepM rfl (R_as) ?_
  refine WL_nil ?_
  refine W_ret ?_
  exact ⟨_, rfl, aN, ca, sp, rfl, haN, H.back hm⟩

variable {a ca : Nat} {sp : List Value} {rlo rn : Int} {PB : List (Nat × Nat)} {ts : List (List Pl)} {j i g0 : Nat} {q : Nat × Nat} {t : List Pl} {o r lo n re : Int}

end
end Go.Proofs.YtlpmfldijgdcoaaGreatDoor.Reg

/-
  Regions: a place that is not within a cap.
-/
namespace Go.Proofs.YtlpmfldijgdcoaaGreatDoor.Reg
open Go Go.Proofs Go.Proofs.YtlpmfldijgdcoaaGreatDoor.Fx Go.Proofs.YtlpmfldijgdcoaaGreatDoor.TabC Go.Proofs.YtlpmfldijgdcoaaGreatDoor.Caps
set_option maxRecDepth 100000
set_option linter.unusedVariables false
set_option linter.unusedSimpArgs false
set_option maxHeartbeats 8000000
section
variable {w : World} {rr m mb s N : Nat} {xs : List UInt8}
variable {a ca : Nat} {sp : List Value} {rlo rn : Int} {PB : List (Nat × Nat)} {ts : List (List Pl)} {j i g0 : Nat} {q : Nat × Nat} {t : List Pl} {o r lo n re : Int} {l : Value}

theorem place_arg {rt at_ k z rx : Int} (hr : w.heap[rr]? = some (blk [ptr m 0, ptr s 0, l] 142)) (hS : Sp w s PB ts)
    (hq : PB[j]? = some q) (ht : ts[j]? = some t) (h : t[i]? = some ⟨cp 0 r lo n re rx, g0, true⟩) (bz : bitsOf .and .i64 r rt = z) (hz : z ≠ 0)
    (hn : 0 ≤ n ∧ n ≤ 65536) (hk : 0 ≤ k) (hno : ¬ (0 ≤ at_ ∧ at_ ≤ n ∧ k ≤ n - at_)) :
    Ret Tryz.prog 150 #[ptr rr 0, I j, I (i + 256 * g0 : Nat), I rt, I at_, I k] w fun v w' => v = .tuple #[I 0, I 1] ∧ Hp w [] w' := by
  refine Ret_of_W (args := [_, _, _, _, _, _]) Tryz.func150 rfl Tryz.ntmps150 Tryz.results150 (by simp) ?_
  have H := Hp.refl w
  refine W_seq ?_
  refine W_region_l ?_
  refine WL_stepM rfl (R_as) ?_
  refine WL_stepM rfl (R_as) ?_
  refine WL_nil ?_
  refine W_seq ?_
  refine W_region_l ?_
  refine WL_stepM rfl (R_mv) ?_
  refine WL_step rfl (R_nilCheck rfl) ?_
  refine WL_step rfl (R_fieldAddr (off' := 1) Tryz.underlying142 rfl Tryz.sizeOf107 (by decide) rfl rfl) ?_
  refine WL_step rfl (R_load (v := ptr s 0) Tryz.isAgg107 rfl (H.blockN hr (by repeat' first | exact kNil | apply kCons | apply kApp | assumption | exact OwnS.keys (by assumption))) rfl) ?_
  refine WL_stepM rfl (R_mv) ?_
  refine WL_stepM rfl (R_mv) ?_
  (refine WL_call rfl (R_call rfl Tryz.call152 rfl) (get_yes hS hq ht h rfl) ?_; rintro _ w14 ⟨rfl, H1⟩; replace H := H.seq0 H1; clear H1)
  refine WL_stepM rfl (R_mv) ?_
  refine WL_step rfl (R_extract rfl rfl) ?_
  refine WL_step rfl (R_extract rfl rfl) ?_
  (refine WL_effn rfl (E_allocK H) ?_; clear H; intro c14 w18 hc14 H)
  (refine WL_effu rfl (E_storeK (q := cp 0 r lo n re rx) H rfl rfl .here) ?_; clear H; intro w19 H; replace H : Hp w [(c14, blk [I 0, I r, I lo, I n, I re, I rx] 125)] w19 := H)
  refine WL_stepM rfl (R_as) ?_
  refine WL_nil ?_
  refine W_seq ?_
  refine W_block ?_
  refine W_seq ?_
  refine W_region_l ?_
  refine WL_stepM rfl (R_mv) ?_
  refine WL_step rfl (R_ne_f rfl rfl (by omega)) ?_
  refine WL_stepM rfl (R_as) ?_
  refine WL_nil ?_
  refine W_cond_f rfl ?_
  refine W_seq ?_
  refine W_region_l ?_
  refine WL_step rfl (R_fieldAddr (off' := 1) Tryz.underlying125 rfl Tryz.sizeOf3 (by decide) rfl rfl) ?_
  refine WL_step rfl (R_load Tryz.isAgg3 rfl (H.get .here) rfl) ?_
  refine WL_stepM rfl (R_mv) ?_
  refine WL_step rfl (R_bits (r := z) rfl rfl (by simp) bz) ?_
  refine WL_step rfl (R_eq_f rfl rfl (by omega)) ?_
  refine WL_stepM rfl (R_as) ?_
  refine WL_nil ?_
  refine W_cond_f rfl ?_
  refine W_seq ?_
  ((rcases (by omega : at_ < 0 ∨ (0 ≤ at_ ∧ at_ > n) ∨ (0 ≤ at_ ∧ at_ ≤ n ∧ k > n - at_)) with e1 | ⟨e1, e3⟩ | ⟨e1, e3, e4⟩) <;> (refine W_draw (fun w2 => w2.heap[c14]? = some (blk [I 0, I r, I lo, I n, I re, I rx] 125)) (fun _ => false) (by kernel_rfl) H ?_; clear H; intro w42 H))
  · refine WA_takeM 0 rfl rfl rfl (by kernel_rfl) (by kernel_rfl) (H.get .here) (fun _ hC => R_mv) ?_
    refine WA_take 1 rfl rfl rfl (by kernel_rfl) (by kernel_rfl) (H.get .here) (fun _ hC => R_lt_t rfl rfl (by omega)) ?_
    refine WA_takeM 2 rfl rfl rfl (by kernel_rfl) (by kernel_rfl) (H.get .here) (fun _ hC => R_mv) ?_
    refine WA_pass 3 rfl rfl rfl (fun h => nomatch h) (by kernel_rfl) (by kernel_rfl) (H.get .here) ?_
    refine WA_pass 4 rfl rfl rfl (fun h => nomatch h) (by kernel_rfl) (by kernel_rfl) (H.get .here) ?_
    refine WA_takeM 5 rfl rfl rfl (by kernel_rfl) (by kernel_rfl) (H.get .here) (fun _ hC => R_pk_t rfl) ?_
    refine WA_takeM 6 rfl rfl rfl (by kernel_rfl) (by kernel_rfl) (H.get .here) (fun _ hC => R_mv) ?_
    refine WA_pass 7 rfl rfl rfl (fun h => nomatch h) (by kernel_rfl) (by kernel_rfl) (H.get .here) ?_
    refine WA_pass 8 rfl rfl rfl (fun h => nomatch h) (by kernel_rfl) (by kernel_rfl) (H.get .here) ?_
    refine WA_pass 9 rfl rfl rfl (fun h => nomatch h) (by kernel_rfl) (by kernel_rfl) (H.get .here) ?_
    refine WA_pass 10 rfl rfl rfl (fun h => nomatch h) (by kernel_rfl) (by kernel_rfl) (H.get .here) ?_
    refine WA_takeM 11 rfl rfl rfl (by kernel_rfl) (by kernel_rfl) (H.get .here) (fun _ hC => R_pk_t rfl) ?_
    refine WA_takeM 12 rfl rfl rfl (by kernel_rfl) (by kernel_rfl) (H.get .here) (fun _ hC => R_mv) ?_
    refine WA_pass 13 rfl rfl rfl (fun h => nomatch h) (by kernel_rfl) (by kernel_rfl) (H.get .here) ?_
    refine WA_pass 14 rfl rfl rfl (fun h => nomatch h) (by kernel_rfl) (by kernel_rfl) (H.get .here) ?_
    refine WA_pass 15 rfl rfl rfl (fun h => nomatch h) (by kernel_rfl) (by kernel_rfl) (H.get .here) ?_
    refine WA_pass 16 rfl rfl rfl (fun h => nomatch h) (by kernel_rfl) (by kernel_rfl) (H.get .here) ?_
    refine WA_pass 17 rfl rfl rfl (fun h => nomatch h) (by kernel_rfl) (by kernel_rfl) (H.get .here) ?_
    refine WA_pass 18 rfl rfl rfl (fun h => nomatch h) (by kernel_rfl) (by kernel_rfl) (H.get .here) ?_
    refine WA_takeM 19 rfl rfl rfl (by kernel_rfl) (by kernel_rfl) (H.get .here) (fun _ hC => R_pk_t rfl) ?_
    refine WA_takeM 20 rfl rfl rfl (by kernel_rfl) (by kernel_rfl) (H.get .here) (fun _ hC => R_mv) ?_
    refine WA_pass 21 rfl rfl rfl (fun h => nomatch h) (by kernel_rfl) (by kernel_rfl) (H.get .here) ?_
    refine WA_pass 22 rfl rfl rfl (fun h => nomatch h) (by kernel_rfl) (by kernel_rfl) (H.get .here) ?_
    refine WA_pass 23 rfl rfl rfl (fun h => nomatch h) (by kernel_rfl) (by kernel_rfl) (H.get .here) ?_
    refine WA_takeM 24 rfl rfl rfl (by kernel_rfl) (by kernel_rfl) (H.get .here) (fun _ hC => R_pk_t rfl) ?_
    refine WA_takeM 25 rfl rfl rfl (by kernel_rfl) (by kernel_rfl) (H.get .here) (fun _ hC => R_mv) ?_
    refine WA_pass 26 rfl rfl rfl (fun h => nomatch h) (by kernel_rfl) (by kernel_rfl) (H.get .here) ?_
    refine WA_pass 27 rfl rfl rfl (fun h => nomatch h) (by kernel_rfl) (by kernel_rfl) (H.get .here) ?_
    refine WA_pass 28 rfl rfl rfl (fun h => nomatch h) (by kernel_rfl) (by kernel_rfl) (H.get .here) ?_
    refine WA_pass 29 rfl rfl rfl (fun h => nomatch h) (by kernel_rfl) (by kernel_rfl) (H.get .here) ?_
    refine WA_pass 30 rfl rfl rfl (fun h => nomatch h) (by kernel_rfl) (by kernel_rfl) (H.get .here) ?_
    refine WA_pass 31 rfl rfl rfl (fun h => nomatch h) (by kernel_rfl) (by kernel_rfl) (H.get .here) ?_
    refine WA_pass 32 rfl rfl rfl (fun h => nomatch h) (by kernel_rfl) (by kernel_rfl) (H.get .here) ?_
    refine WA_pass 33 rfl rfl rfl (fun h => nomatch h) (by kernel_rfl) (by kernel_rfl) (H.get .here) ?_
    refine WA_takeM 34 rfl rfl rfl (by kernel_rfl) (by kernel_rfl) (H.get .here) (fun _ hC => R_pk_t rfl) ?_
    refine WA_takeM 35 rfl rfl rfl (by kernel_rfl) (by kernel_rfl) (H.get .here) (fun _ hC => R_as) ?_
    refine WA_done (by kernel_rfl) ?_
    refine W_cond_t rfl ?_
    refine W_seq ?_
    refine W_region_l ?_
    refine WL_stepM rfl (R_as) ?_
    refine WL_stepM rfl (R_as) ?_
    refine WL_nil ?_
    refine W_ret ?_
    exact ⟨_, rfl, rfl, H.none (by repeat' first | exact kNil | apply kCons | apply kApp | assumption | exact OwnS.keys (by assumption))⟩
  · refine WA_takeM 0 rfl rfl rfl (by kernel_rfl) (by kernel_rfl) (H.get .here) (fun _ hC => R_mv) ?_
    refine WA_take 1 rfl rfl rfl (by kernel_rfl) (by kernel_rfl) (H.get .here) (fun _ hC => R_lt_f rfl rfl (by omega)) ?_
    refine WA_takeM 2 rfl rfl rfl (by kernel_rfl) (by kernel_rfl) (H.get .here) (fun _ hC => R_mv) ?_
    refine WA_takeGM 3 rfl rfl rfl rfl (by kernel_rfl) (by kernel_rfl) (H.get .here) (fun _ hC => R_mv) ?_
    refine WA_takeG 4 rfl rfl rfl rfl (by kernel_rfl) (by kernel_rfl) (H.get .here) (fun _ hC => R_lt_f rfl rfl (by omega)) ?_
    refine WA_takeM 5 rfl rfl rfl (by kernel_rfl) (by kernel_rfl) (H.get .here) (fun _ hC => R_pk_f rfl) ?_
    refine WA_takeM 6 rfl rfl rfl (by kernel_rfl) (by kernel_rfl) (H.get .here) (fun _ hC => R_mv) ?_
    refine WA_takeGM 7 rfl rfl rfl rfl (by kernel_rfl) (by kernel_rfl) (H.get .here) (fun _ hC => R_mv) ?_
    refine WA_takeG 8 rfl rfl rfl rfl (by kernel_rfl) (by kernel_rfl) (H.get .here) (fun _ hC => R_fieldAddr (off' := 3) Tryz.underlying125 rfl Tryz.sizeOf3 (by decide) rfl rfl) ?_
    refine WA_takeG 9 rfl rfl rfl rfl (by kernel_rfl) (by kernel_rfl) (H.get .here) (fun _ hC => R_load (v := I n) Tryz.isAgg3 rfl hC rfl) ?_
    refine WA_takeG 10 rfl rfl rfl rfl (by kernel_rfl) (by kernel_rfl) (H.get .here) (fun _ hC => R_gt_t rfl rfl (by omega)) ?_
    refine WA_takeM 11 rfl rfl rfl (by kernel_rfl) (by kernel_rfl) (H.get .here) (fun _ hC => R_pk_f rfl) ?_
    refine WA_takeM 12 rfl rfl rfl (by kernel_rfl) (by kernel_rfl) (H.get .here) (fun _ hC => R_mv) ?_
    refine WA_pass 13 rfl rfl rfl (fun h => nomatch h) (by kernel_rfl) (by kernel_rfl) (H.get .here) ?_
    refine WA_pass 14 rfl rfl rfl (fun h => nomatch h) (by kernel_rfl) (by kernel_rfl) (H.get .here) ?_
    refine WA_pass 15 rfl rfl rfl (fun h => nomatch h) (by kernel_rfl) (by kernel_rfl) (H.get .here) ?_
    refine WA_pass 16 rfl rfl rfl (fun h => nomatch h) (by kernel_rfl) (by kernel_rfl) (H.get .here) ?_
    refine WA_pass 17 rfl rfl rfl (fun h => nomatch h) (by kernel_rfl) (by kernel_rfl) (H.get .here) ?_
    refine WA_pass 18 rfl rfl rfl (fun h => nomatch h) (by kernel_rfl) (by kernel_rfl) (H.get .here) ?_
    refine WA_takeM 19 rfl rfl rfl (by kernel_rfl) (by kernel_rfl) (H.get .here) (fun _ hC => R_pk_t rfl) ?_
    refine WA_takeM 20 rfl rfl rfl (by kernel_rfl) (by kernel_rfl) (H.get .here) (fun _ hC => R_mv) ?_
    refine WA_pass 21 rfl rfl rfl (fun h => nomatch h) (by kernel_rfl) (by kernel_rfl) (H.get .here) ?_
    refine WA_pass 22 rfl rfl rfl (fun h => nomatch h) (by kernel_rfl) (by kernel_rfl) (H.get .here) ?_
    refine WA_pass 23 rfl rfl rfl (fun h => nomatch h) (by kernel_rfl) (by kernel_rfl) (H.get .here) ?_
    refine WA_takeM 24 rfl rfl rfl (by kernel_rfl) (by kernel_rfl) (H.get .here) (fun _ hC => R_pk_t rfl) ?_
    refine WA_takeM 25 rfl rfl rfl (by kernel_rfl) (by kernel_rfl) (H.get .here) (fun _ hC => R_mv) ?_
    refine WA_pass 26 rfl rfl rfl (fun h => nomatch h) (by kernel_rfl) (by kernel_rfl) (H.get .here) ?_
    refine WA_pass 27 rfl rfl rfl (fun h => nomatch h) (by kernel_rfl) (by kernel_rfl) (H.get .here) ?_
    refine WA_pass 28 rfl rfl rfl (fun h => nomatch h) (by kernel_rfl) (by kernel_rfl) (H.get .here) ?_
    refine WA_pass 29 rfl rfl rfl (fun h => nomatch h) (by kernel_rfl) (by kernel_rfl) (H.get .here) ?_
    refine WA_pass 30 rfl rfl rfl (fun h => nomatch h) (by kernel_rfl) (by kernel_rfl) (H.get .here) ?_
    refine WA_pass 31 rfl rfl rfl (fun h => nomatch h) (by kernel_rfl) (by kernel_rfl) (H.get .here) ?_
    refine WA_pass 32 rfl rfl rfl (fun h => nomatch h) (by kernel_rfl) (by kernel_rfl) (H.get .here) ?_
    refine WA_pass 33 rfl rfl rfl (fun h => nomatch h) (by kernel_rfl) (by kernel_rfl) (H.get .here) ?_
    refine WA_takeM 34 rfl rfl rfl (by kernel_rfl) (by kernel_rfl) (H.get .here) (fun _ hC => R_pk_t rfl) ?_
    refine WA_takeM 35 rfl rfl rfl (by kernel_rfl) (by kernel_rfl) (H.get .here) (fun _ hC => R_as) ?_
    refine WA_done (by kernel_rfl) ?_
    refine W_cond_t rfl ?_
    refine W_seq ?_
    refine W_region_l ?_
    refine WL_stepM rfl (R_as) ?_
    refine WL_stepM rfl (R_as) ?_
    refine WL_nil ?_
    refine W_ret ?_
    exact ⟨_, rfl, rfl, H.none (by repeat' first | exact kNil | apply kCons | apply kApp | assumption | exact OwnS.keys (by assumption))⟩
  · refine WA_takeM 0 rfl rfl rfl (by kernel_rfl) (by kernel_rfl) (H.get .here) (fun _ hC => R_mv) ?_
    refine WA_take 1 rfl rfl rfl (by kernel_rfl) (by kernel_rfl) (H.get .here) (fun _ hC => R_lt_f rfl rfl (by omega)) ?_
    refine WA_takeM 2 rfl rfl rfl (by kernel_rfl) (by kernel_rfl) (H.get .here) (fun _ hC => R_mv) ?_
    refine WA_takeGM 3 rfl rfl rfl rfl (by kernel_rfl) (by kernel_rfl) (H.get .here) (fun _ hC => R_mv) ?_
    refine WA_takeG 4 rfl rfl rfl rfl (by kernel_rfl) (by kernel_rfl) (H.get .here) (fun _ hC => R_lt_f rfl rfl (by omega)) ?_
    refine WA_takeM 5 rfl rfl rfl (by kernel_rfl) (by kernel_rfl) (H.get .here) (fun _ hC => R_pk_f rfl) ?_
    refine WA_takeM 6 rfl rfl rfl (by kernel_rfl) (by kernel_rfl) (H.get .here) (fun _ hC => R_mv) ?_
    refine WA_takeGM 7 rfl rfl rfl rfl (by kernel_rfl) (by kernel_rfl) (H.get .here) (fun _ hC => R_mv) ?_
    refine WA_takeG 8 rfl rfl rfl rfl (by kernel_rfl) (by kernel_rfl) (H.get .here) (fun _ hC => R_fieldAddr (off' := 3) Tryz.underlying125 rfl Tryz.sizeOf3 (by decide) rfl rfl) ?_
    refine WA_takeG 9 rfl rfl rfl rfl (by kernel_rfl) (by kernel_rfl) (H.get .here) (fun _ hC => R_load (v := I n) Tryz.isAgg3 rfl hC rfl) ?_
    refine WA_takeG 10 rfl rfl rfl rfl (by kernel_rfl) (by kernel_rfl) (H.get .here) (fun _ hC => R_gt_f rfl rfl (by omega)) ?_
    refine WA_takeM 11 rfl rfl rfl (by kernel_rfl) (by kernel_rfl) (H.get .here) (fun _ hC => R_pk_f rfl) ?_
    refine WA_takeM 12 rfl rfl rfl (by kernel_rfl) (by kernel_rfl) (H.get .here) (fun _ hC => R_mv) ?_
    refine WA_takeGM 13 rfl rfl rfl rfl (by kernel_rfl) (by kernel_rfl) (H.get .here) (fun _ hC => R_mv) ?_
    refine WA_takeG 14 rfl rfl rfl rfl (by kernel_rfl) (by kernel_rfl) (H.get .here) (fun _ hC => R_fieldAddr (off' := 3) Tryz.underlying125 rfl Tryz.sizeOf3 (by decide) rfl rfl) ?_
    refine WA_takeG 15 rfl rfl rfl rfl (by kernel_rfl) (by kernel_rfl) (H.get .here) (fun _ hC => R_load (v := I n) Tryz.isAgg3 rfl hC rfl) ?_
    refine WA_takeGM 16 rfl rfl rfl rfl (by kernel_rfl) (by kernel_rfl) (H.get .here) (fun _ hC => R_mv) ?_
    refine WA_takeG 17 rfl rfl rfl rfl (by kernel_rfl) (by kernel_rfl) (H.get .here) (fun _ hC => R_sub rfl rfl (w_i64 (by omega))) ?_
    refine WA_takeG 18 rfl rfl rfl rfl (by kernel_rfl) (by kernel_rfl) (H.get .here) (fun _ hC => R_gt_t rfl rfl (by omega)) ?_
    refine WA_takeM 19 rfl rfl rfl (by kernel_rfl) (by kernel_rfl) (H.get .here) (fun _ hC => R_pk_f rfl) ?_
    refine WA_takeM 20 rfl rfl rfl (by kernel_rfl) (by kernel_rfl) (H.get .here) (fun _ hC => R_mv) ?_
    refine WA_pass 21 rfl rfl rfl (fun h => nomatch h) (by kernel_rfl) (by kernel_rfl) (H.get .here) ?_
    refine WA_pass 22 rfl rfl rfl (fun h => nomatch h) (by kernel_rfl) (by kernel_rfl) (H.get .here) ?_
    refine WA_pass 23 rfl rfl rfl (fun h => nomatch h) (by kernel_rfl) (by kernel_rfl) (H.get .here) ?_
    refine WA_takeM 24 rfl rfl rfl (by kernel_rfl) (by kernel_rfl) (H.get .here) (fun _ hC => R_pk_t rfl) ?_
    refine WA_takeM 25 rfl rfl rfl (by kernel_rfl) (by kernel_rfl) (H.get .here) (fun _ hC => R_mv) ?_
    refine WA_pass 26 rfl rfl rfl (fun h => nomatch h) (by kernel_rfl) (by kernel_rfl) (H.get .here) ?_
    refine WA_pass 27 rfl rfl rfl (fun h => nomatch h) (by kernel_rfl) (by kernel_rfl) (H.get .here) ?_
    refine WA_pass 28 rfl rfl rfl (fun h => nomatch h) (by kernel_rfl) (by kernel_rfl) (H.get .here) ?_
    refine WA_pass 29 rfl rfl rfl (fun h => nomatch h) (by kernel_rfl) (by kernel_rfl) (H.get .here) ?_
    refine WA_pass 30 rfl rfl rfl (fun h => nomatch h) (by kernel_rfl) (by kernel_rfl) (H.get .here) ?_
    refine WA_pass 31 rfl rfl rfl (fun h => nomatch h) (by kernel_rfl) (by kernel_rfl) (H.get .here) ?_
    refine WA_pass 32 rfl rfl rfl (fun h => nomatch h) (by kernel_rfl) (by kernel_rfl) (H.get .here) ?_
    refine WA_pass 33 rfl rfl rfl (fun h => nomatch h) (by kernel_rfl) (by kernel_rfl) (H.get .here) ?_
    refine WA_takeM 34 rfl rfl rfl (by kernel_rfl) (by kernel_rfl) (H.get .here) (fun _ hC => R_pk_t rfl) ?_
    refine WA_takeM 35 rfl rfl rfl (by kernel_rfl) (by kernel_rfl) (H.get .here) (fun _ hC => R_as) ?_
    refine WA_done (by kernel_rfl) ?_
    refine W_cond_t rfl ?_
    refine W_seq ?_
    refine W_region_l ?_
    refine WL_stepM rfl (R_as) ?_
    refine WL_stepM rfl (R_as) ?_
    refine WL_nil ?_
    refine W_ret ?_
    exact ⟨_, rfl, rfl, H.none (by repeat' first | exact kNil | apply kCons | apply kApp | assumption | exact OwnS.keys (by assumption))⟩

end
end Go.Proofs.YtlpmfldijgdcoaaGreatDoor.Reg

/-
  Regions: read, written, copied; what is refused.
-/
namespace Go.Proofs.YtlpmfldijgdcoaaGreatDoor.Reg
open Go Go.Proofs Go.Proofs.YtlpmfldijgdcoaaGreatDoor.Fx Go.Proofs.YtlpmfldijgdcoaaGreatDoor.TabC Go.Proofs.YtlpmfldijgdcoaaGreatDoor.Caps
set_option maxRecDepth 100000
set_option linter.unusedVariables false
set_option linter.unusedSimpArgs false
set_option maxHeartbeats 8000000
section
variable {w : World} {rr m mb s N : Nat} {xs : List UInt8}
variable {a ca : Nat} {sp : List Value} {rlo rn : Int} {PB : List (Nat × Nat)} {ts : List (List Pl)} {j i g0 : Nat} {q : Nat × Nat} {t : List Pl} {o r lo n re : Int} {l : Value}

variable {env nm at_ k p e : Int}

theorem read_yes {p k : Nat} (hP : Ret Tryz.prog 150 #[ptr rr 0, I env, I nm, I 1, I at_, I k] w fun v w' => v = .tuple #[I p, I 0] ∧ Hp w [] w')
    (hr : w.heap[rr]? = some (blk [ptr m 0, ptr s 0, l] 142)) (hm : w.heap[m]? = some (blk [sl mb 0 N N] 161)) (hb : w.heap[mb]? = some (blk (xs.map U) 5)) (hx : xs.length = N) (hN : N ≤ 16384) (h : p + k ≤ xs.length) :
    Ret Tryz.prog 110 #[ptr rr 0, I env, I nm, I at_, I k] w fun v w' => ∃ u M, v = .tuple #[u, I 0] ∧ OwnS w.heap.size 5 1 u k (((xs.drop p).take k).map U) M ∧ Hp w M w' := by
  refine Ret_of_W (args := [_, _, _, _, _]) Tryz.func110 rfl Tryz.ntmps110 Tryz.results110 (by simp) ?_
  have H := Hp.refl w
  refine W_seq ?_
  refine W_region_l ?_
  refine WL_stepM rfl (R_as) ?_
  refine WL_stepM rfl (R_as) ?_
  refine WL_nil ?_
  refine W_seq ?_
  refine W_region_l ?_
  refine WL_stepM rfl (R_mv) ?_
  refine WL_stepM rfl (R_mv) ?_
  refine WL_stepM rfl (R_mv) ?_
  refine WL_stepM rfl (R_mv) ?_
  refine WL_stepM rfl (R_mv) ?_
  (refine WL_call rfl (R_call rfl Tryz.call150 rfl) (hP) ?_; rintro _ w13 ⟨rfl, H1⟩; replace H := H.seq0 H1; clear H1)
  refine WL_stepM rfl (R_mv) ?_
  refine WL_step rfl (R_extract rfl rfl) ?_
  refine WL_step rfl (R_extract rfl rfl) ?_
  refine WL_stepM rfl (R_as) ?_
  refine WL_stepM rfl (R_as) ?_
  refine WL_nil ?_
  refine W_seq ?_
  refine W_seq ?_
  refine W_region_l ?_
  refine WL_stepM rfl (R_mv) ?_
  refine WL_step rfl (R_ne_f rfl rfl (by omega)) ?_
  refine WL_nil ?_
  refine W_cond_f rfl ?_
  refine W_skip ?_
  refine W_seq ?_
  refine W_region_l ?_
  refine WL_stepM rfl (R_mv) ?_
  refine WL_step rfl (R_nilCheck rfl) ?_
  refine WL_step rfl (R_fieldAddr (off' := 0) Tryz.underlying142 rfl Tryz.sizeOf105 (by decide) rfl rfl) ?_
  refine WL_step rfl (R_load (v := ptr m 0) Tryz.isAgg105 rfl (H.blockN hr kYs) rfl) ?_
  refine WL_stepM rfl (R_mv) ?_
  refine WL_stepM rfl (R_mv) ?_
  (refine WL_call rfl (R_call rfl Tryz.call60 rfl) (Mem.load_yes p k (H.blockN hm kYs) (H.blockN hb kYs) hx (by omega) h) ?_; rintro _ w36 ⟨u, M, rfl, hO, H1⟩; have h36 := H.seqO hO H1; clear H H1 hO; obtain ⟨hO, H⟩ := h36; rw [List.append_nil] at H)
  refine WL_step rfl (R_extract rfl rfl) ?_
  refine WL_step rfl (R_extract rfl rfl) ?_
  refine WL_stepM rfl (R_as) ?_
  refine WL_stepM rfl (R_as) ?_
  refine WL_nil ?_
  refine W_ret ?_
  exact ⟨_, rfl, u, M, rfl, hO, H⟩

theorem write_yes {bv : Value} {ys : List UInt8} {p : Nat} (hl : RdS w bv (ys.map U)) (hP : Ret Tryz.prog 150 #[ptr rr 0, I env, I nm, I 2, I at_, I ys.length] w fun v w' => v = .tuple #[I p, I 0] ∧ Hp w [] w')
    (hr : w.heap[rr]? = some (blk [ptr m 0, ptr s 0, l] 142)) (hm : w.heap[m]? = some (blk [sl mb 0 N N] 161)) (hb : w.heap[mb]? = some (blk (xs.map U) 5)) (hx : xs.length = N) (hN : N ≤ 16384) (h : p + ys.length ≤ xs.length) :
    Ret Tryz.prog 111 #[ptr rr 0, I env, I nm, I at_, bv] w fun v w' => v = I 0 ∧ Hp w [(mb, blk ((Mem.put xs ys p).map U) 5)] w' := by
  refine Ret_of_W (args := [_, _, _, _, _]) Tryz.func111 rfl Tryz.ntmps111 Tryz.results111 (by simp) ?_
  have H := Hp.refl w
  obtain ⟨ao, co, rfl⟩ := hl.form
  simp only [List.length_map] at hl ⊢
  refine W_seq ?_
  refine W_region_l ?_
  refine WL_stepM rfl (R_as) ?_
  refine WL_nil ?_
  refine W_seq ?_
  refine W_region_l ?_
  refine WL_stepM rfl (R_mv) ?_
  refine WL_stepM rfl (R_mv) ?_
  refine WL_stepM rfl (R_mv) ?_
  refine WL_stepM rfl (R_mv) ?_
  refine WL_stepM rfl (R_mv) ?_
  refine WL_step rfl (R_len_slice Tryz.underlying36 rfl) ?_
  (refine WL_call rfl (R_call rfl Tryz.call150 rfl) (hP) ?_; rintro _ w13 ⟨rfl, H1⟩; replace H := H.seq0 H1; clear H1)
  refine WL_stepM rfl (R_mv) ?_
  refine WL_step rfl (R_extract rfl rfl) ?_
  refine WL_step rfl (R_extract rfl rfl) ?_
  refine WL_stepM rfl (R_as) ?_
  refine WL_stepM rfl (R_as) ?_
  refine WL_nil ?_
  refine W_seq ?_
  refine W_seq ?_
  refine W_region_l ?_
  refine WL_stepM rfl (R_mv) ?_
  refine WL_step rfl (R_ne_f rfl rfl (by omega)) ?_
  refine WL_nil ?_
  refine W_cond_f rfl ?_
  refine W_skip ?_
  refine W_seq ?_
  refine W_region_l ?_
  refine WL_stepM rfl (R_mv) ?_
  refine WL_step rfl (R_nilCheck rfl) ?_
  refine WL_step rfl (R_fieldAddr (off' := 0) Tryz.underlying142 rfl Tryz.sizeOf105 (by decide) rfl rfl) ?_
  refine WL_step rfl (R_load (v := ptr m 0) Tryz.isAgg105 rfl (H.blockN hr kYs) rfl) ?_
  refine WL_stepM rfl (R_mv) ?_
  refine WL_stepM rfl (R_mv) ?_
  (refine WL_call rfl (R_call rfl Tryz.call151 rfl) (Mem.store_yes p (H.blockN hm kYs) (H.blockN hb kYs) hx (by omega) (by first | exact hl.same H | exact (hl.same H)) h) ?_; rintro _ w36 ⟨rfl, H1⟩; replace H := H.seqB hb kYs H1; clear H1)
  refine WL_stepM rfl (R_as) ?_
  refine WL_nil ?_
  refine W_ret ?_
  exact ⟨_, rfl, rfl, H⟩

variable {nm2 on : Int}
end
end Go.Proofs.YtlpmfldijgdcoaaGreatDoor.Reg
