/-
  Regions: one is made, one is added; where bytes of a cap lie.
-/
import Derived.Test.YthonajikgljgmaaCapsG
import Derived.Test.YthonajikgljgmaaMemA
namespace Go.Proofs.Ythonajikgljgmaa.Reg
open Go Go.Proofs Go.Proofs.Ythonajikgljgmaa.Fx Go.Proofs.Ythonajikgljgmaa.TabC Go.Proofs.Ythonajikgljgmaa.Caps
set_option maxRecDepth 100000
set_option linter.unusedVariables false
set_option linter.unusedSimpArgs false
set_option maxHeartbeats 8000000

theorem new_ret (m s : Nat) (w : World) : Ret Try.prog 14 #[ptr m 0, ptr s 0] w fun v w' => ∃ rr, v = ptr rr 0 ∧ w.heap.size ≤ rr ∧ Hp w [(rr, blk [ptr m 0, ptr s 0, nilS] 95)] w' := by
  refine Ret_of_W (args := [_, _]) Try.func14 rfl Try.ntmps14 Try.results14 (by simp) ?_
  have H := Hp.refl w
  refine W_seq ?_
  refine W_region_l ?_
  refine WL_stepM rfl (R_as) ?_
  refine WL_nil ?_
  refine W_seq ?_
  refine W_region_l ?_
  refine WL_stepM rfl (R_mv) ?_
  refine WL_stepM rfl (R_mv) ?_
  refine WL_step rfl (R_buildL (places := [(0, 1), (1, 1), (2, 1)]) (vs := [(.pointer _), (.pointer _), (.slice _ _ _)]) Try.underlying95 Try.typeInfo95 rfl rfl (by kernel_rfl) rfl rfl rfl) ?_
  (refine WL_effn rfl (E_box (vs := [ptr m 0, ptr s 0, nilS]) H rfl rfl) ?_; clear H; intro rr w10 hrr H)
  refine WL_stepM rfl (R_as) ?_
  refine WL_nil ?_
  refine W_ret ?_
  exact ⟨_, rfl, _, rfl, hrr, H⟩

section
variable {w : World} {rr m mb s N : Nat} {xs : List UInt8}

theorem add_ret (hr : w.heap[rr]? = some (blk [ptr m 0, ptr s 0, nilS] 95)) (hm : w.heap[m]? = some (blk [sl mb 0 N N] 87)) (hx : xs.length = N) (hN : N ≤ 16384) {lo n : Int} (hlo : 0 ≤ lo) (hn : 0 ≤ n) (h : lo + n ≤ N) :
    Ret Try.prog 17 #[ptr rr 0, I lo, I n] w fun v w' => ∃ a ca sp, v = .tuple #[I 0, I 0] ∧ w.heap.size ≤ a ∧ Hp w [(rr, blk [ptr m 0, ptr s 0, sl a 0 1 ca] 95), (a, blk ([I lo, I n] ++ sp) 98)] w' := by
  refine Ret_of_W (args := [_, _, _]) Try.func17 rfl Try.ntmps17 Try.results17 (by simp) ?_
  have nm : m ≠ rr := ne_of_obj hm hr (by simp)
  have H := (Hp.focus0 hr).focus hm (by simpa using nm)
  have hO := OwnS.nil w.heap.size 98 2
  refine W_seq ?_
  refine W_region_l ?_
  refine WL_stepM rfl (R_as) ?_
  refine WL_stepM rfl (R_as) ?_
  refine WL_nil ?_
  refine W_seq ?_
  refine W_block ?_
  refine W_seq ?_
  refine W_region_l ?_
  refine WL_stepM rfl (R_mv) ?_
  refine WL_step rfl (R_lt_f rfl rfl (by omega)) ?_
  refine WL_stepM rfl (R_mv) ?_
  refine WL_guard_t rfl rfl ?_
  refine WL_stepM rfl (R_mv) ?_
  refine WL_guard_t rfl rfl ?_
  refine WL_step rfl (R_lt_f rfl rfl (by omega)) ?_
  refine WL_stepM rfl (R_pk_f rfl) ?_
  refine WL_stepM rfl (R_mv) ?_
  refine WL_guard_t rfl rfl ?_
  refine WL_stepM rfl (R_mv) ?_
  refine WL_guard_t rfl rfl ?_
  refine WL_stepM rfl (R_mv) ?_
  refine WL_guard_t rfl rfl ?_
  refine WL_step rfl (R_nilCheck rfl) ?_
  refine WL_guard_t rfl rfl ?_
  refine WL_step rfl (R_fieldAddr (off' := 0) Try.underlying95 rfl Try.sizeOf23 (by decide) rfl rfl) ?_
  refine WL_guard_t rfl rfl ?_
  refine WL_step rfl (R_load Try.isAgg23 rfl (H.get (.there .here)) rfl) ?_
  refine WL_guard_t rfl rfl ?_
  (refine WL_call rfl (R_call rfl Try.call41 rfl) (Mem.size_ret (H.get .here) hx) ?_; rintro _ w30 ⟨rfl, H1⟩; replace H := H.seq0 H1; clear H1)
  refine WL_guard_t rfl rfl ?_
  refine WL_step rfl (R_gt_f rfl rfl (by omega)) ?_
  refine WL_stepM rfl (R_pk_f rfl) ?_
  refine WL_stepM rfl (R_mv) ?_
  refine WL_guard_t rfl rfl ?_
  refine WL_stepM rfl (R_mv) ?_
  refine WL_guard_t rfl rfl ?_
  refine WL_stepM rfl (R_mv) ?_
  refine WL_guard_t rfl rfl ?_
  refine WL_step rfl (R_nilCheck rfl) ?_
  refine WL_guard_t rfl rfl ?_
  refine WL_step rfl (R_fieldAddr (off' := 0) Try.underlying95 rfl Try.sizeOf23 (by decide) rfl rfl) ?_
  refine WL_guard_t rfl rfl ?_
  refine WL_step rfl (R_load Try.isAgg23 rfl (H.get (.there .here)) rfl) ?_
  refine WL_guard_t rfl rfl ?_
  (refine WL_call rfl (R_call rfl Try.call41 rfl) (Mem.size_ret (H.get .here) hx) ?_; rintro _ w46 ⟨rfl, H1⟩; replace H := H.seq0 H1; clear H1)
  refine WL_guard_t rfl rfl ?_
  refine WL_stepM rfl (R_mv) ?_
  refine WL_guard_t rfl rfl ?_
  refine WL_step rfl (R_sub rfl rfl (w_i64 (by omega))) ?_
  refine WL_guard_t rfl rfl ?_
  refine WL_step rfl (R_gt_f rfl rfl (by omega)) ?_
  refine WL_stepM rfl (R_pk_f rfl) ?_
  refine WL_stepM rfl (R_as) ?_
  refine WL_nil ?_
  refine W_cond_f rfl ?_
  refine W_seq ?_
  refine W_region_l ?_
  refine WL_stepM rfl (R_mv) ?_
  refine WL_step rfl (R_nilCheck rfl) ?_
  refine WL_step rfl (R_fieldAddr (off' := 2) Try.underlying95 rfl Try.sizeOf93 (by decide) rfl rfl) ?_
  refine WL_step rfl (R_load Try.isAgg93 rfl (H.get (.there .here)) rfl) ?_
  refine WL_step rfl (R_len_slice Try.underlying93 rfl) ?_
  refine WL_step rfl (R_ge_f rfl rfl (by omega)) ?_
  refine WL_stepM rfl (R_as) ?_
  refine WL_nil ?_
  refine W_cond_f rfl ?_
  refine W_skip ?_
  refine W_seq ?_
  refine W_region_l ?_
  refine WL_stepM rfl (R_mv) ?_
  refine WL_stepM rfl (R_mv) ?_
  refine WL_step rfl (R_nilCheck rfl) ?_
  refine WL_step rfl (R_fieldAddr (off' := 2) Try.underlying95 rfl Try.sizeOf93 (by decide) rfl rfl) ?_
  refine WL_step rfl (R_load Try.isAgg93 rfl (H.get (.there .here)) rfl) ?_
  refine WL_stepM rfl (R_mv) ?_
  refine WL_stepM rfl (R_mv) ?_
  refine WL_step rfl (R_buildL (places := [(0, 1), (1, 1)]) (vs := [(.int _ _), (.int _ _)]) Try.underlying98 Try.typeInfo98 rfl rfl (by kernel_rfl) rfl rfl rfl) ?_
  (refine WL_effn rfl (E_buildRows (vss := [[I lo, I n]]) H Try.underlying93 Try.sizeOf98 Try.zeroValue98 rfl rfl (by decide) rfl rfl (by simp)) ?_; clear H; intro b79 w79 hb79 H)
  (refine WL_effm rfl (E_append (news := [I lo, I n]) H (.there (.there (.there .last))) hO Try.underlying93 Try.typeInfo98 rfl rfl rfl rfl rfl rfl (src_blk (m := 1) (sp := []) Try.underlying93 (by rw [List.append_nil]; exact H.get .here) rfl (by simp [Value.oneCell'])) (by omega) (by simp only [Try.t98]; omega)) ?_; clear H hO; intro vN MN w80 hO H; replace H := H.pop (by assumption); obtain ⟨aN, ca, sp, hv, haN, hM, hsp, hcap⟩ := OwnS.pos hO (by omega); subst hv; subst hM; replace H : Hp w [(m, blk [sl mb 0 N N] 87), (rr, blk [ptr m 0, ptr s 0, nilS] 95), (aN, blk ([I lo, I n] ++ sp) 98)] w80 := H)
  refine WL_step rfl (R_nilCheck rfl) ?_
  refine WL_step rfl (R_fieldAddr (off' := 2) Try.underlying95 rfl Try.sizeOf93 (by decide) rfl rfl) ?_
  (refine WL_effu rfl (E_store (v := sl aN 0 1 ca) H Try.sizeOf93 rfl rfl rfl (.there .here) (by simp)) ?_; clear H; intro w83 H; replace H : Hp w [(m, blk [sl mb 0 N N] 87), (rr, blk [ptr m 0, ptr s 0, sl aN 0 1 ca] 95), (aN, blk ([I lo, I n] ++ sp) 98)] w83 := H)
  refine WL_nil ?_
  refine W_seq ?_
  refine W_region_l ?_
  refine WL_stepM rfl (R_mv) ?_
  refine WL_step rfl (R_nilCheck rfl) ?_
  refine WL_step rfl (R_fieldAddr (off' := 2) Try.underlying95 rfl Try.sizeOf93 (by decide) rfl rfl) ?_
  refine WL_step rfl (R_load Try.isAgg93 rfl (H.get (.there .here)) rfl) ?_
  refine WL_step rfl (R_len_slice Try.underlying93 rfl) ?_
  refine WL_step rfl (R_sub rfl rfl (w_i64 (by omega))) ?_
  refine WL_stepM rfl (R_as) ?_
  refine WL_stepM rfl (R_as) ?_
  refine WL_nil ?_
  refine W_ret ?_
  exact ⟨_, rfl, aN, ca, sp, rfl, haN, H.back hm⟩

variable {a ca : Nat} {sp : List Value} {rlo rn : Int} {PB : List (Nat × Nat)} {ts : List (List Pl)} {j i g0 : Nat} {q : Nat × Nat} {t : List Pl} {o r lo n re : Int}

theorem place_yes {rt at_ k z rx : Int} (hr : w.heap[rr]? = some (blk [ptr m 0, ptr s 0, sl a 0 1 ca] 95)) (ha : w.heap[a]? = some (blk ([I rlo, I rn] ++ sp) 98)) (hS : Sp w s PB ts)
    (hq : PB[j]? = some q) (ht : ts[j]? = some t) (h : t[i]? = some ⟨cp 0 r lo n re rx, g0, true⟩) (bz : bitsOf .and .i64 r rt = z) (hz : z ≠ 0)
    (hlo : 0 ≤ lo ∧ lo ≤ 65536) (hn : 0 ≤ n ∧ n ≤ 65536) (hrlo : 0 ≤ rlo ∧ rlo ≤ 65536) (hrn : 0 ≤ rn ∧ rn ≤ 65536) (hat : 0 ≤ at_ ∧ at_ ≤ n) (hk : 0 ≤ k ∧ k ≤ n - at_) (hin : lo + at_ ≤ rn ∧ k ≤ rn - lo - at_) :
    Ret Try.prog 45 #[ptr rr 0, I j, I (i + 256 * g0 : Nat), I rt, I at_, I k] w fun v w' => v = .tuple #[I (rlo + lo + at_), I 0] ∧ Hp w [] w' := by
  refine Ret_of_W (args := [_, _, _, _, _, _]) Try.func45 rfl Try.ntmps45 Try.results45 (by simp) ?_
  have H := Hp.refl w
  refine W_seq ?_
  refine W_region_l ?_
  refine WL_stepM rfl (R_as) ?_
  refine WL_stepM rfl (R_as) ?_
  refine WL_nil ?_
  refine W_seq ?_
  refine W_region_l ?_
  refine WL_stepM rfl (R_mv) ?_
  refine WL_step rfl (R_nilCheck rfl) ?_
  refine WL_step rfl (R_fieldAddr (off' := 1) Try.underlying95 rfl Try.sizeOf25 (by decide) rfl rfl) ?_
  refine WL_step rfl (R_load (v := ptr s 0) Try.isAgg25 rfl (H.blockN hr (by repeat' first | exact kNil | apply kCons | apply kApp | assumption | exact OwnS.keys (by assumption))) rfl) ?_
  refine WL_stepM rfl (R_mv) ?_
  refine WL_stepM rfl (R_mv) ?_
  (refine WL_call rfl (R_call rfl Try.call26 rfl) (get_yes hS hq ht h rfl) ?_; rintro _ w14 ⟨rfl, H1⟩; replace H := H.seq0 H1; clear H1)
  refine WL_stepM rfl (R_mv) ?_
  refine WL_step rfl (R_extract rfl rfl) ?_
  refine WL_step rfl (R_extract rfl rfl) ?_
  (refine WL_effn rfl (E_allocK H) ?_; clear H; intro c14 w18 hc14 H)
  (refine WL_effu rfl (E_storeK (q := cp 0 r lo n re rx) H rfl rfl .here) ?_; clear H; intro w19 H; replace H : Hp w [(c14, blk [I 0, I r, I lo, I n, I re, I rx] 38)] w19 := H)
  refine WL_stepM rfl (R_as) ?_
  refine WL_nil ?_
  refine W_seq ?_
  refine W_block ?_
  refine W_seq ?_
  refine W_region_l ?_
  refine WL_stepM rfl (R_mv) ?_
  refine WL_step rfl (R_ne_f rfl rfl (by omega)) ?_
  refine WL_stepM rfl (R_as) ?_
  refine WL_nil ?_
  refine W_cond_f rfl ?_
  refine W_seq ?_
  refine W_region_l ?_
  refine WL_step rfl (R_fieldAddr (off' := 1) Try.underlying38 rfl Try.sizeOf3 (by decide) rfl rfl) ?_
  refine WL_step rfl (R_load Try.isAgg3 rfl (H.get .here) rfl) ?_
  refine WL_stepM rfl (R_mv) ?_
  refine WL_step rfl (R_bits (r := z) rfl rfl (by simp) bz) ?_
  refine WL_step rfl (R_eq_f rfl rfl (by omega)) ?_
  refine WL_stepM rfl (R_as) ?_
  refine WL_nil ?_
  refine W_cond_f rfl ?_
  refine W_seq ?_
  (refine W_draw (fun w2 => w2.heap[rr]? = some (blk [ptr m 0, ptr s 0, sl a 0 1 ca] 95) ∧ w2.heap[c14]? = some (blk [I 0, I r, I lo, I n, I re, I rx] 38)) (fun _ => false) (by kernel_rfl) H ?_; clear H; intro w42 H)
  refine WA_takeM 0 rfl rfl rfl (by kernel_rfl) (by kernel_rfl) ⟨H.blockN hr (by repeat' first | exact kNil | apply kCons | apply kApp | assumption | exact OwnS.keys (by assumption)), H.get .here⟩ (fun _ hC => R_mv) ?_
  refine WA_take 1 rfl rfl rfl (by kernel_rfl) (by kernel_rfl) ⟨H.blockN hr (by repeat' first | exact kNil | apply kCons | apply kApp | assumption | exact OwnS.keys (by assumption)), H.get .here⟩ (fun _ hC => R_lt_f rfl rfl (by omega)) ?_
  refine WA_takeM 2 rfl rfl rfl (by kernel_rfl) (by kernel_rfl) ⟨H.blockN hr (by repeat' first | exact kNil | apply kCons | apply kApp | assumption | exact OwnS.keys (by assumption)), H.get .here⟩ (fun _ hC => R_mv) ?_
  refine WA_takeGM 3 rfl rfl rfl rfl (by kernel_rfl) (by kernel_rfl) ⟨H.blockN hr (by repeat' first | exact kNil | apply kCons | apply kApp | assumption | exact OwnS.keys (by assumption)), H.get .here⟩ (fun _ hC => R_mv) ?_
  refine WA_takeG 4 rfl rfl rfl rfl (by kernel_rfl) (by kernel_rfl) ⟨H.blockN hr (by repeat' first | exact kNil | apply kCons | apply kApp | assumption | exact OwnS.keys (by assumption)), H.get .here⟩ (fun _ hC => R_lt_f rfl rfl (by omega)) ?_
  refine WA_takeM 5 rfl rfl rfl (by kernel_rfl) (by kernel_rfl) ⟨H.blockN hr (by repeat' first | exact kNil | apply kCons | apply kApp | assumption | exact OwnS.keys (by assumption)), H.get .here⟩ (fun _ hC => R_pk_f rfl) ?_
  refine WA_takeM 6 rfl rfl rfl (by kernel_rfl) (by kernel_rfl) ⟨H.blockN hr (by repeat' first | exact kNil | apply kCons | apply kApp | assumption | exact OwnS.keys (by assumption)), H.get .here⟩ (fun _ hC => R_mv) ?_
  refine WA_takeGM 7 rfl rfl rfl rfl (by kernel_rfl) (by kernel_rfl) ⟨H.blockN hr (by repeat' first | exact kNil | apply kCons | apply kApp | assumption | exact OwnS.keys (by assumption)), H.get .here⟩ (fun _ hC => R_mv) ?_
  refine WA_takeG 8 rfl rfl rfl rfl (by kernel_rfl) (by kernel_rfl) ⟨H.blockN hr (by repeat' first | exact kNil | apply kCons | apply kApp | assumption | exact OwnS.keys (by assumption)), H.get .here⟩ (fun _ hC => R_fieldAddr (off' := 3) Try.underlying38 rfl Try.sizeOf3 (by decide) rfl rfl) ?_
  refine WA_takeG 9 rfl rfl rfl rfl (by kernel_rfl) (by kernel_rfl) ⟨H.blockN hr (by repeat' first | exact kNil | apply kCons | apply kApp | assumption | exact OwnS.keys (by assumption)), H.get .here⟩ (fun _ hC => R_load (v := I n) Try.isAgg3 rfl hC.2 rfl) ?_
  refine WA_takeG 10 rfl rfl rfl rfl (by kernel_rfl) (by kernel_rfl) ⟨H.blockN hr (by repeat' first | exact kNil | apply kCons | apply kApp | assumption | exact OwnS.keys (by assumption)), H.get .here⟩ (fun _ hC => R_gt_f rfl rfl (by omega)) ?_
  refine WA_takeM 11 rfl rfl rfl (by kernel_rfl) (by kernel_rfl) ⟨H.blockN hr (by repeat' first | exact kNil | apply kCons | apply kApp | assumption | exact OwnS.keys (by assumption)), H.get .here⟩ (fun _ hC => R_pk_f rfl) ?_
  refine WA_takeM 12 rfl rfl rfl (by kernel_rfl) (by kernel_rfl) ⟨H.blockN hr (by repeat' first | exact kNil | apply kCons | apply kApp | assumption | exact OwnS.keys (by assumption)), H.get .here⟩ (fun _ hC => R_mv) ?_
  refine WA_takeGM 13 rfl rfl rfl rfl (by kernel_rfl) (by kernel_rfl) ⟨H.blockN hr (by repeat' first | exact kNil | apply kCons | apply kApp | assumption | exact OwnS.keys (by assumption)), H.get .here⟩ (fun _ hC => R_mv) ?_
  refine WA_takeG 14 rfl rfl rfl rfl (by kernel_rfl) (by kernel_rfl) ⟨H.blockN hr (by repeat' first | exact kNil | apply kCons | apply kApp | assumption | exact OwnS.keys (by assumption)), H.get .here⟩ (fun _ hC => R_fieldAddr (off' := 3) Try.underlying38 rfl Try.sizeOf3 (by decide) rfl rfl) ?_
  refine WA_takeG 15 rfl rfl rfl rfl (by kernel_rfl) (by kernel_rfl) ⟨H.blockN hr (by repeat' first | exact kNil | apply kCons | apply kApp | assumption | exact OwnS.keys (by assumption)), H.get .here⟩ (fun _ hC => R_load (v := I n) Try.isAgg3 rfl hC.2 rfl) ?_
  refine WA_takeGM 16 rfl rfl rfl rfl (by kernel_rfl) (by kernel_rfl) ⟨H.blockN hr (by repeat' first | exact kNil | apply kCons | apply kApp | assumption | exact OwnS.keys (by assumption)), H.get .here⟩ (fun _ hC => R_mv) ?_
  refine WA_takeG 17 rfl rfl rfl rfl (by kernel_rfl) (by kernel_rfl) ⟨H.blockN hr (by repeat' first | exact kNil | apply kCons | apply kApp | assumption | exact OwnS.keys (by assumption)), H.get .here⟩ (fun _ hC => R_sub rfl rfl (w_i64 (by omega))) ?_
  refine WA_takeG 18 rfl rfl rfl rfl (by kernel_rfl) (by kernel_rfl) ⟨H.blockN hr (by repeat' first | exact kNil | apply kCons | apply kApp | assumption | exact OwnS.keys (by assumption)), H.get .here⟩ (fun _ hC => R_gt_f rfl rfl (by omega)) ?_
  refine WA_takeM 19 rfl rfl rfl (by kernel_rfl) (by kernel_rfl) ⟨H.blockN hr (by repeat' first | exact kNil | apply kCons | apply kApp | assumption | exact OwnS.keys (by assumption)), H.get .here⟩ (fun _ hC => R_pk_f rfl) ?_
  refine WA_takeM 20 rfl rfl rfl (by kernel_rfl) (by kernel_rfl) ⟨H.blockN hr (by repeat' first | exact kNil | apply kCons | apply kApp | assumption | exact OwnS.keys (by assumption)), H.get .here⟩ (fun _ hC => R_mv) ?_
  refine WA_takeG 21 rfl rfl rfl rfl (by kernel_rfl) (by kernel_rfl) ⟨H.blockN hr (by repeat' first | exact kNil | apply kCons | apply kApp | assumption | exact OwnS.keys (by assumption)), H.get .here⟩ (fun _ hC => R_fieldAddr (off' := 0) Try.underlying38 rfl Try.sizeOf3 (by decide) rfl rfl) ?_
  refine WA_takeG 22 rfl rfl rfl rfl (by kernel_rfl) (by kernel_rfl) ⟨H.blockN hr (by repeat' first | exact kNil | apply kCons | apply kApp | assumption | exact OwnS.keys (by assumption)), H.get .here⟩ (fun _ hC => R_load (v := I 0) Try.isAgg3 rfl hC.2 rfl) ?_
  refine WA_takeG 23 rfl rfl rfl rfl (by kernel_rfl) (by kernel_rfl) ⟨H.blockN hr (by repeat' first | exact kNil | apply kCons | apply kApp | assumption | exact OwnS.keys (by assumption)), H.get .here⟩ (fun _ hC => R_lt_f rfl rfl (by omega)) ?_
  refine WA_takeM 24 rfl rfl rfl (by kernel_rfl) (by kernel_rfl) ⟨H.blockN hr (by repeat' first | exact kNil | apply kCons | apply kApp | assumption | exact OwnS.keys (by assumption)), H.get .here⟩ (fun _ hC => R_pk_f rfl) ?_
  refine WA_takeM 25 rfl rfl rfl (by kernel_rfl) (by kernel_rfl) ⟨H.blockN hr (by repeat' first | exact kNil | apply kCons | apply kApp | assumption | exact OwnS.keys (by assumption)), H.get .here⟩ (fun _ hC => R_mv) ?_
  refine WA_takeG 26 rfl rfl rfl rfl (by kernel_rfl) (by kernel_rfl) ⟨H.blockN hr (by repeat' first | exact kNil | apply kCons | apply kApp | assumption | exact OwnS.keys (by assumption)), H.get .here⟩ (fun _ hC => R_fieldAddr (off' := 0) Try.underlying38 rfl Try.sizeOf3 (by decide) rfl rfl) ?_
  refine WA_takeG 27 rfl rfl rfl rfl (by kernel_rfl) (by kernel_rfl) ⟨H.blockN hr (by repeat' first | exact kNil | apply kCons | apply kApp | assumption | exact OwnS.keys (by assumption)), H.get .here⟩ (fun _ hC => R_load (v := I 0) Try.isAgg3 rfl hC.2 rfl) ?_
  refine WA_takeGM 28 rfl rfl rfl rfl (by kernel_rfl) (by kernel_rfl) ⟨H.blockN hr (by repeat' first | exact kNil | apply kCons | apply kApp | assumption | exact OwnS.keys (by assumption)), H.get .here⟩ (fun _ hC => R_mv) ?_
  refine WA_takeG 29 rfl rfl rfl rfl (by kernel_rfl) (by kernel_rfl) ⟨H.blockN hr (by repeat' first | exact kNil | apply kCons | apply kApp | assumption | exact OwnS.keys (by assumption)), H.get .here⟩ (fun _ hC => R_nilCheck rfl) ?_
  refine WA_takeG 30 rfl rfl rfl rfl (by kernel_rfl) (by kernel_rfl) ⟨H.blockN hr (by repeat' first | exact kNil | apply kCons | apply kApp | assumption | exact OwnS.keys (by assumption)), H.get .here⟩ (fun _ hC => R_fieldAddr (off' := 2) Try.underlying95 rfl Try.sizeOf93 (by decide) rfl rfl) ?_
  refine WA_takeG 31 rfl rfl rfl rfl (by kernel_rfl) (by kernel_rfl) ⟨H.blockN hr (by repeat' first | exact kNil | apply kCons | apply kApp | assumption | exact OwnS.keys (by assumption)), H.get .here⟩ (fun _ hC => R_load (v := sl a 0 1 ca) Try.isAgg93 rfl hC.1 rfl) ?_
  refine WA_takeG 32 rfl rfl rfl rfl (by kernel_rfl) (by kernel_rfl) ⟨H.blockN hr (by repeat' first | exact kNil | apply kCons | apply kApp | assumption | exact OwnS.keys (by assumption)), H.get .here⟩ (fun _ hC => R_len_slice Try.underlying93 rfl) ?_
  refine WA_takeG 33 rfl rfl rfl rfl (by kernel_rfl) (by kernel_rfl) ⟨H.blockN hr (by repeat' first | exact kNil | apply kCons | apply kApp | assumption | exact OwnS.keys (by assumption)), H.get .here⟩ (fun _ hC => R_ge_f rfl rfl (by omega)) ?_
  refine WA_takeM 34 rfl rfl rfl (by kernel_rfl) (by kernel_rfl) ⟨H.blockN hr (by repeat' first | exact kNil | apply kCons | apply kApp | assumption | exact OwnS.keys (by assumption)), H.get .here⟩ (fun _ hC => R_pk_f rfl) ?_
  refine WA_takeM 35 rfl rfl rfl (by kernel_rfl) (by kernel_rfl) ⟨H.blockN hr (by repeat' first | exact kNil | apply kCons | apply kApp | assumption | exact OwnS.keys (by assumption)), H.get .here⟩ (fun _ hC => R_as) ?_
  refine WA_done (by kernel_rfl) ?_
  refine W_cond_f rfl ?_
  refine W_skip ?_
  refine W_seq ?_
  (refine W_draw (fun w2 => w2.heap[rr]? = some (blk [ptr m 0, ptr s 0, sl a 0 1 ca] 95) ∧ w2.heap[c14]? = some (blk [I 0, I r, I lo, I n, I re, I rx] 38) ∧ w2.heap[a]? = some (blk ([I rlo, I rn] ++ sp) 98)) (fun _ => false) (by kernel_rfl) H ?_; clear H; intro w83 H)
  refine WA_takeM 0 rfl rfl rfl (by kernel_rfl) (by kernel_rfl) ⟨H.blockN hr (by repeat' first | exact kNil | apply kCons | apply kApp | assumption | exact OwnS.keys (by assumption)), H.get .here, H.blockN ha (by repeat' first | exact kNil | apply kCons | apply kApp | assumption | exact OwnS.keys (by assumption))⟩ (fun _ hC => R_mv) ?_
  refine WA_take 1 rfl rfl rfl (by kernel_rfl) (by kernel_rfl) ⟨H.blockN hr (by repeat' first | exact kNil | apply kCons | apply kApp | assumption | exact OwnS.keys (by assumption)), H.get .here, H.blockN ha (by repeat' first | exact kNil | apply kCons | apply kApp | assumption | exact OwnS.keys (by assumption))⟩ (fun _ hC => R_nilCheck rfl) ?_
  refine WA_take 2 rfl rfl rfl (by kernel_rfl) (by kernel_rfl) ⟨H.blockN hr (by repeat' first | exact kNil | apply kCons | apply kApp | assumption | exact OwnS.keys (by assumption)), H.get .here, H.blockN ha (by repeat' first | exact kNil | apply kCons | apply kApp | assumption | exact OwnS.keys (by assumption))⟩ (fun _ hC => R_fieldAddr (off' := 2) Try.underlying95 rfl Try.sizeOf93 (by decide) rfl rfl) ?_
  refine WA_take 3 rfl rfl rfl (by kernel_rfl) (by kernel_rfl) ⟨H.blockN hr (by repeat' first | exact kNil | apply kCons | apply kApp | assumption | exact OwnS.keys (by assumption)), H.get .here, H.blockN ha (by repeat' first | exact kNil | apply kCons | apply kApp | assumption | exact OwnS.keys (by assumption))⟩ (fun _ hC => R_load (v := sl a 0 1 ca) Try.isAgg93 rfl hC.1 rfl) ?_
  refine WA_take 4 rfl rfl rfl (by kernel_rfl) (by kernel_rfl) ⟨H.blockN hr (by repeat' first | exact kNil | apply kCons | apply kApp | assumption | exact OwnS.keys (by assumption)), H.get .here, H.blockN ha (by repeat' first | exact kNil | apply kCons | apply kApp | assumption | exact OwnS.keys (by assumption))⟩ (fun _ hC => R_fieldAddr (off' := 0) Try.underlying38 rfl Try.sizeOf3 (by decide) rfl rfl) ?_
  refine WA_take 5 rfl rfl rfl (by kernel_rfl) (by kernel_rfl) ⟨H.blockN hr (by repeat' first | exact kNil | apply kCons | apply kApp | assumption | exact OwnS.keys (by assumption)), H.get .here, H.blockN ha (by repeat' first | exact kNil | apply kCons | apply kApp | assumption | exact OwnS.keys (by assumption))⟩ (fun _ hC => R_load (v := I 0) Try.isAgg3 rfl hC.2.1 rfl) ?_
  refine WA_take 6 rfl rfl rfl (by kernel_rfl) (by kernel_rfl) ⟨H.blockN hr (by repeat' first | exact kNil | apply kCons | apply kApp | assumption | exact OwnS.keys (by assumption)), H.get .here, H.blockN ha (by repeat' first | exact kNil | apply kCons | apply kApp | assumption | exact OwnS.keys (by assumption))⟩ (fun _ hC => R_indexAddr (off' := 0) Try.underlying93 Try.sizeOf98 rfl rfl (by omega) (by omega) (by omega)) ?_
  refine WA_take 7 rfl rfl rfl (by kernel_rfl) (by kernel_rfl) ⟨H.blockN hr (by repeat' first | exact kNil | apply kCons | apply kApp | assumption | exact OwnS.keys (by assumption)), H.get .here, H.blockN ha (by repeat' first | exact kNil | apply kCons | apply kApp | assumption | exact OwnS.keys (by assumption))⟩ (fun _ hC => R_loadA (vs := [I rlo, I rn]) Try.isAgg98 Try.sizeOf98 rfl hC.2.2 rfl (by simp)) ?_
  refine WA_one (i := 8) (by kernel_rfl) ?_
  (refine WI_effnA rfl (.inl rfl) (E_alloc (vs := [I 0, I 0]) H Try.zeroValue98 rfl) (fun _ _ _ H _ => ⟨H.blockN hr (by repeat' first | exact kNil | apply kCons | apply kApp | assumption | exact OwnS.keys (by assumption)), H.get (.there .here), H.blockN ha (by repeat' first | exact kNil | apply kCons | apply kApp | assumption | exact OwnS.keys (by assumption))⟩) ?_; clear H; intro c16 w93 hc16 H)
  refine WA_one (i := 9) (by kernel_rfl) ?_
  (refine WI_effu rfl (.inl rfl) (E_storeA (vs := [I rlo, I rn]) H Try.sizeOf98 rfl rfl (by simp [Value.oneCell']) .here (by simp)) (fun _ H _ => ⟨H.blockN hr (by repeat' first | exact kNil | apply kCons | apply kApp | assumption | exact OwnS.keys (by assumption)), H.get (.there .here), H.blockN ha (by repeat' first | exact kNil | apply kCons | apply kApp | assumption | exact OwnS.keys (by assumption))⟩) ?_; clear H; intro w95 H; replace H : Hp w [(c16, blk [I rlo, I rn] 98), (c14, blk [I 0, I r, I lo, I n, I re, I rx] 38)] w95 := H)
  refine WA_done (by kernel_rfl) ?_
  refine W_seq ?_
  refine W_seq ?_
  refine W_region_l ?_
  refine WL_step rfl (R_fieldAddr (off' := 2) Try.underlying38 rfl Try.sizeOf3 (by decide) rfl rfl) ?_
  refine WL_step rfl (R_load Try.isAgg3 rfl (H.get (.there .here)) rfl) ?_
  refine WL_stepM rfl (R_mv) ?_
  refine WL_step rfl (R_add rfl rfl (w_i64 (by omega))) ?_
  refine WL_step rfl (R_fieldAddr (off' := 1) Try.underlying98 rfl Try.sizeOf3 (by decide) rfl rfl) ?_
  refine WL_step rfl (R_load Try.isAgg3 rfl (H.get .here) rfl) ?_
  refine WL_step rfl (R_gt_f rfl rfl (by omega)) ?_
  refine WL_stepM rfl (R_mv) ?_
  refine WL_guard_t rfl rfl ?_
  refine WL_stepM rfl (R_mv) ?_
  refine WL_guard_t rfl rfl ?_
  refine WL_step rfl (R_fieldAddr (off' := 1) Try.underlying98 rfl Try.sizeOf3 (by decide) rfl rfl) ?_
  refine WL_guard_t rfl rfl ?_
  refine WL_step rfl (R_load Try.isAgg3 rfl (H.get .here) rfl) ?_
  refine WL_guard_t rfl rfl ?_
  refine WL_step rfl (R_fieldAddr (off' := 2) Try.underlying38 rfl Try.sizeOf3 (by decide) rfl rfl) ?_
  refine WL_guard_t rfl rfl ?_
  refine WL_step rfl (R_load Try.isAgg3 rfl (H.get (.there .here)) rfl) ?_
  refine WL_guard_t rfl rfl ?_
  refine WL_step rfl (R_sub rfl rfl (w_i64 (by omega))) ?_
  refine WL_guard_t rfl rfl ?_
  refine WL_stepM rfl (R_mv) ?_
  refine WL_guard_t rfl rfl ?_
  refine WL_step rfl (R_sub rfl rfl (w_i64 (by omega))) ?_
  refine WL_guard_t rfl rfl ?_
  refine WL_step rfl (R_gt_f rfl rfl (by omega)) ?_
  refine WL_stepM rfl (R_pk_f rfl) ?_
  refine WL_nil ?_
  refine W_cond_f rfl ?_
  refine W_skip ?_
  refine W_seq ?_
  refine W_region_l ?_
  refine WL_step rfl (R_fieldAddr (off' := 0) Try.underlying98 rfl Try.sizeOf3 (by decide) rfl rfl) ?_
  refine WL_step rfl (R_load Try.isAgg3 rfl (H.get .here) rfl) ?_
  refine WL_step rfl (R_fieldAddr (off' := 2) Try.underlying38 rfl Try.sizeOf3 (by decide) rfl rfl) ?_
  refine WL_step rfl (R_load Try.isAgg3 rfl (H.get (.there .here)) rfl) ?_
  refine WL_step rfl (R_add rfl rfl (w_i64 (by omega))) ?_
  refine WL_stepM rfl (R_mv) ?_
  refine WL_step rfl (R_add rfl rfl (w_i64 (by omega))) ?_
  refine WL_stepM rfl (R_as) ?_
  refine WL_stepM rfl (R_as) ?_
  refine WL_nil ?_
  refine W_ret ?_
  exact ⟨_, rfl, rfl, H.none (by repeat' first | exact kNil | apply kCons | apply kApp | assumption | exact OwnS.keys (by assumption))⟩
end
end Go.Proofs.Ythonajikgljgmaa.Reg
