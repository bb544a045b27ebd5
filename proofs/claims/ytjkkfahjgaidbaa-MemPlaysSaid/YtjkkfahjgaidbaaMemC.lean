/-
  Words that are put, frames that are made nought; package mem's own try.
-/
import Derived.Test.YtjkkfahjgaidbaaMemB
namespace Go.Proofs.Ytjkkfahjgaidbaa.Mem
open Go Go.Proofs Go.Proofs.Ytjkkfahjgaidbaa.Fx
set_option maxRecDepth 100000
set_option linter.unusedVariables false
set_option maxHeartbeats 1000000

def bytes4 (m : Nat) : List UInt8 := [UInt8.ofNat (m / 16777216), UInt8.ofNat (m / 65536), UInt8.ofNat (m / 256), UInt8.ofNat m]

theorem b4 (m : Nat) : ((((([Value.int .u8 0, Value.int .u8 0, Value.int .u8 0, Value.int .u8 0] : List Value).set 3 (Value.int .u8 ((m : Int) % 256))).set 2 (Value.int .u8 ((m : Int) / 256 % 256))).set 1 (Value.int .u8 ((m : Int) / 256 / 256 % 256))).set 0
    (Value.int .u8 ((m : Int) / 256 / 256 / 256 % 256))) = (bytes4 m).map U := by
  have h : ∀ (a : Int) (k : Nat), a = (k : Int) → Value.int .u8 (a % 256) = U (UInt8.ofNat k) := by
    intro a k e
    refine congrArg (Value.int .u8) ?_
    rw [UInt8.toNat_ofNat', e]; omega
  simp only [List.set_cons_succ, List.set_cons_zero, bytes4, List.map_cons, List.map_nil]
  rw [h _ (m / 16777216) (by omega), h _ (m / 65536) (by omega), h _ (m / 256) (by omega), h _ m rfl]

section
variable {w : World} {p b : Nat} {xs : List UInt8} {N : Nat}

theorem setWord_yes (at_ m : Nat) (hp : w.heap[p]? = some (blk [sl b 0 N N] 88)) (hb : w.heap[b]? = some (blk (xs.map U) 5)) (hx : xs.length = N) (hN : xs.length ≤ 16384) (h : at_ + 4 ≤ xs.length) (hm : m < 4294967296) :
    Ret Try.prog 21 #[ptr p 0, I at_, .int .u32 m] w fun v w' => v = I 0 ∧ Hp w [(b, blk ((put xs (bytes4 m) at_).map U) 5)] w' := by
  subst hx
  refine Ret_of_W (args := [_, _, _]) Try.func21 rfl Try.ntmps21 Try.results21 (by simp) ?_
  have H := Hp.refl w
  refine W_seq ?_
  refine W_region_l ?_
  refine WL_stepM rfl (R_as) ?_
  refine WL_nil ?_
  refine W_seq ?_
  refine W_region_l ?_
  (refine WL_effn rfl (E_alloc H Try.zeroValue90 rfl) ?_; clear H; intro b7 w7 hb7 H)
  refine WL_nil ?_
  refine W_seq ?_
  refine W_seq ?_
  refine W_region_l ?_
  refine WL_stepM rfl (R_mv) ?_
  refine WL_nil ?_
  refine W_block ?_
  refine W_rounds 4 ?_
  refine W_seq ?_
  refine W_region_l ?_
  refine WL_step rfl (R_lt_t rfl rfl (by omega)) ?_
  refine WL_nil ?_
  refine W_seq ?_
  refine W_cond_t rfl ?_
  refine W_skip ?_
  refine W_seq ?_
  refine W_block ?_
  refine W_seq ?_
  refine W_region_l ?_
  refine WL_stepM rfl (R_mv) ?_
  refine WL_stepM rfl (R_as) ?_
  refine WL_nil ?_
  refine W_seq ?_
  refine W_region_l ?_
  refine WL_stepM rfl (R_mv) ?_
  refine WL_step rfl (R_sub (r := 3) rfl rfl (by decide)) ?_
  refine WL_stepM rfl (R_mv) ?_
  refine WL_step rfl (R_bits rfl rfl (by simp) (and_mask_u32 8 256 (by decide) rfl (by decide))) ?_
  refine WL_step rfl (R_conv_int Try.underlying29 Try.underlying5 rfl (w_u8 (by omega))) ?_
  refine WL_step rfl (R_indexAddrA (off' := 3) Try.underlying90 Try.sizeOf5 rfl rfl (by omega) (by omega) rfl) ?_
  (refine WL_effu rfl (E_store (v := (.int _ _)) H Try.sizeOf5 rfl rfl rfl .here (by simp)) ?_; clear H; intro w38 H)
  refine WL_nil ?_
  refine W_region_l ?_
  refine WL_stepM rfl (R_mv) ?_
  refine WL_step rfl (R_shr rfl rfl (by decide) (shr_any 256 (by decide))) ?_
  refine WL_stepM rfl (R_as) ?_
  refine WL_nil ?_
  refine W_region_l ?_
  refine WL_step rfl (R_add (r := 1) rfl rfl (by decide)) ?_
  refine WL_stepM rfl (R_mv) ?_
  refine WL_nil ?_
  refine Rn_succ ?_
  refine W_seq ?_
  refine W_region_l ?_
  refine WL_step rfl (R_lt_t rfl rfl (by omega)) ?_
  refine WL_nil ?_
  refine W_seq ?_
  refine W_cond_t rfl ?_
  refine W_skip ?_
  refine W_seq ?_
  refine W_block ?_
  refine W_seq ?_
  refine W_region_l ?_
  refine WL_stepM rfl (R_mv) ?_
  refine WL_stepM rfl (R_as) ?_
  refine WL_nil ?_
  refine W_seq ?_
  refine W_region_l ?_
  refine WL_stepM rfl (R_mv) ?_
  refine WL_step rfl (R_sub (r := 2) rfl rfl (by decide)) ?_
  refine WL_stepM rfl (R_mv) ?_
  refine WL_step rfl (R_bits rfl rfl (by simp) (and_mask_u32 8 256 (by decide) rfl (by decide))) ?_
  refine WL_step rfl (R_conv_int Try.underlying29 Try.underlying5 rfl (w_u8 (by omega))) ?_
  refine WL_step rfl (R_indexAddrA (off' := 2) Try.underlying90 Try.sizeOf5 rfl rfl (by omega) (by omega) rfl) ?_
  (refine WL_effu rfl (E_store (v := (.int _ _)) H Try.sizeOf5 rfl rfl rfl .here (by simp)) ?_; clear H; intro w72 H)
  refine WL_nil ?_
  refine W_region_l ?_
  refine WL_stepM rfl (R_mv) ?_
  refine WL_step rfl (R_shr rfl rfl (by decide) (shr_any 256 (by decide))) ?_
  refine WL_stepM rfl (R_as) ?_
  refine WL_nil ?_
  refine W_region_l ?_
  refine WL_step rfl (R_add (r := 2) rfl rfl (by decide)) ?_
  refine WL_stepM rfl (R_mv) ?_
  refine WL_nil ?_
  refine Rn_succ ?_
  refine W_seq ?_
  refine W_region_l ?_
  refine WL_step rfl (R_lt_t rfl rfl (by omega)) ?_
  refine WL_nil ?_
  refine W_seq ?_
  refine W_cond_t rfl ?_
  refine W_skip ?_
  refine W_seq ?_
  refine W_block ?_
  refine W_seq ?_
  refine W_region_l ?_
  refine WL_stepM rfl (R_mv) ?_
  refine WL_stepM rfl (R_as) ?_
  refine WL_nil ?_
  refine W_seq ?_
  refine W_region_l ?_
  refine WL_stepM rfl (R_mv) ?_
  refine WL_step rfl (R_sub (r := 1) rfl rfl (by decide)) ?_
  refine WL_stepM rfl (R_mv) ?_
  refine WL_step rfl (R_bits rfl rfl (by simp) (and_mask_u32 8 256 (by decide) rfl (by decide))) ?_
  refine WL_step rfl (R_conv_int Try.underlying29 Try.underlying5 rfl (w_u8 (by omega))) ?_
  refine WL_step rfl (R_indexAddrA (off' := 1) Try.underlying90 Try.sizeOf5 rfl rfl (by omega) (by omega) rfl) ?_
  (refine WL_effu rfl (E_store (v := (.int _ _)) H Try.sizeOf5 rfl rfl rfl .here (by simp)) ?_; clear H; intro w106 H)
  refine WL_nil ?_
  refine W_region_l ?_
  refine WL_stepM rfl (R_mv) ?_
  refine WL_step rfl (R_shr rfl rfl (by decide) (shr_any 256 (by decide))) ?_
  refine WL_stepM rfl (R_as) ?_
  refine WL_nil ?_
  refine W_region_l ?_
  refine WL_step rfl (R_add (r := 3) rfl rfl (by decide)) ?_
  refine WL_stepM rfl (R_mv) ?_
  refine WL_nil ?_
  refine Rn_succ ?_
  refine W_seq ?_
  refine W_region_l ?_
  refine WL_step rfl (R_lt_t rfl rfl (by omega)) ?_
  refine WL_nil ?_
  refine W_seq ?_
  refine W_cond_t rfl ?_
  refine W_skip ?_
  refine W_seq ?_
  refine W_block ?_
  refine W_seq ?_
  refine W_region_l ?_
  refine WL_stepM rfl (R_mv) ?_
  refine WL_stepM rfl (R_as) ?_
  refine WL_nil ?_
  refine W_seq ?_
  refine W_region_l ?_
  refine WL_stepM rfl (R_mv) ?_
  refine WL_step rfl (R_sub (r := 0) rfl rfl (by decide)) ?_
  refine WL_stepM rfl (R_mv) ?_
  refine WL_step rfl (R_bits rfl rfl (by simp) (and_mask_u32 8 256 (by decide) rfl (by decide))) ?_
  refine WL_step rfl (R_conv_int Try.underlying29 Try.underlying5 rfl (w_u8 (by omega))) ?_
  refine WL_step rfl (R_indexAddrA (off' := 0) Try.underlying90 Try.sizeOf5 rfl rfl (by omega) (by omega) rfl) ?_
  (refine WL_effu rfl (E_store (v := (.int _ _)) H Try.sizeOf5 rfl rfl rfl .here (by simp)) ?_; clear H; intro w140 H)
  refine WL_nil ?_
  refine W_region_l ?_
  refine WL_stepM rfl (R_mv) ?_
  refine WL_step rfl (R_shr rfl rfl (by decide) (shr_any 256 (by decide))) ?_
  refine WL_stepM rfl (R_as) ?_
  refine WL_nil ?_
  refine W_region_l ?_
  refine WL_step rfl (R_add (r := 4) rfl rfl (by decide)) ?_
  refine WL_stepM rfl (R_mv) ?_
  refine WL_nil ?_
  refine Rn_succ ?_
  refine W_seq ?_
  refine W_region_l ?_
  refine WL_step rfl (R_lt_f rfl rfl (by omega)) ?_
  refine WL_nil ?_
  refine W_seq ?_
  refine W_cond_f rfl ?_
  refine W_exit ?_
  refine (if_pos rfl).mpr ?_
  refine W_seq ?_
  (rw [b4 m] at H; refine W_region_l ?_)
  refine WL_stepM rfl (R_mv) ?_
  refine WL_stepM rfl (R_mv) ?_
  refine WL_step rfl (R_sliceArr Try.underlying90 Try.sizeOf5 rfl .none .none (by omega) (by omega) (by omega) (by omega) rfl) ?_
  (refine WL_call rfl (R_call rfl Try.call14 rfl) (store_yes (ys := bytes4 m) at_ (H.blockN hp (by repeat' first | exact kNil | apply kCons | apply kApp | assumption | exact OwnS.keys (by assumption))) (H.blockN hb (by repeat' first | exact kNil | apply kCons | apply kApp | assumption | exact OwnS.keys (by assumption))) rfl hN (RdS.blk (H.get .here) rfl (by simp [bytes4]) (by simp)) h) ?_; rintro _ w165 ⟨rfl, H1⟩; replace H := H.seqB hb (by repeat' first | exact kNil | apply kCons | apply kApp | assumption | exact OwnS.keys (by assumption)) H1; clear H1)
  refine WL_stepM rfl (R_as) ?_
  refine WL_nil ?_
  refine W_ret ?_
  exact ⟨_, rfl, rfl, H.pop2 (by assumption)⟩

theorem setWord_no (at_ : Int) (m : Nat) (hp : w.heap[p]? = some (blk [sl b 0 N N] 88)) (hx : xs.length = N) (hN : xs.length ≤ 16384) (h : ¬ (0 ≤ at_ ∧ at_ + 4 ≤ xs.length)) (hm : m < 4294967296) :
    Ret Try.prog 21 #[ptr p 0, I at_, .int .u32 m] w fun v w' => v = I 1 ∧ Hp w [] w' := by
  subst hx
  refine Ret_of_W (args := [_, _, _]) Try.func21 rfl Try.ntmps21 Try.results21 (by simp) ?_
  have H := Hp.refl w
  refine W_seq ?_
  refine W_region_l ?_
  refine WL_stepM rfl (R_as) ?_
  refine WL_nil ?_
  refine W_seq ?_
  refine W_region_l ?_
  (refine WL_effn rfl (E_alloc H Try.zeroValue90 rfl) ?_; clear H; intro b7 w7 hb7 H)
  refine WL_nil ?_
  refine W_seq ?_
  refine W_seq ?_
  refine W_region_l ?_
  refine WL_stepM rfl (R_mv) ?_
  refine WL_nil ?_
  refine W_block ?_
  refine W_rounds 4 ?_
  refine W_seq ?_
  refine W_region_l ?_
  refine WL_step rfl (R_lt_t rfl rfl (by omega)) ?_
  refine WL_nil ?_
  refine W_seq ?_
  refine W_cond_t rfl ?_
  refine W_skip ?_
  refine W_seq ?_
  refine W_block ?_
  refine W_seq ?_
  refine W_region_l ?_
  refine WL_stepM rfl (R_mv) ?_
  refine WL_stepM rfl (R_as) ?_
  refine WL_nil ?_
  refine W_seq ?_
  refine W_region_l ?_
  refine WL_stepM rfl (R_mv) ?_
  refine WL_step rfl (R_sub (r := 3) rfl rfl (by decide)) ?_
  refine WL_stepM rfl (R_mv) ?_
  refine WL_step rfl (R_bits rfl rfl (by simp) (and_mask_u32 8 256 (by decide) rfl (by decide))) ?_
  refine WL_step rfl (R_conv_int Try.underlying29 Try.underlying5 rfl (w_u8 (by omega))) ?_
  refine WL_step rfl (R_indexAddrA (off' := 3) Try.underlying90 Try.sizeOf5 rfl rfl (by omega) (by omega) rfl) ?_
  (refine WL_effu rfl (E_store (v := (.int _ _)) H Try.sizeOf5 rfl rfl rfl .here (by simp)) ?_; clear H; intro w38 H)
  refine WL_nil ?_
  refine W_region_l ?_
  refine WL_stepM rfl (R_mv) ?_
  refine WL_step rfl (R_shr rfl rfl (by decide) (shr_any 256 (by decide))) ?_
  refine WL_stepM rfl (R_as) ?_
  refine WL_nil ?_
  refine W_region_l ?_
  refine WL_step rfl (R_add (r := 1) rfl rfl (by decide)) ?_
  refine WL_stepM rfl (R_mv) ?_
  refine WL_nil ?_
  refine Rn_succ ?_
  refine W_seq ?_
  refine W_region_l ?_
  refine WL_step rfl (R_lt_t rfl rfl (by omega)) ?_
  refine WL_nil ?_
  refine W_seq ?_
  refine W_cond_t rfl ?_
  refine W_skip ?_
  refine W_seq ?_
  refine W_block ?_
  refine W_seq ?_
  refine W_region_l ?_
  refine WL_stepM rfl (R_mv) ?_
  refine WL_stepM rfl (R_as) ?_
  refine WL_nil ?_
  refine W_seq ?_
  refine W_region_l ?_
  refine WL_stepM rfl (R_mv) ?_
  refine WL_step rfl (R_sub (r := 2) rfl rfl (by decide)) ?_
  refine WL_stepM rfl (R_mv) ?_
  refine WL_step rfl (R_bits rfl rfl (by simp) (and_mask_u32 8 256 (by decide) rfl (by decide))) ?_
  refine WL_step rfl (R_conv_int Try.underlying29 Try.underlying5 rfl (w_u8 (by omega))) ?_
  refine WL_step rfl (R_indexAddrA (off' := 2) Try.underlying90 Try.sizeOf5 rfl rfl (by omega) (by omega) rfl) ?_
  (refine WL_effu rfl (E_store (v := (.int _ _)) H Try.sizeOf5 rfl rfl rfl .here (by simp)) ?_; clear H; intro w72 H)
  refine WL_nil ?_
  refine W_region_l ?_
  refine WL_stepM rfl (R_mv) ?_
  refine WL_step rfl (R_shr rfl rfl (by decide) (shr_any 256 (by decide))) ?_
  refine WL_stepM rfl (R_as) ?_
  refine WL_nil ?_
  refine W_region_l ?_
  refine WL_step rfl (R_add (r := 2) rfl rfl (by decide)) ?_
  refine WL_stepM rfl (R_mv) ?_
  refine WL_nil ?_
  refine Rn_succ ?_
  refine W_seq ?_
  refine W_region_l ?_
  refine WL_step rfl (R_lt_t rfl rfl (by omega)) ?_
  refine WL_nil ?_
  refine W_seq ?_
  refine W_cond_t rfl ?_
  refine W_skip ?_
  refine W_seq ?_
  refine W_block ?_
  refine W_seq ?_
  refine W_region_l ?_
  refine WL_stepM rfl (R_mv) ?_
  refine WL_stepM rfl (R_as) ?_
  refine WL_nil ?_
  refine W_seq ?_
  refine W_region_l ?_
  refine WL_stepM rfl (R_mv) ?_
  refine WL_step rfl (R_sub (r := 1) rfl rfl (by decide)) ?_
  refine WL_stepM rfl (R_mv) ?_
  refine WL_step rfl (R_bits rfl rfl (by simp) (and_mask_u32 8 256 (by decide) rfl (by decide))) ?_
  refine WL_step rfl (R_conv_int Try.underlying29 Try.underlying5 rfl (w_u8 (by omega))) ?_
  refine WL_step rfl (R_indexAddrA (off' := 1) Try.underlying90 Try.sizeOf5 rfl rfl (by omega) (by omega) rfl) ?_
  (refine WL_effu rfl (E_store (v := (.int _ _)) H Try.sizeOf5 rfl rfl rfl .here (by simp)) ?_; clear H; intro w106 H)
  refine WL_nil ?_
  refine W_region_l ?_
  refine WL_stepM rfl (R_mv) ?_
  refine WL_step rfl (R_shr rfl rfl (by decide) (shr_any 256 (by decide))) ?_
  refine WL_stepM rfl (R_as) ?_
  refine WL_nil ?_
  refine W_region_l ?_
  refine WL_step rfl (R_add (r := 3) rfl rfl (by decide)) ?_
  refine WL_stepM rfl (R_mv) ?_
  refine WL_nil ?_
  refine Rn_succ ?_
  refine W_seq ?_
  refine W_region_l ?_
  refine WL_step rfl (R_lt_t rfl rfl (by omega)) ?_
  refine WL_nil ?_
  refine W_seq ?_
  refine W_cond_t rfl ?_
  refine W_skip ?_
  refine W_seq ?_
  refine W_block ?_
  refine W_seq ?_
  refine W_region_l ?_
  refine WL_stepM rfl (R_mv) ?_
  refine WL_stepM rfl (R_as) ?_
  refine WL_nil ?_
  refine W_seq ?_
  refine W_region_l ?_
  refine WL_stepM rfl (R_mv) ?_
  refine WL_step rfl (R_sub (r := 0) rfl rfl (by decide)) ?_
  refine WL_stepM rfl (R_mv) ?_
  refine WL_step rfl (R_bits rfl rfl (by simp) (and_mask_u32 8 256 (by decide) rfl (by decide))) ?_
  refine WL_step rfl (R_conv_int Try.underlying29 Try.underlying5 rfl (w_u8 (by omega))) ?_
  refine WL_step rfl (R_indexAddrA (off' := 0) Try.underlying90 Try.sizeOf5 rfl rfl (by omega) (by omega) rfl) ?_
  (refine WL_effu rfl (E_store (v := (.int _ _)) H Try.sizeOf5 rfl rfl rfl .here (by simp)) ?_; clear H; intro w140 H)
  refine WL_nil ?_
  refine W_region_l ?_
  refine WL_stepM rfl (R_mv) ?_
  refine WL_step rfl (R_shr rfl rfl (by decide) (shr_any 256 (by decide))) ?_
  refine WL_stepM rfl (R_as) ?_
  refine WL_nil ?_
  refine W_region_l ?_
  refine WL_step rfl (R_add (r := 4) rfl rfl (by decide)) ?_
  refine WL_stepM rfl (R_mv) ?_
  refine WL_nil ?_
  refine Rn_succ ?_
  refine W_seq ?_
  refine W_region_l ?_
  refine WL_step rfl (R_lt_f rfl rfl (by omega)) ?_
  refine WL_nil ?_
  refine W_seq ?_
  refine W_cond_f rfl ?_
  refine W_exit ?_
  refine (if_pos rfl).mpr ?_
  refine W_seq ?_
  (rw [b4 m] at H; refine W_region_l ?_)
  refine WL_stepM rfl (R_mv) ?_
  refine WL_stepM rfl (R_mv) ?_
  refine WL_step rfl (R_sliceArr Try.underlying90 Try.sizeOf5 rfl .none .none (by omega) (by omega) (by omega) (by omega) rfl) ?_
  (refine WL_call rfl (R_call rfl Try.call14 rfl) (store_no (ys := (bytes4 m).map U) at_ (H.blockN hp (by repeat' first | exact kNil | apply kCons | apply kApp | assumption | exact OwnS.keys (by assumption))) rfl hN (RdS.blk (H.get .here) rfl (by simp [bytes4]) (by simp)) (by simp [bytes4]) (by rw [show ((bytes4 m).map U).length = 4 from rfl]; omega)) ?_; rintro _ w165 ⟨rfl, H1⟩; replace H := H.seq0 H1; clear H1)
  refine WL_stepM rfl (R_as) ?_
  refine WL_nil ?_
  refine W_ret ?_
  exact ⟨_, rfl, rfl, H.pop (by assumption)⟩

theorem zero_yes (k : Nat) (hp : w.heap[p]? = some (blk [sl b 0 N N] 88)) (hb : w.heap[b]? = some (blk (xs.map U) 5)) (hx : xs.length = N) (hN : xs.length ≤ 16384) (h : k * 64 + 64 ≤ xs.length) :
    Ret Try.prog 20 #[ptr p 0, I k] w fun v w' => v = I 0 ∧ Hp w [(b, blk ((put xs (List.replicate 64 0) (k * 64)).map U) 5)] w' := by
  subst hx
  refine Ret_of_W (args := [_, _]) Try.func20 rfl Try.ntmps20 Try.results20 (by simp) ?_
  have H := Hp.refl w
  refine W_seq ?_
  refine W_region_l ?_
  refine WL_stepM rfl (R_as) ?_
  refine WL_nil ?_
  refine W_seq ?_
  refine W_seq ?_
  refine W_region_l ?_
  refine WL_stepM rfl (R_mv) ?_
  refine WL_step rfl (R_lt_f rfl rfl (by omega)) ?_
  refine WL_stepM rfl (R_mv) ?_
  refine WL_guard_t rfl rfl ?_
  refine WL_stepM rfl (R_mv) ?_
  refine WL_guard_t rfl rfl ?_
  refine WL_stepM rfl (R_mv) ?_
  refine WL_guard_t rfl rfl ?_
  refine WL_step rfl (R_nilCheck rfl) ?_
  refine WL_guard_t rfl rfl ?_
  refine WL_step rfl (R_fieldAddr (off' := 0) Try.underlying88 rfl Try.sizeOf26 (by decide) rfl rfl) ?_
  refine WL_guard_t rfl rfl ?_
  refine WL_step rfl (R_load Try.isAgg26 rfl (H.block hp (by simp)) rfl) ?_
  refine WL_guard_t rfl rfl ?_
  refine WL_step rfl (R_len_slice Try.underlying26 rfl) ?_
  refine WL_guard_t rfl rfl ?_
  refine WL_step rfl (R_quo rfl rfl (by omega) (quo_pos (by omega) (by omega) (by omega))) ?_
  refine WL_guard_t rfl rfl ?_
  refine WL_step rfl (R_ge_f rfl rfl (by omega)) ?_
  refine WL_stepM rfl (R_pk_f rfl) ?_
  refine WL_nil ?_
  refine W_cond_f rfl ?_
  refine W_skip ?_
  refine W_seq ?_
  refine W_region_l ?_
  refine WL_stepM rfl (R_mv) ?_
  refine WL_stepM rfl (R_mv) ?_
  refine WL_step rfl (R_mul (r := ((k * 64 : Nat) : Int)) rfl rfl (by rw [w_i64 (by omega)]; omega)) ?_
  (refine WL_effn rfl (E_makeSlice H Try.underlying26 Try.sizeOf5 Try.typeInfo5 Try.zeroValue5 rfl rfl rfl (by omega) (by omega) (by omega) (by simp only [Try.t5]; omega)) ?_; clear H; intro b36 w36 hb36 H)
  (refine WL_call rfl (R_call rfl Try.call14 rfl) (store_yes (ys := List.replicate 64 0) (k * 64) (H.blockN hp (by repeat' first | exact kNil | apply kCons | apply kApp | assumption | exact OwnS.keys (by assumption))) (H.blockN hb (by repeat' first | exact kNil | apply kCons | apply kApp | assumption | exact OwnS.keys (by assumption))) rfl hN (RdS.blk (H.get .here) rfl (by simp) (by simp)) (by simp; omega)) ?_; rintro _ w37 ⟨rfl, H1⟩; replace H := H.seqB hb (by repeat' first | exact kNil | apply kCons | apply kApp | assumption | exact OwnS.keys (by assumption)) H1; clear H1)
  refine WL_stepM rfl (R_as) ?_
  refine WL_nil ?_
  refine W_ret ?_
  exact ⟨_, rfl, rfl, H.pop2 (by assumption)⟩

theorem zero_no (k : Int) (hp : w.heap[p]? = some (blk [sl b 0 N N] 88)) (hx : xs.length = N) (hN : xs.length ≤ 16384) (h : ¬ (0 ≤ k ∧ k < xs.length / 64)) :
    Ret Try.prog 20 #[ptr p 0, I k] w fun v w' => v = I 1 ∧ Hp w [] w' := by
  subst hx
  refine Ret_of_W (args := [_, _]) Try.func20 rfl Try.ntmps20 Try.results20 (by simp) ?_
  have H := Hp.refl w
  by_cases h0 : k < 0
  · refine W_seq ?_
    refine W_region_l ?_
    refine WL_stepM rfl (R_as) ?_
    refine WL_nil ?_
    refine W_seq ?_
    refine W_seq ?_
    refine W_region_l ?_
    refine WL_stepM rfl (R_mv) ?_
    refine WL_step rfl (R_lt_t rfl rfl (by omega)) ?_
    refine WL_stepM rfl (R_mv) ?_
    refine WL_guard_f rfl rfl (by decide) ?_
    refine WL_guard_f rfl rfl (by decide) ?_
    refine WL_guard_f rfl rfl (by decide) ?_
    refine WL_guard_f rfl rfl (by decide) ?_
    refine WL_guard_f rfl rfl (by decide) ?_
    refine WL_guard_f rfl rfl (by decide) ?_
    refine WL_guard_f rfl rfl (by decide) ?_
    refine WL_guard_f rfl rfl (by decide) ?_
    refine WL_stepM rfl (R_pk_t rfl) ?_
    refine WL_nil ?_
    refine W_cond_t rfl ?_
    refine W_seq ?_
    refine W_region_l ?_
    refine WL_stepM rfl (R_as) ?_
    refine WL_nil ?_
    refine W_ret ?_
    exact ⟨_, rfl, rfl, H⟩
  · refine W_seq ?_
    refine W_region_l ?_
    refine WL_stepM rfl (R_as) ?_
    refine WL_nil ?_
    refine W_seq ?_
    refine W_seq ?_
    refine W_region_l ?_
    refine WL_stepM rfl (R_mv) ?_
    refine WL_step rfl (R_lt_f rfl rfl (by omega)) ?_
    refine WL_stepM rfl (R_mv) ?_
    refine WL_guard_t rfl rfl ?_
    refine WL_stepM rfl (R_mv) ?_
    refine WL_guard_t rfl rfl ?_
    refine WL_stepM rfl (R_mv) ?_
    refine WL_guard_t rfl rfl ?_
    refine WL_step rfl (R_nilCheck rfl) ?_
    refine WL_guard_t rfl rfl ?_
    refine WL_step rfl (R_fieldAddr (off' := 0) Try.underlying88 rfl Try.sizeOf26 (by decide) rfl rfl) ?_
    refine WL_guard_t rfl rfl ?_
    refine WL_step rfl (R_load Try.isAgg26 rfl (H.block hp (by simp)) rfl) ?_
    refine WL_guard_t rfl rfl ?_
    refine WL_step rfl (R_len_slice Try.underlying26 rfl) ?_
    refine WL_guard_t rfl rfl ?_
    refine WL_step rfl (R_quo rfl rfl (by omega) (quo_pos (by omega) (by omega) (by omega))) ?_
    refine WL_guard_t rfl rfl ?_
    refine WL_step rfl (R_ge_t rfl rfl (by omega)) ?_
    refine WL_stepM rfl (R_pk_f rfl) ?_
    refine WL_nil ?_
    refine W_cond_t rfl ?_
    refine W_seq ?_
    refine W_region_l ?_
    refine WL_stepM rfl (R_as) ?_
    refine WL_nil ?_
    refine W_ret ?_
    exact ⟨_, rfl, rfl, H⟩
end

theorem awake_ret (w : World) : Ret Try.prog 18 #[] w fun v w' => v = .bool true ∧ Hp w [] w' := by
  refine Ret_of_W (args := []) Try.func18 rfl Try.ntmps18 Try.results18 (by simp) ?_
  have H := Hp.refl w
  refine W_seq ?_
  refine W_region_l ?_
  refine WL_stepM rfl (R_as) ?_
  refine WL_nil ?_
  refine W_seq ?_
  refine W_region_l ?_
  (refine WL_call rfl (R_call rfl Try.call13 rfl) (new_ret 1 _) ?_; rintro _ w7 ⟨p, b, rfl, H1, hp, hb⟩; rw [show szOf 1 = 64 from rfl] at H1; replace H := H.seq H1 (okSeq_new hp (okSeq_new hb okSeq_nil)); replace hp := Nat.le_trans (Nat.le_refl _) hp; clear H1)
  refine WL_stepM rfl (R_as) ?_
  refine WL_nil ?_
  refine W_seq ?_
  refine W_seq ?_
  refine W_region_l ?_
  refine WL_stepM rfl (R_mv) ?_
  refine WL_step rfl (R_eq_ptr_nil Try.underlying22 rfl rfl) ?_
  refine WL_nil ?_
  refine W_cond_f rfl ?_
  refine W_skip ?_
  refine W_seq ?_
  refine W_region_l ?_
  refine WL_stepM rfl (R_mv) ?_
  (refine WL_effn rfl (E_buildSlice (vs := [(.int _ _), (.int _ _)]) H Try.underlying26 Try.sizeOf5 Try.zeroValue5 rfl rfl (by decide) rfl rfl) ?_; clear H; intro b21 w21 hb21 H)
  (refine WL_call rfl (R_call rfl Try.call14 rfl) (store_yes (xs := List.replicate 64 0) (ys := [1, 2]) 2 (H.get (.there (.there .here))) (H.get (.there .here)) rfl (by decide) (RdS.blk (H.get .here) rfl (by simp) (by simp)) (by decide)) ?_; rintro _ w22 ⟨rfl, H1⟩; replace H := (H.seq H1 (okSeq_set (.there .here) okSeq_nil)).pop (by assumption); clear H1)
  refine WL_stepM rfl (R_as) ?_
  refine WL_nil ?_
  refine W_seq ?_
  refine W_region_l ?_
  refine WL_stepM rfl (R_mv) ?_
  (refine WL_call rfl (R_call rfl Try.call16 rfl) (word_yes (xs := put (List.replicate 64 0) [1, 2] 2) 0 (H.get (.there .here)) (H.get .here) rfl (by decide) (by decide)) ?_; rintro _ w28 ⟨rfl, H1⟩; replace H := H.seq0 H1; clear H1)
  refine WL_stepM rfl (R_mv) ?_
  refine WL_step rfl (R_extract rfl rfl) ?_
  refine WL_step rfl (R_extract rfl rfl) ?_
  refine WL_stepM rfl (R_as) ?_
  refine WL_stepM rfl (R_as) ?_
  refine WL_nil ?_
  refine W_seq ?_
  refine W_region_l ?_
  refine WL_stepM rfl (R_mv) ?_
  (refine WL_call rfl (R_call rfl Try.call16 rfl) (word_no (xs := put (List.replicate 64 0) [1, 2] 2) 61 (H.get (.there .here)) rfl (by decide) (by decide)) ?_; rintro _ w38 ⟨rfl, H1⟩; replace H := H.seq0 H1; clear H1)
  refine WL_stepM rfl (R_mv) ?_
  refine WL_step rfl (R_extract rfl rfl) ?_
  refine WL_step rfl (R_extract rfl rfl) ?_
  refine WL_stepM rfl (R_as) ?_
  refine WL_stepM rfl (R_as) ?_
  refine WL_nil ?_
  refine W_seq ?_
  refine W_region_l ?_
  refine WL_stepM rfl (R_mv) ?_
  refine WL_step rfl (R_eq_t rfl rfl (by omega)) ?_
  refine WL_stepM rfl (R_mv) ?_
  refine WL_guard_t rfl rfl ?_
  refine WL_stepM rfl (R_mv) ?_
  refine WL_guard_t rfl rfl ?_
  refine WL_step rfl (R_eq_t rfl rfl (by decide)) ?_
  refine WL_stepM rfl (R_pk_t rfl) ?_
  refine WL_stepM rfl (R_mv) ?_
  refine WL_guard_t rfl rfl ?_
  refine WL_stepM rfl (R_mv) ?_
  refine WL_guard_t rfl rfl ?_
  refine WL_step rfl (R_eq_t rfl rfl (by omega)) ?_
  refine WL_stepM rfl (R_pk_t rfl) ?_
  refine WL_stepM rfl (R_mv) ?_
  refine WL_guard_t rfl rfl ?_
  refine WL_stepM rfl (R_mv) ?_
  refine WL_guard_t rfl rfl ?_
  refine WL_step rfl (R_eq_t rfl rfl (by omega)) ?_
  refine WL_stepM rfl (R_pk_t rfl) ?_
  refine WL_stepM rfl (R_mv) ?_
  refine WL_guard_t rfl rfl ?_
  refine WL_stepM rfl (R_mv) ?_
  refine WL_guard_t rfl rfl ?_
  (refine WL_call rfl (R_call rfl Try.call22 rfl) (size_ret (xs := put (List.replicate 64 0) [1, 2] 2) (H.get (.there .here)) rfl) ?_; rintro _ w71 ⟨rfl, H1⟩; replace H := H.seq0 H1; clear H1)
  refine WL_guard_t rfl rfl ?_
  refine WL_step rfl (R_eq_t rfl rfl (by decide)) ?_
  refine WL_stepM rfl (R_pk_t rfl) ?_
  refine WL_stepM rfl (R_as) ?_
  refine WL_nil ?_
  refine W_ret ?_
  exact ⟨_, rfl, rfl, H.none (by repeat' first | exact kNil | apply kCons | apply kApp | assumption | exact OwnS.keys (by assumption))⟩
end Go.Proofs.Ytjkkfahjgaidbaa.Mem
