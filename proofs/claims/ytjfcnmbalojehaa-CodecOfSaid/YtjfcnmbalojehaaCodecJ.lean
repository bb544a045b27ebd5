/-
  What the codecs of the law CodecOf do.
-/
import Derived.Test.YtjfcnmbalojehaaCodecG
import Derived.Test.YtjfcnmbalojehaaRef2
namespace Go.Proofs.Ytjfcnmbalojehaa.Codec
open Go Go.Proofs Go.Proofs.Ytjfcnmbalojehaa.Fx
set_option maxRecDepth 100000
set_option linter.unusedVariables false
set_option linter.unusedSimpArgs false
set_option maxHeartbeats 2000000

/-- a number's two bytes -/
def twoB (m : Nat) : List UInt8 := [UInt8.ofNat (m / 256), UInt8.ofNat m]
theorem zmap0 (n : Nat) : (List.replicate n (0 : UInt8)).map U = List.replicate n (Value.int .u8 0) := by rw [List.map_replicate]; rfl
theorem set_zz {k : Nat} (h : 2 ≤ k) (x y : UInt8) : (((List.replicate k (0 : UInt8)).map U).set (0 + 0) (U x)).set (0 + 0 + 1) (U y) = ([x, y] ++ List.replicate (k - 2) 0).map U := by
  obtain ⟨j, rfl⟩ : ∃ j, k = j + 2 := ⟨k - 2, by omega⟩
  rfl

section
variable {w : World} {p b k : Nat} {gf pf : Value}
theorem putI_yes {m : Nat} (hb : w.heap[b]? = some (blk ((List.replicate k 0).map U) 5)) (h2 : 2 ≤ k) (h64 : k ≤ 64) (hm : m ≤ 65535) :
    Ret Try.prog 41 #[I m, sl b 0 k k] w fun v w' => v = .bool true ∧ Hp w [(b, blk ((twoB m ++ List.replicate (k - 2) 0).map U) 5)] w' := by
  refine Ret_of_W (args := [_, _]) Try.func41 rfl Try.ntmps41 Try.results41 (by simp) ?_
  have H := Hp.focus0 hb
  refine W_seq ?_
  refine W_region_l ?_
  refine WL_stepM rfl (R_as) ?_
  refine WL_nil ?_
  refine W_seq ?_
  refine W_region_l ?_
  refine WL_stepM rfl (R_mv) ?_
  refine WL_stepM rfl (R_mv) ?_
  (refine WL_call rfl (R_call rfl Try.call28 rfl) (put2_yes (k := 0) (m := m) (H.get .here) (by omega) (by simp) hm (by omega)) ?_; rintro _ w9 ⟨rfl, H1⟩; replace H := H.seq H1 (okSeq_set .here okSeq_nil); clear H1; rw [set_zz h2] at H)
  refine WL_stepM rfl (R_as) ?_
  refine WL_nil ?_
  refine W_ret ?_
  exact ⟨_, rfl, rfl, H⟩
theorem putI_no {n : Int} (hb : w.heap[b]? = some (blk ((List.replicate k 0).map U) 5)) (h64 : k ≤ 64) (hn : ¬ (2 ≤ k ∧ 0 ≤ n ∧ n ≤ 65535)) :
    Ret Try.prog 41 #[I n, sl b 0 k k] w fun v w' => v = .bool false ∧ Hp w [] w' := by
  refine Ret_of_W (args := [_, _]) Try.func41 rfl Try.ntmps41 Try.results41 (by simp) ?_
  have H := Hp.refl w
  refine W_seq ?_
  refine W_region_l ?_
  refine WL_stepM rfl (R_as) ?_
  refine WL_nil ?_
  refine W_seq ?_
  refine W_region_l ?_
  refine WL_stepM rfl (R_mv) ?_
  refine WL_stepM rfl (R_mv) ?_
  (refine WL_call rfl (R_call rfl Try.call28 rfl) (put2_no 0 n (RdS.blk (xs := (List.replicate k 0).map U) (off := 0) (H.block hb (by simp)) (by rw [List.drop_zero, List.take_of_length_le (by simp)]) (by simp) (by omega)) (by simp; omega) (by simp only [List.length_map, List.length_replicate]; omega)) ?_; rintro _ w9 ⟨rfl, H1⟩; replace H := H.seq0 H1; clear H1)
  refine WL_stepM rfl (R_as) ?_
  refine WL_nil ?_
  refine W_ret ?_
  exact ⟨_, rfl, rfl, H⟩
theorem encI2_yes {m : Nat} (hc : w.heap[p]? = some (blk [I k, .func (.func 41) #[] #[], gf] 98)) (h2 : 2 ≤ k) (h64 : k ≤ 64) (hm : m ≤ 65535) :
    Ret Try.prog 39 #[ptr p 0, I m] w fun v w' => ∃ b, v = .tuple #[sl b 0 k k, .bool true] ∧ w.heap.size ≤ b ∧ Hp w [(b, blk ((twoB m ++ List.replicate (k - 2) 0).map U) 5)] w' := by
  refine Ret_of_W (args := [_, _]) Try.func39 rfl Try.ntmps39 Try.results39 (by simp) ?_
  have H := Hp.refl w
  refine W_seq ?_
  refine W_region_l ?_
  refine WL_stepM rfl (R_as) ?_
  refine WL_stepM rfl (R_as) ?_
  refine WL_nil ?_
  refine W_seq ?_
  refine W_region_l ?_
  refine WL_stepM rfl (R_mv) ?_
  refine WL_step rfl (R_nilCheck rfl) ?_
  refine WL_step rfl (R_fieldAddr (off' := 0) Try.underlying98 rfl Try.sizeOf3 (by decide) rfl rfl) ?_
  refine WL_step rfl (R_load Try.isAgg3 rfl (H.block hc (by simp)) rfl) ?_
  (refine WL_effn rfl (E_makeSlice H Try.underlying43 Try.sizeOf5 Try.typeInfo5 Try.zeroValue5 rfl rfl rfl (by omega) (by omega) (by omega) (by simp only [Try.t5]; omega)) ?_; clear H; intro bz w12 hbz H; rw [Int.toNat_natCast, ← zmap0] at H; rw [Int.toNat_natCast])
  refine WL_stepM rfl (R_as) ?_
  refine WL_nil ?_
  refine W_seq ?_
  refine W_seq ?_
  refine W_region_l ?_
  refine WL_stepM rfl (R_mv) ?_
  refine WL_step rfl (R_nilCheck rfl) ?_
  refine WL_step rfl (R_fieldAddr (off' := 1) Try.underlying98 rfl Try.sizeOf62 (by decide) rfl rfl) ?_
  refine WL_step rfl (R_load Try.isAgg62 rfl (H.blockN hc (by repeat' first | exact kNil | apply kCons | apply kApp | assumption | exact OwnS.keys (by assumption))) rfl) ?_
  refine WL_step rfl (R_eq_fn Try.underlying62 rfl rfl) ?_
  refine WL_stepM rfl (R_mv) ?_
  refine WL_guard_t rfl rfl ?_
  refine WL_stepM rfl (R_mv) ?_
  refine WL_guard_t rfl rfl ?_
  refine WL_step rfl (R_nilCheck rfl) ?_
  refine WL_guard_t rfl rfl ?_
  refine WL_step rfl (R_fieldAddr (off' := 1) Try.underlying98 rfl Try.sizeOf62 (by decide) rfl rfl) ?_
  refine WL_guard_t rfl rfl ?_
  refine WL_step rfl (R_load Try.isAgg62 rfl (H.blockN hc (by repeat' first | exact kNil | apply kCons | apply kApp | assumption | exact OwnS.keys (by assumption))) rfl) ?_
  refine WL_guard_t rfl rfl ?_
  refine WL_stepM rfl (R_mv) ?_
  refine WL_guard_t rfl rfl ?_
  refine WL_stepM rfl (R_mv) ?_
  refine WL_guard_t rfl rfl ?_
  (refine WL_call rfl (R_call rfl Try.call41 rfl) (putI_yes (H.get .here) h2 h64 hm) ?_; rintro _ w37 ⟨rfl, H1⟩; replace H := H.seq H1 (okSeq_set .here okSeq_nil); clear H1)
  refine WL_guard_t rfl rfl ?_
  refine WL_step rfl (R_not_t rfl) ?_
  refine WL_stepM rfl (R_pk_f rfl) ?_
  refine WL_nil ?_
  refine W_cond_f rfl ?_
  refine W_skip ?_
  refine W_seq ?_
  refine W_region_l ?_
  refine WL_stepM rfl (R_mv) ?_
  refine WL_stepM rfl (R_as) ?_
  refine WL_stepM rfl (R_as) ?_
  refine WL_nil ?_
  refine W_ret ?_
  exact ⟨_, rfl, _, rfl, hbz, H⟩
theorem encI2_no {n : Int} (hc : w.heap[p]? = some (blk [I k, .func (.func 41) #[] #[], gf] 98)) (h64 : k ≤ 64) (hn : ¬ (2 ≤ k ∧ 0 ≤ n ∧ n ≤ 65535)) :
    Ret Try.prog 39 #[ptr p 0, I n] w fun v w' => v = .tuple #[nilS, .bool false] ∧ Hp w [] w' := by
  refine Ret_of_W (args := [_, _]) Try.func39 rfl Try.ntmps39 Try.results39 (by simp) ?_
  have H := Hp.refl w
  refine W_seq ?_
  refine W_region_l ?_
  refine WL_stepM rfl (R_as) ?_
  refine WL_stepM rfl (R_as) ?_
  refine WL_nil ?_
  refine W_seq ?_
  refine W_region_l ?_
  refine WL_stepM rfl (R_mv) ?_
  refine WL_step rfl (R_nilCheck rfl) ?_
  refine WL_step rfl (R_fieldAddr (off' := 0) Try.underlying98 rfl Try.sizeOf3 (by decide) rfl rfl) ?_
  refine WL_step rfl (R_load Try.isAgg3 rfl (H.block hc (by simp)) rfl) ?_
  (refine WL_effn rfl (E_makeSlice H Try.underlying43 Try.sizeOf5 Try.typeInfo5 Try.zeroValue5 rfl rfl rfl (by omega) (by omega) (by omega) (by simp only [Try.t5]; omega)) ?_; clear H; intro bz w12 hbz H; rw [Int.toNat_natCast, ← zmap0] at H; rw [Int.toNat_natCast])
  refine WL_stepM rfl (R_as) ?_
  refine WL_nil ?_
  refine W_seq ?_
  refine W_seq ?_
  refine W_region_l ?_
  refine WL_stepM rfl (R_mv) ?_
  refine WL_step rfl (R_nilCheck rfl) ?_
  refine WL_step rfl (R_fieldAddr (off' := 1) Try.underlying98 rfl Try.sizeOf62 (by decide) rfl rfl) ?_
  refine WL_step rfl (R_load Try.isAgg62 rfl (H.blockN hc (by repeat' first | exact kNil | apply kCons | apply kApp | assumption | exact OwnS.keys (by assumption))) rfl) ?_
  refine WL_step rfl (R_eq_fn Try.underlying62 rfl rfl) ?_
  refine WL_stepM rfl (R_mv) ?_
  refine WL_guard_t rfl rfl ?_
  refine WL_stepM rfl (R_mv) ?_
  refine WL_guard_t rfl rfl ?_
  refine WL_step rfl (R_nilCheck rfl) ?_
  refine WL_guard_t rfl rfl ?_
  refine WL_step rfl (R_fieldAddr (off' := 1) Try.underlying98 rfl Try.sizeOf62 (by decide) rfl rfl) ?_
  refine WL_guard_t rfl rfl ?_
  refine WL_step rfl (R_load Try.isAgg62 rfl (H.blockN hc (by repeat' first | exact kNil | apply kCons | apply kApp | assumption | exact OwnS.keys (by assumption))) rfl) ?_
  refine WL_guard_t rfl rfl ?_
  refine WL_stepM rfl (R_mv) ?_
  refine WL_guard_t rfl rfl ?_
  refine WL_stepM rfl (R_mv) ?_
  refine WL_guard_t rfl rfl ?_
  (refine WL_call rfl (R_call rfl Try.call41 rfl) (putI_no (H.get .here) h64 hn) ?_; rintro _ w37 ⟨rfl, H1⟩; replace H := H.seq0 H1; clear H1)
  refine WL_guard_t rfl rfl ?_
  refine WL_step rfl (R_not_f rfl) ?_
  refine WL_stepM rfl (R_pk_f rfl) ?_
  refine WL_nil ?_
  refine W_cond_t rfl ?_
  refine W_seq ?_
  refine W_region_l ?_
  refine WL_stepM rfl (R_as) ?_
  refine WL_stepM rfl (R_as) ?_
  refine WL_nil ?_
  refine W_ret ?_
  exact ⟨_, rfl, rfl, H.none (by repeat' first | exact kNil | apply kCons | apply kApp | assumption | exact OwnS.keys (by assumption))⟩

theorem getI_ret {xs : List UInt8} {l : Value} (hl : RdS w l (xs.map U)) (h2 : 2 ≤ xs.length) (hb : xs.length ≤ 64) :
    Ret Try.prog 42 #[l] w fun v w' => v = .tuple #[I ((xs[0]'(by omega)).toNat * 256 + (xs[1]'(by omega)).toNat), .bool true] ∧ Hp w [] w' := by
  refine Ret_of_W (args := [_]) Try.func42 rfl Try.ntmps42 Try.results42 (by simp) ?_
  have H := Hp.refl w
  refine W_seq ?_
  refine W_region_l ?_
  refine WL_stepM rfl (R_as) ?_
  refine WL_stepM rfl (R_as) ?_
  refine WL_nil ?_
  refine W_seq ?_
  refine W_region_l ?_
  refine WL_stepM rfl (R_mv) ?_
  (refine WL_call rfl (R_call rfl Try.call30 rfl) (get2_yes (xs := xs) (k := 0) hl (by omega) (by omega)) ?_; rintro _ w9 ⟨rfl, H1⟩; replace H := H.seq0 H1; clear H1)
  refine WL_step rfl (R_extract rfl rfl) ?_
  refine WL_step rfl (R_extract rfl rfl) ?_
  refine WL_stepM rfl (R_as) ?_
  refine WL_stepM rfl (R_as) ?_
  refine WL_nil ?_
  refine W_ret ?_
  exact ⟨_, rfl, rfl, H⟩
theorem decI2_ret {xs : List UInt8} {l : Value} (hl : RdS w l (xs.map U)) (hx : xs.length = k) (h2 : 2 ≤ k) (h64 : k ≤ 64) (hc : w.heap[p]? = some (blk [I k, pf, .func (.func 42) #[] #[]] 98)) :
    Ret Try.prog 40 #[ptr p 0, l] w fun v w' => v = .tuple #[I ((xs[0]'(by omega)).toNat * 256 + (xs[1]'(by omega)).toNat), .bool true] ∧ Hp w [] w' := by
  refine Ret_of_W (args := [_, _]) Try.func40 rfl Try.ntmps40 Try.results40 (by simp) ?_
  have H := Hp.refl w
  obtain ⟨ao, ca, rfl⟩ := hl.form
  simp only [List.length_map] at hl ⊢
  refine W_seq ?_
  refine W_region_l ?_
  refine WL_stepM rfl (R_as) ?_
  refine WL_stepM rfl (R_as) ?_
  refine WL_nil ?_
  refine W_seq ?_
  refine W_region_l ?_
  refine WL_stepM rfl (R_as) ?_
  refine WL_nil ?_
  refine W_seq ?_
  refine W_seq ?_
  refine W_region_l ?_
  refine WL_stepM rfl (R_mv) ?_
  refine WL_step rfl (R_nilCheck rfl) ?_
  refine WL_step rfl (R_fieldAddr (off' := 2) Try.underlying98 rfl Try.sizeOf63 (by decide) rfl rfl) ?_
  refine WL_step rfl (R_load Try.isAgg63 rfl (H.block hc (by simp)) rfl) ?_
  refine WL_step rfl (R_eq_fn Try.underlying63 rfl rfl) ?_
  refine WL_stepM rfl (R_mv) ?_
  refine WL_guard_t rfl rfl ?_
  refine WL_stepM rfl (R_mv) ?_
  refine WL_guard_t rfl rfl ?_
  refine WL_step rfl (R_len_slice Try.underlying43 rfl) ?_
  refine WL_guard_t rfl rfl ?_
  refine WL_stepM rfl (R_mv) ?_
  refine WL_guard_t rfl rfl ?_
  refine WL_step rfl (R_nilCheck rfl) ?_
  refine WL_guard_t rfl rfl ?_
  refine WL_step rfl (R_fieldAddr (off' := 0) Try.underlying98 rfl Try.sizeOf3 (by decide) rfl rfl) ?_
  refine WL_guard_t rfl rfl ?_
  refine WL_step rfl (R_load Try.isAgg3 rfl (H.block hc (by simp)) rfl) ?_
  refine WL_guard_t rfl rfl ?_
  refine WL_step rfl (R_ne_f rfl rfl (by omega)) ?_
  refine WL_stepM rfl (R_pk_f rfl) ?_
  refine WL_nil ?_
  refine W_cond_f rfl ?_
  refine W_skip ?_
  refine W_seq ?_
  (refine W_drawH (fun _ => false) (by kernel_rfl) H ?_; clear H; intro w38 H)
  refine WA_takeM 0 rfl rfl rfl (by kernel_rfl) (by kernel_rfl) H (fun _ hC => R_mv) ?_
  refine WA_take 1 rfl rfl rfl (by kernel_rfl) (by kernel_rfl) H (fun _ hC => R_nilCheck rfl) ?_
  refine WA_take 2 rfl rfl rfl (by kernel_rfl) (by kernel_rfl) H (fun _ hC => R_fieldAddr (off' := 2) Try.underlying98 rfl Try.sizeOf63 (by decide) rfl rfl) ?_
  refine WA_take 3 rfl rfl rfl (by kernel_rfl) (by kernel_rfl) H (fun _ hC => R_load Try.isAgg63 rfl (hC.block hc (by simp)) rfl) ?_
  refine WA_takeM 4 rfl rfl rfl (by kernel_rfl) (by kernel_rfl) H (fun _ hC => R_mv) ?_
  refine WA_one (i := 5) (by kernel_rfl) ?_
  (refine WI_call rfl (.inl rfl) (R_call rfl Try.call62 rfl) (clone_ret (hl.same H) (by omega)) (fun _ _ ⟨_, hO, H1⟩ _ => H.seqD H1 hO.keys) ?_; rintro v2 w45 ⟨M, hO, H1⟩; have h45 := H.seqO hO H1; clear H H1 hO; obtain ⟨hO, H⟩ := h45; rw [List.append_nil] at H)
  refine WA_one (i := 6) (by kernel_rfl) ?_
  (refine WI_call rfl (.inl rfl) (R_call rfl Try.call42 rfl) (getI_ret (xs := xs) (RdS.own hO (fun p hp => H.held p hp)) (by omega) (by omega)) (fun _ _ hR _ => (H.seq0 hR.2).none (by repeat' first | exact kNil | apply kCons | apply kApp | assumption | exact OwnS.keys (by assumption))) ?_; rintro _ w47 ⟨rfl, H1⟩; replace H := H.seq0 H1; clear H1)
  refine WA_takeM 7 rfl rfl rfl (by kernel_rfl) (by kernel_rfl) (H.none (by repeat' first | exact kNil | apply kCons | apply kApp | assumption | exact OwnS.keys (by assumption))) (fun _ hC => R_mv) ?_
  refine WA_take 8 rfl rfl rfl (by kernel_rfl) (by kernel_rfl) (H.none (by repeat' first | exact kNil | apply kCons | apply kApp | assumption | exact OwnS.keys (by assumption))) (fun _ hC => R_extract rfl rfl) ?_
  refine WA_take 9 rfl rfl rfl (by kernel_rfl) (by kernel_rfl) (H.none (by repeat' first | exact kNil | apply kCons | apply kApp | assumption | exact OwnS.keys (by assumption))) (fun _ hC => R_extract rfl rfl) ?_
  refine WA_takeM 10 rfl rfl rfl (by kernel_rfl) (by kernel_rfl) (H.none (by repeat' first | exact kNil | apply kCons | apply kApp | assumption | exact OwnS.keys (by assumption))) (fun _ hC => R_as) ?_
  refine WA_takeM 11 rfl rfl rfl (by kernel_rfl) (by kernel_rfl) (H.none (by repeat' first | exact kNil | apply kCons | apply kApp | assumption | exact OwnS.keys (by assumption))) (fun _ hC => R_as) ?_
  refine WA_done (by kernel_rfl) ?_
  refine W_seq ?_
  refine W_seq ?_
  refine W_region_l ?_
  refine WL_stepM rfl (R_mv) ?_
  refine WL_step rfl (R_not_t rfl) ?_
  refine WL_nil ?_
  refine W_cond_f rfl ?_
  refine W_skip ?_
  refine W_seq ?_
  refine W_region_l ?_
  refine WL_stepM rfl (R_mv) ?_
  refine WL_stepM rfl (R_as) ?_
  refine WL_stepM rfl (R_as) ?_
  refine WL_nil ?_
  refine W_ret ?_
  exact ⟨_, rfl, rfl, H.none (by repeat' first | exact kNil | apply kCons | apply kApp | assumption | exact OwnS.keys (by assumption))⟩

theorem putS_yes {ss : List UInt8} (hb : w.heap[b]? = some (blk ((List.replicate k 0).map U) 5)) (hs : ss.length ≤ k) (h64 : k ≤ 64) :
    Ret Try.prog 43 #[S ss, sl b 0 k k] w fun v w' => v = .bool true ∧ Hp w [(b, blk ((ss ++ List.replicate (k - ss.length) 0).map U) 5)] w' := by
  refine Ret_of_W (args := [_, _]) Try.func43 rfl Try.ntmps43 Try.results43 (by simp) ?_
  have H := Hp.focus0 hb
  refine W_seq ?_
  refine W_region_l ?_
  refine WL_stepM rfl (R_as) ?_
  refine WL_nil ?_
  refine W_seq ?_
  refine W_region_l ?_
  refine WL_stepM rfl (R_mv) ?_
  refine WL_stepM rfl (R_mv) ?_
  (refine WL_effm rfl (E_copy (xs := ss.map U) H .here Try.underlying43 Try.sizeOf5 rfl rfl S_csrc (by simp) (by simp [Value.oneCell'])) ?_; clear H; rintro _ _ w9 rfl H; rw [List.length_map, Nat.min_eq_left hs, List.take_zero, List.nil_append, List.take_of_length_le (l := ss.map U) (by simp; omega), Nat.zero_add, ← List.map_drop, List.drop_replicate, ← List.map_append] at H; rw [List.length_map, Nat.min_eq_left hs])
  refine WL_stepM rfl (R_mv) ?_
  refine WL_step rfl (R_len_S Try.underlying9 rfl) ?_
  refine WL_step rfl (R_eq_t rfl rfl (by omega)) ?_
  refine WL_stepM rfl (R_as) ?_
  refine WL_nil ?_
  refine W_ret ?_
  exact ⟨_, rfl, rfl, H⟩
theorem putS_no {ss : List UInt8} (hb : w.heap[b]? = some (blk ((List.replicate k 0).map U) 5)) (hs : k < ss.length) (h64 : k ≤ 64) (hsl : ss.length ≤ 200) :
    Ret Try.prog 43 #[S ss, sl b 0 k k] w fun v w' => v = .bool false ∧ ∃ c, Hp w [(b, blk c 5)] w' := by
  refine Ret_of_W (args := [_, _]) Try.func43 rfl Try.ntmps43 Try.results43 (by simp) ?_
  have H := Hp.focus0 hb
  refine W_seq ?_
  refine W_region_l ?_
  refine WL_stepM rfl (R_as) ?_
  refine WL_nil ?_
  refine W_seq ?_
  refine W_region_l ?_
  refine WL_stepM rfl (R_mv) ?_
  refine WL_stepM rfl (R_mv) ?_
  (refine WL_effm rfl (E_copy (xs := ss.map U) H .here Try.underlying43 Try.sizeOf5 rfl rfl S_csrc (by simp) (by simp [Value.oneCell'])) ?_; clear H; rintro _ _ w9 rfl H; rw [List.length_map, Nat.min_eq_right (by omega)])
  refine WL_stepM rfl (R_mv) ?_
  refine WL_step rfl (R_len_S Try.underlying9 rfl) ?_
  refine WL_step rfl (R_eq_f rfl rfl (by omega)) ?_
  refine WL_stepM rfl (R_as) ?_
  refine WL_nil ?_
  refine W_ret ?_
  exact ⟨_, rfl, rfl, _, H⟩
theorem encS_yes {ss : List UInt8} (hc : w.heap[p]? = some (blk [I k, .func (.func 43) #[] #[], gf] 95)) (hs : ss.length ≤ k) (h64 : k ≤ 64) :
    Ret Try.prog 35 #[ptr p 0, S ss] w fun v w' => ∃ b, v = .tuple #[sl b 0 k k, .bool true] ∧ w.heap.size ≤ b ∧ Hp w [(b, blk ((ss ++ List.replicate (k - ss.length) 0).map U) 5)] w' := by
  refine Ret_of_W (args := [_, _]) Try.func35 rfl Try.ntmps35 Try.results35 (by simp) ?_
  have H := Hp.refl w
  refine W_seq ?_
  refine W_region_l ?_
  refine WL_stepM rfl (R_as) ?_
  refine WL_stepM rfl (R_as) ?_
  refine WL_nil ?_
  refine W_seq ?_
  refine W_region_l ?_
  refine WL_stepM rfl (R_mv) ?_
  refine WL_step rfl (R_nilCheck rfl) ?_
  refine WL_step rfl (R_fieldAddr (off' := 0) Try.underlying95 rfl Try.sizeOf3 (by decide) rfl rfl) ?_
  refine WL_step rfl (R_load Try.isAgg3 rfl (H.block hc (by simp)) rfl) ?_
  (refine WL_effn rfl (E_makeSlice H Try.underlying43 Try.sizeOf5 Try.typeInfo5 Try.zeroValue5 rfl rfl rfl (by omega) (by omega) (by omega) (by simp only [Try.t5]; omega)) ?_; clear H; intro bz w12 hbz H; rw [Int.toNat_natCast, ← zmap0] at H; rw [Int.toNat_natCast])
  refine WL_stepM rfl (R_as) ?_
  refine WL_nil ?_
  refine W_seq ?_
  refine W_seq ?_
  refine W_region_l ?_
  refine WL_stepM rfl (R_mv) ?_
  refine WL_step rfl (R_nilCheck rfl) ?_
  refine WL_step rfl (R_fieldAddr (off' := 1) Try.underlying95 rfl Try.sizeOf55 (by decide) rfl rfl) ?_
  refine WL_step rfl (R_load Try.isAgg55 rfl (H.blockN hc (by repeat' first | exact kNil | apply kCons | apply kApp | assumption | exact OwnS.keys (by assumption))) rfl) ?_
  refine WL_step rfl (R_eq_fn Try.underlying55 rfl rfl) ?_
  refine WL_stepM rfl (R_mv) ?_
  refine WL_guard_t rfl rfl ?_
  refine WL_stepM rfl (R_mv) ?_
  refine WL_guard_t rfl rfl ?_
  refine WL_step rfl (R_nilCheck rfl) ?_
  refine WL_guard_t rfl rfl ?_
  refine WL_step rfl (R_fieldAddr (off' := 1) Try.underlying95 rfl Try.sizeOf55 (by decide) rfl rfl) ?_
  refine WL_guard_t rfl rfl ?_
  refine WL_step rfl (R_load Try.isAgg55 rfl (H.blockN hc (by repeat' first | exact kNil | apply kCons | apply kApp | assumption | exact OwnS.keys (by assumption))) rfl) ?_
  refine WL_guard_t rfl rfl ?_
  refine WL_stepM rfl (R_mv) ?_
  refine WL_guard_t rfl rfl ?_
  refine WL_stepM rfl (R_mv) ?_
  refine WL_guard_t rfl rfl ?_
  (refine WL_call rfl (R_call rfl Try.call43 rfl) (putS_yes (H.get .here) hs h64) ?_; rintro _ w37 ⟨rfl, H1⟩; replace H := H.seq H1 (okSeq_set .here okSeq_nil); clear H1)
  refine WL_guard_t rfl rfl ?_
  refine WL_step rfl (R_not_t rfl) ?_
  refine WL_stepM rfl (R_pk_f rfl) ?_
  refine WL_nil ?_
  refine W_cond_f rfl ?_
  refine W_skip ?_
  refine W_seq ?_
  refine W_region_l ?_
  refine WL_stepM rfl (R_mv) ?_
  refine WL_stepM rfl (R_as) ?_
  refine WL_stepM rfl (R_as) ?_
  refine WL_nil ?_
  refine W_ret ?_
  exact ⟨_, rfl, _, rfl, hbz, H⟩
theorem encS_no {ss : List UInt8} (hc : w.heap[p]? = some (blk [I k, .func (.func 43) #[] #[], gf] 95)) (hs : k < ss.length) (h64 : k ≤ 64) (hsl : ss.length ≤ 200) :
    Ret Try.prog 35 #[ptr p 0, S ss] w fun v w' => v = .tuple #[nilS, .bool false] ∧ Hp w [] w' := by
  refine Ret_of_W (args := [_, _]) Try.func35 rfl Try.ntmps35 Try.results35 (by simp) ?_
  have H := Hp.refl w
  refine W_seq ?_
  refine W_region_l ?_
  refine WL_stepM rfl (R_as) ?_
  refine WL_stepM rfl (R_as) ?_
  refine WL_nil ?_
  refine W_seq ?_
  refine W_region_l ?_
  refine WL_stepM rfl (R_mv) ?_
  refine WL_step rfl (R_nilCheck rfl) ?_
  refine WL_step rfl (R_fieldAddr (off' := 0) Try.underlying95 rfl Try.sizeOf3 (by decide) rfl rfl) ?_
  refine WL_step rfl (R_load Try.isAgg3 rfl (H.block hc (by simp)) rfl) ?_
  (refine WL_effn rfl (E_makeSlice H Try.underlying43 Try.sizeOf5 Try.typeInfo5 Try.zeroValue5 rfl rfl rfl (by omega) (by omega) (by omega) (by simp only [Try.t5]; omega)) ?_; clear H; intro bz w12 hbz H; rw [Int.toNat_natCast, ← zmap0] at H; rw [Int.toNat_natCast])
  refine WL_stepM rfl (R_as) ?_
  refine WL_nil ?_
  refine W_seq ?_
  refine W_seq ?_
  refine W_region_l ?_
  refine WL_stepM rfl (R_mv) ?_
  refine WL_step rfl (R_nilCheck rfl) ?_
  refine WL_step rfl (R_fieldAddr (off' := 1) Try.underlying95 rfl Try.sizeOf55 (by decide) rfl rfl) ?_
  refine WL_step rfl (R_load Try.isAgg55 rfl (H.blockN hc (by repeat' first | exact kNil | apply kCons | apply kApp | assumption | exact OwnS.keys (by assumption))) rfl) ?_
  refine WL_step rfl (R_eq_fn Try.underlying55 rfl rfl) ?_
  refine WL_stepM rfl (R_mv) ?_
  refine WL_guard_t rfl rfl ?_
  refine WL_stepM rfl (R_mv) ?_
  refine WL_guard_t rfl rfl ?_
  refine WL_step rfl (R_nilCheck rfl) ?_
  refine WL_guard_t rfl rfl ?_
  refine WL_step rfl (R_fieldAddr (off' := 1) Try.underlying95 rfl Try.sizeOf55 (by decide) rfl rfl) ?_
  refine WL_guard_t rfl rfl ?_
  refine WL_step rfl (R_load Try.isAgg55 rfl (H.blockN hc (by repeat' first | exact kNil | apply kCons | apply kApp | assumption | exact OwnS.keys (by assumption))) rfl) ?_
  refine WL_guard_t rfl rfl ?_
  refine WL_stepM rfl (R_mv) ?_
  refine WL_guard_t rfl rfl ?_
  refine WL_stepM rfl (R_mv) ?_
  refine WL_guard_t rfl rfl ?_
  (refine WL_call rfl (R_call rfl Try.call43 rfl) (putS_no (H.get .here) hs h64 hsl) ?_; rintro _ w37 ⟨rfl, c, H1⟩; replace H := H.seq H1 (okSeq_set .here okSeq_nil); clear H1)
  refine WL_guard_t rfl rfl ?_
  refine WL_step rfl (R_not_f rfl) ?_
  refine WL_stepM rfl (R_pk_f rfl) ?_
  refine WL_nil ?_
  refine W_cond_t rfl ?_
  refine W_seq ?_
  refine W_region_l ?_
  refine WL_stepM rfl (R_as) ?_
  refine WL_stepM rfl (R_as) ?_
  refine WL_nil ?_
  refine W_ret ?_
  exact ⟨_, rfl, rfl, H.none (by repeat' first | exact kNil | apply kCons | apply kApp | assumption | exact OwnS.keys (by assumption))⟩
end
end Go.Proofs.Ytjfcnmbalojehaa.Codec
