/-
  What CodecLent calls.
-/
import Derived.Test.YtjfcnmbalojehaaCodecD
namespace Go.Proofs.Ytjfcnmbalojehaa.Codec
open Go Go.Proofs Go.Proofs.Ytjfcnmbalojehaa.Fx
set_option maxRecDepth 100000
set_option linter.unusedVariables false
set_option maxHeartbeats 1000000

theorem newS_ret {n : Int} {p g : Value} (hp : p = .nilFunc ∨ ∃ f a c, p = .func f a c) (hg : g = .nilFunc ∨ ∃ f a c, g = .func f a c) (w : World) :
    Ret Try.prog 31 #[I n, p, g] w fun v w' => ∃ b, v = ptr b 0 ∧ w.heap.size ≤ b ∧ Hp w [(b, blk [I (szOf n), p, g] 95)] w' := by
  refine Ret_of_W (args := [_, _, _]) Try.func31 rfl Try.ntmps31 Try.results31 (by simp) ?_
  have H := Hp.refl w
  refine W_seq ?_
  refine W_region_l ?_
  refine WL_stepM rfl (R_as) ?_
  refine WL_nil ?_
  refine W_seq ?_
  refine W_region_l ?_
  refine WL_stepM rfl (R_mv) ?_
  refine WL_step rfl (R_max rfl rfl rfl) ?_
  refine WL_step rfl (R_min rfl rfl rfl) ?_
  refine WL_stepM rfl (R_mv) ?_
  refine WL_stepM rfl (R_mv) ?_
  refine WL_step rfl (R_build (vs := [I (szOf n), p, g]) rfl (by rcases hp with rfl | ⟨_, _, _, rfl⟩ <;> rcases hg with rfl | ⟨_, _, _, rfl⟩ <;> rfl)) ?_
  (refine WL_effn rfl (E_box (v := (.agg (List.toArray [(.int _ _), p, g]))) H rfl rfl) ?_; clear H; intro b13 w13 hb13 H)
  refine WL_stepM rfl (R_as) ?_
  refine WL_nil ?_
  refine W_ret ?_
  exact ⟨_, rfl, _, rfl, by assumption, H⟩

section
variable {w : World} {p k b cap : Nat} {xs : List UInt8} {gf pf : Value}

theorem putL_ret {old : Value} {c : List Value} (hk : w.heap[k]? = some (blk [old] 43)) (hb : w.heap[b]? = some (blk c 5)) (hc : c.length = xs.length) (h64 : xs.length ≤ 64) :
    Ret Try.prog 32 #[S xs, sl b 0 xs.length xs.length, ptr k 0] w fun v w' => v = .bool true ∧ Hp w [(k, blk [sl b 0 xs.length xs.length] 43), (b, blk (xs.map U) 5)] w' := by
  refine Ret_of_W (args := [_, _, _]) Try.func32 rfl Try.ntmps32 Try.results32 (by simp) ?_
  have H := (Hp.focus0 hb).focus hk (by simpa using ne_of_obj hk hb (by simp))
  refine W_seq ?_
  refine W_region_l ?_
  refine WL_stepM rfl (R_as) ?_
  refine WL_nil ?_
  refine W_seq ?_
  refine W_region_l ?_
  refine WL_stepM rfl (R_mv) ?_
  (refine WL_effu rfl (E_store (v := (.slice _ _ _)) H Try.sizeOf43 rfl rfl rfl .here (by simp)) ?_; clear H; intro w8 H)
  refine WL_nil ?_
  refine W_seq ?_
  refine W_region_l ?_
  refine WL_stepM rfl (R_mv) ?_
  refine WL_stepM rfl (R_mv) ?_
  (refine WL_effm rfl (E_copy H (.there .here) Try.underlying43 Try.sizeOf5 rfl rfl S_csrc (by omega) (by simp [Value.oneCell'])) ?_; clear H; rintro _ _ w14 rfl H; rw [List.take_zero, List.nil_append, List.take_of_length_le (by simp), List.length_map, Nat.min_self, Nat.zero_add, List.drop_of_length_le (by omega), List.append_nil] at H)
  refine WL_stepM rfl (R_mv) ?_
  refine WL_step rfl (R_len_S Try.underlying9 rfl) ?_
  refine WL_step rfl (R_eq_t rfl rfl (by simp)) ?_
  refine WL_stepM rfl (R_as) ?_
  refine WL_nil ?_
  refine W_ret ?_
  exact ⟨_, rfl, rfl, H⟩

theorem getL_ret {sp : List Value} (hcap : xs.length ≤ cap) (hb : w.heap[b]? = some (blk (xs.map U ++ sp) 5)) (h0 : 0 < xs.length) (h64 : xs.length ≤ 64) :
    Ret Try.prog 33 #[sl b 0 xs.length cap] w fun v w' => v = .tuple #[S (xs.set 0 (xs[0] + 1)), .bool true] ∧ Hp w [(b, blk ((xs.set 0 (xs[0] + 1)).map U ++ sp) 5)] w' := by
  refine Ret_of_W (args := [_]) Try.func33 rfl Try.ntmps33 Try.results33 (by simp) ?_
  have H := Hp.focus0 hb
  refine W_seq ?_
  refine W_region_l ?_
  refine WL_stepM rfl (R_as) ?_
  refine WL_stepM rfl (R_as) ?_
  refine WL_nil ?_
  refine W_seq ?_
  refine W_region_l ?_
  refine WL_stepM rfl (R_mv) ?_
  refine WL_step rfl (R_indexAddr (off' := 0) Try.underlying43 Try.sizeOf5 rfl rfl (by omega) (by omega) rfl) ?_
  refine WL_step rfl (R_load Try.isAgg5 rfl (H.get .here) (get_map h0)) ?_
  refine WL_step rfl (R_add rfl rfl (u8_add (y := 1))) ?_
  refine WL_step rfl (R_indexAddr (off' := 0) Try.underlying43 Try.sizeOf5 rfl rfl (by omega) (by omega) rfl) ?_
  (refine WL_effu rfl (E_store (v := (.int _ _)) H Try.sizeOf5 rfl rfl rfl .here (by simp; omega)) ?_; clear H; intro w13 H)
  refine WL_nil ?_
  refine W_seq ?_
  (rw [set_map h0] at H; refine W_region_l ?_)
  refine WL_stepM rfl (R_mv) ?_
  refine WL_step rfl (R_conv_bs (xs := xs.set 0 (xs[0] + 1)) Try.underlying43 Try.underlying5 Try.underlying9 rfl (RdS.blk (H.get .here) (by rw [List.drop_zero, List.take_left' (by simp)]) (by simp) hcap)) ?_
  refine WL_stepM rfl (R_as) ?_
  refine WL_stepM rfl (R_as) ?_
  refine WL_nil ?_
  refine W_ret ?_
  exact ⟨_, rfl, rfl, H⟩

theorem decL_ret {l : Value} (hl : RdS w l (xs.map U)) (h0 : 0 < xs.length) (h64 : xs.length ≤ 64) (hc : w.heap[p]? = some (blk [I xs.length, pf, .func (.func 33) #[] #[]] 95)) :
    Ret Try.prog 34 #[ptr p 0, l] w fun v w' => v = .tuple #[S (xs.set 0 (xs[0] + 1)), .bool true] ∧ Hp w [] w' := by
  refine Ret_of_W (args := [_, _]) Try.func34 rfl Try.ntmps34 Try.results34 (by simp) ?_
  have H := Hp.refl w
  obtain ⟨ao, ca, rfl, hca, hra⟩ := id hl
  simp only [List.length_map] at hl ⊢
  refine W_seq ?_
  refine W_region_l ?_
  refine WL_stepM rfl (R_as) ?_
  refine WL_stepM rfl (R_as) ?_
  refine WL_nil ?_
  refine W_seq ?_
  refine W_region_l ?_
  refine WL_stepM rfl (R_as) ?_
  refine WL_nil ?_
  refine W_seq ?_
  refine W_seq ?_
  refine W_region_l ?_
  refine WL_stepM rfl (R_mv) ?_
  refine WL_step rfl (R_nilCheck rfl) ?_
  refine WL_step rfl (R_fieldAddr (off' := 2) Try.underlying95 rfl Try.sizeOf56 (by decide) rfl rfl) ?_
  refine WL_step rfl (R_load Try.isAgg56 rfl (H.block hc (by simp)) rfl) ?_
  refine WL_step rfl (R_eq_fn Try.underlying56 rfl rfl) ?_
  refine WL_stepM rfl (R_mv) ?_
  refine WL_guard_t rfl rfl ?_
  refine WL_stepM rfl (R_mv) ?_
  refine WL_guard_t rfl rfl ?_
  refine WL_step rfl (R_len_slice Try.underlying43 rfl) ?_
  refine WL_guard_t rfl rfl ?_
  refine WL_stepM rfl (R_mv) ?_
  refine WL_guard_t rfl rfl ?_
  refine WL_step rfl (R_nilCheck rfl) ?_
  refine WL_guard_t rfl rfl ?_
  refine WL_step rfl (R_fieldAddr (off' := 0) Try.underlying95 rfl Try.sizeOf3 (by decide) rfl rfl) ?_
  refine WL_guard_t rfl rfl ?_
  refine WL_step rfl (R_load Try.isAgg3 rfl (H.block hc (by simp)) rfl) ?_
  refine WL_guard_t rfl rfl ?_
  refine WL_step rfl (R_ne_f rfl rfl (by omega)) ?_
  refine WL_stepM rfl (R_pk_f rfl) ?_
  refine WL_nil ?_
  refine W_cond_f rfl ?_
  refine W_skip ?_
  refine W_seq ?_
  (refine W_drawH (fun _ => false) (by kernel_rfl) H ?_; clear H; intro w38 H)
  refine WA_takeM 0 rfl rfl rfl (by kernel_rfl) (by kernel_rfl) H (fun _ hC => R_mv) ?_
  refine WA_take 1 rfl rfl rfl (by kernel_rfl) (by kernel_rfl) H (fun _ hC => R_nilCheck rfl) ?_
  refine WA_take 2 rfl rfl rfl (by kernel_rfl) (by kernel_rfl) H (fun _ hC => R_fieldAddr (off' := 2) Try.underlying95 rfl Try.sizeOf56 (by decide) rfl rfl) ?_
  refine WA_take 3 rfl rfl rfl (by kernel_rfl) (by kernel_rfl) H (fun _ hC => R_load Try.isAgg56 rfl (hC.block hc (by simp)) rfl) ?_
  refine WA_takeM 4 rfl rfl rfl (by kernel_rfl) (by kernel_rfl) H (fun _ hC => R_mv) ?_
  refine WA_one (i := 5) (by kernel_rfl) ?_
  (refine WI_call rfl (.inl rfl) (R_call rfl Try.call62 rfl) (clone_ret (hl.same H) (by omega)) (fun _ _ ⟨_, hO, H1⟩ _ => H.seqD H1 hO.keys) ?_; rintro v2 w45 ⟨M, hO, H1⟩; have h45 := H.seqO hO H1; clear H H1 hO; obtain ⟨hO, H⟩ := h45; obtain ⟨b, cap, sp, rfl, hb, rfl, hsp, hcap⟩ := OwnS.pos hO (by omega); rw [List.append_nil] at H)
  refine WA_one (i := 6) (by kernel_rfl) ?_
  (refine WI_call rfl (.inl rfl) (R_call rfl Try.call33 rfl) (getL_ret hcap (H.get .here) h0 h64) (fun _ _ hR _ => (H.seq hR.2 (okSeq_set .here okSeq_nil)).none (by repeat' first | exact kNil | apply kCons | apply kApp | assumption | exact OwnS.keys (by assumption))) ?_; rintro _ w47 ⟨rfl, H1⟩; replace H := H.seq H1 (okSeq_set .here okSeq_nil); clear H1)
  refine WA_takeM 7 rfl rfl rfl (by kernel_rfl) (by kernel_rfl) (H.none (by repeat' first | exact kNil | apply kCons | apply kApp | assumption | exact OwnS.keys (by assumption))) (fun _ hC => R_mv) ?_
  refine WA_take 8 rfl rfl rfl (by kernel_rfl) (by kernel_rfl) (H.none (by repeat' first | exact kNil | apply kCons | apply kApp | assumption | exact OwnS.keys (by assumption))) (fun _ hC => R_extract rfl rfl) ?_
  refine WA_take 9 rfl rfl rfl (by kernel_rfl) (by kernel_rfl) (H.none (by repeat' first | exact kNil | apply kCons | apply kApp | assumption | exact OwnS.keys (by assumption))) (fun _ hC => R_extract rfl rfl) ?_
  refine WA_takeM 10 rfl rfl rfl (by kernel_rfl) (by kernel_rfl) (H.none (by repeat' first | exact kNil | apply kCons | apply kApp | assumption | exact OwnS.keys (by assumption))) (fun _ hC => R_as) ?_
  refine WA_takeM 11 rfl rfl rfl (by kernel_rfl) (by kernel_rfl) (H.none (by repeat' first | exact kNil | apply kCons | apply kApp | assumption | exact OwnS.keys (by assumption))) (fun _ hC => R_as) ?_
  refine WA_done (by kernel_rfl) ?_
  refine W_seq ?_
  refine W_seq ?_
  refine W_region_l ?_
  refine WL_stepM rfl (R_mv) ?_
  refine WL_step rfl (R_not_t rfl) ?_
  refine WL_nil ?_
  refine W_cond_f rfl ?_
  refine W_skip ?_
  refine W_seq ?_
  refine W_region_l ?_
  refine WL_stepM rfl (R_mv) ?_
  refine WL_stepM rfl (R_as) ?_
  refine WL_stepM rfl (R_as) ?_
  refine WL_nil ?_
  refine W_ret ?_
  exact ⟨_, rfl, rfl, H.none (by repeat' first | exact kNil | apply kCons | apply kApp | assumption | exact OwnS.keys (by assumption))⟩

theorem encL_ret {old : Value} (h64 : xs.length ≤ 64) (hc : w.heap[p]? = some (blk [I xs.length, .func (.func 32) #[] #[ptr k 0], gf] 95)) (hk : w.heap[k]? = some (blk [old] 43)) :
    Ret Try.prog 35 #[ptr p 0, S xs] w fun v w' => ∃ b, w.heap.size ≤ b ∧ v = .tuple #[sl b 0 xs.length xs.length, .bool true] ∧ Hp w [(k, blk [sl b 0 xs.length xs.length] 43), (b, blk (xs.map U) 5)] w' := by
  refine Ret_of_W (args := [_, _]) Try.func35 rfl Try.ntmps35 Try.results35 (by simp) ?_
  have H := (Hp.focus0 hc).focus hk (by simpa using ne_of_obj hk hc (by simp))
  refine W_seq ?_
  refine W_region_l ?_
  refine WL_stepM rfl (R_as) ?_
  refine WL_stepM rfl (R_as) ?_
  refine WL_nil ?_
  refine W_seq ?_
  refine W_region_l ?_
  refine WL_stepM rfl (R_mv) ?_
  refine WL_step rfl (R_nilCheck rfl) ?_
  refine WL_step rfl (R_fieldAddr (off' := 0) Try.underlying95 rfl Try.sizeOf3 (by decide) rfl rfl) ?_
  refine WL_step rfl (R_load Try.isAgg3 rfl (H.get (.there .here)) rfl) ?_
  (refine WL_effn rfl (E_makeSlice H Try.underlying43 Try.sizeOf5 Try.typeInfo5 Try.zeroValue5 rfl rfl rfl (by omega) (by omega) (by omega) (by simp only [Try.t5]; omega)) ?_; clear H; intro b12 w12 hb12 H)
  refine WL_stepM rfl (R_as) ?_
  refine WL_nil ?_
  refine W_seq ?_
  refine W_seq ?_
  refine W_region_l ?_
  refine WL_stepM rfl (R_mv) ?_
  refine WL_step rfl (R_nilCheck rfl) ?_
  refine WL_step rfl (R_fieldAddr (off' := 1) Try.underlying95 rfl Try.sizeOf55 (by decide) rfl rfl) ?_
  refine WL_step rfl (R_load Try.isAgg55 rfl (H.get (.there (.there .here))) rfl) ?_
  refine WL_step rfl (R_eq_fn Try.underlying55 rfl rfl) ?_
  refine WL_stepM rfl (R_mv) ?_
  refine WL_guard_t rfl rfl ?_
  refine WL_stepM rfl (R_mv) ?_
  refine WL_guard_t rfl rfl ?_
  refine WL_step rfl (R_nilCheck rfl) ?_
  refine WL_guard_t rfl rfl ?_
  refine WL_step rfl (R_fieldAddr (off' := 1) Try.underlying95 rfl Try.sizeOf55 (by decide) rfl rfl) ?_
  refine WL_guard_t rfl rfl ?_
  refine WL_step rfl (R_load Try.isAgg55 rfl (H.get (.there (.there .here))) rfl) ?_
  refine WL_guard_t rfl rfl ?_
  refine WL_stepM rfl (R_mv) ?_
  refine WL_guard_t rfl rfl ?_
  refine WL_stepM rfl (R_mv) ?_
  refine WL_guard_t rfl rfl ?_
  (refine WL_call rfl (R_call rfl Try.call32 rfl) (putL_ret (H.get (.there .here)) (H.get .here) (by simp) h64) ?_; rintro _ w37 ⟨rfl, H1⟩; replace H := H.seq H1 (okSeq_set (.there .here) (okSeq_set .here okSeq_nil)); clear H1)
  refine WL_guard_t rfl rfl ?_
  refine WL_step rfl (R_not_t rfl) ?_
  refine WL_stepM rfl (R_pk_f rfl) ?_
  refine WL_nil ?_
  refine W_cond_f rfl ?_
  refine W_skip ?_
  refine W_seq ?_
  refine W_region_l ?_
  refine WL_stepM rfl (R_mv) ?_
  refine WL_stepM rfl (R_as) ?_
  refine WL_stepM rfl (R_as) ?_
  refine WL_nil ?_
  refine W_ret ?_
  exact ⟨_, rfl, _, by assumption, rfl, (H.perm (List.reverse_perm [_, _, _]).symm).back hc⟩
end
end Go.Proofs.Ytjfcnmbalojehaa.Codec
