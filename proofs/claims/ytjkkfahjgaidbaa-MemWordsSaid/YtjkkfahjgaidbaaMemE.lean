/-
  The law MemLent: what its calls come to.
-/
import Derived.Test.YtjkkfahjgaidbaaMemC
namespace Go.Proofs.Ytjkkfahjgaidbaa.Mem
open Go Go.Proofs Go.Proofs.Ytjkkfahjgaidbaa.Fx
set_option maxRecDepth 100000
set_option linter.unusedVariables false
set_option linter.unusedSimpArgs false
set_option maxHeartbeats 2000000

theorem put_get {xs ys : List UInt8} {i : Nat} (h : i + ys.length ≤ xs.length) : ((put xs ys i).drop i).take ys.length = ys := by
  unfold put
  rw [List.append_assoc, List.drop_append_of_le_length (by simp; omega)]
  rw [List.drop_of_length_le (l := xs.take i) (by simp; omega), List.nil_append, List.take_left' rfl]

theorem lent_ret {xs : List UInt8} {w : World} {l : Value} (a : Int) (hl : RdS w l (xs.map U)) (hb : xs.length ≤ 9223372036854775807) :
    Ret Try.prog 5 #[l, I a] w fun v w' => v = .bool true ∧ Hp w [] w' := by
  refine Ret_of_W (args := [_, _]) Try.func5 rfl Try.ntmps5 Try.results5 (by simp) ?_
  have H := Hp.refl w
  obtain ⟨ao, ca, rfl, hca, hra⟩ := id hl
  simp only [List.length_map] at hl ⊢
  by_cases hz : xs.length = 0
  · refine W_seq ?_
    refine W_region_l ?_
    refine WL_stepM rfl (R_as) ?_
    refine WL_nil ?_
    refine W_seq ?_
    refine W_region_l ?_
    (refine WL_call rfl (R_call rfl Try.call13 rfl) (new_ret 2 _) ?_; rintro _ w7 ⟨p, b, rfl, H1, hp, hb⟩; replace H := H.seq H1 (okSeq_new hp (okSeq_new hb okSeq_nil)); clear H1)
    refine WL_stepM rfl (R_as) ?_
    refine WL_nil ?_
    refine W_seq ?_
    refine W_seq ?_
    refine W_region_l ?_
    refine WL_stepM rfl (R_mv) ?_
    refine WL_step rfl (R_eq_ptr_nil Try.underlying22 rfl rfl) ?_
    refine WL_stepM rfl (R_mv) ?_
    refine WL_guard_t rfl rfl ?_
    refine WL_stepM rfl (R_mv) ?_
    refine WL_guard_t rfl rfl ?_
    refine WL_step rfl (R_len_slice Try.underlying26 rfl) ?_
    refine WL_guard_t rfl rfl ?_
    refine WL_step rfl (R_eq_t rfl rfl (by omega)) ?_
    refine WL_stepM rfl (R_pk_f rfl) ?_
    refine WL_stepM rfl (R_mv) ?_
    refine WL_guard_f rfl rfl (by decide) ?_
    refine WL_guard_f rfl rfl (by decide) ?_
    refine WL_guard_f rfl rfl (by decide) ?_
    refine WL_stepM rfl (R_pk_t rfl) ?_
    refine WL_nil ?_
    refine W_cond_t rfl ?_
    refine W_seq ?_
    refine W_region_l ?_
    refine WL_stepM rfl (R_mv) ?_
    refine WL_step rfl (R_ne_ptr_nil Try.underlying22 rfl rfl) ?_
    refine WL_stepM rfl (R_mv) ?_
    refine WL_guard_t rfl rfl ?_
    (refine WL_call rfl (R_call rfl Try.call18 rfl) (awake_ret _) ?_; rintro _ w36 ⟨rfl, H1⟩; replace H := H.seq0 H1; clear H1)
    refine WL_stepM rfl (R_pk_t rfl) ?_
    refine WL_stepM rfl (R_as) ?_
    refine WL_nil ?_
    refine W_ret ?_
    exact ⟨_, rfl, rfl, H.none (by repeat' first | exact kNil | apply kCons | apply kApp | assumption | exact OwnS.keys (by assumption))⟩
  · by_cases hz2 : 60 < xs.length
    · refine W_seq ?_
      refine W_region_l ?_
      refine WL_stepM rfl (R_as) ?_
      refine WL_nil ?_
      refine W_seq ?_
      refine W_region_l ?_
      (refine WL_call rfl (R_call rfl Try.call13 rfl) (new_ret 2 _) ?_; rintro _ w7 ⟨p, b, rfl, H1, hp, hb⟩; replace H := H.seq H1 (okSeq_new hp (okSeq_new hb okSeq_nil)); clear H1)
      refine WL_stepM rfl (R_as) ?_
      refine WL_nil ?_
      refine W_seq ?_
      refine W_seq ?_
      refine W_region_l ?_
      refine WL_stepM rfl (R_mv) ?_
      refine WL_step rfl (R_eq_ptr_nil Try.underlying22 rfl rfl) ?_
      refine WL_stepM rfl (R_mv) ?_
      refine WL_guard_t rfl rfl ?_
      refine WL_stepM rfl (R_mv) ?_
      refine WL_guard_t rfl rfl ?_
      refine WL_step rfl (R_len_slice Try.underlying26 rfl) ?_
      refine WL_guard_t rfl rfl ?_
      refine WL_step rfl (R_eq_f rfl rfl (by omega)) ?_
      refine WL_stepM rfl (R_pk_f rfl) ?_
      refine WL_stepM rfl (R_mv) ?_
      refine WL_guard_t rfl rfl ?_
      refine WL_stepM rfl (R_mv) ?_
      refine WL_guard_t rfl rfl ?_
      refine WL_step rfl (R_len_slice Try.underlying26 rfl) ?_
      refine WL_guard_t rfl rfl ?_
      refine WL_step rfl (R_gt_t rfl rfl (by omega)) ?_
      refine WL_stepM rfl (R_pk_f rfl) ?_
      refine WL_nil ?_
      refine W_cond_t rfl ?_
      refine W_seq ?_
      refine W_region_l ?_
      refine WL_stepM rfl (R_mv) ?_
      refine WL_step rfl (R_ne_ptr_nil Try.underlying22 rfl rfl) ?_
      refine WL_stepM rfl (R_mv) ?_
      refine WL_guard_t rfl rfl ?_
      (refine WL_call rfl (R_call rfl Try.call18 rfl) (awake_ret _) ?_; rintro _ w39 ⟨rfl, H1⟩; replace H := H.seq0 H1; clear H1)
      refine WL_stepM rfl (R_pk_t rfl) ?_
      refine WL_stepM rfl (R_as) ?_
      refine WL_nil ?_
      refine W_ret ?_
      exact ⟨_, rfl, rfl, H.none (by repeat' first | exact kNil | apply kCons | apply kApp | assumption | exact OwnS.keys (by assumption))⟩
    · obtain ⟨k, hk, hkl⟩ : ∃ k : Nat, (k : Int) = (a % 65536) % xs.length ∧ k < xs.length :=
        ⟨((a % 65536) % xs.length).toNat, Int.toNat_of_nonneg (Int.emod_nonneg _ (by omega)), by have := Int.emod_lt_of_pos (a % 65536) (b := (xs.length : Int)) (by omega); omega⟩
      obtain ⟨zs, hzs, hzl⟩ : ∃ zs : List UInt8, zs = List.replicate 128 0 ∧ zs.length = 128 := ⟨_, rfl, by simp⟩
      have hN : zs.length ≤ 16384 := by omega
      obtain ⟨ys, hys, hyl, hyg⟩ : ∃ ys : List UInt8, ys = put zs xs 3 ∧ ys.length = 128 ∧ (ys.drop 3).take xs.length = xs := ⟨_, rfl, by rw [put_length (by omega), hzl], put_get (by omega)⟩
      have hM : ys.length ≤ 16384 := by omega
      refine W_seq ?_
      refine W_region_l ?_
      refine WL_stepM rfl (R_as) ?_
      refine WL_nil ?_
      refine W_seq ?_
      refine W_region_l ?_
      (refine WL_call rfl (R_call rfl Try.call13 rfl) (new_ret 2 _) ?_; rintro _ w7 ⟨p, b, rfl, H1, hp, hb⟩; rw [show szOf 2 = 128 from rfl, ← zmap, ← hzs] at H1; replace H := H.seq H1 (okSeq_new hp (okSeq_new hb okSeq_nil)); clear H1)
      refine WL_stepM rfl (R_as) ?_
      refine WL_nil ?_
      refine W_seq ?_
      refine W_seq ?_
      refine W_region_l ?_
      refine WL_stepM rfl (R_mv) ?_
      refine WL_step rfl (R_eq_ptr_nil Try.underlying22 rfl rfl) ?_
      refine WL_stepM rfl (R_mv) ?_
      refine WL_guard_t rfl rfl ?_
      refine WL_stepM rfl (R_mv) ?_
      refine WL_guard_t rfl rfl ?_
      refine WL_step rfl (R_len_slice Try.underlying26 rfl) ?_
      refine WL_guard_t rfl rfl ?_
      refine WL_step rfl (R_eq_f rfl rfl (by omega)) ?_
      refine WL_stepM rfl (R_pk_f rfl) ?_
      refine WL_stepM rfl (R_mv) ?_
      refine WL_guard_t rfl rfl ?_
      refine WL_stepM rfl (R_mv) ?_
      refine WL_guard_t rfl rfl ?_
      refine WL_step rfl (R_len_slice Try.underlying26 rfl) ?_
      refine WL_guard_t rfl rfl ?_
      refine WL_step rfl (R_gt_f rfl rfl (by omega)) ?_
      refine WL_stepM rfl (R_pk_f rfl) ?_
      refine WL_nil ?_
      refine W_cond_f rfl ?_
      refine W_skip ?_
      refine W_seq ?_
      refine W_region_l ?_
      (refine WL_effn rfl (E_buildSlice (vs := []) H Try.underlying26 Try.sizeOf5 Try.zeroValue5 rfl rfl (by decide) rfl rfl) ?_; clear H; intro b36 w36 hb36 H)
      refine WL_stepM rfl (R_mv) ?_
      (refine WL_effm rfl (E_append H .one (OwnS.new (xs := []) (sp := []) (by assumption) rfl rfl (by omega)) Try.underlying26 Try.typeInfo5 rfl rfl rfl rfl rfl rfl ((hl.monoN H (by repeat' first | exact kNil | apply kCons | apply kApp | assumption | exact OwnS.keys (by assumption))).src Try.underlying26 (by simp [Value.oneCell'])) (by simp; omega) (by simp [Try.t5]; omega)) ?_; clear H; intro vN MN w38 hO H; rw [List.length_map, Nat.zero_add, List.nil_append] at hO; obtain ⟨b3, cap3, sp3, rfl, hb3, rfl, hsp3, hcap3⟩ := OwnS.pos hO (by omega); rw [List.cons_append, List.nil_append] at H)
      refine WL_stepM rfl (R_as) ?_
      refine WL_nil ?_
      refine W_seq ?_
      refine W_region_l ?_
      refine WL_stepM rfl (R_mv) ?_
      refine WL_step rfl (R_bits rfl rfl (by simp) (and_mask_i64 16 65536 (by decide) rfl (by decide))) ?_
      refine WL_stepM rfl (R_mv) ?_
      refine WL_step rfl (R_len_slice Try.underlying26 rfl) ?_
      refine WL_step rfl (R_rem rfl rfl (by omega) ((rem_pos (by omega)).trans hk.symm)) ?_
      refine WL_stepM rfl (R_as) ?_
      refine WL_nil ?_
      refine W_seq ?_
      refine W_region_l ?_
      refine WL_stepM rfl (R_mv) ?_
      refine WL_stepM rfl (R_mv) ?_
      (refine WL_call rfl (R_call rfl Try.call14 rfl) (store_yes (xs := zs) (ys := xs) 3 (H.get (.there (.there .here))) (H.get (.there .here)) hzl hN (RdS.own hO (fun q hq => H.held q (by simp [List.mem_singleton.1 hq]))) (by omega)) ?_; rintro _ w54 ⟨rfl, H1⟩; rw [← hys] at H1; replace H := H.seq H1 (okSeq_set (.there .here) okSeq_nil); clear H1)
      refine WL_stepM rfl (R_as) ?_
      refine WL_nil ?_
      refine W_seq ?_
      refine W_region_l ?_
      refine WL_stepM rfl (R_mv) ?_
      refine WL_stepM rfl (R_mv) ?_
      refine WL_step rfl (R_indexAddr Try.underlying26 Try.sizeOf5 rfl rfl (by omega) (by omega) idx0_cast) ?_
      refine WL_step rfl (R_load Try.isAgg5 rfl (H.get .here) (get_map hkl)) ?_
      refine WL_step rfl (R_add rfl rfl (u8_add (y := 1))) ?_
      refine WL_step rfl (R_indexAddr Try.underlying26 Try.sizeOf5 rfl rfl (by omega) (by omega) idx0_cast) ?_
      (refine WL_effu rfl (E_store (v := (.int _ _)) H Try.sizeOf5 rfl rfl rfl .here (by simp; omega)) ?_; clear H; intro w65 H)
      refine WL_nil ?_
      refine W_seq ?_
      refine W_region_l ?_
      refine WL_stepM rfl (R_mv) ?_
      refine WL_stepM rfl (R_mv) ?_
      refine WL_step rfl (R_len_slice Try.underlying26 rfl) ?_
      (refine WL_call rfl (R_call rfl Try.call15 rfl) (load_yes (xs := ys) 3 xs.length (H.get (.there (.there .here))) (H.get (.there .here)) hyl hM (by omega)) ?_; rintro _ w72 ⟨u4, M4, rfl, hO4, H1⟩; rw [hyg] at hO4; have h72 := H.seqO hO4 H1; clear H H1 hO4; obtain ⟨hO4, H⟩ := h72; obtain ⟨b4, cap4, sp4, rfl, hb4, rfl, hsp4, hcap4⟩ := OwnS.pos hO4 (by omega); rw [List.cons_append, List.nil_append] at H)
      refine WL_stepM rfl (R_mv) ?_
      refine WL_step rfl (R_extract rfl rfl) ?_
      refine WL_step rfl (R_extract rfl rfl) ?_
      refine WL_stepM rfl (R_as) ?_
      refine WL_stepM rfl (R_as) ?_
      refine WL_nil ?_
      refine W_seq ?_
      refine W_seq ?_
      refine W_region_l ?_
      refine WL_stepM rfl (R_mv) ?_
      refine WL_step rfl (R_ne_f rfl rfl (by omega)) ?_
      refine WL_stepM rfl (R_mv) ?_
      refine WL_guard_t rfl rfl ?_
      refine WL_stepM rfl (R_mv) ?_
      refine WL_guard_t rfl rfl ?_
      refine WL_step rfl (R_ne_f rfl rfl (by omega)) ?_
      refine WL_stepM rfl (R_pk_f rfl) ?_
      refine WL_stepM rfl (R_mv) ?_
      refine WL_guard_t rfl rfl ?_
      refine WL_stepM rfl (R_mv) ?_
      refine WL_guard_t rfl rfl ?_
      refine WL_step rfl (R_conv_bs (xs := xs) Try.underlying26 Try.underlying5 Try.underlying9 rfl (RdS.own hO4 (fun q hq => H.held q (by simp [List.mem_singleton.1 hq])))) ?_
      refine WL_guard_t rfl rfl ?_
      refine WL_stepM rfl (R_mv) ?_
      refine WL_guard_t rfl rfl ?_
      refine WL_step rfl (R_conv_bs (xs := xs) Try.underlying26 Try.underlying5 Try.underlying9 rfl (hl.monoN H (by repeat' first | exact kNil | apply kCons | apply kApp | assumption | exact OwnS.keys (by assumption)))) ?_
      refine WL_guard_t rfl rfl ?_
      refine WL_step rfl (R_ne_S_f rfl rfl rfl) ?_
      refine WL_stepM rfl (R_pk_f rfl) ?_
      refine WL_nil ?_
      refine W_cond_f rfl ?_
      refine W_skip ?_
      refine W_seq ?_
      refine W_region_l ?_
      refine WL_stepM rfl (R_mv) ?_
      refine WL_stepM rfl (R_mv) ?_
      refine WL_step rfl (R_indexAddr Try.underlying26 Try.sizeOf5 rfl rfl (by omega) (by omega) idx0_cast) ?_
      refine WL_step rfl (R_load Try.isAgg5 rfl (H.get .here) (get_map hkl)) ?_
      refine WL_step rfl (R_add rfl rfl (u8_add (y := 2))) ?_
      refine WL_step rfl (R_indexAddr Try.underlying26 Try.sizeOf5 rfl rfl (by omega) (by omega) idx0_cast) ?_
      (refine WL_effu rfl (E_store (v := (.int _ _)) H Try.sizeOf5 rfl rfl rfl .here (by simp; omega)) ?_; clear H; intro w113 H)
      refine WL_nil ?_
      refine W_seq ?_
      refine W_region_l ?_
      refine WL_stepM rfl (R_mv) ?_
      refine WL_stepM rfl (R_mv) ?_
      refine WL_step rfl (R_len_slice Try.underlying26 rfl) ?_
      (refine WL_call rfl (R_call rfl Try.call15 rfl) (load_yes (xs := ys) 3 xs.length (H.get (.there (.there (.there .here)))) (H.get (.there (.there .here))) hyl hM (by omega)) ?_; rintro _ w120 ⟨u5, M5, rfl, hO5, H1⟩; rw [hyg] at hO5; have h120 := H.seqO hO5 H1; clear H H1 hO5; obtain ⟨hO5, H⟩ := h120; obtain ⟨b5, cap5, sp5, rfl, hb5, rfl, hsp5, hcap5⟩ := OwnS.pos hO5 (by omega); rw [List.cons_append, List.nil_append] at H)
      refine WL_stepM rfl (R_mv) ?_
      refine WL_step rfl (R_extract rfl rfl) ?_
      refine WL_step rfl (R_extract rfl rfl) ?_
      refine WL_stepM rfl (R_as) ?_
      refine WL_stepM rfl (R_as) ?_
      refine WL_nil ?_
      refine W_seq ?_
      refine W_region_l ?_
      refine WL_stepM rfl (R_mv) ?_
      refine WL_step rfl (R_eq_t rfl rfl (by omega)) ?_
      refine WL_stepM rfl (R_mv) ?_
      refine WL_guard_t rfl rfl ?_
      refine WL_stepM rfl (R_mv) ?_
      refine WL_guard_t rfl rfl ?_
      refine WL_step rfl (R_conv_bs (xs := xs) Try.underlying26 Try.underlying5 Try.underlying9 rfl (RdS.own hO5 (fun q hq => H.held q (by simp [List.mem_singleton.1 hq])))) ?_
      refine WL_guard_t rfl rfl ?_
      refine WL_stepM rfl (R_mv) ?_
      refine WL_guard_t rfl rfl ?_
      refine WL_step rfl (R_conv_bs (xs := xs) Try.underlying26 Try.underlying5 Try.underlying9 rfl (hl.monoN H (by repeat' first | exact kNil | apply kCons | apply kApp | assumption | exact OwnS.keys (by assumption)))) ?_
      refine WL_guard_t rfl rfl ?_
      refine WL_step rfl (R_eq_S_t rfl rfl rfl) ?_
      refine WL_stepM rfl (R_pk_t rfl) ?_
      refine WL_stepM rfl (R_mv) ?_
      refine WL_guard_t rfl rfl ?_
      (refine WL_call rfl (R_call rfl Try.call18 rfl) (awake_ret _) ?_; rintro _ w145 ⟨rfl, H1⟩; replace H := H.seq0 H1; clear H1)
      refine WL_stepM rfl (R_pk_t rfl) ?_
      refine WL_stepM rfl (R_as) ?_
      refine WL_nil ?_
      refine W_ret ?_
      exact ⟨_, rfl, rfl, H.none (by repeat' first | exact kNil | apply kCons | apply kApp | assumption | exact OwnS.keys (by assumption))⟩
end Go.Proofs.Ytjkkfahjgaidbaa.Mem
