/-
  The law MemPlays: what its calls come to.
-/
import Derived.Test.YtjkkfahjgaidbaaMemRow
namespace Go.Proofs.Ytjkkfahjgaidbaa.Mem
open Go Go.Proofs Go.Proofs.Ytjkkfahjgaidbaa.Fx
set_option maxRecDepth 100000
set_option linter.unusedVariables false
set_option linter.unusedSimpArgs false
set_option maxHeartbeats 2000000

theorem put_nil (us : List UInt8) (i : Nat) : put us [] i = us := by unfold put; simp
theorem zstep {us : List UInt8} {j i : Nat} (hj : j < 64) (h : i + 64 ≤ us.length) : (put us (List.replicate j 0) i).set (i + j) 0 = put us (List.replicate (j + 1) 0) i := by
  apply List.ext_getElem?
  intro n
  unfold put
  simp only [List.getElem?_set, List.getElem?_append, List.length_append, List.length_take, List.length_replicate, List.getElem?_take, List.getElem?_replicate, List.getElem?_drop, List.length_drop]
  rw [Nat.min_eq_left (by omega)]
  (repeat' split) <;> first | rfl | omega | (congr 1; omega)

theorem plays_ret {xs : List MOp} {l : Value} {w : World} (a : Int) (hl : RdR mopC w l xs) (hb : xs.length ≤ 9223372036854775807) (hg : ∀ x ∈ xs, x.ok w) :
    Ret Try.prog 8 #[I a, l] w fun v w' => v = .bool true ∧ Hp w [] w' := by
  refine Ret_of_W (args := [_, _]) Try.func8 rfl Try.ntmps8 Try.results8 (by simp) ?_
  have H := Hp.refl w
  obtain ⟨ao, ca, rfl⟩ := hl.form
  have hsa : ((szOf a : Nat) : Int) = 64 * min (max a 0) 256 := by unfold szOf; omega
  obtain ⟨fr, hfr, hfr3⟩ : ∃ fr : Nat, a % 4 = (fr : Int) ∧ fr ≤ 3 := ⟨(a % 4).toNat, by omega, by omega⟩
  obtain ⟨K, hK⟩ : ∃ K, K = 64 * fr := ⟨_, rfl⟩
  have hKs : szOf fr = K := by unfold szOf; omega
  refine W_seq ?_
  refine W_region_l ?_
  refine WL_stepM rfl (R_as) ?_
  refine WL_nil ?_
  refine W_seq ?_
  refine W_region_l ?_
  refine WL_stepM rfl (R_mv) ?_
  (refine WL_call rfl (R_call rfl Try.call13 rfl) (new_ret a _) ?_; rintro _ w8 ⟨pX, bX, rfl, H1, hpX, hbX⟩; replace H := H.seqN H1 (kCons hpX (kCons hbX kNil)); clear H1)
  refine WL_stepM rfl (R_as) ?_
  refine WL_nil ?_
  refine W_seq ?_
  refine W_seq ?_
  refine W_region_l ?_
  refine WL_stepM rfl (R_mv) ?_
  refine WL_step rfl (R_eq_ptr_nil Try.underlying22 rfl rfl) ?_
  refine WL_stepM rfl (R_mv) ?_
  refine WL_guard_t rfl rfl ?_
  (refine WL_call rfl (R_call rfl Try.call18 rfl) (awake_ret _) ?_; rintro _ w18 ⟨rfl, H1⟩; replace H := H.seq0 H1; clear H1)
  refine WL_guard_t rfl rfl ?_
  refine WL_step rfl (R_not_t rfl) ?_
  refine WL_stepM rfl (R_pk_f rfl) ?_
  refine WL_stepM rfl (R_mv) ?_
  refine WL_guard_t rfl rfl ?_
  refine WL_stepM rfl (R_mv) ?_
  refine WL_guard_t rfl rfl ?_
  (refine WL_call rfl (R_call rfl Try.call22 rfl) (size2_ret (H.get .here)) ?_; rintro _ w26 ⟨rfl, H1⟩; replace H := H.seq0 H1; clear H1)
  refine WL_guard_t rfl rfl ?_
  refine WL_stepM rfl (R_mv) ?_
  refine WL_guard_t rfl rfl ?_
  refine WL_step rfl (R_max rfl rfl rfl) ?_
  refine WL_guard_t rfl rfl ?_
  refine WL_step rfl (R_min rfl rfl rfl) ?_
  refine WL_guard_t rfl rfl ?_
  refine WL_step rfl (R_mul rfl rfl (w_i64 (by omega))) ?_
  refine WL_guard_t rfl rfl ?_
  refine WL_step rfl (R_ne_f rfl rfl (by omega)) ?_
  refine WL_stepM rfl (R_pk_f rfl) ?_
  refine WL_nil ?_
  refine W_cond_f rfl ?_
  refine W_skip ?_
  refine W_seq ?_
  refine W_region_l ?_
  refine WL_stepM rfl (R_mv) ?_
  refine WL_step rfl (R_bits rfl rfl (by simp) ((and_mask_i64 2 4 (by decide) rfl (by decide)).trans hfr)) ?_
  refine WL_stepM rfl (R_as) ?_
  refine WL_nil ?_
  refine W_seq ?_
  refine W_region_l ?_
  refine WL_stepM rfl (R_mv) ?_
  (replace H := H.none (kCons hpX (kCons hbX kNil)); have hszw := H.size; refine WL_call rfl (R_call rfl Try.call13 rfl) (new_ret fr _) ?_; rintro _ w50 ⟨p, b, rfl, H1, hp, hb⟩; rw [hKs, ← zmap] at H1; replace H := H.seqN H1 (kCons hp (kCons hb kNil)); replace hp := Nat.le_trans hszw hp; replace hb := Nat.le_trans hszw hb; clear H1 hszw)
  refine WL_stepM rfl (R_as) ?_
  refine WL_nil ?_
  refine W_seq ?_
  refine W_seq ?_
  refine W_region_l ?_
  refine WL_stepM rfl (R_mv) ?_
  refine WL_step rfl (R_eq_ptr_nil Try.underlying22 rfl rfl) ?_
  refine WL_nil ?_
  refine W_cond_f rfl ?_
  refine W_skip ?_
  refine W_seq ?_
  refine W_region_l ?_
  refine WL_stepM rfl (R_mv) ?_
  refine WL_step rfl (R_mul (r := (K : Int)) rfl rfl (by rw [w_i64 (by omega)]; omega)) ?_
  (refine WL_effn rfl (E_makeSlice H Try.underlying26 Try.sizeOf5 Try.typeInfo5 Try.zeroValue5 rfl rfl rfl (by omega) (by omega) (by omega) (by simp only [Try.t5]; omega)) ?_; clear H; intro bw w65 hbw H; rw [Int.toNat_natCast, ← zmap] at H; rw [Int.toNat_natCast])
  refine WL_stepM rfl (R_as) ?_
  refine WL_nil ?_
  refine W_seq ?_
  refine W_seq ?_
  refine W_region_l ?_
  refine WL_stepM rfl (R_as) ?_
  refine WL_nil ?_
  refine W_block ?_
  refine W_loopS [(4, 4), (7, 24), (51, 245)] (fun (k : Nat) E w' => ∃ us : List UInt8, k ≤ xs.length ∧ k ≤ 60 ∧ us.length = K ∧ E 7 = I k ∧ Hp w [(bw, blk (us.map U) 5), (p, blk [sl b 0 K K] 88), (b, blk (us.map U) 5)] w') (fun k => 60 - k) 0 ?e0 ?r0
  · exact ⟨List.replicate K 0, by omega, by omega, by simp, rfl, H⟩
  · (clear H; rintro k E w1 ⟨us, hk, hk2, hul, h0, H⟩; refine W_kn h0 ?_)
    refine W_seq ?_
    refine W_seq ?_
    refine W_region_l ?_
    refine WL_stepM rfl (R_mv) ?_
    refine WL_stepM rfl (R_mv) ?_
    refine WL_step rfl (R_len_slice Try.underlying42 rfl) ?_
    refine WL_step rfl (R_lt rfl rfl) ?_
    refine WL_stepM rfl (R_mv) ?_
    apply WL_andK 3 55 58 [(56, 58)] H
    case hc => rfl
    case h1 =>
      intro h84
      refine WL_guard_t rfl rfl ?_
      refine WL_stepM rfl (R_mv) ?_
      refine WL_guard_t rfl rfl ?_
      refine WL_step rfl (R_lt rfl rfl) ?_
      refine WL_stepM rfl (R_pk_t rfl) ?_
      refine WL_nil ?_
      exact ⟨(same_mov rfl (same_updo rfl (same_mov rfl Same.refl))), rfl, H⟩
    case h0 =>
      intro h84
      refine WL_guard_f rfl rfl (by decide) ?_
      refine WL_guard_f rfl rfl (by decide) ?_
      refine WL_stepM rfl (R_pk_f rfl) ?_
      refine WL_nil ?_
      exact ⟨(same_mov rfl (same_updo rfl (same_updo rfl Same.refl))), rfl, H⟩
    case h2 =>
      (clear H; intro E84 w84 H)
      refine WL_nil ?_
      refine W_if rfl (fun h98 => ?_) (fun h98 => ?_)
      · refine W_skip ?_
        refine W_seq ?_
        refine W_block ?_
        refine W_seq ?_
        (obtain ⟨⟨oi, oa, on, ow, ov, obs⟩, ho⟩ : ∃ o, xs[k]? = some o := ⟨_, List.getElem?_eq_getElem (by omega)⟩; obtain ⟨hrb, hlb, how⟩ := hg _ (List.mem_of_getElem? ho); simp only at hrb hlb how; obtain ⟨ba, bcap, hov⟩ := hrb.form; rw [List.length_map] at hov; subst hov; obtain ⟨bz, oz, rfl, hc⟩ := hl.cell mopC_len ho) <;> refine W_region_l ?_
        refine WL_stepM rfl (R_mv) ?_
        refine WL_stepM rfl (R_mv) ?_
        refine WL_step rfl (R_indexAddr Try.underlying42 Try.sizeOf45 rfl rfl (by omega) (by omega) idx_castn) ?_
        refine WL_step rfl (R_loadA_cell (vs := [I oi, I oa, I on, .int .u32 ow, .slice ba obs.length bcap]) Try.isAgg45 Try.sizeOf45 rfl (fun j v hj => H.cellN (hc j v hj) (by repeat' first | exact kNil | apply kCons | apply kApp | assumption | exact OwnS.keys (by assumption))) rfl) ?_
        (refine WL_effn rfl (E_alloc H Try.zeroValue45 rfl) ?_; clear H; intro bo w108 hbo H)
        (refine WL_effu rfl (E_storeA (vs := [(.int _ _), (.int _ _), (.int _ _), (.int _ _), (.slice _ _ _)]) H Try.sizeOf45 rfl rfl (by simp [Value.oneCell']) .here (by simp)) ?_; clear H; intro w109 H)
        refine WL_nil ?_
        refine W_seq ?_
        refine W_seq ?_
        refine W_region_l ?_
        refine WL_step rfl (R_fieldAddr (off' := 4) Try.underlying45 rfl Try.sizeOf26 (by decide) rfl rfl) ?_
        refine WL_step rfl (R_load Try.isAgg26 rfl (H.get .here) rfl) ?_
        refine WL_step rfl (R_len_slice Try.underlying26 rfl) ?_
        refine WL_step rfl (R_gt rfl rfl) ?_
        refine WL_nil ?_
        refine W_if rfl (fun h119 => ?_) (fun h119 => ?_)
        · refine W_seq ?_
          refine W_region_l ?_
          refine WL_stepM rfl (R_as) ?_
          refine WL_nil ?_
          refine W_ret ?_
          exact ⟨_, rfl, rfl, H.none (by repeat' first | exact kNil | apply kCons | apply kApp | assumption | exact OwnS.keys (by assumption))⟩
        · refine W_skip ?_
          refine W_seqS [(4, 4), (9, 22), (69, 229)] (fun E w' => ∃ us : List UInt8, us.length = K ∧ Hp w [(bo, blk [I oi, I oa, I on, .int .u32 ow, .slice ba obs.length bcap] 45), (bw, blk (us.map U) 5), (p, blk [sl b 0 K K] 88), (b, blk (us.map U) 5)] w') ?c15 ?k15
          · refine W_seq ?_
            refine W_region_l ?_
            refine WL_step rfl (R_fieldAddr (off' := 0) Try.underlying45 rfl Try.sizeOf3 (by decide) rfl rfl) ?_
            refine WL_step rfl (R_load Try.isAgg3 rfl (H.get .here) rfl) ?_
            refine WL_nil ?_
            refine W_block ?_
            refine W_seq ?_
            refine W_region_l ?_
            refine WL_step rfl (R_eq rfl rfl) ?_
            refine WL_stepM rfl (R_as) ?_
            refine WL_nil ?_
            refine W_if rfl (fun h139 => ?_) (fun h139 => ?_)
            · refine W_seq ?_
              ((by_cases hin : 0 ≤ oa ∧ 0 ≤ on ∧ oa ≤ K ∧ on ≤ K - oa; obtain ⟨i, rfl⟩ : ∃ i : Nat, oa = (i : Int) := ⟨oa.toNat, by omega⟩; obtain ⟨j, rfl⟩ : ∃ j : Nat, on = (j : Int) := ⟨on.toNat, by omega⟩)) <;> refine W_region_l ?_
              · refine WL_stepM rfl (R_mv) ?_
                refine WL_step rfl (R_fieldAddr (off' := 1) Try.underlying45 rfl Try.sizeOf3 (by decide) rfl rfl) ?_
                refine WL_step rfl (R_load Try.isAgg3 rfl (H.get .here) rfl) ?_
                refine WL_step rfl (R_fieldAddr (off' := 2) Try.underlying45 rfl Try.sizeOf3 (by decide) rfl rfl) ?_
                refine WL_step rfl (R_load Try.isAgg3 rfl (H.get .here) rfl) ?_
                (refine WL_call rfl (R_call rfl Try.call15 rfl) (load_yes i j (H.get (.there (.there .here))) (H.get (.there (.there (.there .here)))) hul (by omega) (by omega)) ?_; rintro _ w147 ⟨u4, M4, rfl, hO4, H1⟩; have h147 := H.seqO hO4 H1; clear H H1 hO4; obtain ⟨hO4, H⟩ := h147; have hO5 := hO4; obtain ⟨a4, c4, rfl⟩ := hO4.form)
                refine WL_stepM rfl (R_mv) ?_
                refine WL_step rfl (R_extract rfl rfl) ?_
                refine WL_step rfl (R_extract rfl rfl) ?_
                refine WL_stepM rfl (R_as) ?_
                refine WL_stepM rfl (R_as) ?_
                refine WL_nil ?_
                refine W_seq ?_
                refine W_region_l ?_
                refine WL_stepM rfl (R_mv) ?_
                refine WL_step rfl (R_fieldAddr (off' := 1) Try.underlying45 rfl Try.sizeOf3 (by decide) rfl rfl) ?_
                refine WL_step rfl (R_load Try.isAgg3 rfl (H.get (.app _ .here)) rfl) ?_
                refine WL_step rfl (R_fieldAddr (off' := 2) Try.underlying45 rfl Try.sizeOf3 (by decide) rfl rfl) ?_
                refine WL_step rfl (R_load Try.isAgg3 rfl (H.get (.app _ .here)) rfl) ?_
                (refine WL_call rfl (R_call rfl Try.call23 rfl) (rload_yes i j (H.get (At.app _ (.there .here))) hul (by omega) (by omega)) ?_; rintro _ w161 ⟨rfl, H1⟩; replace H := H.seq0 H1; clear H1)
                refine WL_stepM rfl (R_mv) ?_
                refine WL_step rfl (R_extract rfl rfl) ?_
                refine WL_step rfl (R_extract rfl rfl) ?_
                refine WL_stepM rfl (R_as) ?_
                refine WL_stepM rfl (R_as) ?_
                refine WL_nil ?_
                refine W_seq ?_
                refine W_region_l ?_
                refine WL_stepM rfl (R_mv) ?_
                refine WL_step rfl (R_conv_bs Try.underlying26 Try.underlying5 Try.underlying9 rfl (RdS.own hO5 (fun p hp => H.held p (by simp [hp])))) ?_
                refine WL_stepM rfl (R_mv) ?_
                refine WL_step rfl (R_ne_S_f rfl rfl rfl) ?_
                refine WL_stepM rfl (R_mv) ?_
                refine WL_guard_t rfl rfl ?_
                refine WL_stepM rfl (R_mv) ?_
                refine WL_guard_t rfl rfl ?_
                refine WL_stepM rfl (R_mv) ?_
                refine WL_guard_t rfl rfl ?_
                refine WL_step rfl (R_ne_f rfl rfl (by omega)) ?_
                refine WL_stepM rfl (R_pk_f rfl) ?_
                refine WL_nil ?_
                refine W_cond_f rfl ?_
                refine W_skip ?_
                exact ⟨(same_mov rfl (same_updo rfl (same_mov rfl (same_mov rfl (same_mov rfl (same_updo rfl (same_mov rfl (same_updo rfl (same_mov rfl (same_mov rfl (same_mov rfl (same_updo rfl (same_updo rfl (same_mov rfl (same_updo rfl (same_updo rfl (same_updo rfl (same_updo rfl (same_updo rfl (same_mov rfl (same_mov rfl (same_mov rfl (same_updo rfl (same_updo rfl (same_mov rfl (same_updo rfl (same_updo rfl (same_updo rfl (same_updo rfl (same_updo rfl (same_mov rfl (same_know rfl (same_mov rfl (same_updo rfl (same_updo rfl (same_updo rfl Same.refl)))))))))))))))))))))))))))))))))))), us, hul, Hp.dropN H hO5.keys⟩
              · refine WL_stepM rfl (R_mv) ?_
                refine WL_step rfl (R_fieldAddr (off' := 1) Try.underlying45 rfl Try.sizeOf3 (by decide) rfl rfl) ?_
                refine WL_step rfl (R_load Try.isAgg3 rfl (H.get .here) rfl) ?_
                refine WL_step rfl (R_fieldAddr (off' := 2) Try.underlying45 rfl Try.sizeOf3 (by decide) rfl rfl) ?_
                refine WL_step rfl (R_load Try.isAgg3 rfl (H.get .here) rfl) ?_
                (refine WL_call rfl (R_call rfl Try.call15 rfl) (load_no oa on (H.get (.there (.there .here))) hul (by omega) (by rw [hul]; exact hin)) ?_; rintro _ w191 ⟨rfl, H1⟩; replace H := H.seq0 H1; clear H1)
                refine WL_stepM rfl (R_mv) ?_
                refine WL_step rfl (R_extract rfl rfl) ?_
                refine WL_step rfl (R_extract rfl rfl) ?_
                refine WL_stepM rfl (R_as) ?_
                refine WL_stepM rfl (R_as) ?_
                refine WL_nil ?_
                refine W_seq ?_
                refine W_region_l ?_
                refine WL_stepM rfl (R_mv) ?_
                refine WL_step rfl (R_fieldAddr (off' := 1) Try.underlying45 rfl Try.sizeOf3 (by decide) rfl rfl) ?_
                refine WL_step rfl (R_load Try.isAgg3 rfl (H.get .here) rfl) ?_
                refine WL_step rfl (R_fieldAddr (off' := 2) Try.underlying45 rfl Try.sizeOf3 (by decide) rfl rfl) ?_
                refine WL_step rfl (R_load Try.isAgg3 rfl (H.get .here) rfl) ?_
                (refine WL_call rfl (R_call rfl Try.call23 rfl) (rload_no oa on (by omega) hin) ?_; rintro _ w205 ⟨rfl, H1⟩; replace H := H.seq0 H1; clear H1)
                refine WL_stepM rfl (R_mv) ?_
                refine WL_step rfl (R_extract rfl rfl) ?_
                refine WL_step rfl (R_extract rfl rfl) ?_
                refine WL_stepM rfl (R_as) ?_
                refine WL_stepM rfl (R_as) ?_
                refine WL_nil ?_
                refine W_seq ?_
                refine W_region_l ?_
                refine WL_stepM rfl (R_mv) ?_
                refine WL_step rfl (R_conv_bs (xs := []) Try.underlying26 Try.underlying5 Try.underlying9 rfl RdS.nil) ?_
                refine WL_stepM rfl (R_mv) ?_
                refine WL_step rfl (R_ne_S_f rfl rfl rfl) ?_
                refine WL_stepM rfl (R_mv) ?_
                refine WL_guard_t rfl rfl ?_
                refine WL_stepM rfl (R_mv) ?_
                refine WL_guard_t rfl rfl ?_
                refine WL_stepM rfl (R_mv) ?_
                refine WL_guard_t rfl rfl ?_
                refine WL_step rfl (R_ne_f rfl rfl (by omega)) ?_
                refine WL_stepM rfl (R_pk_f rfl) ?_
                refine WL_nil ?_
                refine W_cond_f rfl ?_
                refine W_skip ?_
                exact ⟨(same_mov rfl (same_updo rfl (same_mov rfl (same_mov rfl (same_mov rfl (same_updo rfl (same_mov rfl (same_updo rfl (same_mov rfl (same_mov rfl (same_mov rfl (same_updo rfl (same_updo rfl (same_mov rfl (same_updo rfl (same_updo rfl (same_updo rfl (same_updo rfl (same_updo rfl (same_mov rfl (same_mov rfl (same_mov rfl (same_updo rfl (same_updo rfl (same_mov rfl (same_updo rfl (same_updo rfl (same_updo rfl (same_updo rfl (same_updo rfl (same_mov rfl (same_know rfl (same_mov rfl (same_updo rfl (same_updo rfl (same_updo rfl Same.refl)))))))))))))))))))))))))))))))))))), us, hul, H⟩
            · refine W_seq ?_
              refine W_region_l ?_
              refine WL_step rfl (R_eq rfl rfl) ?_
              refine WL_stepM rfl (R_as) ?_
              refine WL_nil ?_
              refine W_if rfl (fun h235 => ?_) (fun h235 => ?_)
              · refine W_seq ?_
                ((by_cases hin : 0 ≤ oa ∧ oa ≤ K ∧ (obs.length : Int) ≤ K - oa; obtain ⟨i, rfl⟩ : ∃ i : Nat, oa = (i : Int) := ⟨oa.toNat, by omega⟩; skip; skip) <;> ((first | refine W_draw (KH w [(bo, blk [I oi, I oa, I on, .int .u32 ow, .slice ba obs.length bcap] 45)]) (fun _ => false) (by kernel_rfl) H ?_ | refine W_draw (KH w [(bo, blk [I oi, I (i : Int), I on, .int .u32 ow, .slice ba obs.length bcap] 45)]) (fun _ => false) (by kernel_rfl) H ?_); clear H; intro w237 H))
                · refine WA_takeM 0 rfl rfl rfl (by kernel_rfl) (by kernel_rfl) (H.kh (by simp) (by repeat' first | exact kNil | apply kCons | apply kApp | assumption | exact OwnS.keys (by assumption))) (fun _ hC => R_mv) ?_
                  refine WA_take 1 rfl rfl rfl (by kernel_rfl) (by kernel_rfl) (H.kh (by simp) (by repeat' first | exact kNil | apply kCons | apply kApp | assumption | exact OwnS.keys (by assumption))) (fun _ hC => R_fieldAddr (off' := 1) Try.underlying45 rfl Try.sizeOf3 (by decide) rfl rfl) ?_
                  refine WA_take 2 rfl rfl rfl (by kernel_rfl) (by kernel_rfl) (H.kh (by simp) (by repeat' first | exact kNil | apply kCons | apply kApp | assumption | exact OwnS.keys (by assumption))) (fun _ hC => R_load Try.isAgg3 rfl (hC.get .here) rfl) ?_
                  refine WA_take 3 rfl rfl rfl (by kernel_rfl) (by kernel_rfl) (H.kh (by simp) (by repeat' first | exact kNil | apply kCons | apply kApp | assumption | exact OwnS.keys (by assumption))) (fun _ hC => R_fieldAddr (off' := 4) Try.underlying45 rfl Try.sizeOf26 (by decide) rfl rfl) ?_
                  refine WA_take 4 rfl rfl rfl (by kernel_rfl) (by kernel_rfl) (H.kh (by simp) (by repeat' first | exact kNil | apply kCons | apply kApp | assumption | exact OwnS.keys (by assumption))) (fun _ hC => R_load Try.isAgg26 rfl (hC.get .here) rfl) ?_
                  refine WA_takeM 6 rfl rfl rfl (by kernel_rfl) (by kernel_rfl) (H.kh (by simp) (by repeat' first | exact kNil | apply kCons | apply kApp | assumption | exact OwnS.keys (by assumption))) (fun _ hC => R_mv) ?_
                  refine WA_take 7 rfl rfl rfl (by kernel_rfl) (by kernel_rfl) (H.kh (by simp) (by repeat' first | exact kNil | apply kCons | apply kApp | assumption | exact OwnS.keys (by assumption))) (fun _ hC => R_fieldAddr (off' := 1) Try.underlying45 rfl Try.sizeOf3 (by decide) rfl rfl) ?_
                  refine WA_take 8 rfl rfl rfl (by kernel_rfl) (by kernel_rfl) (H.kh (by simp) (by repeat' first | exact kNil | apply kCons | apply kApp | assumption | exact OwnS.keys (by assumption))) (fun _ hC => R_load Try.isAgg3 rfl (hC.get .here) rfl) ?_
                  refine WA_take 9 rfl rfl rfl (by kernel_rfl) (by kernel_rfl) (H.kh (by simp) (by repeat' first | exact kNil | apply kCons | apply kApp | assumption | exact OwnS.keys (by assumption))) (fun _ hC => R_fieldAddr (off' := 4) Try.underlying45 rfl Try.sizeOf26 (by decide) rfl rfl) ?_
                  refine WA_take 10 rfl rfl rfl (by kernel_rfl) (by kernel_rfl) (H.kh (by simp) (by repeat' first | exact kNil | apply kCons | apply kApp | assumption | exact OwnS.keys (by assumption))) (fun _ hC => R_load Try.isAgg26 rfl (hC.get .here) rfl) ?_
                  refine WA_take 11 rfl rfl rfl (by kernel_rfl) (by kernel_rfl) (H.kh (by simp) (by repeat' first | exact kNil | apply kCons | apply kApp | assumption | exact OwnS.keys (by assumption))) (fun _ hC => R_conv_bs (xs := obs) Try.underlying26 Try.underlying5 Try.underlying9 rfl (hrb.same hC.old)) ?_
                  refine WA_one (i := 5) (by kernel_rfl) ?_
                  (refine WI_call rfl (.inl rfl) (R_call rfl Try.call14 rfl) (store_yes (xs := us) (ys := obs) i (H.get (.there (.there .here))) (H.get (.there (.there (.there .here)))) hul (by omega) (hrb.monoN H (by repeat' first | exact kNil | apply kCons | apply kApp | assumption | exact OwnS.keys (by assumption))) (by omega)) (fun _ _ hR _ => (H.seq hR.2 (okSeq_set (.there (.there (.there .here))) okSeq_nil)).kh (by simp) (by repeat' first | exact kNil | apply kCons | apply kApp | assumption | exact OwnS.keys (by assumption))) ?_; rintro _ w250 ⟨rfl, H1⟩; replace H := H.seq H1 (okSeq_set (.there (.there (.there .here))) okSeq_nil); clear H1)
                  refine WA_one (i := 12) (by kernel_rfl) ?_
                  (refine WI_call rfl (.inl rfl) (R_call rfl Try.call24 rfl) (rstore_yes (xs := us) (ys := obs) i (H.get (.there .here)) hul (by omega) (by omega)) (fun _ _ hR _ => (H.seq hR.2 (okSeq_set (.there .here) okSeq_nil)).kh (by simp) (by repeat' first | exact kNil | apply kCons | apply kApp | assumption | exact OwnS.keys (by assumption))) ?_; rintro _ w252 ⟨rfl, H1⟩; replace H := H.seq H1 (okSeq_set (.there .here) okSeq_nil); clear H1)
                  refine WA_take 13 rfl rfl rfl (by kernel_rfl) (by kernel_rfl) (H.kh (by simp) (by repeat' first | exact kNil | apply kCons | apply kApp | assumption | exact OwnS.keys (by assumption))) (fun _ hC => R_ne_f rfl rfl (by omega)) ?_
                  refine WA_done (by kernel_rfl) ?_
                  refine W_cond_f rfl ?_
                  refine W_skip ?_
                  exact ⟨(same_updo rfl (same_updo rfl (same_updo rfl (same_updo rfl (same_updo rfl (same_updo rfl (same_updo rfl (same_updo rfl (same_mov rfl (same_updo rfl (same_updo rfl (same_updo rfl (same_updo rfl (same_mov rfl (same_know rfl (same_mov rfl (same_updo rfl (same_know rfl (same_mov rfl (same_updo rfl (same_updo rfl (same_updo rfl Same.refl)))))))))))))))))))))), put us obs i, (put_length (by omega)).trans hul, H⟩
                · refine WA_takeM 0 rfl rfl rfl (by kernel_rfl) (by kernel_rfl) (H.kh (by simp) (by repeat' first | exact kNil | apply kCons | apply kApp | assumption | exact OwnS.keys (by assumption))) (fun _ hC => R_mv) ?_
                  refine WA_take 1 rfl rfl rfl (by kernel_rfl) (by kernel_rfl) (H.kh (by simp) (by repeat' first | exact kNil | apply kCons | apply kApp | assumption | exact OwnS.keys (by assumption))) (fun _ hC => R_fieldAddr (off' := 1) Try.underlying45 rfl Try.sizeOf3 (by decide) rfl rfl) ?_
                  refine WA_take 2 rfl rfl rfl (by kernel_rfl) (by kernel_rfl) (H.kh (by simp) (by repeat' first | exact kNil | apply kCons | apply kApp | assumption | exact OwnS.keys (by assumption))) (fun _ hC => R_load Try.isAgg3 rfl (hC.get .here) rfl) ?_
                  refine WA_take 3 rfl rfl rfl (by kernel_rfl) (by kernel_rfl) (H.kh (by simp) (by repeat' first | exact kNil | apply kCons | apply kApp | assumption | exact OwnS.keys (by assumption))) (fun _ hC => R_fieldAddr (off' := 4) Try.underlying45 rfl Try.sizeOf26 (by decide) rfl rfl) ?_
                  refine WA_take 4 rfl rfl rfl (by kernel_rfl) (by kernel_rfl) (H.kh (by simp) (by repeat' first | exact kNil | apply kCons | apply kApp | assumption | exact OwnS.keys (by assumption))) (fun _ hC => R_load Try.isAgg26 rfl (hC.get .here) rfl) ?_
                  refine WA_takeM 6 rfl rfl rfl (by kernel_rfl) (by kernel_rfl) (H.kh (by simp) (by repeat' first | exact kNil | apply kCons | apply kApp | assumption | exact OwnS.keys (by assumption))) (fun _ hC => R_mv) ?_
                  refine WA_take 7 rfl rfl rfl (by kernel_rfl) (by kernel_rfl) (H.kh (by simp) (by repeat' first | exact kNil | apply kCons | apply kApp | assumption | exact OwnS.keys (by assumption))) (fun _ hC => R_fieldAddr (off' := 1) Try.underlying45 rfl Try.sizeOf3 (by decide) rfl rfl) ?_
                  refine WA_take 8 rfl rfl rfl (by kernel_rfl) (by kernel_rfl) (H.kh (by simp) (by repeat' first | exact kNil | apply kCons | apply kApp | assumption | exact OwnS.keys (by assumption))) (fun _ hC => R_load Try.isAgg3 rfl (hC.get .here) rfl) ?_
                  refine WA_take 9 rfl rfl rfl (by kernel_rfl) (by kernel_rfl) (H.kh (by simp) (by repeat' first | exact kNil | apply kCons | apply kApp | assumption | exact OwnS.keys (by assumption))) (fun _ hC => R_fieldAddr (off' := 4) Try.underlying45 rfl Try.sizeOf26 (by decide) rfl rfl) ?_
                  refine WA_take 10 rfl rfl rfl (by kernel_rfl) (by kernel_rfl) (H.kh (by simp) (by repeat' first | exact kNil | apply kCons | apply kApp | assumption | exact OwnS.keys (by assumption))) (fun _ hC => R_load Try.isAgg26 rfl (hC.get .here) rfl) ?_
                  refine WA_take 11 rfl rfl rfl (by kernel_rfl) (by kernel_rfl) (H.kh (by simp) (by repeat' first | exact kNil | apply kCons | apply kApp | assumption | exact OwnS.keys (by assumption))) (fun _ hC => R_conv_bs (xs := obs) Try.underlying26 Try.underlying5 Try.underlying9 rfl (hrb.same hC.old)) ?_
                  refine WA_one (i := 5) (by kernel_rfl) ?_
                  (refine WI_call rfl (.inl rfl) (R_call rfl Try.call14 rfl) (store_no (xs := us) (ys := obs.map U) oa (H.get (.there (.there .here))) hul (by omega) (hrb.monoN H (by repeat' first | exact kNil | apply kCons | apply kApp | assumption | exact OwnS.keys (by assumption))) (by simp; omega) (by rw [hul, List.length_map]; exact hin)) (fun _ _ hR _ => (H.seq0 hR.2).kh (by simp) (by repeat' first | exact kNil | apply kCons | apply kApp | assumption | exact OwnS.keys (by assumption))) ?_; rintro _ w270 ⟨rfl, H1⟩; replace H := H.seq0 H1; clear H1)
                  refine WA_one (i := 12) (by kernel_rfl) ?_
                  (refine WI_call rfl (.inl rfl) (R_call rfl Try.call24 rfl) (rstore_no (ys := obs) oa (by omega) (by omega) hin) (fun _ _ hR _ => (H.seq0 hR.2).kh (by simp) (by repeat' first | exact kNil | apply kCons | apply kApp | assumption | exact OwnS.keys (by assumption))) ?_; rintro _ w272 ⟨rfl, H1⟩; replace H := H.seq0 H1; clear H1)
                  refine WA_take 13 rfl rfl rfl (by kernel_rfl) (by kernel_rfl) (H.kh (by simp) (by repeat' first | exact kNil | apply kCons | apply kApp | assumption | exact OwnS.keys (by assumption))) (fun _ hC => R_ne_f rfl rfl (by omega)) ?_
                  refine WA_done (by kernel_rfl) ?_
                  refine W_cond_f rfl ?_
                  refine W_skip ?_
                  exact ⟨(same_updo rfl (same_updo rfl (same_updo rfl (same_updo rfl (same_updo rfl (same_updo rfl (same_updo rfl (same_updo rfl (same_mov rfl (same_updo rfl (same_updo rfl (same_updo rfl (same_updo rfl (same_mov rfl (same_know rfl (same_mov rfl (same_updo rfl (same_know rfl (same_mov rfl (same_updo rfl (same_updo rfl (same_updo rfl Same.refl)))))))))))))))))))))), us, hul, H⟩
              · refine W_seq ?_
                refine W_region_l ?_
                refine WL_step rfl (R_eq rfl rfl) ?_
                refine WL_stepM rfl (R_as) ?_
                refine WL_nil ?_
                refine W_if rfl (fun h283 => ?_) (fun h283 => ?_)
                · refine W_seq ?_
                  ((by_cases hin : 0 ≤ oa ∧ oa + 4 ≤ us.length; obtain ⟨i, rfl⟩ : ∃ i : Nat, oa = (i : Int) := ⟨oa.toNat, by omega⟩; obtain ⟨l, hll⟩ : ∃ l, l = (us.drop i).take 4 := ⟨_, rfl⟩; have hl4 : l.length = 4 := (by subst hll; simp; omega); rotate_left; obtain ⟨l, hll⟩ : ∃ l : List UInt8, l = [] := ⟨_, rfl⟩; have hl4 : l.length = 0 := (by subst hll; rfl))) <;> refine W_region_l ?_
                  · refine WL_stepM rfl (R_mv) ?_
                    refine WL_step rfl (R_fieldAddr (off' := 1) Try.underlying45 rfl Try.sizeOf3 (by decide) rfl rfl) ?_
                    refine WL_step rfl (R_load Try.isAgg3 rfl (H.get .here) rfl) ?_
                    (refine WL_call rfl (R_call rfl Try.call16 rfl) (word_no (xs := us) oa (H.get (.there (.there .here))) hul (by omega) hin) ?_; rintro _ w289 ⟨rfl, H1⟩; replace H := H.seq0 H1; clear H1)
                    refine WL_stepM rfl (R_mv) ?_
                    refine WL_step rfl (R_extract rfl rfl) ?_
                    refine WL_step rfl (R_extract rfl rfl) ?_
                    refine WL_stepM rfl (R_as) ?_
                    refine WL_stepM rfl (R_as) ?_
                    refine WL_nil ?_
                    refine W_seq ?_
                    refine W_region_l ?_
                    refine WL_stepM rfl (R_mv) ?_
                    refine WL_step rfl (R_fieldAddr (off' := 1) Try.underlying45 rfl Try.sizeOf3 (by decide) rfl rfl) ?_
                    refine WL_step rfl (R_load Try.isAgg3 rfl (H.get .here) rfl) ?_
                    (refine WL_call rfl (R_call rfl Try.call23 rfl) (rload_no (N := K) oa 4 (by omega) (by omega)) ?_; rintro _ w301 ⟨rfl, H1⟩; replace H := H.seq0 H1; clear H1; rw [← hll])
                    refine WL_stepM rfl (R_mv) ?_
                    refine WL_step rfl (R_extract rfl rfl) ?_
                    refine WL_step rfl (R_extract rfl rfl) ?_
                    refine WL_stepM rfl (R_as) ?_
                    refine WL_stepM rfl (R_as) ?_
                    refine WL_nil ?_
                    refine W_seq ?_
                    refine W_region_l ?_
                    refine WL_stepM rfl (R_as) ?_
                    refine WL_nil ?_
                    refine W_seq ?_
                    refine W_seq ?_
                    refine W_region_l ?_
                    refine WL_stepM rfl (R_as) ?_
                    refine WL_nil ?_
                    refine W_block ?_
                    refine W_loopS [(17, 18), (146, 158)] (fun (j : Nat) E w' => j ≤ l.length ∧ E 18 = I j ∧ E 17 = .int .u32 (wordOf (l.take j) : Nat) ∧ Hp w [(bo, blk [I oi, I oa, I on, .int .u32 ow, .slice ba obs.length bcap] 45), (bw, blk (us.map U) 5), (p, blk [sl b 0 K K] 88), (b, blk (us.map U) 5)] w') (fun j => l.length - j) 0 ?e3 ?r3
                    · exact ⟨by omega, rfl, rfl, H⟩
                    · (clear H; rintro j E2 w1 ⟨hj, h1, h2, H⟩; refine W_kn2 h1 h2 ?_; by_cases hlt : j < l.length)
                      · refine W_seq ?_
                        refine W_seq ?_
                        refine W_region_l ?_
                        refine WL_stepM rfl (R_mv) ?_
                        refine WL_stepM rfl (R_mv) ?_
                        refine WL_step rfl (R_len_S Try.underlying9 rfl) ?_
                        refine WL_step rfl (R_lt_t rfl rfl (by omega)) ?_
                        refine WL_nil ?_
                        refine W_cond_t rfl ?_
                        refine W_skip ?_
                        refine W_seq ?_
                        refine W_block ?_
                        refine W_region_l ?_
                        refine WL_stepM rfl (R_mv) ?_
                        refine WL_step rfl (R_shl rfl rfl (by decide) (shl8_u32 _ (wordOf_small (by omega)))) ?_
                        refine WL_stepM rfl (R_mv) ?_
                        refine WL_stepM rfl (R_mv) ?_
                        refine WL_step rfl (R_index_S (u := l[j]) (i := (j : Int)) Try.underlying9 rfl rfl (by omega) (by rw [Int.toNat_natCast, List.getElem?_eq_getElem hlt])) ?_
                        refine WL_step rfl (R_conv_int Try.underlying5 Try.underlying29 rfl u8_in_u32) ?_
                        refine WL_step rfl (R_bits rfl rfl (by simp) (or_lo (wordOf (l.take j)) l[j] (wordOf_small (by omega)))) ?_
                        refine WL_stepM rfl (R_as) ?_
                        refine WL_nil ?_
                        refine W_region_l ?_
                        refine WL_stepM rfl (R_mv) ?_
                        refine WL_step rfl (R_add rfl rfl (w_i64 (by omega))) ?_
                        refine WL_stepM rfl (R_as) ?_
                        refine WL_nil ?_
                        exact ⟨(same_mov rfl (same_updo rfl (same_mov rfl (same_mov rfl (same_updo rfl (same_updo rfl (same_updo rfl (same_mov rfl (same_mov rfl (same_updo rfl (same_mov rfl (same_updo rfl (same_updo rfl (same_mov rfl (same_mov rfl same_ovr))))))))))))))), j + 1, by omega, by omega, rfl, by rw [wordOf_take hlt]; rfl, H⟩
                      · refine W_seq ?_
                        refine W_seq ?_
                        refine W_region_l ?_
                        refine WL_stepM rfl (R_mv) ?_
                        refine WL_stepM rfl (R_mv) ?_
                        refine WL_step rfl (R_len_S Try.underlying9 rfl) ?_
                        refine WL_step rfl (R_lt_f rfl rfl (by omega)) ?_
                        refine WL_nil ?_
                        refine W_cond_f rfl ?_
                        refine W_exit ?_
                        refine (if_pos rfl).mpr ?_
                        refine W_seq ?_
                        ((have hlt2 : l.take j = l := List.take_of_length_le (by omega); rw [hlt2])) <;> refine W_region_l ?_
                        refine WL_stepM rfl (R_mv) ?_
                        refine WL_stepM rfl (R_mv) ?_
                        refine WL_step rfl (R_ne_f rfl rfl (by rw [hll]; rfl)) ?_
                        refine WL_stepM rfl (R_mv) ?_
                        refine WL_guard_t rfl rfl ?_
                        refine WL_stepM rfl (R_mv) ?_
                        refine WL_guard_t rfl rfl ?_
                        refine WL_stepM rfl (R_mv) ?_
                        refine WL_guard_t rfl rfl ?_
                        refine WL_step rfl (R_ne_f rfl rfl (by omega)) ?_
                        refine WL_stepM rfl (R_pk_f rfl) ?_
                        refine WL_nil ?_
                        refine W_cond_f rfl ?_
                        refine W_skip ?_
                        exact ⟨(same_mov rfl (same_updo rfl (same_mov rfl (same_mov rfl (same_mov rfl (same_updo rfl (same_mov rfl (same_mov rfl (same_updo rfl (same_updo rfl (same_mov rfl (same_mov rfl (same_in rfl (same_mov rfl (same_mov rfl (same_mov rfl (same_mov rfl (same_updo rfl (same_updo rfl (same_mov rfl (same_updo rfl (same_updo rfl (same_updo rfl (same_mov rfl (same_mov rfl (same_mov rfl (same_updo rfl (same_updo rfl (same_mov rfl (same_updo rfl (same_updo rfl (same_updo rfl (same_mov rfl (same_know rfl (same_mov rfl (same_updo rfl (same_know rfl (same_mov rfl (same_updo rfl (same_know rfl (same_mov rfl (same_updo rfl (same_updo rfl (same_updo rfl Same.refl)))))))))))))))))))))))))))))))))))))))))))), us, hul, H⟩
                  · refine WL_stepM rfl (R_mv) ?_
                    refine WL_step rfl (R_fieldAddr (off' := 1) Try.underlying45 rfl Try.sizeOf3 (by decide) rfl rfl) ?_
                    refine WL_step rfl (R_load Try.isAgg3 rfl (H.get .here) rfl) ?_
                    (refine WL_call rfl (R_call rfl Try.call16 rfl) (word_yes (xs := us) i (H.get (.there (.there .here))) (H.get (.there (.there (.there .here)))) hul (by omega) (by omega)) ?_; rintro _ w379 ⟨rfl, H1⟩; replace H := H.seq0 H1; clear H1; rw [← hll])
                    refine WL_stepM rfl (R_mv) ?_
                    refine WL_step rfl (R_extract rfl rfl) ?_
                    refine WL_step rfl (R_extract rfl rfl) ?_
                    refine WL_stepM rfl (R_as) ?_
                    refine WL_stepM rfl (R_as) ?_
                    refine WL_nil ?_
                    refine W_seq ?_
                    refine W_region_l ?_
                    refine WL_stepM rfl (R_mv) ?_
                    refine WL_step rfl (R_fieldAddr (off' := 1) Try.underlying45 rfl Try.sizeOf3 (by decide) rfl rfl) ?_
                    refine WL_step rfl (R_load Try.isAgg3 rfl (H.get .here) rfl) ?_
                    (refine WL_call rfl (R_call rfl Try.call23 rfl) (rload_yes (xs := us) i 4 (H.get (.there .here)) hul (by omega) (by omega)) ?_; rintro _ w391 ⟨rfl, H1⟩; replace H := H.seq0 H1; clear H1; rw [← hll])
                    refine WL_stepM rfl (R_mv) ?_
                    refine WL_step rfl (R_extract rfl rfl) ?_
                    refine WL_step rfl (R_extract rfl rfl) ?_
                    refine WL_stepM rfl (R_as) ?_
                    refine WL_stepM rfl (R_as) ?_
                    refine WL_nil ?_
                    refine W_seq ?_
                    refine W_region_l ?_
                    refine WL_stepM rfl (R_as) ?_
                    refine WL_nil ?_
                    refine W_seq ?_
                    refine W_seq ?_
                    refine W_region_l ?_
                    refine WL_stepM rfl (R_as) ?_
                    refine WL_nil ?_
                    refine W_block ?_
                    refine W_loopS [(17, 18), (146, 158)] (fun (j : Nat) E w' => j ≤ l.length ∧ E 18 = I j ∧ E 17 = .int .u32 (wordOf (l.take j) : Nat) ∧ Hp w [(bo, blk [I oi, I (i : Int), I on, .int .u32 ow, .slice ba obs.length bcap] 45), (bw, blk (us.map U) 5), (p, blk [sl b 0 K K] 88), (b, blk (us.map U) 5)] w') (fun j => l.length - j) 0 ?e3b ?r3b
                    · exact ⟨by omega, rfl, rfl, H⟩
                    · (clear H; rintro j E2 w1 ⟨hj, h1, h2, H⟩; refine W_kn2 h1 h2 ?_; by_cases hlt : j < l.length)
                      · refine W_seq ?_
                        refine W_seq ?_
                        refine W_region_l ?_
                        refine WL_stepM rfl (R_mv) ?_
                        refine WL_stepM rfl (R_mv) ?_
                        refine WL_step rfl (R_len_S Try.underlying9 rfl) ?_
                        refine WL_step rfl (R_lt_t rfl rfl (by omega)) ?_
                        refine WL_nil ?_
                        refine W_cond_t rfl ?_
                        refine W_skip ?_
                        refine W_seq ?_
                        refine W_block ?_
                        refine W_region_l ?_
                        refine WL_stepM rfl (R_mv) ?_
                        refine WL_step rfl (R_shl rfl rfl (by decide) (shl8_u32 _ (wordOf_small (by omega)))) ?_
                        refine WL_stepM rfl (R_mv) ?_
                        refine WL_stepM rfl (R_mv) ?_
                        refine WL_step rfl (R_index_S (u := l[j]) (i := (j : Int)) Try.underlying9 rfl rfl (by omega) (by rw [Int.toNat_natCast, List.getElem?_eq_getElem hlt])) ?_
                        refine WL_step rfl (R_conv_int Try.underlying5 Try.underlying29 rfl u8_in_u32) ?_
                        refine WL_step rfl (R_bits rfl rfl (by simp) (or_lo (wordOf (l.take j)) l[j] (wordOf_small (by omega)))) ?_
                        refine WL_stepM rfl (R_as) ?_
                        refine WL_nil ?_
                        refine W_region_l ?_
                        refine WL_stepM rfl (R_mv) ?_
                        refine WL_step rfl (R_add rfl rfl (w_i64 (by omega))) ?_
                        refine WL_stepM rfl (R_as) ?_
                        refine WL_nil ?_
                        exact ⟨(same_mov rfl (same_updo rfl (same_mov rfl (same_mov rfl (same_updo rfl (same_updo rfl (same_updo rfl (same_mov rfl (same_mov rfl (same_updo rfl (same_mov rfl (same_updo rfl (same_updo rfl (same_mov rfl (same_mov rfl same_ovr))))))))))))))), j + 1, by omega, by omega, rfl, by rw [wordOf_take hlt]; rfl, H⟩
                      · refine W_seq ?_
                        refine W_seq ?_
                        refine W_region_l ?_
                        refine WL_stepM rfl (R_mv) ?_
                        refine WL_stepM rfl (R_mv) ?_
                        refine WL_step rfl (R_len_S Try.underlying9 rfl) ?_
                        refine WL_step rfl (R_lt_f rfl rfl (by omega)) ?_
                        refine WL_nil ?_
                        refine W_cond_f rfl ?_
                        refine W_exit ?_
                        refine (if_pos rfl).mpr ?_
                        refine W_seq ?_
                        ((have hlt2 : l.take j = l := List.take_of_length_le (by omega); rw [hlt2])) <;> refine W_region_l ?_
                        refine WL_stepM rfl (R_mv) ?_
                        refine WL_stepM rfl (R_mv) ?_
                        refine WL_step rfl (R_ne_f rfl rfl rfl) ?_
                        refine WL_stepM rfl (R_mv) ?_
                        refine WL_guard_t rfl rfl ?_
                        refine WL_stepM rfl (R_mv) ?_
                        refine WL_guard_t rfl rfl ?_
                        refine WL_stepM rfl (R_mv) ?_
                        refine WL_guard_t rfl rfl ?_
                        refine WL_step rfl (R_ne_f rfl rfl (by omega)) ?_
                        refine WL_stepM rfl (R_pk_f rfl) ?_
                        refine WL_nil ?_
                        refine W_cond_f rfl ?_
                        refine W_skip ?_
                        exact ⟨(same_mov rfl (same_updo rfl (same_mov rfl (same_mov rfl (same_mov rfl (same_updo rfl (same_mov rfl (same_mov rfl (same_updo rfl (same_updo rfl (same_mov rfl (same_mov rfl (same_in rfl (same_mov rfl (same_mov rfl (same_mov rfl (same_mov rfl (same_updo rfl (same_updo rfl (same_mov rfl (same_updo rfl (same_updo rfl (same_updo rfl (same_mov rfl (same_mov rfl (same_mov rfl (same_updo rfl (same_updo rfl (same_mov rfl (same_updo rfl (same_updo rfl (same_updo rfl (same_mov rfl (same_know rfl (same_mov rfl (same_updo rfl (same_know rfl (same_mov rfl (same_updo rfl (same_know rfl (same_mov rfl (same_updo rfl (same_updo rfl (same_updo rfl Same.refl)))))))))))))))))))))))))))))))))))))))))))), us, hul, H⟩
                · refine W_seq ?_
                  refine W_region_l ?_
                  refine WL_step rfl (R_eq rfl rfl) ?_
                  refine WL_stepM rfl (R_as) ?_
                  refine WL_nil ?_
                  refine W_if rfl (fun h471 => ?_) (fun h471 => ?_)
                  · refine W_seq ?_
                    refine W_region_l ?_
                    refine WL_step rfl (R_fieldAddr (off' := 3) Try.underlying45 rfl Try.sizeOf29 (by decide) rfl rfl) ?_
                    refine WL_step rfl (R_load Try.isAgg29 rfl (H.get .here) rfl) ?_
                    refine WL_step rfl (R_shr (r := ((ow / 16777216 : Nat) : Int)) rfl rfl (by decide) ((shr_any 16777216 (by decide)).trans (by omega))) ?_
                    refine WL_step rfl (R_conv_int Try.underlying29 Try.underlying5 rfl u8_ofNat) ?_
                    refine WL_step rfl (R_fieldAddr (off' := 3) Try.underlying45 rfl Try.sizeOf29 (by decide) rfl rfl) ?_
                    refine WL_step rfl (R_load Try.isAgg29 rfl (H.get .here) rfl) ?_
                    refine WL_step rfl (R_shr (r := ((ow / 65536 : Nat) : Int)) rfl rfl (by decide) ((shr_any 65536 (by decide)).trans (by omega))) ?_
                    refine WL_step rfl (R_conv_int Try.underlying29 Try.underlying5 rfl u8_ofNat) ?_
                    refine WL_step rfl (R_fieldAddr (off' := 3) Try.underlying45 rfl Try.sizeOf29 (by decide) rfl rfl) ?_
                    refine WL_step rfl (R_load Try.isAgg29 rfl (H.get .here) rfl) ?_
                    refine WL_step rfl (R_shr (r := ((ow / 256 : Nat) : Int)) rfl rfl (by decide) ((shr_any 256 (by decide)).trans (by omega))) ?_
                    refine WL_step rfl (R_conv_int Try.underlying29 Try.underlying5 rfl u8_ofNat) ?_
                    refine WL_step rfl (R_fieldAddr (off' := 3) Try.underlying45 rfl Try.sizeOf29 (by decide) rfl rfl) ?_
                    refine WL_step rfl (R_load Try.isAgg29 rfl (H.get .here) rfl) ?_
                    refine WL_step rfl (R_conv_int Try.underlying29 Try.underlying5 rfl u8_ofNat) ?_
                    (refine WL_effn rfl (E_buildOnes (vs := [(.int _ _), (.int _ _), (.int _ _), (.int _ _)]) H Try.underlying26 Try.sizeOf5 Try.zeroValue5 rfl rfl (by decide) rfl rfl (by simp [Value.oneCell'])) ?_; clear H; intro b489 w489 hb489 H)
                    refine WL_step rfl (R_conv_bs (xs := bytes4 ow) Try.underlying26 Try.underlying5 Try.underlying9 rfl (RdS.blk (H.get .here) rfl (by simp) (by simp))) ?_
                    refine WL_stepM rfl (R_as) ?_
                    refine WL_nil ?_
                    refine W_seq ?_
                    ((replace H := H.pop (by assumption); by_cases hin : 0 ≤ oa ∧ oa + 4 ≤ us.length; obtain ⟨i, rfl⟩ : ∃ i : Nat, oa = (i : Int) := ⟨oa.toNat, by omega⟩; skip; skip) <;> ((first | refine W_draw (KH w [(bo, blk [I oi, I oa, I on, .int .u32 ow, .slice ba obs.length bcap] 45)]) (fun _ => false) (by kernel_rfl) H ?_ | refine W_draw (KH w [(bo, blk [I oi, I (i : Int), I on, .int .u32 ow, .slice ba obs.length bcap] 45)]) (fun _ => false) (by kernel_rfl) H ?_); clear H; intro w494 H))
                    · refine WA_takeM 0 rfl rfl rfl (by kernel_rfl) (by kernel_rfl) (H.kh (by simp) (by repeat' first | exact kNil | apply kCons | apply kApp | assumption | exact OwnS.keys (by assumption))) (fun _ hC => R_mv) ?_
                      refine WA_take 1 rfl rfl rfl (by kernel_rfl) (by kernel_rfl) (H.kh (by simp) (by repeat' first | exact kNil | apply kCons | apply kApp | assumption | exact OwnS.keys (by assumption))) (fun _ hC => R_fieldAddr (off' := 1) Try.underlying45 rfl Try.sizeOf3 (by decide) rfl rfl) ?_
                      refine WA_take 2 rfl rfl rfl (by kernel_rfl) (by kernel_rfl) (H.kh (by simp) (by repeat' first | exact kNil | apply kCons | apply kApp | assumption | exact OwnS.keys (by assumption))) (fun _ hC => R_load Try.isAgg3 rfl (hC.get .here) rfl) ?_
                      refine WA_take 3 rfl rfl rfl (by kernel_rfl) (by kernel_rfl) (H.kh (by simp) (by repeat' first | exact kNil | apply kCons | apply kApp | assumption | exact OwnS.keys (by assumption))) (fun _ hC => R_fieldAddr (off' := 3) Try.underlying45 rfl Try.sizeOf29 (by decide) rfl rfl) ?_
                      refine WA_take 4 rfl rfl rfl (by kernel_rfl) (by kernel_rfl) (H.kh (by simp) (by repeat' first | exact kNil | apply kCons | apply kApp | assumption | exact OwnS.keys (by assumption))) (fun _ hC => R_load Try.isAgg29 rfl (hC.get .here) rfl) ?_
                      refine WA_takeM 6 rfl rfl rfl (by kernel_rfl) (by kernel_rfl) (H.kh (by simp) (by repeat' first | exact kNil | apply kCons | apply kApp | assumption | exact OwnS.keys (by assumption))) (fun _ hC => R_mv) ?_
                      refine WA_take 7 rfl rfl rfl (by kernel_rfl) (by kernel_rfl) (H.kh (by simp) (by repeat' first | exact kNil | apply kCons | apply kApp | assumption | exact OwnS.keys (by assumption))) (fun _ hC => R_fieldAddr (off' := 1) Try.underlying45 rfl Try.sizeOf3 (by decide) rfl rfl) ?_
                      refine WA_take 8 rfl rfl rfl (by kernel_rfl) (by kernel_rfl) (H.kh (by simp) (by repeat' first | exact kNil | apply kCons | apply kApp | assumption | exact OwnS.keys (by assumption))) (fun _ hC => R_load Try.isAgg3 rfl (hC.get .here) rfl) ?_
                      refine WA_takeM 9 rfl rfl rfl (by kernel_rfl) (by kernel_rfl) (H.kh (by simp) (by repeat' first | exact kNil | apply kCons | apply kApp | assumption | exact OwnS.keys (by assumption))) (fun _ hC => R_mv) ?_
                      refine WA_one (i := 5) (by kernel_rfl) ?_
                      (refine WI_call rfl (.inl rfl) (R_call rfl Try.call21 rfl) (setWord_yes (xs := us) i ow (H.get (.there (.there .here))) (H.get (.there (.there (.there .here)))) hul (by omega) (by omega) how) (fun _ _ hR _ => (H.seq hR.2 (okSeq_set (.there (.there (.there .here))) okSeq_nil)).kh (by simp) (by repeat' first | exact kNil | apply kCons | apply kApp | assumption | exact OwnS.keys (by assumption))) ?_; rintro _ w505 ⟨rfl, H1⟩; replace H := H.seq H1 (okSeq_set (.there (.there (.there .here))) okSeq_nil); clear H1)
                      refine WA_one (i := 10) (by kernel_rfl) ?_
                      (refine WI_call rfl (.inl rfl) (R_call rfl Try.call24 rfl) (rstore_yes (xs := us) (ys := bytes4 ow) i (H.get (.there .here)) hul (by omega) (by simp only [bytes4, List.length_cons, List.length_nil]; omega)) (fun _ _ hR _ => (H.seq hR.2 (okSeq_set (.there .here) okSeq_nil)).kh (by simp) (by repeat' first | exact kNil | apply kCons | apply kApp | assumption | exact OwnS.keys (by assumption))) ?_; rintro _ w507 ⟨rfl, H1⟩; replace H := H.seq H1 (okSeq_set (.there .here) okSeq_nil); clear H1)
                      refine WA_take 11 rfl rfl rfl (by kernel_rfl) (by kernel_rfl) (H.kh (by simp) (by repeat' first | exact kNil | apply kCons | apply kApp | assumption | exact OwnS.keys (by assumption))) (fun _ hC => R_ne_f rfl rfl (by omega)) ?_
                      refine WA_done (by kernel_rfl) ?_
                      refine W_cond_f rfl ?_
                      refine W_skip ?_
                      exact ⟨(same_updo rfl (same_updo rfl (same_updo rfl (same_mov rfl (same_updo rfl (same_updo rfl (same_mov rfl (same_updo rfl (same_updo rfl (same_updo rfl (same_updo rfl (same_mov rfl (same_mov rfl (same_updo rfl (same_updo rfl (same_updo rfl (same_updo rfl (same_updo rfl (same_updo rfl (same_updo rfl (same_updo rfl (same_updo rfl (same_updo rfl (same_updo rfl (same_updo rfl (same_updo rfl (same_updo rfl (same_updo rfl (same_updo rfl (same_updo rfl (same_know rfl (same_mov rfl (same_updo rfl (same_know rfl (same_mov rfl (same_updo rfl (same_know rfl (same_mov rfl (same_updo rfl (same_know rfl (same_mov rfl (same_updo rfl (same_updo rfl (same_updo rfl Same.refl)))))))))))))))))))))))))))))))))))))))))))), put us (bytes4 ow) i, (put_length (by simp only [bytes4, List.length_cons, List.length_nil]; omega)).trans hul, H⟩
                    · refine WA_takeM 0 rfl rfl rfl (by kernel_rfl) (by kernel_rfl) (H.kh (by simp) (by repeat' first | exact kNil | apply kCons | apply kApp | assumption | exact OwnS.keys (by assumption))) (fun _ hC => R_mv) ?_
                      refine WA_take 1 rfl rfl rfl (by kernel_rfl) (by kernel_rfl) (H.kh (by simp) (by repeat' first | exact kNil | apply kCons | apply kApp | assumption | exact OwnS.keys (by assumption))) (fun _ hC => R_fieldAddr (off' := 1) Try.underlying45 rfl Try.sizeOf3 (by decide) rfl rfl) ?_
                      refine WA_take 2 rfl rfl rfl (by kernel_rfl) (by kernel_rfl) (H.kh (by simp) (by repeat' first | exact kNil | apply kCons | apply kApp | assumption | exact OwnS.keys (by assumption))) (fun _ hC => R_load Try.isAgg3 rfl (hC.get .here) rfl) ?_
                      refine WA_take 3 rfl rfl rfl (by kernel_rfl) (by kernel_rfl) (H.kh (by simp) (by repeat' first | exact kNil | apply kCons | apply kApp | assumption | exact OwnS.keys (by assumption))) (fun _ hC => R_fieldAddr (off' := 3) Try.underlying45 rfl Try.sizeOf29 (by decide) rfl rfl) ?_
                      refine WA_take 4 rfl rfl rfl (by kernel_rfl) (by kernel_rfl) (H.kh (by simp) (by repeat' first | exact kNil | apply kCons | apply kApp | assumption | exact OwnS.keys (by assumption))) (fun _ hC => R_load Try.isAgg29 rfl (hC.get .here) rfl) ?_
                      refine WA_takeM 6 rfl rfl rfl (by kernel_rfl) (by kernel_rfl) (H.kh (by simp) (by repeat' first | exact kNil | apply kCons | apply kApp | assumption | exact OwnS.keys (by assumption))) (fun _ hC => R_mv) ?_
                      refine WA_take 7 rfl rfl rfl (by kernel_rfl) (by kernel_rfl) (H.kh (by simp) (by repeat' first | exact kNil | apply kCons | apply kApp | assumption | exact OwnS.keys (by assumption))) (fun _ hC => R_fieldAddr (off' := 1) Try.underlying45 rfl Try.sizeOf3 (by decide) rfl rfl) ?_
                      refine WA_take 8 rfl rfl rfl (by kernel_rfl) (by kernel_rfl) (H.kh (by simp) (by repeat' first | exact kNil | apply kCons | apply kApp | assumption | exact OwnS.keys (by assumption))) (fun _ hC => R_load Try.isAgg3 rfl (hC.get .here) rfl) ?_
                      refine WA_takeM 9 rfl rfl rfl (by kernel_rfl) (by kernel_rfl) (H.kh (by simp) (by repeat' first | exact kNil | apply kCons | apply kApp | assumption | exact OwnS.keys (by assumption))) (fun _ hC => R_mv) ?_
                      refine WA_one (i := 5) (by kernel_rfl) ?_
                      (refine WI_call rfl (.inl rfl) (R_call rfl Try.call21 rfl) (setWord_no (xs := us) oa ow (H.get (.there (.there .here))) hul (by omega) hin how) (fun _ _ hR _ => (H.seq0 hR.2).kh (by simp) (by repeat' first | exact kNil | apply kCons | apply kApp | assumption | exact OwnS.keys (by assumption))) ?_; rintro _ w523 ⟨rfl, H1⟩; replace H := H.seq0 H1; clear H1)
                      refine WA_one (i := 10) (by kernel_rfl) ?_
                      (refine WI_call rfl (.inl rfl) (R_call rfl Try.call24 rfl) (rstore_no (ys := bytes4 ow) (N := K) oa (by omega) (by simp [bytes4]) (by simp only [bytes4, List.length_cons, List.length_nil]; omega)) (fun _ _ hR _ => (H.seq0 hR.2).kh (by simp) (by repeat' first | exact kNil | apply kCons | apply kApp | assumption | exact OwnS.keys (by assumption))) ?_; rintro _ w525 ⟨rfl, H1⟩; replace H := H.seq0 H1; clear H1)
                      refine WA_take 11 rfl rfl rfl (by kernel_rfl) (by kernel_rfl) (H.kh (by simp) (by repeat' first | exact kNil | apply kCons | apply kApp | assumption | exact OwnS.keys (by assumption))) (fun _ hC => R_ne_f rfl rfl (by omega)) ?_
                      refine WA_done (by kernel_rfl) ?_
                      refine W_cond_f rfl ?_
                      refine W_skip ?_
                      exact ⟨(same_updo rfl (same_updo rfl (same_updo rfl (same_mov rfl (same_updo rfl (same_updo rfl (same_mov rfl (same_updo rfl (same_updo rfl (same_updo rfl (same_updo rfl (same_mov rfl (same_mov rfl (same_updo rfl (same_updo rfl (same_updo rfl (same_updo rfl (same_updo rfl (same_updo rfl (same_updo rfl (same_updo rfl (same_updo rfl (same_updo rfl (same_updo rfl (same_updo rfl (same_updo rfl (same_updo rfl (same_updo rfl (same_updo rfl (same_updo rfl (same_know rfl (same_mov rfl (same_updo rfl (same_know rfl (same_mov rfl (same_updo rfl (same_know rfl (same_mov rfl (same_updo rfl (same_know rfl (same_mov rfl (same_updo rfl (same_updo rfl (same_updo rfl Same.refl)))))))))))))))))))))))))))))))))))))))))))), us, hul, H⟩
                  · refine W_seq ?_
                    refine W_region_l ?_
                    refine WL_step rfl (R_eq rfl rfl) ?_
                    refine WL_stepM rfl (R_as) ?_
                    refine WL_nil ?_
                    refine W_if rfl (fun h536 => ?_) (fun h536 => ?_)
                    · refine W_seq ?_
                      ((rcases (show (0 ≤ on ∧ on < fr) ∨ on < 0 ∨ (fr : Int) ≤ on by omega) with hin | hin | hin; obtain ⟨z, rfl⟩ : ∃ z : Nat, on = (z : Int) := ⟨on.toNat, by omega⟩; have hz : z * 64 + 64 ≤ K := (by omega))) <;> refine W_region_l ?_
                      · refine WL_step rfl (R_fieldAddr (off' := 2) Try.underlying45 rfl Try.sizeOf3 (by decide) rfl rfl) ?_
                        refine WL_step rfl (R_load Try.isAgg3 rfl (H.get .here) rfl) ?_
                        refine WL_step rfl (R_ge_t rfl rfl (by omega)) ?_
                        refine WL_stepM rfl (R_mv) ?_
                        refine WL_guard_t rfl rfl ?_
                        refine WL_step rfl (R_fieldAddr (off' := 2) Try.underlying45 rfl Try.sizeOf3 (by decide) rfl rfl) ?_
                        refine WL_guard_t rfl rfl ?_
                        refine WL_step rfl (R_load Try.isAgg3 rfl (H.get .here) rfl) ?_
                        refine WL_guard_t rfl rfl ?_
                        refine WL_stepM rfl (R_mv) ?_
                        refine WL_guard_t rfl rfl ?_
                        refine WL_step rfl (R_lt_t rfl rfl (by omega)) ?_
                        refine WL_stepM rfl (R_pk_t rfl) ?_
                        refine WL_stepM rfl (R_as) ?_
                        refine WL_nil ?_
                        refine W_seq ?_
                        refine W_seq ?_
                        refine W_region_l ?_
                        refine WL_stepM rfl (R_mv) ?_
                        refine WL_step rfl (R_fieldAddr (off' := 2) Try.underlying45 rfl Try.sizeOf3 (by decide) rfl rfl) ?_
                        refine WL_step rfl (R_load Try.isAgg3 rfl (H.get .here) rfl) ?_
                        (refine WL_call rfl (R_call rfl Try.call20 rfl) (zero_yes (xs := us) z (H.get (.there (.there .here))) (H.get (.there (.there (.there .here)))) hul (by omega) (by omega)) ?_; rintro _ w560 ⟨rfl, H1⟩; replace H := H.seq H1 (okSeq_set (.there (.there (.there .here))) okSeq_nil); clear H1)
                        refine WL_step rfl (R_eq_t rfl rfl (by omega)) ?_
                        refine WL_stepM rfl (R_mv) ?_
                        refine WL_step rfl (R_ne_bool_f Try.underlying4 rfl rfl (by decide)) ?_
                        refine WL_nil ?_
                        refine W_cond_f rfl ?_
                        refine W_skip ?_
                        refine W_seq ?_
                        refine W_region_l ?_
                        refine WL_stepM rfl (R_as) ?_
                        refine WL_nil ?_
                        refine W_block ?_
                        (have _g := hz; refine W_loopS [(21, 21), (216, 229)] (fun (j : Nat) E w' => j ≤ 64 ∧ E 21 = I j ∧ Hp w [(bo, blk [I oi, I oa, I (z : Int), .int .u32 ow, .slice ba obs.length bcap] 45), (bw, blk ((put us (List.replicate j 0) (z * 64)).map U) 5), (p, blk [sl b 0 K K] 88), (b, blk ((put us (List.replicate 64 0) (z * 64)).map U) 5)] w') (fun j => 64 - j) 0 ?e5 ?r5)
                        · exact ⟨by omega, rfl, by rw [List.replicate_zero, put_nil]; exact H⟩
                        · (clear H; rintro j E2 w1 ⟨hj, h1, H⟩; refine W_kn h1 ?_; by_cases hlt : j < 64)
                          · refine W_seq ?_
                            refine W_seq ?_
                            refine W_region_l ?_
                            refine WL_stepM rfl (R_mv) ?_
                            refine WL_step rfl (R_lt_t rfl rfl (by omega)) ?_
                            refine WL_stepM rfl (R_mv) ?_
                            refine WL_guard_t rfl rfl ?_
                            refine WL_stepM rfl (R_mv) ?_
                            refine WL_stepM rfl (R_pk_t rfl) ?_
                            refine WL_nil ?_
                            refine W_cond_t rfl ?_
                            refine W_skip ?_
                            refine W_seq ?_
                            refine W_block ?_
                            ((have hpl : (put us (List.replicate j 0) (z * 64)).length = K := (put_length (by simp; omega)).trans hul)) <;> refine W_region_l ?_
                            refine WL_stepM rfl (R_mv) ?_
                            refine WL_step rfl (R_fieldAddr (off' := 2) Try.underlying45 rfl Try.sizeOf3 (by decide) rfl rfl) ?_
                            refine WL_step rfl (R_load Try.isAgg3 rfl (H.get .here) rfl) ?_
                            refine WL_step rfl (R_mul (r := ((z * 64 : Nat) : Int)) rfl rfl (by rw [w_i64 (by omega)]; omega)) ?_
                            refine WL_stepM rfl (R_mv) ?_
                            refine WL_step rfl (R_add (r := ((z * 64 + j : Nat) : Int)) rfl rfl (by rw [w_i64 (by omega)]; omega)) ?_
                            refine WL_step rfl (R_indexAddr Try.underlying26 Try.sizeOf5 rfl rfl (by omega) (by omega) idx0_cast) ?_
                            (refine WL_effu rfl (E_store (v := U 0) H Try.sizeOf5 rfl rfl rfl (.there .here) (by rw [List.length_map]; omega)) ?_; clear H; intro w596 H; rw [← List.map_set, zstep hlt (by omega)] at H)
                            refine WL_nil ?_
                            refine W_region_l ?_
                            refine WL_stepM rfl (R_mv) ?_
                            refine WL_step rfl (R_add rfl rfl (w_i64 (by omega))) ?_
                            refine WL_stepM rfl (R_as) ?_
                            refine WL_nil ?_
                            exact ⟨(same_mov rfl (same_updo rfl (same_mov rfl (same_updn (same_updo rfl (same_updo rfl (same_mov rfl (same_updo rfl (same_updo rfl (same_updo rfl (same_mov rfl (same_mov rfl (same_mov rfl (same_mov rfl (same_updo rfl (same_mov rfl same_ovr)))))))))))))))), j + 1, by omega, by omega, rfl, H⟩
                          · refine W_seq ?_
                            refine W_seq ?_
                            refine W_region_l ?_
                            refine WL_stepM rfl (R_mv) ?_
                            refine WL_step rfl (R_lt_f rfl rfl (by omega)) ?_
                            refine WL_stepM rfl (R_mv) ?_
                            refine WL_guard_f rfl rfl (by decide) ?_
                            refine WL_stepM rfl (R_pk_f rfl) ?_
                            refine WL_nil ?_
                            refine W_cond_f rfl ?_
                            refine W_exit ?_
                            refine (if_pos rfl).mpr ?_
                            (obtain rfl : j = 64 := (by omega); exact ⟨(same_mov rfl (same_updo rfl (same_mov rfl (same_updo rfl (same_mov rfl (same_in rfl (same_mov rfl (same_updo rfl (same_mov rfl (same_updo rfl (same_updo rfl (same_updo rfl (same_updo rfl (same_mov rfl (same_mov rfl (same_mov rfl (same_updo rfl (same_mov rfl (same_updo rfl (same_updo rfl (same_mov rfl (same_updo rfl (same_updo rfl (same_updo rfl (same_know rfl (same_mov rfl (same_updo rfl (same_know rfl (same_mov rfl (same_updo rfl (same_know rfl (same_mov rfl (same_updo rfl (same_know rfl (same_mov rfl (same_updo rfl (same_know rfl (same_mov rfl (same_updo rfl (same_updo rfl (same_updo rfl Same.refl))))))))))))))))))))))))))))))))))))))))), _, (put_length (by simp; omega)).trans hul, H⟩)
                      · refine WL_step rfl (R_fieldAddr (off' := 2) Try.underlying45 rfl Try.sizeOf3 (by decide) rfl rfl) ?_
                        refine WL_step rfl (R_load Try.isAgg3 rfl (H.get .here) rfl) ?_
                        refine WL_step rfl (R_ge_f rfl rfl (by omega)) ?_
                        refine WL_stepM rfl (R_mv) ?_
                        refine WL_guard_f rfl rfl (by decide) ?_
                        refine WL_guard_f rfl rfl (by decide) ?_
                        refine WL_guard_f rfl rfl (by decide) ?_
                        refine WL_guard_f rfl rfl (by decide) ?_
                        refine WL_stepM rfl (R_pk_f rfl) ?_
                        refine WL_stepM rfl (R_as) ?_
                        refine WL_nil ?_
                        refine W_seq ?_
                        refine W_seq ?_
                        refine W_region_l ?_
                        refine WL_stepM rfl (R_mv) ?_
                        refine WL_step rfl (R_fieldAddr (off' := 2) Try.underlying45 rfl Try.sizeOf3 (by decide) rfl rfl) ?_
                        refine WL_step rfl (R_load Try.isAgg3 rfl (H.get .here) rfl) ?_
                        (refine WL_call rfl (R_call rfl Try.call20 rfl) (zero_no (xs := us) on (H.get (.there (.there .here))) hul (by omega) (by rw [hul]; omega)) ?_; rintro _ w634 ⟨rfl, H1⟩; replace H := H.seq0 H1; clear H1)
                        refine WL_step rfl (R_eq_f rfl rfl (by omega)) ?_
                        refine WL_stepM rfl (R_mv) ?_
                        refine WL_step rfl (R_ne_bool_f Try.underlying4 rfl rfl (by decide)) ?_
                        refine WL_nil ?_
                        refine W_cond_f rfl ?_
                        refine W_skip ?_
                        refine W_seq ?_
                        refine W_region_l ?_
                        refine WL_stepM rfl (R_as) ?_
                        refine WL_nil ?_
                        refine W_block ?_
                        refine W_rounds 0 ?_
                        refine W_seq ?_
                        refine W_seq ?_
                        refine W_region_l ?_
                        refine WL_stepM rfl (R_mv) ?_
                        refine WL_step rfl (R_lt_t rfl rfl (by omega)) ?_
                        refine WL_stepM rfl (R_mv) ?_
                        refine WL_guard_t rfl rfl ?_
                        refine WL_stepM rfl (R_mv) ?_
                        refine WL_stepM rfl (R_pk_t rfl) ?_
                        refine WL_nil ?_
                        refine W_cond_f rfl ?_
                        refine W_exit ?_
                        refine (if_pos rfl).mpr ?_
                        exact ⟨(same_mov rfl (same_mov rfl (same_mov rfl (same_updo rfl (same_mov rfl (same_mov rfl (same_updo rfl (same_mov rfl (same_updo rfl (same_updo rfl (same_updo rfl (same_updo rfl (same_mov rfl (same_mov rfl (same_mov rfl (same_updo rfl (same_updo rfl (same_updo rfl (same_updo rfl (same_mov rfl (same_updo rfl (same_updo rfl (same_updo rfl (same_know rfl (same_mov rfl (same_updo rfl (same_know rfl (same_mov rfl (same_updo rfl (same_know rfl (same_mov rfl (same_updo rfl (same_know rfl (same_mov rfl (same_updo rfl (same_know rfl (same_mov rfl (same_updo rfl (same_updo rfl (same_updo rfl Same.refl)))))))))))))))))))))))))))))))))))))))), us, hul, H⟩
                      · refine WL_step rfl (R_fieldAddr (off' := 2) Try.underlying45 rfl Try.sizeOf3 (by decide) rfl rfl) ?_
                        refine WL_step rfl (R_load Try.isAgg3 rfl (H.get .here) rfl) ?_
                        refine WL_step rfl (R_ge_t rfl rfl (by omega)) ?_
                        refine WL_stepM rfl (R_mv) ?_
                        refine WL_guard_t rfl rfl ?_
                        refine WL_step rfl (R_fieldAddr (off' := 2) Try.underlying45 rfl Try.sizeOf3 (by decide) rfl rfl) ?_
                        refine WL_guard_t rfl rfl ?_
                        refine WL_step rfl (R_load Try.isAgg3 rfl (H.get .here) rfl) ?_
                        refine WL_guard_t rfl rfl ?_
                        refine WL_stepM rfl (R_mv) ?_
                        refine WL_guard_t rfl rfl ?_
                        refine WL_step rfl (R_lt_f rfl rfl (by omega)) ?_
                        refine WL_stepM rfl (R_pk_t rfl) ?_
                        refine WL_stepM rfl (R_as) ?_
                        refine WL_nil ?_
                        refine W_seq ?_
                        refine W_seq ?_
                        refine W_region_l ?_
                        refine WL_stepM rfl (R_mv) ?_
                        refine WL_step rfl (R_fieldAddr (off' := 2) Try.underlying45 rfl Try.sizeOf3 (by decide) rfl rfl) ?_
                        refine WL_step rfl (R_load Try.isAgg3 rfl (H.get .here) rfl) ?_
                        (refine WL_call rfl (R_call rfl Try.call20 rfl) (zero_no (xs := us) on (H.get (.there (.there .here))) hul (by omega) (by rw [hul]; omega)) ?_; rintro _ w681 ⟨rfl, H1⟩; replace H := H.seq0 H1; clear H1)
                        refine WL_step rfl (R_eq_f rfl rfl (by omega)) ?_
                        refine WL_stepM rfl (R_mv) ?_
                        refine WL_step rfl (R_ne_bool_f Try.underlying4 rfl rfl (by decide)) ?_
                        refine WL_nil ?_
                        refine W_cond_f rfl ?_
                        refine W_skip ?_
                        refine W_seq ?_
                        refine W_region_l ?_
                        refine WL_stepM rfl (R_as) ?_
                        refine WL_nil ?_
                        refine W_block ?_
                        refine W_rounds 0 ?_
                        refine W_seq ?_
                        refine W_seq ?_
                        refine W_region_l ?_
                        refine WL_stepM rfl (R_mv) ?_
                        refine WL_step rfl (R_lt_t rfl rfl (by omega)) ?_
                        refine WL_stepM rfl (R_mv) ?_
                        refine WL_guard_t rfl rfl ?_
                        refine WL_stepM rfl (R_mv) ?_
                        refine WL_stepM rfl (R_pk_t rfl) ?_
                        refine WL_nil ?_
                        refine W_cond_f rfl ?_
                        refine W_exit ?_
                        refine (if_pos rfl).mpr ?_
                        exact ⟨(same_mov rfl (same_mov rfl (same_mov rfl (same_updo rfl (same_mov rfl (same_mov rfl (same_updo rfl (same_mov rfl (same_updo rfl (same_updo rfl (same_updo rfl (same_updo rfl (same_mov rfl (same_mov rfl (same_mov rfl (same_updo rfl (same_mov rfl (same_updo rfl (same_updo rfl (same_mov rfl (same_updo rfl (same_updo rfl (same_updo rfl (same_know rfl (same_mov rfl (same_updo rfl (same_know rfl (same_mov rfl (same_updo rfl (same_know rfl (same_mov rfl (same_updo rfl (same_know rfl (same_mov rfl (same_updo rfl (same_know rfl (same_mov rfl (same_updo rfl (same_updo rfl (same_updo rfl Same.refl)))))))))))))))))))))))))))))))))))))))), us, hul, H⟩
                    · refine W_seq ?_
                      refine W_region_l ?_
                      refine WL_stepM rfl (R_mv) ?_
                      (refine WL_call rfl (R_call rfl Try.call25 rfl) (copy_ret (xs := us) (H.get (.there (.there .here))) (H.get (.there (.there (.there .here)))) hul (by omega)) ?_; rintro _ w710 ⟨q9, u9, M9, rfl, hO9, hq9, H1⟩; have hszw := H.size; replace H := H.seqN H1 (kCons hq9 hO9.keys); replace hO9 := hO9.mono hszw; replace hq9 := Nat.le_trans hszw hq9; clear H1 hszw; have hO8 := hO9; obtain ⟨a9, c9, rfl⟩ := hO9.form)
                      refine WL_stepM rfl (R_as) ?_
                      refine WL_nil ?_
                      refine W_seq ?_
                      refine W_seq ?_
                      refine W_region_l ?_
                      refine WL_stepM rfl (R_mv) ?_
                      refine WL_step rfl (R_eq_ptr_nil Try.underlying22 rfl rfl) ?_
                      refine WL_stepM rfl (R_mv) ?_
                      refine WL_guard_t rfl rfl ?_
                      refine WL_stepM rfl (R_mv) ?_
                      refine WL_guard_t rfl rfl ?_
                      (refine WL_call rfl (R_call rfl Try.call22 rfl) (size2_ret (H.get .here)) ?_; rintro _ w722 ⟨rfl, H1⟩; replace H := H.seq0 H1; clear H1)
                      refine WL_guard_t rfl rfl ?_
                      refine WL_stepM rfl (R_mv) ?_
                      refine WL_guard_t rfl rfl ?_
                      refine WL_step rfl (R_len_slice Try.underlying26 rfl) ?_
                      refine WL_guard_t rfl rfl ?_
                      refine WL_step rfl (R_ne_f rfl rfl (by omega)) ?_
                      refine WL_stepM rfl (R_pk_f rfl) ?_
                      refine WL_nil ?_
                      refine W_cond_f rfl ?_
                      refine W_skip ?_
                      refine W_region_l ?_
                      refine WL_stepM rfl (R_mv) ?_
                      (refine WL_effn rfl (E_buildOnes (vs := [(.int _ _), (.int _ _), (.int _ _)]) H Try.underlying26 Try.sizeOf5 Try.zeroValue5 rfl rfl (by decide) rfl rfl (by simp [Value.oneCell'])) ?_; clear H; intro b735 w735 hb735 H)
                      (refine WL_call rfl (R_call rfl Try.call14 rfl) (store2_ret H hO8 (by omega) rfl (by simp [Value.oneCell']) (by assumption) hq9) ?_; clear H; rintro v w736 H)
                      refine WL_nil ?_
                      exact ⟨(same_updo rfl (same_updo rfl (same_mov rfl (same_mov rfl (same_updo rfl (same_updo rfl (same_mov rfl (same_updo rfl (same_mov rfl (same_mov rfl (same_updo rfl (same_mov rfl (same_mov rfl (same_updo rfl (same_mov rfl (same_know rfl (same_mov rfl (same_updo rfl (same_know rfl (same_mov rfl (same_updo rfl (same_know rfl (same_mov rfl (same_updo rfl (same_know rfl (same_mov rfl (same_updo rfl (same_know rfl (same_mov rfl (same_updo rfl (same_updo rfl (same_updo rfl Same.refl)))))))))))))))))))))))))))))))), us, hul, H⟩
          · (clear H; clear hul; clear us; rintro E w1 ⟨us, hul, H⟩; have hdt : (us.drop 0).take K = us := by rw [List.drop_zero, List.take_of_length_le (by omega)])
            refine W_seq ?_
            refine W_region_l ?_
            refine WL_stepM rfl (R_mv) ?_
            refine WL_stepM rfl (R_mv) ?_
            (refine WL_call rfl (R_call rfl Try.call22 rfl) (size2_ret (H.get (.there (.there .here)))) ?_; rintro _ w744 ⟨rfl, H1⟩; replace H := H.seq0 H1; clear H1)
            (refine WL_call rfl (R_call rfl Try.call15 rfl) (load_yes 0 K (H.get (.there (.there .here))) (H.get (.there (.there (.there .here)))) hul (by omega) (by omega)) ?_; rintro _ w745 ⟨u4, M4, rfl, hO4, H1⟩; have h745 := H.seqO hO4 H1; clear H H1 hO4; obtain ⟨hO4, H⟩ := h745; have hO5 := hO4; obtain ⟨a4, c4, rfl⟩ := hO4.form; rw [hdt] at hO4 hO5)
            refine WL_stepM rfl (R_mv) ?_
            refine WL_step rfl (R_extract rfl rfl) ?_
            refine WL_step rfl (R_extract rfl rfl) ?_
            refine WL_stepM rfl (R_as) ?_
            refine WL_stepM rfl (R_as) ?_
            refine WL_nil ?_
            refine W_seq ?_
            refine W_region_l ?_
            refine WL_stepM rfl (R_mv) ?_
            refine WL_step rfl (R_ne_f rfl rfl (by omega)) ?_
            refine WL_stepM rfl (R_mv) ?_
            refine WL_guard_t rfl rfl ?_
            refine WL_stepM rfl (R_mv) ?_
            refine WL_guard_t rfl rfl ?_
            refine WL_step rfl (R_conv_bs Try.underlying26 Try.underlying5 Try.underlying9 rfl (RdS.own hO5 (fun p hp => H.held p (by simp [hp])))) ?_
            refine WL_guard_t rfl rfl ?_
            refine WL_stepM rfl (R_mv) ?_
            refine WL_guard_t rfl rfl ?_
            refine WL_step rfl (R_conv_bs (xs := us) Try.underlying26 Try.underlying5 Try.underlying9 rfl (RdS.blk (c := us.map U) (off := 0) (H.get (At.app _ (.there .here))) (by rw [List.drop_zero, List.take_of_length_le (by simp; omega)]) (by simp; omega) (by omega))) ?_
            refine WL_guard_t rfl rfl ?_
            refine WL_step rfl (R_ne_S_f rfl rfl rfl) ?_
            refine WL_stepM rfl (R_pk_f rfl) ?_
            refine WL_nil ?_
            refine W_cond_f rfl ?_
            refine W_skip ?_
            refine W_region_l ?_
            refine WL_stepM rfl (R_mv) ?_
            refine WL_step rfl (R_add rfl rfl (w_i64 (by omega))) ?_
            refine WL_stepM rfl (R_as) ?_
            refine WL_nil ?_
            exact ⟨(same_mov rfl (same_updo rfl (same_mov rfl (same_mov rfl (same_updo rfl (same_updo rfl (same_mov rfl (same_updo rfl (same_mov rfl (same_mov rfl (same_updo rfl (same_mov rfl (same_mov rfl (same_mov rfl (same_updo rfl (same_updo rfl (same_mov rfl (same_updo rfl (same_updo rfl (same_mov rfl (same_mov rfl (same_in rfl (same_know rfl (same_updo rfl (same_updo rfl (same_updo rfl (same_updo rfl (same_updn (same_updo rfl (same_updo rfl (same_updo rfl (same_mov rfl (same_mov rfl (same_know rfl (same_in rfl (same_mov rfl (same_updo rfl (same_updo rfl (same_mov rfl (same_mov rfl same_ovr)))))))))))))))))))))))))))))))))))))))), k + 1, by omega, us, by omega, by omega, hul, rfl, (Hp.dropN H hO5.keys).pop hbo⟩
      · refine W_exit ?_
        refine (if_pos rfl).mpr ?_
        refine W_seq ?_
        refine W_region_l ?_
        refine WL_stepM rfl (R_as) ?_
        refine WL_nil ?_
        refine W_ret ?_
        exact ⟨_, rfl, rfl, H.none (by repeat' first | exact kNil | apply kCons | apply kApp | assumption | exact OwnS.keys (by assumption))⟩
end Go.Proofs.Ytjkkfahjgaidbaa.Mem
