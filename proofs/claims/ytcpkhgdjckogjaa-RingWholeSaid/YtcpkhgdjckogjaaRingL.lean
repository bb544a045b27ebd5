/-
  What is taken out of a pipe, as the document has it; package ring's own try.
-/
import Derived.Test.YtcpkhgdjckogjaaRingK
namespace Go.Proofs.Ytcpkhgdjckogjaa.Ring
open Go Go.Proofs Go.Proofs.Ytcpkhgdjckogjaa.Fx Go.Proofs.Ytcpkhgdjckogjaa.Codec
set_option maxRecDepth 100000
set_option linter.unusedVariables false
set_option linter.unusedSimpArgs false
set_option maxHeartbeats 2000000

theorem rtake_ret (p : Pi) (n : Int) (w : World) :
    Ret Try.prog 25 #[vP p, I n] w fun v w' => v = .tuple #[vP (takeP p n).1, S (takeP p n).2] ∧ Hp w [] w' := by
  refine Ret_of_WC (args := [_, _]) Try.func25 rfl Try.ntmps25 Try.results25 (by simp) ?_
  have H := Hp.refl w
  have hO := OwnS.nil w.heap.size 5 1
  by_cases hok : okP p
  · have hok0 := hok
    unfold okP at hok
    obtain ⟨k, hk⟩ : ∃ k : Nat, min (max n 0) p.c = (k : Int) := ⟨(min (max n 0) p.c).toNat, by omega⟩
    have hkk : takes p n = k := by unfold takes; omega
    have htp : takeP p n = ({ p with h := (p.h + k) % 32, c := p.c - k }, firstQ p k) := by unfold takeP; rw [if_pos hok0, hkk]
    rw [htp]
    obtain ⟨hh, hhn⟩ : ∃ n : Nat, p.h = (n : Int) := ⟨p.h.toNat, by omega⟩
    have hlen := firstQ_len p
    refine W_seq ?_
    refine W_region_l ?_
    (refine WL_effn rfl (E_boxP H rfl) ?_; clear H; intro bx w3 hbx H)
    (refine WL_effn rfl (E_allocP H) ?_; clear H; intro b4 w4 hb4 H)
    refine WL_stepM rfl (R_as) ?_
    refine WL_nil ?_
    refine W_seq ?_
    refine W_seq ?_
    refine W_region_l ?_
    refine WL_step rfl (R_loadP rfl (H.get (.there .here))) ?_
    (refine WL_call rfl (R_call rfl Try.call18 rfl) (refOk_to (decide_eq_true hok0) _) ?_; rintro _ w11 ⟨rfl, H1⟩; replace H := H.seq0 H1; clear H1)
    refine WL_step rfl (R_not_t rfl) ?_
    refine WL_nil ?_
    refine W_cond_f rfl ?_
    refine W_skip ?_
    refine W_seq ?_
    refine W_region_l ?_
    refine WL_stepM rfl (R_mv) ?_
    refine WL_step rfl (R_max rfl rfl rfl) ?_
    refine WL_step rfl (R_fieldAddr (off' := 1) Try.underlying26 rfl Try.sizeOf3 (by decide) rfl rfl) ?_
    refine WL_step rfl (R_load (v := I p.c) Try.isAgg3 rfl (H.get (.there .here)) rfl) ?_
    refine WL_step rfl (R_min rfl rfl hk) ?_
    refine WL_stepM rfl (R_as) ?_
    refine WL_nil ?_
    refine W_seq ?_
    refine W_region_l ?_
    refine WL_stepM rfl (R_as) ?_
    refine WL_nil ?_
    refine W_seq ?_
    refine W_seq ?_
    refine W_region_l ?_
    refine WL_stepM rfl (R_as) ?_
    refine WL_nil ?_
    refine W_block ?_
    refine W_loopS [(6, 7), (17, 32)] (fun (i : Nat) E w' => ∃ v M, i ≤ k ∧ E 6 = v ∧ E 7 = I i ∧ OwnS w.heap.size 5 1 v i ((firstQ p i).map U) M ∧ Hp w (M ++ [(b4, blk (piC zeroP) 26), (bx, blk (piC p) 26)]) w') (fun i => k - i) 0 ?e0 ?r0
    · exact ⟨_, [], by omega, rfl, rfl, hO, H⟩
    · (clear H hO; rintro i E w1 ⟨v, M, hi, h3, h10, hO, H⟩; refine W_kn2 h3 h10 ?_; by_cases hlt : i < k)
      · refine W_seq ?_
        refine W_seq ?_
        refine W_region_l ?_
        refine WL_stepM rfl (R_mv) ?_
        refine WL_stepM rfl (R_mv) ?_
        refine WL_step rfl (R_lt_t rfl rfl (by omega)) ?_
        refine WL_nil ?_
        refine W_cond_t rfl ?_
        refine W_skip ?_
        refine W_seq ?_
        refine W_block ?_
        refine W_region_l ?_
        refine WL_stepM rfl (R_mv) ?_
        refine WL_step rfl (R_fieldAddr (off' := 0) Try.underlying26 rfl Try.sizeOf3 (by decide) rfl rfl) ?_
        refine WL_step rfl (R_load (v := I hh) Try.isAgg3 rfl (H.get (.app _ (.there .here))) (by rw [← hhn]; rfl)) ?_
        refine WL_stepM rfl (R_mv) ?_
        refine WL_step rfl (R_add rfl rfl (w_i64 (by omega))) ?_
        refine WL_step rfl (R_rem (r := (((hh + i) % 32 : Nat) : Int)) rfl rfl (by omega) ((rem_pos (by omega)).trans (by omega))) ?_
        refine WL_step rfl (R_fieldAddr (off' := 4) Try.underlying26 rfl Try.sizeOf24 (by decide) rfl rfl) ?_
        refine WL_step rfl (R_indexAddrA (off' := 4 + (hh + i) % 32) Try.underlying24 Try.sizeOf5 rfl rfl (by omega) (by omega) (by omega)) ?_
        (have hg := at_get p i; rw [hhn, Int.toNat_natCast] at hg; refine WL_step rfl (R_load (v := U (at_ p i)) Try.isAgg5 rfl (H.get (.app _ (.there .here))) (pi_data hg)) ?_)
        (refine WL_effn rfl (E_buildOnes (vs := [(.int _ _)]) H Try.underlying22 Try.sizeOf5 Try.zeroValue5 rfl rfl (by decide) rfl rfl (by simp [Value.oneCell'])) ?_; clear H; intro b58 w58 hb58 H)
        (refine WL_effm rfl (E_append H (.there .here) hO Try.underlying22 Try.typeInfo5 rfl rfl rfl rfl rfl rfl (src_one Try.underlying22 (H.get .here) rfl) (by omega) (by simp only [Try.t5]; omega)) ?_; clear H hO; intro vN MN w59 hO H; replace H := H.pop (by assumption); rw [show (firstQ p i).map U ++ [U (at_ p i)] = (firstQ p (i + 1)).map U by rw [firstQ_succ, List.map_append]; rfl] at hO)
        refine WL_stepM rfl (R_as) ?_
        refine WL_nil ?_
        refine W_region_l ?_
        refine WL_stepM rfl (R_mv) ?_
        refine WL_step rfl (R_add rfl rfl (w_i64 (by omega))) ?_
        refine WL_stepM rfl (R_as) ?_
        refine WL_nil ?_
        exact ⟨(same_mov rfl (same_updo rfl (same_mov rfl (same_mov rfl (same_updo rfl (same_updo rfl (same_updo rfl (same_updo rfl (same_updo rfl (same_updo rfl (same_updo rfl (same_mov rfl (same_updo rfl (same_updo rfl (same_mov rfl (same_updo rfl (same_mov rfl (same_mov rfl same_ovr)))))))))))))))))), i + 1, by omega, vN, MN, by omega, rfl, rfl, hO, H⟩
      · refine W_seq ?_
        refine W_seq ?_
        refine W_region_l ?_
        refine WL_stepM rfl (R_mv) ?_
        refine WL_stepM rfl (R_mv) ?_
        refine WL_step rfl (R_lt_f rfl rfl (by omega)) ?_
        refine WL_nil ?_
        refine W_cond_f rfl ?_
        refine W_exit ?_
        refine (if_pos rfl).mpr ?_
        refine W_seq ?_
        ((obtain rfl : i = k := (by omega); have hMk := hO.keys)) <;> refine W_region_l ?_
        refine WL_step rfl (R_fieldAddr (off' := 0) Try.underlying26 rfl Try.sizeOf3 (by decide) rfl rfl) ?_
        refine WL_step rfl (R_load (v := I p.h) Try.isAgg3 rfl (H.get (.app _ (.there .here))) rfl) ?_
        refine WL_stepM rfl (R_mv) ?_
        refine WL_step rfl (R_add rfl rfl (w_i64 (by omega))) ?_
        refine WL_step rfl (R_rem (r := (p.h + i) % 32) rfl rfl (by omega) (rem_pos (by omega))) ?_
        refine WL_step rfl (R_fieldAddr (off' := 1) Try.underlying26 rfl Try.sizeOf3 (by decide) rfl rfl) ?_
        refine WL_step rfl (R_load (v := I p.c) Try.isAgg3 rfl (H.get (.app _ (.there .here))) rfl) ?_
        refine WL_stepM rfl (R_mv) ?_
        refine WL_step rfl (R_sub rfl rfl (w_i64 (by omega))) ?_
        refine WL_step rfl (R_fieldAddr (off' := 0) Try.underlying26 rfl Try.sizeOf3 (by decide) rfl rfl) ?_
        (refine WL_effu rfl (E_store (v := I ((p.h + i) % 32)) H Try.sizeOf3 rfl rfl rfl (.app _ (.there .here)) (by rw [piC_len]; decide)) ?_; clear H; intro w90 H; replace H : Hp w (M ++ [(b4, blk (piC zeroP) 26), (bx, blk (piC { p with h := (p.h + i) % 32 }) 26)]) _ := H)
        refine WL_step rfl (R_fieldAddr (off' := 1) Try.underlying26 rfl Try.sizeOf3 (by decide) rfl rfl) ?_
        (refine WL_effu rfl (E_store (v := I (p.c - i)) H Try.sizeOf3 rfl rfl rfl (.app _ (.there .here)) (by rw [piC_len]; decide)) ?_; clear H; intro w92 H; replace H : Hp w (M ++ [(b4, blk (piC zeroP) 26), (bx, blk (piC { p with h := (p.h + i) % 32, c := p.c - i }) 26)]) _ := H)
        refine WL_nil ?_
        refine W_seq ?_
        (obtain ⟨av, cv, rfl⟩ := hO.form; refine W_draw (Kp (M ++ [(bx, blk (piC { p with h := (p.h + i) % 32, c := p.c - i }) 26)])) (fun _ => false) (by kernel_rfl) H ?_; clear H; intro w95 H)
        refine WA_take 0 rfl rfl rfl (by kernel_rfl) (by kernel_rfl) (H.kp.sub (by simp)) (fun _ hC => R_loadP rfl (hC.get (.app _ .here))) ?_
        refine WA_takeM 1 rfl rfl rfl (by kernel_rfl) (by kernel_rfl) (H.kp.sub (by simp)) (fun _ hC => R_mv) ?_
        refine WA_take 2 rfl rfl rfl (by kernel_rfl) (by kernel_rfl) (H.kp.sub (by simp)) (fun _ hC => R_conv_bs (xs := firstQ p i) Try.underlying22 Try.underlying5 Try.underlying9 rfl (RdS.own hO (fun p hp => hC p (by simp [hp])))) ?_
        refine WA_one (i := 3) (by kernel_rfl) ?_
        (refine WI_effu rfl (.inl rfl) (E_storeP (q := { p with h := (p.h + i) % 32, c := p.c - i }) H rfl rfl (.app _ .here)) (fun _ H => (by first | exact fun h => absurd h (by decide) | exact fun _ => H | exact fun _ => H.none (by repeat' first | exact kNil | apply kCons | apply kApp | assumption | exact OwnS.keys (by assumption)) | exact fun _ => H.dropN (by repeat' first | exact kNil | apply kCons | apply kApp | assumption | exact OwnS.keys (by assumption)) | exact fun _ => H.pop (by assumption) | exact fun _ => (H.pop (by assumption)).pop (by assumption) | exact fun _ => H.kp | exact fun _ => H.kp.tail | exact fun _ => H.kp.tail.tail | exact fun _ => H.kp.tail.tail.tail | exact fun _ => H.kp.sub (by simp) | exact fun _ => Kp.nil | exact fun _ => H.kh (by simp) (by repeat' first | exact kNil | apply kCons | apply kApp | assumption | exact OwnS.keys (by assumption)))) ?_; clear H; intro w100 H)
        refine WA_takeM 4 rfl rfl rfl (by kernel_rfl) (by kernel_rfl) (H.kp.sub (by simp)) (fun _ hC => R_as) ?_
        refine WA_done (by kernel_rfl) ?_
        refine W_ret ?_
        exact ⟨_, ⟨_, _, rfl, ldP (H.get (.app _ .here)), rfl⟩, rfl, H.none (by repeat' first | exact kNil | apply kCons | apply kApp | assumption | exact OwnS.keys (by assumption))⟩
  · have htp : takeP p n = (p, []) := if_neg hok
    rw [htp]
    refine W_seq ?_
    refine W_region_l ?_
    (refine WL_effn rfl (E_boxP H rfl) ?_; clear H; intro bx w3 hbx H)
    (refine WL_effn rfl (E_allocP H) ?_; clear H; intro b4 w4 hb4 H)
    refine WL_stepM rfl (R_as) ?_
    refine WL_nil ?_
    refine W_seq ?_
    refine W_seq ?_
    refine W_region_l ?_
    refine WL_step rfl (R_loadP rfl (H.get (.there .here))) ?_
    (refine WL_call rfl (R_call rfl Try.call18 rfl) (refOk_to (decide_eq_false hok) _) ?_; rintro _ w11 ⟨rfl, H1⟩; replace H := H.seq0 H1; clear H1)
    refine WL_step rfl (R_not_f rfl) ?_
    refine WL_nil ?_
    refine W_cond_t rfl ?_
    refine W_seq ?_
    refine W_region_l ?_
    refine WL_step rfl (R_loadP rfl (H.get (.there .here))) ?_
    (refine WL_effu rfl (E_storeP (q := p) H rfl rfl .here) ?_; clear H; intro w18 H)
    refine WL_stepM rfl (R_as) ?_
    refine WL_nil ?_
    refine W_ret ?_
    exact ⟨_, ⟨_, _, rfl, ldP (p := p) (H.get .here), rfl⟩, rfl, H.none (by repeat' first | exact kNil | apply kCons | apply kApp | assumption | exact OwnS.keys (by assumption))⟩
end Go.Proofs.Ytcpkhgdjckogjaa.Ring
