/-
  Put and Take, of both.
-/
import Derived.Test.YtcpkhgdjckogjaaRingI
namespace Go.Proofs.Ytcpkhgdjckogjaa.Ring
open Go Go.Proofs Go.Proofs.Ytcpkhgdjckogjaa.Fx Go.Proofs.Ytcpkhgdjckogjaa.Codec
set_option maxRecDepth 100000
set_option linter.unusedVariables false
set_option linter.unusedSimpArgs false
set_option maxHeartbeats 2000000

theorem take_min {bs : List UInt8} {k : Nat} : bs.take (min bs.length k) = bs.take k := by
  rcases Nat.le_total bs.length k with h | h
  · rw [Nat.min_eq_left h, List.take_length, List.take_of_length_le h]
  · rw [Nat.min_eq_right h]
theorem putN_step {p : Pi} {bs : List UInt8} {i : Nat} (h : i < bs.length) : putN p (bs.take (i + 1)) = put1 (putN p (bs.take i)) bs[i] := by
  rw [List.take_succ_eq_append_getElem h, putN_snoc]

theorem put_ret {bs : List UInt8} (p : Pi) {w : World} {l : Value} (hl : RdS w l (bs.map U)) (hb : bs.length ≤ 9223372036854775807) :
    Ret Try.prog 15 #[vP p, l] w fun v w' => v = .tuple #[vP (putP p bs).1, I (putP p bs).2] ∧ Hp w [] w' := by
  refine Ret_of_WC (args := [_, _]) Try.func15 rfl Try.ntmps15 Try.results15 (by simp) ?_
  have H := Hp.refl w
  obtain ⟨ao, ca, rfl⟩ := hl.form
  simp only [List.length_map] at hl ⊢
  by_cases hok : okP p
  · have hok0 := hok
    unfold okP at hok
    obtain ⟨m, hm⟩ : ∃ m, m = min bs.length (32 - p.c.toNat) := ⟨_, rfl⟩
    have hpp : putP p bs = (putN p (bs.take m), m) := by unfold putP; rw [if_pos hok0, hm, take_min]
    rw [hpp]
    refine W_seq ?_
    refine W_region_l ?_
    (refine WL_effn rfl (E_boxP H rfl) ?_; clear H; intro bx w3 hbx H)
    (refine WL_effn rfl (E_allocP H) ?_; clear H; intro b4 w4 hb4 H)
    refine WL_stepM rfl (R_as) ?_
    refine WL_nil ?_
    refine W_seq ?_
    refine W_seq ?_
    refine W_region_l ?_
    refine WL_step rfl (R_loadP rfl (H.get (.there .here))) ?_
    (refine WL_call rfl (R_call rfl Try.call19 rfl) (ok_to (decide_eq_true hok0) _) ?_; rintro _ w11 ⟨rfl, H1⟩; replace H := H.seq0 H1; clear H1)
    refine WL_step rfl (R_not_t rfl) ?_
    refine WL_nil ?_
    refine W_cond_f rfl ?_
    refine W_skip ?_
    refine W_seq ?_
    refine W_region_l ?_
    refine WL_stepM rfl (R_as) ?_
    refine WL_nil ?_
    refine W_seq ?_
    refine W_seq ?_
    refine W_region_l ?_
    refine WL_stepM rfl (R_mv) ?_
    refine WL_step rfl (R_len_slice Try.underlying22 rfl) ?_
    refine WL_stepM rfl (R_mv) ?_
    refine WL_nil ?_
    refine W_block ?_
    refine W_loopS [(6, 6), (8, 8), (15, 37)] (fun (i : Nat) E w' => i ≤ m ∧ E 6 = I i ∧ E 15 = I i ∧ Hp w [(b4, blk (piC zeroP) 26), (bx, blk (piC (putN p (bs.take i))) 26)] w') (fun i => m - i) 0 ?e0 ?r0
    · exact ⟨by omega, rfl, rfl, H⟩
    · (clear H; rintro i E w1 ⟨hi, h6, h15, H⟩; refine W_kn2 h6 h15 ?_; have hq := putN_h (bs.take i) p; rw [List.length_take, Nat.min_eq_left (by omega)] at hq; obtain ⟨q, hqd⟩ : ∃ q, putN p (bs.take i) = q := ⟨_, rfl⟩; rw [hqd] at hq H; obtain ⟨hqh, hqc, _, _⟩ := hq; by_cases hlt : i < bs.length)
      · refine W_seq ?_
        refine W_region_l ?_
        refine WL_step rfl (R_lt_t rfl rfl (by omega)) ?_
        refine WL_nil ?_
        refine W_seq ?_
        refine W_cond_t rfl ?_
        refine W_skip ?_
        refine W_seq ?_
        refine W_block ?_
        refine W_seq ?_
        ((obtain ⟨bz, oz, rfl, hcz⟩ := hl.cell (i := i) (u := U bs[i]) (by rw [List.getElem?_map, List.getElem?_eq_getElem hlt]; rfl); by_cases hfull : i < 32 - p.c.toNat)) <;> refine W_region_l ?_
        · refine WL_step rfl (R_indexAddr Try.underlying22 Try.sizeOf5 rfl rfl (by omega) (by omega) idx_cast1) ?_
          refine WL_step rfl (R_load_cell Try.isAgg5 rfl (H.cellN hcz (by repeat' first | exact kNil | apply kCons | apply kApp | assumption | exact OwnS.keys (by assumption)))) ?_
          refine WL_stepM rfl (R_as) ?_
          refine WL_nil ?_
          refine W_seq ?_
          refine W_seq ?_
          refine W_region_l ?_
          refine WL_step rfl (R_fieldAddr (off' := 1) Try.underlying26 rfl Try.sizeOf3 (by decide) rfl rfl) ?_
          refine WL_step rfl (R_load Try.isAgg3 rfl (H.get (.there .here)) rfl) ?_
          refine WL_step rfl (R_eq_f rfl rfl (by omega)) ?_
          refine WL_nil ?_
          refine W_cond_f rfl ?_
          refine W_skip ?_
          refine W_seq ?_
          refine W_region_l ?_
          refine WL_step rfl (R_fieldAddr (off' := 0) Try.underlying26 rfl Try.sizeOf3 (by decide) rfl rfl) ?_
          refine WL_step rfl (R_load Try.isAgg3 rfl (H.get (.there .here)) rfl) ?_
          refine WL_step rfl (R_fieldAddr (off' := 1) Try.underlying26 rfl Try.sizeOf3 (by decide) rfl rfl) ?_
          refine WL_step rfl (R_load Try.isAgg3 rfl (H.get (.there .here)) rfl) ?_
          refine WL_step rfl (R_add rfl rfl (w_i64 (by omega))) ?_
          refine WL_step rfl (R_rem (r := (((q.h.toNat + q.c.toNat) % 32 : Nat) : Int)) rfl rfl (by omega) ((rem_pos (by omega)).trans (by omega))) ?_
          refine WL_stepM rfl (R_mv) ?_
          refine WL_step rfl (R_fieldAddr (off' := 4) Try.underlying26 rfl Try.sizeOf24 (by decide) rfl rfl) ?_
          refine WL_step rfl (R_indexAddrA (off' := 4 + (q.h.toNat + q.c.toNat) % 32) Try.underlying24 Try.sizeOf5 rfl rfl (by omega) (by omega) (by omega)) ?_
          (refine WL_effu rfl (E_store (v := U bs[i]) H Try.sizeOf5 rfl rfl rfl (.there .here) (by rw [piC_len]; omega)) ?_; clear H; intro w65 H; rw [set_pi] at H)
          refine WL_nil ?_
          refine W_seq ?_
          refine W_region_l ?_
          refine WL_step rfl (R_fieldAddr (off' := 1) Try.underlying26 rfl Try.sizeOf3 (by decide) rfl rfl) ?_
          refine WL_step rfl (R_load (v := I q.c) Try.isAgg3 rfl (H.get (.there .here)) rfl) ?_
          refine WL_step rfl (R_add rfl rfl (w_i64 (by omega))) ?_
          refine WL_step rfl (R_fieldAddr (off' := 1) Try.underlying26 rfl Try.sizeOf3 (by decide) rfl rfl) ?_
          (refine WL_effu rfl (E_store (v := I (q.c + 1)) H Try.sizeOf3 rfl rfl rfl (.there .here) (by rw [piC_len]; decide)) ?_; clear H; intro w73 H; replace H : Hp w [(b4, blk (piC zeroP) 26), (bx, blk (piC (put1 q bs[i])) 26)] _ := H)
          refine WL_nil ?_
          refine W_region_l ?_
          refine WL_stepM rfl (R_mv) ?_
          refine WL_step rfl (R_add rfl rfl (w_i64 (by omega))) ?_
          refine WL_stepM rfl (R_as) ?_
          refine WL_nil ?_
          refine W_region_l ?_
          refine WL_step rfl (R_add rfl rfl (w_i64 (by omega))) ?_
          refine WL_stepM rfl (R_mv) ?_
          refine WL_nil ?_
          exact ⟨(same_mov rfl (same_updo rfl (same_mov rfl (same_updo rfl (same_mov rfl (same_updn (same_updo rfl (same_updo rfl (same_updo rfl (same_updo rfl (same_updn (same_updo rfl (same_updo rfl (same_mov rfl (same_updo rfl (same_updo rfl (same_updo rfl (same_updo rfl (same_updo rfl (same_updo rfl (same_updo rfl (same_updo rfl (same_updo rfl (same_mov rfl (same_updo rfl (same_updo rfl (same_updo rfl same_ovr))))))))))))))))))))))))))), i + 1, by omega, by omega, rfl, rfl, by rw [putN_step hlt, hqd]; exact H⟩
        · refine WL_step rfl (R_indexAddr Try.underlying22 Try.sizeOf5 rfl rfl (by omega) (by omega) idx_cast1) ?_
          refine WL_step rfl (R_load_cell Try.isAgg5 rfl (H.cellN hcz (by repeat' first | exact kNil | apply kCons | apply kApp | assumption | exact OwnS.keys (by assumption)))) ?_
          refine WL_stepM rfl (R_as) ?_
          refine WL_nil ?_
          refine W_seq ?_
          refine W_seq ?_
          refine W_region_l ?_
          refine WL_step rfl (R_fieldAddr (off' := 1) Try.underlying26 rfl Try.sizeOf3 (by decide) rfl rfl) ?_
          refine WL_step rfl (R_load Try.isAgg3 rfl (H.get (.there .here)) rfl) ?_
          refine WL_step rfl (R_eq_t rfl rfl (by omega)) ?_
          refine WL_nil ?_
          refine W_cond_t rfl ?_
          refine W_exit ?_
          refine (if_neg (by decide)).mpr ?_
          refine (if_pos rfl).mpr ?_
          refine W_seq ?_
          ((obtain rfl : i = m := (by omega))) <;> refine W_region_l ?_
          refine WL_step rfl (R_loadP rfl (H.get (.there .here))) ?_
          refine WL_stepM rfl (R_mv) ?_
          (refine WL_effu rfl (E_storeP (q := q) H rfl rfl .here) ?_; clear H; intro w104 H)
          refine WL_stepM rfl (R_as) ?_
          refine WL_nil ?_
          refine W_ret ?_
          exact ⟨_, ⟨_, _, rfl, ldP (p := q) (H.get .here), rfl⟩, by rw [hqd]; rfl, H.none (by repeat' first | exact kNil | apply kCons | apply kApp | assumption | exact OwnS.keys (by assumption))⟩
      · refine W_seq ?_
        refine W_region_l ?_
        refine WL_step rfl (R_lt_f rfl rfl (by omega)) ?_
        refine WL_nil ?_
        refine W_seq ?_
        refine W_cond_f rfl ?_
        refine W_exit ?_
        refine (if_pos rfl).mpr ?_
        refine W_seq ?_
        ((obtain rfl : i = m := (by omega))) <;> refine W_region_l ?_
        refine WL_step rfl (R_loadP rfl (H.get (.there .here))) ?_
        refine WL_stepM rfl (R_mv) ?_
        (refine WL_effu rfl (E_storeP (q := q) H rfl rfl .here) ?_; clear H; intro w121 H)
        refine WL_stepM rfl (R_as) ?_
        refine WL_nil ?_
        refine W_ret ?_
        exact ⟨_, ⟨_, _, rfl, ldP (p := q) (H.get .here), rfl⟩, by rw [hqd]; rfl, H.none (by repeat' first | exact kNil | apply kCons | apply kApp | assumption | exact OwnS.keys (by assumption))⟩
  · have hpp : putP p bs = (p, 0) := if_neg hok
    rw [hpp]
    refine W_seq ?_
    refine W_region_l ?_
    (refine WL_effn rfl (E_boxP H rfl) ?_; clear H; intro bx w3 hbx H)
    (refine WL_effn rfl (E_allocP H) ?_; clear H; intro b4 w4 hb4 H)
    refine WL_stepM rfl (R_as) ?_
    refine WL_nil ?_
    refine W_seq ?_
    refine W_seq ?_
    refine W_region_l ?_
    refine WL_step rfl (R_loadP rfl (H.get (.there .here))) ?_
    (refine WL_call rfl (R_call rfl Try.call19 rfl) (ok_to (decide_eq_false hok) _) ?_; rintro _ w11 ⟨rfl, H1⟩; replace H := H.seq0 H1; clear H1)
    refine WL_step rfl (R_not_f rfl) ?_
    refine WL_nil ?_
    refine W_cond_t rfl ?_
    refine W_seq ?_
    refine W_region_l ?_
    refine WL_step rfl (R_loadP rfl (H.get (.there .here))) ?_
    (refine WL_effu rfl (E_storeP (q := p) H rfl rfl .here) ?_; clear H; intro w18 H)
    refine WL_stepM rfl (R_as) ?_
    refine WL_nil ?_
    refine W_ret ?_
    exact ⟨_, ⟨_, _, rfl, ldP (p := p) (H.get .here), rfl⟩, rfl, H.none (by repeat' first | exact kNil | apply kCons | apply kApp | assumption | exact OwnS.keys (by assumption))⟩

/-- p with the data of q -/
def withD (p q : Pi) : Pi := { p with d := q.d, hd := q.hd }
theorem withD_put1 {p q : Pi} {x : UInt8} {i : Nat} (hi : i = (q.h.toNat + q.c.toNat) % 32) : setD (withD p q) i x = withD p (put1 q x) := by
  subst hi; rfl
/-- a pipe that is p but for its data -/
def hasP (p : Pi) (b : Nat) (w : World) : Prop := ∃ q, w.heap[b]? = some (blk (piC (withD p q)) 26)
theorem rput_ret {bs : List UInt8} (p : Pi) (w : World) (hb : bs.length ≤ 100000) :
    Ret Try.prog 24 #[vP p, S bs] w fun v w' => v = .tuple #[vP (putP p bs).1, I (putP p bs).2] ∧ Hp w [] w' := by
  refine Ret_of_WC (args := [_, _]) Try.func24 rfl Try.ntmps24 Try.results24 (by simp) ?_
  have H := Hp.refl w
  by_cases hok : okP p
  · have hok0 := hok
    unfold okP at hok
    obtain ⟨m, hm⟩ : ∃ m, m = min bs.length (32 - p.c.toNat) := ⟨_, rfl⟩
    have hpp : putP p bs = (putN p (bs.take m), m) := by unfold putP; rw [if_pos hok0, hm, take_min]
    rw [hpp]
    have hfin : ∀ x : Int, x = p.c + m → putN p (bs.take m) = { withD p (putN p (bs.take m)) with c := x } := by
      intro x hx
      have hq := putN_h (bs.take m) p
      rw [List.length_take, Nat.min_eq_left (by omega)] at hq
      exact pi_ext hq.1 (hq.2.1.trans hx.symm) hq.2.2.1 hq.2.2.2 rfl
    refine W_seq ?_
    refine W_region_l ?_
    (refine WL_effn rfl (E_boxP H rfl) ?_; clear H; intro bx w3 hbx H)
    (refine WL_effn rfl (E_allocP H) ?_; clear H; intro b4 w4 hb4 H)
    refine WL_stepM rfl (R_as) ?_
    refine WL_nil ?_
    refine W_seq ?_
    refine W_seq ?_
    refine W_region_l ?_
    refine WL_step rfl (R_loadP rfl (H.get (.there .here))) ?_
    (refine WL_call rfl (R_call rfl Try.call18 rfl) (refOk_to (decide_eq_true hok0) _) ?_; rintro _ w11 ⟨rfl, H1⟩; replace H := H.seq0 H1; clear H1)
    refine WL_step rfl (R_not_t rfl) ?_
    refine WL_nil ?_
    refine W_cond_f rfl ?_
    refine W_skip ?_
    refine W_seq ?_
    refine W_region_l ?_
    refine WL_stepM rfl (R_mv) ?_
    refine WL_step rfl (R_len_S Try.underlying9 rfl) ?_
    refine WL_step rfl (R_fieldAddr (off' := 1) Try.underlying26 rfl Try.sizeOf3 (by decide) rfl rfl) ?_
    refine WL_step rfl (R_load Try.isAgg3 rfl (H.get (.there .here)) rfl) ?_
    refine WL_step rfl (R_sub rfl rfl (w_i64 (by omega))) ?_
    refine WL_step rfl (R_min (r := (m : Int)) rfl rfl (by omega)) ?_
    refine WL_stepM rfl (R_as) ?_
    refine WL_nil ?_
    refine W_seq ?_
    refine W_seq ?_
    refine W_region_l ?_
    refine WL_stepM rfl (R_as) ?_
    refine WL_nil ?_
    refine W_block ?_
    refine W_loopS [(7, 7), (18, 35)] (fun (i : Nat) E w' => i ≤ m ∧ E 7 = I i ∧ Hp w [(b4, blk (piC zeroP) 26), (bx, blk (piC (withD p (putN p (bs.take i)))) 26)] w') (fun i => m - i) 0 ?e0 ?r0
    · exact ⟨by omega, rfl, H⟩
    · (clear H; rintro i E w1 ⟨hi, h7, H⟩; refine W_kn h7 ?_; by_cases hlt : i < m)
      · refine W_seq ?_
        refine W_seq ?_
        refine W_region_l ?_
        refine WL_stepM rfl (R_mv) ?_
        refine WL_stepM rfl (R_mv) ?_
        refine WL_step rfl (R_lt_t rfl rfl (by omega)) ?_
        refine WL_nil ?_
        refine W_cond_t rfl ?_
        refine W_skip ?_
        refine W_seq ?_
        refine W_block ?_
        (have hq := putN_h (bs.take i) p; rw [List.length_take, Nat.min_eq_left (by omega)] at hq; obtain ⟨q, hqd⟩ : ∃ q, putN p (bs.take i) = q := ⟨_, rfl⟩; rw [hqd] at hq H; obtain ⟨hqh, hqc, _, _⟩ := hq; have hlt2 : i < bs.length := (by omega); refine W_draw (hasP p bx) (fun _ => false) (by kernel_rfl) H ?_; clear H; intro w45 H)
        refine WA_take 0 rfl rfl rfl (by kernel_rfl) (by kernel_rfl) ⟨q, H.get (.there .here)⟩ (fun _ hC => R_fieldAddr (off' := 0) Try.underlying26 rfl Try.sizeOf3 (by decide) rfl rfl) ?_
        refine WA_take 1 rfl rfl rfl (by kernel_rfl) (by kernel_rfl) ⟨q, H.get (.there .here)⟩ (fun _ hC => R_load (v := I p.h) Try.isAgg3 rfl hC.choose_spec rfl) ?_
        refine WA_take 2 rfl rfl rfl (by kernel_rfl) (by kernel_rfl) ⟨q, H.get (.there .here)⟩ (fun _ hC => R_fieldAddr (off' := 1) Try.underlying26 rfl Try.sizeOf3 (by decide) rfl rfl) ?_
        refine WA_take 3 rfl rfl rfl (by kernel_rfl) (by kernel_rfl) ⟨q, H.get (.there .here)⟩ (fun _ hC => R_load (v := I p.c) Try.isAgg3 rfl hC.choose_spec rfl) ?_
        refine WA_take 4 rfl rfl rfl (by kernel_rfl) (by kernel_rfl) ⟨q, H.get (.there .here)⟩ (fun _ hC => R_add rfl rfl (w_i64 (by omega))) ?_
        refine WA_takeM 5 rfl rfl rfl (by kernel_rfl) (by kernel_rfl) ⟨q, H.get (.there .here)⟩ (fun _ hC => R_mv) ?_
        refine WA_take 6 rfl rfl rfl (by kernel_rfl) (by kernel_rfl) ⟨q, H.get (.there .here)⟩ (fun _ hC => R_add rfl rfl (w_i64 (by omega))) ?_
        refine WA_take 7 rfl rfl rfl (by kernel_rfl) (by kernel_rfl) ⟨q, H.get (.there .here)⟩ (fun _ hC => R_rem (r := (((q.h.toNat + q.c.toNat) % 32 : Nat) : Int)) rfl rfl (by omega) ((rem_pos (by omega)).trans (by omega))) ?_
        refine WA_takeM 8 rfl rfl rfl (by kernel_rfl) (by kernel_rfl) ⟨q, H.get (.there .here)⟩ (fun _ hC => R_mv) ?_
        refine WA_takeM 9 rfl rfl rfl (by kernel_rfl) (by kernel_rfl) ⟨q, H.get (.there .here)⟩ (fun _ hC => R_mv) ?_
        refine WA_take 10 rfl rfl rfl (by kernel_rfl) (by kernel_rfl) ⟨q, H.get (.there .here)⟩ (fun _ hC => R_index_S (u := bs[i]) (i := (i : Int)) Try.underlying9 rfl rfl (by omega) (by rw [Int.toNat_natCast, List.getElem?_eq_getElem hlt2])) ?_
        refine WA_take 11 rfl rfl rfl (by kernel_rfl) (by kernel_rfl) ⟨q, H.get (.there .here)⟩ (fun _ hC => R_fieldAddr (off' := 4) Try.underlying26 rfl Try.sizeOf24 (by decide) rfl rfl) ?_
        refine WA_take 12 rfl rfl rfl (by kernel_rfl) (by kernel_rfl) ⟨q, H.get (.there .here)⟩ (fun _ hC => R_indexAddrA (off' := 4 + (q.h.toNat + q.c.toNat) % 32) Try.underlying24 Try.sizeOf5 rfl rfl (by omega) (by omega) (by omega)) ?_
        refine WA_one (i := 13) (by kernel_rfl) ?_
        (refine WI_effu rfl (.inl rfl) (E_store (v := U bs[i]) H Try.sizeOf5 rfl rfl rfl (.there .here) (by rw [piC_len]; omega)) (fun _ H _ => by rw [set_pi, withD_put1 rfl] at H; exact ⟨_, H.get (.there .here)⟩) ?_; clear H; intro w60 H; rw [set_pi, withD_put1 rfl] at H)
        refine WA_done (by kernel_rfl) ?_
        refine W_region_l ?_
        refine WL_stepM rfl (R_mv) ?_
        refine WL_step rfl (R_add rfl rfl (w_i64 (by omega))) ?_
        refine WL_stepM rfl (R_as) ?_
        refine WL_nil ?_
        exact ⟨(same_mov rfl (same_updo rfl (same_mov rfl (same_updn (same_updo rfl (same_updo rfl (same_updo rfl (same_mov rfl (same_mov rfl (same_updo rfl (same_updo rfl (same_mov rfl (same_updo rfl (same_updo rfl (same_updo rfl (same_updo rfl (same_updo rfl (same_updo rfl (same_mov rfl (same_mov rfl same_ovr)))))))))))))))))))), i + 1, by omega, by omega, rfl, by rw [putN_step hlt2, hqd]; exact H⟩
      · refine W_seq ?_
        refine W_seq ?_
        refine W_region_l ?_
        refine WL_stepM rfl (R_mv) ?_
        refine WL_stepM rfl (R_mv) ?_
        refine WL_step rfl (R_lt_f rfl rfl (by omega)) ?_
        refine WL_nil ?_
        refine W_cond_f rfl ?_
        refine W_exit ?_
        refine (if_pos rfl).mpr ?_
        refine W_seq ?_
        ((obtain rfl : i = m := (by omega))) <;> refine W_region_l ?_
        refine WL_step rfl (R_fieldAddr (off' := 1) Try.underlying26 rfl Try.sizeOf3 (by decide) rfl rfl) ?_
        refine WL_step rfl (R_load (v := I p.c) Try.isAgg3 rfl (H.get (.there .here)) rfl) ?_
        refine WL_stepM rfl (R_mv) ?_
        refine WL_step rfl (R_add (r := p.c + i) rfl rfl (w_i64 (by omega))) ?_
        refine WL_step rfl (R_fieldAddr (off' := 1) Try.underlying26 rfl Try.sizeOf3 (by decide) rfl rfl) ?_
        (refine WL_effu rfl (E_store (v := I (p.c + i)) H Try.sizeOf3 rfl rfl rfl (.there .here) (by rw [piC_len]; decide)) ?_; clear H; intro w85 H; replace H : Hp w [(b4, blk (piC zeroP) 26), (bx, blk (piC { withD p (putN p (bs.take i)) with c := p.c + i }) 26)] _ := H; rw [← hfin _ rfl] at H)
        refine WL_nil ?_
        refine W_seq ?_
        refine W_region_l ?_
        refine WL_step rfl (R_loadP rfl (H.get (.there .here))) ?_
        refine WL_stepM rfl (R_mv) ?_
        (refine WL_effu rfl (E_storeP (q := putN p (bs.take i)) H rfl rfl .here) ?_; clear H; intro w91 H)
        refine WL_stepM rfl (R_as) ?_
        refine WL_nil ?_
        refine W_ret ?_
        exact ⟨_, ⟨_, _, rfl, ldP (p := putN p (bs.take i)) (H.get .here), rfl⟩, rfl, H.none (by repeat' first | exact kNil | apply kCons | apply kApp | assumption | exact OwnS.keys (by assumption))⟩
  · have hpp : putP p bs = (p, 0) := if_neg hok
    rw [hpp]
    refine W_seq ?_
    refine W_region_l ?_
    (refine WL_effn rfl (E_boxP H rfl) ?_; clear H; intro bx w3 hbx H)
    (refine WL_effn rfl (E_allocP H) ?_; clear H; intro b4 w4 hb4 H)
    refine WL_stepM rfl (R_as) ?_
    refine WL_nil ?_
    refine W_seq ?_
    refine W_seq ?_
    refine W_region_l ?_
    refine WL_step rfl (R_loadP rfl (H.get (.there .here))) ?_
    (refine WL_call rfl (R_call rfl Try.call18 rfl) (refOk_to (decide_eq_false hok) _) ?_; rintro _ w11 ⟨rfl, H1⟩; replace H := H.seq0 H1; clear H1)
    refine WL_step rfl (R_not_f rfl) ?_
    refine WL_nil ?_
    refine W_cond_t rfl ?_
    refine W_seq ?_
    refine W_region_l ?_
    refine WL_step rfl (R_loadP rfl (H.get (.there .here))) ?_
    (refine WL_effu rfl (E_storeP (q := p) H rfl rfl .here) ?_; clear H; intro w18 H)
    refine WL_stepM rfl (R_as) ?_
    refine WL_nil ?_
    refine W_ret ?_
    exact ⟨_, ⟨_, _, rfl, ldP (p := p) (H.get .here), rfl⟩, rfl, H.none (by repeat' first | exact kNil | apply kCons | apply kApp | assumption | exact OwnS.keys (by assumption))⟩

theorem clip_ret {b len cap : Nat} (h : len ≤ cap) (hc : len ≤ 9223372036854775807) (w : World) : Ret Try.prog 39 #[sl b 0 len cap] w fun v w' => v = sl b 0 len len ∧ Hp w [] w' := by
  refine Ret_of_W (args := [_]) Try.func39 rfl Try.ntmps39 Try.results39 (by simp) ?_
  have H := Hp.refl w
  refine W_seq ?_
  refine W_region_l ?_
  refine WL_stepM rfl (R_as) ?_
  refine WL_nil ?_
  refine W_seq ?_
  refine W_region_l ?_
  refine WL_stepM rfl (R_mv) ?_
  refine WL_stepM rfl (R_mv) ?_
  refine WL_step rfl (R_len_slice Try.underlying22 rfl) ?_
  refine WL_stepM rfl (R_mv) ?_
  refine WL_step rfl (R_len_slice Try.underlying22 rfl) ?_
  refine WL_step rfl (R_slice3 Try.underlying22 Try.sizeOf5 rfl rfl rfl (by omega)) ?_
  refine WL_stepM rfl (R_as) ?_
  refine WL_nil ?_
  refine W_ret ?_
  exact ⟨_, rfl, rfl, H⟩
theorem clip0_ret (w : World) : Ret Try.prog 39 #[nilS] w fun v w' => v = nilS ∧ Hp w [] w' := by
  refine Ret_of_W (args := [_]) Try.func39 rfl Try.ntmps39 Try.results39 (by simp) ?_
  have H := Hp.refl w
  refine W_seq ?_
  refine W_region_l ?_
  refine WL_stepM rfl (R_as) ?_
  refine WL_nil ?_
  refine W_seq ?_
  refine W_region_l ?_
  refine WL_stepM rfl (R_mv) ?_
  refine WL_stepM rfl (R_mv) ?_
  refine WL_step rfl (R_len_slice Try.underlying22 rfl) ?_
  refine WL_stepM rfl (R_mv) ?_
  refine WL_step rfl (R_len_slice Try.underlying22 rfl) ?_
  refine WL_step rfl (R_slice3n Try.underlying22 Try.sizeOf5 rfl rfl rfl) ?_
  refine WL_stepM rfl (R_as) ?_
  refine WL_nil ?_
  refine W_ret ?_
  exact ⟨_, rfl, rfl, H⟩
end Go.Proofs.Ytcpkhgdjckogjaa.Ring
