/-
  The law RingPlays.
-/
import Derived.Test.YtcpkhgdjckogjaaRingN
import Derived.Test.YtcpkhgdjckogjaaRingRow
namespace Go.Proofs.Ytcpkhgdjckogjaa.Ring
open Go Go.Proofs Go.Proofs.Ytcpkhgdjckogjaa.Fx Go.Proofs.Ytcpkhgdjckogjaa.Codec
set_option maxRecDepth 100000
set_option linter.unusedVariables false
set_option linter.unusedSimpArgs false
set_option maxHeartbeats 2000000

theorem take_all (p : Pi) : takeP p 99 = ((takeP p 99).1, queue p) := by
  refine Prod.ext rfl ?_
  unfold takeP queue
  by_cases h : okP p
  · rw [if_pos h, if_pos h]
    unfold okP at h
    show firstQ p (takes p 99) = _
    rw [show takes p 99 = p.c.toNat by unfold takes; omega]
  · rw [if_neg h, if_neg h]

theorem plays_ret {xs : List ROp} {ds : List UInt8} (raw : Pi) (x : Int) {w : World} {l m : Value} (hm : RdS w m (ds.map U)) (hl : RdR ropC w l xs) (hmb : ds.length ≤ 9223372036854775807) (hb : xs.length ≤ 9223372036854775807) (hg : ∀ x ∈ xs, x.ok w) :
    Ret Try.prog 5 #[vP raw, I x, m, l] w fun v w' => v = .bool true ∧ Hp w [] w' := by
  refine Ret_of_W (args := [_, _, _, _]) Try.func5 rfl Try.ntmps5 Try.results5 (by simp) ?_
  have H := Hp.refl w
  obtain ⟨ao, ca, rfl⟩ := hl.form
  obtain ⟨am, cm, rfl⟩ := hm.form
  simp only [List.length_map] at hm ⊢
  obtain ⟨pp, hpp⟩ : ∃ p, pipeN x ds = p := ⟨_, rfl⟩
  refine W_seq ?_
  refine W_region_l ?_
  (refine WL_effn rfl (E_boxP H rfl) ?_; clear H; intro b4 w3 hb4 H)
  refine WL_stepM rfl (R_as) ?_
  refine WL_nil ?_
  refine W_seq ?_
  refine W_seq ?_
  refine W_region_l ?_
  refine WL_stepM rfl (R_mv) ?_
  refine WL_step rfl (R_len_slice Try.underlying22 rfl) ?_
  refine WL_step rfl (R_gt rfl rfl) ?_
  refine WL_nil ?_
  refine W_if rfl (fun h13 => ?_) (fun h13 => ?_)
  · refine W_seq ?_
    refine W_region_l ?_
    (refine WL_call rfl (R_call rfl Try.call14 rfl) (awake_ret _) ?_; rintro _ w16 ⟨rfl, H1⟩; replace H := H.seq0 H1; clear H1)
    refine WL_stepM rfl (R_as) ?_
    refine WL_nil ?_
    refine W_ret ?_
    exact ⟨_, rfl, rfl, H.none (by repeat' first | exact kNil | apply kCons | apply kApp | assumption | exact OwnS.keys (by assumption))⟩
  · refine W_skip ?_
    refine W_seq ?_
    refine W_region_l ?_
    refine WL_step rfl (R_loadP rfl (H.get .here)) ?_
    (refine WL_effn rfl (E_allocP H) ?_; clear H; intro b9 w25 hb9 H)
    (refine WL_effu rfl (E_storeP (q := raw) H rfl rfl .here) ?_; clear H; intro w26 H)
    refine WL_nil ?_
    refine W_seq ?_
    refine W_seq ?_
    refine W_region_l ?_
    refine WL_stepM rfl (R_as) ?_
    refine WL_nil ?_
    refine W_block ?_
    refine W_loopS [(8, 8), (10, 23), (29, 118)] (fun (i : Nat) E w' => ∃ f, i ≤ 2 ∧ E 10 = I i ∧ Hp w [(b9, blk (piC f) 26), (b4, blk (piC raw) 26)] w') (fun i => 2 - i) 0 ?e0 ?r0
    · exact ⟨raw, by omega, rfl, H⟩
    · (clear H; rintro i E w1 ⟨f, hi, h0, H⟩; refine W_kn h0 ?_; by_cases hlt : i < 2)
      · refine W_seq ?_
        refine W_seq ?_
        refine W_region_l ?_
        refine WL_stepM rfl (R_mv) ?_
        refine WL_step rfl (R_lt_t rfl rfl (by omega)) ?_
        refine WL_nil ?_
        refine W_cond_t rfl ?_
        refine W_skip ?_
        refine W_seq ?_
        refine W_block ?_
        refine W_seq ?_
        refine W_region_l ?_
        refine WL_step rfl (R_loadP rfl (H.get .here)) ?_
        (refine WL_effn rfl (E_allocP H) ?_; clear H; intro b11 w49 hb11 H)
        (have _g := hb11; refine WL_effu rfl (E_storeP (q := f) H rfl rfl .here) ?_; clear H; intro w50 H)
        refine WL_nil ?_
        refine W_seq ?_
        refine W_seq ?_
        refine W_region_l ?_
        refine WL_stepM rfl (R_as) ?_
        refine WL_nil ?_
        refine W_block ?_
        refine W_loopS [(8, 8), (12, 23), (34, 115)] (fun (k : Nat) E w' => ∃ g, k ≤ xs.length ∧ k ≤ 40 ∧ E 12 = I k ∧ Hp w [(b11, blk (piC g) 26), (b9, blk (piC g) 26), (b4, blk (piC raw) 26)] w') (fun k => 40 - k) 0 ?e2 ?r2
        · exact ⟨f, by omega, by omega, rfl, H⟩
        · (clear H; rintro k E w1 ⟨g, hk, hk2, h0, H⟩; refine W_kn h0 ?_)
          refine W_seq ?_
          refine W_seq ?_
          refine W_region_l ?_
          refine WL_stepM rfl (R_mv) ?_
          refine WL_stepM rfl (R_mv) ?_
          refine WL_step rfl (R_len_slice Try.underlying41 rfl) ?_
          refine WL_step rfl (R_lt rfl rfl) ?_
          refine WL_stepM rfl (R_mv) ?_
          apply WL_andK 3 38 41 [(39, 41)] H
          case hc => rfl
          case h1 =>
            intro h68
            refine WL_guard_t rfl rfl ?_
            refine WL_stepM rfl (R_mv) ?_
            refine WL_guard_t rfl rfl ?_
            refine WL_step rfl (R_lt rfl rfl) ?_
            refine WL_stepM rfl (R_pk_t rfl) ?_
            refine WL_nil ?_
            exact ⟨(same_mov rfl (same_updo rfl (same_mov rfl Same.refl))), rfl, H⟩
          case h0 =>
            intro h68
            refine WL_guard_f rfl rfl (by decide) ?_
            refine WL_guard_f rfl rfl (by decide) ?_
            refine WL_stepM rfl (R_pk_f rfl) ?_
            refine WL_nil ?_
            exact ⟨(same_mov rfl (same_updo rfl (same_updo rfl Same.refl))), rfl, H⟩
          case h2 =>
            (clear H; intro E68 w68 H)
            refine WL_nil ?_
            refine W_if rfl (fun h82 => ?_) (fun h82 => ?_)
            · refine W_skip ?_
              refine W_seq ?_
              refine W_block ?_
              refine W_seq ?_
              (obtain ⟨⟨oi, on, ov, obs⟩, ho⟩ : ∃ o, xs[k]? = some o := ⟨_, List.getElem?_eq_getElem (by omega)⟩; obtain ⟨hrb, hlb⟩ := hg _ (List.mem_of_getElem? ho); simp only at hrb hlb; obtain ⟨ba, bcap, hov⟩ := hrb.form; rw [List.length_map] at hov; subst hov; obtain ⟨bz, oz, rfl, hc⟩ := hl.cell ropC_len ho) <;> refine W_region_l ?_
              refine WL_stepM rfl (R_mv) ?_
              refine WL_stepM rfl (R_mv) ?_
              refine WL_step rfl (R_indexAddr Try.underlying41 Try.sizeOf43 rfl rfl (by omega) (by omega) idx_castn) ?_
              refine WL_step rfl (R_loadA_cell (vs := [I oi, I on, .slice ba obs.length bcap]) Try.isAgg43 Try.sizeOf43 rfl (fun j v hj => H.cellN (hc j v hj) (by repeat' first | exact kNil | apply kCons | apply kApp | assumption | exact OwnS.keys (by assumption))) rfl) ?_
              (refine WL_effn rfl (E_alloc H Try.zeroValue43 rfl) ?_; clear H; intro bo w92 hbo H)
              (refine WL_effu rfl (E_storeA (vs := [(.int _ _), (.int _ _), (.slice _ _ _)]) H Try.sizeOf43 rfl rfl (by simp [Value.oneCell']) .here (by simp)) ?_; clear H; intro w93 H)
              refine WL_nil ?_
              refine W_seq ?_
              refine W_seq ?_
              refine W_region_l ?_
              refine WL_step rfl (R_fieldAddr (off' := 2) Try.underlying43 rfl Try.sizeOf22 (by decide) rfl rfl) ?_
              refine WL_step rfl (R_load Try.isAgg22 rfl (H.get .here) rfl) ?_
              refine WL_step rfl (R_len_slice Try.underlying22 rfl) ?_
              refine WL_step rfl (R_gt rfl rfl) ?_
              refine WL_nil ?_
              refine W_if rfl (fun h103 => ?_) (fun h103 => ?_)
              · refine W_seq ?_
                refine W_region_l ?_
                (refine WL_call rfl (R_call rfl Try.call14 rfl) (awake_ret _) ?_; rintro _ w106 ⟨rfl, H1⟩; replace H := H.seq0 H1; clear H1)
                refine WL_stepM rfl (R_as) ?_
                refine WL_nil ?_
                refine W_ret ?_
                exact ⟨_, rfl, rfl, H.none (by repeat' first | exact kNil | apply kCons | apply kApp | assumption | exact OwnS.keys (by assumption))⟩
              · refine W_skip ?_
                refine W_seqS [(8, 8), (14, 21), (53, 105)] (fun E w' => ∃ g2, Hp w [(bo, blk [I oi, I on, .slice ba obs.length bcap] 43), (b11, blk (piC g2) 26), (b9, blk (piC g2) 26), (b4, blk (piC raw) 26)] w') ?c14 ?k14
                · refine W_seq ?_
                  refine W_region_l ?_
                  refine WL_step rfl (R_fieldAddr (off' := 0) Try.underlying43 rfl Try.sizeOf3 (by decide) rfl rfl) ?_
                  refine WL_step rfl (R_load Try.isAgg3 rfl (H.get .here) rfl) ?_
                  refine WL_step rfl (R_eq rfl rfl) ?_
                  refine WL_nil ?_
                  refine W_if rfl (fun h119 => ?_) (fun h119 => ?_)
                  · refine W_seq ?_
                    (obtain ⟨⟨q, n⟩, hpq⟩ : ∃ x, putP g obs = x := ⟨_, rfl⟩) <;> refine W_region_l ?_
                    refine WL_step rfl (R_loadP rfl (H.get (.there (.there .here)))) ?_
                    refine WL_step rfl (R_fieldAddr (off' := 2) Try.underlying43 rfl Try.sizeOf22 (by decide) rfl rfl) ?_
                    refine WL_step rfl (R_load Try.isAgg22 rfl (H.get .here) rfl) ?_
                    (refine WL_call rfl (R_call rfl Try.call15 rfl) (put_to hpq (hrb.monoN H (by repeat' first | exact kNil | apply kCons | apply kApp | assumption | exact OwnS.keys (by assumption))) (by omega)) ?_; rintro _ w125 ⟨rfl, H1⟩; replace H := H.seq0 H1; clear H1)
                    refine WL_stepM rfl (R_mv) ?_
                    refine WL_step rfl (R_extract rfl rfl) ?_
                    refine WL_step rfl (R_extract rfl rfl) ?_
                    (refine WL_effn rfl (E_allocP H) ?_; clear H; intro b14 w129 hb14 H)
                    (refine WL_effu rfl (E_storeP (q := q) H rfl rfl .here) ?_; clear H; intro w130 H)
                    refine WL_stepM rfl (R_as) ?_
                    refine WL_nil ?_
                    refine W_seq ?_
                    refine W_region_l ?_
                    refine WL_step rfl (R_loadP rfl (H.get (.there (.there .here)))) ?_
                    refine WL_step rfl (R_fieldAddr (off' := 2) Try.underlying43 rfl Try.sizeOf22 (by decide) rfl rfl) ?_
                    refine WL_step rfl (R_load Try.isAgg22 rfl (H.get (.there .here)) rfl) ?_
                    refine WL_step rfl (R_conv_bs (xs := obs) Try.underlying22 Try.underlying5 Try.underlying9 rfl (hrb.monoN H (by repeat' first | exact kNil | apply kCons | apply kApp | assumption | exact OwnS.keys (by assumption)))) ?_
                    (refine WL_call rfl (R_call rfl Try.call24 rfl) (rput_to hpq (by omega)) ?_; rintro _ w139 ⟨rfl, H1⟩; replace H := H.seq0 H1; clear H1)
                    refine WL_stepM rfl (R_mv) ?_
                    refine WL_step rfl (R_extract rfl rfl) ?_
                    refine WL_step rfl (R_extract rfl rfl) ?_
                    (refine WL_effn rfl (E_allocP H) ?_; clear H; intro b16 w143 hb16 H)
                    (refine WL_effu rfl (E_storeP (q := q) H rfl rfl .here) ?_; clear H; intro w144 H)
                    refine WL_stepM rfl (R_as) ?_
                    refine WL_nil ?_
                    refine W_seq ?_
                    refine W_seq ?_
                    refine W_region_l ?_
                    refine WL_step rfl (R_loadP rfl (H.get (.there .here))) ?_
                    refine WL_step rfl (R_loadP rfl (H.get .here)) ?_
                    refine WL_step rfl (R_ne_P_f rfl rfl) ?_
                    refine WL_stepM rfl (R_mv) ?_
                    refine WL_guard_t rfl rfl ?_
                    refine WL_stepM rfl (R_mv) ?_
                    refine WL_guard_t rfl rfl ?_
                    refine WL_stepM rfl (R_mv) ?_
                    refine WL_guard_t rfl rfl ?_
                    refine WL_step rfl (R_ne_f rfl rfl rfl) ?_
                    refine WL_stepM rfl (R_pk_f rfl) ?_
                    refine WL_nil ?_
                    refine W_cond_f rfl ?_
                    refine W_skip ?_
                    (refine W_draw (KH w [(b16, blk (piC q) 26), (b14, blk (piC q) 26)]) (fun _ => false) (by kernel_rfl) H ?_; clear H; intro w164 H)
                    refine WA_take 0 rfl rfl rfl (by kernel_rfl) (by kernel_rfl) (H.kh (by simp) (by repeat' first | exact kNil | apply kCons | apply kApp | assumption | exact OwnS.keys (by assumption))) (fun _ hC => R_loadP rfl (hC.get (.there .here))) ?_
                    refine WA_take 1 rfl rfl rfl (by kernel_rfl) (by kernel_rfl) (H.kh (by simp) (by repeat' first | exact kNil | apply kCons | apply kApp | assumption | exact OwnS.keys (by assumption))) (fun _ hC => R_loadP rfl (hC.get .here)) ?_
                    refine WA_one (i := 2) (by kernel_rfl) ?_
                    (refine WI_effu rfl (.inl rfl) (E_storeP (q := q) H rfl rfl (.there (.there (.there (.there .here))))) (fun _ H => (by first | exact fun h => absurd h (by decide) | exact fun _ => H | exact fun _ => H.none (by repeat' first | exact kNil | apply kCons | apply kApp | assumption | exact OwnS.keys (by assumption)) | exact fun _ => H.dropN (by repeat' first | exact kNil | apply kCons | apply kApp | assumption | exact OwnS.keys (by assumption)) | exact fun _ => H.pop (by assumption) | exact fun _ => (H.pop (by assumption)).pop (by assumption) | exact fun _ => H.kp | exact fun _ => H.kp.tail | exact fun _ => H.kp.tail.tail | exact fun _ => H.kp.tail.tail.tail | exact fun _ => H.kp.sub (by simp) | exact fun _ => Kp.nil | exact fun _ => H.kh (by simp) (by repeat' first | exact kNil | apply kCons | apply kApp | assumption | exact OwnS.keys (by assumption)))) ?_; clear H; intro w168 H)
                    refine WA_one (i := 3) (by kernel_rfl) ?_
                    (refine WI_effu rfl (.inl rfl) (E_storeP (q := q) H rfl rfl (.there (.there (.there .here)))) (fun _ H => (by first | exact fun h => absurd h (by decide) | exact fun _ => H | exact fun _ => H.none (by repeat' first | exact kNil | apply kCons | apply kApp | assumption | exact OwnS.keys (by assumption)) | exact fun _ => H.dropN (by repeat' first | exact kNil | apply kCons | apply kApp | assumption | exact OwnS.keys (by assumption)) | exact fun _ => H.pop (by assumption) | exact fun _ => (H.pop (by assumption)).pop (by assumption) | exact fun _ => H.kp | exact fun _ => H.kp.tail | exact fun _ => H.kp.tail.tail | exact fun _ => H.kp.tail.tail.tail | exact fun _ => H.kp.sub (by simp) | exact fun _ => Kp.nil | exact fun _ => H.kh (by simp) (by repeat' first | exact kNil | apply kCons | apply kApp | assumption | exact OwnS.keys (by assumption)))) ?_; clear H; intro w170 H)
                    refine WA_done (by kernel_rfl) ?_
                    exact ⟨(same_updn (same_updn (same_updo rfl (same_updo rfl (same_mov rfl (same_updo rfl (same_mov rfl (same_mov rfl (same_mov rfl (same_updo rfl (same_updo rfl (same_updo rfl (same_mov rfl (same_updn (same_updo rfl (same_updo rfl (same_updo rfl (same_mov rfl (same_updo rfl (same_updo rfl (same_updo rfl (same_updo rfl (same_updo rfl (same_mov rfl (same_updn (same_updo rfl (same_updo rfl (same_updo rfl (same_mov rfl (same_updo rfl (same_updo rfl (same_updo rfl (same_updo rfl (same_know rfl (same_updo rfl (same_updo rfl (same_updo rfl Same.refl))))))))))))))))))))))))))))))))))))), q, (H.pop hb16).pop hb14⟩
                  · refine W_seq ?_
                    (obtain ⟨⟨q, ys⟩, hpq⟩ : ∃ x, takeP g on = x := ⟨_, rfl⟩) <;> refine W_region_l ?_
                    refine WL_step rfl (R_loadP rfl (H.get (.there (.there .here)))) ?_
                    refine WL_step rfl (R_fieldAddr (off' := 1) Try.underlying43 rfl Try.sizeOf3 (by decide) rfl rfl) ?_
                    refine WL_step rfl (R_load Try.isAgg3 rfl (H.get .here) rfl) ?_
                    (refine WL_call rfl (R_call rfl Try.call16 rfl) (take_to hpq) ?_; rintro _ w178 ⟨a3, k3, M3, rfl, hM3, hR3, H1⟩; have hsz := H.size; replace H := H.seqN H1 hM3; replace hM3 := fun q hq => Nat.le_trans hsz (hM3 q hq); clear H1 hsz)
                    refine WL_stepM rfl (R_mv) ?_
                    refine WL_step rfl (R_extract rfl rfl) ?_
                    refine WL_step rfl (R_extract rfl rfl) ?_
                    (refine WL_effn rfl (E_allocP H) ?_; clear H; intro b18 w182 hb18 H)
                    (refine WL_effu rfl (E_storeP (q := q) H rfl rfl .here) ?_; clear H; intro w183 H)
                    refine WL_stepM rfl (R_as) ?_
                    refine WL_nil ?_
                    refine W_seq ?_
                    refine W_region_l ?_
                    refine WL_step rfl (R_loadP rfl (H.get (.there (.app _ (.there .here))))) ?_
                    refine WL_step rfl (R_fieldAddr (off' := 1) Try.underlying43 rfl Try.sizeOf3 (by decide) rfl rfl) ?_
                    refine WL_step rfl (R_load (v := I on) Try.isAgg3 rfl (H.get (.there (.app _ .here))) rfl) ?_
                    (refine WL_call rfl (R_call rfl Try.call25 rfl) (rtake_to hpq) ?_; rintro _ w191 ⟨rfl, H1⟩; replace H := H.seq0 H1; clear H1)
                    refine WL_stepM rfl (R_mv) ?_
                    refine WL_step rfl (R_extract rfl rfl) ?_
                    refine WL_step rfl (R_extract rfl rfl) ?_
                    (refine WL_effn rfl (E_allocP H) ?_; clear H; intro b20 w195 hb20 H)
                    (refine WL_effu rfl (E_storeP (q := q) H rfl rfl .here) ?_; clear H; intro w196 H)
                    refine WL_stepM rfl (R_as) ?_
                    refine WL_nil ?_
                    refine W_seq ?_
                    refine W_seq ?_
                    refine W_region_l ?_
                    refine WL_step rfl (R_loadP rfl (H.get (.there .here))) ?_
                    refine WL_step rfl (R_loadP rfl (H.get .here)) ?_
                    refine WL_step rfl (R_ne_P_f rfl rfl) ?_
                    refine WL_stepM rfl (R_mv) ?_
                    refine WL_guard_t rfl rfl ?_
                    refine WL_stepM rfl (R_mv) ?_
                    refine WL_guard_t rfl rfl ?_
                    refine WL_step rfl (R_conv_bs (xs := ys) Try.underlying22 Try.underlying5 Try.underlying9 rfl (hR3 _ (fun p hp => H.held p (by simp [hp])))) ?_
                    refine WL_guard_t rfl rfl ?_
                    refine WL_stepM rfl (R_mv) ?_
                    refine WL_guard_t rfl rfl ?_
                    refine WL_step rfl (R_ne_S_f rfl rfl rfl) ?_
                    refine WL_stepM rfl (R_pk_f rfl) ?_
                    refine WL_nil ?_
                    refine W_cond_f rfl ?_
                    refine W_skip ?_
                    (refine W_draw (KH w [(b20, blk (piC q) 26), (b18, blk (piC q) 26)]) (fun _ => false) (by kernel_rfl) H ?_; clear H; intro w218 H)
                    refine WA_take 0 rfl rfl rfl (by kernel_rfl) (by kernel_rfl) (H.kh (by simp) (by repeat' first | exact kNil | apply kCons | apply kApp | assumption | exact OwnS.keys (by assumption))) (fun _ hC => R_loadP rfl (hC.get (.there .here))) ?_
                    refine WA_take 1 rfl rfl rfl (by kernel_rfl) (by kernel_rfl) (H.kh (by simp) (by repeat' first | exact kNil | apply kCons | apply kApp | assumption | exact OwnS.keys (by assumption))) (fun _ hC => R_loadP rfl (hC.get .here)) ?_
                    refine WA_one (i := 2) (by kernel_rfl) ?_
                    (refine WI_effu rfl (.inl rfl) (E_storeP (q := q) H rfl rfl (.there (.there (.app _ (.there (.there .here)))))) (fun _ H => (by first | exact fun h => absurd h (by decide) | exact fun _ => H | exact fun _ => H.none (by repeat' first | exact kNil | apply kCons | apply kApp | assumption | exact OwnS.keys (by assumption)) | exact fun _ => H.dropN (by repeat' first | exact kNil | apply kCons | apply kApp | assumption | exact OwnS.keys (by assumption)) | exact fun _ => H.pop (by assumption) | exact fun _ => (H.pop (by assumption)).pop (by assumption) | exact fun _ => H.kp | exact fun _ => H.kp.tail | exact fun _ => H.kp.tail.tail | exact fun _ => H.kp.tail.tail.tail | exact fun _ => H.kp.sub (by simp) | exact fun _ => Kp.nil | exact fun _ => H.kh (by simp) (by repeat' first | exact kNil | apply kCons | apply kApp | assumption | exact OwnS.keys (by assumption)))) ?_; clear H; intro w222 H)
                    refine WA_one (i := 3) (by kernel_rfl) ?_
                    (refine WI_effu rfl (.inl rfl) (E_storeP (q := q) H rfl rfl (.there (.there (.app _ (.there .here))))) (fun _ H => (by first | exact fun h => absurd h (by decide) | exact fun _ => H | exact fun _ => H.none (by repeat' first | exact kNil | apply kCons | apply kApp | assumption | exact OwnS.keys (by assumption)) | exact fun _ => H.dropN (by repeat' first | exact kNil | apply kCons | apply kApp | assumption | exact OwnS.keys (by assumption)) | exact fun _ => H.pop (by assumption) | exact fun _ => (H.pop (by assumption)).pop (by assumption) | exact fun _ => H.kp | exact fun _ => H.kp.tail | exact fun _ => H.kp.tail.tail | exact fun _ => H.kp.tail.tail.tail | exact fun _ => H.kp.sub (by simp) | exact fun _ => Kp.nil | exact fun _ => H.kh (by simp) (by repeat' first | exact kNil | apply kCons | apply kApp | assumption | exact OwnS.keys (by assumption)))) ?_; clear H; intro w224 H)
                    refine WA_done (by kernel_rfl) ?_
                    exact ⟨(same_updn (same_updn (same_updo rfl (same_updo rfl (same_mov rfl (same_updo rfl (same_mov rfl (same_updo rfl (same_mov rfl (same_mov rfl (same_updo rfl (same_updo rfl (same_updo rfl (same_mov rfl (same_updn (same_updo rfl (same_updo rfl (same_updo rfl (same_mov rfl (same_updo rfl (same_updo rfl (same_updo rfl (same_updo rfl (same_mov rfl (same_updn (same_updo rfl (same_updo rfl (same_updo rfl (same_mov rfl (same_updo rfl (same_updo rfl (same_updo rfl (same_updo rfl (same_know rfl (same_updo rfl (same_updo rfl (same_updo rfl Same.refl))))))))))))))))))))))))))))))))))))), q, Hp.dropN (M := _ :: _ :: M3) H (kCons hb20 (kCons hb18 hM3))⟩
                · (clear H; rintro E w1 ⟨g2, H⟩; have h99 := take_all g2)
                  refine W_seq ?_
                  refine W_region_l ?_
                  refine WL_step rfl (R_loadP rfl (H.get (.there .here))) ?_
                  (refine WL_call rfl (R_call rfl Try.call25 rfl) (rtake_to h99) ?_; rintro _ w231 ⟨rfl, H1⟩; replace H := H.seq0 H1; clear H1)
                  refine WL_stepM rfl (R_mv) ?_
                  refine WL_step rfl (R_extract rfl rfl) ?_
                  refine WL_step rfl (R_extract rfl rfl) ?_
                  (refine WL_effn rfl (E_allocP H) ?_; clear H; intro b22 w235 hb22 H)
                  (have _g := hb22; refine WL_effu rfl (E_storeP (q := (takeP g2 99).1) H rfl rfl .here) ?_; clear H; intro w236 H)
                  refine WL_stepM rfl (R_as) ?_
                  refine WL_nil ?_
                  refine W_seq ?_
                  refine W_region_l ?_
                  refine WL_step rfl (R_loadP rfl (H.get (.there (.there (.there .here))))) ?_
                  (refine WL_call rfl (R_call rfl Try.call26 rfl) (bytesR_ret g2 _) ?_; rintro u6 w242 ⟨M6, hO6, H1⟩; have h242 := H.seqO hO6 H1; clear H H1 hO6; obtain ⟨hO6, H⟩ := h242)
                  refine WL_step rfl (R_conv_bs (xs := queue g2) Try.underlying22 Try.underlying5 Try.underlying9 rfl (RdS.own hO6 (fun p hp => H.held p (by simp [hp])))) ?_
                  refine WL_stepM rfl (R_mv) ?_
                  refine WL_step rfl (R_ne_S_f rfl rfl rfl) ?_
                  refine WL_nil ?_
                  refine W_cond_f rfl ?_
                  refine W_skip ?_
                  refine W_region_l ?_
                  refine WL_stepM rfl (R_mv) ?_
                  refine WL_step rfl (R_add rfl rfl (w_i64 (by omega))) ?_
                  refine WL_stepM rfl (R_as) ?_
                  refine WL_nil ?_
                  exact ⟨(same_mov rfl (same_updo rfl (same_mov rfl (same_updo rfl (same_mov rfl (same_updo rfl (same_updo rfl (same_updo rfl (same_mov rfl (same_updn (same_updo rfl (same_updo rfl (same_updo rfl (same_mov rfl (same_updo rfl (same_updo rfl (same_in rfl (same_know rfl (same_updo rfl (same_updo rfl (same_updo rfl (same_updo rfl (same_updn (same_updo rfl (same_updo rfl (same_updo rfl (same_mov rfl (same_mov rfl (same_know rfl (same_in rfl (same_mov rfl (same_updo rfl (same_updo rfl (same_mov rfl (same_mov rfl same_ovr))))))))))))))))))))))))))))))))))), k + 1, by omega, g2, by omega, by omega, rfl, ((Hp.dropN H hO6.keys).pop hb22).pop hbo⟩
            · refine W_exit ?_
              refine (if_pos rfl).mpr ?_
              refine W_region_l ?_
              refine WL_stepM rfl (R_mv) ?_
              refine WL_stepM rfl (R_mv) ?_
              (refine WL_call rfl (R_call rfl Try.call22 rfl) (pipe_ret (bs := ds) x (hm.monoN H (by repeat' first | exact kNil | apply kCons | apply kApp | assumption | exact OwnS.keys (by assumption))) (by omega)) ?_; rintro _ w260 ⟨rfl, H1⟩; replace H := H.seq0 H1; clear H1; rw [hpp])
              (refine WL_effu rfl (E_storeP (q := pp) H rfl rfl (.there .here)) ?_; clear H; intro w261 H)
              refine WL_nil ?_
              refine W_region_l ?_
              refine WL_stepM rfl (R_mv) ?_
              refine WL_step rfl (R_add rfl rfl (w_i64 (by omega))) ?_
              refine WL_stepM rfl (R_as) ?_
              refine WL_nil ?_
              exact ⟨(same_mov rfl (same_updo rfl (same_mov rfl (same_updn (same_updo rfl (same_mov rfl (same_mov rfl (same_know rfl (same_in rfl (same_mov rfl (same_updo rfl (same_updo rfl (same_mov rfl (same_mov rfl (same_in rfl (same_mov rfl (same_updn (same_updo rfl (same_updo rfl (same_updo rfl (same_mov rfl same_ovr))))))))))))))))))))), i + 1, by omega, pp, by omega, rfl, H.pop hb11⟩
      · refine W_seq ?_
        refine W_seq ?_
        refine W_region_l ?_
        refine WL_stepM rfl (R_mv) ?_
        refine WL_step rfl (R_lt_f rfl rfl (by omega)) ?_
        refine WL_nil ?_
        refine W_cond_f rfl ?_
        refine W_exit ?_
        refine (if_pos rfl).mpr ?_
        refine W_seq ?_
        refine W_region_l ?_
        (refine WL_call rfl (R_call rfl Try.call14 rfl) (awake_ret _) ?_; rintro _ w280 ⟨rfl, H1⟩; replace H := H.seq0 H1; clear H1)
        refine WL_stepM rfl (R_as) ?_
        refine WL_nil ?_
        refine W_ret ?_
        exact ⟨_, rfl, rfl, H.none (by repeat' first | exact kNil | apply kCons | apply kApp | assumption | exact OwnS.keys (by assumption))⟩
end Go.Proofs.Ytcpkhgdjckogjaa.Ring
