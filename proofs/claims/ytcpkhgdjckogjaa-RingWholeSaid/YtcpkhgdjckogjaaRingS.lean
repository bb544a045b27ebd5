/-
  The law RingWhole.
-/
import Derived.Test.YtcpkhgdjckogjaaRingQ
import Derived.Test.YtcpkhgdjckogjaaAppZ
namespace Go.Proofs.Ytcpkhgdjckogjaa.Ring
open Go Go.Proofs Go.Proofs.Ytcpkhgdjckogjaa.Fx Go.Proofs.Ytcpkhgdjckogjaa.Codec
set_option maxRecDepth 100000
set_option linter.unusedVariables false
set_option linter.unusedSimpArgs false
set_option maxHeartbeats 2000000

theorem whole_facts {p : Pi} {all : List UInt8} (hok : okP p) (hc : p.c = 0) (hall : 32 ≤ all.length) :
    ∃ q s, putP p all = (q, 32) ∧ q.c = 32 ∧ putP q [1] = (q, 0) ∧ takeP q 33 = (s, all.take 32) ∧ s.c = 0 ∧ s.h = p.h ∧ takeP s 5 = (s, []) := by
  obtain ⟨⟨q, n⟩, e⟩ : ∃ x, putP p all = x := ⟨_, rfl⟩
  obtain ⟨h1, h2, h3, h4, h5⟩ := put_queue hok e
  obtain rfl : n = 32 := by omega
  have hq0 : queue p = [] := by unfold queue; rw [if_pos hok, hc]; rfl
  have hqc : q.c = 32 ∧ q.h = p.h := by
    have e2 := congrArg Prod.fst e
    unfold putP at e2
    rw [if_pos hok] at e2
    have h := putN_h (all.take (32 - p.c.toNat)) p
    simp only at e2
    rw [e2] at h
    refine ⟨?_, h.1⟩
    rw [h.2.1, hc, List.length_take]
    omega
  rw [hq0, List.nil_append] at h2
  obtain ⟨⟨s, ys⟩, e3⟩ : ∃ x, takeP q 33 = x := ⟨_, rfl⟩
  have hq1 := h1
  unfold okP at h1
  have hs : s = { q with h := (q.h + (32 : Nat)) % 32, c := q.c - (32 : Nat) } ∧ ys = all.take 32 := by
    have ht : takes q 33 = 32 := by unfold takes; omega
    unfold takeP at e3
    rw [if_pos hq1, ht] at e3
    obtain ⟨e4, e5⟩ := Prod.mk.inj e3
    refine ⟨e4.symm, ?_⟩
    rw [← h2, ← e5]
    unfold queue
    rw [if_pos hq1, hqc.1]
    rfl
  obtain ⟨hs1, rfl⟩ := hs
  have sc : s.c = 0 := by rw [hs1]; show q.c - ((32 : Nat) : Int) = 0; omega
  have sh : s.h = q.h := by rw [hs1]; show (q.h + ((32 : Nat) : Int)) % 32 = q.h; omega
  have os := (take_queue hq1 e3).1
  refine ⟨q, s, e, hqc.1, ?_, e3, sc, sh.trans hqc.2, ?_⟩
  · unfold putP
    rw [if_pos hq1, hqc.1]
    rfl
  · have ht : takes s 5 = 0 := by unfold takes; omega
    unfold takeP
    rw [if_pos os, ht]
    refine Prod.ext (pi_ext ?_ ?_ rfl rfl rfl) rfl
    · show (s.h + ((0 : Nat) : Int)) % 32 = s.h; omega
    · show s.c - ((0 : Nat) : Int) = s.c; omega

theorem whole_ret {bs : List UInt8} (a : Int) {w : World} {l : Value} (hl : RdS w l (bs.map U)) (hlb : bs.length ≤ 9223372036854775807) :
    Ret Try.prog 3 #[I a, l] w fun v w' => v = .bool true ∧ Hp w [] w' := by
  refine Ret_of_W (args := [_, _]) Try.func3 rfl Try.ntmps3 Try.results3 (by simp) ?_
  have H := Hp.refl w
  obtain ⟨ao, ca, rfl⟩ := hl.form
  simp only [List.length_map] at hl ⊢
  by_cases hlen : bs.length ≤ 100
  · obtain ⟨hh, hhe, hh0, hh1⟩ : ∃ h : Int, a % 32 = h ∧ 0 ≤ h ∧ h ≤ 31 := ⟨_, rfl, by omega, by omega⟩
    obtain ⟨p, hp⟩ : ∃ p : Pi, p = ⟨hh, 0, 0, 0, List.replicate 32 0, rfl⟩ := ⟨_, rfl⟩
    have hpv : piC p = [I hh, I 0, I 0, I 0] ++ (List.replicate 32 0).map U := by rw [hp]; rfl
    have hph : p.h = hh := by rw [hp]
    have hok : okP p := by rw [hp]; unfold okP; simp only; omega
    obtain ⟨all, hall⟩ : ∃ all : List UInt8, all = bs ++ List.replicate 40 0 := ⟨_, rfl⟩
    have hallm : bs.map U ++ List.replicate 40 (U 0) = all.map U := by rw [hall, List.map_append, List.map_replicate]
    have halll : all.length = bs.length + 40 := by rw [hall]; simp
    obtain ⟨q, s, e1, e2, e3, e4, e5, e6, e7⟩ := whole_facts (all := all) hok (by rw [hp]) (by omega)
    rw [hph] at e6
    refine W_seq ?_
    refine W_region_l ?_
    refine WL_stepM rfl (R_as) ?_
    refine WL_nil ?_
    refine W_seq ?_
    refine W_seq ?_
    refine W_region_l ?_
    refine WL_stepM rfl (R_mv) ?_
    refine WL_step rfl (R_len_slice Try.underlying22 rfl) ?_
    refine WL_step rfl (R_gt_f rfl rfl (by omega)) ?_
    refine WL_nil ?_
    refine W_cond_f rfl ?_
    refine W_skip ?_
    refine W_seq ?_
    refine W_region_l ?_
    refine WL_stepM rfl (R_mv) ?_
    refine WL_step rfl (R_bits rfl rfl (by simp) ((and_mask_i64 5 32 (by decide) rfl (by decide)).trans hhe)) ?_
    refine WL_step rfl (R_buildL (places := [(0, 1), (1, 1), (2, 1), (3, 1), (4, 32)]) (vs := [I hh, I 0, I 0, I 0] ++ (List.replicate 32 0).map U) Try.underlying26 Try.typeInfo26 rfl rfl (by kernel_rfl) rfl rfl rfl) ?_
    (refine WL_effn rfl (E_allocP H) ?_; clear H; intro b5 w19 hb5 H)
    (refine WL_effu rfl (E_storeP (q := p) H rfl (congrArg (fun l => Value.agg (List.toArray l)) hpv.symm) .here) ?_; clear H; intro w20 H)
    refine WL_nil ?_
    refine W_seq ?_
    refine W_region_l ?_
    (refine WL_effn rfl (E_buildSlice (vs := []) H Try.underlying22 Try.sizeOf5 Try.zeroValue5 rfl rfl (by decide) rfl rfl) ?_; clear H; intro b24 w24 hb24 H)
    refine WL_stepM rfl (R_mv) ?_
    (refine WL_effm rfl (E_append H .one (OwnS.new (xs := []) (sp := []) (by assumption) rfl rfl (by omega)) Try.underlying22 Try.typeInfo5 rfl rfl rfl rfl rfl rfl ((hl.monoN H (by repeat' first | exact kNil | apply kCons | apply kApp | assumption | exact OwnS.keys (by assumption))).src Try.underlying22 (by simp [Value.oneCell'])) (by simp; omega) (by simp [Try.t5]; omega)) ?_; clear H; intro vN MN w26 hO H; rw [List.length_map, Nat.zero_add, List.nil_append] at hO)
    (refine WL_effm rfl (E_appendZo (n := 40) (k := .i64) H .here hO Try.underlying22 Try.underlying3 Try.underlying9 Try.typeInfo5 rfl rfl rfl rfl (by decide) (by omega) (by simp only [Try.t5]; omega)) ?_; clear H hO; intro vA MA w27 hO H; rw [hallm] at hO; have hMA := hO.keys; obtain ⟨aA, cA, rfl⟩ := hO.form)
    refine WL_stepM rfl (R_as) ?_
    refine WL_nil ?_
    refine W_seq ?_
    refine W_region_l ?_
    refine WL_step rfl (R_loadP rfl (H.get (.app _ .here))) ?_
    refine WL_stepM rfl (R_mv) ?_
    (refine WL_call rfl (R_call rfl Try.call15 rfl) (put_to e1 (RdS.own hO (fun p hp => H.held p (by simp [hp]))) (by omega)) ?_; rintro _ w34 ⟨rfl, H1⟩; replace H := H.seq0 H1; clear H1)
    refine WL_stepM rfl (R_mv) ?_
    refine WL_step rfl (R_extract rfl rfl) ?_
    refine WL_step rfl (R_extract rfl rfl) ?_
    (refine WL_effn rfl (E_allocP H) ?_; clear H; intro b7 w38 hb7 H)
    (refine WL_effu rfl (E_storeP (q := q) H rfl rfl .here) ?_; clear H; intro w39 H)
    refine WL_stepM rfl (R_as) ?_
    refine WL_nil ?_
    refine W_seq ?_
    refine W_region_l ?_
    refine WL_step rfl (R_loadP rfl (H.get .here)) ?_
    (refine WL_effn rfl (E_buildOnes (vs := [(.int _ _)]) H Try.underlying22 Try.sizeOf5 Try.zeroValue5 rfl rfl (by decide) rfl rfl (by simp [Value.oneCell'])) ?_; clear H; intro b45 w45 hb45 H)
    (refine WL_call rfl (R_call rfl Try.call15 rfl) (put_to e3 (RdS.blk (c := ([1] : List UInt8).map U) (off := 0) (H.get .here) rfl (by decide) (by decide)) (by decide)) ?_; rintro _ w46 ⟨rfl, H1⟩; replace H := H.seq0 H1; clear H1)
    refine WL_stepM rfl (R_mv) ?_
    refine WL_step rfl (R_extract rfl rfl) ?_
    refine WL_step rfl (R_extract rfl rfl) ?_
    (refine WL_effn rfl (E_allocP H) ?_; clear H; intro b9 w50 hb9 H)
    (refine WL_effu rfl (E_storeP (q := q) H rfl rfl .here) ?_; clear H; intro w51 H)
    refine WL_stepM rfl (R_as) ?_
    refine WL_nil ?_
    refine W_seq ?_
    refine W_region_l ?_
    refine WL_step rfl (R_loadP rfl (H.get (.there (.there .here)))) ?_
    (refine WL_call rfl (R_call rfl Try.call16 rfl) (take_to e4) ?_; rintro _ w57 ⟨a4, k4, M4, rfl, hM4, hR4, H1⟩; have hsz := H.size; replace H := H.seqN H1 hM4; replace hM4 := fun q hq => Nat.le_trans hsz (hM4 q hq); clear H1 hsz)
    refine WL_stepM rfl (R_mv) ?_
    refine WL_step rfl (R_extract rfl rfl) ?_
    refine WL_step rfl (R_extract rfl rfl) ?_
    (refine WL_effn rfl (E_allocP H) ?_; clear H; intro b11 w61 hb11 H)
    (refine WL_effu rfl (E_storeP (q := s) H rfl rfl .here) ?_; clear H; intro w62 H)
    refine WL_stepM rfl (R_as) ?_
    refine WL_nil ?_
    refine W_seq ?_
    refine W_region_l ?_
    refine WL_step rfl (R_loadP rfl (H.get .here)) ?_
    (refine WL_call rfl (R_call rfl Try.call16 rfl) (take_to e7) ?_; rintro _ w68 ⟨a5, k5, M5, rfl, hM5, hR5, H1⟩; have hsz := H.size; replace H := H.seqN H1 hM5; replace hM5 := fun q hq => Nat.le_trans hsz (hM5 q hq); clear H1 hsz)
    refine WL_stepM rfl (R_mv) ?_
    refine WL_step rfl (R_extract rfl rfl) ?_
    refine WL_step rfl (R_extract rfl rfl) ?_
    (refine WL_effn rfl (E_allocP H) ?_; clear H; intro b13 w72 hb13 H)
    (refine WL_effu rfl (E_storeP (q := s) H rfl rfl .here) ?_; clear H; intro w73 H)
    refine WL_stepM rfl (R_as) ?_
    refine WL_nil ?_
    refine W_seq ?_
    (refine W_drawH (fun _ => false) (by kernel_rfl) H ?_; clear H; intro w77 H)
    refine WA_takeM 0 rfl rfl rfl (by kernel_rfl) (by kernel_rfl) H (fun _ hC => R_mv) ?_
    refine WA_take 1 rfl rfl rfl (by kernel_rfl) (by kernel_rfl) H (fun _ hC => R_eq_t rfl rfl (by omega)) ?_
    refine WA_takeM 2 rfl rfl rfl (by kernel_rfl) (by kernel_rfl) H (fun _ hC => R_mv) ?_
    refine WA_takeG 3 rfl rfl rfl rfl (by kernel_rfl) (by kernel_rfl) H (fun _ hC => R_fieldAddr (off' := 1) Try.underlying26 rfl Try.sizeOf3 (by decide) rfl rfl) ?_
    refine WA_takeG 4 rfl rfl rfl rfl (by kernel_rfl) (by kernel_rfl) H (fun _ hC => R_load (v := I 32) Try.isAgg3 rfl (hC.get (.there (.app _ (.there (.app _ (.there (.there .here))))))) (by rw [← e2]; rfl)) ?_
    refine WA_takeG 5 rfl rfl rfl rfl (by kernel_rfl) (by kernel_rfl) H (fun _ hC => R_eq_t rfl rfl (by omega)) ?_
    refine WA_takeM 6 rfl rfl rfl (by kernel_rfl) (by kernel_rfl) H (fun _ hC => R_pk_t rfl) ?_
    refine WA_takeM 7 rfl rfl rfl (by kernel_rfl) (by kernel_rfl) H (fun _ hC => R_mv) ?_
    refine WA_takeGM 8 rfl rfl rfl rfl (by kernel_rfl) (by kernel_rfl) H (fun _ hC => R_mv) ?_
    refine WA_takeG 9 rfl rfl rfl rfl (by kernel_rfl) (by kernel_rfl) H (fun _ hC => R_eq_t rfl rfl (by omega)) ?_
    refine WA_takeM 10 rfl rfl rfl (by kernel_rfl) (by kernel_rfl) H (fun _ hC => R_pk_t rfl) ?_
    refine WA_takeM 11 rfl rfl rfl (by kernel_rfl) (by kernel_rfl) H (fun _ hC => R_mv) ?_
    refine WA_takeG 12 rfl rfl rfl rfl (by kernel_rfl) (by kernel_rfl) H (fun _ hC => R_loadP rfl (hC.get (.there (.app _ (.there (.app _ .here)))))) ?_
    refine WA_takeG 13 rfl rfl rfl rfl (by kernel_rfl) (by kernel_rfl) H (fun _ hC => R_loadP rfl (hC.get (.there (.app _ (.there (.app _ (.there (.there .here)))))))) ?_
    refine WA_takeG 14 rfl rfl rfl rfl (by kernel_rfl) (by kernel_rfl) H (fun _ hC => R_eq_P_t rfl rfl) ?_
    refine WA_takeM 15 rfl rfl rfl (by kernel_rfl) (by kernel_rfl) H (fun _ hC => R_pk_t rfl) ?_
    refine WA_takeM 16 rfl rfl rfl (by kernel_rfl) (by kernel_rfl) H (fun _ hC => R_mv) ?_
    refine WA_takeGM 17 rfl rfl rfl rfl (by kernel_rfl) (by kernel_rfl) H (fun _ hC => R_mv) ?_
    refine WA_takeG 18 rfl rfl rfl rfl (by kernel_rfl) (by kernel_rfl) H (fun _ hC => R_conv_bs (xs := all.take 32) Try.underlying22 Try.underlying5 Try.underlying9 rfl (hR4 _ (fun p hp => hC.held p (by simp [hp])))) ?_
    refine WA_takeGM 19 rfl rfl rfl rfl (by kernel_rfl) (by kernel_rfl) H (fun _ hC => R_mv) ?_
    refine WA_takeG 20 rfl rfl rfl rfl (by kernel_rfl) (by kernel_rfl) H (fun _ hC => R_subU (i := 0) (j := 32) (RdS.own hO (fun p hp => hC.held p (by simp [hp]))) Try.underlying22 Try.sizeOf5 rfl .none (.some rfl) (by omega) (by omega)) ?_
    refine WA_takeG 21 rfl rfl rfl rfl (by kernel_rfl) (by kernel_rfl) H (fun _ hC => R_conv_bs (xs := all.take 32) Try.underlying22 Try.underlying5 Try.underlying9 rfl ((RdS.own hO (fun p hp => hC.held p (by simp [hp]))).subU (i := 0) (j := 32) (by omega) (by omega))) ?_
    refine WA_takeG 22 rfl rfl rfl rfl (by kernel_rfl) (by kernel_rfl) H (fun _ hC => R_eq_S_t rfl rfl rfl) ?_
    refine WA_takeM 23 rfl rfl rfl (by kernel_rfl) (by kernel_rfl) H (fun _ hC => R_pk_t rfl) ?_
    refine WA_takeM 24 rfl rfl rfl (by kernel_rfl) (by kernel_rfl) H (fun _ hC => R_mv) ?_
    refine WA_takeG 25 rfl rfl rfl rfl (by kernel_rfl) (by kernel_rfl) H (fun _ hC => R_fieldAddr (off' := 1) Try.underlying26 rfl Try.sizeOf3 (by decide) rfl rfl) ?_
    refine WA_takeG 26 rfl rfl rfl rfl (by kernel_rfl) (by kernel_rfl) H (fun _ hC => R_load (v := I 0) Try.isAgg3 rfl (hC.get (.there (.app _ .here))) (by rw [← e5]; rfl)) ?_
    refine WA_takeG 27 rfl rfl rfl rfl (by kernel_rfl) (by kernel_rfl) H (fun _ hC => R_eq_t rfl rfl (by omega)) ?_
    refine WA_takeM 28 rfl rfl rfl (by kernel_rfl) (by kernel_rfl) H (fun _ hC => R_pk_t rfl) ?_
    refine WA_takeM 29 rfl rfl rfl (by kernel_rfl) (by kernel_rfl) H (fun _ hC => R_mv) ?_
    refine WA_takeG 30 rfl rfl rfl rfl (by kernel_rfl) (by kernel_rfl) H (fun _ hC => R_fieldAddr (off' := 0) Try.underlying26 rfl Try.sizeOf3 (by decide) rfl rfl) ?_
    refine WA_takeG 31 rfl rfl rfl rfl (by kernel_rfl) (by kernel_rfl) H (fun _ hC => R_load (v := I hh) Try.isAgg3 rfl (hC.get (.there (.app _ .here))) (by rw [← e6]; rfl)) ?_
    refine WA_takeG 32 rfl rfl rfl rfl (by kernel_rfl) (by kernel_rfl) H (fun _ hC => R_fieldAddr (off' := 0) Try.underlying26 rfl Try.sizeOf3 (by decide) rfl rfl) ?_
    refine WA_takeG 33 rfl rfl rfl rfl (by kernel_rfl) (by kernel_rfl) H (fun _ hC => R_load (v := I hh) Try.isAgg3 rfl (hC.get (.there (.app _ (.there (.app _ (.there (.there (.there (.app _ .here))))))))) (by rw [← hph]; rfl)) ?_
    refine WA_takeG 34 rfl rfl rfl rfl (by kernel_rfl) (by kernel_rfl) H (fun _ hC => R_eq_t rfl rfl (by omega)) ?_
    refine WA_takeM 35 rfl rfl rfl (by kernel_rfl) (by kernel_rfl) H (fun _ hC => R_pk_t rfl) ?_
    refine WA_takeM 36 rfl rfl rfl (by kernel_rfl) (by kernel_rfl) H (fun _ hC => R_mv) ?_
    refine WA_takeGM 37 rfl rfl rfl rfl (by kernel_rfl) (by kernel_rfl) H (fun _ hC => R_mv) ?_
    refine WA_takeG 38 rfl rfl rfl rfl (by kernel_rfl) (by kernel_rfl) H (fun _ hC => R_len_slice Try.underlying22 rfl) ?_
    refine WA_takeG 39 rfl rfl rfl rfl (by kernel_rfl) (by kernel_rfl) H (fun _ hC => R_eq_t rfl rfl (by decide)) ?_
    refine WA_takeM 40 rfl rfl rfl (by kernel_rfl) (by kernel_rfl) H (fun _ hC => R_pk_t rfl) ?_
    refine WA_takeM 41 rfl rfl rfl (by kernel_rfl) (by kernel_rfl) H (fun _ hC => R_mv) ?_
    refine WA_takeG 42 rfl rfl rfl rfl (by kernel_rfl) (by kernel_rfl) H (fun _ hC => R_loadP rfl (hC.get .here)) ?_
    refine WA_takeG 43 rfl rfl rfl rfl (by kernel_rfl) (by kernel_rfl) H (fun _ hC => R_loadP rfl (hC.get (.there (.app _ .here)))) ?_
    refine WA_takeG 44 rfl rfl rfl rfl (by kernel_rfl) (by kernel_rfl) H (fun _ hC => R_eq_P_t rfl rfl) ?_
    refine WA_takeM 45 rfl rfl rfl (by kernel_rfl) (by kernel_rfl) H (fun _ hC => R_pk_t rfl) ?_
    refine WA_takeM 46 rfl rfl rfl (by kernel_rfl) (by kernel_rfl) H (fun _ hC => R_mv) ?_
    refine WA_one (i := 47) (by kernel_rfl) ?_
    (refine WI_call rfl (.inr ⟨_, _, rfl, rfl⟩) (R_call rfl Try.call14 rfl) (by exact awake_ret _) (by first | exact fun _ _ hR _ => H.seq0 hR.2 | exact fun _ _ hR h => Bool.noConfusion h | exact fun _ _ hR _ => (H.seq0 hR.2).none (by repeat' first | exact kNil | apply kCons | apply kApp | assumption | exact OwnS.keys (by assumption)) | exact fun _ _ hR _ => (H.seq0 hR.2).dropN (by repeat' first | exact kNil | apply kCons | apply kApp | assumption | exact OwnS.keys (by assumption))) ?_; rintro _ w126 ⟨rfl, H1⟩; replace H := H.seq0 H1; clear H1)
    refine WA_takeM 48 rfl rfl rfl (by kernel_rfl) (by kernel_rfl) H (fun _ hC => R_pk_t rfl) ?_
    refine WA_takeM 49 rfl rfl rfl (by kernel_rfl) (by kernel_rfl) H (fun _ hC => R_as) ?_
    refine WA_done (by kernel_rfl) ?_
    refine W_ret ?_
    exact ⟨_, rfl, rfl, H.none (by repeat' first | exact kNil | apply kCons | apply kApp | assumption | exact OwnS.keys (by assumption))⟩
  · refine W_seq ?_
    refine W_region_l ?_
    refine WL_stepM rfl (R_as) ?_
    refine WL_nil ?_
    refine W_seq ?_
    refine W_seq ?_
    refine W_region_l ?_
    refine WL_stepM rfl (R_mv) ?_
    refine WL_step rfl (R_len_slice Try.underlying22 rfl) ?_
    refine WL_step rfl (R_gt_t rfl rfl (by omega)) ?_
    refine WL_nil ?_
    refine W_cond_t rfl ?_
    refine W_seq ?_
    refine W_region_l ?_
    (refine WL_call rfl (R_call rfl Try.call14 rfl) (awake_ret _) ?_; rintro _ w15 ⟨rfl, H1⟩; replace H := H.seq0 H1; clear H1)
    refine WL_stepM rfl (R_as) ?_
    refine WL_nil ?_
    refine W_ret ?_
    exact ⟨_, rfl, rfl, H.none (by repeat' first | exact kNil | apply kCons | apply kApp | assumption | exact OwnS.keys (by assumption))⟩
end Go.Proofs.Ytcpkhgdjckogjaa.Ring
