/-
  AuditTells.
-/
import Derived.Test.YthonajikgljgmaaGreatTellM2
namespace Go.Proofs.YthonajikgljgmaaGreat.Aud
open Go Go.Proofs Go.Proofs.YthonajikgljgmaaGreat.Fx
set_option maxRecDepth 100000
set_option linter.unusedVariables false
set_option linter.unusedSimpArgs false
set_option maxHeartbeats 16000000

theorem refFaults_ret {xs : List UInt8} (hl : xs.length ≤ 1000) (w : World) :
    Ret Tryz.prog 6 #[S xs] w fun v w' => ∃ M, OwnS w.heap.size 9 1 v (faults xs).length ((faults xs).map S) M ∧ Hp w M w' := by
  by_cases h : xs.length = 492 ∧ badAll xs = []
  · exact refFaults_good h.1 h.2 w
  · exact refFaults_bad h hl w
theorem faults_le (xs : List UInt8) : (faults xs).length ≤ 5 := by
  unfold faults
  split
  · have := told_le (flags xs) 5
    rw [List.take_of_length_le (by exact Nat.le_refl 5)] at this
    exact this
  · decide
theorem badAll_le (xs : List UInt8) : (badAll xs).length ≤ 26 := badTo_le xs 8 12 4 1 1
/-- what Bad tells -/
def badX (xs : List UInt8) : List (Int × Int) := if xs.length = 492 then badAll xs else [(0, 0)]
theorem badX_le (xs : List UInt8) : (badX xs).length ≤ 100000 := by
  unfold badX; split
  · exact Nat.le_trans (badAll_le xs) (by decide)
  · decide
theorem badX_ret {xs : List UInt8} {w : World} {l : Value} (hl : RdS w l (xs.map U)) :
    Ret Tryz.prog 11 #[l] w fun v w' => ∃ M, OwnS w.heap.size 32 2 v (badX xs).length (rows recC (badX xs)) M ∧ Hp w M w' := by
  by_cases h : xs.length = 492
  · rw [show badX xs = badAll xs from if_pos h]; exact bad_yes hl h
  · rw [show badX xs = [(0, 0)] from if_neg h]; exact bad_no hl h

theorem tells_ret {raw : List UInt8} {rs : List RecV} {w : World} {v0 v1 : Value} (h0 : RdS w v0 (raw.map U)) (h0b : raw.length ≤ 9223372036854775807) (h1 : RdR recV w v1 rs) (h1b : rs.length ≤ 9223372036854775807) (h1g : ∀ o ∈ rs, o.ok w) :
    Ret Tryz.prog 3 #[v0, v1] w fun v w' => v = .bool true ∧ Hp w [] w' := by
  refine Ret_of_W (args := [_, _]) Tryz.func3 rfl Tryz.ntmps3 Tryz.results3 (by simp) ?_
  have H := Hp.refl w
  have h0c := h0
  obtain ⟨ra, rc, hv0⟩ := h0c.form
  rw [List.length_map] at hv0
  refine W_seq ?_
  refine W_region_l ?_
  refine WL_stepM rfl (R_as) ?_
  refine WL_nil ?_
  refine W_seq ?_
  refine W_seq ?_
  refine W_region_l ?_
  refine WL_stepM rfl (R_mv) ?_
  refine WL_step rfl (R_len_slice (len := raw.length) Tryz.underlying22 hv0) ?_
  refine WL_step rfl (R_gt rfl rfl) ?_
  refine WL_nil ?_
  refine W_if rfl (fun h12 => ?_) (fun h12 => ?_)
  · refine W_seq ?_
    refine W_region_l ?_
    (refine WL_call rfl (R_call rfl Tryz.call4 rfl) (awake_ret _) ?_; rintro _ w15 ⟨rfl, H1⟩; replace H := H.seq0 H1; clear H1)
    refine WL_stepM rfl (R_as) ?_
    refine WL_nil ?_
    refine W_ret ?_
    exact ⟨_, rfl, rfl, H.none (by repeat' first | exact kNil | apply kCons | apply kApp | assumption | exact OwnS.keys (by assumption))⟩
  · refine W_skip ?_
    refine W_seq ?_
    refine W_seq ?_
    refine W_region_l ?_
    refine WL_stepM rfl (R_as) ?_
    refine WL_nil ?_
    refine W_block ?_
    refine W_loopS [(4, 10), (15, 76)] (fun (i : Nat) E w' => i ≤ 2 ∧ E 5 = I i ∧ Hp w [] w') (fun i => 2 - i) 0 ?e0 ?r0
    · exact ⟨by omega, rfl, H⟩
    · (clear H; rintro i E w1 ⟨hi, h5, H⟩; refine W_kn h5 ?_)
      refine W_seq ?_
      refine W_seq ?_
      refine W_region_l ?_
      refine WL_stepM rfl (R_mv) ?_
      refine WL_step rfl (R_lt rfl rfl) ?_
      refine WL_nil ?_
      refine W_if rfl (fun h35 => ?_) (fun h35 => ?_)
      · refine W_skip ?_
        refine W_seq ?_
        refine W_block ?_
        refine W_seq ?_
        refine W_region_l ?_
        refine WL_stepM rfl (R_mv) ?_
        refine WL_stepM rfl (R_mv) ?_
        (refine WL_call rfl (R_call rfl Tryz.call5 rfl) (Bytes_ret (rs := rs) (h1.same H) h1b (fun o ho => by obtain ⟨k1, k2, k3, k4⟩ := h1g o ho; exact ⟨k1.monoN H (by repeat' first | exact kNil | apply kCons | apply kApp | assumption | exact OwnS.keys (by assumption)), k2, k3.monoN H (by repeat' first | exact kNil | apply kCons | apply kApp | assumption | exact OwnS.keys (by assumption)), k4⟩)) ?_; rintro _ w43 ⟨Xs, b, cap, sp, fz, hXl, rfl, hcap, hb, H1⟩; have hb2 := Nat.le_trans H.size hb; replace H := H.seqN H1 (by intro p hp; rw [List.mem_singleton.1 hp]; exact hb); clear H1 hb)
        (refine WL_effn rfl (E_buildOnes (vs := [v0, sl b 0 492 cap]) H Tryz.underlying26 Tryz.sizeOf22 Tryz.zeroValue22 rfl rfl (by decide) rfl rfl (by rw [hv0]; simp [Value.oneCell'])) ?_; clear H; intro b22 w44 hb22 H; replace H : Hp w [(b22, blk [v0, sl b 0 492 cap] 22), (b, .cells (Xs.map U ++ sp).toArray 5 fz)] w44 := H; obtain ⟨vb, Bs, hvb, hBl, hsel⟩ : ∃ (vb : Value) (Bs : List UInt8), [v0, sl b 0 492 cap][i]? = some vb ∧ Bs.length ≤ 600 ∧ ∀ {L : List (Nat × Obj)} {w2 : World}, Hp w L w2 → (∀ p ∈ L, w.heap.size ≤ p.1) → (b, Obj.cells (Xs.map U ++ sp).toArray 5 fz) ∈ L → RdS w2 vb (Bs.map U) := (by rcases (show i = 0 ∨ i = 1 from by omega) with rfl | rfl; exact ⟨v0, raw, rfl, by omega, fun H hk _ => h0.monoN H hk⟩; exact ⟨_, Xs, rfl, by omega, fun H hk hm => RdS.blk (c := Xs.map U ++ sp) (off := 0) (m := 492) (H.held _ hm) (by rw [List.drop_zero, List.take_append_of_le_length (by rw [List.length_map]; omega), List.take_of_length_le (by rw [List.length_map]; omega)]) (by rw [List.length_append, List.length_map]; omega) hcap⟩); obtain ⟨va, vc, hvf⟩ := (hsel H (by repeat' first | exact kNil | apply kCons | apply kApp | assumption | exact OwnS.keys (by assumption)) (by simp)).form; rw [List.length_map] at hvf; have hone : vb.oneCell' = true := (by rw [hvf]; rfl); have hF5 := faults_le Bs; have hbx := badX_le Bs; obtain ⟨F, hF⟩ : ∃ F, faults Bs = F := ⟨_, rfl⟩; rw [hF] at hF5)
        refine WL_stepM rfl (R_mv) ?_
        refine WL_step rfl (R_indexAddr (off' := i) Tryz.underlying26 Tryz.sizeOf22 rfl rfl (by omega) (by omega) (by omega)) ?_
        refine WL_step rfl (R_load (v := vb) Tryz.isAgg22 rfl (H.get .here) hvb) ?_
        refine WL_stepM rfl (R_as) ?_
        refine WL_nil ?_
        refine W_seq ?_
        refine W_region_l ?_
        refine WL_stepM rfl (R_mv) ?_
        refine WL_step rfl (R_conv_bs (xs := Bs) Tryz.underlying22 Tryz.underlying5 Tryz.underlying9 rfl (hsel H (by repeat' first | exact kNil | apply kCons | apply kApp | assumption | exact OwnS.keys (by assumption)) (by simp))) ?_
        (refine WL_call rfl (R_call rfl Tryz.call6 rfl) (refFaults_ret (xs := Bs) (by omega) _) ?_; rintro vw w54 ⟨M1, hO1, H1⟩; rw [hF] at hO1; have h54 := H.seqO hO1 H1; clear H H1 hO1; obtain ⟨hO1, H⟩ := h54; obtain ⟨w1a, w1c, rfl⟩ := hO1.form; have hK1 := hO1.keys)
        refine WL_stepM rfl (R_as) ?_
        refine WL_nil ?_
        refine W_seq ?_
        refine W_region_l ?_
        refine WL_stepM rfl (R_mv) ?_
        (refine WL_call rfl (R_call rfl Tryz.call7 rfl) (faults_ret (xs := Bs) (hsel H (by repeat' first | exact kNil | apply kCons | apply kApp | assumption | exact OwnS.keys (by assumption)) (by simp))) ?_; rintro vg w60 ⟨M2, hO2, H1⟩; rw [hF] at hO2; have h60 := H.seqO hO2 H1; clear H H1 hO2; obtain ⟨hO2, H⟩ := h60; obtain ⟨w2a, w2c, rfl⟩ := hO2.form; have hK2 := hO2.keys)
        refine WL_stepM rfl (R_as) ?_
        refine WL_nil ?_
        refine W_seq ?_
        refine W_seq ?_
        refine W_region_l ?_
        refine WL_stepM rfl (R_mv) ?_
        refine WL_step rfl (R_len_slice Tryz.underlying27 rfl) ?_
        refine WL_stepM rfl (R_mv) ?_
        refine WL_step rfl (R_len_slice Tryz.underlying27 rfl) ?_
        refine WL_step rfl (R_ne_f rfl rfl (by omega)) ?_
        refine WL_stepM rfl (R_mv) ?_
        refine WL_guard_t rfl rfl ?_
        refine WL_stepM rfl (R_mv) ?_
        refine WL_guard_t rfl rfl ?_
        (refine WL_call rfl (R_call rfl Tryz.call8 rfl) (sound_ret (xs := Bs) (hsel H (by repeat' first | exact kNil | apply kCons | apply kApp | assumption | exact OwnS.keys (by assumption)) (by simp))) ?_; rintro _ w75 ⟨rfl, H1⟩; rw [hF]; replace H := H.seq0 H1; clear H1)
        refine WL_guard_t rfl rfl ?_
        refine WL_stepM rfl (R_mv) ?_
        refine WL_guard_t rfl rfl ?_
        refine WL_step rfl (R_len_slice Tryz.underlying27 rfl) ?_
        refine WL_guard_t rfl rfl ?_
        refine WL_step rfl (R_eq rfl rfl) ?_
        refine WL_guard_t rfl rfl ?_
        refine WL_step rfl (R_ne_dec_f Tryz.underlying4 rfl rfl (by rw [← List.length_eq_zero_iff]; omega)) ?_
        refine WL_stepM rfl (R_pk_f rfl) ?_
        refine WL_nil ?_
        refine W_cond_f rfl ?_
        refine W_skip ?_
        refine W_seq ?_
        refine W_seq ?_
        refine W_region_l ?_
        refine WL_stepM rfl (R_as) ?_
        refine WL_nil ?_
        refine W_block ?_
        refine W_loopS [(4, 4), (9, 9), (44, 58)] (fun (k : Nat) E w' => k ≤ F.length ∧ E 9 = I k ∧ Hp w (M2 ++ (M1 ++ [(b22, blk [v0, sl b 0 492 cap] 22), (b, .cells (Xs.map U ++ sp).toArray 5 fz)])) w') (fun k => F.length - k) 0 ?e2 ?r2
        · exact ⟨by omega, rfl, H⟩
        · (clear H; rintro k E w1 ⟨hk, h9, H⟩; refine W_kn h9 ?_)
          refine W_seq ?_
          refine W_seq ?_
          refine W_region_l ?_
          refine WL_stepM rfl (R_mv) ?_
          refine WL_stepM rfl (R_mv) ?_
          refine WL_step rfl (R_len_slice Tryz.underlying27 rfl) ?_
          refine WL_step rfl (R_lt rfl rfl) ?_
          refine WL_nil ?_
          refine W_if rfl (fun h104 => ?_) (fun h104 => ?_)
          · refine W_skip ?_
            refine W_seq ?_
            refine W_block ?_
            refine W_seq ?_
            (obtain ⟨s, hs⟩ : ∃ s, F[k]? = some s := ⟨_, List.getElem?_eq_getElem (by omega)⟩; obtain ⟨q1, c1, sp1, e1, hq1, rfl, hs1, hc1⟩ := OwnS.pos hO1 (by omega); obtain ⟨q2, c2, sp2, e2, hq2, rfl, hs2, hc2⟩ := OwnS.pos hO2 (by omega); cases e1; cases e2; refine W_drawH (fun _ => false) (by kernel_rfl) H ?_; clear H; intro w109 H)
            refine WA_takeM 0 rfl rfl rfl (by kernel_rfl) (by kernel_rfl) H (fun _ hC => R_mv) ?_
            refine WA_takeM 1 rfl rfl rfl (by kernel_rfl) (by kernel_rfl) H (fun _ hC => R_mv) ?_
            refine WA_take 2 rfl rfl rfl (by kernel_rfl) (by kernel_rfl) H (fun _ hC => R_indexAddr Tryz.underlying27 Tryz.sizeOf9 rfl rfl (by omega) (by omega) idx0_cast) ?_
            refine WA_take 3 rfl rfl rfl (by kernel_rfl) (by kernel_rfl) H (fun _ hC => R_load (v := S s) Tryz.isAgg9 rfl (hC.get .here) (by rw [List.getElem?_append_left (by rw [List.length_map]; omega), List.getElem?_map, hs]; rfl)) ?_
            refine WA_takeM 4 rfl rfl rfl (by kernel_rfl) (by kernel_rfl) H (fun _ hC => R_mv) ?_
            refine WA_takeM 5 rfl rfl rfl (by kernel_rfl) (by kernel_rfl) H (fun _ hC => R_mv) ?_
            refine WA_take 6 rfl rfl rfl (by kernel_rfl) (by kernel_rfl) H (fun _ hC => R_indexAddr Tryz.underlying27 Tryz.sizeOf9 rfl rfl (by omega) (by omega) idx0_cast) ?_
            refine WA_take 7 rfl rfl rfl (by kernel_rfl) (by kernel_rfl) H (fun _ hC => R_load (v := S s) Tryz.isAgg9 rfl (hC.get (.there .here)) (by rw [List.getElem?_append_left (by rw [List.length_map]; omega), List.getElem?_map, hs]; rfl)) ?_
            refine WA_take 8 rfl rfl rfl (by kernel_rfl) (by kernel_rfl) H (fun _ hC => R_ne_S_f rfl rfl rfl) ?_
            refine WA_done (by kernel_rfl) ?_
            refine W_cond_f rfl ?_
            refine W_skip ?_
            refine W_region_l ?_
            refine WL_stepM rfl (R_mv) ?_
            refine WL_step rfl (R_add rfl rfl (w_i64 (by omega))) ?_
            refine WL_stepM rfl (R_as) ?_
            refine WL_nil ?_
            exact ⟨(same_mov rfl (same_updo rfl (same_mov rfl (same_updo rfl (same_updo rfl (same_updo rfl (same_mov rfl (same_mov rfl (same_updo rfl (same_updo rfl (same_mov rfl (same_mov rfl (same_know rfl (same_updo rfl (same_updo rfl (same_mov rfl (same_mov rfl same_ovr))))))))))))))))), k + 1, by omega, by omega, rfl, H⟩
          · refine W_exit ?_
            refine (if_pos rfl).mpr ?_
            refine W_seq ?_
            refine W_region_l ?_
            refine WL_step rfl (R_buildL (places := [(0, 1), (1, 1)]) (vs := [(.int _ _), (.int _ _)]) Tryz.underlying32 Tryz.typeInfo32 rfl rfl (by kernel_rfl) rfl rfl rfl) ?_
            (refine WL_effn rfl (E_buildRows (vss := [recC (0, 0)]) H Tryz.underlying33 Tryz.sizeOf32 Tryz.zeroValue32 rfl rfl (by decide) rfl rfl (by simp [recC])) ?_; clear H; intro b60 w133 hb60 H)
            refine WL_stepM rfl (R_as) ?_
            refine WL_nil ?_
            refine W_seq ?_
            refine W_seq ?_
            refine W_region_l ?_
            refine WL_stepM rfl (R_mv) ?_
            refine WL_step rfl (R_len_slice (len := Bs.length) Tryz.underlying22 hvf) ?_
            refine WL_step rfl (R_eq rfl rfl) ?_
            refine WL_nil ?_
            refine W_if rfl (fun h143 => ?_) (fun h143 => ?_)
            · refine W_region_l ?_
              refine WL_stepM rfl (R_mv) ?_
              refine WL_step rfl (R_conv_bs (xs := Bs) Tryz.underlying22 Tryz.underlying5 Tryz.underlying9 rfl (hsel H (by repeat' first | exact kNil | apply kCons | apply kApp | assumption | exact OwnS.keys (by assumption)) (by simp))) ?_
              (refine WL_call rfl (R_call rfl Tryz.call9 rfl) (records_ret (xs := Bs) (by omega) _) ?_; rintro _ w147 ⟨u, MB, rfl, hOB, H1⟩; have h147 := H.seqO hOB H1; clear H H1 hOB; obtain ⟨hOB, H⟩ := h147; have hKB := hOB.keys; rw [show badAll Bs = badX Bs from (if_pos (by omega)).symm] at hOB; obtain ⟨uA, uC, rfl⟩ := hOB.form)
              refine WL_stepM rfl (R_mv) ?_
              refine WL_step rfl (R_extract rfl rfl) ?_
              refine WL_step rfl (R_extract rfl rfl) ?_
              refine WL_step rfl (R_extract rfl rfl) ?_
              refine WL_step rfl (R_extract rfl rfl) ?_
              refine WL_stepM rfl (R_as) ?_
              refine WL_nil ?_
              refine W_seq ?_
              refine W_region_l ?_
              refine WL_stepM rfl (R_mv) ?_
              (refine WL_call rfl (R_call rfl Tryz.call11 rfl) (badX_ret (xs := Bs) (hsel H (by repeat' first | exact kNil | apply kCons | apply kApp | assumption | exact OwnS.keys (by assumption)) (by simp))) ?_; rintro vd w158 ⟨M3, hO3, H1⟩; have h158 := H.seqO hO3 H1; clear H H1 hO3; obtain ⟨hO3, H⟩ := h158; obtain ⟨w3a, w3c, rfl⟩ := hO3.form; have hK3 := hO3.keys)
              refine WL_stepM rfl (R_mv) ?_
              (refine WL_call rfl (R_call rfl Tryz.call10 rfl) (same_ret (A := badX Bs) (RdR.own recC_len hO3 rfl (fun p hp => H.held p (by simp [hp]))) (RdR.own recC_len hOB rfl (fun p hp => H.held p (by simp [hp]))) hbx) ?_; rintro _ w160 ⟨rfl, H1⟩; replace H := H.seq0 H1; clear H1)
              refine WL_step rfl (R_not_t rfl) ?_
              refine WL_nil ?_
              refine W_cond_f rfl ?_
              refine W_skip ?_
              refine W_region_l ?_
              refine WL_stepM rfl (R_mv) ?_
              refine WL_step rfl (R_add rfl rfl (w_i64 (by omega))) ?_
              refine WL_stepM rfl (R_as) ?_
              refine WL_nil ?_
              exact ⟨(same_mov rfl (same_updo rfl (same_mov rfl (same_updo rfl (same_updo rfl (same_mov rfl (same_updo rfl (same_mov rfl (same_mov rfl (same_updo rfl (same_updo rfl (same_updo rfl (same_updo rfl (same_mov rfl (same_updo rfl (same_updo rfl (same_mov rfl (same_know rfl (same_updo rfl (same_updo rfl (same_mov rfl (same_mov rfl (same_updo rfl (same_updo rfl (same_know rfl (same_updo rfl (same_updo rfl (same_mov rfl (same_mov rfl (same_in rfl (same_mov rfl (same_mov rfl (same_updo rfl (same_updo rfl (same_updo rfl (same_mov rfl (same_updo rfl (same_mov rfl (same_mov rfl (same_updo rfl (same_updo rfl (same_mov rfl (same_updo rfl (same_mov rfl (same_mov rfl (same_updo rfl (same_mov rfl (same_mov rfl (same_updo rfl (same_updo rfl (same_mov rfl (same_mov rfl (same_updo rfl (same_updo rfl (same_mov rfl (same_updo rfl (same_updo rfl (same_mov rfl (same_mov rfl (same_know rfl (same_updo rfl (same_mov rfl same_ovr)))))))))))))))))))))))))))))))))))))))))))))))))))))))))))))), i + 1, by omega, by omega, rfl, H.none (by repeat' first | exact kNil | apply kCons | apply kApp | assumption | exact OwnS.keys (by assumption))⟩
            · refine W_skip ?_
              refine W_seq ?_
              refine W_region_l ?_
              refine WL_stepM rfl (R_mv) ?_
              (refine WL_call rfl (R_call rfl Tryz.call11 rfl) (badX_ret (xs := Bs) (hsel H (by repeat' first | exact kNil | apply kCons | apply kApp | assumption | exact OwnS.keys (by assumption)) (by simp))) ?_; rintro vd w175 ⟨M3, hO3, H1⟩; have h175 := H.seqO hO3 H1; clear H H1 hO3; obtain ⟨hO3, H⟩ := h175; obtain ⟨w3a, w3c, rfl⟩ := hO3.form; have hK3 := hO3.keys)
              refine WL_stepM rfl (R_mv) ?_
              (have hx0 : badX Bs = [(0, 0)] := if_neg (by omega); refine WL_call rfl (R_call rfl Tryz.call10 rfl) (same_ret (A := badX Bs) (RdR.own recC_len hO3 rfl (fun p hp => H.held p (by simp [hp]))) (by rw [hx0]; exact RdR.blk (off := 0) (cap := 1) (l := [((0 : Int), (0 : Int))]) (H.get (.app M3 .here)) rfl (by decide)) hbx) ?_; rintro _ w177 ⟨rfl, H1⟩; replace H := H.seq0 H1; clear H1)
              refine WL_step rfl (R_not_t rfl) ?_
              refine WL_nil ?_
              refine W_cond_f rfl ?_
              refine W_skip ?_
              refine W_region_l ?_
              refine WL_stepM rfl (R_mv) ?_
              refine WL_step rfl (R_add rfl rfl (w_i64 (by omega))) ?_
              refine WL_stepM rfl (R_as) ?_
              refine WL_nil ?_
              exact ⟨(same_mov rfl (same_updo rfl (same_mov rfl (same_updo rfl (same_updo rfl (same_mov rfl (same_updo rfl (same_mov rfl (same_know rfl (same_updo rfl (same_updo rfl (same_mov rfl (same_mov rfl (same_updo rfl (same_updo rfl (same_know rfl (same_updo rfl (same_updo rfl (same_mov rfl (same_mov rfl (same_in rfl (same_mov rfl (same_mov rfl (same_updo rfl (same_updo rfl (same_updo rfl (same_mov rfl (same_updo rfl (same_mov rfl (same_mov rfl (same_updo rfl (same_updo rfl (same_mov rfl (same_updo rfl (same_mov rfl (same_mov rfl (same_updo rfl (same_mov rfl (same_mov rfl (same_updo rfl (same_updo rfl (same_mov rfl (same_mov rfl (same_updo rfl (same_updo rfl (same_mov rfl (same_updo rfl (same_updo rfl (same_mov rfl (same_mov rfl (same_know rfl (same_updo rfl (same_mov rfl same_ovr))))))))))))))))))))))))))))))))))))))))))))))))))))), i + 1, by omega, by omega, rfl, H.none (by repeat' first | exact kNil | apply kCons | apply kApp | assumption | exact OwnS.keys (by assumption))⟩
      · refine W_exit ?_
        refine (if_pos rfl).mpr ?_
        refine W_seq ?_
        refine W_region_l ?_
        (refine WL_call rfl (R_call rfl Tryz.call4 rfl) (awake_ret _) ?_; rintro _ w192 ⟨rfl, H1⟩; replace H := H.seq0 H1; clear H1)
        refine WL_stepM rfl (R_as) ?_
        refine WL_nil ?_
        refine W_ret ?_
        exact ⟨_, rfl, rfl, H.none (by repeat' first | exact kNil | apply kCons | apply kApp | assumption | exact OwnS.keys (by assumption))⟩
end Go.Proofs.YthonajikgljgmaaGreat.Aud
