/-
  The law SlotFields.
-/
import Derived.Test.YtcpkhgdjckogjaaSlotL
namespace Go.Proofs.Ytcpkhgdjckogjaa.Slot
open Go Go.Proofs Go.Proofs.Ytcpkhgdjckogjaa.Fx Go.Proofs.Ytcpkhgdjckogjaa.Codec
set_option maxRecDepth 100000
set_option linter.unusedVariables false
set_option linter.unusedSimpArgs false
set_option maxHeartbeats 4000000

theorem notE {p : Pi} (h : okP p) (hs : p.s = 1) (he : p.e ≠ 0) : False := by
  rcases h.2.2.2 with ⟨h1, _⟩ | ⟨_, h1⟩
  · omega
  · exact he h1
theorem notA {p : Pi} {n : Int} (h : okP p) (ha : p.a = BitVec.ofInt 64 n) (h0 : 65534 < n) (h1 : n < 9000000000000000000) : False := by
  have h2 := okB_lt h.2.1.1.1
  have h3 := bv_lt h.2.1.1.1
  have e : (65534#64).toNat = 65534 := rfl
  have h4 := bv_small h2
  rw [ha, bv_of (by omega) (by omega)] at h4
  rw [ha] at h3
  omega
theorem notN {p : Pi} {n : Int} (h : okP p) (ha : p.a = BitVec.ofInt 64 n) (h0 : n < 0) (h1 : -9000000000000000000 < n) : False := by
  have h2 := okB_lt h.2.1.1.1
  have h4 := bv_small h2
  rw [ha, bv_of (by omega) (by omega)] at h4
  omega
theorem notS {p : Pi} (h : okP p) (hs : p.s = 2) (ha : p.a ≠ 0#64) : False := by
  rcases h.2.2.2 with ⟨_, h1, _⟩ | ⟨h1, _⟩
  · exact ha h1
  · exact h1 hs
theorem notF {p : Pi} {j : Nat} {x : Int} (h : okP (setF p j x)) (hj : j < 8) (hx : x < 0 ∨ 12 < x) : False := by
  have hf := p.hf
  have : x ∈ (setF p j x).f := by
    show x ∈ p.f.set j x
    exact List.mem_of_getElem? (List.getElem?_set_self (by omega))
  have := h.2.2.1 x this
  omega

theorem fields_ret (fi by_ : Int) (w : World) : Ret Try.prog 8 #[I fi, I by_] w fun v w' => v = .bool true ∧ Hp w [] w' := by
  refine Ret_of_W (args := [_, _]) Try.func8 rfl Try.ntmps8 Try.results8 (by simp) ?_
  have H := Hp.refl w
  obtain ⟨z, hz, hz0, hz1⟩ : ∃ z : Int, fi % 16 = z ∧ 0 ≤ z ∧ z ≤ 15 := ⟨_, rfl, by omega, by omega⟩
  obtain ⟨y0, hy0, hy1, hy2⟩ : ∃ y : Int, by_ % 256 = y ∧ 0 ≤ y ∧ y ≤ 255 := ⟨_, rfl, by omega, by omega⟩
  obtain ⟨y, hy, hy3, hy4⟩ : ∃ y : Int, y0 + 1 = y ∧ 1 ≤ y ∧ y ≤ 256 := ⟨_, rfl, by omega, by omega⟩
  obtain ⟨j, hj, hj8⟩ : ∃ j : Nat, y % 8 = (j : Int) ∧ j < 8 := ⟨(y % 8).toNat, by omega, by omega⟩
  have hj := hj
  obtain ⟨pz, hpz⟩ : ∃ p : Pi, p = ⟨1, 8, 7, 0, 65534, 2, 4, 8, List.replicate 8 0, rfl⟩ := ⟨_, rfl⟩
  have hpzv : piC pz = [I 1, I 8, I 7, I 0, I 65534, I 2, I 4, I 8] ++ List.replicate 8 (I 0) := by rw [hpz]; rfl
  obtain ⟨p0, hp0⟩ : ∃ p : Pi, p = setF ⟨1, 8, 7, 0, 65534, 2, 4, 8, List.replicate 8 0, rfl⟩ 7 12 := ⟨_, rfl⟩
  have hpz0 : setF pz 7 12 = p0 := by rw [hp0, hpz]
  have hs0 : p0.s = 1 := by rw [hp0]; rfl
  have hc0 : p0.c = 4 := by rw [hp0]; rfl
  have ha0 : p0.a = 65534 := by rw [hp0]; rfl
  have hok : okP p0 := by rw [hp0]; decide
  refine W_seq ?_
  refine W_region_l ?_
  refine WL_stepM rfl (R_as) ?_
  refine WL_nil ?_
  refine W_seq ?_
  refine W_region_l ?_
  refine WL_step rfl (R_buildL (places := [(0, 1), (1, 1), (2, 1), (3, 1), (4, 1), (5, 1), (6, 1), (7, 1), (8, 8)]) (vs := [I 1, I 8, I 7, I 0, I 65534, I 2, I 4, I 8] ++ List.replicate 8 (I 0)) Try.underlying53 Try.typeInfo53 rfl rfl (by kernel_rfl) rfl rfl rfl) ?_
  (refine WL_effn rfl (E_allocP H) ?_; clear H; intro c5 w8 hc5 H)
  (refine WL_effu rfl (E_storeP (q := pz) H rfl (congrArg (fun l => Value.agg (List.toArray l)) hpzv.symm) .here) ?_; clear H; intro w9 H)
  refine WL_nil ?_
  refine W_seq ?_
  refine W_region_l ?_
  refine WL_step rfl (R_fieldAddr (off' := 8) Try.underlying53 rfl Try.sizeOf51 (by decide) rfl rfl) ?_
  refine WL_step rfl (R_indexAddrA (off' := 8 + 7) Try.underlying51 Try.sizeOf3 rfl rfl (by omega) (by omega) (by omega)) ?_
  (refine WL_effu rfl (E_store (v := I 12) H Try.sizeOf3 rfl rfl rfl .here (by rw [piC_len]; decide)) ?_; clear H; intro w15 H; rw [set_pi, hpz0] at H)
  refine WL_nil ?_
  refine W_seq ?_
  refine W_seq ?_
  refine W_region_l ?_
  refine WL_step rfl (R_loadP rfl (H.get .here)) ?_
  (refine WL_call rfl (R_call rfl Try.call27 rfl) (ok_to (decide_eq_true hok) _) ?_; rintro _ w21 ⟨rfl, H1⟩; replace H := H.seq0 H1; clear H1)
  refine WL_step rfl (R_not_t rfl) ?_
  refine WL_nil ?_
  refine W_cond_f rfl ?_
  refine W_skip ?_
  refine W_seq ?_
  refine W_region_l ?_
  refine WL_stepM rfl (R_mv) ?_
  refine WL_step rfl (R_bits rfl rfl (by simp) ((and_mask_i64 8 256 (by decide) rfl (by decide)).trans hy0)) ?_
  refine WL_step rfl (R_add (r := y) rfl rfl ((w_i64 (by omega)).trans hy)) ?_
  refine WL_stepM rfl (R_as) ?_
  refine WL_nil ?_
  refine W_seqS [(17, 89)] (fun E w' => ∃ q, ¬ okP q ∧ Hp w [(c5, blk (piC q) 53)] w') ?c6 ?k6
  · refine W_seq ?_
    ((have mk6 : True := trivial)) <;> refine W_region_l ?_
    refine WL_stepM rfl (R_mv) ?_
    refine WL_step rfl (R_bits rfl rfl (by simp) ((and_mask_i64 4 16 (by decide) rfl (by decide)).trans hz)) ?_
    refine WL_nil ?_
    refine W_block ?_
    refine W_seq ?_
    refine W_region_l ?_
    refine WL_step rfl (R_eq rfl rfl) ?_
    refine WL_stepM rfl (R_as) ?_
    refine WL_nil ?_
    refine W_if rfl (fun h45 => ?_) (fun h45 => ?_)
    · refine W_region_l ?_
      refine WL_stepM rfl (R_mv) ?_
      refine WL_step rfl (R_add (r := 3 + y) rfl rfl (w_i64 (by omega))) ?_
      refine WL_step rfl (R_fieldAddr (off' := 0) Try.underlying53 rfl Try.sizeOf3 (by decide) rfl rfl) ?_
      (have _g := mk6; refine WL_effu rfl (E_store H Try.sizeOf3 rfl rfl rfl .here (by rw [piC_len]; omega)) ?_; clear H; intro w50 H)
      refine WL_nil ?_
      exact ⟨(same_updn (same_updo rfl (same_updo rfl (same_mov rfl (same_know rfl (same_mov rfl (same_updo rfl (same_updo rfl (same_mov rfl Same.refl))))))))), { p0 with s := 3 + y }, (fun h => by have h2 : 3 + y ≤ 3 := h.1.1.2; omega), H⟩
    · refine W_seq ?_
      refine W_region_l ?_
      refine WL_step rfl (R_eq rfl rfl) ?_
      refine WL_stepM rfl (R_as) ?_
      refine WL_nil ?_
      refine W_if rfl (fun h58 => ?_) (fun h58 => ?_)
      · refine W_region_l ?_
        refine WL_step rfl (R_fieldAddr (off' := 0) Try.underlying53 rfl Try.sizeOf3 (by decide) rfl rfl) ?_
        (have _g := mk6; refine WL_effu rfl (E_store H Try.sizeOf3 rfl rfl rfl .here (by rw [piC_len]; omega)) ?_; clear H; intro w61 H)
        refine WL_nil ?_
        exact ⟨(same_updn (same_updo rfl (same_know rfl (same_mov rfl (same_updo rfl (same_know rfl (same_mov rfl (same_updo rfl (same_updo rfl (same_mov rfl Same.refl)))))))))), { p0 with s := 0 }, (fun h => by have h2 : (1 : Int) ≤ 0 := h.1.1.1; omega), H⟩
      · refine W_seq ?_
        refine W_region_l ?_
        refine WL_step rfl (R_eq rfl rfl) ?_
        refine WL_stepM rfl (R_as) ?_
        refine WL_nil ?_
        refine W_if rfl (fun h69 => ?_) (fun h69 => ?_)
        · refine W_region_l ?_
          refine WL_stepM rfl (R_mv) ?_
          refine WL_step rfl (R_add (r := 8 + y) rfl rfl (w_i64 (by omega))) ?_
          refine WL_step rfl (R_fieldAddr (off' := 1) Try.underlying53 rfl Try.sizeOf3 (by decide) rfl rfl) ?_
          (have _g := mk6; refine WL_effu rfl (E_store H Try.sizeOf3 rfl rfl rfl .here (by rw [piC_len]; omega)) ?_; clear H; intro w74 H)
          refine WL_nil ?_
          exact ⟨(same_updn (same_updo rfl (same_updo rfl (same_mov rfl (same_know rfl (same_mov rfl (same_updo rfl (same_know rfl (same_mov rfl (same_updo rfl (same_know rfl (same_mov rfl (same_updo rfl (same_updo rfl (same_mov rfl Same.refl))))))))))))))), { p0 with p := 8 + y }, (fun h => by have h2 : 8 + y ≤ 8 := h.1.2.1.2; omega), H⟩
        · refine W_seq ?_
          refine W_region_l ?_
          refine WL_step rfl (R_eq rfl rfl) ?_
          refine WL_stepM rfl (R_as) ?_
          refine WL_nil ?_
          refine W_if rfl (fun h82 => ?_) (fun h82 => ?_)
          · refine W_region_l ?_
            refine WL_stepM rfl (R_mv) ?_
            refine WL_step rfl (R_add (r := 7 + y) rfl rfl (w_i64 (by omega))) ?_
            refine WL_step rfl (R_fieldAddr (off' := 2) Try.underlying53 rfl Try.sizeOf3 (by decide) rfl rfl) ?_
            (have _g := mk6; refine WL_effu rfl (E_store H Try.sizeOf3 rfl rfl rfl .here (by rw [piC_len]; omega)) ?_; clear H; intro w87 H)
            refine WL_nil ?_
            exact ⟨(same_updn (same_updo rfl (same_updo rfl (same_mov rfl (same_know rfl (same_mov rfl (same_updo rfl (same_know rfl (same_mov rfl (same_updo rfl (same_know rfl (same_mov rfl (same_updo rfl (same_know rfl (same_mov rfl (same_updo rfl (same_updo rfl (same_mov rfl Same.refl)))))))))))))))))), { p0 with g := 7 + y }, (fun h => by have h2 : 7 + y ≤ 7 := h.1.2.2.1.2; omega), H⟩
          · refine W_seq ?_
            refine W_region_l ?_
            refine WL_step rfl (R_eq rfl rfl) ?_
            refine WL_stepM rfl (R_as) ?_
            refine WL_nil ?_
            refine W_if rfl (fun h95 => ?_) (fun h95 => ?_)
            · refine W_region_l ?_
              refine WL_stepM rfl (R_mv) ?_
              refine WL_step rfl (R_fieldAddr (off' := 3) Try.underlying53 rfl Try.sizeOf3 (by decide) rfl rfl) ?_
              (have _g := mk6; refine WL_effu rfl (E_store H Try.sizeOf3 rfl rfl rfl .here (by rw [piC_len]; omega)) ?_; clear H; intro w99 H)
              refine WL_nil ?_
              exact ⟨(same_updn (same_updo rfl (same_mov rfl (same_know rfl (same_mov rfl (same_updo rfl (same_know rfl (same_mov rfl (same_updo rfl (same_know rfl (same_mov rfl (same_updo rfl (same_know rfl (same_mov rfl (same_updo rfl (same_know rfl (same_mov rfl (same_updo rfl (same_updo rfl (same_mov rfl Same.refl)))))))))))))))))))), { p0 with e := y }, (fun h => notE h hs0 (by show y ≠ 0; omega)), H⟩
            · refine W_seq ?_
              refine W_region_l ?_
              refine WL_step rfl (R_eq rfl rfl) ?_
              refine WL_stepM rfl (R_as) ?_
              refine WL_nil ?_
              refine W_if rfl (fun h107 => ?_) (fun h107 => ?_)
              · refine W_region_l ?_
                refine WL_stepM rfl (R_mv) ?_
                (refine WL_step rfl (R_add (r := (BitVec.ofInt 64 (65535 + y)).toInt) rfl rfl (by rw [bv_of (by omega) (by omega)]; exact w_i64 (by omega))) ?_)
                refine WL_step rfl (R_fieldAddr (off' := 4) Try.underlying53 rfl Try.sizeOf3 (by decide) rfl rfl) ?_
                (have _g := mk6; refine WL_effu rfl (E_store H Try.sizeOf3 rfl rfl rfl .here (by rw [piC_len]; omega)) ?_; clear H; intro w112 H)
                refine WL_nil ?_
                exact ⟨(same_updn (same_updo rfl (same_updo rfl (same_mov rfl (same_know rfl (same_mov rfl (same_updo rfl (same_know rfl (same_mov rfl (same_updo rfl (same_know rfl (same_mov rfl (same_updo rfl (same_know rfl (same_mov rfl (same_updo rfl (same_know rfl (same_mov rfl (same_updo rfl (same_know rfl (same_mov rfl (same_updo rfl (same_updo rfl (same_mov rfl Same.refl)))))))))))))))))))))))), { p0 with a := BitVec.ofInt 64 (65535 + y) }, (fun h => notA h (n := 65535 + y) rfl (by omega) (by omega)), H⟩
              · refine W_seq ?_
                refine W_region_l ?_
                refine WL_step rfl (R_eq rfl rfl) ?_
                refine WL_stepM rfl (R_as) ?_
                refine WL_nil ?_
                refine W_if rfl (fun h120 => ?_) (fun h120 => ?_)
                · refine W_region_l ?_
                  refine WL_step rfl (R_fieldAddr (off' := 5) Try.underlying53 rfl Try.sizeOf3 (by decide) rfl rfl) ?_
                  (have _g := mk6; refine WL_effu rfl (E_store H Try.sizeOf3 rfl rfl rfl .here (by rw [piC_len]; omega)) ?_; clear H; intro w123 H)
                  refine WL_nil ?_
                  exact ⟨(same_updn (same_updo rfl (same_know rfl (same_mov rfl (same_updo rfl (same_know rfl (same_mov rfl (same_updo rfl (same_know rfl (same_mov rfl (same_updo rfl (same_know rfl (same_mov rfl (same_updo rfl (same_know rfl (same_mov rfl (same_updo rfl (same_know rfl (same_mov rfl (same_updo rfl (same_know rfl (same_mov rfl (same_updo rfl (same_updo rfl (same_mov rfl Same.refl))))))))))))))))))))))))), { p0 with b := 1 }, (fun h => (show ¬ okB (1 : BitVec 64) by decide) h.2.1.1.2.1), H⟩
                · refine W_seq ?_
                  refine W_region_l ?_
                  refine WL_step rfl (R_eq rfl rfl) ?_
                  refine WL_stepM rfl (R_as) ?_
                  refine WL_nil ?_
                  refine W_if rfl (fun h131 => ?_) (fun h131 => ?_)
                  · refine W_region_l ?_
                    refine WL_step rfl (R_fieldAddr (off' := 5) Try.underlying53 rfl Try.sizeOf3 (by decide) rfl rfl) ?_
                    (have _g := mk6; refine WL_effu rfl (E_store H Try.sizeOf3 rfl rfl rfl .here (by rw [piC_len]; omega)) ?_; clear H; intro w134 H)
                    refine WL_nil ?_
                    exact ⟨(same_updn (same_updo rfl (same_know rfl (same_mov rfl (same_updo rfl (same_know rfl (same_mov rfl (same_updo rfl (same_know rfl (same_mov rfl (same_updo rfl (same_know rfl (same_mov rfl (same_updo rfl (same_know rfl (same_mov rfl (same_updo rfl (same_know rfl (same_mov rfl (same_updo rfl (same_know rfl (same_mov rfl (same_updo rfl (same_know rfl (same_mov rfl (same_updo rfl (same_updo rfl (same_mov rfl Same.refl)))))))))))))))))))))))))))), { p0 with b := 512 }, (fun h => (show ¬ ((512 : BitVec 64) &&& 16896#64 = 0#64) by decide) h.2.1.2.1.1), H⟩
                  · refine W_seq ?_
                    refine W_region_l ?_
                    refine WL_step rfl (R_eq rfl rfl) ?_
                    refine WL_stepM rfl (R_as) ?_
                    refine WL_nil ?_
                    refine W_if rfl (fun h142 => ?_) (fun h142 => ?_)
                    · refine W_region_l ?_
                      refine WL_step rfl (R_fieldAddr (off' := 6) Try.underlying53 rfl Try.sizeOf3 (by decide) rfl rfl) ?_
                      (have _g := mk6; refine WL_effu rfl (E_store H Try.sizeOf3 rfl rfl rfl .here (by rw [piC_len]; omega)) ?_; clear H; intro w145 H)
                      refine WL_nil ?_
                      exact ⟨(same_updn (same_updo rfl (same_know rfl (same_mov rfl (same_updo rfl (same_know rfl (same_mov rfl (same_updo rfl (same_know rfl (same_mov rfl (same_updo rfl (same_know rfl (same_mov rfl (same_updo rfl (same_know rfl (same_mov rfl (same_updo rfl (same_know rfl (same_mov rfl (same_updo rfl (same_know rfl (same_mov rfl (same_updo rfl (same_know rfl (same_mov rfl (same_updo rfl (same_know rfl (same_mov rfl (same_updo rfl (same_updo rfl (same_mov rfl Same.refl))))))))))))))))))))))))))))))), { p0 with c := 16384 }, (fun h => (show ¬ ((16384 : BitVec 64) &&& 16896#64 = 0#64) by decide) h.2.1.2.1.2.1), H⟩
                    · refine W_seq ?_
                      refine W_region_l ?_
                      refine WL_step rfl (R_eq rfl rfl) ?_
                      refine WL_stepM rfl (R_as) ?_
                      refine WL_nil ?_
                      refine W_if rfl (fun h153 => ?_) (fun h153 => ?_)
                      · refine W_region_l ?_
                        refine WL_step rfl (R_fieldAddr (off' := 7) Try.underlying53 rfl Try.sizeOf3 (by decide) rfl rfl) ?_
                        (have _g := mk6; refine WL_effu rfl (E_store H Try.sizeOf3 rfl rfl rfl .here (by rw [piC_len]; omega)) ?_; clear H; intro w156 H)
                        refine WL_nil ?_
                        exact ⟨(same_updn (same_updo rfl (same_know rfl (same_mov rfl (same_updo rfl (same_know rfl (same_mov rfl (same_updo rfl (same_know rfl (same_mov rfl (same_updo rfl (same_know rfl (same_mov rfl (same_updo rfl (same_know rfl (same_mov rfl (same_updo rfl (same_know rfl (same_mov rfl (same_updo rfl (same_know rfl (same_mov rfl (same_updo rfl (same_know rfl (same_mov rfl (same_updo rfl (same_know rfl (same_mov rfl (same_updo rfl (same_know rfl (same_mov rfl (same_updo rfl (same_updo rfl (same_mov rfl Same.refl)))))))))))))))))))))))))))))))))), { p0 with d := 4 }, (fun h => (show ¬ (p0.c &&& (4 : BitVec 64) = 0#64) by rw [hc0]; decide) h.2.1.2.2), H⟩
                      · refine W_seq ?_
                        refine W_region_l ?_
                        refine WL_step rfl (R_eq rfl rfl) ?_
                        refine WL_stepM rfl (R_as) ?_
                        refine WL_nil ?_
                        refine W_if rfl (fun h164 => ?_) (fun h164 => ?_)
                        · refine W_region_l ?_
                          refine WL_stepM rfl (R_mv) ?_
                          refine WL_step rfl (R_bits rfl rfl (by simp) ((and_mask_i64 3 8 (by decide) rfl (by decide)).trans hj)) ?_
                          refine WL_stepM rfl (R_mv) ?_
                          refine WL_step rfl (R_add (r := 12 + y) rfl rfl (w_i64 (by omega))) ?_
                          refine WL_step rfl (R_fieldAddr (off' := 8) Try.underlying53 rfl Try.sizeOf51 (by decide) rfl rfl) ?_
                          refine WL_step rfl (R_indexAddrA (off' := 8 + j) Try.underlying51 Try.sizeOf3 rfl rfl (by omega) (by omega) (by omega)) ?_
                          (have _g := mk6; refine WL_effu rfl (E_store H Try.sizeOf3 rfl rfl rfl .here (by rw [piC_len]; omega)) ?_; clear H; intro w172 H)
                          refine WL_nil ?_
                          exact ⟨(same_updn (same_updo rfl (same_updo rfl (same_updo rfl (same_mov rfl (same_updo rfl (same_mov rfl (same_know rfl (same_mov rfl (same_updo rfl (same_know rfl (same_mov rfl (same_updo rfl (same_know rfl (same_mov rfl (same_updo rfl (same_know rfl (same_mov rfl (same_updo rfl (same_know rfl (same_mov rfl (same_updo rfl (same_know rfl (same_mov rfl (same_updo rfl (same_know rfl (same_mov rfl (same_updo rfl (same_know rfl (same_mov rfl (same_updo rfl (same_know rfl (same_mov rfl (same_updo rfl (same_know rfl (same_mov rfl (same_updo rfl (same_know rfl (same_mov rfl (same_updo rfl (same_updo rfl (same_mov rfl Same.refl)))))))))))))))))))))))))))))))))))))))))), setF p0 j (12 + y), (fun h => notF h hj8 (by omega)), by rw [← set_pi]; exact H⟩
                        · refine W_seq ?_
                          refine W_region_l ?_
                          refine WL_step rfl (R_eq rfl rfl) ?_
                          refine WL_stepM rfl (R_as) ?_
                          refine WL_nil ?_
                          refine W_if rfl (fun h180 => ?_) (fun h180 => ?_)
                          · refine W_region_l ?_
                            refine WL_stepM rfl (R_mv) ?_
                            refine WL_step rfl (R_bits rfl rfl (by simp) ((and_mask_i64 3 8 (by decide) rfl (by decide)).trans hj)) ?_
                            refine WL_stepM rfl (R_mv) ?_
                            refine WL_step rfl (R_neg (r := -y) rfl ((w_i64 (by omega)).trans (by omega))) ?_
                            refine WL_step rfl (R_fieldAddr (off' := 8) Try.underlying53 rfl Try.sizeOf51 (by decide) rfl rfl) ?_
                            refine WL_step rfl (R_indexAddrA (off' := 8 + j) Try.underlying51 Try.sizeOf3 rfl rfl (by omega) (by omega) (by omega)) ?_
                            (have _g := mk6; refine WL_effu rfl (E_store H Try.sizeOf3 rfl rfl rfl .here (by rw [piC_len]; omega)) ?_; clear H; intro w188 H)
                            refine WL_nil ?_
                            exact ⟨(same_updn (same_updo rfl (same_updo rfl (same_updo rfl (same_mov rfl (same_updo rfl (same_mov rfl (same_know rfl (same_mov rfl (same_updo rfl (same_know rfl (same_mov rfl (same_updo rfl (same_know rfl (same_mov rfl (same_updo rfl (same_know rfl (same_mov rfl (same_updo rfl (same_know rfl (same_mov rfl (same_updo rfl (same_know rfl (same_mov rfl (same_updo rfl (same_know rfl (same_mov rfl (same_updo rfl (same_know rfl (same_mov rfl (same_updo rfl (same_know rfl (same_mov rfl (same_updo rfl (same_know rfl (same_mov rfl (same_updo rfl (same_know rfl (same_mov rfl (same_updo rfl (same_know rfl (same_mov rfl (same_updo rfl (same_updo rfl (same_mov rfl Same.refl))))))))))))))))))))))))))))))))))))))))))))), setF p0 j (-y), (fun h => notF h hj8 (by omega)), by rw [← set_pi]; exact H⟩
                          · refine W_seq ?_
                            refine W_region_l ?_
                            refine WL_step rfl (R_eq rfl rfl) ?_
                            refine WL_stepM rfl (R_as) ?_
                            refine WL_nil ?_
                            refine W_if rfl (fun h196 => ?_) (fun h196 => ?_)
                            · refine W_region_l ?_
                              refine WL_stepM rfl (R_mv) ?_
                              refine WL_step rfl (R_neg (r := -y) rfl ((w_i64 (by omega)).trans (by omega))) ?_
                              refine WL_step rfl (R_fieldAddr (off' := 1) Try.underlying53 rfl Try.sizeOf3 (by decide) rfl rfl) ?_
                              (have _g := mk6; refine WL_effu rfl (E_store H Try.sizeOf3 rfl rfl rfl .here (by rw [piC_len]; omega)) ?_; clear H; intro w201 H)
                              refine WL_nil ?_
                              exact ⟨(same_updn (same_updo rfl (same_updo rfl (same_mov rfl (same_know rfl (same_mov rfl (same_updo rfl (same_know rfl (same_mov rfl (same_updo rfl (same_know rfl (same_mov rfl (same_updo rfl (same_know rfl (same_mov rfl (same_updo rfl (same_know rfl (same_mov rfl (same_updo rfl (same_know rfl (same_mov rfl (same_updo rfl (same_know rfl (same_mov rfl (same_updo rfl (same_know rfl (same_mov rfl (same_updo rfl (same_know rfl (same_mov rfl (same_updo rfl (same_know rfl (same_mov rfl (same_updo rfl (same_know rfl (same_mov rfl (same_updo rfl (same_know rfl (same_mov rfl (same_updo rfl (same_know rfl (same_mov rfl (same_updo rfl (same_updo rfl (same_mov rfl Same.refl))))))))))))))))))))))))))))))))))))))))))))), { p0 with p := -y }, (fun h => by have h2 : 0 ≤ -y := h.1.2.1.1; omega), H⟩
                            · refine W_seq ?_
                              refine W_region_l ?_
                              refine WL_step rfl (R_eq rfl rfl) ?_
                              refine WL_stepM rfl (R_as) ?_
                              refine WL_nil ?_
                              refine W_if rfl (fun h209 => ?_) (fun h209 => ?_)
                              · refine W_region_l ?_
                                refine WL_stepM rfl (R_mv) ?_
                                refine WL_step rfl (R_neg (r := -y) rfl ((w_i64 (by omega)).trans (by omega))) ?_
                                refine WL_step rfl (R_fieldAddr (off' := 2) Try.underlying53 rfl Try.sizeOf3 (by decide) rfl rfl) ?_
                                (have _g := mk6; refine WL_effu rfl (E_store H Try.sizeOf3 rfl rfl rfl .here (by rw [piC_len]; omega)) ?_; clear H; intro w214 H)
                                refine WL_nil ?_
                                exact ⟨(same_updn (same_updo rfl (same_updo rfl (same_mov rfl (same_know rfl (same_mov rfl (same_updo rfl (same_know rfl (same_mov rfl (same_updo rfl (same_know rfl (same_mov rfl (same_updo rfl (same_know rfl (same_mov rfl (same_updo rfl (same_know rfl (same_mov rfl (same_updo rfl (same_know rfl (same_mov rfl (same_updo rfl (same_know rfl (same_mov rfl (same_updo rfl (same_know rfl (same_mov rfl (same_updo rfl (same_know rfl (same_mov rfl (same_updo rfl (same_know rfl (same_mov rfl (same_updo rfl (same_know rfl (same_mov rfl (same_updo rfl (same_know rfl (same_mov rfl (same_updo rfl (same_know rfl (same_mov rfl (same_updo rfl (same_know rfl (same_mov rfl (same_updo rfl (same_updo rfl (same_mov rfl Same.refl)))))))))))))))))))))))))))))))))))))))))))))))), { p0 with g := -y }, (fun h => by have h2 : 0 ≤ -y := h.1.2.2.1.1; omega), H⟩
                              · refine W_seq ?_
                                refine W_region_l ?_
                                refine WL_step rfl (R_eq rfl rfl) ?_
                                refine WL_stepM rfl (R_as) ?_
                                refine WL_nil ?_
                                refine W_if rfl (fun h222 => ?_) (fun h222 => ?_)
                                · refine W_region_l ?_
                                  refine WL_step rfl (R_fieldAddr (off' := 0) Try.underlying53 rfl Try.sizeOf3 (by decide) rfl rfl) ?_
                                  (have _g := mk6; refine WL_effu rfl (E_store H Try.sizeOf3 rfl rfl rfl .here (by rw [piC_len]; omega)) ?_; clear H; intro w225 H)
                                  refine WL_nil ?_
                                  exact ⟨(same_updn (same_updo rfl (same_know rfl (same_mov rfl (same_updo rfl (same_know rfl (same_mov rfl (same_updo rfl (same_know rfl (same_mov rfl (same_updo rfl (same_know rfl (same_mov rfl (same_updo rfl (same_know rfl (same_mov rfl (same_updo rfl (same_know rfl (same_mov rfl (same_updo rfl (same_know rfl (same_mov rfl (same_updo rfl (same_know rfl (same_mov rfl (same_updo rfl (same_know rfl (same_mov rfl (same_updo rfl (same_know rfl (same_mov rfl (same_updo rfl (same_know rfl (same_mov rfl (same_updo rfl (same_know rfl (same_mov rfl (same_updo rfl (same_know rfl (same_mov rfl (same_updo rfl (same_know rfl (same_mov rfl (same_updo rfl (same_know rfl (same_mov rfl (same_updo rfl (same_updo rfl (same_mov rfl Same.refl))))))))))))))))))))))))))))))))))))))))))))))))), { p0 with s := 2 }, (fun h => notS h rfl (show p0.a ≠ 0#64 by rw [ha0]; decide)), H⟩
                                · refine W_region_l ?_
                                  refine WL_stepM rfl (R_mv) ?_
                                  (refine WL_step rfl (R_neg (r := (BitVec.ofInt 64 (-y)).toInt) rfl (by rw [bv_of (by omega) (by omega), w_i64 (by omega)]; omega)) ?_)
                                  refine WL_step rfl (R_fieldAddr (off' := 4) Try.underlying53 rfl Try.sizeOf3 (by decide) rfl rfl) ?_
                                  (have _g := mk6; refine WL_effu rfl (E_store H Try.sizeOf3 rfl rfl rfl .here (by rw [piC_len]; omega)) ?_; clear H; intro w232 H)
                                  refine WL_nil ?_
                                  exact ⟨(same_updn (same_updo rfl (same_updo rfl (same_mov rfl (same_know rfl (same_mov rfl (same_updo rfl (same_know rfl (same_mov rfl (same_updo rfl (same_know rfl (same_mov rfl (same_updo rfl (same_know rfl (same_mov rfl (same_updo rfl (same_know rfl (same_mov rfl (same_updo rfl (same_know rfl (same_mov rfl (same_updo rfl (same_know rfl (same_mov rfl (same_updo rfl (same_know rfl (same_mov rfl (same_updo rfl (same_know rfl (same_mov rfl (same_updo rfl (same_know rfl (same_mov rfl (same_updo rfl (same_know rfl (same_mov rfl (same_updo rfl (same_know rfl (same_mov rfl (same_updo rfl (same_know rfl (same_mov rfl (same_updo rfl (same_know rfl (same_mov rfl (same_updo rfl (same_know rfl (same_mov rfl (same_updo rfl (same_updo rfl (same_mov rfl Same.refl))))))))))))))))))))))))))))))))))))))))))))))))))), { p0 with a := BitVec.ofInt 64 (-y) }, (fun h => notN h (n := -y) rfl (by omega) (by omega)), H⟩
  · (clear H; rintro E w1 ⟨q, hq, H⟩)
    refine W_seq ?_
    refine W_region_l ?_
    refine WL_step rfl (R_loadP rfl (H.get .here)) ?_
    (refine WL_call rfl (R_call rfl Try.call28 rfl) (enc_no q hq _) ?_; rintro _ w239 ⟨rfl, H1⟩; replace H := H.seq0 H1; clear H1)
    refine WL_stepM rfl (R_mv) ?_
    refine WL_step rfl (R_extract rfl rfl) ?_
    refine WL_step rfl (R_extract rfl rfl) ?_
    refine WL_stepM rfl (R_as) ?_
    refine WL_stepM rfl (R_as) ?_
    refine WL_nil ?_
    refine W_seq ?_
    refine W_region_l ?_
    refine WL_step rfl (R_loadP rfl (H.get .here)) ?_
    (refine WL_call rfl (R_call rfl Try.call27 rfl) (ok_to (decide_eq_false hq) _) ?_; rintro _ w249 ⟨rfl, H1⟩; replace H := H.seq0 H1; clear H1)
    refine WL_step rfl (R_not_f rfl) ?_
    refine WL_stepM rfl (R_mv) ?_
    refine WL_guard_t rfl rfl ?_
    refine WL_stepM rfl (R_mv) ?_
    refine WL_guard_t rfl rfl ?_
    refine WL_step rfl (R_not_f rfl) ?_
    refine WL_stepM rfl (R_pk_t rfl) ?_
    refine WL_stepM rfl (R_mv) ?_
    refine WL_guard_t rfl rfl ?_
    (refine WL_call rfl (R_call rfl Try.call29 rfl) (awake_ret _) ?_; rintro _ w259 ⟨rfl, H1⟩; replace H := H.seq0 H1; clear H1)
    refine WL_stepM rfl (R_pk_t rfl) ?_
    refine WL_stepM rfl (R_as) ?_
    refine WL_nil ?_
    refine W_ret ?_
    exact ⟨_, rfl, rfl, H.none (by repeat' first | exact kNil | apply kCons | apply kApp | assumption | exact OwnS.keys (by assumption))⟩
end Go.Proofs.Ytcpkhgdjckogjaa.Slot
