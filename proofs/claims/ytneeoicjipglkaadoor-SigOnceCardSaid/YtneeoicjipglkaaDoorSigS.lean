/-
  The law SigOnce: the walk, led to its end.
-/
import Derived.Test.YtneeoicjipglkaaDoorSigQ
namespace Go.Proofs.YtneeoicjipglkaaDoor.Slot
open Go Go.Proofs Go.Proofs.YtneeoicjipglkaaDoor.Fx
set_option maxRecDepth 100000
set_option linter.unusedVariables false
set_option linter.unusedSimpArgs false
set_option maxHeartbeats 8000000

theorem takeS {α : Type} {l : List α} {j : Nat} {n : α} (h : l[j]? = some n) : l.take (j + 1) = l.take j ++ [n] := by rw [List.take_add_one, h]; rfl
theorem rise_lt {l : List Nat} (h : l.Pairwise (· < ·)) {i a b : Nat} (ha : l[i]? = some a) (hb : l[i + 1]? = some b) : a < b := by
  obtain ⟨h1, rfl⟩ := List.getElem?_eq_some_iff.1 ha
  obtain ⟨h2, rfl⟩ := List.getElem?_eq_some_iff.1 hb
  exact rise_at h h2
theorem once_split {A : BitVec 64} (y : BitVec 64) (hA : Low8 A) : ∃ F S : List Nat, bitsL (A &&& ~~~ y) = F ∧ bitsL (A &&& y) = S ∧ F.Pairwise (· < ·) ∧ S.Pairwise (· < ·) ∧ (∀ n ∈ F, y.getLsbD n = false) ∧ (∀ n ∈ S, y.getLsbD n = true) ∧
    (∀ n ∈ F, n < 16) ∧ (∀ n ∈ S, n < 16) ∧ F.length ≤ 16 ∧ S.length ≤ 16 ∧ (∀ j n, (F ++ S)[j]? = some n → (orL ((F ++ S).take j)).getLsbD n = false) ∧ orL (F ++ S) = A := by
  refine ⟨_, _, rfl, rfl, bits_rise _, bits_rise _, fun n h => once_first h, fun n h => once_second h, fun n h => (bitsL_mem.1 h).1, fun n h => (bitsL_mem.1 h).1, bits_len _, bits_len _, ?_, once_all hA⟩
  intro j n h
  obtain ⟨hj, rfl⟩ := List.getElem?_eq_some_iff.1 h
  exact once_new hj

theorem once_ret {xs : List Int} {w : World} {l : Value} {a : Int} (hl : RdS w l (xs.map fun x => I x)) (hb : xs.length ≤ 9223372036854775807) (ha0 : -9223372036854775808 ≤ a) (ha1 : a ≤ 9223372036854775807) (hT : TabZ w) :
    Ret Tryd.prog 7 #[l, I a] w fun v w' => v = .bool true ∧ Hp w [] w' := by
  refine Ret_of_W (args := [_, _]) Tryd.func7 rfl Tryd.ntmps7 Tryd.results7 (by simp) ?_
  have H := Hp.refl w
  obtain ⟨al, cl, rfl⟩ := hl.form
  simp only [List.length_map] at hl ⊢
  obtain ⟨x, rfl⟩ : ∃ x : BitVec 64, a = x.toInt := ⟨BitVec.ofInt 64 a, (bv_of ha0 ha1).symm⟩
  clear ha0 ha1
  obtain ⟨y, hy⟩ : ∃ y, y = x &&& 510#64 := ⟨_, rfl⟩
  refine W_seq ?_
  refine W_region_l ?_
  refine WL_stepM rfl (R_as) ?_
  refine WL_nil ?_
  refine W_seq ?_
  refine W_region_l ?_
  refine WL_step rfl R_oneP ?_
  (refine WL_effn rfl (E_allocP H) ?_; clear H; intro c5 w8 hc5 H)
  (refine WL_effu rfl (E_storeP H rfl rfl .here) ?_; clear H; intro w9 H)
  refine WL_nil ?_
  refine W_seq ?_
  refine W_seq ?_
  refine W_region_l ?_
  refine WL_stepM rfl (R_as) ?_
  refine WL_nil ?_
  refine W_block ?_
  refine W_loopS [(4, 4), (6, 8), (25, 37)] (fun (i : Nat) E w' => i ≤ 8 ∧ E 6 = I ((i + 1 : Nat) : Int) ∧ Hp w [(c5, blk (piC (cq i)) 25)] w') (fun i => 8 - i) 0 ?e0 ?r0
  · exact ⟨by omega, rfl, H⟩
  · (clear H; rintro i E w1 ⟨hi, h0, H⟩; refine W_kn h0 ?_)
    refine W_seq ?_
    refine W_seq ?_
    refine W_region_l ?_
    refine WL_stepM rfl (R_mv) ?_
    refine WL_step rfl (R_lt rfl rfl) ?_
    refine WL_nil ?_
    refine W_if rfl (fun h25 => ?_) (fun h25 => ?_)
    · refine W_skip ?_
      refine W_seq ?_
      refine W_block ?_
      refine W_seq ?_
      ((have mk5 : True := trivial)) <;> refine W_region_l ?_
      refine WL_step rfl (R_loadP rfl (H.get .here)) ?_
      refine WL_stepM rfl (R_mv) ?_
      (refine WL_call rfl (R_call rfl Tryd.call14 rfl) (handle_2 (p := cq i) (k := i + 1) (by omega) (by omega) (by omega) (by omega) _) ?_; rintro _ w33 ⟨rfl, H1⟩; replace H := H.seq0 H1; clear H1)
      refine WL_stepM rfl (R_mv) ?_
      refine WL_step rfl (R_extract rfl rfl) ?_
      refine WL_step rfl (R_extract rfl rfl) ?_
      (refine WL_effn rfl (E_allocP H) ?_; clear H; intro c37 w37 hc37 H)
      (refine WL_effu rfl (E_storeP H rfl rfl .here) ?_; clear H; intro w38 H)
      refine WL_stepM rfl (R_as) ?_
      refine WL_nil ?_
      refine W_seq ?_
      refine W_seq ?_
      refine W_region_l ?_
      refine WL_stepM rfl (R_mv) ?_
      refine WL_step rfl (R_ne_f rfl rfl (by omega)) ?_
      refine WL_nil ?_
      refine W_cond_f rfl ?_
      refine W_skip ?_
      refine W_region_l ?_
      refine WL_step rfl (R_loadP rfl (H.get .here)) ?_
      (refine WL_effu rfl (E_storeP H rfl rfl (.there .here)) ?_; clear H; intro w51 H)
      refine WL_nil ?_
      refine W_region_l ?_
      refine WL_stepM rfl (R_mv) ?_
      refine WL_step rfl (R_add (r := ((i + 1 + 1 : Nat) : Int)) rfl rfl (by rw [w_i64 (by omega)]; omega)) ?_
      refine WL_stepM rfl (R_as) ?_
      refine WL_nil ?_
      (have _g := mk5; exact ⟨(same_mov rfl (same_updo rfl (same_mov rfl (same_updn (same_updo rfl (same_updo rfl (same_mov rfl (same_mov rfl (same_updn (same_updo rfl (same_updo rfl (same_updo rfl (same_mov rfl (same_updo rfl (same_mov rfl (same_updo rfl (same_know rfl (same_updo rfl (same_mov rfl same_ovr))))))))))))))))))), i + 1, by omega, by omega, rfl, Hp.dropN (M := [_]) H (by repeat' first | exact kNil | apply kCons | apply kApp | assumption | exact OwnS.keys (by assumption))⟩)
    · refine W_exit ?_
      refine (if_pos rfl).mpr ?_
      refine W_seq ?_
      ((obtain rfl : i = 8 := (by omega); rw [cq8] at H)) <;> refine W_region_l ?_
      refine WL_stepM rfl (R_mv) ?_
      refine WL_step rfl (R_bits (r := y.toInt) rfl rfl (by simp) ((bv_and x 510#64).trans (by rw [hy]))) ?_
      refine WL_stepM rfl (R_as) ?_
      refine WL_nil ?_
      refine W_seq ?_
      ((have mk10 : True := trivial)) <;> refine W_region_l ?_
      refine WL_step rfl (R_loadP rfl (H.get .here)) ?_
      refine WL_stepM rfl (R_mv) ?_
      (have _g := mk10; refine WL_call rfl (R_call rfl Tryd.call19 rfl) (mask_ret caP y.toInt _) ?_; rintro _ w71 ⟨rfl, H1⟩; have e0 : (maskP caP y.toInt).1 = { caP with b := y } := (by rw [mask_1 x hy]); have e2 : (maskP caP y.toInt).2.2 = 0 := (by rw [mask_1 x hy]); rw [e0, e2]; clear e0 e2 mk10; replace H := H.seq0 H1; clear H1)
      refine WL_stepM rfl (R_mv) ?_
      refine WL_step rfl (R_extract rfl rfl) ?_
      refine WL_step rfl (R_extract rfl rfl) ?_
      refine WL_step rfl (R_extract rfl rfl) ?_
      (refine WL_effu rfl (E_storeP H rfl rfl .here) ?_; clear H; intro w76 H)
      refine WL_stepM rfl (R_as) ?_
      refine WL_stepM rfl (R_as) ?_
      refine WL_nil ?_
      refine W_seq ?_
      refine W_region_l ?_
      refine WL_stepM rfl (R_as) ?_
      refine WL_nil ?_
      refine W_seq ?_
      refine W_seq ?_
      refine W_region_l ?_
      refine WL_stepM rfl (R_as) ?_
      refine WL_nil ?_
      refine W_block ?_
      refine W_loopS [(11, 13), (47, 72)] (fun (i : Nat) E w' => ∃ A, i ≤ xs.length ∧ i ≤ 30 ∧ Low8 A ∧ E 12 = I i ∧ E 11 = I A.toInt ∧ Hp w [(c5, blk (piC { caP with a := A, b := y }) 25)] w') (fun i => 30 - i) 0 ?e2 ?r2
      · exact ⟨0#64, by omega, by omega, low8_zero, rfl, rfl, H⟩
      · (clear H; rintro i E w1 ⟨A, hi, hi2, hA, h0, h1, H⟩; refine W_kn2 h0 h1 ?_)
        refine W_seq ?_
        refine W_seq ?_
        refine W_region_l ?_
        refine WL_stepM rfl (R_mv) ?_
        refine WL_stepM rfl (R_mv) ?_
        refine WL_step rfl (R_len_slice Tryd.underlying22 rfl) ?_
        refine WL_step rfl (R_lt rfl rfl) ?_
        refine WL_stepM rfl (R_mv) ?_
        apply WL_andK 3 51 54 [(52, 54)] H
        case hc => rfl
        case h1 =>
          intro h100
          refine WL_guard_t rfl rfl ?_
          refine WL_stepM rfl (R_mv) ?_
          refine WL_guard_t rfl rfl ?_
          refine WL_step rfl (R_lt rfl rfl) ?_
          refine WL_stepM rfl (R_pk_t rfl) ?_
          refine WL_nil ?_
          exact ⟨(same_mov rfl (same_updo rfl (same_mov rfl Same.refl))), rfl, H⟩
        case h0 =>
          intro h100
          refine WL_guard_f rfl rfl (by decide) ?_
          refine WL_guard_f rfl rfl (by decide) ?_
          refine WL_stepM rfl (R_pk_f rfl) ?_
          refine WL_nil ?_
          exact ⟨(same_mov rfl (same_updo rfl (same_updo rfl Same.refl))), rfl, H⟩
        case h2 =>
          (clear H; intro E100 w100 H)
          refine WL_nil ?_
          refine W_if rfl (fun h114 => ?_) (fun h114 => ?_)
          · refine W_skip ?_
            refine W_seq ?_
            refine W_block ?_
            refine W_seq ?_
            ((obtain ⟨b1, o1, rfl, hc1⟩ := hl.cell (i := i) (u := I xs[i]) (by rw [List.getElem?_map, List.getElem?_eq_getElem (by omega)]; rfl); obtain ⟨k, hk, h1, h8⟩ : ∃ k : Nat, xs[i] % 8 + 1 = k ∧ 1 ≤ k ∧ k ≤ 8 := ⟨(xs[i] % 8 + 1).toNat, by omega, by omega, by omega⟩; have mk15 : True := trivial)) <;> refine W_region_l ?_
            refine WL_stepM rfl (R_mv) ?_
            refine WL_stepM rfl (R_mv) ?_
            refine WL_step rfl (R_indexAddr Tryd.underlying22 Tryd.sizeOf3 rfl rfl (by omega) (by omega) idx_cast1) ?_
            refine WL_step rfl (R_load_cell Tryd.isAgg3 rfl (H.cellN hc1 (by repeat' first | exact kNil | apply kCons | apply kApp | assumption | exact OwnS.keys (by assumption)))) ?_
            refine WL_step rfl (R_bits rfl rfl (by simp) (and_mask_i64 3 8 (by decide) rfl (by decide))) ?_
            refine WL_step rfl (R_add (r := (k : Int)) rfl rfl ((w_i64 (by omega)).trans hk)) ?_
            refine WL_stepM rfl (R_as) ?_
            refine WL_nil ?_
            refine W_seq ?_
            refine W_region_l ?_
            refine WL_step rfl (R_loadP rfl (H.get .here)) ?_
            refine WL_stepM rfl (R_mv) ?_
            (refine WL_call rfl (R_call rfl Tryd.call9 rfl) (raise_yes (p := { caP with a := A, b := y }) (k := k) h1 (by omega) (.inl rfl) _) ?_; rintro _ w132 ⟨rfl, H1⟩; rw [raise_low h8 rfl]; replace H := H.seq0 H1; clear H1)
            refine WL_stepM rfl (R_mv) ?_
            refine WL_step rfl (R_extract rfl rfl) ?_
            refine WL_step rfl (R_extract rfl rfl) ?_
            (refine WL_effu rfl (E_storeP H rfl rfl .here) ?_; clear H; intro w136 H)
            refine WL_nil ?_
            refine W_region_l ?_
            refine WL_stepM rfl (R_mv) ?_
            refine WL_stepM rfl (R_mv) ?_
            refine WL_step rfl (R_shl (r := (bitN k).toInt) rfl rfl (by omega) (bit_shl (by omega))) ?_
            refine WL_step rfl (R_bits rfl rfl (by simp) (bv_or A (bitN k))) ?_
            refine WL_stepM rfl (R_as) ?_
            refine WL_nil ?_
            refine W_region_l ?_
            refine WL_stepM rfl (R_mv) ?_
            refine WL_step rfl (R_add rfl rfl (w_i64 (by omega))) ?_
            refine WL_stepM rfl (R_as) ?_
            refine WL_nil ?_
            (have _g := mk15; exact ⟨(same_mov rfl (same_updo rfl (same_mov rfl (same_mov rfl (same_updo rfl (same_updo rfl (same_mov rfl (same_mov rfl (same_updn (same_updo rfl (same_updo rfl (same_mov rfl (same_updo rfl (same_mov rfl (same_updo rfl (same_mov rfl (same_updo rfl (same_updo rfl (same_updo rfl (same_updo rfl (same_mov rfl (same_mov rfl (same_know rfl (same_in rfl (same_mov rfl (same_updo rfl (same_updo rfl (same_mov rfl (same_mov rfl same_ovr))))))))))))))))))))))))))))), i + 1, by omega, A ||| bitN k, by omega, by omega, low8_or hA h1 h8, rfl, rfl, H⟩)
          · refine W_exit ?_
            refine (if_pos rfl).mpr ?_
            refine W_seq ?_
            ((obtain ⟨F, S0, hFd, hSd, hFr, hSr, hF0, hS1, hF16, hS16, hFl, hSl, hnew, hall⟩ := once_split y hA; have mk18 : True := trivial)) <;> refine W_region_l ?_
            refine WL_step rfl (R_loadP rfl (H.get .here)) ?_
            (have _g := mk18; refine WL_call rfl (R_call rfl Tryd.call10 rfl) (deliver_ret { caP with a := A, b := y } (hT.mono H (by repeat' first | exact kNil | apply kCons | apply kApp | assumption | exact OwnS.keys (by assumption)))) ?_; rintro _ w156 ⟨u1, M1, rfl, hO1, H1⟩; have e0 : (delivN 16 { caP with a := A, b := y }).1 = { caP with a := A &&& y, b := y } := (by rw [once_deliv1 hA]); have e1 : (delivN 16 { caP with a := A, b := y }).2.1 = F := (by rw [once_deliv1 hA, hFd]); have e2 : (delivN 16 { caP with a := A, b := y }).2.2 = 0 := (by rw [once_deliv1 hA]); rw [e1] at hO1; rw [e0, e2]; clear e0 e1 e2 mk18; have h156 := H.seqO hO1 H1; clear H H1 hO1; obtain ⟨hO1, H⟩ := h156; obtain ⟨a1, c1, rfl⟩ := OwnS.form hO1)
            refine WL_stepM rfl (R_mv) ?_
            refine WL_step rfl (R_extract rfl rfl) ?_
            refine WL_step rfl (R_extract rfl rfl) ?_
            refine WL_step rfl (R_extract rfl rfl) ?_
            (refine WL_effu rfl (E_storeP H rfl rfl (.app _ .here)) ?_; clear H; intro w161 H)
            refine WL_stepM rfl (R_as) ?_
            refine WL_stepM rfl (R_as) ?_
            refine WL_nil ?_
            refine W_seq ?_
            refine W_region_l ?_
            refine WL_step rfl (R_loadP rfl (H.get (.app _ .here))) ?_
            (refine WL_call rfl (R_call rfl Tryd.call19 rfl) (mask_ret { caP with a := A &&& y, b := y } 0 _) ?_; rintro _ w168 ⟨rfl, H1⟩; have e0 : (maskP { caP with a := A &&& y, b := y } 0).1 = { caP with a := A &&& y, b := 0#64 } := rfl; have e1 : (maskP { caP with a := A &&& y, b := y } 0).2.1 = y.toInt := rfl; have e2 : (maskP { caP with a := A &&& y, b := y } 0).2.2 = 0 := rfl; rw [e0, e1, e2]; clear e0 e1 e2; replace H := H.seq0 H1; clear H1)
            refine WL_stepM rfl (R_mv) ?_
            refine WL_step rfl (R_extract rfl rfl) ?_
            refine WL_step rfl (R_extract rfl rfl) ?_
            refine WL_step rfl (R_extract rfl rfl) ?_
            (refine WL_effu rfl (E_storeP H rfl rfl (.app _ .here)) ?_; clear H; intro w173 H)
            refine WL_stepM rfl (R_as) ?_
            refine WL_stepM rfl (R_as) ?_
            refine WL_nil ?_
            refine W_seq ?_
            refine W_region_l ?_
            refine WL_step rfl (R_loadP rfl (H.get (.app _ .here))) ?_
            (refine WL_call rfl (R_call rfl Tryd.call10 rfl) (deliver_ret { caP with a := A &&& y, b := 0#64 } (hT.mono H (by repeat' first | exact kNil | apply kCons | apply kApp | assumption | exact OwnS.keys (by assumption)))) ?_; rintro _ w180 ⟨u2, M2, rfl, hO2, H1⟩; have e0 : (delivN 16 { caP with a := A &&& y, b := 0#64 }).1 = caP := (by rw [once_deliv2 hA]); have e1 : (delivN 16 { caP with a := A &&& y, b := 0#64 }).2.1 = S0 := (by rw [once_deliv2 hA, hSd]); have e2 : (delivN 16 { caP with a := A &&& y, b := 0#64 }).2.2 = 0 := (by rw [once_deliv2 hA]); rw [e1] at hO2; rw [e0, e2]; clear e0 e1 e2; have h180 := H.seqO hO2 H1; clear H H1 hO2; obtain ⟨hO2, H⟩ := h180; obtain ⟨a2, c2, rfl⟩ := OwnS.form hO2)
            refine WL_stepM rfl (R_mv) ?_
            refine WL_step rfl (R_extract rfl rfl) ?_
            refine WL_step rfl (R_extract rfl rfl) ?_
            refine WL_step rfl (R_extract rfl rfl) ?_
            (refine WL_effu rfl (E_storeP H rfl rfl (.app _ (.app _ .here))) ?_; clear H; intro w185 H)
            refine WL_stepM rfl (R_as) ?_
            refine WL_stepM rfl (R_as) ?_
            refine WL_nil ?_
            refine W_seq ?_
            refine W_seq ?_
            refine W_region_l ?_
            refine WL_stepM rfl (R_mv) ?_
            refine WL_step rfl (R_ne_f rfl rfl (by omega)) ?_
            refine WL_stepM rfl (R_mv) ?_
            refine WL_guard_t rfl rfl ?_
            refine WL_stepM rfl (R_mv) ?_
            refine WL_guard_t rfl rfl ?_
            refine WL_step rfl (R_ne_f rfl rfl (by omega)) ?_
            refine WL_stepM rfl (R_pk_f rfl) ?_
            refine WL_stepM rfl (R_mv) ?_
            refine WL_guard_t rfl rfl ?_
            refine WL_stepM rfl (R_mv) ?_
            refine WL_guard_t rfl rfl ?_
            refine WL_stepM rfl (R_mv) ?_
            refine WL_guard_t rfl rfl ?_
            refine WL_step rfl (R_ne_f rfl rfl rfl) ?_
            refine WL_stepM rfl (R_pk_f rfl) ?_
            refine WL_stepM rfl (R_mv) ?_
            refine WL_guard_t rfl rfl ?_
            refine WL_stepM rfl (R_mv) ?_
            refine WL_guard_t rfl rfl ?_
            refine WL_step rfl (R_ne_f rfl rfl (by omega)) ?_
            refine WL_stepM rfl (R_pk_f rfl) ?_
            refine WL_stepM rfl (R_mv) ?_
            refine WL_guard_t rfl rfl ?_
            refine WL_stepM rfl (R_mv) ?_
            refine WL_guard_t rfl rfl ?_
            refine WL_step rfl (R_ne_f rfl rfl (by omega)) ?_
            refine WL_stepM rfl (R_pk_f rfl) ?_
            refine WL_stepM rfl (R_mv) ?_
            refine WL_guard_t rfl rfl ?_
            refine WL_step rfl (R_fieldAddr (off' := 4) Tryd.underlying25 rfl Tryd.sizeOf3 (by decide) rfl rfl) ?_
            refine WL_guard_t rfl rfl ?_
            refine WL_step rfl (R_load (v := I 0) Tryd.isAgg3 rfl (H.get (.app _ (.app _ .here))) rfl) ?_
            refine WL_guard_t rfl rfl ?_
            refine WL_step rfl (R_ne_f rfl rfl (by omega)) ?_
            refine WL_stepM rfl (R_pk_f rfl) ?_
            refine WL_nil ?_
            refine W_cond_f rfl ?_
            refine W_skip ?_
            refine W_seq ?_
            refine W_region_l ?_
            refine WL_stepM rfl (R_as) ?_
            refine WL_nil ?_
            refine W_seq ?_
            refine W_seq ?_
            refine W_region_l ?_
            refine WL_stepM rfl (R_as) ?_
            refine WL_nil ?_
            refine W_block ?_
            refine W_loopS [(4, 4), (20, 23), (115, 190)] (fun (j : Nat) E w' => j ≤ F.length + S0.length ∧ E 21 = I j ∧ E 20 = I (orL ((F ++ S0).take j)).toInt ∧ Hp w (M2 ++ (M1 ++ [(c5, blk (piC caP) 25)])) w') (fun j => F.length + S0.length - j) 0 ?e4 ?r4
            · exact ⟨by omega, rfl, rfl, H⟩
            · (clear H; rintro j E w1 ⟨hj, h0, h1, H⟩; refine W_kn2 h0 h1 ?_)
              refine W_seq ?_
              refine W_seq ?_
              refine W_region_l ?_
              refine WL_stepM rfl (R_mv) ?_
              refine WL_stepM rfl (R_mv) ?_
              refine WL_step rfl (R_len_slice Tryd.underlying22 rfl) ?_
              refine WL_stepM rfl (R_mv) ?_
              refine WL_step rfl (R_len_slice Tryd.underlying22 rfl) ?_
              refine WL_step rfl (R_add (r := ((F.length + S0.length : Nat) : Int)) rfl rfl (by rw [w_i64 (by omega)]; omega)) ?_
              refine WL_step rfl (R_lt rfl rfl) ?_
              refine WL_nil ?_
              refine W_if rfl (fun h254 => ?_) (fun h254 => ?_)
              · refine W_skip ?_
                refine W_seq ?_
                refine W_block ?_
                refine W_seq ?_
                refine W_region_l ?_
                refine WL_stepM rfl (R_as) ?_
                refine WL_stepM rfl (R_as) ?_
                refine WL_nil ?_
                refine W_seq ?_
                refine W_seq ?_
                refine W_region_l ?_
                refine WL_stepM rfl (R_mv) ?_
                refine WL_stepM rfl (R_mv) ?_
                refine WL_step rfl (R_len_slice Tryd.underlying22 rfl) ?_
                refine WL_step rfl (R_lt rfl rfl) ?_
                refine WL_nil ?_
                refine W_if rfl (fun h271 => ?_) (fun h271 => ?_)
                · refine W_seq ?_
                  ((obtain ⟨n, hn⟩ : ∃ n, F[j]? = some n := ⟨_, List.getElem?_eq_getElem (by omega)⟩; have hnm := List.mem_of_getElem? hn; have hn16 := hF16 n hnm; have hLn : (F ++ S0)[j]? = some n := (by rw [List.getElem?_append_left (by omega)]; exact hn); have hR := RdS.own hO1 (fun p hp => H.held p (by simp [hp])); obtain ⟨b1, o1, rfl, hc1⟩ := hR.cell (i := j) (u := nI n) (by rw [List.getElem?_map, hn]; rfl); have yb : y.getLsbD n = false := hF0 n hnm; have mk29 : True := trivial)) <;> refine W_region_l ?_
                  refine WL_stepM rfl (R_mv) ?_
                  refine WL_stepM rfl (R_mv) ?_
                  refine WL_step rfl (R_indexAddr Tryd.underlying22 Tryd.sizeOf3 rfl rfl (by omega) (by omega) idx_cast1) ?_
                  refine WL_step rfl (R_load_cell Tryd.isAgg3 rfl hc1) ?_
                  refine WL_stepM rfl (R_as) ?_
                  refine WL_nil ?_
                  ((by_cases hj0 : j = 0; rotate_left; obtain ⟨i2, rfl⟩ : ∃ i2, j = i2 + 1 := ⟨j - 1, by omega⟩; obtain ⟨n2, hn2⟩ : ∃ n2, F[i2]? = some n2 := ⟨_, List.getElem?_eq_getElem (by omega)⟩; have hlt := rise_lt hFr hn2 hn; have hn216 := hF16 n2 (List.mem_of_getElem? hn2); obtain ⟨b2, o2, he2, hc2⟩ := hR.cell (i := i2) (u := nI n2) (by rw [List.getElem?_map, hn2]; rfl); cases he2)) <;> refine W_region_l ?_
                  · refine WL_stepM rfl (R_mv) ?_
                    refine WL_step rfl (R_eq_f rfl rfl (by omega)) ?_
                    refine WL_stepM rfl (R_mv) ?_
                    refine WL_guard_t rfl rfl ?_
                    refine WL_stepM rfl (R_mv) ?_
                    refine WL_guard_t rfl rfl ?_
                    refine WL_stepM rfl (R_mv) ?_
                    refine WL_guard_t rfl rfl ?_
                    refine WL_step rfl (R_sub (r := (i2 : Int)) rfl rfl (by rw [w_i64 (by omega)]; omega)) ?_
                    refine WL_guard_t rfl rfl ?_
                    refine WL_step rfl (R_indexAddr Tryd.underlying22 Tryd.sizeOf3 rfl rfl (by omega) (by omega) idx_cast1) ?_
                    refine WL_guard_t rfl rfl ?_
                    refine WL_step rfl (R_load_cell Tryd.isAgg3 rfl hc2) ?_
                    refine WL_guard_t rfl rfl ?_
                    refine WL_stepM rfl (R_mv) ?_
                    refine WL_guard_t rfl rfl ?_
                    refine WL_step rfl (R_lt_t rfl rfl (by omega)) ?_
                    refine WL_stepM rfl (R_pk_f rfl) ?_
                    refine WL_stepM rfl (R_as) ?_
                    refine WL_nil ?_
                    refine W_seq ?_
                    refine W_seq ?_
                    refine W_region_l ?_
                    refine WL_stepM rfl (R_mv) ?_
                    refine WL_step rfl (R_not_t rfl) ?_
                    refine WL_stepM rfl (R_mv) ?_
                    refine WL_guard_t rfl rfl ?_
                    refine WL_stepM rfl (R_mv) ?_
                    refine WL_guard_t rfl rfl ?_
                    refine WL_stepM rfl (R_mv) ?_
                    refine WL_guard_t rfl rfl ?_
                    refine WL_step rfl (R_shr rfl rfl (by omega) (shr_k (by omega))) ?_
                    refine WL_guard_t rfl rfl ?_
                    refine WL_step rfl (R_bits (r := 0) rfl rfl (by simp) ((and_mask_i64 1 2 (by decide) rfl (by decide)).trans (by rw [bit_shr (by omega), hnew _ _ hLn]; rfl))) ?_
                    refine WL_guard_t rfl rfl ?_
                    refine WL_step rfl (R_eq_f rfl rfl (by omega)) ?_
                    refine WL_stepM rfl (R_pk_f rfl) ?_
                    refine WL_stepM rfl (R_mv) ?_
                    refine WL_guard_t rfl rfl ?_
                    refine WL_stepM rfl (R_mv) ?_
                    refine WL_guard_t rfl rfl ?_
                    refine WL_stepM rfl (R_mv) ?_
                    refine WL_guard_t rfl rfl ?_
                    refine WL_step rfl (R_shr rfl rfl (by omega) (shr_k (by omega))) ?_
                    refine WL_guard_t rfl rfl ?_
                    refine WL_step rfl (R_bits (r := 0) rfl rfl (by simp) ((and_mask_i64 1 2 (by decide) rfl (by decide)).trans (by rw [bit_shr (by omega), yb]; rfl))) ?_
                    refine WL_guard_t rfl rfl ?_
                    refine WL_step rfl (R_eq_f rfl rfl (by omega)) ?_
                    refine WL_guard_t rfl rfl ?_
                    refine WL_stepM rfl (R_mv) ?_
                    refine WL_guard_t rfl rfl ?_
                    refine WL_stepM rfl (R_mv) ?_
                    refine WL_guard_t rfl rfl ?_
                    refine WL_step rfl (R_len_slice Tryd.underlying22 rfl) ?_
                    refine WL_guard_t rfl rfl ?_
                    refine WL_step rfl (R_ge_f rfl rfl (by omega)) ?_
                    refine WL_guard_t rfl rfl ?_
                    refine WL_step rfl (R_ne_bool_f Tryd.underlying4 rfl rfl (by decide)) ?_
                    refine WL_stepM rfl (R_pk_f rfl) ?_
                    refine WL_nil ?_
                    refine W_cond_f rfl ?_
                    refine W_skip ?_
                    refine W_region_l ?_
                    refine WL_stepM rfl (R_mv) ?_
                    refine WL_stepM rfl (R_mv) ?_
                    refine WL_step rfl (R_shl (r := (bitN n).toInt) rfl rfl (by omega) (bit_shl (by omega))) ?_
                    refine WL_step rfl (R_bits rfl rfl (by simp) (bv_or _ (bitN n))) ?_
                    refine WL_stepM rfl (R_as) ?_
                    refine WL_nil ?_
                    refine W_region_l ?_
                    refine WL_stepM rfl (R_mv) ?_
                    refine WL_step rfl (R_add rfl rfl (w_i64 (by omega))) ?_
                    refine WL_stepM rfl (R_as) ?_
                    refine WL_nil ?_
                    (have _g := mk29; exact ⟨(same_mov rfl (same_updo rfl (same_mov rfl (same_mov rfl (same_updo rfl (same_updo rfl (same_mov rfl (same_mov rfl (same_mov rfl (same_updo rfl (same_updo rfl (same_updo rfl (same_mov rfl (same_mov rfl (same_updo rfl (same_updo rfl (same_updo rfl (same_mov rfl (same_mov rfl (same_mov rfl (same_mov rfl (same_updo rfl (same_updo rfl (same_updo rfl (same_mov rfl (same_mov rfl (same_mov rfl (same_updo rfl (same_mov rfl (same_mov rfl (same_mov rfl (same_updo rfl (same_mov rfl (same_updo rfl (same_updo rfl (same_updo rfl (same_mov rfl (same_mov rfl (same_mov rfl (same_updo rfl (same_mov rfl (same_mov rfl (same_updo rfl (same_updo rfl (same_mov rfl (same_mov rfl (same_know rfl (same_updo rfl (same_updo rfl (same_mov rfl (same_mov rfl (same_mov rfl (same_mov rfl (same_know rfl (same_updo rfl (same_updo rfl (same_updo rfl (same_mov rfl (same_updo rfl (same_mov rfl (same_mov rfl same_ovr))))))))))))))))))))))))))))))))))))))))))))))))))))))))))))), _ + 1, by omega, by omega, rfl, (by rw [takeS hLn, orL_snoc]; rfl), H⟩)
                  · refine WL_stepM rfl (R_mv) ?_
                    refine WL_step rfl (R_eq_t rfl rfl (by omega)) ?_
                    refine WL_stepM rfl (R_mv) ?_
                    refine WL_guard_f rfl rfl (by decide) ?_
                    refine WL_guard_f rfl rfl (by decide) ?_
                    refine WL_guard_f rfl rfl (by decide) ?_
                    refine WL_guard_f rfl rfl (by decide) ?_
                    refine WL_guard_f rfl rfl (by decide) ?_
                    refine WL_guard_f rfl rfl (by decide) ?_
                    refine WL_guard_f rfl rfl (by decide) ?_
                    refine WL_stepM rfl (R_pk_t rfl) ?_
                    refine WL_stepM rfl (R_as) ?_
                    refine WL_nil ?_
                    refine W_seq ?_
                    refine W_seq ?_
                    refine W_region_l ?_
                    refine WL_stepM rfl (R_mv) ?_
                    refine WL_step rfl (R_not_t rfl) ?_
                    refine WL_stepM rfl (R_mv) ?_
                    refine WL_guard_t rfl rfl ?_
                    refine WL_stepM rfl (R_mv) ?_
                    refine WL_guard_t rfl rfl ?_
                    refine WL_stepM rfl (R_mv) ?_
                    refine WL_guard_t rfl rfl ?_
                    refine WL_step rfl (R_shr rfl rfl (by omega) (shr_k (by omega))) ?_
                    refine WL_guard_t rfl rfl ?_
                    refine WL_step rfl (R_bits (r := 0) rfl rfl (by simp) ((and_mask_i64 1 2 (by decide) rfl (by decide)).trans (by rw [bit_shr (by omega), hnew _ _ hLn]; rfl))) ?_
                    refine WL_guard_t rfl rfl ?_
                    refine WL_step rfl (R_eq_f rfl rfl (by omega)) ?_
                    refine WL_stepM rfl (R_pk_f rfl) ?_
                    refine WL_stepM rfl (R_mv) ?_
                    refine WL_guard_t rfl rfl ?_
                    refine WL_stepM rfl (R_mv) ?_
                    refine WL_guard_t rfl rfl ?_
                    refine WL_stepM rfl (R_mv) ?_
                    refine WL_guard_t rfl rfl ?_
                    refine WL_step rfl (R_shr rfl rfl (by omega) (shr_k (by omega))) ?_
                    refine WL_guard_t rfl rfl ?_
                    refine WL_step rfl (R_bits (r := 0) rfl rfl (by simp) ((and_mask_i64 1 2 (by decide) rfl (by decide)).trans (by rw [bit_shr (by omega), yb]; rfl))) ?_
                    refine WL_guard_t rfl rfl ?_
                    refine WL_step rfl (R_eq_f rfl rfl (by omega)) ?_
                    refine WL_guard_t rfl rfl ?_
                    refine WL_stepM rfl (R_mv) ?_
                    refine WL_guard_t rfl rfl ?_
                    refine WL_stepM rfl (R_mv) ?_
                    refine WL_guard_t rfl rfl ?_
                    refine WL_step rfl (R_len_slice Tryd.underlying22 rfl) ?_
                    refine WL_guard_t rfl rfl ?_
                    refine WL_step rfl (R_ge_f rfl rfl (by omega)) ?_
                    refine WL_guard_t rfl rfl ?_
                    refine WL_step rfl (R_ne_bool_f Tryd.underlying4 rfl rfl (by decide)) ?_
                    refine WL_stepM rfl (R_pk_f rfl) ?_
                    refine WL_nil ?_
                    refine W_cond_f rfl ?_
                    refine W_skip ?_
                    refine W_region_l ?_
                    refine WL_stepM rfl (R_mv) ?_
                    refine WL_stepM rfl (R_mv) ?_
                    refine WL_step rfl (R_shl (r := (bitN n).toInt) rfl rfl (by omega) (bit_shl (by omega))) ?_
                    refine WL_step rfl (R_bits rfl rfl (by simp) (bv_or _ (bitN n))) ?_
                    refine WL_stepM rfl (R_as) ?_
                    refine WL_nil ?_
                    refine W_region_l ?_
                    refine WL_stepM rfl (R_mv) ?_
                    refine WL_step rfl (R_add rfl rfl (w_i64 (by omega))) ?_
                    refine WL_stepM rfl (R_as) ?_
                    refine WL_nil ?_
                    (have _g := mk29; exact ⟨(same_mov rfl (same_updo rfl (same_mov rfl (same_mov rfl (same_updo rfl (same_updo rfl (same_mov rfl (same_mov rfl (same_mov rfl (same_updo rfl (same_updo rfl (same_updo rfl (same_mov rfl (same_mov rfl (same_updo rfl (same_updo rfl (same_updo rfl (same_mov rfl (same_mov rfl (same_mov rfl (same_mov rfl (same_updo rfl (same_updo rfl (same_updo rfl (same_mov rfl (same_mov rfl (same_mov rfl (same_updo rfl (same_mov rfl (same_mov rfl (same_mov rfl (same_updo rfl (same_updo rfl (same_updo rfl (same_updo rfl (same_updo rfl (same_updo rfl (same_updo rfl (same_mov rfl (same_updo rfl (same_mov rfl (same_mov rfl (same_updo rfl (same_updo rfl (same_mov rfl (same_mov rfl (same_know rfl (same_updo rfl (same_updo rfl (same_mov rfl (same_mov rfl (same_mov rfl (same_mov rfl (same_know rfl (same_updo rfl (same_updo rfl (same_updo rfl (same_mov rfl (same_updo rfl (same_mov rfl (same_mov rfl same_ovr))))))))))))))))))))))))))))))))))))))))))))))))))))))))))))), _ + 1, by omega, by omega, rfl, (by rw [takeS hLn, orL_snoc]; rfl), H⟩)
                · refine W_seq ?_
                  ((obtain ⟨m, rfl⟩ : ∃ m, j = F.length + m := ⟨j - F.length, by omega⟩; obtain ⟨n, hn⟩ : ∃ n, S0[m]? = some n := ⟨_, List.getElem?_eq_getElem (by omega)⟩; have hnm := List.mem_of_getElem? hn; have hn16 := hS16 n hnm; have hLn : (F ++ S0)[F.length + m]? = some n := (by rw [List.getElem?_append_right (by omega), Nat.add_sub_cancel_left]; exact hn); have hR := RdS.own hO2 (fun p hp => H.held p (by simp [hp])); obtain ⟨b1, o1, rfl, hc1⟩ := hR.cell (i := m) (u := nI n) (by rw [List.getElem?_map, hn]; rfl); have yb : y.getLsbD n = true := hS1 n hnm; have mk29 : True := trivial)) <;> refine W_region_l ?_
                  refine WL_stepM rfl (R_mv) ?_
                  refine WL_stepM rfl (R_mv) ?_
                  refine WL_stepM rfl (R_mv) ?_
                  refine WL_step rfl (R_len_slice Tryd.underlying22 rfl) ?_
                  refine WL_step rfl (R_sub (r := (m : Int)) rfl rfl (by rw [w_i64 (by omega)]; omega)) ?_
                  refine WL_step rfl (R_indexAddr Tryd.underlying22 Tryd.sizeOf3 rfl rfl (by omega) (by omega) idx_cast1) ?_
                  refine WL_step rfl (R_load_cell Tryd.isAgg3 rfl hc1) ?_
                  refine WL_stepM rfl (R_as) ?_
                  refine WL_nil ?_
                  ((by_cases hj0 : m = 0; rotate_left; obtain ⟨i2, rfl⟩ : ∃ i2, m = i2 + 1 := ⟨m - 1, by omega⟩; obtain ⟨n2, hn2⟩ : ∃ n2, S0[i2]? = some n2 := ⟨_, List.getElem?_eq_getElem (by omega)⟩; have hlt := rise_lt hSr hn2 hn; have hn216 := hS16 n2 (List.mem_of_getElem? hn2); obtain ⟨b2, o2, he2, hc2⟩ := hR.cell (i := i2) (u := nI n2) (by rw [List.getElem?_map, hn2]; rfl); cases he2)) <;> refine W_region_l ?_
                  · refine WL_stepM rfl (R_mv) ?_
                    refine WL_stepM rfl (R_mv) ?_
                    refine WL_step rfl (R_len_slice Tryd.underlying22 rfl) ?_
                    refine WL_step rfl (R_eq_f rfl rfl (by omega)) ?_
                    refine WL_stepM rfl (R_mv) ?_
                    refine WL_guard_t rfl rfl ?_
                    refine WL_stepM rfl (R_mv) ?_
                    refine WL_guard_t rfl rfl ?_
                    refine WL_stepM rfl (R_mv) ?_
                    refine WL_guard_t rfl rfl ?_
                    refine WL_stepM rfl (R_mv) ?_
                    refine WL_guard_t rfl rfl ?_
                    refine WL_step rfl (R_len_slice Tryd.underlying22 rfl) ?_
                    refine WL_guard_t rfl rfl ?_
                    refine WL_step rfl (R_sub (r := ((i2 + 1 : Nat) : Int)) rfl rfl (by rw [w_i64 (by omega)]; omega)) ?_
                    refine WL_guard_t rfl rfl ?_
                    refine WL_step rfl (R_sub (r := (i2 : Int)) rfl rfl (by rw [w_i64 (by omega)]; omega)) ?_
                    refine WL_guard_t rfl rfl ?_
                    refine WL_step rfl (R_indexAddr Tryd.underlying22 Tryd.sizeOf3 rfl rfl (by omega) (by omega) idx_cast1) ?_
                    refine WL_guard_t rfl rfl ?_
                    refine WL_step rfl (R_load_cell Tryd.isAgg3 rfl hc2) ?_
                    refine WL_guard_t rfl rfl ?_
                    refine WL_stepM rfl (R_mv) ?_
                    refine WL_guard_t rfl rfl ?_
                    refine WL_step rfl (R_lt_t rfl rfl (by omega)) ?_
                    refine WL_stepM rfl (R_pk_f rfl) ?_
                    refine WL_stepM rfl (R_as) ?_
                    refine WL_nil ?_
                    refine W_seq ?_
                    refine W_seq ?_
                    refine W_region_l ?_
                    refine WL_stepM rfl (R_mv) ?_
                    refine WL_step rfl (R_not_t rfl) ?_
                    refine WL_stepM rfl (R_mv) ?_
                    refine WL_guard_t rfl rfl ?_
                    refine WL_stepM rfl (R_mv) ?_
                    refine WL_guard_t rfl rfl ?_
                    refine WL_stepM rfl (R_mv) ?_
                    refine WL_guard_t rfl rfl ?_
                    refine WL_step rfl (R_shr rfl rfl (by omega) (shr_k (by omega))) ?_
                    refine WL_guard_t rfl rfl ?_
                    refine WL_step rfl (R_bits (r := 0) rfl rfl (by simp) ((and_mask_i64 1 2 (by decide) rfl (by decide)).trans (by rw [bit_shr (by omega), hnew _ _ hLn]; rfl))) ?_
                    refine WL_guard_t rfl rfl ?_
                    refine WL_step rfl (R_eq_f rfl rfl (by omega)) ?_
                    refine WL_stepM rfl (R_pk_f rfl) ?_
                    refine WL_stepM rfl (R_mv) ?_
                    refine WL_guard_t rfl rfl ?_
                    refine WL_stepM rfl (R_mv) ?_
                    refine WL_guard_t rfl rfl ?_
                    refine WL_stepM rfl (R_mv) ?_
                    refine WL_guard_t rfl rfl ?_
                    refine WL_step rfl (R_shr rfl rfl (by omega) (shr_k (by omega))) ?_
                    refine WL_guard_t rfl rfl ?_
                    refine WL_step rfl (R_bits (r := 1) rfl rfl (by simp) ((and_mask_i64 1 2 (by decide) rfl (by decide)).trans (by rw [bit_shr (by omega), yb]; rfl))) ?_
                    refine WL_guard_t rfl rfl ?_
                    refine WL_step rfl (R_eq_t rfl rfl (by omega)) ?_
                    refine WL_guard_t rfl rfl ?_
                    refine WL_stepM rfl (R_mv) ?_
                    refine WL_guard_t rfl rfl ?_
                    refine WL_stepM rfl (R_mv) ?_
                    refine WL_guard_t rfl rfl ?_
                    refine WL_step rfl (R_len_slice Tryd.underlying22 rfl) ?_
                    refine WL_guard_t rfl rfl ?_
                    refine WL_step rfl (R_ge_t rfl rfl (by omega)) ?_
                    refine WL_guard_t rfl rfl ?_
                    refine WL_step rfl (R_ne_bool_f Tryd.underlying4 rfl rfl (by decide)) ?_
                    refine WL_stepM rfl (R_pk_f rfl) ?_
                    refine WL_nil ?_
                    refine W_cond_f rfl ?_
                    refine W_skip ?_
                    refine W_region_l ?_
                    refine WL_stepM rfl (R_mv) ?_
                    refine WL_stepM rfl (R_mv) ?_
                    refine WL_step rfl (R_shl (r := (bitN n).toInt) rfl rfl (by omega) (bit_shl (by omega))) ?_
                    refine WL_step rfl (R_bits rfl rfl (by simp) (bv_or _ (bitN n))) ?_
                    refine WL_stepM rfl (R_as) ?_
                    refine WL_nil ?_
                    refine W_region_l ?_
                    refine WL_stepM rfl (R_mv) ?_
                    refine WL_step rfl (R_add rfl rfl (w_i64 (by omega))) ?_
                    refine WL_stepM rfl (R_as) ?_
                    refine WL_nil ?_
                    (have _g := mk29; exact ⟨(same_mov rfl (same_updo rfl (same_mov rfl (same_mov rfl (same_updo rfl (same_updo rfl (same_mov rfl (same_mov rfl (same_mov rfl (same_updo rfl (same_updo rfl (same_updo rfl (same_mov rfl (same_mov rfl (same_updo rfl (same_updo rfl (same_updo rfl (same_mov rfl (same_mov rfl (same_mov rfl (same_mov rfl (same_updo rfl (same_updo rfl (same_updo rfl (same_mov rfl (same_mov rfl (same_mov rfl (same_updo rfl (same_mov rfl (same_mov rfl (same_mov rfl (same_updo rfl (same_mov rfl (same_updo rfl (same_updo rfl (same_updo rfl (same_updo rfl (same_updo rfl (same_mov rfl (same_mov rfl (same_mov rfl (same_mov rfl (same_updo rfl (same_updo rfl (same_mov rfl (same_mov rfl (same_mov rfl (same_updo rfl (same_updo rfl (same_updo rfl (same_updo rfl (same_mov rfl (same_mov rfl (same_mov rfl (same_know rfl (same_updo rfl (same_updo rfl (same_mov rfl (same_mov rfl (same_mov rfl (same_mov rfl (same_know rfl (same_updo rfl (same_updo rfl (same_updo rfl (same_mov rfl (same_updo rfl (same_mov rfl (same_mov rfl same_ovr))))))))))))))))))))))))))))))))))))))))))))))))))))))))))))))))))))), _ + 1, by omega, by omega, rfl, (by rw [takeS hLn, orL_snoc]; rfl), H⟩)
                  · refine WL_stepM rfl (R_mv) ?_
                    refine WL_stepM rfl (R_mv) ?_
                    refine WL_step rfl (R_len_slice Tryd.underlying22 rfl) ?_
                    refine WL_step rfl (R_eq_t rfl rfl (by omega)) ?_
                    refine WL_stepM rfl (R_mv) ?_
                    refine WL_guard_f rfl rfl (by decide) ?_
                    refine WL_guard_f rfl rfl (by decide) ?_
                    refine WL_guard_f rfl rfl (by decide) ?_
                    refine WL_guard_f rfl rfl (by decide) ?_
                    refine WL_guard_f rfl rfl (by decide) ?_
                    refine WL_guard_f rfl rfl (by decide) ?_
                    refine WL_guard_f rfl rfl (by decide) ?_
                    refine WL_guard_f rfl rfl (by decide) ?_
                    refine WL_guard_f rfl rfl (by decide) ?_
                    refine WL_guard_f rfl rfl (by decide) ?_
                    refine WL_stepM rfl (R_pk_t rfl) ?_
                    refine WL_stepM rfl (R_as) ?_
                    refine WL_nil ?_
                    refine W_seq ?_
                    refine W_seq ?_
                    refine W_region_l ?_
                    refine WL_stepM rfl (R_mv) ?_
                    refine WL_step rfl (R_not_t rfl) ?_
                    refine WL_stepM rfl (R_mv) ?_
                    refine WL_guard_t rfl rfl ?_
                    refine WL_stepM rfl (R_mv) ?_
                    refine WL_guard_t rfl rfl ?_
                    refine WL_stepM rfl (R_mv) ?_
                    refine WL_guard_t rfl rfl ?_
                    refine WL_step rfl (R_shr rfl rfl (by omega) (shr_k (by omega))) ?_
                    refine WL_guard_t rfl rfl ?_
                    refine WL_step rfl (R_bits (r := 0) rfl rfl (by simp) ((and_mask_i64 1 2 (by decide) rfl (by decide)).trans (by rw [bit_shr (by omega), hnew _ _ hLn]; rfl))) ?_
                    refine WL_guard_t rfl rfl ?_
                    refine WL_step rfl (R_eq_f rfl rfl (by omega)) ?_
                    refine WL_stepM rfl (R_pk_f rfl) ?_
                    refine WL_stepM rfl (R_mv) ?_
                    refine WL_guard_t rfl rfl ?_
                    refine WL_stepM rfl (R_mv) ?_
                    refine WL_guard_t rfl rfl ?_
                    refine WL_stepM rfl (R_mv) ?_
                    refine WL_guard_t rfl rfl ?_
                    refine WL_step rfl (R_shr rfl rfl (by omega) (shr_k (by omega))) ?_
                    refine WL_guard_t rfl rfl ?_
                    refine WL_step rfl (R_bits (r := 1) rfl rfl (by simp) ((and_mask_i64 1 2 (by decide) rfl (by decide)).trans (by rw [bit_shr (by omega), yb]; rfl))) ?_
                    refine WL_guard_t rfl rfl ?_
                    refine WL_step rfl (R_eq_t rfl rfl (by omega)) ?_
                    refine WL_guard_t rfl rfl ?_
                    refine WL_stepM rfl (R_mv) ?_
                    refine WL_guard_t rfl rfl ?_
                    refine WL_stepM rfl (R_mv) ?_
                    refine WL_guard_t rfl rfl ?_
                    refine WL_step rfl (R_len_slice Tryd.underlying22 rfl) ?_
                    refine WL_guard_t rfl rfl ?_
                    refine WL_step rfl (R_ge_t rfl rfl (by omega)) ?_
                    refine WL_guard_t rfl rfl ?_
                    refine WL_step rfl (R_ne_bool_f Tryd.underlying4 rfl rfl (by decide)) ?_
                    refine WL_stepM rfl (R_pk_f rfl) ?_
                    refine WL_nil ?_
                    refine W_cond_f rfl ?_
                    refine W_skip ?_
                    refine W_region_l ?_
                    refine WL_stepM rfl (R_mv) ?_
                    refine WL_stepM rfl (R_mv) ?_
                    refine WL_step rfl (R_shl (r := (bitN n).toInt) rfl rfl (by omega) (bit_shl (by omega))) ?_
                    refine WL_step rfl (R_bits rfl rfl (by simp) (bv_or _ (bitN n))) ?_
                    refine WL_stepM rfl (R_as) ?_
                    refine WL_nil ?_
                    refine W_region_l ?_
                    refine WL_stepM rfl (R_mv) ?_
                    refine WL_step rfl (R_add rfl rfl (w_i64 (by omega))) ?_
                    refine WL_stepM rfl (R_as) ?_
                    refine WL_nil ?_
                    (have _g := mk29; exact ⟨(same_mov rfl (same_updo rfl (same_mov rfl (same_mov rfl (same_updo rfl (same_updo rfl (same_mov rfl (same_mov rfl (same_mov rfl (same_updo rfl (same_updo rfl (same_updo rfl (same_mov rfl (same_mov rfl (same_updo rfl (same_updo rfl (same_updo rfl (same_mov rfl (same_mov rfl (same_mov rfl (same_mov rfl (same_updo rfl (same_updo rfl (same_updo rfl (same_mov rfl (same_mov rfl (same_mov rfl (same_updo rfl (same_mov rfl (same_mov rfl (same_mov rfl (same_updo rfl (same_updo rfl (same_updo rfl (same_updo rfl (same_updo rfl (same_updo rfl (same_updo rfl (same_updo rfl (same_updo rfl (same_updo rfl (same_mov rfl (same_updo rfl (same_updo rfl (same_mov rfl (same_mov rfl (same_mov rfl (same_updo rfl (same_updo rfl (same_updo rfl (same_updo rfl (same_mov rfl (same_mov rfl (same_mov rfl (same_know rfl (same_updo rfl (same_updo rfl (same_mov rfl (same_mov rfl (same_mov rfl (same_mov rfl (same_know rfl (same_updo rfl (same_updo rfl (same_updo rfl (same_mov rfl (same_updo rfl (same_mov rfl (same_mov rfl same_ovr))))))))))))))))))))))))))))))))))))))))))))))))))))))))))))))))))))), _ + 1, by omega, by omega, rfl, (by rw [takeS hLn, orL_snoc]; rfl), H⟩)
              · refine W_exit ?_
                refine (if_pos rfl).mpr ?_
                refine W_seq ?_
                ((have mk36 : True := trivial; rw [List.take_of_length_le (by rw [List.length_append]; omega), hall])) <;> refine W_region_l ?_
                refine WL_stepM rfl (R_mv) ?_
                refine WL_stepM rfl (R_mv) ?_
                refine WL_step rfl (R_eq_t rfl rfl rfl) ?_
                refine WL_stepM rfl (R_mv) ?_
                refine WL_guard_t rfl rfl ?_
                (refine WL_call rfl (R_call rfl Tryd.call12 rfl) (awake_ret (hT.mono H (by repeat' first | exact kNil | apply kCons | apply kApp | assumption | exact OwnS.keys (by assumption)))) ?_; rintro _ w601 ⟨rfl, H1⟩; replace H := H.seq0 H1; clear H1)
                refine WL_stepM rfl (R_pk_t rfl) ?_
                refine WL_stepM rfl (R_as) ?_
                refine WL_nil ?_
                refine W_ret ?_
                exact ⟨_, rfl, rfl, H.none (kApp hO2.keys (kApp hO1.keys (kCons (by assumption) kNil)))⟩
end Go.Proofs.YtneeoicjipglkaaDoor.Slot
