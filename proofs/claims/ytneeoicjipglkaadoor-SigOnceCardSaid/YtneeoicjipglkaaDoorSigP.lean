/-
  The law SigStops: the walk.
-/
import Derived.Test.YtneeoicjipglkaaDoorSigO
namespace Go.Proofs.YtneeoicjipglkaaDoor.Slot
open Go Go.Proofs Go.Proofs.YtneeoicjipglkaaDoor.Fx
set_option maxRecDepth 100000
set_option linter.unusedVariables false
set_option linter.unusedSimpArgs false
set_option maxHeartbeats 8000000

theorem R_caP {E : Env} {w : World} {d : Option Nat} {ty : TypeId} {pos : String} {after : Array Edge} : (execOp (ev E) (mk d (.build 25 #[(0, .const (.int .i64 1)), (7, .const (.int .i64 510))]) ty pos after)).run Tryd.prog w = .ok (.value (vP caP)) w :=
  R_buildL (places := [(0, 1), (1, 1), (2, 1), (3, 1), (4, 1), (5, 1), (6, 1), (7, 1), (8, 8)]) (vs := piC caP) Tryd.underlying25 Tryd.typeInfo25 rfl rfl (by kernel_rfl) rfl rfl rfl
theorem take_snoc {α : Type} {l : List α} {j : Nat} (h : j < l.length) : l.take (j + 1) = l.take j ++ [l[j]] := List.take_succ_eq_append_getElem h
theorem st_w {A : BitVec 64} : wakesB { stP with a := A } = false := by
  unfold wakesB
  rw [nextW_zero.2 (.inl (show ¬ (3 : Int) = 1 by decide))]
  rfl

theorem stops_ret {xs : List Int} {w : World} {l : Value} (hl : RdS w l (xs.map fun x => I x)) (hb : xs.length ≤ 9223372036854775807) (hT : TabZ w) :
    Ret Tryd.prog 3 #[l] w fun v w' => v = .bool true ∧ Hp w [] w' := by
  refine Ret_of_W (args := [_]) Tryd.func3 rfl Tryd.ntmps3 Tryd.results3 (by simp) ?_
  have H := Hp.refl w
  obtain ⟨al, cl, rfl⟩ := hl.form
  simp only [List.length_map] at hl ⊢
  refine W_seq ?_
  refine W_region_l ?_
  refine WL_stepM rfl (R_as) ?_
  refine WL_nil ?_
  refine W_seq ?_
  refine W_region_l ?_
  refine WL_step rfl R_caP ?_
  (refine WL_effn rfl (E_allocP H) ?_; clear H; intro c3 w8 hc3 H)
  (refine WL_effu rfl (E_storeP H rfl rfl .here) ?_; clear H; intro w9 H)
  refine WL_nil ?_
  refine W_seq ?_
  ((have mk2 : True := trivial)) <;> refine W_region_l ?_
  refine WL_step rfl (R_loadP rfl (H.get .here)) ?_
  (have _g := mk2; refine WL_call rfl (R_call rfl Tryd.call9 rfl) (raise_yes (p := caP) (k := 14) (by decide) (by decide) (.inl rfl) _) ?_; rintro _ w14 ⟨rfl, H1⟩; replace H := H.seq0 H1; clear H1)
  refine WL_stepM rfl (R_mv) ?_
  refine WL_step rfl (R_extract rfl rfl) ?_
  refine WL_step rfl (R_extract rfl rfl) ?_
  (refine WL_effu rfl (E_storeP H rfl rfl .here) ?_; clear H; intro w18 H)
  refine WL_nil ?_
  refine W_seq ?_
  ((clear mk2; have mk3 : True := trivial)) <;> refine W_region_l ?_
  refine WL_step rfl (R_loadP rfl (H.get .here)) ?_
  (have _g := mk3; refine WL_call rfl (R_call rfl Tryd.call10 rfl) (deliver_ret (raiseN caP 14) (hT.mono H (by repeat' first | exact kNil | apply kCons | apply kApp | assumption | exact OwnS.keys (by assumption)))) ?_; rintro _ w23 ⟨u, M, rfl, hO, H1⟩; have e0 : (delivN 16 (raiseN caP 14)).1 = stP := (by rw [st_raise]); have e1 : (delivN 16 (raiseN caP 14)).2.1 = [] := (by rw [st_raise]); have e2 : (delivN 16 (raiseN caP 14)).2.2 = 0 := (by rw [st_raise]); rw [e1] at hO; rw [e0, e2]; clear e0 e1 e2; obtain ⟨au, cu, rfl⟩ := OwnS.form hO; replace H := H.seqD H1 hO.keys; clear H1 hO mk3)
  refine WL_stepM rfl (R_mv) ?_
  refine WL_step rfl (R_extract rfl rfl) ?_
  refine WL_step rfl (R_extract rfl rfl) ?_
  refine WL_step rfl (R_extract rfl rfl) ?_
  (refine WL_effu rfl (E_storeP H rfl rfl .here) ?_; clear H; intro w28 H)
  refine WL_stepM rfl (R_as) ?_
  refine WL_stepM rfl (R_as) ?_
  refine WL_nil ?_
  refine W_seq ?_
  refine W_seq ?_
  refine W_region_l ?_
  refine WL_step rfl (R_fieldAddr (off' := 0) Tryd.underlying25 rfl Tryd.sizeOf3 (by decide) rfl rfl) ?_
  refine WL_step rfl (R_load (v := I 3) Tryd.isAgg3 rfl (H.get .here) rfl) ?_
  refine WL_step rfl (R_ne_f rfl rfl (by omega)) ?_
  refine WL_stepM rfl (R_mv) ?_
  refine WL_guard_t rfl rfl ?_
  refine WL_stepM rfl (R_mv) ?_
  refine WL_guard_t rfl rfl ?_
  refine WL_step rfl (R_len_slice Tryd.underlying22 rfl) ?_
  refine WL_guard_t rfl rfl ?_
  refine WL_step rfl (R_ne_f rfl rfl (by decide)) ?_
  refine WL_stepM rfl (R_pk_f rfl) ?_
  refine WL_stepM rfl (R_mv) ?_
  refine WL_guard_t rfl rfl ?_
  refine WL_stepM rfl (R_mv) ?_
  refine WL_guard_t rfl rfl ?_
  refine WL_step rfl (R_ne_f rfl rfl (by omega)) ?_
  refine WL_stepM rfl (R_pk_f rfl) ?_
  refine WL_nil ?_
  refine W_cond_f rfl ?_
  refine W_skip ?_
  refine W_seq ?_
  refine W_region_l ?_
  refine WL_stepM rfl (R_as) ?_
  refine WL_nil ?_
  refine W_seq ?_
  refine W_seq ?_
  refine W_region_l ?_
  refine WL_stepM rfl (R_as) ?_
  refine WL_nil ?_
  refine W_block ?_
  refine W_loopS [(2, 2), (6, 11), (46, 93)] (fun (i : Nat) E w' => ∃ A, i ≤ xs.length ∧ i ≤ 20 ∧ Low8 A ∧ E 7 = I i ∧ E 6 = I A.toInt ∧ Hp w [(c3, blk (piC { stP with a := A }) 25)] w') (fun i => 20 - i) 0 ?e0 ?r0
  · exact ⟨0#64, by omega, by omega, low8_zero, rfl, rfl, H⟩
  · (clear H; rintro i E w1 ⟨A, hi, hi2, hA, h0, h1, H⟩; refine W_kn2 h0 h1 ?_)
    refine W_seq ?_
    refine W_seq ?_
    refine W_region_l ?_
    refine WL_stepM rfl (R_mv) ?_
    refine WL_stepM rfl (R_mv) ?_
    refine WL_step rfl (R_len_slice Tryd.underlying22 rfl) ?_
    refine WL_step rfl (R_lt rfl rfl) ?_
    refine WL_stepM rfl (R_mv) ?_
    apply WL_andK 3 50 53 [(51, 53)] H
    case hc => rfl
    case h1 =>
      intro h75
      refine WL_guard_t rfl rfl ?_
      refine WL_stepM rfl (R_mv) ?_
      refine WL_guard_t rfl rfl ?_
      refine WL_step rfl (R_lt rfl rfl) ?_
      refine WL_stepM rfl (R_pk_t rfl) ?_
      refine WL_nil ?_
      exact ⟨(same_mov rfl (same_updo rfl (same_mov rfl Same.refl))), rfl, H⟩
    case h0 =>
      intro h75
      refine WL_guard_f rfl rfl (by decide) ?_
      refine WL_guard_f rfl rfl (by decide) ?_
      refine WL_stepM rfl (R_pk_f rfl) ?_
      refine WL_nil ?_
      exact ⟨(same_mov rfl (same_updo rfl (same_updo rfl Same.refl))), rfl, H⟩
    case h2 =>
      (clear H; intro E75 w75 H)
      refine WL_nil ?_
      refine W_if rfl (fun h89 => ?_) (fun h89 => ?_)
      · refine W_skip ?_
        refine W_seq ?_
        refine W_block ?_
        refine W_seq ?_
        ((obtain ⟨b1, o1, rfl, hc1⟩ := hl.cell (i := i) (u := I xs[i]) (by rw [List.getElem?_map, List.getElem?_eq_getElem (by omega)]; rfl); obtain ⟨k, hk, h1, h8⟩ : ∃ k : Nat, xs[i] % 8 + 1 = k ∧ 1 ≤ k ∧ k ≤ 8 := ⟨(xs[i] % 8 + 1).toNat, by omega, by omega, by omega⟩; have mk10 : True := trivial)) <;> refine W_region_l ?_
        refine WL_stepM rfl (R_mv) ?_
        refine WL_stepM rfl (R_mv) ?_
        refine WL_step rfl (R_indexAddr Tryd.underlying22 Tryd.sizeOf3 rfl rfl (by omega) (by omega) idx_cast1) ?_
        refine WL_step rfl (R_load_cell Tryd.isAgg3 rfl (H.cellN hc1 (by repeat' first | exact kNil | apply kCons | apply kApp | assumption | exact OwnS.keys (by assumption)))) ?_
        refine WL_step rfl (R_bits rfl rfl (by simp) (and_mask_i64 3 8 (by decide) rfl (by decide))) ?_
        refine WL_step rfl (R_add (r := (k : Int)) rfl rfl ((w_i64 (by omega)).trans hk)) ?_
        refine WL_stepM rfl (R_as) ?_
        refine WL_nil ?_
        refine W_seq ?_
        refine W_region_l ?_
        refine WL_step rfl (R_loadP rfl (H.get .here)) ?_
        refine WL_stepM rfl (R_mv) ?_
        (have _g := mk10; refine WL_call rfl (R_call rfl Tryd.call9 rfl) (raise_yes (p := { stP with a := A }) (k := k) h1 (by omega) (.inr rfl) _) ?_; rintro _ w107 ⟨rfl, H1⟩; rw [raise_low h8 rfl]; replace H := H.seq0 H1; clear H1)
        refine WL_stepM rfl (R_mv) ?_
        refine WL_step rfl (R_extract rfl rfl) ?_
        refine WL_step rfl (R_extract rfl rfl) ?_
        (refine WL_effu rfl (E_storeP H rfl rfl .here) ?_; clear H; intro w111 H)
        refine WL_nil ?_
        refine W_seq ?_
        refine W_region_l ?_
        refine WL_stepM rfl (R_mv) ?_
        refine WL_stepM rfl (R_mv) ?_
        refine WL_step rfl (R_shl (r := (bitN k).toInt) rfl rfl (by omega) (bit_shl (by omega))) ?_
        refine WL_step rfl (R_bits rfl rfl (by simp) (bv_or A (bitN k))) ?_
        refine WL_stepM rfl (R_as) ?_
        refine WL_nil ?_
        refine W_seq ?_
        refine W_region_l ?_
        refine WL_step rfl (R_loadP rfl (H.get .here)) ?_
        (have _g := mk10; refine WL_call rfl (R_call rfl Tryd.call10 rfl) (deliver_ret { stP with a := A ||| bitN k } (hT.mono H (by repeat' first | exact kNil | apply kCons | apply kApp | assumption | exact OwnS.keys (by assumption)))) ?_; rintro _ w124 ⟨u, M, rfl, hO, H1⟩; have e0 : (delivN 16 { stP with a := A ||| bitN k }).1 = { stP with a := A ||| bitN k } := (by rw [deliv_stopped (show ¬ (3 : Int) = 1 by decide)]); have e1 : (delivN 16 { stP with a := A ||| bitN k }).2.1 = [] := (by rw [deliv_stopped (show ¬ (3 : Int) = 1 by decide)]); have e2 : (delivN 16 { stP with a := A ||| bitN k }).2.2 = 0 := (by rw [deliv_stopped (show ¬ (3 : Int) = 1 by decide)]); rw [e1] at hO; rw [e0, e2]; clear e0 e1 e2; obtain ⟨au, cu, rfl⟩ := OwnS.form hO; replace H := H.seqD H1 hO.keys; clear H1 hO)
        refine WL_stepM rfl (R_mv) ?_
        refine WL_step rfl (R_extract rfl rfl) ?_
        refine WL_step rfl (R_extract rfl rfl) ?_
        refine WL_step rfl (R_extract rfl rfl) ?_
        (refine WL_effn rfl (E_allocP H) ?_; clear H; intro c129 w129 hc129 H)
        (refine WL_effu rfl (E_storeP H rfl rfl .here) ?_; clear H; intro w130 H)
        refine WL_stepM rfl (R_as) ?_
        refine WL_stepM rfl (R_as) ?_
        refine WL_nil ?_
        refine W_seq ?_
        refine W_region_l ?_
        refine WL_step rfl (R_loadP rfl (H.get .here)) ?_
        refine WL_step rfl (R_loadP rfl (H.get (.there .here))) ?_
        refine WL_step rfl (R_ne_P_f rfl rfl) ?_
        refine WL_stepM rfl (R_mv) ?_
        refine WL_guard_t rfl rfl ?_
        refine WL_stepM rfl (R_mv) ?_
        refine WL_guard_t rfl rfl ?_
        refine WL_step rfl (R_len_slice Tryd.underlying22 rfl) ?_
        refine WL_guard_t rfl rfl ?_
        refine WL_step rfl (R_ne_f rfl rfl (by decide)) ?_
        refine WL_stepM rfl (R_pk_f rfl) ?_
        refine WL_stepM rfl (R_mv) ?_
        refine WL_guard_t rfl rfl ?_
        refine WL_stepM rfl (R_mv) ?_
        refine WL_guard_t rfl rfl ?_
        refine WL_step rfl (R_ne_f rfl rfl (by omega)) ?_
        refine WL_stepM rfl (R_pk_f rfl) ?_
        refine WL_stepM rfl (R_mv) ?_
        refine WL_guard_t rfl rfl ?_
        refine WL_step rfl (R_loadP rfl (H.get (.there .here))) ?_
        refine WL_guard_t rfl rfl ?_
        (refine WL_call rfl (R_call rfl Tryd.call11 rfl) (wakes_ret { stP with a := A ||| bitN k } (hT.mono H (by repeat' first | exact kNil | apply kCons | apply kApp | assumption | exact OwnS.keys (by assumption)))) ?_; rintro _ w157 ⟨rfl, H1⟩; rw [st_w]; replace H := H.seq0 H1; clear H1)
        refine WL_stepM rfl (R_pk_f rfl) ?_
        refine WL_nil ?_
        refine W_cond_f rfl ?_
        refine W_skip ?_
        refine W_region_l ?_
        refine WL_stepM rfl (R_mv) ?_
        refine WL_step rfl (R_add rfl rfl (w_i64 (by omega))) ?_
        refine WL_stepM rfl (R_as) ?_
        refine WL_nil ?_
        (have _g := mk10; exact ⟨(same_mov rfl (same_updo rfl (same_mov rfl (same_mov rfl (same_updo rfl (same_updo rfl (same_mov rfl (same_mov rfl (same_updo rfl (same_mov rfl (same_mov rfl (same_mov rfl (same_updo rfl (same_updo rfl (same_mov rfl (same_mov rfl (same_updo rfl (same_updo rfl (same_updo rfl (same_mov rfl (same_mov rfl (same_updn (same_updo rfl (same_updo rfl (same_updo rfl (same_updo rfl (same_mov rfl (same_updo rfl (same_updo rfl (same_mov rfl (same_updo rfl (same_updo rfl (same_mov rfl (same_mov rfl (same_updn (same_updo rfl (same_updo rfl (same_mov rfl (same_updo rfl (same_mov rfl (same_updo rfl (same_mov rfl (same_updo rfl (same_updo rfl (same_updo rfl (same_updo rfl (same_mov rfl (same_mov rfl (same_know rfl (same_in rfl (same_mov rfl (same_updo rfl (same_updo rfl (same_mov rfl (same_mov rfl same_ovr))))))))))))))))))))))))))))))))))))))))))))))))))))))), i + 1, by omega, A ||| bitN k, by omega, by omega, low8_or hA h1 h8, rfl, rfl, Hp.dropN (M := [_]) H (by repeat' first | exact kNil | apply kCons | apply kApp | assumption | exact OwnS.keys (by assumption))⟩)
      · refine W_exit ?_
        refine (if_pos rfl).mpr ?_
        refine W_seq ?_
        ((have mk16 : True := trivial)) <;> refine W_region_l ?_
        refine WL_step rfl (R_loadP rfl (H.get .here)) ?_
        (have _g := mk16; refine WL_call rfl (R_call rfl Tryd.call9 rfl) (raise_yes (p := { stP with a := A }) (k := 14) (by decide) (by decide) (.inr rfl) _) ?_; rintro _ w173 ⟨rfl, H1⟩; replace H := H.seq0 H1; clear H1)
        refine WL_stepM rfl (R_mv) ?_
        refine WL_step rfl (R_extract rfl rfl) ?_
        refine WL_step rfl (R_extract rfl rfl) ?_
        (refine WL_effn rfl (E_allocP H) ?_; clear H; intro c12 w177 hc12 H)
        (refine WL_effu rfl (E_storeP H rfl rfl .here) ?_; clear H; intro w178 H)
        refine WL_stepM rfl (R_as) ?_
        refine WL_nil ?_
        refine W_seq ?_
        ((clear mk16; have mk17 : True := trivial)) <;> refine W_region_l ?_
        refine WL_step rfl (R_loadP rfl (H.get .here)) ?_
        (have _g := mk17; refine WL_call rfl (R_call rfl Tryd.call9 rfl) (raise_yes (p := raiseN { stP with a := A } 14) (k := 15) (by decide) (by decide) (.inr rfl) _) ?_; rintro _ w184 ⟨rfl, H1⟩; rw [st_go, st_go2 hA]; replace H := H.seq0 H1; clear H1 mk17)
        refine WL_stepM rfl (R_mv) ?_
        refine WL_step rfl (R_extract rfl rfl) ?_
        refine WL_step rfl (R_extract rfl rfl) ?_
        (refine WL_effu rfl (E_storeP H rfl rfl .here) ?_; clear H; intro w188 H)
        refine WL_stepM rfl (R_as) ?_
        refine WL_nil ?_
        refine W_seq ?_
        refine W_seq ?_
        refine W_region_l ?_
        refine WL_stepM rfl (R_mv) ?_
        refine WL_step rfl (R_not_t rfl) ?_
        refine WL_stepM rfl (R_mv) ?_
        refine WL_guard_t rfl rfl ?_
        refine WL_step rfl (R_fieldAddr (off' := 0) Tryd.underlying25 rfl Tryd.sizeOf3 (by decide) rfl rfl) ?_
        refine WL_guard_t rfl rfl ?_
        refine WL_step rfl (R_load (v := I 1) Tryd.isAgg3 rfl (H.get .here) rfl) ?_
        refine WL_guard_t rfl rfl ?_
        refine WL_step rfl (R_ne_f rfl rfl (by omega)) ?_
        refine WL_stepM rfl (R_pk_f rfl) ?_
        refine WL_stepM rfl (R_mv) ?_
        refine WL_guard_t rfl rfl ?_
        refine WL_step rfl (R_fieldAddr (off' := 4) Tryd.underlying25 rfl Tryd.sizeOf3 (by decide) rfl rfl) ?_
        refine WL_guard_t rfl rfl ?_
        refine WL_step rfl (R_load (v := I (A ||| bitN 15).toInt) Tryd.isAgg3 rfl (H.get .here) rfl) ?_
        refine WL_guard_t rfl rfl ?_
        refine WL_step rfl (R_shr (r := (A ||| bitN 15).toInt / ((2 ^ 14 : Nat) : Int)) rfl rfl (by decide) (shr_k (k := 14) (by decide))) ?_
        refine WL_guard_t rfl rfl ?_
        refine WL_step rfl (R_bits (r := 0) rfl rfl (by simp) ((and_mask_i64 1 2 (by decide) rfl (by decide)).trans (by rw [bit_shr (by decide), st_bit hA]; rfl))) ?_
        refine WL_guard_t rfl rfl ?_
        refine WL_step rfl (R_eq_f rfl rfl (by omega)) ?_
        refine WL_stepM rfl (R_pk_f rfl) ?_
        refine WL_nil ?_
        refine W_cond_f rfl ?_
        refine W_skip ?_
        refine W_seq ?_
        refine W_region_l ?_
        refine WL_step rfl (R_loadP rfl (H.get .here)) ?_
        (refine WL_call rfl (R_call rfl Tryd.call10 rfl) (deliver_ret { caP with a := A ||| bitN 15 } (hT.mono H (by repeat' first | exact kNil | apply kCons | apply kApp | assumption | exact OwnS.keys (by assumption)))) ?_; rintro _ w222 ⟨u, M, rfl, hO, H1⟩; have e0 : (delivN 16 { caP with a := A ||| bitN 15 }).1 = caP := (by rw [st_deliv hA]); have e1 : (delivN 16 { caP with a := A ||| bitN 15 }).2.1 = bitsL A := (by rw [st_deliv hA]); have e2 : (delivN 16 { caP with a := A ||| bitN 15 }).2.2 = 0 := (by rw [st_deliv hA]); rw [e1] at hO; rw [e0, e2]; clear e0 e1 e2; have h222 := H.seqO hO H1; clear H H1 hO; obtain ⟨hO, H⟩ := h222; obtain ⟨au, cu, rfl⟩ := OwnS.form hO; have hbl := bits_len A)
        refine WL_stepM rfl (R_mv) ?_
        refine WL_step rfl (R_extract rfl rfl) ?_
        refine WL_step rfl (R_extract rfl rfl) ?_
        refine WL_step rfl (R_extract rfl rfl) ?_
        (refine WL_effn rfl (E_allocP H) ?_; clear H; intro c15 w227 hc15 H)
        (refine WL_effu rfl (E_storeP H rfl rfl .here) ?_; clear H; intro w228 H)
        refine WL_stepM rfl (R_as) ?_
        refine WL_stepM rfl (R_as) ?_
        refine WL_nil ?_
        refine W_seq ?_
        refine W_region_l ?_
        refine WL_stepM rfl (R_as) ?_
        refine WL_nil ?_
        refine W_seq ?_
        refine W_seq ?_
        refine W_region_l ?_
        refine WL_stepM rfl (R_as) ?_
        refine WL_nil ?_
        refine W_block ?_
        refine W_loopS [(18, 19), (124, 136)] (fun (j : Nat) E w' => j ≤ (bitsL A).length ∧ E 19 = I j ∧ E 18 = I (orL ((bitsL A).take j)).toInt ∧ Hp w ((c15, blk (piC caP) 25) :: (M ++ [(c12, blk (piC { caP with a := A ||| bitN 15 }) 25), (c3, blk (piC { stP with a := A }) 25)])) w') (fun j => (bitsL A).length - j) 0 ?e2 ?r2
        · exact ⟨by omega, rfl, rfl, H⟩
        · (clear H; rintro j E w1 ⟨hj, h0, h1, H⟩; refine W_kn2 h0 h1 ?_; by_cases hjl : j < (bitsL A).length)
          · refine W_seq ?_
            refine W_seq ?_
            refine W_region_l ?_
            refine WL_stepM rfl (R_mv) ?_
            refine WL_stepM rfl (R_mv) ?_
            refine WL_step rfl (R_len_slice Tryd.underlying22 rfl) ?_
            refine WL_step rfl (R_lt_t rfl rfl (by omega)) ?_
            refine WL_nil ?_
            refine W_cond_t rfl ?_
            refine W_skip ?_
            refine W_seq ?_
            refine W_block ?_
            ((have hR := RdS.own hO (fun p hp => H.held p (by simp [hp])); obtain ⟨b1, o1, rfl, hc1⟩ := hR.cell (i := j) (u := nI (bitsL A)[j]) (by rw [List.getElem?_map, List.getElem?_eq_getElem hjl]; rfl); have hm := (bitsL_mem.1 (List.getElem_mem hjl)).1; have mk25 : True := trivial)) <;> refine W_region_l ?_
            refine WL_stepM rfl (R_mv) ?_
            refine WL_stepM rfl (R_mv) ?_
            refine WL_stepM rfl (R_mv) ?_
            refine WL_step rfl (R_indexAddr Tryd.underlying22 Tryd.sizeOf3 rfl rfl (by omega) (by omega) idx_cast1) ?_
            refine WL_step rfl (R_load_cell Tryd.isAgg3 rfl hc1) ?_
            refine WL_step rfl (R_shl (r := (bitN (bitsL A)[j]).toInt) rfl rfl (by omega) (bit_shl (by omega))) ?_
            refine WL_step rfl (R_bits rfl rfl (by simp) (bv_or (orL ((bitsL A).take j)) (bitN (bitsL A)[j]))) ?_
            refine WL_stepM rfl (R_as) ?_
            refine WL_nil ?_
            refine W_region_l ?_
            refine WL_stepM rfl (R_mv) ?_
            refine WL_step rfl (R_add rfl rfl (w_i64 (by omega))) ?_
            refine WL_stepM rfl (R_as) ?_
            refine WL_nil ?_
            (have _g := mk25; exact ⟨(same_mov rfl (same_updo rfl (same_mov rfl (same_mov rfl (same_updo rfl (same_updo rfl (same_updo rfl (same_updo rfl (same_mov rfl (same_mov rfl (same_mov rfl (same_updo rfl (same_updo rfl (same_mov rfl (same_mov rfl same_ovr))))))))))))))), j + 1, by omega, by omega, rfl, (by rw [take_snoc hjl, orL_snoc]; rfl), H⟩)
          · refine W_seq ?_
            refine W_seq ?_
            refine W_region_l ?_
            refine WL_stepM rfl (R_mv) ?_
            refine WL_stepM rfl (R_mv) ?_
            refine WL_step rfl (R_len_slice Tryd.underlying22 rfl) ?_
            refine WL_step rfl (R_lt_f rfl rfl (by omega)) ?_
            refine WL_nil ?_
            refine W_cond_f rfl ?_
            refine W_exit ?_
            refine (if_pos rfl).mpr ?_
            refine W_seq ?_
            ((have mk26 : True := trivial; rw [List.take_of_length_le (by omega), orL_bits hA])) <;> refine W_region_l ?_
            refine WL_step rfl (R_loadP rfl (H.get .here)) ?_
            (have _g := mk26; refine WL_call rfl (R_call rfl Tryd.call9 rfl) (raise_yes (p := caP) (k := 14) (by decide) (by decide) (.inl rfl) _) ?_; rintro _ w286 ⟨rfl, H1⟩; replace H := H.seq0 H1; clear H1)
            refine WL_stepM rfl (R_mv) ?_
            refine WL_step rfl (R_extract rfl rfl) ?_
            refine WL_step rfl (R_extract rfl rfl) ?_
            (refine WL_effn rfl (E_allocP H) ?_; clear H; intro c290 w290 hc290 H)
            (refine WL_effu rfl (E_storeP H rfl rfl .here) ?_; clear H; intro w291 H)
            refine WL_stepM rfl (R_as) ?_
            refine WL_nil ?_
            refine W_seq ?_
            refine W_region_l ?_
            refine WL_stepM rfl (R_mv) ?_
            refine WL_step rfl (R_eq_t rfl rfl (by omega)) ?_
            refine WL_stepM rfl (R_mv) ?_
            refine WL_guard_t rfl rfl ?_
            refine WL_stepM rfl (R_mv) ?_
            refine WL_guard_t rfl rfl ?_
            refine WL_stepM rfl (R_mv) ?_
            refine WL_guard_t rfl rfl ?_
            refine WL_step rfl (R_eq_t rfl rfl rfl) ?_
            refine WL_stepM rfl (R_pk_t rfl) ?_
            refine WL_stepM rfl (R_mv) ?_
            refine WL_guard_t rfl rfl ?_
            refine WL_step rfl (R_fieldAddr (off' := 4) Tryd.underlying25 rfl Tryd.sizeOf3 (by decide) rfl rfl) ?_
            refine WL_guard_t rfl rfl ?_
            refine WL_step rfl (R_load (v := I 0) Tryd.isAgg3 rfl (H.get (.there .here)) rfl) ?_
            refine WL_guard_t rfl rfl ?_
            refine WL_step rfl (R_eq_t rfl rfl (by omega)) ?_
            refine WL_stepM rfl (R_pk_t rfl) ?_
            refine WL_stepM rfl (R_mv) ?_
            refine WL_guard_t rfl rfl ?_
            refine WL_step rfl (R_fieldAddr (off' := 0) Tryd.underlying25 rfl Tryd.sizeOf3 (by decide) rfl rfl) ?_
            refine WL_guard_t rfl rfl ?_
            refine WL_step rfl (R_load (v := I 1) Tryd.isAgg3 rfl (H.get (.there .here)) rfl) ?_
            refine WL_guard_t rfl rfl ?_
            refine WL_step rfl (R_eq_t rfl rfl (by omega)) ?_
            refine WL_stepM rfl (R_pk_t rfl) ?_
            refine WL_stepM rfl (R_mv) ?_
            refine WL_guard_t rfl rfl ?_
            refine WL_step rfl (R_fieldAddr (off' := 4) Tryd.underlying25 rfl Tryd.sizeOf3 (by decide) rfl rfl) ?_
            refine WL_guard_t rfl rfl ?_
            refine WL_step rfl (R_load (v := I 16384) Tryd.isAgg3 rfl (H.get .here) rfl) ?_
            refine WL_guard_t rfl rfl ?_
            refine WL_step rfl (R_eq_t rfl rfl (by omega)) ?_
            refine WL_stepM rfl (R_pk_t rfl) ?_
            refine WL_stepM rfl (R_mv) ?_
            refine WL_guard_t rfl rfl ?_
            (refine WL_call rfl (R_call rfl Tryd.call12 rfl) (awake_ret (hT.mono H (by repeat' first | exact kNil | apply kCons | apply kApp | assumption | exact OwnS.keys (by assumption)))) ?_; rintro _ w332 ⟨rfl, H1⟩; replace H := H.seq0 H1; clear H1)
            refine WL_stepM rfl (R_pk_t rfl) ?_
            refine WL_stepM rfl (R_as) ?_
            refine WL_nil ?_
            refine W_ret ?_
            exact ⟨_, rfl, rfl, H.none (by repeat' first | exact kNil | apply kCons | apply kApp | assumption | exact OwnS.keys (by assumption))⟩
end Go.Proofs.YtneeoicjipglkaaDoor.Slot
