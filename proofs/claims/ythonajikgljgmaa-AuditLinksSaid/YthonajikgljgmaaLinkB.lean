/-
  The law AuditLinks.
-/
import Derived.Test.YthonajikgljgmaaLinkA
namespace Go.Proofs.Ythonajikgljgmaa.Aud
open Go Go.Proofs Go.Proofs.Ythonajikgljgmaa.Fx
set_option maxRecDepth 100000
set_option linter.unusedVariables false
set_option linter.unusedSimpArgs false
set_option maxHeartbeats 16000000

theorem perm6 {α : Type} (a b c d e f : α) : List.Perm [a, b, c, d, e, f] [e, d, c, b, a, f] := by
  have h : [e, d, c, b, a, f] = [a, b, c, d, e].reverse ++ [f] := rfl
  rw [h]
  exact List.Perm.append_right [f] (List.reverse_perm [a, b, c, d, e]).symm
theorem R_fn5 {P : Program} {E : Env} {w : World} {d : Option Nat} {ty : TypeId} {pos : String} {after : Array Edge} {f : FuncId} {a b c e g : Operand} {u v x' y' z : Value} (h1 : ev E a = u) (h2 : ev E b = v) (h3 : ev E c = x') (h4 : ev E e = y') (h5 : ev E g = z) :
    (execOp (ev E) (mk d (.makeFunc (.func f) #[] #[a, b, c, e, g]) ty pos after)).run P w = .ok (.value (.func (.func f) #[] #[u, v, x', y', z])) w :=
  R_makeFunc (by simp [h1, h2, h3, h4, h5])
theorem links_ret (which by_ : Int) (w : World) : Ret Try.prog 10 #[I which, I by_] w fun v w' => v = .bool true ∧ Hp w [] w' := by
  refine Ret_of_W (args := [_, _]) Try.func10 rfl Try.ntmps10 Try.results10 (by simp) ?_
  have H := Hp.refl w
  obtain ⟨W, hW, hW8⟩ : ∃ N : Nat, which % 8 = (N : Int) ∧ N < 8 := ⟨(which % 8).toNat, by omega, by omega⟩
  obtain ⟨C, hC, hC4⟩ : ∃ N : Nat, by_ % 4 = (N : Int) ∧ N < 4 := ⟨(by_ % 4).toNat, by omega, by omega⟩
  obtain ⟨B, hB⟩ : ∃ B : Nat, B = C + 1 := ⟨_, rfl⟩
  obtain ⟨okp, okq, okf, okh, okr⟩ := w_ok W B hW8 (by omega)
  have hf2 := X2_faults W B hW8 (by omega)
  obtain ⟨Y1, hY1⟩ : ∃ Y, X1 = Y := ⟨_, rfl⟩
  have hY1l : Y1.length = 492 := hY1 ▸ putAll_len _ _ _ _ _ blankB_len
  have hY1f : faults Y1 = [] := hY1 ▸ X1_faults
  obtain ⟨Y2, hY2⟩ : ∃ Y, X2 W B = Y := ⟨_, rfl⟩
  have hY2l : Y2.length = 492 := by rw [← hY2]; exact putAll_len _ _ _ _ _ (hY1 ▸ hY1l)
  rw [hY2] at hf2
  obtain ⟨wt, hwt⟩ : ∃ x, want W = x := ⟨_, rfl⟩
  rw [hwt] at hf2
  refine W_seq ?_
  refine W_region_l ?_
  refine WL_stepM rfl (R_as) ?_
  refine WL_nil ?_
  refine W_seq ?_
  refine W_region_l ?_
  (refine WL_call rfl (R_call rfl Try.call30 rfl) (blank_ret _) ?_; rintro _ w7 ⟨M, hO, H1⟩; have h7 := H.seqO hO H1; clear H H1 hO; obtain ⟨hO, H⟩ := h7; obtain ⟨bb, bc, bsp, rfl, hbb', rfl, hbs, hbc⟩ := OwnS.pos hO (by decide); rw [List.append_nil] at H)
  (refine WL_effn rfl (E_alloc (vs := [nilS]) H Try.zeroValue22 rfl) ?_; clear H; intro c5 w8 hc5 H)
  (refine WL_effu rfl (E_store (v := (.slice _ _ _)) H Try.sizeOf22 rfl rfl rfl .here (by simp)) ?_; clear H; intro w9 H)
  refine WL_nil ?_
  refine W_seq ?_
  refine W_seq ?_
  refine W_region_l ?_
  refine WL_step rfl (R_load Try.isAgg22 rfl (H.get .here) rfl) ?_
  refine WL_step rfl (R_len_slice Try.underlying22 rfl) ?_
  refine WL_step rfl (R_ne_f rfl rfl (by omega)) ?_
  refine WL_nil ?_
  refine W_cond_f rfl ?_
  refine W_skip ?_
  refine W_seq ?_
  refine W_region_l ?_
  refine WL_step rfl (R_buildL (places := [(0, 1), (1, 1), (2, 1), (3, 1), (4, 1), (5, 1), (6, 1), (7, 1), (8, 8)]) (vs := Slot.piC ({ Slot.zeroP with s := 1 } : Slot.Pi)) Try.underlying67 Try.typeInfo67 rfl rfl (by kernel_rfl) rfl rfl rfl) ?_
  refine WL_step rfl (R_buildL (places := [(0, 1), (1, 1), (2, 1), (3, 1), (4, 1), (5, 1), (6, 1), (7, 1), (8, 8)]) (vs := Slot.piC ({ Slot.zeroP with s := 1, p := 1 } : Slot.Pi)) Try.underlying67 Try.typeInfo67 rfl rfl (by kernel_rfl) rfl rfl rfl) ?_
  (refine WL_effn rfl (Slot.E_allocP H) ?_; clear H; intro c6 w24 hc6 H)
  (refine WL_effn rfl (Slot.E_allocP H) ?_; clear H; intro c7 w25 hc7 H)
  (refine WL_effu rfl (Slot.E_storeP (q := { Slot.zeroP with s := 1 }) H rfl rfl (.there .here)) ?_; clear H; intro w26 H)
  (refine WL_effu rfl (Slot.E_storeP (q := { Slot.zeroP with s := 1, p := 1 }) H rfl rfl .here) ?_; clear H; intro w27 H; replace H : Hp w [(c7, blk [I 1, I 1, I 0, I 0, I 0, I 0, I 0, I 0, I 0, I 0, I 0, I 0, I 0, I 0, I 0, I 0] 67), (c6, blk [I 1, I 0, I 0, I 0, I 0, I 0, I 0, I 0, I 0, I 0, I 0, I 0, I 0, I 0, I 0, I 0] 67), (c5, blk [sl bb 0 492 bc] 22), (bb, blk (blankB.map U ++ bsp) 5)] w27 := H)
  refine WL_nil ?_
  refine W_seq ?_
  refine W_region_l ?_
  refine WL_step rfl (R_fieldAddr (off' := 8) Try.underlying67 rfl Try.sizeOf65 (by decide) rfl rfl) ?_
  refine WL_step rfl (R_indexAddrA (off' := 9) Try.underlying65 Try.sizeOf3 rfl rfl (by omega) (by omega) rfl) ?_
  (refine WL_effu rfl (E_store (v := (.int _ _)) H Try.sizeOf3 rfl rfl rfl (.there .here) (by simp)) ?_; clear H; intro w33 H)
  refine WL_step rfl (R_fieldAddr (off' := 8) Try.underlying67 rfl Try.sizeOf65 (by decide) rfl rfl) ?_
  refine WL_step rfl (R_indexAddrA (off' := 10) Try.underlying65 Try.sizeOf3 rfl rfl (by omega) (by omega) rfl) ?_
  (refine WL_effu rfl (E_store (v := (.int _ _)) H Try.sizeOf3 rfl rfl rfl (.there .here) (by simp)) ?_; clear H; intro w36 H)
  refine WL_step rfl (R_fieldAddr (off' := 8) Try.underlying67 rfl Try.sizeOf65 (by decide) rfl rfl) ?_
  refine WL_step rfl (R_indexAddrA (off' := 8) Try.underlying65 Try.sizeOf3 rfl rfl (by omega) (by omega) rfl) ?_
  (refine WL_effu rfl (E_store (v := (.int _ _)) H Try.sizeOf3 rfl rfl rfl .here (by simp)) ?_; clear H; intro w39 H)
  refine WL_nil ?_
  refine W_seq ?_
  refine W_region_l ?_
  refine WL_step rfl (R_buildL (places := [(0, 1), (1, 1), (2, 1), (3, 1)]) (vs := File.flC lf) Try.underlying69 Try.typeInfo69 rfl rfl (by kernel_rfl) rfl rfl rfl) ?_
  refine WL_step rfl (R_buildL (places := [(0, 1), (1, 1), (2, 1), (3, 1)]) (vs := File.flC lh) Try.underlying69 Try.typeInfo69 rfl rfl (by kernel_rfl) rfl rfl rfl) ?_
  refine WL_step rfl (R_build (ps := [(0, File.vF lf), (1, File.vF lh)]) (vs := File.flC lf ++ File.flC lh) rfl (by kernel_rfl)) ?_
  (refine WL_effn rfl (E_alloc (vs := List.replicate 8 (I 0)) H Try.zeroValue70 rfl) ?_; clear H; intro c8 w46 hc8 H)
  (refine WL_effu rfl (E_storeA (vs := File.flC lf ++ File.flC lh) H Try.sizeOf70 rfl rfl (by simp [File.flC, lf, lh, Value.oneCell']) .here (by simp [File.flC])) ?_; clear H; intro w47 H)
  refine WL_nil ?_
  refine W_seq ?_
  refine W_region_l ?_
  refine WL_step rfl (R_buildL (places := [(0, 1), (1, 1), (2, 1), (3, 1), (4, 32)]) (vs := Ring.piC pipe11) Try.underlying73 Try.typeInfo73 rfl rfl (by kernel_rfl) rfl rfl rfl) ?_
  (refine WL_effn rfl (Ring.E_allocP H) ?_; clear H; intro c9 w52 hc9 H)
  (refine WL_effu rfl (Ring.E_storeP (q := pipe11) H rfl rfl .here) ?_; clear H; intro w53 H; replace H : Hp w [(c9, blk (Ring.piC pipe11) 73), (c8, blk (File.flC lf ++ File.flC lh) 70), (c7, blk (Slot.piC lq) 67), (c6, blk (Slot.piC lp) 67), (c5, blk [sl bb 0 492 bc] 22), (bb, blk (blankB.map U ++ bsp) 5)] w53 := H)
  refine WL_nil ?_
  refine W_seq ?_
  refine W_region_l ?_
  refine WL_step rfl (R_fn5 (u := ptr c5 0) (v := ptr c6 0) (x' := ptr c7 0) (y' := ptr c8 0) (z := ptr c9 0) rfl rfl rfl rfl rfl) ?_
  refine WL_stepM rfl (R_as) ?_
  refine WL_nil ?_
  refine W_seq ?_
  ((replace H := H.perm (M := [(c5, blk [sl bb 0 492 bc] 22), (c6, blk (Slot.piC lp) 67), (c7, blk (Slot.piC lq) 67), (c8, blk (File.flC lf ++ File.flC lh) 70), (c9, blk (Ring.piC pipe11) 73), (bb, blk (blankB.map U ++ bsp) 5)]) (perm6 _ _ _ _ _ _))) <;> refine W_region_l ?_
  refine WL_stepM rfl (R_mv) ?_
  (refine WL_call rfl (R_call rfl Try.call31 rfl) (put_ret (p := lp) (q := lq) (f := lf) (h := lh) (r := pipe11) (X := blankB) (by decide) (by decide) (by decide) (by decide) (by decide) blankB_len hbc H) ?_; clear H; rintro _ w63 H; rw [show putAll blankB lp lq lf lh pipe11 = Y1 from hY1] at H)
  refine WL_nil ?_
  refine W_seq ?_
  refine W_seq ?_
  refine W_region_l ?_
  refine WL_step rfl (R_load Try.isAgg22 rfl (H.get .here) rfl) ?_
  (refine WL_call rfl (R_call rfl Try.call35 rfl) (sound_ret (xs := Y1) (rd_row (H.get (.there (.there (.there (.there (.there .here)))))) hY1l (by omega))) ?_; rintro _ w69 ⟨rfl, H1⟩; rw [decide_eq_true hY1f]; replace H := H.seq0 H1; clear H1; replace H : Hp w [(c5, blk [sl bb 0 492 bc] 22), (c6, blk [I 1, I 0, I 0, I 0, I 0, I 0, I 0, I 0, I 0, I 2, I 3, I 0, I 0, I 0, I 0, I 0] 67), (c7, blk [I 1, I 1, I 0, I 0, I 0, I 0, I 0, I 0, I 2, I 0, I 0, I 0, I 0, I 0, I 0, I 0] 67), (c8, blk [I 1, I 2, I 2, I 0, I 2, I 2, I 1, I 0] 70), (c9, blk ([I 0, I 0, I 1, I 1] ++ List.replicate 32 (U 0)) 73), (bb, blk (Y1.map U ++ bsp) 5)] w69 := H)
  refine WL_step rfl (R_not_t rfl) ?_
  refine WL_nil ?_
  refine W_cond_f rfl ?_
  refine W_skip ?_
  refine W_seq ?_
  refine W_region_l ?_
  refine WL_stepM rfl (R_mv) ?_
  refine WL_step rfl (R_bits (r := (C : Int)) rfl rfl (by simp) ((and_mask_i64 2 4 (by decide) rfl (by decide)).trans hC)) ?_
  refine WL_step rfl (R_add (r := (B : Int)) rfl rfl (by rw [w_i64 (by omega)]; omega)) ?_
  refine WL_stepM rfl (R_as) ?_
  refine WL_nil ?_
  refine W_seq ?_
  refine W_region_l ?_
  refine WL_stepM rfl (R_as) ?_
  refine WL_nil ?_
  refine W_seq ?_
  refine W_seq ?_
  refine W_region_l ?_
  refine WL_stepM rfl (R_mv) ?_
  refine WL_step rfl (R_bits (r := (W : Int)) rfl rfl (by simp) ((and_mask_i64 3 8 (by decide) rfl (by decide)).trans hW)) ?_
  refine WL_nil ?_
  refine W_block ?_
  refine W_seq ?_
  refine W_region_l ?_
  refine WL_step rfl (R_eq rfl rfl) ?_
  refine WL_stepM rfl (R_as) ?_
  refine WL_nil ?_
  refine W_if rfl (fun h97 => ?_) (fun h97 => ?_)
  · refine W_region_l ?_
    refine WL_step rfl (R_fieldAddr (off' := 1) Try.underlying67 rfl Try.sizeOf3 (by decide) rfl rfl) ?_
    (refine WL_effu rfl (E_store (v := (.int _ _)) H Try.sizeOf3 rfl rfl rfl (.there (.there .here)) (by simp)) ?_; clear H; intro w100 H)
    refine WL_stepM rfl (R_as) ?_
    refine WL_nil ?_
    refine W_seq ?_
    ((have _g : W = 0 := (by omega); subst _g; replace H : Hp w [(c5, blk [sl bb 0 492 bc] 22), (c6, blk (Slot.piC (wp 0 B)) 67), (c7, blk (Slot.piC (wq 0 B)) 67), (c8, blk (File.flC (wf 0 B) ++ File.flC (wh 0)) 70), (c9, blk (Ring.piC (wr 0 B)) 73), (bb, blk (Y1.map U ++ bsp) 5)] _ := H)) <;> refine W_region_l ?_
    refine WL_stepM rfl (R_mv) ?_
    (refine WL_call rfl (R_call rfl Try.call31 rfl) (put_ret (p := wp 0 B) (q := wq 0 B) (f := wf 0 B) (h := wh 0) (r := wr 0 B) (X := Y1) okp okq okf okh okr hY1l hbc H) ?_; clear H; rintro _ w106 H; rw [show putAll Y1 (wp 0 B) (wq 0 B) (wf 0 B) (wh 0) (wr 0 B) = Y2 from by rw [← hY1]; exact hY2] at H; replace hwt : _ = wt := hwt; subst hwt)
    refine WL_nil ?_
    refine W_seq ?_
    refine W_region_l ?_
    refine WL_step rfl (R_load Try.isAgg22 rfl (H.get .here) rfl) ?_
    (refine WL_call rfl (R_call rfl Try.call36 rfl) (faults_ret (xs := Y2) (rd_row (H.get (.there (.there (.there (.there (.there .here)))))) hY2l (by omega))) ?_; rintro _ w111 ⟨M3, hO3, H1⟩; rw [hf2, if_neg (by decide)] at hO3; have h111 := H.seqO hO3 H1; clear H H1 hO3; obtain ⟨hO3, H⟩ := h111; obtain ⟨b3, q3, sp3, rfl, hb3, rfl, hs3, hc3⟩ := OwnS.pos hO3 (by simp))
    refine WL_stepM rfl (R_as) ?_
    refine WL_nil ?_
    refine W_seq ?_
    refine W_region_l ?_
    refine WL_stepM rfl (R_mv) ?_
    refine WL_step rfl (R_eq_S_f rfl rfl (by decide)) ?_
    refine WL_stepM rfl (R_mv) ?_
    refine WL_step rfl (R_len_slice (len := 1) Try.underlying78 rfl) ?_
    refine WL_step rfl (R_eq_f rfl rfl (by omega)) ?_
    refine WL_step rfl (R_eq_bool_t Try.underlying4 rfl rfl (by decide)) ?_
    refine WL_stepM rfl (R_mv) ?_
    refine WL_guard_t rfl rfl ?_
    refine WL_stepM rfl (R_mv) ?_
    refine WL_guard_t rfl rfl ?_
    refine WL_step rfl (R_eq_S_f rfl rfl (by decide)) ?_
    refine WL_guard_t rfl rfl ?_
    refine WL_stepM rfl (R_mv) ?_
    refine WL_guard_t rfl rfl ?_
    refine WL_stepM rfl (R_mv) ?_
    refine WL_guard_t rfl rfl ?_
    refine WL_step rfl (R_len_slice (len := 1) Try.underlying78 rfl) ?_
    refine WL_guard_t rfl rfl ?_
    refine WL_step rfl (R_eq_t rfl rfl (by omega)) ?_
    refine WL_guard_t rfl rfl ?_
    refine WL_stepM rfl (R_mv) ?_
    refine WL_guard_t rfl rfl ?_
    refine WL_stepM rfl (R_mv) ?_
    refine WL_guard_t rfl rfl ?_
    refine WL_step rfl (R_indexAddr (off' := 0) Try.underlying78 Try.sizeOf9 rfl rfl (by decide) (by simp) (by decide)) ?_
    refine WL_guard_t rfl rfl ?_
    refine WL_step rfl (R_load Try.isAgg9 rfl (H.get .here) rfl) ?_
    refine WL_guard_t rfl rfl ?_
    refine WL_stepM rfl (R_mv) ?_
    refine WL_guard_t rfl rfl ?_
    refine WL_step rfl (R_eq_S_t rfl rfl rfl) ?_
    refine WL_guard_t rfl rfl ?_
    refine WL_stepM rfl (R_pk_t rfl) ?_
    refine WL_guard_t rfl rfl ?_
    refine WL_stepM rfl (R_pk_f rfl) ?_
    refine WL_stepM rfl (R_pk_t rfl) ?_
    refine WL_stepM rfl (R_mv) ?_
    refine WL_guard_t rfl rfl ?_
    (refine WL_call rfl (R_call rfl Try.call37 rfl) (awake_ret _) ?_; rintro _ w154 ⟨rfl, H1⟩; replace H := H.seq0 H1; clear H1)
    refine WL_stepM rfl (R_pk_t rfl) ?_
    refine WL_stepM rfl (R_as) ?_
    refine WL_nil ?_
    refine W_ret ?_
    exact ⟨_, rfl, rfl, H.none (by repeat' first | exact kNil | apply kCons | apply kApp | assumption | exact OwnS.keys (by assumption))⟩
  · refine W_seq ?_
    refine W_region_l ?_
    refine WL_step rfl (R_eq rfl rfl) ?_
    refine WL_stepM rfl (R_as) ?_
    refine WL_nil ?_
    refine W_if rfl (fun h165 => ?_) (fun h165 => ?_)
    · refine W_region_l ?_
      refine WL_stepM rfl (R_mv) ?_
      refine WL_step rfl (R_add (r := ((2 + B : Nat) : Int)) rfl rfl (by rw [w_i64 (by omega)]; omega)) ?_
      refine WL_step rfl (R_fieldAddr (off' := 1) Try.underlying67 rfl Try.sizeOf3 (by decide) rfl rfl) ?_
      (refine WL_effu rfl (E_store (v := (.int _ _)) H Try.sizeOf3 rfl rfl rfl (.there (.there .here)) (by simp)) ?_; clear H; intro w170 H)
      refine WL_stepM rfl (R_as) ?_
      refine WL_nil ?_
      refine W_seq ?_
      ((have _g : W = 1 := (by omega); subst _g; replace H : Hp w [(c5, blk [sl bb 0 492 bc] 22), (c6, blk (Slot.piC (wp 1 B)) 67), (c7, blk (Slot.piC (wq 1 B)) 67), (c8, blk (File.flC (wf 1 B) ++ File.flC (wh 1)) 70), (c9, blk (Ring.piC (wr 1 B)) 73), (bb, blk (Y1.map U ++ bsp) 5)] _ := H)) <;> refine W_region_l ?_
      refine WL_stepM rfl (R_mv) ?_
      (refine WL_call rfl (R_call rfl Try.call31 rfl) (put_ret (p := wp 1 B) (q := wq 1 B) (f := wf 1 B) (h := wh 1) (r := wr 1 B) (X := Y1) okp okq okf okh okr hY1l hbc H) ?_; clear H; rintro _ w176 H; rw [show putAll Y1 (wp 1 B) (wq 1 B) (wf 1 B) (wh 1) (wr 1 B) = Y2 from by rw [← hY1]; exact hY2] at H; replace hwt : _ = wt := hwt; subst hwt)
      refine WL_nil ?_
      refine W_seq ?_
      refine W_region_l ?_
      refine WL_step rfl (R_load Try.isAgg22 rfl (H.get .here) rfl) ?_
      (refine WL_call rfl (R_call rfl Try.call36 rfl) (faults_ret (xs := Y2) (rd_row (H.get (.there (.there (.there (.there (.there .here)))))) hY2l (by omega))) ?_; rintro _ w181 ⟨M3, hO3, H1⟩; rw [hf2, if_neg (by decide)] at hO3; have h181 := H.seqO hO3 H1; clear H H1 hO3; obtain ⟨hO3, H⟩ := h181; obtain ⟨b3, q3, sp3, rfl, hb3, rfl, hs3, hc3⟩ := OwnS.pos hO3 (by simp))
      refine WL_stepM rfl (R_as) ?_
      refine WL_nil ?_
      refine W_seq ?_
      refine W_region_l ?_
      refine WL_stepM rfl (R_mv) ?_
      refine WL_step rfl (R_eq_S_f rfl rfl (by decide)) ?_
      refine WL_stepM rfl (R_mv) ?_
      refine WL_step rfl (R_len_slice (len := 1) Try.underlying78 rfl) ?_
      refine WL_step rfl (R_eq_f rfl rfl (by omega)) ?_
      refine WL_step rfl (R_eq_bool_t Try.underlying4 rfl rfl (by decide)) ?_
      refine WL_stepM rfl (R_mv) ?_
      refine WL_guard_t rfl rfl ?_
      refine WL_stepM rfl (R_mv) ?_
      refine WL_guard_t rfl rfl ?_
      refine WL_step rfl (R_eq_S_f rfl rfl (by decide)) ?_
      refine WL_guard_t rfl rfl ?_
      refine WL_stepM rfl (R_mv) ?_
      refine WL_guard_t rfl rfl ?_
      refine WL_stepM rfl (R_mv) ?_
      refine WL_guard_t rfl rfl ?_
      refine WL_step rfl (R_len_slice (len := 1) Try.underlying78 rfl) ?_
      refine WL_guard_t rfl rfl ?_
      refine WL_step rfl (R_eq_t rfl rfl (by omega)) ?_
      refine WL_guard_t rfl rfl ?_
      refine WL_stepM rfl (R_mv) ?_
      refine WL_guard_t rfl rfl ?_
      refine WL_stepM rfl (R_mv) ?_
      refine WL_guard_t rfl rfl ?_
      refine WL_step rfl (R_indexAddr (off' := 0) Try.underlying78 Try.sizeOf9 rfl rfl (by decide) (by simp) (by decide)) ?_
      refine WL_guard_t rfl rfl ?_
      refine WL_step rfl (R_load Try.isAgg9 rfl (H.get .here) rfl) ?_
      refine WL_guard_t rfl rfl ?_
      refine WL_stepM rfl (R_mv) ?_
      refine WL_guard_t rfl rfl ?_
      refine WL_step rfl (R_eq_S_t rfl rfl rfl) ?_
      refine WL_guard_t rfl rfl ?_
      refine WL_stepM rfl (R_pk_t rfl) ?_
      refine WL_guard_t rfl rfl ?_
      refine WL_stepM rfl (R_pk_f rfl) ?_
      refine WL_stepM rfl (R_pk_t rfl) ?_
      refine WL_stepM rfl (R_mv) ?_
      refine WL_guard_t rfl rfl ?_
      (refine WL_call rfl (R_call rfl Try.call37 rfl) (awake_ret _) ?_; rintro _ w224 ⟨rfl, H1⟩; replace H := H.seq0 H1; clear H1)
      refine WL_stepM rfl (R_pk_t rfl) ?_
      refine WL_stepM rfl (R_as) ?_
      refine WL_nil ?_
      refine W_ret ?_
      exact ⟨_, rfl, rfl, H.none (by repeat' first | exact kNil | apply kCons | apply kApp | assumption | exact OwnS.keys (by assumption))⟩
    · refine W_seq ?_
      refine W_region_l ?_
      refine WL_step rfl (R_eq rfl rfl) ?_
      refine WL_stepM rfl (R_as) ?_
      refine WL_nil ?_
      refine W_if rfl (fun h235 => ?_) (fun h235 => ?_)
      · refine W_region_l ?_
        refine WL_stepM rfl (R_mv) ?_
        refine WL_step rfl (R_add (r := ((8 + B : Nat) : Int)) rfl rfl (by rw [w_i64 (by omega)]; omega)) ?_
        refine WL_step rfl (R_fieldAddr (off' := 8) Try.underlying67 rfl Try.sizeOf65 (by decide) rfl rfl) ?_
        refine WL_step rfl (R_indexAddrA (off' := 9) Try.underlying65 Try.sizeOf3 rfl rfl (by omega) (by omega) rfl) ?_
        (refine WL_effu rfl (E_store (v := (.int _ _)) H Try.sizeOf3 rfl rfl rfl (.there (.there .here)) (by simp)) ?_; clear H; intro w241 H)
        refine WL_stepM rfl (R_as) ?_
        refine WL_nil ?_
        refine W_seq ?_
        ((have _g : W = 2 := (by omega); subst _g; replace H : Hp w [(c5, blk [sl bb 0 492 bc] 22), (c6, blk (Slot.piC (wp 2 B)) 67), (c7, blk (Slot.piC (wq 2 B)) 67), (c8, blk (File.flC (wf 2 B) ++ File.flC (wh 2)) 70), (c9, blk (Ring.piC (wr 2 B)) 73), (bb, blk (Y1.map U ++ bsp) 5)] _ := H)) <;> refine W_region_l ?_
        refine WL_stepM rfl (R_mv) ?_
        (refine WL_call rfl (R_call rfl Try.call31 rfl) (put_ret (p := wp 2 B) (q := wq 2 B) (f := wf 2 B) (h := wh 2) (r := wr 2 B) (X := Y1) okp okq okf okh okr hY1l hbc H) ?_; clear H; rintro _ w247 H; rw [show putAll Y1 (wp 2 B) (wq 2 B) (wf 2 B) (wh 2) (wr 2 B) = Y2 from by rw [← hY1]; exact hY2] at H; replace hwt : _ = wt := hwt; subst hwt)
        refine WL_nil ?_
        refine W_seq ?_
        refine W_region_l ?_
        refine WL_step rfl (R_load Try.isAgg22 rfl (H.get .here) rfl) ?_
        (refine WL_call rfl (R_call rfl Try.call36 rfl) (faults_ret (xs := Y2) (rd_row (H.get (.there (.there (.there (.there (.there .here)))))) hY2l (by omega))) ?_; rintro _ w252 ⟨M3, hO3, H1⟩; rw [hf2, if_neg (by decide)] at hO3; have h252 := H.seqO hO3 H1; clear H H1 hO3; obtain ⟨hO3, H⟩ := h252; obtain ⟨b3, q3, sp3, rfl, hb3, rfl, hs3, hc3⟩ := OwnS.pos hO3 (by simp))
        refine WL_stepM rfl (R_as) ?_
        refine WL_nil ?_
        refine W_seq ?_
        refine W_region_l ?_
        refine WL_stepM rfl (R_mv) ?_
        refine WL_step rfl (R_eq_S_f rfl rfl (by decide)) ?_
        refine WL_stepM rfl (R_mv) ?_
        refine WL_step rfl (R_len_slice (len := 1) Try.underlying78 rfl) ?_
        refine WL_step rfl (R_eq_f rfl rfl (by omega)) ?_
        refine WL_step rfl (R_eq_bool_t Try.underlying4 rfl rfl (by decide)) ?_
        refine WL_stepM rfl (R_mv) ?_
        refine WL_guard_t rfl rfl ?_
        refine WL_stepM rfl (R_mv) ?_
        refine WL_guard_t rfl rfl ?_
        refine WL_step rfl (R_eq_S_f rfl rfl (by decide)) ?_
        refine WL_guard_t rfl rfl ?_
        refine WL_stepM rfl (R_mv) ?_
        refine WL_guard_t rfl rfl ?_
        refine WL_stepM rfl (R_mv) ?_
        refine WL_guard_t rfl rfl ?_
        refine WL_step rfl (R_len_slice (len := 1) Try.underlying78 rfl) ?_
        refine WL_guard_t rfl rfl ?_
        refine WL_step rfl (R_eq_t rfl rfl (by omega)) ?_
        refine WL_guard_t rfl rfl ?_
        refine WL_stepM rfl (R_mv) ?_
        refine WL_guard_t rfl rfl ?_
        refine WL_stepM rfl (R_mv) ?_
        refine WL_guard_t rfl rfl ?_
        refine WL_step rfl (R_indexAddr (off' := 0) Try.underlying78 Try.sizeOf9 rfl rfl (by decide) (by simp) (by decide)) ?_
        refine WL_guard_t rfl rfl ?_
        refine WL_step rfl (R_load Try.isAgg9 rfl (H.get .here) rfl) ?_
        refine WL_guard_t rfl rfl ?_
        refine WL_stepM rfl (R_mv) ?_
        refine WL_guard_t rfl rfl ?_
        refine WL_step rfl (R_eq_S_t rfl rfl rfl) ?_
        refine WL_guard_t rfl rfl ?_
        refine WL_stepM rfl (R_pk_t rfl) ?_
        refine WL_guard_t rfl rfl ?_
        refine WL_stepM rfl (R_pk_f rfl) ?_
        refine WL_stepM rfl (R_pk_t rfl) ?_
        refine WL_stepM rfl (R_mv) ?_
        refine WL_guard_t rfl rfl ?_
        (refine WL_call rfl (R_call rfl Try.call37 rfl) (awake_ret _) ?_; rintro _ w295 ⟨rfl, H1⟩; replace H := H.seq0 H1; clear H1)
        refine WL_stepM rfl (R_pk_t rfl) ?_
        refine WL_stepM rfl (R_as) ?_
        refine WL_nil ?_
        refine W_ret ?_
        exact ⟨_, rfl, rfl, H.none (by repeat' first | exact kNil | apply kCons | apply kApp | assumption | exact OwnS.keys (by assumption))⟩
      · refine W_seq ?_
        refine W_region_l ?_
        refine WL_step rfl (R_eq rfl rfl) ?_
        refine WL_stepM rfl (R_as) ?_
        refine WL_nil ?_
        refine W_if rfl (fun h306 => ?_) (fun h306 => ?_)
        · refine W_region_l ?_
          refine WL_stepM rfl (R_mv) ?_
          refine WL_step rfl (R_add (r := ((2 + B : Nat) : Int)) rfl rfl (by rw [w_i64 (by omega)]; omega)) ?_
          refine WL_step rfl (R_indexAddrA (off' := 0) Try.underlying70 Try.sizeOf69 rfl rfl (by omega) (by omega) rfl) ?_
          refine WL_step rfl (R_fieldAddr (off' := 2) Try.underlying69 rfl Try.sizeOf3 (by decide) rfl rfl) ?_
          (refine WL_effu rfl (E_store (v := (.int _ _)) H Try.sizeOf3 rfl rfl rfl (.there (.there (.there .here))) (by simp)) ?_; clear H; intro w312 H)
          refine WL_stepM rfl (R_as) ?_
          refine WL_nil ?_
          refine W_seq ?_
          ((have _g : W = 3 := (by omega); subst _g; replace H : Hp w [(c5, blk [sl bb 0 492 bc] 22), (c6, blk (Slot.piC (wp 3 B)) 67), (c7, blk (Slot.piC (wq 3 B)) 67), (c8, blk (File.flC (wf 3 B) ++ File.flC (wh 3)) 70), (c9, blk (Ring.piC (wr 3 B)) 73), (bb, blk (Y1.map U ++ bsp) 5)] _ := H)) <;> refine W_region_l ?_
          refine WL_stepM rfl (R_mv) ?_
          (refine WL_call rfl (R_call rfl Try.call31 rfl) (put_ret (p := wp 3 B) (q := wq 3 B) (f := wf 3 B) (h := wh 3) (r := wr 3 B) (X := Y1) okp okq okf okh okr hY1l hbc H) ?_; clear H; rintro _ w318 H; rw [show putAll Y1 (wp 3 B) (wq 3 B) (wf 3 B) (wh 3) (wr 3 B) = Y2 from by rw [← hY1]; exact hY2] at H; replace hwt : _ = wt := hwt; subst hwt)
          refine WL_nil ?_
          refine W_seq ?_
          refine W_region_l ?_
          refine WL_step rfl (R_load Try.isAgg22 rfl (H.get .here) rfl) ?_
          (refine WL_call rfl (R_call rfl Try.call36 rfl) (faults_ret (xs := Y2) (rd_row (H.get (.there (.there (.there (.there (.there .here)))))) hY2l (by omega))) ?_; rintro _ w323 ⟨M3, hO3, H1⟩; rw [hf2, if_neg (by decide)] at hO3; have h323 := H.seqO hO3 H1; clear H H1 hO3; obtain ⟨hO3, H⟩ := h323; obtain ⟨b3, q3, sp3, rfl, hb3, rfl, hs3, hc3⟩ := OwnS.pos hO3 (by simp))
          refine WL_stepM rfl (R_as) ?_
          refine WL_nil ?_
          refine W_seq ?_
          refine W_region_l ?_
          refine WL_stepM rfl (R_mv) ?_
          refine WL_step rfl (R_eq_S_f rfl rfl (by decide)) ?_
          refine WL_stepM rfl (R_mv) ?_
          refine WL_step rfl (R_len_slice (len := 1) Try.underlying78 rfl) ?_
          refine WL_step rfl (R_eq_f rfl rfl (by omega)) ?_
          refine WL_step rfl (R_eq_bool_t Try.underlying4 rfl rfl (by decide)) ?_
          refine WL_stepM rfl (R_mv) ?_
          refine WL_guard_t rfl rfl ?_
          refine WL_stepM rfl (R_mv) ?_
          refine WL_guard_t rfl rfl ?_
          refine WL_step rfl (R_eq_S_f rfl rfl (by decide)) ?_
          refine WL_guard_t rfl rfl ?_
          refine WL_stepM rfl (R_mv) ?_
          refine WL_guard_t rfl rfl ?_
          refine WL_stepM rfl (R_mv) ?_
          refine WL_guard_t rfl rfl ?_
          refine WL_step rfl (R_len_slice (len := 1) Try.underlying78 rfl) ?_
          refine WL_guard_t rfl rfl ?_
          refine WL_step rfl (R_eq_t rfl rfl (by omega)) ?_
          refine WL_guard_t rfl rfl ?_
          refine WL_stepM rfl (R_mv) ?_
          refine WL_guard_t rfl rfl ?_
          refine WL_stepM rfl (R_mv) ?_
          refine WL_guard_t rfl rfl ?_
          refine WL_step rfl (R_indexAddr (off' := 0) Try.underlying78 Try.sizeOf9 rfl rfl (by decide) (by simp) (by decide)) ?_
          refine WL_guard_t rfl rfl ?_
          refine WL_step rfl (R_load Try.isAgg9 rfl (H.get .here) rfl) ?_
          refine WL_guard_t rfl rfl ?_
          refine WL_stepM rfl (R_mv) ?_
          refine WL_guard_t rfl rfl ?_
          refine WL_step rfl (R_eq_S_t rfl rfl rfl) ?_
          refine WL_guard_t rfl rfl ?_
          refine WL_stepM rfl (R_pk_t rfl) ?_
          refine WL_guard_t rfl rfl ?_
          refine WL_stepM rfl (R_pk_f rfl) ?_
          refine WL_stepM rfl (R_pk_t rfl) ?_
          refine WL_stepM rfl (R_mv) ?_
          refine WL_guard_t rfl rfl ?_
          (refine WL_call rfl (R_call rfl Try.call37 rfl) (awake_ret _) ?_; rintro _ w366 ⟨rfl, H1⟩; replace H := H.seq0 H1; clear H1)
          refine WL_stepM rfl (R_pk_t rfl) ?_
          refine WL_stepM rfl (R_as) ?_
          refine WL_nil ?_
          refine W_ret ?_
          exact ⟨_, rfl, rfl, H.none (by repeat' first | exact kNil | apply kCons | apply kApp | assumption | exact OwnS.keys (by assumption))⟩
        · refine W_seq ?_
          refine W_region_l ?_
          refine WL_step rfl (R_eq rfl rfl) ?_
          refine WL_stepM rfl (R_as) ?_
          refine WL_nil ?_
          refine W_if rfl (fun h377 => ?_) (fun h377 => ?_)
          · refine W_region_l ?_
            refine WL_step rfl (R_indexAddrA (off' := 4) Try.underlying70 Try.sizeOf69 rfl rfl (by omega) (by omega) rfl) ?_
            refine WL_step rfl (R_fieldAddr (off' := 7) Try.underlying69 rfl Try.sizeOf3 (by decide) rfl rfl) ?_
            (refine WL_effu rfl (E_store (v := (.int _ _)) H Try.sizeOf3 rfl rfl rfl (.there (.there (.there .here))) (by simp)) ?_; clear H; intro w381 H)
            refine WL_nil ?_
            refine W_seq ?_
            ((have _g : W = 4 := (by omega); subst _g; replace H : Hp w [(c5, blk [sl bb 0 492 bc] 22), (c6, blk (Slot.piC (wp 4 B)) 67), (c7, blk (Slot.piC (wq 4 B)) 67), (c8, blk (File.flC (wf 4 B) ++ File.flC (wh 4)) 70), (c9, blk (Ring.piC (wr 4 B)) 73), (bb, blk (Y1.map U ++ bsp) 5)] _ := H)) <;> refine W_region_l ?_
            refine WL_stepM rfl (R_mv) ?_
            (refine WL_call rfl (R_call rfl Try.call31 rfl) (put_ret (p := wp 4 B) (q := wq 4 B) (f := wf 4 B) (h := wh 4) (r := wr 4 B) (X := Y1) okp okq okf okh okr hY1l hbc H) ?_; clear H; rintro _ w386 H; rw [show putAll Y1 (wp 4 B) (wq 4 B) (wf 4 B) (wh 4) (wr 4 B) = Y2 from by rw [← hY1]; exact hY2] at H; replace hwt : _ = wt := hwt; subst hwt)
            refine WL_nil ?_
            refine W_seq ?_
            refine W_region_l ?_
            refine WL_step rfl (R_load Try.isAgg22 rfl (H.get .here) rfl) ?_
            (refine WL_call rfl (R_call rfl Try.call36 rfl) (faults_ret (xs := Y2) (rd_row (H.get (.there (.there (.there (.there (.there .here)))))) hY2l (by omega))) ?_; rintro _ w391 ⟨M3, hO3, H1⟩; rw [hf2, if_pos (by decide), show ([] : List (List UInt8)).length = 0 from rfl] at hO3; have h391 := H.seqO hO3 H1; clear H H1 hO3; obtain ⟨hO3, H⟩ := h391; obtain ⟨a3, q3, rfl⟩ := hO3.form)
            refine WL_stepM rfl (R_as) ?_
            refine WL_nil ?_
            refine W_seq ?_
            refine W_region_l ?_
            refine WL_stepM rfl (R_mv) ?_
            refine WL_step rfl (R_eq_S_t rfl rfl rfl) ?_
            refine WL_stepM rfl (R_mv) ?_
            refine WL_step rfl (R_len_slice Try.underlying78 rfl) ?_
            refine WL_step rfl (R_eq_t rfl rfl (by omega)) ?_
            refine WL_step rfl (R_eq_bool_t Try.underlying4 rfl rfl (by decide)) ?_
            refine WL_stepM rfl (R_mv) ?_
            refine WL_guard_t rfl rfl ?_
            refine WL_stepM rfl (R_mv) ?_
            refine WL_guard_t rfl rfl ?_
            refine WL_step rfl (R_eq_S_t rfl rfl rfl) ?_
            refine WL_guard_t rfl rfl ?_
            refine WL_stepM rfl (R_mv) ?_
            refine WL_guard_f rfl rfl (by decide) ?_
            refine WL_guard_f rfl rfl (by decide) ?_
            refine WL_guard_f rfl rfl (by decide) ?_
            refine WL_guard_f rfl rfl (by decide) ?_
            refine WL_guard_n rfl rfl ?_
            refine WL_guard_n rfl rfl ?_
            refine WL_guard_n rfl rfl ?_
            refine WL_guard_n rfl rfl ?_
            refine WL_guard_n rfl rfl ?_
            refine WL_guard_f rfl rfl (by decide) ?_
            refine WL_guard_t rfl rfl ?_
            refine WL_stepM rfl (R_pk_t rfl) ?_
            refine WL_stepM rfl (R_pk_t rfl) ?_
            refine WL_stepM rfl (R_mv) ?_
            refine WL_guard_t rfl rfl ?_
            (refine WL_call rfl (R_call rfl Try.call37 rfl) (awake_ret _) ?_; rintro _ w424 ⟨rfl, H1⟩; replace H := H.seq0 H1; clear H1)
            refine WL_stepM rfl (R_pk_t rfl) ?_
            refine WL_stepM rfl (R_as) ?_
            refine WL_nil ?_
            refine W_ret ?_
            exact ⟨_, rfl, rfl, H.none (by repeat' first | exact kNil | apply kCons | apply kApp | assumption | exact OwnS.keys (by assumption))⟩
          · refine W_seq ?_
            refine W_region_l ?_
            refine WL_step rfl (R_eq rfl rfl) ?_
            refine WL_stepM rfl (R_as) ?_
            refine WL_nil ?_
            refine W_if rfl (fun h435 => ?_) (fun h435 => ?_)
            · refine W_region_l ?_
              refine WL_stepM rfl (R_mv) ?_
              refine WL_step rfl (R_add (r := ((1 + B : Nat) : Int)) rfl rfl (by rw [w_i64 (by omega)]; omega)) ?_
              refine WL_step rfl (R_fieldAddr (off' := 2) Try.underlying73 rfl Try.sizeOf3 (by decide) rfl rfl) ?_
              (refine WL_effu rfl (E_store (v := (.int _ _)) H Try.sizeOf3 rfl rfl rfl (.there (.there (.there (.there .here)))) (by simp)) ?_; clear H; intro w440 H)
              refine WL_stepM rfl (R_as) ?_
              refine WL_nil ?_
              refine W_seq ?_
              ((have _g : W = 5 := (by omega); subst _g; replace H : Hp w [(c5, blk [sl bb 0 492 bc] 22), (c6, blk (Slot.piC (wp 5 B)) 67), (c7, blk (Slot.piC (wq 5 B)) 67), (c8, blk (File.flC (wf 5 B) ++ File.flC (wh 5)) 70), (c9, blk (Ring.piC (wr 5 B)) 73), (bb, blk (Y1.map U ++ bsp) 5)] _ := H)) <;> refine W_region_l ?_
              refine WL_stepM rfl (R_mv) ?_
              (refine WL_call rfl (R_call rfl Try.call31 rfl) (put_ret (p := wp 5 B) (q := wq 5 B) (f := wf 5 B) (h := wh 5) (r := wr 5 B) (X := Y1) okp okq okf okh okr hY1l hbc H) ?_; clear H; rintro _ w446 H; rw [show putAll Y1 (wp 5 B) (wq 5 B) (wf 5 B) (wh 5) (wr 5 B) = Y2 from by rw [← hY1]; exact hY2] at H; replace hwt : _ = wt := hwt; subst hwt)
              refine WL_nil ?_
              refine W_seq ?_
              refine W_region_l ?_
              refine WL_step rfl (R_load Try.isAgg22 rfl (H.get .here) rfl) ?_
              (refine WL_call rfl (R_call rfl Try.call36 rfl) (faults_ret (xs := Y2) (rd_row (H.get (.there (.there (.there (.there (.there .here)))))) hY2l (by omega))) ?_; rintro _ w451 ⟨M3, hO3, H1⟩; rw [hf2, if_neg (by decide)] at hO3; have h451 := H.seqO hO3 H1; clear H H1 hO3; obtain ⟨hO3, H⟩ := h451; obtain ⟨b3, q3, sp3, rfl, hb3, rfl, hs3, hc3⟩ := OwnS.pos hO3 (by simp))
              refine WL_stepM rfl (R_as) ?_
              refine WL_nil ?_
              refine W_seq ?_
              refine W_region_l ?_
              refine WL_stepM rfl (R_mv) ?_
              refine WL_step rfl (R_eq_S_f rfl rfl (by decide)) ?_
              refine WL_stepM rfl (R_mv) ?_
              refine WL_step rfl (R_len_slice (len := 1) Try.underlying78 rfl) ?_
              refine WL_step rfl (R_eq_f rfl rfl (by omega)) ?_
              refine WL_step rfl (R_eq_bool_t Try.underlying4 rfl rfl (by decide)) ?_
              refine WL_stepM rfl (R_mv) ?_
              refine WL_guard_t rfl rfl ?_
              refine WL_stepM rfl (R_mv) ?_
              refine WL_guard_t rfl rfl ?_
              refine WL_step rfl (R_eq_S_f rfl rfl (by decide)) ?_
              refine WL_guard_t rfl rfl ?_
              refine WL_stepM rfl (R_mv) ?_
              refine WL_guard_t rfl rfl ?_
              refine WL_stepM rfl (R_mv) ?_
              refine WL_guard_t rfl rfl ?_
              refine WL_step rfl (R_len_slice (len := 1) Try.underlying78 rfl) ?_
              refine WL_guard_t rfl rfl ?_
              refine WL_step rfl (R_eq_t rfl rfl (by omega)) ?_
              refine WL_guard_t rfl rfl ?_
              refine WL_stepM rfl (R_mv) ?_
              refine WL_guard_t rfl rfl ?_
              refine WL_stepM rfl (R_mv) ?_
              refine WL_guard_t rfl rfl ?_
              refine WL_step rfl (R_indexAddr (off' := 0) Try.underlying78 Try.sizeOf9 rfl rfl (by decide) (by simp) (by decide)) ?_
              refine WL_guard_t rfl rfl ?_
              refine WL_step rfl (R_load Try.isAgg9 rfl (H.get .here) rfl) ?_
              refine WL_guard_t rfl rfl ?_
              refine WL_stepM rfl (R_mv) ?_
              refine WL_guard_t rfl rfl ?_
              refine WL_step rfl (R_eq_S_t rfl rfl rfl) ?_
              refine WL_guard_t rfl rfl ?_
              refine WL_stepM rfl (R_pk_t rfl) ?_
              refine WL_guard_t rfl rfl ?_
              refine WL_stepM rfl (R_pk_f rfl) ?_
              refine WL_stepM rfl (R_pk_t rfl) ?_
              refine WL_stepM rfl (R_mv) ?_
              refine WL_guard_t rfl rfl ?_
              (refine WL_call rfl (R_call rfl Try.call37 rfl) (awake_ret _) ?_; rintro _ w494 ⟨rfl, H1⟩; replace H := H.seq0 H1; clear H1)
              refine WL_stepM rfl (R_pk_t rfl) ?_
              refine WL_stepM rfl (R_as) ?_
              refine WL_nil ?_
              refine W_ret ?_
              exact ⟨_, rfl, rfl, H.none (by repeat' first | exact kNil | apply kCons | apply kApp | assumption | exact OwnS.keys (by assumption))⟩
            · refine W_seq ?_
              refine W_region_l ?_
              refine WL_step rfl (R_eq rfl rfl) ?_
              refine WL_stepM rfl (R_as) ?_
              refine WL_nil ?_
              refine W_if rfl (fun h505 => ?_) (fun h505 => ?_)
              · refine W_region_l ?_
                refine WL_step rfl (R_fieldAddr (off' := 3) Try.underlying73 rfl Try.sizeOf3 (by decide) rfl rfl) ?_
                (refine WL_effu rfl (E_store (v := (.int _ _)) H Try.sizeOf3 rfl rfl rfl (.there (.there (.there (.there .here)))) (by simp)) ?_; clear H; intro w508 H)
                refine WL_stepM rfl (R_as) ?_
                refine WL_nil ?_
                refine W_seq ?_
                ((have _g : W = 6 := (by omega); subst _g; replace H : Hp w [(c5, blk [sl bb 0 492 bc] 22), (c6, blk (Slot.piC (wp 6 B)) 67), (c7, blk (Slot.piC (wq 6 B)) 67), (c8, blk (File.flC (wf 6 B) ++ File.flC (wh 6)) 70), (c9, blk (Ring.piC (wr 6 B)) 73), (bb, blk (Y1.map U ++ bsp) 5)] _ := H)) <;> refine W_region_l ?_
                refine WL_stepM rfl (R_mv) ?_
                (refine WL_call rfl (R_call rfl Try.call31 rfl) (put_ret (p := wp 6 B) (q := wq 6 B) (f := wf 6 B) (h := wh 6) (r := wr 6 B) (X := Y1) okp okq okf okh okr hY1l hbc H) ?_; clear H; rintro _ w514 H; rw [show putAll Y1 (wp 6 B) (wq 6 B) (wf 6 B) (wh 6) (wr 6 B) = Y2 from by rw [← hY1]; exact hY2] at H; replace hwt : _ = wt := hwt; subst hwt)
                refine WL_nil ?_
                refine W_seq ?_
                refine W_region_l ?_
                refine WL_step rfl (R_load Try.isAgg22 rfl (H.get .here) rfl) ?_
                (refine WL_call rfl (R_call rfl Try.call36 rfl) (faults_ret (xs := Y2) (rd_row (H.get (.there (.there (.there (.there (.there .here)))))) hY2l (by omega))) ?_; rintro _ w519 ⟨M3, hO3, H1⟩; rw [hf2, if_neg (by decide)] at hO3; have h519 := H.seqO hO3 H1; clear H H1 hO3; obtain ⟨hO3, H⟩ := h519; obtain ⟨b3, q3, sp3, rfl, hb3, rfl, hs3, hc3⟩ := OwnS.pos hO3 (by simp))
                refine WL_stepM rfl (R_as) ?_
                refine WL_nil ?_
                refine W_seq ?_
                refine W_region_l ?_
                refine WL_stepM rfl (R_mv) ?_
                refine WL_step rfl (R_eq_S_f rfl rfl (by decide)) ?_
                refine WL_stepM rfl (R_mv) ?_
                refine WL_step rfl (R_len_slice (len := 1) Try.underlying78 rfl) ?_
                refine WL_step rfl (R_eq_f rfl rfl (by omega)) ?_
                refine WL_step rfl (R_eq_bool_t Try.underlying4 rfl rfl (by decide)) ?_
                refine WL_stepM rfl (R_mv) ?_
                refine WL_guard_t rfl rfl ?_
                refine WL_stepM rfl (R_mv) ?_
                refine WL_guard_t rfl rfl ?_
                refine WL_step rfl (R_eq_S_f rfl rfl (by decide)) ?_
                refine WL_guard_t rfl rfl ?_
                refine WL_stepM rfl (R_mv) ?_
                refine WL_guard_t rfl rfl ?_
                refine WL_stepM rfl (R_mv) ?_
                refine WL_guard_t rfl rfl ?_
                refine WL_step rfl (R_len_slice (len := 1) Try.underlying78 rfl) ?_
                refine WL_guard_t rfl rfl ?_
                refine WL_step rfl (R_eq_t rfl rfl (by omega)) ?_
                refine WL_guard_t rfl rfl ?_
                refine WL_stepM rfl (R_mv) ?_
                refine WL_guard_t rfl rfl ?_
                refine WL_stepM rfl (R_mv) ?_
                refine WL_guard_t rfl rfl ?_
                refine WL_step rfl (R_indexAddr (off' := 0) Try.underlying78 Try.sizeOf9 rfl rfl (by decide) (by simp) (by decide)) ?_
                refine WL_guard_t rfl rfl ?_
                refine WL_step rfl (R_load Try.isAgg9 rfl (H.get .here) rfl) ?_
                refine WL_guard_t rfl rfl ?_
                refine WL_stepM rfl (R_mv) ?_
                refine WL_guard_t rfl rfl ?_
                refine WL_step rfl (R_eq_S_t rfl rfl rfl) ?_
                refine WL_guard_t rfl rfl ?_
                refine WL_stepM rfl (R_pk_t rfl) ?_
                refine WL_guard_t rfl rfl ?_
                refine WL_stepM rfl (R_pk_f rfl) ?_
                refine WL_stepM rfl (R_pk_t rfl) ?_
                refine WL_stepM rfl (R_mv) ?_
                refine WL_guard_t rfl rfl ?_
                (refine WL_call rfl (R_call rfl Try.call37 rfl) (awake_ret _) ?_; rintro _ w562 ⟨rfl, H1⟩; replace H := H.seq0 H1; clear H1)
                refine WL_stepM rfl (R_pk_t rfl) ?_
                refine WL_stepM rfl (R_as) ?_
                refine WL_nil ?_
                refine W_ret ?_
                exact ⟨_, rfl, rfl, H.none (by repeat' first | exact kNil | apply kCons | apply kApp | assumption | exact OwnS.keys (by assumption))⟩
              · refine W_region_l ?_
                refine WL_stepM rfl (R_mv) ?_
                refine WL_step rfl (R_fieldAddr (off' := 2) Try.underlying67 rfl Try.sizeOf3 (by decide) rfl rfl) ?_
                (refine WL_effu rfl (E_store (v := (.int _ _)) H Try.sizeOf3 rfl rfl rfl (.there .here) (by simp)) ?_; clear H; intro w571 H)
                refine WL_nil ?_
                refine W_seq ?_
                ((have _g : W = 7 := (by omega); subst _g; replace H : Hp w [(c5, blk [sl bb 0 492 bc] 22), (c6, blk (Slot.piC (wp 7 B)) 67), (c7, blk (Slot.piC (wq 7 B)) 67), (c8, blk (File.flC (wf 7 B) ++ File.flC (wh 7)) 70), (c9, blk (Ring.piC (wr 7 B)) 73), (bb, blk (Y1.map U ++ bsp) 5)] _ := H)) <;> refine W_region_l ?_
                refine WL_stepM rfl (R_mv) ?_
                (refine WL_call rfl (R_call rfl Try.call31 rfl) (put_ret (p := wp 7 B) (q := wq 7 B) (f := wf 7 B) (h := wh 7) (r := wr 7 B) (X := Y1) okp okq okf okh okr hY1l hbc H) ?_; clear H; rintro _ w576 H; rw [show putAll Y1 (wp 7 B) (wq 7 B) (wf 7 B) (wh 7) (wr 7 B) = Y2 from by rw [← hY1]; exact hY2] at H; replace hwt : _ = wt := hwt; subst hwt)
                refine WL_nil ?_
                refine W_seq ?_
                refine W_region_l ?_
                refine WL_step rfl (R_load Try.isAgg22 rfl (H.get .here) rfl) ?_
                (refine WL_call rfl (R_call rfl Try.call36 rfl) (faults_ret (xs := Y2) (rd_row (H.get (.there (.there (.there (.there (.there .here)))))) hY2l (by omega))) ?_; rintro _ w581 ⟨M3, hO3, H1⟩; rw [hf2, if_pos (by decide), show ([] : List (List UInt8)).length = 0 from rfl] at hO3; have h581 := H.seqO hO3 H1; clear H H1 hO3; obtain ⟨hO3, H⟩ := h581; obtain ⟨a3, q3, rfl⟩ := hO3.form)
                refine WL_stepM rfl (R_as) ?_
                refine WL_nil ?_
                refine W_seq ?_
                refine W_region_l ?_
                refine WL_stepM rfl (R_mv) ?_
                refine WL_step rfl (R_eq_S_t rfl rfl rfl) ?_
                refine WL_stepM rfl (R_mv) ?_
                refine WL_step rfl (R_len_slice Try.underlying78 rfl) ?_
                refine WL_step rfl (R_eq_t rfl rfl (by omega)) ?_
                refine WL_step rfl (R_eq_bool_t Try.underlying4 rfl rfl (by decide)) ?_
                refine WL_stepM rfl (R_mv) ?_
                refine WL_guard_t rfl rfl ?_
                refine WL_stepM rfl (R_mv) ?_
                refine WL_guard_t rfl rfl ?_
                refine WL_step rfl (R_eq_S_t rfl rfl rfl) ?_
                refine WL_guard_t rfl rfl ?_
                refine WL_stepM rfl (R_mv) ?_
                refine WL_guard_f rfl rfl (by decide) ?_
                refine WL_guard_f rfl rfl (by decide) ?_
                refine WL_guard_f rfl rfl (by decide) ?_
                refine WL_guard_f rfl rfl (by decide) ?_
                refine WL_guard_n rfl rfl ?_
                refine WL_guard_n rfl rfl ?_
                refine WL_guard_n rfl rfl ?_
                refine WL_guard_n rfl rfl ?_
                refine WL_guard_n rfl rfl ?_
                refine WL_guard_f rfl rfl (by decide) ?_
                refine WL_guard_t rfl rfl ?_
                refine WL_stepM rfl (R_pk_t rfl) ?_
                refine WL_stepM rfl (R_pk_t rfl) ?_
                refine WL_stepM rfl (R_mv) ?_
                refine WL_guard_t rfl rfl ?_
                (refine WL_call rfl (R_call rfl Try.call37 rfl) (awake_ret _) ?_; rintro _ w614 ⟨rfl, H1⟩; replace H := H.seq0 H1; clear H1)
                refine WL_stepM rfl (R_pk_t rfl) ?_
                refine WL_stepM rfl (R_as) ?_
                refine WL_nil ?_
                refine W_ret ?_
                exact ⟨_, rfl, rfl, H.none (by repeat' first | exact kNil | apply kCons | apply kApp | assumption | exact OwnS.keys (by assumption))⟩
end Go.Proofs.Ythonajikgljgmaa.Aud
