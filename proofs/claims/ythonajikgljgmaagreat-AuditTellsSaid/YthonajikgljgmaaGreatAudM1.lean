/-
  Records of commons are read: processes, files, pipes.
-/
import Derived.Test.YthonajikgljgmaaGreatSlotD
import Derived.Test.YthonajikgljgmaaGreatFileT
import Derived.Test.YthonajikgljgmaaGreatRingD
import Derived.Test.YthonajikgljgmaaGreatSubS
import Derived.Test.YthonajikgljgmaaGreatFxO
import Derived.Test.YthonajikgljgmaaGreatFrontA
namespace Go.Proofs.YthonajikgljgmaaGreat.Aud
open Go Go.Proofs Go.Proofs.YthonajikgljgmaaGreat.Fx
set_option maxRecDepth 100000
set_option linter.unusedVariables false
set_option linter.unusedSimpArgs false
set_option maxHeartbeats 4000000

def win (bs : List UInt8) (a n : Nat) : List UInt8 := (bs.drop a).take n
theorem win_eq (bs : List UInt8) (a n : Nat) : (bs.take (a + n)).drop a = win bs a n := by
  unfold win; rw [List.drop_take]; congr 1; omega
/-- all that are read -/
def recs {α : Type} (dec : List UInt8 → α × Int) (xs : List UInt8) (a sz n : Nat) : List (α × Int) := (List.range n).map fun i => dec (win xs (a + sz * i) sz)
theorem recs_len {α : Type} (dec : List UInt8 → α × Int) (xs : List UInt8) (a sz n : Nat) : (recs dec xs a sz n).length = n := by simp [recs]
theorem recs_succ {α : Type} (dec : List UInt8 → α × Int) (xs : List UInt8) (a sz n : Nat) : recs dec xs a sz (n + 1) = recs dec xs a sz n ++ [dec (win xs (a + sz * n) sz)] := by
  unfold recs; rw [List.range_succ, List.map_append]; rfl

theorem readP_ret {xs : List UInt8} {w : World} {l : Value} (hl : RdS w l (xs.map U)) (a n : Nat) (ha : a + 24 * n ≤ xs.length) (hx : xs.length ≤ 600) :
    Ret Tryz.prog 41 #[l, I a, I 24, I n, .func (.func 42) #[] #[]] w fun v w' => ∃ u1 u2 M1 M2, v = .agg #[u1, u2] ∧ OwnS w.heap.size 36 16 u1 n (rows Slot.piC ((recs Slot.decP xs a 24 n).map (·.1))) M1 ∧
      OwnS w.heap.size 3 1 u2 n ((recs Slot.decP xs a 24 n).map fun r => I r.2) M2 ∧ Hp w (M1 ++ M2) w' := by
  refine Ret_of_WC (args := [_, _, _, _, _]) Tryz.func41 rfl Tryz.ntmps41 Tryz.results41 (by simp) ?_
  have H := Hp.refl w
  obtain ⟨ao, ca, rfl, hca, hra⟩ := id hl
  simp only [List.length_map] at hl ⊢
  have hO1 := OwnS.nil w.heap.size 36 16
  have hO2 := OwnS.nil w.heap.size 3 1
  refine W_seq ?_
  refine W_region_l ?_
  (refine WL_effn rfl (E_alloc (vs := [nilS, nilS]) H Tryz.zeroValue80 rfl) ?_; clear H; intro c10 w3 hc10 H)
  refine WL_nil ?_
  refine W_seq ?_
  refine W_region_l ?_
  (refine WL_effn rfl (E_alloc (vs := [nilS, nilS]) H Tryz.zeroValue80 rfl) ?_; clear H; intro c11 w7 hc11 H)
  refine WL_nil ?_
  refine W_seq ?_
  refine W_seq ?_
  refine W_region_l ?_
  refine WL_stepM rfl (R_mv) ?_
  refine WL_stepM rfl (R_mv) ?_
  refine WL_nil ?_
  refine W_block ?_
  refine W_loopS [(12, 14), (16, 49)] (fun (i : Nat) E w' => ∃ (u1 u2 : Value) (M1 M2 : List (Nat × Obj)), i ≤ n ∧ E 16 = I i ∧ OwnS w.heap.size 36 16 u1 i (rows Slot.piC ((recs Slot.decP xs a 24 i).map (·.1))) M1 ∧ OwnS w.heap.size 3 1 u2 i ((recs Slot.decP xs a 24 i).map fun r => I r.2) M2 ∧ Hp w ((c11, blk [u1, u2] 80) :: (c10, blk [nilS, nilS] 80) :: (M1 ++ M2)) w') (fun i => n - i) 0 ?e0 ?r0
  · exact ⟨_, _, [], [], by omega, rfl, hO1, hO2, H⟩
  · (clear H hO1 hO2; rintro i E w1 ⟨u1, u2, M1, M2, hi, h16, hO1, hO2, H⟩; obtain ⟨b1, k1, rfl⟩ := hO1.form; obtain ⟨b2, k2, rfl⟩ := hO2.form; refine W_kn h16 ?_)
    refine W_seq ?_
    refine W_region_l ?_
    refine WL_step rfl (R_lt rfl rfl) ?_
    refine WL_nil ?_
    refine W_seq ?_
    refine W_if rfl (fun h23 => ?_) (fun h23 => ?_)
    · refine W_skip ?_
      refine W_seq ?_
      refine W_block ?_
      refine W_seq ?_
      refine W_region_l ?_
      refine WL_stepM rfl (R_mv) ?_
      refine WL_stepM rfl (R_as) ?_
      refine WL_nil ?_
      refine W_seq ?_
      refine W_region_l ?_
      refine WL_stepM rfl (R_mv) ?_
      refine WL_stepM rfl (R_mv) ?_
      refine WL_stepM rfl (R_mv) ?_
      refine WL_stepM rfl (R_mv) ?_
      refine WL_stepM rfl (R_mv) ?_
      refine WL_step rfl (R_mul (r := ((24 * i : Nat) : Int)) rfl rfl (by rw [w_i64 (by omega)]; omega)) ?_
      refine WL_step rfl (R_add (r := ((a + 24 * i : Nat) : Int)) rfl rfl (by rw [w_i64 (by omega)]; omega)) ?_
      refine WL_stepM rfl (R_mv) ?_
      refine WL_stepM rfl (R_mv) ?_
      refine WL_stepM rfl (R_mv) ?_
      refine WL_step rfl (R_add rfl rfl (w_i64 (by omega))) ?_
      refine WL_step rfl (R_mul (r := ((24 * i + 24 : Nat) : Int)) rfl rfl (by rw [w_i64 (by omega)]; omega)) ?_
      refine WL_step rfl (R_add (r := ((a + 24 * i + 24 : Nat) : Int)) rfl rfl (by rw [w_i64 (by omega)]; omega)) ?_
      refine WL_step rfl (R_subU (i := a + 24 * i) (j := a + 24 * i + 24) hl Tryz.underlying22 Tryz.sizeOf5 rfl (.some rfl) (.some rfl) (by omega) (by omega)) ?_
      (refine WL_call rfl (R_call rfl Tryz.call42 rfl) (Slot.dec_ret (xs := win xs (a + 24 * i) 24) (by have h9 := hl.subU (i := a + 24 * i) (j := a + 24 * i + 24) (by omega) (by omega); rw [win_eq] at h9; exact h9.monoN H (by repeat' first | exact kNil | apply kCons | apply kApp | assumption | exact OwnS.keys (by assumption))) (by unfold win; rw [List.length_take]; omega)) ?_; rintro _ w48 ⟨rfl, H1⟩; replace H := H.seq0 H1; clear H1)
      refine WL_stepM rfl (R_mv) ?_
      refine WL_step rfl (R_extract rfl rfl) ?_
      refine WL_step rfl (R_extract rfl rfl) ?_
      (refine WL_effn rfl (E_alloc (vs := Slot.piC Slot.zeroP) H Tryz.zeroValue36 rfl) ?_; clear H; intro c13 w52 hc13 H)
      (refine WL_effu rfl (Slot.E_storeP H rfl rfl .here) ?_; clear H; intro w53 H)
      refine WL_stepM rfl (R_as) ?_
      refine WL_nil ?_
      refine W_seq ?_
      refine W_region_l ?_
      refine WL_step rfl (R_fieldAddr (off' := 0) Tryz.underlying80 rfl Tryz.sizeOf78 (by decide) rfl rfl) ?_
      refine WL_step rfl (R_load Tryz.isAgg78 rfl (H.get (.there .here)) rfl) ?_
      refine WL_step rfl (Slot.R_loadP rfl (H.get .here)) ?_
      (refine WL_effn rfl (E_buildRows (vss := [Slot.piC (Slot.decP (win xs (a + 24 * i) 24)).1]) H Tryz.underlying78 Tryz.sizeOf36 Tryz.zeroValue36 rfl rfl (by decide) rfl rfl (by simp [Slot.piC_len])) ?_; clear H; intro b40 w61 hb40 H)
      (refine WL_effm rfl (E_append (news := Slot.piC (Slot.decP (win xs (a + 24 * i) 24)).1) H (.there (.there (.there (.there .here)))) hO1 Tryz.underlying78 Tryz.typeInfo36 rfl rfl rfl rfl rfl rfl (src_blk (m := 1) (sp := []) Tryz.underlying78 (H.get .here) (by rw [Slot.piC_len]) (Slot.piC_one _)) (by omega) (by simp only [Tryz.t36]; omega)) ?_; clear H; intro v1 N1 w62 hN1 H; obtain ⟨fa, fc, rfl⟩ := hN1.form)
      refine WL_step rfl (R_fieldAddr (off' := 0) Tryz.underlying80 rfl Tryz.sizeOf78 (by decide) rfl rfl) ?_
      (refine WL_effu rfl (E_store (v := (.slice _ _ _)) H Tryz.sizeOf78 rfl rfl rfl (.there (.there .here)) (by simp)) ?_; clear H; intro w64 H)
      refine WL_nil ?_
      refine W_region_l ?_
      refine WL_step rfl (R_fieldAddr (off' := 1) Tryz.underlying80 rfl Tryz.sizeOf52 (by decide) rfl rfl) ?_
      refine WL_step rfl (R_load Tryz.isAgg52 rfl (H.get (.there (.there .here))) rfl) ?_
      refine WL_stepM rfl (R_mv) ?_
      (refine WL_effn rfl (E_buildOnes (vs := [I (Slot.decP (win xs (a + 24 * i) 24)).2]) H Tryz.underlying52 Tryz.sizeOf3 Tryz.zeroValue3 rfl rfl (by decide) rfl rfl (by simp [Value.oneCell'])) ?_; clear H; intro b46 w70 hb46 H)
      (refine WL_effm rfl (E_append (news := [I (Slot.decP (win xs (a + 24 * i) 24)).2]) (m := 1) H (.there (.there (.there (.there (.there (.app N1 .last)))))) hO2 Tryz.underlying52 Tryz.typeInfo3 rfl rfl rfl rfl rfl rfl (src_one Tryz.underlying52 (H.get .here) rfl) (by omega) (by simp only [Tryz.t3]; omega)) ?_; clear H; intro v2 N2 w71 hN2 H; obtain ⟨fb, fd, rfl⟩ := hN2.form)
      refine WL_step rfl (R_fieldAddr (off' := 1) Tryz.underlying80 rfl Tryz.sizeOf52 (by decide) rfl rfl) ?_
      (refine WL_effu rfl (E_store (v := (.slice _ _ _)) H Tryz.sizeOf52 rfl rfl rfl (.there (.there (.there .here))) (by simp)) ?_; clear H; intro w73 H)
      refine WL_nil ?_
      refine W_region_l ?_
      refine WL_step rfl (R_add rfl rfl (w_i64 (by omega))) ?_
      refine WL_stepM rfl (R_mv) ?_
      refine WL_nil ?_
      exact ⟨(same_mov rfl (same_updo rfl (same_updn (same_updo rfl (same_updo rfl (same_updo rfl (same_mov rfl (same_updo rfl (same_updo rfl (same_updn (same_updo rfl (same_updo rfl (same_updo rfl (same_updo rfl (same_updo rfl (same_updo rfl (same_mov rfl (same_updn (same_updo rfl (same_updo rfl (same_updo rfl (same_mov rfl (same_updo rfl (same_updo rfl (same_updo rfl (same_updo rfl (same_updo rfl (same_mov rfl (same_mov rfl (same_mov rfl (same_updo rfl (same_updo rfl (same_mov rfl (same_mov rfl (same_mov rfl (same_mov rfl (same_mov rfl (same_mov rfl (same_mov rfl (same_know rfl (same_updo rfl same_ovr))))))))))))))))))))))))))))))))))))))))), i + 1, by omega, _, _, N1, N2, by omega, rfl, (by rw [recs_succ, List.map_append, rows_append]; simpa [rows] using hN1), (by rw [recs_succ, List.map_append]; exact hN2), ((H.pop (by assumption)).pop (by assumption)).pop (by assumption)⟩
    · refine W_exit ?_
      refine (if_pos rfl).mpr ?_
      refine W_seq ?_
      ((obtain rfl : i = n := (by omega))) <;> refine W_region_l ?_
      refine WL_step rfl (R_loadA Tryz.isAgg80 Tryz.sizeOf80 rfl (H.get .here) rfl (by simp)) ?_
      (refine WL_effu rfl (E_storeA (vs := [(.slice _ _ _), (.slice _ _ _)]) H Tryz.sizeOf80 rfl rfl (by simp [Value.oneCell']) (.there .here) (by simp)) ?_; clear H; intro w85 H)
      refine WL_nil ?_
      refine W_ret ?_
      exact ⟨_, ⟨_, rfl, ldA Tryz.isAgg80 Tryz.sizeOf80 (H.get (.there .here)) rfl (by simp)⟩, _, _, _, _, rfl, hO1, hO2, (H.pop (by assumption)).pop (by assumption)⟩

theorem readF_ret {xs : List UInt8} {w : World} {l : Value} (hl : RdS w l (xs.map U)) (a n : Nat) (ha : a + 8 * n ≤ xs.length) (hx : xs.length ≤ 600) :
    Ret Tryz.prog 43 #[l, I a, I 8, I n, .func (.func 44) #[] #[]] w fun v w' => ∃ u1 u2 M1 M2, v = .agg #[u1, u2] ∧ OwnS w.heap.size 39 4 u1 n (rows File.flC ((recs File.decP xs a 8 n).map (·.1))) M1 ∧
      OwnS w.heap.size 3 1 u2 n ((recs File.decP xs a 8 n).map fun r => I r.2) M2 ∧ Hp w (M1 ++ M2) w' := by
  refine Ret_of_WC (args := [_, _, _, _, _]) Tryz.func43 rfl Tryz.ntmps43 Tryz.results43 (by simp) ?_
  have H := Hp.refl w
  obtain ⟨ao, ca, rfl, hca, hra⟩ := id hl
  simp only [List.length_map] at hl ⊢
  have hO1 := OwnS.nil w.heap.size 39 4
  have hO2 := OwnS.nil w.heap.size 3 1
  refine W_seq ?_
  refine W_region_l ?_
  (refine WL_effn rfl (E_alloc (vs := [nilS, nilS]) H Tryz.zeroValue83 rfl) ?_; clear H; intro c10 w3 hc10 H)
  refine WL_nil ?_
  refine W_seq ?_
  refine W_region_l ?_
  (refine WL_effn rfl (E_alloc (vs := [nilS, nilS]) H Tryz.zeroValue83 rfl) ?_; clear H; intro c11 w7 hc11 H)
  refine WL_nil ?_
  refine W_seq ?_
  refine W_seq ?_
  refine W_region_l ?_
  refine WL_stepM rfl (R_mv) ?_
  refine WL_stepM rfl (R_mv) ?_
  refine WL_nil ?_
  refine W_block ?_
  refine W_loopS [(12, 14), (16, 49)] (fun (i : Nat) E w' => ∃ (u1 u2 : Value) (M1 M2 : List (Nat × Obj)), i ≤ n ∧ E 16 = I i ∧ OwnS w.heap.size 39 4 u1 i (rows File.flC ((recs File.decP xs a 8 i).map (·.1))) M1 ∧ OwnS w.heap.size 3 1 u2 i ((recs File.decP xs a 8 i).map fun r => I r.2) M2 ∧ Hp w ((c11, blk [u1, u2] 83) :: (c10, blk [nilS, nilS] 83) :: (M1 ++ M2)) w') (fun i => n - i) 0 ?e0 ?r0
  · exact ⟨_, _, [], [], by omega, rfl, hO1, hO2, H⟩
  · (clear H hO1 hO2; rintro i E w1 ⟨u1, u2, M1, M2, hi, h16, hO1, hO2, H⟩; obtain ⟨b1, k1, rfl⟩ := hO1.form; obtain ⟨b2, k2, rfl⟩ := hO2.form; refine W_kn h16 ?_)
    refine W_seq ?_
    refine W_region_l ?_
    refine WL_step rfl (R_lt rfl rfl) ?_
    refine WL_nil ?_
    refine W_seq ?_
    refine W_if rfl (fun h23 => ?_) (fun h23 => ?_)
    · refine W_skip ?_
      refine W_seq ?_
      refine W_block ?_
      refine W_seq ?_
      refine W_region_l ?_
      refine WL_stepM rfl (R_mv) ?_
      refine WL_stepM rfl (R_as) ?_
      refine WL_nil ?_
      refine W_seq ?_
      refine W_region_l ?_
      refine WL_stepM rfl (R_mv) ?_
      refine WL_stepM rfl (R_mv) ?_
      refine WL_stepM rfl (R_mv) ?_
      refine WL_stepM rfl (R_mv) ?_
      refine WL_stepM rfl (R_mv) ?_
      refine WL_step rfl (R_mul (r := ((8 * i : Nat) : Int)) rfl rfl (by rw [w_i64 (by omega)]; omega)) ?_
      refine WL_step rfl (R_add (r := ((a + 8 * i : Nat) : Int)) rfl rfl (by rw [w_i64 (by omega)]; omega)) ?_
      refine WL_stepM rfl (R_mv) ?_
      refine WL_stepM rfl (R_mv) ?_
      refine WL_stepM rfl (R_mv) ?_
      refine WL_step rfl (R_add rfl rfl (w_i64 (by omega))) ?_
      refine WL_step rfl (R_mul (r := ((8 * i + 8 : Nat) : Int)) rfl rfl (by rw [w_i64 (by omega)]; omega)) ?_
      refine WL_step rfl (R_add (r := ((a + 8 * i + 8 : Nat) : Int)) rfl rfl (by rw [w_i64 (by omega)]; omega)) ?_
      refine WL_step rfl (R_subU (i := a + 8 * i) (j := a + 8 * i + 8) hl Tryz.underlying22 Tryz.sizeOf5 rfl (.some rfl) (.some rfl) (by omega) (by omega)) ?_
      (refine WL_call rfl (R_call rfl Tryz.call44 rfl) (File.dec_ret (xs := win xs (a + 8 * i) 8) (by have h9 := hl.subU (i := a + 8 * i) (j := a + 8 * i + 8) (by omega) (by omega); rw [win_eq] at h9; exact h9.monoN H (by repeat' first | exact kNil | apply kCons | apply kApp | assumption | exact OwnS.keys (by assumption))) (by unfold win; rw [List.length_take]; omega)) ?_; rintro _ w48 ⟨rfl, H1⟩; replace H := H.seq0 H1; clear H1)
      refine WL_stepM rfl (R_mv) ?_
      refine WL_step rfl (R_extract rfl rfl) ?_
      refine WL_step rfl (R_extract rfl rfl) ?_
      (refine WL_effn rfl (E_alloc (vs := File.flC File.zeroF) H Tryz.zeroValue39 rfl) ?_; clear H; intro c13 w52 hc13 H)
      (refine WL_effu rfl (File.E_storeL H rfl rfl .here) ?_; clear H; intro w53 H)
      refine WL_stepM rfl (R_as) ?_
      refine WL_nil ?_
      refine W_seq ?_
      refine W_region_l ?_
      refine WL_step rfl (R_fieldAddr (off' := 0) Tryz.underlying83 rfl Tryz.sizeOf81 (by decide) rfl rfl) ?_
      refine WL_step rfl (R_load Tryz.isAgg81 rfl (H.get (.there .here)) rfl) ?_
      refine WL_step rfl (File.R_loadL rfl (H.get .here)) ?_
      (refine WL_effn rfl (E_buildRows (vss := [File.flC (File.decP (win xs (a + 8 * i) 8)).1]) H Tryz.underlying81 Tryz.sizeOf39 Tryz.zeroValue39 rfl rfl (by decide) rfl rfl (by simp [File.fl_len])) ?_; clear H; intro b40 w61 hb40 H)
      (refine WL_effm rfl (E_append (news := File.flC (File.decP (win xs (a + 8 * i) 8)).1) H (.there (.there (.there (.there .here)))) hO1 Tryz.underlying81 Tryz.typeInfo39 rfl rfl rfl rfl rfl rfl (src_blk (m := 1) (sp := []) Tryz.underlying81 (H.get .here) (by rw [File.fl_len]) (File.fl_one _)) (by omega) (by simp only [Tryz.t39]; omega)) ?_; clear H; intro v1 N1 w62 hN1 H; obtain ⟨fa, fc, rfl⟩ := hN1.form)
      refine WL_step rfl (R_fieldAddr (off' := 0) Tryz.underlying83 rfl Tryz.sizeOf81 (by decide) rfl rfl) ?_
      (refine WL_effu rfl (E_store (v := (.slice _ _ _)) H Tryz.sizeOf81 rfl rfl rfl (.there (.there .here)) (by simp)) ?_; clear H; intro w64 H)
      refine WL_nil ?_
      refine W_region_l ?_
      refine WL_step rfl (R_fieldAddr (off' := 1) Tryz.underlying83 rfl Tryz.sizeOf52 (by decide) rfl rfl) ?_
      refine WL_step rfl (R_load Tryz.isAgg52 rfl (H.get (.there (.there .here))) rfl) ?_
      refine WL_stepM rfl (R_mv) ?_
      (refine WL_effn rfl (E_buildOnes (vs := [I (File.decP (win xs (a + 8 * i) 8)).2]) H Tryz.underlying52 Tryz.sizeOf3 Tryz.zeroValue3 rfl rfl (by decide) rfl rfl (by simp [Value.oneCell'])) ?_; clear H; intro b46 w70 hb46 H)
      (refine WL_effm rfl (E_append (news := [I (File.decP (win xs (a + 8 * i) 8)).2]) (m := 1) H (.there (.there (.there (.there (.there (.app N1 .last)))))) hO2 Tryz.underlying52 Tryz.typeInfo3 rfl rfl rfl rfl rfl rfl (src_one Tryz.underlying52 (H.get .here) rfl) (by omega) (by simp only [Tryz.t3]; omega)) ?_; clear H; intro v2 N2 w71 hN2 H; obtain ⟨fb, fd, rfl⟩ := hN2.form)
      refine WL_step rfl (R_fieldAddr (off' := 1) Tryz.underlying83 rfl Tryz.sizeOf52 (by decide) rfl rfl) ?_
      (refine WL_effu rfl (E_store (v := (.slice _ _ _)) H Tryz.sizeOf52 rfl rfl rfl (.there (.there (.there .here))) (by simp)) ?_; clear H; intro w73 H)
      refine WL_nil ?_
      refine W_region_l ?_
      refine WL_step rfl (R_add rfl rfl (w_i64 (by omega))) ?_
      refine WL_stepM rfl (R_mv) ?_
      refine WL_nil ?_
      exact ⟨(same_mov rfl (same_updo rfl (same_updn (same_updo rfl (same_updo rfl (same_updo rfl (same_mov rfl (same_updo rfl (same_updo rfl (same_updn (same_updo rfl (same_updo rfl (same_updo rfl (same_updo rfl (same_updo rfl (same_updo rfl (same_mov rfl (same_updn (same_updo rfl (same_updo rfl (same_updo rfl (same_mov rfl (same_updo rfl (same_updo rfl (same_updo rfl (same_updo rfl (same_updo rfl (same_mov rfl (same_mov rfl (same_mov rfl (same_updo rfl (same_updo rfl (same_mov rfl (same_mov rfl (same_mov rfl (same_mov rfl (same_mov rfl (same_mov rfl (same_mov rfl (same_know rfl (same_updo rfl same_ovr))))))))))))))))))))))))))))))))))))))))), i + 1, by omega, _, _, N1, N2, by omega, rfl, (by rw [recs_succ, List.map_append, rows_append]; simpa [rows] using hN1), (by rw [recs_succ, List.map_append]; exact hN2), ((H.pop (by assumption)).pop (by assumption)).pop (by assumption)⟩
    · refine W_exit ?_
      refine (if_pos rfl).mpr ?_
      refine W_seq ?_
      ((obtain rfl : i = n := (by omega))) <;> refine W_region_l ?_
      refine WL_step rfl (R_loadA Tryz.isAgg83 Tryz.sizeOf83 rfl (H.get .here) rfl (by simp)) ?_
      (refine WL_effu rfl (E_storeA (vs := [(.slice _ _ _), (.slice _ _ _)]) H Tryz.sizeOf83 rfl rfl (by simp [Value.oneCell']) (.there .here) (by simp)) ?_; clear H; intro w85 H)
      refine WL_nil ?_
      refine W_ret ?_
      exact ⟨_, ⟨_, rfl, ldA Tryz.isAgg83 Tryz.sizeOf83 (H.get (.there .here)) rfl (by simp)⟩, _, _, _, _, rfl, hO1, hO2, (H.pop (by assumption)).pop (by assumption)⟩

theorem readQ_ret {xs : List UInt8} {w : World} {l : Value} (hl : RdS w l (xs.map U)) (a n : Nat) (ha : a + 40 * n ≤ xs.length) (hx : xs.length ≤ 600) :
    Ret Tryz.prog 45 #[l, I a, I 40, I n, .func (.func 46) #[] #[]] w fun v w' => ∃ u1 u2 M1 M2, v = .agg #[u1, u2] ∧ OwnS w.heap.size 43 36 u1 n (rows Ring.piC ((recs Ring.decP xs a 40 n).map (·.1))) M1 ∧
      OwnS w.heap.size 3 1 u2 n ((recs Ring.decP xs a 40 n).map fun r => I r.2) M2 ∧ Hp w (M1 ++ M2) w' := by
  refine Ret_of_WC (args := [_, _, _, _, _]) Tryz.func45 rfl Tryz.ntmps45 Tryz.results45 (by simp) ?_
  have H := Hp.refl w
  obtain ⟨ao, ca, rfl, hca, hra⟩ := id hl
  simp only [List.length_map] at hl ⊢
  have hO1 := OwnS.nil w.heap.size 43 36
  have hO2 := OwnS.nil w.heap.size 3 1
  refine W_seq ?_
  refine W_region_l ?_
  (refine WL_effn rfl (E_alloc (vs := [nilS, nilS]) H Tryz.zeroValue86 rfl) ?_; clear H; intro c10 w3 hc10 H)
  refine WL_nil ?_
  refine W_seq ?_
  refine W_region_l ?_
  (refine WL_effn rfl (E_alloc (vs := [nilS, nilS]) H Tryz.zeroValue86 rfl) ?_; clear H; intro c11 w7 hc11 H)
  refine WL_nil ?_
  refine W_seq ?_
  refine W_seq ?_
  refine W_region_l ?_
  refine WL_stepM rfl (R_mv) ?_
  refine WL_stepM rfl (R_mv) ?_
  refine WL_nil ?_
  refine W_block ?_
  refine W_loopS [(12, 14), (16, 49)] (fun (i : Nat) E w' => ∃ (u1 u2 : Value) (M1 M2 : List (Nat × Obj)), i ≤ n ∧ E 16 = I i ∧ OwnS w.heap.size 43 36 u1 i (rows Ring.piC ((recs Ring.decP xs a 40 i).map (·.1))) M1 ∧ OwnS w.heap.size 3 1 u2 i ((recs Ring.decP xs a 40 i).map fun r => I r.2) M2 ∧ Hp w ((c11, blk [u1, u2] 86) :: (c10, blk [nilS, nilS] 86) :: (M1 ++ M2)) w') (fun i => n - i) 0 ?e0 ?r0
  · exact ⟨_, _, [], [], by omega, rfl, hO1, hO2, H⟩
  · (clear H hO1 hO2; rintro i E w1 ⟨u1, u2, M1, M2, hi, h16, hO1, hO2, H⟩; obtain ⟨b1, k1, rfl⟩ := hO1.form; obtain ⟨b2, k2, rfl⟩ := hO2.form; refine W_kn h16 ?_)
    refine W_seq ?_
    refine W_region_l ?_
    refine WL_step rfl (R_lt rfl rfl) ?_
    refine WL_nil ?_
    refine W_seq ?_
    refine W_if rfl (fun h23 => ?_) (fun h23 => ?_)
    · refine W_skip ?_
      refine W_seq ?_
      refine W_block ?_
      refine W_seq ?_
      refine W_region_l ?_
      refine WL_stepM rfl (R_mv) ?_
      refine WL_stepM rfl (R_as) ?_
      refine WL_nil ?_
      refine W_seq ?_
      refine W_region_l ?_
      refine WL_stepM rfl (R_mv) ?_
      refine WL_stepM rfl (R_mv) ?_
      refine WL_stepM rfl (R_mv) ?_
      refine WL_stepM rfl (R_mv) ?_
      refine WL_stepM rfl (R_mv) ?_
      refine WL_step rfl (R_mul (r := ((40 * i : Nat) : Int)) rfl rfl (by rw [w_i64 (by omega)]; omega)) ?_
      refine WL_step rfl (R_add (r := ((a + 40 * i : Nat) : Int)) rfl rfl (by rw [w_i64 (by omega)]; omega)) ?_
      refine WL_stepM rfl (R_mv) ?_
      refine WL_stepM rfl (R_mv) ?_
      refine WL_stepM rfl (R_mv) ?_
      refine WL_step rfl (R_add rfl rfl (w_i64 (by omega))) ?_
      refine WL_step rfl (R_mul (r := ((40 * i + 40 : Nat) : Int)) rfl rfl (by rw [w_i64 (by omega)]; omega)) ?_
      refine WL_step rfl (R_add (r := ((a + 40 * i + 40 : Nat) : Int)) rfl rfl (by rw [w_i64 (by omega)]; omega)) ?_
      refine WL_step rfl (R_subU (i := a + 40 * i) (j := a + 40 * i + 40) hl Tryz.underlying22 Tryz.sizeOf5 rfl (.some rfl) (.some rfl) (by omega) (by omega)) ?_
      (refine WL_call rfl (R_call rfl Tryz.call46 rfl) (Ring.dec_ret (xs := win xs (a + 40 * i) 40) (by have h9 := hl.subU (i := a + 40 * i) (j := a + 40 * i + 40) (by omega) (by omega); rw [win_eq] at h9; exact h9.monoN H (by repeat' first | exact kNil | apply kCons | apply kApp | assumption | exact OwnS.keys (by assumption))) (by unfold win; rw [List.length_take]; omega)) ?_; rintro _ w48 ⟨rfl, H1⟩; replace H := H.seq0 H1; clear H1)
      refine WL_stepM rfl (R_mv) ?_
      refine WL_step rfl (R_extract rfl rfl) ?_
      refine WL_step rfl (R_extract rfl rfl) ?_
      (refine WL_effn rfl (E_alloc (vs := Ring.piC Ring.zeroP) H Tryz.zeroValue43 rfl) ?_; clear H; intro c13 w52 hc13 H)
      (refine WL_effu rfl (Ring.E_storeP H rfl rfl .here) ?_; clear H; intro w53 H)
      refine WL_stepM rfl (R_as) ?_
      refine WL_nil ?_
      refine W_seq ?_
      refine W_region_l ?_
      refine WL_step rfl (R_fieldAddr (off' := 0) Tryz.underlying86 rfl Tryz.sizeOf84 (by decide) rfl rfl) ?_
      refine WL_step rfl (R_load Tryz.isAgg84 rfl (H.get (.there .here)) rfl) ?_
      refine WL_step rfl (Ring.R_loadP rfl (H.get .here)) ?_
      (refine WL_effn rfl (E_buildRows (vss := [Ring.piC (Ring.decP (win xs (a + 40 * i) 40)).1]) H Tryz.underlying84 Tryz.sizeOf43 Tryz.zeroValue43 rfl rfl (by decide) rfl rfl (by simp [Ring.piC_len])) ?_; clear H; intro b40 w61 hb40 H)
      (refine WL_effm rfl (E_append (news := Ring.piC (Ring.decP (win xs (a + 40 * i) 40)).1) H (.there (.there (.there (.there .here)))) hO1 Tryz.underlying84 Tryz.typeInfo43 rfl rfl rfl rfl rfl rfl (src_blk (m := 1) (sp := []) Tryz.underlying84 (H.get .here) (by rw [Ring.piC_len]) (Ring.piC_one _)) (by omega) (by simp only [Tryz.t43]; omega)) ?_; clear H; intro v1 N1 w62 hN1 H; obtain ⟨fa, fc, rfl⟩ := hN1.form)
      refine WL_step rfl (R_fieldAddr (off' := 0) Tryz.underlying86 rfl Tryz.sizeOf84 (by decide) rfl rfl) ?_
      (refine WL_effu rfl (E_store (v := (.slice _ _ _)) H Tryz.sizeOf84 rfl rfl rfl (.there (.there .here)) (by simp)) ?_; clear H; intro w64 H)
      refine WL_nil ?_
      refine W_region_l ?_
      refine WL_step rfl (R_fieldAddr (off' := 1) Tryz.underlying86 rfl Tryz.sizeOf52 (by decide) rfl rfl) ?_
      refine WL_step rfl (R_load Tryz.isAgg52 rfl (H.get (.there (.there .here))) rfl) ?_
      refine WL_stepM rfl (R_mv) ?_
      (refine WL_effn rfl (E_buildOnes (vs := [I (Ring.decP (win xs (a + 40 * i) 40)).2]) H Tryz.underlying52 Tryz.sizeOf3 Tryz.zeroValue3 rfl rfl (by decide) rfl rfl (by simp [Value.oneCell'])) ?_; clear H; intro b46 w70 hb46 H)
      (refine WL_effm rfl (E_append (news := [I (Ring.decP (win xs (a + 40 * i) 40)).2]) (m := 1) H (.there (.there (.there (.there (.there (.app N1 .last)))))) hO2 Tryz.underlying52 Tryz.typeInfo3 rfl rfl rfl rfl rfl rfl (src_one Tryz.underlying52 (H.get .here) rfl) (by omega) (by simp only [Tryz.t3]; omega)) ?_; clear H; intro v2 N2 w71 hN2 H; obtain ⟨fb, fd, rfl⟩ := hN2.form)
      refine WL_step rfl (R_fieldAddr (off' := 1) Tryz.underlying86 rfl Tryz.sizeOf52 (by decide) rfl rfl) ?_
      (refine WL_effu rfl (E_store (v := (.slice _ _ _)) H Tryz.sizeOf52 rfl rfl rfl (.there (.there (.there .here))) (by simp)) ?_; clear H; intro w73 H)
      refine WL_nil ?_
      refine W_region_l ?_
      refine WL_step rfl (R_add rfl rfl (w_i64 (by omega))) ?_
      refine WL_stepM rfl (R_mv) ?_
      refine WL_nil ?_
      exact ⟨(same_mov rfl (same_updo rfl (same_updn (same_updo rfl (same_updo rfl (same_updo rfl (same_mov rfl (same_updo rfl (same_updo rfl (same_updn (same_updo rfl (same_updo rfl (same_updo rfl (same_updo rfl (same_updo rfl (same_updo rfl (same_mov rfl (same_updn (same_updo rfl (same_updo rfl (same_updo rfl (same_mov rfl (same_updo rfl (same_updo rfl (same_updo rfl (same_updo rfl (same_updo rfl (same_mov rfl (same_mov rfl (same_mov rfl (same_updo rfl (same_updo rfl (same_mov rfl (same_mov rfl (same_mov rfl (same_mov rfl (same_mov rfl (same_mov rfl (same_mov rfl (same_know rfl (same_updo rfl same_ovr))))))))))))))))))))))))))))))))))))))))), i + 1, by omega, _, _, N1, N2, by omega, rfl, (by rw [recs_succ, List.map_append, rows_append]; simpa [rows] using hN1), (by rw [recs_succ, List.map_append]; exact hN2), ((H.pop (by assumption)).pop (by assumption)).pop (by assumption)⟩
    · refine W_exit ?_
      refine (if_pos rfl).mpr ?_
      refine W_seq ?_
      ((obtain rfl : i = n := (by omega))) <;> refine W_region_l ?_
      refine WL_step rfl (R_loadA Tryz.isAgg86 Tryz.sizeOf86 rfl (H.get .here) rfl (by simp)) ?_
      (refine WL_effu rfl (E_storeA (vs := [(.slice _ _ _), (.slice _ _ _)]) H Tryz.sizeOf86 rfl rfl (by simp [Value.oneCell']) (.there .here) (by simp)) ?_; clear H; intro w85 H)
      refine WL_nil ?_
      refine W_ret ?_
      exact ⟨_, ⟨_, rfl, ldA Tryz.isAgg86 Tryz.sizeOf86 (H.get (.there .here)) rfl (by simp)⟩, _, _, _, _, rfl, hO1, hO2, (H.pop (by assumption)).pop (by assumption)⟩
end Go.Proofs.YthonajikgljgmaaGreat.Aud

/-
  Records of commons are read: the front; all of them.
-/
namespace Go.Proofs.YthonajikgljgmaaGreat.Aud
open Go Go.Proofs Go.Proofs.YthonajikgljgmaaGreat.Fx
set_option maxRecDepth 100000
set_option linter.unusedVariables false
set_option linter.unusedSimpArgs false
set_option maxHeartbeats 4000000

theorem readG_ret {xs : List UInt8} {w : World} {l : Value} (hl : RdS w l (xs.map U)) (a n : Nat) (ha : a + 4 * n ≤ xs.length) (hx : xs.length ≤ 600) :
    Ret Tryz.prog 47 #[l, I a, I 4, I n, .func (.func 48) #[] #[]] w fun v w' => ∃ u1 u2 M1 M2, v = .agg #[u1, u2] ∧ OwnS w.heap.size 3 1 u1 n ((recs Cm.decG xs a 4 n).map fun r => I r.1) M1 ∧
      OwnS w.heap.size 3 1 u2 n ((recs Cm.decG xs a 4 n).map fun r => I r.2) M2 ∧ Hp w (M1 ++ M2) w' := by
  refine Ret_of_WC (args := [_, _, _, _, _]) Tryz.func47 rfl Tryz.ntmps47 Tryz.results47 (by simp) ?_
  have H := Hp.refl w
  obtain ⟨ao, ca, rfl, hca, hra⟩ := id hl
  simp only [List.length_map] at hl ⊢
  have hO1 := OwnS.nil w.heap.size 3 1
  have hO2 := OwnS.nil w.heap.size 3 1
  refine W_seq ?_
  refine W_region_l ?_
  (refine WL_effn rfl (E_alloc (vs := [nilS, nilS]) H Tryz.zeroValue88 rfl) ?_; clear H; intro c10 w3 hc10 H)
  refine WL_nil ?_
  refine W_seq ?_
  refine W_region_l ?_
  (refine WL_effn rfl (E_alloc (vs := [nilS, nilS]) H Tryz.zeroValue88 rfl) ?_; clear H; intro c11 w7 hc11 H)
  refine WL_nil ?_
  refine W_seq ?_
  refine W_seq ?_
  refine W_region_l ?_
  refine WL_stepM rfl (R_mv) ?_
  refine WL_stepM rfl (R_mv) ?_
  refine WL_nil ?_
  refine W_block ?_
  refine W_loopS [(12, 14), (16, 49)] (fun (i : Nat) E w' => ∃ (u1 u2 : Value) (M1 M2 : List (Nat × Obj)), i ≤ n ∧ E 16 = I i ∧ OwnS w.heap.size 3 1 u1 i ((recs Cm.decG xs a 4 i).map fun r => I r.1) M1 ∧ OwnS w.heap.size 3 1 u2 i ((recs Cm.decG xs a 4 i).map fun r => I r.2) M2 ∧ Hp w ((c11, blk [u1, u2] 88) :: (c10, blk [nilS, nilS] 88) :: (M1 ++ M2)) w') (fun i => n - i) 0 ?e0 ?r0
  · exact ⟨_, _, [], [], by omega, rfl, hO1, hO2, H⟩
  · (clear H hO1 hO2; rintro i E w1 ⟨u1, u2, M1, M2, hi, h16, hO1, hO2, H⟩; obtain ⟨b1, k1, rfl⟩ := hO1.form; obtain ⟨b2, k2, rfl⟩ := hO2.form; refine W_kn h16 ?_)
    refine W_seq ?_
    refine W_region_l ?_
    refine WL_step rfl (R_lt rfl rfl) ?_
    refine WL_nil ?_
    refine W_seq ?_
    refine W_if rfl (fun h23 => ?_) (fun h23 => ?_)
    · refine W_skip ?_
      refine W_seq ?_
      refine W_block ?_
      refine W_seq ?_
      refine W_region_l ?_
      refine WL_stepM rfl (R_mv) ?_
      refine WL_stepM rfl (R_as) ?_
      refine WL_nil ?_
      refine W_seq ?_
      refine W_region_l ?_
      refine WL_stepM rfl (R_mv) ?_
      refine WL_stepM rfl (R_mv) ?_
      refine WL_stepM rfl (R_mv) ?_
      refine WL_stepM rfl (R_mv) ?_
      refine WL_stepM rfl (R_mv) ?_
      refine WL_step rfl (R_mul (r := ((4 * i : Nat) : Int)) rfl rfl (by rw [w_i64 (by omega)]; omega)) ?_
      refine WL_step rfl (R_add (r := ((a + 4 * i : Nat) : Int)) rfl rfl (by rw [w_i64 (by omega)]; omega)) ?_
      refine WL_stepM rfl (R_mv) ?_
      refine WL_stepM rfl (R_mv) ?_
      refine WL_stepM rfl (R_mv) ?_
      refine WL_step rfl (R_add rfl rfl (w_i64 (by omega))) ?_
      refine WL_step rfl (R_mul (r := ((4 * i + 4 : Nat) : Int)) rfl rfl (by rw [w_i64 (by omega)]; omega)) ?_
      refine WL_step rfl (R_add (r := ((a + 4 * i + 4 : Nat) : Int)) rfl rfl (by rw [w_i64 (by omega)]; omega)) ?_
      refine WL_step rfl (R_subU (i := a + 4 * i) (j := a + 4 * i + 4) hl Tryz.underlying22 Tryz.sizeOf5 rfl (.some rfl) (.some rfl) (by omega) (by omega)) ?_
      (refine WL_call rfl (R_call rfl Tryz.call48 rfl) (Cm.frontOf_ret (xs := win xs (a + 4 * i) 4) (by have h9 := hl.subU (i := a + 4 * i) (j := a + 4 * i + 4) (by omega) (by omega); rw [win_eq] at h9; exact h9.monoN H (by repeat' first | exact kNil | apply kCons | apply kApp | assumption | exact OwnS.keys (by assumption))) (by unfold win; rw [List.length_take]; omega)) ?_; rintro _ w48 ⟨rfl, H1⟩; replace H := H.seq0 H1; clear H1)
      refine WL_stepM rfl (R_mv) ?_
      refine WL_step rfl (R_extract rfl rfl) ?_
      refine WL_step rfl (R_extract rfl rfl) ?_
      refine WL_stepM rfl (R_as) ?_
      refine WL_stepM rfl (R_as) ?_
      refine WL_nil ?_
      refine W_seq ?_
      refine W_region_l ?_
      refine WL_step rfl (R_fieldAddr (off' := 0) Tryz.underlying88 rfl Tryz.sizeOf52 (by decide) rfl rfl) ?_
      refine WL_step rfl (R_load Tryz.isAgg52 rfl (H.get .here) rfl) ?_
      refine WL_stepM rfl (R_mv) ?_
      (refine WL_effn rfl (E_buildOnes (vs := [I (Cm.decG (win xs (a + 4 * i) 4)).1]) H Tryz.underlying52 Tryz.sizeOf3 Tryz.zeroValue3 rfl rfl (by decide) rfl rfl (by simp [Value.oneCell'])) ?_; clear H; intro b40 w60 hb40 H)
      (refine WL_effm rfl (E_append (news := [I (Cm.decG (win xs (a + 4 * i) 4)).1]) (m := 1) H (.there (.there (.there .here))) hO1 Tryz.underlying52 Tryz.typeInfo3 rfl rfl rfl rfl rfl rfl (src_one Tryz.underlying52 (H.get .here) rfl) (by omega) (by simp only [Tryz.t3]; omega)) ?_; clear H; intro v1 N1 w61 hN1 H; obtain ⟨fa, fc, rfl⟩ := hN1.form)
      refine WL_step rfl (R_fieldAddr (off' := 0) Tryz.underlying88 rfl Tryz.sizeOf52 (by decide) rfl rfl) ?_
      (refine WL_effu rfl (E_store (v := (.slice _ _ _)) H Tryz.sizeOf52 rfl rfl rfl (.there .here) (by simp)) ?_; clear H; intro w63 H)
      refine WL_nil ?_
      refine W_region_l ?_
      refine WL_step rfl (R_fieldAddr (off' := 1) Tryz.underlying88 rfl Tryz.sizeOf52 (by decide) rfl rfl) ?_
      refine WL_step rfl (R_load Tryz.isAgg52 rfl (H.get (.there .here)) rfl) ?_
      refine WL_stepM rfl (R_mv) ?_
      (refine WL_effn rfl (E_buildOnes (vs := [I (Cm.decG (win xs (a + 4 * i) 4)).2]) H Tryz.underlying52 Tryz.sizeOf3 Tryz.zeroValue3 rfl rfl (by decide) rfl rfl (by simp [Value.oneCell'])) ?_; clear H; intro b46 w69 hb46 H)
      (refine WL_effm rfl (E_append (news := [I (Cm.decG (win xs (a + 4 * i) 4)).2]) (m := 1) H (.there (.there (.there (.there (.app N1 .last))))) hO2 Tryz.underlying52 Tryz.typeInfo3 rfl rfl rfl rfl rfl rfl (src_one Tryz.underlying52 (H.get .here) rfl) (by omega) (by simp only [Tryz.t3]; omega)) ?_; clear H; intro v2 N2 w70 hN2 H; obtain ⟨fb, fd, rfl⟩ := hN2.form)
      refine WL_step rfl (R_fieldAddr (off' := 1) Tryz.underlying88 rfl Tryz.sizeOf52 (by decide) rfl rfl) ?_
      (refine WL_effu rfl (E_store (v := (.slice _ _ _)) H Tryz.sizeOf52 rfl rfl rfl (.there (.there .here)) (by simp)) ?_; clear H; intro w72 H)
      refine WL_nil ?_
      refine W_region_l ?_
      refine WL_step rfl (R_add rfl rfl (w_i64 (by omega))) ?_
      refine WL_stepM rfl (R_mv) ?_
      refine WL_nil ?_
      exact ⟨(same_mov rfl (same_updo rfl (same_updn (same_updo rfl (same_updo rfl (same_updo rfl (same_mov rfl (same_updo rfl (same_updo rfl (same_updn (same_updo rfl (same_updo rfl (same_updo rfl (same_mov rfl (same_updo rfl (same_updo rfl (same_mov rfl (same_mov rfl (same_updo rfl (same_updo rfl (same_mov rfl (same_updo rfl (same_updo rfl (same_updo rfl (same_updo rfl (same_updo rfl (same_mov rfl (same_mov rfl (same_mov rfl (same_updo rfl (same_updo rfl (same_mov rfl (same_mov rfl (same_mov rfl (same_mov rfl (same_mov rfl (same_mov rfl (same_mov rfl (same_know rfl (same_updo rfl same_ovr)))))))))))))))))))))))))))))))))))))))), i + 1, by omega, _, _, N1, N2, by omega, rfl, (by rw [recs_succ, List.map_append]; exact hN1), (by rw [recs_succ, List.map_append]; exact hN2), (H.pop (by assumption)).pop (by assumption)⟩
    · refine W_exit ?_
      refine (if_pos rfl).mpr ?_
      refine W_seq ?_
      ((obtain rfl : i = n := (by omega))) <;> refine W_region_l ?_
      refine WL_step rfl (R_loadA Tryz.isAgg88 Tryz.sizeOf88 rfl (H.get .here) rfl (by simp)) ?_
      (refine WL_effu rfl (E_storeA (vs := [(.slice _ _ _), (.slice _ _ _)]) H Tryz.sizeOf88 rfl rfl (by simp [Value.oneCell']) (.there .here) (by simp)) ?_; clear H; intro w84 H)
      refine WL_nil ?_
      refine W_ret ?_
      exact ⟨_, ⟨_, rfl, ldA Tryz.isAgg88 Tryz.sizeOf88 (H.get (.there .here)) rfl (by simp)⟩, _, _, _, _, rfl, hO1, hO2, (H.pop (by assumption)).pop (by assumption)⟩

abbrev pR (xs : List UInt8) := recs Slot.decP xs 0 24 8
abbrev fR (xs : List UInt8) := recs File.decP xs 192 8 12
abbrev qR (xs : List UInt8) := recs Ring.decP xs 288 40 4
abbrev tR (xs : List UInt8) := recs Ring.decP xs 448 40 1
abbrev gR (xs : List UInt8) := recs Cm.decG xs 488 4 1
def ns {α : Type} (l : List (α × Int)) : List Value := l.map fun r => I r.2
/-- all records, read -/
structure Al (w : World) (xa : Nat) (xs : List UInt8) : Prop where
  ex : ∃ p1 p2 f1 f2 q1 q2 t1 t2 g1 g2, w.heap[xa]? = some (blk [p1, p2, f1, f2, q1, q2, t1, t2, g1, g2] 90) ∧ RdR Slot.piC w p1 ((pR xs).map (·.1)) ∧ RdS w p2 (ns (pR xs)) ∧ RdR File.flC w f1 ((fR xs).map (·.1)) ∧ RdS w f2 (ns (fR xs)) ∧
    RdR Ring.piC w q1 ((qR xs).map (·.1)) ∧ RdS w q2 (ns (qR xs)) ∧ RdS w t2 (ns (tR xs)) ∧ RdS w g2 (ns (gR xs))
theorem Al.monoN {w w' : World} {xa : Nat} {xs : List UInt8} {L : List (Nat × Obj)} (h : Al w xa xs) (H : Hp w L w') (hn : ∀ p ∈ L, w.heap.size ≤ p.1) : Al w' xa xs := by
  obtain ⟨p1, p2, f1, f2, q1, q2, t1, t2, g1, g2, h1, h2, h3, h4, h5, h6, h7, h8, h9⟩ := h.ex
  exact ⟨p1, p2, f1, f2, q1, q2, t1, t2, g1, g2, H.blockN h1 hn, h2.monoN H hn, h3.monoN H hn, h4.monoN H hn, h5.monoN H hn, h6.monoN H hn, h7.monoN H hn, h8.monoN H hn, h9.monoN H hn⟩
theorem of_ret {xs : List UInt8} {w : World} {l : Value} (hl : RdS w l (xs.map U)) (hx : xs.length = 492) :
    Ret Tryz.prog 21 #[l] w fun v w' => ∃ xa M p1 p2 f1 f2 q1 q2 t1 t2 g1 g2, v = ptr xa 0 ∧ (∀ p ∈ M, w.heap.size ≤ p.1) ∧ (∀ w2, Kp M w2 → Al w2 xa xs ∧ w2.heap[xa]? = some (blk [p1, p2, f1, f2, q1, q2, t1, t2, g1, g2] 90) ∧ RdS w2 p2 (ns (pR xs)) ∧ RdS w2 f2 (ns (fR xs)) ∧ RdS w2 q2 (ns (qR xs)) ∧ RdS w2 t2 (ns (tR xs)) ∧ RdS w2 g2 (ns (gR xs))) ∧ Hp w M w' := by
  refine Ret_of_W (args := [_]) Tryz.func21 rfl Tryz.ntmps21 Tryz.results21 (by simp) ?_
  have H := Hp.refl w
  refine W_seq ?_
  refine W_region_l ?_
  refine WL_stepM rfl (R_as) ?_
  refine WL_nil ?_
  refine W_seq ?_
  refine W_region_l ?_
  refine WL_stepM rfl (R_mv) ?_
  (refine WL_call rfl (R_call rfl Tryz.call41 rfl) (readP_ret hl 0 8 (by omega) (by omega)) ?_; rintro _ w8 ⟨p1, p2, MA, MB, rfl, ha, hb, H1⟩; have hA := ha.keys; have hB := hb.keys; replace H := H.seqN H1 (by intro p hp; rcases List.mem_append.1 hp with h | h; exact hA p h; exact hB p h); clear H1; rw [List.append_nil] at H; have hK : ∀ p ∈ MA ++ MB, w.heap.size ≤ p.1 := (by intro p hp; rcases List.mem_append.1 hp with h | h; exact hA p h; exact hB p h))
  refine WL_stepM rfl (R_mv) ?_
  (refine WL_call rfl (R_call rfl Tryz.call43 rfl) (readF_ret (hl.monoN H hK) 192 12 (by omega) (by omega)) ?_; rintro _ w10 ⟨f1, f2, MC, MD, rfl, hc, hd, H1⟩; have hC := hc.keys; have hD := hd.keys; have hsz := H.size; replace H := H.seqN H1 (by intro p hp; rcases List.mem_append.1 hp with h | h; exact hC p h; exact hD p h); clear H1; replace hK : ∀ p ∈ MC ++ MD ++ (MA ++ MB), w.heap.size ≤ p.1 := (by intro p hp; rcases List.mem_append.1 hp with h | h; rcases List.mem_append.1 h with h | h; exact Nat.le_trans hsz (hC p h); exact Nat.le_trans hsz (hD p h); exact hK p h))
  refine WL_stepM rfl (R_mv) ?_
  (refine WL_call rfl (R_call rfl Tryz.call45 rfl) (readQ_ret (hl.monoN H hK) 288 4 (by omega) (by omega)) ?_; rintro _ w12 ⟨q1, q2, ME, MF, rfl, he, hf, H1⟩; have hE := he.keys; have hF := hf.keys; have hsz := H.size; replace H := H.seqN H1 (by intro p hp; rcases List.mem_append.1 hp with h | h; exact hE p h; exact hF p h); clear H1; replace hK : ∀ p ∈ ME ++ MF ++ (MC ++ MD ++ (MA ++ MB)), w.heap.size ≤ p.1 := (by intro p hp; rcases List.mem_append.1 hp with h | h; rcases List.mem_append.1 h with h | h; exact Nat.le_trans hsz (hE p h); exact Nat.le_trans hsz (hF p h); exact hK p h))
  refine WL_stepM rfl (R_mv) ?_
  (refine WL_call rfl (R_call rfl Tryz.call45 rfl) (readQ_ret (hl.monoN H hK) 448 1 (by omega) (by omega)) ?_; rintro _ w14 ⟨t1, t2, MG, MH, rfl, hg, hh, H1⟩; have hG := hg.keys; have hH := hh.keys; have hsz := H.size; replace H := H.seqN H1 (by intro p hp; rcases List.mem_append.1 hp with h | h; exact hG p h; exact hH p h); clear H1; replace hK : ∀ p ∈ MG ++ MH ++ (ME ++ MF ++ (MC ++ MD ++ (MA ++ MB))), w.heap.size ≤ p.1 := (by intro p hp; rcases List.mem_append.1 hp with h | h; rcases List.mem_append.1 h with h | h; exact Nat.le_trans hsz (hG p h); exact Nat.le_trans hsz (hH p h); exact hK p h))
  refine WL_stepM rfl (R_mv) ?_
  (refine WL_call rfl (R_call rfl Tryz.call47 rfl) (readG_ret (hl.monoN H hK) 488 1 (by omega) (by omega)) ?_; rintro _ w16 ⟨g1, g2, MI, MJ, rfl, hi, hj, H1⟩; have hI := hi.keys; have hJ := hj.keys; have hsz := H.size; replace H := H.seqN H1 (by intro p hp; rcases List.mem_append.1 hp with h | h; exact hI p h; exact hJ p h); clear H1; replace hK : ∀ p ∈ MI ++ MJ ++ (MG ++ MH ++ (ME ++ MF ++ (MC ++ MD ++ (MA ++ MB)))), w.heap.size ≤ p.1 := (by intro p hp; rcases List.mem_append.1 hp with h | h; rcases List.mem_append.1 h with h | h; exact Nat.le_trans hsz (hI p h); exact Nat.le_trans hsz (hJ p h); exact hK p h))
  refine WL_step rfl (R_buildL (places := [(0, 2), (2, 2), (4, 2), (6, 2), (8, 2)]) (vs := [p1, p2, f1, f2, q1, q2, t1, t2, g1, g2]) Tryz.underlying90 Tryz.typeInfo90 rfl rfl (by kernel_rfl) rfl rfl rfl) ?_
  (refine WL_effn rfl (E_box (vs := [p1, p2, f1, f2, q1, q2, t1, t2, g1, g2]) H rfl rfl) ?_; clear H; intro xa w18 hxa H)
  refine WL_stepM rfl (R_as) ?_
  refine WL_nil ?_
  refine W_ret ?_
  (refine ⟨_, rfl, xa, _, p1, p2, f1, f2, q1, q2, t1, t2, g1, g2, rfl, ?_, fun w2 hw => ?_, H⟩; (intro p hp; rcases List.mem_cons.1 hp with rfl | hp; exact hxa; exact hK p hp); have k1 := RdR.own Slot.piC_len ha (by simp [recs_len]) (fun p hp => hw p (by simp [hp])); have k2 := RdS.own hb (fun p hp => hw p (by simp [hp])); have k3 := RdR.own File.fl_len hc (by simp [recs_len]) (fun p hp => hw p (by simp [hp])); have k4 := RdS.own hd (fun p hp => hw p (by simp [hp])); have k5 := RdR.own Ring.piC_len he (by simp [recs_len]) (fun p hp => hw p (by simp [hp])); have k6 := RdS.own hf (fun p hp => hw p (by simp [hp])); have k7 := RdS.own hh (fun p hp => hw p (by simp [hp])); have k8 := RdS.own hj (fun p hp => hw p (by simp [hp])); exact ⟨⟨p1, p2, f1, f2, q1, q2, t1, t2, g1, g2, hw _ (.head _), k1, k2, k3, k4, k5, k6, k7, k8⟩, hw _ (.head _), k2, k4, k6, k7, k8⟩)
end Go.Proofs.YthonajikgljgmaaGreat.Aud

/-
  What is sound of records: parents, references, ends.
-/
namespace Go.Proofs.YthonajikgljgmaaGreat.Aud
open Go Go.Proofs Go.Proofs.YthonajikgljgmaaGreat.Fx
set_option maxRecDepth 100000
set_option linter.unusedVariables false
set_option linter.unusedSimpArgs false
set_option maxHeartbeats 8000000

def pd (xs : List UInt8) (j : Nat) : Slot.Pi := (Slot.decP (win xs (0 + 24 * j) 24)).1
def pis (xs : List UInt8) (j : Nat) : Int := (Slot.decP (win xs (0 + 24 * j) 24)).2
def fd (xs : List UInt8) (j : Nat) : File.Fl := (File.decP (win xs (192 + 8 * j) 8)).1
def fis (xs : List UInt8) (j : Nat) : Int := (File.decP (win xs (192 + 8 * j) 8)).2
def qd (xs : List UInt8) (j : Nat) : Ring.Pi := (Ring.decP (win xs (288 + 40 * j) 40)).1
def qis (xs : List UInt8) (j : Nat) : Int := (Ring.decP (win xs (288 + 40 * j) 40)).2
theorem recs_get {α : Type} {dec : List UInt8 → α × Int} {xs : List UInt8} {a sz n j : Nat} (h : j < n) : (recs dec xs a sz n)[j]? = some (dec (win xs (a + sz * j) sz)) := by
  unfold recs; rw [List.getElem?_map, List.getElem?_range h]; rfl
theorem ns_get {α : Type} {dec : List UInt8 → α × Int} {xs : List UInt8} {a sz n j : Nat} (h : j < n) : (ns (recs dec xs a sz n))[j]? = some (I (dec (win xs (a + sz * j) sz)).2) := by
  unfold ns; rw [List.getElem?_map, recs_get h]; rfl
theorem fst_get {α : Type} {dec : List UInt8 → α × Int} {xs : List UInt8} {a sz n j : Nat} (h : j < n) : ((recs dec xs a sz n).map (·.1))[j]? = some (dec (win xs (a + sz * j) sz)).1 := by
  rw [List.getElem?_map, recs_get h]; rfl
theorem ns_len {α : Type} {dec : List UInt8 → α × Int} {xs : List UInt8} {a sz n : Nat} : (ns (recs dec xs a sz n)).length = n := by simp [ns, recs_len]
theorem pd_p (xs : List UInt8) (j : Nat) : 0 ≤ (pd xs j).p ∧ (pd xs j).p ≤ 8 := by
  unfold pd Slot.decP
  split
  · exact ⟨by decide, by decide⟩
  · split
    · rename_i h; exact h.2.1.1.2.1
    · exact ⟨by decide, by decide⟩
theorem pd_f (xs : List UInt8) (j : Nat) : ∀ f ∈ (pd xs j).f, 0 ≤ f ∧ f ≤ 12 := by
  have h0 : ∀ f ∈ Slot.zeroP.f, 0 ≤ f ∧ f ≤ 12 := fun f hf => by rw [List.eq_of_mem_replicate hf]; decide
  unfold pd Slot.decP
  split
  · exact h0
  · split
    · rename_i h; exact h.2.1.2.2.1
    · exact h0
theorem fd_p (xs : List UInt8) (j : Nat) : 0 ≤ (fd xs j).p ∧ (fd xs j).p ≤ 7 := by
  unfold fd File.decP
  split
  · exact ⟨by decide, by decide⟩
  · split
    · rename_i h; exact h.2.1.2.1
    · exact ⟨by decide, by decide⟩
theorem thereP_ret {w : World} {u1 u2 : Value} {vs : List Value} {j : Nat} {n : Int} (h : RdS w u2 vs) (hj : vs[j]? = some (I n)) (hb : vs.length ≤ 100000) :
    Ret Tryz.prog 49 #[.agg #[u1, u2], I j] w fun v w' => v = .bool (decide (n = 1)) ∧ Hp w [] w' := by
  refine Ret_of_W (args := [_, _]) Tryz.func49 rfl Tryz.ntmps49 Tryz.results49 (by simp) ?_
  have H := Hp.refl w
  obtain ⟨ao, ca, rfl, hca, hra⟩ := id h
  obtain ⟨b1, o1, rfl, hc1⟩ := h.cell hj
  have hjl := (List.getElem?_eq_some_iff.1 hj).1
  refine W_seq ?_
  refine W_region_l ?_
  (refine WL_effn rfl (E_box (vs := [u1, sl b1 o1 vs.length ca]) H rfl rfl) ?_; clear H; intro c2 w3 hc2 H)
  refine WL_stepM rfl (R_as) ?_
  refine WL_nil ?_
  refine W_seq ?_
  refine W_region_l ?_
  refine WL_step rfl (R_fieldAddr (off' := 1) Tryz.underlying80 rfl Tryz.sizeOf52 (by decide) rfl rfl) ?_
  refine WL_step rfl (R_load Tryz.isAgg52 rfl (H.get .here) rfl) ?_
  refine WL_stepM rfl (R_mv) ?_
  refine WL_step rfl (R_indexAddr Tryz.underlying52 Tryz.sizeOf3 rfl rfl (by omega) (by omega) idx_cast1) ?_
  refine WL_step rfl (R_load_cell Tryz.isAgg3 rfl (H.cellN hc1 (by repeat' first | exact kNil | apply kCons | apply kApp | assumption | exact OwnS.keys (by assumption)))) ?_
  refine WL_step rfl (R_eq rfl rfl) ?_
  refine WL_stepM rfl (R_as) ?_
  refine WL_nil ?_
  refine W_ret ?_
  exact ⟨_, rfl, rfl, H.none (by repeat' first | exact kNil | apply kCons | apply kApp | assumption | exact OwnS.keys (by assumption))⟩
theorem thereF_ret {w : World} {u1 u2 : Value} {vs : List Value} {j : Nat} {n : Int} (h : RdS w u2 vs) (hj : vs[j]? = some (I n)) (hb : vs.length ≤ 100000) :
    Ret Tryz.prog 54 #[.agg #[u1, u2], I j] w fun v w' => v = .bool (decide (n = 1)) ∧ Hp w [] w' := by
  refine Ret_of_W (args := [_, _]) Tryz.func54 rfl Tryz.ntmps54 Tryz.results54 (by simp) ?_
  have H := Hp.refl w
  obtain ⟨ao, ca, rfl, hca, hra⟩ := id h
  obtain ⟨b1, o1, rfl, hc1⟩ := h.cell hj
  have hjl := (List.getElem?_eq_some_iff.1 hj).1
  refine W_seq ?_
  refine W_region_l ?_
  (refine WL_effn rfl (E_box (vs := [u1, sl b1 o1 vs.length ca]) H rfl rfl) ?_; clear H; intro c2 w3 hc2 H)
  refine WL_stepM rfl (R_as) ?_
  refine WL_nil ?_
  refine W_seq ?_
  refine W_region_l ?_
  refine WL_step rfl (R_fieldAddr (off' := 1) Tryz.underlying83 rfl Tryz.sizeOf52 (by decide) rfl rfl) ?_
  refine WL_step rfl (R_load Tryz.isAgg52 rfl (H.get .here) rfl) ?_
  refine WL_stepM rfl (R_mv) ?_
  refine WL_step rfl (R_indexAddr Tryz.underlying52 Tryz.sizeOf3 rfl rfl (by omega) (by omega) idx_cast1) ?_
  refine WL_step rfl (R_load_cell Tryz.isAgg3 rfl (H.cellN hc1 (by repeat' first | exact kNil | apply kCons | apply kApp | assumption | exact OwnS.keys (by assumption)))) ?_
  refine WL_step rfl (R_eq rfl rfl) ?_
  refine WL_stepM rfl (R_as) ?_
  refine WL_nil ?_
  refine W_ret ?_
  exact ⟨_, rfl, rfl, H.none (by repeat' first | exact kNil | apply kCons | apply kApp | assumption | exact OwnS.keys (by assumption))⟩
theorem thereQ_ret {w : World} {u1 u2 : Value} {vs : List Value} {j : Nat} {n : Int} (h : RdS w u2 vs) (hj : vs[j]? = some (I n)) (hb : vs.length ≤ 100000) :
    Ret Tryz.prog 59 #[.agg #[u1, u2], I j] w fun v w' => v = .bool (decide (n = 1)) ∧ Hp w [] w' := by
  refine Ret_of_W (args := [_, _]) Tryz.func59 rfl Tryz.ntmps59 Tryz.results59 (by simp) ?_
  have H := Hp.refl w
  obtain ⟨ao, ca, rfl, hca, hra⟩ := id h
  obtain ⟨b1, o1, rfl, hc1⟩ := h.cell hj
  have hjl := (List.getElem?_eq_some_iff.1 hj).1
  refine W_seq ?_
  refine W_region_l ?_
  (refine WL_effn rfl (E_box (vs := [u1, sl b1 o1 vs.length ca]) H rfl rfl) ?_; clear H; intro c2 w3 hc2 H)
  refine WL_stepM rfl (R_as) ?_
  refine WL_nil ?_
  refine W_seq ?_
  refine W_region_l ?_
  refine WL_step rfl (R_fieldAddr (off' := 1) Tryz.underlying86 rfl Tryz.sizeOf52 (by decide) rfl rfl) ?_
  refine WL_step rfl (R_load Tryz.isAgg52 rfl (H.get .here) rfl) ?_
  refine WL_stepM rfl (R_mv) ?_
  refine WL_step rfl (R_indexAddr Tryz.underlying52 Tryz.sizeOf3 rfl rfl (by omega) (by omega) idx_cast1) ?_
  refine WL_step rfl (R_load_cell Tryz.isAgg3 rfl (H.cellN hc1 (by repeat' first | exact kNil | apply kCons | apply kApp | assumption | exact OwnS.keys (by assumption)))) ?_
  refine WL_step rfl (R_eq rfl rfl) ?_
  refine WL_stepM rfl (R_as) ?_
  refine WL_nil ?_
  refine W_ret ?_
  exact ⟨_, rfl, rfl, H.none (by repeat' first | exact kNil | apply kCons | apply kApp | assumption | exact OwnS.keys (by assumption))⟩
def ownF (f : File.Fl) : Prop := (f.k = 1 ∨ f.k = 2) ∧ f.p < 4
instance (f : File.Fl) : Decidable (ownF f) := by unfold ownF; infer_instance
theorem own_ret (f : File.Fl) (w : World) : Ret Tryz.prog 58 #[File.vF f] w fun v w' => v = .bool (decide (ownF f)) ∧ Hp w [] w' := by
  refine Ret_of_W (args := [_]) Tryz.func58 rfl Tryz.ntmps58 Tryz.results58 (by simp) ?_
  have H := Hp.refl w
  refine W_seq ?_
  refine W_region_l ?_
  (refine WL_effn rfl (File.E_boxL H rfl) ?_; clear H; intro c1 w3 hc1 H; replace H : Hp w [(c1, blk [I f.k, I f.p, I f.r, I f.g] 39)] w3 := H)
  refine WL_stepM rfl (R_as) ?_
  refine WL_nil ?_
  refine W_seq ?_
  refine W_region_l ?_
  refine WL_step rfl (R_fieldAddr (off' := 0) Tryz.underlying39 rfl Tryz.sizeOf3 (by decide) rfl rfl) ?_
  refine WL_step rfl (R_load Tryz.isAgg3 rfl (H.get .here) rfl) ?_
  refine WL_step rfl (R_eq rfl rfl) ?_
  refine WL_stepM rfl (R_mv) ?_
  apply WL_orK 4 6 10 [(7, 10)] H
  case hc => rfl
  case h1 =>
    intro h12
    refine WL_guard_t rfl rfl ?_
    refine WL_step rfl (R_fieldAddr (off' := 0) Tryz.underlying39 rfl Tryz.sizeOf3 (by decide) rfl rfl) ?_
    refine WL_guard_t rfl rfl ?_
    refine WL_step rfl (R_load Tryz.isAgg3 rfl (H.get .here) rfl) ?_
    refine WL_guard_t rfl rfl ?_
    refine WL_step rfl (R_eq rfl rfl) ?_
    refine WL_stepM rfl (R_pk_f rfl) ?_
    refine WL_nil ?_
    exact ⟨(same_mov rfl (same_updo rfl (same_updo rfl (same_updo rfl Same.refl)))), rfl, H⟩
  case h0 =>
    intro h12
    refine WL_guard_f rfl rfl (by decide) ?_
    refine WL_guard_f rfl rfl (by decide) ?_
    refine WL_guard_f rfl rfl (by decide) ?_
    refine WL_stepM rfl (R_pk_t rfl) ?_
    refine WL_nil ?_
    exact ⟨(same_mov rfl (same_updo rfl (same_updo rfl (same_updo rfl Same.refl)))), rfl, H⟩
  case h2 =>
    (clear H; intro E12 w12 H)
    refine WL_stepM rfl (R_mv) ?_
    apply WL_andK 4 11 15 [(12, 15)] H
    case hc => rfl
    case h1 =>
      intro h29
      refine WL_guard_t rfl rfl ?_
      refine WL_step rfl (R_fieldAddr (off' := 1) Tryz.underlying39 rfl Tryz.sizeOf3 (by decide) rfl rfl) ?_
      refine WL_guard_t rfl rfl ?_
      refine WL_step rfl (R_load Tryz.isAgg3 rfl (H.get .here) rfl) ?_
      refine WL_guard_t rfl rfl ?_
      refine WL_step rfl (R_lt rfl rfl) ?_
      refine WL_stepM rfl (R_pk_t rfl) ?_
      refine WL_nil ?_
      exact ⟨(same_mov rfl (same_updo rfl (same_updo rfl (same_updo rfl Same.refl)))), rfl, H⟩
    case h0 =>
      intro h29
      refine WL_guard_f rfl rfl (by decide) ?_
      refine WL_guard_f rfl rfl (by decide) ?_
      refine WL_guard_f rfl rfl (by decide) ?_
      refine WL_stepM rfl (R_pk_f rfl) ?_
      refine WL_nil ?_
      exact ⟨(same_mov rfl (same_updo rfl (same_updo rfl (same_updo rfl Same.refl)))), rfl, H⟩
    case h2 =>
      (clear H; intro E29 w29 H)
      refine WL_stepM rfl (R_as) ?_
      refine WL_nil ?_
      refine W_ret ?_
      exact ⟨_, rfl, congrArg Value.bool (decide_eq_decide.2 (by unfold ownF; omega)), H.none (by repeat' first | exact kNil | apply kCons | apply kApp | assumption | exact OwnS.keys (by assumption))⟩
/-- how many descriptors name a file -/
def nmTo (xs : List UInt8) (f n : Nat) : Nat := ((List.range n).map fun j => (pd xs j).f.count ((f : Int) + 1)).sum
def nm (xs : List UInt8) (f : Nat) : Nat := nmTo xs f 8
theorem nmTo_succ (xs : List UInt8) (f n : Nat) : nmTo xs f (n + 1) = nmTo xs f n + (pd xs n).f.count ((f : Int) + 1) := by
  unfold nmTo; rw [List.range_succ, List.map_append, List.sum_append]; simp
theorem nmTo_le (xs : List UInt8) (f : Nat) : ∀ n, nmTo xs f n ≤ 8 * n
  | 0 => by simp [nmTo]
  | n + 1 => by
    have h1 := nmTo_le xs f n
    have h2 := List.count_le_length (a := (f : Int) + 1) (l := (pd xs n).f)
    rw [(pd xs n).hf] at h2
    rw [nmTo_succ]; omega
theorem names_ret {w : World} {xa : Nat} {xs : List UInt8} (hA : Al w xa xs) (f : Nat) (hf : f < 12) :
    Ret Tryz.prog 55 #[ptr xa 0, I f] w fun v w' => v = I (nm xs f) ∧ Hp w [] w' := by
  refine Ret_of_W (args := [_, _]) Tryz.func55 rfl Tryz.ntmps55 Tryz.results55 (by simp) ?_
  have H := Hp.refl w
  obtain ⟨p1, p2, f1, f2, q1, q2, t1, t2, g1, g2, hx, hp1, hp2, hf1, hf2, hq1, hq2, ht2, hg2⟩ := hA.ex
  obtain ⟨ap, cp, rfl⟩ := hp1.form
  simp only [List.length_map, recs_len] at hp1 hx ⊢
  refine W_seq ?_
  refine W_region_l ?_
  refine WL_stepM rfl (R_as) ?_
  refine WL_nil ?_
  refine W_seq ?_
  refine W_region_l ?_
  refine WL_stepM rfl (R_as) ?_
  refine WL_nil ?_
  refine W_seq ?_
  refine W_seq ?_
  refine W_region_l ?_
  refine WL_stepM rfl (R_mv) ?_
  refine WL_step rfl (R_nilCheck rfl) ?_
  refine WL_step rfl (R_fieldAddr (off' := 0) Tryz.underlying90 rfl Tryz.sizeOf80 (by decide) rfl rfl) ?_
  refine WL_step rfl (R_fieldAddr (off' := 0) Tryz.underlying80 rfl Tryz.sizeOf78 (by decide) rfl rfl) ?_
  refine WL_step rfl (R_load (v := .slice ap 8 cp) Tryz.isAgg78 rfl (H.blockN hx (by repeat' first | exact kNil | apply kCons | apply kApp | assumption | exact OwnS.keys (by assumption))) rfl) ?_
  refine WL_step rfl (R_len_slice Tryz.underlying78 rfl) ?_
  refine WL_stepM rfl (R_mv) ?_
  refine WL_nil ?_
  refine W_block ?_
  refine W_loopS [(5, 5), (7, 7), (9, 9), (16, 32)] (fun (i : Nat) E w' => i ≤ 8 ∧ E 16 = I i ∧ E 5 = I (nmTo xs f i) ∧ Hp w [] w') (fun i => 8 - i) 0 ?e0 ?r0
  · exact ⟨by omega, rfl, rfl, H⟩
  · (clear H; rintro i E w1 ⟨hi, h16, h5, H⟩; refine W_kn2 h16 h5 ?_)
    refine W_seq ?_
    refine W_region_l ?_
    refine WL_step rfl (R_lt rfl rfl) ?_
    refine WL_nil ?_
    refine W_seq ?_
    refine W_if rfl (fun h28 => ?_) (fun h28 => ?_)
    · refine W_skip ?_
      refine W_seq ?_
      refine W_block ?_
      refine W_seq ?_
      ((obtain ⟨b1, o1, rfl, hc1⟩ := hp1.cell Slot.piC_len (fst_get (show i < 8 by omega)); have hp : ∃ p : Slot.Pi, pd xs i = p := ⟨_, rfl⟩; obtain ⟨p, hp⟩ := hp; replace hc1 : ∀ j v, (Slot.piC p)[j]? = some v → w.cell? ⟨b1, o1 + i * 16 + j, none⟩ = some v := (by rw [← hp]; exact hc1); have hpf := p.hf; have hnt := nmTo_le xs f i)) <;> refine W_region_l ?_
      refine WL_step rfl (R_indexAddr Tryz.underlying78 Tryz.sizeOf36 rfl rfl (by omega) (by omega) idx_castn) ?_
      refine WL_step rfl (R_loadA_cell (vs := Slot.piC p) Tryz.isAgg36 Tryz.sizeOf36 rfl (fun j v hj => H.cellN (hc1 j v hj) (by repeat' first | exact kNil | apply kCons | apply kApp | assumption | exact OwnS.keys (by assumption))) (Slot.piC_len p)) ?_
      (refine WL_effn rfl (Slot.E_allocP H) ?_; clear H; intro c7 w36 hc7 H)
      (refine WL_effu rfl (Slot.E_storeP H rfl rfl .here) ?_; clear H; intro w37 H)
      refine WL_nil ?_
      refine W_seq ?_
      refine W_region_l ?_
      refine WL_step rfl (R_fieldAddr (off' := 8) Tryz.underlying36 rfl Tryz.sizeOf34 (by decide) rfl rfl) ?_
      refine WL_step rfl (R_loadA (vs := p.f.map fun x => I x) Tryz.isAgg34 Tryz.sizeOf34 rfl (H.get .here) (by show ((Slot.piC p).drop 8).take 8 = _; unfold Slot.piC; rw [List.drop_left' (by simp), List.take_of_length_le (by simp [hpf])]) (by rw [Slot.piC_len]; decide)) ?_
      refine WL_stepM rfl (R_mv) ?_
      refine WL_nil ?_
      refine W_block ?_
      refine W_loopS [(5, 5), (9, 9), (22, 31)] (fun (k : Nat) E w' => k ≤ 8 ∧ E 22 = I k ∧ E 5 = I (nmTo xs f i + (p.f.take k).count ((f : Int) + 1) : Nat) ∧ Hp w [(c7, blk (Slot.piC p) 36)] w') (fun k => 8 - k) 0 ?e2 ?r2
      · exact ⟨by omega, rfl, rfl, H⟩
      · (clear H; rintro k E w1 ⟨hk, h22, h5, H⟩; refine W_kn2 h22 h5 ?_)
        refine W_seq ?_
        refine W_region_l ?_
        refine WL_step rfl (R_lt rfl rfl) ?_
        refine WL_nil ?_
        refine W_seq ?_
        refine W_if rfl (fun h53 => ?_) (fun h53 => ?_)
        · refine W_skip ?_
          refine W_seq ?_
          refine W_block ?_
          refine W_seq ?_
          ((obtain ⟨d, hd⟩ : ∃ d, p.f[k]? = some d := ⟨_, List.getElem?_eq_getElem (by omega)⟩; have htk : p.f.take (k + 1) = p.f.take k ++ [d] := (by rw [List.take_succ_eq_append_getElem (by omega : k < p.f.length), (List.getElem?_eq_some_iff.1 hd).2]); have hct := List.count_le_length (a := (f : Int) + 1) (l := p.f.take k); have hctl : (p.f.take k).length ≤ 8 := (by rw [List.length_take]; omega))) <;> refine W_region_l ?_
          refine WL_step rfl (R_index (i := (k : Int)) (v := I d) Tryz.underlying34 Tryz.isAgg3 Tryz.sizeOf3 rfl rfl (by omega) (by omega) (by simp [hd])) ?_
          refine WL_stepM rfl (R_as) ?_
          refine WL_nil ?_
          refine W_seq ?_
          refine W_region_l ?_
          refine WL_stepM rfl (R_mv) ?_
          refine WL_stepM rfl (R_mv) ?_
          refine WL_step rfl (R_add rfl rfl (w_i64 (by omega))) ?_
          refine WL_step rfl (R_eq rfl rfl) ?_
          refine WL_nil ?_
          refine W_if rfl (fun h69 => ?_) (fun h69 => ?_)
          · refine W_region_l ?_
            refine WL_stepM rfl (R_mv) ?_
            refine WL_step rfl (R_add rfl rfl (w_i64 (by omega))) ?_
            refine WL_stepM rfl (R_as) ?_
            refine WL_nil ?_
            refine W_region_l ?_
            refine WL_step rfl (R_add rfl rfl (w_i64 (by omega))) ?_
            refine WL_stepM rfl (R_mv) ?_
            refine WL_nil ?_
            (have hdd : d = (f : Int) + 1 := (by omega); exact ⟨(same_mov rfl (same_updo rfl (same_mov rfl (same_updo rfl (same_mov rfl (same_know rfl (same_updo rfl (same_updo rfl (same_mov rfl (same_mov rfl (same_mov rfl (same_updo rfl (same_know rfl (same_updo rfl same_ovr)))))))))))))), k + 1, by omega, by omega, rfl, (by rw [htk, List.count_append, hdd, List.count_singleton_self]; exact congrArg (Value.int .i64) (by omega)), H⟩)
          · refine W_skip ?_
            refine W_region_l ?_
            refine WL_step rfl (R_add rfl rfl (w_i64 (by omega))) ?_
            refine WL_stepM rfl (R_mv) ?_
            refine WL_nil ?_
            (have hdd : ¬ d = (f : Int) + 1 := (by omega); exact ⟨(same_mov rfl (same_updo rfl (same_know rfl (same_updo rfl (same_updo rfl (same_mov rfl (same_mov rfl (same_mov rfl (same_updo rfl (same_know rfl (same_updo rfl same_ovr))))))))))), k + 1, by omega, by omega, rfl, (by rw [htk, List.count_append, List.count_eq_zero.2 (fun hm => hdd (List.mem_singleton.1 hm).symm)]; rfl), H⟩)
        · refine W_exit ?_
          refine (if_pos rfl).mpr ?_
          ((obtain rfl : k = 8 := (by omega); have hstep : nmTo xs f (i + 1) = nmTo xs f i + (p.f.take 8).count ((f : Int) + 1) := (by rw [nmTo_succ, hp, List.take_of_length_le (by omega)]))) <;> refine W_region_l ?_
          refine WL_step rfl (R_add rfl rfl (w_i64 (by omega))) ?_
          refine WL_stepM rfl (R_mv) ?_
          refine WL_nil ?_
          exact ⟨(same_mov rfl (same_updo rfl (same_know rfl (same_updo rfl (same_in rfl (same_mov rfl (same_updo rfl (same_updo rfl (same_updn (same_updo rfl (same_updo rfl (same_updo rfl (same_know rfl (same_updo rfl same_ovr)))))))))))))), i + 1, by omega, by omega, rfl, (by rw [hstep]; rfl), H.pop (by assumption)⟩
    · refine W_exit ?_
      refine (if_pos rfl).mpr ?_
      refine W_seq ?_
      ((obtain rfl : i = 8 := (by omega))) <;> refine W_region_l ?_
      refine WL_stepM rfl (R_mv) ?_
      refine WL_stepM rfl (R_as) ?_
      refine WL_nil ?_
      refine W_ret ?_
      exact ⟨_, rfl, rfl, H⟩
end Go.Proofs.YthonajikgljgmaaGreat.Aud
