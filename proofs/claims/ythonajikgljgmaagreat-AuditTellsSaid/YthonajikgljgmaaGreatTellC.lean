/-
  The document's faults of bytes, none of whose records is bad.
-/
import Derived.Test.YthonajikgljgmaaGreatTellM1
namespace Go.Proofs.YthonajikgljgmaaGreat.Aud
open Go Go.Proofs Go.Proofs.YthonajikgljgmaaGreat.Fx
set_option maxRecDepth 100000
set_option linter.unusedVariables false
set_option linter.unusedSimpArgs false
set_option maxHeartbeats 64000000

theorem badN_nil' {K : Int} {is : Nat → Int} {n : Nat} (h : badN K is n = []) : ∀ j, j < n → is j ≠ 2 := by
  intro j hj h2
  have := List.map_eq_nil_iff.1 h
  exact absurd (List.filter_eq_nil_iff.1 this j (List.mem_range.2 hj)) (by simp [h2])
theorem badAll_nil' {xs : List UInt8} (h : badAll xs = []) : (∀ j, j < 8 → pis xs j ≠ 2) ∧ (∀ j, j < 12 → fis xs j ≠ 2) ∧ (∀ j, j < 4 → qis xs j ≠ 2) ∧
    (∀ j, j < 1 → (Ring.decP (win xs (448 + 40 * j) 40)).2 ≠ 2) ∧ (∀ j, j < 1 → (Cm.decG (win xs (488 + 4 * j) 4)).2 ≠ 2) := by
  unfold badAll at h
  simp only [List.append_eq_nil_iff] at h
  obtain ⟨⟨⟨⟨h1, h2⟩, h3⟩, h4⟩, h5⟩ := h
  exact ⟨badN_nil' h1, badN_nil' h2, badN_nil' h3, badN_nil' h4, badN_nil' h5⟩
theorem orB {A : Bool} {p : Prop} {i1 : Decidable (A = true ∨ p)} [i2 : Decidable p] : @decide (A = true ∨ p) i1 = (A || decide p) := by
  cases A <;> simp
theorem parB_z {xs : List UInt8} {i : Nat} (h : pd xs i = Slot.zeroP) : parB xs i = false := by unfold parB; rw [h]; exact decide_eq_false (fun hh => absurd hh.1 (by decide))
theorem fdB_z {xs : List UInt8} {i : Nat} (h : pd xs i = Slot.zeroP) : fdB xs i = false := by
  unfold fdB; rw [h]
  rw [List.any_eq_false]
  intro f hf
  rw [List.eq_of_mem_replicate hf]; simp [fdOne]
theorem nm_z {xs : List UInt8} {i : Nat} (h : pd xs i = Slot.zeroP) : refsV (fun f => nmTo xs f (i + 1)) = refsV (fun f => nmTo xs f i) := refsV_congr fun f _ => by
  rw [nmTo_succ, h, List.count_eq_zero.2 (fun hm => by have := List.eq_of_mem_replicate hm; omega)]; rfl
theorem refB_z {xs : List UInt8} {i : Nat} (h : fis xs i = 0) : refB xs i = false := by unfold refB; rw [h]; exact decide_eq_false (fun hh => absurd hh.1 (by decide))
theorem own_z {xs : List UInt8} {i : Nat} (h : fd xs i = File.zeroF) : ¬ ownF (fd xs i) := by rw [h]; decide
theorem pipB_no {xs : List UInt8} {i : Nat} (h : ¬ ownF (fd xs i)) : pipB xs i = false := by unfold pipB; exact decide_eq_false (fun hh => h hh.1)
theorem endB_z {xs : List UInt8} {i : Nat} (h : qis xs i = 0) : endB xs i = false := by unfold endB; rw [h]; exact decide_eq_false (fun hh => absurd hh.1 (by decide))

theorem fdOne_s {xs : List UInt8} {m : Nat} (h : ((fd xs m).k = 0 ∧ fis xs m = 0) ∨ (1 ≤ (fd xs m).k ∧ fis xs m = 1)) : fdOne xs ((m : Int) + 1) = decide ((fd xs m).k = 0) := by
  unfold fdOne
  rw [Int.add_sub_cancel, Int.toNat_natCast]
  exact decide_eq_decide.2 (by omega)
theorem refB_1 {xs : List UInt8} {i : Nat} (h : fis xs i = 1) : refB xs i = decide (¬ (fd xs i).r = nm xs i) := by unfold refB; exact decide_eq_decide.2 ⟨fun hh => hh.2, fun hh => ⟨h, hh⟩⟩
theorem endO {f : File.Fl} {q : Bool} (h : ownF f) (hq : decide (f.k = 1) = q) : ∃ o : Nat, f.k - 1 = (o : Int) ∧ o = (if q = true then 0 else 1) ∧ o < 2 := by
  subst hq
  rcases h.1 with h1 | h1
  · exact ⟨0, by omega, by rw [if_pos (by rw [h1]; rfl)], by decide⟩
  · exact ⟨1, by omega, by rw [if_neg (by rw [h1]; decide)], by decide⟩
theorem pipB_1 {xs : List UInt8} {i P : Nat} (h : ownF (fd xs i)) (hp : (fd xs i).p = (P : Int)) (hq : qis xs P ≠ 2) : pipB xs i = decide (qis xs P = 0) := by
  unfold pipB
  rw [hp, Int.toNat_natCast]
  refine decide_eq_decide.2 ⟨fun hh => ?_, fun hh => ⟨h, by omega⟩⟩
  rcases qcase hq with ⟨h1, _⟩ | h1
  · exact h1
  · exact absurd h1 hh.2
theorem endB_1 {xs : List UInt8} {i : Nat} {b : Bool} (h : qis xs i = 1) (hb : (qd xs i).r ≠ endN xs i true 12 ∨ (qd xs i).w ≠ endN xs i false 12 ∨ ((qd xs i).r = 0 ∧ (qd xs i).w = 0)) : endB xs i = true := by
  unfold endB; exact decide_eq_true ⟨h, by omega⟩
theorem endB_2 {xs : List UInt8} {i : Nat} (h : qis xs i = 1) (hb : (qd xs i).r = endN xs i true 12 ∧ (qd xs i).w = endN xs i false 12 ∧ (qd xs i).r = 0) : endB xs i = decide ((qd xs i).w = 0) := by
  unfold endB; exact decide_eq_decide.2 ⟨fun hh => by omega, fun hh => ⟨h, by omega⟩⟩
theorem endB_0 {xs : List UInt8} {i : Nat} (h : qis xs i = 1) (hb : (qd xs i).r = endN xs i true 12 ∧ (qd xs i).w = endN xs i false 12 ∧ ¬ ((qd xs i).r = 0 ∧ (qd xs i).w = 0)) : endB xs i = false := by
  unfold endB; exact decide_eq_false (fun hh => by omega)

theorem refFaults_good {xs : List UInt8} (hx : xs.length = 492) (hb : badAll xs = []) (w : World) :
    Ret Tryz.prog 6 #[S xs] w fun v w' => ∃ M, OwnS w.heap.size 9 1 v (faults xs).length ((faults xs).map S) M ∧ Hp w M w' := by
  refine Ret_of_W (args := [_]) Tryz.func6 rfl Tryz.ntmps6 Tryz.results6 (by simp) ?_
  have H := Hp.refl w
  have hf : faults xs = told (flags xs) := if_pos ⟨hx, hb⟩
  rw [hf]
  obtain ⟨hP, hF, hQ, _, _⟩ := badAll_nil' hb
  have hO := OwnS.nil w.heap.size 9 1
  have lP := PL_len xs
  have lF := FL_len xs
  have lQ := QL_len xs
  obtain ⟨Ps, hPs⟩ : ∃ P, PL xs = P := ⟨_, rfl⟩
  obtain ⟨Fs, hFs⟩ : ∃ P, FL xs = P := ⟨_, rfl⟩
  obtain ⟨Qs, hQs⟩ : ∃ P, QL xs = P := ⟨_, rfl⟩
  rw [hPs] at lP
  rw [hFs] at lF
  rw [hQs] at lQ
  have gP : ∀ j, j < 8 → Ps[j]? = some (pd xs j) := fun j hj => by rw [← hPs]; exact PL_get hj
  have gF : ∀ j, j < 12 → Fs[j]? = some (fd xs j) := fun j hj => by rw [← hFs]; exact FL_get hj
  have gQ : ∀ j, j < 4 → Qs[j]? = some (qd xs j) := fun j hj => by rw [← hQs]; exact QL_get hj
  obtain ⟨rP, hrP⟩ : ∃ l, rows Slot.piC (List.replicate 8 Slot.zeroP) = l := ⟨_, rfl⟩
  obtain ⟨rF, hrF⟩ : ∃ l, rows File.flC (List.replicate 12 File.zeroF) = l := ⟨_, rfl⟩
  obtain ⟨rQ, hrQ⟩ : ∃ l, rows Ring.piC (List.replicate 4 Ring.zeroP) = l := ⟨_, rfl⟩
  have zP : rP.length = 128 := by rw [← hrP]; rfl
  have zF : rF.length = 48 := by rw [← hrF]; rfl
  have zQ : rQ.length = 144 := by rw [← hrQ]; rfl
  have yP : (rows Slot.piC Ps).length = 128 := by rw [rows_length Slot.piC_len, lP]
  have yF : (rows File.flC Fs).length = 48 := by rw [rows_length File.fl_len, lF]
  have yQ : (rows Ring.piC Qs).length = 144 := by rw [rows_length Ring.piC_len, lQ]
  refine W_seq ?_
  refine W_region_l ?_
  refine WL_stepM rfl (R_as) ?_
  refine WL_nil ?_
  refine W_seq ?_
  refine W_seq ?_
  refine W_region_l ?_
  refine WL_stepM rfl (R_mv) ?_
  refine WL_step rfl (R_len_S Tryz.underlying9 rfl) ?_
  refine WL_step rfl (R_ne_f rfl rfl (by omega)) ?_
  refine WL_nil ?_
  refine W_cond_f rfl ?_
  refine W_skip ?_
  refine W_seq ?_
  refine W_region_l ?_
  refine WL_stepM rfl (R_mv) ?_
  (refine WL_call rfl (R_call rfl Tryz.call9 rfl) (records_ret hx _) ?_; rintro _ w17 ⟨_, MB, rfl, hOB, H1⟩; rw [hPs, hFs, hQs]; have h17 := H.seqO hOB H1; clear H H1 hOB; obtain ⟨hOB, H⟩ := h17; rw [hb, show ([] : List (Int × Int)).length = 0 from rfl] at hOB; obtain ⟨fb, gb, rfl⟩ := hOB.form; replace H := Hp.dropN (M := MB) H hOB.keys)
  refine WL_stepM rfl (R_mv) ?_
  refine WL_step rfl (R_extract rfl rfl) ?_
  refine WL_step rfl (R_extract rfl rfl) ?_
  refine WL_step rfl (R_extract rfl rfl) ?_
  refine WL_step rfl (R_extract rfl rfl) ?_
  (refine WL_effn rfl (E_alloc (vs := rP) H Tryz.zeroValue37 (by rw [← hrP]; kernel_rfl)) ?_; clear H; intro c3 w23 hc3 H)
  (refine WL_effn rfl (E_alloc (vs := rF) H Tryz.zeroValue40 (by rw [← hrF]; kernel_rfl)) ?_; clear H; intro c4 w24 hc4 H)
  (refine WL_effn rfl (E_alloc (vs := rQ) H Tryz.zeroValue44 (by rw [← hrQ]; kernel_rfl)) ?_; clear H; intro c5 w25 hc5 H)
  (refine WL_effu rfl (E_storeA (vs := rows Slot.piC Ps) H (fun w => by rw [yP]; exact Tryz.sizeOf37 w) rfl rfl (rows_one' Slot.piC_one _) (.there (.there .here)) (by rw [yP, zP]; decide)) ?_; clear H; intro w26 H; rw [full_store (by rw [yP, zP])] at H)
  (refine WL_effu rfl (E_storeA (vs := rows File.flC Fs) H (fun w => by rw [yF]; exact Tryz.sizeOf40 w) rfl rfl (rows_one' File.fl_one _) (.there .here) (by rw [yF, zF]; decide)) ?_; clear H; intro w27 H; rw [full_store (by rw [yF, zF])] at H)
  (refine WL_effu rfl (E_storeA (vs := rows Ring.piC Qs) H (fun w => by rw [yQ]; exact Tryz.sizeOf44 w) rfl rfl (rows_one' Ring.piC_one _) .here (by rw [yQ, zQ]; decide)) ?_; clear H; intro w28 H; rw [full_store (by rw [yQ, zQ])] at H)
  refine WL_stepM rfl (R_as) ?_
  refine WL_nil ?_
  refine W_seq ?_
  refine W_seq ?_
  refine W_region_l ?_
  refine WL_stepM rfl (R_mv) ?_
  refine WL_step rfl (R_len_slice Tryz.underlying33 rfl) ?_
  refine WL_step rfl (R_gt_f rfl rfl (by omega)) ?_
  refine WL_nil ?_
  refine W_cond_f rfl ?_
  refine W_skip ?_
  refine W_seq ?_
  refine W_region_l ?_
  (refine WL_effn rfl (E_alloc (vs := [.bool false, .bool false, .bool false, .bool false, .bool false]) H Tryz.zeroValue61 rfl) ?_; clear H; intro c7 w42 hc7 H)
  refine WL_nil ?_
  refine W_seq ?_
  refine W_region_l ?_
  (refine WL_effn rfl (E_alloc (vs := refsV (fun f => nmTo xs f 0)) H Tryz.zeroValue62 rfl) ?_; clear H; intro c8 w46 hc8 H)
  refine WL_nil ?_
  refine W_seq ?_
  refine W_seq ?_
  refine W_region_l ?_
  refine WL_stepM rfl (R_as) ?_
  refine WL_nil ?_
  refine W_block ?_
  refine W_loopS [(9, 12), (33, 91)] (fun (i : Nat) E w' => i ≤ 8 ∧ E 9 = I i ∧ Hp w ([(c8, blk (refsV (fun f => nmTo xs f i)) 62), (c7, blk [.bool ((List.range i).any (parB xs)), .bool ((List.range i).any (fdB xs)), .bool (false), .bool (false), .bool (false)] 61), (c5, blk (rows Ring.piC Qs) 44), (c4, blk (rows File.flC Fs) 40), (c3, blk (rows Slot.piC Ps) 37)]) w') (fun i => 8 - i) 0 ?e0 ?r0
  · exact ⟨by omega, rfl, H⟩
  · (clear H; rintro i E w1 ⟨hi, h9, H⟩; refine W_kn h9 ?_)
    refine W_seq ?_
    refine W_seq ?_
    refine W_region_l ?_
    refine WL_stepM rfl (R_mv) ?_
    refine WL_step rfl (R_lt rfl rfl) ?_
    refine WL_nil ?_
    refine W_if rfl (fun h62 => ?_) (fun h62 => ?_)
    · refine W_skip ?_
      refine W_seq ?_
      refine W_block ?_
      refine W_seq ?_
      refine W_seq ?_
      ((have hget := gP i (by omega); rcases pcase (hP i (by omega)) with ⟨hz1, hz2⟩ | ⟨hz1, hz2⟩; have hs : (pd xs i).s = 0 := (by rw [hz2]; rfl))) <;> refine W_region_l ?_
      · refine WL_stepM rfl (R_mv) ?_
        refine WL_step rfl (R_indexAddrA (off' := i * 16) Tryz.underlying37 Tryz.sizeOf36 rfl rfl (by omega) (by omega) (by omega)) ?_
        refine WL_step rfl (R_fieldAddr Tryz.underlying36 rfl Tryz.sizeOf3 (by decide) rfl rfl) ?_
        refine WL_step rfl (R_load (v := I (pd xs i).s) Tryz.isAgg3 rfl (H.get (.there (.there (.there (.there .here))))) (by rw [rows_get Slot.piC_len hget (by decide)]; rfl)) ?_
        refine WL_step rfl (R_eq_t rfl rfl (by omega)) ?_
        refine WL_nil ?_
        refine W_cond_t rfl ?_
        refine W_exit ?_
        refine (if_pos rfl).mpr ?_
        refine W_region_l ?_
        refine WL_stepM rfl (R_mv) ?_
        refine WL_step rfl (R_add rfl rfl (w_i64 (by omega))) ?_
        refine WL_stepM rfl (R_as) ?_
        refine WL_nil ?_
        (have _g : pd xs i = Slot.zeroP := hz2; exact ⟨(same_mov rfl (same_updo rfl (same_mov rfl (same_updo rfl (same_updo rfl (same_updo rfl (same_updo rfl (same_mov rfl (same_know rfl (same_updo rfl (same_mov rfl same_ovr))))))))))), i + 1, by omega, by omega, rfl, (by rw [any_f (parB_z hz2), any_f (fdB_z hz2), nm_z hz2]; exact H)⟩)
      · refine WL_stepM rfl (R_mv) ?_
        refine WL_step rfl (R_indexAddrA (off' := i * 16) Tryz.underlying37 Tryz.sizeOf36 rfl rfl (by omega) (by omega) (by omega)) ?_
        refine WL_step rfl (R_fieldAddr Tryz.underlying36 rfl Tryz.sizeOf3 (by decide) rfl rfl) ?_
        refine WL_step rfl (R_load (v := I (pd xs i).s) Tryz.isAgg3 rfl (H.get (.there (.there (.there (.there .here))))) (by rw [rows_get Slot.piC_len hget (by decide)]; rfl)) ?_
        refine WL_step rfl (R_eq_f rfl rfl (by omega)) ?_
        refine WL_nil ?_
        refine W_cond_f rfl ?_
        refine W_skip ?_
        refine W_seq ?_
        refine W_seq ?_
        ((have hps := pd_p xs i; have hpf := pd_f xs i; obtain ⟨p, hp⟩ : ∃ p, pd xs i = p := ⟨_, rfl⟩; rw [hp] at hget hps hpf hz2; have hp8 := p.hf; have hnt : ∀ f, nmTo xs f i ≤ 64 := (fun f => Nat.le_trans (nmTo_le xs f i) (by omega)); rcases posK hps with h0 | ⟨K, hK, hK8⟩)) <;> refine W_region_l ?_
        · refine WL_stepM rfl (R_mv) ?_
          refine WL_step rfl (R_indexAddrA (off' := i * 16) Tryz.underlying37 Tryz.sizeOf36 rfl rfl (by omega) (by omega) (by omega)) ?_
          refine WL_step rfl (R_fieldAddr (off' := _ + 1) Tryz.underlying36 rfl Tryz.sizeOf3 (by decide) rfl rfl) ?_
          refine WL_step rfl (R_load (v := I p.p) Tryz.isAgg3 rfl (H.get (.there (.there (.there (.there .here))))) (by rw [rows_get Slot.piC_len hget (by decide)]; rfl)) ?_
          refine WL_stepM rfl (R_as) ?_
          refine WL_nil ?_
          refine W_seq ?_
          refine W_region_l ?_
          refine WL_stepM rfl (R_mv) ?_
          refine WL_step rfl (R_gt_f rfl rfl (by omega)) ?_
          refine WL_stepM rfl (R_mv) ?_
          refine WL_guard_f rfl rfl (by decide) ?_
          refine WL_guard_f rfl rfl (by decide) ?_
          refine WL_guard_f rfl rfl (by decide) ?_
          refine WL_guard_f rfl rfl (by decide) ?_
          refine WL_guard_f rfl rfl (by decide) ?_
          refine WL_guard_n rfl rfl ?_
          refine WL_guard_n rfl rfl ?_
          refine WL_guard_n rfl rfl ?_
          refine WL_guard_n rfl rfl ?_
          refine WL_guard_n rfl rfl ?_
          refine WL_guard_n rfl rfl ?_
          refine WL_guard_f rfl rfl (by decide) ?_
          refine WL_stepM rfl (R_pk_f rfl) ?_
          refine WL_nil ?_
          refine W_cond_f rfl ?_
          refine W_skip ?_
          refine W_seq ?_
          ((have hpb : parB xs i = false := (by unfold parB; rw [hp, h0]; exact decide_eq_false (fun hh => absurd hh.1 (by decide))); replace H : Hp w ([(c8, blk (refsV (fun f => nmTo xs f i)) 62), (c7, blk [.bool ((List.range (i + 1)).any (parB xs)), .bool ((List.range i).any (fdB xs)), .bool (false), .bool (false), .bool (false)] 61), (c5, blk (rows Ring.piC Qs) 44), (c4, blk (rows File.flC Fs) 40), (c3, blk (rows Slot.piC Ps) 37)]) _ := (by rw [any_f hpb]; exact H))) <;> refine W_region_l ?_
          refine WL_stepM rfl (R_as) ?_
          refine WL_nil ?_
          refine W_block ?_
          refine W_loopS [(11, 12), (63, 91)] (fun (j : Nat) E w' => j ≤ 8 ∧ E 11 = I j ∧ Hp w ([(c8, blk (refsV (refG xs i j p)) 62), (c7, blk [.bool ((List.range (i + 1)).any (parB xs)), .bool ((List.range i).any (fdB xs) || (p.f.take j).any (fdOne xs)), .bool (false), .bool (false), .bool (false)] 61), (c5, blk (rows Ring.piC Qs) 44), (c4, blk (rows File.flC Fs) 40), (c3, blk (rows Slot.piC Ps) 37)]) w') (fun j => 8 - j) 0 ?e2a ?r2a
          · exact ⟨by omega, rfl, (by rw [refG_0, List.take_zero, List.any_nil, Bool.or_false]; exact H)⟩
          · (clear H; rintro j E w1 ⟨hj, h11, H⟩; refine W_kn h11 ?_)
            refine W_seq ?_
            refine W_seq ?_
            refine W_region_l ?_
            refine WL_stepM rfl (R_mv) ?_
            refine WL_step rfl (R_lt rfl rfl) ?_
            refine WL_nil ?_
            refine W_if rfl (fun h135 => ?_) (fun h135 => ?_)
            · refine W_skip ?_
              refine W_seq ?_
              refine W_block ?_
              refine W_seq ?_
              ((obtain ⟨d, hd⟩ : ∃ d, p.f[j]? = some d := ⟨_, List.getElem?_eq_getElem (by omega)⟩; have hdd := hpf d (List.mem_of_getElem? hd); rcases posK hdd with hd0 | ⟨m, hm, hm12⟩)) <;> refine W_region_l ?_
              · refine WL_stepM rfl (R_mv) ?_
                refine WL_stepM rfl (R_mv) ?_
                refine WL_step rfl (R_indexAddrA (off' := i * 16) Tryz.underlying37 Tryz.sizeOf36 rfl rfl (by omega) (by omega) (by omega)) ?_
                refine WL_step rfl (R_fieldAddr (off' := _ + 8) Tryz.underlying36 rfl Tryz.sizeOf34 (by decide) rfl rfl) ?_
                refine WL_step rfl (R_indexAddrA (off' := i * 16 + (8 + j)) Tryz.underlying34 Tryz.sizeOf3 rfl rfl (by omega) (by omega) (by omega)) ?_
                refine WL_step rfl (R_load (v := I d) Tryz.isAgg3 rfl (H.get (.there (.there (.there (.there .here))))) (by rw [rows_get Slot.piC_len hget (by omega)]; exact piC_fd hd)) ?_
                refine WL_stepM rfl (R_as) ?_
                refine WL_nil ?_
                refine W_seq ?_
                refine W_region_l ?_
                refine WL_stepM rfl (R_mv) ?_
                refine WL_step rfl (R_gt_f rfl rfl (by omega)) ?_
                refine WL_nil ?_
                refine W_cond_f rfl ?_
                refine W_skip ?_
                refine W_region_l ?_
                refine WL_stepM rfl (R_mv) ?_
                refine WL_step rfl (R_add rfl rfl (w_i64 (by omega))) ?_
                refine WL_stepM rfl (R_as) ?_
                refine WL_nil ?_
                (have _g := hd0; exact ⟨(same_mov rfl (same_updo rfl (same_mov rfl (same_updo rfl (same_mov rfl (same_mov rfl (same_updo rfl (same_updo rfl (same_updo rfl (same_updo rfl (same_mov rfl (same_mov rfl (same_know rfl (same_updo rfl (same_mov rfl same_ovr))))))))))))))), j + 1, by omega, by omega, rfl, (by rw [refG_z (by rw [hd, hd0]), any_z (by rw [hd, hd0])]; exact H)⟩)
              · refine WL_stepM rfl (R_mv) ?_
                refine WL_stepM rfl (R_mv) ?_
                refine WL_step rfl (R_indexAddrA (off' := i * 16) Tryz.underlying37 Tryz.sizeOf36 rfl rfl (by omega) (by omega) (by omega)) ?_
                refine WL_step rfl (R_fieldAddr (off' := _ + 8) Tryz.underlying36 rfl Tryz.sizeOf34 (by decide) rfl rfl) ?_
                refine WL_step rfl (R_indexAddrA (off' := i * 16 + (8 + j)) Tryz.underlying34 Tryz.sizeOf3 rfl rfl (by omega) (by omega) (by omega)) ?_
                refine WL_step rfl (R_load (v := I d) Tryz.isAgg3 rfl (H.get (.there (.there (.there (.there .here))))) (by rw [rows_get Slot.piC_len hget (by omega)]; exact piC_fd hd)) ?_
                refine WL_stepM rfl (R_as) ?_
                refine WL_nil ?_
                refine W_seq ?_
                refine W_region_l ?_
                refine WL_stepM rfl (R_mv) ?_
                refine WL_step rfl (R_gt_t rfl rfl (by omega)) ?_
                refine WL_nil ?_
                refine W_cond_t rfl ?_
                refine W_seq ?_
                refine W_region_l ?_
                refine WL_stepM rfl (R_mv) ?_
                (have hmc : ((fd xs m).k = 0 ∧ fis xs m = 0) ∨ (1 ≤ (fd xs m).k ∧ fis xs m = 1) := (by rcases fcase (hF m (by omega)) with ⟨k1, k2⟩ | ⟨k1, k2, _⟩; exact .inl ⟨by rw [k2]; rfl, k1⟩; exact .inr ⟨k2, k1⟩); refine WL_step rfl (R_sub (r := (m : Int)) rfl rfl (by rw [w_i64 (by omega)]; omega)) ?_)
                refine WL_step rfl (R_indexAddrA (off' := m) Tryz.underlying62 Tryz.sizeOf3 rfl rfl (by omega) (by omega) (by omega)) ?_
                refine WL_step rfl (R_load (v := I (refG xs i j p m)) Tryz.isAgg3 rfl (H.get .here) (refsV_get (by omega))) ?_
                (have hgl : refG xs i j p m ≤ 100 := (by have h1 := hnt m; have h2 := List.count_le_length (a := (m : Int) + 1) (l := p.f.take j); rw [List.length_take] at h2; unfold refG; omega); refine WL_step rfl (R_add (r := ((refG xs i j p m + 1 : Nat) : Int)) rfl rfl (by rw [w_i64 (by omega)]; omega)) ?_)
                refine WL_step rfl (R_indexAddrA (off' := m) Tryz.underlying62 Tryz.sizeOf3 rfl rfl (by omega) (by omega) (by omega)) ?_
                (have _g := hm12; refine WL_effu rfl (E_store (v := I ((refG xs i j p m + 1 : Nat) : Int)) H Tryz.sizeOf3 rfl rfl rfl .here (by rw [refsV_len]; omega)) ?_; clear H; intro w184 H; rw [refG_s (by omega) (by rw [hd, hm])] at H)
                refine WL_nil ?_
                refine W_region_l ?_
                refine WL_step rfl (R_indexAddrA (off' := 1) Tryz.underlying61 Tryz.sizeOf4 rfl rfl (by omega) (by omega) rfl) ?_
                refine WL_step rfl (R_load Tryz.isAgg4 rfl (H.get (.there .here)) rfl) ?_
                refine WL_stepM rfl (R_mv) ?_
                apply WL_orK 7 83 90 [(84, 90)] H
                case hc => exact decV rfl
                case h1 =>
                  intro h190
                  refine WL_guard_t rfl rfl ?_
                  refine WL_stepM rfl (R_mv) ?_
                  refine WL_guard_t rfl rfl ?_
                  refine WL_step rfl (R_sub (r := (m : Int)) rfl rfl (by rw [w_i64 (by omega)]; omega)) ?_
                  refine WL_guard_t rfl rfl ?_
                  refine WL_step rfl (R_indexAddrA (off' := m * 4) Tryz.underlying40 Tryz.sizeOf39 rfl rfl (by omega) (by omega) (by omega)) ?_
                  refine WL_guard_t rfl rfl ?_
                  refine WL_step rfl (R_fieldAddr Tryz.underlying39 rfl Tryz.sizeOf3 (by decide) rfl rfl) ?_
                  refine WL_guard_t rfl rfl ?_
                  refine WL_step rfl (R_load (v := I (fd xs m).k) Tryz.isAgg3 rfl (H.get (.there (.there (.there .here)))) (by rw [rows_get File.fl_len (gF m (by omega)) (by decide)]; rfl)) ?_
                  refine WL_guard_t rfl rfl ?_
                  refine WL_step rfl (R_eq rfl rfl) ?_
                  refine WL_stepM rfl (R_pk_f rfl) ?_
                  refine WL_nil ?_
                  exact ⟨(same_mov rfl (same_updo rfl (same_updo rfl (same_updo rfl (same_updo rfl (same_updo rfl (same_mov rfl Same.refl))))))), rfl, H⟩
                case h0 =>
                  intro h190
                  refine WL_guard_f rfl rfl (by decide) ?_
                  refine WL_guard_f rfl rfl (by decide) ?_
                  refine WL_guard_f rfl rfl (by decide) ?_
                  refine WL_guard_f rfl rfl (by decide) ?_
                  refine WL_guard_f rfl rfl (by decide) ?_
                  refine WL_guard_f rfl rfl (by decide) ?_
                  refine WL_stepM rfl (R_pk_t rfl) ?_
                  refine WL_nil ?_
                  exact ⟨(same_mov rfl (same_updo rfl (same_updo rfl (same_updo rfl (same_updo rfl (same_updo rfl (same_updo rfl Same.refl))))))), rfl, H⟩
                case h2 =>
                  (clear H; intro E190 w190 H)
                  refine WL_step rfl (R_indexAddrA (off' := 1) Tryz.underlying61 Tryz.sizeOf4 rfl rfl (by omega) (by omega) rfl) ?_
                  (refine WL_effu rfl (E_store (v := (.bool _)) H Tryz.sizeOf4 rfl rfl rfl (.there .here) (by simp)) ?_; clear H; intro w216 H)
                  refine WL_nil ?_
                  refine W_region_l ?_
                  refine WL_stepM rfl (R_mv) ?_
                  refine WL_step rfl (R_add rfl rfl (w_i64 (by omega))) ?_
                  refine WL_stepM rfl (R_as) ?_
                  refine WL_nil ?_
                  (have _g := hm12; exact ⟨(same_mov rfl (same_updo rfl (same_mov rfl (same_updn (same_updo rfl (same_in rfl (same_mov rfl (same_updo rfl (same_updo rfl (same_updn (same_updo rfl (same_updo rfl (same_updo rfl (same_updo rfl (same_updo rfl (same_mov rfl (same_updo rfl (same_mov rfl (same_mov rfl (same_updo rfl (same_updo rfl (same_updo rfl (same_updo rfl (same_mov rfl (same_mov rfl (same_know rfl (same_updo rfl (same_mov rfl same_ovr)))))))))))))))))))))))))))), j + 1, by omega, by omega, rfl, (by rw [any_s hd, ← Bool.or_assoc, hm, fdOne_s hmc]; rw [orB] at H; exact H)⟩)
            · refine W_exit ?_
              refine (if_pos rfl).mpr ?_
              ((obtain rfl : j = 8 := (by omega); have hfo : ((List.range i).any (fdB xs) || (p.f.take 8).any (fdOne xs)) = (List.range (i + 1)).any (fdB xs) := (by rw [any_succ, List.take_of_length_le (by omega)]; unfold fdB; rw [hp]))) <;> refine W_region_l ?_
              refine WL_stepM rfl (R_mv) ?_
              refine WL_step rfl (R_add rfl rfl (w_i64 (by omega))) ?_
              refine WL_stepM rfl (R_as) ?_
              refine WL_nil ?_
              (have _g := hfo; exact ⟨(same_mov rfl (same_updo rfl (same_mov rfl (same_know rfl (same_updo rfl (same_mov rfl (same_in rfl (same_mov rfl (same_mov rfl (same_updo rfl (same_updo rfl (same_updo rfl (same_updo rfl (same_updo rfl (same_updo rfl (same_updo rfl (same_updo rfl (same_updo rfl (same_updo rfl (same_updo rfl (same_updo rfl (same_mov rfl (same_updo rfl (same_mov rfl (same_mov rfl (same_updo rfl (same_updo rfl (same_updo rfl (same_mov rfl (same_updo rfl (same_updo rfl (same_updo rfl (same_updo rfl (same_mov rfl (same_know rfl (same_updo rfl (same_mov rfl same_ovr))))))))))))))))))))))))))))))))))))), i + 1, by omega, by omega, rfl, (by rw [← hfo, ← refG_8 hp]; exact H)⟩)
        · refine WL_stepM rfl (R_mv) ?_
          refine WL_step rfl (R_indexAddrA (off' := i * 16) Tryz.underlying37 Tryz.sizeOf36 rfl rfl (by omega) (by omega) (by omega)) ?_
          refine WL_step rfl (R_fieldAddr (off' := _ + 1) Tryz.underlying36 rfl Tryz.sizeOf3 (by decide) rfl rfl) ?_
          refine WL_step rfl (R_load (v := I p.p) Tryz.isAgg3 rfl (H.get (.there (.there (.there (.there .here))))) (by rw [rows_get Slot.piC_len hget (by decide)]; rfl)) ?_
          refine WL_stepM rfl (R_as) ?_
          refine WL_nil ?_
          refine W_seq ?_
          ((have hKc : ((pd xs K).s = 0 ∧ pis xs K = 0) ∨ (1 ≤ (pd xs K).s ∧ pis xs K = 1) := (by rcases pcase (hP K (by omega)) with ⟨k1, k2⟩ | ⟨k1, k2⟩; exact .inl ⟨by rw [k2]; rfl, k1⟩; exact .inr ⟨k2, k1⟩))) <;> refine W_region_l ?_
          refine WL_stepM rfl (R_mv) ?_
          refine WL_step rfl (R_gt_t rfl rfl (by omega)) ?_
          refine WL_stepM rfl (R_mv) ?_
          refine WL_guard_t rfl rfl ?_
          refine WL_stepM rfl (R_mv) ?_
          refine WL_guard_t rfl rfl ?_
          refine WL_step rfl (R_sub (r := (K : Int)) rfl rfl (by rw [w_i64 (by omega)]; omega)) ?_
          refine WL_guard_t rfl rfl ?_
          refine WL_stepM rfl (R_mv) ?_
          refine WL_guard_t rfl rfl ?_
          refine WL_step rfl (R_eq rfl rfl) ?_
          refine WL_guard_t rfl rfl ?_
          refine WL_stepM rfl (R_mv) ?_
          apply WL_orK 7 53 60 [(54, 60)] H
          case hc => rfl
          case h1 =>
            intro h253
            refine WL_guard_t rfl rfl ?_
            refine WL_stepM rfl (R_mv) ?_
            refine WL_guard_t rfl rfl ?_
            refine WL_step rfl (R_sub (r := (K : Int)) rfl rfl (by rw [w_i64 (by omega)]; omega)) ?_
            refine WL_guard_t rfl rfl ?_
            refine WL_step rfl (R_indexAddrA (off' := K * 16) Tryz.underlying37 Tryz.sizeOf36 rfl rfl (by omega) (by omega) (by omega)) ?_
            refine WL_guard_t rfl rfl ?_
            refine WL_step rfl (R_fieldAddr Tryz.underlying36 rfl Tryz.sizeOf3 (by decide) rfl rfl) ?_
            refine WL_guard_t rfl rfl ?_
            (have hKc : ((pd xs K).s = 0 ∧ pis xs K = 0) ∨ (1 ≤ (pd xs K).s ∧ pis xs K = 1) := (by rcases pcase (hP K (by omega)) with ⟨k1, k2⟩ | ⟨k1, k2⟩; exact .inl ⟨by rw [k2]; rfl, k1⟩; exact .inr ⟨k2, k1⟩); refine WL_step rfl (R_load (v := I (pd xs K).s) Tryz.isAgg3 rfl (H.get (.there (.there (.there (.there .here))))) (by rw [rows_get Slot.piC_len (gP K (by omega)) (by decide)]; rfl)) ?_)
            refine WL_guard_t rfl rfl ?_
            refine WL_step rfl (R_eq rfl rfl) ?_
            refine WL_guard_t rfl rfl ?_
            refine WL_stepM rfl (R_pk_f rfl) ?_
            refine WL_nil ?_
            exact ⟨(same_mov rfl (same_updo rfl (same_updo rfl (same_updo rfl (same_updo rfl (same_updo rfl (same_mov rfl Same.refl))))))), rfl, H⟩
          case h0 =>
            intro h253
            refine WL_guard_f rfl rfl (by decide) ?_
            refine WL_guard_f rfl rfl (by decide) ?_
            refine WL_guard_f rfl rfl (by decide) ?_
            refine WL_guard_f rfl rfl (by decide) ?_
            refine WL_guard_f rfl rfl (by decide) ?_
            refine WL_guard_f rfl rfl (by decide) ?_
            refine WL_guard_t rfl rfl ?_
            refine WL_stepM rfl (R_pk_t rfl) ?_
            refine WL_nil ?_
            exact ⟨(same_mov rfl (same_updo rfl (same_updo rfl (same_updo rfl (same_updo rfl (same_updo rfl (same_updo rfl Same.refl))))))), rfl, H⟩
          case h2 =>
            (clear H; intro E253 w253 H)
            refine WL_stepM rfl (R_pk_t rfl) ?_
            refine WL_nil ?_
            refine W_if rfl (fun h282 => ?_) (fun h282 => ?_)
            · refine W_region_l ?_
              refine WL_step rfl (R_indexAddrA (off' := 0) Tryz.underlying61 Tryz.sizeOf4 rfl rfl (by omega) (by omega) rfl) ?_
              (refine WL_effu rfl (E_store (v := (.bool _)) H Tryz.sizeOf4 rfl rfl rfl (.there .here) (by simp)) ?_; clear H; intro w285 H)
              refine WL_nil ?_
              refine W_seq ?_
              ((have hpb : parB xs i = true := (by unfold parB; rw [hp, hK, Int.add_sub_cancel, Int.toNat_natCast]; exact decide_eq_true (by omega)); replace H : Hp w ([(c8, blk (refsV (fun f => nmTo xs f i)) 62), (c7, blk [.bool ((List.range (i + 1)).any (parB xs)), .bool ((List.range i).any (fdB xs)), .bool (false), .bool (false), .bool (false)] 61), (c5, blk (rows Ring.piC Qs) 44), (c4, blk (rows File.flC Fs) 40), (c3, blk (rows Slot.piC Ps) 37)]) _ := (by rw [any_t hpb]; exact H))) <;> refine W_region_l ?_
              refine WL_stepM rfl (R_as) ?_
              refine WL_nil ?_
              refine W_block ?_
              refine W_loopS [(11, 12), (63, 91)] (fun (j : Nat) E w' => j ≤ 8 ∧ E 11 = I j ∧ Hp w ([(c8, blk (refsV (refG xs i j p)) 62), (c7, blk [.bool ((List.range (i + 1)).any (parB xs)), .bool ((List.range i).any (fdB xs) || (p.f.take j).any (fdOne xs)), .bool (false), .bool (false), .bool (false)] 61), (c5, blk (rows Ring.piC Qs) 44), (c4, blk (rows File.flC Fs) 40), (c3, blk (rows Slot.piC Ps) 37)]) w') (fun j => 8 - j) 0 ?e2b ?r2b
              · exact ⟨by omega, rfl, (by rw [refG_0, List.take_zero, List.any_nil, Bool.or_false]; exact H)⟩
              · (clear H; rintro j E w1 ⟨hj, h11, H⟩; refine W_kn h11 ?_)
                refine W_seq ?_
                refine W_seq ?_
                refine W_region_l ?_
                refine WL_stepM rfl (R_mv) ?_
                refine WL_step rfl (R_lt rfl rfl) ?_
                refine WL_nil ?_
                refine W_if rfl (fun h300 => ?_) (fun h300 => ?_)
                · refine W_skip ?_
                  refine W_seq ?_
                  refine W_block ?_
                  refine W_seq ?_
                  ((obtain ⟨d, hd⟩ : ∃ d, p.f[j]? = some d := ⟨_, List.getElem?_eq_getElem (by omega)⟩; have hdd := hpf d (List.mem_of_getElem? hd); rcases posK hdd with hd0 | ⟨m, hm, hm12⟩)) <;> refine W_region_l ?_
                  · refine WL_stepM rfl (R_mv) ?_
                    refine WL_stepM rfl (R_mv) ?_
                    refine WL_step rfl (R_indexAddrA (off' := i * 16) Tryz.underlying37 Tryz.sizeOf36 rfl rfl (by omega) (by omega) (by omega)) ?_
                    refine WL_step rfl (R_fieldAddr (off' := _ + 8) Tryz.underlying36 rfl Tryz.sizeOf34 (by decide) rfl rfl) ?_
                    refine WL_step rfl (R_indexAddrA (off' := i * 16 + (8 + j)) Tryz.underlying34 Tryz.sizeOf3 rfl rfl (by omega) (by omega) (by omega)) ?_
                    refine WL_step rfl (R_load (v := I d) Tryz.isAgg3 rfl (H.get (.there (.there (.there (.there .here))))) (by rw [rows_get Slot.piC_len hget (by omega)]; exact piC_fd hd)) ?_
                    refine WL_stepM rfl (R_as) ?_
                    refine WL_nil ?_
                    refine W_seq ?_
                    refine W_region_l ?_
                    refine WL_stepM rfl (R_mv) ?_
                    refine WL_step rfl (R_gt_f rfl rfl (by omega)) ?_
                    refine WL_nil ?_
                    refine W_cond_f rfl ?_
                    refine W_skip ?_
                    refine W_region_l ?_
                    refine WL_stepM rfl (R_mv) ?_
                    refine WL_step rfl (R_add rfl rfl (w_i64 (by omega))) ?_
                    refine WL_stepM rfl (R_as) ?_
                    refine WL_nil ?_
                    (have _g := hd0; exact ⟨(same_mov rfl (same_updo rfl (same_mov rfl (same_updo rfl (same_mov rfl (same_mov rfl (same_updo rfl (same_updo rfl (same_updo rfl (same_updo rfl (same_mov rfl (same_mov rfl (same_know rfl (same_updo rfl (same_mov rfl same_ovr))))))))))))))), j + 1, by omega, by omega, rfl, (by rw [refG_z (by rw [hd, hd0]), any_z (by rw [hd, hd0])]; exact H)⟩)
                  · refine WL_stepM rfl (R_mv) ?_
                    refine WL_stepM rfl (R_mv) ?_
                    refine WL_step rfl (R_indexAddrA (off' := i * 16) Tryz.underlying37 Tryz.sizeOf36 rfl rfl (by omega) (by omega) (by omega)) ?_
                    refine WL_step rfl (R_fieldAddr (off' := _ + 8) Tryz.underlying36 rfl Tryz.sizeOf34 (by decide) rfl rfl) ?_
                    refine WL_step rfl (R_indexAddrA (off' := i * 16 + (8 + j)) Tryz.underlying34 Tryz.sizeOf3 rfl rfl (by omega) (by omega) (by omega)) ?_
                    refine WL_step rfl (R_load (v := I d) Tryz.isAgg3 rfl (H.get (.there (.there (.there (.there .here))))) (by rw [rows_get Slot.piC_len hget (by omega)]; exact piC_fd hd)) ?_
                    refine WL_stepM rfl (R_as) ?_
                    refine WL_nil ?_
                    refine W_seq ?_
                    refine W_region_l ?_
                    refine WL_stepM rfl (R_mv) ?_
                    refine WL_step rfl (R_gt_t rfl rfl (by omega)) ?_
                    refine WL_nil ?_
                    refine W_cond_t rfl ?_
                    refine W_seq ?_
                    refine W_region_l ?_
                    refine WL_stepM rfl (R_mv) ?_
                    (have hmc : ((fd xs m).k = 0 ∧ fis xs m = 0) ∨ (1 ≤ (fd xs m).k ∧ fis xs m = 1) := (by rcases fcase (hF m (by omega)) with ⟨k1, k2⟩ | ⟨k1, k2, _⟩; exact .inl ⟨by rw [k2]; rfl, k1⟩; exact .inr ⟨k2, k1⟩); refine WL_step rfl (R_sub (r := (m : Int)) rfl rfl (by rw [w_i64 (by omega)]; omega)) ?_)
                    refine WL_step rfl (R_indexAddrA (off' := m) Tryz.underlying62 Tryz.sizeOf3 rfl rfl (by omega) (by omega) (by omega)) ?_
                    refine WL_step rfl (R_load (v := I (refG xs i j p m)) Tryz.isAgg3 rfl (H.get .here) (refsV_get (by omega))) ?_
                    (have hgl : refG xs i j p m ≤ 100 := (by have h1 := hnt m; have h2 := List.count_le_length (a := (m : Int) + 1) (l := p.f.take j); rw [List.length_take] at h2; unfold refG; omega); refine WL_step rfl (R_add (r := ((refG xs i j p m + 1 : Nat) : Int)) rfl rfl (by rw [w_i64 (by omega)]; omega)) ?_)
                    refine WL_step rfl (R_indexAddrA (off' := m) Tryz.underlying62 Tryz.sizeOf3 rfl rfl (by omega) (by omega) (by omega)) ?_
                    (have _g := hm12; refine WL_effu rfl (E_store (v := I ((refG xs i j p m + 1 : Nat) : Int)) H Tryz.sizeOf3 rfl rfl rfl .here (by rw [refsV_len]; omega)) ?_; clear H; intro w349 H; rw [refG_s (by omega) (by rw [hd, hm])] at H)
                    refine WL_nil ?_
                    refine W_region_l ?_
                    refine WL_step rfl (R_indexAddrA (off' := 1) Tryz.underlying61 Tryz.sizeOf4 rfl rfl (by omega) (by omega) rfl) ?_
                    refine WL_step rfl (R_load Tryz.isAgg4 rfl (H.get (.there .here)) rfl) ?_
                    refine WL_stepM rfl (R_mv) ?_
                    apply WL_orK 7 83 90 [(84, 90)] H
                    case hc => exact decV rfl
                    case h1 =>
                      intro h355
                      refine WL_guard_t rfl rfl ?_
                      refine WL_stepM rfl (R_mv) ?_
                      refine WL_guard_t rfl rfl ?_
                      refine WL_step rfl (R_sub (r := (m : Int)) rfl rfl (by rw [w_i64 (by omega)]; omega)) ?_
                      refine WL_guard_t rfl rfl ?_
                      refine WL_step rfl (R_indexAddrA (off' := m * 4) Tryz.underlying40 Tryz.sizeOf39 rfl rfl (by omega) (by omega) (by omega)) ?_
                      refine WL_guard_t rfl rfl ?_
                      refine WL_step rfl (R_fieldAddr Tryz.underlying39 rfl Tryz.sizeOf3 (by decide) rfl rfl) ?_
                      refine WL_guard_t rfl rfl ?_
                      refine WL_step rfl (R_load (v := I (fd xs m).k) Tryz.isAgg3 rfl (H.get (.there (.there (.there .here)))) (by rw [rows_get File.fl_len (gF m (by omega)) (by decide)]; rfl)) ?_
                      refine WL_guard_t rfl rfl ?_
                      refine WL_step rfl (R_eq rfl rfl) ?_
                      refine WL_stepM rfl (R_pk_f rfl) ?_
                      refine WL_nil ?_
                      exact ⟨(same_mov rfl (same_updo rfl (same_updo rfl (same_updo rfl (same_updo rfl (same_updo rfl (same_mov rfl Same.refl))))))), rfl, H⟩
                    case h0 =>
                      intro h355
                      refine WL_guard_f rfl rfl (by decide) ?_
                      refine WL_guard_f rfl rfl (by decide) ?_
                      refine WL_guard_f rfl rfl (by decide) ?_
                      refine WL_guard_f rfl rfl (by decide) ?_
                      refine WL_guard_f rfl rfl (by decide) ?_
                      refine WL_guard_f rfl rfl (by decide) ?_
                      refine WL_stepM rfl (R_pk_t rfl) ?_
                      refine WL_nil ?_
                      exact ⟨(same_mov rfl (same_updo rfl (same_updo rfl (same_updo rfl (same_updo rfl (same_updo rfl (same_updo rfl Same.refl))))))), rfl, H⟩
                    case h2 =>
                      (clear H; intro E355 w355 H)
                      refine WL_step rfl (R_indexAddrA (off' := 1) Tryz.underlying61 Tryz.sizeOf4 rfl rfl (by omega) (by omega) rfl) ?_
                      (refine WL_effu rfl (E_store (v := (.bool _)) H Tryz.sizeOf4 rfl rfl rfl (.there .here) (by simp)) ?_; clear H; intro w381 H)
                      refine WL_nil ?_
                      refine W_region_l ?_
                      refine WL_stepM rfl (R_mv) ?_
                      refine WL_step rfl (R_add rfl rfl (w_i64 (by omega))) ?_
                      refine WL_stepM rfl (R_as) ?_
                      refine WL_nil ?_
                      (have _g := hm12; exact ⟨(same_mov rfl (same_updo rfl (same_mov rfl (same_updn (same_updo rfl (same_in rfl (same_mov rfl (same_updo rfl (same_updo rfl (same_updn (same_updo rfl (same_updo rfl (same_updo rfl (same_updo rfl (same_updo rfl (same_mov rfl (same_updo rfl (same_mov rfl (same_mov rfl (same_updo rfl (same_updo rfl (same_updo rfl (same_updo rfl (same_mov rfl (same_mov rfl (same_know rfl (same_updo rfl (same_mov rfl same_ovr)))))))))))))))))))))))))))), j + 1, by omega, by omega, rfl, (by rw [any_s hd, ← Bool.or_assoc, hm, fdOne_s hmc]; rw [orB] at H; exact H)⟩)
                · refine W_exit ?_
                  refine (if_pos rfl).mpr ?_
                  ((obtain rfl : j = 8 := (by omega); have hfo : ((List.range i).any (fdB xs) || (p.f.take 8).any (fdOne xs)) = (List.range (i + 1)).any (fdB xs) := (by rw [any_succ, List.take_of_length_le (by omega)]; unfold fdB; rw [hp]))) <;> refine W_region_l ?_
                  refine WL_stepM rfl (R_mv) ?_
                  refine WL_step rfl (R_add rfl rfl (w_i64 (by omega))) ?_
                  refine WL_stepM rfl (R_as) ?_
                  refine WL_nil ?_
                  (have _g := hfo; exact ⟨(same_mov rfl (same_updo rfl (same_mov rfl (same_know rfl (same_updo rfl (same_mov rfl (same_in rfl (same_mov rfl (same_updn (same_updo rfl (same_know rfl (same_mov rfl (same_in rfl (same_mov rfl (same_updo rfl (same_mov rfl (same_updo rfl (same_mov rfl (same_mov rfl (same_updo rfl (same_mov rfl (same_mov rfl (same_updo rfl (same_updo rfl (same_updo rfl (same_mov rfl (same_updo rfl (same_updo rfl (same_updo rfl (same_updo rfl (same_mov rfl (same_know rfl (same_updo rfl (same_mov rfl same_ovr)))))))))))))))))))))))))))))))))), i + 1, by omega, by omega, rfl, (by rw [← hfo, ← refG_8 hp]; exact H)⟩)
            · refine W_skip ?_
              refine W_seq ?_
              ((have hpb : parB xs i = false := (by unfold parB; rw [hp, hK, Int.add_sub_cancel, Int.toNat_natCast]; exact decide_eq_false (by omega)); replace H : Hp w ([(c8, blk (refsV (fun f => nmTo xs f i)) 62), (c7, blk [.bool ((List.range (i + 1)).any (parB xs)), .bool ((List.range i).any (fdB xs)), .bool (false), .bool (false), .bool (false)] 61), (c5, blk (rows Ring.piC Qs) 44), (c4, blk (rows File.flC Fs) 40), (c3, blk (rows Slot.piC Ps) 37)]) _ := (by rw [any_f hpb]; exact H))) <;> refine W_region_l ?_
              refine WL_stepM rfl (R_as) ?_
              refine WL_nil ?_
              refine W_block ?_
              refine W_loopS [(11, 12), (63, 91)] (fun (j : Nat) E w' => j ≤ 8 ∧ E 11 = I j ∧ Hp w ([(c8, blk (refsV (refG xs i j p)) 62), (c7, blk [.bool ((List.range (i + 1)).any (parB xs)), .bool ((List.range i).any (fdB xs) || (p.f.take j).any (fdOne xs)), .bool (false), .bool (false), .bool (false)] 61), (c5, blk (rows Ring.piC Qs) 44), (c4, blk (rows File.flC Fs) 40), (c3, blk (rows Slot.piC Ps) 37)]) w') (fun j => 8 - j) 0 ?e2c ?r2c
              · exact ⟨by omega, rfl, (by rw [refG_0, List.take_zero, List.any_nil, Bool.or_false]; exact H)⟩
              · (clear H; rintro j E w1 ⟨hj, h11, H⟩; refine W_kn h11 ?_)
                refine W_seq ?_
                refine W_seq ?_
                refine W_region_l ?_
                refine WL_stepM rfl (R_mv) ?_
                refine WL_step rfl (R_lt rfl rfl) ?_
                refine WL_nil ?_
                refine W_if rfl (fun h411 => ?_) (fun h411 => ?_)
                · refine W_skip ?_
                  refine W_seq ?_
                  refine W_block ?_
                  refine W_seq ?_
                  ((obtain ⟨d, hd⟩ : ∃ d, p.f[j]? = some d := ⟨_, List.getElem?_eq_getElem (by omega)⟩; have hdd := hpf d (List.mem_of_getElem? hd); rcases posK hdd with hd0 | ⟨m, hm, hm12⟩)) <;> refine W_region_l ?_
                  · refine WL_stepM rfl (R_mv) ?_
                    refine WL_stepM rfl (R_mv) ?_
                    refine WL_step rfl (R_indexAddrA (off' := i * 16) Tryz.underlying37 Tryz.sizeOf36 rfl rfl (by omega) (by omega) (by omega)) ?_
                    refine WL_step rfl (R_fieldAddr (off' := _ + 8) Tryz.underlying36 rfl Tryz.sizeOf34 (by decide) rfl rfl) ?_
                    refine WL_step rfl (R_indexAddrA (off' := i * 16 + (8 + j)) Tryz.underlying34 Tryz.sizeOf3 rfl rfl (by omega) (by omega) (by omega)) ?_
                    refine WL_step rfl (R_load (v := I d) Tryz.isAgg3 rfl (H.get (.there (.there (.there (.there .here))))) (by rw [rows_get Slot.piC_len hget (by omega)]; exact piC_fd hd)) ?_
                    refine WL_stepM rfl (R_as) ?_
                    refine WL_nil ?_
                    refine W_seq ?_
                    refine W_region_l ?_
                    refine WL_stepM rfl (R_mv) ?_
                    refine WL_step rfl (R_gt_f rfl rfl (by omega)) ?_
                    refine WL_nil ?_
                    refine W_cond_f rfl ?_
                    refine W_skip ?_
                    refine W_region_l ?_
                    refine WL_stepM rfl (R_mv) ?_
                    refine WL_step rfl (R_add rfl rfl (w_i64 (by omega))) ?_
                    refine WL_stepM rfl (R_as) ?_
                    refine WL_nil ?_
                    (have _g := hd0; exact ⟨(same_mov rfl (same_updo rfl (same_mov rfl (same_updo rfl (same_mov rfl (same_mov rfl (same_updo rfl (same_updo rfl (same_updo rfl (same_updo rfl (same_mov rfl (same_mov rfl (same_know rfl (same_updo rfl (same_mov rfl same_ovr))))))))))))))), j + 1, by omega, by omega, rfl, (by rw [refG_z (by rw [hd, hd0]), any_z (by rw [hd, hd0])]; exact H)⟩)
                  · refine WL_stepM rfl (R_mv) ?_
                    refine WL_stepM rfl (R_mv) ?_
                    refine WL_step rfl (R_indexAddrA (off' := i * 16) Tryz.underlying37 Tryz.sizeOf36 rfl rfl (by omega) (by omega) (by omega)) ?_
                    refine WL_step rfl (R_fieldAddr (off' := _ + 8) Tryz.underlying36 rfl Tryz.sizeOf34 (by decide) rfl rfl) ?_
                    refine WL_step rfl (R_indexAddrA (off' := i * 16 + (8 + j)) Tryz.underlying34 Tryz.sizeOf3 rfl rfl (by omega) (by omega) (by omega)) ?_
                    refine WL_step rfl (R_load (v := I d) Tryz.isAgg3 rfl (H.get (.there (.there (.there (.there .here))))) (by rw [rows_get Slot.piC_len hget (by omega)]; exact piC_fd hd)) ?_
                    refine WL_stepM rfl (R_as) ?_
                    refine WL_nil ?_
                    refine W_seq ?_
                    refine W_region_l ?_
                    refine WL_stepM rfl (R_mv) ?_
                    refine WL_step rfl (R_gt_t rfl rfl (by omega)) ?_
                    refine WL_nil ?_
                    refine W_cond_t rfl ?_
                    refine W_seq ?_
                    refine W_region_l ?_
                    refine WL_stepM rfl (R_mv) ?_
                    (have hmc : ((fd xs m).k = 0 ∧ fis xs m = 0) ∨ (1 ≤ (fd xs m).k ∧ fis xs m = 1) := (by rcases fcase (hF m (by omega)) with ⟨k1, k2⟩ | ⟨k1, k2, _⟩; exact .inl ⟨by rw [k2]; rfl, k1⟩; exact .inr ⟨k2, k1⟩); refine WL_step rfl (R_sub (r := (m : Int)) rfl rfl (by rw [w_i64 (by omega)]; omega)) ?_)
                    refine WL_step rfl (R_indexAddrA (off' := m) Tryz.underlying62 Tryz.sizeOf3 rfl rfl (by omega) (by omega) (by omega)) ?_
                    refine WL_step rfl (R_load (v := I (refG xs i j p m)) Tryz.isAgg3 rfl (H.get .here) (refsV_get (by omega))) ?_
                    (have hgl : refG xs i j p m ≤ 100 := (by have h1 := hnt m; have h2 := List.count_le_length (a := (m : Int) + 1) (l := p.f.take j); rw [List.length_take] at h2; unfold refG; omega); refine WL_step rfl (R_add (r := ((refG xs i j p m + 1 : Nat) : Int)) rfl rfl (by rw [w_i64 (by omega)]; omega)) ?_)
                    refine WL_step rfl (R_indexAddrA (off' := m) Tryz.underlying62 Tryz.sizeOf3 rfl rfl (by omega) (by omega) (by omega)) ?_
                    (have _g := hm12; refine WL_effu rfl (E_store (v := I ((refG xs i j p m + 1 : Nat) : Int)) H Tryz.sizeOf3 rfl rfl rfl .here (by rw [refsV_len]; omega)) ?_; clear H; intro w460 H; rw [refG_s (by omega) (by rw [hd, hm])] at H)
                    refine WL_nil ?_
                    refine W_region_l ?_
                    refine WL_step rfl (R_indexAddrA (off' := 1) Tryz.underlying61 Tryz.sizeOf4 rfl rfl (by omega) (by omega) rfl) ?_
                    refine WL_step rfl (R_load Tryz.isAgg4 rfl (H.get (.there .here)) rfl) ?_
                    refine WL_stepM rfl (R_mv) ?_
                    apply WL_orK 7 83 90 [(84, 90)] H
                    case hc => exact decV rfl
                    case h1 =>
                      intro h466
                      refine WL_guard_t rfl rfl ?_
                      refine WL_stepM rfl (R_mv) ?_
                      refine WL_guard_t rfl rfl ?_
                      refine WL_step rfl (R_sub (r := (m : Int)) rfl rfl (by rw [w_i64 (by omega)]; omega)) ?_
                      refine WL_guard_t rfl rfl ?_
                      refine WL_step rfl (R_indexAddrA (off' := m * 4) Tryz.underlying40 Tryz.sizeOf39 rfl rfl (by omega) (by omega) (by omega)) ?_
                      refine WL_guard_t rfl rfl ?_
                      refine WL_step rfl (R_fieldAddr Tryz.underlying39 rfl Tryz.sizeOf3 (by decide) rfl rfl) ?_
                      refine WL_guard_t rfl rfl ?_
                      refine WL_step rfl (R_load (v := I (fd xs m).k) Tryz.isAgg3 rfl (H.get (.there (.there (.there .here)))) (by rw [rows_get File.fl_len (gF m (by omega)) (by decide)]; rfl)) ?_
                      refine WL_guard_t rfl rfl ?_
                      refine WL_step rfl (R_eq rfl rfl) ?_
                      refine WL_stepM rfl (R_pk_f rfl) ?_
                      refine WL_nil ?_
                      exact ⟨(same_mov rfl (same_updo rfl (same_updo rfl (same_updo rfl (same_updo rfl (same_updo rfl (same_mov rfl Same.refl))))))), rfl, H⟩
                    case h0 =>
                      intro h466
                      refine WL_guard_f rfl rfl (by decide) ?_
                      refine WL_guard_f rfl rfl (by decide) ?_
                      refine WL_guard_f rfl rfl (by decide) ?_
                      refine WL_guard_f rfl rfl (by decide) ?_
                      refine WL_guard_f rfl rfl (by decide) ?_
                      refine WL_guard_f rfl rfl (by decide) ?_
                      refine WL_stepM rfl (R_pk_t rfl) ?_
                      refine WL_nil ?_
                      exact ⟨(same_mov rfl (same_updo rfl (same_updo rfl (same_updo rfl (same_updo rfl (same_updo rfl (same_updo rfl Same.refl))))))), rfl, H⟩
                    case h2 =>
                      (clear H; intro E466 w466 H)
                      refine WL_step rfl (R_indexAddrA (off' := 1) Tryz.underlying61 Tryz.sizeOf4 rfl rfl (by omega) (by omega) rfl) ?_
                      (refine WL_effu rfl (E_store (v := (.bool _)) H Tryz.sizeOf4 rfl rfl rfl (.there .here) (by simp)) ?_; clear H; intro w492 H)
                      refine WL_nil ?_
                      refine W_region_l ?_
                      refine WL_stepM rfl (R_mv) ?_
                      refine WL_step rfl (R_add rfl rfl (w_i64 (by omega))) ?_
                      refine WL_stepM rfl (R_as) ?_
                      refine WL_nil ?_
                      (have _g := hm12; exact ⟨(same_mov rfl (same_updo rfl (same_mov rfl (same_updn (same_updo rfl (same_in rfl (same_mov rfl (same_updo rfl (same_updo rfl (same_updn (same_updo rfl (same_updo rfl (same_updo rfl (same_updo rfl (same_updo rfl (same_mov rfl (same_updo rfl (same_mov rfl (same_mov rfl (same_updo rfl (same_updo rfl (same_updo rfl (same_updo rfl (same_mov rfl (same_mov rfl (same_know rfl (same_updo rfl (same_mov rfl same_ovr)))))))))))))))))))))))))))), j + 1, by omega, by omega, rfl, (by rw [any_s hd, ← Bool.or_assoc, hm, fdOne_s hmc]; rw [orB] at H; exact H)⟩)
                · refine W_exit ?_
                  refine (if_pos rfl).mpr ?_
                  ((obtain rfl : j = 8 := (by omega); have hfo : ((List.range i).any (fdB xs) || (p.f.take 8).any (fdOne xs)) = (List.range (i + 1)).any (fdB xs) := (by rw [any_succ, List.take_of_length_le (by omega)]; unfold fdB; rw [hp]))) <;> refine W_region_l ?_
                  refine WL_stepM rfl (R_mv) ?_
                  refine WL_step rfl (R_add rfl rfl (w_i64 (by omega))) ?_
                  refine WL_stepM rfl (R_as) ?_
                  refine WL_nil ?_
                  (have _g := hfo; exact ⟨(same_mov rfl (same_updo rfl (same_mov rfl (same_know rfl (same_updo rfl (same_mov rfl (same_in rfl (same_mov rfl (same_know rfl (same_mov rfl (same_in rfl (same_mov rfl (same_updo rfl (same_mov rfl (same_updo rfl (same_mov rfl (same_mov rfl (same_updo rfl (same_mov rfl (same_mov rfl (same_updo rfl (same_updo rfl (same_updo rfl (same_mov rfl (same_updo rfl (same_updo rfl (same_updo rfl (same_updo rfl (same_mov rfl (same_know rfl (same_updo rfl (same_mov rfl same_ovr)))))))))))))))))))))))))))))))), i + 1, by omega, by omega, rfl, (by rw [← hfo, ← refG_8 hp]; exact H)⟩)
    · refine W_exit ?_
      refine (if_pos rfl).mpr ?_
      refine W_seq ?_
      ((obtain rfl : i = 8 := (by omega); replace H : Hp w ([(c8, blk (refsV (nm xs)) 62), (c7, blk [.bool ((List.range 8).any (parB xs)), .bool ((List.range 8).any (fdB xs)), .bool ((List.range 0).any (refB xs)), .bool ((List.range 0).any (pipB xs)), .bool (false)] 61), (c5, blk (rows Ring.piC Qs) 44), (c4, blk (rows File.flC Fs) 40), (c3, blk (rows Slot.piC Ps) 37)]) _ := H)) <;> refine W_region_l ?_
      (refine WL_effn rfl (E_alloc (vs := endsV xs 0) H Tryz.zeroValue64 rfl) ?_; clear H; intro c13 w512 hc13 H)
      refine WL_nil ?_
      refine W_seq ?_
      refine W_seq ?_
      refine W_region_l ?_
      refine WL_stepM rfl (R_as) ?_
      refine WL_nil ?_
      refine W_block ?_
      refine W_loopS [(14, 14), (92, 151)] (fun (i : Nat) E w' => i ≤ 12 ∧ E 14 = I i ∧ Hp w ([(c13, blk (endsV xs i) 64), (c8, blk (refsV (nm xs)) 62), (c7, blk [.bool ((List.range 8).any (parB xs)), .bool ((List.range 8).any (fdB xs)), .bool ((List.range i).any (refB xs)), .bool ((List.range i).any (pipB xs)), .bool (false)] 61), (c5, blk (rows Ring.piC Qs) 44), (c4, blk (rows File.flC Fs) 40), (c3, blk (rows Slot.piC Ps) 37)]) w') (fun i => 12 - i) 0 ?e4 ?r4
      · exact ⟨by omega, rfl, H⟩
      · (clear H; rintro i E w1 ⟨hi, h14, H⟩; refine W_kn h14 ?_)
        refine W_seq ?_
        refine W_seq ?_
        refine W_region_l ?_
        refine WL_stepM rfl (R_mv) ?_
        refine WL_step rfl (R_lt rfl rfl) ?_
        refine WL_nil ?_
        refine W_if rfl (fun h528 => ?_) (fun h528 => ?_)
        · refine W_skip ?_
          refine W_seq ?_
          refine W_block ?_
          refine W_seq ?_
          refine W_seq ?_
          ((have hget := gF i (by omega); have hfp := fd_p xs i; rcases fcase (hF i (by omega)) with ⟨hz1, hz2⟩ | ⟨hz1, hz2, hz3⟩; have hs : (fd xs i).k = 0 := (by rw [hz2]; rfl))) <;> refine W_region_l ?_
          · refine WL_stepM rfl (R_mv) ?_
            refine WL_step rfl (R_indexAddrA (off' := i * 4) Tryz.underlying40 Tryz.sizeOf39 rfl rfl (by omega) (by omega) (by omega)) ?_
            refine WL_step rfl (R_fieldAddr Tryz.underlying39 rfl Tryz.sizeOf3 (by decide) rfl rfl) ?_
            refine WL_step rfl (R_load (v := I (fd xs i).k) Tryz.isAgg3 rfl (H.get (.there (.there (.there (.there .here))))) (by rw [rows_get File.fl_len hget (by decide)]; rfl)) ?_
            refine WL_step rfl (R_eq_t rfl rfl (by omega)) ?_
            refine WL_nil ?_
            refine W_cond_t rfl ?_
            refine W_exit ?_
            refine (if_pos rfl).mpr ?_
            refine W_region_l ?_
            refine WL_stepM rfl (R_mv) ?_
            refine WL_step rfl (R_add rfl rfl (w_i64 (by omega))) ?_
            refine WL_stepM rfl (R_as) ?_
            refine WL_nil ?_
            (have _g : fd xs i = File.zeroF := hz2; exact ⟨(same_mov rfl (same_updo rfl (same_mov rfl (same_updo rfl (same_updo rfl (same_updo rfl (same_updo rfl (same_mov rfl (same_know rfl (same_updo rfl (same_mov rfl same_ovr))))))))))), i + 1, by omega, by omega, rfl, (by rw [any_f (refB_z hz1), any_f (pipB_no (own_z hz2)), endsV_no (own_z hz2)]; exact H)⟩)
          · refine WL_stepM rfl (R_mv) ?_
            refine WL_step rfl (R_indexAddrA (off' := i * 4) Tryz.underlying40 Tryz.sizeOf39 rfl rfl (by omega) (by omega) (by omega)) ?_
            refine WL_step rfl (R_fieldAddr Tryz.underlying39 rfl Tryz.sizeOf3 (by decide) rfl rfl) ?_
            refine WL_step rfl (R_load (v := I (fd xs i).k) Tryz.isAgg3 rfl (H.get (.there (.there (.there (.there .here))))) (by rw [rows_get File.fl_len hget (by decide)]; rfl)) ?_
            refine WL_step rfl (R_eq_f rfl rfl (by omega)) ?_
            refine WL_nil ?_
            refine W_cond_f rfl ?_
            refine W_skip ?_
            refine W_seq ?_
            (refine W_draw (Kp [(c13, blk (endsV xs i) 64), (c8, blk (refsV (nm xs)) 62), (c7, blk [.bool ((List.range 8).any (parB xs)), .bool ((List.range 8).any (fdB xs)), .bool ((List.range i).any (refB xs)), .bool ((List.range i).any (pipB xs)), .bool (false)] 61), (c5, blk (rows Ring.piC Qs) 44), (c4, blk (rows File.flC Fs) 40), (c3, blk (rows Slot.piC Ps) 37)]) (fun k => Nat.ble 12 k) (by kernel_rfl) H ?_; clear H; intro w559 H)
            refine WA_take 0 rfl rfl rfl (by kernel_rfl) (by kernel_rfl) H.kp (fun _ hC => R_indexAddrA (off' := 2) Tryz.underlying61 Tryz.sizeOf4 rfl rfl (by omega) (by omega) rfl) ?_
            refine WA_take 1 rfl rfl rfl (by kernel_rfl) (by kernel_rfl) H.kp (fun _ hC => R_load Tryz.isAgg4 rfl (hC.get (.there (.there .here))) rfl) ?_
            refine WA_takeM 2 rfl rfl rfl (by kernel_rfl) (by kernel_rfl) H.kp (fun _ hC => R_mv) ?_
            refine WA_ifB 103 rfl (fun h563 => ?_) (fun h563 => ?_)
            · refine WA_pass 3 rfl rfl rfl (fun h => nomatch h) (by kernel_rfl) (by kernel_rfl) H.kp ?_
              refine WA_pass 4 rfl rfl rfl (fun h => nomatch h) (by kernel_rfl) (by kernel_rfl) H.kp ?_
              refine WA_pass 5 rfl rfl rfl (fun h => nomatch h) (by kernel_rfl) (by kernel_rfl) H.kp ?_
              refine WA_pass 6 rfl rfl rfl (fun h => nomatch h) (by kernel_rfl) (by kernel_rfl) H.kp ?_
              refine WA_pass 7 rfl rfl rfl (fun h => nomatch h) (by kernel_rfl) (by kernel_rfl) H.kp ?_
              refine WA_pass 8 rfl rfl rfl (fun h => nomatch h) (by kernel_rfl) (by kernel_rfl) H.kp ?_
              refine WA_pass 9 rfl rfl rfl (fun h => nomatch h) (by kernel_rfl) (by kernel_rfl) H.kp ?_
              refine WA_pass 10 rfl rfl rfl (fun h => nomatch h) (by kernel_rfl) (by kernel_rfl) H.kp ?_
              refine WA_takeM 11 rfl rfl rfl (by kernel_rfl) (by kernel_rfl) H.kp (fun _ hC => R_pk_t rfl) ?_
              refine WA_one (i := 12) (by kernel_rfl) ?_
              refine WI_value rfl (.inl rfl) (R_indexAddrA (off' := 2) Tryz.underlying61 Tryz.sizeOf4 rfl rfl (by omega) (by omega) rfl) (by first | exact fun h => absurd h (by decide) | exact fun _ => H | exact fun _ => H.none (by repeat' first | exact kNil | apply kCons | apply kApp | assumption | exact OwnS.keys (by assumption)) | exact fun _ => H.dropN (by repeat' first | exact kNil | apply kCons | apply kApp | assumption | exact OwnS.keys (by assumption)) | exact fun _ => H.pop (by assumption) | exact fun _ => (H.pop (by assumption)).pop (by assumption) | exact fun _ => H.kp | exact fun _ => H.kp.tail | exact fun _ => H.kp.tail.tail | exact fun _ => H.kp.tail.tail.tail | exact fun _ => H.kp.sub (by simp) | exact fun _ => Kp.nil | exact fun _ => H.kh (by simp) (by repeat' first | exact kNil | apply kCons | apply kApp | assumption | exact OwnS.keys (by assumption))) ?_
              refine WA_one (i := 13) (by kernel_rfl) ?_
              (refine WI_effu rfl (.inl rfl) (E_store (v := _) H Tryz.sizeOf4 rfl rfl rfl (.there (.there .here)) (by simp)) (fun _ _ h => absurd h (by decide)) ?_; clear H; intro w576 H)
              refine WA_done (by kernel_rfl) ?_
              refine W_seq ?_
              refine W_seq ?_
              ((have hB : (List.range i).any (refB xs) = true := (by assumption); replace H : Hp w ([(c13, blk (endsV xs i) 64), (c8, blk (refsV (nm xs)) 62), (c7, blk [.bool ((List.range 8).any (parB xs)), .bool ((List.range 8).any (fdB xs)), .bool ((List.range (i + 1)).any (refB xs)), .bool ((List.range i).any (pipB xs)), .bool (false)] 61), (c5, blk (rows Ring.piC Qs) 44), (c4, blk (rows File.flC Fs) 40), (c3, blk (rows Slot.piC Ps) 37)]) _ := (by rw [any_succ (B := refB xs), hB, Bool.true_or]; exact H))) <;> refine W_region_l ?_
              refine WL_stepM rfl (R_mv) ?_
              refine WL_step rfl (R_indexAddrA (off' := i * 4) Tryz.underlying40 Tryz.sizeOf39 rfl rfl (by omega) (by omega) (by omega)) ?_
              refine WL_step rfl (R_fieldAddr Tryz.underlying39 rfl Tryz.sizeOf3 (by decide) rfl rfl) ?_
              refine WL_step rfl (R_load (v := I (fd xs i).k) Tryz.isAgg3 rfl (H.get (.there (.there (.there (.there .here))))) (by rw [rows_get File.fl_len hget (by decide)]; rfl)) ?_
              refine WL_step rfl (R_eq rfl rfl) ?_
              refine WL_stepM rfl (R_mv) ?_
              apply WL_orK 6 119 125 [(120, 125)] H
              case hc => rfl
              case h1 =>
                intro h587
                refine WL_guard_t rfl rfl ?_
                refine WL_stepM rfl (R_mv) ?_
                refine WL_guard_t rfl rfl ?_
                refine WL_step rfl (R_indexAddrA (off' := i * 4) Tryz.underlying40 Tryz.sizeOf39 rfl rfl (by omega) (by omega) (by omega)) ?_
                refine WL_guard_t rfl rfl ?_
                refine WL_step rfl (R_fieldAddr (off' := _ + 1) Tryz.underlying39 rfl Tryz.sizeOf3 (by decide) rfl rfl) ?_
                refine WL_guard_t rfl rfl ?_
                refine WL_step rfl (R_load (v := I (fd xs i).p) Tryz.isAgg3 rfl (H.get (.there (.there (.there (.there .here))))) (by rw [rows_get File.fl_len hget (by decide)]; rfl)) ?_
                refine WL_guard_t rfl rfl ?_
                refine WL_step rfl (R_gt rfl rfl) ?_
                refine WL_stepM rfl (R_pk_f rfl) ?_
                refine WL_nil ?_
                exact ⟨(same_mov rfl (same_updo rfl (same_updo rfl (same_updo rfl (same_updo rfl (same_mov rfl Same.refl)))))), rfl, H⟩
              case h0 =>
                intro h587
                refine WL_guard_f rfl rfl (by decide) ?_
                refine WL_guard_f rfl rfl (by decide) ?_
                refine WL_guard_f rfl rfl (by decide) ?_
                refine WL_guard_f rfl rfl (by decide) ?_
                refine WL_guard_f rfl rfl (by decide) ?_
                refine WL_stepM rfl (R_pk_t rfl) ?_
                refine WL_nil ?_
                exact ⟨(same_mov rfl (same_updo rfl (same_updo rfl (same_updo rfl (same_updo rfl (same_updo rfl Same.refl)))))), rfl, H⟩
              case h2 =>
                (clear H; intro E587 w587 H)
                refine WL_nil ?_
                refine W_if rfl (fun h610 => ?_) (fun h610 => ?_)
                · refine W_exit ?_
                  refine (if_pos rfl).mpr ?_
                  refine W_region_l ?_
                  refine WL_stepM rfl (R_mv) ?_
                  refine WL_step rfl (R_add rfl rfl (w_i64 (by omega))) ?_
                  refine WL_stepM rfl (R_as) ?_
                  refine WL_nil ?_
                  (have hno : ¬ ownF (fd xs i) := (by unfold ownF; omega); exact ⟨(same_mov rfl (same_updo rfl (same_mov rfl (same_know rfl (same_in rfl (same_mov rfl (same_updo rfl (same_updo rfl (same_updo rfl (same_updo rfl (same_mov rfl (same_updn (same_updo rfl (same_mov rfl (same_updo rfl (same_updo rfl (same_updo rfl (same_updo rfl (same_updo rfl (same_updo rfl (same_updo rfl (same_updo rfl (same_know rfl (same_mov rfl (same_updo rfl (same_updo rfl (same_updo rfl (same_updo rfl (same_updo rfl (same_updo rfl (same_mov rfl (same_know rfl (same_updo rfl (same_mov rfl same_ovr)))))))))))))))))))))))))))))))))), i + 1, by omega, by omega, rfl, (by rw [any_f (pipB_no hno), endsV_no hno]; exact H)⟩)
                · refine W_skip ?_
                  refine W_seq ?_
                  (have hown : ownF (fd xs i) := (by unfold ownF; omega); obtain ⟨P, hPp, hP4⟩ : ∃ P : Nat, (fd xs i).p = (P : Int) ∧ P < 4 := ⟨(fd xs i).p.toNat, by omega, by omega⟩; obtain ⟨q, hq⟩ : ∃ q, decide ((fd xs i).k = 1) = q := ⟨_, rfl⟩; obtain ⟨o, ho, ho2, ho3⟩ : ∃ o : Nat, (fd xs i).k - 1 = (o : Int) ∧ o = (if q = true then 0 else 1) ∧ o < 2 := endO hown hq; have hen := endN_le xs P i q; refine W_draw (Kp [(c8, blk (refsV (nm xs)) 62), (c7, blk [.bool ((List.range 8).any (parB xs)), .bool ((List.range 8).any (fdB xs)), .bool ((List.range (i + 1)).any (refB xs)), .bool ((List.range i).any (pipB xs)), .bool (false)] 61), (c5, blk (rows Ring.piC Qs) 44), (c4, blk (rows File.flC Fs) 40), (c3, blk (rows Slot.piC Ps) 37)]) (fun _ => false) (by kernel_rfl) H ?_; clear H; intro w621 H)
                  refine WA_takeM 0 rfl rfl rfl (by kernel_rfl) (by kernel_rfl) (H.kp.sub (by simp)) (fun _ hC => R_mv) ?_
                  refine WA_take 1 rfl rfl rfl (by kernel_rfl) (by kernel_rfl) (H.kp.sub (by simp)) (fun _ hC => R_indexAddrA (off' := i * 4) Tryz.underlying40 Tryz.sizeOf39 rfl rfl (by omega) (by omega) (by omega)) ?_
                  refine WA_take 2 rfl rfl rfl (by kernel_rfl) (by kernel_rfl) (H.kp.sub (by simp)) (fun _ hC => R_fieldAddr (off' := _ + 1) Tryz.underlying39 rfl Tryz.sizeOf3 (by decide) rfl rfl) ?_
                  refine WA_take 3 rfl rfl rfl (by kernel_rfl) (by kernel_rfl) (H.kp.sub (by simp)) (fun _ hC => R_load (v := I P) Tryz.isAgg3 rfl (hC.get (.there (.there (.there .here)))) (by rw [rows_get File.fl_len hget (by decide), ← hPp]; rfl)) ?_
                  refine WA_takeM 4 rfl rfl rfl (by kernel_rfl) (by kernel_rfl) (H.kp.sub (by simp)) (fun _ hC => R_mv) ?_
                  refine WA_take 5 rfl rfl rfl (by kernel_rfl) (by kernel_rfl) (H.kp.sub (by simp)) (fun _ hC => R_indexAddrA (off' := i * 4) Tryz.underlying40 Tryz.sizeOf39 rfl rfl (by omega) (by omega) (by omega)) ?_
                  refine WA_take 6 rfl rfl rfl (by kernel_rfl) (by kernel_rfl) (H.kp.sub (by simp)) (fun _ hC => R_fieldAddr Tryz.underlying39 rfl Tryz.sizeOf3 (by decide) rfl rfl) ?_
                  refine WA_take 7 rfl rfl rfl (by kernel_rfl) (by kernel_rfl) (H.kp.sub (by simp)) (fun _ hC => R_load (v := I (fd xs i).k) Tryz.isAgg3 rfl (hC.get (.there (.there (.there .here)))) (by rw [rows_get File.fl_len hget (by decide)]; rfl)) ?_
                  refine WA_take 8 rfl rfl rfl (by kernel_rfl) (by kernel_rfl) (H.kp.sub (by simp)) (fun _ hC => R_sub (r := (o : Int)) rfl rfl (by rw [w_i64 (by omega)]; omega)) ?_
                  refine WA_take 9 rfl rfl rfl (by kernel_rfl) (by kernel_rfl) (H.kp.sub (by simp)) (fun _ hC => R_indexAddrA (off' := P * 2) Tryz.underlying64 Tryz.sizeOf63 rfl rfl (by omega) (by omega) (by omega)) ?_
                  refine WA_take 10 rfl rfl rfl (by kernel_rfl) (by kernel_rfl) (H.kp.sub (by simp)) (fun _ hC => R_indexAddrA (off' := P * 2 + o) Tryz.underlying63 Tryz.sizeOf3 rfl rfl (by omega) (by omega) (by omega)) ?_
                  refine WA_take 13 rfl rfl rfl (by kernel_rfl) (by kernel_rfl) (H.kp.sub (by simp)) (fun _ hC => R_indexAddrA (off' := P * 2) Tryz.underlying64 Tryz.sizeOf63 rfl rfl (by omega) (by omega) (by omega)) ?_
                  refine WA_one (i := 11) (by kernel_rfl) ?_
                  refine WI_value rfl (.inl rfl) (R_load (v := I (endN xs P q i)) Tryz.isAgg3 rfl (H.get .here) (endsV_at hP4 ho2)) (by first | exact fun h => absurd h (by decide) | exact fun _ => H | exact fun _ => H.none (by repeat' first | exact kNil | apply kCons | apply kApp | assumption | exact OwnS.keys (by assumption)) | exact fun _ => H.dropN (by repeat' first | exact kNil | apply kCons | apply kApp | assumption | exact OwnS.keys (by assumption)) | exact fun _ => H.pop (by assumption) | exact fun _ => (H.pop (by assumption)).pop (by assumption) | exact fun _ => H.kp | exact fun _ => H.kp.tail | exact fun _ => H.kp.tail.tail | exact fun _ => H.kp.tail.tail.tail | exact fun _ => H.kp.sub (by simp) | exact fun _ => Kp.nil | exact fun _ => H.kh (by simp) (by repeat' first | exact kNil | apply kCons | apply kApp | assumption | exact OwnS.keys (by assumption))) ?_
                  refine WA_one (i := 12) (by kernel_rfl) ?_
                  refine WI_value rfl (.inl rfl) (R_add (r := ((endN xs P q i + 1 : Nat) : Int)) rfl rfl (by rw [w_i64 (by omega)]; omega)) (by first | exact fun h => absurd h (by decide) | exact fun _ => H | exact fun _ => H.none (by repeat' first | exact kNil | apply kCons | apply kApp | assumption | exact OwnS.keys (by assumption)) | exact fun _ => H.dropN (by repeat' first | exact kNil | apply kCons | apply kApp | assumption | exact OwnS.keys (by assumption)) | exact fun _ => H.pop (by assumption) | exact fun _ => (H.pop (by assumption)).pop (by assumption) | exact fun _ => H.kp | exact fun _ => H.kp.tail | exact fun _ => H.kp.tail.tail | exact fun _ => H.kp.tail.tail.tail | exact fun _ => H.kp.sub (by simp) | exact fun _ => Kp.nil | exact fun _ => H.kh (by simp) (by repeat' first | exact kNil | apply kCons | apply kApp | assumption | exact OwnS.keys (by assumption))) ?_
                  refine WA_take 14 rfl rfl rfl (by kernel_rfl) (by kernel_rfl) (H.kp.sub (by simp)) (fun _ hC => R_indexAddrA (off' := P * 2 + o) Tryz.underlying63 Tryz.sizeOf3 rfl rfl (by omega) (by omega) (by omega)) ?_
                  refine WA_one (i := 15) (by kernel_rfl) ?_
                  (have _g := ho3; refine WI_effu rfl (.inl rfl) (E_store (v := I ((endN xs P q i + 1 : Nat) : Int)) H Tryz.sizeOf3 rfl rfl rfl .here (by rw [endsV_len]; omega)) (fun _ H => (by first | exact fun h => absurd h (by decide) | exact fun _ => H | exact fun _ => H.none (by repeat' first | exact kNil | apply kCons | apply kApp | assumption | exact OwnS.keys (by assumption)) | exact fun _ => H.dropN (by repeat' first | exact kNil | apply kCons | apply kApp | assumption | exact OwnS.keys (by assumption)) | exact fun _ => H.pop (by assumption) | exact fun _ => (H.pop (by assumption)).pop (by assumption) | exact fun _ => H.kp | exact fun _ => H.kp.tail | exact fun _ => H.kp.tail.tail | exact fun _ => H.kp.tail.tail.tail | exact fun _ => H.kp.sub (by simp) | exact fun _ => Kp.nil | exact fun _ => H.kh (by simp) (by repeat' first | exact kNil | apply kCons | apply kApp | assumption | exact OwnS.keys (by assumption)))) ?_; clear H; intro w640 H; rw [ho2, endsV_set hP4 hown hPp hq] at H)
                  refine WA_done (by kernel_rfl) ?_
                  refine W_region_l ?_
                  refine WL_step rfl (R_indexAddrA (off' := 3) Tryz.underlying61 Tryz.sizeOf4 rfl rfl (by omega) (by omega) rfl) ?_
                  refine WL_step rfl (R_load Tryz.isAgg4 rfl (H.get (.there (.there .here))) rfl) ?_
                  refine WL_stepM rfl (R_mv) ?_
                  apply WL_orK 7 143 150 [(144, 150)] H
                  case hc => exact decV rfl
                  case h1 =>
                    intro h646
                    refine WL_guard_t rfl rfl ?_
                    refine WL_stepM rfl (R_mv) ?_
                    refine WL_guard_t rfl rfl ?_
                    refine WL_stepM rfl (R_mv) ?_
                    refine WL_guard_t rfl rfl ?_
                    refine WL_step rfl (R_indexAddrA (off' := i * 4) Tryz.underlying40 Tryz.sizeOf39 rfl rfl (by omega) (by omega) (by omega)) ?_
                    refine WL_guard_t rfl rfl ?_
                    refine WL_step rfl (R_fieldAddr (off' := _ + 1) Tryz.underlying39 rfl Tryz.sizeOf3 (by decide) rfl rfl) ?_
                    refine WL_guard_t rfl rfl ?_
                    refine WL_step rfl (R_load (v := I P) Tryz.isAgg3 rfl (H.get (.there (.there (.there (.there .here))))) (by rw [rows_get File.fl_len hget (by decide), ← hPp]; rfl)) ?_
                    refine WL_guard_t rfl rfl ?_
                    (have _g := hP4; refine WL_call rfl (R_call rfl Tryz.call20 rfl) (free_ret hx hP4 _) ?_; rintro _ w658 ⟨rfl, H1⟩; replace H := H.seq0 H1; clear H1)
                    refine WL_stepM rfl (R_pk_f rfl) ?_
                    refine WL_nil ?_
                    exact ⟨(same_mov rfl (same_updo rfl (same_updo rfl (same_updo rfl (same_updo rfl (same_mov rfl (same_mov rfl Same.refl))))))), rfl, H⟩
                  case h0 =>
                    intro h646
                    refine WL_guard_f rfl rfl (by decide) ?_
                    refine WL_guard_f rfl rfl (by decide) ?_
                    refine WL_guard_f rfl rfl (by decide) ?_
                    refine WL_guard_f rfl rfl (by decide) ?_
                    refine WL_guard_f rfl rfl (by decide) ?_
                    refine WL_guard_f rfl rfl (by decide) ?_
                    refine WL_stepM rfl (R_pk_t rfl) ?_
                    refine WL_nil ?_
                    exact ⟨(same_mov rfl (same_updo rfl (same_updo rfl (same_updo rfl (same_updo rfl (same_updo rfl (same_updo rfl Same.refl))))))), rfl, H⟩
                  case h2 =>
                    (clear H; intro E646 w646 H)
                    refine WL_step rfl (R_indexAddrA (off' := 3) Tryz.underlying61 Tryz.sizeOf4 rfl rfl (by omega) (by omega) rfl) ?_
                    (refine WL_effu rfl (E_store (v := (.bool _)) H Tryz.sizeOf4 rfl rfl rfl (.there (.there .here)) (by simp)) ?_; clear H; intro w672 H)
                    refine WL_nil ?_
                    refine W_region_l ?_
                    refine WL_stepM rfl (R_mv) ?_
                    refine WL_step rfl (R_add rfl rfl (w_i64 (by omega))) ?_
                    refine WL_stepM rfl (R_as) ?_
                    refine WL_nil ?_
                    (have _g := hP4; exact ⟨(same_mov rfl (same_updo rfl (same_mov rfl (same_updn (same_updo rfl (same_in rfl (same_mov rfl (same_updo rfl (same_updo rfl (same_updn (same_updo rfl (same_updo rfl (same_updo rfl (same_updo rfl (same_updo rfl (same_updo rfl (same_updo rfl (same_updo rfl (same_updo rfl (same_updo rfl (same_mov rfl (same_updo rfl (same_updo rfl (same_updo rfl (same_mov rfl (same_know rfl (same_in rfl (same_mov rfl (same_updo rfl (same_updo rfl (same_updo rfl (same_updo rfl (same_mov rfl (same_updn (same_updo rfl (same_mov rfl (same_updo rfl (same_updo rfl (same_updo rfl (same_updo rfl (same_updo rfl (same_updo rfl (same_updo rfl (same_updo rfl (same_know rfl (same_mov rfl (same_updo rfl (same_updo rfl (same_updo rfl (same_updo rfl (same_updo rfl (same_updo rfl (same_mov rfl (same_know rfl (same_updo rfl (same_mov rfl same_ovr)))))))))))))))))))))))))))))))))))))))))))))))))))))))), i + 1, by omega, by omega, rfl, (by rw [any_succ (B := pipB xs), pipB_1 hown hPp (hQ P hP4)]; rw [orB] at H; exact H)⟩)
            · refine WA_takeGM 3 rfl rfl rfl rfl (by kernel_rfl) (by kernel_rfl) H.kp (fun _ hC => R_mv) ?_
              refine WA_takeG 4 rfl rfl rfl rfl (by kernel_rfl) (by kernel_rfl) H.kp (fun _ hC => R_indexAddrA (off' := i * 4) Tryz.underlying40 Tryz.sizeOf39 rfl rfl (by omega) (by omega) (by omega)) ?_
              refine WA_takeG 5 rfl rfl rfl rfl (by kernel_rfl) (by kernel_rfl) H.kp (fun _ hC => R_fieldAddr (off' := _ + 2) Tryz.underlying39 rfl Tryz.sizeOf3 (by decide) rfl rfl) ?_
              refine WA_takeG 6 rfl rfl rfl rfl (by kernel_rfl) (by kernel_rfl) H.kp (fun _ hC => R_load (v := I (fd xs i).r) Tryz.isAgg3 rfl (hC.get (.there (.there (.there (.there .here))))) (by rw [rows_get File.fl_len hget (by decide)]; rfl)) ?_
              refine WA_takeGM 7 rfl rfl rfl rfl (by kernel_rfl) (by kernel_rfl) H.kp (fun _ hC => R_mv) ?_
              refine WA_takeG 8 rfl rfl rfl rfl (by kernel_rfl) (by kernel_rfl) H.kp (fun _ hC => R_indexAddrA (off' := i) Tryz.underlying62 Tryz.sizeOf3 rfl rfl (by omega) (by omega) (by omega)) ?_
              refine WA_takeG 9 rfl rfl rfl rfl (by kernel_rfl) (by kernel_rfl) H.kp (fun _ hC => R_load (v := I (nm xs i)) Tryz.isAgg3 rfl (hC.get (.there .here)) (refsV_get (by omega))) ?_
              refine WA_takeG 10 rfl rfl rfl rfl (by kernel_rfl) (by kernel_rfl) H.kp (fun _ hC => R_ne rfl rfl) ?_
              refine WA_takeM 11 rfl rfl rfl (by kernel_rfl) (by kernel_rfl) H.kp (fun _ hC => R_pk_f rfl) ?_
              refine WA_one (i := 12) (by kernel_rfl) ?_
              refine WI_value rfl (.inl rfl) (R_indexAddrA (off' := 2) Tryz.underlying61 Tryz.sizeOf4 rfl rfl (by omega) (by omega) rfl) (by first | exact fun h => absurd h (by decide) | exact fun _ => H | exact fun _ => H.none (by repeat' first | exact kNil | apply kCons | apply kApp | assumption | exact OwnS.keys (by assumption)) | exact fun _ => H.dropN (by repeat' first | exact kNil | apply kCons | apply kApp | assumption | exact OwnS.keys (by assumption)) | exact fun _ => H.pop (by assumption) | exact fun _ => (H.pop (by assumption)).pop (by assumption) | exact fun _ => H.kp | exact fun _ => H.kp.tail | exact fun _ => H.kp.tail.tail | exact fun _ => H.kp.tail.tail.tail | exact fun _ => H.kp.sub (by simp) | exact fun _ => Kp.nil | exact fun _ => H.kh (by simp) (by repeat' first | exact kNil | apply kCons | apply kApp | assumption | exact OwnS.keys (by assumption))) ?_
              refine WA_one (i := 13) (by kernel_rfl) ?_
              (refine WI_effu rfl (.inl rfl) (E_store (v := _) H Tryz.sizeOf4 rfl rfl rfl (.there (.there .here)) (by simp)) (fun _ _ h => absurd h (by decide)) ?_; clear H; intro w692 H)
              refine WA_done (by kernel_rfl) ?_
              refine W_seq ?_
              refine W_seq ?_
              ((have hB : (List.range i).any (refB xs) = false := (by assumption); replace H : Hp w ([(c13, blk (endsV xs i) 64), (c8, blk (refsV (nm xs)) 62), (c7, blk [.bool ((List.range 8).any (parB xs)), .bool ((List.range 8).any (fdB xs)), .bool ((List.range (i + 1)).any (refB xs)), .bool ((List.range i).any (pipB xs)), .bool (false)] 61), (c5, blk (rows Ring.piC Qs) 44), (c4, blk (rows File.flC Fs) 40), (c3, blk (rows Slot.piC Ps) 37)]) _ := (by rw [any_succ (B := refB xs), hB, Bool.false_or, refB_1 hz1]; exact H))) <;> refine W_region_l ?_
              refine WL_stepM rfl (R_mv) ?_
              refine WL_step rfl (R_indexAddrA (off' := i * 4) Tryz.underlying40 Tryz.sizeOf39 rfl rfl (by omega) (by omega) (by omega)) ?_
              refine WL_step rfl (R_fieldAddr Tryz.underlying39 rfl Tryz.sizeOf3 (by decide) rfl rfl) ?_
              refine WL_step rfl (R_load (v := I (fd xs i).k) Tryz.isAgg3 rfl (H.get (.there (.there (.there (.there .here))))) (by rw [rows_get File.fl_len hget (by decide)]; rfl)) ?_
              refine WL_step rfl (R_eq rfl rfl) ?_
              refine WL_stepM rfl (R_mv) ?_
              apply WL_orK 6 119 125 [(120, 125)] H
              case hc => rfl
              case h1 =>
                intro h703
                refine WL_guard_t rfl rfl ?_
                refine WL_stepM rfl (R_mv) ?_
                refine WL_guard_t rfl rfl ?_
                refine WL_step rfl (R_indexAddrA (off' := i * 4) Tryz.underlying40 Tryz.sizeOf39 rfl rfl (by omega) (by omega) (by omega)) ?_
                refine WL_guard_t rfl rfl ?_
                refine WL_step rfl (R_fieldAddr (off' := _ + 1) Tryz.underlying39 rfl Tryz.sizeOf3 (by decide) rfl rfl) ?_
                refine WL_guard_t rfl rfl ?_
                refine WL_step rfl (R_load (v := I (fd xs i).p) Tryz.isAgg3 rfl (H.get (.there (.there (.there (.there .here))))) (by rw [rows_get File.fl_len hget (by decide)]; rfl)) ?_
                refine WL_guard_t rfl rfl ?_
                refine WL_step rfl (R_gt rfl rfl) ?_
                refine WL_stepM rfl (R_pk_f rfl) ?_
                refine WL_nil ?_
                exact ⟨(same_mov rfl (same_updo rfl (same_updo rfl (same_updo rfl (same_updo rfl (same_mov rfl Same.refl)))))), rfl, H⟩
              case h0 =>
                intro h703
                refine WL_guard_f rfl rfl (by decide) ?_
                refine WL_guard_f rfl rfl (by decide) ?_
                refine WL_guard_f rfl rfl (by decide) ?_
                refine WL_guard_f rfl rfl (by decide) ?_
                refine WL_guard_f rfl rfl (by decide) ?_
                refine WL_stepM rfl (R_pk_t rfl) ?_
                refine WL_nil ?_
                exact ⟨(same_mov rfl (same_updo rfl (same_updo rfl (same_updo rfl (same_updo rfl (same_updo rfl Same.refl)))))), rfl, H⟩
              case h2 =>
                (clear H; intro E703 w703 H)
                refine WL_nil ?_
                refine W_if rfl (fun h726 => ?_) (fun h726 => ?_)
                · refine W_exit ?_
                  refine (if_pos rfl).mpr ?_
                  refine W_region_l ?_
                  refine WL_stepM rfl (R_mv) ?_
                  refine WL_step rfl (R_add rfl rfl (w_i64 (by omega))) ?_
                  refine WL_stepM rfl (R_as) ?_
                  refine WL_nil ?_
                  (have hno : ¬ ownF (fd xs i) := (by unfold ownF; omega); exact ⟨(same_mov rfl (same_updo rfl (same_mov rfl (same_know rfl (same_in rfl (same_mov rfl (same_updo rfl (same_updo rfl (same_updo rfl (same_updo rfl (same_mov rfl (same_updn (same_updo rfl (same_mov rfl (same_updo rfl (same_updo rfl (same_updo rfl (same_mov rfl (same_updo rfl (same_updo rfl (same_updo rfl (same_mov rfl (same_know rfl (same_mov rfl (same_updo rfl (same_updo rfl (same_updo rfl (same_updo rfl (same_updo rfl (same_updo rfl (same_mov rfl (same_know rfl (same_updo rfl (same_mov rfl same_ovr)))))))))))))))))))))))))))))))))), i + 1, by omega, by omega, rfl, (by rw [any_f (pipB_no hno), endsV_no hno]; exact H)⟩)
                · refine W_skip ?_
                  refine W_seq ?_
                  (have hown : ownF (fd xs i) := (by unfold ownF; omega); obtain ⟨P, hPp, hP4⟩ : ∃ P : Nat, (fd xs i).p = (P : Int) ∧ P < 4 := ⟨(fd xs i).p.toNat, by omega, by omega⟩; obtain ⟨q, hq⟩ : ∃ q, decide ((fd xs i).k = 1) = q := ⟨_, rfl⟩; obtain ⟨o, ho, ho2, ho3⟩ : ∃ o : Nat, (fd xs i).k - 1 = (o : Int) ∧ o = (if q = true then 0 else 1) ∧ o < 2 := endO hown hq; have hen := endN_le xs P i q; refine W_draw (Kp [(c8, blk (refsV (nm xs)) 62), (c7, blk [.bool ((List.range 8).any (parB xs)), .bool ((List.range 8).any (fdB xs)), .bool ((List.range (i + 1)).any (refB xs)), .bool ((List.range i).any (pipB xs)), .bool (false)] 61), (c5, blk (rows Ring.piC Qs) 44), (c4, blk (rows File.flC Fs) 40), (c3, blk (rows Slot.piC Ps) 37)]) (fun _ => false) (by kernel_rfl) H ?_; clear H; intro w737 H)
                  refine WA_takeM 0 rfl rfl rfl (by kernel_rfl) (by kernel_rfl) (H.kp.sub (by simp)) (fun _ hC => R_mv) ?_
                  refine WA_take 1 rfl rfl rfl (by kernel_rfl) (by kernel_rfl) (H.kp.sub (by simp)) (fun _ hC => R_indexAddrA (off' := i * 4) Tryz.underlying40 Tryz.sizeOf39 rfl rfl (by omega) (by omega) (by omega)) ?_
                  refine WA_take 2 rfl rfl rfl (by kernel_rfl) (by kernel_rfl) (H.kp.sub (by simp)) (fun _ hC => R_fieldAddr (off' := _ + 1) Tryz.underlying39 rfl Tryz.sizeOf3 (by decide) rfl rfl) ?_
                  refine WA_take 3 rfl rfl rfl (by kernel_rfl) (by kernel_rfl) (H.kp.sub (by simp)) (fun _ hC => R_load (v := I P) Tryz.isAgg3 rfl (hC.get (.there (.there (.there .here)))) (by rw [rows_get File.fl_len hget (by decide), ← hPp]; rfl)) ?_
                  refine WA_takeM 4 rfl rfl rfl (by kernel_rfl) (by kernel_rfl) (H.kp.sub (by simp)) (fun _ hC => R_mv) ?_
                  refine WA_take 5 rfl rfl rfl (by kernel_rfl) (by kernel_rfl) (H.kp.sub (by simp)) (fun _ hC => R_indexAddrA (off' := i * 4) Tryz.underlying40 Tryz.sizeOf39 rfl rfl (by omega) (by omega) (by omega)) ?_
                  refine WA_take 6 rfl rfl rfl (by kernel_rfl) (by kernel_rfl) (H.kp.sub (by simp)) (fun _ hC => R_fieldAddr Tryz.underlying39 rfl Tryz.sizeOf3 (by decide) rfl rfl) ?_
                  refine WA_take 7 rfl rfl rfl (by kernel_rfl) (by kernel_rfl) (H.kp.sub (by simp)) (fun _ hC => R_load (v := I (fd xs i).k) Tryz.isAgg3 rfl (hC.get (.there (.there (.there .here)))) (by rw [rows_get File.fl_len hget (by decide)]; rfl)) ?_
                  refine WA_take 8 rfl rfl rfl (by kernel_rfl) (by kernel_rfl) (H.kp.sub (by simp)) (fun _ hC => R_sub (r := (o : Int)) rfl rfl (by rw [w_i64 (by omega)]; omega)) ?_
                  refine WA_take 9 rfl rfl rfl (by kernel_rfl) (by kernel_rfl) (H.kp.sub (by simp)) (fun _ hC => R_indexAddrA (off' := P * 2) Tryz.underlying64 Tryz.sizeOf63 rfl rfl (by omega) (by omega) (by omega)) ?_
                  refine WA_take 10 rfl rfl rfl (by kernel_rfl) (by kernel_rfl) (H.kp.sub (by simp)) (fun _ hC => R_indexAddrA (off' := P * 2 + o) Tryz.underlying63 Tryz.sizeOf3 rfl rfl (by omega) (by omega) (by omega)) ?_
                  refine WA_take 13 rfl rfl rfl (by kernel_rfl) (by kernel_rfl) (H.kp.sub (by simp)) (fun _ hC => R_indexAddrA (off' := P * 2) Tryz.underlying64 Tryz.sizeOf63 rfl rfl (by omega) (by omega) (by omega)) ?_
                  refine WA_one (i := 11) (by kernel_rfl) ?_
                  refine WI_value rfl (.inl rfl) (R_load (v := I (endN xs P q i)) Tryz.isAgg3 rfl (H.get .here) (endsV_at hP4 ho2)) (by first | exact fun h => absurd h (by decide) | exact fun _ => H | exact fun _ => H.none (by repeat' first | exact kNil | apply kCons | apply kApp | assumption | exact OwnS.keys (by assumption)) | exact fun _ => H.dropN (by repeat' first | exact kNil | apply kCons | apply kApp | assumption | exact OwnS.keys (by assumption)) | exact fun _ => H.pop (by assumption) | exact fun _ => (H.pop (by assumption)).pop (by assumption) | exact fun _ => H.kp | exact fun _ => H.kp.tail | exact fun _ => H.kp.tail.tail | exact fun _ => H.kp.tail.tail.tail | exact fun _ => H.kp.sub (by simp) | exact fun _ => Kp.nil | exact fun _ => H.kh (by simp) (by repeat' first | exact kNil | apply kCons | apply kApp | assumption | exact OwnS.keys (by assumption))) ?_
                  refine WA_one (i := 12) (by kernel_rfl) ?_
                  refine WI_value rfl (.inl rfl) (R_add (r := ((endN xs P q i + 1 : Nat) : Int)) rfl rfl (by rw [w_i64 (by omega)]; omega)) (by first | exact fun h => absurd h (by decide) | exact fun _ => H | exact fun _ => H.none (by repeat' first | exact kNil | apply kCons | apply kApp | assumption | exact OwnS.keys (by assumption)) | exact fun _ => H.dropN (by repeat' first | exact kNil | apply kCons | apply kApp | assumption | exact OwnS.keys (by assumption)) | exact fun _ => H.pop (by assumption) | exact fun _ => (H.pop (by assumption)).pop (by assumption) | exact fun _ => H.kp | exact fun _ => H.kp.tail | exact fun _ => H.kp.tail.tail | exact fun _ => H.kp.tail.tail.tail | exact fun _ => H.kp.sub (by simp) | exact fun _ => Kp.nil | exact fun _ => H.kh (by simp) (by repeat' first | exact kNil | apply kCons | apply kApp | assumption | exact OwnS.keys (by assumption))) ?_
                  refine WA_take 14 rfl rfl rfl (by kernel_rfl) (by kernel_rfl) (H.kp.sub (by simp)) (fun _ hC => R_indexAddrA (off' := P * 2 + o) Tryz.underlying63 Tryz.sizeOf3 rfl rfl (by omega) (by omega) (by omega)) ?_
                  refine WA_one (i := 15) (by kernel_rfl) ?_
                  (have _g := ho3; refine WI_effu rfl (.inl rfl) (E_store (v := I ((endN xs P q i + 1 : Nat) : Int)) H Tryz.sizeOf3 rfl rfl rfl .here (by rw [endsV_len]; omega)) (fun _ H => (by first | exact fun h => absurd h (by decide) | exact fun _ => H | exact fun _ => H.none (by repeat' first | exact kNil | apply kCons | apply kApp | assumption | exact OwnS.keys (by assumption)) | exact fun _ => H.dropN (by repeat' first | exact kNil | apply kCons | apply kApp | assumption | exact OwnS.keys (by assumption)) | exact fun _ => H.pop (by assumption) | exact fun _ => (H.pop (by assumption)).pop (by assumption) | exact fun _ => H.kp | exact fun _ => H.kp.tail | exact fun _ => H.kp.tail.tail | exact fun _ => H.kp.tail.tail.tail | exact fun _ => H.kp.sub (by simp) | exact fun _ => Kp.nil | exact fun _ => H.kh (by simp) (by repeat' first | exact kNil | apply kCons | apply kApp | assumption | exact OwnS.keys (by assumption)))) ?_; clear H; intro w756 H; rw [ho2, endsV_set hP4 hown hPp hq] at H)
                  refine WA_done (by kernel_rfl) ?_
                  refine W_region_l ?_
                  refine WL_step rfl (R_indexAddrA (off' := 3) Tryz.underlying61 Tryz.sizeOf4 rfl rfl (by omega) (by omega) rfl) ?_
                  refine WL_step rfl (R_load Tryz.isAgg4 rfl (H.get (.there (.there .here))) rfl) ?_
                  refine WL_stepM rfl (R_mv) ?_
                  apply WL_orK 7 143 150 [(144, 150)] H
                  case hc => exact decV rfl
                  case h1 =>
                    intro h762
                    refine WL_guard_t rfl rfl ?_
                    refine WL_stepM rfl (R_mv) ?_
                    refine WL_guard_t rfl rfl ?_
                    refine WL_stepM rfl (R_mv) ?_
                    refine WL_guard_t rfl rfl ?_
                    refine WL_step rfl (R_indexAddrA (off' := i * 4) Tryz.underlying40 Tryz.sizeOf39 rfl rfl (by omega) (by omega) (by omega)) ?_
                    refine WL_guard_t rfl rfl ?_
                    refine WL_step rfl (R_fieldAddr (off' := _ + 1) Tryz.underlying39 rfl Tryz.sizeOf3 (by decide) rfl rfl) ?_
                    refine WL_guard_t rfl rfl ?_
                    refine WL_step rfl (R_load (v := I P) Tryz.isAgg3 rfl (H.get (.there (.there (.there (.there .here))))) (by rw [rows_get File.fl_len hget (by decide), ← hPp]; rfl)) ?_
                    refine WL_guard_t rfl rfl ?_
                    (have _g := hP4; refine WL_call rfl (R_call rfl Tryz.call20 rfl) (free_ret hx hP4 _) ?_; rintro _ w774 ⟨rfl, H1⟩; replace H := H.seq0 H1; clear H1)
                    refine WL_stepM rfl (R_pk_f rfl) ?_
                    refine WL_nil ?_
                    exact ⟨(same_mov rfl (same_updo rfl (same_updo rfl (same_updo rfl (same_updo rfl (same_mov rfl (same_mov rfl Same.refl))))))), rfl, H⟩
                  case h0 =>
                    intro h762
                    refine WL_guard_f rfl rfl (by decide) ?_
                    refine WL_guard_f rfl rfl (by decide) ?_
                    refine WL_guard_f rfl rfl (by decide) ?_
                    refine WL_guard_f rfl rfl (by decide) ?_
                    refine WL_guard_f rfl rfl (by decide) ?_
                    refine WL_guard_f rfl rfl (by decide) ?_
                    refine WL_stepM rfl (R_pk_t rfl) ?_
                    refine WL_nil ?_
                    exact ⟨(same_mov rfl (same_updo rfl (same_updo rfl (same_updo rfl (same_updo rfl (same_updo rfl (same_updo rfl Same.refl))))))), rfl, H⟩
                  case h2 =>
                    (clear H; intro E762 w762 H)
                    refine WL_step rfl (R_indexAddrA (off' := 3) Tryz.underlying61 Tryz.sizeOf4 rfl rfl (by omega) (by omega) rfl) ?_
                    (refine WL_effu rfl (E_store (v := (.bool _)) H Tryz.sizeOf4 rfl rfl rfl (.there (.there .here)) (by simp)) ?_; clear H; intro w788 H)
                    refine WL_nil ?_
                    refine W_region_l ?_
                    refine WL_stepM rfl (R_mv) ?_
                    refine WL_step rfl (R_add rfl rfl (w_i64 (by omega))) ?_
                    refine WL_stepM rfl (R_as) ?_
                    refine WL_nil ?_
                    (have _g := hP4; exact ⟨(same_mov rfl (same_updo rfl (same_mov rfl (same_updn (same_updo rfl (same_in rfl (same_mov rfl (same_updo rfl (same_updo rfl (same_updn (same_updo rfl (same_updo rfl (same_updo rfl (same_updo rfl (same_updo rfl (same_updo rfl (same_updo rfl (same_updo rfl (same_updo rfl (same_updo rfl (same_mov rfl (same_updo rfl (same_updo rfl (same_updo rfl (same_mov rfl (same_know rfl (same_in rfl (same_mov rfl (same_updo rfl (same_updo rfl (same_updo rfl (same_updo rfl (same_mov rfl (same_updn (same_updo rfl (same_mov rfl (same_updo rfl (same_updo rfl (same_updo rfl (same_mov rfl (same_updo rfl (same_updo rfl (same_updo rfl (same_mov rfl (same_know rfl (same_mov rfl (same_updo rfl (same_updo rfl (same_updo rfl (same_updo rfl (same_updo rfl (same_updo rfl (same_mov rfl (same_know rfl (same_updo rfl (same_mov rfl same_ovr)))))))))))))))))))))))))))))))))))))))))))))))))))))))), i + 1, by omega, by omega, rfl, (by rw [any_succ (B := pipB xs), pipB_1 hown hPp (hQ P hP4)]; rw [orB] at H; exact H)⟩)
        · refine W_exit ?_
          refine (if_pos rfl).mpr ?_
          refine W_seq ?_
          refine W_seq ?_
          ((obtain rfl : i = 12 := (by omega))) <;> refine W_region_l ?_
          refine WL_stepM rfl (R_as) ?_
          refine WL_nil ?_
          refine W_block ?_
          refine W_loopS [(15, 15), (152, 197)] (fun (i : Nat) E w' => i ≤ 4 ∧ E 15 = I i ∧ Hp w ([(c13, blk (endsV xs 12) 64), (c8, blk (refsV (nm xs)) 62), (c7, blk [.bool ((List.range 8).any (parB xs)), .bool ((List.range 8).any (fdB xs)), .bool ((List.range 12).any (refB xs)), .bool ((List.range 12).any (pipB xs)), .bool ((List.range i).any (endB xs))] 61), (c5, blk (rows Ring.piC Qs) 44), (c4, blk (rows File.flC Fs) 40), (c3, blk (rows Slot.piC Ps) 37)]) w') (fun i => 4 - i) 0 ?e6 ?r6
          · exact ⟨by omega, rfl, H⟩
          · (clear H; rintro i E w1 ⟨hi, h15, H⟩; refine W_kn h15 ?_)
            refine W_seq ?_
            refine W_seq ?_
            refine W_region_l ?_
            refine WL_stepM rfl (R_mv) ?_
            refine WL_step rfl (R_lt rfl rfl) ?_
            refine WL_nil ?_
            refine W_if rfl (fun h812 => ?_) (fun h812 => ?_)
            · refine W_skip ?_
              refine W_seq ?_
              refine W_block ?_
              refine W_seq ?_
              refine W_seq ?_
              ((have hqc := qcase (hQ i (by omega)))) <;> refine W_region_l ?_
              refine WL_stepM rfl (R_mv) ?_
              refine WL_stepM rfl (R_mv) ?_
              (have _g := hqc; refine WL_call rfl (R_call rfl Tryz.call20 rfl) (free_ret hx (i := i) (by omega) _) ?_; rintro _ w821 ⟨rfl, H1⟩; replace H := H.seq0 H1; clear H1)
              refine WL_nil ?_
              refine W_if rfl (fun h823 => ?_) (fun h823 => ?_)
              · refine W_exit ?_
                refine (if_pos rfl).mpr ?_
                refine W_region_l ?_
                refine WL_stepM rfl (R_mv) ?_
                refine WL_step rfl (R_add rfl rfl (w_i64 (by omega))) ?_
                refine WL_stepM rfl (R_as) ?_
                refine WL_nil ?_
                (have _g := hqc; have hz : qis xs i = 0 := (by assumption); exact ⟨(same_mov rfl (same_updo rfl (same_mov rfl (same_know rfl (same_updo rfl (same_mov rfl (same_mov rfl (same_know rfl (same_updo rfl (same_mov rfl same_ovr)))))))))), i + 1, by omega, by omega, rfl, (by rw [any_f (endB_z hz)]; exact H)⟩)
              · refine W_skip ?_
                (have hget := gQ i (by omega); have hz1 : qis xs i = 1 := hqc.elim (fun h => absurd h.1 (by assumption)) id; have e1 := endN_le xs i 12 true; have e2 := endN_le xs i 12 false; refine W_draw (Kp [(c13, blk (endsV xs 12) 64), (c8, blk (refsV (nm xs)) 62), (c7, blk [.bool ((List.range 8).any (parB xs)), .bool ((List.range 8).any (fdB xs)), .bool ((List.range 12).any (refB xs)), .bool ((List.range 12).any (pipB xs)), .bool ((List.range i).any (endB xs))] 61), (c5, blk (rows Ring.piC Qs) 44), (c4, blk (rows File.flC Fs) 40), (c3, blk (rows Slot.piC Ps) 37)]) (fun k => Nat.ble 38 k) (by kernel_rfl) H ?_; clear H; intro w833 H)
                refine WA_take 0 rfl rfl rfl (by kernel_rfl) (by kernel_rfl) H.kp (fun _ hC => R_indexAddrA (off' := 4) Tryz.underlying61 Tryz.sizeOf4 rfl rfl (by omega) (by omega) rfl) ?_
                refine WA_take 1 rfl rfl rfl (by kernel_rfl) (by kernel_rfl) H.kp (fun _ hC => R_load Tryz.isAgg4 rfl (hC.get (.there (.there .here))) rfl) ?_
                refine WA_takeM 2 rfl rfl rfl (by kernel_rfl) (by kernel_rfl) H.kp (fun _ hC => R_mv) ?_
                refine WA_ifB 161 rfl (fun h837 => ?_) (fun h837 => ?_)
                · refine WA_pass 3 rfl rfl rfl (fun h => nomatch h) (by kernel_rfl) (by kernel_rfl) H.kp ?_
                  refine WA_pass 4 rfl rfl rfl (fun h => nomatch h) (by kernel_rfl) (by kernel_rfl) H.kp ?_
                  refine WA_pass 5 rfl rfl rfl (fun h => nomatch h) (by kernel_rfl) (by kernel_rfl) H.kp ?_
                  refine WA_pass 6 rfl rfl rfl (fun h => nomatch h) (by kernel_rfl) (by kernel_rfl) H.kp ?_
                  refine WA_pass 7 rfl rfl rfl (fun h => nomatch h) (by kernel_rfl) (by kernel_rfl) H.kp ?_
                  refine WA_pass 8 rfl rfl rfl (fun h => nomatch h) (by kernel_rfl) (by kernel_rfl) H.kp ?_
                  refine WA_pass 9 rfl rfl rfl (fun h => nomatch h) (by kernel_rfl) (by kernel_rfl) H.kp ?_
                  refine WA_pass 10 rfl rfl rfl (fun h => nomatch h) (by kernel_rfl) (by kernel_rfl) H.kp ?_
                  refine WA_pass 11 rfl rfl rfl (fun h => nomatch h) (by kernel_rfl) (by kernel_rfl) H.kp ?_
                  refine WA_takeM 12 rfl rfl rfl (by kernel_rfl) (by kernel_rfl) H.kp (fun _ hC => R_pk_t rfl) ?_
                  refine WA_takeM 13 rfl rfl rfl (by kernel_rfl) (by kernel_rfl) H.kp (fun _ hC => R_mv) ?_
                  refine WA_pass 14 rfl rfl rfl (fun h => nomatch h) (by kernel_rfl) (by kernel_rfl) H.kp ?_
                  refine WA_pass 15 rfl rfl rfl (fun h => nomatch h) (by kernel_rfl) (by kernel_rfl) H.kp ?_
                  refine WA_pass 16 rfl rfl rfl (fun h => nomatch h) (by kernel_rfl) (by kernel_rfl) H.kp ?_
                  refine WA_pass 17 rfl rfl rfl (fun h => nomatch h) (by kernel_rfl) (by kernel_rfl) H.kp ?_
                  refine WA_pass 18 rfl rfl rfl (fun h => nomatch h) (by kernel_rfl) (by kernel_rfl) H.kp ?_
                  refine WA_pass 19 rfl rfl rfl (fun h => nomatch h) (by kernel_rfl) (by kernel_rfl) H.kp ?_
                  refine WA_pass 20 rfl rfl rfl (fun h => nomatch h) (by kernel_rfl) (by kernel_rfl) H.kp ?_
                  refine WA_pass 21 rfl rfl rfl (fun h => nomatch h) (by kernel_rfl) (by kernel_rfl) H.kp ?_
                  refine WA_pass 22 rfl rfl rfl (fun h => nomatch h) (by kernel_rfl) (by kernel_rfl) H.kp ?_
                  refine WA_takeM 23 rfl rfl rfl (by kernel_rfl) (by kernel_rfl) H.kp (fun _ hC => R_pk_t rfl) ?_
                  refine WA_takeM 24 rfl rfl rfl (by kernel_rfl) (by kernel_rfl) H.kp (fun _ hC => R_mv) ?_
                  refine WA_pass 25 rfl rfl rfl (fun h => nomatch h) (by kernel_rfl) (by kernel_rfl) H.kp ?_
                  refine WA_pass 26 rfl rfl rfl (fun h => nomatch h) (by kernel_rfl) (by kernel_rfl) H.kp ?_
                  refine WA_pass 27 rfl rfl rfl (fun h => nomatch h) (by kernel_rfl) (by kernel_rfl) H.kp ?_
                  refine WA_pass 28 rfl rfl rfl (fun h => nomatch h) (by kernel_rfl) (by kernel_rfl) H.kp ?_
                  refine WA_pass 29 rfl rfl rfl (fun h => nomatch h) (by kernel_rfl) (by kernel_rfl) H.kp ?_
                  refine WA_pass 30 rfl rfl rfl (fun h => nomatch h) (by kernel_rfl) (by kernel_rfl) H.kp ?_
                  refine WA_pass 31 rfl rfl rfl (fun h => nomatch h) (by kernel_rfl) (by kernel_rfl) H.kp ?_
                  refine WA_pass 32 rfl rfl rfl (fun h => nomatch h) (by kernel_rfl) (by kernel_rfl) H.kp ?_
                  refine WA_pass 33 rfl rfl rfl (fun h => nomatch h) (by kernel_rfl) (by kernel_rfl) H.kp ?_
                  refine WA_pass 34 rfl rfl rfl (fun h => nomatch h) (by kernel_rfl) (by kernel_rfl) H.kp ?_
                  refine WA_pass 35 rfl rfl rfl (fun h => nomatch h) (by kernel_rfl) (by kernel_rfl) H.kp ?_
                  refine WA_pass 36 rfl rfl rfl (fun h => nomatch h) (by kernel_rfl) (by kernel_rfl) H.kp ?_
                  refine WA_takeM 37 rfl rfl rfl (by kernel_rfl) (by kernel_rfl) H.kp (fun _ hC => R_pk_t rfl) ?_
                  refine WA_one (i := 38) (by kernel_rfl) ?_
                  refine WI_value rfl (.inl rfl) (R_indexAddrA (off' := 4) Tryz.underlying61 Tryz.sizeOf4 rfl rfl (by omega) (by omega) rfl) (by first | exact fun h => absurd h (by decide) | exact fun _ => H | exact fun _ => H.none (by repeat' first | exact kNil | apply kCons | apply kApp | assumption | exact OwnS.keys (by assumption)) | exact fun _ => H.dropN (by repeat' first | exact kNil | apply kCons | apply kApp | assumption | exact OwnS.keys (by assumption)) | exact fun _ => H.pop (by assumption) | exact fun _ => (H.pop (by assumption)).pop (by assumption) | exact fun _ => H.kp | exact fun _ => H.kp.tail | exact fun _ => H.kp.tail.tail | exact fun _ => H.kp.tail.tail.tail | exact fun _ => H.kp.sub (by simp) | exact fun _ => Kp.nil | exact fun _ => H.kh (by simp) (by repeat' first | exact kNil | apply kCons | apply kApp | assumption | exact OwnS.keys (by assumption))) ?_
                  refine WA_one (i := 39) (by kernel_rfl) ?_
                  (refine WI_effu rfl (.inl rfl) (E_store (v := _) H Tryz.sizeOf4 rfl rfl rfl (.there (.there .here)) (by simp)) (fun _ _ h => absurd h (by decide)) ?_; clear H; intro w876 H)
                  refine WA_done (by kernel_rfl) ?_
                  refine W_region_l ?_
                  refine WL_stepM rfl (R_mv) ?_
                  refine WL_step rfl (R_add rfl rfl (w_i64 (by omega))) ?_
                  refine WL_stepM rfl (R_as) ?_
                  refine WL_nil ?_
                  (have hB : (List.range i).any (endB xs) = true := (by assumption); exact ⟨(same_mov rfl (same_updo rfl (same_mov rfl (same_updn (same_updo rfl (same_mov rfl (same_updo rfl (same_updo rfl (same_updo rfl (same_updo rfl (same_updo rfl (same_updo rfl (same_updo rfl (same_updo rfl (same_updo rfl (same_updo rfl (same_updo rfl (same_updo rfl (same_mov rfl (same_mov rfl (same_updo rfl (same_updo rfl (same_updo rfl (same_updo rfl (same_updo rfl (same_updo rfl (same_updo rfl (same_updo rfl (same_updo rfl (same_mov rfl (same_mov rfl (same_updo rfl (same_updo rfl (same_updo rfl (same_updo rfl (same_updo rfl (same_updo rfl (same_updo rfl (same_updo rfl (same_updo rfl (same_know rfl (same_mov rfl (same_updo rfl (same_updo rfl (same_know rfl (same_updo rfl (same_mov rfl (same_mov rfl (same_know rfl (same_updo rfl (same_mov rfl same_ovr))))))))))))))))))))))))))))))))))))))))))))))))))), i + 1, by omega, by omega, rfl, (by rw [any_succ (B := endB xs), hB, Bool.true_or]; exact H)⟩)
                · refine WA_takeGM 3 rfl rfl rfl rfl (by kernel_rfl) (by kernel_rfl) H.kp (fun _ hC => R_mv) ?_
                  refine WA_takeG 4 rfl rfl rfl rfl (by kernel_rfl) (by kernel_rfl) H.kp (fun _ hC => R_indexAddrA (off' := i * 36) Tryz.underlying44 Tryz.sizeOf43 rfl rfl (by omega) (by omega) (by omega)) ?_
                  refine WA_takeG 5 rfl rfl rfl rfl (by kernel_rfl) (by kernel_rfl) H.kp (fun _ hC => R_fieldAddr (off' := _ + 2) Tryz.underlying43 rfl Tryz.sizeOf3 (by decide) rfl rfl) ?_
                  refine WA_takeG 6 rfl rfl rfl rfl (by kernel_rfl) (by kernel_rfl) H.kp (fun _ hC => R_load (v := I (qd xs i).r) Tryz.isAgg3 rfl (hC.get (.there (.there (.there .here)))) (by rw [rows_get Ring.piC_len hget (by decide)]; rfl)) ?_
                  refine WA_takeGM 7 rfl rfl rfl rfl (by kernel_rfl) (by kernel_rfl) H.kp (fun _ hC => R_mv) ?_
                  refine WA_takeG 8 rfl rfl rfl rfl (by kernel_rfl) (by kernel_rfl) H.kp (fun _ hC => R_indexAddrA (off' := i * 2) Tryz.underlying64 Tryz.sizeOf63 rfl rfl (by omega) (by omega) (by omega)) ?_
                  refine WA_takeG 9 rfl rfl rfl rfl (by kernel_rfl) (by kernel_rfl) H.kp (fun _ hC => R_indexAddrA (off' := i * 2 + 0) Tryz.underlying63 Tryz.sizeOf3 rfl rfl (by omega) (by omega) (by omega)) ?_
                  refine WA_takeG 10 rfl rfl rfl rfl (by kernel_rfl) (by kernel_rfl) H.kp (fun _ hC => R_load (v := I (endN xs i true 12)) Tryz.isAgg3 rfl (hC.get .here) (endsV_at (q := true) (by omega) rfl)) ?_
                  refine WA_takeG 11 rfl rfl rfl rfl (by kernel_rfl) (by kernel_rfl) H.kp (fun _ hC => R_ne rfl rfl) ?_
                  refine WA_takeM 12 rfl rfl rfl (by kernel_rfl) (by kernel_rfl) H.kp (fun _ hC => R_pk_f rfl) ?_
                  refine WA_takeM 13 rfl rfl rfl (by kernel_rfl) (by kernel_rfl) H.kp (fun _ hC => R_mv) ?_
                  refine WA_if 172 rfl (fun h895 => ?_) (fun h895 => ?_)
                  · refine WA_pass 14 rfl rfl rfl (fun h => nomatch h) (by kernel_rfl) (by kernel_rfl) H.kp ?_
                    refine WA_pass 15 rfl rfl rfl (fun h => nomatch h) (by kernel_rfl) (by kernel_rfl) H.kp ?_
                    refine WA_pass 16 rfl rfl rfl (fun h => nomatch h) (by kernel_rfl) (by kernel_rfl) H.kp ?_
                    refine WA_pass 17 rfl rfl rfl (fun h => nomatch h) (by kernel_rfl) (by kernel_rfl) H.kp ?_
                    refine WA_pass 18 rfl rfl rfl (fun h => nomatch h) (by kernel_rfl) (by kernel_rfl) H.kp ?_
                    refine WA_pass 19 rfl rfl rfl (fun h => nomatch h) (by kernel_rfl) (by kernel_rfl) H.kp ?_
                    refine WA_pass 20 rfl rfl rfl (fun h => nomatch h) (by kernel_rfl) (by kernel_rfl) H.kp ?_
                    refine WA_pass 21 rfl rfl rfl (fun h => nomatch h) (by kernel_rfl) (by kernel_rfl) H.kp ?_
                    refine WA_pass 22 rfl rfl rfl (fun h => nomatch h) (by kernel_rfl) (by kernel_rfl) H.kp ?_
                    refine WA_takeM 23 rfl rfl rfl (by kernel_rfl) (by kernel_rfl) H.kp (fun _ hC => R_pk_t rfl) ?_
                    refine WA_takeM 24 rfl rfl rfl (by kernel_rfl) (by kernel_rfl) H.kp (fun _ hC => R_mv) ?_
                    refine WA_pass 25 rfl rfl rfl (fun h => nomatch h) (by kernel_rfl) (by kernel_rfl) H.kp ?_
                    refine WA_pass 26 rfl rfl rfl (fun h => nomatch h) (by kernel_rfl) (by kernel_rfl) H.kp ?_
                    refine WA_pass 27 rfl rfl rfl (fun h => nomatch h) (by kernel_rfl) (by kernel_rfl) H.kp ?_
                    refine WA_pass 28 rfl rfl rfl (fun h => nomatch h) (by kernel_rfl) (by kernel_rfl) H.kp ?_
                    refine WA_pass 29 rfl rfl rfl (fun h => nomatch h) (by kernel_rfl) (by kernel_rfl) H.kp ?_
                    refine WA_pass 30 rfl rfl rfl (fun h => nomatch h) (by kernel_rfl) (by kernel_rfl) H.kp ?_
                    refine WA_pass 31 rfl rfl rfl (fun h => nomatch h) (by kernel_rfl) (by kernel_rfl) H.kp ?_
                    refine WA_pass 32 rfl rfl rfl (fun h => nomatch h) (by kernel_rfl) (by kernel_rfl) H.kp ?_
                    refine WA_pass 33 rfl rfl rfl (fun h => nomatch h) (by kernel_rfl) (by kernel_rfl) H.kp ?_
                    refine WA_pass 34 rfl rfl rfl (fun h => nomatch h) (by kernel_rfl) (by kernel_rfl) H.kp ?_
                    refine WA_pass 35 rfl rfl rfl (fun h => nomatch h) (by kernel_rfl) (by kernel_rfl) H.kp ?_
                    refine WA_pass 36 rfl rfl rfl (fun h => nomatch h) (by kernel_rfl) (by kernel_rfl) H.kp ?_
                    refine WA_takeM 37 rfl rfl rfl (by kernel_rfl) (by kernel_rfl) H.kp (fun _ hC => R_pk_t rfl) ?_
                    refine WA_one (i := 38) (by kernel_rfl) ?_
                    refine WI_value rfl (.inl rfl) (R_indexAddrA (off' := 4) Tryz.underlying61 Tryz.sizeOf4 rfl rfl (by omega) (by omega) rfl) (by first | exact fun h => absurd h (by decide) | exact fun _ => H | exact fun _ => H.none (by repeat' first | exact kNil | apply kCons | apply kApp | assumption | exact OwnS.keys (by assumption)) | exact fun _ => H.dropN (by repeat' first | exact kNil | apply kCons | apply kApp | assumption | exact OwnS.keys (by assumption)) | exact fun _ => H.pop (by assumption) | exact fun _ => (H.pop (by assumption)).pop (by assumption) | exact fun _ => H.kp | exact fun _ => H.kp.tail | exact fun _ => H.kp.tail.tail | exact fun _ => H.kp.tail.tail.tail | exact fun _ => H.kp.sub (by simp) | exact fun _ => Kp.nil | exact fun _ => H.kh (by simp) (by repeat' first | exact kNil | apply kCons | apply kApp | assumption | exact OwnS.keys (by assumption))) ?_
                    refine WA_one (i := 39) (by kernel_rfl) ?_
                    (refine WI_effu rfl (.inl rfl) (E_store (v := _) H Tryz.sizeOf4 rfl rfl rfl (.there (.there .here)) (by simp)) (fun _ _ h => absurd h (by decide)) ?_; clear H; intro w923 H)
                    refine WA_done (by kernel_rfl) ?_
                    refine W_region_l ?_
                    refine WL_stepM rfl (R_mv) ?_
                    refine WL_step rfl (R_add rfl rfl (w_i64 (by omega))) ?_
                    refine WL_stepM rfl (R_as) ?_
                    refine WL_nil ?_
                    (have hB : (List.range i).any (endB xs) = false := (by assumption); exact ⟨(same_mov rfl (same_updo rfl (same_mov rfl (same_updn (same_updo rfl (same_mov rfl (same_updo rfl (same_updo rfl (same_updo rfl (same_updo rfl (same_updo rfl (same_updo rfl (same_updo rfl (same_updo rfl (same_updo rfl (same_updo rfl (same_updo rfl (same_updo rfl (same_mov rfl (same_mov rfl (same_updo rfl (same_updo rfl (same_updo rfl (same_updo rfl (same_updo rfl (same_updo rfl (same_updo rfl (same_updo rfl (same_updo rfl (same_know rfl (same_mov rfl (same_mov rfl (same_updo rfl (same_updo rfl (same_updo rfl (same_updo rfl (same_mov rfl (same_updo rfl (same_updo rfl (same_updo rfl (same_mov rfl (same_know rfl (same_mov rfl (same_updo rfl (same_updo rfl (same_know rfl (same_updo rfl (same_mov rfl (same_mov rfl (same_know rfl (same_updo rfl (same_mov rfl same_ovr)))))))))))))))))))))))))))))))))))))))))))))))))))), i + 1, by omega, by omega, rfl, (by rw [any_succ (B := endB xs), hB, Bool.false_or, endB_1 hz1 (b := true) (by omega)]; exact H)⟩)
                  · refine WA_takeGM 14 rfl rfl rfl rfl (by kernel_rfl) (by kernel_rfl) H.kp (fun _ hC => R_mv) ?_
                    refine WA_takeG 15 rfl rfl rfl rfl (by kernel_rfl) (by kernel_rfl) H.kp (fun _ hC => R_indexAddrA (off' := i * 36) Tryz.underlying44 Tryz.sizeOf43 rfl rfl (by omega) (by omega) (by omega)) ?_
                    refine WA_takeG 16 rfl rfl rfl rfl (by kernel_rfl) (by kernel_rfl) H.kp (fun _ hC => R_fieldAddr (off' := _ + 3) Tryz.underlying43 rfl Tryz.sizeOf3 (by decide) rfl rfl) ?_
                    refine WA_takeG 17 rfl rfl rfl rfl (by kernel_rfl) (by kernel_rfl) H.kp (fun _ hC => R_load (v := I (qd xs i).w) Tryz.isAgg3 rfl (hC.get (.there (.there (.there .here)))) (by rw [rows_get Ring.piC_len hget (by decide)]; rfl)) ?_
                    refine WA_takeGM 18 rfl rfl rfl rfl (by kernel_rfl) (by kernel_rfl) H.kp (fun _ hC => R_mv) ?_
                    refine WA_takeG 19 rfl rfl rfl rfl (by kernel_rfl) (by kernel_rfl) H.kp (fun _ hC => R_indexAddrA (off' := i * 2) Tryz.underlying64 Tryz.sizeOf63 rfl rfl (by omega) (by omega) (by omega)) ?_
                    refine WA_takeG 20 rfl rfl rfl rfl (by kernel_rfl) (by kernel_rfl) H.kp (fun _ hC => R_indexAddrA (off' := i * 2 + 1) Tryz.underlying63 Tryz.sizeOf3 rfl rfl (by omega) (by omega) (by omega)) ?_
                    refine WA_takeG 21 rfl rfl rfl rfl (by kernel_rfl) (by kernel_rfl) H.kp (fun _ hC => R_load (v := I (endN xs i false 12)) Tryz.isAgg3 rfl (hC.get .here) (endsV_at (q := false) (by omega) rfl)) ?_
                    refine WA_takeG 22 rfl rfl rfl rfl (by kernel_rfl) (by kernel_rfl) H.kp (fun _ hC => R_ne rfl rfl) ?_
                    refine WA_takeM 23 rfl rfl rfl (by kernel_rfl) (by kernel_rfl) H.kp (fun _ hC => R_pk_f rfl) ?_
                    refine WA_takeM 24 rfl rfl rfl (by kernel_rfl) (by kernel_rfl) H.kp (fun _ hC => R_mv) ?_
                    refine WA_if 183 rfl (fun h942 => ?_) (fun h942 => ?_)
                    · refine WA_pass 25 rfl rfl rfl (fun h => nomatch h) (by kernel_rfl) (by kernel_rfl) H.kp ?_
                      refine WA_pass 26 rfl rfl rfl (fun h => nomatch h) (by kernel_rfl) (by kernel_rfl) H.kp ?_
                      refine WA_pass 27 rfl rfl rfl (fun h => nomatch h) (by kernel_rfl) (by kernel_rfl) H.kp ?_
                      refine WA_pass 28 rfl rfl rfl (fun h => nomatch h) (by kernel_rfl) (by kernel_rfl) H.kp ?_
                      refine WA_pass 29 rfl rfl rfl (fun h => nomatch h) (by kernel_rfl) (by kernel_rfl) H.kp ?_
                      refine WA_pass 30 rfl rfl rfl (fun h => nomatch h) (by kernel_rfl) (by kernel_rfl) H.kp ?_
                      refine WA_pass 31 rfl rfl rfl (fun h => nomatch h) (by kernel_rfl) (by kernel_rfl) H.kp ?_
                      refine WA_pass 32 rfl rfl rfl (fun h => nomatch h) (by kernel_rfl) (by kernel_rfl) H.kp ?_
                      refine WA_pass 33 rfl rfl rfl (fun h => nomatch h) (by kernel_rfl) (by kernel_rfl) H.kp ?_
                      refine WA_pass 34 rfl rfl rfl (fun h => nomatch h) (by kernel_rfl) (by kernel_rfl) H.kp ?_
                      refine WA_pass 35 rfl rfl rfl (fun h => nomatch h) (by kernel_rfl) (by kernel_rfl) H.kp ?_
                      refine WA_pass 36 rfl rfl rfl (fun h => nomatch h) (by kernel_rfl) (by kernel_rfl) H.kp ?_
                      refine WA_takeM 37 rfl rfl rfl (by kernel_rfl) (by kernel_rfl) H.kp (fun _ hC => R_pk_t rfl) ?_
                      refine WA_one (i := 38) (by kernel_rfl) ?_
                      refine WI_value rfl (.inl rfl) (R_indexAddrA (off' := 4) Tryz.underlying61 Tryz.sizeOf4 rfl rfl (by omega) (by omega) rfl) (by first | exact fun h => absurd h (by decide) | exact fun _ => H | exact fun _ => H.none (by repeat' first | exact kNil | apply kCons | apply kApp | assumption | exact OwnS.keys (by assumption)) | exact fun _ => H.dropN (by repeat' first | exact kNil | apply kCons | apply kApp | assumption | exact OwnS.keys (by assumption)) | exact fun _ => H.pop (by assumption) | exact fun _ => (H.pop (by assumption)).pop (by assumption) | exact fun _ => H.kp | exact fun _ => H.kp.tail | exact fun _ => H.kp.tail.tail | exact fun _ => H.kp.tail.tail.tail | exact fun _ => H.kp.sub (by simp) | exact fun _ => Kp.nil | exact fun _ => H.kh (by simp) (by repeat' first | exact kNil | apply kCons | apply kApp | assumption | exact OwnS.keys (by assumption))) ?_
                      refine WA_one (i := 39) (by kernel_rfl) ?_
                      (refine WI_effu rfl (.inl rfl) (E_store (v := _) H Tryz.sizeOf4 rfl rfl rfl (.there (.there .here)) (by simp)) (fun _ _ h => absurd h (by decide)) ?_; clear H; intro w959 H)
                      refine WA_done (by kernel_rfl) ?_
                      refine W_region_l ?_
                      refine WL_stepM rfl (R_mv) ?_
                      refine WL_step rfl (R_add rfl rfl (w_i64 (by omega))) ?_
                      refine WL_stepM rfl (R_as) ?_
                      refine WL_nil ?_
                      (have hB : (List.range i).any (endB xs) = false := (by assumption); exact ⟨(same_mov rfl (same_updo rfl (same_mov rfl (same_updn (same_updo rfl (same_mov rfl (same_updo rfl (same_updo rfl (same_updo rfl (same_updo rfl (same_updo rfl (same_updo rfl (same_updo rfl (same_updo rfl (same_updo rfl (same_updo rfl (same_updo rfl (same_updo rfl (same_know rfl (same_mov rfl (same_mov rfl (same_updo rfl (same_updo rfl (same_updo rfl (same_updo rfl (same_mov rfl (same_updo rfl (same_updo rfl (same_updo rfl (same_mov rfl (same_know rfl (same_mov rfl (same_mov rfl (same_updo rfl (same_updo rfl (same_updo rfl (same_updo rfl (same_mov rfl (same_updo rfl (same_updo rfl (same_updo rfl (same_mov rfl (same_know rfl (same_mov rfl (same_updo rfl (same_updo rfl (same_know rfl (same_updo rfl (same_mov rfl (same_mov rfl (same_know rfl (same_updo rfl (same_mov rfl same_ovr))))))))))))))))))))))))))))))))))))))))))))))))))))), i + 1, by omega, by omega, rfl, (by rw [any_succ (B := endB xs), hB, Bool.false_or, endB_1 hz1 (b := true) (by omega)]; exact H)⟩)
                    · refine WA_takeGM 25 rfl rfl rfl rfl (by kernel_rfl) (by kernel_rfl) H.kp (fun _ hC => R_mv) ?_
                      refine WA_takeG 26 rfl rfl rfl rfl (by kernel_rfl) (by kernel_rfl) H.kp (fun _ hC => R_indexAddrA (off' := i * 36) Tryz.underlying44 Tryz.sizeOf43 rfl rfl (by omega) (by omega) (by omega)) ?_
                      refine WA_takeG 27 rfl rfl rfl rfl (by kernel_rfl) (by kernel_rfl) H.kp (fun _ hC => R_fieldAddr (off' := _ + 2) Tryz.underlying43 rfl Tryz.sizeOf3 (by decide) rfl rfl) ?_
                      refine WA_takeG 28 rfl rfl rfl rfl (by kernel_rfl) (by kernel_rfl) H.kp (fun _ hC => R_load (v := I (qd xs i).r) Tryz.isAgg3 rfl (hC.get (.there (.there (.there .here)))) (by rw [rows_get Ring.piC_len hget (by decide)]; rfl)) ?_
                      refine WA_takeG 29 rfl rfl rfl rfl (by kernel_rfl) (by kernel_rfl) H.kp (fun _ hC => R_eq rfl rfl) ?_
                      refine WA_takeGM 30 rfl rfl rfl rfl (by kernel_rfl) (by kernel_rfl) H.kp (fun _ hC => R_mv) ?_
                      refine WA_if 189 rfl (fun h973 => ?_) (fun h973 => ?_)
                      · refine WA_takeGM 31 rfl rfl rfl rfl (by kernel_rfl) (by kernel_rfl) H.kp (fun _ hC => R_mv) ?_
                        refine WA_takeG 32 rfl rfl rfl rfl (by kernel_rfl) (by kernel_rfl) H.kp (fun _ hC => R_indexAddrA (off' := i * 36) Tryz.underlying44 Tryz.sizeOf43 rfl rfl (by omega) (by omega) (by omega)) ?_
                        refine WA_takeG 33 rfl rfl rfl rfl (by kernel_rfl) (by kernel_rfl) H.kp (fun _ hC => R_fieldAddr (off' := _ + 3) Tryz.underlying43 rfl Tryz.sizeOf3 (by decide) rfl rfl) ?_
                        refine WA_takeG 34 rfl rfl rfl rfl (by kernel_rfl) (by kernel_rfl) H.kp (fun _ hC => R_load (v := I (qd xs i).w) Tryz.isAgg3 rfl (hC.get (.there (.there (.there .here)))) (by rw [rows_get Ring.piC_len hget (by decide)]; rfl)) ?_
                        refine WA_takeG 35 rfl rfl rfl rfl (by kernel_rfl) (by kernel_rfl) H.kp (fun _ hC => R_eq rfl rfl) ?_
                        refine WA_takeGM 36 rfl rfl rfl rfl (by kernel_rfl) (by kernel_rfl) H.kp (fun _ hC => R_pk_t rfl) ?_
                        refine WA_takeM 37 rfl rfl rfl (by kernel_rfl) (by kernel_rfl) H.kp (fun _ hC => R_pk_f rfl) ?_
                        refine WA_one (i := 38) (by kernel_rfl) ?_
                        refine WI_value rfl (.inl rfl) (R_indexAddrA (off' := 4) Tryz.underlying61 Tryz.sizeOf4 rfl rfl (by omega) (by omega) rfl) (by first | exact fun h => absurd h (by decide) | exact fun _ => H | exact fun _ => H.none (by repeat' first | exact kNil | apply kCons | apply kApp | assumption | exact OwnS.keys (by assumption)) | exact fun _ => H.dropN (by repeat' first | exact kNil | apply kCons | apply kApp | assumption | exact OwnS.keys (by assumption)) | exact fun _ => H.pop (by assumption) | exact fun _ => (H.pop (by assumption)).pop (by assumption) | exact fun _ => H.kp | exact fun _ => H.kp.tail | exact fun _ => H.kp.tail.tail | exact fun _ => H.kp.tail.tail.tail | exact fun _ => H.kp.sub (by simp) | exact fun _ => Kp.nil | exact fun _ => H.kh (by simp) (by repeat' first | exact kNil | apply kCons | apply kApp | assumption | exact OwnS.keys (by assumption))) ?_
                        refine WA_one (i := 39) (by kernel_rfl) ?_
                        (refine WI_effu rfl (.inl rfl) (E_store (v := _) H Tryz.sizeOf4 rfl rfl rfl (.there (.there .here)) (by simp)) (fun _ _ h => absurd h (by decide)) ?_; clear H; intro w984 H)
                        refine WA_done (by kernel_rfl) ?_
                        refine W_region_l ?_
                        refine WL_stepM rfl (R_mv) ?_
                        refine WL_step rfl (R_add rfl rfl (w_i64 (by omega))) ?_
                        refine WL_stepM rfl (R_as) ?_
                        refine WL_nil ?_
                        (have hB : (List.range i).any (endB xs) = false := (by assumption); exact ⟨(same_mov rfl (same_updo rfl (same_mov rfl (same_updn (same_updo rfl (same_mov rfl (same_mov rfl (same_updo rfl (same_updo rfl (same_updo rfl (same_updo rfl (same_mov rfl (same_know rfl (same_mov rfl (same_updo rfl (same_updo rfl (same_updo rfl (same_updo rfl (same_mov rfl (same_know rfl (same_mov rfl (same_mov rfl (same_updo rfl (same_updo rfl (same_updo rfl (same_updo rfl (same_mov rfl (same_updo rfl (same_updo rfl (same_updo rfl (same_mov rfl (same_know rfl (same_mov rfl (same_mov rfl (same_updo rfl (same_updo rfl (same_updo rfl (same_updo rfl (same_mov rfl (same_updo rfl (same_updo rfl (same_updo rfl (same_mov rfl (same_know rfl (same_mov rfl (same_updo rfl (same_updo rfl (same_know rfl (same_updo rfl (same_mov rfl (same_mov rfl (same_know rfl (same_updo rfl (same_mov rfl same_ovr)))))))))))))))))))))))))))))))))))))))))))))))))))))), i + 1, by omega, by omega, rfl, (by rw [any_succ (B := endB xs), hB, Bool.false_or, endB_2 hz1 (by omega)]; exact H)⟩)
                      · refine WA_pass 31 rfl rfl rfl (fun h => nomatch h) (by kernel_rfl) (by kernel_rfl) H.kp ?_
                        refine WA_pass 32 rfl rfl rfl (fun h => nomatch h) (by kernel_rfl) (by kernel_rfl) H.kp ?_
                        refine WA_pass 33 rfl rfl rfl (fun h => nomatch h) (by kernel_rfl) (by kernel_rfl) H.kp ?_
                        refine WA_pass 34 rfl rfl rfl (fun h => nomatch h) (by kernel_rfl) (by kernel_rfl) H.kp ?_
                        refine WA_pass 35 rfl rfl rfl (fun h => nomatch h) (by kernel_rfl) (by kernel_rfl) H.kp ?_
                        refine WA_takeGM 36 rfl rfl rfl rfl (by kernel_rfl) (by kernel_rfl) H.kp (fun _ hC => R_pk_f rfl) ?_
                        refine WA_takeM 37 rfl rfl rfl (by kernel_rfl) (by kernel_rfl) H.kp (fun _ hC => R_pk_f rfl) ?_
                        refine WA_one (i := 38) (by kernel_rfl) ?_
                        refine WI_value rfl (.inl rfl) (R_indexAddrA (off' := 4) Tryz.underlying61 Tryz.sizeOf4 rfl rfl (by omega) (by omega) rfl) (by first | exact fun h => absurd h (by decide) | exact fun _ => H | exact fun _ => H.none (by repeat' first | exact kNil | apply kCons | apply kApp | assumption | exact OwnS.keys (by assumption)) | exact fun _ => H.dropN (by repeat' first | exact kNil | apply kCons | apply kApp | assumption | exact OwnS.keys (by assumption)) | exact fun _ => H.pop (by assumption) | exact fun _ => (H.pop (by assumption)).pop (by assumption) | exact fun _ => H.kp | exact fun _ => H.kp.tail | exact fun _ => H.kp.tail.tail | exact fun _ => H.kp.tail.tail.tail | exact fun _ => H.kp.sub (by simp) | exact fun _ => Kp.nil | exact fun _ => H.kh (by simp) (by repeat' first | exact kNil | apply kCons | apply kApp | assumption | exact OwnS.keys (by assumption))) ?_
                        refine WA_one (i := 39) (by kernel_rfl) ?_
                        (refine WI_effu rfl (.inl rfl) (E_store (v := _) H Tryz.sizeOf4 rfl rfl rfl (.there (.there .here)) (by simp)) (fun _ _ h => absurd h (by decide)) ?_; clear H; intro w1002 H)
                        refine WA_done (by kernel_rfl) ?_
                        refine W_region_l ?_
                        refine WL_stepM rfl (R_mv) ?_
                        refine WL_step rfl (R_add rfl rfl (w_i64 (by omega))) ?_
                        refine WL_stepM rfl (R_as) ?_
                        refine WL_nil ?_
                        (have hB : (List.range i).any (endB xs) = false := (by assumption); exact ⟨(same_mov rfl (same_updo rfl (same_mov rfl (same_updn (same_updo rfl (same_mov rfl (same_mov rfl (same_updo rfl (same_updo rfl (same_updo rfl (same_updo rfl (same_updo rfl (same_know rfl (same_mov rfl (same_updo rfl (same_updo rfl (same_updo rfl (same_updo rfl (same_mov rfl (same_know rfl (same_mov rfl (same_mov rfl (same_updo rfl (same_updo rfl (same_updo rfl (same_updo rfl (same_mov rfl (same_updo rfl (same_updo rfl (same_updo rfl (same_mov rfl (same_know rfl (same_mov rfl (same_mov rfl (same_updo rfl (same_updo rfl (same_updo rfl (same_updo rfl (same_mov rfl (same_updo rfl (same_updo rfl (same_updo rfl (same_mov rfl (same_know rfl (same_mov rfl (same_updo rfl (same_updo rfl (same_know rfl (same_updo rfl (same_mov rfl (same_mov rfl (same_know rfl (same_updo rfl (same_mov rfl same_ovr)))))))))))))))))))))))))))))))))))))))))))))))))))))), i + 1, by omega, by omega, rfl, (by rw [any_succ (B := endB xs), hB, Bool.false_or, endB_0 hz1 (by omega)]; exact H)⟩)
            · refine W_exit ?_
              refine (if_pos rfl).mpr ?_
              refine W_seq ?_
              ((obtain rfl : i = 4 := (by omega); obtain ⟨F, hFl⟩ : ∃ F, flags xs = F := ⟨_, rfl⟩; have hF5 : F.length = 5 := (by rw [← hFl]; rfl); have hFn : F.map (fun r => S r.1) = [S [112, 97, 114, 101, 110, 116], S [102, 100], S [114, 101, 102, 115], S [112, 105, 112, 101], S [101, 110, 100, 115]] := (by rw [← hFl]; rfl); replace H : Hp w ([(c13, blk (endsV xs 12) 64), (c8, blk (refsV (nm xs)) 62), (c7, blk (F.map fun r => Value.bool r.2) 61), (c5, blk (rows Ring.piC Qs) 44), (c4, blk (rows File.flC Fs) 40), (c3, blk (rows Slot.piC Ps) 37)]) _ := (by rw [← hFl]; exact H); rw [hFl])) <;> refine W_region_l ?_
              refine WL_stepM rfl (R_as) ?_
              refine WL_nil ?_
              refine W_seq ?_
              refine W_seq ?_
              refine W_region_l ?_
              refine WL_stepM rfl (R_as) ?_
              refine WL_nil ?_
              refine W_block ?_
              refine W_loopS [(16, 17), (198, 211)] (fun (i : Nat) E w' => ∃ (v4 : Value) (M : List (Nat × Obj)), i ≤ 5 ∧ E 17 = I i ∧ E 16 = v4 ∧ OwnS w.heap.size 9 1 v4 (told (F.take i)).length ((told (F.take i)).map S) M ∧ Hp w ([(c13, blk (endsV xs 12) 64), (c8, blk (refsV (nm xs)) 62), (c7, blk (F.map fun r => Value.bool r.2) 61), (c5, blk (rows Ring.piC Qs) 44), (c4, blk (rows File.flC Fs) 40), (c3, blk (rows Slot.piC Ps) 37)] ++ M) w') (fun i => 5 - i) 0 ?e8 ?r8
              · exact ⟨_, [], by omega, rfl, rfl, hO, H⟩
              · (clear H hO; rintro i E w1 ⟨v4, M, hi, h17, h16, hO, H⟩; obtain ⟨a4, k4, rfl⟩ := hO.form; have hle := told_le F i; have hOk := hO.keys; refine W_kn2 h17 h16 ?_)
                refine W_seq ?_
                refine W_seq ?_
                refine W_region_l ?_
                refine WL_stepM rfl (R_mv) ?_
                refine WL_step rfl (R_lt rfl rfl) ?_
                refine WL_nil ?_
                refine W_if rfl (fun h1030 => ?_) (fun h1030 => ?_)
                · refine W_skip ?_
                  refine W_seq ?_
                  refine W_block ?_
                  refine W_seq ?_
                  ((obtain ⟨⟨nn, fb⟩, hFi⟩ : ∃ r, F[i]? = some r := ⟨_, List.getElem?_eq_getElem (by omega)⟩; have hns : ([S [112, 97, 114, 101, 110, 116], S [102, 100], S [114, 101, 102, 115], S [112, 105, 112, 101], S [101, 110, 100, 115]] : List Value)[i]? = some (S nn) := (by rw [← hFn, List.getElem?_map, hFi]; rfl); rcases fb)) <;> refine W_region_l ?_
                  · refine WL_stepM rfl (R_mv) ?_
                    refine WL_step rfl (R_indexAddrA (off' := i) Tryz.underlying61 Tryz.sizeOf4 rfl rfl (by omega) (by omega) (by omega)) ?_
                    refine WL_step rfl (R_load (v := .bool false) Tryz.isAgg4 rfl (H.get (.there (.there .here))) (by rw [List.getElem?_map, hFi]; rfl)) ?_
                    refine WL_nil ?_
                    refine W_cond_f rfl ?_
                    refine W_skip ?_
                    refine W_region_l ?_
                    refine WL_stepM rfl (R_mv) ?_
                    refine WL_step rfl (R_add rfl rfl (w_i64 (by omega))) ?_
                    refine WL_stepM rfl (R_as) ?_
                    refine WL_nil ?_
                    (have hy := told_no hFi; exact ⟨(same_mov rfl (same_updo rfl (same_mov rfl (same_updo rfl (same_updo rfl (same_mov rfl (same_know rfl (same_updo rfl (same_mov rfl same_ovr))))))))), i + 1, by omega, _, M, by omega, rfl, rfl, (by rw [hy]; exact hO), H⟩)
                  · refine WL_stepM rfl (R_mv) ?_
                    refine WL_step rfl (R_indexAddrA (off' := i) Tryz.underlying61 Tryz.sizeOf4 rfl rfl (by omega) (by omega) (by omega)) ?_
                    refine WL_step rfl (R_load (v := .bool true) Tryz.isAgg4 rfl (H.get (.there (.there .here))) (by rw [List.getElem?_map, hFi]; rfl)) ?_
                    refine WL_nil ?_
                    refine W_cond_t rfl ?_
                    refine W_region_l ?_
                    refine WL_stepM rfl (R_mv) ?_
                    (refine WL_effn rfl (E_buildOnes (vs := [S [112, 97, 114, 101, 110, 116], S [102, 100], S [114, 101, 102, 115], S [112, 105, 112, 101], S [101, 110, 100, 115]]) H Tryz.underlying27 Tryz.sizeOf9 Tryz.zeroValue9 rfl rfl (by decide) rfl rfl (by simp [Value.oneCell'])) ?_; clear H; intro b206 w1055 hb206 H)
                    refine WL_stepM rfl (R_mv) ?_
                    refine WL_step rfl (R_indexAddr (off' := i) Tryz.underlying27 Tryz.sizeOf9 rfl rfl (by omega) (by omega) (by omega)) ?_
                    refine WL_step rfl (R_load (v := S nn) Tryz.isAgg9 rfl (H.get .here) hns) ?_
                    (refine WL_effn rfl (E_buildOnes (vs := [S nn]) H Tryz.underlying27 Tryz.sizeOf9 Tryz.zeroValue9 rfl rfl (by decide) rfl rfl (by simp [Value.oneCell'])) ?_; clear H; intro b210 w1059 hb210 H)
                    (refine WL_effm rfl (E_append (news := [S nn]) (m := 1) H (.there (.there (.there (.there (.there (.there (.there (.there .last)))))))) hO Tryz.underlying27 Tryz.typeInfo9 rfl rfl rfl rfl rfl rfl (src_one Tryz.underlying27 (H.get .here) rfl) (by omega) (by simp only [Tryz.t9]; omega)) ?_; clear H; intro vN MN w1060 hON H)
                    refine WL_stepM rfl (R_as) ?_
                    refine WL_nil ?_
                    refine W_region_l ?_
                    refine WL_stepM rfl (R_mv) ?_
                    refine WL_step rfl (R_add rfl rfl (w_i64 (by omega))) ?_
                    refine WL_stepM rfl (R_as) ?_
                    refine WL_nil ?_
                    (have hy := told_yes hFi; exact ⟨(same_mov rfl (same_updo rfl (same_mov rfl (same_mov rfl (same_updo rfl (same_updo rfl (same_updo rfl (same_updo rfl (same_mov rfl (same_updo rfl (same_mov rfl (same_updo rfl (same_updo rfl (same_mov rfl (same_know rfl (same_updo rfl (same_mov rfl same_ovr))))))))))))))))), i + 1, by omega, _, MN, by omega, rfl, rfl, (by rw [hy, List.length_append, List.map_append]; exact hON), (H.pop (by assumption)).pop (by assumption)⟩)
                · refine W_exit ?_
                  refine (if_pos rfl).mpr ?_
                  refine W_seq ?_
                  ((obtain rfl : i = 5 := (by omega); have ht : F.take 5 = F := List.take_of_length_le (by omega))) <;> refine W_region_l ?_
                  refine WL_stepM rfl (R_mv) ?_
                  refine WL_stepM rfl (R_as) ?_
                  refine WL_nil ?_
                  refine W_ret ?_
                  exact ⟨_, rfl, M, (by have h9 := hO; simp only [ht] at h9 ⊢; exact h9), ((((((H.pop (by assumption)).pop (by assumption)).pop (by assumption)).pop (by assumption)).pop (by assumption)).pop (by assumption))⟩
end Go.Proofs.YthonajikgljgmaaGreat.Aud
