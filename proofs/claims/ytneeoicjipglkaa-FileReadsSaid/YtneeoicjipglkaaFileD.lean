/-
  What bytes are, of both; files made of numbers; package ofile's own try.
-/
import Derived.Test.YtneeoicjipglkaaFileC
namespace Go.Proofs.Ytneeoicjipglkaa.File
open Go Go.Proofs Go.Proofs.Ytneeoicjipglkaa.Fx Go.Proofs.Ytneeoicjipglkaa.Codec
set_option maxRecDepth 100000
set_option linter.unusedVariables false
set_option linter.unusedSimpArgs false
set_option maxHeartbeats 2000000

theorem decP_free {xs : List UInt8} (h8 : xs.length = 8) (hz : ∀ x ∈ xs, x = 0) : decP xs = (zeroF, 0) := if_pos ⟨h8, hz⟩
theorem good_not_free {xs : List UInt8} (h : good xs) : ¬ (xs.length = 8 ∧ ∀ x ∈ xs, x = 0) := by
  rintro ⟨h8, hz⟩
  obtain ⟨a, b, c, d, e, f, g, i, rfl⟩ := len8 h8
  have ha := hz a (.head _)
  have hk := h.2.1.1.1
  subst ha
  simp [ofB] at hk
theorem decP_good {xs : List UInt8} (h : good xs) : decP xs = (ofB xs, 1) := by
  unfold decP; rw [if_neg (good_not_free h), if_pos h]
theorem decP_bad {xs : List UInt8} (h : ¬ good xs) (hf : ¬ (xs.length = 8 ∧ ∀ x ∈ xs, x = 0)) : decP xs = (zeroF, 2) := by
  unfold decP; rw [if_neg hf, if_neg h]
theorem b8_n (k : Int) (h0 : 0 ≤ k) (h1 : k ≤ 255) : (((b8 k).toNat : Nat) : Int) = k := by
  unfold b8
  rw [UInt8.toNat_ofNat']
  omega
theorem ofB_bytes {f : Fl} (h : fileOk f) : ofB (fileBytes f) = f := by
  obtain ⟨k, p, r, g⟩ := f
  simp only [fileOk] at h
  simp only [ofB, fileBytes, fb5, List.cons_append, List.getElem?_cons_zero, List.getElem?_cons_succ, Option.getD_some]
  rw [b8_n k (by omega) (by omega), b8_n p (by omega) (by omega), b8_n r (by omega) (by omega), b8_n g (by omega) (by omega)]
theorem bytes_len (f : Fl) : (fileBytes f).length = 8 := rfl
theorem good_bytes {f : Fl} (h : fileOk f) : good (fileBytes f) := ⟨rfl, by rw [ofB_bytes h]; exact h, by rw [ofB_bytes h]⟩
theorem decP_bytes {f : Fl} (h : fileOk f) : decP (fileBytes f) = (f, 1) := by rw [decP_good (good_bytes h), ofB_bytes h]

theorem dec_ret {xs : List UInt8} {w : World} {l : Value} (hl : RdS w l (xs.map U)) (hb : xs.length ≤ 100000) :
    Ret Try.prog 11 #[l] w fun v w' => v = .tuple #[vF (decP xs).1, I (decP xs).2] ∧ Hp w [] w' := by
  refine Ret_of_WC (args := [_]) Try.func11 rfl Try.ntmps11 Try.results11 (by simp) ?_
  have H := Hp.refl w
  obtain ⟨ao, ca, rfl⟩ := hl.form
  simp only [List.length_map] at hl ⊢
  by_cases hf : xs.length = 8 ∧ ∀ x ∈ xs, x = 0
  · have h8 := hf.1
    rw [decP_free hf.1 hf.2]
    refine W_seq ?_
    refine W_region_l ?_
    (refine WL_effn rfl (E_alloc (vs := flC zeroF) H Try.zeroValue23 rfl) ?_; clear H; intro b2 w3 hb2 H)
    refine WL_stepM rfl (R_as) ?_
    refine WL_nil ?_
    refine W_seq ?_
    refine W_seq ?_
    refine W_region_l ?_
    refine WL_stepM rfl (R_mv) ?_
    refine WL_step rfl (R_len_slice Try.underlying24 rfl) ?_
    refine WL_step rfl (R_eq_t rfl rfl (by omega)) ?_
    refine WL_stepM rfl (R_mv) ?_
    refine WL_guard_t rfl rfl ?_
    refine WL_stepM rfl (R_mv) ?_
    refine WL_guard_t rfl rfl ?_
    (refine WL_call rfl (R_call rfl Try.call21 rfl) (blank_ret (hl.monoN H (by repeat' first | exact kNil | apply kCons | apply kApp | assumption | exact OwnS.keys (by assumption))) (by omega)) ?_; rintro v w16 ⟨hv, H1⟩; rw [decide_eq_true hf.2] at hv; subst hv; replace H := H.seq0 H1; clear H1)
    refine WL_stepM rfl (R_pk_t rfl) ?_
    refine WL_nil ?_
    refine W_cond_t rfl ?_
    refine W_seq ?_
    refine W_region_l ?_
    refine WL_step rfl (R_buildL (places := [(0, 1), (1, 1), (2, 1), (3, 1)]) (vs := [(.int _ _), (.int _ _), (.int _ _), (.int _ _)]) Try.underlying23 Try.typeInfo23 rfl rfl (by kernel_rfl) rfl rfl rfl) ?_
    (refine WL_effu rfl (E_storeA (vs := [(.int _ _), (.int _ _), (.int _ _), (.int _ _)]) H Try.sizeOf23 rfl rfl (by simp [Value.oneCell']) .here (Nat.le_of_ble_eq_true rfl)) ?_; clear H; intro w23 H)
    refine WL_stepM rfl (R_as) ?_
    refine WL_nil ?_
    refine W_ret ?_
    exact ⟨_, ⟨_, _, rfl, ldA (vs := flC zeroF) Try.isAgg23 Try.sizeOf23 (H.get .here) rfl (by simp [flC]), rfl⟩, rfl, H.none (by repeat' first | exact kNil | apply kCons | apply kApp | assumption | exact OwnS.keys (by assumption))⟩
  · by_cases h8 : xs.length = 8
    · refine W_seq ?_
      refine W_region_l ?_
      (refine WL_effn rfl (E_alloc (vs := flC zeroF) H Try.zeroValue23 rfl) ?_; clear H; intro b2 w3 hb2 H)
      refine WL_stepM rfl (R_as) ?_
      refine WL_nil ?_
      refine W_seq ?_
      refine W_seq ?_
      refine W_region_l ?_
      refine WL_stepM rfl (R_mv) ?_
      refine WL_step rfl (R_len_slice Try.underlying24 rfl) ?_
      refine WL_step rfl (R_eq_t rfl rfl (by omega)) ?_
      refine WL_stepM rfl (R_mv) ?_
      refine WL_guard_t rfl rfl ?_
      refine WL_stepM rfl (R_mv) ?_
      refine WL_guard_t rfl rfl ?_
      (refine WL_call rfl (R_call rfl Try.call21 rfl) (blank_ret (hl.monoN H (by repeat' first | exact kNil | apply kCons | apply kApp | assumption | exact OwnS.keys (by assumption))) (by omega)) ?_; rintro v w16 ⟨hv, H1⟩; rw [decide_eq_false (fun h => hf ⟨h8, h⟩)] at hv; subst hv; replace H := H.seq0 H1; clear H1)
      refine WL_stepM rfl (R_pk_t rfl) ?_
      refine WL_nil ?_
      refine W_cond_f rfl ?_
      refine W_skip ?_
      refine W_seq ?_
      refine W_region_l ?_
      (refine WL_call rfl (R_call rfl Try.call15 rfl) (codec_ret _) ?_; rintro _ w23 ⟨q, rfl, hq, H1⟩; have hsz := H.size; replace H := H.seqN H1 (kCons hq kNil); replace hq := Nat.le_trans hsz hq; clear H1 hsz)
      refine WL_stepM rfl (R_mv) ?_
      (refine WL_call rfl (R_call rfl Try.call18 rfl) (decM_ret (xs := xs) (H.get .here) (hl.monoN H (by repeat' first | exact kNil | apply kCons | apply kApp | assumption | exact OwnS.keys (by assumption))) hb) ?_; rintro _ w25 ⟨(⟨hg, rfl⟩ | ⟨hg, rfl⟩), H1⟩ <;> (replace H := H.seq0 H1; clear H1))
      · refine WL_stepM rfl (R_mv) ?_
        refine WL_step rfl (R_extract rfl rfl) ?_
        refine WL_step rfl (R_extract rfl rfl) ?_
        (refine WL_effn rfl (E_alloc (vs := flC zeroF) H Try.zeroValue23 rfl) ?_; clear H; intro b4 w29 hb4 H)
        (have _g := hg.1; refine WL_effu rfl (E_storeA (vs := flC (ofB xs)) H Try.sizeOf23 rfl rfl (by simp [flC, Value.oneCell']) .here (by simp [flC])) ?_; clear H; intro w30 H; replace H : Hp w [(b4, blk (flC (ofB xs)) 23), (q, cod), (b2, blk (flC zeroF) 23)] _ := H)
        refine WL_stepM rfl (R_as) ?_
        refine WL_nil ?_
        refine W_seq ?_
        refine W_seq ?_
        refine W_region_l ?_
        refine WL_stepM rfl (R_mv) ?_
        refine WL_step rfl (R_not_t rfl) ?_
        refine WL_nil ?_
        refine W_cond_f rfl ?_
        refine W_skip ?_
        refine W_seq ?_
        refine W_region_l ?_
        refine WL_step rfl (R_loadA (vs := flC (ofB xs)) Try.isAgg23 Try.sizeOf23 rfl (H.get .here) rfl (by simp [flC])) ?_
        (have _g := hg.1; refine WL_effu rfl (E_storeA (vs := flC (ofB xs)) H Try.sizeOf23 rfl rfl (by simp [flC, Value.oneCell']) (.there (.there .here)) (by simp [flC])) ?_; clear H; intro w44 H)
        refine WL_stepM rfl (R_as) ?_
        refine WL_nil ?_
        refine W_ret ?_
        exact ⟨_, ⟨_, _, rfl, ldA (vs := flC (ofB xs)) Try.isAgg23 Try.sizeOf23 (H.get (.there (.there .here))) rfl (by simp [flC]), rfl⟩, (by rw [decP_good hg]; rfl), H.none (by repeat' first | exact kNil | apply kCons | apply kApp | assumption | exact OwnS.keys (by assumption))⟩
      · refine WL_stepM rfl (R_mv) ?_
        refine WL_step rfl (R_extract rfl rfl) ?_
        refine WL_step rfl (R_extract rfl rfl) ?_
        (refine WL_effn rfl (E_alloc (vs := flC zeroF) H Try.zeroValue23 rfl) ?_; clear H; intro b4 w52 hb4 H)
        (refine WL_effu rfl (E_storeA (vs := [(.int _ _), (.int _ _), (.int _ _), (.int _ _)]) H Try.sizeOf23 rfl rfl (by simp [Value.oneCell']) .here (Nat.le_of_ble_eq_true rfl)) ?_; clear H; intro w53 H)
        refine WL_stepM rfl (R_as) ?_
        refine WL_nil ?_
        refine W_seq ?_
        refine W_seq ?_
        refine W_region_l ?_
        refine WL_stepM rfl (R_mv) ?_
        refine WL_step rfl (R_not_f rfl) ?_
        refine WL_nil ?_
        refine W_cond_t rfl ?_
        refine W_seq ?_
        refine W_region_l ?_
        refine WL_step rfl (R_buildL (places := [(0, 1), (1, 1), (2, 1), (3, 1)]) (vs := [(.int _ _), (.int _ _), (.int _ _), (.int _ _)]) Try.underlying23 Try.typeInfo23 rfl rfl (by kernel_rfl) rfl rfl rfl) ?_
        (refine WL_effu rfl (E_storeA (vs := [(.int _ _), (.int _ _), (.int _ _), (.int _ _)]) H Try.sizeOf23 rfl rfl (by simp [Value.oneCell']) (.there (.there .here)) (Nat.le_of_ble_eq_true rfl)) ?_; clear H; intro w66 H)
        refine WL_stepM rfl (R_as) ?_
        refine WL_nil ?_
        refine W_ret ?_
        exact ⟨_, ⟨_, _, rfl, ldA (vs := flC zeroF) Try.isAgg23 Try.sizeOf23 (H.get (.there (.there .here))) rfl (by simp [flC]), rfl⟩, (by rw [decP_bad hg hf]; rfl), H.none (by repeat' first | exact kNil | apply kCons | apply kApp | assumption | exact OwnS.keys (by assumption))⟩
    · refine W_seq ?_
      refine W_region_l ?_
      (refine WL_effn rfl (E_alloc (vs := flC zeroF) H Try.zeroValue23 rfl) ?_; clear H; intro b2 w3 hb2 H)
      refine WL_stepM rfl (R_as) ?_
      refine WL_nil ?_
      refine W_seq ?_
      refine W_seq ?_
      refine W_region_l ?_
      refine WL_stepM rfl (R_mv) ?_
      refine WL_step rfl (R_len_slice Try.underlying24 rfl) ?_
      refine WL_step rfl (R_eq_f rfl rfl (by omega)) ?_
      refine WL_stepM rfl (R_mv) ?_
      refine WL_guard_f rfl rfl (by decide) ?_
      refine WL_guard_f rfl rfl (by decide) ?_
      refine WL_stepM rfl (R_pk_f rfl) ?_
      refine WL_nil ?_
      refine W_cond_f rfl ?_
      refine W_skip ?_
      refine W_seq ?_
      refine W_region_l ?_
      (refine WL_call rfl (R_call rfl Try.call15 rfl) (codec_ret _) ?_; rintro _ w21 ⟨q, rfl, hq, H1⟩; have hsz := H.size; replace H := H.seqN H1 (kCons hq kNil); replace hq := Nat.le_trans hsz hq; clear H1 hsz)
      refine WL_stepM rfl (R_mv) ?_
      (refine WL_call rfl (R_call rfl Try.call18 rfl) (decM_ret (xs := xs) (H.get .here) (hl.monoN H (by repeat' first | exact kNil | apply kCons | apply kApp | assumption | exact OwnS.keys (by assumption))) hb) ?_; rintro _ w23 ⟨(⟨hg, rfl⟩ | ⟨hg, rfl⟩), H1⟩ <;> (replace H := H.seq0 H1; clear H1))
      · refine WL_stepM rfl (R_mv) ?_
        refine WL_step rfl (R_extract rfl rfl) ?_
        refine WL_step rfl (R_extract rfl rfl) ?_
        (refine WL_effn rfl (E_alloc (vs := flC zeroF) H Try.zeroValue23 rfl) ?_; clear H; intro b4 w27 hb4 H)
        (have _g := hg.1; refine WL_effu rfl (E_storeA (vs := flC (ofB xs)) H Try.sizeOf23 rfl rfl (by simp [flC, Value.oneCell']) .here (by simp [flC])) ?_; clear H; intro w28 H; replace H : Hp w [(b4, blk (flC (ofB xs)) 23), (q, cod), (b2, blk (flC zeroF) 23)] _ := H)
        refine WL_stepM rfl (R_as) ?_
        refine WL_nil ?_
        refine W_seq ?_
        refine W_seq ?_
        refine W_region_l ?_
        refine WL_stepM rfl (R_mv) ?_
        refine WL_step rfl (R_not_t rfl) ?_
        refine WL_nil ?_
        refine W_cond_f rfl ?_
        refine W_skip ?_
        refine W_seq ?_
        refine W_region_l ?_
        refine WL_step rfl (R_loadA (vs := flC (ofB xs)) Try.isAgg23 Try.sizeOf23 rfl (H.get .here) rfl (by simp [flC])) ?_
        (have _g := hg.1; refine WL_effu rfl (E_storeA (vs := flC (ofB xs)) H Try.sizeOf23 rfl rfl (by simp [flC, Value.oneCell']) (.there (.there .here)) (by simp [flC])) ?_; clear H; intro w42 H)
        refine WL_stepM rfl (R_as) ?_
        refine WL_nil ?_
        refine W_ret ?_
        exact ⟨_, ⟨_, _, rfl, ldA (vs := flC (ofB xs)) Try.isAgg23 Try.sizeOf23 (H.get (.there (.there .here))) rfl (by simp [flC]), rfl⟩, (by rw [decP_good hg]; rfl), H.none (by repeat' first | exact kNil | apply kCons | apply kApp | assumption | exact OwnS.keys (by assumption))⟩
      · refine WL_stepM rfl (R_mv) ?_
        refine WL_step rfl (R_extract rfl rfl) ?_
        refine WL_step rfl (R_extract rfl rfl) ?_
        (refine WL_effn rfl (E_alloc (vs := flC zeroF) H Try.zeroValue23 rfl) ?_; clear H; intro b4 w50 hb4 H)
        (refine WL_effu rfl (E_storeA (vs := [(.int _ _), (.int _ _), (.int _ _), (.int _ _)]) H Try.sizeOf23 rfl rfl (by simp [Value.oneCell']) .here (Nat.le_of_ble_eq_true rfl)) ?_; clear H; intro w51 H)
        refine WL_stepM rfl (R_as) ?_
        refine WL_nil ?_
        refine W_seq ?_
        refine W_seq ?_
        refine W_region_l ?_
        refine WL_stepM rfl (R_mv) ?_
        refine WL_step rfl (R_not_f rfl) ?_
        refine WL_nil ?_
        refine W_cond_t rfl ?_
        refine W_seq ?_
        refine W_region_l ?_
        refine WL_step rfl (R_buildL (places := [(0, 1), (1, 1), (2, 1), (3, 1)]) (vs := [(.int _ _), (.int _ _), (.int _ _), (.int _ _)]) Try.underlying23 Try.typeInfo23 rfl rfl (by kernel_rfl) rfl rfl rfl) ?_
        (refine WL_effu rfl (E_storeA (vs := [(.int _ _), (.int _ _), (.int _ _), (.int _ _)]) H Try.sizeOf23 rfl rfl (by simp [Value.oneCell']) (.there (.there .here)) (Nat.le_of_ble_eq_true rfl)) ?_; clear H; intro w64 H)
        refine WL_stepM rfl (R_as) ?_
        refine WL_nil ?_
        refine W_ret ?_
        exact ⟨_, ⟨_, _, rfl, ldA (vs := flC zeroF) Try.isAgg23 Try.sizeOf23 (H.get (.there (.there .here))) rfl (by simp [flC]), rfl⟩, (by rw [decP_bad hg hf]; rfl), H.none (by repeat' first | exact kNil | apply kCons | apply kApp | assumption | exact OwnS.keys (by assumption))⟩

theorem refOf_ret {xs : List UInt8} {w : World} (hb : xs.length ≤ 100000) :
    Ret Try.prog 14 #[S xs] w fun v w' => v = .tuple #[vF (decP xs).1, I (decP xs).2] ∧ Hp w [] w' := by
  refine Ret_of_WC (args := [_]) Try.func14 rfl Try.ntmps14 Try.results14 (by simp) ?_
  have H := Hp.refl w
  by_cases hf : xs.length = 8 ∧ ∀ x ∈ xs, x = 0
  · have h8 := hf.1
    rw [decP_free hf.1 hf.2]
    refine W_seq ?_
    refine W_region_l ?_
    (refine WL_effn rfl (E_alloc (vs := flC zeroF) H Try.zeroValue23 rfl) ?_; clear H; intro b2 w3 hb2 H)
    refine WL_stepM rfl (R_as) ?_
    refine WL_nil ?_
    refine W_seq ?_
    refine W_seq ?_
    refine W_region_l ?_
    refine WL_stepM rfl (R_mv) ?_
    refine WL_step rfl (R_len_S Try.underlying9 rfl) ?_
    refine WL_step rfl (R_ne_f rfl rfl (by omega)) ?_
    refine WL_nil ?_
    refine W_cond_f rfl ?_
    refine W_skip ?_
    refine W_seq ?_
    refine W_seq ?_
    refine W_region_l ?_
    refine WL_stepM rfl (R_mv) ?_
    (refine WL_call rfl (R_call rfl Try.call22 rfl) (refBlank_ret _ hb) ?_; rintro v w19 ⟨hv, H1⟩; rw [decide_eq_true hf.2] at hv; subst hv; replace H := H.seq0 H1; clear H1)
    refine WL_nil ?_
    refine W_cond_t rfl ?_
    refine W_seq ?_
    refine W_region_l ?_
    refine WL_step rfl (R_buildL (places := [(0, 1), (1, 1), (2, 1), (3, 1)]) (vs := [(.int _ _), (.int _ _), (.int _ _), (.int _ _)]) Try.underlying23 Try.typeInfo23 rfl rfl (by kernel_rfl) rfl rfl rfl) ?_
    (refine WL_effu rfl (E_storeA (vs := [(.int _ _), (.int _ _), (.int _ _), (.int _ _)]) H Try.sizeOf23 rfl rfl (by simp [Value.oneCell']) .here (Nat.le_of_ble_eq_true rfl)) ?_; clear H; intro w25 H)
    refine WL_stepM rfl (R_as) ?_
    refine WL_nil ?_
    refine W_ret ?_
    exact ⟨_, ⟨_, _, rfl, ldA (vs := flC zeroF) Try.isAgg23 Try.sizeOf23 (H.get .here) rfl (by simp [flC]), rfl⟩, rfl, H.none (by repeat' first | exact kNil | apply kCons | apply kApp | assumption | exact OwnS.keys (by assumption))⟩
  · by_cases h8 : xs.length = 8
    · have hz : ¬ ∀ x ∈ xs, x = 0 := fun h => hf ⟨h8, h⟩
      have hx : ∃ a b c d e f g i, xs = [a, b, c, d, e, f, g, i] := len8 h8
      obtain ⟨a, b, c, d, e, f, g, i, hx⟩ := hx
      have ha := a.toNat_lt
      have hb2 := b.toNat_lt
      have hc := c.toNat_lt
      have hd := d.toNat_lt
      have hab : flC (ofB xs) = [I a.toNat, I b.toNat, I c.toNat, I d.toNat] := by subst hx; rfl
      obtain ⟨ff, hff⟩ : ∃ ff : Fl, ff = ofB xs := ⟨_, rfl⟩
      by_cases hok : fileOk ff <;> by_cases hby : fileBytes ff = xs
      · have hdec : decP xs = (ff, 1) := by rw [hff]; exact decP_good ⟨h8, by rw [← hff]; exact hok, by rw [← hff]; exact hby⟩
        rw [hdec]
        refine W_seq ?_
        refine W_region_l ?_
        (refine WL_effn rfl (E_alloc (vs := flC zeroF) H Try.zeroValue23 rfl) ?_; clear H; intro b2 w3 hb2 H)
        refine WL_stepM rfl (R_as) ?_
        refine WL_nil ?_
        refine W_seq ?_
        refine W_seq ?_
        refine W_region_l ?_
        refine WL_stepM rfl (R_mv) ?_
        refine WL_step rfl (R_len_S Try.underlying9 rfl) ?_
        refine WL_step rfl (R_ne_f rfl rfl (by omega)) ?_
        refine WL_nil ?_
        refine W_cond_f rfl ?_
        refine W_skip ?_
        refine W_seq ?_
        refine W_seq ?_
        refine W_region_l ?_
        refine WL_stepM rfl (R_mv) ?_
        (refine WL_call rfl (R_call rfl Try.call22 rfl) (refBlank_ret _ hb) ?_; rintro v w19 ⟨hv, H1⟩; rw [decide_eq_false hz] at hv; subst hv; replace H := H.seq0 H1; clear H1)
        refine WL_nil ?_
        refine W_cond_f rfl ?_
        refine W_skip ?_
        refine W_seq ?_
        (refine W_draw (KH w [(b2, blk (flC zeroF) 23)]) (fun _ => false) (by kernel_rfl) H ?_; clear H; intro w24 H)
        refine WA_takeM 0 rfl rfl rfl (by kernel_rfl) (by kernel_rfl) (H.kh (by simp) (by repeat' first | exact kNil | apply kCons | apply kApp | assumption | exact OwnS.keys (by assumption))) (fun _ hC => R_mv) ?_
        refine WA_take 1 rfl rfl rfl (by kernel_rfl) (by kernel_rfl) (H.kh (by simp) (by repeat' first | exact kNil | apply kCons | apply kApp | assumption | exact OwnS.keys (by assumption))) (fun _ hC => R_index_S (u := a) (i := 0) Try.underlying9 rfl rfl (by omega) (by rw [hx]; rfl)) ?_
        refine WA_take 2 rfl rfl rfl (by kernel_rfl) (by kernel_rfl) (H.kh (by simp) (by repeat' first | exact kNil | apply kCons | apply kApp | assumption | exact OwnS.keys (by assumption))) (fun _ hC => R_conv_int Try.underlying5 Try.underlying3 rfl u8_in_i64) ?_
        refine WA_takeM 3 rfl rfl rfl (by kernel_rfl) (by kernel_rfl) (H.kh (by simp) (by repeat' first | exact kNil | apply kCons | apply kApp | assumption | exact OwnS.keys (by assumption))) (fun _ hC => R_mv) ?_
        refine WA_take 4 rfl rfl rfl (by kernel_rfl) (by kernel_rfl) (H.kh (by simp) (by repeat' first | exact kNil | apply kCons | apply kApp | assumption | exact OwnS.keys (by assumption))) (fun _ hC => R_index_S (u := b) (i := 1) Try.underlying9 rfl rfl (by omega) (by rw [hx]; rfl)) ?_
        refine WA_take 5 rfl rfl rfl (by kernel_rfl) (by kernel_rfl) (H.kh (by simp) (by repeat' first | exact kNil | apply kCons | apply kApp | assumption | exact OwnS.keys (by assumption))) (fun _ hC => R_conv_int Try.underlying5 Try.underlying3 rfl u8_in_i64) ?_
        refine WA_takeM 6 rfl rfl rfl (by kernel_rfl) (by kernel_rfl) (H.kh (by simp) (by repeat' first | exact kNil | apply kCons | apply kApp | assumption | exact OwnS.keys (by assumption))) (fun _ hC => R_mv) ?_
        refine WA_take 7 rfl rfl rfl (by kernel_rfl) (by kernel_rfl) (H.kh (by simp) (by repeat' first | exact kNil | apply kCons | apply kApp | assumption | exact OwnS.keys (by assumption))) (fun _ hC => R_index_S (u := c) (i := 2) Try.underlying9 rfl rfl (by omega) (by rw [hx]; rfl)) ?_
        refine WA_take 8 rfl rfl rfl (by kernel_rfl) (by kernel_rfl) (H.kh (by simp) (by repeat' first | exact kNil | apply kCons | apply kApp | assumption | exact OwnS.keys (by assumption))) (fun _ hC => R_conv_int Try.underlying5 Try.underlying3 rfl u8_in_i64) ?_
        refine WA_takeM 9 rfl rfl rfl (by kernel_rfl) (by kernel_rfl) (H.kh (by simp) (by repeat' first | exact kNil | apply kCons | apply kApp | assumption | exact OwnS.keys (by assumption))) (fun _ hC => R_mv) ?_
        refine WA_take 10 rfl rfl rfl (by kernel_rfl) (by kernel_rfl) (H.kh (by simp) (by repeat' first | exact kNil | apply kCons | apply kApp | assumption | exact OwnS.keys (by assumption))) (fun _ hC => R_index_S (u := d) (i := 3) Try.underlying9 rfl rfl (by omega) (by rw [hx]; rfl)) ?_
        refine WA_take 11 rfl rfl rfl (by kernel_rfl) (by kernel_rfl) (H.kh (by simp) (by repeat' first | exact kNil | apply kCons | apply kApp | assumption | exact OwnS.keys (by assumption))) (fun _ hC => R_conv_int Try.underlying5 Try.underlying3 rfl u8_in_i64) ?_
        refine WA_take 12 rfl rfl rfl (by kernel_rfl) (by kernel_rfl) (H.kh (by simp) (by repeat' first | exact kNil | apply kCons | apply kApp | assumption | exact OwnS.keys (by assumption))) (fun _ hC => R_buildL (places := [(0, 1), (1, 1), (2, 1), (3, 1)]) (vs := [(.int _ _), (.int _ _), (.int _ _), (.int _ _)]) Try.underlying23 Try.typeInfo23 rfl rfl (by kernel_rfl) rfl rfl rfl) ?_
        refine WA_one (i := 13) (by kernel_rfl) ?_
        (refine WI_effnA rfl (.inl rfl) (E_alloc (vs := flC zeroF) H Try.zeroValue23 rfl) (fun _ _ _ H => (by first | exact fun h => absurd h (by decide) | exact fun _ => H | exact fun _ => H.none (by repeat' first | exact kNil | apply kCons | apply kApp | assumption | exact OwnS.keys (by assumption)) | exact fun _ => H.dropN (by repeat' first | exact kNil | apply kCons | apply kApp | assumption | exact OwnS.keys (by assumption)) | exact fun _ => H.pop (by assumption) | exact fun _ => (H.pop (by assumption)).pop (by assumption) | exact fun _ => H.kp | exact fun _ => H.kp.tail | exact fun _ => H.kp.tail.tail | exact fun _ => H.kp.tail.tail.tail | exact fun _ => H.kp.sub (by simp) | exact fun _ => Kp.nil | exact fun _ => H.kh (by simp) (by repeat' first | exact kNil | apply kCons | apply kApp | assumption | exact OwnS.keys (by assumption)))) ?_; clear H; intro b4 w39 hb4 H)
        refine WA_one (i := 14) (by kernel_rfl) ?_
        (refine WI_effu rfl (.inl rfl) (E_storeA (vs := [I a.toNat, I b.toNat, I c.toNat, I d.toNat]) H Try.sizeOf23 rfl rfl (by simp [Value.oneCell']) .here (by simp [flC])) (fun _ H => (by first | exact fun h => absurd h (by decide) | exact fun _ => H | exact fun _ => H.none (by repeat' first | exact kNil | apply kCons | apply kApp | assumption | exact OwnS.keys (by assumption)) | exact fun _ => H.dropN (by repeat' first | exact kNil | apply kCons | apply kApp | assumption | exact OwnS.keys (by assumption)) | exact fun _ => H.pop (by assumption) | exact fun _ => (H.pop (by assumption)).pop (by assumption) | exact fun _ => H.kp | exact fun _ => H.kp.tail | exact fun _ => H.kp.tail.tail | exact fun _ => H.kp.tail.tail.tail | exact fun _ => H.kp.sub (by simp) | exact fun _ => Kp.nil | exact fun _ => H.kh (by simp) (by repeat' first | exact kNil | apply kCons | apply kApp | assumption | exact OwnS.keys (by assumption)))) ?_; clear H; intro w41 H; rw [← hab, ← hff] at H; replace H : Hp w [(b4, blk (flC ff) 23), (b2, blk (flC zeroF) 23)] w41 := H)
        refine WA_done (by kernel_rfl) ?_
        refine W_seq ?_
        refine W_seq ?_
        refine W_region_l ?_
        refine WL_step rfl (R_loadA (vs := flC ff) Try.isAgg23 Try.sizeOf23 rfl (H.get .here) rfl (by simp [flC])) ?_
        (refine WL_call rfl (R_call rfl Try.call8 rfl) (refOk_ret ff _) ?_; rintro v w47 ⟨hv, H1⟩; rw [decide_eq_true hok] at hv; subst hv; replace H := H.seq0 H1; clear H1)
        refine WL_step rfl (R_not_t rfl) ?_
        refine WL_stepM rfl (R_mv) ?_
        refine WL_guard_t rfl rfl ?_
        refine WL_step rfl (R_loadA (vs := flC ff) Try.isAgg23 Try.sizeOf23 rfl (H.get .here) rfl (by simp [flC])) ?_
        refine WL_guard_t rfl rfl ?_
        (refine WL_call rfl (R_call rfl Try.call10 rfl) (refBytes_ret ff hok _) ?_; rintro _ w53 ⟨rfl, H1⟩; replace H := H.seq0 H1; clear H1)
        refine WL_guard_t rfl rfl ?_
        refine WL_stepM rfl (R_mv) ?_
        refine WL_guard_t rfl rfl ?_
        refine WL_step rfl (R_ne_S_f rfl rfl (by assumption)) ?_
        refine WL_stepM rfl (R_pk_f rfl) ?_
        refine WL_nil ?_
        refine W_cond_f rfl ?_
        refine W_skip ?_
        refine W_seq ?_
        refine W_region_l ?_
        refine WL_step rfl (R_loadA (vs := flC ff) Try.isAgg23 Try.sizeOf23 rfl (H.get .here) rfl (by simp [flC])) ?_
        (refine WL_effu rfl (E_storeA (vs := flC ff) H Try.sizeOf23 rfl rfl (by simp [flC, Value.oneCell']) (.there .here) (by simp [flC])) ?_; clear H; intro w65 H)
        refine WL_stepM rfl (R_as) ?_
        refine WL_nil ?_
        refine W_ret ?_
        exact ⟨_, ⟨_, _, rfl, ldA (vs := flC ff) Try.isAgg23 Try.sizeOf23 (H.get (.there .here)) rfl (by simp [flC]), rfl⟩, rfl, H.none (by repeat' first | exact kNil | apply kCons | apply kApp | assumption | exact OwnS.keys (by assumption))⟩
      · have hdec : decP xs = (zeroF, 2) := decP_bad (fun h => hby (by rw [hff]; exact h.2.2)) hf
        rw [hdec]
        refine W_seq ?_
        refine W_region_l ?_
        (refine WL_effn rfl (E_alloc (vs := flC zeroF) H Try.zeroValue23 rfl) ?_; clear H; intro b2 w3 hb2 H)
        refine WL_stepM rfl (R_as) ?_
        refine WL_nil ?_
        refine W_seq ?_
        refine W_seq ?_
        refine W_region_l ?_
        refine WL_stepM rfl (R_mv) ?_
        refine WL_step rfl (R_len_S Try.underlying9 rfl) ?_
        refine WL_step rfl (R_ne_f rfl rfl (by omega)) ?_
        refine WL_nil ?_
        refine W_cond_f rfl ?_
        refine W_skip ?_
        refine W_seq ?_
        refine W_seq ?_
        refine W_region_l ?_
        refine WL_stepM rfl (R_mv) ?_
        (refine WL_call rfl (R_call rfl Try.call22 rfl) (refBlank_ret _ hb) ?_; rintro v w19 ⟨hv, H1⟩; rw [decide_eq_false hz] at hv; subst hv; replace H := H.seq0 H1; clear H1)
        refine WL_nil ?_
        refine W_cond_f rfl ?_
        refine W_skip ?_
        refine W_seq ?_
        (refine W_draw (KH w [(b2, blk (flC zeroF) 23)]) (fun _ => false) (by kernel_rfl) H ?_; clear H; intro w24 H)
        refine WA_takeM 0 rfl rfl rfl (by kernel_rfl) (by kernel_rfl) (H.kh (by simp) (by repeat' first | exact kNil | apply kCons | apply kApp | assumption | exact OwnS.keys (by assumption))) (fun _ hC => R_mv) ?_
        refine WA_take 1 rfl rfl rfl (by kernel_rfl) (by kernel_rfl) (H.kh (by simp) (by repeat' first | exact kNil | apply kCons | apply kApp | assumption | exact OwnS.keys (by assumption))) (fun _ hC => R_index_S (u := a) (i := 0) Try.underlying9 rfl rfl (by omega) (by rw [hx]; rfl)) ?_
        refine WA_take 2 rfl rfl rfl (by kernel_rfl) (by kernel_rfl) (H.kh (by simp) (by repeat' first | exact kNil | apply kCons | apply kApp | assumption | exact OwnS.keys (by assumption))) (fun _ hC => R_conv_int Try.underlying5 Try.underlying3 rfl u8_in_i64) ?_
        refine WA_takeM 3 rfl rfl rfl (by kernel_rfl) (by kernel_rfl) (H.kh (by simp) (by repeat' first | exact kNil | apply kCons | apply kApp | assumption | exact OwnS.keys (by assumption))) (fun _ hC => R_mv) ?_
        refine WA_take 4 rfl rfl rfl (by kernel_rfl) (by kernel_rfl) (H.kh (by simp) (by repeat' first | exact kNil | apply kCons | apply kApp | assumption | exact OwnS.keys (by assumption))) (fun _ hC => R_index_S (u := b) (i := 1) Try.underlying9 rfl rfl (by omega) (by rw [hx]; rfl)) ?_
        refine WA_take 5 rfl rfl rfl (by kernel_rfl) (by kernel_rfl) (H.kh (by simp) (by repeat' first | exact kNil | apply kCons | apply kApp | assumption | exact OwnS.keys (by assumption))) (fun _ hC => R_conv_int Try.underlying5 Try.underlying3 rfl u8_in_i64) ?_
        refine WA_takeM 6 rfl rfl rfl (by kernel_rfl) (by kernel_rfl) (H.kh (by simp) (by repeat' first | exact kNil | apply kCons | apply kApp | assumption | exact OwnS.keys (by assumption))) (fun _ hC => R_mv) ?_
        refine WA_take 7 rfl rfl rfl (by kernel_rfl) (by kernel_rfl) (H.kh (by simp) (by repeat' first | exact kNil | apply kCons | apply kApp | assumption | exact OwnS.keys (by assumption))) (fun _ hC => R_index_S (u := c) (i := 2) Try.underlying9 rfl rfl (by omega) (by rw [hx]; rfl)) ?_
        refine WA_take 8 rfl rfl rfl (by kernel_rfl) (by kernel_rfl) (H.kh (by simp) (by repeat' first | exact kNil | apply kCons | apply kApp | assumption | exact OwnS.keys (by assumption))) (fun _ hC => R_conv_int Try.underlying5 Try.underlying3 rfl u8_in_i64) ?_
        refine WA_takeM 9 rfl rfl rfl (by kernel_rfl) (by kernel_rfl) (H.kh (by simp) (by repeat' first | exact kNil | apply kCons | apply kApp | assumption | exact OwnS.keys (by assumption))) (fun _ hC => R_mv) ?_
        refine WA_take 10 rfl rfl rfl (by kernel_rfl) (by kernel_rfl) (H.kh (by simp) (by repeat' first | exact kNil | apply kCons | apply kApp | assumption | exact OwnS.keys (by assumption))) (fun _ hC => R_index_S (u := d) (i := 3) Try.underlying9 rfl rfl (by omega) (by rw [hx]; rfl)) ?_
        refine WA_take 11 rfl rfl rfl (by kernel_rfl) (by kernel_rfl) (H.kh (by simp) (by repeat' first | exact kNil | apply kCons | apply kApp | assumption | exact OwnS.keys (by assumption))) (fun _ hC => R_conv_int Try.underlying5 Try.underlying3 rfl u8_in_i64) ?_
        refine WA_take 12 rfl rfl rfl (by kernel_rfl) (by kernel_rfl) (H.kh (by simp) (by repeat' first | exact kNil | apply kCons | apply kApp | assumption | exact OwnS.keys (by assumption))) (fun _ hC => R_buildL (places := [(0, 1), (1, 1), (2, 1), (3, 1)]) (vs := [(.int _ _), (.int _ _), (.int _ _), (.int _ _)]) Try.underlying23 Try.typeInfo23 rfl rfl (by kernel_rfl) rfl rfl rfl) ?_
        refine WA_one (i := 13) (by kernel_rfl) ?_
        (refine WI_effnA rfl (.inl rfl) (E_alloc (vs := flC zeroF) H Try.zeroValue23 rfl) (fun _ _ _ H => (by first | exact fun h => absurd h (by decide) | exact fun _ => H | exact fun _ => H.none (by repeat' first | exact kNil | apply kCons | apply kApp | assumption | exact OwnS.keys (by assumption)) | exact fun _ => H.dropN (by repeat' first | exact kNil | apply kCons | apply kApp | assumption | exact OwnS.keys (by assumption)) | exact fun _ => H.pop (by assumption) | exact fun _ => (H.pop (by assumption)).pop (by assumption) | exact fun _ => H.kp | exact fun _ => H.kp.tail | exact fun _ => H.kp.tail.tail | exact fun _ => H.kp.tail.tail.tail | exact fun _ => H.kp.sub (by simp) | exact fun _ => Kp.nil | exact fun _ => H.kh (by simp) (by repeat' first | exact kNil | apply kCons | apply kApp | assumption | exact OwnS.keys (by assumption)))) ?_; clear H; intro b4 w39 hb4 H)
        refine WA_one (i := 14) (by kernel_rfl) ?_
        (refine WI_effu rfl (.inl rfl) (E_storeA (vs := [I a.toNat, I b.toNat, I c.toNat, I d.toNat]) H Try.sizeOf23 rfl rfl (by simp [Value.oneCell']) .here (by simp [flC])) (fun _ H => (by first | exact fun h => absurd h (by decide) | exact fun _ => H | exact fun _ => H.none (by repeat' first | exact kNil | apply kCons | apply kApp | assumption | exact OwnS.keys (by assumption)) | exact fun _ => H.dropN (by repeat' first | exact kNil | apply kCons | apply kApp | assumption | exact OwnS.keys (by assumption)) | exact fun _ => H.pop (by assumption) | exact fun _ => (H.pop (by assumption)).pop (by assumption) | exact fun _ => H.kp | exact fun _ => H.kp.tail | exact fun _ => H.kp.tail.tail | exact fun _ => H.kp.tail.tail.tail | exact fun _ => H.kp.sub (by simp) | exact fun _ => Kp.nil | exact fun _ => H.kh (by simp) (by repeat' first | exact kNil | apply kCons | apply kApp | assumption | exact OwnS.keys (by assumption)))) ?_; clear H; intro w41 H; rw [← hab, ← hff] at H; replace H : Hp w [(b4, blk (flC ff) 23), (b2, blk (flC zeroF) 23)] w41 := H)
        refine WA_done (by kernel_rfl) ?_
        refine W_seq ?_
        refine W_seq ?_
        refine W_region_l ?_
        refine WL_step rfl (R_loadA (vs := flC ff) Try.isAgg23 Try.sizeOf23 rfl (H.get .here) rfl (by simp [flC])) ?_
        (refine WL_call rfl (R_call rfl Try.call8 rfl) (refOk_ret ff _) ?_; rintro v w47 ⟨hv, H1⟩; rw [decide_eq_true hok] at hv; subst hv; replace H := H.seq0 H1; clear H1)
        refine WL_step rfl (R_not_t rfl) ?_
        refine WL_stepM rfl (R_mv) ?_
        refine WL_guard_t rfl rfl ?_
        refine WL_step rfl (R_loadA (vs := flC ff) Try.isAgg23 Try.sizeOf23 rfl (H.get .here) rfl (by simp [flC])) ?_
        refine WL_guard_t rfl rfl ?_
        (refine WL_call rfl (R_call rfl Try.call10 rfl) (refBytes_ret ff hok _) ?_; rintro _ w53 ⟨rfl, H1⟩; replace H := H.seq0 H1; clear H1)
        refine WL_guard_t rfl rfl ?_
        refine WL_stepM rfl (R_mv) ?_
        refine WL_guard_t rfl rfl ?_
        refine WL_step rfl (R_ne_S_t rfl rfl (by assumption)) ?_
        refine WL_stepM rfl (R_pk_f rfl) ?_
        refine WL_nil ?_
        refine W_cond_t rfl ?_
        refine W_seq ?_
        refine W_region_l ?_
        refine WL_step rfl (R_buildL (places := [(0, 1), (1, 1), (2, 1), (3, 1)]) (vs := [(.int _ _), (.int _ _), (.int _ _), (.int _ _)]) Try.underlying23 Try.typeInfo23 rfl rfl (by kernel_rfl) rfl rfl rfl) ?_
        (refine WL_effu rfl (E_storeA (vs := [(.int _ _), (.int _ _), (.int _ _), (.int _ _)]) H Try.sizeOf23 rfl rfl (by simp [Value.oneCell']) (.there .here) (Nat.le_of_ble_eq_true rfl)) ?_; clear H; intro w64 H)
        refine WL_stepM rfl (R_as) ?_
        refine WL_nil ?_
        refine W_ret ?_
        exact ⟨_, ⟨_, _, rfl, ldA (vs := flC zeroF) Try.isAgg23 Try.sizeOf23 (H.get (.there .here)) rfl (by simp [flC]), rfl⟩, rfl, H.none (by repeat' first | exact kNil | apply kCons | apply kApp | assumption | exact OwnS.keys (by assumption))⟩
      · have hdec : decP xs = (zeroF, 2) := decP_bad (fun h => hok (by rw [hff]; exact h.2.1)) hf
        rw [hdec]
        refine W_seq ?_
        refine W_region_l ?_
        (refine WL_effn rfl (E_alloc (vs := flC zeroF) H Try.zeroValue23 rfl) ?_; clear H; intro b2 w3 hb2 H)
        refine WL_stepM rfl (R_as) ?_
        refine WL_nil ?_
        refine W_seq ?_
        refine W_seq ?_
        refine W_region_l ?_
        refine WL_stepM rfl (R_mv) ?_
        refine WL_step rfl (R_len_S Try.underlying9 rfl) ?_
        refine WL_step rfl (R_ne_f rfl rfl (by omega)) ?_
        refine WL_nil ?_
        refine W_cond_f rfl ?_
        refine W_skip ?_
        refine W_seq ?_
        refine W_seq ?_
        refine W_region_l ?_
        refine WL_stepM rfl (R_mv) ?_
        (refine WL_call rfl (R_call rfl Try.call22 rfl) (refBlank_ret _ hb) ?_; rintro v w19 ⟨hv, H1⟩; rw [decide_eq_false hz] at hv; subst hv; replace H := H.seq0 H1; clear H1)
        refine WL_nil ?_
        refine W_cond_f rfl ?_
        refine W_skip ?_
        refine W_seq ?_
        (refine W_draw (KH w [(b2, blk (flC zeroF) 23)]) (fun _ => false) (by kernel_rfl) H ?_; clear H; intro w24 H)
        refine WA_takeM 0 rfl rfl rfl (by kernel_rfl) (by kernel_rfl) (H.kh (by simp) (by repeat' first | exact kNil | apply kCons | apply kApp | assumption | exact OwnS.keys (by assumption))) (fun _ hC => R_mv) ?_
        refine WA_take 1 rfl rfl rfl (by kernel_rfl) (by kernel_rfl) (H.kh (by simp) (by repeat' first | exact kNil | apply kCons | apply kApp | assumption | exact OwnS.keys (by assumption))) (fun _ hC => R_index_S (u := a) (i := 0) Try.underlying9 rfl rfl (by omega) (by rw [hx]; rfl)) ?_
        refine WA_take 2 rfl rfl rfl (by kernel_rfl) (by kernel_rfl) (H.kh (by simp) (by repeat' first | exact kNil | apply kCons | apply kApp | assumption | exact OwnS.keys (by assumption))) (fun _ hC => R_conv_int Try.underlying5 Try.underlying3 rfl u8_in_i64) ?_
        refine WA_takeM 3 rfl rfl rfl (by kernel_rfl) (by kernel_rfl) (H.kh (by simp) (by repeat' first | exact kNil | apply kCons | apply kApp | assumption | exact OwnS.keys (by assumption))) (fun _ hC => R_mv) ?_
        refine WA_take 4 rfl rfl rfl (by kernel_rfl) (by kernel_rfl) (H.kh (by simp) (by repeat' first | exact kNil | apply kCons | apply kApp | assumption | exact OwnS.keys (by assumption))) (fun _ hC => R_index_S (u := b) (i := 1) Try.underlying9 rfl rfl (by omega) (by rw [hx]; rfl)) ?_
        refine WA_take 5 rfl rfl rfl (by kernel_rfl) (by kernel_rfl) (H.kh (by simp) (by repeat' first | exact kNil | apply kCons | apply kApp | assumption | exact OwnS.keys (by assumption))) (fun _ hC => R_conv_int Try.underlying5 Try.underlying3 rfl u8_in_i64) ?_
        refine WA_takeM 6 rfl rfl rfl (by kernel_rfl) (by kernel_rfl) (H.kh (by simp) (by repeat' first | exact kNil | apply kCons | apply kApp | assumption | exact OwnS.keys (by assumption))) (fun _ hC => R_mv) ?_
        refine WA_take 7 rfl rfl rfl (by kernel_rfl) (by kernel_rfl) (H.kh (by simp) (by repeat' first | exact kNil | apply kCons | apply kApp | assumption | exact OwnS.keys (by assumption))) (fun _ hC => R_index_S (u := c) (i := 2) Try.underlying9 rfl rfl (by omega) (by rw [hx]; rfl)) ?_
        refine WA_take 8 rfl rfl rfl (by kernel_rfl) (by kernel_rfl) (H.kh (by simp) (by repeat' first | exact kNil | apply kCons | apply kApp | assumption | exact OwnS.keys (by assumption))) (fun _ hC => R_conv_int Try.underlying5 Try.underlying3 rfl u8_in_i64) ?_
        refine WA_takeM 9 rfl rfl rfl (by kernel_rfl) (by kernel_rfl) (H.kh (by simp) (by repeat' first | exact kNil | apply kCons | apply kApp | assumption | exact OwnS.keys (by assumption))) (fun _ hC => R_mv) ?_
        refine WA_take 10 rfl rfl rfl (by kernel_rfl) (by kernel_rfl) (H.kh (by simp) (by repeat' first | exact kNil | apply kCons | apply kApp | assumption | exact OwnS.keys (by assumption))) (fun _ hC => R_index_S (u := d) (i := 3) Try.underlying9 rfl rfl (by omega) (by rw [hx]; rfl)) ?_
        refine WA_take 11 rfl rfl rfl (by kernel_rfl) (by kernel_rfl) (H.kh (by simp) (by repeat' first | exact kNil | apply kCons | apply kApp | assumption | exact OwnS.keys (by assumption))) (fun _ hC => R_conv_int Try.underlying5 Try.underlying3 rfl u8_in_i64) ?_
        refine WA_take 12 rfl rfl rfl (by kernel_rfl) (by kernel_rfl) (H.kh (by simp) (by repeat' first | exact kNil | apply kCons | apply kApp | assumption | exact OwnS.keys (by assumption))) (fun _ hC => R_buildL (places := [(0, 1), (1, 1), (2, 1), (3, 1)]) (vs := [(.int _ _), (.int _ _), (.int _ _), (.int _ _)]) Try.underlying23 Try.typeInfo23 rfl rfl (by kernel_rfl) rfl rfl rfl) ?_
        refine WA_one (i := 13) (by kernel_rfl) ?_
        (refine WI_effnA rfl (.inl rfl) (E_alloc (vs := flC zeroF) H Try.zeroValue23 rfl) (fun _ _ _ H => (by first | exact fun h => absurd h (by decide) | exact fun _ => H | exact fun _ => H.none (by repeat' first | exact kNil | apply kCons | apply kApp | assumption | exact OwnS.keys (by assumption)) | exact fun _ => H.dropN (by repeat' first | exact kNil | apply kCons | apply kApp | assumption | exact OwnS.keys (by assumption)) | exact fun _ => H.pop (by assumption) | exact fun _ => (H.pop (by assumption)).pop (by assumption) | exact fun _ => H.kp | exact fun _ => H.kp.tail | exact fun _ => H.kp.tail.tail | exact fun _ => H.kp.tail.tail.tail | exact fun _ => H.kp.sub (by simp) | exact fun _ => Kp.nil | exact fun _ => H.kh (by simp) (by repeat' first | exact kNil | apply kCons | apply kApp | assumption | exact OwnS.keys (by assumption)))) ?_; clear H; intro b4 w39 hb4 H)
        refine WA_one (i := 14) (by kernel_rfl) ?_
        (refine WI_effu rfl (.inl rfl) (E_storeA (vs := [I a.toNat, I b.toNat, I c.toNat, I d.toNat]) H Try.sizeOf23 rfl rfl (by simp [Value.oneCell']) .here (by simp [flC])) (fun _ H => (by first | exact fun h => absurd h (by decide) | exact fun _ => H | exact fun _ => H.none (by repeat' first | exact kNil | apply kCons | apply kApp | assumption | exact OwnS.keys (by assumption)) | exact fun _ => H.dropN (by repeat' first | exact kNil | apply kCons | apply kApp | assumption | exact OwnS.keys (by assumption)) | exact fun _ => H.pop (by assumption) | exact fun _ => (H.pop (by assumption)).pop (by assumption) | exact fun _ => H.kp | exact fun _ => H.kp.tail | exact fun _ => H.kp.tail.tail | exact fun _ => H.kp.tail.tail.tail | exact fun _ => H.kp.sub (by simp) | exact fun _ => Kp.nil | exact fun _ => H.kh (by simp) (by repeat' first | exact kNil | apply kCons | apply kApp | assumption | exact OwnS.keys (by assumption)))) ?_; clear H; intro w41 H; rw [← hab, ← hff] at H; replace H : Hp w [(b4, blk (flC ff) 23), (b2, blk (flC zeroF) 23)] w41 := H)
        refine WA_done (by kernel_rfl) ?_
        refine W_seq ?_
        refine W_seq ?_
        refine W_region_l ?_
        refine WL_step rfl (R_loadA (vs := flC ff) Try.isAgg23 Try.sizeOf23 rfl (H.get .here) rfl (by simp [flC])) ?_
        (refine WL_call rfl (R_call rfl Try.call8 rfl) (refOk_ret ff _) ?_; rintro v w47 ⟨hv, H1⟩; rw [decide_eq_false hok] at hv; subst hv; replace H := H.seq0 H1; clear H1)
        refine WL_step rfl (R_not_f rfl) ?_
        refine WL_stepM rfl (R_mv) ?_
        refine WL_guard_f rfl rfl (by decide) ?_
        refine WL_guard_f rfl rfl (by decide) ?_
        refine WL_guard_f rfl rfl (by decide) ?_
        refine WL_guard_f rfl rfl (by decide) ?_
        refine WL_stepM rfl (R_pk_t rfl) ?_
        refine WL_nil ?_
        refine W_cond_t rfl ?_
        refine W_seq ?_
        refine W_region_l ?_
        refine WL_step rfl (R_buildL (places := [(0, 1), (1, 1), (2, 1), (3, 1)]) (vs := [(.int _ _), (.int _ _), (.int _ _), (.int _ _)]) Try.underlying23 Try.typeInfo23 rfl rfl (by kernel_rfl) rfl rfl rfl) ?_
        (refine WL_effu rfl (E_storeA (vs := [(.int _ _), (.int _ _), (.int _ _), (.int _ _)]) H Try.sizeOf23 rfl rfl (by simp [Value.oneCell']) (.there .here) (Nat.le_of_ble_eq_true rfl)) ?_; clear H; intro w60 H)
        refine WL_stepM rfl (R_as) ?_
        refine WL_nil ?_
        refine W_ret ?_
        exact ⟨_, ⟨_, _, rfl, ldA (vs := flC zeroF) Try.isAgg23 Try.sizeOf23 (H.get (.there .here)) rfl (by simp [flC]), rfl⟩, rfl, H.none (by repeat' first | exact kNil | apply kCons | apply kApp | assumption | exact OwnS.keys (by assumption))⟩
      · have hdec : decP xs = (zeroF, 2) := decP_bad (fun h => hok (by rw [hff]; exact h.2.1)) hf
        rw [hdec]
        refine W_seq ?_
        refine W_region_l ?_
        (refine WL_effn rfl (E_alloc (vs := flC zeroF) H Try.zeroValue23 rfl) ?_; clear H; intro b2 w3 hb2 H)
        refine WL_stepM rfl (R_as) ?_
        refine WL_nil ?_
        refine W_seq ?_
        refine W_seq ?_
        refine W_region_l ?_
        refine WL_stepM rfl (R_mv) ?_
        refine WL_step rfl (R_len_S Try.underlying9 rfl) ?_
        refine WL_step rfl (R_ne_f rfl rfl (by omega)) ?_
        refine WL_nil ?_
        refine W_cond_f rfl ?_
        refine W_skip ?_
        refine W_seq ?_
        refine W_seq ?_
        refine W_region_l ?_
        refine WL_stepM rfl (R_mv) ?_
        (refine WL_call rfl (R_call rfl Try.call22 rfl) (refBlank_ret _ hb) ?_; rintro v w19 ⟨hv, H1⟩; rw [decide_eq_false hz] at hv; subst hv; replace H := H.seq0 H1; clear H1)
        refine WL_nil ?_
        refine W_cond_f rfl ?_
        refine W_skip ?_
        refine W_seq ?_
        (refine W_draw (KH w [(b2, blk (flC zeroF) 23)]) (fun _ => false) (by kernel_rfl) H ?_; clear H; intro w24 H)
        refine WA_takeM 0 rfl rfl rfl (by kernel_rfl) (by kernel_rfl) (H.kh (by simp) (by repeat' first | exact kNil | apply kCons | apply kApp | assumption | exact OwnS.keys (by assumption))) (fun _ hC => R_mv) ?_
        refine WA_take 1 rfl rfl rfl (by kernel_rfl) (by kernel_rfl) (H.kh (by simp) (by repeat' first | exact kNil | apply kCons | apply kApp | assumption | exact OwnS.keys (by assumption))) (fun _ hC => R_index_S (u := a) (i := 0) Try.underlying9 rfl rfl (by omega) (by rw [hx]; rfl)) ?_
        refine WA_take 2 rfl rfl rfl (by kernel_rfl) (by kernel_rfl) (H.kh (by simp) (by repeat' first | exact kNil | apply kCons | apply kApp | assumption | exact OwnS.keys (by assumption))) (fun _ hC => R_conv_int Try.underlying5 Try.underlying3 rfl u8_in_i64) ?_
        refine WA_takeM 3 rfl rfl rfl (by kernel_rfl) (by kernel_rfl) (H.kh (by simp) (by repeat' first | exact kNil | apply kCons | apply kApp | assumption | exact OwnS.keys (by assumption))) (fun _ hC => R_mv) ?_
        refine WA_take 4 rfl rfl rfl (by kernel_rfl) (by kernel_rfl) (H.kh (by simp) (by repeat' first | exact kNil | apply kCons | apply kApp | assumption | exact OwnS.keys (by assumption))) (fun _ hC => R_index_S (u := b) (i := 1) Try.underlying9 rfl rfl (by omega) (by rw [hx]; rfl)) ?_
        refine WA_take 5 rfl rfl rfl (by kernel_rfl) (by kernel_rfl) (H.kh (by simp) (by repeat' first | exact kNil | apply kCons | apply kApp | assumption | exact OwnS.keys (by assumption))) (fun _ hC => R_conv_int Try.underlying5 Try.underlying3 rfl u8_in_i64) ?_
        refine WA_takeM 6 rfl rfl rfl (by kernel_rfl) (by kernel_rfl) (H.kh (by simp) (by repeat' first | exact kNil | apply kCons | apply kApp | assumption | exact OwnS.keys (by assumption))) (fun _ hC => R_mv) ?_
        refine WA_take 7 rfl rfl rfl (by kernel_rfl) (by kernel_rfl) (H.kh (by simp) (by repeat' first | exact kNil | apply kCons | apply kApp | assumption | exact OwnS.keys (by assumption))) (fun _ hC => R_index_S (u := c) (i := 2) Try.underlying9 rfl rfl (by omega) (by rw [hx]; rfl)) ?_
        refine WA_take 8 rfl rfl rfl (by kernel_rfl) (by kernel_rfl) (H.kh (by simp) (by repeat' first | exact kNil | apply kCons | apply kApp | assumption | exact OwnS.keys (by assumption))) (fun _ hC => R_conv_int Try.underlying5 Try.underlying3 rfl u8_in_i64) ?_
        refine WA_takeM 9 rfl rfl rfl (by kernel_rfl) (by kernel_rfl) (H.kh (by simp) (by repeat' first | exact kNil | apply kCons | apply kApp | assumption | exact OwnS.keys (by assumption))) (fun _ hC => R_mv) ?_
        refine WA_take 10 rfl rfl rfl (by kernel_rfl) (by kernel_rfl) (H.kh (by simp) (by repeat' first | exact kNil | apply kCons | apply kApp | assumption | exact OwnS.keys (by assumption))) (fun _ hC => R_index_S (u := d) (i := 3) Try.underlying9 rfl rfl (by omega) (by rw [hx]; rfl)) ?_
        refine WA_take 11 rfl rfl rfl (by kernel_rfl) (by kernel_rfl) (H.kh (by simp) (by repeat' first | exact kNil | apply kCons | apply kApp | assumption | exact OwnS.keys (by assumption))) (fun _ hC => R_conv_int Try.underlying5 Try.underlying3 rfl u8_in_i64) ?_
        refine WA_take 12 rfl rfl rfl (by kernel_rfl) (by kernel_rfl) (H.kh (by simp) (by repeat' first | exact kNil | apply kCons | apply kApp | assumption | exact OwnS.keys (by assumption))) (fun _ hC => R_buildL (places := [(0, 1), (1, 1), (2, 1), (3, 1)]) (vs := [(.int _ _), (.int _ _), (.int _ _), (.int _ _)]) Try.underlying23 Try.typeInfo23 rfl rfl (by kernel_rfl) rfl rfl rfl) ?_
        refine WA_one (i := 13) (by kernel_rfl) ?_
        (refine WI_effnA rfl (.inl rfl) (E_alloc (vs := flC zeroF) H Try.zeroValue23 rfl) (fun _ _ _ H => (by first | exact fun h => absurd h (by decide) | exact fun _ => H | exact fun _ => H.none (by repeat' first | exact kNil | apply kCons | apply kApp | assumption | exact OwnS.keys (by assumption)) | exact fun _ => H.dropN (by repeat' first | exact kNil | apply kCons | apply kApp | assumption | exact OwnS.keys (by assumption)) | exact fun _ => H.pop (by assumption) | exact fun _ => (H.pop (by assumption)).pop (by assumption) | exact fun _ => H.kp | exact fun _ => H.kp.tail | exact fun _ => H.kp.tail.tail | exact fun _ => H.kp.tail.tail.tail | exact fun _ => H.kp.sub (by simp) | exact fun _ => Kp.nil | exact fun _ => H.kh (by simp) (by repeat' first | exact kNil | apply kCons | apply kApp | assumption | exact OwnS.keys (by assumption)))) ?_; clear H; intro b4 w39 hb4 H)
        refine WA_one (i := 14) (by kernel_rfl) ?_
        (refine WI_effu rfl (.inl rfl) (E_storeA (vs := [I a.toNat, I b.toNat, I c.toNat, I d.toNat]) H Try.sizeOf23 rfl rfl (by simp [Value.oneCell']) .here (by simp [flC])) (fun _ H => (by first | exact fun h => absurd h (by decide) | exact fun _ => H | exact fun _ => H.none (by repeat' first | exact kNil | apply kCons | apply kApp | assumption | exact OwnS.keys (by assumption)) | exact fun _ => H.dropN (by repeat' first | exact kNil | apply kCons | apply kApp | assumption | exact OwnS.keys (by assumption)) | exact fun _ => H.pop (by assumption) | exact fun _ => (H.pop (by assumption)).pop (by assumption) | exact fun _ => H.kp | exact fun _ => H.kp.tail | exact fun _ => H.kp.tail.tail | exact fun _ => H.kp.tail.tail.tail | exact fun _ => H.kp.sub (by simp) | exact fun _ => Kp.nil | exact fun _ => H.kh (by simp) (by repeat' first | exact kNil | apply kCons | apply kApp | assumption | exact OwnS.keys (by assumption)))) ?_; clear H; intro w41 H; rw [← hab, ← hff] at H; replace H : Hp w [(b4, blk (flC ff) 23), (b2, blk (flC zeroF) 23)] w41 := H)
        refine WA_done (by kernel_rfl) ?_
        refine W_seq ?_
        refine W_seq ?_
        refine W_region_l ?_
        refine WL_step rfl (R_loadA (vs := flC ff) Try.isAgg23 Try.sizeOf23 rfl (H.get .here) rfl (by simp [flC])) ?_
        (refine WL_call rfl (R_call rfl Try.call8 rfl) (refOk_ret ff _) ?_; rintro v w47 ⟨hv, H1⟩; rw [decide_eq_false hok] at hv; subst hv; replace H := H.seq0 H1; clear H1)
        refine WL_step rfl (R_not_f rfl) ?_
        refine WL_stepM rfl (R_mv) ?_
        refine WL_guard_f rfl rfl (by decide) ?_
        refine WL_guard_f rfl rfl (by decide) ?_
        refine WL_guard_f rfl rfl (by decide) ?_
        refine WL_guard_f rfl rfl (by decide) ?_
        refine WL_stepM rfl (R_pk_t rfl) ?_
        refine WL_nil ?_
        refine W_cond_t rfl ?_
        refine W_seq ?_
        refine W_region_l ?_
        refine WL_step rfl (R_buildL (places := [(0, 1), (1, 1), (2, 1), (3, 1)]) (vs := [(.int _ _), (.int _ _), (.int _ _), (.int _ _)]) Try.underlying23 Try.typeInfo23 rfl rfl (by kernel_rfl) rfl rfl rfl) ?_
        (refine WL_effu rfl (E_storeA (vs := [(.int _ _), (.int _ _), (.int _ _), (.int _ _)]) H Try.sizeOf23 rfl rfl (by simp [Value.oneCell']) (.there .here) (Nat.le_of_ble_eq_true rfl)) ?_; clear H; intro w60 H)
        refine WL_stepM rfl (R_as) ?_
        refine WL_nil ?_
        refine W_ret ?_
        exact ⟨_, ⟨_, _, rfl, ldA (vs := flC zeroF) Try.isAgg23 Try.sizeOf23 (H.get (.there .here)) rfl (by simp [flC]), rfl⟩, rfl, H.none (by repeat' first | exact kNil | apply kCons | apply kApp | assumption | exact OwnS.keys (by assumption))⟩
    · rw [decP_bad (fun h => h8 h.1) hf]
      refine W_seq ?_
      refine W_region_l ?_
      (refine WL_effn rfl (E_alloc (vs := flC zeroF) H Try.zeroValue23 rfl) ?_; clear H; intro b2 w3 hb2 H)
      refine WL_stepM rfl (R_as) ?_
      refine WL_nil ?_
      refine W_seq ?_
      refine W_seq ?_
      refine W_region_l ?_
      refine WL_stepM rfl (R_mv) ?_
      refine WL_step rfl (R_len_S Try.underlying9 rfl) ?_
      refine WL_step rfl (R_ne_t rfl rfl (by omega)) ?_
      refine WL_nil ?_
      refine W_cond_t rfl ?_
      refine W_seq ?_
      refine W_region_l ?_
      refine WL_step rfl (R_buildL (places := [(0, 1), (1, 1), (2, 1), (3, 1)]) (vs := [(.int _ _), (.int _ _), (.int _ _), (.int _ _)]) Try.underlying23 Try.typeInfo23 rfl rfl (by kernel_rfl) rfl rfl rfl) ?_
      (refine WL_effu rfl (E_storeA (vs := [(.int _ _), (.int _ _), (.int _ _), (.int _ _)]) H Try.sizeOf23 rfl rfl (by simp [Value.oneCell']) .here (Nat.le_of_ble_eq_true rfl)) ?_; clear H; intro w17 H)
      refine WL_stepM rfl (R_as) ?_
      refine WL_nil ?_
      refine W_ret ?_
      exact ⟨_, ⟨_, _, rfl, ldA (vs := flC zeroF) Try.isAgg23 Try.sizeOf23 (H.get .here) rfl (by simp [flC]), rfl⟩, rfl, H.none (by repeat' first | exact kNil | apply kCons | apply kApp | assumption | exact OwnS.keys (by assumption))⟩

/-- a file made of a number -/
def fileN (a : Int) : Fl := ⟨a % 16777216 % 3 + 1, if a % 16777216 % 3 = 2 then 0 else a % 16777216 / 16 % 8, a % 16777216 / 256 % 64 + 1, a % 16777216 / 32768 % 2⟩
theorem fileN_ok (a : Int) : fileOk (fileN a) := by
  unfold fileN fileOk
  simp only
  split <;> omega

theorem file_ret (a : Int) (w : World) : Ret Try.prog 12 #[I a] w fun v w' => v = vF (fileN a) ∧ Hp w [] w' := by
  refine Ret_of_WC (args := [_]) Try.func12 rfl Try.ntmps12 Try.results12 (by simp) ?_
  have H := Hp.refl w
  obtain ⟨y, hy, hy0, hy1⟩ : ∃ y, a % 16777216 = y ∧ 0 ≤ y ∧ y < 16777216 := ⟨_, rfl, by omega, by omega⟩
  have hfn : fileN a = ⟨y % 3 + 1, if y % 3 = 2 then 0 else y / 16 % 8, y / 256 % 64 + 1, y / 32768 % 2⟩ := by unfold fileN; rw [hy]
  rw [hfn]
  by_cases h2 : y % 3 = 2
  · rw [if_pos h2]
    refine W_seq ?_
    refine W_region_l ?_
    (refine WL_effn rfl (E_alloc (vs := flC zeroF) H Try.zeroValue23 rfl) ?_; clear H; intro b2 w3 hb2 H)
    refine WL_nil ?_
    refine W_seq ?_
    refine W_region_l ?_
    refine WL_stepM rfl (R_mv) ?_
    refine WL_step rfl (R_bits rfl rfl (by simp) ((and_mask_i64 24 16777216 (by decide) rfl (by decide)).trans hy)) ?_
    refine WL_stepM rfl (R_as) ?_
    refine WL_nil ?_
    refine W_seq ?_
    refine W_region_l ?_
    refine WL_stepM rfl (R_mv) ?_
    refine WL_step rfl (R_rem rfl rfl (by omega) (rem_pos (by omega))) ?_
    refine WL_step rfl (R_add rfl rfl (w_i64 (by omega))) ?_
    refine WL_stepM rfl (R_mv) ?_
    refine WL_step rfl (R_shr rfl rfl (by decide) (shr_any 16 (by decide))) ?_
    refine WL_step rfl (R_bits rfl rfl (by simp) (and_mask_i64 3 8 (by decide) rfl (by decide))) ?_
    refine WL_stepM rfl (R_mv) ?_
    refine WL_step rfl (R_shr rfl rfl (by decide) (shr_any 256 (by decide))) ?_
    refine WL_step rfl (R_bits rfl rfl (by simp) (and_mask_i64 6 64 (by decide) rfl (by decide))) ?_
    refine WL_step rfl (R_add rfl rfl (w_i64 (by omega))) ?_
    refine WL_stepM rfl (R_mv) ?_
    refine WL_step rfl (R_shr rfl rfl (by decide) (shr_any 32768 (by decide))) ?_
    refine WL_step rfl (R_bits rfl rfl (by simp) (and_mask_i64 1 2 (by decide) rfl (by decide))) ?_
    refine WL_step rfl (R_buildL (places := [(0, 1), (1, 1), (2, 1), (3, 1)]) (vs := [(.int _ _), (.int _ _), (.int _ _), (.int _ _)]) Try.underlying23 Try.typeInfo23 rfl rfl (by kernel_rfl) rfl rfl rfl) ?_
    (refine WL_effn rfl (E_alloc H Try.zeroValue23 rfl) ?_; clear H; intro b27 w27 hb27 H)
    (refine WL_effu rfl (E_storeA (vs := [(.int _ _), (.int _ _), (.int _ _), (.int _ _)]) H Try.sizeOf23 rfl rfl (by simp [Value.oneCell']) .here (by simp)) ?_; clear H; intro w28 H)
    refine WL_nil ?_
    refine W_seq ?_
    refine W_seq ?_
    refine W_region_l ?_
    refine WL_step rfl (R_fieldAddr (off' := 0) Try.underlying23 rfl Try.sizeOf3 (by decide) rfl rfl) ?_
    refine WL_step rfl (R_load Try.isAgg3 rfl (H.get .here) rfl) ?_
    refine WL_step rfl (R_eq_t rfl rfl (by omega)) ?_
    refine WL_nil ?_
    refine W_cond_t rfl ?_
    refine W_region_l ?_
    refine WL_step rfl (R_fieldAddr (off' := 1) Try.underlying23 rfl Try.sizeOf3 (by decide) rfl rfl) ?_
    (refine WL_effu rfl (E_store (v := (.int _ _)) H Try.sizeOf3 rfl rfl rfl .here (by simp)) ?_; clear H; intro w40 H)
    refine WL_nil ?_
    refine W_seq ?_
    refine W_region_l ?_
    refine WL_step rfl (R_loadA Try.isAgg23 Try.sizeOf23 rfl (H.get .here) rfl (by simp)) ?_
    (refine WL_effu rfl (E_storeA (vs := [(.int _ _), (.int _ _), (.int _ _), (.int _ _)]) H Try.sizeOf23 rfl rfl (by simp [Value.oneCell']) (.there .here) (Nat.le_of_ble_eq_true rfl)) ?_; clear H; intro w45 H)
    refine WL_nil ?_
    refine W_ret ?_
    exact ⟨_, ⟨_, rfl, ldA (vs := flC ⟨y % 3 + 1, 0, y / 256 % 64 + 1, y / 32768 % 2⟩) Try.isAgg23 Try.sizeOf23 (H.get (.there .here)) rfl (by simp [flC])⟩, rfl, H.none (by repeat' first | exact kNil | apply kCons | apply kApp | assumption | exact OwnS.keys (by assumption))⟩
  · rw [if_neg h2]
    refine W_seq ?_
    refine W_region_l ?_
    (refine WL_effn rfl (E_alloc (vs := flC zeroF) H Try.zeroValue23 rfl) ?_; clear H; intro b2 w3 hb2 H)
    refine WL_nil ?_
    refine W_seq ?_
    refine W_region_l ?_
    refine WL_stepM rfl (R_mv) ?_
    refine WL_step rfl (R_bits rfl rfl (by simp) ((and_mask_i64 24 16777216 (by decide) rfl (by decide)).trans hy)) ?_
    refine WL_stepM rfl (R_as) ?_
    refine WL_nil ?_
    refine W_seq ?_
    refine W_region_l ?_
    refine WL_stepM rfl (R_mv) ?_
    refine WL_step rfl (R_rem rfl rfl (by omega) (rem_pos (by omega))) ?_
    refine WL_step rfl (R_add rfl rfl (w_i64 (by omega))) ?_
    refine WL_stepM rfl (R_mv) ?_
    refine WL_step rfl (R_shr rfl rfl (by decide) (shr_any 16 (by decide))) ?_
    refine WL_step rfl (R_bits rfl rfl (by simp) (and_mask_i64 3 8 (by decide) rfl (by decide))) ?_
    refine WL_stepM rfl (R_mv) ?_
    refine WL_step rfl (R_shr rfl rfl (by decide) (shr_any 256 (by decide))) ?_
    refine WL_step rfl (R_bits rfl rfl (by simp) (and_mask_i64 6 64 (by decide) rfl (by decide))) ?_
    refine WL_step rfl (R_add rfl rfl (w_i64 (by omega))) ?_
    refine WL_stepM rfl (R_mv) ?_
    refine WL_step rfl (R_shr rfl rfl (by decide) (shr_any 32768 (by decide))) ?_
    refine WL_step rfl (R_bits rfl rfl (by simp) (and_mask_i64 1 2 (by decide) rfl (by decide))) ?_
    refine WL_step rfl (R_buildL (places := [(0, 1), (1, 1), (2, 1), (3, 1)]) (vs := [(.int _ _), (.int _ _), (.int _ _), (.int _ _)]) Try.underlying23 Try.typeInfo23 rfl rfl (by kernel_rfl) rfl rfl rfl) ?_
    (refine WL_effn rfl (E_alloc H Try.zeroValue23 rfl) ?_; clear H; intro b27 w27 hb27 H)
    (refine WL_effu rfl (E_storeA (vs := [(.int _ _), (.int _ _), (.int _ _), (.int _ _)]) H Try.sizeOf23 rfl rfl (by simp [Value.oneCell']) .here (by simp)) ?_; clear H; intro w28 H)
    refine WL_nil ?_
    refine W_seq ?_
    refine W_seq ?_
    refine W_region_l ?_
    refine WL_step rfl (R_fieldAddr (off' := 0) Try.underlying23 rfl Try.sizeOf3 (by decide) rfl rfl) ?_
    refine WL_step rfl (R_load Try.isAgg3 rfl (H.get .here) rfl) ?_
    refine WL_step rfl (R_eq_f rfl rfl (by omega)) ?_
    refine WL_nil ?_
    refine W_cond_f rfl ?_
    refine W_skip ?_
    refine W_seq ?_
    refine W_region_l ?_
    refine WL_step rfl (R_loadA Try.isAgg23 Try.sizeOf23 rfl (H.get .here) rfl (by simp)) ?_
    (refine WL_effu rfl (E_storeA (vs := [(.int _ _), (.int _ _), (.int _ _), (.int _ _)]) H Try.sizeOf23 rfl rfl (by simp [Value.oneCell']) (.there .here) (Nat.le_of_ble_eq_true rfl)) ?_; clear H; intro w42 H)
    refine WL_nil ?_
    refine W_ret ?_
    exact ⟨_, ⟨_, rfl, ldA (vs := flC ⟨y % 3 + 1, y / 16 % 8, y / 256 % 64 + 1, y / 32768 % 2⟩) Try.isAgg23 Try.sizeOf23 (H.get (.there .here)) rfl (by simp [flC])⟩, rfl, H.none (by repeat' first | exact kNil | apply kCons | apply kApp | assumption | exact OwnS.keys (by assumption))⟩
end Go.Proofs.Ytneeoicjipglkaa.File
