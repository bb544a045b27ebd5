/-
  What bytes are, as the document has it; pipes made of numbers; equality of pipes.
-/
import Derived.Test.YthonajikgljgmaaGreatRingD
namespace Go.Proofs.YthonajikgljgmaaGreat.Ring
open Go Go.Proofs Go.Proofs.YthonajikgljgmaaGreat.Fx Go.Proofs.YthonajikgljgmaaGreat.Codec
set_option maxRecDepth 100000
set_option linter.unusedVariables false
set_option linter.unusedSimpArgs false
set_option maxHeartbeats 2000000

def setD (p : Pi) (i : Nat) (x : UInt8) : Pi := { p with d := p.d.set i x, hd := by rw [List.length_set]; exact p.hd }
theorem set_pi (p : Pi) (i : Nat) (x : UInt8) : (piC p).set (4 + i) (U x) = piC (setD p i x) := by
  unfold piC setD
  rw [List.set_append_right _ _ (by simp)]
  simp only [List.length_cons, List.length_nil, Nat.zero_add]
  rw [show 4 + i - 4 = i from by omega, List.map_set]
theorem data32_step {l : List UInt8} {i : Nat} (hi : i < 32) (hl : i < l.length) : (data32 (l.take i)).set i l[i] = data32 (l.take (i + 1)) := by
  unfold data32
  apply List.ext_getElem?
  intro j
  simp only [List.getElem?_set, List.getElem?_take, List.getElem?_append, List.length_take, List.length_append, List.length_replicate, List.getElem?_replicate]
  rw [Nat.min_eq_left (show i ≤ l.length by omega), Nat.min_eq_left (show i + 1 ≤ l.length by omega), Nat.min_eq_left (show 32 ≤ i + 32 by omega)]
  by_cases h1 : j < i
  · rw [if_neg (by omega), if_pos (by omega), if_pos h1, if_pos h1, if_pos (by omega), if_pos (by omega), if_pos (by omega)]
  · by_cases h2 : j = i
    · subst h2
      rw [if_pos rfl, if_pos (by omega), if_pos (by omega), if_pos (by omega), if_pos (by omega), List.getElem?_eq_getElem hl]
    · rw [if_neg (by omega), if_neg h1, if_neg (show ¬ j < i + 1 by omega)]
      by_cases h3 : j < 32
      · rw [if_pos h3, if_pos h3, if_pos (by omega), if_pos (by omega)]
      · rw [if_neg h3, if_neg h3]
/-- the pipe of bytes, so many of its data in -/
def ofI (xs : List UInt8) (i : Nat) : Pi := { ofB xs with d := data32 ((xs.drop 8).take i), hd := data32_len _ }
theorem ofI_all {xs : List UInt8} (h : xs.length = 40) : ofI xs 32 = ofB xs := by
  refine pi_ext rfl rfl rfl rfl ?_
  show data32 ((xs.drop 8).take 32) = data32 (xs.drop 8)
  rw [List.take_of_length_le (by simp; omega)]
theorem ofI_step {xs : List UInt8} {i : Nat} (h : xs.length = 40) (hi : i < 32) {x : UInt8} (hx : xs[8 + i]? = some x) : setD (ofI xs i) i x = ofI xs (i + 1) := by
  refine pi_ext rfl rfl rfl rfl ?_
  have hl : i < (xs.drop 8).length := by simp; omega
  have := data32_step (l := xs.drop 8) hi hl
  rw [show (xs.drop 8)[i] = x by rw [List.getElem_drop]; exact (List.getElem?_eq_some_iff.1 hx).2] at this
  exact this

theorem refOf_ret {xs : List UInt8} {w : World} (hb : xs.length ≤ 100000) :
    Ret Tryz.prog 29 #[S xs] w fun v w' => v = .tuple #[vP (decP xs).1, I (decP xs).2] ∧ Hp w [] w' := by
  refine Ret_of_WC (args := [_]) Tryz.func29 rfl Tryz.ntmps29 Tryz.results29 (by simp) ?_
  have H := Hp.refl w
  by_cases h8 : xs.length = 40
  · by_cases hz : ∀ x ∈ xs, x = 0
    · rw [decP_free h8 hz]
      refine W_seq ?_
      refine W_region_l ?_
      (refine WL_effn rfl (E_allocP H) ?_; clear H; intro b2 w3 hb2 H)
      refine WL_stepM rfl (R_as) ?_
      refine WL_nil ?_
      refine W_seq ?_
      refine W_seq ?_
      refine W_region_l ?_
      refine WL_stepM rfl (R_mv) ?_
      refine WL_step rfl (R_len_S Tryz.underlying9 rfl) ?_
      refine WL_step rfl (R_ne_f rfl rfl (by omega)) ?_
      refine WL_nil ?_
      refine W_cond_f rfl ?_
      refine W_skip ?_
      refine W_seq ?_
      refine W_seq ?_
      refine W_region_l ?_
      refine WL_stepM rfl (R_mv) ?_
      (refine WL_call rfl (R_call rfl Tryz.call60 rfl) (refBlank_ret _ hb) ?_; rintro v w19 ⟨hv, H1⟩; rw [decide_eq_true hz] at hv; subst hv; replace H := H.seq0 H1; clear H1)
      refine WL_nil ?_
      refine W_cond_t rfl ?_
      refine W_seq ?_
      refine W_region_l ?_
      refine WL_step rfl R_zeroP ?_
      (refine WL_effu rfl (E_storeP (q := zeroP) H rfl rfl .here) ?_; clear H; intro w25 H)
      refine WL_stepM rfl (R_as) ?_
      refine WL_nil ?_
      refine W_ret ?_
      exact ⟨_, ⟨_, _, rfl, ldP (p := zeroP) (H.get .here), rfl⟩, rfl, H.none (by repeat' first | exact kNil | apply kCons | apply kApp | assumption | exact OwnS.keys (by assumption))⟩
    · have hf : ¬ (xs.length = 40 ∧ ∀ x ∈ xs, x = 0) := fun h => hz h.2
      obtain ⟨a, ha⟩ : ∃ a, xs[1]? = some a := ⟨_, List.getElem?_eq_getElem (by omega)⟩
      obtain ⟨b, hbb⟩ : ∃ a, xs[2]? = some a := ⟨_, List.getElem?_eq_getElem (by omega)⟩
      obtain ⟨c, hc⟩ : ∃ a, xs[3]? = some a := ⟨_, List.getElem?_eq_getElem (by omega)⟩
      obtain ⟨d, hd⟩ : ∃ a, xs[4]? = some a := ⟨_, List.getElem?_eq_getElem (by omega)⟩
      have ha8 := a.toNat_lt
      have hb8 := b.toNat_lt
      have hc8 := c.toNat_lt
      have hd8 := d.toNat_lt
      have hp0v : piC (ofI xs 0) = [I a.toNat, I b.toNat, I c.toNat, I d.toNat] ++ (List.replicate 32 0).map U := by
        unfold piC ofI ofB
        simp only [ha, hbb, hc, hd, Option.getD_some, List.take_zero]
        rfl
      obtain ⟨ff, hff⟩ : ∃ ff : Pi, ff = ofB xs := ⟨_, rfl⟩
      by_cases hok : okP ff <;> by_cases hby : bytesP ff = xs
      · have hdec : decP xs = (ff, 1) := by rw [hff]; exact decP_good ⟨h8, by rw [← hff]; exact hok, by rw [← hff]; exact hby⟩
        rw [hdec]
        refine W_seq ?_
        refine W_region_l ?_
        (refine WL_effn rfl (E_allocP H) ?_; clear H; intro b2 w3 hb2 H)
        refine WL_stepM rfl (R_as) ?_
        refine WL_nil ?_
        refine W_seq ?_
        refine W_seq ?_
        refine W_region_l ?_
        refine WL_stepM rfl (R_mv) ?_
        refine WL_step rfl (R_len_S Tryz.underlying9 rfl) ?_
        refine WL_step rfl (R_ne_f rfl rfl (by omega)) ?_
        refine WL_nil ?_
        refine W_cond_f rfl ?_
        refine W_skip ?_
        refine W_seq ?_
        refine W_seq ?_
        refine W_region_l ?_
        refine WL_stepM rfl (R_mv) ?_
        (refine WL_call rfl (R_call rfl Tryz.call60 rfl) (refBlank_ret _ hb) ?_; rintro v w19 ⟨hv, H1⟩; rw [decide_eq_false hz] at hv; subst hv; replace H := H.seq0 H1; clear H1)
        refine WL_nil ?_
        refine W_cond_f rfl ?_
        refine W_skip ?_
        refine W_seq ?_
        (refine W_draw (KH w [(b2, blk (piC zeroP) 43)]) (fun _ => false) (by kernel_rfl) H ?_; clear H; intro w24 H)
        refine WA_takeM 0 rfl rfl rfl (by kernel_rfl) (by kernel_rfl) (H.kh (by simp) (by repeat' first | exact kNil | apply kCons | apply kApp | assumption | exact OwnS.keys (by assumption))) (fun _ hC => R_mv) ?_
        refine WA_take 1 rfl rfl rfl (by kernel_rfl) (by kernel_rfl) (H.kh (by simp) (by repeat' first | exact kNil | apply kCons | apply kApp | assumption | exact OwnS.keys (by assumption))) (fun _ hC => R_index_S (u := a) (i := 1) Tryz.underlying9 rfl rfl (by omega) ha) ?_
        refine WA_take 2 rfl rfl rfl (by kernel_rfl) (by kernel_rfl) (H.kh (by simp) (by repeat' first | exact kNil | apply kCons | apply kApp | assumption | exact OwnS.keys (by assumption))) (fun _ hC => R_conv_int Tryz.underlying5 Tryz.underlying3 rfl u8_in_i64) ?_
        refine WA_takeM 3 rfl rfl rfl (by kernel_rfl) (by kernel_rfl) (H.kh (by simp) (by repeat' first | exact kNil | apply kCons | apply kApp | assumption | exact OwnS.keys (by assumption))) (fun _ hC => R_mv) ?_
        refine WA_take 4 rfl rfl rfl (by kernel_rfl) (by kernel_rfl) (H.kh (by simp) (by repeat' first | exact kNil | apply kCons | apply kApp | assumption | exact OwnS.keys (by assumption))) (fun _ hC => R_index_S (u := b) (i := 2) Tryz.underlying9 rfl rfl (by omega) hbb) ?_
        refine WA_take 5 rfl rfl rfl (by kernel_rfl) (by kernel_rfl) (H.kh (by simp) (by repeat' first | exact kNil | apply kCons | apply kApp | assumption | exact OwnS.keys (by assumption))) (fun _ hC => R_conv_int Tryz.underlying5 Tryz.underlying3 rfl u8_in_i64) ?_
        refine WA_takeM 6 rfl rfl rfl (by kernel_rfl) (by kernel_rfl) (H.kh (by simp) (by repeat' first | exact kNil | apply kCons | apply kApp | assumption | exact OwnS.keys (by assumption))) (fun _ hC => R_mv) ?_
        refine WA_take 7 rfl rfl rfl (by kernel_rfl) (by kernel_rfl) (H.kh (by simp) (by repeat' first | exact kNil | apply kCons | apply kApp | assumption | exact OwnS.keys (by assumption))) (fun _ hC => R_index_S (u := c) (i := 3) Tryz.underlying9 rfl rfl (by omega) hc) ?_
        refine WA_take 8 rfl rfl rfl (by kernel_rfl) (by kernel_rfl) (H.kh (by simp) (by repeat' first | exact kNil | apply kCons | apply kApp | assumption | exact OwnS.keys (by assumption))) (fun _ hC => R_conv_int Tryz.underlying5 Tryz.underlying3 rfl u8_in_i64) ?_
        refine WA_takeM 9 rfl rfl rfl (by kernel_rfl) (by kernel_rfl) (H.kh (by simp) (by repeat' first | exact kNil | apply kCons | apply kApp | assumption | exact OwnS.keys (by assumption))) (fun _ hC => R_mv) ?_
        refine WA_take 10 rfl rfl rfl (by kernel_rfl) (by kernel_rfl) (H.kh (by simp) (by repeat' first | exact kNil | apply kCons | apply kApp | assumption | exact OwnS.keys (by assumption))) (fun _ hC => R_index_S (u := d) (i := 4) Tryz.underlying9 rfl rfl (by omega) hd) ?_
        refine WA_take 11 rfl rfl rfl (by kernel_rfl) (by kernel_rfl) (H.kh (by simp) (by repeat' first | exact kNil | apply kCons | apply kApp | assumption | exact OwnS.keys (by assumption))) (fun _ hC => R_conv_int Tryz.underlying5 Tryz.underlying3 rfl u8_in_i64) ?_
        refine WA_take 12 rfl rfl rfl (by kernel_rfl) (by kernel_rfl) (H.kh (by simp) (by repeat' first | exact kNil | apply kCons | apply kApp | assumption | exact OwnS.keys (by assumption))) (fun _ hC => R_buildL (places := [(0, 1), (1, 1), (2, 1), (3, 1), (4, 32)]) (vs := [I a.toNat, I b.toNat, I c.toNat, I d.toNat] ++ (List.replicate 32 0).map U) Tryz.underlying43 Tryz.typeInfo43 rfl rfl (by kernel_rfl) rfl rfl rfl) ?_
        refine WA_one (i := 13) (by kernel_rfl) ?_
        (refine WI_effnA rfl (.inl rfl) (E_allocP H) (fun _ _ _ H => (by first | exact fun h => absurd h (by decide) | exact fun _ => H | exact fun _ => H.none (by repeat' first | exact kNil | apply kCons | apply kApp | assumption | exact OwnS.keys (by assumption)) | exact fun _ => H.dropN (by repeat' first | exact kNil | apply kCons | apply kApp | assumption | exact OwnS.keys (by assumption)) | exact fun _ => H.pop (by assumption) | exact fun _ => (H.pop (by assumption)).pop (by assumption) | exact fun _ => H.kp | exact fun _ => H.kp.tail | exact fun _ => H.kp.tail.tail | exact fun _ => H.kp.tail.tail.tail | exact fun _ => H.kp.sub (by simp) | exact fun _ => Kp.nil | exact fun _ => H.kh (by simp) (by repeat' first | exact kNil | apply kCons | apply kApp | assumption | exact OwnS.keys (by assumption)))) ?_; clear H; intro b4 w39 hb4 H)
        refine WA_one (i := 14) (by kernel_rfl) ?_
        (refine WI_effu rfl (.inl rfl) (E_storeP (q := ofI xs 0) H rfl (congrArg (fun l => Value.agg (List.toArray l)) hp0v.symm) .here) (fun _ H => (by first | exact fun h => absurd h (by decide) | exact fun _ => H | exact fun _ => H.none (by repeat' first | exact kNil | apply kCons | apply kApp | assumption | exact OwnS.keys (by assumption)) | exact fun _ => H.dropN (by repeat' first | exact kNil | apply kCons | apply kApp | assumption | exact OwnS.keys (by assumption)) | exact fun _ => H.pop (by assumption) | exact fun _ => (H.pop (by assumption)).pop (by assumption) | exact fun _ => H.kp | exact fun _ => H.kp.tail | exact fun _ => H.kp.tail.tail | exact fun _ => H.kp.tail.tail.tail | exact fun _ => H.kp.sub (by simp) | exact fun _ => Kp.nil | exact fun _ => H.kh (by simp) (by repeat' first | exact kNil | apply kCons | apply kApp | assumption | exact OwnS.keys (by assumption)))) ?_; clear H; intro w41 H)
        refine WA_done (by kernel_rfl) ?_
        refine W_seq ?_
        refine W_seq ?_
        refine W_region_l ?_
        refine WL_stepM rfl (R_as) ?_
        refine WL_nil ?_
        refine W_block ?_
        refine W_loopS [(5, 5), (26, 36)] (fun (i : Nat) E w' => i ≤ 32 ∧ E 5 = I i ∧ Hp w [(b4, blk (piC (ofI xs i)) 43), (b2, blk (piC zeroP) 43)] w') (fun i => 32 - i) 0 ?e0 ?r0
        · exact ⟨by omega, rfl, H⟩
        · (clear H; rintro i E w1 ⟨hi, h5, H⟩; refine W_kn h5 ?_; by_cases hlt : i < 32)
          · refine W_seq ?_
            refine W_seq ?_
            refine W_region_l ?_
            refine WL_stepM rfl (R_mv) ?_
            refine WL_step rfl (R_lt_t rfl rfl (by omega)) ?_
            refine WL_nil ?_
            refine W_cond_t rfl ?_
            refine W_skip ?_
            refine W_seq ?_
            refine W_block ?_
            refine W_region_l ?_
            refine WL_stepM rfl (R_mv) ?_
            refine WL_stepM rfl (R_mv) ?_
            refine WL_stepM rfl (R_mv) ?_
            refine WL_step rfl (R_add (r := ((8 + i : Nat) : Int)) rfl rfl (by rw [w_i64 (by omega)]; omega)) ?_
            (obtain ⟨x, hx⟩ : ∃ x, xs[8 + i]? = some x := ⟨_, List.getElem?_eq_getElem (by omega)⟩; refine WL_step rfl (R_index_S (u := x) (i := ((8 + i : Nat) : Int)) Tryz.underlying9 rfl rfl (by omega) (by rw [Int.toNat_natCast]; exact hx)) ?_)
            refine WL_step rfl (R_fieldAddr (off' := 4) Tryz.underlying43 rfl Tryz.sizeOf41 (by decide) rfl rfl) ?_
            refine WL_step rfl (R_indexAddrA (off' := 4 + i) Tryz.underlying41 Tryz.sizeOf5 rfl rfl (by omega) (by omega) (by omega)) ?_
            (refine WL_effu rfl (E_store (v := U x) H Tryz.sizeOf5 rfl rfl rfl .here (by rw [piC_len]; omega)) ?_; clear H; intro w69 H; rw [set_pi, ofI_step h8 hlt hx] at H)
            refine WL_nil ?_
            refine W_region_l ?_
            refine WL_stepM rfl (R_mv) ?_
            refine WL_step rfl (R_add rfl rfl (w_i64 (by omega))) ?_
            refine WL_stepM rfl (R_as) ?_
            refine WL_nil ?_
            exact ⟨(same_mov rfl (same_updo rfl (same_mov rfl (same_updn (same_updo rfl (same_updo rfl (same_updo rfl (same_updo rfl (same_mov rfl (same_mov rfl (same_mov rfl (same_updo rfl (same_mov rfl same_ovr))))))))))))), i + 1, by omega, by omega, rfl, H⟩
          · refine W_seq ?_
            refine W_seq ?_
            refine W_region_l ?_
            refine WL_stepM rfl (R_mv) ?_
            refine WL_step rfl (R_lt_f rfl rfl (by omega)) ?_
            refine WL_nil ?_
            refine W_cond_f rfl ?_
            refine W_exit ?_
            refine (if_pos rfl).mpr ?_
            refine W_seq ?_
            refine W_seq ?_
            ((obtain rfl : i = 32 := (by omega); rw [ofI_all h8, ← hff] at H)) <;> refine W_region_l ?_
            refine WL_step rfl (R_loadP rfl (H.get .here)) ?_
            (refine WL_call rfl (R_call rfl Tryz.call63 rfl) (refOk_ret ff _) ?_; rintro v w90 ⟨hv, H1⟩; rw [decide_eq_true hok] at hv; subst hv; replace H := H.seq0 H1; clear H1)
            refine WL_step rfl (R_not_t rfl) ?_
            refine WL_stepM rfl (R_mv) ?_
            refine WL_guard_t rfl rfl ?_
            refine WL_step rfl (R_loadP rfl (H.get .here)) ?_
            refine WL_guard_t rfl rfl ?_
            (refine WL_call rfl (R_call rfl Tryz.call18 rfl) (refBytes_ret ff hok _) ?_; rintro _ w96 ⟨rfl, H1⟩; replace H := H.seq0 H1; clear H1)
            refine WL_guard_t rfl rfl ?_
            refine WL_stepM rfl (R_mv) ?_
            refine WL_guard_t rfl rfl ?_
            refine WL_step rfl (R_ne_S_f rfl rfl (by assumption)) ?_
            refine WL_stepM rfl (R_pk_f rfl) ?_
            refine WL_nil ?_
            refine W_cond_f rfl ?_
            refine W_skip ?_
            refine W_seq ?_
            refine W_region_l ?_
            refine WL_step rfl (R_loadP rfl (H.get .here)) ?_
            (refine WL_effu rfl (E_storeP (q := ff) H rfl rfl (.there .here)) ?_; clear H; intro w108 H)
            refine WL_stepM rfl (R_as) ?_
            refine WL_nil ?_
            refine W_ret ?_
            exact ⟨_, ⟨_, _, rfl, ldP (p := ff) (H.get (.there .here)), rfl⟩, rfl, H.none (by repeat' first | exact kNil | apply kCons | apply kApp | assumption | exact OwnS.keys (by assumption))⟩
      · have hdec : decP xs = (zeroP, 2) := decP_bad (fun h => hby (by rw [hff]; exact h.2.2)) hf
        rw [hdec]
        refine W_seq ?_
        refine W_region_l ?_
        (refine WL_effn rfl (E_allocP H) ?_; clear H; intro b2 w3 hb2 H)
        refine WL_stepM rfl (R_as) ?_
        refine WL_nil ?_
        refine W_seq ?_
        refine W_seq ?_
        refine W_region_l ?_
        refine WL_stepM rfl (R_mv) ?_
        refine WL_step rfl (R_len_S Tryz.underlying9 rfl) ?_
        refine WL_step rfl (R_ne_f rfl rfl (by omega)) ?_
        refine WL_nil ?_
        refine W_cond_f rfl ?_
        refine W_skip ?_
        refine W_seq ?_
        refine W_seq ?_
        refine W_region_l ?_
        refine WL_stepM rfl (R_mv) ?_
        (refine WL_call rfl (R_call rfl Tryz.call60 rfl) (refBlank_ret _ hb) ?_; rintro v w19 ⟨hv, H1⟩; rw [decide_eq_false hz] at hv; subst hv; replace H := H.seq0 H1; clear H1)
        refine WL_nil ?_
        refine W_cond_f rfl ?_
        refine W_skip ?_
        refine W_seq ?_
        (refine W_draw (KH w [(b2, blk (piC zeroP) 43)]) (fun _ => false) (by kernel_rfl) H ?_; clear H; intro w24 H)
        refine WA_takeM 0 rfl rfl rfl (by kernel_rfl) (by kernel_rfl) (H.kh (by simp) (by repeat' first | exact kNil | apply kCons | apply kApp | assumption | exact OwnS.keys (by assumption))) (fun _ hC => R_mv) ?_
        refine WA_take 1 rfl rfl rfl (by kernel_rfl) (by kernel_rfl) (H.kh (by simp) (by repeat' first | exact kNil | apply kCons | apply kApp | assumption | exact OwnS.keys (by assumption))) (fun _ hC => R_index_S (u := a) (i := 1) Tryz.underlying9 rfl rfl (by omega) ha) ?_
        refine WA_take 2 rfl rfl rfl (by kernel_rfl) (by kernel_rfl) (H.kh (by simp) (by repeat' first | exact kNil | apply kCons | apply kApp | assumption | exact OwnS.keys (by assumption))) (fun _ hC => R_conv_int Tryz.underlying5 Tryz.underlying3 rfl u8_in_i64) ?_
        refine WA_takeM 3 rfl rfl rfl (by kernel_rfl) (by kernel_rfl) (H.kh (by simp) (by repeat' first | exact kNil | apply kCons | apply kApp | assumption | exact OwnS.keys (by assumption))) (fun _ hC => R_mv) ?_
        refine WA_take 4 rfl rfl rfl (by kernel_rfl) (by kernel_rfl) (H.kh (by simp) (by repeat' first | exact kNil | apply kCons | apply kApp | assumption | exact OwnS.keys (by assumption))) (fun _ hC => R_index_S (u := b) (i := 2) Tryz.underlying9 rfl rfl (by omega) hbb) ?_
        refine WA_take 5 rfl rfl rfl (by kernel_rfl) (by kernel_rfl) (H.kh (by simp) (by repeat' first | exact kNil | apply kCons | apply kApp | assumption | exact OwnS.keys (by assumption))) (fun _ hC => R_conv_int Tryz.underlying5 Tryz.underlying3 rfl u8_in_i64) ?_
        refine WA_takeM 6 rfl rfl rfl (by kernel_rfl) (by kernel_rfl) (H.kh (by simp) (by repeat' first | exact kNil | apply kCons | apply kApp | assumption | exact OwnS.keys (by assumption))) (fun _ hC => R_mv) ?_
        refine WA_take 7 rfl rfl rfl (by kernel_rfl) (by kernel_rfl) (H.kh (by simp) (by repeat' first | exact kNil | apply kCons | apply kApp | assumption | exact OwnS.keys (by assumption))) (fun _ hC => R_index_S (u := c) (i := 3) Tryz.underlying9 rfl rfl (by omega) hc) ?_
        refine WA_take 8 rfl rfl rfl (by kernel_rfl) (by kernel_rfl) (H.kh (by simp) (by repeat' first | exact kNil | apply kCons | apply kApp | assumption | exact OwnS.keys (by assumption))) (fun _ hC => R_conv_int Tryz.underlying5 Tryz.underlying3 rfl u8_in_i64) ?_
        refine WA_takeM 9 rfl rfl rfl (by kernel_rfl) (by kernel_rfl) (H.kh (by simp) (by repeat' first | exact kNil | apply kCons | apply kApp | assumption | exact OwnS.keys (by assumption))) (fun _ hC => R_mv) ?_
        refine WA_take 10 rfl rfl rfl (by kernel_rfl) (by kernel_rfl) (H.kh (by simp) (by repeat' first | exact kNil | apply kCons | apply kApp | assumption | exact OwnS.keys (by assumption))) (fun _ hC => R_index_S (u := d) (i := 4) Tryz.underlying9 rfl rfl (by omega) hd) ?_
        refine WA_take 11 rfl rfl rfl (by kernel_rfl) (by kernel_rfl) (H.kh (by simp) (by repeat' first | exact kNil | apply kCons | apply kApp | assumption | exact OwnS.keys (by assumption))) (fun _ hC => R_conv_int Tryz.underlying5 Tryz.underlying3 rfl u8_in_i64) ?_
        refine WA_take 12 rfl rfl rfl (by kernel_rfl) (by kernel_rfl) (H.kh (by simp) (by repeat' first | exact kNil | apply kCons | apply kApp | assumption | exact OwnS.keys (by assumption))) (fun _ hC => R_buildL (places := [(0, 1), (1, 1), (2, 1), (3, 1), (4, 32)]) (vs := [I a.toNat, I b.toNat, I c.toNat, I d.toNat] ++ (List.replicate 32 0).map U) Tryz.underlying43 Tryz.typeInfo43 rfl rfl (by kernel_rfl) rfl rfl rfl) ?_
        refine WA_one (i := 13) (by kernel_rfl) ?_
        (refine WI_effnA rfl (.inl rfl) (E_allocP H) (fun _ _ _ H => (by first | exact fun h => absurd h (by decide) | exact fun _ => H | exact fun _ => H.none (by repeat' first | exact kNil | apply kCons | apply kApp | assumption | exact OwnS.keys (by assumption)) | exact fun _ => H.dropN (by repeat' first | exact kNil | apply kCons | apply kApp | assumption | exact OwnS.keys (by assumption)) | exact fun _ => H.pop (by assumption) | exact fun _ => (H.pop (by assumption)).pop (by assumption) | exact fun _ => H.kp | exact fun _ => H.kp.tail | exact fun _ => H.kp.tail.tail | exact fun _ => H.kp.tail.tail.tail | exact fun _ => H.kp.sub (by simp) | exact fun _ => Kp.nil | exact fun _ => H.kh (by simp) (by repeat' first | exact kNil | apply kCons | apply kApp | assumption | exact OwnS.keys (by assumption)))) ?_; clear H; intro b4 w39 hb4 H)
        refine WA_one (i := 14) (by kernel_rfl) ?_
        (refine WI_effu rfl (.inl rfl) (E_storeP (q := ofI xs 0) H rfl (congrArg (fun l => Value.agg (List.toArray l)) hp0v.symm) .here) (fun _ H => (by first | exact fun h => absurd h (by decide) | exact fun _ => H | exact fun _ => H.none (by repeat' first | exact kNil | apply kCons | apply kApp | assumption | exact OwnS.keys (by assumption)) | exact fun _ => H.dropN (by repeat' first | exact kNil | apply kCons | apply kApp | assumption | exact OwnS.keys (by assumption)) | exact fun _ => H.pop (by assumption) | exact fun _ => (H.pop (by assumption)).pop (by assumption) | exact fun _ => H.kp | exact fun _ => H.kp.tail | exact fun _ => H.kp.tail.tail | exact fun _ => H.kp.tail.tail.tail | exact fun _ => H.kp.sub (by simp) | exact fun _ => Kp.nil | exact fun _ => H.kh (by simp) (by repeat' first | exact kNil | apply kCons | apply kApp | assumption | exact OwnS.keys (by assumption)))) ?_; clear H; intro w41 H)
        refine WA_done (by kernel_rfl) ?_
        refine W_seq ?_
        refine W_seq ?_
        refine W_region_l ?_
        refine WL_stepM rfl (R_as) ?_
        refine WL_nil ?_
        refine W_block ?_
        refine W_loopS [(5, 5), (26, 36)] (fun (i : Nat) E w' => i ≤ 32 ∧ E 5 = I i ∧ Hp w [(b4, blk (piC (ofI xs i)) 43), (b2, blk (piC zeroP) 43)] w') (fun i => 32 - i) 0 ?e1 ?r1
        · exact ⟨by omega, rfl, H⟩
        · (clear H; rintro i E w1 ⟨hi, h5, H⟩; refine W_kn h5 ?_; by_cases hlt : i < 32)
          · refine W_seq ?_
            refine W_seq ?_
            refine W_region_l ?_
            refine WL_stepM rfl (R_mv) ?_
            refine WL_step rfl (R_lt_t rfl rfl (by omega)) ?_
            refine WL_nil ?_
            refine W_cond_t rfl ?_
            refine W_skip ?_
            refine W_seq ?_
            refine W_block ?_
            refine W_region_l ?_
            refine WL_stepM rfl (R_mv) ?_
            refine WL_stepM rfl (R_mv) ?_
            refine WL_stepM rfl (R_mv) ?_
            refine WL_step rfl (R_add (r := ((8 + i : Nat) : Int)) rfl rfl (by rw [w_i64 (by omega)]; omega)) ?_
            (obtain ⟨x, hx⟩ : ∃ x, xs[8 + i]? = some x := ⟨_, List.getElem?_eq_getElem (by omega)⟩; refine WL_step rfl (R_index_S (u := x) (i := ((8 + i : Nat) : Int)) Tryz.underlying9 rfl rfl (by omega) (by rw [Int.toNat_natCast]; exact hx)) ?_)
            refine WL_step rfl (R_fieldAddr (off' := 4) Tryz.underlying43 rfl Tryz.sizeOf41 (by decide) rfl rfl) ?_
            refine WL_step rfl (R_indexAddrA (off' := 4 + i) Tryz.underlying41 Tryz.sizeOf5 rfl rfl (by omega) (by omega) (by omega)) ?_
            (refine WL_effu rfl (E_store (v := U x) H Tryz.sizeOf5 rfl rfl rfl .here (by rw [piC_len]; omega)) ?_; clear H; intro w69 H; rw [set_pi, ofI_step h8 hlt hx] at H)
            refine WL_nil ?_
            refine W_region_l ?_
            refine WL_stepM rfl (R_mv) ?_
            refine WL_step rfl (R_add rfl rfl (w_i64 (by omega))) ?_
            refine WL_stepM rfl (R_as) ?_
            refine WL_nil ?_
            exact ⟨(same_mov rfl (same_updo rfl (same_mov rfl (same_updn (same_updo rfl (same_updo rfl (same_updo rfl (same_updo rfl (same_mov rfl (same_mov rfl (same_mov rfl (same_updo rfl (same_mov rfl same_ovr))))))))))))), i + 1, by omega, by omega, rfl, H⟩
          · refine W_seq ?_
            refine W_seq ?_
            refine W_region_l ?_
            refine WL_stepM rfl (R_mv) ?_
            refine WL_step rfl (R_lt_f rfl rfl (by omega)) ?_
            refine WL_nil ?_
            refine W_cond_f rfl ?_
            refine W_exit ?_
            refine (if_pos rfl).mpr ?_
            refine W_seq ?_
            refine W_seq ?_
            ((obtain rfl : i = 32 := (by omega); rw [ofI_all h8, ← hff] at H)) <;> refine W_region_l ?_
            refine WL_step rfl (R_loadP rfl (H.get .here)) ?_
            (refine WL_call rfl (R_call rfl Tryz.call63 rfl) (refOk_ret ff _) ?_; rintro v w90 ⟨hv, H1⟩; rw [decide_eq_true hok] at hv; subst hv; replace H := H.seq0 H1; clear H1)
            refine WL_step rfl (R_not_t rfl) ?_
            refine WL_stepM rfl (R_mv) ?_
            refine WL_guard_t rfl rfl ?_
            refine WL_step rfl (R_loadP rfl (H.get .here)) ?_
            refine WL_guard_t rfl rfl ?_
            (refine WL_call rfl (R_call rfl Tryz.call18 rfl) (refBytes_ret ff hok _) ?_; rintro _ w96 ⟨rfl, H1⟩; replace H := H.seq0 H1; clear H1)
            refine WL_guard_t rfl rfl ?_
            refine WL_stepM rfl (R_mv) ?_
            refine WL_guard_t rfl rfl ?_
            refine WL_step rfl (R_ne_S_t rfl rfl (by assumption)) ?_
            refine WL_stepM rfl (R_pk_f rfl) ?_
            refine WL_nil ?_
            refine W_cond_t rfl ?_
            refine W_seq ?_
            refine W_region_l ?_
            refine WL_step rfl R_zeroP ?_
            (refine WL_effu rfl (E_storeP (q := zeroP) H rfl rfl (.there .here)) ?_; clear H; intro w107 H)
            refine WL_stepM rfl (R_as) ?_
            refine WL_nil ?_
            refine W_ret ?_
            exact ⟨_, ⟨_, _, rfl, ldP (p := zeroP) (H.get (.there .here)), rfl⟩, rfl, H.none (by repeat' first | exact kNil | apply kCons | apply kApp | assumption | exact OwnS.keys (by assumption))⟩
      · have hdec : decP xs = (zeroP, 2) := decP_bad (fun h => hok (by rw [hff]; exact h.2.1)) hf
        rw [hdec]
        refine W_seq ?_
        refine W_region_l ?_
        (refine WL_effn rfl (E_allocP H) ?_; clear H; intro b2 w3 hb2 H)
        refine WL_stepM rfl (R_as) ?_
        refine WL_nil ?_
        refine W_seq ?_
        refine W_seq ?_
        refine W_region_l ?_
        refine WL_stepM rfl (R_mv) ?_
        refine WL_step rfl (R_len_S Tryz.underlying9 rfl) ?_
        refine WL_step rfl (R_ne_f rfl rfl (by omega)) ?_
        refine WL_nil ?_
        refine W_cond_f rfl ?_
        refine W_skip ?_
        refine W_seq ?_
        refine W_seq ?_
        refine W_region_l ?_
        refine WL_stepM rfl (R_mv) ?_
        (refine WL_call rfl (R_call rfl Tryz.call60 rfl) (refBlank_ret _ hb) ?_; rintro v w19 ⟨hv, H1⟩; rw [decide_eq_false hz] at hv; subst hv; replace H := H.seq0 H1; clear H1)
        refine WL_nil ?_
        refine W_cond_f rfl ?_
        refine W_skip ?_
        refine W_seq ?_
        (refine W_draw (KH w [(b2, blk (piC zeroP) 43)]) (fun _ => false) (by kernel_rfl) H ?_; clear H; intro w24 H)
        refine WA_takeM 0 rfl rfl rfl (by kernel_rfl) (by kernel_rfl) (H.kh (by simp) (by repeat' first | exact kNil | apply kCons | apply kApp | assumption | exact OwnS.keys (by assumption))) (fun _ hC => R_mv) ?_
        refine WA_take 1 rfl rfl rfl (by kernel_rfl) (by kernel_rfl) (H.kh (by simp) (by repeat' first | exact kNil | apply kCons | apply kApp | assumption | exact OwnS.keys (by assumption))) (fun _ hC => R_index_S (u := a) (i := 1) Tryz.underlying9 rfl rfl (by omega) ha) ?_
        refine WA_take 2 rfl rfl rfl (by kernel_rfl) (by kernel_rfl) (H.kh (by simp) (by repeat' first | exact kNil | apply kCons | apply kApp | assumption | exact OwnS.keys (by assumption))) (fun _ hC => R_conv_int Tryz.underlying5 Tryz.underlying3 rfl u8_in_i64) ?_
        refine WA_takeM 3 rfl rfl rfl (by kernel_rfl) (by kernel_rfl) (H.kh (by simp) (by repeat' first | exact kNil | apply kCons | apply kApp | assumption | exact OwnS.keys (by assumption))) (fun _ hC => R_mv) ?_
        refine WA_take 4 rfl rfl rfl (by kernel_rfl) (by kernel_rfl) (H.kh (by simp) (by repeat' first | exact kNil | apply kCons | apply kApp | assumption | exact OwnS.keys (by assumption))) (fun _ hC => R_index_S (u := b) (i := 2) Tryz.underlying9 rfl rfl (by omega) hbb) ?_
        refine WA_take 5 rfl rfl rfl (by kernel_rfl) (by kernel_rfl) (H.kh (by simp) (by repeat' first | exact kNil | apply kCons | apply kApp | assumption | exact OwnS.keys (by assumption))) (fun _ hC => R_conv_int Tryz.underlying5 Tryz.underlying3 rfl u8_in_i64) ?_
        refine WA_takeM 6 rfl rfl rfl (by kernel_rfl) (by kernel_rfl) (H.kh (by simp) (by repeat' first | exact kNil | apply kCons | apply kApp | assumption | exact OwnS.keys (by assumption))) (fun _ hC => R_mv) ?_
        refine WA_take 7 rfl rfl rfl (by kernel_rfl) (by kernel_rfl) (H.kh (by simp) (by repeat' first | exact kNil | apply kCons | apply kApp | assumption | exact OwnS.keys (by assumption))) (fun _ hC => R_index_S (u := c) (i := 3) Tryz.underlying9 rfl rfl (by omega) hc) ?_
        refine WA_take 8 rfl rfl rfl (by kernel_rfl) (by kernel_rfl) (H.kh (by simp) (by repeat' first | exact kNil | apply kCons | apply kApp | assumption | exact OwnS.keys (by assumption))) (fun _ hC => R_conv_int Tryz.underlying5 Tryz.underlying3 rfl u8_in_i64) ?_
        refine WA_takeM 9 rfl rfl rfl (by kernel_rfl) (by kernel_rfl) (H.kh (by simp) (by repeat' first | exact kNil | apply kCons | apply kApp | assumption | exact OwnS.keys (by assumption))) (fun _ hC => R_mv) ?_
        refine WA_take 10 rfl rfl rfl (by kernel_rfl) (by kernel_rfl) (H.kh (by simp) (by repeat' first | exact kNil | apply kCons | apply kApp | assumption | exact OwnS.keys (by assumption))) (fun _ hC => R_index_S (u := d) (i := 4) Tryz.underlying9 rfl rfl (by omega) hd) ?_
        refine WA_take 11 rfl rfl rfl (by kernel_rfl) (by kernel_rfl) (H.kh (by simp) (by repeat' first | exact kNil | apply kCons | apply kApp | assumption | exact OwnS.keys (by assumption))) (fun _ hC => R_conv_int Tryz.underlying5 Tryz.underlying3 rfl u8_in_i64) ?_
        refine WA_take 12 rfl rfl rfl (by kernel_rfl) (by kernel_rfl) (H.kh (by simp) (by repeat' first | exact kNil | apply kCons | apply kApp | assumption | exact OwnS.keys (by assumption))) (fun _ hC => R_buildL (places := [(0, 1), (1, 1), (2, 1), (3, 1), (4, 32)]) (vs := [I a.toNat, I b.toNat, I c.toNat, I d.toNat] ++ (List.replicate 32 0).map U) Tryz.underlying43 Tryz.typeInfo43 rfl rfl (by kernel_rfl) rfl rfl rfl) ?_
        refine WA_one (i := 13) (by kernel_rfl) ?_
        (refine WI_effnA rfl (.inl rfl) (E_allocP H) (fun _ _ _ H => (by first | exact fun h => absurd h (by decide) | exact fun _ => H | exact fun _ => H.none (by repeat' first | exact kNil | apply kCons | apply kApp | assumption | exact OwnS.keys (by assumption)) | exact fun _ => H.dropN (by repeat' first | exact kNil | apply kCons | apply kApp | assumption | exact OwnS.keys (by assumption)) | exact fun _ => H.pop (by assumption) | exact fun _ => (H.pop (by assumption)).pop (by assumption) | exact fun _ => H.kp | exact fun _ => H.kp.tail | exact fun _ => H.kp.tail.tail | exact fun _ => H.kp.tail.tail.tail | exact fun _ => H.kp.sub (by simp) | exact fun _ => Kp.nil | exact fun _ => H.kh (by simp) (by repeat' first | exact kNil | apply kCons | apply kApp | assumption | exact OwnS.keys (by assumption)))) ?_; clear H; intro b4 w39 hb4 H)
        refine WA_one (i := 14) (by kernel_rfl) ?_
        (refine WI_effu rfl (.inl rfl) (E_storeP (q := ofI xs 0) H rfl (congrArg (fun l => Value.agg (List.toArray l)) hp0v.symm) .here) (fun _ H => (by first | exact fun h => absurd h (by decide) | exact fun _ => H | exact fun _ => H.none (by repeat' first | exact kNil | apply kCons | apply kApp | assumption | exact OwnS.keys (by assumption)) | exact fun _ => H.dropN (by repeat' first | exact kNil | apply kCons | apply kApp | assumption | exact OwnS.keys (by assumption)) | exact fun _ => H.pop (by assumption) | exact fun _ => (H.pop (by assumption)).pop (by assumption) | exact fun _ => H.kp | exact fun _ => H.kp.tail | exact fun _ => H.kp.tail.tail | exact fun _ => H.kp.tail.tail.tail | exact fun _ => H.kp.sub (by simp) | exact fun _ => Kp.nil | exact fun _ => H.kh (by simp) (by repeat' first | exact kNil | apply kCons | apply kApp | assumption | exact OwnS.keys (by assumption)))) ?_; clear H; intro w41 H)
        refine WA_done (by kernel_rfl) ?_
        refine W_seq ?_
        refine W_seq ?_
        refine W_region_l ?_
        refine WL_stepM rfl (R_as) ?_
        refine WL_nil ?_
        refine W_block ?_
        refine W_loopS [(5, 5), (26, 36)] (fun (i : Nat) E w' => i ≤ 32 ∧ E 5 = I i ∧ Hp w [(b4, blk (piC (ofI xs i)) 43), (b2, blk (piC zeroP) 43)] w') (fun i => 32 - i) 0 ?e2 ?r2
        · exact ⟨by omega, rfl, H⟩
        · (clear H; rintro i E w1 ⟨hi, h5, H⟩; refine W_kn h5 ?_; by_cases hlt : i < 32)
          · refine W_seq ?_
            refine W_seq ?_
            refine W_region_l ?_
            refine WL_stepM rfl (R_mv) ?_
            refine WL_step rfl (R_lt_t rfl rfl (by omega)) ?_
            refine WL_nil ?_
            refine W_cond_t rfl ?_
            refine W_skip ?_
            refine W_seq ?_
            refine W_block ?_
            refine W_region_l ?_
            refine WL_stepM rfl (R_mv) ?_
            refine WL_stepM rfl (R_mv) ?_
            refine WL_stepM rfl (R_mv) ?_
            refine WL_step rfl (R_add (r := ((8 + i : Nat) : Int)) rfl rfl (by rw [w_i64 (by omega)]; omega)) ?_
            (obtain ⟨x, hx⟩ : ∃ x, xs[8 + i]? = some x := ⟨_, List.getElem?_eq_getElem (by omega)⟩; refine WL_step rfl (R_index_S (u := x) (i := ((8 + i : Nat) : Int)) Tryz.underlying9 rfl rfl (by omega) (by rw [Int.toNat_natCast]; exact hx)) ?_)
            refine WL_step rfl (R_fieldAddr (off' := 4) Tryz.underlying43 rfl Tryz.sizeOf41 (by decide) rfl rfl) ?_
            refine WL_step rfl (R_indexAddrA (off' := 4 + i) Tryz.underlying41 Tryz.sizeOf5 rfl rfl (by omega) (by omega) (by omega)) ?_
            (refine WL_effu rfl (E_store (v := U x) H Tryz.sizeOf5 rfl rfl rfl .here (by rw [piC_len]; omega)) ?_; clear H; intro w69 H; rw [set_pi, ofI_step h8 hlt hx] at H)
            refine WL_nil ?_
            refine W_region_l ?_
            refine WL_stepM rfl (R_mv) ?_
            refine WL_step rfl (R_add rfl rfl (w_i64 (by omega))) ?_
            refine WL_stepM rfl (R_as) ?_
            refine WL_nil ?_
            exact ⟨(same_mov rfl (same_updo rfl (same_mov rfl (same_updn (same_updo rfl (same_updo rfl (same_updo rfl (same_updo rfl (same_mov rfl (same_mov rfl (same_mov rfl (same_updo rfl (same_mov rfl same_ovr))))))))))))), i + 1, by omega, by omega, rfl, H⟩
          · refine W_seq ?_
            refine W_seq ?_
            refine W_region_l ?_
            refine WL_stepM rfl (R_mv) ?_
            refine WL_step rfl (R_lt_f rfl rfl (by omega)) ?_
            refine WL_nil ?_
            refine W_cond_f rfl ?_
            refine W_exit ?_
            refine (if_pos rfl).mpr ?_
            refine W_seq ?_
            refine W_seq ?_
            ((obtain rfl : i = 32 := (by omega); rw [ofI_all h8, ← hff] at H)) <;> refine W_region_l ?_
            refine WL_step rfl (R_loadP rfl (H.get .here)) ?_
            (refine WL_call rfl (R_call rfl Tryz.call63 rfl) (refOk_ret ff _) ?_; rintro v w90 ⟨hv, H1⟩; rw [decide_eq_false hok] at hv; subst hv; replace H := H.seq0 H1; clear H1)
            refine WL_step rfl (R_not_f rfl) ?_
            refine WL_stepM rfl (R_mv) ?_
            refine WL_guard_f rfl rfl (by decide) ?_
            refine WL_guard_f rfl rfl (by decide) ?_
            refine WL_guard_f rfl rfl (by decide) ?_
            refine WL_guard_f rfl rfl (by decide) ?_
            refine WL_stepM rfl (R_pk_t rfl) ?_
            refine WL_nil ?_
            refine W_cond_t rfl ?_
            refine W_seq ?_
            refine W_region_l ?_
            refine WL_step rfl R_zeroP ?_
            (refine WL_effu rfl (E_storeP (q := zeroP) H rfl rfl (.there .here)) ?_; clear H; intro w103 H)
            refine WL_stepM rfl (R_as) ?_
            refine WL_nil ?_
            refine W_ret ?_
            exact ⟨_, ⟨_, _, rfl, ldP (p := zeroP) (H.get (.there .here)), rfl⟩, rfl, H.none (by repeat' first | exact kNil | apply kCons | apply kApp | assumption | exact OwnS.keys (by assumption))⟩
      · have hdec : decP xs = (zeroP, 2) := decP_bad (fun h => hok (by rw [hff]; exact h.2.1)) hf
        rw [hdec]
        refine W_seq ?_
        refine W_region_l ?_
        (refine WL_effn rfl (E_allocP H) ?_; clear H; intro b2 w3 hb2 H)
        refine WL_stepM rfl (R_as) ?_
        refine WL_nil ?_
        refine W_seq ?_
        refine W_seq ?_
        refine W_region_l ?_
        refine WL_stepM rfl (R_mv) ?_
        refine WL_step rfl (R_len_S Tryz.underlying9 rfl) ?_
        refine WL_step rfl (R_ne_f rfl rfl (by omega)) ?_
        refine WL_nil ?_
        refine W_cond_f rfl ?_
        refine W_skip ?_
        refine W_seq ?_
        refine W_seq ?_
        refine W_region_l ?_
        refine WL_stepM rfl (R_mv) ?_
        (refine WL_call rfl (R_call rfl Tryz.call60 rfl) (refBlank_ret _ hb) ?_; rintro v w19 ⟨hv, H1⟩; rw [decide_eq_false hz] at hv; subst hv; replace H := H.seq0 H1; clear H1)
        refine WL_nil ?_
        refine W_cond_f rfl ?_
        refine W_skip ?_
        refine W_seq ?_
        (refine W_draw (KH w [(b2, blk (piC zeroP) 43)]) (fun _ => false) (by kernel_rfl) H ?_; clear H; intro w24 H)
        refine WA_takeM 0 rfl rfl rfl (by kernel_rfl) (by kernel_rfl) (H.kh (by simp) (by repeat' first | exact kNil | apply kCons | apply kApp | assumption | exact OwnS.keys (by assumption))) (fun _ hC => R_mv) ?_
        refine WA_take 1 rfl rfl rfl (by kernel_rfl) (by kernel_rfl) (H.kh (by simp) (by repeat' first | exact kNil | apply kCons | apply kApp | assumption | exact OwnS.keys (by assumption))) (fun _ hC => R_index_S (u := a) (i := 1) Tryz.underlying9 rfl rfl (by omega) ha) ?_
        refine WA_take 2 rfl rfl rfl (by kernel_rfl) (by kernel_rfl) (H.kh (by simp) (by repeat' first | exact kNil | apply kCons | apply kApp | assumption | exact OwnS.keys (by assumption))) (fun _ hC => R_conv_int Tryz.underlying5 Tryz.underlying3 rfl u8_in_i64) ?_
        refine WA_takeM 3 rfl rfl rfl (by kernel_rfl) (by kernel_rfl) (H.kh (by simp) (by repeat' first | exact kNil | apply kCons | apply kApp | assumption | exact OwnS.keys (by assumption))) (fun _ hC => R_mv) ?_
        refine WA_take 4 rfl rfl rfl (by kernel_rfl) (by kernel_rfl) (H.kh (by simp) (by repeat' first | exact kNil | apply kCons | apply kApp | assumption | exact OwnS.keys (by assumption))) (fun _ hC => R_index_S (u := b) (i := 2) Tryz.underlying9 rfl rfl (by omega) hbb) ?_
        refine WA_take 5 rfl rfl rfl (by kernel_rfl) (by kernel_rfl) (H.kh (by simp) (by repeat' first | exact kNil | apply kCons | apply kApp | assumption | exact OwnS.keys (by assumption))) (fun _ hC => R_conv_int Tryz.underlying5 Tryz.underlying3 rfl u8_in_i64) ?_
        refine WA_takeM 6 rfl rfl rfl (by kernel_rfl) (by kernel_rfl) (H.kh (by simp) (by repeat' first | exact kNil | apply kCons | apply kApp | assumption | exact OwnS.keys (by assumption))) (fun _ hC => R_mv) ?_
        refine WA_take 7 rfl rfl rfl (by kernel_rfl) (by kernel_rfl) (H.kh (by simp) (by repeat' first | exact kNil | apply kCons | apply kApp | assumption | exact OwnS.keys (by assumption))) (fun _ hC => R_index_S (u := c) (i := 3) Tryz.underlying9 rfl rfl (by omega) hc) ?_
        refine WA_take 8 rfl rfl rfl (by kernel_rfl) (by kernel_rfl) (H.kh (by simp) (by repeat' first | exact kNil | apply kCons | apply kApp | assumption | exact OwnS.keys (by assumption))) (fun _ hC => R_conv_int Tryz.underlying5 Tryz.underlying3 rfl u8_in_i64) ?_
        refine WA_takeM 9 rfl rfl rfl (by kernel_rfl) (by kernel_rfl) (H.kh (by simp) (by repeat' first | exact kNil | apply kCons | apply kApp | assumption | exact OwnS.keys (by assumption))) (fun _ hC => R_mv) ?_
        refine WA_take 10 rfl rfl rfl (by kernel_rfl) (by kernel_rfl) (H.kh (by simp) (by repeat' first | exact kNil | apply kCons | apply kApp | assumption | exact OwnS.keys (by assumption))) (fun _ hC => R_index_S (u := d) (i := 4) Tryz.underlying9 rfl rfl (by omega) hd) ?_
        refine WA_take 11 rfl rfl rfl (by kernel_rfl) (by kernel_rfl) (H.kh (by simp) (by repeat' first | exact kNil | apply kCons | apply kApp | assumption | exact OwnS.keys (by assumption))) (fun _ hC => R_conv_int Tryz.underlying5 Tryz.underlying3 rfl u8_in_i64) ?_
        refine WA_take 12 rfl rfl rfl (by kernel_rfl) (by kernel_rfl) (H.kh (by simp) (by repeat' first | exact kNil | apply kCons | apply kApp | assumption | exact OwnS.keys (by assumption))) (fun _ hC => R_buildL (places := [(0, 1), (1, 1), (2, 1), (3, 1), (4, 32)]) (vs := [I a.toNat, I b.toNat, I c.toNat, I d.toNat] ++ (List.replicate 32 0).map U) Tryz.underlying43 Tryz.typeInfo43 rfl rfl (by kernel_rfl) rfl rfl rfl) ?_
        refine WA_one (i := 13) (by kernel_rfl) ?_
        (refine WI_effnA rfl (.inl rfl) (E_allocP H) (fun _ _ _ H => (by first | exact fun h => absurd h (by decide) | exact fun _ => H | exact fun _ => H.none (by repeat' first | exact kNil | apply kCons | apply kApp | assumption | exact OwnS.keys (by assumption)) | exact fun _ => H.dropN (by repeat' first | exact kNil | apply kCons | apply kApp | assumption | exact OwnS.keys (by assumption)) | exact fun _ => H.pop (by assumption) | exact fun _ => (H.pop (by assumption)).pop (by assumption) | exact fun _ => H.kp | exact fun _ => H.kp.tail | exact fun _ => H.kp.tail.tail | exact fun _ => H.kp.tail.tail.tail | exact fun _ => H.kp.sub (by simp) | exact fun _ => Kp.nil | exact fun _ => H.kh (by simp) (by repeat' first | exact kNil | apply kCons | apply kApp | assumption | exact OwnS.keys (by assumption)))) ?_; clear H; intro b4 w39 hb4 H)
        refine WA_one (i := 14) (by kernel_rfl) ?_
        (refine WI_effu rfl (.inl rfl) (E_storeP (q := ofI xs 0) H rfl (congrArg (fun l => Value.agg (List.toArray l)) hp0v.symm) .here) (fun _ H => (by first | exact fun h => absurd h (by decide) | exact fun _ => H | exact fun _ => H.none (by repeat' first | exact kNil | apply kCons | apply kApp | assumption | exact OwnS.keys (by assumption)) | exact fun _ => H.dropN (by repeat' first | exact kNil | apply kCons | apply kApp | assumption | exact OwnS.keys (by assumption)) | exact fun _ => H.pop (by assumption) | exact fun _ => (H.pop (by assumption)).pop (by assumption) | exact fun _ => H.kp | exact fun _ => H.kp.tail | exact fun _ => H.kp.tail.tail | exact fun _ => H.kp.tail.tail.tail | exact fun _ => H.kp.sub (by simp) | exact fun _ => Kp.nil | exact fun _ => H.kh (by simp) (by repeat' first | exact kNil | apply kCons | apply kApp | assumption | exact OwnS.keys (by assumption)))) ?_; clear H; intro w41 H)
        refine WA_done (by kernel_rfl) ?_
        refine W_seq ?_
        refine W_seq ?_
        refine W_region_l ?_
        refine WL_stepM rfl (R_as) ?_
        refine WL_nil ?_
        refine W_block ?_
        refine W_loopS [(5, 5), (26, 36)] (fun (i : Nat) E w' => i ≤ 32 ∧ E 5 = I i ∧ Hp w [(b4, blk (piC (ofI xs i)) 43), (b2, blk (piC zeroP) 43)] w') (fun i => 32 - i) 0 ?e3 ?r3
        · exact ⟨by omega, rfl, H⟩
        · (clear H; rintro i E w1 ⟨hi, h5, H⟩; refine W_kn h5 ?_; by_cases hlt : i < 32)
          · refine W_seq ?_
            refine W_seq ?_
            refine W_region_l ?_
            refine WL_stepM rfl (R_mv) ?_
            refine WL_step rfl (R_lt_t rfl rfl (by omega)) ?_
            refine WL_nil ?_
            refine W_cond_t rfl ?_
            refine W_skip ?_
            refine W_seq ?_
            refine W_block ?_
            refine W_region_l ?_
            refine WL_stepM rfl (R_mv) ?_
            refine WL_stepM rfl (R_mv) ?_
            refine WL_stepM rfl (R_mv) ?_
            refine WL_step rfl (R_add (r := ((8 + i : Nat) : Int)) rfl rfl (by rw [w_i64 (by omega)]; omega)) ?_
            (obtain ⟨x, hx⟩ : ∃ x, xs[8 + i]? = some x := ⟨_, List.getElem?_eq_getElem (by omega)⟩; refine WL_step rfl (R_index_S (u := x) (i := ((8 + i : Nat) : Int)) Tryz.underlying9 rfl rfl (by omega) (by rw [Int.toNat_natCast]; exact hx)) ?_)
            refine WL_step rfl (R_fieldAddr (off' := 4) Tryz.underlying43 rfl Tryz.sizeOf41 (by decide) rfl rfl) ?_
            refine WL_step rfl (R_indexAddrA (off' := 4 + i) Tryz.underlying41 Tryz.sizeOf5 rfl rfl (by omega) (by omega) (by omega)) ?_
            (refine WL_effu rfl (E_store (v := U x) H Tryz.sizeOf5 rfl rfl rfl .here (by rw [piC_len]; omega)) ?_; clear H; intro w69 H; rw [set_pi, ofI_step h8 hlt hx] at H)
            refine WL_nil ?_
            refine W_region_l ?_
            refine WL_stepM rfl (R_mv) ?_
            refine WL_step rfl (R_add rfl rfl (w_i64 (by omega))) ?_
            refine WL_stepM rfl (R_as) ?_
            refine WL_nil ?_
            exact ⟨(same_mov rfl (same_updo rfl (same_mov rfl (same_updn (same_updo rfl (same_updo rfl (same_updo rfl (same_updo rfl (same_mov rfl (same_mov rfl (same_mov rfl (same_updo rfl (same_mov rfl same_ovr))))))))))))), i + 1, by omega, by omega, rfl, H⟩
          · refine W_seq ?_
            refine W_seq ?_
            refine W_region_l ?_
            refine WL_stepM rfl (R_mv) ?_
            refine WL_step rfl (R_lt_f rfl rfl (by omega)) ?_
            refine WL_nil ?_
            refine W_cond_f rfl ?_
            refine W_exit ?_
            refine (if_pos rfl).mpr ?_
            refine W_seq ?_
            refine W_seq ?_
            ((obtain rfl : i = 32 := (by omega); rw [ofI_all h8, ← hff] at H)) <;> refine W_region_l ?_
            refine WL_step rfl (R_loadP rfl (H.get .here)) ?_
            (refine WL_call rfl (R_call rfl Tryz.call63 rfl) (refOk_ret ff _) ?_; rintro v w90 ⟨hv, H1⟩; rw [decide_eq_false hok] at hv; subst hv; replace H := H.seq0 H1; clear H1)
            refine WL_step rfl (R_not_f rfl) ?_
            refine WL_stepM rfl (R_mv) ?_
            refine WL_guard_f rfl rfl (by decide) ?_
            refine WL_guard_f rfl rfl (by decide) ?_
            refine WL_guard_f rfl rfl (by decide) ?_
            refine WL_guard_f rfl rfl (by decide) ?_
            refine WL_stepM rfl (R_pk_t rfl) ?_
            refine WL_nil ?_
            refine W_cond_t rfl ?_
            refine W_seq ?_
            refine W_region_l ?_
            refine WL_step rfl R_zeroP ?_
            (refine WL_effu rfl (E_storeP (q := zeroP) H rfl rfl (.there .here)) ?_; clear H; intro w103 H)
            refine WL_stepM rfl (R_as) ?_
            refine WL_nil ?_
            refine W_ret ?_
            exact ⟨_, ⟨_, _, rfl, ldP (p := zeroP) (H.get (.there .here)), rfl⟩, rfl, H.none (by repeat' first | exact kNil | apply kCons | apply kApp | assumption | exact OwnS.keys (by assumption))⟩
  · rw [decP_bad (fun h => h8 h.1) (fun h => h8 h.1)]
    refine W_seq ?_
    refine W_region_l ?_
    (refine WL_effn rfl (E_allocP H) ?_; clear H; intro b2 w3 hb2 H)
    refine WL_stepM rfl (R_as) ?_
    refine WL_nil ?_
    refine W_seq ?_
    refine W_seq ?_
    refine W_region_l ?_
    refine WL_stepM rfl (R_mv) ?_
    refine WL_step rfl (R_len_S Tryz.underlying9 rfl) ?_
    refine WL_step rfl (R_ne_t rfl rfl (by omega)) ?_
    refine WL_nil ?_
    refine W_cond_t rfl ?_
    refine W_seq ?_
    refine W_region_l ?_
    refine WL_step rfl R_zeroP ?_
    (refine WL_effu rfl (E_storeP (q := zeroP) H rfl rfl .here) ?_; clear H; intro w17 H)
    refine WL_stepM rfl (R_as) ?_
    refine WL_nil ?_
    refine W_ret ?_
    exact ⟨_, ⟨_, _, rfl, ldP (p := zeroP) (H.get .here), rfl⟩, rfl, H.none (by repeat' first | exact kNil | apply kCons | apply kApp | assumption | exact OwnS.keys (by assumption))⟩

/-- a pipe made of numbers -/
def pipeN (a : Int) (b : List UInt8) : Pi := ⟨a % 16777216 % 32, a % 16777216 / 32 % 64 % 33, a % 16777216 / 2048 % 16 % 9, a % 16777216 / 32768 % 16 % 9, data32 b, data32_len b⟩
theorem pipeN_ok (a : Int) (b : List UInt8) : okP (pipeN a b) := by
  unfold pipeN okP
  simp only
  omega
theorem pipe_cells {p q : Pi} {b : List UInt8} (hp : p.d = List.replicate 32 0) (h1 : q.h = p.h) (h2 : q.c = p.c) (h3 : q.r = p.r) (h4 : q.w = p.w) (h5 : q.d = data32 b) :
    (piC p).take 4 ++ (b.map U).take 32 ++ (piC p).drop (4 + min (b.map U).length 32) = piC q := by
  unfold piC
  rw [h1, h2, h3, h4, h5, hp, show ([I p.h, I p.c, I p.r, I p.w] ++ (List.replicate 32 0).map U).take 4 = [I p.h, I p.c, I p.r, I p.w] from rfl, List.append_assoc]
  congr 1
  unfold data32
  rw [List.length_map, ← List.drop_drop, List.drop_left' (by rfl), List.take_append, List.map_append, List.map_take]
  congr 1
  apply List.ext_getElem?
  intro j
  simp only [List.getElem?_drop, List.getElem?_map, List.getElem?_replicate, List.getElem?_take]
  by_cases h : j < 32 - b.length
  · rw [if_pos h, if_pos (by omega), if_pos (by omega)]
  · rw [if_neg h]
    by_cases h2 : min b.length 32 + j < 32
    · omega
    · rw [if_neg h2]

theorem pipe_ret {bs : List UInt8} (a : Int) {w : World} {l : Value} (hl : RdS w l (bs.map U)) (hb : bs.length ≤ 9223372036854775807) : Ret Tryz.prog 19 #[I a, l] w fun v w' => v = vP (pipeN a bs) ∧ Hp w [] w' := by
  refine Ret_of_WC (args := [_, _]) Tryz.func19 rfl Tryz.ntmps19 Tryz.results19 (by simp) ?_
  have H := Hp.refl w
  obtain ⟨y, hy, hy0, hy1⟩ : ∃ y, a % 16777216 = y ∧ 0 ≤ y ∧ y < 16777216 := ⟨_, rfl, by omega, by omega⟩
  obtain ⟨p0, hp0⟩ : ∃ p0 : Pi, p0 = ⟨y % 32, y / 32 % 64 % 33, y / 2048 % 16 % 9, y / 32768 % 16 % 9, List.replicate 32 0, rfl⟩ := ⟨_, rfl⟩
  have hp0v : (piC p0) = [I (y % 32), I (y / 32 % 64 % 33), I (y / 2048 % 16 % 9), I (y / 32768 % 16 % 9)] ++ (List.replicate 32 0).map U := by rw [hp0]; rfl
  have hcells := pipe_cells (p := p0) (q := pipeN a bs) (b := bs) (by rw [hp0]) (by rw [hp0]; show a % 16777216 % 32 = _; rw [hy]) (by rw [hp0]; show a % 16777216 / 32 % 64 % 33 = _; rw [hy]) (by rw [hp0]; show a % 16777216 / 2048 % 16 % 9 = _; rw [hy]) (by rw [hp0]; show a % 16777216 / 32768 % 16 % 9 = _; rw [hy]) rfl
  obtain ⟨q, hq⟩ : ∃ q, q = pipeN a bs := ⟨_, rfl⟩
  rw [← hq] at hcells ⊢
  refine W_seq ?_
  refine W_region_l ?_
  (refine WL_effn rfl (E_allocP H) ?_; clear H; intro b4 w3 hb4 H)
  refine WL_nil ?_
  refine W_seq ?_
  refine W_region_l ?_
  refine WL_stepM rfl (R_mv) ?_
  refine WL_step rfl (R_bits rfl rfl (by simp) ((and_mask_i64 24 16777216 (by decide) rfl (by decide)).trans hy)) ?_
  refine WL_stepM rfl (R_as) ?_
  refine WL_nil ?_
  refine W_seq ?_
  refine W_region_l ?_
  refine WL_stepM rfl (R_mv) ?_
  refine WL_step rfl (R_bits rfl rfl (by simp) (and_mask_i64 5 32 (by decide) rfl (by decide))) ?_
  refine WL_stepM rfl (R_mv) ?_
  refine WL_step rfl (R_shr rfl rfl (by decide) (shr_any 32 (by decide))) ?_
  refine WL_step rfl (R_bits rfl rfl (by simp) (and_mask_i64 6 64 (by decide) rfl (by decide))) ?_
  refine WL_step rfl (R_rem rfl rfl (by omega) (rem_pos (by omega))) ?_
  refine WL_stepM rfl (R_mv) ?_
  refine WL_step rfl (R_shr rfl rfl (by decide) (shr_any 2048 (by decide))) ?_
  refine WL_step rfl (R_bits rfl rfl (by simp) (and_mask_i64 4 16 (by decide) rfl (by decide))) ?_
  refine WL_step rfl (R_rem rfl rfl (by omega) (rem_pos (by omega))) ?_
  refine WL_stepM rfl (R_mv) ?_
  refine WL_step rfl (R_shr rfl rfl (by decide) (shr_any 32768 (by decide))) ?_
  refine WL_step rfl (R_bits rfl rfl (by simp) (and_mask_i64 4 16 (by decide) rfl (by decide))) ?_
  refine WL_step rfl (R_rem rfl rfl (by omega) (rem_pos (by omega))) ?_
  refine WL_step rfl (R_buildL (places := [(0, 1), (1, 1), (2, 1), (3, 1), (4, 32)]) (vs := [I (y % 32), I (y / 32 % 64 % 33), I (y / 2048 % 16 % 9), I (y / 32768 % 16 % 9)] ++ (List.replicate 32 0).map U) Tryz.underlying43 Tryz.typeInfo43 rfl rfl (by kernel_rfl) rfl rfl rfl) ?_
  (refine WL_effn rfl (E_allocP H) ?_; clear H; intro b5 w28 hb5 H)
  (refine WL_effu rfl (E_storeP (q := p0) H rfl (congrArg (fun l => Value.agg (List.toArray l)) hp0v.symm) .here) ?_; clear H; intro w29 H)
  refine WL_nil ?_
  refine W_seq ?_
  refine W_region_l ?_
  refine WL_step rfl (R_fieldAddr (off' := 4) Tryz.underlying43 rfl Tryz.sizeOf41 (by decide) rfl rfl) ?_
  refine WL_step rfl (R_all Tryz.underlying41 Tryz.sizeOf5 rfl (by decide)) ?_
  refine WL_stepM rfl (R_mv) ?_
  (refine WL_effm rfl (E_copy (xs := bs.map U) (off := 4) (c := piC p0) H .here Tryz.underlying22 Tryz.sizeOf5 rfl rfl (hl.monoN H (by repeat' first | exact kNil | apply kCons | apply kApp | assumption | exact OwnS.keys (by assumption))).csrc (by rw [piC_len]; decide) (u_one _)) ?_; clear H; rintro _ _ w36 rfl H; rw [hcells] at H)
  refine WL_nil ?_
  refine W_seq ?_
  refine W_region_l ?_
  refine WL_step rfl (R_loadP rfl (H.get .here)) ?_
  (refine WL_effu rfl (E_storeP (q := q) H rfl rfl (.there .here)) ?_; clear H; intro w41 H)
  refine WL_nil ?_
  refine W_ret ?_
  exact ⟨_, ⟨_, rfl, ldP (p := q) (H.get (.there .here))⟩, rfl, H.none (by repeat' first | exact kNil | apply kCons | apply kApp | assumption | exact OwnS.keys (by assumption))⟩

theorem zip_rep {k : IntKind} : ∀ (n : Nat) (l : List Int), l.length = n → List.zipWith Value.int (List.replicate n k) l = l.map (Value.int k)
  | 0, [], _ => rfl
  | n + 1, a :: l, h => by rw [List.replicate_succ, List.zipWith_cons_cons, List.map_cons, zip_rep n l (by simpa using h)]
def piK : List IntKind := [.i64] ++ ([.i64] ++ ([.i64] ++ ([.i64] ++ (List.replicate 32 .u8 ++ []))))
def piN (p : Pi) : List Int := [p.h, p.c, p.r, p.w] ++ p.d.map fun x => (x.toNat : Int)
theorem piC_K (p : Pi) : piC p = cellsK piK (piN p) := by
  show [I p.h, I p.c, I p.r, I p.w] ++ p.d.map U = [I p.h, I p.c, I p.r, I p.w] ++ List.zipWith Value.int (List.replicate 32 .u8 ++ []) (p.d.map fun x => (x.toNat : Int))
  rw [List.append_nil, zip_rep 32 _ (by simp [p.hd]), List.map_map]
  rfl
theorem piN_len (p : Pi) : (piN p).length = piK.length := by simp [piN, piK, p.hd]
theorem piN_inj {p q : Pi} : piN p = piN q ↔ p = q := by
  refine ⟨fun h => ?_, fun h => by rw [h]⟩
  unfold piN at h
  have h2 := List.append_inj h rfl
  have h3 := h2.1
  simp only [List.cons.injEq, and_true] at h3
  refine pi_ext h3.1 h3.2.1 h3.2.2.1 h3.2.2.2 ?_
  have h4 := h2.2
  refine List.map_inj_right (f := fun x : UInt8 => (x.toNat : Int)) (fun x y he => ?_) |>.1 h4
  exact UInt8.toNat_inj.1 (Int.ofNat_inj.1 he)
instance : DecidableEq Pi := fun _ _ => decidable_of_iff _ piN_inj
theorem eq_pi : EqC Tryz.prog 43 piK true 3 := by
  have hi := EqC.int Tryz.isAgg3 Tryz.sizeOf3 Tryz.underlying3
  have hu := EqC.int Tryz.isAgg5 Tryz.sizeOf5 Tryz.underlying5
  have ha : EqC Tryz.prog 41 (List.replicate 32 .u8) true 2 := EqC.array hu Tryz.isAgg41 Tryz.sizeOf41 Tryz.underlying41 (info_of_run Tryz.typeInfo5 default) (by kernel_rfl) rfl
  refine EqC.struct (d0 := 2) Tryz.isAgg43 Tryz.sizeOf43 Tryz.underlying43 (by kernel_rfl) ?_
  unfold piK
  refine FieldsC.cons (by decide) rfl hi (by decide) ?_
  refine FieldsC.cons (by decide) rfl hi (by decide) ?_
  refine FieldsC.cons (by decide) rfl hi (by decide) ?_
  refine FieldsC.cons (by decide) rfl hi (by decide) ?_
  exact FieldsC.cons (by decide) rfl ha (by decide) .nil

section
variable {E : Env} {w : World} {d : Option Nat} {ty : TypeId} {pos : String} {after : Array Edge} {t' : TypeId} {x y : Operand} {f g : Pi}
theorem R_eq_P (hx : ev E x = vP f) (hy : ev E y = vP g)
    : (execOp (ev E) (mk d (.binOp .eql 43 x y t') ty pos after)).run Tryz.prog w = .ok (.value (.bool (decide (f = g)))) w := by
  rw [R_eq_C eq_pi (by decide) (by kernel_rfl) hx hy (piC_K f) (piC_K g) (piN_len f) (piN_len g), decide_eq_decide.2 piN_inj]
theorem R_ne_P (hx : ev E x = vP f) (hy : ev E y = vP g)
    : (execOp (ev E) (mk d (.binOp .neq 43 x y t') ty pos after)).run Tryz.prog w = .ok (.value (.bool (decide (¬ f = g)))) w := by
  rw [R_ne_C eq_pi (by decide) (by kernel_rfl) hx hy (piC_K f) (piC_K g) (piN_len f) (piN_len g), decide_eq_decide.2 (not_congr piN_inj)]
theorem R_ne_P_f (hx : ev E x = vP f) (hy : ev E y = vP f)
    : (execOp (ev E) (mk d (.binOp .neq 43 x y t') ty pos after)).run Tryz.prog w = .ok (.value (.bool false)) w := by
  rw [R_ne_P hx hy, decide_eq_false (fun h => h rfl)]
theorem R_eq_P_t (hx : ev E x = vP f) (hy : ev E y = vP f)
    : (execOp (ev E) (mk d (.binOp .eql 43 x y t') ty pos after)).run Tryz.prog w = .ok (.value (.bool true)) w := by
  rw [R_eq_P hx hy, decide_eq_true rfl]
end
theorem refOf_to {xs : List UInt8} {f : Pi} {d : Int} {w : World} (he : decP xs = (f, d)) (hb : xs.length ≤ 100000) :
    Ret Tryz.prog 29 #[S xs] w fun v w' => v = .tuple #[vP f, I d] ∧ Hp w [] w' := by
  have := refOf_ret (w := w) hb
  rw [he] at this
  exact this
end Go.Proofs.YthonajikgljgmaaGreat.Ring
