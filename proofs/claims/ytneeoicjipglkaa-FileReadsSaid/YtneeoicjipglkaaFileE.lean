/-
  Package ofile's own try; the law FileCodes.
-/
import Derived.Test.YtneeoicjipglkaaFileD
import Derived.Test.YtneeoicjipglkaaFxZ
namespace Go.Proofs.Ytneeoicjipglkaa.File
open Go Go.Proofs Go.Proofs.Ytneeoicjipglkaa.Fx Go.Proofs.Ytneeoicjipglkaa.Codec
set_option maxRecDepth 100000
set_option linter.unusedVariables false
set_option linter.unusedSimpArgs false
set_option maxHeartbeats 2000000

def fK : List IntKind := [.i64, .i64, .i64, .i64]
def fN (f : Fl) : List Int := [f.k, f.p, f.r, f.g]
theorem flC_K (f : Fl) : flC f = cellsK fK (fN f) := rfl
theorem fN_inj {f g : Fl} : fN f = fN g ↔ f = g := by
  obtain ⟨a, b, c, d⟩ := f
  obtain ⟨x, y, z, u⟩ := g
  simp [fN]
instance : DecidableEq Fl := fun _ _ => decidable_of_iff _ fN_inj
theorem eq_file : EqC Try.prog 23 fK true 2 := by
  have hi := EqC.int Try.isAgg3 Try.sizeOf3 Try.underlying3
  refine EqC.struct (d0 := 1) Try.isAgg23 Try.sizeOf23 Try.underlying23 (by kernel_rfl) ?_
  refine FieldsC.cons (k := [.i64]) (ks := [.i64, .i64, .i64]) (by decide) rfl hi (Nat.le_refl _) ?_
  refine FieldsC.cons (k := [.i64]) (ks := [.i64, .i64]) (by decide) rfl hi (Nat.le_refl _) ?_
  refine FieldsC.cons (k := [.i64]) (ks := [.i64]) (by decide) rfl hi (Nat.le_refl _) ?_
  exact FieldsC.cons (k := [.i64]) (ks := []) (by decide) rfl hi (Nat.le_refl _) .nil

section
variable {E : Env} {w : World} {d : Option Nat} {ty : TypeId} {pos : String} {after : Array Edge} {t' : TypeId} {x y : Operand} {f g : Fl} {xs ys : List Value}
theorem R_eq_F (hx : ev E x = .agg xs.toArray) (hy : ev E y = .agg ys.toArray) (hxs : xs = flC f) (hys : ys = flC g)
    : (execOp (ev E) (mk d (.binOp .eql 23 x y t') ty pos after)).run Try.prog w = .ok (.value (.bool (decide (f = g)))) w := by
  rw [R_eq_C eq_file (by decide) (by kernel_rfl) hx hy (hxs.trans (flC_K f)) (hys.trans (flC_K g)) rfl rfl, decide_eq_decide.2 fN_inj]
theorem R_ne_F (hx : ev E x = .agg xs.toArray) (hy : ev E y = .agg ys.toArray) (hxs : xs = flC f) (hys : ys = flC g)
    : (execOp (ev E) (mk d (.binOp .neq 23 x y t') ty pos after)).run Try.prog w = .ok (.value (.bool (decide (¬ f = g)))) w := by
  rw [R_ne_C eq_file (by decide) (by kernel_rfl) hx hy (hxs.trans (flC_K f)) (hys.trans (flC_K g)) rfl rfl, decide_eq_decide.2 (not_congr fN_inj)]
theorem R_ne_F_f (hx : ev E x = .agg xs.toArray) (hy : ev E y = .agg ys.toArray) (hxs : xs = flC f) (hys : ys = flC f)
    : (execOp (ev E) (mk d (.binOp .neq 23 x y t') ty pos after)).run Try.prog w = .ok (.value (.bool false)) w := by
  rw [R_ne_F hx hy hxs hys, decide_eq_false (fun h => h rfl)]
theorem R_eq_F_t (hx : ev E x = .agg xs.toArray) (hy : ev E y = .agg ys.toArray) (hxs : xs = flC f) (hys : ys = flC f)
    : (execOp (ev E) (mk d (.binOp .eql 23 x y t') ty pos after)).run Try.prog w = .ok (.value (.bool true)) w := by
  rw [R_eq_F hx hy hxs hys, decide_eq_true rfl]
end

theorem enc_yes (f : Fl) (hok : fileOk f) (w : World) :
    Ret Try.prog 7 #[vF f] w fun v w' => ∃ b, v = .tuple #[sl b 0 8 8, .bool true] ∧ w.heap.size ≤ b ∧ Hp w [(b, blk ((fileBytes f).map U) 5)] w' :=
  (enc_ret f w).mono fun v w' h => by
    rcases h with ⟨_, h⟩ | ⟨h, _⟩
    · exact h
    · exact (h hok).elim
theorem enc_no (f : Fl) (hok : ¬ fileOk f) (w : World) :
    Ret Try.prog 7 #[vF f] w fun v w' => v = .tuple #[nilS, .bool false] ∧ Hp w [] w' :=
  (enc_ret f w).mono fun v w' h => by
    rcases h with ⟨h, _⟩ | ⟨_, h⟩
    · exact (hok h).elim
    · exact h
theorem dec_to {xs : List UInt8} {f : Fl} {d : Int} {w : World} {l : Value} (he : decP xs = (f, d)) (hl : RdS w l (xs.map U)) (hb : xs.length ≤ 100000) :
    Ret Try.prog 11 #[l] w fun v w' => v = .tuple #[vF f, I d] ∧ Hp w [] w' := by
  have := dec_ret hl hb
  rw [he] at this
  exact this
theorem refOf_to {xs : List UInt8} {f : Fl} {d : Int} {w : World} (he : decP xs = (f, d)) (hb : xs.length ≤ 100000) :
    Ret Try.prog 14 #[S xs] w fun v w' => v = .tuple #[vF f, I d] ∧ Hp w [] w' := by
  have := refOf_ret (w := w) hb
  rw [he] at this
  exact this
theorem ok_to {f : Fl} {b : Bool} (h : decide (fileOk f) = b) (w : World) : Ret Try.prog 9 #[vF f] w fun v w' => v = .bool b ∧ Hp w [] w' := by
  subst h; exact ok_ret f w
theorem refOk_to {f : Fl} {b : Bool} (h : decide (fileOk f) = b) (w : World) : Ret Try.prog 8 #[vF f] w fun v w' => v = .bool b ∧ Hp w [] w' := by
  subst h; exact refOk_ret f w

theorem awake_ret (w : World) : Ret Try.prog 13 #[] w fun v w' => v = .bool true ∧ Hp w [] w' := by
  refine Ret_of_W (args := []) Try.func13 rfl Try.ntmps13 Try.results13 (by simp) ?_
  have H := Hp.refl w
  have hok : fileOk ⟨3, 0, 1, 0⟩ := by decide
  refine W_seq ?_
  refine W_region_l ?_
  refine WL_stepM rfl (R_as) ?_
  refine WL_nil ?_
  refine W_seq ?_
  refine W_region_l ?_
  refine WL_step rfl (R_buildL (places := [(0, 1), (1, 1), (2, 1), (3, 1)]) (vs := [(.int _ _), (.int _ _), (.int _ _), (.int _ _)]) Try.underlying23 Try.typeInfo23 rfl rfl (by kernel_rfl) rfl rfl rfl) ?_
  (refine WL_call rfl (R_call rfl Try.call7 rfl) (enc_yes ⟨3, 0, 1, 0⟩ hok _) ?_; rintro _ w8 ⟨b, rfl, hb, H1⟩; replace H := H.seqN H1 (kCons hb kNil); clear H1)
  refine WL_stepM rfl (R_mv) ?_
  refine WL_step rfl (R_extract rfl rfl) ?_
  refine WL_step rfl (R_extract rfl rfl) ?_
  refine WL_stepM rfl (R_as) ?_
  refine WL_stepM rfl (R_as) ?_
  refine WL_nil ?_
  refine W_seq ?_
  refine W_region_l ?_
  (refine WL_effn rfl (E_makeSlice H Try.underlying24 Try.sizeOf5 Try.typeInfo5 Try.zeroValue5 rfl rfl rfl (by decide) (by decide) (by decide) (by decide)) ?_; clear H; intro bz w17 hbz H; replace H : Hp w [(bz, blk ((List.replicate 8 0).map U) 5), (b, blk ((fileBytes ⟨3, 0, 1, 0⟩).map U) 5)] _ := H)
  (refine WL_call rfl (R_call rfl Try.call11 rfl) (dec_to (xs := List.replicate 8 0) (decP_free rfl (by simp)) (RdS.blk (c := (List.replicate 8 0).map U) (off := 0) (H.get .here) rfl (by simp) (by decide)) (by simp)) ?_; rintro _ w18 ⟨rfl, H1⟩; replace H := H.seq0 H1; clear H1)
  refine WL_stepM rfl (R_mv) ?_
  refine WL_step rfl (R_extract rfl rfl) ?_
  refine WL_step rfl (R_extract rfl rfl) ?_
  (refine WL_effn rfl (E_alloc H Try.zeroValue23 rfl) ?_; clear H; intro b22 w22 hb22 H)
  (refine WL_effu rfl (E_storeA (vs := [(.int _ _), (.int _ _), (.int _ _), (.int _ _)]) H Try.sizeOf23 rfl rfl (by simp [Value.oneCell']) .here (by simp)) ?_; clear H; intro w23 H)
  refine WL_stepM rfl (R_as) ?_
  refine WL_nil ?_
  refine W_seq ?_
  refine W_region_l ?_
  refine WL_stepM rfl (R_mv) ?_
  (refine WL_call rfl (R_call rfl Try.call11 rfl) (dec_to (decP_bytes hok) (RdS.blk (c := (fileBytes ⟨3, 0, 1, 0⟩).map U) (off := 0) (H.get (.there (.there .here))) rfl (by decide) (by decide)) (by decide)) ?_; rintro _ w29 ⟨rfl, H1⟩; replace H := H.seq0 H1; clear H1)
  refine WL_stepM rfl (R_mv) ?_
  refine WL_step rfl (R_extract rfl rfl) ?_
  refine WL_step rfl (R_extract rfl rfl) ?_
  (refine WL_effn rfl (E_alloc H Try.zeroValue23 rfl) ?_; clear H; intro b33 w33 hb33 H)
  (refine WL_effu rfl (E_storeA (vs := [(.int _ _), (.int _ _), (.int _ _), (.int _ _)]) H Try.sizeOf23 rfl rfl (by simp [Value.oneCell']) .here (by simp)) ?_; clear H; intro w34 H)
  refine WL_stepM rfl (R_as) ?_
  refine WL_nil ?_
  refine W_seq ?_
  refine W_region_l ?_
  refine WL_stepM rfl (R_mv) ?_
  refine WL_stepM rfl (R_mv) ?_
  refine WL_guard_t rfl rfl ?_
  refine WL_stepM rfl (R_mv) ?_
  refine WL_guard_t rfl rfl ?_
  refine WL_step rfl (R_len_slice Try.underlying24 rfl) ?_
  refine WL_guard_t rfl rfl ?_
  refine WL_step rfl (R_eq_t rfl rfl (by omega)) ?_
  refine WL_stepM rfl (R_pk_t rfl) ?_
  refine WL_stepM rfl (R_mv) ?_
  refine WL_guard_t rfl rfl ?_
  refine WL_stepM rfl (R_mv) ?_
  refine WL_guard_t rfl rfl ?_
  refine WL_step rfl (R_eq_t rfl rfl (by omega)) ?_
  refine WL_stepM rfl (R_pk_t rfl) ?_
  refine WL_stepM rfl (R_mv) ?_
  refine WL_guard_t rfl rfl ?_
  refine WL_stepM rfl (R_mv) ?_
  refine WL_guard_t rfl rfl ?_
  refine WL_step rfl (R_eq_t rfl rfl (by omega)) ?_
  refine WL_stepM rfl (R_pk_t rfl) ?_
  refine WL_stepM rfl (R_mv) ?_
  refine WL_guard_t rfl rfl ?_
  refine WL_step rfl (R_fieldAddr (off' := 0) Try.underlying23 rfl Try.sizeOf3 (by decide) rfl rfl) ?_
  refine WL_guard_t rfl rfl ?_
  refine WL_step rfl (R_load Try.isAgg3 rfl (H.get .here) rfl) ?_
  refine WL_guard_t rfl rfl ?_
  refine WL_step rfl (R_eq_t rfl rfl (by decide)) ?_
  refine WL_stepM rfl (R_pk_t rfl) ?_
  refine WL_stepM rfl (R_as) ?_
  refine WL_nil ?_
  refine W_ret ?_
  exact ⟨_, rfl, rfl, H.none (by repeat' first | exact kNil | apply kCons | apply kApp | assumption | exact OwnS.keys (by assumption))⟩

theorem codes_ret (raw : Fl) (a : Int) (w : World) : Ret Try.prog 3 #[vF raw, I a] w fun v w' => v = .bool true ∧ Hp w [] w' := by
  refine Ret_of_W (args := [_, _]) Try.func3 rfl Try.ntmps3 Try.results3 (by simp) ?_
  have H := Hp.refl w
  have hfa := fileN_ok a
  refine W_seq ?_
  refine W_region_l ?_
  (refine WL_effn rfl (E_box (v := vF raw) (vs := flC raw) H rfl rfl) ?_; clear H; intro b2 w3 hb2 H)
  refine WL_stepM rfl (R_as) ?_
  refine WL_nil ?_
  refine W_seq ?_
  refine W_region_l ?_
  refine WL_step rfl (R_loadA (vs := flC raw) Try.isAgg23 Try.sizeOf23 rfl (H.get .here) rfl (by simp [flC])) ?_
  (refine WL_effn rfl (E_alloc (vs := flC zeroF) H Try.zeroValue23 rfl) ?_; clear H; intro b5 w9 hb5 H)
  (refine WL_effu rfl (E_storeA (vs := flC raw) H Try.sizeOf23 rfl rfl (by simp [flC, Value.oneCell']) .here (by simp [flC])) ?_; clear H; intro w10 H; replace H : Hp w [(b5, blk (flC raw) 23), (b2, blk (flC raw) 23)] _ := H)
  refine WL_nil ?_
  refine W_seq ?_
  refine W_seq ?_
  refine W_region_l ?_
  refine WL_stepM rfl (R_as) ?_
  refine WL_nil ?_
  refine W_block ?_
  refine W_loopS [(4, 4), (6, 11), (13, 66)] (fun (i : Nat) E w' => ∃ f, i ≤ 2 ∧ (i ≠ 0 → f = fileN a) ∧ E 6 = I i ∧ Hp w [(b5, blk (flC f) 23), (b2, blk (flC raw) 23)] w') (fun i => 2 - i) 0 ?e0 ?r0
  · exact ⟨raw, by omega, fun h => (h rfl).elim, rfl, H⟩
  · (clear H; rintro i E w1 ⟨f, hi, hfi, h0, H⟩; refine W_kn h0 ?_; by_cases hlt : i < 2)
    · refine W_seq ?_
      refine W_seq ?_
      refine W_region_l ?_
      refine WL_stepM rfl (R_mv) ?_
      refine WL_step rfl (R_lt_t rfl rfl (by omega)) ?_
      refine WL_nil ?_
      refine W_cond_t rfl ?_
      refine W_skip ?_
      refine W_seq ?_
      refine W_block ?_
      refine W_seq ?_
      (by_cases hok : fileOk f) <;> refine W_region_l ?_
      · refine WL_step rfl (R_loadA (vs := flC f) Try.isAgg23 Try.sizeOf23 rfl (H.get .here) rfl (by simp [flC])) ?_
        (refine WL_call rfl (R_call rfl Try.call7 rfl) (enc_yes f hok _) ?_; rintro _ w33 ⟨b, rfl, hb, H1⟩; have hsz := H.size; replace H := H.seqN H1 (kCons hb kNil); replace hb := Nat.le_trans hsz hb; clear H1 hsz)
        refine WL_stepM rfl (R_mv) ?_
        refine WL_step rfl (R_extract rfl rfl) ?_
        refine WL_step rfl (R_extract rfl rfl) ?_
        refine WL_stepM rfl (R_as) ?_
        refine WL_stepM rfl (R_as) ?_
        refine WL_nil ?_
        refine W_seq ?_
        refine W_region_l ?_
        refine WL_step rfl (R_loadA (vs := flC f) Try.isAgg23 Try.sizeOf23 rfl (H.get (.there .here)) rfl (by simp [flC])) ?_
        (refine WL_call rfl (R_call rfl Try.call8 rfl) (refOk_to (decide_eq_true hok) _) ?_; rintro _ w43 ⟨rfl, H1⟩; replace H := H.seq0 H1; clear H1)
        refine WL_stepM rfl (R_as) ?_
        refine WL_nil ?_
        refine W_seq ?_
        refine W_seq ?_
        (have _g := hb; refine W_draw (KH w [(b, blk ((fileBytes f).map U) 5), (b5, blk (flC f) 23)]) (fun _ => false) (by kernel_rfl) H ?_; clear H; intro w48 H)
        refine WA_takeM 0 rfl rfl rfl (by kernel_rfl) (by kernel_rfl) (H.kh (by simp) (by repeat' first | exact kNil | apply kCons | apply kApp | assumption | exact OwnS.keys (by assumption))) (fun _ hC => R_mv) ?_
        refine WA_takeM 1 rfl rfl rfl (by kernel_rfl) (by kernel_rfl) (H.kh (by simp) (by repeat' first | exact kNil | apply kCons | apply kApp | assumption | exact OwnS.keys (by assumption))) (fun _ hC => R_mv) ?_
        refine WA_take 2 rfl rfl rfl (by kernel_rfl) (by kernel_rfl) (H.kh (by simp) (by repeat' first | exact kNil | apply kCons | apply kApp | assumption | exact OwnS.keys (by assumption))) (fun _ hC => R_ne_bool_f Try.underlying4 rfl rfl (by decide)) ?_
        refine WA_takeM 3 rfl rfl rfl (by kernel_rfl) (by kernel_rfl) (H.kh (by simp) (by repeat' first | exact kNil | apply kCons | apply kApp | assumption | exact OwnS.keys (by assumption))) (fun _ hC => R_mv) ?_
        refine WA_takeG 4 rfl rfl rfl rfl (by kernel_rfl) (by kernel_rfl) (H.kh (by simp) (by repeat' first | exact kNil | apply kCons | apply kApp | assumption | exact OwnS.keys (by assumption))) (fun _ hC => R_loadA (vs := flC f) Try.isAgg23 Try.sizeOf23 rfl (hC.get (.there .here)) rfl (by simp [flC])) ?_
        refine WA_takeGM 6 rfl rfl rfl rfl (by kernel_rfl) (by kernel_rfl) (H.kh (by simp) (by repeat' first | exact kNil | apply kCons | apply kApp | assumption | exact OwnS.keys (by assumption))) (fun _ hC => R_mv) ?_
        refine WA_one (i := 5) (by kernel_rfl) ?_
        (refine WI_call rfl (.inr ⟨_, _, rfl, rfl⟩) (R_call rfl Try.call9 rfl) (ok_to (decide_eq_true hok) _) (fun _ _ hR _ => (H.seq0 hR.2).kh (by simp) (by repeat' first | exact kNil | apply kCons | apply kApp | assumption | exact OwnS.keys (by assumption))) ?_; rintro _ w56 ⟨rfl, H1⟩; replace H := H.seq0 H1; clear H1)
        refine WA_takeG 7 rfl rfl rfl rfl (by kernel_rfl) (by kernel_rfl) (H.kh (by simp) (by repeat' first | exact kNil | apply kCons | apply kApp | assumption | exact OwnS.keys (by assumption))) (fun _ hC => R_ne_bool_f Try.underlying4 rfl rfl (by decide)) ?_
        refine WA_takeM 8 rfl rfl rfl (by kernel_rfl) (by kernel_rfl) (H.kh (by simp) (by repeat' first | exact kNil | apply kCons | apply kApp | assumption | exact OwnS.keys (by assumption))) (fun _ hC => R_pk_f rfl) ?_
        refine WA_takeM 9 rfl rfl rfl (by kernel_rfl) (by kernel_rfl) (H.kh (by simp) (by repeat' first | exact kNil | apply kCons | apply kApp | assumption | exact OwnS.keys (by assumption))) (fun _ hC => R_mv) ?_
        refine WA_takeGM 10 rfl rfl rfl rfl (by kernel_rfl) (by kernel_rfl) (H.kh (by simp) (by repeat' first | exact kNil | apply kCons | apply kApp | assumption | exact OwnS.keys (by assumption))) (fun _ hC => R_mv) ?_
        refine WA_takeG 11 rfl rfl rfl rfl (by kernel_rfl) (by kernel_rfl) (H.kh (by simp) (by repeat' first | exact kNil | apply kCons | apply kApp | assumption | exact OwnS.keys (by assumption))) (fun _ hC => R_not_t rfl) ?_
        refine WA_takeGM 12 rfl rfl rfl rfl (by kernel_rfl) (by kernel_rfl) (H.kh (by simp) (by repeat' first | exact kNil | apply kCons | apply kApp | assumption | exact OwnS.keys (by assumption))) (fun _ hC => R_mv) ?_
        refine WA_pass 13 rfl rfl rfl (fun h => nomatch h) (by kernel_rfl) (by kernel_rfl) (H.kh (by simp) (by repeat' first | exact kNil | apply kCons | apply kApp | assumption | exact OwnS.keys (by assumption))) ?_
        refine WA_pass 14 rfl rfl rfl (fun h => nomatch h) (by kernel_rfl) (by kernel_rfl) (H.kh (by simp) (by repeat' first | exact kNil | apply kCons | apply kApp | assumption | exact OwnS.keys (by assumption))) ?_
        refine WA_pass 15 rfl rfl rfl (fun h => nomatch h) (by kernel_rfl) (by kernel_rfl) (H.kh (by simp) (by repeat' first | exact kNil | apply kCons | apply kApp | assumption | exact OwnS.keys (by assumption))) ?_
        refine WA_takeGM 16 rfl rfl rfl rfl (by kernel_rfl) (by kernel_rfl) (H.kh (by simp) (by repeat' first | exact kNil | apply kCons | apply kApp | assumption | exact OwnS.keys (by assumption))) (fun _ hC => R_pk_f rfl) ?_
        refine WA_takeM 17 rfl rfl rfl (by kernel_rfl) (by kernel_rfl) (H.kh (by simp) (by repeat' first | exact kNil | apply kCons | apply kApp | assumption | exact OwnS.keys (by assumption))) (fun _ hC => R_pk_f rfl) ?_
        refine WA_takeM 18 rfl rfl rfl (by kernel_rfl) (by kernel_rfl) (H.kh (by simp) (by repeat' first | exact kNil | apply kCons | apply kApp | assumption | exact OwnS.keys (by assumption))) (fun _ hC => R_mv) ?_
        refine WA_takeGM 19 rfl rfl rfl rfl (by kernel_rfl) (by kernel_rfl) (H.kh (by simp) (by repeat' first | exact kNil | apply kCons | apply kApp | assumption | exact OwnS.keys (by assumption))) (fun _ hC => R_mv) ?_
        refine WA_takeGM 20 rfl rfl rfl rfl (by kernel_rfl) (by kernel_rfl) (H.kh (by simp) (by repeat' first | exact kNil | apply kCons | apply kApp | assumption | exact OwnS.keys (by assumption))) (fun _ hC => R_mv) ?_
        refine WA_takeGM 21 rfl rfl rfl rfl (by kernel_rfl) (by kernel_rfl) (H.kh (by simp) (by repeat' first | exact kNil | apply kCons | apply kApp | assumption | exact OwnS.keys (by assumption))) (fun _ hC => R_mv) ?_
        refine WA_takeG 22 rfl rfl rfl rfl (by kernel_rfl) (by kernel_rfl) (H.kh (by simp) (by repeat' first | exact kNil | apply kCons | apply kApp | assumption | exact OwnS.keys (by assumption))) (fun _ hC => R_conv_bs (xs := fileBytes f) Try.underlying24 Try.underlying5 Try.underlying9 rfl (RdS.blk (c := (fileBytes f).map U) (off := 0) (hC.get .here) rfl (by simp [bytes_len]) (by decide))) ?_
        refine WA_takeG 23 rfl rfl rfl rfl (by kernel_rfl) (by kernel_rfl) (H.kh (by simp) (by repeat' first | exact kNil | apply kCons | apply kApp | assumption | exact OwnS.keys (by assumption))) (fun _ hC => R_loadA (vs := flC f) Try.isAgg23 Try.sizeOf23 rfl (hC.get (.there .here)) rfl (by simp [flC])) ?_
        refine WA_one (i := 24) (by kernel_rfl) ?_
        (refine WI_call rfl (.inr ⟨_, _, rfl, rfl⟩) (R_call rfl Try.call10 rfl) (refBytes_ret f hok _) (fun _ _ hR _ => (H.seq0 hR.2).kh (by simp) (by repeat' first | exact kNil | apply kCons | apply kApp | assumption | exact OwnS.keys (by assumption))) ?_; rintro _ w75 ⟨rfl, H1⟩; replace H := H.seq0 H1; clear H1)
        refine WA_takeG 25 rfl rfl rfl rfl (by kernel_rfl) (by kernel_rfl) (H.kh (by simp) (by repeat' first | exact kNil | apply kCons | apply kApp | assumption | exact OwnS.keys (by assumption))) (fun _ hC => R_ne_S_f rfl rfl rfl) ?_
        refine WA_takeGM 26 rfl rfl rfl rfl (by kernel_rfl) (by kernel_rfl) (H.kh (by simp) (by repeat' first | exact kNil | apply kCons | apply kApp | assumption | exact OwnS.keys (by assumption))) (fun _ hC => R_pk_t rfl) ?_
        refine WA_takeM 27 rfl rfl rfl (by kernel_rfl) (by kernel_rfl) (H.kh (by simp) (by repeat' first | exact kNil | apply kCons | apply kApp | assumption | exact OwnS.keys (by assumption))) (fun _ hC => R_pk_f rfl) ?_
        refine WA_done (by kernel_rfl) ?_
        refine W_cond_f rfl ?_
        refine W_skip ?_
        refine W_seq ?_
        refine W_seq ?_
        refine W_region_l ?_
        refine WL_stepM rfl (R_mv) ?_
        refine WL_nil ?_
        refine W_cond_t rfl ?_
        refine W_seq ?_
        refine W_region_l ?_
        refine WL_stepM rfl (R_mv) ?_
        (refine WL_call rfl (R_call rfl Try.call11 rfl) (dec_to (decP_bytes hok) (RdS.blk (c := (fileBytes f).map U) (off := 0) (H.get .here) rfl (by simp [bytes_len]) (by decide)) (by simp [bytes_len])) ?_; rintro _ w91 ⟨rfl, H1⟩; replace H := H.seq0 H1; clear H1)
        refine WL_stepM rfl (R_mv) ?_
        refine WL_step rfl (R_extract rfl rfl) ?_
        refine WL_step rfl (R_extract rfl rfl) ?_
        (refine WL_effn rfl (E_alloc (vs := flC zeroF) H Try.zeroValue23 rfl) ?_; clear H; intro b10 w95 hb10 H)
        (have _g := hb10; refine WL_effu rfl (E_storeA (vs := flC f) H Try.sizeOf23 rfl rfl (by simp [flC, Value.oneCell']) .here (by simp [flC])) ?_; clear H; intro w96 H; replace H : Hp w [(b10, blk (flC f) 23), (b, blk ((fileBytes f).map U) 5), (b5, blk (flC f) 23), (b2, blk (flC raw) 23)] _ := H)
        refine WL_stepM rfl (R_as) ?_
        refine WL_nil ?_
        refine W_seq ?_
        refine W_region_l ?_
        refine WL_stepM rfl (R_mv) ?_
        refine WL_step rfl (R_ne_f rfl rfl (by omega)) ?_
        refine WL_stepM rfl (R_mv) ?_
        refine WL_guard_t rfl rfl ?_
        refine WL_step rfl (R_loadA (vs := flC f) Try.isAgg23 Try.sizeOf23 rfl (H.get .here) rfl (by simp [flC])) ?_
        refine WL_guard_t rfl rfl ?_
        refine WL_step rfl (R_loadA (vs := flC f) Try.isAgg23 Try.sizeOf23 rfl (H.get (.there (.there .here))) rfl (by simp [flC])) ?_
        refine WL_guard_t rfl rfl ?_
        refine WL_step rfl (R_ne_F_f (f := f) rfl rfl rfl rfl) ?_
        refine WL_stepM rfl (R_pk_f rfl) ?_
        refine WL_nil ?_
        refine W_cond_f rfl ?_
        refine W_skip ?_
        ((have _g := hok; replace H := Hp.dropN (M := [_, _]) H (kCons hb10 (kCons hb kNil)))) <;> refine W_region_l ?_
        refine WL_stepM rfl (R_mv) ?_
        (refine WL_call rfl (R_call rfl Try.call12 rfl) (file_ret a _) ?_; rintro _ w116 ⟨rfl, H1⟩; replace H := H.seq0 H1; clear H1)
        (refine WL_effu rfl (E_storeA (vs := flC (fileN a)) H Try.sizeOf23 rfl rfl (by simp [flC, Value.oneCell']) .here (by simp [flC])) ?_; clear H; intro w117 H; replace H : Hp w [(b5, blk (flC (fileN a)) 23), (b2, blk (flC raw) 23)] _ := H)
        refine WL_nil ?_
        refine W_region_l ?_
        refine WL_stepM rfl (R_mv) ?_
        refine WL_step rfl (R_add rfl rfl (w_i64 (by omega))) ?_
        refine WL_stepM rfl (R_as) ?_
        refine WL_nil ?_
        exact ⟨(same_mov rfl (same_updo rfl (same_mov rfl (same_updn (same_updo rfl (same_mov rfl (same_mov rfl (same_updo rfl (same_updo rfl (same_updo rfl (same_mov rfl (same_updo rfl (same_mov rfl (same_mov rfl (same_updn (same_updo rfl (same_updo rfl (same_updo rfl (same_mov rfl (same_updo rfl (same_mov rfl (same_mov rfl (same_mov rfl (same_mov rfl (same_updo rfl (same_updo rfl (same_updo rfl (same_updo rfl (same_mov rfl (same_mov rfl (same_mov rfl (same_mov rfl (same_mov rfl (same_mov rfl (same_updo rfl (same_updo rfl (same_updo rfl (same_mov rfl (same_updo rfl (same_mov rfl (same_mov rfl (same_mov rfl (same_updo rfl (same_updo rfl (same_mov rfl (same_updo rfl (same_mov rfl (same_updo rfl (same_mov rfl (same_mov rfl (same_mov rfl (same_updo rfl (same_updo rfl (same_mov rfl (same_mov rfl (same_updo rfl (same_updo rfl (same_mov rfl (same_updo rfl (same_updo rfl (same_updo rfl (same_mov rfl same_ovr)))))))))))))))))))))))))))))))))))))))))))))))))))))))))))))), i + 1, by omega, fileN a, by omega, fun _ => rfl, rfl, H⟩
      · refine WL_step rfl (R_loadA (vs := flC f) Try.isAgg23 Try.sizeOf23 rfl (H.get .here) rfl (by simp [flC])) ?_
        (refine WL_call rfl (R_call rfl Try.call7 rfl) (enc_no f hok _) ?_; rintro _ w126 ⟨rfl, H1⟩; replace H := H.seq0 H1; clear H1)
        refine WL_stepM rfl (R_mv) ?_
        refine WL_step rfl (R_extract rfl rfl) ?_
        refine WL_step rfl (R_extract rfl rfl) ?_
        refine WL_stepM rfl (R_as) ?_
        refine WL_stepM rfl (R_as) ?_
        refine WL_nil ?_
        refine W_seq ?_
        refine W_region_l ?_
        refine WL_step rfl (R_loadA (vs := flC f) Try.isAgg23 Try.sizeOf23 rfl (H.get .here) rfl (by simp [flC])) ?_
        (refine WL_call rfl (R_call rfl Try.call8 rfl) (refOk_to (decide_eq_false hok) _) ?_; rintro _ w136 ⟨rfl, H1⟩; replace H := H.seq0 H1; clear H1)
        refine WL_stepM rfl (R_as) ?_
        refine WL_nil ?_
        refine W_seq ?_
        refine W_seq ?_
        (refine W_draw (KH w [(b5, blk (flC f) 23)]) (fun _ => false) (by kernel_rfl) H ?_; clear H; intro w141 H)
        refine WA_takeM 0 rfl rfl rfl (by kernel_rfl) (by kernel_rfl) (H.kh (by simp) (by repeat' first | exact kNil | apply kCons | apply kApp | assumption | exact OwnS.keys (by assumption))) (fun _ hC => R_mv) ?_
        refine WA_takeM 1 rfl rfl rfl (by kernel_rfl) (by kernel_rfl) (H.kh (by simp) (by repeat' first | exact kNil | apply kCons | apply kApp | assumption | exact OwnS.keys (by assumption))) (fun _ hC => R_mv) ?_
        refine WA_take 2 rfl rfl rfl (by kernel_rfl) (by kernel_rfl) (H.kh (by simp) (by repeat' first | exact kNil | apply kCons | apply kApp | assumption | exact OwnS.keys (by assumption))) (fun _ hC => R_ne_bool_f Try.underlying4 rfl rfl (by decide)) ?_
        refine WA_takeM 3 rfl rfl rfl (by kernel_rfl) (by kernel_rfl) (H.kh (by simp) (by repeat' first | exact kNil | apply kCons | apply kApp | assumption | exact OwnS.keys (by assumption))) (fun _ hC => R_mv) ?_
        refine WA_takeG 4 rfl rfl rfl rfl (by kernel_rfl) (by kernel_rfl) (H.kh (by simp) (by repeat' first | exact kNil | apply kCons | apply kApp | assumption | exact OwnS.keys (by assumption))) (fun _ hC => R_loadA (vs := flC f) Try.isAgg23 Try.sizeOf23 rfl (hC.get .here) rfl (by simp [flC])) ?_
        refine WA_takeGM 6 rfl rfl rfl rfl (by kernel_rfl) (by kernel_rfl) (H.kh (by simp) (by repeat' first | exact kNil | apply kCons | apply kApp | assumption | exact OwnS.keys (by assumption))) (fun _ hC => R_mv) ?_
        refine WA_one (i := 5) (by kernel_rfl) ?_
        (refine WI_call rfl (.inr ⟨_, _, rfl, rfl⟩) (R_call rfl Try.call9 rfl) (ok_to (decide_eq_false hok) _) (fun _ _ hR _ => (H.seq0 hR.2).kh (by simp) (by repeat' first | exact kNil | apply kCons | apply kApp | assumption | exact OwnS.keys (by assumption))) ?_; rintro _ w149 ⟨rfl, H1⟩; replace H := H.seq0 H1; clear H1)
        refine WA_takeG 7 rfl rfl rfl rfl (by kernel_rfl) (by kernel_rfl) (H.kh (by simp) (by repeat' first | exact kNil | apply kCons | apply kApp | assumption | exact OwnS.keys (by assumption))) (fun _ hC => R_ne_bool_f Try.underlying4 rfl rfl (by decide)) ?_
        refine WA_takeM 8 rfl rfl rfl (by kernel_rfl) (by kernel_rfl) (H.kh (by simp) (by repeat' first | exact kNil | apply kCons | apply kApp | assumption | exact OwnS.keys (by assumption))) (fun _ hC => R_pk_f rfl) ?_
        refine WA_takeM 9 rfl rfl rfl (by kernel_rfl) (by kernel_rfl) (H.kh (by simp) (by repeat' first | exact kNil | apply kCons | apply kApp | assumption | exact OwnS.keys (by assumption))) (fun _ hC => R_mv) ?_
        refine WA_takeGM 10 rfl rfl rfl rfl (by kernel_rfl) (by kernel_rfl) (H.kh (by simp) (by repeat' first | exact kNil | apply kCons | apply kApp | assumption | exact OwnS.keys (by assumption))) (fun _ hC => R_mv) ?_
        refine WA_takeG 11 rfl rfl rfl rfl (by kernel_rfl) (by kernel_rfl) (H.kh (by simp) (by repeat' first | exact kNil | apply kCons | apply kApp | assumption | exact OwnS.keys (by assumption))) (fun _ hC => R_not_f rfl) ?_
        refine WA_takeGM 12 rfl rfl rfl rfl (by kernel_rfl) (by kernel_rfl) (H.kh (by simp) (by repeat' first | exact kNil | apply kCons | apply kApp | assumption | exact OwnS.keys (by assumption))) (fun _ hC => R_mv) ?_
        refine WA_takeGM 13 rfl rfl rfl rfl (by kernel_rfl) (by kernel_rfl) (H.kh (by simp) (by repeat' first | exact kNil | apply kCons | apply kApp | assumption | exact OwnS.keys (by assumption))) (fun _ hC => R_mv) ?_
        refine WA_takeG 14 rfl rfl rfl rfl (by kernel_rfl) (by kernel_rfl) (H.kh (by simp) (by repeat' first | exact kNil | apply kCons | apply kApp | assumption | exact OwnS.keys (by assumption))) (fun _ hC => R_len_slice Try.underlying24 rfl) ?_
        refine WA_takeG 15 rfl rfl rfl rfl (by kernel_rfl) (by kernel_rfl) (H.kh (by simp) (by repeat' first | exact kNil | apply kCons | apply kApp | assumption | exact OwnS.keys (by assumption))) (fun _ hC => R_ne_f rfl rfl (by omega)) ?_
        refine WA_takeGM 16 rfl rfl rfl rfl (by kernel_rfl) (by kernel_rfl) (H.kh (by simp) (by repeat' first | exact kNil | apply kCons | apply kApp | assumption | exact OwnS.keys (by assumption))) (fun _ hC => R_pk_t rfl) ?_
        refine WA_takeM 17 rfl rfl rfl (by kernel_rfl) (by kernel_rfl) (H.kh (by simp) (by repeat' first | exact kNil | apply kCons | apply kApp | assumption | exact OwnS.keys (by assumption))) (fun _ hC => R_pk_f rfl) ?_
        refine WA_takeM 18 rfl rfl rfl (by kernel_rfl) (by kernel_rfl) (H.kh (by simp) (by repeat' first | exact kNil | apply kCons | apply kApp | assumption | exact OwnS.keys (by assumption))) (fun _ hC => R_mv) ?_
        refine WA_takeGM 19 rfl rfl rfl rfl (by kernel_rfl) (by kernel_rfl) (H.kh (by simp) (by repeat' first | exact kNil | apply kCons | apply kApp | assumption | exact OwnS.keys (by assumption))) (fun _ hC => R_mv) ?_
        refine WA_takeGM 20 rfl rfl rfl rfl (by kernel_rfl) (by kernel_rfl) (H.kh (by simp) (by repeat' first | exact kNil | apply kCons | apply kApp | assumption | exact OwnS.keys (by assumption))) (fun _ hC => R_mv) ?_
        refine WA_pass 21 rfl rfl rfl (fun h => nomatch h) (by kernel_rfl) (by kernel_rfl) (H.kh (by simp) (by repeat' first | exact kNil | apply kCons | apply kApp | assumption | exact OwnS.keys (by assumption))) ?_
        refine WA_pass 22 rfl rfl rfl (fun h => nomatch h) (by kernel_rfl) (by kernel_rfl) (H.kh (by simp) (by repeat' first | exact kNil | apply kCons | apply kApp | assumption | exact OwnS.keys (by assumption))) ?_
        refine WA_pass 23 rfl rfl rfl (fun h => nomatch h) (by kernel_rfl) (by kernel_rfl) (H.kh (by simp) (by repeat' first | exact kNil | apply kCons | apply kApp | assumption | exact OwnS.keys (by assumption))) ?_
        refine WA_pass 24 rfl rfl rfl (fun h => nomatch h) (by kernel_rfl) (by kernel_rfl) (H.kh (by simp) (by repeat' first | exact kNil | apply kCons | apply kApp | assumption | exact OwnS.keys (by assumption))) ?_
        refine WA_pass 25 rfl rfl rfl (fun h => nomatch h) (by kernel_rfl) (by kernel_rfl) (H.kh (by simp) (by repeat' first | exact kNil | apply kCons | apply kApp | assumption | exact OwnS.keys (by assumption))) ?_
        refine WA_takeGM 26 rfl rfl rfl rfl (by kernel_rfl) (by kernel_rfl) (H.kh (by simp) (by repeat' first | exact kNil | apply kCons | apply kApp | assumption | exact OwnS.keys (by assumption))) (fun _ hC => R_pk_f rfl) ?_
        refine WA_takeM 27 rfl rfl rfl (by kernel_rfl) (by kernel_rfl) (H.kh (by simp) (by repeat' first | exact kNil | apply kCons | apply kApp | assumption | exact OwnS.keys (by assumption))) (fun _ hC => R_pk_f rfl) ?_
        refine WA_done (by kernel_rfl) ?_
        refine W_cond_f rfl ?_
        refine W_skip ?_
        refine W_seq ?_
        refine W_seq ?_
        refine W_region_l ?_
        refine WL_stepM rfl (R_mv) ?_
        refine WL_nil ?_
        refine W_cond_f rfl ?_
        refine W_skip ?_
        refine W_region_l ?_
        refine WL_stepM rfl (R_mv) ?_
        (refine WL_call rfl (R_call rfl Try.call12 rfl) (file_ret a _) ?_; rintro _ w183 ⟨rfl, H1⟩; replace H := H.seq0 H1; clear H1)
        (refine WL_effu rfl (E_storeA (vs := flC (fileN a)) H Try.sizeOf23 rfl rfl (by simp [flC, Value.oneCell']) .here (by simp [flC])) ?_; clear H; intro w184 H; replace H : Hp w [(b5, blk (flC (fileN a)) 23), (b2, blk (flC raw) 23)] _ := H)
        refine WL_nil ?_
        refine W_region_l ?_
        refine WL_stepM rfl (R_mv) ?_
        refine WL_step rfl (R_add rfl rfl (w_i64 (by omega))) ?_
        refine WL_stepM rfl (R_as) ?_
        refine WL_nil ?_
        exact ⟨(same_mov rfl (same_updo rfl (same_mov rfl (same_updn (same_updo rfl (same_mov rfl (same_mov rfl (same_mov rfl (same_mov rfl (same_updo rfl (same_updo rfl (same_updo rfl (same_updo rfl (same_updo rfl (same_mov rfl (same_mov rfl (same_mov rfl (same_mov rfl (same_mov rfl (same_updo rfl (same_updo rfl (same_mov rfl (same_mov rfl (same_updo rfl (same_mov rfl (same_mov rfl (same_mov rfl (same_updo rfl (same_updo rfl (same_mov rfl (same_updo rfl (same_mov rfl (same_updo rfl (same_mov rfl (same_mov rfl (same_mov rfl (same_updo rfl (same_updo rfl (same_mov rfl (same_mov rfl (same_updo rfl (same_updo rfl (same_mov rfl (same_updo rfl (same_updo rfl (same_updo rfl (same_mov rfl same_ovr))))))))))))))))))))))))))))))))))))))))))))))), i + 1, by omega, fileN a, by omega, fun _ => rfl, rfl, H⟩
    · refine W_seq ?_
      refine W_seq ?_
      refine W_region_l ?_
      refine WL_stepM rfl (R_mv) ?_
      refine WL_step rfl (R_lt_f rfl rfl (by omega)) ?_
      refine WL_nil ?_
      refine W_cond_f rfl ?_
      refine W_exit ?_
      refine (if_pos rfl).mpr ?_
      refine W_seq ?_
      ((obtain rfl : f = fileN a := hfi (by omega))) <;> refine W_region_l ?_
      refine WL_step rfl (R_loadA (vs := flC (fileN a)) Try.isAgg23 Try.sizeOf23 rfl (H.get .here) rfl (by simp [flC])) ?_
      (refine WL_call rfl (R_call rfl Try.call8 rfl) (refOk_to (decide_eq_true hfa) _) ?_; rintro _ w204 ⟨rfl, H1⟩; replace H := H.seq0 H1; clear H1)
      refine WL_stepM rfl (R_mv) ?_
      refine WL_guard_t rfl rfl ?_
      (refine WL_call rfl (R_call rfl Try.call13 rfl) (awake_ret _) ?_; rintro _ w207 ⟨rfl, H1⟩; replace H := H.seq0 H1; clear H1)
      refine WL_stepM rfl (R_pk_t rfl) ?_
      refine WL_stepM rfl (R_as) ?_
      refine WL_nil ?_
      refine W_ret ?_
      exact ⟨_, rfl, rfl, H.none (by repeat' first | exact kNil | apply kCons | apply kApp | assumption | exact OwnS.keys (by assumption))⟩
end Go.Proofs.Ytneeoicjipglkaa.File
