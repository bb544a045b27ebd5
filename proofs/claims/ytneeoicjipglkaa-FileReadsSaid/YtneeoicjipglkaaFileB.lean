/-
  Files put into bytes, and got of them.
-/
import Derived.Test.YtneeoicjipglkaaFileA
namespace Go.Proofs.Ytneeoicjipglkaa.File
open Go Go.Proofs Go.Proofs.Ytneeoicjipglkaa.Fx Go.Proofs.Ytneeoicjipglkaa.Codec
set_option maxRecDepth 100000
set_option linter.unusedVariables false
set_option linter.unusedSimpArgs false
set_option maxHeartbeats 1000000

/-- the codec of files -/
abbrev cod : Obj := blk [I 8, .func (.func 24) #[] #[], .func (.func 25) #[] #[]] 51
abbrev vF (f : Fl) : Value := .agg (flC f).toArray

theorem codec_ret (w : World) : Ret Try.prog 15 #[] w fun v w' => ∃ q, v = ptr q 0 ∧ w.heap.size ≤ q ∧ Hp w [(q, cod)] w' := by
  refine Ret_of_W (args := []) Try.func15 rfl Try.ntmps15 Try.results15 (by simp) ?_
  have H := Hp.refl w
  have hnew : Ret Try.prog 23 #[I 8, .func (.func 24) #[] #[], .func (.func 25) #[] #[]] w fun v w' => ∃ q, v = ptr q 0 ∧ w.heap.size ≤ q ∧ Hp w [(q, cod)] w' := by
    refine Ret_of_W (args := [_, _, _]) Try.func23 rfl Try.ntmps23 Try.results23 (by simp) ?_
    refine W_seq ?_
    refine W_region_l ?_
    refine WL_stepM rfl (R_as) ?_
    refine WL_nil ?_
    refine W_seq ?_
    refine W_region_l ?_
    refine WL_stepM rfl (R_mv) ?_
    refine WL_step rfl (R_max (r := 8) rfl rfl (by decide)) ?_
    refine WL_step rfl (R_min (r := 8) rfl rfl (by decide)) ?_
    refine WL_stepM rfl (R_mv) ?_
    refine WL_stepM rfl (R_mv) ?_
    refine WL_step rfl (R_buildL (places := [(0, 1), (1, 1), (2, 1)]) (vs := [(.int _ _), (.func _ _ _), (.func _ _ _)]) Try.underlying51 Try.typeInfo51 rfl rfl (by kernel_rfl) rfl rfl rfl) ?_
    (refine WL_effn rfl (E_box (v := (.agg (List.toArray [(.int _ _), (.func _ _ _), (.func _ _ _)]))) H rfl rfl) ?_; clear H; intro b13 w13 hb13 H)
    refine WL_stepM rfl (R_as) ?_
    refine WL_nil ?_
    refine W_ret ?_
    exact ⟨_, rfl, _, rfl, by assumption, H⟩
  refine W_seq ?_
  refine W_region_l ?_
  refine WL_stepM rfl (R_as) ?_
  refine WL_nil ?_
  refine W_seq ?_
  refine W_region_l ?_
  (refine WL_call rfl (R_call rfl Try.call23 rfl) hnew ?_; rintro _ w7 ⟨q, rfl, hq, H1⟩; replace H := H.seqN H1 (kCons hq kNil); clear H1)
  refine WL_stepM rfl (R_as) ?_
  refine WL_nil ?_
  refine W_ret ?_
  exact ⟨_, rfl, _, rfl, hq, H⟩

theorem size_ret {q : Nat} {w : World} (hq : w.heap[q]? = some cod) : Ret Try.prog 16 #[ptr q 0] w fun v w' => v = I 8 ∧ Hp w [] w' := by
  refine Ret_of_W (args := [_]) Try.func16 rfl Try.ntmps16 Try.results16 (by simp) ?_
  have H := Hp.focus0 hq
  refine W_seq ?_
  refine W_region_l ?_
  refine WL_stepM rfl (R_as) ?_
  refine WL_nil ?_
  refine W_seq ?_
  refine W_region_l ?_
  refine WL_stepM rfl (R_mv) ?_
  refine WL_step rfl (R_nilCheck rfl) ?_
  refine WL_step rfl (R_fieldAddr (off' := 0) Try.underlying51 rfl Try.sizeOf3 (by decide) rfl rfl) ?_
  refine WL_step rfl (R_load Try.isAgg3 rfl (H.get .here) rfl) ?_
  refine WL_stepM rfl (R_as) ?_
  refine WL_nil ?_
  refine W_ret ?_
  exact ⟨_, rfl, rfl, Hp.refl _⟩

theorem encM_ret {q : Nat} {w : World} (f : Fl) (hq : w.heap[q]? = some cod) :
    Ret Try.prog 17 #[ptr q 0, vF f] w fun v w' => (fileOk f ∧ ∃ b, v = .tuple #[sl b 0 8 8, .bool true] ∧ w.heap.size ≤ b ∧ Hp w [(b, blk ((fileBytes f).map U) 5)] w') ∨ (¬ fileOk f ∧ v = .tuple #[nilS, .bool false] ∧ Hp w [] w') := by
  refine Ret_of_W (args := [_, _]) Try.func17 rfl Try.ntmps17 Try.results17 (by simp) ?_
  have H := Hp.focus0 hq
  by_cases hok : fileOk f
  · refine W_seq ?_
    refine W_region_l ?_
    (refine WL_effn rfl (E_box (v := vF f) (vs := flC f) H rfl rfl) ?_; clear H; intro bx w3 hbx H)
    refine WL_stepM rfl (R_as) ?_
    refine WL_stepM rfl (R_as) ?_
    refine WL_nil ?_
    refine W_seq ?_
    refine W_region_l ?_
    refine WL_stepM rfl (R_mv) ?_
    refine WL_step rfl (R_nilCheck rfl) ?_
    refine WL_step rfl (R_fieldAddr (off' := 0) Try.underlying51 rfl Try.sizeOf3 (by decide) rfl rfl) ?_
    refine WL_step rfl (R_load Try.isAgg3 rfl (H.get (.there .here)) rfl) ?_
    (refine WL_effn rfl (E_makeSlice H Try.underlying24 Try.sizeOf5 Try.typeInfo5 Try.zeroValue5 rfl rfl rfl (by decide) (by decide) (by decide) (by decide)) ?_; clear H; intro b w13 hb H; replace H : Hp w [(b, blk ((List.replicate 8 0).map U) 5), (bx, blk (flC f) 23), (q, cod)] _ := H)
    refine WL_stepM rfl (R_as) ?_
    refine WL_nil ?_
    refine W_seq ?_
    refine W_seq ?_
    (refine W_draw (Kp [(bx, blk (flC f) 23), (q, cod)]) (fun _ => false) (by kernel_rfl) H ?_; clear H; intro w18 H)
    refine WA_takeM 0 rfl rfl rfl (by kernel_rfl) (by kernel_rfl) (H.kp.sub (by simp)) (fun _ hC => R_mv) ?_
    refine WA_take 1 rfl rfl rfl (by kernel_rfl) (by kernel_rfl) (H.kp.sub (by simp)) (fun _ hC => R_nilCheck rfl) ?_
    refine WA_take 2 rfl rfl rfl (by kernel_rfl) (by kernel_rfl) (H.kp.sub (by simp)) (fun _ hC => R_fieldAddr (off' := 1) Try.underlying51 rfl Try.sizeOf43 (by decide) rfl rfl) ?_
    refine WA_take 3 rfl rfl rfl (by kernel_rfl) (by kernel_rfl) (H.kp.sub (by simp)) (fun _ hC => R_load Try.isAgg43 rfl (hC.get (.there .here)) rfl) ?_
    refine WA_take 4 rfl rfl rfl (by kernel_rfl) (by kernel_rfl) (H.kp.sub (by simp)) (fun _ hC => R_eq_fn Try.underlying43 rfl rfl) ?_
    refine WA_takeM 5 rfl rfl rfl (by kernel_rfl) (by kernel_rfl) (H.kp.sub (by simp)) (fun _ hC => R_mv) ?_
    refine WA_takeGM 6 rfl rfl rfl rfl (by kernel_rfl) (by kernel_rfl) (H.kp.sub (by simp)) (fun _ hC => R_mv) ?_
    refine WA_takeG 7 rfl rfl rfl rfl (by kernel_rfl) (by kernel_rfl) (H.kp.sub (by simp)) (fun _ hC => R_nilCheck rfl) ?_
    refine WA_takeG 8 rfl rfl rfl rfl (by kernel_rfl) (by kernel_rfl) (H.kp.sub (by simp)) (fun _ hC => R_fieldAddr (off' := 1) Try.underlying51 rfl Try.sizeOf43 (by decide) rfl rfl) ?_
    refine WA_takeG 9 rfl rfl rfl rfl (by kernel_rfl) (by kernel_rfl) (H.kp.sub (by simp)) (fun _ hC => R_load Try.isAgg43 rfl (hC.get (.there .here)) rfl) ?_
    refine WA_takeG 10 rfl rfl rfl rfl (by kernel_rfl) (by kernel_rfl) (H.kp.sub (by simp)) (fun _ hC => R_loadA (vs := flC f) Try.isAgg23 Try.sizeOf23 rfl (hC.get .here) rfl (by simp [flC])) ?_
    refine WA_takeGM 11 rfl rfl rfl rfl (by kernel_rfl) (by kernel_rfl) (H.kp.sub (by simp)) (fun _ hC => R_mv) ?_
    refine WA_one (i := 12) (by kernel_rfl) ?_
    (refine WI_call rfl (.inr ⟨_, _, rfl, rfl⟩) (R_call rfl Try.call24 rfl) (put_yes f hok (H.get .here)) (fun _ _ hR _ => (H.seq hR.2 (okSeq_set .here okSeq_nil)).kp.sub (by simp)) ?_; rintro _ w32 ⟨rfl, H1⟩; replace H := H.seq H1 (okSeq_set .here okSeq_nil); clear H1)
    refine WA_takeG 13 rfl rfl rfl rfl (by kernel_rfl) (by kernel_rfl) (H.kp.sub (by simp)) (fun _ hC => R_not_t rfl) ?_
    refine WA_takeM 14 rfl rfl rfl (by kernel_rfl) (by kernel_rfl) (H.kp.sub (by simp)) (fun _ hC => R_pk_f rfl) ?_
    refine WA_done (by kernel_rfl) ?_
    refine W_cond_f rfl ?_
    refine W_skip ?_
    refine W_seq ?_
    refine W_region_l ?_
    refine WL_stepM rfl (R_mv) ?_
    refine WL_stepM rfl (R_as) ?_
    refine WL_stepM rfl (R_as) ?_
    refine WL_nil ?_
    refine W_ret ?_
    exact ⟨_, rfl, .inl ⟨hok, b, rfl, hb, (H.pop2 hbx).swap2.back hq⟩⟩
  · refine W_seq ?_
    refine W_region_l ?_
    (refine WL_effn rfl (E_box (v := vF f) (vs := flC f) H rfl rfl) ?_; clear H; intro bx w3 hbx H)
    refine WL_stepM rfl (R_as) ?_
    refine WL_stepM rfl (R_as) ?_
    refine WL_nil ?_
    refine W_seq ?_
    refine W_region_l ?_
    refine WL_stepM rfl (R_mv) ?_
    refine WL_step rfl (R_nilCheck rfl) ?_
    refine WL_step rfl (R_fieldAddr (off' := 0) Try.underlying51 rfl Try.sizeOf3 (by decide) rfl rfl) ?_
    refine WL_step rfl (R_load Try.isAgg3 rfl (H.get (.there .here)) rfl) ?_
    (refine WL_effn rfl (E_makeSlice H Try.underlying24 Try.sizeOf5 Try.typeInfo5 Try.zeroValue5 rfl rfl rfl (by decide) (by decide) (by decide) (by decide)) ?_; clear H; intro b w13 hb H; replace H : Hp w [(b, blk ((List.replicate 8 0).map U) 5), (bx, blk (flC f) 23), (q, cod)] _ := H)
    refine WL_stepM rfl (R_as) ?_
    refine WL_nil ?_
    refine W_seq ?_
    refine W_seq ?_
    (refine W_draw (Kp [(bx, blk (flC f) 23), (q, cod)]) (fun _ => false) (by kernel_rfl) H ?_; clear H; intro w18 H)
    refine WA_takeM 0 rfl rfl rfl (by kernel_rfl) (by kernel_rfl) (H.kp.sub (by simp)) (fun _ hC => R_mv) ?_
    refine WA_take 1 rfl rfl rfl (by kernel_rfl) (by kernel_rfl) (H.kp.sub (by simp)) (fun _ hC => R_nilCheck rfl) ?_
    refine WA_take 2 rfl rfl rfl (by kernel_rfl) (by kernel_rfl) (H.kp.sub (by simp)) (fun _ hC => R_fieldAddr (off' := 1) Try.underlying51 rfl Try.sizeOf43 (by decide) rfl rfl) ?_
    refine WA_take 3 rfl rfl rfl (by kernel_rfl) (by kernel_rfl) (H.kp.sub (by simp)) (fun _ hC => R_load Try.isAgg43 rfl (hC.get (.there .here)) rfl) ?_
    refine WA_take 4 rfl rfl rfl (by kernel_rfl) (by kernel_rfl) (H.kp.sub (by simp)) (fun _ hC => R_eq_fn Try.underlying43 rfl rfl) ?_
    refine WA_takeM 5 rfl rfl rfl (by kernel_rfl) (by kernel_rfl) (H.kp.sub (by simp)) (fun _ hC => R_mv) ?_
    refine WA_takeGM 6 rfl rfl rfl rfl (by kernel_rfl) (by kernel_rfl) (H.kp.sub (by simp)) (fun _ hC => R_mv) ?_
    refine WA_takeG 7 rfl rfl rfl rfl (by kernel_rfl) (by kernel_rfl) (H.kp.sub (by simp)) (fun _ hC => R_nilCheck rfl) ?_
    refine WA_takeG 8 rfl rfl rfl rfl (by kernel_rfl) (by kernel_rfl) (H.kp.sub (by simp)) (fun _ hC => R_fieldAddr (off' := 1) Try.underlying51 rfl Try.sizeOf43 (by decide) rfl rfl) ?_
    refine WA_takeG 9 rfl rfl rfl rfl (by kernel_rfl) (by kernel_rfl) (H.kp.sub (by simp)) (fun _ hC => R_load Try.isAgg43 rfl (hC.get (.there .here)) rfl) ?_
    refine WA_takeG 10 rfl rfl rfl rfl (by kernel_rfl) (by kernel_rfl) (H.kp.sub (by simp)) (fun _ hC => R_loadA (vs := flC f) Try.isAgg23 Try.sizeOf23 rfl (hC.get .here) rfl (by simp [flC])) ?_
    refine WA_takeGM 11 rfl rfl rfl rfl (by kernel_rfl) (by kernel_rfl) (H.kp.sub (by simp)) (fun _ hC => R_mv) ?_
    refine WA_one (i := 12) (by kernel_rfl) ?_
    (refine WI_call rfl (.inr ⟨_, _, rfl, rfl⟩) (R_call rfl Try.call24 rfl) (put_no f hok _) (fun _ _ hR _ => (H.seq0 hR.2).kp.sub (by simp)) ?_; rintro _ w32 ⟨rfl, H1⟩; replace H := H.seq0 H1; clear H1)
    refine WA_takeG 13 rfl rfl rfl rfl (by kernel_rfl) (by kernel_rfl) (H.kp.sub (by simp)) (fun _ hC => R_not_f rfl) ?_
    refine WA_takeM 14 rfl rfl rfl (by kernel_rfl) (by kernel_rfl) (H.kp.sub (by simp)) (fun _ hC => R_pk_f rfl) ?_
    refine WA_done (by kernel_rfl) ?_
    refine W_cond_t rfl ?_
    refine W_seq ?_
    refine W_region_l ?_
    refine WL_stepM rfl (R_as) ?_
    refine WL_stepM rfl (R_as) ?_
    refine WL_nil ?_
    refine W_ret ?_
    exact ⟨_, rfl, .inr ⟨hok, rfl, ((H.pop hb).pop hbx).back hq⟩⟩

theorem enc_ret (f : Fl) (w : World) :
    Ret Try.prog 7 #[vF f] w fun v w' => (fileOk f ∧ ∃ b, v = .tuple #[sl b 0 8 8, .bool true] ∧ w.heap.size ≤ b ∧ Hp w [(b, blk ((fileBytes f).map U) 5)] w') ∨ (¬ fileOk f ∧ v = .tuple #[nilS, .bool false] ∧ Hp w [] w') := by
  refine Ret_of_W (args := [_]) Try.func7 rfl Try.ntmps7 Try.results7 (by simp) ?_
  have H := Hp.refl w
  refine W_seq ?_
  refine W_region_l ?_
  (refine WL_effn rfl (E_box (v := vF f) (vs := flC f) H rfl rfl) ?_; clear H; intro bx w3 hbx H)
  refine WL_stepM rfl (R_as) ?_
  refine WL_stepM rfl (R_as) ?_
  refine WL_nil ?_
  refine W_seq ?_
  (refine W_draw (Kp [(bx, blk (flC f) 23)]) (fun _ => false) (by kernel_rfl) H ?_; clear H; intro w8 H)
  refine WA_take 1 rfl rfl rfl (by kernel_rfl) (by kernel_rfl) H.kp (fun _ hC => R_loadA (vs := flC f) Try.isAgg23 Try.sizeOf23 rfl (hC.get .here) rfl (by simp [flC])) ?_
  refine WA_one (i := 0) (by kernel_rfl) ?_
  (refine WI_call rfl (.inl rfl) (R_call rfl Try.call15 rfl) (codec_ret _) (fun _ _ ⟨q, _, hq, H1⟩ _ => (H.seqN H1 (kCons hq kNil)).kp.sub (by simp)) ?_; rintro _ w11 ⟨q, rfl, hq, H1⟩; have hsz := H.size; replace H := H.seqN H1 (kCons hq kNil); replace hq := Nat.le_trans hsz hq; clear H1 hsz)
  refine WA_one (i := 2) (by kernel_rfl) ?_
  (refine WI_call rfl (.inl rfl) (R_call rfl Try.call17 rfl) (encM_ret f (H.get .here)) (fun _ _ hR _ => by rcases hR with ⟨_, b, _, hb, H1⟩ | ⟨_, _, H1⟩; exact (H.seqN H1 (kCons hb kNil)).kp.sub (by simp); exact (H.seq0 H1).kp.sub (by simp)) ?_; rintro _ w13 (⟨hok, b, rfl, hb, H1⟩ | ⟨hok, rfl, H1⟩); (have hsz := H.size; replace H := H.seqN H1 (kCons hb kNil); replace hb := Nat.le_trans hsz hb; clear H1 hsz); rotate_left; (replace H := H.seq0 H1; clear H1))
  · refine WA_take 3 rfl rfl rfl (by kernel_rfl) (by kernel_rfl) (H.kp.sub (by simp)) (fun _ hC => R_extract rfl rfl) ?_
    refine WA_take 4 rfl rfl rfl (by kernel_rfl) (by kernel_rfl) (H.kp.sub (by simp)) (fun _ hC => R_extract rfl rfl) ?_
    refine WA_takeM 5 rfl rfl rfl (by kernel_rfl) (by kernel_rfl) (H.kp.sub (by simp)) (fun _ hC => R_as) ?_
    refine WA_takeM 6 rfl rfl rfl (by kernel_rfl) (by kernel_rfl) (H.kp.sub (by simp)) (fun _ hC => R_as) ?_
    refine WA_done (by kernel_rfl) ?_
    refine W_ret ?_
    exact ⟨_, rfl, .inr ⟨hok, rfl, H.none (by repeat' first | exact kNil | apply kCons | apply kApp | assumption | exact OwnS.keys (by assumption))⟩⟩
  · refine WA_take 3 rfl rfl rfl (by kernel_rfl) (by kernel_rfl) (H.kp.sub (by simp)) (fun _ hC => R_extract rfl rfl) ?_
    refine WA_take 4 rfl rfl rfl (by kernel_rfl) (by kernel_rfl) (H.kp.sub (by simp)) (fun _ hC => R_extract rfl rfl) ?_
    refine WA_takeM 5 rfl rfl rfl (by kernel_rfl) (by kernel_rfl) (H.kp.sub (by simp)) (fun _ hC => R_as) ?_
    refine WA_takeM 6 rfl rfl rfl (by kernel_rfl) (by kernel_rfl) (H.kp.sub (by simp)) (fun _ hC => R_as) ?_
    refine WA_done (by kernel_rfl) ?_
    refine W_ret ?_
    exact ⟨_, rfl, .inl ⟨hok, b, rfl, hb, Hp.cut (L := [_]) H (by repeat' first | exact kNil | apply kCons | apply kApp | assumption | exact OwnS.keys (by assumption))⟩⟩
end Go.Proofs.Ytneeoicjipglkaa.File
