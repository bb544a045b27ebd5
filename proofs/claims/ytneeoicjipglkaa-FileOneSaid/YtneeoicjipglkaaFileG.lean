/-
  The law FileOne.
-/
import Derived.Test.YtneeoicjipglkaaFileE
namespace Go.Proofs.Ytneeoicjipglkaa.File
open Go Go.Proofs Go.Proofs.Ytneeoicjipglkaa.Fx Go.Proofs.Ytneeoicjipglkaa.Codec
set_option maxRecDepth 100000
set_option linter.unusedVariables false
set_option linter.unusedSimpArgs false
set_option maxHeartbeats 2000000

theorem bytes_inj {f g : Fl} (hf : fileOk f) (hg : fileOk g) : fileBytes f = fileBytes g ↔ f = g :=
  ⟨fun h => by rw [← ofB_bytes hf, h, ofB_bytes hg], fun h => by rw [h]⟩

theorem u8_move {a b : UInt8} (h : b ≠ 0) : a + b ≠ a := fun e => h (by
  have := congrArg (fun x => x - a) e
  simp only [UInt8.sub_self] at this
  rw [UInt8.add_comm, UInt8.add_sub_cancel] at this
  exact this)

/-- the form of a file's bytes -/
def formB (xs : List UInt8) : Prop := ∃ a b c d : UInt8, xs = [a, b, c, d, 179, 5 + a + b + c + d + 179, 0, 0]
theorem formB_bytes (f : Fl) : formB (fileBytes f) := ⟨_, _, _, _, rfl⟩

theorem form_turn {xs : List UInt8} {k : Nat} {by_ : UInt8} (h : formB xs) (hk : k < 8) (hb : by_ ≠ 0) : ¬ formB (xs.set k (xs[k]?.getD 0 + by_)) := by
  rintro ⟨a', b', c', d', he⟩
  obtain ⟨a, b, c, d, rfl⟩ := h
  have hz : ∀ x y : UInt8, x + by_ = y → x = y → False := fun x y h1 h2 => u8_move hb (h1.trans h2.symm)
  match k, hk with
  | 0, _ =>
    simp only [List.set_cons_zero, List.cons.injEq, List.getElem?_cons_zero, Option.getD_some] at he
    obtain ⟨h0, rfl, rfl, rfl, _, h5, _⟩ := he
    exact hz a a' h0 (by simpa using h5)
  | 1, _ =>
    simp only [List.set_cons_succ, List.set_cons_zero, List.cons.injEq, List.getElem?_cons_zero, List.getElem?_cons_succ, Option.getD_some] at he
    obtain ⟨rfl, h0, rfl, rfl, _, h5, _⟩ := he
    exact hz b b' h0 (by simpa using h5)
  | 2, _ =>
    simp only [List.set_cons_succ, List.set_cons_zero, List.cons.injEq, List.getElem?_cons_zero, List.getElem?_cons_succ, Option.getD_some] at he
    obtain ⟨rfl, rfl, h0, rfl, _, h5, _⟩ := he
    exact hz c c' h0 (by simpa using h5)
  | 3, _ =>
    simp only [List.set_cons_succ, List.set_cons_zero, List.cons.injEq, List.getElem?_cons_zero, List.getElem?_cons_succ, Option.getD_some] at he
    obtain ⟨rfl, rfl, rfl, h0, _, h5, _⟩ := he
    exact hz d d' h0 (by simpa using h5)
  | 4, _ =>
    simp only [List.set_cons_succ, List.set_cons_zero, List.cons.injEq, List.getElem?_cons_zero, List.getElem?_cons_succ, Option.getD_some] at he
    exact u8_move hb he.2.2.2.2.1
  | 5, _ =>
    simp only [List.set_cons_succ, List.set_cons_zero, List.cons.injEq, List.getElem?_cons_zero, List.getElem?_cons_succ, Option.getD_some] at he
    obtain ⟨rfl, rfl, rfl, rfl, _, h5, _⟩ := he
    exact u8_move hb h5
  | 6, _ =>
    simp only [List.set_cons_succ, List.set_cons_zero, List.cons.injEq, List.getElem?_cons_zero, List.getElem?_cons_succ, Option.getD_some] at he
    exact u8_move hb he.2.2.2.2.2.2.1
  | 7, _ =>
    simp only [List.set_cons_succ, List.set_cons_zero, List.cons.injEq, List.getElem?_cons_zero, List.getElem?_cons_succ, Option.getD_some] at he
    exact u8_move hb he.2.2.2.2.2.2.2.1

theorem turned_bad {f : Fl} (h : fileOk f) {k : Nat} {by_ : UInt8} (hk : k < 8) (hb : by_ ≠ 0) : decP ((fileBytes f).set k ((fileBytes f)[k]?.getD 0 + by_)) = (zeroF, 2) := by
  refine decP_bad (fun hg => ?_) (fun hz => ?_)
  · refine form_turn (formB_bytes f) hk hb ?_
    rw [← hg.2.2]
    exact formB_bytes _
  · have hz := hz.2
    obtain ⟨p1, p2⟩ := h
    have hk1 : b8 f.k ≠ 0 := fun e => by
      have h1 := b8_n f.k (by omega) (by omega)
      rw [e] at h1
      simp at h1
      omega
    by_cases h0 : k = 0
    · subst h0
      exact absurd (hz 179 (by simp [fileBytes, fb5])) (by decide)
    · refine hk1 (hz _ ?_)
      have : ((fileBytes f).set k ((fileBytes f)[k]?.getD 0 + by_))[0]? = some (b8 f.k) := by
        rw [List.getElem?_set, if_neg h0]; rfl
      exact List.mem_of_getElem? this

theorem one_ret (a b at_ : Int) (by_ : UInt8) (w : World) : Ret Try.prog 5 #[I a, I b, I at_, U by_] w fun v w' => v = .bool true ∧ Hp w [] w' := by
  refine Ret_of_W (args := [_, _, _, _]) Try.func5 rfl Try.ntmps5 Try.results5 (by simp) ?_
  have H := Hp.refl w
  have hfa := fileN_ok a
  have hfb := fileN_ok b
  obtain ⟨f, hf⟩ : ∃ f, fileN a = f := ⟨_, rfl⟩
  obtain ⟨g, hg⟩ : ∃ g, fileN b = g := ⟨_, rfl⟩
  rw [hf] at hfa
  rw [hg] at hfb
  obtain ⟨k, hk, hk8⟩ : ∃ k : Nat, at_ % 8 = (k : Int) ∧ k < 8 := ⟨(at_ % 8).toNat, by omega, by omega⟩
  have hbi := bytes_inj hfa hfb
  obtain ⟨x, hx⟩ : ∃ x, (fileBytes f)[k]? = some x := ⟨_, List.getElem?_eq_getElem (by rw [bytes_len]; exact hk8)⟩
  have hxd : (fileBytes f)[k]?.getD 0 = x := by rw [hx]; rfl
  have hxu : ((fileBytes f).map U)[k]? = some (U x) := by rw [List.getElem?_map, hx]; rfl
  by_cases hz : by_ = 0
  · subst hz
    have htb := turned_bad hfa (by_ := 1) hk8 (by decide)
    rw [hxd] at htb
    refine W_seq ?_
    refine W_region_l ?_
    refine WL_stepM rfl (R_as) ?_
    refine WL_nil ?_
    refine W_seq ?_
    refine W_region_l ?_
    refine WL_stepM rfl (R_mv) ?_
    (refine WL_call rfl (R_call rfl Try.call12 rfl) (file_ret a _) ?_; rintro _ w8 ⟨rfl, H1⟩; rw [hf]; replace H := H.seq0 H1; clear H1)
    refine WL_stepM rfl (R_mv) ?_
    (refine WL_call rfl (R_call rfl Try.call12 rfl) (file_ret b _) ?_; rintro _ w10 ⟨rfl, H1⟩; rw [hg]; replace H := H.seq0 H1; clear H1)
    (refine WL_effn rfl (E_alloc (vs := flC zeroF) H Try.zeroValue23 rfl) ?_; clear H; intro b9 w11 hb9 H)
    (refine WL_effn rfl (E_alloc (vs := flC zeroF) H Try.zeroValue23 rfl) ?_; clear H; intro b10 w12 hb10 H)
    (refine WL_effu rfl (E_storeA (vs := flC f) H Try.sizeOf23 rfl rfl (by simp [flC, Value.oneCell']) (.there .here) (by simp [flC])) ?_; clear H; intro w13 H; replace H : Hp w [(b10, blk (flC zeroF) 23), (b9, blk (flC f) 23)] _ := H)
    (refine WL_effu rfl (E_storeA (vs := flC g) H Try.sizeOf23 rfl rfl (by simp [flC, Value.oneCell']) .here (by simp [flC])) ?_; clear H; intro w14 H; replace H : Hp w [(b10, blk (flC g) 23), (b9, blk (flC f) 23)] _ := H)
    refine WL_nil ?_
    refine W_seq ?_
    refine W_region_l ?_
    refine WL_step rfl (R_loadA (vs := flC f) Try.isAgg23 Try.sizeOf23 rfl (H.get (.there .here)) rfl (by simp [flC])) ?_
    (refine WL_call rfl (R_call rfl Try.call7 rfl) (enc_yes f hfa _) ?_; rintro _ w19 ⟨ba, rfl, hba, H1⟩; have hsz := H.size; replace H := H.seqN H1 (kCons hba kNil); replace hba := Nat.le_trans hsz hba; clear H1 hsz)
    refine WL_stepM rfl (R_mv) ?_
    refine WL_step rfl (R_extract rfl rfl) ?_
    refine WL_step rfl (R_extract rfl rfl) ?_
    refine WL_stepM rfl (R_as) ?_
    refine WL_stepM rfl (R_as) ?_
    refine WL_nil ?_
    refine W_seq ?_
    refine W_region_l ?_
    refine WL_step rfl (R_loadA (vs := flC g) Try.isAgg23 Try.sizeOf23 rfl (H.get (.there .here)) rfl (by simp [flC])) ?_
    (refine WL_call rfl (R_call rfl Try.call7 rfl) (enc_yes g hfb _) ?_; rintro _ w29 ⟨bb, rfl, hbb, H1⟩; have hsz := H.size; replace H := H.seqN H1 (kCons hbb kNil); replace hbb := Nat.le_trans hsz hbb; clear H1 hsz; replace H : Hp w [(bb, blk ((fileBytes g).map U) 5), (ba, blk ((fileBytes f).map U) 5), (b10, blk (flC g) 23), (b9, blk (flC f) 23)] w29 := H)
    refine WL_stepM rfl (R_mv) ?_
    refine WL_step rfl (R_extract rfl rfl) ?_
    refine WL_step rfl (R_extract rfl rfl) ?_
    refine WL_stepM rfl (R_as) ?_
    refine WL_stepM rfl (R_as) ?_
    refine WL_nil ?_
    refine W_seq ?_
    refine W_seq ?_
    (refine W_drawH (fun _ => false) (by kernel_rfl) H ?_; clear H; intro w38 H)
    refine WA_takeM 0 rfl rfl rfl (by kernel_rfl) (by kernel_rfl) H (fun _ hC => R_mv) ?_
    refine WA_take 1 rfl rfl rfl (by kernel_rfl) (by kernel_rfl) H (fun _ hC => R_not_t rfl) ?_
    refine WA_takeM 2 rfl rfl rfl (by kernel_rfl) (by kernel_rfl) H (fun _ hC => R_mv) ?_
    refine WA_takeGM 3 rfl rfl rfl rfl (by kernel_rfl) (by kernel_rfl) H (fun _ hC => R_mv) ?_
    refine WA_takeG 4 rfl rfl rfl rfl (by kernel_rfl) (by kernel_rfl) H (fun _ hC => R_not_t rfl) ?_
    refine WA_takeM 5 rfl rfl rfl (by kernel_rfl) (by kernel_rfl) H (fun _ hC => R_pk_f rfl) ?_
    refine WA_takeM 6 rfl rfl rfl (by kernel_rfl) (by kernel_rfl) H (fun _ hC => R_mv) ?_
    refine WA_takeGM 7 rfl rfl rfl rfl (by kernel_rfl) (by kernel_rfl) H (fun _ hC => R_mv) ?_
    refine WA_takeG 8 rfl rfl rfl rfl (by kernel_rfl) (by kernel_rfl) H (fun _ hC => R_len_slice Try.underlying24 rfl) ?_
    refine WA_takeG 9 rfl rfl rfl rfl (by kernel_rfl) (by kernel_rfl) H (fun _ hC => R_ne_f rfl rfl (by omega)) ?_
    refine WA_takeM 10 rfl rfl rfl (by kernel_rfl) (by kernel_rfl) H (fun _ hC => R_pk_f rfl) ?_
    refine WA_takeM 11 rfl rfl rfl (by kernel_rfl) (by kernel_rfl) H (fun _ hC => R_mv) ?_
    refine WA_takeGM 12 rfl rfl rfl rfl (by kernel_rfl) (by kernel_rfl) H (fun _ hC => R_mv) ?_
    refine WA_takeG 13 rfl rfl rfl rfl (by kernel_rfl) (by kernel_rfl) H (fun _ hC => R_conv_bs (xs := fileBytes f) Try.underlying24 Try.underlying5 Try.underlying9 rfl (RdS.blk (c := (fileBytes f).map U) (off := 0) (hC.get (.there .here)) rfl (by simp [bytes_len]) (by decide))) ?_
    refine WA_takeGM 14 rfl rfl rfl rfl (by kernel_rfl) (by kernel_rfl) H (fun _ hC => R_mv) ?_
    refine WA_takeG 15 rfl rfl rfl rfl (by kernel_rfl) (by kernel_rfl) H (fun _ hC => R_conv_bs (xs := fileBytes g) Try.underlying24 Try.underlying5 Try.underlying9 rfl (RdS.blk (c := (fileBytes g).map U) (off := 0) (hC.get .here) rfl (by simp [bytes_len]) (by decide))) ?_
    refine WA_takeG 16 rfl rfl rfl rfl (by kernel_rfl) (by kernel_rfl) H (fun _ hC => R_eq_S rfl rfl) ?_
    refine WA_takeG 17 rfl rfl rfl rfl (by kernel_rfl) (by kernel_rfl) H (fun _ hC => R_loadA (vs := flC f) Try.isAgg23 Try.sizeOf23 rfl (hC.get (.there (.there (.there .here)))) rfl (by simp [flC])) ?_
    refine WA_takeG 18 rfl rfl rfl rfl (by kernel_rfl) (by kernel_rfl) H (fun _ hC => R_loadA (vs := flC g) Try.isAgg23 Try.sizeOf23 rfl (hC.get (.there (.there .here))) rfl (by simp [flC])) ?_
    refine WA_takeG 19 rfl rfl rfl rfl (by kernel_rfl) (by kernel_rfl) H (fun _ hC => R_eq_F (f := f) (g := g) rfl rfl rfl rfl) ?_
    refine WA_takeG 20 rfl rfl rfl rfl (by kernel_rfl) (by kernel_rfl) H (fun _ hC => R_ne_dec_f Try.underlying4 rfl rfl hbi) ?_
    refine WA_takeM 21 rfl rfl rfl (by kernel_rfl) (by kernel_rfl) H (fun _ hC => R_pk_f rfl) ?_
    refine WA_done (by kernel_rfl) ?_
    refine W_cond_f rfl ?_
    refine W_skip ?_
    refine W_seq ?_
    refine W_seq ?_
    refine W_region_l ?_
    refine WL_stepM rfl (R_mv) ?_
    refine WL_step rfl (R_eq_t rfl rfl rfl) ?_
    refine WL_nil ?_
    refine W_cond_t rfl ?_
    refine W_region_l ?_
    refine WL_stepM rfl (R_as) ?_
    refine WL_nil ?_
    refine W_seq ?_
    refine W_region_l ?_
    refine WL_stepM rfl (R_mv) ?_
    refine WL_stepM rfl (R_mv) ?_
    refine WL_step rfl (R_bits rfl rfl (by simp) ((and_mask_i64 3 8 (by decide) rfl (by decide)).trans hk)) ?_
    refine WL_step rfl (R_indexAddr Try.underlying24 Try.sizeOf5 rfl rfl (by omega) (by omega) idx0_cast) ?_
    refine WL_step rfl (R_load (v := U x) Try.isAgg5 rfl (H.get (.there .here)) hxu) ?_
    refine WL_stepM rfl (R_mv) ?_
    refine WL_step rfl (R_add rfl rfl rfl) ?_
    refine WL_step rfl (R_indexAddr Try.underlying24 Try.sizeOf5 rfl rfl (by omega) (by omega) idx0_cast) ?_
    (refine WL_effu rfl (E_store (v := U (x + (1 : UInt8))) H Try.sizeOf5 rfl rfl rfl (.there .here) (by simp [bytes_len]; omega)) ?_; clear H; intro w84 H; rw [← List.map_set] at H)
    refine WL_nil ?_
    refine W_seq ?_
    refine W_region_l ?_
    refine WL_stepM rfl (R_mv) ?_
    (refine WL_call rfl (R_call rfl Try.call11 rfl) (dec_to htb (RdS.blk (off := 0) (H.get (.there .here)) (by rw [List.drop_zero, List.take_of_length_le (by simp [bytes_len])]) (by simp [bytes_len]) (by decide)) (by simp [bytes_len])) ?_; rintro _ w89 ⟨rfl, H1⟩; replace H := H.seq0 H1; clear H1)
    refine WL_stepM rfl (R_mv) ?_
    refine WL_step rfl (R_extract rfl rfl) ?_
    refine WL_step rfl (R_extract rfl rfl) ?_
    (refine WL_effn rfl (E_alloc H Try.zeroValue23 rfl) ?_; clear H; intro b93 w93 hb93 H)
    (refine WL_effu rfl (E_storeA (vs := [(.int _ _), (.int _ _), (.int _ _), (.int _ _)]) H Try.sizeOf23 rfl rfl (by simp [Value.oneCell']) .here (by simp)) ?_; clear H; intro w94 H)
    refine WL_stepM rfl (R_as) ?_
    refine WL_nil ?_
    refine W_seq ?_
    refine W_region_l ?_
    refine WL_stepM rfl (R_mv) ?_
    refine WL_step rfl (R_eq_t rfl rfl (by omega)) ?_
    refine WL_stepM rfl (R_mv) ?_
    refine WL_guard_t rfl rfl ?_
    (refine WL_call rfl (R_call rfl Try.call13 rfl) (awake_ret _) ?_; rintro _ w103 ⟨rfl, H1⟩; replace H := H.seq0 H1; clear H1)
    refine WL_stepM rfl (R_pk_t rfl) ?_
    refine WL_stepM rfl (R_as) ?_
    refine WL_nil ?_
    refine W_ret ?_
    exact ⟨_, rfl, rfl, H.none (by repeat' first | exact kNil | apply kCons | apply kApp | assumption | exact OwnS.keys (by assumption))⟩
  · have htb := turned_bad hfa hk8 hz
    rw [hxd] at htb
    refine W_seq ?_
    refine W_region_l ?_
    refine WL_stepM rfl (R_as) ?_
    refine WL_nil ?_
    refine W_seq ?_
    refine W_region_l ?_
    refine WL_stepM rfl (R_mv) ?_
    (refine WL_call rfl (R_call rfl Try.call12 rfl) (file_ret a _) ?_; rintro _ w8 ⟨rfl, H1⟩; rw [hf]; replace H := H.seq0 H1; clear H1)
    refine WL_stepM rfl (R_mv) ?_
    (refine WL_call rfl (R_call rfl Try.call12 rfl) (file_ret b _) ?_; rintro _ w10 ⟨rfl, H1⟩; rw [hg]; replace H := H.seq0 H1; clear H1)
    (refine WL_effn rfl (E_alloc (vs := flC zeroF) H Try.zeroValue23 rfl) ?_; clear H; intro b9 w11 hb9 H)
    (refine WL_effn rfl (E_alloc (vs := flC zeroF) H Try.zeroValue23 rfl) ?_; clear H; intro b10 w12 hb10 H)
    (refine WL_effu rfl (E_storeA (vs := flC f) H Try.sizeOf23 rfl rfl (by simp [flC, Value.oneCell']) (.there .here) (by simp [flC])) ?_; clear H; intro w13 H; replace H : Hp w [(b10, blk (flC zeroF) 23), (b9, blk (flC f) 23)] _ := H)
    (refine WL_effu rfl (E_storeA (vs := flC g) H Try.sizeOf23 rfl rfl (by simp [flC, Value.oneCell']) .here (by simp [flC])) ?_; clear H; intro w14 H; replace H : Hp w [(b10, blk (flC g) 23), (b9, blk (flC f) 23)] _ := H)
    refine WL_nil ?_
    refine W_seq ?_
    refine W_region_l ?_
    refine WL_step rfl (R_loadA (vs := flC f) Try.isAgg23 Try.sizeOf23 rfl (H.get (.there .here)) rfl (by simp [flC])) ?_
    (refine WL_call rfl (R_call rfl Try.call7 rfl) (enc_yes f hfa _) ?_; rintro _ w19 ⟨ba, rfl, hba, H1⟩; have hsz := H.size; replace H := H.seqN H1 (kCons hba kNil); replace hba := Nat.le_trans hsz hba; clear H1 hsz)
    refine WL_stepM rfl (R_mv) ?_
    refine WL_step rfl (R_extract rfl rfl) ?_
    refine WL_step rfl (R_extract rfl rfl) ?_
    refine WL_stepM rfl (R_as) ?_
    refine WL_stepM rfl (R_as) ?_
    refine WL_nil ?_
    refine W_seq ?_
    refine W_region_l ?_
    refine WL_step rfl (R_loadA (vs := flC g) Try.isAgg23 Try.sizeOf23 rfl (H.get (.there .here)) rfl (by simp [flC])) ?_
    (refine WL_call rfl (R_call rfl Try.call7 rfl) (enc_yes g hfb _) ?_; rintro _ w29 ⟨bb, rfl, hbb, H1⟩; have hsz := H.size; replace H := H.seqN H1 (kCons hbb kNil); replace hbb := Nat.le_trans hsz hbb; clear H1 hsz; replace H : Hp w [(bb, blk ((fileBytes g).map U) 5), (ba, blk ((fileBytes f).map U) 5), (b10, blk (flC g) 23), (b9, blk (flC f) 23)] w29 := H)
    refine WL_stepM rfl (R_mv) ?_
    refine WL_step rfl (R_extract rfl rfl) ?_
    refine WL_step rfl (R_extract rfl rfl) ?_
    refine WL_stepM rfl (R_as) ?_
    refine WL_stepM rfl (R_as) ?_
    refine WL_nil ?_
    refine W_seq ?_
    refine W_seq ?_
    (refine W_drawH (fun _ => false) (by kernel_rfl) H ?_; clear H; intro w38 H)
    refine WA_takeM 0 rfl rfl rfl (by kernel_rfl) (by kernel_rfl) H (fun _ hC => R_mv) ?_
    refine WA_take 1 rfl rfl rfl (by kernel_rfl) (by kernel_rfl) H (fun _ hC => R_not_t rfl) ?_
    refine WA_takeM 2 rfl rfl rfl (by kernel_rfl) (by kernel_rfl) H (fun _ hC => R_mv) ?_
    refine WA_takeGM 3 rfl rfl rfl rfl (by kernel_rfl) (by kernel_rfl) H (fun _ hC => R_mv) ?_
    refine WA_takeG 4 rfl rfl rfl rfl (by kernel_rfl) (by kernel_rfl) H (fun _ hC => R_not_t rfl) ?_
    refine WA_takeM 5 rfl rfl rfl (by kernel_rfl) (by kernel_rfl) H (fun _ hC => R_pk_f rfl) ?_
    refine WA_takeM 6 rfl rfl rfl (by kernel_rfl) (by kernel_rfl) H (fun _ hC => R_mv) ?_
    refine WA_takeGM 7 rfl rfl rfl rfl (by kernel_rfl) (by kernel_rfl) H (fun _ hC => R_mv) ?_
    refine WA_takeG 8 rfl rfl rfl rfl (by kernel_rfl) (by kernel_rfl) H (fun _ hC => R_len_slice Try.underlying24 rfl) ?_
    refine WA_takeG 9 rfl rfl rfl rfl (by kernel_rfl) (by kernel_rfl) H (fun _ hC => R_ne_f rfl rfl (by omega)) ?_
    refine WA_takeM 10 rfl rfl rfl (by kernel_rfl) (by kernel_rfl) H (fun _ hC => R_pk_f rfl) ?_
    refine WA_takeM 11 rfl rfl rfl (by kernel_rfl) (by kernel_rfl) H (fun _ hC => R_mv) ?_
    refine WA_takeGM 12 rfl rfl rfl rfl (by kernel_rfl) (by kernel_rfl) H (fun _ hC => R_mv) ?_
    refine WA_takeG 13 rfl rfl rfl rfl (by kernel_rfl) (by kernel_rfl) H (fun _ hC => R_conv_bs (xs := fileBytes f) Try.underlying24 Try.underlying5 Try.underlying9 rfl (RdS.blk (c := (fileBytes f).map U) (off := 0) (hC.get (.there .here)) rfl (by simp [bytes_len]) (by decide))) ?_
    refine WA_takeGM 14 rfl rfl rfl rfl (by kernel_rfl) (by kernel_rfl) H (fun _ hC => R_mv) ?_
    refine WA_takeG 15 rfl rfl rfl rfl (by kernel_rfl) (by kernel_rfl) H (fun _ hC => R_conv_bs (xs := fileBytes g) Try.underlying24 Try.underlying5 Try.underlying9 rfl (RdS.blk (c := (fileBytes g).map U) (off := 0) (hC.get .here) rfl (by simp [bytes_len]) (by decide))) ?_
    refine WA_takeG 16 rfl rfl rfl rfl (by kernel_rfl) (by kernel_rfl) H (fun _ hC => R_eq_S rfl rfl) ?_
    refine WA_takeG 17 rfl rfl rfl rfl (by kernel_rfl) (by kernel_rfl) H (fun _ hC => R_loadA (vs := flC f) Try.isAgg23 Try.sizeOf23 rfl (hC.get (.there (.there (.there .here)))) rfl (by simp [flC])) ?_
    refine WA_takeG 18 rfl rfl rfl rfl (by kernel_rfl) (by kernel_rfl) H (fun _ hC => R_loadA (vs := flC g) Try.isAgg23 Try.sizeOf23 rfl (hC.get (.there (.there .here))) rfl (by simp [flC])) ?_
    refine WA_takeG 19 rfl rfl rfl rfl (by kernel_rfl) (by kernel_rfl) H (fun _ hC => R_eq_F (f := f) (g := g) rfl rfl rfl rfl) ?_
    refine WA_takeG 20 rfl rfl rfl rfl (by kernel_rfl) (by kernel_rfl) H (fun _ hC => R_ne_dec_f Try.underlying4 rfl rfl hbi) ?_
    refine WA_takeM 21 rfl rfl rfl (by kernel_rfl) (by kernel_rfl) H (fun _ hC => R_pk_f rfl) ?_
    refine WA_done (by kernel_rfl) ?_
    refine W_cond_f rfl ?_
    refine W_skip ?_
    refine W_seq ?_
    refine W_seq ?_
    refine W_region_l ?_
    refine WL_stepM rfl (R_mv) ?_
    refine WL_step rfl (R_eq_f rfl rfl (fun h => hz (u8_eq.1 (h.trans rfl)))) ?_
    refine WL_nil ?_
    refine W_cond_f rfl ?_
    refine W_skip ?_
    refine W_seq ?_
    refine W_region_l ?_
    refine WL_stepM rfl (R_mv) ?_
    refine WL_stepM rfl (R_mv) ?_
    refine WL_step rfl (R_bits rfl rfl (by simp) ((and_mask_i64 3 8 (by decide) rfl (by decide)).trans hk)) ?_
    refine WL_step rfl (R_indexAddr Try.underlying24 Try.sizeOf5 rfl rfl (by omega) (by omega) idx0_cast) ?_
    refine WL_step rfl (R_load (v := U x) Try.isAgg5 rfl (H.get (.there .here)) hxu) ?_
    refine WL_stepM rfl (R_mv) ?_
    refine WL_step rfl (R_add (r := ((x + by_).toNat : Int)) rfl rfl u8_add) ?_
    refine WL_step rfl (R_indexAddr Try.underlying24 Try.sizeOf5 rfl rfl (by omega) (by omega) idx0_cast) ?_
    (refine WL_effu rfl (E_store (v := U (x + by_)) H Try.sizeOf5 rfl rfl rfl (.there .here) (by simp [bytes_len]; omega)) ?_; clear H; intro w82 H; rw [← List.map_set] at H)
    refine WL_nil ?_
    refine W_seq ?_
    refine W_region_l ?_
    refine WL_stepM rfl (R_mv) ?_
    (refine WL_call rfl (R_call rfl Try.call11 rfl) (dec_to htb (RdS.blk (off := 0) (H.get (.there .here)) (by rw [List.drop_zero, List.take_of_length_le (by simp [bytes_len])]) (by simp [bytes_len]) (by decide)) (by simp [bytes_len])) ?_; rintro _ w87 ⟨rfl, H1⟩; replace H := H.seq0 H1; clear H1)
    refine WL_stepM rfl (R_mv) ?_
    refine WL_step rfl (R_extract rfl rfl) ?_
    refine WL_step rfl (R_extract rfl rfl) ?_
    (refine WL_effn rfl (E_alloc H Try.zeroValue23 rfl) ?_; clear H; intro b91 w91 hb91 H)
    (refine WL_effu rfl (E_storeA (vs := [(.int _ _), (.int _ _), (.int _ _), (.int _ _)]) H Try.sizeOf23 rfl rfl (by simp [Value.oneCell']) .here (by simp)) ?_; clear H; intro w92 H)
    refine WL_stepM rfl (R_as) ?_
    refine WL_nil ?_
    refine W_seq ?_
    refine W_region_l ?_
    refine WL_stepM rfl (R_mv) ?_
    refine WL_step rfl (R_eq_t rfl rfl (by omega)) ?_
    refine WL_stepM rfl (R_mv) ?_
    refine WL_guard_t rfl rfl ?_
    (refine WL_call rfl (R_call rfl Try.call13 rfl) (awake_ret _) ?_; rintro _ w101 ⟨rfl, H1⟩; replace H := H.seq0 H1; clear H1)
    refine WL_stepM rfl (R_pk_t rfl) ?_
    refine WL_stepM rfl (R_as) ?_
    refine WL_nil ?_
    refine W_ret ?_
    exact ⟨_, rfl, rfl, H.none (by repeat' first | exact kNil | apply kCons | apply kApp | assumption | exact OwnS.keys (by assumption))⟩
end Go.Proofs.Ytneeoicjipglkaa.File
