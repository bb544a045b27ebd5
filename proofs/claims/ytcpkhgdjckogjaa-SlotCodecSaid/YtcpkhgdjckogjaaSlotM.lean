/-
  The laws SlotOne and SlotByte.
-/
import Derived.Test.YtcpkhgdjckogjaaSlotL
namespace Go.Proofs.Ytcpkhgdjckogjaa.Slot
open Go Go.Proofs Go.Proofs.Ytcpkhgdjckogjaa.Fx Go.Proofs.Ytcpkhgdjckogjaa.Codec
set_option maxRecDepth 100000
set_option linter.unusedVariables false
set_option linter.unusedSimpArgs false
set_option maxHeartbeats 2000000

theorem bytes_inj {f g : Pi} (hf : okP f) (hg : okP g) : bytesP f = bytesP g ↔ f = g :=
  ⟨fun h => by rw [← ofB_bytes hf, h, ofB_bytes hg], fun h => by rw [h]⟩
theorem u8_move {a b : UInt8} (h : b ≠ 0) : a + b ≠ a := fun e => h (by
  have := congrArg (fun x => x - a) e
  simp only [UInt8.sub_self] at this
  rw [UInt8.add_comm, UInt8.add_sub_cancel] at this
  exact this)
theorem foldl_add (d : UInt8) : ∀ (l : List UInt8) (a : UInt8), l.foldl (· + ·) (a + d) = l.foldl (· + ·) a + d
  | [], _ => rfl
  | x :: l, a => by
    rw [List.foldl_cons, List.foldl_cons, UInt8.add_assoc, UInt8.add_comm d x, ← UInt8.add_assoc]
    exact foldl_add d l (a + x)
theorem foldl_set (d x : UInt8) : ∀ (l : List UInt8) (k : Nat) (a : UInt8), l[k]? = some x → (l.set k (x + d)).foldl (· + ·) a = l.foldl (· + ·) a + d
  | [], k, _, h => by simp at h
  | y :: l, 0, a, h => by
    simp only [List.getElem?_cons_zero, Option.some.injEq] at h
    subst h
    rw [List.set_cons_zero, List.foldl_cons, List.foldl_cons, ← UInt8.add_assoc]
    exact foldl_add d l (a + y)
  | y :: l, k + 1, a, h => by
    rw [List.set_cons_succ, List.foldl_cons, List.foldl_cons]
    exact foldl_set d x l k (a + y) (by simpa using h)
theorem sum_set {l : List UInt8} {k : Nat} {x d : UInt8} (h : l[k]? = some x) : sumB (l.set k (x + d)) = sumB l + d := by
  unfold sumB
  rw [List.length_set]
  exact foldl_set d x l k _ h
theorem bytes_22 (p : Pi) : (bytesP p)[22]? = some 0 := by
  unfold bytesP
  rw [List.getElem?_append_right (by rw [hbs_len]; decide), hbs_len]
  rfl
theorem bytes_23 (p : Pi) : (bytesP p)[23]? = some 0 := by
  unfold bytesP
  rw [List.getElem?_append_right (by rw [hbs_len]; decide), hbs_len]
  rfl

theorem turned_bad {f : Pi} (h : okP f) {k : Nat} {d x : UInt8} (hk : k < 24) (hd : d ≠ 0) (hx : (bytesP f)[k]? = some x) : decP ((bytesP f).set k (x + d)) = (zeroP, 2) := by
  have hl := bytes_len f
  have self : ((bytesP f).set k (x + d))[k]? = some (x + d) := List.getElem?_set_self (by omega)
  have other : ∀ j, k ≠ j → ((bytesP f).set k (x + d))[j]? = (bytesP f)[j]? := fun j hj => List.getElem?_set_ne hj
  refine decP_bad (fun hg => ?_) (fun hz => ?_)
  · obtain ⟨g, hgg⟩ : ∃ g, ofB ((bytesP f).set k (x + d)) = g := ⟨_, rfl⟩
    have hW := hg.2.2
    rw [hgg] at hW
    rw [← hW] at self other
    by_cases h20 : k = 20
    · subst h20
      rw [bytes_20] at self hx
      cases hx
      exact u8_move hd (Option.some.inj self).symm
    by_cases h22 : k = 22
    · subst h22
      rw [bytes_22] at self hx
      cases hx
      exact u8_move hd (Option.some.inj self).symm
    by_cases h23 : k = 23
    · subst h23
      rw [bytes_23] at self hx
      cases hx
      exact u8_move hd (Option.some.inj self).symm
    have ht : hbs g = ((bytesP f).set k (x + d)).take 21 := by rw [← bytes_t21, hW]
    by_cases h21 : k = 21
    · subst h21
      rw [List.take_set_of_le (Nat.le_refl _), bytes_t21] at ht
      rw [bytes_21, ht] at self
      rw [bytes_21] at hx
      cases hx
      exact u8_move hd (Option.some.inj self).symm
    · have ht2 : hbs g = (hbs f).set k (x + d) := by rw [ht, List.take_set, bytes_t21]
      have hxf : (hbs f)[k]? = some x := by rw [← bytes_t21, List.getElem?_take_of_lt (by omega)]; exact hx
      have o21 := other 21 h21
      rw [bytes_21, bytes_21, ht2, sum_set hxf] at o21
      exact u8_move hd (Option.some.inj o21)
  · have hz := hz.2
    by_cases h20 : k = 20
    · have h0 := other 0 (by omega)
      obtain ⟨z, hz1, hz2, hz0⟩ := pickH h (i := 0) (by decide)
      rw [hz2] at h0
      have e := hz _ (List.mem_of_getElem? h0)
      simp only [List.getElem?_cons_zero, Option.some.injEq, Value.int.injEq, true_and] at hz1
      obtain ⟨hr, _⟩ := h
      have h1 := b8_n f.s (by omega) (by omega)
      rw [hz1, e] at h1
      simp at h1
      omega
    · have h0 := other 20 h20
      rw [bytes_20] at h0
      exact absurd (hz _ (List.mem_of_getElem? h0)) (by decide)

theorem byte_ret {ls : List Int} (at_ : Int) (by_ : UInt8) {w : World} {l : Value} (hl : RdS w l (ls.map fun x => I x)) (hlb : ls.length ≤ 9223372036854775807) :
    Ret Try.prog 12 #[l, I at_, U by_] w fun v w' => v = .bool true ∧ Hp w [] w' := by
  refine Ret_of_W (args := [_, _, _]) Try.func12 rfl Try.ntmps12 Try.results12 (by simp) ?_
  have H := Hp.refl w
  obtain ⟨al, cl, rfl⟩ := hl.form
  simp only [List.length_map] at hl ⊢
  obtain ⟨k, hk, hk24⟩ : ∃ k : Nat, at_ % 65536 % 24 = (k : Int) ∧ k < 24 := ⟨(at_ % 65536 % 24).toNat, by omega, by omega⟩
  by_cases hz : by_ = 0
  · subst hz
    refine W_seq ?_
    refine W_region_l ?_
    refine WL_stepM rfl (R_as) ?_
    refine WL_nil ?_
    refine W_seq ?_
    refine W_region_l ?_
    refine WL_stepM rfl (R_mv) ?_
    (refine WL_call rfl (R_call rfl Try.call33 rfl) (proc_ret (hl.monoN H (by repeat' first | exact kNil | apply kCons | apply kApp | assumption | exact OwnS.keys (by assumption))) hlb) ?_; rintro _ w8 ⟨f, hfa, rfl, H1⟩; replace H := H.seq0 H1; clear H1; obtain ⟨x, hx⟩ : ∃ x, (bytesP f)[k]? = some x := ⟨_, List.getElem?_eq_getElem (by rw [bytes_len]; exact hk24)⟩; have htb := turned_bad hfa hk24 (d := 1) (by decide) hx; have hxu : ((bytesP f).map U)[k]? = some (U x) := (by rw [List.getElem?_map, hx]; rfl))
    (refine WL_call rfl (R_call rfl Try.call28 rfl) (enc_yes f hfa _) ?_; rintro _ w9 ⟨b, rfl, hb, H1⟩; have hsz := H.size; replace H := H.seqN H1 (kCons hb kNil); replace hb := Nat.le_trans hsz hb; clear H1 hsz)
    refine WL_stepM rfl (R_mv) ?_
    refine WL_step rfl (R_extract rfl rfl) ?_
    refine WL_step rfl (R_extract rfl rfl) ?_
    refine WL_stepM rfl (R_as) ?_
    refine WL_stepM rfl (R_as) ?_
    refine WL_nil ?_
    refine W_seq ?_
    refine W_seq ?_
    refine W_region_l ?_
    refine WL_stepM rfl (R_mv) ?_
    refine WL_step rfl (R_not_t rfl) ?_
    refine WL_stepM rfl (R_mv) ?_
    refine WL_guard_t rfl rfl ?_
    refine WL_stepM rfl (R_mv) ?_
    refine WL_guard_t rfl rfl ?_
    refine WL_step rfl (R_len_slice Try.underlying22 rfl) ?_
    refine WL_guard_t rfl rfl ?_
    refine WL_step rfl (R_ne_f rfl rfl (by omega)) ?_
    refine WL_stepM rfl (R_pk_f rfl) ?_
    refine WL_nil ?_
    refine W_cond_f rfl ?_
    refine W_skip ?_
    refine W_seq ?_
    refine W_seq ?_
    refine W_region_l ?_
    refine WL_stepM rfl (R_mv) ?_
    refine WL_step rfl (R_eq_t rfl rfl rfl) ?_
    refine WL_nil ?_
    refine W_cond_t rfl ?_
    refine W_region_l ?_
    refine WL_stepM rfl (R_as) ?_
    refine WL_nil ?_
    refine W_seq ?_
    refine W_region_l ?_
    refine WL_stepM rfl (R_mv) ?_
    refine WL_stepM rfl (R_mv) ?_
    refine WL_step rfl (R_bits rfl rfl (by simp) (and_mask_i64 16 65536 (by decide) rfl (by decide))) ?_
    refine WL_step rfl (R_rem (r := (k : Int)) rfl rfl (by omega) ((rem_pos (by omega)).trans hk)) ?_
    refine WL_step rfl (R_indexAddr Try.underlying22 Try.sizeOf5 rfl rfl (by omega) (by omega) idx0_cast) ?_
    refine WL_step rfl (R_load (v := U x) Try.isAgg5 rfl (H.get .here) hxu) ?_
    refine WL_stepM rfl (R_mv) ?_
    refine WL_step rfl (R_add rfl rfl rfl) ?_
    refine WL_step rfl (R_indexAddr Try.underlying22 Try.sizeOf5 rfl rfl (by omega) (by omega) idx0_cast) ?_
    (refine WL_effu rfl (E_store (v := U (x + (1 : UInt8))) H Try.sizeOf5 rfl rfl rfl .here (by simp [bytes_len]; omega)) ?_; clear H; intro w53 H; rw [← List.map_set] at H)
    refine WL_nil ?_
    refine W_seq ?_
    refine W_region_l ?_
    refine WL_stepM rfl (R_mv) ?_
    (refine WL_call rfl (R_call rfl Try.call32 rfl) (dec_to htb (RdS.blk (off := 0) (H.get .here) (by rw [List.drop_zero, List.take_of_length_le (by simp [bytes_len])]) (by simp [bytes_len]) (by decide)) (by simp [bytes_len])) ?_; rintro _ w58 ⟨rfl, H1⟩; replace H := H.seq0 H1; clear H1)
    refine WL_stepM rfl (R_mv) ?_
    refine WL_step rfl (R_extract rfl rfl) ?_
    refine WL_step rfl (R_extract rfl rfl) ?_
    (refine WL_effn rfl (E_allocP H) ?_; clear H; intro c9 w62 hc9 H)
    (refine WL_effu rfl (E_storeP (q := zeroP) H rfl rfl .here) ?_; clear H; intro w63 H)
    refine WL_stepM rfl (R_as) ?_
    refine WL_nil ?_
    refine W_seq ?_
    refine W_region_l ?_
    refine WL_stepM rfl (R_mv) ?_
    refine WL_step rfl (R_eq_t rfl rfl (by omega)) ?_
    refine WL_stepM rfl (R_mv) ?_
    refine WL_guard_t rfl rfl ?_
    (refine WL_call rfl (R_call rfl Try.call29 rfl) (awake_ret _) ?_; rintro _ w72 ⟨rfl, H1⟩; replace H := H.seq0 H1; clear H1)
    refine WL_stepM rfl (R_pk_t rfl) ?_
    refine WL_stepM rfl (R_as) ?_
    refine WL_nil ?_
    refine W_ret ?_
    exact ⟨_, rfl, rfl, H.none (by repeat' first | exact kNil | apply kCons | apply kApp | assumption | exact OwnS.keys (by assumption))⟩
  · refine W_seq ?_
    refine W_region_l ?_
    refine WL_stepM rfl (R_as) ?_
    refine WL_nil ?_
    refine W_seq ?_
    refine W_region_l ?_
    refine WL_stepM rfl (R_mv) ?_
    (refine WL_call rfl (R_call rfl Try.call33 rfl) (proc_ret (hl.monoN H (by repeat' first | exact kNil | apply kCons | apply kApp | assumption | exact OwnS.keys (by assumption))) hlb) ?_; rintro _ w8 ⟨f, hfa, rfl, H1⟩; replace H := H.seq0 H1; clear H1; obtain ⟨x, hx⟩ : ∃ x, (bytesP f)[k]? = some x := ⟨_, List.getElem?_eq_getElem (by rw [bytes_len]; exact hk24)⟩; have htb := turned_bad hfa hk24 hz hx; have hxu : ((bytesP f).map U)[k]? = some (U x) := (by rw [List.getElem?_map, hx]; rfl))
    (refine WL_call rfl (R_call rfl Try.call28 rfl) (enc_yes f hfa _) ?_; rintro _ w9 ⟨b, rfl, hb, H1⟩; have hsz := H.size; replace H := H.seqN H1 (kCons hb kNil); replace hb := Nat.le_trans hsz hb; clear H1 hsz)
    refine WL_stepM rfl (R_mv) ?_
    refine WL_step rfl (R_extract rfl rfl) ?_
    refine WL_step rfl (R_extract rfl rfl) ?_
    refine WL_stepM rfl (R_as) ?_
    refine WL_stepM rfl (R_as) ?_
    refine WL_nil ?_
    refine W_seq ?_
    refine W_seq ?_
    refine W_region_l ?_
    refine WL_stepM rfl (R_mv) ?_
    refine WL_step rfl (R_not_t rfl) ?_
    refine WL_stepM rfl (R_mv) ?_
    refine WL_guard_t rfl rfl ?_
    refine WL_stepM rfl (R_mv) ?_
    refine WL_guard_t rfl rfl ?_
    refine WL_step rfl (R_len_slice Try.underlying22 rfl) ?_
    refine WL_guard_t rfl rfl ?_
    refine WL_step rfl (R_ne_f rfl rfl (by omega)) ?_
    refine WL_stepM rfl (R_pk_f rfl) ?_
    refine WL_nil ?_
    refine W_cond_f rfl ?_
    refine W_skip ?_
    refine W_seq ?_
    refine W_seq ?_
    refine W_region_l ?_
    refine WL_stepM rfl (R_mv) ?_
    refine WL_step rfl (R_eq_f rfl rfl (fun h => hz (u8_eq.1 (h.trans rfl)))) ?_
    refine WL_nil ?_
    refine W_cond_f rfl ?_
    refine W_skip ?_
    refine W_seq ?_
    refine W_region_l ?_
    refine WL_stepM rfl (R_mv) ?_
    refine WL_stepM rfl (R_mv) ?_
    refine WL_step rfl (R_bits rfl rfl (by simp) (and_mask_i64 16 65536 (by decide) rfl (by decide))) ?_
    refine WL_step rfl (R_rem (r := (k : Int)) rfl rfl (by omega) ((rem_pos (by omega)).trans hk)) ?_
    refine WL_step rfl (R_indexAddr Try.underlying22 Try.sizeOf5 rfl rfl (by omega) (by omega) idx0_cast) ?_
    refine WL_step rfl (R_load (v := U x) Try.isAgg5 rfl (H.get .here) hxu) ?_
    refine WL_stepM rfl (R_mv) ?_
    refine WL_step rfl (R_add (r := ((x + by_).toNat : Int)) rfl rfl u8_add) ?_
    refine WL_step rfl (R_indexAddr Try.underlying22 Try.sizeOf5 rfl rfl (by omega) (by omega) idx0_cast) ?_
    (refine WL_effu rfl (E_store (v := U (x + by_)) H Try.sizeOf5 rfl rfl rfl .here (by simp [bytes_len]; omega)) ?_; clear H; intro w51 H; rw [← List.map_set] at H)
    refine WL_nil ?_
    refine W_seq ?_
    refine W_region_l ?_
    refine WL_stepM rfl (R_mv) ?_
    (refine WL_call rfl (R_call rfl Try.call32 rfl) (dec_to htb (RdS.blk (off := 0) (H.get .here) (by rw [List.drop_zero, List.take_of_length_le (by simp [bytes_len])]) (by simp [bytes_len]) (by decide)) (by simp [bytes_len])) ?_; rintro _ w56 ⟨rfl, H1⟩; replace H := H.seq0 H1; clear H1)
    refine WL_stepM rfl (R_mv) ?_
    refine WL_step rfl (R_extract rfl rfl) ?_
    refine WL_step rfl (R_extract rfl rfl) ?_
    (refine WL_effn rfl (E_allocP H) ?_; clear H; intro c9 w60 hc9 H)
    (refine WL_effu rfl (E_storeP (q := zeroP) H rfl rfl .here) ?_; clear H; intro w61 H)
    refine WL_stepM rfl (R_as) ?_
    refine WL_nil ?_
    refine W_seq ?_
    refine W_region_l ?_
    refine WL_stepM rfl (R_mv) ?_
    refine WL_step rfl (R_eq_t rfl rfl (by omega)) ?_
    refine WL_stepM rfl (R_mv) ?_
    refine WL_guard_t rfl rfl ?_
    (refine WL_call rfl (R_call rfl Try.call29 rfl) (awake_ret _) ?_; rintro _ w70 ⟨rfl, H1⟩; replace H := H.seq0 H1; clear H1)
    refine WL_stepM rfl (R_pk_t rfl) ?_
    refine WL_stepM rfl (R_as) ?_
    refine WL_nil ?_
    refine W_ret ?_
    exact ⟨_, rfl, rfl, H.none (by repeat' first | exact kNil | apply kCons | apply kApp | assumption | exact OwnS.keys (by assumption))⟩

theorem dec_cases (xs : List UInt8) : (good xs ∧ decP xs = (ofB xs, 1)) ∨ ∃ d : Int, d ≠ 1 ∧ decP xs = (zeroP, d) := by
  by_cases hg : good xs
  · exact .inl ⟨hg, decP_good hg⟩
  · by_cases hf : xs.length = 24 ∧ ∀ x ∈ xs, x = 0
    · exact .inr ⟨0, by decide, decP_free hf.1 hf.2⟩
    · exact .inr ⟨2, by decide, decP_bad hg hf⟩

theorem one_ret {ls ms : List Int} {xs : List UInt8} {w : World} {l m n : Value} (hl : RdS w l (ls.map fun x => I x)) (hm : RdS w m (ms.map fun x => I x)) (hn : RdS w n (xs.map U)) (hlb : ls.length ≤ 9223372036854775807) (hmb : ms.length ≤ 9223372036854775807) (hb : xs.length ≤ 9223372036854775807) :
    Ret Try.prog 11 #[l, m, n] w fun v w' => v = .bool true ∧ Hp w [] w' := by
  refine Ret_of_W (args := [_, _, _]) Try.func11 rfl Try.ntmps11 Try.results11 (by simp) ?_
  have H := Hp.refl w
  obtain ⟨al, cl, rfl⟩ := hl.form
  obtain ⟨am, cm, rfl⟩ := hm.form
  obtain ⟨an, cn, rfl⟩ := hn.form
  simp only [List.length_map] at hl hm hn ⊢
  refine W_seq ?_
  refine W_region_l ?_
  refine WL_stepM rfl (R_as) ?_
  refine WL_nil ?_
  refine W_seq ?_
  refine W_region_l ?_
  refine WL_stepM rfl (R_mv) ?_
  (refine WL_call rfl (R_call rfl Try.call33 rfl) (proc_ret (hl.monoN H (by repeat' first | exact kNil | apply kCons | apply kApp | assumption | exact OwnS.keys (by assumption))) hlb) ?_; rintro _ w8 ⟨f, hfa, rfl, H1⟩; replace H := H.seq0 H1; clear H1)
  refine WL_stepM rfl (R_mv) ?_
  (have _g := hfa; refine WL_call rfl (R_call rfl Try.call33 rfl) (proc_ret (hm.monoN H (by repeat' first | exact kNil | apply kCons | apply kApp | assumption | exact OwnS.keys (by assumption))) hmb) ?_; rintro _ w10 ⟨g, hga, rfl, H1⟩; replace H := H.seq0 H1; clear H1; have hbi := bytes_inj hfa hga)
  (refine WL_effn rfl (E_allocP H) ?_; clear H; intro c7 w11 hc7 H)
  (refine WL_effn rfl (E_allocP H) ?_; clear H; intro c8 w12 hc8 H)
  (refine WL_effu rfl (E_storeP (q := f) H rfl rfl (.there .here)) ?_; clear H; intro w13 H)
  (refine WL_effu rfl (E_storeP (q := g) H rfl rfl .here) ?_; clear H; intro w14 H)
  refine WL_nil ?_
  refine W_seq ?_
  refine W_region_l ?_
  refine WL_step rfl (R_loadP rfl (H.get (.there .here))) ?_
  (refine WL_call rfl (R_call rfl Try.call28 rfl) (enc_yes f hfa _) ?_; rintro _ w19 ⟨ba, rfl, hba, H1⟩; have hsz := H.size; replace H := H.seqN H1 (kCons hba kNil); replace hba := Nat.le_trans hsz hba; clear H1 hsz)
  refine WL_stepM rfl (R_mv) ?_
  refine WL_step rfl (R_extract rfl rfl) ?_
  refine WL_step rfl (R_extract rfl rfl) ?_
  refine WL_stepM rfl (R_as) ?_
  refine WL_stepM rfl (R_as) ?_
  refine WL_nil ?_
  refine W_seq ?_
  refine W_region_l ?_
  refine WL_step rfl (R_loadP rfl (H.get (.there .here))) ?_
  (refine WL_call rfl (R_call rfl Try.call28 rfl) (enc_yes g hga _) ?_; rintro _ w29 ⟨bb, rfl, hbb, H1⟩; have hsz := H.size; replace H := H.seqN H1 (kCons hbb kNil); replace hbb := Nat.le_trans hsz hbb; clear H1 hsz)
  refine WL_stepM rfl (R_mv) ?_
  refine WL_step rfl (R_extract rfl rfl) ?_
  refine WL_step rfl (R_extract rfl rfl) ?_
  refine WL_stepM rfl (R_as) ?_
  refine WL_stepM rfl (R_as) ?_
  refine WL_nil ?_
  refine W_seq ?_
  refine W_seq ?_
  (refine W_drawH (fun _ => false) (by kernel_rfl) H ?_; clear H; intro w38 H)
  refine WA_takeM 0 rfl rfl rfl (by kernel_rfl) (by kernel_rfl) H (fun _ hC => R_mv) ?_
  refine WA_take 1 rfl rfl rfl (by kernel_rfl) (by kernel_rfl) H (fun _ hC => R_not_t rfl) ?_
  refine WA_takeM 2 rfl rfl rfl (by kernel_rfl) (by kernel_rfl) H (fun _ hC => R_mv) ?_
  refine WA_takeGM 3 rfl rfl rfl rfl (by kernel_rfl) (by kernel_rfl) H (fun _ hC => R_mv) ?_
  refine WA_takeG 4 rfl rfl rfl rfl (by kernel_rfl) (by kernel_rfl) H (fun _ hC => R_not_t rfl) ?_
  refine WA_takeM 5 rfl rfl rfl (by kernel_rfl) (by kernel_rfl) H (fun _ hC => R_pk_f rfl) ?_
  refine WA_takeM 6 rfl rfl rfl (by kernel_rfl) (by kernel_rfl) H (fun _ hC => R_mv) ?_
  refine WA_takeGM 7 rfl rfl rfl rfl (by kernel_rfl) (by kernel_rfl) H (fun _ hC => R_mv) ?_
  refine WA_takeG 8 rfl rfl rfl rfl (by kernel_rfl) (by kernel_rfl) H (fun _ hC => R_conv_bs (xs := bytesP f) Try.underlying22 Try.underlying5 Try.underlying9 rfl (rdP (hC.get (.there .here)) (by decide))) ?_
  refine WA_takeGM 9 rfl rfl rfl rfl (by kernel_rfl) (by kernel_rfl) H (fun _ hC => R_mv) ?_
  refine WA_takeG 10 rfl rfl rfl rfl (by kernel_rfl) (by kernel_rfl) H (fun _ hC => R_conv_bs (xs := bytesP g) Try.underlying22 Try.underlying5 Try.underlying9 rfl (rdP (hC.get .here) (by decide))) ?_
  refine WA_takeG 11 rfl rfl rfl rfl (by kernel_rfl) (by kernel_rfl) H (fun _ hC => R_eq_S rfl rfl) ?_
  refine WA_takeG 12 rfl rfl rfl rfl (by kernel_rfl) (by kernel_rfl) H (fun _ hC => R_loadP rfl (hC.get (.there (.there (.there .here))))) ?_
  refine WA_takeG 13 rfl rfl rfl rfl (by kernel_rfl) (by kernel_rfl) H (fun _ hC => R_loadP rfl (hC.get (.there (.there .here)))) ?_
  refine WA_takeG 14 rfl rfl rfl rfl (by kernel_rfl) (by kernel_rfl) H (fun _ hC => R_eq_P (f := f) (g := g) rfl rfl) ?_
  refine WA_takeG 15 rfl rfl rfl rfl (by kernel_rfl) (by kernel_rfl) H (fun _ hC => R_ne_dec_f Try.underlying4 rfl rfl hbi) ?_
  refine WA_takeM 16 rfl rfl rfl (by kernel_rfl) (by kernel_rfl) H (fun _ hC => R_pk_f rfl) ?_
  refine WA_done (by kernel_rfl) ?_
  refine W_cond_f rfl ?_
  refine W_skip ?_
  refine W_seq ?_
  refine W_seq ?_
  ((rcases dec_cases xs with ⟨hg, hdec⟩ | ⟨d, hd, hdec⟩)) <;> refine W_region_l ?_
  · refine WL_stepM rfl (R_mv) ?_
    (refine WL_call rfl (R_call rfl Try.call32 rfl) (dec_to hdec (hn.monoN H (by repeat' first | exact kNil | apply kCons | apply kApp | assumption | exact OwnS.keys (by assumption))) hb) ?_; rintro _ w63 ⟨rfl, H1⟩; replace H := H.seq0 H1; clear H1)
    refine WL_stepM rfl (R_mv) ?_
    refine WL_step rfl (R_extract rfl rfl) ?_
    refine WL_step rfl (R_extract rfl rfl) ?_
    (refine WL_effn rfl (E_allocP H) ?_; clear H; intro c13 w67 hc13 H)
    (have _g := hc13; refine WL_effu rfl (E_storeP (q := ofB xs) H rfl rfl .here) ?_; clear H; intro w68 H)
    refine WL_stepM rfl (R_as) ?_
    refine WL_nil ?_
    refine W_seq ?_
    refine W_region_l ?_
    refine WL_stepM rfl (R_mv) ?_
    refine WL_step rfl (R_eq_t rfl rfl rfl) ?_
    refine WL_nil ?_
    refine W_cond_t rfl ?_
    refine W_seq ?_
    refine W_region_l ?_
    refine WL_step rfl (R_loadP rfl (H.get .here)) ?_
    (have _g := hc13; refine WL_call rfl (R_call rfl Try.call28 rfl) (enc_yes (ofB xs) hg.2.1 _) ?_; rintro _ w80 ⟨be, rfl, hbe, H1⟩; have hsz := H.size; replace H := H.seqN H1 (kCons hbe kNil); replace hbe := Nat.le_trans hsz hbe; clear H1 hsz)
    refine WL_stepM rfl (R_mv) ?_
    refine WL_step rfl (R_extract rfl rfl) ?_
    refine WL_step rfl (R_extract rfl rfl) ?_
    refine WL_stepM rfl (R_as) ?_
    refine WL_stepM rfl (R_as) ?_
    refine WL_nil ?_
    refine W_seq ?_
    refine W_region_l ?_
    refine WL_stepM rfl (R_mv) ?_
    refine WL_step rfl (R_not_t rfl) ?_
    refine WL_stepM rfl (R_mv) ?_
    refine WL_guard_t rfl rfl ?_
    refine WL_stepM rfl (R_mv) ?_
    refine WL_guard_t rfl rfl ?_
    refine WL_step rfl (R_conv_bs (xs := bytesP (ofB xs)) Try.underlying22 Try.underlying5 Try.underlying9 rfl (rdP (H.get .here) (by decide))) ?_
    refine WL_guard_t rfl rfl ?_
    refine WL_stepM rfl (R_mv) ?_
    refine WL_guard_t rfl rfl ?_
    refine WL_step rfl (R_conv_bs (xs := xs) Try.underlying22 Try.underlying5 Try.underlying9 rfl (hn.monoN H (by repeat' first | exact kNil | apply kCons | apply kApp | assumption | exact OwnS.keys (by assumption)))) ?_
    refine WL_guard_t rfl rfl ?_
    refine WL_step rfl (R_ne_S_f rfl rfl hg.2.2) ?_
    refine WL_stepM rfl (R_pk_f rfl) ?_
    refine WL_nil ?_
    refine W_cond_f rfl ?_
    refine W_skip ?_
    refine W_seq ?_
    refine W_region_l ?_
    (refine WL_call rfl (R_call rfl Try.call29 rfl) (awake_ret _) ?_; rintro _ w108 ⟨rfl, H1⟩; replace H := H.seq0 H1; clear H1)
    refine WL_stepM rfl (R_as) ?_
    refine WL_nil ?_
    refine W_ret ?_
    exact ⟨_, rfl, rfl, H.none (by repeat' first | exact kNil | apply kCons | apply kApp | assumption | exact OwnS.keys (by assumption))⟩
  · refine WL_stepM rfl (R_mv) ?_
    (refine WL_call rfl (R_call rfl Try.call32 rfl) (dec_to hdec (hn.monoN H (by repeat' first | exact kNil | apply kCons | apply kApp | assumption | exact OwnS.keys (by assumption))) hb) ?_; rintro _ w114 ⟨rfl, H1⟩; replace H := H.seq0 H1; clear H1)
    refine WL_stepM rfl (R_mv) ?_
    refine WL_step rfl (R_extract rfl rfl) ?_
    refine WL_step rfl (R_extract rfl rfl) ?_
    (refine WL_effn rfl (E_allocP H) ?_; clear H; intro c13 w118 hc13 H)
    (have _g := hc13; refine WL_effu rfl (E_storeP (q := zeroP) H rfl rfl .here) ?_; clear H; intro w119 H)
    refine WL_stepM rfl (R_as) ?_
    refine WL_nil ?_
    refine W_seq ?_
    refine W_region_l ?_
    refine WL_stepM rfl (R_mv) ?_
    refine WL_step rfl (R_eq_f rfl rfl hd) ?_
    refine WL_nil ?_
    refine W_cond_f rfl ?_
    refine W_skip ?_
    refine W_seq ?_
    refine W_region_l ?_
    (refine WL_call rfl (R_call rfl Try.call29 rfl) (awake_ret _) ?_; rintro _ w131 ⟨rfl, H1⟩; replace H := H.seq0 H1; clear H1)
    refine WL_stepM rfl (R_as) ?_
    refine WL_nil ?_
    refine W_ret ?_
    exact ⟨_, rfl, rfl, H.none (by repeat' first | exact kNil | apply kCons | apply kApp | assumption | exact OwnS.keys (by assumption))⟩
end Go.Proofs.Ytcpkhgdjckogjaa.Slot
