/-
  The law AuditOne.
-/
import Derived.Test.YthonajikgljgmaaOneA
import Derived.Test.YthonajikgljgmaaSlotM1
namespace Go.Proofs.Ythonajikgljgmaa.Aud
open Go Go.Proofs Go.Proofs.Ythonajikgljgmaa.Fx
set_option maxRecDepth 100000
set_option linter.unusedVariables false
set_option linter.unusedSimpArgs false
set_option maxHeartbeats 16000000

def recK : List IntKind := [.i64] ++ ([.i64] ++ [])
theorem eq_rec : EqC Try.prog 84 recK true 2 := by
  have hi := EqC.int Try.isAgg3 Try.sizeOf3 Try.underlying3
  refine EqC.struct (d0 := 1) Try.isAgg84 Try.sizeOf84 Try.underlying84 (by kernel_rfl) ?_
  unfold recK
  refine FieldsC.cons (by decide) rfl hi (by decide) ?_
  exact FieldsC.cons (by decide) rfl hi (by decide) .nil
theorem R_eq_rec {E : Env} {w : World} {d : Option Nat} {ty : TypeId} {pos : String} {after : Array Edge} {t' : TypeId} {x y : Operand} {a b a' b' : Int} {z : Bool} (hx : ev E x = .agg #[I a, I b]) (hy : ev E y = .agg #[I a', I b']) (hz : decide ([a, b] = [a', b']) = z) :
    (execOp (ev E) (mk d (.binOp .eql 84 x y t') ty pos after)).run Try.prog w = .ok (.value (.bool z)) w := by
  rw [R_eq_C eq_rec (ns := [a, b]) (ms := [a', b']) (xs := [I a, I b]) (ys := [I a', I b']) (by decide) (by kernel_rfl) hx hy rfl rfl rfl rfl, hz]

theorem rd_row {w : World} {b m cap : Nat} {X : List UInt8} {sp : List Value} {e : TypeId} (hb : w.heap[b]? = some (blk (X.map U ++ sp) e)) (hl : X.length = m) (hc : m ≤ cap) : RdS w (sl b 0 m cap) (X.map U) :=
  RdS.blk hb (by rw [List.drop_zero, List.take_append_of_le_length (by rw [List.length_map, hl]; exact Nat.le_refl _), List.take_of_length_le (by rw [List.length_map, hl]; exact Nat.le_refl _)]) (by rw [List.length_append, List.length_map, hl]; omega) hc
theorem one_ret (g at_ : Int) (by_ : UInt8) (w : World) : Ret Try.prog 11 #[I g, I at_, U by_] w fun v w' => v = .bool true ∧ Hp w [] w' := by
  refine Ret_of_W (args := [_, _, _]) Try.func11 rfl Try.ntmps11 Try.results11 (by simp) ?_
  have H := Hp.refl w
  obtain ⟨G, hG, hG8⟩ : ∃ G : Nat, g % 8 = (G : Int) ∧ G < 8 := ⟨(g % 8).toNat, by omega, by omega⟩
  obtain ⟨X, hX⟩ : ∃ X, xs0 G = X := ⟨_, rfl⟩
  have hXl : X.length = 492 := hX ▸ xs0_len G
  have hXf : faults X = [] := hX ▸ (xs0_faults G hG8).1
  obtain ⟨d, hd, hd0⟩ : ∃ d : UInt8, (if by_ = 0 then 1 else by_) = d ∧ d ≠ 0 := ⟨_, rfl, by split; decide; assumption⟩
  obtain ⟨K, hK, hK32⟩ : ∃ K : Nat, at_ % 32 = (K : Int) ∧ K < 32 := ⟨(at_ % 32).toNat, by omega, by omega⟩
  obtain ⟨k, hk⟩ : ∃ k : Nat, k = if K < 24 then K else 200 + K := ⟨_, rfl⟩
  have hk492 : k < 492 := by rw [hk]; split <;> omega
  obtain ⟨x, hx⟩ : ∃ x, X[k]? = some x := ⟨_, List.getElem?_eq_getElem (by omega)⟩
  obtain ⟨Y, hY⟩ : ∃ Y, X.set k (x + d) = Y := ⟨_, rfl⟩
  have hYl : Y.length = 492 := by rw [← hY, List.length_set]; exact hXl
  obtain ⟨bk, bi, hbb, hbk⟩ : ∃ bk bi : Int, badAll Y = [(bk, bi)] ∧ ((K < 24 ∧ bk = 1 ∧ bi = 0) ∨ (24 ≤ K ∧ bk = 2 ∧ bi = 4)) := by
    rw [← hX] at hx hY
    rcases Nat.lt_or_ge K 24 with h | h
    · rw [if_pos h] at hk; subst hk
      exact ⟨1, 0, by rw [← hY]; exact one_p G hG8 h hd0 hx, .inl ⟨h, rfl, rfl⟩⟩
    · rw [if_neg (by omega)] at hk
      obtain ⟨m, rfl⟩ : ∃ m, K = 24 + m := ⟨K - 24, by omega⟩
      have hk2 : k = 224 + m := by omega
      subst hk2
      exact ⟨2, 4, by rw [← hY]; exact one_f G hG8 (by omega) hd0 hx, .inr ⟨h, rfl, rfl⟩⟩
  have hkk : (K < 24 ∧ k = K) ∨ (24 ≤ K ∧ k = 200 + K) := by
    rcases Nat.lt_or_ge K 24 with h | h
    · exact .inl ⟨h, by rw [hk, if_pos h]⟩
    · exact .inr ⟨h, by rw [hk, if_neg (by omega)]⟩
  have hdd : (by_.toNat = 0 ∧ d = 1) ∨ (by_.toNat ≠ 0 ∧ d = by_) := by
    by_cases h : by_ = 0
    · subst h; exact .inl ⟨rfl, by rw [← hd]; rfl⟩
    · exact .inr ⟨fun h2 => h (UInt8.toNat_inj.1 (by rw [h2]; rfl)), by rw [← hd, if_neg h]⟩
  clear hk hd
  have hYf : ¬ faults Y = [] := faults_ne (by rw [hbb]; simp)
  refine W_seq ?_
  refine W_region_l ?_
  refine WL_stepM rfl (R_as) ?_
  refine WL_nil ?_
  refine W_seq ?_
  refine W_region_l ?_
  (refine WL_call rfl (R_call rfl Try.call30 rfl) (blank_ret _) ?_; rintro _ w7 ⟨M, hO, H1⟩; have h7 := H.seqO hO H1; clear H H1 hO; obtain ⟨hO, H⟩ := h7; obtain ⟨bb, bc, bsp, rfl, hbb', rfl, hbs, hbc⟩ := OwnS.pos hO (by decide); rw [List.append_nil] at H)
  refine WL_stepM rfl (R_as) ?_
  refine WL_nil ?_
  refine W_seq ?_
  refine W_seq ?_
  refine W_region_l ?_
  refine WL_stepM rfl (R_mv) ?_
  refine WL_step rfl (R_len_slice Try.underlying22 rfl) ?_
  refine WL_step rfl (R_ne_f rfl rfl (by omega)) ?_
  refine WL_nil ?_
  refine W_cond_f rfl ?_
  refine W_skip ?_
  refine W_seq ?_
  refine W_region_l ?_
  refine WL_stepM rfl (R_mv) ?_
  refine WL_step rfl (R_bits (r := (G : Int)) rfl rfl (by simp) ((and_mask_i64 3 8 (by decide) rfl (by decide)).trans hG)) ?_
  refine WL_step rfl (R_buildL (places := [(0, 1), (1, 1), (2, 1), (3, 1), (4, 1), (5, 1), (6, 1), (7, 1), (8, 8)]) (vs := Slot.piC ({ Slot.zeroP with s := 1, g := (G : Int) } : Slot.Pi)) Try.underlying67 Try.typeInfo67 rfl rfl (by kernel_rfl) rfl rfl rfl) ?_
  (refine WL_effn rfl (Slot.E_allocP H) ?_; clear H; intro c8 w24 hc8 H)
  (refine WL_effu rfl (Slot.E_storeP (q := { Slot.zeroP with s := 1, g := (G : Int) }) H rfl rfl .here) ?_; clear H; intro w25 H; replace H : Hp w [(c8, blk [I 1, I 0, I G, I 0, I 0, I 0, I 0, I 0, I 0, I 0, I 0, I 0, I 0, I 0, I 0, I 0] 67), (bb, blk (blankB.map U ++ bsp) 5)] w25 := H)
  refine WL_nil ?_
  refine W_seq ?_
  refine W_region_l ?_
  refine WL_step rfl (R_fieldAddr (off' := 8) Try.underlying67 rfl Try.sizeOf65 (by decide) rfl rfl) ?_
  refine WL_step rfl (R_indexAddrA (off' := 11) Try.underlying65 Try.sizeOf3 rfl rfl (by omega) (by omega) rfl) ?_
  (refine WL_effu rfl (E_store (v := (.int _ _)) H Try.sizeOf3 rfl rfl rfl .here (by simp)) ?_; clear H; intro w31 H)
  refine WL_nil ?_
  refine W_seq ?_
  ((replace H : Hp w [(c8, blk (Slot.piC (oneP G)) 67), (bb, blk (blankB.map U ++ bsp) 5)] _ := H)) <;> refine W_region_l ?_
  refine WL_stepM rfl (R_mv) ?_
  refine WL_step rfl (Slot.R_loadP (p := oneP G) rfl (H.get .here)) ?_
  (refine WL_call rfl (R_call rfl Try.call32 rfl) (Slot.refBytes_ret (oneP G) (oneP_ok G hG8) _) ?_; rintro _ w37 ⟨rfl, H1⟩; replace H := H.seq0 H1; clear H1)
  (refine WL_effm rfl (E_putS (ys := Slot.bytesP (oneP G)) (a := 0) H (.there .here) Try.underlying22 Try.sizeOf5 rfl rfl S_csrc (by rw [blankB_len]) (by rw [blankB_len, Slot.bytes_len]; decide)) ?_; clear H; rintro _ _ w38 rfl H)
  refine WL_nil ?_
  refine W_seq ?_
  (refine W_draw (Kp []) (fun _ => false) (by kernel_rfl) H ?_; clear H; intro w41 H)
  refine WA_takeM 0 rfl rfl rfl (by kernel_rfl) (by kernel_rfl) (H.kp.sub (by simp)) (fun _ hC => R_mv) ?_
  refine WA_take 1 rfl rfl rfl (by kernel_rfl) (by kernel_rfl) (H.kp.sub (by simp)) (fun _ hC => R_from (k := 224) (m := 268) (k' := 224) Try.underlying22 Try.sizeOf5 rfl rfl rfl (by omega) (by decide) (by omega)) ?_
  refine WA_take 2 rfl rfl rfl (by kernel_rfl) (by kernel_rfl) (H.kp.sub (by simp)) (fun _ hC => R_buildL (places := [(0, 1), (1, 1), (2, 1), (3, 1)]) (vs := File.flC oneF) Try.underlying69 Try.typeInfo69 rfl rfl (by kernel_rfl) rfl rfl rfl) ?_
  refine WA_one (i := 3) (by kernel_rfl) ?_
  (refine WI_call rfl (.inl rfl) (R_call rfl Try.call33 rfl) (File.refBytes_ret oneF oneF_ok _) (fun _ _ hR _ => (H.seq0 hR.2).kp.sub (by simp)) ?_; rintro _ w46 ⟨rfl, H1⟩; replace H := H.seq0 H1; clear H1)
  refine WA_one (i := 4) (by kernel_rfl) ?_
  (refine WI_effm rfl (.inl rfl) (E_putS (ys := File.fileBytes oneF) (a := 224) H (.there .here) Try.underlying22 Try.sizeOf5 rfl rfl S_csrc (by rw [Mem.put_length (by rw [Slot.bytes_len, blankB_len]; decide), blankB_len]) (by rw [Mem.put_length (by rw [Slot.bytes_len, blankB_len]; decide), blankB_len]; decide)) (fun _ _ H => (by first | exact fun h => absurd h (by decide) | exact fun _ => H | exact fun _ => H.none (by repeat' first | exact kNil | apply kCons | apply kApp | assumption | exact OwnS.keys (by assumption)) | exact fun _ => H.dropN (by repeat' first | exact kNil | apply kCons | apply kApp | assumption | exact OwnS.keys (by assumption)) | exact fun _ => H.pop (by assumption) | exact fun _ => (H.pop (by assumption)).pop (by assumption) | exact fun _ => H.kp | exact fun _ => H.kp.tail | exact fun _ => H.kp.tail.tail | exact fun _ => H.kp.tail.tail.tail | exact fun _ => H.kp.sub (by simp) | exact fun _ => Kp.nil | exact fun _ => H.kh (by simp) (by repeat' first | exact kNil | apply kCons | apply kApp | assumption | exact OwnS.keys (by assumption)))) ?_; clear H; rintro _ _ w48 rfl H; replace H : Hp w [(c8, blk (Slot.piC (oneP G)) 67), (bb, blk (X.map U ++ bsp) 5)] w48 := (by rw [← hX]; exact H))
  refine WA_done (by kernel_rfl) ?_
  refine W_seq ?_
  refine W_seq ?_
  refine W_region_l ?_
  refine WL_stepM rfl (R_mv) ?_
  (refine WL_call rfl (R_call rfl Try.call35 rfl) (sound_ret (xs := X) (rd_row (H.get (.there .here)) hXl (by omega))) ?_; rintro _ w54 ⟨rfl, H1⟩; rw [decide_eq_true hXf]; replace H := H.seq0 H1; clear H1)
  refine WL_step rfl (R_not_t rfl) ?_
  refine WL_nil ?_
  refine W_cond_f rfl ?_
  refine W_skip ?_
  refine W_seq ?_
  refine W_seq ?_
  ((rcases hdd with ⟨hb0, hd1⟩ | ⟨hb0, hd1⟩)) <;> refine W_region_l ?_
  · refine WL_stepM rfl (R_mv) ?_
    refine WL_step rfl (R_eq_t rfl rfl (by omega)) ?_
    refine WL_nil ?_
    refine W_cond_t rfl ?_
    refine W_region_l ?_
    refine WL_stepM rfl (R_as) ?_
    refine WL_nil ?_
    refine W_seq ?_
    ((rcases hbk with ⟨hK24, rfl, rfl⟩ | ⟨hK24, rfl, rfl⟩)) <;> refine W_region_l ?_
    · refine WL_stepM rfl (R_mv) ?_
      refine WL_step rfl (R_bits (r := (K : Int)) rfl rfl (by simp) ((and_mask_i64 5 32 (by decide) rfl (by decide)).trans hK)) ?_
      refine WL_stepM rfl (R_as) ?_
      refine WL_nil ?_
      refine W_seq ?_
      refine W_seq ?_
      refine W_region_l ?_
      refine WL_stepM rfl (R_mv) ?_
      refine WL_step rfl (R_ge_f rfl rfl (by omega)) ?_
      refine WL_nil ?_
      refine W_cond_f rfl ?_
      refine W_skip ?_
      refine W_seq ?_
      ((have _g : K < 24 := hK24; obtain rfl : k = K := (by omega))) <;> refine W_region_l ?_
      refine WL_stepM rfl (R_mv) ?_
      refine WL_stepM rfl (R_mv) ?_
      refine WL_step rfl (R_indexAddr (off' := k) Try.underlying22 Try.sizeOf5 rfl rfl (by omega) (by omega) (by omega)) ?_
      refine WL_step rfl (R_load (v := U x) Try.isAgg5 rfl (H.get (.there .here)) (by rw [List.getElem?_append_left (by rw [List.length_map]; omega), List.getElem?_map, hx]; rfl)) ?_
      refine WL_stepM rfl (R_mv) ?_
      refine WL_step rfl (R_add (r := ((x + d).toNat : Int)) rfl rfl (by rw [hd1]; first | exact u8_add | exact u8_add (y := 1))) ?_
      refine WL_step rfl (R_indexAddr (off' := k) Try.underlying22 Try.sizeOf5 rfl rfl (by omega) (by omega) (by omega)) ?_
      (refine WL_effu rfl (E_store (v := U (x + d)) H Try.sizeOf5 rfl rfl rfl (.there .here) (by rw [List.length_append, List.length_map]; omega)) ?_; clear H; intro w92 H; replace H : Hp w [(c8, blk (Slot.piC (oneP G)) 67), (bb, blk (Y.map U ++ bsp) 5)] w92 := (by rw [List.set_append_left _ _ (by rw [List.length_map]; omega), ← List.map_set, hY] at H; exact H))
      refine WL_nil ?_
      refine W_seq ?_
      refine W_region_l ?_
      refine WL_stepM rfl (R_mv) ?_
      (refine WL_call rfl (R_call rfl Try.call38 rfl) (bad_yes (xs := Y) (rd_row (H.get (.there .here)) hYl (by omega)) hYl) ?_; rintro _ w97 ⟨M2, hO2, H1⟩; rw [hbb] at hO2; have h97 := H.seqO hO2 H1; clear H H1 hO2; obtain ⟨hO2, H⟩ := h97; obtain ⟨b2, q2, sp2, rfl, hb2, rfl, hs2, hc2⟩ := OwnS.pos hO2 (by simp))
      refine WL_stepM rfl (R_as) ?_
      refine WL_nil ?_
      refine W_seq ?_
      refine W_region_l ?_
      refine WL_stepM rfl (R_mv) ?_
      refine WL_step rfl (R_len_slice (len := 1) Try.underlying81 rfl) ?_
      refine WL_step rfl (R_eq_t rfl rfl (by omega)) ?_
      refine WL_stepM rfl (R_mv) ?_
      refine WL_guard_t rfl rfl ?_
      refine WL_stepM rfl (R_mv) ?_
      refine WL_guard_t rfl rfl ?_
      refine WL_step rfl (R_indexAddr (off' := 0) Try.underlying81 Try.sizeOf84 rfl rfl (by decide) (by simp) (by decide)) ?_
      refine WL_guard_t rfl rfl ?_
      refine WL_step rfl (R_loadA (vs := [I 1, I 0]) Try.isAgg84 Try.sizeOf84 rfl (H.get .here) rfl (by simp [rows, recC])) ?_
      refine WL_guard_t rfl rfl ?_
      refine WL_step rfl (R_buildL (places := [(0, 1), (1, 1)]) (vs := [I 1, I 0]) Try.underlying84 Try.typeInfo84 rfl rfl (by kernel_rfl) rfl rfl rfl) ?_
      refine WL_guard_t rfl rfl ?_
      refine WL_step rfl (R_eq_rec (z := true) rfl rfl (by decide)) ?_
      refine WL_guard_t rfl rfl ?_
      refine WL_stepM rfl (R_mv) ?_
      refine WL_guard_t rfl rfl ?_
      refine WL_step rfl (R_lt_t rfl rfl (by omega)) ?_
      refine WL_guard_t rfl rfl ?_
      refine WL_step rfl (R_eq_bool_t Try.underlying4 rfl rfl (by decide)) ?_
      refine WL_stepM rfl (R_pk_t rfl) ?_
      refine WL_stepM rfl (R_mv) ?_
      refine WL_guard_t rfl rfl ?_
      refine WL_stepM rfl (R_mv) ?_
      refine WL_guard_t rfl rfl ?_
      refine WL_step rfl (R_indexAddr (off' := 0) Try.underlying81 Try.sizeOf84 rfl rfl (by decide) (by simp) (by decide)) ?_
      refine WL_guard_t rfl rfl ?_
      refine WL_step rfl (R_loadA (vs := [I 1, I 0]) Try.isAgg84 Try.sizeOf84 rfl (H.get .here) rfl (by simp [rows, recC])) ?_
      refine WL_guard_t rfl rfl ?_
      refine WL_step rfl (R_buildL (places := [(0, 1), (1, 1)]) (vs := [I 2, I 4]) Try.underlying84 Try.typeInfo84 rfl rfl (by kernel_rfl) rfl rfl rfl) ?_
      refine WL_guard_t rfl rfl ?_
      refine WL_step rfl (R_eq_rec (z := false) rfl rfl (by decide)) ?_
      refine WL_guard_t rfl rfl ?_
      refine WL_stepM rfl (R_mv) ?_
      refine WL_guard_t rfl rfl ?_
      refine WL_step rfl (R_ge_f rfl rfl (by omega)) ?_
      refine WL_guard_t rfl rfl ?_
      refine WL_step rfl (R_eq_bool_t Try.underlying4 rfl rfl (by decide)) ?_
      refine WL_stepM rfl (R_pk_t rfl) ?_
      refine WL_stepM rfl (R_mv) ?_
      refine WL_guard_t rfl rfl ?_
      refine WL_stepM rfl (R_mv) ?_
      refine WL_guard_t rfl rfl ?_
      (refine WL_call rfl (R_call rfl Try.call35 rfl) (sound_ret (xs := Y) (rd_row (H.get (.there (.there .here))) hYl (by omega))) ?_; rintro _ w145 ⟨rfl, H1⟩; rw [decide_eq_false hYf]; replace H := H.seq0 H1; clear H1)
      refine WL_guard_t rfl rfl ?_
      refine WL_step rfl (R_not_f rfl) ?_
      refine WL_stepM rfl (R_pk_t rfl) ?_
      refine WL_stepM rfl (R_mv) ?_
      refine WL_guard_t rfl rfl ?_
      (refine WL_call rfl (R_call rfl Try.call37 rfl) (awake_ret _) ?_; rintro _ w151 ⟨rfl, H1⟩; replace H := H.seq0 H1; clear H1)
      refine WL_stepM rfl (R_pk_t rfl) ?_
      refine WL_stepM rfl (R_as) ?_
      refine WL_nil ?_
      refine W_ret ?_
      exact ⟨_, rfl, rfl, H.none (by repeat' first | exact kNil | apply kCons | apply kApp | assumption | exact OwnS.keys (by assumption))⟩
    · refine WL_stepM rfl (R_mv) ?_
      refine WL_step rfl (R_bits (r := (K : Int)) rfl rfl (by simp) ((and_mask_i64 5 32 (by decide) rfl (by decide)).trans hK)) ?_
      refine WL_stepM rfl (R_as) ?_
      refine WL_nil ?_
      refine W_seq ?_
      refine W_seq ?_
      refine W_region_l ?_
      refine WL_stepM rfl (R_mv) ?_
      refine WL_step rfl (R_ge_t rfl rfl (by omega)) ?_
      refine WL_nil ?_
      refine W_cond_t rfl ?_
      refine W_region_l ?_
      refine WL_stepM rfl (R_mv) ?_
      refine WL_step rfl (R_add (r := ((224 + K : Nat) : Int)) rfl rfl (by rw [w_i64 (by omega)]; omega)) ?_
      refine WL_step rfl (R_sub (r := (k : Int)) rfl rfl (by rw [w_i64 (by omega)]; omega)) ?_
      refine WL_stepM rfl (R_as) ?_
      refine WL_nil ?_
      refine W_seq ?_
      (skip) <;> refine W_region_l ?_
      refine WL_stepM rfl (R_mv) ?_
      refine WL_stepM rfl (R_mv) ?_
      refine WL_step rfl (R_indexAddr (off' := k) Try.underlying22 Try.sizeOf5 rfl rfl (by omega) (by omega) (by omega)) ?_
      refine WL_step rfl (R_load (v := U x) Try.isAgg5 rfl (H.get (.there .here)) (by rw [List.getElem?_append_left (by rw [List.length_map]; omega), List.getElem?_map, hx]; rfl)) ?_
      refine WL_stepM rfl (R_mv) ?_
      refine WL_step rfl (R_add (r := ((x + d).toNat : Int)) rfl rfl (by rw [hd1]; first | exact u8_add | exact u8_add (y := 1))) ?_
      refine WL_step rfl (R_indexAddr (off' := k) Try.underlying22 Try.sizeOf5 rfl rfl (by omega) (by omega) (by omega)) ?_
      (refine WL_effu rfl (E_store (v := U (x + d)) H Try.sizeOf5 rfl rfl rfl (.there .here) (by rw [List.length_append, List.length_map]; omega)) ?_; clear H; intro w183 H; replace H : Hp w [(c8, blk (Slot.piC (oneP G)) 67), (bb, blk (Y.map U ++ bsp) 5)] w183 := (by rw [List.set_append_left _ _ (by rw [List.length_map]; omega), ← List.map_set, hY] at H; exact H))
      refine WL_nil ?_
      refine W_seq ?_
      refine W_region_l ?_
      refine WL_stepM rfl (R_mv) ?_
      (refine WL_call rfl (R_call rfl Try.call38 rfl) (bad_yes (xs := Y) (rd_row (H.get (.there .here)) hYl (by omega)) hYl) ?_; rintro _ w188 ⟨M2, hO2, H1⟩; rw [hbb] at hO2; have h188 := H.seqO hO2 H1; clear H H1 hO2; obtain ⟨hO2, H⟩ := h188; obtain ⟨b2, q2, sp2, rfl, hb2, rfl, hs2, hc2⟩ := OwnS.pos hO2 (by simp))
      refine WL_stepM rfl (R_as) ?_
      refine WL_nil ?_
      refine W_seq ?_
      refine W_region_l ?_
      refine WL_stepM rfl (R_mv) ?_
      refine WL_step rfl (R_len_slice (len := 1) Try.underlying81 rfl) ?_
      refine WL_step rfl (R_eq_t rfl rfl (by omega)) ?_
      refine WL_stepM rfl (R_mv) ?_
      refine WL_guard_t rfl rfl ?_
      refine WL_stepM rfl (R_mv) ?_
      refine WL_guard_t rfl rfl ?_
      refine WL_step rfl (R_indexAddr (off' := 0) Try.underlying81 Try.sizeOf84 rfl rfl (by decide) (by simp) (by decide)) ?_
      refine WL_guard_t rfl rfl ?_
      refine WL_step rfl (R_loadA (vs := [I 2, I 4]) Try.isAgg84 Try.sizeOf84 rfl (H.get .here) rfl (by simp [rows, recC])) ?_
      refine WL_guard_t rfl rfl ?_
      refine WL_step rfl (R_buildL (places := [(0, 1), (1, 1)]) (vs := [I 1, I 0]) Try.underlying84 Try.typeInfo84 rfl rfl (by kernel_rfl) rfl rfl rfl) ?_
      refine WL_guard_t rfl rfl ?_
      refine WL_step rfl (R_eq_rec (z := false) rfl rfl (by decide)) ?_
      refine WL_guard_t rfl rfl ?_
      refine WL_stepM rfl (R_mv) ?_
      refine WL_guard_t rfl rfl ?_
      refine WL_step rfl (R_lt_f rfl rfl (by omega)) ?_
      refine WL_guard_t rfl rfl ?_
      refine WL_step rfl (R_eq_bool_t Try.underlying4 rfl rfl (by decide)) ?_
      refine WL_stepM rfl (R_pk_t rfl) ?_
      refine WL_stepM rfl (R_mv) ?_
      refine WL_guard_t rfl rfl ?_
      refine WL_stepM rfl (R_mv) ?_
      refine WL_guard_t rfl rfl ?_
      refine WL_step rfl (R_indexAddr (off' := 0) Try.underlying81 Try.sizeOf84 rfl rfl (by decide) (by simp) (by decide)) ?_
      refine WL_guard_t rfl rfl ?_
      refine WL_step rfl (R_loadA (vs := [I 2, I 4]) Try.isAgg84 Try.sizeOf84 rfl (H.get .here) rfl (by simp [rows, recC])) ?_
      refine WL_guard_t rfl rfl ?_
      refine WL_step rfl (R_buildL (places := [(0, 1), (1, 1)]) (vs := [I 2, I 4]) Try.underlying84 Try.typeInfo84 rfl rfl (by kernel_rfl) rfl rfl rfl) ?_
      refine WL_guard_t rfl rfl ?_
      refine WL_step rfl (R_eq_rec (z := true) rfl rfl (by decide)) ?_
      refine WL_guard_t rfl rfl ?_
      refine WL_stepM rfl (R_mv) ?_
      refine WL_guard_t rfl rfl ?_
      refine WL_step rfl (R_ge_t rfl rfl (by omega)) ?_
      refine WL_guard_t rfl rfl ?_
      refine WL_step rfl (R_eq_bool_t Try.underlying4 rfl rfl (by decide)) ?_
      refine WL_stepM rfl (R_pk_t rfl) ?_
      refine WL_stepM rfl (R_mv) ?_
      refine WL_guard_t rfl rfl ?_
      refine WL_stepM rfl (R_mv) ?_
      refine WL_guard_t rfl rfl ?_
      (refine WL_call rfl (R_call rfl Try.call35 rfl) (sound_ret (xs := Y) (rd_row (H.get (.there (.there .here))) hYl (by omega))) ?_; rintro _ w236 ⟨rfl, H1⟩; rw [decide_eq_false hYf]; replace H := H.seq0 H1; clear H1)
      refine WL_guard_t rfl rfl ?_
      refine WL_step rfl (R_not_f rfl) ?_
      refine WL_stepM rfl (R_pk_t rfl) ?_
      refine WL_stepM rfl (R_mv) ?_
      refine WL_guard_t rfl rfl ?_
      (refine WL_call rfl (R_call rfl Try.call37 rfl) (awake_ret _) ?_; rintro _ w242 ⟨rfl, H1⟩; replace H := H.seq0 H1; clear H1)
      refine WL_stepM rfl (R_pk_t rfl) ?_
      refine WL_stepM rfl (R_as) ?_
      refine WL_nil ?_
      refine W_ret ?_
      exact ⟨_, rfl, rfl, H.none (by repeat' first | exact kNil | apply kCons | apply kApp | assumption | exact OwnS.keys (by assumption))⟩
  · refine WL_stepM rfl (R_mv) ?_
    refine WL_step rfl (R_eq_f rfl rfl (by omega)) ?_
    refine WL_nil ?_
    refine W_cond_f rfl ?_
    refine W_skip ?_
    refine W_seq ?_
    ((rcases hbk with ⟨hK24, rfl, rfl⟩ | ⟨hK24, rfl, rfl⟩)) <;> refine W_region_l ?_
    · refine WL_stepM rfl (R_mv) ?_
      refine WL_step rfl (R_bits (r := (K : Int)) rfl rfl (by simp) ((and_mask_i64 5 32 (by decide) rfl (by decide)).trans hK)) ?_
      refine WL_stepM rfl (R_as) ?_
      refine WL_nil ?_
      refine W_seq ?_
      refine W_seq ?_
      refine W_region_l ?_
      refine WL_stepM rfl (R_mv) ?_
      refine WL_step rfl (R_ge_f rfl rfl (by omega)) ?_
      refine WL_nil ?_
      refine W_cond_f rfl ?_
      refine W_skip ?_
      refine W_seq ?_
      ((have _g : K < 24 := hK24; obtain rfl : k = K := (by omega))) <;> refine W_region_l ?_
      refine WL_stepM rfl (R_mv) ?_
      refine WL_stepM rfl (R_mv) ?_
      refine WL_step rfl (R_indexAddr (off' := k) Try.underlying22 Try.sizeOf5 rfl rfl (by omega) (by omega) (by omega)) ?_
      refine WL_step rfl (R_load (v := U x) Try.isAgg5 rfl (H.get (.there .here)) (by rw [List.getElem?_append_left (by rw [List.length_map]; omega), List.getElem?_map, hx]; rfl)) ?_
      refine WL_stepM rfl (R_mv) ?_
      refine WL_step rfl (R_add (r := ((x + d).toNat : Int)) rfl rfl (by rw [hd1]; first | exact u8_add | exact u8_add (y := 1))) ?_
      refine WL_step rfl (R_indexAddr (off' := k) Try.underlying22 Try.sizeOf5 rfl rfl (by omega) (by omega) (by omega)) ?_
      (refine WL_effu rfl (E_store (v := U (x + d)) H Try.sizeOf5 rfl rfl rfl (.there .here) (by rw [List.length_append, List.length_map]; omega)) ?_; clear H; intro w276 H; replace H : Hp w [(c8, blk (Slot.piC (oneP G)) 67), (bb, blk (Y.map U ++ bsp) 5)] w276 := (by rw [List.set_append_left _ _ (by rw [List.length_map]; omega), ← List.map_set, hY] at H; exact H))
      refine WL_nil ?_
      refine W_seq ?_
      refine W_region_l ?_
      refine WL_stepM rfl (R_mv) ?_
      (refine WL_call rfl (R_call rfl Try.call38 rfl) (bad_yes (xs := Y) (rd_row (H.get (.there .here)) hYl (by omega)) hYl) ?_; rintro _ w281 ⟨M2, hO2, H1⟩; rw [hbb] at hO2; have h281 := H.seqO hO2 H1; clear H H1 hO2; obtain ⟨hO2, H⟩ := h281; obtain ⟨b2, q2, sp2, rfl, hb2, rfl, hs2, hc2⟩ := OwnS.pos hO2 (by simp))
      refine WL_stepM rfl (R_as) ?_
      refine WL_nil ?_
      refine W_seq ?_
      refine W_region_l ?_
      refine WL_stepM rfl (R_mv) ?_
      refine WL_step rfl (R_len_slice (len := 1) Try.underlying81 rfl) ?_
      refine WL_step rfl (R_eq_t rfl rfl (by omega)) ?_
      refine WL_stepM rfl (R_mv) ?_
      refine WL_guard_t rfl rfl ?_
      refine WL_stepM rfl (R_mv) ?_
      refine WL_guard_t rfl rfl ?_
      refine WL_step rfl (R_indexAddr (off' := 0) Try.underlying81 Try.sizeOf84 rfl rfl (by decide) (by simp) (by decide)) ?_
      refine WL_guard_t rfl rfl ?_
      refine WL_step rfl (R_loadA (vs := [I 1, I 0]) Try.isAgg84 Try.sizeOf84 rfl (H.get .here) rfl (by simp [rows, recC])) ?_
      refine WL_guard_t rfl rfl ?_
      refine WL_step rfl (R_buildL (places := [(0, 1), (1, 1)]) (vs := [I 1, I 0]) Try.underlying84 Try.typeInfo84 rfl rfl (by kernel_rfl) rfl rfl rfl) ?_
      refine WL_guard_t rfl rfl ?_
      refine WL_step rfl (R_eq_rec (z := true) rfl rfl (by decide)) ?_
      refine WL_guard_t rfl rfl ?_
      refine WL_stepM rfl (R_mv) ?_
      refine WL_guard_t rfl rfl ?_
      refine WL_step rfl (R_lt_t rfl rfl (by omega)) ?_
      refine WL_guard_t rfl rfl ?_
      refine WL_step rfl (R_eq_bool_t Try.underlying4 rfl rfl (by decide)) ?_
      refine WL_stepM rfl (R_pk_t rfl) ?_
      refine WL_stepM rfl (R_mv) ?_
      refine WL_guard_t rfl rfl ?_
      refine WL_stepM rfl (R_mv) ?_
      refine WL_guard_t rfl rfl ?_
      refine WL_step rfl (R_indexAddr (off' := 0) Try.underlying81 Try.sizeOf84 rfl rfl (by decide) (by simp) (by decide)) ?_
      refine WL_guard_t rfl rfl ?_
      refine WL_step rfl (R_loadA (vs := [I 1, I 0]) Try.isAgg84 Try.sizeOf84 rfl (H.get .here) rfl (by simp [rows, recC])) ?_
      refine WL_guard_t rfl rfl ?_
      refine WL_step rfl (R_buildL (places := [(0, 1), (1, 1)]) (vs := [I 2, I 4]) Try.underlying84 Try.typeInfo84 rfl rfl (by kernel_rfl) rfl rfl rfl) ?_
      refine WL_guard_t rfl rfl ?_
      refine WL_step rfl (R_eq_rec (z := false) rfl rfl (by decide)) ?_
      refine WL_guard_t rfl rfl ?_
      refine WL_stepM rfl (R_mv) ?_
      refine WL_guard_t rfl rfl ?_
      refine WL_step rfl (R_ge_f rfl rfl (by omega)) ?_
      refine WL_guard_t rfl rfl ?_
      refine WL_step rfl (R_eq_bool_t Try.underlying4 rfl rfl (by decide)) ?_
      refine WL_stepM rfl (R_pk_t rfl) ?_
      refine WL_stepM rfl (R_mv) ?_
      refine WL_guard_t rfl rfl ?_
      refine WL_stepM rfl (R_mv) ?_
      refine WL_guard_t rfl rfl ?_
      (refine WL_call rfl (R_call rfl Try.call35 rfl) (sound_ret (xs := Y) (rd_row (H.get (.there (.there .here))) hYl (by omega))) ?_; rintro _ w329 ⟨rfl, H1⟩; rw [decide_eq_false hYf]; replace H := H.seq0 H1; clear H1)
      refine WL_guard_t rfl rfl ?_
      refine WL_step rfl (R_not_f rfl) ?_
      refine WL_stepM rfl (R_pk_t rfl) ?_
      refine WL_stepM rfl (R_mv) ?_
      refine WL_guard_t rfl rfl ?_
      (refine WL_call rfl (R_call rfl Try.call37 rfl) (awake_ret _) ?_; rintro _ w335 ⟨rfl, H1⟩; replace H := H.seq0 H1; clear H1)
      refine WL_stepM rfl (R_pk_t rfl) ?_
      refine WL_stepM rfl (R_as) ?_
      refine WL_nil ?_
      refine W_ret ?_
      exact ⟨_, rfl, rfl, H.none (by repeat' first | exact kNil | apply kCons | apply kApp | assumption | exact OwnS.keys (by assumption))⟩
    · refine WL_stepM rfl (R_mv) ?_
      refine WL_step rfl (R_bits (r := (K : Int)) rfl rfl (by simp) ((and_mask_i64 5 32 (by decide) rfl (by decide)).trans hK)) ?_
      refine WL_stepM rfl (R_as) ?_
      refine WL_nil ?_
      refine W_seq ?_
      refine W_seq ?_
      refine W_region_l ?_
      refine WL_stepM rfl (R_mv) ?_
      refine WL_step rfl (R_ge_t rfl rfl (by omega)) ?_
      refine WL_nil ?_
      refine W_cond_t rfl ?_
      refine W_region_l ?_
      refine WL_stepM rfl (R_mv) ?_
      refine WL_step rfl (R_add (r := ((224 + K : Nat) : Int)) rfl rfl (by rw [w_i64 (by omega)]; omega)) ?_
      refine WL_step rfl (R_sub (r := (k : Int)) rfl rfl (by rw [w_i64 (by omega)]; omega)) ?_
      refine WL_stepM rfl (R_as) ?_
      refine WL_nil ?_
      refine W_seq ?_
      (skip) <;> refine W_region_l ?_
      refine WL_stepM rfl (R_mv) ?_
      refine WL_stepM rfl (R_mv) ?_
      refine WL_step rfl (R_indexAddr (off' := k) Try.underlying22 Try.sizeOf5 rfl rfl (by omega) (by omega) (by omega)) ?_
      refine WL_step rfl (R_load (v := U x) Try.isAgg5 rfl (H.get (.there .here)) (by rw [List.getElem?_append_left (by rw [List.length_map]; omega), List.getElem?_map, hx]; rfl)) ?_
      refine WL_stepM rfl (R_mv) ?_
      refine WL_step rfl (R_add (r := ((x + d).toNat : Int)) rfl rfl (by rw [hd1]; first | exact u8_add | exact u8_add (y := 1))) ?_
      refine WL_step rfl (R_indexAddr (off' := k) Try.underlying22 Try.sizeOf5 rfl rfl (by omega) (by omega) (by omega)) ?_
      (refine WL_effu rfl (E_store (v := U (x + d)) H Try.sizeOf5 rfl rfl rfl (.there .here) (by rw [List.length_append, List.length_map]; omega)) ?_; clear H; intro w367 H; replace H : Hp w [(c8, blk (Slot.piC (oneP G)) 67), (bb, blk (Y.map U ++ bsp) 5)] w367 := (by rw [List.set_append_left _ _ (by rw [List.length_map]; omega), ← List.map_set, hY] at H; exact H))
      refine WL_nil ?_
      refine W_seq ?_
      refine W_region_l ?_
      refine WL_stepM rfl (R_mv) ?_
      (refine WL_call rfl (R_call rfl Try.call38 rfl) (bad_yes (xs := Y) (rd_row (H.get (.there .here)) hYl (by omega)) hYl) ?_; rintro _ w372 ⟨M2, hO2, H1⟩; rw [hbb] at hO2; have h372 := H.seqO hO2 H1; clear H H1 hO2; obtain ⟨hO2, H⟩ := h372; obtain ⟨b2, q2, sp2, rfl, hb2, rfl, hs2, hc2⟩ := OwnS.pos hO2 (by simp))
      refine WL_stepM rfl (R_as) ?_
      refine WL_nil ?_
      refine W_seq ?_
      refine W_region_l ?_
      refine WL_stepM rfl (R_mv) ?_
      refine WL_step rfl (R_len_slice (len := 1) Try.underlying81 rfl) ?_
      refine WL_step rfl (R_eq_t rfl rfl (by omega)) ?_
      refine WL_stepM rfl (R_mv) ?_
      refine WL_guard_t rfl rfl ?_
      refine WL_stepM rfl (R_mv) ?_
      refine WL_guard_t rfl rfl ?_
      refine WL_step rfl (R_indexAddr (off' := 0) Try.underlying81 Try.sizeOf84 rfl rfl (by decide) (by simp) (by decide)) ?_
      refine WL_guard_t rfl rfl ?_
      refine WL_step rfl (R_loadA (vs := [I 2, I 4]) Try.isAgg84 Try.sizeOf84 rfl (H.get .here) rfl (by simp [rows, recC])) ?_
      refine WL_guard_t rfl rfl ?_
      refine WL_step rfl (R_buildL (places := [(0, 1), (1, 1)]) (vs := [I 1, I 0]) Try.underlying84 Try.typeInfo84 rfl rfl (by kernel_rfl) rfl rfl rfl) ?_
      refine WL_guard_t rfl rfl ?_
      refine WL_step rfl (R_eq_rec (z := false) rfl rfl (by decide)) ?_
      refine WL_guard_t rfl rfl ?_
      refine WL_stepM rfl (R_mv) ?_
      refine WL_guard_t rfl rfl ?_
      refine WL_step rfl (R_lt_f rfl rfl (by omega)) ?_
      refine WL_guard_t rfl rfl ?_
      refine WL_step rfl (R_eq_bool_t Try.underlying4 rfl rfl (by decide)) ?_
      refine WL_stepM rfl (R_pk_t rfl) ?_
      refine WL_stepM rfl (R_mv) ?_
      refine WL_guard_t rfl rfl ?_
      refine WL_stepM rfl (R_mv) ?_
      refine WL_guard_t rfl rfl ?_
      refine WL_step rfl (R_indexAddr (off' := 0) Try.underlying81 Try.sizeOf84 rfl rfl (by decide) (by simp) (by decide)) ?_
      refine WL_guard_t rfl rfl ?_
      refine WL_step rfl (R_loadA (vs := [I 2, I 4]) Try.isAgg84 Try.sizeOf84 rfl (H.get .here) rfl (by simp [rows, recC])) ?_
      refine WL_guard_t rfl rfl ?_
      refine WL_step rfl (R_buildL (places := [(0, 1), (1, 1)]) (vs := [I 2, I 4]) Try.underlying84 Try.typeInfo84 rfl rfl (by kernel_rfl) rfl rfl rfl) ?_
      refine WL_guard_t rfl rfl ?_
      refine WL_step rfl (R_eq_rec (z := true) rfl rfl (by decide)) ?_
      refine WL_guard_t rfl rfl ?_
      refine WL_stepM rfl (R_mv) ?_
      refine WL_guard_t rfl rfl ?_
      refine WL_step rfl (R_ge_t rfl rfl (by omega)) ?_
      refine WL_guard_t rfl rfl ?_
      refine WL_step rfl (R_eq_bool_t Try.underlying4 rfl rfl (by decide)) ?_
      refine WL_stepM rfl (R_pk_t rfl) ?_
      refine WL_stepM rfl (R_mv) ?_
      refine WL_guard_t rfl rfl ?_
      refine WL_stepM rfl (R_mv) ?_
      refine WL_guard_t rfl rfl ?_
      (refine WL_call rfl (R_call rfl Try.call35 rfl) (sound_ret (xs := Y) (rd_row (H.get (.there (.there .here))) hYl (by omega))) ?_; rintro _ w420 ⟨rfl, H1⟩; rw [decide_eq_false hYf]; replace H := H.seq0 H1; clear H1)
      refine WL_guard_t rfl rfl ?_
      refine WL_step rfl (R_not_f rfl) ?_
      refine WL_stepM rfl (R_pk_t rfl) ?_
      refine WL_stepM rfl (R_mv) ?_
      refine WL_guard_t rfl rfl ?_
      (refine WL_call rfl (R_call rfl Try.call37 rfl) (awake_ret _) ?_; rintro _ w426 ⟨rfl, H1⟩; replace H := H.seq0 H1; clear H1)
      refine WL_stepM rfl (R_pk_t rfl) ?_
      refine WL_stepM rfl (R_as) ?_
      refine WL_nil ?_
      refine W_ret ?_
      exact ⟨_, rfl, rfl, H.none (by repeat' first | exact kNil | apply kCons | apply kApp | assumption | exact OwnS.keys (by assumption))⟩
end Go.Proofs.Ythonajikgljgmaa.Aud
