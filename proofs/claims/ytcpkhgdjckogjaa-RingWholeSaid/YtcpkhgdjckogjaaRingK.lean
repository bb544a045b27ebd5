/-
  What is taken out of a pipe; package ring's own try.
-/
import Derived.Test.YtcpkhgdjckogjaaRingJ
namespace Go.Proofs.Ytcpkhgdjckogjaa.Ring
open Go Go.Proofs Go.Proofs.Ytcpkhgdjckogjaa.Fx Go.Proofs.Ytcpkhgdjckogjaa.Codec
set_option maxRecDepth 100000
set_option linter.unusedVariables false
set_option linter.unusedSimpArgs false
set_option maxHeartbeats 2000000

/-- the slice u reads as xs where M is held -/
def RdM (u : Value) (xs : List Value) (M : List (Nat × Obj)) : Prop := ∀ w : World, (∀ p ∈ M, w.heap[p.1]? = some p.2) → RdS w u xs

/-- so many taken out -/
def outP (p : Pi) (k : Nat) : Pi := if 0 < k then { p with h := (p.h + k) % 32, c := p.c - k } else p
theorem queue_len {p : Pi} (h : okP p) : ((queue p).length : Int) = p.c := by
  unfold queue
  rw [if_pos h, firstQ_len]
  have := h.2.1.1
  omega
theorem take_firstQ (p : Pi) {n k : Nat} (h : k ≤ n) : (firstQ p n).take k = firstQ p k := by
  unfold firstQ
  rw [← List.map_take, List.take_range, Nat.min_eq_left h]
theorem takeP_eq (p : Pi) (n : Int) {k : Nat} (hk : min (max n 0) ((queue p).length : Int) = (k : Int)) : takeP p n = (outP p k, (queue p).take k) := by
  unfold takeP
  by_cases hok : okP p
  · have hq := queue_len hok
    have ht : takes p n = k := by unfold takes; omega
    rw [if_pos hok, ht]
    have h2 : (queue p).take k = firstQ p k := by
      have hl : queue p = firstQ p p.c.toNat := if_pos hok
      rw [hl]
      exact take_firstQ p (by omega)
    rw [h2]
    congr 1
    unfold outP
    split
    · rfl
    · rename_i h0
      unfold okP at hok
      refine pi_ext ?_ ?_ rfl rfl rfl
      · show (p.h + k) % 32 = p.h
        omega
      · show p.c - k = p.c
        omega
  · have hq : queue p = [] := if_neg hok
    rw [hq] at hk ⊢
    simp only [List.length_nil] at hk
    rw [if_neg hok]
    have : k = 0 := by omega
    subst this
    rfl

theorem take_ret (p : Pi) (n : Int) (w : World) :
    Ret Try.prog 16 #[vP p, I n] w fun v w' => ∃ u M, v = .tuple #[vP (takeP p n).1, u] ∧ (∀ q ∈ M, w.heap.size ≤ q.1) ∧ RdM u ((takeP p n).2.map U) M ∧ Hp w M w' := by
  refine Ret_of_WC (args := [_, _]) Try.func16 rfl Try.ntmps16 Try.results16 (by simp) ?_
  have H := Hp.refl w
  obtain ⟨k, hk⟩ : ∃ k : Nat, min (max n 0) ((queue p).length : Int) = (k : Int) := ⟨(min (max n 0) ((queue p).length : Int)).toNat, by omega⟩
  rw [takeP_eq p n hk]
  have hok0 : 0 < k → okP p := fun h => by
    by_cases hok : okP p
    · exact hok
    · have hq : queue p = [] := if_neg hok
      rw [hq] at hk
      simp only [List.length_nil] at hk
      omega
  have hql : (queue p).length ≤ 32 := by
    by_cases hok : okP p
    · have := queue_len hok
      have := hok.2.1.2
      omega
    · have hq : queue p = [] := if_neg hok
      rw [hq]; simp
  by_cases hk0 : 0 < k
  · have hok1 := hok0 hk0
    have hqc := queue_len hok1
    have hok := hok1
    unfold okP at hok
    have hout : outP p k = { p with h := (p.h + k) % 32, c := p.c - k } := if_pos hk0
    rw [hout]
    refine W_seq ?_
    refine W_region_l ?_
    (refine WL_effn rfl (E_boxP H rfl) ?_; clear H; intro bx w3 hbx H)
    (refine WL_effn rfl (E_allocP H) ?_; clear H; intro b4 w4 hb4 H)
    refine WL_stepM rfl (R_as) ?_
    refine WL_nil ?_
    refine W_seq ?_
    refine W_region_l ?_
    refine WL_step rfl (R_loadP rfl (H.get (.there .here))) ?_
    (refine WL_call rfl (R_call rfl Try.call26 rfl) (bytesR_ret p _) ?_; rintro u w10 ⟨M, hO, H1⟩; have h10 := H.seqO hO H1; clear H H1 hO; obtain ⟨hO, H⟩ := h10; obtain ⟨b5, cap5, sp5, rfl, hb5, rfl, hsp5, hcap5⟩ := OwnS.pos hO (by omega); replace H : Hp w [(b5, blk ((queue p).map U ++ sp5) 5), (b4, blk (piC zeroP) 26), (bx, blk (piC p) 26)] w10 := H)
    refine WL_stepM rfl (R_as) ?_
    refine WL_nil ?_
    refine W_seq ?_
    refine W_region_l ?_
    refine WL_stepM rfl (R_mv) ?_
    refine WL_stepM rfl (R_mv) ?_
    refine WL_step rfl (R_max rfl rfl rfl) ?_
    refine WL_stepM rfl (R_mv) ?_
    refine WL_step rfl (R_len_slice Try.underlying22 rfl) ?_
    refine WL_step rfl (R_min rfl rfl hk) ?_
    refine WL_step rfl (R_to (i := k) Try.underlying22 Try.sizeOf5 rfl rfl hcap5 (by omega)) ?_
    refine WL_stepM rfl (R_as) ?_
    refine WL_nil ?_
    refine W_seq ?_
    refine W_seq ?_
    refine W_region_l ?_
    refine WL_stepM rfl (R_mv) ?_
    refine WL_step rfl (R_len_slice Try.underlying22 rfl) ?_
    refine WL_step rfl (R_gt_t rfl rfl (by omega)) ?_
    refine WL_nil ?_
    refine W_cond_t rfl ?_
    refine W_seq ?_
    refine W_region_l ?_
    refine WL_step rfl (R_fieldAddr (off' := 0) Try.underlying26 rfl Try.sizeOf3 (by decide) rfl rfl) ?_
    refine WL_step rfl (R_load (v := I p.h) Try.isAgg3 rfl (H.get (.there (.there .here))) rfl) ?_
    refine WL_stepM rfl (R_mv) ?_
    refine WL_step rfl (R_len_slice Try.underlying22 rfl) ?_
    refine WL_step rfl (R_add rfl rfl (w_i64 (by omega))) ?_
    refine WL_step rfl (R_rem (r := (p.h + k) % 32) rfl rfl (by omega) (rem_pos (by omega))) ?_
    refine WL_step rfl (R_fieldAddr (off' := 0) Try.underlying26 rfl Try.sizeOf3 (by decide) rfl rfl) ?_
    (refine WL_effu rfl (E_store (v := I ((p.h + k) % 32)) H Try.sizeOf3 rfl rfl rfl (.there (.there .here)) (by rw [piC_len]; decide)) ?_; clear H; intro w41 H; replace H : Hp w [(b5, blk ((queue p).map U ++ sp5) 5), (b4, blk (piC zeroP) 26), (bx, blk (piC { p with h := (p.h + k) % 32 }) 26)] _ := H)
    refine WL_nil ?_
    refine W_region_l ?_
    refine WL_step rfl (R_fieldAddr (off' := 1) Try.underlying26 rfl Try.sizeOf3 (by decide) rfl rfl) ?_
    refine WL_step rfl (R_load (v := I p.c) Try.isAgg3 rfl (H.get (.there (.there .here))) rfl) ?_
    refine WL_stepM rfl (R_mv) ?_
    refine WL_step rfl (R_len_slice Try.underlying22 rfl) ?_
    refine WL_step rfl (R_sub rfl rfl (w_i64 (by omega))) ?_
    refine WL_step rfl (R_fieldAddr (off' := 1) Try.underlying26 rfl Try.sizeOf3 (by decide) rfl rfl) ?_
    (refine WL_effu rfl (E_store (v := I (p.c - k)) H Try.sizeOf3 rfl rfl rfl (.there (.there .here)) (by rw [piC_len]; decide)) ?_; clear H; intro w50 H; replace H : Hp w [(b5, blk ((queue p).map U ++ sp5) 5), (b4, blk (piC zeroP) 26), (bx, blk (piC { p with h := (p.h + k) % 32, c := p.c - k }) 26)] _ := H)
    refine WL_nil ?_
    refine W_seq ?_
    (refine W_draw (Kp [(bx, blk (piC { p with h := (p.h + k) % 32, c := p.c - k }) 26)]) (fun _ => false) (by kernel_rfl) H ?_; clear H; intro w53 H)
    refine WA_take 0 rfl rfl rfl (by kernel_rfl) (by kernel_rfl) (H.kp.sub (by simp)) (fun _ hC => R_loadP rfl (hC.get .here)) ?_
    refine WA_takeM 1 rfl rfl rfl (by kernel_rfl) (by kernel_rfl) (H.kp.sub (by simp)) (fun _ hC => R_mv) ?_
    refine WA_one (i := 2) (by kernel_rfl) ?_
    (refine WI_call rfl (.inl rfl) (R_call rfl Try.call39 rfl) (clip_ret (len := k) (cap := cap5) (by omega) (by omega) _) (fun _ _ hR _ => (H.seq0 hR.2).kp.sub (by simp)) ?_; rintro _ w57 ⟨rfl, H1⟩; replace H := H.seq0 H1; clear H1)
    refine WA_one (i := 3) (by kernel_rfl) ?_
    (refine WI_effu rfl (.inl rfl) (E_storeP (q := { p with h := (p.h + k) % 32, c := p.c - k }) H rfl rfl (.there .here)) (fun _ H => (by first | exact fun h => absurd h (by decide) | exact fun _ => H | exact fun _ => H.none (by repeat' first | exact kNil | apply kCons | apply kApp | assumption | exact OwnS.keys (by assumption)) | exact fun _ => H.dropN (by repeat' first | exact kNil | apply kCons | apply kApp | assumption | exact OwnS.keys (by assumption)) | exact fun _ => H.pop (by assumption) | exact fun _ => (H.pop (by assumption)).pop (by assumption) | exact fun _ => H.kp | exact fun _ => H.kp.tail | exact fun _ => H.kp.tail.tail | exact fun _ => H.kp.tail.tail.tail | exact fun _ => H.kp.sub (by simp) | exact fun _ => Kp.nil | exact fun _ => H.kh (by simp) (by repeat' first | exact kNil | apply kCons | apply kApp | assumption | exact OwnS.keys (by assumption)))) ?_; clear H; intro w59 H)
    refine WA_takeM 4 rfl rfl rfl (by kernel_rfl) (by kernel_rfl) (H.kp.sub (by simp)) (fun _ hC => R_as) ?_
    refine WA_done (by kernel_rfl) ?_
    refine W_ret ?_
    exact ⟨_, ⟨_, _, rfl, ldP (H.get (.there .here)), rfl⟩, _, [_], rfl, kCons hb5 kNil, (fun w2 h2 => RdS.blk (c := (queue p).map U ++ sp5) (off := 0) (h2 _ (.head _)) (by rw [List.drop_zero, List.take_append_of_le_length (by simp; omega), List.map_take]) (by simp; omega) (Nat.le_refl _)), Hp.cut (L := [_]) H (kCons hb4 (kCons hbx kNil))⟩
  · obtain rfl : k = 0 := by omega
    have hout : outP p 0 = p := if_neg hk0
    rw [hout]
    refine W_seq ?_
    refine W_region_l ?_
    (refine WL_effn rfl (E_boxP H rfl) ?_; clear H; intro bx w3 hbx H)
    (refine WL_effn rfl (E_allocP H) ?_; clear H; intro b4 w4 hb4 H)
    refine WL_stepM rfl (R_as) ?_
    refine WL_nil ?_
    refine W_seq ?_
    refine W_region_l ?_
    refine WL_step rfl (R_loadP rfl (H.get (.there .here))) ?_
    (refine WL_call rfl (R_call rfl Try.call26 rfl) (bytesR_ret p _) ?_; rintro u w10 ⟨M, hO, H1⟩; have h10 := H.seqO hO H1; clear H H1 hO; obtain ⟨hO, H⟩ := h10; have hMk := hO.keys; rcases hO.2 with ⟨rfl, hl0, rfl⟩ | ⟨b5, cap5, sp5, rfl, hb5, rfl, hsp5, hcap5⟩)
    · refine WL_stepM rfl (R_as) ?_
      refine WL_nil ?_
      refine W_seq ?_
      refine W_region_l ?_
      refine WL_stepM rfl (R_mv) ?_
      refine WL_stepM rfl (R_mv) ?_
      refine WL_step rfl (R_max rfl rfl rfl) ?_
      refine WL_stepM rfl (R_mv) ?_
      refine WL_step rfl (R_len_slice Try.underlying22 rfl) ?_
      refine WL_step rfl (R_min (r := ((0 : Nat) : Int)) rfl rfl (by omega)) ?_
      refine WL_step rfl (R_sliceNil Try.underlying22 Try.sizeOf5 rfl .none (.some rfl) (by omega) (by omega)) ?_
      refine WL_stepM rfl (R_as) ?_
      refine WL_nil ?_
      refine W_seq ?_
      refine W_seq ?_
      refine W_region_l ?_
      refine WL_stepM rfl (R_mv) ?_
      refine WL_step rfl (R_len_slice Try.underlying22 rfl) ?_
      refine WL_step rfl (R_gt_f rfl rfl (by omega)) ?_
      refine WL_nil ?_
      refine W_cond_f rfl ?_
      refine W_skip ?_
      refine W_seq ?_
      (refine W_draw (Kp [(bx, blk (piC p) 26)]) (fun _ => false) (by kernel_rfl) H ?_; clear H; intro w34 H)
      refine WA_take 0 rfl rfl rfl (by kernel_rfl) (by kernel_rfl) (H.kp.sub (by simp)) (fun _ hC => R_loadP rfl (hC.get .here)) ?_
      refine WA_takeM 1 rfl rfl rfl (by kernel_rfl) (by kernel_rfl) (H.kp.sub (by simp)) (fun _ hC => R_mv) ?_
      refine WA_one (i := 2) (by kernel_rfl) ?_
      (refine WI_call rfl (.inl rfl) (R_call rfl Try.call39 rfl) (clip0_ret _) (fun _ _ hR _ => (H.seq0 hR.2).kp.sub (by simp)) ?_; rintro _ w38 ⟨rfl, H1⟩; replace H := H.seq0 H1; clear H1)
      refine WA_one (i := 3) (by kernel_rfl) ?_
      (refine WI_effu rfl (.inl rfl) (E_storeP (q := p) H rfl rfl .here) (fun _ H => (by first | exact fun h => absurd h (by decide) | exact fun _ => H | exact fun _ => H.none (by repeat' first | exact kNil | apply kCons | apply kApp | assumption | exact OwnS.keys (by assumption)) | exact fun _ => H.dropN (by repeat' first | exact kNil | apply kCons | apply kApp | assumption | exact OwnS.keys (by assumption)) | exact fun _ => H.pop (by assumption) | exact fun _ => (H.pop (by assumption)).pop (by assumption) | exact fun _ => H.kp | exact fun _ => H.kp.tail | exact fun _ => H.kp.tail.tail | exact fun _ => H.kp.tail.tail.tail | exact fun _ => H.kp.sub (by simp) | exact fun _ => Kp.nil | exact fun _ => H.kh (by simp) (by repeat' first | exact kNil | apply kCons | apply kApp | assumption | exact OwnS.keys (by assumption)))) ?_; clear H; intro w40 H)
      refine WA_takeM 4 rfl rfl rfl (by kernel_rfl) (by kernel_rfl) (H.kp.sub (by simp)) (fun _ hC => R_as) ?_
      refine WA_done (by kernel_rfl) ?_
      refine W_ret ?_
      exact ⟨_, ⟨_, _, rfl, ldP (H.get .here), rfl⟩, _, [], rfl, kNil, (fun w2 h2 => by rw [List.take_zero]; exact RdS.nil), H.none (by repeat' first | exact kNil | apply kCons | apply kApp | assumption | exact OwnS.keys (by assumption))⟩
    · refine WL_stepM rfl (R_as) ?_
      refine WL_nil ?_
      refine W_seq ?_
      refine W_region_l ?_
      refine WL_stepM rfl (R_mv) ?_
      refine WL_stepM rfl (R_mv) ?_
      refine WL_step rfl (R_max rfl rfl rfl) ?_
      refine WL_stepM rfl (R_mv) ?_
      refine WL_step rfl (R_len_slice Try.underlying22 rfl) ?_
      refine WL_step rfl (R_min (r := ((0 : Nat) : Int)) rfl rfl (by omega)) ?_
      refine WL_step rfl (R_to (i := 0) Try.underlying22 Try.sizeOf5 rfl rfl hcap5 (by omega)) ?_
      refine WL_stepM rfl (R_as) ?_
      refine WL_nil ?_
      refine W_seq ?_
      refine W_seq ?_
      refine W_region_l ?_
      refine WL_stepM rfl (R_mv) ?_
      refine WL_step rfl (R_len_slice Try.underlying22 rfl) ?_
      refine WL_step rfl (R_gt_f rfl rfl (by omega)) ?_
      refine WL_nil ?_
      refine W_cond_f rfl ?_
      refine W_skip ?_
      refine W_seq ?_
      (refine W_draw (Kp [(bx, blk (piC p) 26)]) (fun _ => false) (by kernel_rfl) H ?_; clear H; intro w68 H)
      refine WA_take 0 rfl rfl rfl (by kernel_rfl) (by kernel_rfl) (H.kp.sub (by simp)) (fun _ hC => R_loadP rfl (hC.get .here)) ?_
      refine WA_takeM 1 rfl rfl rfl (by kernel_rfl) (by kernel_rfl) (H.kp.sub (by simp)) (fun _ hC => R_mv) ?_
      refine WA_one (i := 2) (by kernel_rfl) ?_
      (refine WI_call rfl (.inl rfl) (R_call rfl Try.call39 rfl) (clip_ret (len := 0) (cap := cap5) (by omega) (by omega) _) (fun _ _ hR _ => (H.seq0 hR.2).kp.sub (by simp)) ?_; rintro _ w72 ⟨rfl, H1⟩; replace H := H.seq0 H1; clear H1)
      refine WA_one (i := 3) (by kernel_rfl) ?_
      (refine WI_effu rfl (.inl rfl) (E_storeP (q := p) H rfl rfl (.there .here)) (fun _ H => (by first | exact fun h => absurd h (by decide) | exact fun _ => H | exact fun _ => H.none (by repeat' first | exact kNil | apply kCons | apply kApp | assumption | exact OwnS.keys (by assumption)) | exact fun _ => H.dropN (by repeat' first | exact kNil | apply kCons | apply kApp | assumption | exact OwnS.keys (by assumption)) | exact fun _ => H.pop (by assumption) | exact fun _ => (H.pop (by assumption)).pop (by assumption) | exact fun _ => H.kp | exact fun _ => H.kp.tail | exact fun _ => H.kp.tail.tail | exact fun _ => H.kp.tail.tail.tail | exact fun _ => H.kp.sub (by simp) | exact fun _ => Kp.nil | exact fun _ => H.kh (by simp) (by repeat' first | exact kNil | apply kCons | apply kApp | assumption | exact OwnS.keys (by assumption)))) ?_; clear H; intro w74 H)
      refine WA_takeM 4 rfl rfl rfl (by kernel_rfl) (by kernel_rfl) (H.kp.sub (by simp)) (fun _ hC => R_as) ?_
      refine WA_done (by kernel_rfl) ?_
      refine W_ret ?_
      exact ⟨_, ⟨_, _, rfl, ldP (H.get (.there .here)), rfl⟩, _, [], rfl, kNil, (fun w2 h2 => by rw [List.take_zero]; exact ⟨_, 0, rfl, Nat.le_refl _, .inl rfl⟩), H.none (by repeat' first | exact kNil | apply kCons | apply kApp | assumption | exact OwnS.keys (by assumption))⟩
end Go.Proofs.Ytcpkhgdjckogjaa.Ring
