/-
  Bytes put in and taken out by parts: the law RingParts.
-/
import Derived.Test.YtcpkhgdjckogjaaRingM
import Derived.Test.YtcpkhgdjckogjaaSubS
namespace Go.Proofs.Ytcpkhgdjckogjaa.Ring
open Go Go.Proofs Go.Proofs.Ytcpkhgdjckogjaa.Fx Go.Proofs.Ytcpkhgdjckogjaa.Codec
set_option maxRecDepth 100000
set_option linter.unusedVariables false
set_option linter.unusedSimpArgs false
set_option maxHeartbeats 2000000

theorem putN_ok {p : Pi} {l : List UInt8} (h : okP p) (hl : l.length ≤ 32 - p.c.toNat) : okP (putN p l) := by
  obtain ⟨h1, h2, h3, h4⟩ := putN_h l p
  unfold okP at h ⊢
  rw [h1, h2, h3, h4]
  omega
theorem put_ok {p : Pi} (h : okP p) (l : List UInt8) : okP (putP p l).1 := by
  unfold putP
  rw [if_pos h]
  exact putN_ok h (by simp; omega)
theorem put_parts {p : Pi} (h : okP p) (b : List UInt8) {k : Nat} (hk : k ≤ b.length) :
    ∃ q q1 m j, putP p b = (q, m + j) ∧ putP p (b.take k) = (q1, m) ∧ putP q1 (b.drop k) = (q, j) ∧ okP q ∧ m + j ≤ 32 := by
  have hc : 0 ≤ p.c ∧ p.c ≤ 32 := by unfold okP at h; omega
  obtain ⟨r, hr⟩ : ∃ r, r = 32 - p.c.toNat := ⟨_, rfl⟩
  have ho := put_ok h b
  by_cases hkr : k ≤ r
  · have e1 : putP p (b.take k) = (putN p (b.take k), k) := by
      unfold putP; rw [if_pos h, ← hr, List.take_take, Nat.min_eq_right hkr, List.length_take, Nat.min_eq_left hk, Nat.min_eq_left hkr]
    have ok1 : okP (putN p (b.take k)) := putN_ok h (by simp; omega)
    have hc1 : (putN p (b.take k)).c.toNat = p.c.toNat + k := by rw [(putN_h _ p).2.1, List.length_take, Nat.min_eq_left hk]; omega
    have e0 : putP p b = (putN p (b.take r), min b.length r) := by unfold putP; rw [if_pos h, ← hr]
    have hs : b.take r = b.take k ++ (b.drop k).take (r - k) := by
      rw [show r = k + (r - k) by omega, List.take_add, show k + (r - k) - k = r - k by omega]
    refine ⟨putN p (b.take r), putN p (b.take k), k, min (b.length - k) (r - k), ?_, e1, ?_, ?_, by omega⟩
    · rw [e0]; exact Prod.ext rfl (by show min b.length r = _; omega)
    · unfold putP
      rw [if_pos ok1, hc1, show 32 - (p.c.toNat + k) = r - k by omega, hs, putN_append, List.length_drop]
    · rw [e0] at ho; exact ho
  · have e0 : putP p b = (putN p (b.take r), min b.length r) := by unfold putP; rw [if_pos h, ← hr]
    have e1 : putP p (b.take k) = (putN p (b.take r), r) := by
      unfold putP; rw [if_pos h, ← hr, List.take_take, Nat.min_eq_left (by omega), List.length_take, Nat.min_eq_left hk, Nat.min_eq_right (by omega)]
    have hlr : (b.take r).length = r := by simp; omega
    have ok1 : okP (putN p (b.take r)) := putN_ok h (by omega)
    have hc1 : (putN p (b.take r)).c.toNat = 32 := by rw [(putN_h _ p).2.1, hlr]; omega
    refine ⟨putN p (b.take r), putN p (b.take r), r, 0, ?_, e1, ?_, ok1, by omega⟩
    · rw [e0]; exact Prod.ext rfl (by show min b.length r = _; omega)
    · unfold putP
      rw [if_pos ok1, hc1]
      exact Prod.ext rfl (by simp)
theorem firstQ_add {p z : Pi} {k : Nat} (hz : z.h = (p.h + k) % 32) (hd : z.d = p.d) (h0 : 0 ≤ p.h) : ∀ n, firstQ p (k + n) = firstQ p k ++ firstQ z n
  | 0 => by simp [firstQ]
  | n + 1 => by
    rw [show k + (n + 1) = (k + n) + 1 from rfl, firstQ_succ, firstQ_succ, firstQ_add hz hd h0 n, List.append_assoc]
    congr 3
    unfold at_
    rw [hd, hz]
    congr 2
    omega
theorem take_parts {p : Pi} (h : okP p) {n m : Int} (hn : 0 ≤ n) (hm : 0 ≤ m) :
    ∃ y z u v, takeP p (n + m) = (y, u ++ v) ∧ takeP p n = (z, u) ∧ takeP z m = (y, v) := by
  have hh := h
  unfold okP at hh
  obtain ⟨k1, hk1⟩ : ∃ k : Nat, (k : Int) = min n p.c := ⟨(min n p.c).toNat, by omega⟩
  obtain ⟨k2, hk2⟩ : ∃ k : Nat, (k : Int) = min m (p.c - k1) := ⟨(min m (p.c - k1)).toNat, by omega⟩
  obtain ⟨z, hz⟩ : ∃ z : Pi, z = { p with h := (p.h + k1) % 32, c := p.c - k1 } := ⟨_, rfl⟩
  have zh : z.h = (p.h + k1) % 32 := by rw [hz]
  have zc : z.c = p.c - k1 := by rw [hz]
  have zr : z.r = p.r := by rw [hz]
  have zw : z.w = p.w := by rw [hz]
  have zd : z.d = p.d := by rw [hz]
  have oz : okP z := by unfold okP; rw [zh, zc, zr, zw]; omega
  have t1 : takes p n = k1 := by unfold takes; omega
  have t2 : takes z m = k2 := by unfold takes; rw [zc]; omega
  have t3 : takes p (n + m) = k1 + k2 := by unfold takes; omega
  refine ⟨{ z with h := (z.h + k2) % 32, c := z.c - k2 }, z, firstQ p k1, firstQ z k2, ?_, ?_, ?_⟩
  · unfold takeP
    rw [if_pos h, t3, firstQ_add zh zd (by omega)]
    refine Prod.ext (pi_ext ?_ ?_ ?_ ?_ ?_) rfl
    · show (p.h + ((k1 + k2 : Nat) : Int)) % 32 = (z.h + k2) % 32; rw [zh]; omega
    · show p.c - ((k1 + k2 : Nat) : Int) = z.c - k2; rw [zc]; omega
    · exact zr.symm
    · exact zw.symm
    · exact zd.symm
  · unfold takeP
    rw [if_pos h, t1, hz]
  · unfold takeP
    rw [if_pos oz, t2]
theorem takeP_len {p q : Pi} {n : Int} {ys : List UInt8} (h : takeP p n = (q, ys)) : ys.length ≤ 32 := by
  have e := congrArg Prod.snd h
  simp only at e
  rw [← e]
  unfold takeP
  split
  · rename_i hok
    unfold okP at hok
    rw [firstQ_len]
    unfold takes
    omega
  · simp

theorem parts_ret {ds bs : List UInt8} (x a : Int) {w : World} {l m : Value} (hl : RdS w l (ds.map U)) (hm : RdS w m (bs.map U)) (hlb : ds.length ≤ 9223372036854775807) (hmb : bs.length ≤ 9223372036854775807) :
    Ret Try.prog 7 #[I x, l, m, I a] w fun v w' => v = .bool true ∧ Hp w [] w' := by
  refine Ret_of_W (args := [_, _, _, _]) Try.func7 rfl Try.ntmps7 Try.results7 (by simp) ?_
  have H := Hp.refl w
  obtain ⟨al, cl, rfl⟩ := hl.form
  obtain ⟨am, cm, rfl⟩ := hm.form
  simp only [List.length_map] at hl hm ⊢
  obtain ⟨p, hp⟩ : ∃ p, pipeN x ds = p := ⟨_, rfl⟩
  have hok : okP p := by rw [← hp]; exact pipeN_ok x ds
  obtain ⟨at_, ha0, ha1⟩ : ∃ y : Int, a % 256 = y ∧ 0 ≤ y := ⟨_, rfl, by omega⟩
  obtain ⟨k, hk⟩ : ∃ k : Nat, at_ % ((bs.length : Int) + 1) = (k : Int) := ⟨(at_ % ((bs.length : Int) + 1)).toNat, by have := Int.emod_nonneg at_ (show (bs.length : Int) + 1 ≠ 0 by omega); omega⟩
  have hkb : k ≤ bs.length := by have := Int.emod_lt_of_pos at_ (show (0 : Int) < (bs.length : Int) + 1 by omega); omega
  obtain ⟨q, q1, n1, n2, e0, e1, e2, hq, hn⟩ := put_parts hok bs hkb
  obtain ⟨c, hc, hc0⟩ : ∃ y : Int, a % 32 = y ∧ 0 ≤ y := ⟨_, rfl, by omega⟩
  obtain ⟨c1, hc1, hc2⟩ : ∃ y : Int, min c 20 = y ∧ 0 ≤ y ∧ y ≤ 20 := ⟨_, rfl, by omega, by omega⟩
  obtain ⟨y, z, u, v, t0, t1, t2⟩ := take_parts hq hc2.1 (show (0 : Int) ≤ 20 - c1 by omega)
  rw [show c1 + (20 - c1) = 20 by omega] at t0
  have hlen := takeP_len t0
  rw [List.length_append] at hlen
  refine W_seq ?_
  refine W_region_l ?_
  refine WL_stepM rfl (R_as) ?_
  refine WL_nil ?_
  refine W_seq ?_
  refine W_seq ?_
  refine W_region_l ?_
  refine WL_stepM rfl (R_mv) ?_
  refine WL_step rfl (R_len_slice Try.underlying22 rfl) ?_
  refine WL_step rfl (R_gt rfl rfl) ?_
  refine WL_stepM rfl (R_mv) ?_
  apply WL_orK 4 25 29 [(26, 29)] H
  case hc => rfl
  case h1 =>
    intro h12
    refine WL_guard_t rfl rfl ?_
    refine WL_stepM rfl (R_mv) ?_
    refine WL_guard_t rfl rfl ?_
    refine WL_step rfl (R_len_slice Try.underlying22 rfl) ?_
    refine WL_guard_t rfl rfl ?_
    refine WL_step rfl (R_gt rfl rfl) ?_
    refine WL_stepM rfl (R_pk_f rfl) ?_
    refine WL_nil ?_
    exact ⟨(same_mov rfl (same_updo rfl (same_updo rfl (same_mov rfl Same.refl)))), rfl, H⟩
  case h0 =>
    intro h12
    refine WL_guard_f rfl rfl (by decide) ?_
    refine WL_guard_f rfl rfl (by decide) ?_
    refine WL_guard_f rfl rfl (by decide) ?_
    refine WL_stepM rfl (R_pk_t rfl) ?_
    refine WL_nil ?_
    exact ⟨(same_mov rfl (same_updo rfl (same_updo rfl (same_updo rfl Same.refl)))), rfl, H⟩
  case h2 =>
    (clear H; intro E12 w12 H)
    refine WL_nil ?_
    refine W_if rfl (fun h29 => ?_) (fun h29 => ?_)
    · refine W_seq ?_
      refine W_region_l ?_
      (refine WL_call rfl (R_call rfl Try.call14 rfl) (awake_ret _) ?_; rintro _ w32 ⟨rfl, H1⟩; replace H := H.seq0 H1; clear H1)
      refine WL_stepM rfl (R_as) ?_
      refine WL_nil ?_
      refine W_ret ?_
      exact ⟨_, rfl, rfl, H.none (by repeat' first | exact kNil | apply kCons | apply kApp | assumption | exact OwnS.keys (by assumption))⟩
    · refine W_skip ?_
      refine W_seq ?_
      refine W_region_l ?_
      refine WL_stepM rfl (R_mv) ?_
      refine WL_stepM rfl (R_mv) ?_
      (refine WL_call rfl (R_call rfl Try.call22 rfl) (pipe_ret (bs := ds) x (hl.monoN H (by repeat' first | exact kNil | apply kCons | apply kApp | assumption | exact OwnS.keys (by assumption))) (by omega)) ?_; rintro _ w42 ⟨rfl, H1⟩; replace H := H.seq0 H1; clear H1; rw [hp])
      (refine WL_effn rfl (E_allocP H) ?_; clear H; intro b9 w43 hb9 H)
      (have _g := hb9; refine WL_effu rfl (E_storeP (q := p) H rfl rfl .here) ?_; clear H; intro w44 H)
      refine WL_nil ?_
      refine W_seq ?_
      refine W_region_l ?_
      refine WL_stepM rfl (R_mv) ?_
      refine WL_step rfl (R_bits rfl rfl (by simp) ((and_mask_i64 8 256 (by decide) rfl (by decide)).trans ha0)) ?_
      refine WL_stepM rfl (R_mv) ?_
      refine WL_step rfl (R_len_slice Try.underlying22 rfl) ?_
      refine WL_step rfl (R_add rfl rfl (w_i64 (by omega))) ?_
      refine WL_step rfl (R_rem (r := (k : Int)) rfl rfl (by omega) ((rem_pos ha1).trans hk)) ?_
      refine WL_stepM rfl (R_as) ?_
      refine WL_nil ?_
      refine W_seq ?_
      refine W_region_l ?_
      refine WL_step rfl (R_loadP rfl (H.get .here)) ?_
      refine WL_stepM rfl (R_mv) ?_
      (refine WL_call rfl (R_call rfl Try.call15 rfl) (put_to e0 (hm.monoN H (by repeat' first | exact kNil | apply kCons | apply kApp | assumption | exact OwnS.keys (by assumption))) (by omega)) ?_; rintro _ w60 ⟨rfl, H1⟩; replace H := H.seq0 H1; clear H1)
      refine WL_stepM rfl (R_mv) ?_
      refine WL_step rfl (R_extract rfl rfl) ?_
      refine WL_step rfl (R_extract rfl rfl) ?_
      (refine WL_effn rfl (E_allocP H) ?_; clear H; intro b11 w64 hb11 H)
      (have _g := hb11; refine WL_effu rfl (E_storeP (q := q) H rfl rfl .here) ?_; clear H; intro w65 H)
      refine WL_stepM rfl (R_as) ?_
      refine WL_nil ?_
      refine W_seq ?_
      (have _g := hb11; refine W_draw (KH w [(b11, blk (piC q) 26), (b9, blk (piC p) 26)]) (fun _ => false) (by kernel_rfl) H ?_; clear H; intro w69 H)
      refine WA_take 0 rfl rfl rfl (by kernel_rfl) (by kernel_rfl) (H.kh (by simp) (by repeat' first | exact kNil | apply kCons | apply kApp | assumption | exact OwnS.keys (by assumption))) (fun _ hC => R_loadP rfl (hC.get (.there .here))) ?_
      refine WA_takeM 1 rfl rfl rfl (by kernel_rfl) (by kernel_rfl) (H.kh (by simp) (by repeat' first | exact kNil | apply kCons | apply kApp | assumption | exact OwnS.keys (by assumption))) (fun _ hC => R_mv) ?_
      refine WA_takeM 2 rfl rfl rfl (by kernel_rfl) (by kernel_rfl) (H.kh (by simp) (by repeat' first | exact kNil | apply kCons | apply kApp | assumption | exact OwnS.keys (by assumption))) (fun _ hC => R_mv) ?_
      refine WA_take 3 rfl rfl rfl (by kernel_rfl) (by kernel_rfl) (H.kh (by simp) (by repeat' first | exact kNil | apply kCons | apply kApp | assumption | exact OwnS.keys (by assumption))) (fun _ hC => R_subU (i := 0) (j := k) hm Try.underlying22 Try.sizeOf5 rfl .none (.some rfl) (by omega) hkb) ?_
      refine WA_two (i := 4) (j := 8) (by kernel_rfl) ?_ ?_
      · (refine WI_call rfl (.inl rfl) (R_call rfl Try.call15 rfl) (put_to e1 ((hm.subU (i := 0) (j := k) (by omega) hkb).monoN H (by repeat' first | exact kNil | apply kCons | apply kApp | assumption | exact OwnS.keys (by assumption))) (by simp; omega)) (fun _ _ hR _ => (H.seq0 hR.2).kh (by simp) (by repeat' first | exact kNil | apply kCons | apply kApp | assumption | exact OwnS.keys (by assumption))) ?_; rintro _ w75 ⟨rfl, H1⟩; replace H := H.seq0 H1; clear H1)
        refine WA_takeM 5 rfl rfl rfl (by kernel_rfl) (by kernel_rfl) (H.kh (by simp) (by repeat' first | exact kNil | apply kCons | apply kApp | assumption | exact OwnS.keys (by assumption))) (fun _ hC => R_mv) ?_
        refine WA_take 6 rfl rfl rfl (by kernel_rfl) (by kernel_rfl) (H.kh (by simp) (by repeat' first | exact kNil | apply kCons | apply kApp | assumption | exact OwnS.keys (by assumption))) (fun _ hC => R_extract rfl rfl) ?_
        refine WA_take 7 rfl rfl rfl (by kernel_rfl) (by kernel_rfl) (H.kh (by simp) (by repeat' first | exact kNil | apply kCons | apply kApp | assumption | exact OwnS.keys (by assumption))) (fun _ hC => R_extract rfl rfl) ?_
        refine WA_one (i := 8) (by kernel_rfl) ?_
        (refine WI_effnA rfl (.inl rfl) (E_allocP H) (fun _ _ _ H => (by first | exact fun h => absurd h (by decide) | exact fun _ => H | exact fun _ => H.none (by repeat' first | exact kNil | apply kCons | apply kApp | assumption | exact OwnS.keys (by assumption)) | exact fun _ => H.dropN (by repeat' first | exact kNil | apply kCons | apply kApp | assumption | exact OwnS.keys (by assumption)) | exact fun _ => H.pop (by assumption) | exact fun _ => (H.pop (by assumption)).pop (by assumption) | exact fun _ => H.kp | exact fun _ => H.kp.tail | exact fun _ => H.kp.tail.tail | exact fun _ => H.kp.tail.tail.tail | exact fun _ => H.kp.sub (by simp) | exact fun _ => Kp.nil | exact fun _ => H.kh (by simp) (by repeat' first | exact kNil | apply kCons | apply kApp | assumption | exact OwnS.keys (by assumption)))) ?_; clear H; intro b13 w80 hb13 H)
        refine WA_one (i := 9) (by kernel_rfl) ?_
        (refine WI_effu rfl (.inl rfl) (E_storeP (q := q1) H rfl rfl .here) (fun _ H => (by first | exact fun h => absurd h (by decide) | exact fun _ => H | exact fun _ => H.none (by repeat' first | exact kNil | apply kCons | apply kApp | assumption | exact OwnS.keys (by assumption)) | exact fun _ => H.dropN (by repeat' first | exact kNil | apply kCons | apply kApp | assumption | exact OwnS.keys (by assumption)) | exact fun _ => H.pop (by assumption) | exact fun _ => (H.pop (by assumption)).pop (by assumption) | exact fun _ => H.kp | exact fun _ => H.kp.tail | exact fun _ => H.kp.tail.tail | exact fun _ => H.kp.tail.tail.tail | exact fun _ => H.kp.sub (by simp) | exact fun _ => Kp.nil | exact fun _ => H.kh (by simp) (by repeat' first | exact kNil | apply kCons | apply kApp | assumption | exact OwnS.keys (by assumption)))) ?_; clear H; intro w82 H)
        refine WA_takeM 10 rfl rfl rfl (by kernel_rfl) (by kernel_rfl) (H.kh (by simp) (by repeat' first | exact kNil | apply kCons | apply kApp | assumption | exact OwnS.keys (by assumption))) (fun _ hC => R_as) ?_
        refine WA_done (by kernel_rfl) ?_
        refine W_seq ?_
        (have _g := hb13; refine W_draw (KH w [(b11, blk (piC q) 26), (b9, blk (piC p) 26)]) (fun _ => false) (by kernel_rfl) H ?_; clear H; intro w86 H)
        refine WA_takeM 1 rfl rfl rfl (by kernel_rfl) (by kernel_rfl) (H.kh (by simp) (by repeat' first | exact kNil | apply kCons | apply kApp | assumption | exact OwnS.keys (by assumption))) (fun _ hC => R_mv) ?_
        refine WA_takeM 2 rfl rfl rfl (by kernel_rfl) (by kernel_rfl) (H.kh (by simp) (by repeat' first | exact kNil | apply kCons | apply kApp | assumption | exact OwnS.keys (by assumption))) (fun _ hC => R_mv) ?_
        refine WA_take 3 rfl rfl rfl (by kernel_rfl) (by kernel_rfl) (H.kh (by simp) (by repeat' first | exact kNil | apply kCons | apply kApp | assumption | exact OwnS.keys (by assumption))) (fun _ hC => R_subU (i := k) (j := bs.length) hm Try.underlying22 Try.sizeOf5 rfl (.some rfl) .none hkb (Nat.le_refl _)) ?_
        refine WA_one (i := 0) (by kernel_rfl) ?_
        refine WI_value rfl (.inl rfl) (R_loadP rfl (H.get .here)) (by first | exact fun h => absurd h (by decide) | exact fun _ => H | exact fun _ => H.none (by repeat' first | exact kNil | apply kCons | apply kApp | assumption | exact OwnS.keys (by assumption)) | exact fun _ => H.dropN (by repeat' first | exact kNil | apply kCons | apply kApp | assumption | exact OwnS.keys (by assumption)) | exact fun _ => H.pop (by assumption) | exact fun _ => (H.pop (by assumption)).pop (by assumption) | exact fun _ => H.kp | exact fun _ => H.kp.tail | exact fun _ => H.kp.tail.tail | exact fun _ => H.kp.tail.tail.tail | exact fun _ => H.kp.sub (by simp) | exact fun _ => Kp.nil | exact fun _ => H.kh (by simp) (by repeat' first | exact kNil | apply kCons | apply kApp | assumption | exact OwnS.keys (by assumption))) ?_
        refine WA_one (i := 4) (by kernel_rfl) ?_
        (refine WI_call rfl (.inl rfl) (R_call rfl Try.call15 rfl) (put_to e2 ((show RdS w _ ((bs.drop k).map U) from (by have := hm.subU (i := k) (j := bs.length) hkb (Nat.le_refl _); rw [List.take_length] at this; exact this)).monoN H (by repeat' first | exact kNil | apply kCons | apply kApp | assumption | exact OwnS.keys (by assumption))) (by simp; omega)) (fun _ _ hR _ => (H.seq0 hR.2).kh (by simp) (by repeat' first | exact kNil | apply kCons | apply kApp | assumption | exact OwnS.keys (by assumption))) ?_; rintro _ w93 ⟨rfl, H1⟩; replace H := H.seq0 H1; clear H1)
        refine WA_takeM 5 rfl rfl rfl (by kernel_rfl) (by kernel_rfl) (H.kh (by simp) (by repeat' first | exact kNil | apply kCons | apply kApp | assumption | exact OwnS.keys (by assumption))) (fun _ hC => R_mv) ?_
        refine WA_take 6 rfl rfl rfl (by kernel_rfl) (by kernel_rfl) (H.kh (by simp) (by repeat' first | exact kNil | apply kCons | apply kApp | assumption | exact OwnS.keys (by assumption))) (fun _ hC => R_extract rfl rfl) ?_
        refine WA_take 7 rfl rfl rfl (by kernel_rfl) (by kernel_rfl) (H.kh (by simp) (by repeat' first | exact kNil | apply kCons | apply kApp | assumption | exact OwnS.keys (by assumption))) (fun _ hC => R_extract rfl rfl) ?_
        refine WA_one (i := 8) (by kernel_rfl) ?_
        (refine WI_effu rfl (.inl rfl) (E_storeP (q := q) H rfl rfl .here) (fun _ H => (by first | exact fun h => absurd h (by decide) | exact fun _ => H | exact fun _ => H.none (by repeat' first | exact kNil | apply kCons | apply kApp | assumption | exact OwnS.keys (by assumption)) | exact fun _ => H.dropN (by repeat' first | exact kNil | apply kCons | apply kApp | assumption | exact OwnS.keys (by assumption)) | exact fun _ => H.pop (by assumption) | exact fun _ => (H.pop (by assumption)).pop (by assumption) | exact fun _ => H.kp | exact fun _ => H.kp.tail | exact fun _ => H.kp.tail.tail | exact fun _ => H.kp.tail.tail.tail | exact fun _ => H.kp.sub (by simp) | exact fun _ => Kp.nil | exact fun _ => H.kh (by simp) (by repeat' first | exact kNil | apply kCons | apply kApp | assumption | exact OwnS.keys (by assumption)))) ?_; clear H; intro w98 H)
        refine WA_takeM 9 rfl rfl rfl (by kernel_rfl) (by kernel_rfl) (H.kh (by simp) (by repeat' first | exact kNil | apply kCons | apply kApp | assumption | exact OwnS.keys (by assumption))) (fun _ hC => R_as) ?_
        refine WA_done (by kernel_rfl) ?_
        refine W_seq ?_
        refine W_seq ?_
        refine W_region_l ?_
        refine WL_stepM rfl (R_mv) ?_
        refine WL_stepM rfl (R_mv) ?_
        refine WL_stepM rfl (R_mv) ?_
        refine WL_step rfl (R_add rfl rfl (w_i64 (by omega))) ?_
        refine WL_step rfl (R_ne_f rfl rfl (by omega)) ?_
        refine WL_stepM rfl (R_mv) ?_
        refine WL_guard_t rfl rfl ?_
        refine WL_step rfl (R_loadP rfl (H.get (.there .here))) ?_
        refine WL_guard_t rfl rfl ?_
        refine WL_step rfl (R_loadP rfl (H.get .here)) ?_
        refine WL_guard_t rfl rfl ?_
        refine WL_step rfl (R_ne_P_f rfl rfl) ?_
        refine WL_stepM rfl (R_pk_f rfl) ?_
        refine WL_nil ?_
        refine W_cond_f rfl ?_
        refine W_skip ?_
        refine W_seq ?_
        refine W_region_l ?_
        refine WL_stepM rfl (R_mv) ?_
        refine WL_step rfl (R_bits rfl rfl (by simp) ((and_mask_i64 5 32 (by decide) rfl (by decide)).trans hc)) ?_
        refine WL_stepM rfl (R_as) ?_
        refine WL_nil ?_
        refine W_seq ?_
        refine W_region_l ?_
        refine WL_step rfl (R_loadP rfl (H.get (.there .here))) ?_
        (refine WL_call rfl (R_call rfl Try.call16 rfl) (take_to t0) ?_; rintro _ w129 ⟨a3, k3, M3, rfl, hM3, hR3, H1⟩; have hsz := H.size; replace H := H.seqN H1 hM3; replace hM3 := fun q hq => Nat.le_trans hsz (hM3 q hq); clear H1 hsz)
        refine WL_stepM rfl (R_mv) ?_
        refine WL_step rfl (R_extract rfl rfl) ?_
        refine WL_step rfl (R_extract rfl rfl) ?_
        (refine WL_effn rfl (E_allocP H) ?_; clear H; intro b17 w133 hb17 H)
        (have _g := hb17; refine WL_effu rfl (E_storeP (q := y) H rfl rfl .here) ?_; clear H; intro w134 H)
        refine WL_stepM rfl (R_as) ?_
        refine WL_nil ?_
        refine W_seq ?_
        refine W_region_l ?_
        refine WL_step rfl (R_loadP rfl (H.get (.there (.app _ (.there .here))))) ?_
        refine WL_stepM rfl (R_mv) ?_
        refine WL_step rfl (R_min rfl rfl hc1) ?_
        (refine WL_call rfl (R_call rfl Try.call16 rfl) (take_to t1) ?_; rintro _ w142 ⟨a4, k4, M4, rfl, hM4, hR4, H1⟩; have hsz := H.size; replace H := H.seqN H1 hM4; replace hM4 := fun q hq => Nat.le_trans hsz (hM4 q hq); clear H1 hsz)
        refine WL_stepM rfl (R_mv) ?_
        refine WL_step rfl (R_extract rfl rfl) ?_
        refine WL_step rfl (R_extract rfl rfl) ?_
        (refine WL_effn rfl (E_allocP H) ?_; clear H; intro b19 w146 hb19 H)
        (have _g := hb19; refine WL_effu rfl (E_storeP (q := z) H rfl rfl .here) ?_; clear H; intro w147 H)
        refine WL_stepM rfl (R_as) ?_
        refine WL_nil ?_
        refine W_seq ?_
        refine W_region_l ?_
        refine WL_step rfl (R_loadP rfl (H.get .here)) ?_
        refine WL_stepM rfl (R_mv) ?_
        refine WL_step rfl (R_min rfl rfl hc1) ?_
        refine WL_step rfl (R_sub (r := 20 - c1) rfl rfl (w_i64 (by omega))) ?_
        (refine WL_call rfl (R_call rfl Try.call16 rfl) (take_to t2) ?_; rintro _ w156 ⟨a5, k5, M5, rfl, hM5, hR5, H1⟩; have hsz := H.size; replace H := H.seqN H1 hM5; replace hM5 := fun q hq => Nat.le_trans hsz (hM5 q hq); clear H1 hsz)
        refine WL_stepM rfl (R_mv) ?_
        refine WL_step rfl (R_extract rfl rfl) ?_
        refine WL_step rfl (R_extract rfl rfl) ?_
        (refine WL_effu rfl (E_storeP (q := y) H rfl rfl (.app _ .here)) ?_; clear H; intro w160 H)
        refine WL_stepM rfl (R_as) ?_
        refine WL_nil ?_
        refine W_seq ?_
        refine W_region_l ?_
        refine WL_step rfl (R_loadP rfl (H.get (.app _ (.there (.app _ .here))))) ?_
        refine WL_step rfl (R_loadP rfl (H.get (.app _ .here))) ?_
        refine WL_step rfl (R_eq_P_t rfl rfl) ?_
        refine WL_stepM rfl (R_mv) ?_
        refine WL_guard_t rfl rfl ?_
        refine WL_stepM rfl (R_mv) ?_
        refine WL_guard_t rfl rfl ?_
        refine WL_step rfl (R_conv_bs (xs := u ++ v) Try.underlying22 Try.underlying5 Try.underlying9 rfl (hR3 _ (fun p hp => H.held p (by simp [hp])))) ?_
        refine WL_guard_t rfl rfl ?_
        refine WL_stepM rfl (R_mv) ?_
        refine WL_guard_t rfl rfl ?_
        refine WL_step rfl (R_conv_bs (xs := u) Try.underlying22 Try.underlying5 Try.underlying9 rfl (hR4 _ (fun p hp => H.held p (by simp [hp])))) ?_
        refine WL_guard_t rfl rfl ?_
        refine WL_stepM rfl (R_mv) ?_
        refine WL_guard_t rfl rfl ?_
        refine WL_step rfl (R_conv_bs (xs := v) Try.underlying22 Try.underlying5 Try.underlying9 rfl (hR5 _ (fun p hp => H.held p (by simp [hp])))) ?_
        refine WL_guard_t rfl rfl ?_
        refine WL_step rfl (R_cat_S rfl rfl (by omega)) ?_
        refine WL_guard_t rfl rfl ?_
        refine WL_step rfl (R_eq_S_t rfl rfl rfl) ?_
        refine WL_stepM rfl (R_pk_t rfl) ?_
        refine WL_stepM rfl (R_mv) ?_
        refine WL_guard_t rfl rfl ?_
        (refine WL_call rfl (R_call rfl Try.call14 rfl) (awake_ret _) ?_; rintro _ w188 ⟨rfl, H1⟩; replace H := H.seq0 H1; clear H1)
        refine WL_stepM rfl (R_pk_t rfl) ?_
        refine WL_stepM rfl (R_as) ?_
        refine WL_nil ?_
        refine W_ret ?_
        exact ⟨_, rfl, rfl, H.none (by repeat' first | exact kNil | apply kCons | apply kApp | assumption | exact OwnS.keys (by assumption))⟩
      · (refine WI_effnA rfl (.inl rfl) (E_allocP H) (fun _ _ _ H => (by first | exact fun h => absurd h (by decide) | exact fun _ => H | exact fun _ => H.none (by repeat' first | exact kNil | apply kCons | apply kApp | assumption | exact OwnS.keys (by assumption)) | exact fun _ => H.dropN (by repeat' first | exact kNil | apply kCons | apply kApp | assumption | exact OwnS.keys (by assumption)) | exact fun _ => H.pop (by assumption) | exact fun _ => (H.pop (by assumption)).pop (by assumption) | exact fun _ => H.kp | exact fun _ => H.kp.tail | exact fun _ => H.kp.tail.tail | exact fun _ => H.kp.tail.tail.tail | exact fun _ => H.kp.sub (by simp) | exact fun _ => Kp.nil | exact fun _ => H.kh (by simp) (by repeat' first | exact kNil | apply kCons | apply kApp | assumption | exact OwnS.keys (by assumption)))) ?_; clear H; intro b13 w194 hb13 H)
        refine WA_one (i := 4) (by kernel_rfl) ?_
        (refine WI_call rfl (.inl rfl) (R_call rfl Try.call15 rfl) (put_to e1 ((hm.subU (i := 0) (j := k) (by omega) hkb).monoN H (by repeat' first | exact kNil | apply kCons | apply kApp | assumption | exact OwnS.keys (by assumption))) (by simp; omega)) (fun _ _ hR _ => (H.seq0 hR.2).kh (by simp) (by repeat' first | exact kNil | apply kCons | apply kApp | assumption | exact OwnS.keys (by assumption))) ?_; rintro _ w196 ⟨rfl, H1⟩; replace H := H.seq0 H1; clear H1)
        refine WA_takeM 5 rfl rfl rfl (by kernel_rfl) (by kernel_rfl) (H.kh (by simp) (by repeat' first | exact kNil | apply kCons | apply kApp | assumption | exact OwnS.keys (by assumption))) (fun _ hC => R_mv) ?_
        refine WA_take 6 rfl rfl rfl (by kernel_rfl) (by kernel_rfl) (H.kh (by simp) (by repeat' first | exact kNil | apply kCons | apply kApp | assumption | exact OwnS.keys (by assumption))) (fun _ hC => R_extract rfl rfl) ?_
        refine WA_take 7 rfl rfl rfl (by kernel_rfl) (by kernel_rfl) (H.kh (by simp) (by repeat' first | exact kNil | apply kCons | apply kApp | assumption | exact OwnS.keys (by assumption))) (fun _ hC => R_extract rfl rfl) ?_
        refine WA_one (i := 9) (by kernel_rfl) ?_
        (refine WI_effu rfl (.inl rfl) (E_storeP (q := q1) H rfl rfl .here) (fun _ H => (by first | exact fun h => absurd h (by decide) | exact fun _ => H | exact fun _ => H.none (by repeat' first | exact kNil | apply kCons | apply kApp | assumption | exact OwnS.keys (by assumption)) | exact fun _ => H.dropN (by repeat' first | exact kNil | apply kCons | apply kApp | assumption | exact OwnS.keys (by assumption)) | exact fun _ => H.pop (by assumption) | exact fun _ => (H.pop (by assumption)).pop (by assumption) | exact fun _ => H.kp | exact fun _ => H.kp.tail | exact fun _ => H.kp.tail.tail | exact fun _ => H.kp.tail.tail.tail | exact fun _ => H.kp.sub (by simp) | exact fun _ => Kp.nil | exact fun _ => H.kh (by simp) (by repeat' first | exact kNil | apply kCons | apply kApp | assumption | exact OwnS.keys (by assumption)))) ?_; clear H; intro w201 H)
        refine WA_takeM 10 rfl rfl rfl (by kernel_rfl) (by kernel_rfl) (H.kh (by simp) (by repeat' first | exact kNil | apply kCons | apply kApp | assumption | exact OwnS.keys (by assumption))) (fun _ hC => R_as) ?_
        refine WA_done (by kernel_rfl) ?_
        refine W_seq ?_
        (have _g := hb13; refine W_draw (KH w [(b11, blk (piC q) 26), (b9, blk (piC p) 26)]) (fun _ => false) (by kernel_rfl) H ?_; clear H; intro w205 H)
        refine WA_takeM 1 rfl rfl rfl (by kernel_rfl) (by kernel_rfl) (H.kh (by simp) (by repeat' first | exact kNil | apply kCons | apply kApp | assumption | exact OwnS.keys (by assumption))) (fun _ hC => R_mv) ?_
        refine WA_takeM 2 rfl rfl rfl (by kernel_rfl) (by kernel_rfl) (H.kh (by simp) (by repeat' first | exact kNil | apply kCons | apply kApp | assumption | exact OwnS.keys (by assumption))) (fun _ hC => R_mv) ?_
        refine WA_take 3 rfl rfl rfl (by kernel_rfl) (by kernel_rfl) (H.kh (by simp) (by repeat' first | exact kNil | apply kCons | apply kApp | assumption | exact OwnS.keys (by assumption))) (fun _ hC => R_subU (i := k) (j := bs.length) hm Try.underlying22 Try.sizeOf5 rfl (.some rfl) .none hkb (Nat.le_refl _)) ?_
        refine WA_one (i := 0) (by kernel_rfl) ?_
        refine WI_value rfl (.inl rfl) (R_loadP rfl (H.get .here)) (by first | exact fun h => absurd h (by decide) | exact fun _ => H | exact fun _ => H.none (by repeat' first | exact kNil | apply kCons | apply kApp | assumption | exact OwnS.keys (by assumption)) | exact fun _ => H.dropN (by repeat' first | exact kNil | apply kCons | apply kApp | assumption | exact OwnS.keys (by assumption)) | exact fun _ => H.pop (by assumption) | exact fun _ => (H.pop (by assumption)).pop (by assumption) | exact fun _ => H.kp | exact fun _ => H.kp.tail | exact fun _ => H.kp.tail.tail | exact fun _ => H.kp.tail.tail.tail | exact fun _ => H.kp.sub (by simp) | exact fun _ => Kp.nil | exact fun _ => H.kh (by simp) (by repeat' first | exact kNil | apply kCons | apply kApp | assumption | exact OwnS.keys (by assumption))) ?_
        refine WA_one (i := 4) (by kernel_rfl) ?_
        (refine WI_call rfl (.inl rfl) (R_call rfl Try.call15 rfl) (put_to e2 ((show RdS w _ ((bs.drop k).map U) from (by have := hm.subU (i := k) (j := bs.length) hkb (Nat.le_refl _); rw [List.take_length] at this; exact this)).monoN H (by repeat' first | exact kNil | apply kCons | apply kApp | assumption | exact OwnS.keys (by assumption))) (by simp; omega)) (fun _ _ hR _ => (H.seq0 hR.2).kh (by simp) (by repeat' first | exact kNil | apply kCons | apply kApp | assumption | exact OwnS.keys (by assumption))) ?_; rintro _ w212 ⟨rfl, H1⟩; replace H := H.seq0 H1; clear H1)
        refine WA_takeM 5 rfl rfl rfl (by kernel_rfl) (by kernel_rfl) (H.kh (by simp) (by repeat' first | exact kNil | apply kCons | apply kApp | assumption | exact OwnS.keys (by assumption))) (fun _ hC => R_mv) ?_
        refine WA_take 6 rfl rfl rfl (by kernel_rfl) (by kernel_rfl) (H.kh (by simp) (by repeat' first | exact kNil | apply kCons | apply kApp | assumption | exact OwnS.keys (by assumption))) (fun _ hC => R_extract rfl rfl) ?_
        refine WA_take 7 rfl rfl rfl (by kernel_rfl) (by kernel_rfl) (H.kh (by simp) (by repeat' first | exact kNil | apply kCons | apply kApp | assumption | exact OwnS.keys (by assumption))) (fun _ hC => R_extract rfl rfl) ?_
        refine WA_one (i := 8) (by kernel_rfl) ?_
        (refine WI_effu rfl (.inl rfl) (E_storeP (q := q) H rfl rfl .here) (fun _ H => (by first | exact fun h => absurd h (by decide) | exact fun _ => H | exact fun _ => H.none (by repeat' first | exact kNil | apply kCons | apply kApp | assumption | exact OwnS.keys (by assumption)) | exact fun _ => H.dropN (by repeat' first | exact kNil | apply kCons | apply kApp | assumption | exact OwnS.keys (by assumption)) | exact fun _ => H.pop (by assumption) | exact fun _ => (H.pop (by assumption)).pop (by assumption) | exact fun _ => H.kp | exact fun _ => H.kp.tail | exact fun _ => H.kp.tail.tail | exact fun _ => H.kp.tail.tail.tail | exact fun _ => H.kp.sub (by simp) | exact fun _ => Kp.nil | exact fun _ => H.kh (by simp) (by repeat' first | exact kNil | apply kCons | apply kApp | assumption | exact OwnS.keys (by assumption)))) ?_; clear H; intro w217 H)
        refine WA_takeM 9 rfl rfl rfl (by kernel_rfl) (by kernel_rfl) (H.kh (by simp) (by repeat' first | exact kNil | apply kCons | apply kApp | assumption | exact OwnS.keys (by assumption))) (fun _ hC => R_as) ?_
        refine WA_done (by kernel_rfl) ?_
        refine W_seq ?_
        refine W_seq ?_
        refine W_region_l ?_
        refine WL_stepM rfl (R_mv) ?_
        refine WL_stepM rfl (R_mv) ?_
        refine WL_stepM rfl (R_mv) ?_
        refine WL_step rfl (R_add rfl rfl (w_i64 (by omega))) ?_
        refine WL_step rfl (R_ne_f rfl rfl (by omega)) ?_
        refine WL_stepM rfl (R_mv) ?_
        refine WL_guard_t rfl rfl ?_
        refine WL_step rfl (R_loadP rfl (H.get (.there .here))) ?_
        refine WL_guard_t rfl rfl ?_
        refine WL_step rfl (R_loadP rfl (H.get .here)) ?_
        refine WL_guard_t rfl rfl ?_
        refine WL_step rfl (R_ne_P_f rfl rfl) ?_
        refine WL_stepM rfl (R_pk_f rfl) ?_
        refine WL_nil ?_
        refine W_cond_f rfl ?_
        refine W_skip ?_
        refine W_seq ?_
        refine W_region_l ?_
        refine WL_stepM rfl (R_mv) ?_
        refine WL_step rfl (R_bits rfl rfl (by simp) ((and_mask_i64 5 32 (by decide) rfl (by decide)).trans hc)) ?_
        refine WL_stepM rfl (R_as) ?_
        refine WL_nil ?_
        refine W_seq ?_
        refine W_region_l ?_
        refine WL_step rfl (R_loadP rfl (H.get (.there .here))) ?_
        (refine WL_call rfl (R_call rfl Try.call16 rfl) (take_to t0) ?_; rintro _ w248 ⟨a3, k3, M3, rfl, hM3, hR3, H1⟩; have hsz := H.size; replace H := H.seqN H1 hM3; replace hM3 := fun q hq => Nat.le_trans hsz (hM3 q hq); clear H1 hsz)
        refine WL_stepM rfl (R_mv) ?_
        refine WL_step rfl (R_extract rfl rfl) ?_
        refine WL_step rfl (R_extract rfl rfl) ?_
        (refine WL_effn rfl (E_allocP H) ?_; clear H; intro b17 w252 hb17 H)
        (have _g := hb17; refine WL_effu rfl (E_storeP (q := y) H rfl rfl .here) ?_; clear H; intro w253 H)
        refine WL_stepM rfl (R_as) ?_
        refine WL_nil ?_
        refine W_seq ?_
        refine W_region_l ?_
        refine WL_step rfl (R_loadP rfl (H.get (.there (.app _ (.there .here))))) ?_
        refine WL_stepM rfl (R_mv) ?_
        refine WL_step rfl (R_min rfl rfl hc1) ?_
        (refine WL_call rfl (R_call rfl Try.call16 rfl) (take_to t1) ?_; rintro _ w261 ⟨a4, k4, M4, rfl, hM4, hR4, H1⟩; have hsz := H.size; replace H := H.seqN H1 hM4; replace hM4 := fun q hq => Nat.le_trans hsz (hM4 q hq); clear H1 hsz)
        refine WL_stepM rfl (R_mv) ?_
        refine WL_step rfl (R_extract rfl rfl) ?_
        refine WL_step rfl (R_extract rfl rfl) ?_
        (refine WL_effn rfl (E_allocP H) ?_; clear H; intro b19 w265 hb19 H)
        (have _g := hb19; refine WL_effu rfl (E_storeP (q := z) H rfl rfl .here) ?_; clear H; intro w266 H)
        refine WL_stepM rfl (R_as) ?_
        refine WL_nil ?_
        refine W_seq ?_
        refine W_region_l ?_
        refine WL_step rfl (R_loadP rfl (H.get .here)) ?_
        refine WL_stepM rfl (R_mv) ?_
        refine WL_step rfl (R_min rfl rfl hc1) ?_
        refine WL_step rfl (R_sub (r := 20 - c1) rfl rfl (w_i64 (by omega))) ?_
        (refine WL_call rfl (R_call rfl Try.call16 rfl) (take_to t2) ?_; rintro _ w275 ⟨a5, k5, M5, rfl, hM5, hR5, H1⟩; have hsz := H.size; replace H := H.seqN H1 hM5; replace hM5 := fun q hq => Nat.le_trans hsz (hM5 q hq); clear H1 hsz)
        refine WL_stepM rfl (R_mv) ?_
        refine WL_step rfl (R_extract rfl rfl) ?_
        refine WL_step rfl (R_extract rfl rfl) ?_
        (refine WL_effu rfl (E_storeP (q := y) H rfl rfl (.app _ .here)) ?_; clear H; intro w279 H)
        refine WL_stepM rfl (R_as) ?_
        refine WL_nil ?_
        refine W_seq ?_
        refine W_region_l ?_
        refine WL_step rfl (R_loadP rfl (H.get (.app _ (.there (.app _ .here))))) ?_
        refine WL_step rfl (R_loadP rfl (H.get (.app _ .here))) ?_
        refine WL_step rfl (R_eq_P_t rfl rfl) ?_
        refine WL_stepM rfl (R_mv) ?_
        refine WL_guard_t rfl rfl ?_
        refine WL_stepM rfl (R_mv) ?_
        refine WL_guard_t rfl rfl ?_
        refine WL_step rfl (R_conv_bs (xs := u ++ v) Try.underlying22 Try.underlying5 Try.underlying9 rfl (hR3 _ (fun p hp => H.held p (by simp [hp])))) ?_
        refine WL_guard_t rfl rfl ?_
        refine WL_stepM rfl (R_mv) ?_
        refine WL_guard_t rfl rfl ?_
        refine WL_step rfl (R_conv_bs (xs := u) Try.underlying22 Try.underlying5 Try.underlying9 rfl (hR4 _ (fun p hp => H.held p (by simp [hp])))) ?_
        refine WL_guard_t rfl rfl ?_
        refine WL_stepM rfl (R_mv) ?_
        refine WL_guard_t rfl rfl ?_
        refine WL_step rfl (R_conv_bs (xs := v) Try.underlying22 Try.underlying5 Try.underlying9 rfl (hR5 _ (fun p hp => H.held p (by simp [hp])))) ?_
        refine WL_guard_t rfl rfl ?_
        refine WL_step rfl (R_cat_S rfl rfl (by omega)) ?_
        refine WL_guard_t rfl rfl ?_
        refine WL_step rfl (R_eq_S_t rfl rfl rfl) ?_
        refine WL_stepM rfl (R_pk_t rfl) ?_
        refine WL_stepM rfl (R_mv) ?_
        refine WL_guard_t rfl rfl ?_
        (refine WL_call rfl (R_call rfl Try.call14 rfl) (awake_ret _) ?_; rintro _ w307 ⟨rfl, H1⟩; replace H := H.seq0 H1; clear H1)
        refine WL_stepM rfl (R_pk_t rfl) ?_
        refine WL_stepM rfl (R_as) ?_
        refine WL_nil ?_
        refine W_ret ?_
        exact ⟨_, rfl, rfl, H.none (by repeat' first | exact kNil | apply kCons | apply kApp | assumption | exact OwnS.keys (by assumption))⟩
end Go.Proofs.Ytcpkhgdjckogjaa.Ring
