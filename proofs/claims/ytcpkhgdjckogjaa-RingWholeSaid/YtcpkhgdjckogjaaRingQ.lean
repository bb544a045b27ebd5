/-
  A pipe is a queue: the law RingQueue.
-/
import Derived.Test.YtcpkhgdjckogjaaRingN
import Derived.Test.YtcpkhgdjckogjaaRingRow
namespace Go.Proofs.Ytcpkhgdjckogjaa.Ring
open Go Go.Proofs Go.Proofs.Ytcpkhgdjckogjaa.Fx Go.Proofs.Ytcpkhgdjckogjaa.Codec
set_option maxRecDepth 100000
set_option linter.unusedVariables false
set_option linter.unusedSimpArgs false
set_option maxHeartbeats 2000000

theorem firstQ_put1 {p : Pi} {x : UInt8} (h : okP p) (hc : p.c < 32) : firstQ (put1 p x) (p.c.toNat + 1) = firstQ p p.c.toNat ++ [x] := by
  unfold okP at h
  have hd := p.hd
  rw [firstQ_succ]
  congr 1
  · unfold firstQ
    refine List.map_congr_left fun i hi => ?_
    have hi := List.mem_range.1 hi
    unfold at_
    show ((p.d.set ((p.h.toNat + p.c.toNat) % 32) x)[(p.h.toNat + i) % 32]?).getD 0 = _
    rw [List.getElem?_set_ne (by omega)]
  · congr 1
    unfold at_
    show ((p.d.set ((p.h.toNat + p.c.toNat) % 32) x)[(p.h.toNat + p.c.toNat) % 32]?).getD 0 = _
    rw [List.getElem?_set_self (by omega)]
    rfl
theorem queue_putN : ∀ (l : List UInt8) (p : Pi), okP p → l.length ≤ 32 - p.c.toNat → queue (putN p l) = queue p ++ l
  | [], p, _, _ => (List.append_nil _).symm
  | x :: l, p, h, hl => by
    have hc : 0 ≤ p.c ∧ p.c ≤ 32 := by unfold okP at h; omega
    rw [List.length_cons] at hl
    have h1 : okP (put1 p x) := putN_ok (l := [x]) h (by simp; omega)
    have hc1 : (put1 p x).c = p.c + 1 := rfl
    show queue (putN (put1 p x) l) = _
    rw [queue_putN l (put1 p x) h1 (by rw [hc1]; omega)]
    unfold queue
    rw [if_pos h1, if_pos h, hc1, show (p.c + 1).toNat = p.c.toNat + 1 by omega, firstQ_put1 h (by omega), List.append_assoc]
    rfl
theorem put_queue {g q : Pi} {obs : List UInt8} {n : Nat} (h : okP g) (e : putP g obs = (q, n)) : okP q ∧ queue q = queue g ++ obs.take n ∧ min (obs.length : Int) (32 - g.c) = (n : Int) ∧ n ≤ obs.length ∧ n ≤ 32 := by
  have hc : 0 ≤ g.c ∧ g.c ≤ 32 := by unfold okP at h; omega
  have ho := put_ok h obs
  rw [e] at ho
  unfold putP at e
  rw [if_pos h] at e
  obtain ⟨rfl, rfl⟩ := Prod.mk.inj e
  refine ⟨ho, ?_, by omega, by omega, by omega⟩
  rw [queue_putN _ _ h (by simp; omega)]
  congr 1
  exact take_min.symm
theorem take_queue {g q : Pi} {n : Int} {ys : List UInt8} (h : okP g) (e : takeP g n = (q, ys)) : okP q ∧ queue g = ys ++ queue q ∧ min (max n 0) g.c = (ys.length : Int) := by
  have hh := h
  unfold okP at hh
  unfold takeP at e
  rw [if_pos h] at e
  obtain ⟨rfl, rfl⟩ := Prod.mk.inj e
  obtain ⟨k, hk⟩ : ∃ k, takes g n = k := ⟨_, rfl⟩
  have hk2 : (k : Int) = min (max n 0) g.c := by rw [← hk]; unfold takes; omega
  rw [hk]
  obtain ⟨z, hz⟩ : ∃ z : Pi, z = { g with h := (g.h + k) % 32, c := g.c - k } := ⟨_, rfl⟩
  have zh : z.h = (g.h + k) % 32 := by rw [hz]
  have zc : z.c = g.c - k := by rw [hz]
  have zr : z.r = g.r := by rw [hz]
  have zw : z.w = g.w := by rw [hz]
  have zd : z.d = g.d := by rw [hz]
  have oz : okP z := by unfold okP; rw [zh, zc, zr, zw]; omega
  rw [← hz]
  refine ⟨oz, ?_, by rw [firstQ_len]; omega⟩
  unfold queue
  rw [if_pos h, if_pos oz, ← firstQ_add zh zd (by omega), zc]
  congr 1
  omega

theorem queue_ret {xs : List ROp} {ds : List UInt8} (x : Int) {w : World} {l m : Value} (hm : RdS w m (ds.map U)) (hl : RdR ropC w l xs) (hmb : ds.length ≤ 9223372036854775807) (hb : xs.length ≤ 9223372036854775807) (hg : ∀ x ∈ xs, x.ok w) :
    Ret Try.prog 6 #[I x, m, l] w fun v w' => v = .bool true ∧ Hp w [] w' := by
  refine Ret_of_W (args := [_, _, _]) Try.func6 rfl Try.ntmps6 Try.results6 (by simp) ?_
  have H := Hp.refl w
  obtain ⟨ao, ca, rfl⟩ := hl.form
  obtain ⟨am, cm, rfl⟩ := hm.form
  simp only [List.length_map] at hm ⊢
  obtain ⟨pp, hpp⟩ : ∃ p, pipeN x ds = p := ⟨_, rfl⟩
  have hokp : okP pp := by rw [← hpp]; exact pipeN_ok x ds
  have hql := queue_len hokp
  have hcp := hokp.2.1
  refine W_seq ?_
  refine W_region_l ?_
  refine WL_stepM rfl (R_as) ?_
  refine WL_nil ?_
  refine W_seq ?_
  refine W_seq ?_
  refine W_region_l ?_
  refine WL_stepM rfl (R_mv) ?_
  refine WL_step rfl (R_len_slice Try.underlying22 rfl) ?_
  refine WL_step rfl (R_gt rfl rfl) ?_
  refine WL_nil ?_
  refine W_if rfl (fun h12 => ?_) (fun h12 => ?_)
  · refine W_seq ?_
    refine W_region_l ?_
    (refine WL_call rfl (R_call rfl Try.call14 rfl) (awake_ret _) ?_; rintro _ w15 ⟨rfl, H1⟩; replace H := H.seq0 H1; clear H1)
    refine WL_stepM rfl (R_as) ?_
    refine WL_nil ?_
    refine W_ret ?_
    exact ⟨_, rfl, rfl, H.none (by repeat' first | exact kNil | apply kCons | apply kApp | assumption | exact OwnS.keys (by assumption))⟩
  · refine W_skip ?_
    refine W_seq ?_
    refine W_region_l ?_
    refine WL_stepM rfl (R_mv) ?_
    refine WL_stepM rfl (R_mv) ?_
    (refine WL_call rfl (R_call rfl Try.call22 rfl) (pipe_ret (bs := ds) x (hm.monoN H (by repeat' first | exact kNil | apply kCons | apply kApp | assumption | exact OwnS.keys (by assumption))) (by omega)) ?_; rintro _ w25 ⟨rfl, H1⟩; replace H := H.seq0 H1; clear H1; rw [hpp])
    (refine WL_effn rfl (E_allocP H) ?_; clear H; intro b7 w26 hb7 H)
    (refine WL_effu rfl (E_storeP (q := pp) H rfl rfl .here) ?_; clear H; intro w27 H)
    refine WL_nil ?_
    refine W_seq ?_
    refine W_region_l ?_
    refine WL_step rfl (R_loadP rfl (H.get .here)) ?_
    (refine WL_call rfl (R_call rfl Try.call26 rfl) (bytesR_ret pp _) ?_; rintro u6 w32 ⟨M6, hO6, H1⟩; have h32 := H.seqO hO6 H1; clear H H1 hO6; obtain ⟨hO6, H⟩ := h32)
    refine WL_step rfl (R_conv_bs (xs := queue pp) Try.underlying22 Try.underlying5 Try.underlying9 rfl (RdS.own hO6 (fun p hp => H.held p (by simp [hp])))) ?_
    refine WL_stepM rfl (R_as) ?_
    refine WL_nil ?_
    refine W_seq ?_
    ((replace H := Hp.dropN H hO6.keys; clear hO6)) <;> refine W_region_l ?_
    refine WL_stepM rfl (R_as) ?_
    refine WL_nil ?_
    refine W_seq ?_
    refine W_seq ?_
    refine W_region_l ?_
    refine WL_stepM rfl (R_as) ?_
    refine WL_nil ?_
    refine W_block ?_
    refine W_loopS [(6, 6), (8, 16), (27, 111)] (fun (k : Nat) E w' => ∃ g ins outs, k ≤ xs.length ∧ k ≤ 60 ∧ okP g ∧ ins = outs ++ queue g ∧ ins.length ≤ 32 + 32 * k ∧ E 8 = S ins ∧ E 9 = S outs ∧ E 10 = I k ∧ Hp w [(b7, blk (piC g) 26)] w') (fun k => 60 - k) 0 ?e0 ?r0
    · exact ⟨pp, queue pp, [], by omega, by omega, hokp, rfl, by omega, rfl, rfl, rfl, H⟩
    · (clear H; rintro k E w1 ⟨g, ins, outs, hk, hk2, hok, hio, hil, h8, h9, h10, H⟩; have hgc := hok.2.1; have hol : outs.length ≤ ins.length := (by rw [hio]; simp); refine W_kn3 h8 h9 h10 ?_)
      refine W_seq ?_
      refine W_seq ?_
      refine W_region_l ?_
      refine WL_stepM rfl (R_mv) ?_
      refine WL_stepM rfl (R_mv) ?_
      refine WL_step rfl (R_len_slice Try.underlying41 rfl) ?_
      refine WL_step rfl (R_lt rfl rfl) ?_
      refine WL_stepM rfl (R_mv) ?_
      apply WL_andK 3 31 34 [(32, 34)] H
      case hc => rfl
      case h1 =>
        intro h56
        refine WL_guard_t rfl rfl ?_
        refine WL_stepM rfl (R_mv) ?_
        refine WL_guard_t rfl rfl ?_
        refine WL_step rfl (R_lt rfl rfl) ?_
        refine WL_stepM rfl (R_pk_t rfl) ?_
        refine WL_nil ?_
        exact ⟨(same_mov rfl (same_updo rfl (same_mov rfl Same.refl))), rfl, H⟩
      case h0 =>
        intro h56
        refine WL_guard_f rfl rfl (by decide) ?_
        refine WL_guard_f rfl rfl (by decide) ?_
        refine WL_stepM rfl (R_pk_f rfl) ?_
        refine WL_nil ?_
        exact ⟨(same_mov rfl (same_updo rfl (same_updo rfl Same.refl))), rfl, H⟩
      case h2 =>
        (clear H; intro E56 w56 H)
        refine WL_nil ?_
        refine W_if rfl (fun h70 => ?_) (fun h70 => ?_)
        · refine W_skip ?_
          refine W_seq ?_
          refine W_block ?_
          refine W_seq ?_
          (obtain ⟨⟨oi, on, ov, obs⟩, ho⟩ : ∃ o, xs[k]? = some o := ⟨_, List.getElem?_eq_getElem (by omega)⟩; obtain ⟨hrb, hlb⟩ := hg _ (List.mem_of_getElem? ho); simp only at hrb hlb; obtain ⟨ba, bcap, hov⟩ := hrb.form; rw [List.length_map] at hov; subst hov; obtain ⟨bz, oz, rfl, hc⟩ := hl.cell ropC_len ho) <;> refine W_region_l ?_
          refine WL_stepM rfl (R_mv) ?_
          refine WL_stepM rfl (R_mv) ?_
          refine WL_step rfl (R_indexAddr Try.underlying41 Try.sizeOf43 rfl rfl (by omega) (by omega) idx_castn) ?_
          refine WL_step rfl (R_loadA_cell (vs := [I oi, I on, .slice ba obs.length bcap]) Try.isAgg43 Try.sizeOf43 rfl (fun j v hj => H.cellN (hc j v hj) (by repeat' first | exact kNil | apply kCons | apply kApp | assumption | exact OwnS.keys (by assumption))) rfl) ?_
          (refine WL_effn rfl (E_alloc H Try.zeroValue43 rfl) ?_; clear H; intro bo w80 hbo H)
          (refine WL_effu rfl (E_storeA (vs := [(.int _ _), (.int _ _), (.slice _ _ _)]) H Try.sizeOf43 rfl rfl (by simp [Value.oneCell']) .here (by simp)) ?_; clear H; intro w81 H)
          refine WL_nil ?_
          refine W_seq ?_
          refine W_seq ?_
          refine W_region_l ?_
          refine WL_step rfl (R_fieldAddr (off' := 2) Try.underlying43 rfl Try.sizeOf22 (by decide) rfl rfl) ?_
          refine WL_step rfl (R_load Try.isAgg22 rfl (H.get .here) rfl) ?_
          refine WL_step rfl (R_len_slice Try.underlying22 rfl) ?_
          refine WL_step rfl (R_gt rfl rfl) ?_
          refine WL_nil ?_
          refine W_if rfl (fun h91 => ?_) (fun h91 => ?_)
          · refine W_seq ?_
            refine W_region_l ?_
            (refine WL_call rfl (R_call rfl Try.call14 rfl) (awake_ret _) ?_; rintro _ w94 ⟨rfl, H1⟩; replace H := H.seq0 H1; clear H1)
            refine WL_stepM rfl (R_as) ?_
            refine WL_nil ?_
            refine W_ret ?_
            exact ⟨_, rfl, rfl, H.none (by repeat' first | exact kNil | apply kCons | apply kApp | assumption | exact OwnS.keys (by assumption))⟩
          · refine W_skip ?_
            refine W_seqS [(6, 6), (8, 9), (12, 16), (46, 94)] (fun E w' => ∃ g2 ins2 outs2, okP g2 ∧ ins2 = outs2 ++ queue g2 ∧ ins2.length ≤ 32 + 32 * (k + 1) ∧ E 8 = S ins2 ∧ E 9 = S outs2 ∧ Hp w [(bo, blk [I oi, I on, .slice ba obs.length bcap] 43), (b7, blk (piC g2) 26)] w') ?c12 ?k12
            · refine W_seq ?_
              refine W_region_l ?_
              refine WL_step rfl (R_fieldAddr (off' := 0) Try.underlying43 rfl Try.sizeOf3 (by decide) rfl rfl) ?_
              refine WL_step rfl (R_load Try.isAgg3 rfl (H.get .here) rfl) ?_
              refine WL_step rfl (R_eq rfl rfl) ?_
              refine WL_nil ?_
              refine W_if rfl (fun h107 => ?_) (fun h107 => ?_)
              · refine W_seq ?_
                ((obtain ⟨⟨q, n⟩, hpq⟩ : ∃ x, putP g obs = x := ⟨_, rfl⟩; obtain ⟨hq1, hq2, hq3, hq4, hq5⟩ := put_queue hok hpq)) <;> refine W_region_l ?_
                refine WL_step rfl (R_fieldAddr (off' := 1) Try.underlying26 rfl Try.sizeOf3 (by decide) rfl rfl) ?_
                refine WL_step rfl (R_load (v := I g.c) Try.isAgg3 rfl (H.get (.there .here)) rfl) ?_
                refine WL_step rfl (R_sub (r := 32 - g.c) rfl rfl (w_i64 (by omega))) ?_
                refine WL_stepM rfl (R_as) ?_
                refine WL_nil ?_
                refine W_seq ?_
                refine W_region_l ?_
                refine WL_step rfl (R_loadP rfl (H.get (.there .here))) ?_
                refine WL_step rfl (R_fieldAddr (off' := 2) Try.underlying43 rfl Try.sizeOf22 (by decide) rfl rfl) ?_
                refine WL_step rfl (R_load Try.isAgg22 rfl (H.get .here) rfl) ?_
                (refine WL_call rfl (R_call rfl Try.call15 rfl) (put_to hpq (hrb.monoN H (by repeat' first | exact kNil | apply kCons | apply kApp | assumption | exact OwnS.keys (by assumption))) (by omega)) ?_; rintro _ w120 ⟨rfl, H1⟩; replace H := H.seq0 H1; clear H1)
                refine WL_stepM rfl (R_mv) ?_
                refine WL_step rfl (R_extract rfl rfl) ?_
                refine WL_step rfl (R_extract rfl rfl) ?_
                (refine WL_effn rfl (E_allocP H) ?_; clear H; intro b13 w124 hb13 H)
                (refine WL_effu rfl (E_storeP (q := q) H rfl rfl .here) ?_; clear H; intro w125 H)
                refine WL_stepM rfl (R_as) ?_
                refine WL_nil ?_
                refine W_seq ?_
                refine W_seq ?_
                refine W_region_l ?_
                refine WL_stepM rfl (R_mv) ?_
                refine WL_step rfl (R_fieldAddr (off' := 2) Try.underlying43 rfl Try.sizeOf22 (by decide) rfl rfl) ?_
                refine WL_step rfl (R_load Try.isAgg22 rfl (H.get (.there .here)) rfl) ?_
                refine WL_step rfl (R_len_slice Try.underlying22 rfl) ?_
                refine WL_stepM rfl (R_mv) ?_
                refine WL_step rfl (R_min rfl rfl hq3) ?_
                refine WL_step rfl (R_ne_f rfl rfl rfl) ?_
                refine WL_nil ?_
                refine W_cond_f rfl ?_
                refine W_skip ?_
                refine W_seq ?_
                refine W_region_l ?_
                refine WL_stepM rfl (R_mv) ?_
                refine WL_step rfl (R_fieldAddr (off' := 2) Try.underlying43 rfl Try.sizeOf22 (by decide) rfl rfl) ?_
                refine WL_step rfl (R_load Try.isAgg22 rfl (H.get (.there .here)) rfl) ?_
                refine WL_stepM rfl (R_mv) ?_
                refine WL_step rfl (R_subU (i := 0) (j := n) hrb Try.underlying22 Try.sizeOf5 rfl .none (.some rfl) (by omega) hq4) ?_
                refine WL_step rfl (R_conv_bs (xs := obs.take n) Try.underlying22 Try.underlying5 Try.underlying9 rfl ((hrb.subU (i := 0) (j := n) (by omega) hq4).monoN H (by repeat' first | exact kNil | apply kCons | apply kApp | assumption | exact OwnS.keys (by assumption)))) ?_
                refine WL_step rfl (R_cat_S rfl rfl (by rw [List.length_take]; omega)) ?_
                refine WL_stepM rfl (R_as) ?_
                refine WL_nil ?_
                refine W_region_l ?_
                refine WL_step rfl (R_loadP rfl (H.get .here)) ?_
                (have _g := hb13; refine WL_effu rfl (E_storeP (q := q) H rfl rfl (.there (.there .here))) ?_; clear H; intro w154 H)
                refine WL_nil ?_
                exact ⟨(same_updn (same_updo rfl (same_mov rfl (same_updo rfl (same_updo rfl (same_updo rfl (same_mov rfl (same_updo rfl (same_updo rfl (same_mov rfl (same_updo rfl (same_updo rfl (same_mov rfl (same_updo rfl (same_updo rfl (same_updo rfl (same_mov rfl (same_mov rfl (same_updn (same_updo rfl (same_updo rfl (same_updo rfl (same_mov rfl (same_updo rfl (same_updo rfl (same_updo rfl (same_updo rfl (same_mov rfl (same_updo rfl (same_updo rfl (same_updo rfl (same_know rfl (same_updo rfl (same_updo rfl (same_updo rfl Same.refl))))))))))))))))))))))))))))))))))), q, ins ++ obs.take n, outs, hq1, by rw [hio, List.append_assoc, hq2], by rw [List.length_append, List.length_take]; omega, rfl, rfl, H.pop hb13⟩
              · refine W_seq ?_
                ((obtain ⟨⟨q, ys⟩, hpq⟩ : ∃ x, takeP g on = x := ⟨_, rfl⟩; obtain ⟨hq1, hq2, hq3⟩ := take_queue hok hpq; have hq5 := takeP_len hpq)) <;> refine W_region_l ?_
                refine WL_step rfl (R_loadP rfl (H.get (.there .here))) ?_
                refine WL_step rfl (R_fieldAddr (off' := 1) Try.underlying43 rfl Try.sizeOf3 (by decide) rfl rfl) ?_
                refine WL_step rfl (R_load Try.isAgg3 rfl (H.get .here) rfl) ?_
                (refine WL_call rfl (R_call rfl Try.call16 rfl) (take_to hpq) ?_; rintro _ w162 ⟨a3, k3, M3, rfl, hM3, hR3, H1⟩; have hsz := H.size; replace H := H.seqN H1 hM3; replace hM3 := fun q hq => Nat.le_trans hsz (hM3 q hq); clear H1 hsz)
                refine WL_stepM rfl (R_mv) ?_
                refine WL_step rfl (R_extract rfl rfl) ?_
                refine WL_step rfl (R_extract rfl rfl) ?_
                (refine WL_effn rfl (E_allocP H) ?_; clear H; intro b15 w166 hb15 H)
                (refine WL_effu rfl (E_storeP (q := q) H rfl rfl .here) ?_; clear H; intro w167 H)
                refine WL_stepM rfl (R_as) ?_
                refine WL_nil ?_
                refine W_seq ?_
                refine W_seq ?_
                refine W_region_l ?_
                refine WL_stepM rfl (R_mv) ?_
                refine WL_step rfl (R_len_slice Try.underlying22 rfl) ?_
                refine WL_step rfl (R_fieldAddr (off' := 1) Try.underlying43 rfl Try.sizeOf3 (by decide) rfl rfl) ?_
                refine WL_step rfl (R_load (v := I on) Try.isAgg3 rfl (H.get (.there (.app _ .here))) rfl) ?_
                refine WL_step rfl (R_max rfl rfl rfl) ?_
                refine WL_step rfl (R_fieldAddr (off' := 1) Try.underlying26 rfl Try.sizeOf3 (by decide) rfl rfl) ?_
                refine WL_step rfl (R_load (v := I g.c) Try.isAgg3 rfl (H.get (.there (.app _ (.there .here)))) rfl) ?_
                refine WL_step rfl (R_min rfl rfl hq3) ?_
                refine WL_step rfl (R_ne_f rfl rfl rfl) ?_
                refine WL_nil ?_
                refine W_cond_f rfl ?_
                refine W_skip ?_
                refine W_seq ?_
                refine W_region_l ?_
                refine WL_stepM rfl (R_mv) ?_
                refine WL_stepM rfl (R_mv) ?_
                refine WL_step rfl (R_conv_bs (xs := ys) Try.underlying22 Try.underlying5 Try.underlying9 rfl (hR3 _ (fun p hp => H.held p (by simp [hp])))) ?_
                refine WL_step rfl (R_cat_S rfl rfl (by omega)) ?_
                refine WL_stepM rfl (R_as) ?_
                refine WL_nil ?_
                refine W_region_l ?_
                refine WL_step rfl (R_loadP rfl (H.get .here)) ?_
                (have _g := hb15; refine WL_effu rfl (E_storeP (q := q) H rfl rfl (.there (.app _ (.there .here)))) ?_; clear H; intro w195 H)
                refine WL_nil ?_
                exact ⟨(same_updn (same_updo rfl (same_mov rfl (same_updo rfl (same_updo rfl (same_mov rfl (same_mov rfl (same_updo rfl (same_updo rfl (same_updo rfl (same_updo rfl (same_updo rfl (same_updo rfl (same_updo rfl (same_updo rfl (same_mov rfl (same_mov rfl (same_updn (same_updo rfl (same_updo rfl (same_updo rfl (same_mov rfl (same_updo rfl (same_updo rfl (same_updo rfl (same_updo rfl (same_know rfl (same_updo rfl (same_updo rfl (same_updo rfl Same.refl)))))))))))))))))))))))))))))), q, ins, outs ++ ys, hq1, by rw [hio, hq2, List.append_assoc], by omega, rfl, rfl, Hp.dropN (M := _ :: M3) H (kCons hb15 hM3)⟩
            · (clear H; rintro E w1 ⟨g2, ins2, outs2, ho2, hio2, hl2, h8, h9, H⟩; have hgc2 := ho2.2.1; have hql2 := queue_len ho2; have hol2 : outs2.length ≤ ins2.length := (by rw [hio2]; simp); refine W_kn2 h8 h9 ?_)
              refine W_seq ?_
              refine W_region_l ?_
              refine WL_stepM rfl (R_mv) ?_
              refine WL_stepM rfl (R_mv) ?_
              refine WL_step rfl (R_loadP rfl (H.get (.there .here))) ?_
              (refine WL_call rfl (R_call rfl Try.call26 rfl) (bytesR_ret g2 _) ?_; rintro u6 w204 ⟨M6, hO6, H1⟩; have h204 := H.seqO hO6 H1; clear H H1 hO6; obtain ⟨hO6, H⟩ := h204)
              refine WL_step rfl (R_conv_bs (xs := queue g2) Try.underlying22 Try.underlying5 Try.underlying9 rfl (RdS.own hO6 (fun p hp => H.held p (by simp [hp])))) ?_
              refine WL_step rfl (R_cat_S rfl rfl (by omega)) ?_
              refine WL_step rfl (R_ne_S_f rfl rfl hio2) ?_
              refine WL_stepM rfl (R_mv) ?_
              refine WL_guard_t rfl rfl ?_
              refine WL_step rfl (R_fieldAddr (off' := 1) Try.underlying26 rfl Try.sizeOf3 (by decide) rfl rfl) ?_
              refine WL_guard_t rfl rfl ?_
              refine WL_step rfl (R_load (v := I g2.c) Try.isAgg3 rfl (H.get (.app _ (.there .here))) rfl) ?_
              refine WL_guard_t rfl rfl ?_
              refine WL_step rfl (R_lt_f rfl rfl (by omega)) ?_
              refine WL_stepM rfl (R_pk_f rfl) ?_
              refine WL_stepM rfl (R_mv) ?_
              refine WL_guard_t rfl rfl ?_
              refine WL_step rfl (R_fieldAddr (off' := 1) Try.underlying26 rfl Try.sizeOf3 (by decide) rfl rfl) ?_
              refine WL_guard_t rfl rfl ?_
              refine WL_step rfl (R_load (v := I g2.c) Try.isAgg3 rfl (H.get (.app _ (.there .here))) rfl) ?_
              refine WL_guard_t rfl rfl ?_
              refine WL_step rfl (R_gt_f rfl rfl (by omega)) ?_
              refine WL_stepM rfl (R_pk_f rfl) ?_
              refine WL_nil ?_
              refine W_cond_f rfl ?_
              refine W_skip ?_
              refine W_region_l ?_
              refine WL_stepM rfl (R_mv) ?_
              refine WL_step rfl (R_add rfl rfl (w_i64 (by omega))) ?_
              refine WL_stepM rfl (R_as) ?_
              refine WL_nil ?_
              exact ⟨(same_mov rfl (same_updo rfl (same_mov rfl (same_mov rfl (same_updo rfl (same_updo rfl (same_updo rfl (same_mov rfl (same_mov rfl (same_updo rfl (same_updo rfl (same_updo rfl (same_mov rfl (same_updo rfl (same_updo rfl (same_updo rfl (same_updo rfl (same_updo rfl (same_mov rfl (same_mov rfl (same_in rfl (same_know rfl (same_updo rfl (same_updo rfl (same_updo rfl (same_updo rfl (same_updn (same_updo rfl (same_updo rfl (same_updo rfl (same_mov rfl (same_mov rfl (same_know rfl (same_in rfl (same_mov rfl (same_updo rfl (same_updo rfl (same_mov rfl (same_mov rfl same_ovr))))))))))))))))))))))))))))))))))))))), k + 1, by omega, g2, ins2, outs2, by omega, by omega, ho2, hio2, hl2, rfl, rfl, rfl, (Hp.dropN H hO6.keys).pop hbo⟩
        · refine W_exit ?_
          refine (if_pos rfl).mpr ?_
          refine W_seq ?_
          refine W_region_l ?_
          (refine WL_call rfl (R_call rfl Try.call14 rfl) (awake_ret _) ?_; rintro _ w237 ⟨rfl, H1⟩; replace H := H.seq0 H1; clear H1)
          refine WL_stepM rfl (R_as) ?_
          refine WL_nil ?_
          refine W_ret ?_
          exact ⟨_, rfl, rfl, H.none (by repeat' first | exact kNil | apply kCons | apply kApp | assumption | exact OwnS.keys (by assumption))⟩
end Go.Proofs.Ytcpkhgdjckogjaa.Ring
