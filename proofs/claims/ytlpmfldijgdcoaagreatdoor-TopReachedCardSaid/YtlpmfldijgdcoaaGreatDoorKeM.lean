/-
  What a kernel of one session begins with; that it may be.
-/
import Derived.Test.YtlpmfldijgdcoaaGreatDoorKnM
import Derived.Test.YtlpmfldijgdcoaaGreatDoorCapM
import Derived.Test.YtlpmfldijgdcoaaGreatDoorRegM
import Derived.Test.YtlpmfldijgdcoaaGreatDoorQuoM
import Derived.Test.YtlpmfldijgdcoaaGreatDoorSecM
import Derived.Test.YtlpmfldijgdcoaaGreatDoorMemA
namespace Go.Proofs.YtlpmfldijgdcoaaGreatDoor.Ke
open Go Go.Proofs Go.Proofs.YtlpmfldijgdcoaaGreatDoor.Fx Go.Proofs.YtlpmfldijgdcoaaGreatDoor.Kn
set_option maxRecDepth 100000
set_option linter.unusedVariables false
set_option linter.unusedSimpArgs false
set_option maxHeartbeats 8000000

structure BV where
  fb : Nat
  fc : Nat
  eb : Nat
  ec : Nat
  sb : Nat
  sc : Nat
  lb : Nat
  lc : Nat
  hb : Nat
  hc : Nat
  tb : Nat
  tc : Nat
  fl : List Value
  el : List Value
  sl' : List Value
  ll : List Value
  hl : List Value
  tl : List Value
def BV.c (B : BV) : List Value := [sl B.fb 0 1 B.fc, sl B.eb 0 9 B.ec, sl B.sb 0 1 B.sc, I 3, sl B.hb 0 1 B.hc]
def BV.x (B : BV) : List Value := [I 0, I 0, I 0, I 492, sl B.tb 0 1 B.tc]
structure Bt (w : World) (B : BV) : Prop where
  f : w.heap[B.fb]? = some (blk ([I 20] ++ B.fl) 3)
  e : w.heap[B.eb]? = some (blk (List.replicate 9 (I 0) ++ B.el) 3)
  s : w.heap[B.sb]? = some (blk ([sl B.lb 0 1 B.lc] ++ B.sl') 22)
  l : w.heap[B.lb]? = some (blk ([I 0] ++ B.ll) 3)
  h : w.heap[B.hb]? = some (blk (B.x ++ B.hl) 118)
  t : w.heap[B.tb]? = some (blk ([I 0] ++ B.tl) 3)
  ec : 9 ≤ B.ec
  lc : 1 ≤ B.lc
  tc : 1 ≤ B.tc
  fc : 1 ≤ B.fc
theorem Bt.keepN {w w' : World} {B : BV} {L : List (Nat × Obj)} (h : Bt w B) (H : Hp w L w') (hn : ∀ p ∈ L, w.heap.size ≤ p.1) : Bt w' B :=
  ⟨H.blockN h.f hn, H.blockN h.e hn, H.blockN h.s hn, H.blockN h.l hn, H.blockN h.h hn, H.blockN h.t hn, h.ec, h.lc, h.tc, h.fc⟩

theorem frames_ret (n : Int) (w : World) : Ret Tryz.prog 42 #[I n] w fun v w' => v = I (min (max n 0) 64) ∧ Hp w [] w' := by
  refine Ret_of_W (args := [_]) Tryz.func42 rfl Tryz.ntmps42 Tryz.results42 (by simp) ?_
  have H := Hp.refl w
  refine W_seq ?_
  refine W_region_l ?_
  refine WL_stepM rfl (R_as) ?_
  refine WL_nil ?_
  refine W_seq ?_
  refine W_region_l ?_
  refine WL_stepM rfl (R_mv) ?_
  refine WL_step rfl (R_max rfl rfl rfl) ?_
  refine WL_step rfl (R_min rfl rfl rfl) ?_
  refine WL_stepM rfl (R_as) ?_
  refine WL_nil ?_
  refine W_ret ?_
  exact ⟨_, rfl, rfl, H⟩

section
variable {w : World} {B : BV} {c1 : Nat}
theorem none_ret (hc : w.heap[c1]? = some (blk B.c 77)) : Ret Tryz.prog 74 #[I 0, ptr c1 0] w fun v w' => v = .bool false ∧ Hp w [] w' := by
  refine Ret_of_W (args := [_, _]) Tryz.func74 rfl Tryz.ntmps74 Tryz.results74 (by simp) ?_
  have H := Hp.refl w
  unfold BV.c at hc
  refine W_seq ?_
  refine W_region_l ?_
  refine WL_stepM rfl (R_as) ?_
  refine WL_nil ?_
  refine W_seq ?_
  refine W_region_l ?_
  refine WL_stepM rfl (R_mv) ?_
  refine WL_step rfl (R_lt_f rfl rfl (by omega)) ?_
  refine WL_stepM rfl (R_mv) ?_
  refine WL_guard_t rfl rfl ?_
  refine WL_stepM rfl (R_mv) ?_
  refine WL_guard_t rfl rfl ?_
  refine WL_step rfl (R_fieldAddr (off' := 0) Tryz.underlying77 rfl Tryz.sizeOf22 (by decide) rfl rfl) ?_
  refine WL_guard_t rfl rfl ?_
  refine WL_step rfl (R_load Tryz.isAgg22 rfl (H.block hc (by simp)) rfl) ?_
  refine WL_guard_t rfl rfl ?_
  refine WL_step rfl (R_len_slice Tryz.underlying22 rfl) ?_
  refine WL_guard_t rfl rfl ?_
  refine WL_step rfl (R_ge_f rfl rfl (by omega)) ?_
  refine WL_stepM rfl (R_pk_f rfl) ?_
  refine WL_stepM rfl (R_as) ?_
  refine WL_nil ?_
  refine W_ret ?_
  exact ⟨_, rfl, rfl, H⟩
theorem index_none {v : Value} {n : Nat} (hl : RdS w v (List.replicate n (I 0))) (hn : n ≤ 1000) (hc : w.heap[c1]? = some (blk B.c 77)) :
    Ret Tryz.prog 119 #[v, .func (.func 74) #[] #[ptr c1 0]] w fun r w' => r = I (-1) ∧ Hp w [] w' := by
  refine Ret_of_W (args := [_, _]) Tryz.func119 rfl Tryz.ntmps119 Tryz.results119 (by simp) ?_
  have H := Hp.refl w
  obtain ⟨a, ca, rfl⟩ := hl.form
  rw [List.length_replicate] at *
  refine W_seq ?_
  refine W_region_l ?_
  refine WL_stepM rfl (R_as) ?_
  refine WL_nil ?_
  refine W_seq ?_
  refine W_seq ?_
  refine W_region_l ?_
  refine WL_stepM rfl (R_mv) ?_
  refine WL_step rfl (R_len_slice Tryz.underlying22 rfl) ?_
  refine WL_stepM rfl (R_mv) ?_
  refine WL_nil ?_
  refine W_block ?_
  refine W_loopS [(4, 5), (8, 18)] (fun (i : Nat) E w' => i ≤ n ∧ E 8 = I i ∧ Hp w [] w') (fun i => n - i) 0 ?e0 ?r0
  · exact ⟨by omega, rfl, H⟩
  · (clear H; rintro i E w1 ⟨hi, h8, H⟩; refine W_kn h8 ?_)
    refine W_seq ?_
    refine W_region_l ?_
    refine WL_step rfl (R_lt rfl rfl) ?_
    refine WL_nil ?_
    refine W_seq ?_
    refine W_if rfl (fun h20 => ?_) (fun h20 => ?_)
    · refine W_skip ?_
      refine W_seq ?_
      refine W_block ?_
      refine W_seq ?_
      ((obtain ⟨b, off, rfl, hcell⟩ := hl.cell (i := i) (u := I 0) (by rw [List.getElem?_replicate, if_pos (by omega)]))) <;> refine W_region_l ?_
      refine WL_stepM rfl (R_mv) ?_
      refine WL_stepM rfl (R_as) ?_
      refine WL_nil ?_
      refine W_seq ?_
      refine W_region_l ?_
      refine WL_stepM rfl (R_mv) ?_
      refine WL_stepM rfl (R_mv) ?_
      refine WL_stepM rfl (R_mv) ?_
      refine WL_step rfl (R_indexAddr (off' := off + i) Tryz.underlying22 Tryz.sizeOf3 rfl rfl (by omega) (by omega) (by omega)) ?_
      refine WL_step rfl (R_load_cell Tryz.isAgg3 rfl (H.cellN hcell kYs)) ?_
      (refine WL_call rfl (R_call rfl Tryz.call74 rfl) (none_ret (H.blockN hc kYs)) ?_; rintro _ w36 ⟨rfl, H1⟩; replace H := H.seq0 H1; clear H1)
      refine WL_nil ?_
      refine W_cond_f rfl ?_
      refine W_skip ?_
      refine W_region_l ?_
      refine WL_step rfl (R_add rfl rfl (w_i64 (by omega))) ?_
      refine WL_stepM rfl (R_mv) ?_
      refine WL_nil ?_
      exact ⟨(same_mov rfl (same_updo rfl (same_updo rfl (same_updo rfl (same_updo rfl (same_mov rfl (same_mov rfl (same_mov rfl (same_mov rfl (same_mov rfl (same_know rfl (same_updo rfl same_ovr)))))))))))), i + 1, by omega, by omega, rfl, H⟩
    · refine W_exit ?_
      refine (if_pos rfl).mpr ?_
      refine W_seq ?_
      refine W_region_l ?_
      refine WL_stepM rfl (R_as) ?_
      refine WL_nil ?_
      refine W_ret ?_
      exact ⟨_, rfl, rfl, H⟩
theorem contains_none {v : Value} {n : Nat} (hl : RdS w v (List.replicate n (I 0))) (hn : n ≤ 1000) (hc : w.heap[c1]? = some (blk B.c 77)) :
    Ret Tryz.prog 75 #[v, .func (.func 74) #[] #[ptr c1 0]] w fun r w' => r = .bool false ∧ Hp w [] w' := by
  refine Ret_of_W (args := [_, _]) Tryz.func75 rfl Tryz.ntmps75 Tryz.results75 (by simp) ?_
  have H := Hp.refl w
  refine W_seq ?_
  refine W_region_l ?_
  refine WL_stepM rfl (R_as) ?_
  refine WL_nil ?_
  refine W_seq ?_
  refine W_region_l ?_
  refine WL_stepM rfl (R_mv) ?_
  refine WL_stepM rfl (R_mv) ?_
  (refine WL_call rfl (R_call rfl Tryz.call119 rfl) (index_none hl hn hc) ?_; rintro _ w9 ⟨rfl, H1⟩; replace H := H.seq0 H1; clear H1)
  refine WL_step rfl (R_ge_f rfl rfl (by omega)) ?_
  refine WL_stepM rfl (R_as) ?_
  refine WL_nil ?_
  refine W_ret ?_
  exact ⟨_, rfl, rfl, H⟩
theorem share_ret (hB : Bt w B) : Ret Tryz.prog 76 #[.agg B.c.toArray, .agg B.x.toArray] w fun v w' => v = .bool true ∧ Hp w [] w' := by
  refine Ret_of_W (args := [_, _]) Tryz.func76 rfl Tryz.ntmps76 Tryz.results76 (by simp) ?_
  have H := Hp.refl w
  have hf := hB.f
  unfold BV.c BV.x
  refine W_seq ?_
  refine W_region_l ?_
  (refine WL_effn rfl (E_box (vs := [sl B.fb 0 1 B.fc, sl B.eb 0 9 B.ec, sl B.sb 0 1 B.sc, I 3, sl B.hb 0 1 B.hc]) H rfl rfl) ?_; clear H; intro c2 w3 hc2 H)
  (refine WL_effn rfl (E_box (vs := [I 0, I 0, I 0, I 492, sl B.tb 0 1 B.tc]) H rfl rfl) ?_; clear H; intro c3 w4 hc3 H)
  refine WL_stepM rfl (R_as) ?_
  refine WL_nil ?_
  refine W_seq ?_
  refine W_seq ?_
  refine W_region_l ?_
  refine WL_step rfl (R_fieldAddr (off' := 0) Tryz.underlying118 rfl Tryz.sizeOf3 (by decide) rfl rfl) ?_
  refine WL_step rfl (R_load Tryz.isAgg3 rfl (H.get .here) rfl) ?_
  refine WL_step rfl (R_lt_f rfl rfl (by omega)) ?_
  refine WL_stepM rfl (R_mv) ?_
  refine WL_guard_t rfl rfl ?_
  refine WL_step rfl (R_fieldAddr (off' := 0) Tryz.underlying118 rfl Tryz.sizeOf3 (by decide) rfl rfl) ?_
  refine WL_guard_t rfl rfl ?_
  refine WL_step rfl (R_load Tryz.isAgg3 rfl (H.get .here) rfl) ?_
  refine WL_guard_t rfl rfl ?_
  refine WL_step rfl (R_fieldAddr (off' := 0) Tryz.underlying77 rfl Tryz.sizeOf22 (by decide) rfl rfl) ?_
  refine WL_guard_t rfl rfl ?_
  refine WL_step rfl (R_load Tryz.isAgg22 rfl (H.get (.there .here)) rfl) ?_
  refine WL_guard_t rfl rfl ?_
  refine WL_step rfl (R_len_slice Tryz.underlying22 rfl) ?_
  refine WL_guard_t rfl rfl ?_
  refine WL_step rfl (R_ge_f rfl rfl (by omega)) ?_
  refine WL_stepM rfl (R_pk_f rfl) ?_
  refine WL_stepM rfl (R_mv) ?_
  refine WL_guard_t rfl rfl ?_
  refine WL_step rfl (R_fieldAddr (off' := 1) Tryz.underlying118 rfl Tryz.sizeOf3 (by decide) rfl rfl) ?_
  refine WL_guard_t rfl rfl ?_
  refine WL_step rfl (R_load Tryz.isAgg3 rfl (H.get .here) rfl) ?_
  refine WL_guard_t rfl rfl ?_
  refine WL_step rfl (R_lt_f rfl rfl (by omega)) ?_
  refine WL_stepM rfl (R_pk_f rfl) ?_
  refine WL_stepM rfl (R_mv) ?_
  refine WL_guard_t rfl rfl ?_
  refine WL_step rfl (R_fieldAddr (off' := 2) Tryz.underlying118 rfl Tryz.sizeOf3 (by decide) rfl rfl) ?_
  refine WL_guard_t rfl rfl ?_
  refine WL_step rfl (R_load Tryz.isAgg3 rfl (H.get .here) rfl) ?_
  refine WL_guard_t rfl rfl ?_
  refine WL_step rfl (R_lt_f rfl rfl (by omega)) ?_
  refine WL_stepM rfl (R_pk_f rfl) ?_
  refine WL_stepM rfl (R_mv) ?_
  refine WL_guard_t rfl rfl ?_
  refine WL_step rfl (R_fieldAddr (off' := 3) Tryz.underlying118 rfl Tryz.sizeOf3 (by decide) rfl rfl) ?_
  refine WL_guard_t rfl rfl ?_
  refine WL_step rfl (R_load Tryz.isAgg3 rfl (H.get .here) rfl) ?_
  refine WL_guard_t rfl rfl ?_
  refine WL_step rfl (R_lt_f rfl rfl (by omega)) ?_
  refine WL_stepM rfl (R_pk_f rfl) ?_
  refine WL_nil ?_
  refine W_cond_f rfl ?_
  refine W_skip ?_
  refine W_seq ?_
  refine W_region_l ?_
  refine WL_step rfl (R_fieldAddr (off' := 0) Tryz.underlying77 rfl Tryz.sizeOf22 (by decide) rfl rfl) ?_
  refine WL_step rfl (R_load Tryz.isAgg22 rfl (H.get (.there .here)) rfl) ?_
  refine WL_step rfl (R_fieldAddr (off' := 0) Tryz.underlying118 rfl Tryz.sizeOf3 (by decide) rfl rfl) ?_
  refine WL_step rfl (R_load Tryz.isAgg3 rfl (H.get .here) rfl) ?_
  refine WL_step rfl (R_indexAddr (off' := 0) Tryz.underlying22 Tryz.sizeOf3 rfl rfl (by decide) (by decide) (by decide)) ?_
  refine WL_step rfl (R_load (v := I 20) Tryz.isAgg3 rfl (H.blockN hf kYs) rfl) ?_
  (refine WL_call rfl (R_call rfl Tryz.call42 rfl) (frames_ret 20 _) ?_; rintro v w62 ⟨hv, H1⟩; rw [show min (max (20 : Int) 0) 64 = 20 from by decide] at hv; subst hv; replace H := H.seq0 H1; clear H1)
  refine WL_stepM rfl (R_as) ?_
  refine WL_nil ?_
  refine W_seq ?_
  refine W_seq ?_
  refine W_region_l ?_
  refine WL_step rfl (R_fieldAddr (off' := 1) Tryz.underlying118 rfl Tryz.sizeOf3 (by decide) rfl rfl) ?_
  refine WL_step rfl (R_load Tryz.isAgg3 rfl (H.get .here) rfl) ?_
  refine WL_stepM rfl (R_mv) ?_
  refine WL_step rfl (R_gt_f rfl rfl (by omega)) ?_
  refine WL_nil ?_
  refine W_cond_f rfl ?_
  refine W_skip ?_
  refine W_seq ?_
  refine W_region_l ?_
  refine WL_stepM rfl (R_mv) ?_
  refine WL_step rfl (R_fieldAddr (off' := 1) Tryz.underlying118 rfl Tryz.sizeOf3 (by decide) rfl rfl) ?_
  refine WL_step rfl (R_load Tryz.isAgg3 rfl (H.get .here) rfl) ?_
  refine WL_step rfl (R_sub (r := 20) rfl rfl (by decide)) ?_
  refine WL_step rfl (R_mul (r := 1280) rfl rfl (by decide)) ?_
  refine WL_stepM rfl (R_as) ?_
  refine WL_nil ?_
  refine W_seq ?_
  refine W_region_l ?_
  refine WL_step rfl (R_fieldAddr (off' := 2) Tryz.underlying118 rfl Tryz.sizeOf3 (by decide) rfl rfl) ?_
  refine WL_step rfl (R_load Tryz.isAgg3 rfl (H.get .here) rfl) ?_
  refine WL_stepM rfl (R_mv) ?_
  refine WL_step rfl (R_le_t rfl rfl (by omega)) ?_
  refine WL_stepM rfl (R_mv) ?_
  refine WL_guard_t rfl rfl ?_
  refine WL_step rfl (R_fieldAddr (off' := 3) Tryz.underlying118 rfl Tryz.sizeOf3 (by decide) rfl rfl) ?_
  refine WL_guard_t rfl rfl ?_
  refine WL_step rfl (R_load Tryz.isAgg3 rfl (H.get .here) rfl) ?_
  refine WL_guard_t rfl rfl ?_
  refine WL_stepM rfl (R_mv) ?_
  refine WL_guard_t rfl rfl ?_
  refine WL_step rfl (R_fieldAddr (off' := 2) Tryz.underlying118 rfl Tryz.sizeOf3 (by decide) rfl rfl) ?_
  refine WL_guard_t rfl rfl ?_
  refine WL_step rfl (R_load Tryz.isAgg3 rfl (H.get .here) rfl) ?_
  refine WL_guard_t rfl rfl ?_
  refine WL_step rfl (R_sub (r := 1280) rfl rfl (by decide)) ?_
  refine WL_guard_t rfl rfl ?_
  refine WL_step rfl (R_le_t rfl rfl (by omega)) ?_
  refine WL_stepM rfl (R_pk_t rfl) ?_
  refine WL_stepM rfl (R_as) ?_
  refine WL_nil ?_
  refine W_ret ?_
  exact ⟨_, rfl, rfl, H.none kYs⟩
theorem check_ret (hB : Bt w B) : Ret Tryz.prog 41 #[.agg B.c.toArray] w fun v w' => v = .bool true ∧ Hp w [] w' := by
  refine Ret_of_W (args := [_]) Tryz.func41 rfl Tryz.ntmps41 Tryz.results41 (by simp) ?_
  have H := Hp.refl w
  have hlen : (BV.c B).length = 5 := rfl
  refine W_seq ?_
  refine W_region_l ?_
  (refine WL_effn rfl (E_box (vs := BV.c B) H rfl rfl) ?_; clear H; intro c1 w3 hc1 H)
  refine WL_stepM rfl (R_as) ?_
  refine WL_nil ?_
  refine W_seq ?_
  refine W_seq ?_
  refine W_region_l ?_
  refine WL_step rfl (R_fieldAddr (off' := 0) Tryz.underlying77 rfl Tryz.sizeOf22 (by decide) rfl rfl) ?_
  refine WL_step rfl (R_load (v := sl B.fb 0 1 B.fc) Tryz.isAgg22 rfl (H.get .here) rfl) ?_
  refine WL_step rfl (R_len_slice Tryz.underlying22 rfl) ?_
  refine WL_step rfl (R_lt_f rfl rfl (by omega)) ?_
  refine WL_stepM rfl (R_mv) ?_
  refine WL_guard_t rfl rfl ?_
  refine WL_step rfl (R_fieldAddr (off' := 0) Tryz.underlying77 rfl Tryz.sizeOf22 (by decide) rfl rfl) ?_
  refine WL_guard_t rfl rfl ?_
  refine WL_step rfl (R_load (v := sl B.fb 0 1 B.fc) Tryz.isAgg22 rfl (H.get .here) rfl) ?_
  refine WL_guard_t rfl rfl ?_
  refine WL_step rfl (R_len_slice Tryz.underlying22 rfl) ?_
  refine WL_guard_t rfl rfl ?_
  refine WL_step rfl (R_gt_f rfl rfl (by omega)) ?_
  refine WL_stepM rfl (R_pk_f rfl) ?_
  refine WL_stepM rfl (R_mv) ?_
  refine WL_guard_t rfl rfl ?_
  refine WL_step rfl (R_fieldAddr (off' := 1) Tryz.underlying77 rfl Tryz.sizeOf22 (by decide) rfl rfl) ?_
  refine WL_guard_t rfl rfl ?_
  refine WL_step rfl (R_load (v := sl B.eb 0 9 B.ec) Tryz.isAgg22 rfl (H.get .here) rfl) ?_
  refine WL_guard_t rfl rfl ?_
  refine WL_step rfl (R_len_slice Tryz.underlying22 rfl) ?_
  refine WL_guard_t rfl rfl ?_
  refine WL_step rfl (R_gt_f rfl rfl (by omega)) ?_
  refine WL_stepM rfl (R_pk_f rfl) ?_
  refine WL_stepM rfl (R_mv) ?_
  refine WL_guard_t rfl rfl ?_
  refine WL_step rfl (R_fieldAddr (off' := 2) Tryz.underlying77 rfl Tryz.sizeOf74 (by decide) rfl rfl) ?_
  refine WL_guard_t rfl rfl ?_
  refine WL_step rfl (R_load (v := sl B.sb 0 1 B.sc) Tryz.isAgg74 rfl (H.get .here) rfl) ?_
  refine WL_guard_t rfl rfl ?_
  refine WL_step rfl (R_len_slice Tryz.underlying74 rfl) ?_
  refine WL_guard_t rfl rfl ?_
  refine WL_step rfl (R_gt_f rfl rfl (by omega)) ?_
  refine WL_stepM rfl (R_pk_f rfl) ?_
  refine WL_stepM rfl (R_mv) ?_
  refine WL_guard_t rfl rfl ?_
  refine WL_step rfl (R_fieldAddr (off' := 4) Tryz.underlying77 rfl Tryz.sizeOf75 (by decide) rfl rfl) ?_
  refine WL_guard_t rfl rfl ?_
  refine WL_step rfl (R_load (v := sl B.hb 0 1 B.hc) Tryz.isAgg75 rfl (H.get .here) rfl) ?_
  refine WL_guard_t rfl rfl ?_
  refine WL_step rfl (R_len_slice Tryz.underlying75 rfl) ?_
  refine WL_guard_t rfl rfl ?_
  refine WL_step rfl (R_gt_f rfl rfl (by omega)) ?_
  refine WL_stepM rfl (R_pk_f rfl) ?_
  refine WL_stepM rfl (R_mv) ?_
  refine WL_guard_t rfl rfl ?_
  refine WL_step rfl (R_fieldAddr (off' := 3) Tryz.underlying77 rfl Tryz.sizeOf3 (by decide) rfl rfl) ?_
  refine WL_guard_t rfl rfl ?_
  refine WL_step rfl (R_load (v := I 3) Tryz.isAgg3 rfl (H.get .here) rfl) ?_
  refine WL_guard_t rfl rfl ?_
  refine WL_step rfl (R_lt_f rfl rfl (by omega)) ?_
  refine WL_stepM rfl (R_pk_f rfl) ?_
  refine WL_stepM rfl (R_mv) ?_
  refine WL_guard_t rfl rfl ?_
  refine WL_step rfl (R_fieldAddr (off' := 3) Tryz.underlying77 rfl Tryz.sizeOf3 (by decide) rfl rfl) ?_
  refine WL_guard_t rfl rfl ?_
  refine WL_step rfl (R_load (v := I 3) Tryz.isAgg3 rfl (H.get .here) rfl) ?_
  refine WL_guard_t rfl rfl ?_
  refine WL_step rfl (R_gt_f rfl rfl (by omega)) ?_
  refine WL_stepM rfl (R_pk_f rfl) ?_
  refine WL_nil ?_
  refine W_cond_f rfl ?_
  refine W_skip ?_
  refine W_seq ?_
  refine W_region_l ?_
  refine WL_step rfl (R_fn1 rfl) ?_
  refine WL_stepM rfl (R_as) ?_
  refine WL_nil ?_
  refine W_seq ?_
  refine W_seq ?_
  ((have m4 : True := trivial)) <;> refine W_region_l ?_
  refine WL_step rfl (R_fieldAddr (off' := 1) Tryz.underlying77 rfl Tryz.sizeOf22 (by decide) rfl rfl) ?_
  refine WL_step rfl (R_load (v := sl B.eb 0 9 B.ec) Tryz.isAgg22 rfl (H.get .here) rfl) ?_
  refine WL_stepM rfl (R_mv) ?_
  (have _g := m4; refine WL_call rfl (R_call rfl Tryz.call75 rfl) (contains_none (n := 9) (RdS.blk (c := List.replicate 9 (I 0) ++ B.el) (off := 0) (H.blockN hB.e kYs) (by simp) (by simp) hB.ec) (by decide) (H.get .here)) ?_; rintro _ w83 ⟨rfl, H1⟩; replace H := H.seq0 H1; clear H1)
  refine WL_nil ?_
  refine W_cond_f rfl ?_
  refine W_skip ?_
  refine W_seq ?_
  refine W_seq ?_
  refine W_region_l ?_
  refine WL_step rfl (R_fieldAddr (off' := 2) Tryz.underlying77 rfl Tryz.sizeOf74 (by decide) rfl rfl) ?_
  refine WL_step rfl (R_load (v := sl B.sb 0 1 B.sc) Tryz.isAgg74 rfl (H.get .here) rfl) ?_
  refine WL_step rfl (R_len_slice Tryz.underlying74 rfl) ?_
  refine WL_stepM rfl (R_mv) ?_
  refine WL_nil ?_
  refine W_block ?_
  refine W_rounds 1 ?_
  refine W_seq ?_
  refine W_region_l ?_
  refine WL_step rfl (R_lt_t rfl rfl (by omega)) ?_
  refine WL_nil ?_
  refine W_seq ?_
  refine W_cond_t rfl ?_
  refine W_skip ?_
  refine W_seq ?_
  refine W_block ?_
  refine W_seq ?_
  ((have m8 : True := trivial; clear m4)) <;> refine W_region_l ?_
  refine WL_step rfl (R_indexAddr (off' := 0) Tryz.underlying74 Tryz.sizeOf22 rfl rfl (by decide) (by decide) (by decide)) ?_
  refine WL_step rfl (R_load (v := sl B.lb 0 1 B.lc) Tryz.isAgg22 rfl (H.blockN hB.s kYs) rfl) ?_
  refine WL_stepM rfl (R_as) ?_
  refine WL_nil ?_
  refine W_seq ?_
  refine W_region_l ?_
  refine WL_stepM rfl (R_mv) ?_
  refine WL_stepM rfl (R_mv) ?_
  (have _g := m8; refine WL_call rfl (R_call rfl Tryz.call75 rfl) (contains_none (n := 1) (RdS.blk (c := [I 0] ++ B.ll) (off := 0) (H.blockN hB.l kYs) rfl (by simp) hB.lc) (by decide) (H.get .here)) ?_; rintro _ w116 ⟨rfl, H1⟩; replace H := H.seq0 H1; clear H1)
  refine WL_nil ?_
  refine W_cond_f rfl ?_
  refine W_skip ?_
  refine W_region_l ?_
  refine WL_step rfl (R_add (r := 1) rfl rfl (by decide)) ?_
  refine WL_stepM rfl (R_mv) ?_
  refine WL_nil ?_
  refine Rn_succ ?_
  refine W_seq ?_
  refine W_region_l ?_
  refine WL_step rfl (R_lt_f rfl rfl (by omega)) ?_
  refine WL_nil ?_
  refine W_seq ?_
  refine W_cond_f rfl ?_
  refine W_exit ?_
  refine (if_pos rfl).mpr ?_
  refine W_seq ?_
  refine W_seq ?_
  refine W_region_l ?_
  refine WL_step rfl (R_fieldAddr (off' := 4) Tryz.underlying77 rfl Tryz.sizeOf75 (by decide) rfl rfl) ?_
  refine WL_step rfl (R_load (v := sl B.hb 0 1 B.hc) Tryz.isAgg75 rfl (H.get .here) rfl) ?_
  refine WL_step rfl (R_len_slice Tryz.underlying75 rfl) ?_
  refine WL_stepM rfl (R_mv) ?_
  refine WL_nil ?_
  refine W_block ?_
  refine W_rounds 1 ?_
  refine W_seq ?_
  refine W_region_l ?_
  refine WL_step rfl (R_lt_t rfl rfl (by omega)) ?_
  refine WL_nil ?_
  refine W_seq ?_
  refine W_cond_t rfl ?_
  refine W_skip ?_
  refine W_seq ?_
  refine W_block ?_
  refine W_seq ?_
  ((clear m8)) <;> refine W_region_l ?_
  refine WL_step rfl (R_indexAddr (off' := 0) Tryz.underlying75 Tryz.sizeOf118 rfl rfl (by decide) (by decide) (by decide)) ?_
  refine WL_step rfl (R_loadA (vs := BV.x B) Tryz.isAgg118 Tryz.sizeOf118 rfl (H.blockN hB.h kYs) rfl (by simp [BV.x])) ?_
  (refine WL_effn rfl (E_alloc (vs := [I 0, I 0, I 0, I 0, nilS]) H Tryz.zeroValue118 rfl) ?_; clear H; intro c7 w156 hc7 H)
  (refine WL_effu rfl (E_storeA (vs := BV.x B) H Tryz.sizeOf118 rfl rfl (by simp [BV.x, Value.oneCell']) .here (by simp [BV.x])) ?_; clear H; intro w157 H; replace H : Hp w [(c7, blk (BV.x B) 118), (c1, blk (BV.c B) 77)] w157 := H)
  refine WL_nil ?_
  refine W_seq ?_
  refine W_region_l ?_
  refine WL_step rfl (R_loadA (vs := BV.c B) Tryz.isAgg77 Tryz.sizeOf77 rfl (H.get (.there .here)) rfl (by simp [BV.c])) ?_
  refine WL_step rfl (R_loadA (vs := BV.x B) Tryz.isAgg118 Tryz.sizeOf118 rfl (H.get .here) rfl (by simp [BV.x])) ?_
  (refine WL_call rfl (R_call rfl Tryz.call76 rfl) (share_ret (hB.keepN H kYs)) ?_; rintro _ w163 ⟨rfl, H1⟩; replace H := H.seq0 H1; clear H1)
  refine WL_step rfl (R_not_t rfl) ?_
  refine WL_stepM rfl (R_mv) ?_
  refine WL_guard_t rfl rfl ?_
  refine WL_step rfl (R_fieldAddr (off' := 4) Tryz.underlying118 rfl Tryz.sizeOf22 (by decide) rfl rfl) ?_
  refine WL_guard_t rfl rfl ?_
  refine WL_step rfl (R_load (v := sl B.tb 0 1 B.tc) Tryz.isAgg22 rfl (H.get .here) rfl) ?_
  refine WL_guard_t rfl rfl ?_
  refine WL_stepM rfl (R_mv) ?_
  refine WL_guard_t rfl rfl ?_
  (refine WL_call rfl (R_call rfl Tryz.call75 rfl) (contains_none (n := 1) (RdS.blk (c := [I 0] ++ B.tl) (off := 0) (H.blockN hB.t kYs) rfl (by simp) hB.tc) (by decide) (H.get (.there .here))) ?_; rintro _ w173 ⟨rfl, H1⟩; replace H := H.seq0 H1; clear H1)
  refine WL_stepM rfl (R_pk_f rfl) ?_
  refine WL_nil ?_
  refine W_cond_f rfl ?_
  refine W_skip ?_
  refine W_region_l ?_
  refine WL_step rfl (R_add (r := 1) rfl rfl (by decide)) ?_
  refine WL_stepM rfl (R_mv) ?_
  refine WL_nil ?_
  refine Rn_succ ?_
  refine W_seq ?_
  refine W_region_l ?_
  refine WL_step rfl (R_lt_f rfl rfl (by omega)) ?_
  refine WL_nil ?_
  refine W_seq ?_
  refine W_cond_f rfl ?_
  refine W_exit ?_
  refine (if_pos rfl).mpr ?_
  refine W_seq ?_
  refine W_region_l ?_
  refine WL_stepM rfl (R_as) ?_
  refine WL_nil ?_
  refine W_ret ?_
  exact ⟨_, rfl, rfl, H.none kYs⟩
end
end Go.Proofs.YtlpmfldijgdcoaaGreatDoor.Ke

/-
  A kernel of one session is made.
-/
namespace Go.Proofs.YtlpmfldijgdcoaaGreatDoor.Ke
open Go Go.Proofs Go.Proofs.YtlpmfldijgdcoaaGreatDoor.Fx Go.Proofs.YtlpmfldijgdcoaaGreatDoor.Kn Go.Proofs.YtlpmfldijgdcoaaGreatDoor.Caps Go.Proofs.YtlpmfldijgdcoaaGreatDoor.TabC
set_option maxRecDepth 100000
set_option linter.unusedVariables false
set_option linter.unusedSimpArgs false
set_option maxHeartbeats 8000000

/-- the cap of a session's commons -/
def pl1 : Pl := ⟨cp 0 3 0 492 0 0, 1, true⟩
def tab1 : List Pl := t0.set 0 pl1
def tsI (i : Nat) : List (List Pl) := List.replicate i tab1 ++ List.replicate (9 - i) t0
theorem tsI_len {i : Nat} (h : i ≤ 9) : (tsI i).length = 9 := by simp [tsI]; omega
theorem tsI_get {i : Nat} (h : i < 9) : (tsI i)[i]? = some t0 := by
  unfold tsI; rw [List.getElem?_append_right (by simp), List.length_replicate, Nat.sub_self, List.getElem?_replicate, if_pos (by omega)]
theorem tsI_set {i : Nat} (h : i < 9) : (tsI i).set i tab1 = tsI (i + 1) := by
  unfold tsI
  rw [List.set_append, if_neg (by simp), List.length_replicate, Nat.sub_self, show 9 - i = (9 - (i + 1)) + 1 from by omega, List.replicate_succ, List.set_cons_zero, List.replicate_succ' (n := i), List.append_assoc]; rfl
theorem tsI_inv {PB : List (Nat × Nat)} (h9 : PB.length = 9) {i : Nat} (h : i ≤ 9) : Inv PB (tsI i) := by
  have h1 : ∀ t ∈ tsI i, t = tab1 ∨ t = t0 := fun t ht => by
    rcases List.mem_append.1 ht with ht | ht
    · exact .inl (List.eq_of_mem_replicate ht)
    · exact .inr (List.eq_of_mem_replicate ht)
  have hg0 : ∀ a ∈ t0, a.g ≤ 1000001 := fun a ha => by rw [List.eq_of_mem_replicate ha]; decide
  refine ⟨by rw [tsI_len h, h9], fun t ht => ?_, fun t ht a ha => ?_⟩
  · rcases h1 t ht with rfl | rfl
    · simp [tab1, t0]
    · simp [t0]
  · rcases h1 t ht with rfl | rfl
    · rcases List.mem_or_eq_of_mem_set ha with h | rfl
      · exact hg0 a h
      · decide
    · exact hg0 a ha

def N0 : Nat := 1280
theorem szN : Mem.szOf 20 = 1280 := by decide
/-- what is told of the blocks that stay as they are -/
structure RF (c1 : Nat) (B : BV) (m mb q : Nat) (uv : Value) (ins : List (Nat × List Int)) (ea : Option Addr) (ec : Nat) (w : World) : Prop where
  c1 : w.heap[c1]? = some (blk B.c 77)
  m : w.heap[m]? = some (blk [sl mb 0 1280 1280] 161)
  mb : w.heap[mb]? = some (blk ((List.replicate 1280 (0 : UInt8)).map U) 5)
  e : RdT 3 w (.slice ea 9 ec) ((List.replicate 9 (0 : Int)).map I)
  q : Quota.Sees w q uv ins
  il : ins.length = 1
def kb0 (ea : Option Addr) (ec m s q : Nat) (mayv rv sv : Value) : List Value := [.slice ea 9 ec, mayv, ptr m 0, ptr s 0, ptr q 0, rv, sv, I 0]
/-- what a kernel of one session is -/
structure Kw (w : World) (κ : KS) (sp : Nat) : Prop where
  kr : Kr w κ
  ks : ∀ e, e < 9 → Ks w κ e 0 sp
  sb : w.heap[sp]? = some (blk (Sect.sxC (Sect.newSx 3) nilS) 170)
  xs : κ.xs = List.replicate 1280 0
  n : κ.N = 1280
  now : κ.now = 0
  wn : ∀ e, e < 9 → Wn κ e 256 0 492
  tb : ∀ e, e < 9 → ∃ q, κ.PB[e]? = some q ∧ κ.ts[e]? = some tab1

theorem qkeys {w0 w : World} {p : Nat} {uv : Value} {ins : List (Nat × List Int)} {Mo : List (Nat × Obj)} (hH : Quota.Has w0 w p uv ins Mo []) (hi : ∀ x ∈ ins, w0.heap.size ≤ x.1) (hp : w0.heap.size ≤ p) :
    ∀ x ∈ Quota.qBlks ins ++ (Mo ++ [(p, blk [uv] 168)]), w0.heap.size ≤ x.1 := by
  intro x hx
  rcases List.mem_append.1 hx with hx | hx
  · obtain ⟨y, hy, rfl⟩ := List.mem_map.1 hx
    exact hi y hy
  · rcases List.mem_append.1 hx with hx | hx
    · exact hH.hO.keys x hx
    · rw [List.mem_singleton] at hx; subst hx; exact hp
theorem qkp {w0 w : World} {p : Nat} {uv : Value} {ins : List (Nat × List Int)} {Mo : List (Nat × Obj)} (hH : Quota.Has w0 w p uv ins Mo []) :
    ∀ w2, Kp (Quota.qBlks ins ++ (Mo ++ [(p, blk [uv] 168)])) w2 → Quota.Sees w2 p uv ins := fun w2 h =>
  ⟨h (p, blk [uv] 168) (by simp), hH.hO.rds fun q hq => h q (by simp [hq]), fun x hx => h (x.1, blk (x.2.map I) 3) (List.mem_append.2 (.inl (List.mem_map.2 ⟨x, hx, rfl⟩))), hH.len, hH.small, hH.bits⟩
theorem rf_of {c1 : Nat} {B : BV} {m mb q B0 : Nat} {uv : Value} {ins : List (Nat × List Int)} {ea : Option Addr} {ec : Nat} {M1 QL : List (Nat × Obj)} (hO : OwnS B0 3 1 (.slice ea 9 ec) 9 ((List.replicate 9 (0 : Int)).map I) M1) (hi : ins.length = 1) (hq : ∀ w2, Kp QL w2 → Quota.Sees w2 q uv ins) {w2 : World}
    (h : Kp (QL ++ ([(m, blk [sl mb 0 1280 1280] 161), (mb, blk (List.replicate 1280 (.int .u8 0)) 5)] ++ (M1 ++ [(c1, blk B.c 77)]))) w2) : RF c1 B m mb q uv ins ea ec w2 := by
  refine ⟨h (c1, _) (by simp), h (m, _) (by simp), ?_, RdT.own hO (fun p hp => h p (by simp [hp])), hq w2 (fun p hp => h p (by simp only [List.mem_append]; exact .inl hp)), hi⟩
  have := h (mb, blk (List.replicate 1280 (.int .u8 0)) 5) (by simp)
  rw [List.map_replicate]; exact this

/-- what more is told of the blocks that stay as they are -/
structure RG (c1 : Nat) (B : BV) (m mb q : Nat) (uv : Value) (ins : List (Nat × List Int)) (ea : Option Addr) (ec : Nat) (ya la : Option Addr) (yc lc : Nat) (w : World) : Prop where
  f : RF c1 B m mb q uv ins ea ec w
  y : RdT 22 w (.slice ya 1 yc) [.slice la 1 lc]
  l : RdT 3 w (.slice la 1 lc) ([0].map I)
theorem perm1 {α : Type} (b r k : α) (Y M S R : List α) : (Y ++ b :: (M ++ r :: k :: (S ++ R))).Perm (b :: r :: k :: (S ++ (Y ++ (M ++ R)))) := by
  refine List.perm_middle.trans (.cons _ ?_)
  refine (List.Perm.append_left Y List.perm_middle).trans (List.perm_middle.trans (.cons _ ?_))
  refine (List.Perm.append_left Y List.perm_middle).trans (List.perm_middle.trans (.cons _ ?_))
  exact (List.Perm.append_left Y (List.perm_append_comm_assoc _ _ _)).trans (List.perm_append_comm_assoc _ _ _)
theorem perm2 {α : Type} (b p r k : α) (Y S R : List α) : (Y ++ b :: p :: r :: k :: (S ++ R)).Perm (b :: p :: r :: k :: (S ++ (Y ++ R))) := by
  refine List.perm_middle.trans (.cons _ (List.perm_middle.trans (.cons _ (List.perm_middle.trans (.cons _ (List.perm_middle.trans (.cons _ ?_)))))))
  exact List.perm_append_comm_assoc _ _ _
theorem kw_of {w0 w : World} {c1 : Nat} {B : BV} {m mb q : Nat} {uv : Value} {ins : List (Nat × List Int)} {ea ya la va : Option Addr} {ec yc lc vc a ca c11 p rr k s bs cap : Nat} {sp ts' : List Value} {PB : List (Nat × Nat)} {R : List (Nat × Obj)} {o11 : Obj}
    (H : Hp w0 ((a, blk ([I 0, I 492] ++ ts') 145) :: (c11, o11) :: (p, blk (Sect.sxC (Sect.newSx 3) nilS) 170) :: (rr, blk [ptr m 0, ptr s 0, sl a 0 1 ca] 142) :: (k, blk (kb0 ea ec m s q (.slice ya 1 yc) (ptr rr 0) (.slice va 1 vc)) 113) :: (spB s bs cap sp PB (tsI 9) ++ R)) w)
    (h9 : PB.length = 9) (hF : RG c1 B m mb q uv ins ea ec ya la yc lc w) (hV : RdT 115 w (.slice va 1 vc) [ptr p 0]) :
    Kw w ⟨k, m, mb, 1280, s, q, rr, a, ca, ea, 9, ec, .slice ya 1 yc, .slice va 1 vc, PB, tsI 9, [(0, 492)], ts', List.replicate 1280 0, 0⟩ p := by
  have hS : Sp w s PB (tsI 9) := Sp.of (bs := bs) (cap := cap) (sp := sp) (fun x hx => H.held x (by simp [hx])) (tsI_inv h9 (Nat.le_refl _))
  have hkb := H.get (.there (.there (.there (.there .here))))
  have htb : ∀ e, e < 9 → (tsI 9)[e]? = some tab1 := fun e he => by unfold tsI; rw [List.getElem?_append_left (by simp; omega), List.getElem?_replicate, if_pos he]
  have hPB : ∀ e, e < 9 → ∃ q, PB[e]? = some q := fun e he => ⟨_, List.getElem?_eq_getElem (by omega)⟩
  refine ⟨⟨hkb, hF.f.m, hF.f.mb, H.get (.there (.there (.there .here))), H.get .here, hS, List.length_replicate, show (1280 : Nat) ≤ 16384 by decide, show (1 : Nat) ≤ 32 by decide, show (9 : Nat) ≤ 40 by decide⟩, fun e he => ?_, H.get (.there (.there .here)), rfl, rfl, rfl, fun e he => ?_, fun e he => ?_⟩
  · exact ⟨hkb, ⟨List.replicate 9 0, [.slice la 1 lc], [0], .slice la 1 lc, [ptr p 0], 0, hF.f.e, by rw [List.getElem?_replicate, if_pos he], hF.y, rfl, hF.l, by simp, hV, rfl, show (1 : Nat) ≤ 100 by decide, show (1 : Nat) ≤ 8 by decide⟩, he, show (9 : Nat) ≤ 40 by decide⟩
  · obtain ⟨q, hq⟩ := hPB e he
    exact ⟨⟨q, tab1, 0, 1, 0, 0, 0, hq, htb e he, rfl, rfl, rfl⟩, show 0 + 492 ≤ (1280 : Nat) by decide, he⟩
  · obtain ⟨q, hq⟩ := hPB e he
    exact ⟨q, hq, htb e he⟩

section
variable {w : World} {B : BV}
theorem knew_ret (hB : Bt w B) : Ret Tryz.prog 24 #[.agg B.c.toArray] w fun v w' => ∃ κ sp, v = .tuple #[ptr κ.k 0, I 0] ∧ Kw w' κ sp ∧ w.heap.size ≤ sp ∧ w.heap.size ≤ κ.mb ∧ Hp w [] w' := by
  refine Ret_of_W (args := [_]) Tryz.func24 rfl Tryz.ntmps24 Tryz.results24 (by simp) ?_
  have H := Hp.refl w
  have hlen : (BV.c B).length = 5 := rfl
  refine W_seq ?_
  refine W_region_l ?_
  (refine WL_effn rfl (E_box (vs := BV.c B) H rfl rfl) ?_; clear H; intro c1 w3 hc1 H)
  refine WL_stepM rfl (R_as) ?_
  refine WL_stepM rfl (R_as) ?_
  refine WL_nil ?_
  refine W_seq ?_
  refine W_seq ?_
  refine W_region_l ?_
  refine WL_step rfl (R_loadA (vs := BV.c B) Tryz.isAgg77 Tryz.sizeOf77 rfl (H.get .here) rfl (by simp [BV.c])) ?_
  (refine WL_call rfl (R_call rfl Tryz.call41 rfl) (check_ret (hB.keepN H kYs)) ?_; rintro _ w11 ⟨rfl, H1⟩; replace H := H.seq0 H1; clear H1)
  refine WL_step rfl (R_not_t rfl) ?_
  refine WL_nil ?_
  refine W_cond_f rfl ?_
  refine W_skip ?_
  refine W_seq ?_
  refine W_region_l ?_
  refine WL_stepM rfl (R_as) ?_
  refine WL_nil ?_
  refine W_seq ?_
  refine W_seq ?_
  refine W_region_l ?_
  refine WL_step rfl (R_fieldAddr (off' := 0) Tryz.underlying77 rfl Tryz.sizeOf22 (by decide) rfl rfl) ?_
  refine WL_step rfl (R_load (v := sl B.fb 0 1 B.fc) Tryz.isAgg22 rfl (H.get .here) rfl) ?_
  refine WL_step rfl (R_len_slice Tryz.underlying22 rfl) ?_
  refine WL_stepM rfl (R_mv) ?_
  refine WL_nil ?_
  refine W_block ?_
  refine W_rounds 1 ?_
  refine W_seq ?_
  refine W_region_l ?_
  refine WL_step rfl (R_lt_t rfl rfl (by omega)) ?_
  refine WL_nil ?_
  refine W_seq ?_
  refine W_cond_t rfl ?_
  refine W_skip ?_
  refine W_seq ?_
  refine W_block ?_
  refine W_seq ?_
  refine W_region_l ?_
  refine WL_step rfl (R_indexAddr (off' := 0) Tryz.underlying22 Tryz.sizeOf3 rfl rfl (by decide) (by decide) (by decide)) ?_
  refine WL_step rfl (R_load (v := I 20) Tryz.isAgg3 rfl (H.blockN hB.f kYs) rfl) ?_
  refine WL_stepM rfl (R_as) ?_
  refine WL_nil ?_
  refine W_region_l ?_
  refine WL_stepM rfl (R_mv) ?_
  refine WL_stepM rfl (R_mv) ?_
  (refine WL_call rfl (R_call rfl Tryz.call42 rfl) (frames_ret 20 _) ?_; rintro v w48 ⟨hv, H1⟩; rw [show min (max (20 : Int) 0) 64 = 20 from by decide] at hv; subst hv; replace H := H.seq0 H1; clear H1)
  refine WL_step rfl (R_add (r := 20) rfl rfl (by decide)) ?_
  refine WL_stepM rfl (R_as) ?_
  refine WL_nil ?_
  refine W_region_l ?_
  refine WL_step rfl (R_add (r := 1) rfl rfl (by decide)) ?_
  refine WL_stepM rfl (R_mv) ?_
  refine WL_nil ?_
  refine Rn_succ ?_
  refine W_seq ?_
  refine W_region_l ?_
  refine WL_step rfl (R_lt_f rfl rfl (by omega)) ?_
  refine WL_nil ?_
  refine W_seq ?_
  refine W_cond_f rfl ?_
  refine W_exit ?_
  refine (if_pos rfl).mpr ?_
  refine W_seqS [(7, 7), (31, 44)] (fun E w' => ∃ k s bs cap sp PB m mb q uv ins ea ec REST, E 7 = ptr k 0 ∧ PB.length = 9 ∧ w.heap.size ≤ k ∧ w.heap.size ≤ s ∧ w.heap.size ≤ bs ∧ w.heap.size ≤ mb ∧ (∀ q ∈ PB, w.heap.size ≤ q.1 ∧ w.heap.size ≤ q.2) ∧ (∀ p ∈ REST, w.heap.size ≤ p.1) ∧ (∀ w2, Kp REST w2 → RF c1 B m mb q uv ins ea ec w2) ∧ Hp w ((k, blk (kb0 ea ec m s q nilS (.pointer none) nilS) 113) :: (spB s bs cap sp PB (List.replicate 9 t0) ++ REST)) w') ?c9 ?k9
  · (refine W_draw (KH w [(c1, blk B.c 77)]) (fun _ => false) (by kernel_rfl) H ?_; clear H; intro w66 H)
    refine WA_take 0 rfl rfl rfl (by kernel_rfl) (by kernel_rfl) (H.kh (by simp) kYs) (fun _ hC => R_fieldAddr (off' := 1) Tryz.underlying77 rfl Tryz.sizeOf22 (by decide) rfl rfl) ?_
    refine WA_take 1 rfl rfl rfl (by kernel_rfl) (by kernel_rfl) (H.kh (by simp) kYs) (fun _ hC => R_load (v := sl B.eb 0 9 B.ec) Tryz.isAgg22 rfl (hC.get .here) rfl) ?_
    refine WA_takeM 3 rfl rfl rfl (by kernel_rfl) (by kernel_rfl) (H.kh (by simp) kYs) (fun _ hC => R_mv) ?_
    refine WA_take 5 rfl rfl rfl (by kernel_rfl) (by kernel_rfl) (H.kh (by simp) kYs) (fun _ hC => R_fieldAddr (off' := 1) Tryz.underlying77 rfl Tryz.sizeOf22 (by decide) rfl rfl) ?_
    refine WA_take 6 rfl rfl rfl (by kernel_rfl) (by kernel_rfl) (H.kh (by simp) kYs) (fun _ hC => R_load (v := sl B.eb 0 9 B.ec) Tryz.isAgg22 rfl (hC.get .here) rfl) ?_
    refine WA_take 7 rfl rfl rfl (by kernel_rfl) (by kernel_rfl) (H.kh (by simp) kYs) (fun _ hC => R_len_slice Tryz.underlying22 rfl) ?_
    refine WA_take 9 rfl rfl rfl (by kernel_rfl) (by kernel_rfl) (H.kh (by simp) kYs) (fun _ hC => R_fieldAddr (off' := 0) Tryz.underlying77 rfl Tryz.sizeOf22 (by decide) rfl rfl) ?_
    refine WA_take 10 rfl rfl rfl (by kernel_rfl) (by kernel_rfl) (H.kh (by simp) kYs) (fun _ hC => R_load (v := sl B.fb 0 1 B.fc) Tryz.isAgg22 rfl (hC.get .here) rfl) ?_
    refine WA_one (i := 2) (by kernel_rfl) ?_
    (refine WI_call rfl (.inl rfl) (R_call rfl Tryz.call43 rfl) (Sect.cloneI_ret (xs := List.replicate 9 0) (RdS.blk (c := List.replicate 9 (I 0) ++ B.el) (off := 0) (H.blockN hB.e kYs) (by simp) (by simp) hB.ec) (by simp)) (by exact fun _ _ ⟨M, hO, H1⟩ _ => ((H.seqO hO H1).2).kh (by simp) (kApp (H.seqO hO H1).1.keys kYs)) ?_; rintro u w76 ⟨M1, hO, H1⟩; have h76 := H.seqO hO H1; clear H H1 hO; obtain ⟨hO1, H⟩ := h76; obtain ⟨ea, ec, rfl⟩ := hO1.form; have hM1 := hO1.keys)
    refine WA_one (i := 4) (by kernel_rfl) ?_
    (refine WI_call rfl (.inl rfl) (R_call rfl Tryz.call44 rfl) (Mem.new_ret 20 _) (by exact fun _ _ ⟨_, _, _, H1, h1, h2⟩ _ => (H.seqN H1 (kCons h1 (kCons h2 kNil))).kh (by simp) (kApp (kCons (Nat.le_trans H.size h1) (kCons (Nat.le_trans H.size h2) kNil)) kYs)) ?_; rintro _ w78 ⟨m, mb, rfl, H1, hm, hmb⟩; have hsz := H.size; replace H := H.seqN H1 (kCons hm (kCons hmb kNil)); replace hm := Nat.le_trans hsz hm; replace hmb := Nat.le_trans hsz hmb; clear H1 hsz; rw [szN] at H)
    refine WA_one (i := 8) (by kernel_rfl) ?_
    (refine WI_call rfl (.inl rfl) (R_call rfl Tryz.call45 rfl) (Caps.new_ret (E := 9) (by decide) (by decide) _) (by exact fun _ _ ⟨_, _, _, _, _, _, _, h1, h2, h3, H1⟩ _ => (H.seqN H1 (spB_keys h1 h2 h3)).kh (by simp) (kApp (fun p hp => Nat.le_trans H.size (spB_keys h1 h2 h3 p hp)) kYs)) ?_; rintro _ w80 ⟨s, bs, cap, sp, PB, rfl, h9, h1, h2, h3, H1⟩; have hsz := H.size; replace H := H.seqN H1 (spB_keys h1 h2 h3); replace h1 := Nat.le_trans hsz h1; replace h2 := Nat.le_trans hsz h2; replace h3 : ∀ q ∈ PB, w.heap.size ≤ q.1 ∧ w.heap.size ≤ q.2 := (fun q hq => ⟨Nat.le_trans hsz (h3 q hq).1, Nat.le_trans hsz (h3 q hq).2⟩); clear H1 hsz; have hHK : ∀ p ∈ spB s bs cap sp PB (List.replicate 9 t0) ++ ([(m, blk [sl mb 0 1280 1280] 161), (mb, blk (List.replicate 1280 (.int .u8 0)) 5)] ++ (M1 ++ [(c1, blk B.c 77)])), w.heap.size ≤ p.1 := kApp (spB_keys (ts := List.replicate 9 t0) (cap := cap) (sp := sp) h1 h2 h3) (kApp (kCons hm (kCons hmb kNil)) (kApp hM1 (kCons hc1 kNil))))
    refine WA_one (i := 11) (by kernel_rfl) ?_
    (refine WI_call rfl (.inl rfl) (R_call rfl Tryz.call46 rfl) (Quota.new_ret (xs := [20]) (RdS.blk (c := [I 20] ++ B.fl) (off := 0) (H.blockN hB.f hHK) rfl (by simp) hB.fc) (by decide) (by decide)) (by rintro _ w2 ⟨q, uv, ins, Mo, _, _, hH, hi, hq⟩ _; exact (H.seqN hH.H (qkeys hH hi hq)).kh (by simp) (kApp (fun p hp => Nat.le_trans H.size (qkeys hH hi hq p hp)) hHK)) ?_; rintro _ w82 ⟨q, uv, ins, Mo, rfl, hil, hH, hi, hq⟩; have hqk := qkeys hH hi hq; have hsz := H.size; have hSee := hH.sees; replace H := H.seqN hH.H hqk; replace hqk : ∀ p ∈ Quota.qBlks ins ++ (Mo ++ [(q, blk [uv] 168)]), w.heap.size ≤ p.1 := (fun p hp => Nat.le_trans hsz (hqk p hp)); replace hHK := kApp hqk hHK; have hkp := qkp hH; have hi1 : ins.length = 1 := (by have := congrArg List.length hil; simpa using this); clear hH hi hq hil hSee hsz)
    refine WA_take 12 rfl rfl rfl (by kernel_rfl) (by kernel_rfl) (H.kh (by simp) hHK) (fun _ hC => R_buildL (places := [(0, 1), (1, 1), (2, 1), (3, 1), (4, 1), (5, 1), (6, 1), (7, 1)]) (vs := kb0 ea ec m s q nilS (.pointer none) nilS) Tryz.underlying113 Tryz.typeInfo113 rfl rfl (by kernel_rfl) rfl rfl rfl) ?_
    refine WA_one (i := 13) (by kernel_rfl) ?_
    (refine WI_effnA rfl (.inl rfl) (E_box (vs := kb0 ea ec m s q nilS (.pointer none) nilS) H rfl rfl) (fun _ _ _ H _ => H.kh (by simp) (kCons (by assumption) hHK)) ?_; clear H; intro k w85 hk H)
    refine WA_takeM 14 rfl rfl rfl (by kernel_rfl) (by kernel_rfl) (H.kh (by simp) (kCons hk hHK)) (fun _ hC => R_as) ?_
    refine WA_done (by kernel_rfl) ?_
    (refine ⟨(same_mov rfl (same_updo rfl (same_updo rfl (same_updo rfl (same_updo rfl (same_updo rfl (same_updo rfl (same_updo rfl (same_updo rfl (same_updo rfl (same_updo rfl (same_updo rfl (same_mov rfl (same_updo rfl (same_updo rfl Same.refl))))))))))))))), k, s, bs, cap, sp, PB, m, mb, q, uv, ins, ea, ec, _, rfl, h9, hk, h1, h2, hmb, h3, ?_, ?_, H.perm (.cons _ (List.perm_append_comm_assoc _ _ _))⟩; (exact kApp hqk kYs); (intro w2 hw2; exact rf_of hO1 hi1 hkp hw2))
  · (clear H; rintro E9 w9 ⟨k, s, bs, cap, sp, PB, m, mb, q, uv, ins, ea, ec, REST, h7, h9, hk, hs, hbs, hmb, hPB, hR, hRF, H⟩; refine W_kn h7 ?_; have hsp : ∀ i, ∀ p ∈ spB s bs cap sp PB (tsI i), w.heap.size ≤ p.1 := (fun i => spB_keys hs hbs hPB); replace H : Hp w ((k, blk (kb0 ea ec m s q nilS (.pointer none) nilS) 113) :: (spB s bs cap sp PB (tsI 0) ++ REST)) w9 := H)
    refine W_seq ?_
    (refine W_draw (fun w2 => w2.heap[k]? = some (blk (kb0 ea ec m s q nilS (.pointer none) nilS) 113)) (fun i => Nat.ble 10 i) (by kernel_rfl) H ?_; clear H; intro w91 H)
    refine WA_takeM 0 rfl rfl rfl (by kernel_rfl) (by kernel_rfl) (H.get .here) (fun _ hC => R_mv) ?_
    refine WA_takeM 1 rfl rfl rfl (by kernel_rfl) (by kernel_rfl) (H.get .here) (fun _ hC => R_mv) ?_
    refine WA_take 2 rfl rfl rfl (by kernel_rfl) (by kernel_rfl) (H.get .here) (fun _ hC => R_nilCheck rfl) ?_
    refine WA_take 3 rfl rfl rfl (by kernel_rfl) (by kernel_rfl) (H.get .here) (fun _ hC => R_fieldAddr (off' := 2) Tryz.underlying113 rfl Tryz.sizeOf105 (by decide) rfl rfl) ?_
    refine WA_take 4 rfl rfl rfl (by kernel_rfl) (by kernel_rfl) (H.get .here) (fun _ hC => R_load (v := ptr m 0) Tryz.isAgg105 rfl hC rfl) ?_
    refine WA_takeM 5 rfl rfl rfl (by kernel_rfl) (by kernel_rfl) (H.get .here) (fun _ hC => R_mv) ?_
    refine WA_take 6 rfl rfl rfl (by kernel_rfl) (by kernel_rfl) (H.get .here) (fun _ hC => R_nilCheck rfl) ?_
    refine WA_take 7 rfl rfl rfl (by kernel_rfl) (by kernel_rfl) (H.get .here) (fun _ hC => R_fieldAddr (off' := 3) Tryz.underlying113 rfl Tryz.sizeOf107 (by decide) rfl rfl) ?_
    refine WA_take 8 rfl rfl rfl (by kernel_rfl) (by kernel_rfl) (H.get .here) (fun _ hC => R_load (v := ptr s 0) Tryz.isAgg107 rfl hC rfl) ?_
    refine WA_one (i := 9) (by kernel_rfl) ?_
    (refine WI_call rfl (.inl rfl) (R_call rfl Tryz.call47 rfl) (Reg.new_ret m s _) (by exact fun _ _ ⟨_, _, h1, H1⟩ _ => (H.seqN H1 (kCons h1 kNil)).get (.there .here)) ?_; rintro _ w102 ⟨rr, rfl, hrr, H1⟩; have hsz := H.size; replace H := H.seqN H1 (kCons hrr kNil); replace hrr := Nat.le_trans hsz hrr; clear H1 hsz)
    refine WA_one (i := 10) (by kernel_rfl) ?_
    refine WI_value rfl (.inl rfl) (R_nilCheck rfl) (by first | exact fun h => absurd h (by decide) | exact fun _ => H | exact fun _ => H.none kYs | exact fun _ => H.dropN kYs | exact fun _ => H.pop (by assumption) | exact fun _ => (H.pop (by assumption)).pop (by assumption) | exact fun _ => H.kp | exact fun _ => H.kp.tail | exact fun _ => H.kp.tail.tail | exact fun _ => H.kp.tail.tail.tail | exact fun _ => H.kp.sub (by simp) | exact fun _ => Kp.nil | exact fun _ => H.kh (by simp) kYs) ?_
    refine WA_one (i := 11) (by kernel_rfl) ?_
    refine WI_value rfl (.inl rfl) (R_fieldAddr (off' := 5) Tryz.underlying113 rfl Tryz.sizeOf87 (by decide) rfl rfl) (by first | exact fun h => absurd h (by decide) | exact fun _ => H | exact fun _ => H.none kYs | exact fun _ => H.dropN kYs | exact fun _ => H.pop (by assumption) | exact fun _ => (H.pop (by assumption)).pop (by assumption) | exact fun _ => H.kp | exact fun _ => H.kp.tail | exact fun _ => H.kp.tail.tail | exact fun _ => H.kp.tail.tail.tail | exact fun _ => H.kp.sub (by simp) | exact fun _ => Kp.nil | exact fun _ => H.kh (by simp) kYs) ?_
    refine WA_one (i := 12) (by kernel_rfl) ?_
    (refine WI_effu rfl (.inl rfl) (E_store (v := ptr rr 0) H Tryz.sizeOf87 rfl rfl rfl (.there .here) (by simp [kb0])) (fun _ _ h => Bool.noConfusion h) ?_; clear H; intro w108 H; replace H : Hp w ((rr, blk [ptr m 0, ptr s 0, nilS] 142) :: (k, blk (kb0 ea ec m s q nilS (ptr rr 0) nilS) 113) :: (spB s bs cap sp PB (tsI 0) ++ REST)) w108 := H)
    refine WA_done (by kernel_rfl) ?_
    refine W_seq ?_
    refine W_seq ?_
    refine W_region_l ?_
    refine WL_step rfl (R_fieldAddr (off' := 2) Tryz.underlying77 rfl Tryz.sizeOf74 (by decide) rfl rfl) ?_
    refine WL_step rfl (R_load (v := sl B.sb 0 1 B.sc) Tryz.isAgg74 rfl (hRF _ (fun p hp => H.held p (by simp [hp]))).c1 rfl) ?_
    refine WL_step rfl (R_len_slice Tryz.underlying74 rfl) ?_
    refine WL_stepM rfl (R_mv) ?_
    refine WL_nil ?_
    refine W_block ?_
    refine W_rounds 1 ?_
    refine W_seq ?_
    refine W_region_l ?_
    refine WL_step rfl (R_lt_t rfl rfl (by omega)) ?_
    refine WL_nil ?_
    refine W_seq ?_
    refine W_cond_t rfl ?_
    refine W_skip ?_
    refine W_seq ?_
    refine W_block ?_
    refine W_seq ?_
    refine W_region_l ?_
    refine WL_step rfl (R_indexAddr (off' := 0) Tryz.underlying74 Tryz.sizeOf22 rfl rfl (by decide) (by decide) (by decide)) ?_
    refine WL_step rfl (R_load (v := sl B.lb 0 1 B.lc) Tryz.isAgg22 rfl (H.blockN hB.s (kCons hrr (kCons hk (kApp (hsp 0) hR)))) rfl) ?_
    refine WL_stepM rfl (R_as) ?_
    refine WL_nil ?_
    refine W_seq ?_
    (refine W_draw (fun w2 => w2.heap[k]? = some (blk (kb0 ea ec m s q nilS (ptr rr 0) nilS) 113)) (fun i => Nat.ble 9 i) (by kernel_rfl) H ?_; clear H; intro w136 H)
    refine WA_takeM 0 rfl rfl rfl (by kernel_rfl) (by kernel_rfl) (H.get (.there .here)) (fun _ hC => R_mv) ?_
    refine WA_takeM 1 rfl rfl rfl (by kernel_rfl) (by kernel_rfl) (H.get (.there .here)) (fun _ hC => R_mv) ?_
    refine WA_take 2 rfl rfl rfl (by kernel_rfl) (by kernel_rfl) (H.get (.there .here)) (fun _ hC => R_nilCheck rfl) ?_
    refine WA_take 3 rfl rfl rfl (by kernel_rfl) (by kernel_rfl) (H.get (.there .here)) (fun _ hC => R_fieldAddr (off' := 1) Tryz.underlying113 rfl Tryz.sizeOf74 (by decide) rfl rfl) ?_
    refine WA_take 4 rfl rfl rfl (by kernel_rfl) (by kernel_rfl) (H.get (.there .here)) (fun _ hC => R_load (v := nilS) Tryz.isAgg74 rfl hC rfl) ?_
    refine WA_takeM 5 rfl rfl rfl (by kernel_rfl) (by kernel_rfl) (H.get (.there .here)) (fun _ hC => R_mv) ?_
    refine WA_one (i := 6) (by kernel_rfl) ?_
    (refine WI_call rfl (.inl rfl) (R_call rfl Tryz.call43 rfl) (Sect.cloneI_ret (xs := [0]) (RdS.blk (c := [I 0] ++ B.ll) (off := 0) (H.blockN hB.l (kCons hrr (kCons hk (kApp (hsp 0) hR)))) rfl (by simp) hB.lc) (by decide)) (by exact fun _ _ ⟨M, hO, H1⟩ _ => (H.seqO hO H1).2.get (.app _ (.there .here))) ?_; rintro u w144 ⟨M3, hO, H1⟩; have h144 := H.seqO hO H1; clear H H1 hO; obtain ⟨hO3, H⟩ := h144; obtain ⟨la, lc, rfl⟩ := hO3.form; have hM3 := hO3.keys)
    refine WA_one (i := 7) (by kernel_rfl) ?_
    (refine WI_effnA rfl (.inl rfl) (E_buildOnes (vs := [.slice la 1 lc]) H Tryz.underlying74 Tryz.sizeOf22 Tryz.zeroValue22 rfl rfl (by decide) rfl rfl (by simp [Value.oneCell'])) (fun _ _ _ H _ => H.get (.there (.app _ (.there .here)))) ?_; clear H; intro b71 w146 hb71 H)
    refine WA_one (i := 8) (by kernel_rfl) ?_
    (refine WI_effmA rfl (.inl rfl) (E_append (news := [.slice la 1 lc]) (m := 1) H (AtM.here (M := []) (B := _)) (OwnS.nil _ _ _) Tryz.underlying74 Tryz.typeInfo22 rfl rfl rfl rfl rfl rfl (src_one Tryz.underlying74 (H.get .here) rfl) (by decide) (by simp only [Tryz.t22]; decide)) (fun _ _ _ _ H _ => H.get (.app _ (.there (.app _ (.there .here))))) ?_; clear H; intro mayv MY w148 hOY H; obtain ⟨ya, yc, rfl⟩ := hOY.form; have hMY := hOY.keys)
    refine WA_one (i := 9) (by kernel_rfl) ?_
    refine WI_value rfl (.inl rfl) (R_nilCheck rfl) (by first | exact fun h => absurd h (by decide) | exact fun _ => H | exact fun _ => H.none kYs | exact fun _ => H.dropN kYs | exact fun _ => H.pop (by assumption) | exact fun _ => (H.pop (by assumption)).pop (by assumption) | exact fun _ => H.kp | exact fun _ => H.kp.tail | exact fun _ => H.kp.tail.tail | exact fun _ => H.kp.tail.tail.tail | exact fun _ => H.kp.sub (by simp) | exact fun _ => Kp.nil | exact fun _ => H.kh (by simp) kYs) ?_
    refine WA_one (i := 10) (by kernel_rfl) ?_
    refine WI_value rfl (.inl rfl) (R_fieldAddr (off' := 1) Tryz.underlying113 rfl Tryz.sizeOf74 (by decide) rfl rfl) (by first | exact fun h => absurd h (by decide) | exact fun _ => H | exact fun _ => H.none kYs | exact fun _ => H.dropN kYs | exact fun _ => H.pop (by assumption) | exact fun _ => (H.pop (by assumption)).pop (by assumption) | exact fun _ => H.kp | exact fun _ => H.kp.tail | exact fun _ => H.kp.tail.tail | exact fun _ => H.kp.tail.tail.tail | exact fun _ => H.kp.sub (by simp) | exact fun _ => Kp.nil | exact fun _ => H.kh (by simp) kYs) ?_
    refine WA_one (i := 11) (by kernel_rfl) ?_
    (refine WI_effu rfl (.inl rfl) (E_store (v := .slice ya 1 yc) H Tryz.sizeOf74 rfl rfl rfl (.app _ (.there (.app _ (.there .here)))) (by simp [kb0])) (fun _ _ h => Bool.noConfusion h) ?_; clear H; intro w154 H; obtain ⟨R2, hR2, hF2, H⟩ : ∃ R2, (∀ p ∈ R2, w.heap.size ≤ p.1) ∧ (∀ w2, Kp R2 w2 → RG c1 B m mb q uv ins ea ec ya la yc lc w2) ∧ Hp w ((rr, blk [ptr m 0, ptr s 0, nilS] 142) :: (k, blk (kb0 ea ec m s q (.slice ya 1 yc) (ptr rr 0) nilS) 113) :: (spB s bs cap sp PB (tsI 0) ++ R2)) w154 := ⟨MY ++ (M3 ++ REST), kApp hMY (kApp hM3 hR), fun w2 h => ⟨hRF w2 (fun p hp => h p (by simp [hp])), RdT.own hOY (fun p hp => h p (by simp [hp])), RdT.own hO3 (fun p hp => h p (by simp [hp]))⟩, (H.perm (perm1 _ _ _ _ _ _ _)).pop hb71⟩)
    refine WA_done (by kernel_rfl) ?_
    (refine W_draw (fun w2 => w2.heap[k]? = some (blk (kb0 ea ec m s q (.slice ya 1 yc) (ptr rr 0) nilS) 113) ∧ w2.heap[c1]? = some (blk B.c 77)) (fun i => Nat.ble 10 i) (by kernel_rfl) H ?_; clear H; intro w156 H)
    refine WA_takeM 0 rfl rfl rfl (by kernel_rfl) (by kernel_rfl) ⟨H.get (.there .here), (hF2 _ (fun p hp => H.held p (by simp [hp]))).f.c1⟩ (fun _ hC => R_mv) ?_
    refine WA_takeM 1 rfl rfl rfl (by kernel_rfl) (by kernel_rfl) ⟨H.get (.there .here), (hF2 _ (fun p hp => H.held p (by simp [hp]))).f.c1⟩ (fun _ hC => R_mv) ?_
    refine WA_take 2 rfl rfl rfl (by kernel_rfl) (by kernel_rfl) ⟨H.get (.there .here), (hF2 _ (fun p hp => H.held p (by simp [hp]))).f.c1⟩ (fun _ hC => R_nilCheck rfl) ?_
    refine WA_take 3 rfl rfl rfl (by kernel_rfl) (by kernel_rfl) ⟨H.get (.there .here), (hF2 _ (fun p hp => H.held p (by simp [hp]))).f.c1⟩ (fun _ hC => R_fieldAddr (off' := 6) Tryz.underlying113 rfl Tryz.sizeOf111 (by decide) rfl rfl) ?_
    refine WA_take 4 rfl rfl rfl (by kernel_rfl) (by kernel_rfl) ⟨H.get (.there .here), (hF2 _ (fun p hp => H.held p (by simp [hp]))).f.c1⟩ (fun _ hC => R_load (v := nilS) Tryz.isAgg111 rfl hC.1 rfl) ?_
    refine WA_take 5 rfl rfl rfl (by kernel_rfl) (by kernel_rfl) ⟨H.get (.there .here), (hF2 _ (fun p hp => H.held p (by simp [hp]))).f.c1⟩ (fun _ hC => R_fieldAddr (off' := 3) Tryz.underlying77 rfl Tryz.sizeOf3 (by decide) rfl rfl) ?_
    refine WA_take 6 rfl rfl rfl (by kernel_rfl) (by kernel_rfl) ⟨H.get (.there .here), (hF2 _ (fun p hp => H.held p (by simp [hp]))).f.c1⟩ (fun _ hC => R_load (v := I 3) Tryz.isAgg3 rfl hC.2 rfl) ?_
    refine WA_one (i := 7) (by kernel_rfl) ?_
    (refine WI_call rfl (.inl rfl) (R_call rfl Tryz.call48 rfl) (Sect.new_ret 3 _) (by rintro _ w2 ⟨_, _, h1, H1⟩ _; have H := H.seqN H1 (kCons h1 kNil); exact ⟨H.get (.there (.there .here)), (hF2 _ (fun p hp => H.held p (by simp [hp]))).f.c1⟩) ?_; rintro _ w165 ⟨p, rfl, hp, H1⟩; have hsz := H.size; replace H := H.seqN H1 (kCons hp kNil); replace hp := Nat.le_trans hsz hp; clear H1 hsz)
    refine WA_one (i := 8) (by kernel_rfl) ?_
    (refine WI_effnA rfl (.inl rfl) (E_buildOnes (vs := [ptr p 0]) H Tryz.underlying111 Tryz.sizeOf115 Tryz.zeroValue115 rfl rfl (by decide) rfl rfl (by simp [Value.oneCell'])) (fun _ _ _ H _ => ⟨H.get (.there (.there (.there .here))), (hF2 _ (fun p hp => H.held p (by simp [hp]))).f.c1⟩) ?_; clear H; intro b83 w167 hb83 H)
    refine WA_one (i := 9) (by kernel_rfl) ?_
    (refine WI_effmA rfl (.inl rfl) (E_append (news := [ptr p 0]) (m := 1) H (AtM.here (M := []) (B := _)) (OwnS.nil _ _ _) Tryz.underlying111 Tryz.typeInfo115 rfl rfl rfl rfl rfl rfl (src_one Tryz.underlying111 (H.get .here) rfl) (by decide) (by simp only [Tryz.t115]; decide)) (fun _ _ _ _ H _ => ⟨H.get (.app _ (.there (.there (.there .here)))), (hF2 _ (fun p hp => H.held p (by simp [hp]))).f.c1⟩) ?_; clear H; intro sv SV w169 hOV H; obtain ⟨va, vc, rfl⟩ := hOV.form; have hSV := hOV.keys)
    refine WA_one (i := 10) (by kernel_rfl) ?_
    refine WI_value rfl (.inl rfl) (R_nilCheck rfl) (by first | exact fun h => absurd h (by decide) | exact fun _ => H | exact fun _ => H.none kYs | exact fun _ => H.dropN kYs | exact fun _ => H.pop (by assumption) | exact fun _ => (H.pop (by assumption)).pop (by assumption) | exact fun _ => H.kp | exact fun _ => H.kp.tail | exact fun _ => H.kp.tail.tail | exact fun _ => H.kp.tail.tail.tail | exact fun _ => H.kp.sub (by simp) | exact fun _ => Kp.nil | exact fun _ => H.kh (by simp) kYs) ?_
    refine WA_one (i := 11) (by kernel_rfl) ?_
    refine WI_value rfl (.inl rfl) (R_fieldAddr (off' := 6) Tryz.underlying113 rfl Tryz.sizeOf111 (by decide) rfl rfl) (by first | exact fun h => absurd h (by decide) | exact fun _ => H | exact fun _ => H.none kYs | exact fun _ => H.dropN kYs | exact fun _ => H.pop (by assumption) | exact fun _ => (H.pop (by assumption)).pop (by assumption) | exact fun _ => H.kp | exact fun _ => H.kp.tail | exact fun _ => H.kp.tail.tail | exact fun _ => H.kp.tail.tail.tail | exact fun _ => H.kp.sub (by simp) | exact fun _ => Kp.nil | exact fun _ => H.kh (by simp) kYs) ?_
    refine WA_one (i := 12) (by kernel_rfl) ?_
    (refine WI_effu rfl (.inl rfl) (E_store (v := .slice va 1 vc) H Tryz.sizeOf111 rfl rfl rfl (.app _ (.there (.there (.there .here)))) (by simp [kb0])) (fun _ _ h => Bool.noConfusion h) ?_; clear H; intro w175 H; obtain ⟨R3, hR3, hF3, H⟩ : ∃ R3, (∀ p ∈ R3, w.heap.size ≤ p.1) ∧ (∀ w2, Kp R3 w2 → RG c1 B m mb q uv ins ea ec ya la yc lc w2 ∧ RdT 115 w2 (.slice va 1 vc) [ptr p 0]) ∧ Hp w ((p, blk (Sect.sxC (Sect.newSx 3) nilS) 170) :: (rr, blk [ptr m 0, ptr s 0, nilS] 142) :: (k, blk (kb0 ea ec m s q (.slice ya 1 yc) (ptr rr 0) (.slice va 1 vc)) 113) :: (spB s bs cap sp PB (tsI 0) ++ R3)) w175 := ⟨SV ++ R2, kApp hSV hR2, fun w2 h => ⟨hF2 w2 (fun p hp => h p (by simp [hp])), RdT.own hOV (fun p hp => h p (by simp [hp]))⟩, (H.perm (perm2 _ _ _ _ _ _ _)).pop hb83⟩)
    refine WA_done (by kernel_rfl) ?_
    refine W_region_l ?_
    refine WL_step rfl (R_add (r := 1) rfl rfl (by decide)) ?_
    refine WL_stepM rfl (R_mv) ?_
    refine WL_nil ?_
    refine Rn_succ ?_
    refine W_seq ?_
    refine W_region_l ?_
    refine WL_step rfl (R_lt_f rfl rfl (by omega)) ?_
    refine WL_nil ?_
    refine W_seq ?_
    refine W_cond_f rfl ?_
    refine W_exit ?_
    refine (if_pos rfl).mpr ?_
    refine W_seq ?_
    refine W_seq ?_
    refine W_region_l ?_
    refine WL_step rfl (R_fieldAddr (off' := 4) Tryz.underlying77 rfl Tryz.sizeOf75 (by decide) rfl rfl) ?_
    refine WL_step rfl (R_load (v := sl B.hb 0 1 B.hc) Tryz.isAgg75 rfl (hF3 _ (fun p hp => H.held p (by simp [hp]))).1.f.c1 rfl) ?_
    refine WL_step rfl (R_len_slice Tryz.underlying75 rfl) ?_
    refine WL_stepM rfl (R_mv) ?_
    refine WL_nil ?_
    refine W_block ?_
    refine W_rounds 1 ?_
    refine W_seq ?_
    refine W_region_l ?_
    refine WL_step rfl (R_lt_t rfl rfl (by omega)) ?_
    refine WL_nil ?_
    refine W_seq ?_
    refine W_cond_t rfl ?_
    refine W_skip ?_
    refine W_seq ?_
    refine W_block ?_
    refine W_seq ?_
    refine W_region_l ?_
    refine WL_step rfl (R_indexAddr (off' := 0) Tryz.underlying75 Tryz.sizeOf118 rfl rfl (by decide) (by decide) (by decide)) ?_
    refine WL_step rfl (R_loadA (vs := BV.x B) Tryz.isAgg118 Tryz.sizeOf118 rfl (H.blockN hB.h (kCons hp (kCons hrr (kCons hk (kApp (hsp 0) hR3))))) rfl (by simp [BV.x])) ?_
    (refine WL_effn rfl (E_alloc (vs := [I 0, I 0, I 0, I 0, nilS]) H Tryz.zeroValue118 rfl) ?_; clear H; intro c11 w213 hc11 H)
    (refine WL_effu rfl (E_storeA (vs := BV.x B) H Tryz.sizeOf118 rfl rfl (by simp [BV.x, Value.oneCell']) .here (by simp [BV.x])) ?_; clear H; intro w214 H; replace H : Hp w ((c11, blk (BV.x B) 118) :: (p, blk (Sect.sxC (Sect.newSx 3) nilS) 170) :: (rr, blk [ptr m 0, ptr s 0, nilS] 142) :: (k, blk (kb0 ea ec m s q (.slice ya 1 yc) (ptr rr 0) (.slice va 1 vc)) 113) :: (spB s bs cap sp PB (tsI 0) ++ R3)) w214 := H)
    refine WL_nil ?_
    refine W_seq ?_
    (refine W_draw (fun w2 => w2.heap[k]? = some (blk (kb0 ea ec m s q (.slice ya 1 yc) (ptr rr 0) (.slice va 1 vc)) 113) ∧ w2.heap[c11]? = some (blk (BV.x B) 118)) (fun _ => false) (by kernel_rfl) H ?_; clear H; intro w217 H)
    refine WA_takeM 0 rfl rfl rfl (by kernel_rfl) (by kernel_rfl) ⟨H.get (.there (.there (.there .here))), H.get .here⟩ (fun _ hC => R_mv) ?_
    refine WA_take 1 rfl rfl rfl (by kernel_rfl) (by kernel_rfl) ⟨H.get (.there (.there (.there .here))), H.get .here⟩ (fun _ hC => R_nilCheck rfl) ?_
    refine WA_take 2 rfl rfl rfl (by kernel_rfl) (by kernel_rfl) ⟨H.get (.there (.there (.there .here))), H.get .here⟩ (fun _ hC => R_fieldAddr (off' := 5) Tryz.underlying113 rfl Tryz.sizeOf87 (by decide) rfl rfl) ?_
    refine WA_take 3 rfl rfl rfl (by kernel_rfl) (by kernel_rfl) ⟨H.get (.there (.there (.there .here))), H.get .here⟩ (fun _ hC => R_load (v := ptr rr 0) Tryz.isAgg87 rfl hC.1 rfl) ?_
    refine WA_takeM 4 rfl rfl rfl (by kernel_rfl) (by kernel_rfl) ⟨H.get (.there (.there (.there .here))), H.get .here⟩ (fun _ hC => R_mv) ?_
    refine WA_take 5 rfl rfl rfl (by kernel_rfl) (by kernel_rfl) ⟨H.get (.there (.there (.there .here))), H.get .here⟩ (fun _ hC => R_nilCheck rfl) ?_
    refine WA_take 6 rfl rfl rfl (by kernel_rfl) (by kernel_rfl) ⟨H.get (.there (.there (.there .here))), H.get .here⟩ (fun _ hC => R_fieldAddr (off' := 4) Tryz.underlying113 rfl Tryz.sizeOf109 (by decide) rfl rfl) ?_
    refine WA_take 7 rfl rfl rfl (by kernel_rfl) (by kernel_rfl) ⟨H.get (.there (.there (.there .here))), H.get .here⟩ (fun _ hC => R_load (v := ptr q 0) Tryz.isAgg109 rfl hC.1 rfl) ?_
    refine WA_take 8 rfl rfl rfl (by kernel_rfl) (by kernel_rfl) ⟨H.get (.there (.there (.there .here))), H.get .here⟩ (fun _ hC => R_fieldAddr (off' := 0) Tryz.underlying118 rfl Tryz.sizeOf3 (by decide) rfl rfl) ?_
    refine WA_take 9 rfl rfl rfl (by kernel_rfl) (by kernel_rfl) ⟨H.get (.there (.there (.there .here))), H.get .here⟩ (fun _ hC => R_load (v := I 0) Tryz.isAgg3 rfl hC.2 rfl) ?_
    refine WA_take 11 rfl rfl rfl (by kernel_rfl) (by kernel_rfl) ⟨H.get (.there (.there (.there .here))), H.get .here⟩ (fun _ hC => R_fieldAddr (off' := 1) Tryz.underlying118 rfl Tryz.sizeOf3 (by decide) rfl rfl) ?_
    refine WA_take 12 rfl rfl rfl (by kernel_rfl) (by kernel_rfl) ⟨H.get (.there (.there (.there .here))), H.get .here⟩ (fun _ hC => R_load (v := I 0) Tryz.isAgg3 rfl hC.2 rfl) ?_
    refine WA_take 15 rfl rfl rfl (by kernel_rfl) (by kernel_rfl) ⟨H.get (.there (.there (.there .here))), H.get .here⟩ (fun _ hC => R_fieldAddr (off' := 2) Tryz.underlying118 rfl Tryz.sizeOf3 (by decide) rfl rfl) ?_
    refine WA_take 16 rfl rfl rfl (by kernel_rfl) (by kernel_rfl) ⟨H.get (.there (.there (.there .here))), H.get .here⟩ (fun _ hC => R_load (v := I 0) Tryz.isAgg3 rfl hC.2 rfl) ?_
    refine WA_take 18 rfl rfl rfl (by kernel_rfl) (by kernel_rfl) ⟨H.get (.there (.there (.there .here))), H.get .here⟩ (fun _ hC => R_fieldAddr (off' := 3) Tryz.underlying118 rfl Tryz.sizeOf3 (by decide) rfl rfl) ?_
    refine WA_take 19 rfl rfl rfl (by kernel_rfl) (by kernel_rfl) ⟨H.get (.there (.there (.there .here))), H.get .here⟩ (fun _ hC => R_load (v := I 492) Tryz.isAgg3 rfl hC.2 rfl) ?_
    refine WA_one (i := 10) (by kernel_rfl) ?_
    (refine WI_call rfl (.inl rfl) (R_call rfl Tryz.call50 rfl) (Quota.first_ret 0 (hF3 _ (fun p hp => H.held p (by simp [hp]))).1.f.q (by rw [(hF3 _ (fun p hp => H.held p (by simp [hp]))).1.f.il]; decide)) (by rintro _ w2 ⟨_, H1⟩ _; have H := H.seq0 H1; exact ⟨H.get (.there (.there (.there .here))), H.get .here⟩) ?_; rintro v w235 ⟨hv, H1⟩; have e0 : I ((Quota.firstQ ins 0 : Nat) : Int) = I 0 := rfl; rw [e0] at hv; subst hv; replace H := H.seq0 H1; clear H1)
    refine WA_take 13 rfl rfl rfl (by kernel_rfl) (by kernel_rfl) ⟨H.get (.there (.there (.there .here))), H.get .here⟩ (fun _ hC => R_add (r := 0) rfl rfl (by decide)) ?_
    refine WA_take 14 rfl rfl rfl (by kernel_rfl) (by kernel_rfl) ⟨H.get (.there (.there (.there .here))), H.get .here⟩ (fun _ hC => R_mul (r := 0) rfl rfl (by decide)) ?_
    refine WA_take 17 rfl rfl rfl (by kernel_rfl) (by kernel_rfl) ⟨H.get (.there (.there (.there .here))), H.get .here⟩ (fun _ hC => R_add (r := 0) rfl rfl (by decide)) ?_
    refine WA_one (i := 20) (by kernel_rfl) ?_
    (refine WI_call rfl (.inl rfl) (R_call rfl Tryz.call49 rfl) (Reg.add_ret (xs := List.replicate 1280 0) (lo := 0) (n := 492) (H.get (.there (.there .here))) (hF3 _ (fun p hp => H.held p (by simp [hp]))).1.f.m List.length_replicate (by decide) (by decide) (by decide) (by decide)) (by rintro _ w2 ⟨_, _, _, _, h1, H1⟩ _; have H := H.seq H1 (okSeq_set (.there (.there .here)) (okSeq_new h1 okSeq_nil)); exact ⟨H.get (.there (.there (.there (.there .here)))), H.get (.there .here)⟩) ?_; rintro _ w240 ⟨a, ca, ts', rfl, ha, H1⟩; have hsz := H.size; replace H := H.seq H1 (okSeq_set (.there (.there .here)) (okSeq_new ha okSeq_nil)); replace ha := Nat.le_trans hsz ha; clear H1 hsz)
    refine WA_takeM 21 rfl rfl rfl (by kernel_rfl) (by kernel_rfl) ⟨H.get (.there (.there (.there (.there .here)))), H.get (.there .here)⟩ (fun _ hC => R_mv) ?_
    refine WA_take 22 rfl rfl rfl (by kernel_rfl) (by kernel_rfl) ⟨H.get (.there (.there (.there (.there .here)))), H.get (.there .here)⟩ (fun _ hC => R_extract rfl rfl) ?_
    refine WA_take 23 rfl rfl rfl (by kernel_rfl) (by kernel_rfl) ⟨H.get (.there (.there (.there (.there .here)))), H.get (.there .here)⟩ (fun _ hC => R_extract rfl rfl) ?_
    refine WA_takeM 24 rfl rfl rfl (by kernel_rfl) (by kernel_rfl) ⟨H.get (.there (.there (.there (.there .here)))), H.get (.there .here)⟩ (fun _ hC => R_as) ?_
    refine WA_takeM 25 rfl rfl rfl (by kernel_rfl) (by kernel_rfl) ⟨H.get (.there (.there (.there (.there .here)))), H.get (.there .here)⟩ (fun _ hC => R_as) ?_
    refine WA_done (by kernel_rfl) ?_
    refine W_seq ?_
    refine W_region_l ?_
    refine WL_stepM rfl (R_mv) ?_
    refine WL_step rfl (R_nilCheck rfl) ?_
    refine WL_step rfl (R_fieldAddr (off' := 0) Tryz.underlying113 rfl Tryz.sizeOf22 (by decide) rfl rfl) ?_
    refine WL_step rfl (R_load Tryz.isAgg22 rfl (H.get (.there (.there (.there (.there .here))))) rfl) ?_
    refine WL_step rfl (R_len_slice Tryz.underlying22 rfl) ?_
    refine WL_stepM rfl (R_mv) ?_
    refine WL_nil ?_
    refine W_block ?_
    refine W_loopS [(14, 15), (124, 143)] (fun (i : Nat) E w' => i ≤ 9 ∧ E 124 = I i ∧ Hp w ((a, blk ([I 0, I 492] ++ ts') 145) :: (c11, blk (BV.x B) 118) :: (p, blk (Sect.sxC (Sect.newSx 3) nilS) 170) :: (rr, blk [ptr m 0, ptr s 0, sl a 0 1 ca] 142) :: (k, blk (kb0 ea ec m s q (.slice ya 1 yc) (ptr rr 0) (.slice va 1 vc)) 113) :: (spB s bs cap sp PB (tsI i) ++ R3)) w') (fun i => 9 - i) 0 ?e6 ?r6
    · exact ⟨by omega, rfl, H⟩
    · (clear H; rintro i E w1 ⟨hi, h124, H⟩; refine W_kn h124 ?_)
      refine W_seq ?_
      refine W_region_l ?_
      refine WL_step rfl (R_lt rfl rfl) ?_
      refine WL_nil ?_
      refine W_seq ?_
      refine W_if rfl (fun h264 => ?_) (fun h264 => ?_)
      · refine W_skip ?_
        refine W_seq ?_
        refine W_block ?_
        refine W_seq ?_
        ((obtain ⟨q', hq'⟩ : ∃ q', PB[i]? = some q' := ⟨_, List.getElem?_eq_getElem (by omega)⟩; have ht' := tsI_get (i := i) (by omega); obtain ⟨eb, eo, hea, hcell⟩ := (hF3 _ (fun p hp => H.held p (by simp [hp]))).1.f.e.rd.cell (i := i) (u := I 0) (by rw [List.getElem?_map, List.getElem?_replicate, if_pos (by omega)]; rfl); subst hea)) <;> refine W_region_l ?_
        refine WL_stepM rfl (R_mv) ?_
        refine WL_step rfl (R_indexAddr (off' := eo + i) Tryz.underlying22 Tryz.sizeOf3 rfl rfl (by omega) (by omega) (by omega)) ?_
        refine WL_step rfl (R_load_cell Tryz.isAgg3 rfl hcell) ?_
        refine WL_stepM rfl (R_as) ?_
        refine WL_stepM rfl (R_as) ?_
        refine WL_nil ?_
        refine W_seq ?_
        refine W_region_l ?_
        refine WL_step rfl (R_fieldAddr (off' := 4) Tryz.underlying118 rfl Tryz.sizeOf22 (by decide) rfl rfl) ?_
        refine WL_step rfl (R_load (v := sl B.tb 0 1 B.tc) Tryz.isAgg22 rfl (H.get (.there .here)) rfl) ?_
        refine WL_stepM rfl (R_mv) ?_
        (refine WL_call rfl (R_call rfl Tryz.call51 rfl) (Sect.contains_ret (xs := [0]) 0 (RdS.blk (c := [I 0] ++ B.tl) (off := 0) (H.blockN hB.t (kCons ha (kCons hc11 (kCons hp (kCons hrr (kCons hk (kApp (hsp _) hR3))))))) rfl (by simp) hB.tc) (by decide)) ?_; rintro v w281 ⟨hv, H1⟩; rw [decide_eq_true (show (0 : Int) ∈ [0] by simp)] at hv; subst hv; replace H := H.seq0 H1; clear H1)
        refine WL_nil ?_
        refine W_cond_t rfl ?_
        (refine W_draw (fun w2 => w2.heap[k]? = some (blk (kb0 (some ⟨eb, eo, none⟩) ec m s q (.slice ya 1 yc) (ptr rr 0) (.slice va 1 vc)) 113) ∧ w2.heap[c11]? = some (blk (BV.x B) 118)) (fun _ => false) (by kernel_rfl) H ?_; clear H; intro w284 H)
        refine WA_takeM 0 rfl rfl rfl (by kernel_rfl) (by kernel_rfl) ⟨H.get (.there (.there (.there (.there .here)))), H.get (.there .here)⟩ (fun _ hC => R_mv) ?_
        refine WA_take 1 rfl rfl rfl (by kernel_rfl) (by kernel_rfl) ⟨H.get (.there (.there (.there (.there .here)))), H.get (.there .here)⟩ (fun _ hC => R_nilCheck rfl) ?_
        refine WA_take 2 rfl rfl rfl (by kernel_rfl) (by kernel_rfl) ⟨H.get (.there (.there (.there (.there .here)))), H.get (.there .here)⟩ (fun _ hC => R_fieldAddr (off' := 3) Tryz.underlying113 rfl Tryz.sizeOf107 (by decide) rfl rfl) ?_
        refine WA_take 3 rfl rfl rfl (by kernel_rfl) (by kernel_rfl) ⟨H.get (.there (.there (.there (.there .here)))), H.get (.there .here)⟩ (fun _ hC => R_load (v := ptr s 0) Tryz.isAgg107 rfl hC.1 rfl) ?_
        refine WA_takeM 4 rfl rfl rfl (by kernel_rfl) (by kernel_rfl) ⟨H.get (.there (.there (.there (.there .here)))), H.get (.there .here)⟩ (fun _ hC => R_mv) ?_
        refine WA_takeM 5 rfl rfl rfl (by kernel_rfl) (by kernel_rfl) ⟨H.get (.there (.there (.there (.there .here)))), H.get (.there .here)⟩ (fun _ hC => R_mv) ?_
        refine WA_take 6 rfl rfl rfl (by kernel_rfl) (by kernel_rfl) ⟨H.get (.there (.there (.there (.there .here)))), H.get (.there .here)⟩ (fun _ hC => R_fieldAddr (off' := 3) Tryz.underlying118 rfl Tryz.sizeOf3 (by decide) rfl rfl) ?_
        refine WA_take 7 rfl rfl rfl (by kernel_rfl) (by kernel_rfl) ⟨H.get (.there (.there (.there (.there .here)))), H.get (.there .here)⟩ (fun _ hC => R_load (v := I 492) Tryz.isAgg3 rfl hC.2 rfl) ?_
        refine WA_take 8 rfl rfl rfl (by kernel_rfl) (by kernel_rfl) ⟨H.get (.there (.there (.there (.there .here)))), H.get (.there .here)⟩ (fun _ hC => R_buildL (places := [(0, 1), (1, 1), (2, 1), (3, 1), (4, 2)]) (vs := (cp 0 3 0 492 0 0).c) Tryz.underlying125 Tryz.typeInfo125 rfl rfl (by kernel_rfl) rfl rfl rfl) ?_
        refine WA_one (i := 9) (by kernel_rfl) ?_
        (refine WI_call rfl (.inl rfl) (R_call rfl Tryz.call52 rfl) (put_yes (j := i) (i := 0) (r := 3) (a := newPl) (Sp.of (bs := bs) (cap := cap) (sp := sp) (fun p hp => H.held p (by simp [hp])) (tsI_inv h9 (by omega))) hq' ht' (by decide) (by decide) (by decide) rfl ⟨rfl, by decide⟩ (fun k a' hk => absurd hk (by omega))) (by rintro _ w2 ⟨_, H1⟩ _; have H := seqSp (A := [_, _, _, _, _]) H hq' ht' H1; exact ⟨H.get (.there (.there (.there (.there .here)))), H.get (.there .here)⟩) ?_; rintro _ w295 ⟨rfl, H1⟩; have H9 := seqSp (A := [_, _, _, _, _]) H hq' ht' H1; clear H H1; have H : Hp w ((a, blk ([I 0, I 492] ++ ts') 145) :: (c11, blk (BV.x B) 118) :: (p, blk (Sect.sxC (Sect.newSx 3) nilS) 170) :: (rr, blk [ptr m 0, ptr s 0, sl a 0 1 ca] 142) :: (k, blk (kb0 (some ⟨eb, eo, none⟩) ec m s q (.slice ya 1 yc) (ptr rr 0) (.slice va 1 vc)) 113) :: (spB s bs cap sp PB (tsI (i + 1)) ++ R3)) w295 := (by rw [← tsI_set (i := i) (by omega)]; exact H9); clear H9)
        refine WA_done (by kernel_rfl) ?_
        refine W_region_l ?_
        refine WL_step rfl (R_add rfl rfl (w_i64 (by omega))) ?_
        refine WL_stepM rfl (R_mv) ?_
        refine WL_nil ?_
        exact ⟨(same_mov rfl (same_updo rfl (same_updo rfl (same_updo rfl (same_updo rfl (same_updo rfl (same_mov rfl (same_mov rfl (same_updo rfl (same_updo rfl (same_updo rfl (same_mov rfl (same_updo rfl (same_mov rfl (same_updo rfl (same_updo rfl (same_mov rfl (same_mov rfl (same_updo rfl (same_updo rfl (same_mov rfl (same_know rfl (same_updo rfl same_ovr))))))))))))))))))))))), i + 1, by omega, by omega, rfl, H⟩
      · refine W_exit ?_
        refine (if_pos rfl).mpr ?_
        ((obtain rfl : i = 9 := (by omega))) <;> refine W_region_l ?_
        refine WL_step rfl (R_add (r := 1) rfl rfl (by decide)) ?_
        refine WL_stepM rfl (R_mv) ?_
        refine WL_nil ?_
        refine Rn_succ ?_
        refine W_seq ?_
        refine W_region_l ?_
        refine WL_step rfl (R_lt_f rfl rfl (by omega)) ?_
        refine WL_nil ?_
        refine W_seq ?_
        refine W_cond_f rfl ?_
        refine W_exit ?_
        refine (if_pos rfl).mpr ?_
        refine W_seq ?_
        refine W_region_l ?_
        refine WL_stepM rfl (R_mv) ?_
        refine WL_stepM rfl (R_as) ?_
        refine WL_stepM rfl (R_as) ?_
        refine WL_nil ?_
        refine W_ret ?_
        exact ⟨_, rfl, _, p, rfl, kw_of H h9 (hF3 _ (fun p hp => H.held p (by simp [hp]))).1 (hF3 _ (fun p hp => H.held p (by simp [hp]))).2, hp, hmb, H.none (kCons ha (kCons hc11 (kCons hp (kCons hrr (kCons hk (kApp (hsp _) hR3))))))⟩
end
end Go.Proofs.YtlpmfldijgdcoaaGreatDoor.Ke
