/-
  The bytes of a slot; they are put.
-/
import Derived.Test.YtcpkhgdjckogjaaSlotE
namespace Go.Proofs.Ytcpkhgdjckogjaa.Slot
open Go Go.Proofs Go.Proofs.Ytcpkhgdjckogjaa.Fx Go.Proofs.Ytcpkhgdjckogjaa.Codec
set_option maxRecDepth 100000
set_option linter.unusedVariables false
set_option linter.unusedSimpArgs false
set_option maxHeartbeats 2000000

theorem okB_lt {x : BitVec 64} (h : okB x) : x.toNat < 65536 := by
  have := bv_lt h
  have e : (65534#64).toNat = 65534 := rfl
  omega
theorem two_bv {x : BitVec 64} (h : okB x) (w : World) : Ret Try.prog 52 #[I x.toInt] w fun v w' => v = S (two x) ∧ Hp w [] w' := by
  rw [bv_small (okB_lt h)]
  exact two_ret x.toNat w
theorem put2_bv {c : List Value} {w : World} {b off len cap e k : Nat} {x : BitVec 64} (hx : okB x) (hb : w.heap[b]? = some (blk c e)) (h1 : k + 2 ≤ len) (h2 : off + len ≤ c.length) (hlc : len ≤ 9223372036854775807) :
    Ret Try.prog 64 #[sl b off len cap, I k, I x.toInt] w fun v w' => v = .bool true ∧ Hp w [(b, blk ((c.set (off + k) (U (UInt8.ofNat (x.toNat / 256)))).set (off + k + 1) (U (UInt8.ofNat x.toNat))) e)] w' := by
  rw [bv_small (okB_lt hx)]
  have := okB_lt hx
  exact put2_yes hb h1 h2 (by omega) hlc

theorem cat_snoc {A xs : List UInt8} {i : Nat} (h : i < xs.length) : (A ++ xs.take i) ++ [xs[i]] = A ++ xs.take (i + 1) := by
  rw [List.append_assoc, ← List.take_succ_eq_append_getElem h]
/-- the first twelve -/
def h12 (p : Pi) : List UInt8 := [b8 p.s, b8 p.p, b8 p.g, b8 p.e] ++ two p.a ++ two p.b ++ two p.c ++ two p.d

theorem refBytes_ret (p : Pi) (hok : okP p) (w : World) : Ret Try.prog 31 #[vP p] w fun v w' => v = S (bytesP p) ∧ Hp w [] w' := by
  refine Ret_of_W (args := [_]) Try.func31 rfl Try.ntmps31 Try.results31 (by simp) ?_
  have H := Hp.refl w
  have hf8 := p.hf
  obtain ⟨hr, ⟨⟨ha, hb, hc, hd⟩, _, _⟩, hz, _⟩ := hok
  have hl12 : (h12 p).length = 12 := by simp [h12, two]
  have hbl : (p.f.map b8).length = 8 := by simp [hf8]
  refine W_seq ?_
  refine W_region_l ?_
  (refine WL_effn rfl (E_boxP H rfl) ?_; clear H; intro bx w3 hbx H)
  refine WL_stepM rfl (R_as) ?_
  refine WL_nil ?_
  refine W_seq ?_
  refine W_region_l ?_
  refine WL_step rfl (R_fieldAddr (off' := 0) Try.underlying53 rfl Try.sizeOf3 (by decide) rfl rfl) ?_
  refine WL_step rfl (R_load Try.isAgg3 rfl (H.get .here) rfl) ?_
  refine WL_step rfl (R_conv_int Try.underlying3 Try.underlying5 rfl (u8_b8 (n := p.s) (by omega))) ?_
  refine WL_step rfl (R_fieldAddr (off' := 1) Try.underlying53 rfl Try.sizeOf3 (by decide) rfl rfl) ?_
  refine WL_step rfl (R_load Try.isAgg3 rfl (H.get .here) rfl) ?_
  refine WL_step rfl (R_conv_int Try.underlying3 Try.underlying5 rfl (u8_b8 (n := p.p) (by omega))) ?_
  refine WL_step rfl (R_fieldAddr (off' := 2) Try.underlying53 rfl Try.sizeOf3 (by decide) rfl rfl) ?_
  refine WL_step rfl (R_load Try.isAgg3 rfl (H.get .here) rfl) ?_
  refine WL_step rfl (R_conv_int Try.underlying3 Try.underlying5 rfl (u8_b8 (n := p.g) (by omega))) ?_
  refine WL_step rfl (R_fieldAddr (off' := 3) Try.underlying53 rfl Try.sizeOf3 (by decide) rfl rfl) ?_
  refine WL_step rfl (R_load Try.isAgg3 rfl (H.get .here) rfl) ?_
  refine WL_step rfl (R_conv_int Try.underlying3 Try.underlying5 rfl (u8_b8 (n := p.e) (by omega))) ?_
  (refine WL_effn rfl (E_buildOnes (vs := [(.int _ _), (.int _ _), (.int _ _), (.int _ _)]) H Try.underlying22 Try.sizeOf5 Try.zeroValue5 rfl rfl (by decide) rfl rfl (by simp [Value.oneCell'])) ?_; clear H; intro b20 w20 hb20 H)
  refine WL_step rfl (R_conv_bs (xs := [b8 p.s, b8 p.p, b8 p.g, b8 p.e]) Try.underlying22 Try.underlying5 Try.underlying9 rfl (RdS.blk (H.get .here) rfl (by simp) (by simp))) ?_
  refine WL_stepM rfl (R_as) ?_
  refine WL_nil ?_
  refine W_seq ?_
  (replace H := H.pop (by assumption); refine W_draw (KH w [(bx, blk (piC p) 53)]) (fun _ => false) (by kernel_rfl) H ?_; clear H; intro w25 H)
  refine WA_takeM 0 rfl rfl rfl (by kernel_rfl) (by kernel_rfl) (H.kh (by simp) (by repeat' first | exact kNil | apply kCons | apply kApp | assumption | exact OwnS.keys (by assumption))) (fun _ hC => R_mv) ?_
  refine WA_take 1 rfl rfl rfl (by kernel_rfl) (by kernel_rfl) (H.kh (by simp) (by repeat' first | exact kNil | apply kCons | apply kApp | assumption | exact OwnS.keys (by assumption))) (fun _ hC => R_fieldAddr (off' := 4) Try.underlying53 rfl Try.sizeOf3 (by decide) rfl rfl) ?_
  refine WA_take 2 rfl rfl rfl (by kernel_rfl) (by kernel_rfl) (H.kh (by simp) (by repeat' first | exact kNil | apply kCons | apply kApp | assumption | exact OwnS.keys (by assumption))) (fun _ hC => R_load Try.isAgg3 rfl (hC.get .here) rfl) ?_
  refine WA_take 5 rfl rfl rfl (by kernel_rfl) (by kernel_rfl) (H.kh (by simp) (by repeat' first | exact kNil | apply kCons | apply kApp | assumption | exact OwnS.keys (by assumption))) (fun _ hC => R_fieldAddr (off' := 5) Try.underlying53 rfl Try.sizeOf3 (by decide) rfl rfl) ?_
  refine WA_take 6 rfl rfl rfl (by kernel_rfl) (by kernel_rfl) (H.kh (by simp) (by repeat' first | exact kNil | apply kCons | apply kApp | assumption | exact OwnS.keys (by assumption))) (fun _ hC => R_load Try.isAgg3 rfl (hC.get .here) rfl) ?_
  refine WA_take 9 rfl rfl rfl (by kernel_rfl) (by kernel_rfl) (H.kh (by simp) (by repeat' first | exact kNil | apply kCons | apply kApp | assumption | exact OwnS.keys (by assumption))) (fun _ hC => R_fieldAddr (off' := 6) Try.underlying53 rfl Try.sizeOf3 (by decide) rfl rfl) ?_
  refine WA_take 10 rfl rfl rfl (by kernel_rfl) (by kernel_rfl) (H.kh (by simp) (by repeat' first | exact kNil | apply kCons | apply kApp | assumption | exact OwnS.keys (by assumption))) (fun _ hC => R_load Try.isAgg3 rfl (hC.get .here) rfl) ?_
  refine WA_take 13 rfl rfl rfl (by kernel_rfl) (by kernel_rfl) (H.kh (by simp) (by repeat' first | exact kNil | apply kCons | apply kApp | assumption | exact OwnS.keys (by assumption))) (fun _ hC => R_fieldAddr (off' := 7) Try.underlying53 rfl Try.sizeOf3 (by decide) rfl rfl) ?_
  refine WA_take 14 rfl rfl rfl (by kernel_rfl) (by kernel_rfl) (H.kh (by simp) (by repeat' first | exact kNil | apply kCons | apply kApp | assumption | exact OwnS.keys (by assumption))) (fun _ hC => R_load Try.isAgg3 rfl (hC.get .here) rfl) ?_
  refine WA_one (i := 3) (by kernel_rfl) ?_
  (refine WI_call rfl (.inl rfl) (R_call rfl Try.call52 rfl) (two_bv ha _) (fun _ _ hR _ => (H.seq0 hR.2).kh (by simp) (by repeat' first | exact kNil | apply kCons | apply kApp | assumption | exact OwnS.keys (by assumption))) ?_; rintro _ w36 ⟨rfl, H1⟩; replace H := H.seq0 H1; clear H1)
  refine WA_take 4 rfl rfl rfl (by kernel_rfl) (by kernel_rfl) (H.kh (by simp) (by repeat' first | exact kNil | apply kCons | apply kApp | assumption | exact OwnS.keys (by assumption))) (fun _ hC => R_cat_S rfl rfl (by simp [two])) ?_
  refine WA_one (i := 7) (by kernel_rfl) ?_
  (refine WI_call rfl (.inl rfl) (R_call rfl Try.call52 rfl) (two_bv hb _) (fun _ _ hR _ => (H.seq0 hR.2).kh (by simp) (by repeat' first | exact kNil | apply kCons | apply kApp | assumption | exact OwnS.keys (by assumption))) ?_; rintro _ w39 ⟨rfl, H1⟩; replace H := H.seq0 H1; clear H1)
  refine WA_take 8 rfl rfl rfl (by kernel_rfl) (by kernel_rfl) (H.kh (by simp) (by repeat' first | exact kNil | apply kCons | apply kApp | assumption | exact OwnS.keys (by assumption))) (fun _ hC => R_cat_S rfl rfl (by simp [two])) ?_
  refine WA_one (i := 11) (by kernel_rfl) ?_
  (refine WI_call rfl (.inl rfl) (R_call rfl Try.call52 rfl) (two_bv hc _) (fun _ _ hR _ => (H.seq0 hR.2).kh (by simp) (by repeat' first | exact kNil | apply kCons | apply kApp | assumption | exact OwnS.keys (by assumption))) ?_; rintro _ w42 ⟨rfl, H1⟩; replace H := H.seq0 H1; clear H1)
  refine WA_take 12 rfl rfl rfl (by kernel_rfl) (by kernel_rfl) (H.kh (by simp) (by repeat' first | exact kNil | apply kCons | apply kApp | assumption | exact OwnS.keys (by assumption))) (fun _ hC => R_cat_S rfl rfl (by simp [two])) ?_
  refine WA_one (i := 15) (by kernel_rfl) ?_
  (refine WI_call rfl (.inl rfl) (R_call rfl Try.call52 rfl) (two_bv hd _) (fun _ _ hR _ => (H.seq0 hR.2).kh (by simp) (by repeat' first | exact kNil | apply kCons | apply kApp | assumption | exact OwnS.keys (by assumption))) ?_; rintro _ w45 ⟨rfl, H1⟩; replace H := H.seq0 H1; clear H1)
  refine WA_take 16 rfl rfl rfl (by kernel_rfl) (by kernel_rfl) (H.kh (by simp) (by repeat' first | exact kNil | apply kCons | apply kApp | assumption | exact OwnS.keys (by assumption))) (fun _ hC => R_cat_S rfl rfl (by simp [two])) ?_
  refine WA_takeM 17 rfl rfl rfl (by kernel_rfl) (by kernel_rfl) (H.kh (by simp) (by repeat' first | exact kNil | apply kCons | apply kApp | assumption | exact OwnS.keys (by assumption))) (fun _ hC => R_as) ?_
  refine WA_done (by kernel_rfl) ?_
  refine W_seq ?_
  refine W_seq ?_
  refine W_region_l ?_
  refine WL_stepM rfl (R_as) ?_
  refine WL_nil ?_
  refine W_block ?_
  refine W_loopS [(3, 4), (36, 48)] (fun (i : Nat) E w' => i ≤ 8 ∧ E 3 = S (h12 p ++ (p.f.map b8).take i) ∧ E 4 = I i ∧ Hp w [(bx, blk (piC p) 53)] w') (fun i => 8 - i) 0 ?e0 ?r0
  · exact ⟨by omega, by rw [List.take_zero, List.append_nil]; rfl, rfl, H⟩
  · (clear H; rintro i E w1 ⟨hi, h3, h4, H⟩; refine W_kn2 h3 h4 ?_; by_cases hlt : i < 8)
    · refine W_seq ?_
      refine W_seq ?_
      refine W_region_l ?_
      refine WL_stepM rfl (R_mv) ?_
      refine WL_step rfl (R_lt_t rfl rfl (by omega)) ?_
      refine WL_nil ?_
      refine W_cond_t rfl ?_
      refine W_skip ?_
      refine W_seq ?_
      refine W_block ?_
      refine W_region_l ?_
      refine WL_stepM rfl (R_mv) ?_
      refine WL_stepM rfl (R_mv) ?_
      refine WL_step rfl (R_fieldAddr (off' := 8) Try.underlying53 rfl Try.sizeOf51 (by decide) rfl rfl) ?_
      refine WL_step rfl (R_indexAddrA (off' := 8 + i) Try.underlying51 Try.sizeOf3 rfl rfl (by omega) (by omega) (by omega)) ?_
      refine WL_step rfl (R_load (v := I p.f[i]) Try.isAgg3 rfl (H.get .here) (pi_fd hlt)) ?_
      refine WL_step rfl (R_conv_int Try.underlying3 Try.underlying5 rfl (u8_b8 (n := p.f[i]) (hz _ (List.getElem_mem _)).1)) ?_
      (refine WL_effn rfl (E_buildOnes (vs := [(.int _ _)]) H Try.underlying22 Try.sizeOf5 Try.zeroValue5 rfl rfl (by decide) rfl rfl (by simp [Value.oneCell'])) ?_; clear H; intro b74 w74 hb74 H)
      refine WL_step rfl (R_conv_bs (xs := [b8 p.f[i]]) Try.underlying22 Try.underlying5 Try.underlying9 rfl (RdS.blk (H.get .here) rfl (by simp) (by simp))) ?_
      (refine WL_step rfl (R_cat_S rfl rfl (by simp [hl12]; omega)) ?_; replace H := H.pop (by assumption))
      refine WL_stepM rfl (R_as) ?_
      refine WL_nil ?_
      refine W_region_l ?_
      refine WL_stepM rfl (R_mv) ?_
      refine WL_step rfl (R_add rfl rfl (w_i64 (by omega))) ?_
      refine WL_stepM rfl (R_as) ?_
      refine WL_nil ?_
      exact ⟨(same_mov rfl (same_updo rfl (same_mov rfl (same_mov rfl (same_updo rfl (same_updo rfl (same_updo rfl (same_updo rfl (same_updo rfl (same_updo rfl (same_updo rfl (same_mov rfl (same_mov rfl (same_updo rfl (same_mov rfl same_ovr))))))))))))))), i + 1, by omega, by omega, congrArg S ((congrArg (fun y => (h12 p ++ (p.f.map b8).take i) ++ [y]) (List.getElem_map b8 (h := by rw [hbl]; exact hlt)).symm).trans (cat_snoc (by rw [hbl]; exact hlt))), rfl, H⟩
    · refine W_seq ?_
      refine W_seq ?_
      refine W_region_l ?_
      refine WL_stepM rfl (R_mv) ?_
      refine WL_step rfl (R_lt_f rfl rfl (by omega)) ?_
      refine WL_nil ?_
      refine W_cond_f rfl ?_
      refine W_exit ?_
      refine (if_pos rfl).mpr ?_
      refine W_seq ?_
      ((obtain rfl : i = 8 := (by omega); rw [List.take_of_length_le (l := p.f.map b8) (i := 8) (by omega)])) <;> refine W_region_l ?_
      refine WL_stepM rfl (R_mv) ?_
      refine WL_step rfl (R_cat_S (ys := [167]) rfl rfl (by simp [hl12]; omega)) ?_
      refine WL_stepM rfl (R_as) ?_
      refine WL_nil ?_
      refine W_seq ?_
      refine W_region_l ?_
      refine WL_stepM rfl (R_mv) ?_
      refine WL_stepM rfl (R_mv) ?_
      (refine WL_call rfl (R_call rfl Try.call44 rfl) (refSum_ret (xs := hbs p) _ (by rw [hbs_len]; decide)) ?_; rintro _ w104 ⟨rfl, H1⟩; replace H := H.seq0 H1; clear H1)
      (refine WL_effn rfl (E_buildOnes (vs := [(.int _ _), (.int _ _), (.int _ _)]) H Try.underlying22 Try.sizeOf5 Try.zeroValue5 rfl rfl (by decide) rfl rfl (by simp [Value.oneCell'])) ?_; clear H; intro b105 w105 hb105 H)
      refine WL_step rfl (R_conv_bs (xs := [sumB (hbs p), 0, 0]) Try.underlying22 Try.underlying5 Try.underlying9 rfl (RdS.blk (H.get .here) rfl (by simp) (by simp))) ?_
      refine WL_step rfl (R_cat_S rfl rfl (by simp; omega)) ?_
      refine WL_stepM rfl (R_as) ?_
      refine WL_nil ?_
      refine W_ret ?_
      exact ⟨_, rfl, rfl, H.none (by repeat' first | exact kNil | apply kCons | apply kApp | assumption | exact OwnS.keys (by assumption))⟩
end Go.Proofs.Ytcpkhgdjckogjaa.Slot
