/-
  Blank commons; awake of layer 16.
-/
import Derived.Test.YthonajikgljgmaaGreatAudM3
import Derived.Test.YthonajikgljgmaaGreatMemA
namespace Go.Proofs.YthonajikgljgmaaGreat.Aud
open Go Go.Proofs Go.Proofs.YthonajikgljgmaaGreat.Fx
set_option maxRecDepth 100000
set_option linter.unusedVariables false
set_option linter.unusedSimpArgs false
set_option maxHeartbeats 16000000

/-- bytes are copied to a place of a row with something behind it -/
theorem E_putS {P : Program} {E : Env} {w0 w : World} {L : List (Nat × Obj)} {d : Option Nat} {ty : TypeId} {pos : String} {after : Array Edge} {dT sT elem : TypeId} {b a len cap : Nat} {xs ys : List UInt8} {sp : List Value} {e : TypeId} {f} {u : Value} {x y : Operand}
    (H : Hp w0 L w) (hL : At L b (blk (xs.map U ++ sp) e) f) (ht : P.underlying dT = some (.slice elem)) (hS : ∀ w, (sizeOf elem).run P w = .ok 1 w)
    (hx : ev E x = sl b a len cap) (hy : ev E y = u) (hu : CopySrc P w u (ys.map U)) (hlen : a + len = xs.length) (hfit : a + ys.length ≤ xs.length) :
    ∃ (v : Value) (_ : Unit) (w' : World), v = I ys.length ∧ Hp w0 (f (blk ((Mem.put xs ys a).map U ++ sp) e)) w' ∧
      (execOp (ev E) (mk d (bi .copy #[x, y] #[dT, sT]) ty pos after)).run P w = .ok (.value v) w' := by
  obtain ⟨v, u1, w', hv, H', hr⟩ := E_copy (d := d) (ty := ty) (pos := pos) (after := after) (sT := sT) (len := len) H hL ht hS hx hy hu (by rw [List.length_append, List.length_map]; omega) (by intro v hv; obtain ⟨z, _, rfl⟩ := List.mem_map.1 hv; rfl)
  rw [List.length_map, Nat.min_eq_left (by omega)] at hv H'
  refine ⟨v, u1, w', hv, ?_, hr⟩
  have e1 : (xs.map U ++ sp).take a ++ (ys.map U).take len ++ (xs.map U ++ sp).drop (a + ys.length) = (Mem.put xs ys a).map U ++ sp := by
    unfold Mem.put
    rw [List.take_append_of_le_length (by rw [List.length_map]; omega), List.drop_append_of_le_length (by rw [List.length_map]; omega), List.take_of_length_le (l := ys.map U) (by rw [List.length_map]; omega)]
    simp [List.map_take, List.map_drop]
  rw [e1] at H'
  exact H'

def pipe11 : Ring.Pi := { Ring.zeroP with r := 1, w := 1 }
def blankB : List UInt8 := List.replicate 448 0 ++ Ring.bytesP pipe11 ++ Cm.frontB 0
theorem blankB_len : blankB.length = 492 := by rw [blankB, List.length_append, List.length_append, Ring.bytes_len, List.length_replicate]; rfl
theorem blank_ret (w : World) : Ret Tryz.prog 12 #[] w fun v w' => ∃ M, OwnS w.heap.size 5 1 v 492 (blankB.map U) M ∧ Hp w M w' := by
  refine Ret_of_W (args := []) Tryz.func12 rfl Tryz.ntmps12 Tryz.results12 (by simp) ?_
  have H := Hp.refl w
  have hok : Ring.okP pipe11 := by decide
  have hpl : (Mem.put (List.replicate 488 0) (Ring.bytesP pipe11) 448).length = 488 := by decide
  refine W_seq ?_
  refine W_region_l ?_
  refine WL_stepM rfl (R_as) ?_
  refine WL_nil ?_
  refine W_seq ?_
  refine W_region_l ?_
  (refine WL_effn rfl (E_makeSlice H Tryz.underlying22 Tryz.sizeOf5 Tryz.typeInfo5 Tryz.zeroValue5 rfl rfl rfl (by decide) (by decide) (by decide) (by simp only [Tryz.t5]; decide)) ?_; clear H; intro b6 w7 hb6 H; replace H : Hp w [(b6, blk ((List.replicate 488 (0 : UInt8)).map U ++ []) 5)] w7 := (by rw [List.map_replicate, List.append_nil]; exact H))
  refine WL_stepM rfl (R_as) ?_
  refine WL_nil ?_
  refine W_seq ?_
  refine W_region_l ?_
  refine WL_step rfl (R_buildL (places := [(0, 1), (1, 1), (2, 1), (3, 1), (4, 32)]) (vs := Ring.piC pipe11) Tryz.underlying43 Tryz.typeInfo43 rfl rfl (by kernel_rfl) rfl rfl rfl) ?_
  (refine WL_call rfl (R_call rfl Tryz.call36 rfl) (Ring.enc_yes pipe11 hok _) ?_; rintro _ w13 ⟨be, rfl, hbe, H1⟩; have hbe2 := Nat.le_trans H.size hbe; replace H := H.seqN H1 (by intro p hp; rw [List.mem_singleton.1 hp]; exact hbe); clear H1 hbe)
  refine WL_stepM rfl (R_mv) ?_
  refine WL_step rfl (R_extract rfl rfl) ?_
  refine WL_step rfl (R_extract rfl rfl) ?_
  refine WL_stepM rfl (R_as) ?_
  refine WL_stepM rfl (R_as) ?_
  refine WL_nil ?_
  refine W_seq ?_
  refine W_region_l ?_
  refine WL_stepM rfl (R_mv) ?_
  refine WL_step rfl (R_slice Tryz.underlying22 Tryz.sizeOf5 rfl (.some rfl) .none (by omega) (by omega) (by omega) (by omega) (by omega) rfl) ?_
  refine WL_stepM rfl (R_mv) ?_
  (refine WL_effm rfl (E_putS (ys := Ring.bytesP pipe11) (a := 448) H (.there .here) Tryz.underlying22 Tryz.sizeOf5 rfl rfl (RdS.blk (xs := (Ring.bytesP pipe11).map U) (off := 0) (m := 40) (H.get .here) (by rw [List.drop_zero, List.take_of_length_le (by simp [Ring.bytes_len])]) (by simp [Ring.bytes_len]) (by decide)).csrc (by simp) (by simp [Ring.bytes_len])) ?_; clear H; rintro _ _ w25 rfl H)
  refine WL_nil ?_
  refine W_seq ?_
  refine W_region_l ?_
  (refine WL_call rfl (R_call rfl Tryz.call37 rfl) (Cm.frontBytes_yes (g := 0) (by decide) (by decide) _) ?_; rintro _ w29 ⟨u, MF, rfl, hOF, H1⟩; have h29 := H.seqO hOF H1; clear H H1 hOF; obtain ⟨hOF, H⟩ := h29; obtain ⟨fa, fc, rfl⟩ := hOF.form)
  refine WL_stepM rfl (R_mv) ?_
  refine WL_step rfl (R_extract rfl rfl) ?_
  refine WL_step rfl (R_extract rfl rfl) ?_
  refine WL_stepM rfl (R_as) ?_
  refine WL_stepM rfl (R_as) ?_
  refine WL_nil ?_
  refine W_seq ?_
  refine W_region_l ?_
  refine WL_stepM rfl (R_mv) ?_
  refine WL_stepM rfl (R_mv) ?_
  (refine WL_effm rfl (E_append (news := (Cm.frontB 0).map U) (m := 4) (xs := (Mem.put (List.replicate 488 0) (Ring.bytesP pipe11) 448).map U) (M := [(b6, blk ((Mem.put (List.replicate 488 0) (Ring.bytesP pipe11) 448).map U ++ []) 5)]) H (.app MF (.there .last)) (OwnS.new (sp := []) hb6 (by rw [List.length_map, hpl]; rfl) rfl (by decide)) Tryz.underlying22 Tryz.typeInfo5 rfl rfl rfl rfl rfl rfl ((RdS.own hOF (fun p hp => H.held p (by simp [hp]))).src Tryz.underlying22 (by intro u hu; obtain ⟨z, _, rfl⟩ := List.mem_map.1 hu; rfl)) (by decide) (by simp only [Tryz.t5]; decide)) ?_; clear H; intro v1 N1 w40 hN1 H)
  refine WL_stepM rfl (R_as) ?_
  refine WL_nil ?_
  refine W_ret ?_
  exact ⟨_, rfl, _, (by rw [← List.map_append, show Mem.put (List.replicate 488 0) (Ring.bytesP pipe11) 448 ++ Cm.frontB 0 = blankB from by decide] at hN1; exact hN1), (Hp.dropN (M := MF) H hOF.keys).pop (by assumption)⟩

theorem refFront_ret (w : World) : Ret Tryz.prog 30 #[I 0] w fun v w' => v = S (Cm.frontB 0) ∧ Hp w [] w' := by
  refine Ret_of_W (args := [_]) Tryz.func30 rfl Tryz.ntmps30 Tryz.results30 (by simp) ?_
  have H := Hp.refl w
  refine W_seq ?_
  refine W_region_l ?_
  refine WL_stepM rfl (R_as) ?_
  refine WL_nil ?_
  refine W_seq ?_
  refine W_region_l ?_
  refine WL_stepM rfl (R_mv) ?_
  refine WL_step rfl (R_conv_int (r := 0) Tryz.underlying3 Tryz.underlying5 rfl (by decide)) ?_
  (refine WL_effn rfl (E_buildOnes (vs := [U 0, U 211]) H Tryz.underlying22 Tryz.sizeOf5 Tryz.zeroValue5 rfl rfl (by decide) rfl rfl (by simp [Value.oneCell'])) ?_; clear H; intro b6 w9 hb6 H)
  refine WL_step rfl (R_conv_bs (xs := [0, 211]) Tryz.underlying22 Tryz.underlying5 Tryz.underlying9 rfl (RdS.blk (c := [U 0, U 211]) (off := 0) (m := 2) (cap := 2) (H.get .here) (by rfl) (by decide) (by decide))) ?_
  refine WL_stepM rfl (R_as) ?_
  refine WL_nil ?_
  refine W_seq ?_
  refine W_region_l ?_
  refine WL_stepM rfl (R_mv) ?_
  refine WL_stepM rfl (R_mv) ?_
  (refine WL_call rfl (R_call rfl Tryz.call39 rfl) (Codec.refSum_ret (xs := [0, 211]) _ (by decide)) ?_; rintro _ w17 ⟨rfl, H1⟩; replace H := H.seq0 H1; clear H1)
  (refine WL_effn rfl (E_buildOnes (vs := [U (Cm.sumB [0, 211]), U 0]) H Tryz.underlying22 Tryz.sizeOf5 Tryz.zeroValue5 rfl rfl (by decide) rfl rfl (by simp [Value.oneCell'])) ?_; clear H; intro b11 w18 hb11 H)
  refine WL_step rfl (R_conv_bs (xs := [Cm.sumB [0, 211], 0]) Tryz.underlying22 Tryz.underlying5 Tryz.underlying9 rfl (RdS.blk (c := [U (Cm.sumB [0, 211]), U 0]) (off := 0) (m := 2) (cap := 2) (H.get .here) (by rfl) (by simp) (by simp))) ?_
  refine WL_step rfl (R_cat_S rfl rfl (by simp)) ?_
  refine WL_stepM rfl (R_as) ?_
  refine WL_nil ?_
  refine W_ret ?_
  exact ⟨_, rfl, rfl, H.none (by repeat' first | exact kNil | apply kCons | apply kApp | assumption | exact OwnS.keys (by assumption))⟩
theorem refBlank_ret (w : World) : Ret Tryz.prog 13 #[] w fun v w' => v = S blankB ∧ Hp w [] w' := by
  refine Ret_of_W (args := []) Tryz.func13 rfl Tryz.ntmps13 Tryz.results13 (by simp) ?_
  have H := Hp.refl w
  have hok : Ring.okP pipe11 := by decide
  refine W_seq ?_
  refine W_region_l ?_
  refine WL_stepM rfl (R_as) ?_
  refine WL_nil ?_
  refine W_seq ?_
  (refine W_draw (KH w []) (fun _ => false) (by kernel_rfl) H ?_; clear H; intro w6 H)
  refine WA_take 2 rfl rfl rfl (by kernel_rfl) (by kernel_rfl) (H.kh (by simp) (by repeat' first | exact kNil | apply kCons | apply kApp | assumption | exact OwnS.keys (by assumption))) (fun _ hC => R_buildL (places := [(0, 1), (1, 1), (2, 1), (3, 1), (4, 32)]) (vs := Ring.piC pipe11) Tryz.underlying43 Tryz.typeInfo43 rfl rfl (by kernel_rfl) rfl rfl rfl) ?_
  refine WA_two (i := 0) (j := 3) (by kernel_rfl) ?_ ?_
  · (refine WI_effnA rfl (.inl rfl) (E_makeSlice H Tryz.underlying22 Tryz.sizeOf5 Tryz.typeInfo5 Tryz.zeroValue5 rfl rfl rfl (by decide) (by decide) (by decide) (by simp only [Tryz.t5]; decide)) (fun _ _ _ H _ => H.kh (by simp) (by repeat' first | exact kNil | apply kCons | apply kApp | assumption | exact OwnS.keys (by assumption))) ?_; clear H; intro b1 w9 hb1 H; replace H : Hp w [(b1, blk ((List.replicate 448 (0 : UInt8)).map U) 5)] w9 := (by rw [List.map_replicate]; exact H))
    refine WA_two (i := 1) (j := 3) (by kernel_rfl) ?_ ?_
    · refine WI_value rfl (.inl rfl) (R_conv_bs (xs := List.replicate 448 0) Tryz.underlying22 Tryz.underlying5 Tryz.underlying9 rfl (RdS.blk (xs := (List.replicate 448 (0 : UInt8)).map U) (off := 0) (m := 448) (cap := 448) (H.get .here) (by rw [List.drop_zero, List.take_of_length_le (by simp)]) (by simp) (by simp))) (by first | exact fun h => absurd h (by decide) | exact fun _ => H | exact fun _ => H.none (by repeat' first | exact kNil | apply kCons | apply kApp | assumption | exact OwnS.keys (by assumption)) | exact fun _ => H.dropN (by repeat' first | exact kNil | apply kCons | apply kApp | assumption | exact OwnS.keys (by assumption)) | exact fun _ => H.pop (by assumption) | exact fun _ => (H.pop (by assumption)).pop (by assumption) | exact fun _ => H.kp | exact fun _ => H.kp.tail | exact fun _ => H.kp.tail.tail | exact fun _ => H.kp.tail.tail.tail | exact fun _ => H.kp.sub (by simp) | exact fun _ => Kp.nil | exact fun _ => H.kh (by simp) (by repeat' first | exact kNil | apply kCons | apply kApp | assumption | exact OwnS.keys (by assumption))) ?_
      refine WA_one (i := 3) (by kernel_rfl) ?_
      (refine WI_call rfl (.inl rfl) (R_call rfl Tryz.call18 rfl) (Ring.refBytes_ret pipe11 hok _) (fun _ _ hR _ => (H.seq0 hR.2).kh (by simp) (by repeat' first | exact kNil | apply kCons | apply kApp | assumption | exact OwnS.keys (by assumption))) ?_; rintro _ w13 ⟨rfl, H1⟩; replace H := H.seq0 H1; clear H1)
      refine WA_take 4 rfl rfl rfl (by kernel_rfl) (by kernel_rfl) (H.kh (by simp) (by repeat' first | exact kNil | apply kCons | apply kApp | assumption | exact OwnS.keys (by assumption))) (fun _ hC => R_cat_S rfl rfl (by simp [Ring.bytes_len])) ?_
      refine WA_one (i := 5) (by kernel_rfl) ?_
      (refine WI_call rfl (.inl rfl) (R_call rfl Tryz.call30 rfl) (refFront_ret _) (fun _ _ hR _ => (H.seq0 hR.2).kh (by simp) (by repeat' first | exact kNil | apply kCons | apply kApp | assumption | exact OwnS.keys (by assumption))) ?_; rintro _ w16 ⟨rfl, H1⟩; replace H := H.seq0 H1; clear H1)
      refine WA_take 6 rfl rfl rfl (by kernel_rfl) (by kernel_rfl) (H.kh (by simp) (by repeat' first | exact kNil | apply kCons | apply kApp | assumption | exact OwnS.keys (by assumption))) (fun _ hC => R_cat_S rfl rfl (by simp [Ring.bytes_len, Cm.frontB])) ?_
      refine WA_takeM 7 rfl rfl rfl (by kernel_rfl) (by kernel_rfl) (H.kh (by simp) (by repeat' first | exact kNil | apply kCons | apply kApp | assumption | exact OwnS.keys (by assumption))) (fun _ hC => R_as) ?_
      refine WA_done (by kernel_rfl) ?_
      refine W_ret ?_
      exact ⟨_, rfl, rfl, H.none (by repeat' first | exact kNil | apply kCons | apply kApp | assumption | exact OwnS.keys (by assumption))⟩
    · (refine WI_call rfl (.inl rfl) (R_call rfl Tryz.call18 rfl) (Ring.refBytes_ret pipe11 hok _) (fun _ _ hR _ => (H.seq0 hR.2).kh (by simp) (by repeat' first | exact kNil | apply kCons | apply kApp | assumption | exact OwnS.keys (by assumption))) ?_; rintro _ w22 ⟨rfl, H1⟩; replace H := H.seq0 H1; clear H1)
      refine WA_two (i := 1) (j := 5) (by kernel_rfl) ?_ ?_
      · refine WI_value rfl (.inl rfl) (R_conv_bs (xs := List.replicate 448 0) Tryz.underlying22 Tryz.underlying5 Tryz.underlying9 rfl (RdS.blk (xs := (List.replicate 448 (0 : UInt8)).map U) (off := 0) (m := 448) (cap := 448) (H.get .here) (by rw [List.drop_zero, List.take_of_length_le (by simp)]) (by simp) (by simp))) (by first | exact fun h => absurd h (by decide) | exact fun _ => H | exact fun _ => H.none (by repeat' first | exact kNil | apply kCons | apply kApp | assumption | exact OwnS.keys (by assumption)) | exact fun _ => H.dropN (by repeat' first | exact kNil | apply kCons | apply kApp | assumption | exact OwnS.keys (by assumption)) | exact fun _ => H.pop (by assumption) | exact fun _ => (H.pop (by assumption)).pop (by assumption) | exact fun _ => H.kp | exact fun _ => H.kp.tail | exact fun _ => H.kp.tail.tail | exact fun _ => H.kp.tail.tail.tail | exact fun _ => H.kp.sub (by simp) | exact fun _ => Kp.nil | exact fun _ => H.kh (by simp) (by repeat' first | exact kNil | apply kCons | apply kApp | assumption | exact OwnS.keys (by assumption))) ?_
        refine WA_take 4 rfl rfl rfl (by kernel_rfl) (by kernel_rfl) (H.kh (by simp) (by repeat' first | exact kNil | apply kCons | apply kApp | assumption | exact OwnS.keys (by assumption))) (fun _ hC => R_cat_S rfl rfl (by simp [Ring.bytes_len])) ?_
        refine WA_one (i := 5) (by kernel_rfl) ?_
        (refine WI_call rfl (.inl rfl) (R_call rfl Tryz.call30 rfl) (refFront_ret _) (fun _ _ hR _ => (H.seq0 hR.2).kh (by simp) (by repeat' first | exact kNil | apply kCons | apply kApp | assumption | exact OwnS.keys (by assumption))) ?_; rintro _ w27 ⟨rfl, H1⟩; replace H := H.seq0 H1; clear H1)
        refine WA_take 6 rfl rfl rfl (by kernel_rfl) (by kernel_rfl) (H.kh (by simp) (by repeat' first | exact kNil | apply kCons | apply kApp | assumption | exact OwnS.keys (by assumption))) (fun _ hC => R_cat_S rfl rfl (by simp [Ring.bytes_len, Cm.frontB])) ?_
        refine WA_takeM 7 rfl rfl rfl (by kernel_rfl) (by kernel_rfl) (H.kh (by simp) (by repeat' first | exact kNil | apply kCons | apply kApp | assumption | exact OwnS.keys (by assumption))) (fun _ hC => R_as) ?_
        refine WA_done (by kernel_rfl) ?_
        refine W_ret ?_
        exact ⟨_, rfl, rfl, H.none (by repeat' first | exact kNil | apply kCons | apply kApp | assumption | exact OwnS.keys (by assumption))⟩
      · (refine WI_call rfl (.inl rfl) (R_call rfl Tryz.call30 rfl) (refFront_ret _) (fun _ _ hR _ => (H.seq0 hR.2).kh (by simp) (by repeat' first | exact kNil | apply kCons | apply kApp | assumption | exact OwnS.keys (by assumption))) ?_; rintro _ w33 ⟨rfl, H1⟩; replace H := H.seq0 H1; clear H1)
        refine WA_one (i := 1) (by kernel_rfl) ?_
        refine WI_value rfl (.inl rfl) (R_conv_bs (xs := List.replicate 448 0) Tryz.underlying22 Tryz.underlying5 Tryz.underlying9 rfl (RdS.blk (xs := (List.replicate 448 (0 : UInt8)).map U) (off := 0) (m := 448) (cap := 448) (H.get .here) (by rw [List.drop_zero, List.take_of_length_le (by simp)]) (by simp) (by simp))) (by first | exact fun h => absurd h (by decide) | exact fun _ => H | exact fun _ => H.none (by repeat' first | exact kNil | apply kCons | apply kApp | assumption | exact OwnS.keys (by assumption)) | exact fun _ => H.dropN (by repeat' first | exact kNil | apply kCons | apply kApp | assumption | exact OwnS.keys (by assumption)) | exact fun _ => H.pop (by assumption) | exact fun _ => (H.pop (by assumption)).pop (by assumption) | exact fun _ => H.kp | exact fun _ => H.kp.tail | exact fun _ => H.kp.tail.tail | exact fun _ => H.kp.tail.tail.tail | exact fun _ => H.kp.sub (by simp) | exact fun _ => Kp.nil | exact fun _ => H.kh (by simp) (by repeat' first | exact kNil | apply kCons | apply kApp | assumption | exact OwnS.keys (by assumption))) ?_
        refine WA_take 4 rfl rfl rfl (by kernel_rfl) (by kernel_rfl) (H.kh (by simp) (by repeat' first | exact kNil | apply kCons | apply kApp | assumption | exact OwnS.keys (by assumption))) (fun _ hC => R_cat_S rfl rfl (by simp [Ring.bytes_len])) ?_
        refine WA_take 6 rfl rfl rfl (by kernel_rfl) (by kernel_rfl) (H.kh (by simp) (by repeat' first | exact kNil | apply kCons | apply kApp | assumption | exact OwnS.keys (by assumption))) (fun _ hC => R_cat_S rfl rfl (by simp [Ring.bytes_len, Cm.frontB])) ?_
        refine WA_takeM 7 rfl rfl rfl (by kernel_rfl) (by kernel_rfl) (H.kh (by simp) (by repeat' first | exact kNil | apply kCons | apply kApp | assumption | exact OwnS.keys (by assumption))) (fun _ hC => R_as) ?_
        refine WA_done (by kernel_rfl) ?_
        refine W_ret ?_
        exact ⟨_, rfl, rfl, H.none (by repeat' first | exact kNil | apply kCons | apply kApp | assumption | exact OwnS.keys (by assumption))⟩
  · (refine WI_call rfl (.inl rfl) (R_call rfl Tryz.call18 rfl) (Ring.refBytes_ret pipe11 hok _) (fun _ _ hR _ => (H.seq0 hR.2).kh (by simp) (by repeat' first | exact kNil | apply kCons | apply kApp | assumption | exact OwnS.keys (by assumption))) ?_; rintro _ w42 ⟨rfl, H1⟩; replace H := H.seq0 H1; clear H1)
    refine WA_two (i := 0) (j := 5) (by kernel_rfl) ?_ ?_
    · (refine WI_effnA rfl (.inl rfl) (E_makeSlice H Tryz.underlying22 Tryz.sizeOf5 Tryz.typeInfo5 Tryz.zeroValue5 rfl rfl rfl (by decide) (by decide) (by decide) (by simp only [Tryz.t5]; decide)) (fun _ _ _ H _ => H.kh (by simp) (by repeat' first | exact kNil | apply kCons | apply kApp | assumption | exact OwnS.keys (by assumption))) ?_; clear H; intro b1 w44 hb1 H; replace H : Hp w [(b1, blk ((List.replicate 448 (0 : UInt8)).map U) 5)] w44 := (by rw [List.map_replicate]; exact H))
      refine WA_two (i := 1) (j := 5) (by kernel_rfl) ?_ ?_
      · refine WI_value rfl (.inl rfl) (R_conv_bs (xs := List.replicate 448 0) Tryz.underlying22 Tryz.underlying5 Tryz.underlying9 rfl (RdS.blk (xs := (List.replicate 448 (0 : UInt8)).map U) (off := 0) (m := 448) (cap := 448) (H.get .here) (by rw [List.drop_zero, List.take_of_length_le (by simp)]) (by simp) (by simp))) (by first | exact fun h => absurd h (by decide) | exact fun _ => H | exact fun _ => H.none (by repeat' first | exact kNil | apply kCons | apply kApp | assumption | exact OwnS.keys (by assumption)) | exact fun _ => H.dropN (by repeat' first | exact kNil | apply kCons | apply kApp | assumption | exact OwnS.keys (by assumption)) | exact fun _ => H.pop (by assumption) | exact fun _ => (H.pop (by assumption)).pop (by assumption) | exact fun _ => H.kp | exact fun _ => H.kp.tail | exact fun _ => H.kp.tail.tail | exact fun _ => H.kp.tail.tail.tail | exact fun _ => H.kp.sub (by simp) | exact fun _ => Kp.nil | exact fun _ => H.kh (by simp) (by repeat' first | exact kNil | apply kCons | apply kApp | assumption | exact OwnS.keys (by assumption))) ?_
        refine WA_take 4 rfl rfl rfl (by kernel_rfl) (by kernel_rfl) (H.kh (by simp) (by repeat' first | exact kNil | apply kCons | apply kApp | assumption | exact OwnS.keys (by assumption))) (fun _ hC => R_cat_S rfl rfl (by simp [Ring.bytes_len])) ?_
        refine WA_one (i := 5) (by kernel_rfl) ?_
        (refine WI_call rfl (.inl rfl) (R_call rfl Tryz.call30 rfl) (refFront_ret _) (fun _ _ hR _ => (H.seq0 hR.2).kh (by simp) (by repeat' first | exact kNil | apply kCons | apply kApp | assumption | exact OwnS.keys (by assumption))) ?_; rintro _ w49 ⟨rfl, H1⟩; replace H := H.seq0 H1; clear H1)
        refine WA_take 6 rfl rfl rfl (by kernel_rfl) (by kernel_rfl) (H.kh (by simp) (by repeat' first | exact kNil | apply kCons | apply kApp | assumption | exact OwnS.keys (by assumption))) (fun _ hC => R_cat_S rfl rfl (by simp [Ring.bytes_len, Cm.frontB])) ?_
        refine WA_takeM 7 rfl rfl rfl (by kernel_rfl) (by kernel_rfl) (H.kh (by simp) (by repeat' first | exact kNil | apply kCons | apply kApp | assumption | exact OwnS.keys (by assumption))) (fun _ hC => R_as) ?_
        refine WA_done (by kernel_rfl) ?_
        refine W_ret ?_
        exact ⟨_, rfl, rfl, H.none (by repeat' first | exact kNil | apply kCons | apply kApp | assumption | exact OwnS.keys (by assumption))⟩
      · (refine WI_call rfl (.inl rfl) (R_call rfl Tryz.call30 rfl) (refFront_ret _) (fun _ _ hR _ => (H.seq0 hR.2).kh (by simp) (by repeat' first | exact kNil | apply kCons | apply kApp | assumption | exact OwnS.keys (by assumption))) ?_; rintro _ w55 ⟨rfl, H1⟩; replace H := H.seq0 H1; clear H1)
        refine WA_one (i := 1) (by kernel_rfl) ?_
        refine WI_value rfl (.inl rfl) (R_conv_bs (xs := List.replicate 448 0) Tryz.underlying22 Tryz.underlying5 Tryz.underlying9 rfl (RdS.blk (xs := (List.replicate 448 (0 : UInt8)).map U) (off := 0) (m := 448) (cap := 448) (H.get .here) (by rw [List.drop_zero, List.take_of_length_le (by simp)]) (by simp) (by simp))) (by first | exact fun h => absurd h (by decide) | exact fun _ => H | exact fun _ => H.none (by repeat' first | exact kNil | apply kCons | apply kApp | assumption | exact OwnS.keys (by assumption)) | exact fun _ => H.dropN (by repeat' first | exact kNil | apply kCons | apply kApp | assumption | exact OwnS.keys (by assumption)) | exact fun _ => H.pop (by assumption) | exact fun _ => (H.pop (by assumption)).pop (by assumption) | exact fun _ => H.kp | exact fun _ => H.kp.tail | exact fun _ => H.kp.tail.tail | exact fun _ => H.kp.tail.tail.tail | exact fun _ => H.kp.sub (by simp) | exact fun _ => Kp.nil | exact fun _ => H.kh (by simp) (by repeat' first | exact kNil | apply kCons | apply kApp | assumption | exact OwnS.keys (by assumption))) ?_
        refine WA_take 4 rfl rfl rfl (by kernel_rfl) (by kernel_rfl) (H.kh (by simp) (by repeat' first | exact kNil | apply kCons | apply kApp | assumption | exact OwnS.keys (by assumption))) (fun _ hC => R_cat_S rfl rfl (by simp [Ring.bytes_len])) ?_
        refine WA_take 6 rfl rfl rfl (by kernel_rfl) (by kernel_rfl) (H.kh (by simp) (by repeat' first | exact kNil | apply kCons | apply kApp | assumption | exact OwnS.keys (by assumption))) (fun _ hC => R_cat_S rfl rfl (by simp [Ring.bytes_len, Cm.frontB])) ?_
        refine WA_takeM 7 rfl rfl rfl (by kernel_rfl) (by kernel_rfl) (H.kh (by simp) (by repeat' first | exact kNil | apply kCons | apply kApp | assumption | exact OwnS.keys (by assumption))) (fun _ hC => R_as) ?_
        refine WA_done (by kernel_rfl) ?_
        refine W_ret ?_
        exact ⟨_, rfl, rfl, H.none (by repeat' first | exact kNil | apply kCons | apply kApp | assumption | exact OwnS.keys (by assumption))⟩
    · (refine WI_call rfl (.inl rfl) (R_call rfl Tryz.call30 rfl) (refFront_ret _) (fun _ _ hR _ => (H.seq0 hR.2).kh (by simp) (by repeat' first | exact kNil | apply kCons | apply kApp | assumption | exact OwnS.keys (by assumption))) ?_; rintro _ w64 ⟨rfl, H1⟩; replace H := H.seq0 H1; clear H1)
      refine WA_one (i := 0) (by kernel_rfl) ?_
      (refine WI_effnA rfl (.inl rfl) (E_makeSlice H Tryz.underlying22 Tryz.sizeOf5 Tryz.typeInfo5 Tryz.zeroValue5 rfl rfl rfl (by decide) (by decide) (by decide) (by simp only [Tryz.t5]; decide)) (fun _ _ _ H _ => H.kh (by simp) (by repeat' first | exact kNil | apply kCons | apply kApp | assumption | exact OwnS.keys (by assumption))) ?_; clear H; intro b1 w66 hb1 H; replace H : Hp w [(b1, blk ((List.replicate 448 (0 : UInt8)).map U) 5)] w66 := (by rw [List.map_replicate]; exact H))
      refine WA_one (i := 1) (by kernel_rfl) ?_
      refine WI_value rfl (.inl rfl) (R_conv_bs (xs := List.replicate 448 0) Tryz.underlying22 Tryz.underlying5 Tryz.underlying9 rfl (RdS.blk (xs := (List.replicate 448 (0 : UInt8)).map U) (off := 0) (m := 448) (cap := 448) (H.get .here) (by rw [List.drop_zero, List.take_of_length_le (by simp)]) (by simp) (by simp))) (by first | exact fun h => absurd h (by decide) | exact fun _ => H | exact fun _ => H.none (by repeat' first | exact kNil | apply kCons | apply kApp | assumption | exact OwnS.keys (by assumption)) | exact fun _ => H.dropN (by repeat' first | exact kNil | apply kCons | apply kApp | assumption | exact OwnS.keys (by assumption)) | exact fun _ => H.pop (by assumption) | exact fun _ => (H.pop (by assumption)).pop (by assumption) | exact fun _ => H.kp | exact fun _ => H.kp.tail | exact fun _ => H.kp.tail.tail | exact fun _ => H.kp.tail.tail.tail | exact fun _ => H.kp.sub (by simp) | exact fun _ => Kp.nil | exact fun _ => H.kh (by simp) (by repeat' first | exact kNil | apply kCons | apply kApp | assumption | exact OwnS.keys (by assumption))) ?_
      refine WA_take 4 rfl rfl rfl (by kernel_rfl) (by kernel_rfl) (H.kh (by simp) (by repeat' first | exact kNil | apply kCons | apply kApp | assumption | exact OwnS.keys (by assumption))) (fun _ hC => R_cat_S rfl rfl (by simp [Ring.bytes_len])) ?_
      refine WA_take 6 rfl rfl rfl (by kernel_rfl) (by kernel_rfl) (H.kh (by simp) (by repeat' first | exact kNil | apply kCons | apply kApp | assumption | exact OwnS.keys (by assumption))) (fun _ hC => R_cat_S rfl rfl (by simp [Ring.bytes_len, Cm.frontB])) ?_
      refine WA_takeM 7 rfl rfl rfl (by kernel_rfl) (by kernel_rfl) (H.kh (by simp) (by repeat' first | exact kNil | apply kCons | apply kApp | assumption | exact OwnS.keys (by assumption))) (fun _ hC => R_as) ?_
      refine WA_done (by kernel_rfl) ?_
      refine W_ret ?_
      exact ⟨_, rfl, rfl, H.none (by repeat' first | exact kNil | apply kCons | apply kApp | assumption | exact OwnS.keys (by assumption))⟩
end Go.Proofs.YthonajikgljgmaaGreat.Aud
