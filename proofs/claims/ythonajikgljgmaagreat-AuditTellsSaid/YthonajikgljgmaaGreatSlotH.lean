/-
  Slots that are of bytes, as the document has it; slots are alike or not.
-/
import Derived.Test.YthonajikgljgmaaGreatSlotD
namespace Go.Proofs.YthonajikgljgmaaGreat.Slot
open Go Go.Proofs Go.Proofs.YthonajikgljgmaaGreat.Fx Go.Proofs.YthonajikgljgmaaGreat.Codec
set_option maxRecDepth 100000
set_option linter.unusedVariables false
set_option linter.unusedSimpArgs false
set_option maxHeartbeats 2000000

def piK : List IntKind := [.i64] ++ ([.i64] ++ ([.i64] ++ ([.i64] ++ ([.i64] ++ ([.i64] ++ ([.i64] ++ ([.i64] ++ (List.replicate 8 .i64 ++ []))))))))
def piN (p : Pi) : List Int := [p.s, p.p, p.g, p.e, p.a.toInt, p.b.toInt, p.c.toInt, p.d.toInt] ++ p.f
theorem piC_K (p : Pi) : piC p = cellsK piK (piN p) := by
  show _ = [I p.s, I p.p, I p.g, I p.e, I p.a.toInt, I p.b.toInt, I p.c.toInt, I p.d.toInt] ++ List.zipWith Value.int (List.replicate 8 .i64 ++ []) p.f
  rw [List.append_nil, zip_rep 8 _ p.hf]
  rfl
theorem piN_len (p : Pi) : (piN p).length = piK.length := by simp [piN, piK, p.hf]
theorem piN_inj {p q : Pi} : piN p = piN q ↔ p = q := by
  refine ⟨fun h => ?_, fun h => by rw [h]⟩
  unfold piN at h
  have h2 := List.append_inj h rfl
  have h3 := h2.1
  simp only [List.cons.injEq, and_true] at h3
  obtain ⟨h4, h5, h6, h7, h8, h9, h10, h11⟩ := h3
  exact pi_ext h4 h5 h6 h7 (BitVec.eq_of_toInt_eq h8) (BitVec.eq_of_toInt_eq h9) (BitVec.eq_of_toInt_eq h10) (BitVec.eq_of_toInt_eq h11) h2.2
instance : DecidableEq Pi := fun _ _ => decidable_of_iff _ piN_inj
theorem eq_pi : EqC Tryz.prog 36 piK true 3 := by
  have hi := EqC.int Tryz.isAgg3 Tryz.sizeOf3 Tryz.underlying3
  refine EqC.struct (d0 := 2) Tryz.isAgg36 Tryz.sizeOf36 Tryz.underlying36 (by kernel_rfl) ?_
  unfold piK
  refine FieldsC.cons (by decide) rfl hi (by decide) ?_
  refine FieldsC.cons (by decide) rfl hi (by decide) ?_
  refine FieldsC.cons (by decide) rfl hi (by decide) ?_
  refine FieldsC.cons (by decide) rfl hi (by decide) ?_
  refine FieldsC.cons (by decide) rfl hi (by decide) ?_
  refine FieldsC.cons (by decide) rfl hi (by decide) ?_
  refine FieldsC.cons (by decide) rfl hi (by decide) ?_
  refine FieldsC.cons (by decide) rfl hi (by decide) ?_
  exact FieldsC.cons (by decide) rfl eq_fds (by decide) .nil

section
variable {E : Env} {w : World} {d : Option Nat} {ty : TypeId} {pos : String} {after : Array Edge} {t' : TypeId} {x y : Operand} {f g : Pi}
theorem R_eq_P (hx : ev E x = vP f) (hy : ev E y = vP g)
    : (execOp (ev E) (mk d (.binOp .eql 36 x y t') ty pos after)).run Tryz.prog w = .ok (.value (.bool (decide (f = g)))) w := by
  rw [R_eq_C eq_pi (by decide) (by kernel_rfl) hx hy (piC_K f) (piC_K g) (piN_len f) (piN_len g), decide_eq_decide.2 piN_inj]
theorem R_ne_P (hx : ev E x = vP f) (hy : ev E y = vP g)
    : (execOp (ev E) (mk d (.binOp .neq 36 x y t') ty pos after)).run Tryz.prog w = .ok (.value (.bool (decide (¬ f = g)))) w := by
  rw [R_ne_C eq_pi (by decide) (by kernel_rfl) hx hy (piC_K f) (piC_K g) (piN_len f) (piN_len g), decide_eq_decide.2 (not_congr piN_inj)]
theorem R_ne_P_f (hx : ev E x = vP f) (hy : ev E y = vP f)
    : (execOp (ev E) (mk d (.binOp .neq 36 x y t') ty pos after)).run Tryz.prog w = .ok (.value (.bool false)) w := by
  rw [R_ne_P hx hy, decide_eq_false (fun h => h rfl)]
theorem R_eq_P_t (hx : ev E x = vP f) (hy : ev E y = vP f)
    : (execOp (ev E) (mk d (.binOp .eql 36 x y t') ty pos after)).run Tryz.prog w = .ok (.value (.bool true)) w := by
  rw [R_eq_P hx hy, decide_eq_true rfl]
end

theorem three {xs : List UInt8} (h8 : xs.length = 24) (hz : ¬ ∀ x ∈ xs, x = 0) {ff : Pi} (hff : ff = ofB xs) : (okP ff ∧ bytesP ff = xs ∧ decP xs = (ff, 1)) ∨ (okP ff ∧ ¬ bytesP ff = xs ∧ decP xs = (zeroP, 2)) ∨ (¬ okP ff ∧ decP xs = (zeroP, 2)) := by
  subst hff
  by_cases h1 : okP (ofB xs)
  · by_cases h2 : bytesP (ofB xs) = xs
    · exact .inl ⟨h1, h2, decP_good ⟨h8, h1, h2⟩⟩
    · exact .inr (.inl ⟨h1, h2, decP_bad (fun h => h2 h.2.2) (fun h => hz h.2)⟩)
  · exact .inr (.inr ⟨h1, decP_bad (fun h => h1 h.2.1) (fun h => hz h.2)⟩)
theorem pickT {xs : List UInt8} (h : xs.length = 24) {i : Nat} (hi : i < 4) : [I (ofB xs).a.toInt, I (ofB xs).b.toInt, I (ofB xs).c.toInt, I (ofB xs).d.toInt][i]? = some (I ((xs[4 + 2 * i]'(by omega)).toNat * 256 + (xs[4 + 2 * i + 1]'(by omega)).toNat)) := by
  have := pickV h hi
  match i, hi with
  | 0, _ => exact this
  | 1, _ => exact this
  | 2, _ => exact this
  | 3, _ => exact this
theorem first8 {xs : List UInt8} (h : xs.length = 24) : (piC (ofB xs)).take 8 = [I (xs[0]'(by omega)).toNat, I (xs[1]'(by omega)).toNat, I (xs[2]'(by omega)).toNat, I (xs[3]'(by omega)).toNat, I (ofB xs).a.toInt, I (ofB xs).b.toInt, I (ofB xs).c.toInt, I (ofB xs).d.toInt] := by
  rw [← nb_get, ← nb_get, ← nb_get, ← nb_get]
  rfl

theorem refOf_ret {xs : List UInt8} {w : World} (hb : xs.length ≤ 100000) :
    Ret Tryz.prog 27 #[S xs] w fun v w' => v = .tuple #[vP (decP xs).1, I (decP xs).2] ∧ Hp w [] w' := by
  refine Ret_of_WC (args := [_]) Tryz.func27 rfl Tryz.ntmps27 Tryz.results27 (by simp) ?_
  have H := Hp.refl w
  by_cases h8 : xs.length = 24
  · by_cases hz : ∀ x ∈ xs, x = 0
    · rw [decP_free h8 hz]
      refine W_seq ?_
      refine W_region_l ?_
      (refine WL_effn rfl (E_allocP H) ?_; clear H; intro b2 w3 hb2 H)
      refine WL_stepM rfl (R_as) ?_
      refine WL_nil ?_
      refine W_seq ?_
      refine W_seq ?_
      refine W_region_l ?_
      refine WL_stepM rfl (R_mv) ?_
      refine WL_step rfl (R_len_S Tryz.underlying9 rfl) ?_
      refine WL_step rfl (R_ne_f rfl rfl (by omega)) ?_
      refine WL_nil ?_
      refine W_cond_f rfl ?_
      refine W_skip ?_
      refine W_seq ?_
      refine W_seq ?_
      refine W_region_l ?_
      refine WL_stepM rfl (R_mv) ?_
      (refine WL_call rfl (R_call rfl Tryz.call60 rfl) (refBlank_ret _ hb) ?_; rintro v w19 ⟨hv, H1⟩; rw [decide_eq_true hz] at hv; subst hv; replace H := H.seq0 H1; clear H1)
      refine WL_nil ?_
      refine W_cond_t rfl ?_
      refine W_seq ?_
      refine W_region_l ?_
      refine WL_step rfl R_zeroP ?_
      (refine WL_effu rfl (E_storeP (q := zeroP) H rfl rfl .here) ?_; clear H; intro w25 H)
      refine WL_stepM rfl (R_as) ?_
      refine WL_nil ?_
      refine W_ret ?_
      exact ⟨_, ⟨_, _, rfl, ldP (p := zeroP) (H.get .here), rfl⟩, rfl, H.none (by repeat' first | exact kNil | apply kCons | apply kApp | assumption | exact OwnS.keys (by assumption))⟩
    · obtain ⟨ff, hff⟩ : ∃ ff : Pi, ff = ofB xs := ⟨_, rfl⟩
      have h3 := three h8 hz hff
      have hVl := piC_len ff
      have hV8 := first8 h8
      rw [← hff] at hV8
      obtain ⟨T, hT⟩ : ∃ T, T = [I ff.a.toInt, I ff.b.toInt, I ff.c.toInt, I ff.d.toInt] := ⟨_, rfl⟩
      have hTl : T.length = 4 := by rw [hT]; rfl
      have hTi : ∀ {i : Nat} (hi : i < 4), T[i]? = some (I ((xs[4 + 2 * i]'(by omega)).toNat * 256 + (xs[4 + 2 * i + 1]'(by omega)).toNat)) := fun hi => by rw [hT, hff]; exact pickT h8 hi
      obtain ⟨p1, hp1⟩ : ∃ p1 : Pi, p1 = ⟨(xs[0]'(by omega)).toNat, (xs[1]'(by omega)).toNat, (xs[2]'(by omega)).toNat, (xs[3]'(by omega)).toNat, ff.a, ff.b, ff.c, ff.d, List.replicate 8 0, rfl⟩ := ⟨_, rfl⟩
      have hp1v : piC p1 = [I (xs[0]'(by omega)).toNat, I (xs[1]'(by omega)).toNat, I (xs[2]'(by omega)).toNat, I (xs[3]'(by omega)).toNat, I ff.a.toInt, I ff.b.toInt, I ff.c.toInt, I ff.d.toInt] ++ List.replicate 8 (I 0) := by rw [hp1]; rfl
      have hp18 : piC p1 = (piC ff).take (8 + 0) ++ List.replicate (16 - (8 + 0)) (I 0) := by rw [hp1v, hV8]
      have hT0 : [I 0, I 0, I 0, I 0] = T.take 0 ++ List.replicate (4 - 0) (I 0) := rfl
      refine W_seq ?_
      refine W_region_l ?_
      (refine WL_effn rfl (E_allocP H) ?_; clear H; intro b2 w3 hb2 H)
      refine WL_stepM rfl (R_as) ?_
      refine WL_nil ?_
      refine W_seq ?_
      refine W_seq ?_
      refine W_region_l ?_
      refine WL_stepM rfl (R_mv) ?_
      refine WL_step rfl (R_len_S Tryz.underlying9 rfl) ?_
      refine WL_step rfl (R_ne_f rfl rfl (by omega)) ?_
      refine WL_nil ?_
      refine W_cond_f rfl ?_
      refine W_skip ?_
      refine W_seq ?_
      refine W_seq ?_
      refine W_region_l ?_
      refine WL_stepM rfl (R_mv) ?_
      (refine WL_call rfl (R_call rfl Tryz.call60 rfl) (refBlank_ret _ hb) ?_; rintro v w19 ⟨hv, H1⟩; rw [decide_eq_false hz] at hv; subst hv; replace H := H.seq0 H1; clear H1)
      refine WL_nil ?_
      refine W_cond_f rfl ?_
      refine W_skip ?_
      refine W_seq ?_
      refine W_region_l ?_
      refine WL_step rfl (R_zeroArr (zs := [I 0, I 0, I 0, I 0]) Tryz.underlying114 Tryz.typeInfo114 ⟨_, info_of_run Tryz.typeInfo3 default⟩ rfl rfl) ?_
      (refine WL_effn rfl (E_alloc (vs := [I 0, I 0, I 0, I 0]) H Tryz.zeroValue114 rfl) ?_; clear H; intro b4 w26 hb4 H)
      (refine WL_effu rfl (E_storeA (vs := [I 0, I 0, I 0, I 0]) H Tryz.sizeOf114 rfl rfl (by simp [Value.oneCell']) .here (by simp)) ?_; clear H; intro w27 H; replace H : Hp w [(b4, blk [I 0, I 0, I 0, I 0] 114), (b2, blk (piC zeroP) 36)] _ := H)
      refine WL_nil ?_
      refine W_seq ?_
      refine W_seq ?_
      refine W_region_l ?_
      refine WL_stepM rfl (R_as) ?_
      refine WL_nil ?_
      refine W_block ?_
      refine W_loopS [(5, 5), (16, 35)] (fun (i : Nat) E w' => i ≤ 4 ∧ E 5 = I i ∧ Hp w [(b4, blk (T.take i ++ List.replicate (4 - i) (I 0)) 114), (b2, blk (piC zeroP) 36)] w') (fun i => 4 - i) 0 ?e0 ?r0
      · exact ⟨by omega, rfl, by rw [← hT0]; exact H⟩
      · (clear H; rintro i E w1 ⟨hi, h5, H⟩; refine W_kn h5 ?_; by_cases hlt : i < 4)
        · refine W_seq ?_
          refine W_seq ?_
          refine W_region_l ?_
          refine WL_stepM rfl (R_mv) ?_
          refine WL_step rfl (R_lt_t rfl rfl (by omega)) ?_
          refine WL_nil ?_
          refine W_cond_t rfl ?_
          refine W_skip ?_
          refine W_seq ?_
          refine W_block ?_
          (have hk1 := (xs[4 + 2 * i]'(by omega)).toNat_lt; have hk2 := (xs[4 + 2 * i + 1]'(by omega)).toNat_lt; refine W_draw (KH w [(b2, blk (piC zeroP) 36)]) (fun _ => false) (by kernel_rfl) H ?_; clear H; intro w47 H)
          refine WA_takeM 0 rfl rfl rfl (by kernel_rfl) (by kernel_rfl) (H.kh (by simp) (by repeat' first | exact kNil | apply kCons | apply kApp | assumption | exact OwnS.keys (by assumption))) (fun _ hC => R_mv) ?_
          refine WA_takeM 1 rfl rfl rfl (by kernel_rfl) (by kernel_rfl) (H.kh (by simp) (by repeat' first | exact kNil | apply kCons | apply kApp | assumption | exact OwnS.keys (by assumption))) (fun _ hC => R_mv) ?_
          refine WA_takeM 2 rfl rfl rfl (by kernel_rfl) (by kernel_rfl) (H.kh (by simp) (by repeat' first | exact kNil | apply kCons | apply kApp | assumption | exact OwnS.keys (by assumption))) (fun _ hC => R_mv) ?_
          refine WA_take 3 rfl rfl rfl (by kernel_rfl) (by kernel_rfl) (H.kh (by simp) (by repeat' first | exact kNil | apply kCons | apply kApp | assumption | exact OwnS.keys (by assumption))) (fun _ hC => R_mul (r := ((2 * i : Nat) : Int)) rfl rfl (by rw [w_i64 (by omega)]; omega)) ?_
          refine WA_take 4 rfl rfl rfl (by kernel_rfl) (by kernel_rfl) (H.kh (by simp) (by repeat' first | exact kNil | apply kCons | apply kApp | assumption | exact OwnS.keys (by assumption))) (fun _ hC => R_add (r := ((4 + 2 * i : Nat) : Int)) rfl rfl (by rw [w_i64 (by omega)]; omega)) ?_
          refine WA_take 5 rfl rfl rfl (by kernel_rfl) (by kernel_rfl) (H.kh (by simp) (by repeat' first | exact kNil | apply kCons | apply kApp | assumption | exact OwnS.keys (by assumption))) (fun _ hC => R_index_S (u := xs[4 + 2 * i]) (i := ((4 + 2 * i : Nat) : Int)) Tryz.underlying9 rfl rfl (by omega) (by rw [Int.toNat_natCast]; exact List.getElem?_eq_getElem (by omega))) ?_
          refine WA_take 6 rfl rfl rfl (by kernel_rfl) (by kernel_rfl) (H.kh (by simp) (by repeat' first | exact kNil | apply kCons | apply kApp | assumption | exact OwnS.keys (by assumption))) (fun _ hC => R_conv_int Tryz.underlying5 Tryz.underlying3 rfl u8_in_i64) ?_
          refine WA_take 7 rfl rfl rfl (by kernel_rfl) (by kernel_rfl) (H.kh (by simp) (by repeat' first | exact kNil | apply kCons | apply kApp | assumption | exact OwnS.keys (by assumption))) (fun _ hC => R_shl rfl rfl (by decide) (shl_i64 256 (by decide) (by omega))) ?_
          refine WA_takeM 8 rfl rfl rfl (by kernel_rfl) (by kernel_rfl) (H.kh (by simp) (by repeat' first | exact kNil | apply kCons | apply kApp | assumption | exact OwnS.keys (by assumption))) (fun _ hC => R_mv) ?_
          refine WA_takeM 9 rfl rfl rfl (by kernel_rfl) (by kernel_rfl) (H.kh (by simp) (by repeat' first | exact kNil | apply kCons | apply kApp | assumption | exact OwnS.keys (by assumption))) (fun _ hC => R_mv) ?_
          refine WA_take 10 rfl rfl rfl (by kernel_rfl) (by kernel_rfl) (H.kh (by simp) (by repeat' first | exact kNil | apply kCons | apply kApp | assumption | exact OwnS.keys (by assumption))) (fun _ hC => R_mul (r := ((2 * i : Nat) : Int)) rfl rfl (by rw [w_i64 (by omega)]; omega)) ?_
          refine WA_take 11 rfl rfl rfl (by kernel_rfl) (by kernel_rfl) (H.kh (by simp) (by repeat' first | exact kNil | apply kCons | apply kApp | assumption | exact OwnS.keys (by assumption))) (fun _ hC => R_add (r := ((4 + 2 * i + 1 : Nat) : Int)) rfl rfl (by rw [w_i64 (by omega)]; omega)) ?_
          refine WA_take 12 rfl rfl rfl (by kernel_rfl) (by kernel_rfl) (H.kh (by simp) (by repeat' first | exact kNil | apply kCons | apply kApp | assumption | exact OwnS.keys (by assumption))) (fun _ hC => R_index_S (u := xs[4 + 2 * i + 1]) (i := ((4 + 2 * i + 1 : Nat) : Int)) Tryz.underlying9 rfl rfl (by omega) (by rw [Int.toNat_natCast]; exact List.getElem?_eq_getElem (by omega))) ?_
          refine WA_take 13 rfl rfl rfl (by kernel_rfl) (by kernel_rfl) (H.kh (by simp) (by repeat' first | exact kNil | apply kCons | apply kApp | assumption | exact OwnS.keys (by assumption))) (fun _ hC => R_conv_int Tryz.underlying5 Tryz.underlying3 rfl u8_in_i64) ?_
          refine WA_take 14 rfl rfl rfl (by kernel_rfl) (by kernel_rfl) (H.kh (by simp) (by repeat' first | exact kNil | apply kCons | apply kApp | assumption | exact OwnS.keys (by assumption))) (fun _ hC => R_bits rfl rfl (by simp) (or_bytes _ _)) ?_
          refine WA_take 15 rfl rfl rfl (by kernel_rfl) (by kernel_rfl) (H.kh (by simp) (by repeat' first | exact kNil | apply kCons | apply kApp | assumption | exact OwnS.keys (by assumption))) (fun _ hC => R_indexAddrA (off' := i) Tryz.underlying114 Tryz.sizeOf3 rfl rfl (by omega) (by omega) (by omega)) ?_
          refine WA_one (i := 16) (by kernel_rfl) ?_
          (have _g := hlt; refine WI_effu rfl (.inl rfl) (E_store (v := I (xs[4 + 2 * i].toNat * 256 + xs[4 + 2 * i + 1].toNat)) H Tryz.sizeOf3 rfl rfl rfl .here (by simp; omega)) (fun _ H => (by first | exact fun h => absurd h (by decide) | exact fun _ => H | exact fun _ => H.none (by repeat' first | exact kNil | apply kCons | apply kApp | assumption | exact OwnS.keys (by assumption)) | exact fun _ => H.dropN (by repeat' first | exact kNil | apply kCons | apply kApp | assumption | exact OwnS.keys (by assumption)) | exact fun _ => H.pop (by assumption) | exact fun _ => (H.pop (by assumption)).pop (by assumption) | exact fun _ => H.kp | exact fun _ => H.kp.tail | exact fun _ => H.kp.tail.tail | exact fun _ => H.kp.tail.tail.tail | exact fun _ => H.kp.sub (by simp) | exact fun _ => Kp.nil | exact fun _ => H.kh (by simp) (by repeat' first | exact kNil | apply kCons | apply kApp | assumption | exact OwnS.keys (by assumption)))) ?_; clear H; intro w65 H; rw [fillV hTl (hTi hlt)] at H)
          refine WA_done (by kernel_rfl) ?_
          refine W_region_l ?_
          refine WL_stepM rfl (R_mv) ?_
          refine WL_step rfl (R_add rfl rfl (w_i64 (by omega))) ?_
          refine WL_stepM rfl (R_as) ?_
          refine WL_nil ?_
          exact ⟨(same_mov rfl (same_updo rfl (same_mov rfl (same_updn (same_updo rfl (same_updo rfl (same_updo rfl (same_updo rfl (same_updo rfl (same_updo rfl (same_mov rfl (same_mov rfl (same_updo rfl (same_updo rfl (same_updo rfl (same_updo rfl (same_updo rfl (same_mov rfl (same_mov rfl (same_mov rfl (same_updo rfl (same_mov rfl same_ovr)))))))))))))))))))))), i + 1, by omega, by omega, rfl, H⟩
        · refine W_seq ?_
          refine W_seq ?_
          refine W_region_l ?_
          refine WL_stepM rfl (R_mv) ?_
          refine WL_step rfl (R_lt_f rfl rfl (by omega)) ?_
          refine WL_nil ?_
          refine W_cond_f rfl ?_
          refine W_exit ?_
          refine (if_pos rfl).mpr ?_
          refine W_seq ?_
          (obtain rfl : i = 4 := (by omega); rw [List.take_of_length_le (l := T) (i := 4) (by omega), show 4 - 4 = 0 from rfl, List.replicate_zero, List.append_nil, hT] at H; refine W_draw (KH w [(b4, blk [I ff.a.toInt, I ff.b.toInt, I ff.c.toInt, I ff.d.toInt] 114), (b2, blk (piC zeroP) 36)]) (fun _ => false) (by kernel_rfl) H ?_; clear H; intro w83 H)
          refine WA_takeM 0 rfl rfl rfl (by kernel_rfl) (by kernel_rfl) (H.kh (by simp) (by repeat' first | exact kNil | apply kCons | apply kApp | assumption | exact OwnS.keys (by assumption))) (fun _ hC => R_mv) ?_
          refine WA_take 1 rfl rfl rfl (by kernel_rfl) (by kernel_rfl) (H.kh (by simp) (by repeat' first | exact kNil | apply kCons | apply kApp | assumption | exact OwnS.keys (by assumption))) (fun _ hC => R_index_S (u := xs[0]) (i := 0) Tryz.underlying9 rfl rfl (by omega) (List.getElem?_eq_getElem (by omega))) ?_
          refine WA_take 2 rfl rfl rfl (by kernel_rfl) (by kernel_rfl) (H.kh (by simp) (by repeat' first | exact kNil | apply kCons | apply kApp | assumption | exact OwnS.keys (by assumption))) (fun _ hC => R_conv_int Tryz.underlying5 Tryz.underlying3 rfl u8_in_i64) ?_
          refine WA_takeM 3 rfl rfl rfl (by kernel_rfl) (by kernel_rfl) (H.kh (by simp) (by repeat' first | exact kNil | apply kCons | apply kApp | assumption | exact OwnS.keys (by assumption))) (fun _ hC => R_mv) ?_
          refine WA_take 4 rfl rfl rfl (by kernel_rfl) (by kernel_rfl) (H.kh (by simp) (by repeat' first | exact kNil | apply kCons | apply kApp | assumption | exact OwnS.keys (by assumption))) (fun _ hC => R_index_S (u := xs[1]) (i := 1) Tryz.underlying9 rfl rfl (by omega) (List.getElem?_eq_getElem (by omega))) ?_
          refine WA_take 5 rfl rfl rfl (by kernel_rfl) (by kernel_rfl) (H.kh (by simp) (by repeat' first | exact kNil | apply kCons | apply kApp | assumption | exact OwnS.keys (by assumption))) (fun _ hC => R_conv_int Tryz.underlying5 Tryz.underlying3 rfl u8_in_i64) ?_
          refine WA_takeM 6 rfl rfl rfl (by kernel_rfl) (by kernel_rfl) (H.kh (by simp) (by repeat' first | exact kNil | apply kCons | apply kApp | assumption | exact OwnS.keys (by assumption))) (fun _ hC => R_mv) ?_
          refine WA_take 7 rfl rfl rfl (by kernel_rfl) (by kernel_rfl) (H.kh (by simp) (by repeat' first | exact kNil | apply kCons | apply kApp | assumption | exact OwnS.keys (by assumption))) (fun _ hC => R_index_S (u := xs[2]) (i := 2) Tryz.underlying9 rfl rfl (by omega) (List.getElem?_eq_getElem (by omega))) ?_
          refine WA_take 8 rfl rfl rfl (by kernel_rfl) (by kernel_rfl) (H.kh (by simp) (by repeat' first | exact kNil | apply kCons | apply kApp | assumption | exact OwnS.keys (by assumption))) (fun _ hC => R_conv_int Tryz.underlying5 Tryz.underlying3 rfl u8_in_i64) ?_
          refine WA_takeM 9 rfl rfl rfl (by kernel_rfl) (by kernel_rfl) (H.kh (by simp) (by repeat' first | exact kNil | apply kCons | apply kApp | assumption | exact OwnS.keys (by assumption))) (fun _ hC => R_mv) ?_
          refine WA_take 10 rfl rfl rfl (by kernel_rfl) (by kernel_rfl) (H.kh (by simp) (by repeat' first | exact kNil | apply kCons | apply kApp | assumption | exact OwnS.keys (by assumption))) (fun _ hC => R_index_S (u := xs[3]) (i := 3) Tryz.underlying9 rfl rfl (by omega) (List.getElem?_eq_getElem (by omega))) ?_
          refine WA_take 11 rfl rfl rfl (by kernel_rfl) (by kernel_rfl) (H.kh (by simp) (by repeat' first | exact kNil | apply kCons | apply kApp | assumption | exact OwnS.keys (by assumption))) (fun _ hC => R_conv_int Tryz.underlying5 Tryz.underlying3 rfl u8_in_i64) ?_
          refine WA_take 12 rfl rfl rfl (by kernel_rfl) (by kernel_rfl) (H.kh (by simp) (by repeat' first | exact kNil | apply kCons | apply kApp | assumption | exact OwnS.keys (by assumption))) (fun _ hC => R_indexAddrA (off' := 0) Tryz.underlying114 Tryz.sizeOf3 rfl rfl (by omega) (by omega) rfl) ?_
          refine WA_take 13 rfl rfl rfl (by kernel_rfl) (by kernel_rfl) (H.kh (by simp) (by repeat' first | exact kNil | apply kCons | apply kApp | assumption | exact OwnS.keys (by assumption))) (fun _ hC => R_load (v := I ff.a.toInt) Tryz.isAgg3 rfl (hC.get .here) rfl) ?_
          refine WA_take 14 rfl rfl rfl (by kernel_rfl) (by kernel_rfl) (H.kh (by simp) (by repeat' first | exact kNil | apply kCons | apply kApp | assumption | exact OwnS.keys (by assumption))) (fun _ hC => R_indexAddrA (off' := 1) Tryz.underlying114 Tryz.sizeOf3 rfl rfl (by omega) (by omega) rfl) ?_
          refine WA_take 15 rfl rfl rfl (by kernel_rfl) (by kernel_rfl) (H.kh (by simp) (by repeat' first | exact kNil | apply kCons | apply kApp | assumption | exact OwnS.keys (by assumption))) (fun _ hC => R_load (v := I ff.b.toInt) Tryz.isAgg3 rfl (hC.get .here) rfl) ?_
          refine WA_take 16 rfl rfl rfl (by kernel_rfl) (by kernel_rfl) (H.kh (by simp) (by repeat' first | exact kNil | apply kCons | apply kApp | assumption | exact OwnS.keys (by assumption))) (fun _ hC => R_indexAddrA (off' := 2) Tryz.underlying114 Tryz.sizeOf3 rfl rfl (by omega) (by omega) rfl) ?_
          refine WA_take 17 rfl rfl rfl (by kernel_rfl) (by kernel_rfl) (H.kh (by simp) (by repeat' first | exact kNil | apply kCons | apply kApp | assumption | exact OwnS.keys (by assumption))) (fun _ hC => R_load (v := I ff.c.toInt) Tryz.isAgg3 rfl (hC.get .here) rfl) ?_
          refine WA_take 18 rfl rfl rfl (by kernel_rfl) (by kernel_rfl) (H.kh (by simp) (by repeat' first | exact kNil | apply kCons | apply kApp | assumption | exact OwnS.keys (by assumption))) (fun _ hC => R_indexAddrA (off' := 3) Tryz.underlying114 Tryz.sizeOf3 rfl rfl (by omega) (by omega) rfl) ?_
          refine WA_take 19 rfl rfl rfl (by kernel_rfl) (by kernel_rfl) (H.kh (by simp) (by repeat' first | exact kNil | apply kCons | apply kApp | assumption | exact OwnS.keys (by assumption))) (fun _ hC => R_load (v := I ff.d.toInt) Tryz.isAgg3 rfl (hC.get .here) rfl) ?_
          refine WA_take 20 rfl rfl rfl (by kernel_rfl) (by kernel_rfl) (H.kh (by simp) (by repeat' first | exact kNil | apply kCons | apply kApp | assumption | exact OwnS.keys (by assumption))) (fun _ hC => R_buildL (places := [(0, 1), (1, 1), (2, 1), (3, 1), (4, 1), (5, 1), (6, 1), (7, 1), (8, 8)]) (vs := [I (xs[0]'(by omega)).toNat, I (xs[1]'(by omega)).toNat, I (xs[2]'(by omega)).toNat, I (xs[3]'(by omega)).toNat, I ff.a.toInt, I ff.b.toInt, I ff.c.toInt, I ff.d.toInt] ++ List.replicate 8 (I 0)) Tryz.underlying36 Tryz.typeInfo36 rfl rfl (by kernel_rfl) rfl rfl rfl) ?_
          refine WA_one (i := 21) (by kernel_rfl) ?_
          (refine WI_effnA rfl (.inl rfl) (E_allocP H) (fun _ _ _ H => (by first | exact fun h => absurd h (by decide) | exact fun _ => H | exact fun _ => H.none (by repeat' first | exact kNil | apply kCons | apply kApp | assumption | exact OwnS.keys (by assumption)) | exact fun _ => H.dropN (by repeat' first | exact kNil | apply kCons | apply kApp | assumption | exact OwnS.keys (by assumption)) | exact fun _ => H.pop (by assumption) | exact fun _ => (H.pop (by assumption)).pop (by assumption) | exact fun _ => H.kp | exact fun _ => H.kp.tail | exact fun _ => H.kp.tail.tail | exact fun _ => H.kp.tail.tail.tail | exact fun _ => H.kp.sub (by simp) | exact fun _ => Kp.nil | exact fun _ => H.kh (by simp) (by repeat' first | exact kNil | apply kCons | apply kApp | assumption | exact OwnS.keys (by assumption)))) ?_; clear H; intro b6 w106 hb6 H)
          refine WA_one (i := 22) (by kernel_rfl) ?_
          (refine WI_effu rfl (.inl rfl) (E_storeP (q := p1) H rfl (congrArg (fun l => Value.agg (List.toArray l)) hp1v.symm) .here) (fun _ H => (by first | exact fun h => absurd h (by decide) | exact fun _ => H | exact fun _ => H.none (by repeat' first | exact kNil | apply kCons | apply kApp | assumption | exact OwnS.keys (by assumption)) | exact fun _ => H.dropN (by repeat' first | exact kNil | apply kCons | apply kApp | assumption | exact OwnS.keys (by assumption)) | exact fun _ => H.pop (by assumption) | exact fun _ => (H.pop (by assumption)).pop (by assumption) | exact fun _ => H.kp | exact fun _ => H.kp.tail | exact fun _ => H.kp.tail.tail | exact fun _ => H.kp.tail.tail.tail | exact fun _ => H.kp.sub (by simp) | exact fun _ => Kp.nil | exact fun _ => H.kh (by simp) (by repeat' first | exact kNil | apply kCons | apply kApp | assumption | exact OwnS.keys (by assumption)))) ?_; clear H; intro w108 H)
          refine WA_done (by kernel_rfl) ?_
          refine W_seq ?_
          refine W_seq ?_
          refine W_region_l ?_
          refine WL_stepM rfl (R_as) ?_
          refine WL_nil ?_
          refine W_block ?_
          refine W_loopS [(7, 7), (57, 68)] (fun (m : Nat) E w' => m ≤ 8 ∧ E 7 = I m ∧ Hp w [(b6, blk ((piC ff).take (8 + m) ++ List.replicate (16 - (8 + m)) (I 0)) 36), (b4, blk [I ff.a.toInt, I ff.b.toInt, I ff.c.toInt, I ff.d.toInt] 114), (b2, blk (piC zeroP) 36)] w') (fun m => 8 - m) 0 ?e2 ?r2
          · exact ⟨by omega, rfl, by rw [← hp18]; exact H⟩
          · (clear H; rintro m E w1 ⟨hmm, h9, H⟩; refine W_kn h9 ?_; by_cases hlm : m < 8)
            · refine W_seq ?_
              refine W_seq ?_
              refine W_region_l ?_
              refine WL_stepM rfl (R_mv) ?_
              refine WL_step rfl (R_lt_t rfl rfl (by omega)) ?_
              refine WL_nil ?_
              refine W_cond_t rfl ?_
              refine W_skip ?_
              refine W_seq ?_
              refine W_block ?_
              refine W_region_l ?_
              refine WL_stepM rfl (R_mv) ?_
              refine WL_stepM rfl (R_mv) ?_
              refine WL_stepM rfl (R_mv) ?_
              refine WL_step rfl (R_add (r := ((12 + m : Nat) : Int)) rfl rfl (by rw [w_i64 (by omega)]; omega)) ?_
              refine WL_step rfl (R_index_S (u := xs[12 + m]) (i := ((12 + m : Nat) : Int)) Tryz.underlying9 rfl rfl (by omega) (by rw [Int.toNat_natCast]; exact List.getElem?_eq_getElem (by omega))) ?_
              refine WL_step rfl (R_conv_int Tryz.underlying5 Tryz.underlying3 rfl u8_in_i64) ?_
              refine WL_step rfl (R_fieldAddr (off' := 8) Tryz.underlying36 rfl Tryz.sizeOf34 (by decide) rfl rfl) ?_
              refine WL_step rfl (R_indexAddrA (off' := 8 + m) Tryz.underlying34 Tryz.sizeOf3 rfl rfl (by omega) (by omega) (by omega)) ?_
              (have _g := hlm; refine WL_effu rfl (E_store (v := I xs[12 + m].toNat) H Tryz.sizeOf3 rfl rfl rfl .here (by simp [hVl]; omega)) ?_; clear H; intro w137 H; rw [fillV hVl (by rw [hff]; exact pickW h8 hlm)] at H)
              refine WL_nil ?_
              refine W_region_l ?_
              refine WL_stepM rfl (R_mv) ?_
              refine WL_step rfl (R_add rfl rfl (w_i64 (by omega))) ?_
              refine WL_stepM rfl (R_as) ?_
              refine WL_nil ?_
              exact ⟨(same_mov rfl (same_updo rfl (same_mov rfl (same_updn (same_updo rfl (same_updo rfl (same_updo rfl (same_updo rfl (same_updo rfl (same_mov rfl (same_mov rfl (same_mov rfl (same_updo rfl (same_mov rfl same_ovr)))))))))))))), m + 1, by omega, by omega, rfl, H⟩
            · refine W_seq ?_
              refine W_seq ?_
              refine W_region_l ?_
              refine WL_stepM rfl (R_mv) ?_
              refine WL_step rfl (R_lt_f rfl rfl (by omega)) ?_
              refine WL_nil ?_
              refine W_cond_f rfl ?_
              refine W_exit ?_
              refine (if_pos rfl).mpr ?_
              refine W_seq ?_
              refine W_seq ?_
              ((obtain rfl : m = 8 := (by omega); rw [List.take_of_length_le (l := piC ff) (i := 8 + 8) (by omega), show 16 - (8 + 8) = 0 from rfl, List.replicate_zero, List.append_nil] at H; rcases h3 with ⟨hok, hby, hdec⟩ | ⟨hok, hby, hdec⟩ | ⟨hok, hdec⟩)) <;> refine W_region_l ?_
              · refine WL_step rfl (R_loadP rfl (H.get .here)) ?_
                (refine WL_call rfl (R_call rfl Tryz.call61 rfl) (refOk_to (decide_eq_true hok) _) ?_; rintro _ w158 ⟨rfl, H1⟩; replace H := H.seq0 H1; clear H1)
                refine WL_step rfl (R_not_t rfl) ?_
                refine WL_stepM rfl (R_mv) ?_
                refine WL_guard_t rfl rfl ?_
                refine WL_step rfl (R_loadP rfl (H.get .here)) ?_
                refine WL_guard_t rfl rfl ?_
                (refine WL_call rfl (R_call rfl Tryz.call14 rfl) (refBytes_ret ff hok _) ?_; rintro _ w164 ⟨rfl, H1⟩; replace H := H.seq0 H1; clear H1)
                refine WL_guard_t rfl rfl ?_
                refine WL_stepM rfl (R_mv) ?_
                refine WL_guard_t rfl rfl ?_
                refine WL_step rfl (R_ne_S_f rfl rfl hby) ?_
                refine WL_stepM rfl (R_pk_f rfl) ?_
                refine WL_nil ?_
                refine W_cond_f rfl ?_
                refine W_skip ?_
                refine W_seq ?_
                refine W_region_l ?_
                refine WL_step rfl (R_loadP rfl (H.get .here)) ?_
                (refine WL_effu rfl (E_storeP (q := ff) H rfl rfl (.there (.there .here))) ?_; clear H; intro w176 H)
                refine WL_stepM rfl (R_as) ?_
                refine WL_nil ?_
                refine W_ret ?_
                exact ⟨_, ⟨_, _, rfl, ldP (p := ff) (H.get (.there (.there .here))), rfl⟩, (by simp only [hdec]; rfl), H.none (by repeat' first | exact kNil | apply kCons | apply kApp | assumption | exact OwnS.keys (by assumption))⟩
              · refine WL_step rfl (R_loadP rfl (H.get .here)) ?_
                (refine WL_call rfl (R_call rfl Tryz.call61 rfl) (refOk_to (decide_eq_true hok) _) ?_; rintro _ w182 ⟨rfl, H1⟩; replace H := H.seq0 H1; clear H1)
                refine WL_step rfl (R_not_t rfl) ?_
                refine WL_stepM rfl (R_mv) ?_
                refine WL_guard_t rfl rfl ?_
                refine WL_step rfl (R_loadP rfl (H.get .here)) ?_
                refine WL_guard_t rfl rfl ?_
                (refine WL_call rfl (R_call rfl Tryz.call14 rfl) (refBytes_ret ff hok _) ?_; rintro _ w188 ⟨rfl, H1⟩; replace H := H.seq0 H1; clear H1)
                refine WL_guard_t rfl rfl ?_
                refine WL_stepM rfl (R_mv) ?_
                refine WL_guard_t rfl rfl ?_
                refine WL_step rfl (R_ne_S_t rfl rfl hby) ?_
                refine WL_stepM rfl (R_pk_f rfl) ?_
                refine WL_nil ?_
                refine W_cond_t rfl ?_
                refine W_seq ?_
                refine W_region_l ?_
                refine WL_step rfl R_zeroP ?_
                (refine WL_effu rfl (E_storeP (q := zeroP) H rfl rfl (.there (.there .here))) ?_; clear H; intro w199 H)
                refine WL_stepM rfl (R_as) ?_
                refine WL_nil ?_
                refine W_ret ?_
                exact ⟨_, ⟨_, _, rfl, ldP (p := zeroP) (H.get (.there (.there .here))), rfl⟩, (by simp only [hdec]; rfl), H.none (by repeat' first | exact kNil | apply kCons | apply kApp | assumption | exact OwnS.keys (by assumption))⟩
              · refine WL_step rfl (R_loadP rfl (H.get .here)) ?_
                (refine WL_call rfl (R_call rfl Tryz.call61 rfl) (refOk_to (decide_eq_false hok) _) ?_; rintro _ w205 ⟨rfl, H1⟩; replace H := H.seq0 H1; clear H1)
                refine WL_step rfl (R_not_f rfl) ?_
                refine WL_stepM rfl (R_mv) ?_
                refine WL_guard_f rfl rfl (by decide) ?_
                refine WL_guard_f rfl rfl (by decide) ?_
                refine WL_guard_f rfl rfl (by decide) ?_
                refine WL_guard_f rfl rfl (by decide) ?_
                refine WL_stepM rfl (R_pk_t rfl) ?_
                refine WL_nil ?_
                refine W_cond_t rfl ?_
                refine W_seq ?_
                refine W_region_l ?_
                refine WL_step rfl R_zeroP ?_
                (refine WL_effu rfl (E_storeP (q := zeroP) H rfl rfl (.there (.there .here))) ?_; clear H; intro w218 H)
                refine WL_stepM rfl (R_as) ?_
                refine WL_nil ?_
                refine W_ret ?_
                exact ⟨_, ⟨_, _, rfl, ldP (p := zeroP) (H.get (.there (.there .here))), rfl⟩, (by simp only [hdec]; rfl), H.none (by repeat' first | exact kNil | apply kCons | apply kApp | assumption | exact OwnS.keys (by assumption))⟩
  · have hdec : decP xs = (zeroP, 2) := decP_bad (fun h => h8 h.1) (fun h => h8 h.1)
    rw [hdec]
    refine W_seq ?_
    refine W_region_l ?_
    (refine WL_effn rfl (E_allocP H) ?_; clear H; intro b2 w3 hb2 H)
    refine WL_stepM rfl (R_as) ?_
    refine WL_nil ?_
    refine W_seq ?_
    refine W_seq ?_
    refine W_region_l ?_
    refine WL_stepM rfl (R_mv) ?_
    refine WL_step rfl (R_len_S Tryz.underlying9 rfl) ?_
    refine WL_step rfl (R_ne_t rfl rfl (by omega)) ?_
    refine WL_nil ?_
    refine W_cond_t rfl ?_
    refine W_seq ?_
    refine W_region_l ?_
    refine WL_step rfl R_zeroP ?_
    (refine WL_effu rfl (E_storeP (q := zeroP) H rfl rfl .here) ?_; clear H; intro w17 H)
    refine WL_stepM rfl (R_as) ?_
    refine WL_nil ?_
    refine W_ret ?_
    exact ⟨_, ⟨_, _, rfl, ldP (p := zeroP) (H.get .here), rfl⟩, rfl, H.none (by repeat' first | exact kNil | apply kCons | apply kApp | assumption | exact OwnS.keys (by assumption))⟩
theorem refOf_to {xs : List UInt8} {f : Pi} {d : Int} {w : World} (he : decP xs = (f, d)) (hb : xs.length ≤ 100000) :
    Ret Tryz.prog 27 #[S xs] w fun v w' => v = .tuple #[vP f, I d] ∧ Hp w [] w' := by
  have := refOf_ret (w := w) hb
  rw [he] at this
  exact this
end Go.Proofs.YthonajikgljgmaaGreat.Slot
