/-
  Pipes: their cells; which may be; their bytes.
-/
import Derived.Test.YtlpmfldijgdcoaaGreatDoorBytM
import Derived.Test.YtlpmfldijgdcoaaGreatDoorRefM
import Derived.Test.YtlpmfldijgdcoaaGreatDoorClone
import Derived.Test.YtlpmfldijgdcoaaGreatDoorFxY
import Derived.Test.YtlpmfldijgdcoaaGreatDoorFxZ
import Derived.Test.YtlpmfldijgdcoaaGreatDoorFxT
namespace Go.Proofs.YtlpmfldijgdcoaaGreatDoor.Ring
open Go Go.Proofs Go.Proofs.YtlpmfldijgdcoaaGreatDoor.Fx Go.Proofs.YtlpmfldijgdcoaaGreatDoor.Codec
set_option maxRecDepth 100000
set_option linter.unusedVariables false
set_option linter.unusedSimpArgs false
set_option maxHeartbeats 1000000

/-- a pipe -/
structure Pi where
  h : Int
  c : Int
  r : Int
  w : Int
  d : List UInt8
  hd : d.length = 32
def piC (p : Pi) : List Value := [I p.h, I p.c, I p.r, I p.w] ++ p.d.map U
abbrev vP (p : Pi) : Value := .agg (piC p).toArray
def zeroP : Pi := ⟨0, 0, 0, 0, List.replicate 32 0, rfl⟩
theorem piC_len (p : Pi) : (piC p).length = 36 := by simp [piC, p.hd]
theorem piC_all (p : Pi) : ((piC p).drop 0).take 36 = piC p := by rw [List.drop_zero, List.take_of_length_le (by rw [piC_len]; decide)]
theorem piC_one (p : Pi) : ∀ v ∈ piC p, v.oneCell' = true := by
  intro v hv
  simp only [piC, List.mem_append, List.mem_cons, List.mem_map, List.not_mem_nil, or_false] at hv
  rcases hv with (rfl | rfl | rfl | rfl) | ⟨x, _, rfl⟩ <;> rfl

section
variable {E : Env} {w0 w : World} {L : List (Nat × Obj)} {d : Option Nat} {ty e : TypeId} {pos : String} {after : Array Edge} {x y : Operand} {b : Nat} {p q : Pi} {f : Obj → List (Nat × Obj)}
theorem ldP (hb : w.heap[b]? = some (blk (piC p) e)) : (loadVar 131 ⟨b, 0, none⟩).run Tryz.prog w = .ok (vP p) w :=
  ldA Tryz.isAgg131 Tryz.sizeOf131 hb (piC_all p) (by rw [piC_len]; decide)
theorem R_loadP (hx : ev E x = ptr b 0) (hb : w.heap[b]? = some (blk (piC p) e)) : (execOp (ev E) (mk d (.load 131 x) ty pos after)).run Tryz.prog w = .ok (.value (vP p)) w :=
  R_loadA Tryz.isAgg131 Tryz.sizeOf131 hx hb (piC_all p) (by rw [piC_len]; decide)
theorem E_storeP (H : Hp w0 L w) (hx : ev E x = ptr b 0) (hy : ev E y = vP q) (hL : At L b (blk (piC p) e) f) :
    ∃ w', Hp w0 (f (blk (piC q) e)) w' ∧ (execOp (ev E) (mk d (.store 131 x y) ty pos after)).run Tryz.prog w = .ok .skip w' := by
  have h := E_storeA (d := d) (ty := ty) (pos := pos) (after := after) (vs := piC q) H (fun w => by rw [piC_len]; exact Tryz.sizeOf131 w) hx hy (piC_one q) hL (by rw [piC_len, piC_len]; decide)
  rw [List.take_zero, List.nil_append, piC_len, List.drop_of_length_le (by rw [piC_len]; decide), List.append_nil] at h
  exact h
theorem E_allocP (H : Hp w0 L w) : ∃ b w', w0.heap.size ≤ b ∧ Hp w0 ((b, blk (piC zeroP) 131) :: L) w' ∧ (execOp (ev E) (mk d (.alloc 131) ty pos after)).run Tryz.prog w = .ok (.value (ptr b 0)) w' :=
  E_alloc (vs := piC zeroP) H Tryz.zeroValue131 rfl
theorem E_boxP (H : Hp w0 L w) (hx : ev E x = vP q) : ∃ b w', w0.heap.size ≤ b ∧ Hp w0 ((b, blk (piC q) 131) :: L) w' ∧ (execOp (ev E) (mk d (.box 131 x) ty pos after)).run Tryz.prog w = .ok (.value (ptr b 0)) w' :=
  E_box (v := vP q) (vs := piC q) H hx rfl
end

def okP (p : Pi) : Prop := (0 ≤ p.h ∧ p.h ≤ 31) ∧ (0 ≤ p.c ∧ p.c ≤ 32) ∧ (0 ≤ p.r ∧ p.r ≤ 8) ∧ (0 ≤ p.w ∧ p.w ≤ 8)
instance (p : Pi) : Decidable (okP p) := by unfold okP; infer_instance
def b8 (n : Int) : UInt8 := UInt8.ofNat n.toNat
theorem u8_b8 {n : Int} (h : 0 ≤ n) : IntKind.u8.wrap n = ((b8 n).toNat : Int) := by
  obtain ⟨m, rfl⟩ : ∃ m : Nat, n = (m : Int) := ⟨n.toNat, by omega⟩
  exact u8_ofNat
def hb6 (p : Pi) : List UInt8 := [1, b8 p.h, b8 p.c, b8 p.r, b8 p.w, 197]
/-- a pipe's bytes -/
def bytesP (p : Pi) : List UInt8 := (hb6 p ++ [sumB (hb6 p), 0]) ++ p.d
theorem bytes_len (p : Pi) : (bytesP p).length = 40 := by simp [bytesP, hb6, p.hd]

theorem in_ret (n lo hi : Int) (w : World) : Ret Tryz.prog 70 #[I n, I lo, I hi] w fun v w' => v = .bool (decide (lo ≤ n ∧ n ≤ hi)) ∧ Hp w [] w' := by
  refine Ret_of_W (args := [_, _, _]) Tryz.func70 rfl Tryz.ntmps70 Tryz.results70 (by simp) ?_
  have H := Hp.refl w
  refine W_seq ?_
  refine W_region_l ?_
  refine WL_stepM rfl (R_as) ?_
  refine WL_nil ?_
  refine W_seq ?_
  refine W_region_l ?_
  refine WL_stepM rfl (R_mv) ?_
  refine WL_stepM rfl (R_mv) ?_
  refine WL_step rfl (R_ge rfl rfl) ?_
  refine WL_stepM rfl (R_mv) ?_
  apply WL_andK 4 10 14 [(11, 14)] H
  case hc => rfl
  case h1 =>
    intro h11
    refine WL_guard_t rfl rfl ?_
    refine WL_stepM rfl (R_mv) ?_
    refine WL_guard_t rfl rfl ?_
    refine WL_stepM rfl (R_mv) ?_
    refine WL_guard_t rfl rfl ?_
    refine WL_step rfl (R_le rfl rfl) ?_
    refine WL_stepM rfl (R_pk_t rfl) ?_
    refine WL_nil ?_
    exact ⟨(same_mov rfl (same_updo rfl (same_mov rfl (same_mov rfl Same.refl)))), rfl, H⟩
  case h0 =>
    intro h11
    refine WL_guard_f rfl rfl (by decide) ?_
    refine WL_guard_f rfl rfl (by decide) ?_
    refine WL_guard_f rfl rfl (by decide) ?_
    refine WL_stepM rfl (R_pk_f rfl) ?_
    refine WL_nil ?_
    exact ⟨(same_mov rfl (same_updo rfl (same_updo rfl (same_updo rfl Same.refl)))), rfl, H⟩
  case h2 =>
    (clear H; intro E11 w11 H)
    refine WL_stepM rfl (R_as) ?_
    refine WL_nil ?_
    refine W_ret ?_
    exact ⟨_, rfl, congrArg Value.bool (decide_eq_decide.2 (by omega)), H⟩
theorem in1_ret (n hi : Int) (w : World) : Ret Tryz.prog 149 #[I n, I hi] w fun v w' => v = .bool (decide (0 ≤ n ∧ n ≤ hi)) ∧ Hp w [] w' := by
  refine Ret_of_W (args := [_, _]) Tryz.func149 rfl Tryz.ntmps149 Tryz.results149 (by simp) ?_
  have H := Hp.refl w
  refine W_seq ?_
  refine W_region_l ?_
  refine WL_stepM rfl (R_as) ?_
  refine WL_nil ?_
  refine W_seq ?_
  refine W_region_l ?_
  refine WL_stepM rfl (R_mv) ?_
  refine WL_step rfl (R_ge rfl rfl) ?_
  refine WL_stepM rfl (R_mv) ?_
  apply WL_andK 4 7 11 [(8, 11)] H
  case hc => rfl
  case h1 =>
    intro h10
    refine WL_guard_t rfl rfl ?_
    refine WL_stepM rfl (R_mv) ?_
    refine WL_guard_t rfl rfl ?_
    refine WL_stepM rfl (R_mv) ?_
    refine WL_guard_t rfl rfl ?_
    refine WL_step rfl (R_le rfl rfl) ?_
    refine WL_stepM rfl (R_pk_t rfl) ?_
    refine WL_nil ?_
    exact ⟨(same_mov rfl (same_updo rfl (same_mov rfl (same_mov rfl Same.refl)))), rfl, H⟩
  case h0 =>
    intro h10
    refine WL_guard_f rfl rfl (by decide) ?_
    refine WL_guard_f rfl rfl (by decide) ?_
    refine WL_guard_f rfl rfl (by decide) ?_
    refine WL_stepM rfl (R_pk_f rfl) ?_
    refine WL_nil ?_
    exact ⟨(same_mov rfl (same_updo rfl (same_updo rfl (same_updo rfl Same.refl)))), rfl, H⟩
  case h2 =>
    (clear H; intro E10 w10 H)
    refine WL_stepM rfl (R_as) ?_
    refine WL_nil ?_
    refine W_ret ?_
    exact ⟨_, rfl, congrArg Value.bool (decide_eq_decide.2 (by omega)), H⟩

theorem ok_ret (p : Pi) (w : World) : Ret Tryz.prog 109 #[vP p] w fun v w' => v = .bool (decide (okP p)) ∧ Hp w [] w' := by
  refine Ret_of_W (args := [_]) Tryz.func109 rfl Tryz.ntmps109 Tryz.results109 (by simp) ?_
  have H := Hp.refl w
  refine W_seq ?_
  refine W_region_l ?_
  (refine WL_effn rfl (E_boxP H rfl) ?_; clear H; intro bx w3 hbx H)
  refine WL_stepM rfl (R_as) ?_
  refine WL_nil ?_
  refine W_seq ?_
  refine W_region_l ?_
  refine WL_stepM rfl (R_as) ?_
  refine WL_nil ?_
  refine W_seq ?_
  refine W_region_l ?_
  refine WL_stepM rfl (R_mv) ?_
  refine WL_step rfl (R_fieldAddr (off' := 0) Tryz.underlying131 rfl Tryz.sizeOf3 (by decide) rfl rfl) ?_
  refine WL_step rfl (R_load Tryz.isAgg3 rfl (H.get .here) rfl) ?_
  (refine WL_call rfl (R_call rfl Tryz.call149 rfl) (in1_ret _ _ _) ?_; rintro _ w15 ⟨rfl, H1⟩; replace H := H.seq0 H1; clear H1)
  refine WL_stepM rfl (R_mv) ?_
  apply WL_andK 5 8 13 [(9, 13)] H
  case hc => rfl
  case h1 =>
    intro h17
    refine WL_guard_t rfl rfl ?_
    refine WL_stepM rfl (R_mv) ?_
    refine WL_guard_t rfl rfl ?_
    refine WL_step rfl (R_fieldAddr (off' := 1) Tryz.underlying131 rfl Tryz.sizeOf3 (by decide) rfl rfl) ?_
    refine WL_guard_t rfl rfl ?_
    refine WL_step rfl (R_load Tryz.isAgg3 rfl (H.get .here) rfl) ?_
    refine WL_guard_t rfl rfl ?_
    (refine WL_call rfl (R_call rfl Tryz.call149 rfl) (in1_ret _ _ _) ?_; rintro _ w25 ⟨rfl, H1⟩; replace H := H.seq0 H1; clear H1)
    refine WL_stepM rfl (R_pk_t rfl) ?_
    refine WL_nil ?_
    exact ⟨(same_mov rfl (same_updo rfl (same_updo rfl (same_updo rfl (same_mov rfl Same.refl))))), rfl, H⟩
  case h0 =>
    intro h17
    refine WL_guard_f rfl rfl (by decide) ?_
    refine WL_guard_f rfl rfl (by decide) ?_
    refine WL_guard_f rfl rfl (by decide) ?_
    refine WL_guard_f rfl rfl (by decide) ?_
    refine WL_stepM rfl (R_pk_f rfl) ?_
    refine WL_nil ?_
    exact ⟨(same_mov rfl (same_updo rfl (same_updo rfl (same_updo rfl (same_updo rfl Same.refl))))), rfl, H⟩
  case h2 =>
    (clear H; intro E17 w17 H)
    refine WL_stepM rfl (R_mv) ?_
    apply WL_andK 5 14 19 [(15, 19)] H
    case hc => rfl
    case h1 =>
      intro h37
      refine WL_guard_t rfl rfl ?_
      refine WL_stepM rfl (R_mv) ?_
      refine WL_guard_t rfl rfl ?_
      refine WL_step rfl (R_fieldAddr (off' := 2) Tryz.underlying131 rfl Tryz.sizeOf3 (by decide) rfl rfl) ?_
      refine WL_guard_t rfl rfl ?_
      refine WL_step rfl (R_load Tryz.isAgg3 rfl (H.get .here) rfl) ?_
      refine WL_guard_t rfl rfl ?_
      (refine WL_call rfl (R_call rfl Tryz.call149 rfl) (in1_ret _ _ _) ?_; rintro _ w45 ⟨rfl, H1⟩; replace H := H.seq0 H1; clear H1)
      refine WL_stepM rfl (R_pk_t rfl) ?_
      refine WL_nil ?_
      exact ⟨(same_mov rfl (same_updo rfl (same_updo rfl (same_updo rfl (same_mov rfl Same.refl))))), rfl, H⟩
    case h0 =>
      intro h37
      refine WL_guard_f rfl rfl (by decide) ?_
      refine WL_guard_f rfl rfl (by decide) ?_
      refine WL_guard_f rfl rfl (by decide) ?_
      refine WL_guard_f rfl rfl (by decide) ?_
      refine WL_stepM rfl (R_pk_f rfl) ?_
      refine WL_nil ?_
      exact ⟨(same_mov rfl (same_updo rfl (same_updo rfl (same_updo rfl (same_updo rfl Same.refl))))), rfl, H⟩
    case h2 =>
      (clear H; intro E37 w37 H)
      refine WL_stepM rfl (R_mv) ?_
      apply WL_andK 5 20 25 [(21, 25)] H
      case hc => rfl
      case h1 =>
        intro h57
        refine WL_guard_t rfl rfl ?_
        refine WL_stepM rfl (R_mv) ?_
        refine WL_guard_t rfl rfl ?_
        refine WL_step rfl (R_fieldAddr (off' := 3) Tryz.underlying131 rfl Tryz.sizeOf3 (by decide) rfl rfl) ?_
        refine WL_guard_t rfl rfl ?_
        refine WL_step rfl (R_load Tryz.isAgg3 rfl (H.get .here) rfl) ?_
        refine WL_guard_t rfl rfl ?_
        (refine WL_call rfl (R_call rfl Tryz.call149 rfl) (in1_ret _ _ _) ?_; rintro _ w65 ⟨rfl, H1⟩; replace H := H.seq0 H1; clear H1)
        refine WL_stepM rfl (R_pk_t rfl) ?_
        refine WL_nil ?_
        exact ⟨(same_mov rfl (same_updo rfl (same_updo rfl (same_updo rfl (same_mov rfl Same.refl))))), rfl, H⟩
      case h0 =>
        intro h57
        refine WL_guard_f rfl rfl (by decide) ?_
        refine WL_guard_f rfl rfl (by decide) ?_
        refine WL_guard_f rfl rfl (by decide) ?_
        refine WL_guard_f rfl rfl (by decide) ?_
        refine WL_stepM rfl (R_pk_f rfl) ?_
        refine WL_nil ?_
        exact ⟨(same_mov rfl (same_updo rfl (same_updo rfl (same_updo rfl (same_updo rfl Same.refl))))), rfl, H⟩
      case h2 =>
        (clear H; intro E57 w57 H)
        refine WL_stepM rfl (R_as) ?_
        refine WL_nil ?_
        refine W_ret ?_
        exact ⟨_, rfl, congrArg Value.bool (decide_eq_decide.2 (by simp only [okP]; omega)), H.none kYs⟩
end Go.Proofs.YtlpmfldijgdcoaaGreatDoor.Ring

/-
  Pipes put into bytes.
-/
namespace Go.Proofs.YtlpmfldijgdcoaaGreatDoor.Ring
open Go Go.Proofs Go.Proofs.YtlpmfldijgdcoaaGreatDoor.Fx Go.Proofs.YtlpmfldijgdcoaaGreatDoor.Codec
set_option maxRecDepth 100000
set_option linter.unusedVariables false
set_option linter.unusedSimpArgs false
set_option maxHeartbeats 1000000

theorem put_no {l : Value} (p : Pi) (hok : ¬ okP p) (w : World) : Ret Tryz.prog 162 #[vP p, l] w fun v w' => v = .bool false ∧ Hp w [] w' := by
  refine Ret_of_W (args := [_, _]) Tryz.func162 rfl Tryz.ntmps162 Tryz.results162 (by simp) ?_
  have H := Hp.refl w
  refine W_seq ?_
  refine W_region_l ?_
  (refine WL_effn rfl (E_boxP H rfl) ?_; clear H; intro bx w3 hbx H)
  refine WL_stepM rfl (R_as) ?_
  refine WL_nil ?_
  refine W_seq ?_
  refine W_seq ?_
  refine W_region_l ?_
  refine WL_step rfl (R_loadP rfl (H.get .here)) ?_
  (refine WL_call rfl (R_call rfl Tryz.call109 rfl) (ok_ret p _) ?_; rintro v w10 ⟨hv, H1⟩; rw [decide_eq_false hok] at hv; subst hv; replace H := H.seq0 H1; clear H1)
  refine WL_step rfl (R_not_f rfl) ?_
  refine WL_nil ?_
  refine W_cond_t rfl ?_
  refine W_seq ?_
  refine W_region_l ?_
  refine WL_stepM rfl (R_as) ?_
  refine WL_nil ?_
  refine W_ret ?_
  exact ⟨_, rfl, rfl, H.none kYs⟩

theorem pi_dat (p : Pi) : ((piC p).drop 4).take 32 = p.d.map U := by
  have hd := p.hd
  unfold piC
  rw [List.drop_left' (by simp), List.take_of_length_le (by simp; omega)]
theorem put_cells (p : Pi) (s : UInt8) : (((hb6 p ++ [s, 0]) ++ List.replicate 32 0).map U).take 8 ++ (p.d.map U).take 32 ++ (((hb6 p ++ [s, 0]) ++ List.replicate 32 0).map U).drop (8 + min (p.d.map U).length 32) = ((hb6 p ++ [s, 0]) ++ p.d).map U := by
  have hd := p.hd
  rw [List.take_of_length_le (l := p.d.map U) (by simp; omega), List.length_map, hd, List.drop_of_length_le (by simp [hb6]), List.append_nil, List.map_append, List.take_left' (by simp [hb6]), List.map_append, List.map_append, List.map_append]

theorem put_yes {b : Nat} {w : World} (p : Pi) (hok : okP p) (hb : w.heap[b]? = some (blk ((List.replicate 40 0).map U) 5)) :
    Ret Tryz.prog 162 #[vP p, sl b 0 40 40] w fun v w' => v = .bool true ∧ Hp w [(b, blk ((bytesP p).map U) 5)] w' := by
  refine Ret_of_W (args := [_, _]) Tryz.func162 rfl Tryz.ntmps162 Tryz.results162 (by simp) ?_
  have H := Hp.focus0 hb
  have hd := p.hd
  have hok0 := hok
  unfold okP at hok
  refine W_seq ?_
  refine W_region_l ?_
  (refine WL_effn rfl (E_boxP H rfl) ?_; clear H; intro bx w3 hbx H)
  refine WL_stepM rfl (R_as) ?_
  refine WL_nil ?_
  refine W_seq ?_
  refine W_seq ?_
  refine W_region_l ?_
  refine WL_step rfl (R_loadP rfl (H.get .here)) ?_
  (refine WL_call rfl (R_call rfl Tryz.call109 rfl) (ok_ret p _) ?_; rintro v w10 ⟨hv, H1⟩; rw [decide_eq_true hok0] at hv; subst hv; replace H := H.seq0 H1; clear H1)
  refine WL_step rfl (R_not_t rfl) ?_
  refine WL_nil ?_
  refine W_cond_f rfl ?_
  refine W_skip ?_
  refine W_seq ?_
  refine W_region_l ?_
  refine WL_stepM rfl (R_mv) ?_
  refine WL_step rfl (R_fieldAddr (off' := 0) Tryz.underlying131 rfl Tryz.sizeOf3 (by decide) rfl rfl) ?_
  refine WL_step rfl (R_load Tryz.isAgg3 rfl (H.get .here) rfl) ?_
  refine WL_step rfl (R_conv_int Tryz.underlying3 Tryz.underlying5 rfl (u8_b8 (n := p.h) (by omega))) ?_
  refine WL_step rfl (R_fieldAddr (off' := 1) Tryz.underlying131 rfl Tryz.sizeOf3 (by decide) rfl rfl) ?_
  refine WL_step rfl (R_load Tryz.isAgg3 rfl (H.get .here) rfl) ?_
  refine WL_step rfl (R_conv_int Tryz.underlying3 Tryz.underlying5 rfl (u8_b8 (n := p.c) (by omega))) ?_
  refine WL_step rfl (R_fieldAddr (off' := 2) Tryz.underlying131 rfl Tryz.sizeOf3 (by decide) rfl rfl) ?_
  refine WL_step rfl (R_load Tryz.isAgg3 rfl (H.get .here) rfl) ?_
  refine WL_step rfl (R_conv_int Tryz.underlying3 Tryz.underlying5 rfl (u8_b8 (n := p.r) (by omega))) ?_
  refine WL_step rfl (R_fieldAddr (off' := 3) Tryz.underlying131 rfl Tryz.sizeOf3 (by decide) rfl rfl) ?_
  refine WL_step rfl (R_load Tryz.isAgg3 rfl (H.get .here) rfl) ?_
  refine WL_step rfl (R_conv_int Tryz.underlying3 Tryz.underlying5 rfl (u8_b8 (n := p.w) (by omega))) ?_
  (refine WL_effn rfl (E_buildOnes (vs := [(.int _ _), (.int _ _), (.int _ _), (.int _ _), (.int _ _), (.int _ _)]) H Tryz.underlying36 Tryz.sizeOf5 Tryz.zeroValue5 rfl rfl (by decide) rfl rfl (by simp [Value.oneCell'])) ?_; clear H; intro b30 w30 hb30 H)
  (refine WL_effm rfl (E_copy (xs := (hb6 p).map U) H (.there (.there .here)) Tryz.underlying36 Tryz.sizeOf5 rfl rfl (RdS.blk (H.get .here) rfl (by simp) (by simp)).csrc (by simp) (by simp [Value.oneCell'])) ?_; clear H; rintro _ _ w31 rfl H; replace H := H.pop (by assumption); replace H : Hp w [(bx, blk (piC p) 131), (b, blk ((hb6 p ++ List.replicate 34 0).map U) 5)] _ := H)
  refine WL_nil ?_
  refine W_seq ?_
  refine W_region_l ?_
  refine WL_stepM rfl (R_mv) ?_
  refine WL_stepM rfl (R_mv) ?_
  refine WL_step rfl (R_slice Tryz.underlying36 Tryz.sizeOf5 rfl .none (.some rfl) (by omega) (by omega) (by omega) (by omega) (by omega) rfl) ?_
  (refine WL_call rfl (R_call rfl Tryz.call125 rfl) (sum_ret (xs := hb6 p) (RdS.blk (H.get (.there .here)) rfl (by simp [hb6]) (by simp)) (by simp [hb6])) ?_; rintro _ w38 ⟨rfl, H1⟩; replace H := H.seq0 H1; clear H1)
  refine WL_step rfl (R_indexAddr (off' := 6) Tryz.underlying36 Tryz.sizeOf5 rfl rfl (by omega) (by omega) rfl) ?_
  (refine WL_effu rfl (E_store (v := U (sumB (hb6 p))) H Tryz.sizeOf5 rfl rfl rfl (.there .here) (by simp [hb6])) ?_; clear H; intro w40 H; replace H : Hp w [(bx, blk (piC p) 131), (b, blk (((hb6 p ++ [sumB (hb6 p), 0]) ++ List.replicate 32 0).map U) 5)] _ := H)
  refine WL_nil ?_
  refine W_seq ?_
  (refine W_draw (Kp []) (fun _ => false) (by kernel_rfl) H ?_; clear H; intro w43 H)
  refine WA_takeM 0 rfl rfl rfl (by kernel_rfl) (by kernel_rfl) (H.kp.sub (by simp)) (fun _ hC => R_mv) ?_
  refine WA_take 1 rfl rfl rfl (by kernel_rfl) (by kernel_rfl) (H.kp.sub (by simp)) (fun _ hC => R_from (k := 8) (m := 32) (k' := 8) Tryz.underlying36 Tryz.sizeOf5 rfl rfl rfl (by decide) rfl (by decide)) ?_
  refine WA_take 2 rfl rfl rfl (by kernel_rfl) (by kernel_rfl) (H.kp.sub (by simp)) (fun _ hC => R_fieldAddr (off' := 4) Tryz.underlying131 rfl Tryz.sizeOf129 (by decide) rfl rfl) ?_
  refine WA_take 3 rfl rfl rfl (by kernel_rfl) (by kernel_rfl) (H.kp.sub (by simp)) (fun _ hC => R_all Tryz.underlying129 Tryz.sizeOf5 rfl (by decide)) ?_
  refine WA_one (i := 4) (by kernel_rfl) ?_
  (refine WI_effm rfl (.inl rfl) (E_copy (xs := p.d.map U) (off := 8) H (.there .here) Tryz.underlying36 Tryz.sizeOf5 rfl rfl (RdS.blk (off := 4) (H.get .here) (pi_dat p) (by rw [piC_len]; decide) (by decide)).csrc (by simp [hb6]) (by simp [Value.oneCell'])) (fun _ _ H => (by first | exact fun h => absurd h (by decide) | exact fun _ => H | exact fun _ => H.none kYs | exact fun _ => H.dropN kYs | exact fun _ => H.pop (by assumption) | exact fun _ => (H.pop (by assumption)).pop (by assumption) | exact fun _ => H.kp | exact fun _ => H.kp.tail | exact fun _ => H.kp.tail.tail | exact fun _ => H.kp.tail.tail.tail | exact fun _ => H.kp.sub (by simp) | exact fun _ => Kp.nil | exact fun _ => H.kh (by simp) kYs)) ?_; clear H; rintro _ _ w49 rfl H; rw [put_cells p] at H)
  refine WA_done (by kernel_rfl) ?_
  refine W_seq ?_
  refine W_region_l ?_
  refine WL_stepM rfl (R_as) ?_
  refine WL_nil ?_
  refine W_ret ?_
  exact ⟨_, rfl, rfl, H.pop (by assumption)⟩
end Go.Proofs.YtlpmfldijgdcoaaGreatDoor.Ring

/-
  The codec: what is put, and what is refused.
-/
namespace Go.Proofs.YtlpmfldijgdcoaaGreatDoor.Ring
open Go Go.Proofs Go.Proofs.YtlpmfldijgdcoaaGreatDoor.Fx Go.Proofs.YtlpmfldijgdcoaaGreatDoor.Codec
set_option maxRecDepth 100000
set_option linter.unusedVariables false
set_option linter.unusedSimpArgs false
set_option maxHeartbeats 1000000

/-- the codec -/
abbrev cod : Obj := blk [I 40, .func (.func 162) #[] #[], .func (.func 163) #[] #[]] 261

theorem codec_ret (w : World) : Ret Tryz.prog 122 #[] w fun v w' => ∃ q, v = ptr q 0 ∧ w.heap.size ≤ q ∧ Hp w [(q, cod)] w' := by
  refine Ret_of_W (args := []) Tryz.func122 rfl Tryz.ntmps122 Tryz.results122 (by simp) ?_
  have H := Hp.refl w
  have hnew : Ret Tryz.prog 161 #[I 40, .func (.func 162) #[] #[], .func (.func 163) #[] #[]] w fun v w' => ∃ q, v = ptr q 0 ∧ w.heap.size ≤ q ∧ Hp w [(q, cod)] w' := by
    refine Ret_of_W (args := [_, _, _]) Tryz.func161 rfl Tryz.ntmps161 Tryz.results161 (by simp) ?_
    refine W_seq ?_
    refine W_region_l ?_
    refine WL_stepM rfl (R_as) ?_
    refine WL_nil ?_
    refine W_seq ?_
    refine W_region_l ?_
    refine WL_stepM rfl (R_mv) ?_
    refine WL_step rfl (R_max (r := 40) rfl rfl (by decide)) ?_
    refine WL_step rfl (R_min (r := 40) rfl rfl (by decide)) ?_
    refine WL_stepM rfl (R_mv) ?_
    refine WL_stepM rfl (R_mv) ?_
    refine WL_step rfl (R_buildL (places := [(0, 1), (1, 1), (2, 1)]) (vs := [(.int _ _), (.func _ _ _), (.func _ _ _)]) Tryz.underlying261 Tryz.typeInfo261 rfl rfl (by kernel_rfl) rfl rfl rfl) ?_
    (refine WL_effn rfl (E_box (v := (.agg (List.toArray [(.int _ _), (.func _ _ _), (.func _ _ _)]))) H rfl rfl) ?_; clear H; intro b13 w13 hb13 H)
    refine WL_stepM rfl (R_as) ?_
    refine WL_nil ?_
    refine W_ret ?_
    exact ⟨_, rfl, _, rfl, by assumption, H⟩
  refine W_seq ?_
  refine W_region_l ?_
  refine WL_stepM rfl (R_as) ?_
  refine WL_nil ?_
  refine W_seq ?_
  refine W_region_l ?_
  (refine WL_call rfl (R_call rfl Tryz.call161 rfl) hnew ?_; rintro _ w7 ⟨q, rfl, hq, H1⟩; replace H := H.seqN H1 (kCons hq kNil); clear H1)
  refine WL_stepM rfl (R_as) ?_
  refine WL_nil ?_
  refine W_ret ?_
  exact ⟨_, rfl, _, rfl, hq, H⟩

theorem encM_ret {q : Nat} {w : World} (f : Pi) (hq : w.heap[q]? = some cod) :
    Ret Tryz.prog 123 #[ptr q 0, vP f] w fun v w' => (okP f ∧ ∃ b, v = .tuple #[sl b 0 40 40, .bool true] ∧ w.heap.size ≤ b ∧ Hp w [(b, blk ((bytesP f).map U) 5)] w') ∨ (¬ okP f ∧ v = .tuple #[nilS, .bool false] ∧ Hp w [] w') := by
  refine Ret_of_W (args := [_, _]) Tryz.func123 rfl Tryz.ntmps123 Tryz.results123 (by simp) ?_
  have H := Hp.focus0 hq
  by_cases hok : okP f
  · refine W_seq ?_
    refine W_region_l ?_
    (refine WL_effn rfl (E_boxP H rfl) ?_; clear H; intro bx w3 hbx H)
    refine WL_stepM rfl (R_as) ?_
    refine WL_stepM rfl (R_as) ?_
    refine WL_nil ?_
    refine W_seq ?_
    refine W_region_l ?_
    refine WL_stepM rfl (R_mv) ?_
    refine WL_step rfl (R_nilCheck rfl) ?_
    refine WL_step rfl (R_fieldAddr (off' := 0) Tryz.underlying261 rfl Tryz.sizeOf3 (by decide) rfl rfl) ?_
    refine WL_step rfl (R_load Tryz.isAgg3 rfl (H.get (.there .here)) rfl) ?_
    (refine WL_effn rfl (E_makeSlice H Tryz.underlying36 Tryz.sizeOf5 Tryz.typeInfo5 Tryz.zeroValue5 rfl rfl rfl (by decide) (by decide) (by decide) (by decide)) ?_; clear H; intro b w13 hb H; replace H : Hp w [(b, blk ((List.replicate 40 0).map U) 5), (bx, blk (piC f) 131), (q, cod)] _ := H)
    refine WL_stepM rfl (R_as) ?_
    refine WL_nil ?_
    refine W_seq ?_
    refine W_seq ?_
    (refine W_draw (Kp [(bx, blk (piC f) 131), (q, cod)]) (fun _ => false) (by kernel_rfl) H ?_; clear H; intro w18 H)
    refine WA_takeM 0 rfl rfl rfl (by kernel_rfl) (by kernel_rfl) (H.kp.sub (by simp)) (fun _ hC => R_mv) ?_
    refine WA_take 1 rfl rfl rfl (by kernel_rfl) (by kernel_rfl) (H.kp.sub (by simp)) (fun _ hC => R_nilCheck rfl) ?_
    refine WA_take 2 rfl rfl rfl (by kernel_rfl) (by kernel_rfl) (H.kp.sub (by simp)) (fun _ hC => R_fieldAddr (off' := 1) Tryz.underlying261 rfl Tryz.sizeOf259 (by decide) rfl rfl) ?_
    refine WA_take 3 rfl rfl rfl (by kernel_rfl) (by kernel_rfl) (H.kp.sub (by simp)) (fun _ hC => R_load Tryz.isAgg259 rfl (hC.get (.there .here)) rfl) ?_
    refine WA_take 4 rfl rfl rfl (by kernel_rfl) (by kernel_rfl) (H.kp.sub (by simp)) (fun _ hC => R_eq_fn Tryz.underlying259 rfl rfl) ?_
    refine WA_takeM 5 rfl rfl rfl (by kernel_rfl) (by kernel_rfl) (H.kp.sub (by simp)) (fun _ hC => R_mv) ?_
    refine WA_takeGM 6 rfl rfl rfl rfl (by kernel_rfl) (by kernel_rfl) (H.kp.sub (by simp)) (fun _ hC => R_mv) ?_
    refine WA_takeG 7 rfl rfl rfl rfl (by kernel_rfl) (by kernel_rfl) (H.kp.sub (by simp)) (fun _ hC => R_nilCheck rfl) ?_
    refine WA_takeG 8 rfl rfl rfl rfl (by kernel_rfl) (by kernel_rfl) (H.kp.sub (by simp)) (fun _ hC => R_fieldAddr (off' := 1) Tryz.underlying261 rfl Tryz.sizeOf259 (by decide) rfl rfl) ?_
    refine WA_takeG 9 rfl rfl rfl rfl (by kernel_rfl) (by kernel_rfl) (H.kp.sub (by simp)) (fun _ hC => R_load Tryz.isAgg259 rfl (hC.get (.there .here)) rfl) ?_
    refine WA_takeG 10 rfl rfl rfl rfl (by kernel_rfl) (by kernel_rfl) (H.kp.sub (by simp)) (fun _ hC => R_loadP rfl (hC.get .here)) ?_
    refine WA_takeGM 11 rfl rfl rfl rfl (by kernel_rfl) (by kernel_rfl) (H.kp.sub (by simp)) (fun _ hC => R_mv) ?_
    refine WA_one (i := 12) (by kernel_rfl) ?_
    (refine WI_call rfl (.inr ⟨_, _, rfl, rfl⟩) (R_call rfl Tryz.call162 rfl) (put_yes f hok (H.get .here)) (fun _ _ hR _ => (H.seq hR.2 (okSeq_set .here okSeq_nil)).kp.sub (by simp)) ?_; rintro _ w32 ⟨rfl, H1⟩; replace H := H.seq H1 (okSeq_set .here okSeq_nil); clear H1)
    refine WA_takeG 13 rfl rfl rfl rfl (by kernel_rfl) (by kernel_rfl) (H.kp.sub (by simp)) (fun _ hC => R_not_t rfl) ?_
    refine WA_takeM 14 rfl rfl rfl (by kernel_rfl) (by kernel_rfl) (H.kp.sub (by simp)) (fun _ hC => R_pk_f rfl) ?_
    refine WA_done (by kernel_rfl) ?_
    refine W_cond_f rfl ?_
    refine W_skip ?_
    refine W_seq ?_
    refine W_region_l ?_
    refine WL_stepM rfl (R_mv) ?_
    refine WL_stepM rfl (R_as) ?_
    refine WL_stepM rfl (R_as) ?_
    refine WL_nil ?_
    refine W_ret ?_
    exact ⟨_, rfl, .inl ⟨hok, b, rfl, hb, (H.pop2 hbx).swap2.back hq⟩⟩
  · refine W_seq ?_
    refine W_region_l ?_
    (refine WL_effn rfl (E_boxP H rfl) ?_; clear H; intro bx w3 hbx H)
    refine WL_stepM rfl (R_as) ?_
    refine WL_stepM rfl (R_as) ?_
    refine WL_nil ?_
    refine W_seq ?_
    refine W_region_l ?_
    refine WL_stepM rfl (R_mv) ?_
    refine WL_step rfl (R_nilCheck rfl) ?_
    refine WL_step rfl (R_fieldAddr (off' := 0) Tryz.underlying261 rfl Tryz.sizeOf3 (by decide) rfl rfl) ?_
    refine WL_step rfl (R_load Tryz.isAgg3 rfl (H.get (.there .here)) rfl) ?_
    (refine WL_effn rfl (E_makeSlice H Tryz.underlying36 Tryz.sizeOf5 Tryz.typeInfo5 Tryz.zeroValue5 rfl rfl rfl (by decide) (by decide) (by decide) (by decide)) ?_; clear H; intro b w13 hb H; replace H : Hp w [(b, blk ((List.replicate 40 0).map U) 5), (bx, blk (piC f) 131), (q, cod)] _ := H)
    refine WL_stepM rfl (R_as) ?_
    refine WL_nil ?_
    refine W_seq ?_
    refine W_seq ?_
    (refine W_draw (Kp [(bx, blk (piC f) 131), (q, cod)]) (fun _ => false) (by kernel_rfl) H ?_; clear H; intro w18 H)
    refine WA_takeM 0 rfl rfl rfl (by kernel_rfl) (by kernel_rfl) (H.kp.sub (by simp)) (fun _ hC => R_mv) ?_
    refine WA_take 1 rfl rfl rfl (by kernel_rfl) (by kernel_rfl) (H.kp.sub (by simp)) (fun _ hC => R_nilCheck rfl) ?_
    refine WA_take 2 rfl rfl rfl (by kernel_rfl) (by kernel_rfl) (H.kp.sub (by simp)) (fun _ hC => R_fieldAddr (off' := 1) Tryz.underlying261 rfl Tryz.sizeOf259 (by decide) rfl rfl) ?_
    refine WA_take 3 rfl rfl rfl (by kernel_rfl) (by kernel_rfl) (H.kp.sub (by simp)) (fun _ hC => R_load Tryz.isAgg259 rfl (hC.get (.there .here)) rfl) ?_
    refine WA_take 4 rfl rfl rfl (by kernel_rfl) (by kernel_rfl) (H.kp.sub (by simp)) (fun _ hC => R_eq_fn Tryz.underlying259 rfl rfl) ?_
    refine WA_takeM 5 rfl rfl rfl (by kernel_rfl) (by kernel_rfl) (H.kp.sub (by simp)) (fun _ hC => R_mv) ?_
    refine WA_takeGM 6 rfl rfl rfl rfl (by kernel_rfl) (by kernel_rfl) (H.kp.sub (by simp)) (fun _ hC => R_mv) ?_
    refine WA_takeG 7 rfl rfl rfl rfl (by kernel_rfl) (by kernel_rfl) (H.kp.sub (by simp)) (fun _ hC => R_nilCheck rfl) ?_
    refine WA_takeG 8 rfl rfl rfl rfl (by kernel_rfl) (by kernel_rfl) (H.kp.sub (by simp)) (fun _ hC => R_fieldAddr (off' := 1) Tryz.underlying261 rfl Tryz.sizeOf259 (by decide) rfl rfl) ?_
    refine WA_takeG 9 rfl rfl rfl rfl (by kernel_rfl) (by kernel_rfl) (H.kp.sub (by simp)) (fun _ hC => R_load Tryz.isAgg259 rfl (hC.get (.there .here)) rfl) ?_
    refine WA_takeG 10 rfl rfl rfl rfl (by kernel_rfl) (by kernel_rfl) (H.kp.sub (by simp)) (fun _ hC => R_loadP rfl (hC.get .here)) ?_
    refine WA_takeGM 11 rfl rfl rfl rfl (by kernel_rfl) (by kernel_rfl) (H.kp.sub (by simp)) (fun _ hC => R_mv) ?_
    refine WA_one (i := 12) (by kernel_rfl) ?_
    (refine WI_call rfl (.inr ⟨_, _, rfl, rfl⟩) (R_call rfl Tryz.call162 rfl) (put_no f hok _) (fun _ _ hR _ => (H.seq0 hR.2).kp.sub (by simp)) ?_; rintro _ w32 ⟨rfl, H1⟩; replace H := H.seq0 H1; clear H1)
    refine WA_takeG 13 rfl rfl rfl rfl (by kernel_rfl) (by kernel_rfl) (H.kp.sub (by simp)) (fun _ hC => R_not_f rfl) ?_
    refine WA_takeM 14 rfl rfl rfl (by kernel_rfl) (by kernel_rfl) (H.kp.sub (by simp)) (fun _ hC => R_pk_f rfl) ?_
    refine WA_done (by kernel_rfl) ?_
    refine W_cond_t rfl ?_
    refine W_seq ?_
    refine W_region_l ?_
    refine WL_stepM rfl (R_as) ?_
    refine WL_stepM rfl (R_as) ?_
    refine WL_nil ?_
    refine W_ret ?_
    exact ⟨_, rfl, .inr ⟨hok, rfl, ((H.pop hb).pop hbx).back hq⟩⟩

theorem enc_ret (f : Pi) (w : World) :
    Ret Tryz.prog 85 #[vP f] w fun v w' => (okP f ∧ ∃ b, v = .tuple #[sl b 0 40 40, .bool true] ∧ w.heap.size ≤ b ∧ Hp w [(b, blk ((bytesP f).map U) 5)] w') ∨ (¬ okP f ∧ v = .tuple #[nilS, .bool false] ∧ Hp w [] w') := by
  refine Ret_of_W (args := [_]) Tryz.func85 rfl Tryz.ntmps85 Tryz.results85 (by simp) ?_
  have H := Hp.refl w
  refine W_seq ?_
  refine W_region_l ?_
  (refine WL_effn rfl (E_boxP H rfl) ?_; clear H; intro bx w3 hbx H)
  refine WL_stepM rfl (R_as) ?_
  refine WL_stepM rfl (R_as) ?_
  refine WL_nil ?_
  refine W_seq ?_
  (refine W_draw (Kp [(bx, blk (piC f) 131)]) (fun _ => false) (by kernel_rfl) H ?_; clear H; intro w8 H)
  refine WA_take 1 rfl rfl rfl (by kernel_rfl) (by kernel_rfl) H.kp (fun _ hC => R_loadP rfl (hC.get .here)) ?_
  refine WA_one (i := 0) (by kernel_rfl) ?_
  (refine WI_call rfl (.inl rfl) (R_call rfl Tryz.call122 rfl) (codec_ret _) (fun _ _ ⟨q, _, hq, H1⟩ _ => (H.seqN H1 (kCons hq kNil)).kp.sub (by simp)) ?_; rintro _ w11 ⟨q, rfl, hq, H1⟩; have hsz := H.size; replace H := H.seqN H1 (kCons hq kNil); replace hq := Nat.le_trans hsz hq; clear H1 hsz)
  refine WA_one (i := 2) (by kernel_rfl) ?_
  (refine WI_call rfl (.inl rfl) (R_call rfl Tryz.call123 rfl) (encM_ret f (H.get .here)) (fun _ _ hR _ => by rcases hR with ⟨_, b, _, hb, H1⟩ | ⟨_, _, H1⟩; exact (H.seqN H1 (kCons hb kNil)).kp.sub (by simp); exact (H.seq0 H1).kp.sub (by simp)) ?_; rintro _ w13 (⟨hok, b, rfl, hb, H1⟩ | ⟨hok, rfl, H1⟩); (have hsz := H.size; replace H := H.seqN H1 (kCons hb kNil); replace hb := Nat.le_trans hsz hb; clear H1 hsz); rotate_left; (replace H := H.seq0 H1; clear H1))
  · refine WA_take 3 rfl rfl rfl (by kernel_rfl) (by kernel_rfl) (H.kp.sub (by simp)) (fun _ hC => R_extract rfl rfl) ?_
    refine WA_take 4 rfl rfl rfl (by kernel_rfl) (by kernel_rfl) (H.kp.sub (by simp)) (fun _ hC => R_extract rfl rfl) ?_
    refine WA_takeM 5 rfl rfl rfl (by kernel_rfl) (by kernel_rfl) (H.kp.sub (by simp)) (fun _ hC => R_as) ?_
    refine WA_takeM 6 rfl rfl rfl (by kernel_rfl) (by kernel_rfl) (H.kp.sub (by simp)) (fun _ hC => R_as) ?_
    refine WA_done (by kernel_rfl) ?_
    refine W_ret ?_
    exact ⟨_, rfl, .inr ⟨hok, rfl, H.none kYs⟩⟩
  · refine WA_take 3 rfl rfl rfl (by kernel_rfl) (by kernel_rfl) (H.kp.sub (by simp)) (fun _ hC => R_extract rfl rfl) ?_
    refine WA_take 4 rfl rfl rfl (by kernel_rfl) (by kernel_rfl) (H.kp.sub (by simp)) (fun _ hC => R_extract rfl rfl) ?_
    refine WA_takeM 5 rfl rfl rfl (by kernel_rfl) (by kernel_rfl) (H.kp.sub (by simp)) (fun _ hC => R_as) ?_
    refine WA_takeM 6 rfl rfl rfl (by kernel_rfl) (by kernel_rfl) (H.kp.sub (by simp)) (fun _ hC => R_as) ?_
    refine WA_done (by kernel_rfl) ?_
    refine W_ret ?_
    exact ⟨_, rfl, .inl ⟨hok, b, rfl, hb, Hp.cut (L := [_]) H kYs⟩⟩
theorem enc_yes (f : Pi) (hok : okP f) (w : World) :
    Ret Tryz.prog 85 #[vP f] w fun v w' => ∃ b, v = .tuple #[sl b 0 40 40, .bool true] ∧ w.heap.size ≤ b ∧ Hp w [(b, blk ((bytesP f).map U) 5)] w' :=
  (enc_ret f w).mono fun v w' h => by
    rcases h with ⟨_, h⟩ | ⟨h, _⟩
    · exact h
    · exact (h hok).elim
end Go.Proofs.YtlpmfldijgdcoaaGreatDoor.Ring

/-
  Pipes got of bytes.
-/
namespace Go.Proofs.YtlpmfldijgdcoaaGreatDoor.Ring
open Go Go.Proofs Go.Proofs.YtlpmfldijgdcoaaGreatDoor.Fx Go.Proofs.YtlpmfldijgdcoaaGreatDoor.Codec
set_option maxRecDepth 100000
set_option linter.unusedVariables false
set_option linter.unusedSimpArgs false
set_option maxHeartbeats 2000000

/-- thirty-two bytes -/
def data32 (l : List UInt8) : List UInt8 := (l ++ List.replicate 32 0).take 32
theorem data32_len (l : List UInt8) : (data32 l).length = 32 := by simp [data32]
theorem data32_of {l : List UInt8} (h : l.length = 32) : data32 l = l := by unfold data32; rw [List.take_left' h]
/-- the pipe that bytes would be -/
def ofB (xs : List UInt8) : Pi := ⟨(xs[1]?.getD 0).toNat, (xs[2]?.getD 0).toNat, (xs[3]?.getD 0).toNat, (xs[4]?.getD 0).toNat, data32 (xs.drop 8), data32_len _⟩
def good (xs : List UInt8) : Prop := xs.length = 40 ∧ okP (ofB xs) ∧ bytesP (ofB xs) = xs
instance (xs : List UInt8) : Decidable (good xs) := by unfold good; infer_instance
/-- what bytes are -/
def decP (xs : List UInt8) : Pi × Int := if xs.length = 40 ∧ ∀ x ∈ xs, x = 0 then (zeroP, 0) else if good xs then (ofB xs, 1) else (zeroP, 2)

theorem decP_free {xs : List UInt8} (h8 : xs.length = 40) (hz : ∀ x ∈ xs, x = 0) : decP xs = (zeroP, 0) := if_pos ⟨h8, hz⟩
theorem good_not_free {xs : List UInt8} (h : good xs) : ¬ (xs.length = 40 ∧ ∀ x ∈ xs, x = 0) := by
  rintro ⟨h8, hz⟩
  have h1 := h.2.2
  have : (1 : UInt8) ∈ xs := by rw [← h1]; simp [bytesP, hb6]
  exact absurd (hz 1 this) (by decide)
theorem decP_good {xs : List UInt8} (h : good xs) : decP xs = (ofB xs, 1) := by
  unfold decP; rw [if_neg (good_not_free h), if_pos h]
theorem decP_bad {xs : List UInt8} (h : ¬ good xs) (hf : ¬ (xs.length = 40 ∧ ∀ x ∈ xs, x = 0)) : decP xs = (zeroP, 2) := by
  unfold decP; rw [if_neg hf, if_neg h]
theorem get_cells (xs : List UInt8) (h : xs.length = 40) (p : Pi) (h1 : p.h = (xs[1]?.getD 0).toNat) (h2 : p.c = (xs[2]?.getD 0).toNat) (h3 : p.r = (xs[3]?.getD 0).toNat) (h4 : p.w = (xs[4]?.getD 0).toNat) :
    (piC p).take 4 ++ ((xs.drop 8).map U).take 32 ++ (piC p).drop (4 + min ((xs.drop 8).map U).length 32) = piC (ofB xs) := by
  have hl : (xs.drop 8).length = 32 := by simp; omega
  have hp := piC_len p
  rw [List.take_of_length_le (l := (xs.drop 8).map U) (by simp; omega), List.length_map, hl, List.drop_of_length_le (l := piC p) (by omega), List.append_nil]
  unfold piC
  rw [show ([I p.h, I p.c, I p.r, I p.w] ++ p.d.map U).take 4 = [I p.h, I p.c, I p.r, I p.w] from List.take_left' rfl]
  show _ = [I (ofB xs).h, I (ofB xs).c, I (ofB xs).r, I (ofB xs).w] ++ (data32 (xs.drop 8)).map U
  rw [data32_of hl, h1, h2, h3, h4]
  rfl

theorem R_zeroP {E : Env} {w : World} {d : Option Nat} {ty : TypeId} {pos : String} {after : Array Edge} : (execOp (ev E) (mk d (.build 131 #[]) ty pos after)).run Tryz.prog w = .ok (.value (vP zeroP)) w :=
  R_buildL (places := [(0, 1), (1, 1), (2, 1), (3, 1), (4, 32)]) (vs := piC zeroP) Tryz.underlying131 Tryz.typeInfo131 rfl rfl (by kernel_rfl) rfl rfl rfl
theorem u_one (l : List UInt8) : ∀ v ∈ l.map U, v.oneCell' = true := by
  intro v hv
  obtain ⟨x, _, rfl⟩ := List.mem_map.1 hv
  rfl

theorem get_ret {xs : List UInt8} {w : World} {l : Value} (hl : RdS w l (xs.map U)) (h8 : xs.length = 40) :
    Ret Tryz.prog 163 #[l] w fun v w' => v = .tuple #[vP (ofB xs), .bool (decide (okP (ofB xs) ∧ bytesP (ofB xs) = xs))] ∧ Hp w [] w' := by
  refine Ret_of_WC (args := [_]) Tryz.func163 rfl Tryz.ntmps163 Tryz.results163 (by simp) ?_
  have H := Hp.refl w
  obtain ⟨a, ha⟩ : ∃ a, xs[1]? = some a := ⟨_, List.getElem?_eq_getElem (by omega)⟩
  obtain ⟨b, hb⟩ : ∃ a, xs[2]? = some a := ⟨_, List.getElem?_eq_getElem (by omega)⟩
  obtain ⟨c, hc⟩ : ∃ a, xs[3]? = some a := ⟨_, List.getElem?_eq_getElem (by omega)⟩
  obtain ⟨d, hd⟩ : ∃ a, xs[4]? = some a := ⟨_, List.getElem?_eq_getElem (by omega)⟩
  have hl0 := hl
  obtain ⟨ao, ca, hlca, hra, rfl⟩ : ∃ ao ca, xs.length ≤ ca ∧ (xs.map U = [] ∨ ∃ b off, ao = some ⟨b, off, none⟩ ∧ ∀ j u, (xs.map U)[j]? = some u → w.cell? ⟨b, off + j, none⟩ = some u) ∧ l = .slice ao xs.length ca := by
    obtain ⟨ao, ca, h1, h2, h3⟩ := hl
    rw [List.length_map] at h1 h2
    exact ⟨ao, ca, h2, h3, h1⟩
  obtain ⟨bz, oz, rfl, hcell⟩ : ∃ b off, ao = some ⟨b, off, none⟩ ∧ ∀ j u, (xs.map U)[j]? = some u → w.cell? ⟨b, off + j, none⟩ = some u := by
    rcases hra with h | h
    · have := congrArg List.length h; rw [List.length_map, List.length_nil] at this; omega
    · exact h
  have hm : ∀ {i : Nat} {u : UInt8}, xs[i]? = some u → (xs.map U)[i]? = some (U u) := fun h => by rw [List.getElem?_map, h]; rfl
  have h1 := hcell 1 _ (hm ha)
  have h2 := hcell 2 _ (hm hb)
  have h3 := hcell 3 _ (hm hc)
  have h4 := hcell 4 _ (hm hd)
  have hr8 : RdS w (sl bz (oz + 8) 32 (ca - 8)) ((xs.drop 8).map U) := by
    refine ⟨some ⟨bz, oz + 8, none⟩, ca - 8, by rw [List.length_map, List.length_drop, h8], by rw [List.length_map, List.length_drop, h8]; omega, .inr ⟨bz, oz + 8, rfl, fun j u hj => ?_⟩⟩
    rw [Nat.add_assoc]
    refine hcell (8 + j) u ?_
    rw [List.map_drop, List.getElem?_drop] at hj
    exact hj
  have ha8 := a.toNat_lt
  have hb8 := b.toNat_lt
  have hc8 := c.toNat_lt
  have hd8 := d.toNat_lt
  rw [h8] at hl0 ⊢
  rw [h8] at hlca
  obtain ⟨p0, hp0⟩ : ∃ p0 : Pi, p0 = ⟨a.toNat, b.toNat, c.toNat, d.toNat, List.replicate 32 0, rfl⟩ := ⟨_, rfl⟩
  have hcells := get_cells xs h8 p0 (by rw [hp0, ha]; rfl) (by rw [hp0, hb]; rfl) (by rw [hp0, hc]; rfl) (by rw [hp0, hd]; rfl)
  have hp0v : (piC p0) = [I a.toNat, I b.toNat, I c.toNat, I d.toNat] ++ (List.replicate 32 0).map U := by rw [hp0]; rfl
  obtain ⟨ff, hff⟩ : ∃ ff : Pi, ff = ofB xs := ⟨_, rfl⟩
  rw [← hff]
  rw [← hff] at hcells
  refine W_seq ?_
  refine W_region_l ?_
  (refine WL_effn rfl (E_allocP H) ?_; clear H; intro b2 w3 hb2 H)
  refine WL_stepM rfl (R_as) ?_
  refine WL_nil ?_
  refine W_seq ?_
  (refine W_draw (KH w [(b2, blk (piC zeroP) 131)]) (fun _ => false) (by kernel_rfl) H ?_; clear H; intro w7 H)
  refine WA_takeM 0 rfl rfl rfl (by kernel_rfl) (by kernel_rfl) (H.kh (by simp) kYs) (fun _ hC => R_mv) ?_
  refine WA_take 1 rfl rfl rfl (by kernel_rfl) (by kernel_rfl) (H.kh (by simp) kYs) (fun _ hC => R_indexAddr Tryz.underlying36 Tryz.sizeOf5 rfl rfl (by omega) (by omega) idx_cast1) ?_
  refine WA_take 2 rfl rfl rfl (by kernel_rfl) (by kernel_rfl) (H.kh (by simp) kYs) (fun _ hC => R_load_cell Tryz.isAgg5 rfl (hC.old.cell h1 (by simp))) ?_
  refine WA_take 3 rfl rfl rfl (by kernel_rfl) (by kernel_rfl) (H.kh (by simp) kYs) (fun _ hC => R_conv_int Tryz.underlying5 Tryz.underlying3 rfl u8_in_i64) ?_
  refine WA_takeM 4 rfl rfl rfl (by kernel_rfl) (by kernel_rfl) (H.kh (by simp) kYs) (fun _ hC => R_mv) ?_
  refine WA_take 5 rfl rfl rfl (by kernel_rfl) (by kernel_rfl) (H.kh (by simp) kYs) (fun _ hC => R_indexAddr Tryz.underlying36 Tryz.sizeOf5 rfl rfl (by omega) (by omega) idx_cast1) ?_
  refine WA_take 6 rfl rfl rfl (by kernel_rfl) (by kernel_rfl) (H.kh (by simp) kYs) (fun _ hC => R_load_cell Tryz.isAgg5 rfl (hC.old.cell h2 (by simp))) ?_
  refine WA_take 7 rfl rfl rfl (by kernel_rfl) (by kernel_rfl) (H.kh (by simp) kYs) (fun _ hC => R_conv_int Tryz.underlying5 Tryz.underlying3 rfl u8_in_i64) ?_
  refine WA_takeM 8 rfl rfl rfl (by kernel_rfl) (by kernel_rfl) (H.kh (by simp) kYs) (fun _ hC => R_mv) ?_
  refine WA_take 9 rfl rfl rfl (by kernel_rfl) (by kernel_rfl) (H.kh (by simp) kYs) (fun _ hC => R_indexAddr Tryz.underlying36 Tryz.sizeOf5 rfl rfl (by omega) (by omega) idx_cast1) ?_
  refine WA_take 10 rfl rfl rfl (by kernel_rfl) (by kernel_rfl) (H.kh (by simp) kYs) (fun _ hC => R_load_cell Tryz.isAgg5 rfl (hC.old.cell h3 (by simp))) ?_
  refine WA_take 11 rfl rfl rfl (by kernel_rfl) (by kernel_rfl) (H.kh (by simp) kYs) (fun _ hC => R_conv_int Tryz.underlying5 Tryz.underlying3 rfl u8_in_i64) ?_
  refine WA_takeM 12 rfl rfl rfl (by kernel_rfl) (by kernel_rfl) (H.kh (by simp) kYs) (fun _ hC => R_mv) ?_
  refine WA_take 13 rfl rfl rfl (by kernel_rfl) (by kernel_rfl) (H.kh (by simp) kYs) (fun _ hC => R_indexAddr Tryz.underlying36 Tryz.sizeOf5 rfl rfl (by omega) (by omega) idx_cast1) ?_
  refine WA_take 14 rfl rfl rfl (by kernel_rfl) (by kernel_rfl) (H.kh (by simp) kYs) (fun _ hC => R_load_cell Tryz.isAgg5 rfl (hC.old.cell h4 (by simp))) ?_
  refine WA_take 15 rfl rfl rfl (by kernel_rfl) (by kernel_rfl) (H.kh (by simp) kYs) (fun _ hC => R_conv_int Tryz.underlying5 Tryz.underlying3 rfl u8_in_i64) ?_
  refine WA_take 16 rfl rfl rfl (by kernel_rfl) (by kernel_rfl) (H.kh (by simp) kYs) (fun _ hC => R_buildL (places := [(0, 1), (1, 1), (2, 1), (3, 1), (4, 32)]) (vs := [I a.toNat, I b.toNat, I c.toNat, I d.toNat] ++ (List.replicate 32 0).map U) Tryz.underlying131 Tryz.typeInfo131 rfl rfl (by kernel_rfl) rfl rfl rfl) ?_
  refine WA_one (i := 17) (by kernel_rfl) ?_
  (refine WI_effnA rfl (.inl rfl) (E_allocP H) (fun _ _ _ H => (by first | exact fun h => absurd h (by decide) | exact fun _ => H | exact fun _ => H.none kYs | exact fun _ => H.dropN kYs | exact fun _ => H.pop (by assumption) | exact fun _ => (H.pop (by assumption)).pop (by assumption) | exact fun _ => H.kp | exact fun _ => H.kp.tail | exact fun _ => H.kp.tail.tail | exact fun _ => H.kp.tail.tail.tail | exact fun _ => H.kp.sub (by simp) | exact fun _ => Kp.nil | exact fun _ => H.kh (by simp) kYs)) ?_; clear H; intro b4 w26 hb4 H)
  refine WA_one (i := 18) (by kernel_rfl) ?_
  (refine WI_effu rfl (.inl rfl) (E_storeP (q := p0) H rfl (congrArg (fun l => Value.agg (List.toArray l)) hp0v.symm) .here) (fun _ H => (by first | exact fun h => absurd h (by decide) | exact fun _ => H | exact fun _ => H.none kYs | exact fun _ => H.dropN kYs | exact fun _ => H.pop (by assumption) | exact fun _ => (H.pop (by assumption)).pop (by assumption) | exact fun _ => H.kp | exact fun _ => H.kp.tail | exact fun _ => H.kp.tail.tail | exact fun _ => H.kp.tail.tail.tail | exact fun _ => H.kp.sub (by simp) | exact fun _ => Kp.nil | exact fun _ => H.kh (by simp) kYs)) ?_; clear H; intro w28 H)
  refine WA_done (by kernel_rfl) ?_
  refine W_seq ?_
  (refine W_draw (Kp []) (fun _ => false) (by kernel_rfl) H ?_; clear H; intro w31 H)
  refine WA_take 0 rfl rfl rfl (by kernel_rfl) (by kernel_rfl) (H.kp.sub (by simp)) (fun _ hC => R_fieldAddr (off' := 4) Tryz.underlying131 rfl Tryz.sizeOf129 (by decide) rfl rfl) ?_
  refine WA_take 1 rfl rfl rfl (by kernel_rfl) (by kernel_rfl) (H.kp.sub (by simp)) (fun _ hC => R_all Tryz.underlying129 Tryz.sizeOf5 rfl (by decide)) ?_
  refine WA_takeM 2 rfl rfl rfl (by kernel_rfl) (by kernel_rfl) (H.kp.sub (by simp)) (fun _ hC => R_mv) ?_
  refine WA_take 3 rfl rfl rfl (by kernel_rfl) (by kernel_rfl) (H.kp.sub (by simp)) (fun _ hC => R_from (k := 8) (m := 32) (k' := 8) Tryz.underlying36 Tryz.sizeOf5 rfl rfl rfl hlca rfl (by omega)) ?_
  refine WA_one (i := 4) (by kernel_rfl) ?_
  (refine WI_effm rfl (.inl rfl) (E_copy (xs := (xs.drop 8).map U) (off := 4) (c := piC p0) H .here Tryz.underlying36 Tryz.sizeOf5 rfl rfl (hr8.monoN H kYs).csrc (by rw [piC_len]; decide) (u_one _)) (fun _ _ H => (by first | exact fun h => absurd h (by decide) | exact fun _ => H | exact fun _ => H.none kYs | exact fun _ => H.dropN kYs | exact fun _ => H.pop (by assumption) | exact fun _ => (H.pop (by assumption)).pop (by assumption) | exact fun _ => H.kp | exact fun _ => H.kp.tail | exact fun _ => H.kp.tail.tail | exact fun _ => H.kp.tail.tail.tail | exact fun _ => H.kp.sub (by simp) | exact fun _ => Kp.nil | exact fun _ => H.kh (by simp) kYs)) ?_; clear H; rintro _ _ w37 rfl H; rw [hcells] at H)
  refine WA_done (by kernel_rfl) ?_
  refine W_seq ?_
  refine W_region_l ?_
  refine WL_step rfl (R_loadP rfl (H.get .here)) ?_
  (refine WL_call rfl (R_call rfl Tryz.call85 rfl) (enc_ret ff _) ?_; rintro _ w42 (⟨hok, b9, rfl, hb9, H1⟩ | ⟨hok, rfl, H1⟩); (have hsz := H.size; replace H := H.seqN H1 (kCons hb9 kNil); replace hb9 := Nat.le_trans hsz hb9; clear H1 hsz); rotate_left; (replace H := H.seq0 H1; clear H1))
  · refine WL_stepM rfl (R_mv) ?_
    refine WL_step rfl (R_extract rfl rfl) ?_
    refine WL_step rfl (R_extract rfl rfl) ?_
    refine WL_stepM rfl (R_as) ?_
    refine WL_stepM rfl (R_as) ?_
    refine WL_nil ?_
    refine W_seq ?_
    (refine W_draw (KH w [(b4, blk (piC ff) 131)]) (fun _ => false) (by kernel_rfl) H ?_; clear H; intro w50 H)
    refine WA_take 0 rfl rfl rfl (by kernel_rfl) (by kernel_rfl) (H.kh (by simp) kYs) (fun _ hC => R_loadP rfl (hC.get .here)) ?_
    refine WA_takeM 1 rfl rfl rfl (by kernel_rfl) (by kernel_rfl) (H.kh (by simp) kYs) (fun _ hC => R_mv) ?_
    refine WA_takeM 2 rfl rfl rfl (by kernel_rfl) (by kernel_rfl) (H.kh (by simp) kYs) (fun _ hC => R_mv) ?_
    refine WA_pass 3 rfl rfl rfl (fun h => nomatch h) (by kernel_rfl) (by kernel_rfl) (H.kh (by simp) kYs) ?_
    refine WA_pass 4 rfl rfl rfl (fun h => nomatch h) (by kernel_rfl) (by kernel_rfl) (H.kh (by simp) kYs) ?_
    refine WA_pass 5 rfl rfl rfl (fun h => nomatch h) (by kernel_rfl) (by kernel_rfl) (H.kh (by simp) kYs) ?_
    refine WA_takeM 6 rfl rfl rfl (by kernel_rfl) (by kernel_rfl) (H.kh (by simp) kYs) (fun _ hC => R_pk_f rfl) ?_
    refine WA_one (i := 7) (by kernel_rfl) ?_
    (refine WI_effu rfl (.inl rfl) (E_storeP (q := ff) H rfl rfl (.there .here)) (fun _ H => (by first | exact fun h => absurd h (by decide) | exact fun _ => H | exact fun _ => H.none kYs | exact fun _ => H.dropN kYs | exact fun _ => H.pop (by assumption) | exact fun _ => (H.pop (by assumption)).pop (by assumption) | exact fun _ => H.kp | exact fun _ => H.kp.tail | exact fun _ => H.kp.tail.tail | exact fun _ => H.kp.tail.tail.tail | exact fun _ => H.kp.sub (by simp) | exact fun _ => Kp.nil | exact fun _ => H.kh (by simp) kYs)) ?_; clear H; intro w59 H)
    refine WA_takeM 8 rfl rfl rfl (by kernel_rfl) (by kernel_rfl) (H.kh (by simp) kYs) (fun _ hC => R_as) ?_
    refine WA_done (by kernel_rfl) ?_
    refine W_ret ?_
    exact ⟨_, ⟨_, _, rfl, ldP (p := ff) (H.get (.there .here)), rfl⟩, congrArg (fun b => Value.tuple #[vP ff, .bool b]) (decide_eq_false (fun h => hok h.1)).symm, H.none kYs⟩
  · refine WL_stepM rfl (R_mv) ?_
    refine WL_step rfl (R_extract rfl rfl) ?_
    refine WL_step rfl (R_extract rfl rfl) ?_
    refine WL_stepM rfl (R_as) ?_
    refine WL_stepM rfl (R_as) ?_
    refine WL_nil ?_
    refine W_seq ?_
    (refine W_draw (KH w [(b9, blk ((bytesP ff).map U) 5), (b4, blk (piC ff) 131)]) (fun _ => false) (by kernel_rfl) H ?_; clear H; intro w71 H)
    refine WA_take 0 rfl rfl rfl (by kernel_rfl) (by kernel_rfl) (H.kh (by simp) kYs) (fun _ hC => R_loadP rfl (hC.get (.there .here))) ?_
    refine WA_takeM 1 rfl rfl rfl (by kernel_rfl) (by kernel_rfl) (H.kh (by simp) kYs) (fun _ hC => R_mv) ?_
    refine WA_takeM 2 rfl rfl rfl (by kernel_rfl) (by kernel_rfl) (H.kh (by simp) kYs) (fun _ hC => R_mv) ?_
    refine WA_takeGM 3 rfl rfl rfl rfl (by kernel_rfl) (by kernel_rfl) (H.kh (by simp) kYs) (fun _ hC => R_mv) ?_
    refine WA_takeGM 4 rfl rfl rfl rfl (by kernel_rfl) (by kernel_rfl) (H.kh (by simp) kYs) (fun _ hC => R_mv) ?_
    refine WA_one (i := 5) (by kernel_rfl) ?_
    (refine WI_call rfl (.inr ⟨_, _, rfl, rfl⟩) (R_call rfl Tryz.call197 rfl) (equal_ret (xs := bytesP ff) (ys := xs) (RdS.blk (c := (bytesP ff).map U) (off := 0) (H.get .here) (by rw [List.drop_zero, List.take_of_length_le (by rw [List.length_map, bytes_len]; decide)]) (by rw [List.length_map, bytes_len]; decide) (by decide)) (hl0.monoN H kYs) (by rw [bytes_len]; decide) (by omega)) (fun _ _ hR _ => (H.seq0 hR.2).kh (by simp) kYs) ?_; rintro _ w78 ⟨rfl, H1⟩; replace H := H.seq0 H1; clear H1)
    refine WA_takeM 6 rfl rfl rfl (by kernel_rfl) (by kernel_rfl) (H.kh (by simp) kYs) (fun _ hC => R_pk_t rfl) ?_
    refine WA_one (i := 7) (by kernel_rfl) ?_
    (refine WI_effu rfl (.inl rfl) (E_storeP (q := ff) H rfl rfl (.there (.there .here))) (fun _ H => (by first | exact fun h => absurd h (by decide) | exact fun _ => H | exact fun _ => H.none kYs | exact fun _ => H.dropN kYs | exact fun _ => H.pop (by assumption) | exact fun _ => (H.pop (by assumption)).pop (by assumption) | exact fun _ => H.kp | exact fun _ => H.kp.tail | exact fun _ => H.kp.tail.tail | exact fun _ => H.kp.tail.tail.tail | exact fun _ => H.kp.sub (by simp) | exact fun _ => Kp.nil | exact fun _ => H.kh (by simp) kYs)) ?_; clear H; intro w81 H)
    refine WA_takeM 8 rfl rfl rfl (by kernel_rfl) (by kernel_rfl) (H.kh (by simp) kYs) (fun _ hC => R_as) ?_
    refine WA_done (by kernel_rfl) ?_
    refine W_ret ?_
    exact ⟨_, ⟨_, _, rfl, ldP (p := ff) (H.get (.there (.there .here))), rfl⟩, congrArg (fun b => Value.tuple #[vP ff, .bool b]) (decide_eq_decide.2 ⟨fun h => ⟨hok, h⟩, fun h => h.2⟩), H.none kYs⟩
end Go.Proofs.YtlpmfldijgdcoaaGreatDoor.Ring

/-
  What bytes are: one of these, free, or bad.
-/
namespace Go.Proofs.YtlpmfldijgdcoaaGreatDoor.Ring
open Go Go.Proofs Go.Proofs.YtlpmfldijgdcoaaGreatDoor.Fx Go.Proofs.YtlpmfldijgdcoaaGreatDoor.Codec
set_option maxRecDepth 100000
set_option linter.unusedVariables false
set_option linter.unusedSimpArgs false
set_option maxHeartbeats 1000000

/-- what a call yields, as two ways -/
theorem decM_ret {xs : List UInt8} {q : Nat} {w : World} {l : Value} (hq : w.heap[q]? = some cod) (hl : RdS w l (xs.map U)) (hb : xs.length ≤ 100000) :
    Ret Tryz.prog 148 #[ptr q 0, l] w fun v w' => ((good xs ∧ v = .tuple #[vP (ofB xs), .bool true]) ∨ (¬ good xs ∧ v = .tuple #[vP zeroP, .bool false])) ∧ Hp w [] w' := by
  refine Ret_of_WC (args := [_, _]) Tryz.func148 rfl Tryz.ntmps148 Tryz.results148 (by simp) ?_
  have H := Hp.refl w
  obtain ⟨ao, ca, rfl⟩ := hl.form
  simp only [List.length_map] at hl ⊢
  by_cases h8 : xs.length = 40
  · by_cases hg : good xs
    · refine W_seq ?_
      refine W_region_l ?_
      (refine WL_effn rfl (E_allocP H) ?_; clear H; intro b4 w3 hb4 H)
      refine WL_stepM rfl (R_as) ?_
      refine WL_nil ?_
      refine W_seq ?_
      refine W_region_l ?_
      (refine WL_effn rfl (E_allocP H) ?_; clear H; intro b6 w8 hb6 H)
      refine WL_nil ?_
      refine W_seq ?_
      refine W_seq ?_
      refine W_region_l ?_
      refine WL_stepM rfl (R_mv) ?_
      refine WL_step rfl (R_nilCheck rfl) ?_
      refine WL_step rfl (R_fieldAddr (off' := 2) Tryz.underlying261 rfl Tryz.sizeOf247 (by decide) rfl rfl) ?_
      refine WL_step rfl (R_load Tryz.isAgg247 rfl (H.blockN hq kYs) rfl) ?_
      refine WL_step rfl (R_eq_fn Tryz.underlying247 rfl rfl) ?_
      refine WL_stepM rfl (R_mv) ?_
      refine WL_guard_t rfl rfl ?_
      refine WL_stepM rfl (R_mv) ?_
      refine WL_guard_t rfl rfl ?_
      refine WL_step rfl (R_len_slice Tryz.underlying36 rfl) ?_
      refine WL_guard_t rfl rfl ?_
      refine WL_stepM rfl (R_mv) ?_
      refine WL_guard_t rfl rfl ?_
      refine WL_step rfl (R_nilCheck rfl) ?_
      refine WL_guard_t rfl rfl ?_
      refine WL_step rfl (R_fieldAddr (off' := 0) Tryz.underlying261 rfl Tryz.sizeOf3 (by decide) rfl rfl) ?_
      refine WL_guard_t rfl rfl ?_
      refine WL_step rfl (R_load Tryz.isAgg3 rfl (H.blockN hq kYs) rfl) ?_
      refine WL_guard_t rfl rfl ?_
      refine WL_step rfl (R_ne_f rfl rfl (by omega)) ?_
      refine WL_stepM rfl (R_pk_f rfl) ?_
      refine WL_nil ?_
      refine W_cond_f rfl ?_
      refine W_skip ?_
      refine W_seq ?_
      (refine W_draw (KH w []) (fun _ => false) (by kernel_rfl) H ?_; clear H; intro w38 H)
      refine WA_takeM 0 rfl rfl rfl (by kernel_rfl) (by kernel_rfl) (H.kh (by simp) kYs) (fun _ hC => R_mv) ?_
      refine WA_take 1 rfl rfl rfl (by kernel_rfl) (by kernel_rfl) (H.kh (by simp) kYs) (fun _ hC => R_nilCheck rfl) ?_
      refine WA_take 2 rfl rfl rfl (by kernel_rfl) (by kernel_rfl) (H.kh (by simp) kYs) (fun _ hC => R_fieldAddr (off' := 2) Tryz.underlying261 rfl Tryz.sizeOf247 (by decide) rfl rfl) ?_
      refine WA_take 3 rfl rfl rfl (by kernel_rfl) (by kernel_rfl) (H.kh (by simp) kYs) (fun _ hC => R_load Tryz.isAgg247 rfl (hC.old.block hq (by simp)) rfl) ?_
      refine WA_takeM 4 rfl rfl rfl (by kernel_rfl) (by kernel_rfl) (H.kh (by simp) kYs) (fun _ hC => R_mv) ?_
      refine WA_two (i := 5) (j := 10) (by kernel_rfl) ?_ ?_
      · (refine WI_call rfl (.inl rfl) (R_call rfl Tryz.call65 rfl) (clone_ret (xs := xs) (hl.monoN H kYs) (by omega)) (fun _ _ ⟨M, hO, H1⟩ _ => ((H.seqO hO H1).2).kh (by simp) (kApp (H.seqO hO H1).1.keys kYs)) ?_; rintro u w45 ⟨M, hO, H1⟩; have h45 := H.seqO hO H1; clear H H1 hO; obtain ⟨hO, H⟩ := h45; have hMk := hO.keys; obtain ⟨a5, c5, rfl⟩ := hO.form)
        refine WA_two (i := 6) (j := 10) (by kernel_rfl) ?_ ?_
        · (refine WI_call rfl (.inl rfl) (R_call rfl Tryz.call163 rfl) (get_ret (xs := xs) (RdS.own hO (fun p hp => H.held p (by simp [hp]))) h8) (fun _ _ hR _ => (H.seq0 hR.2).kh (by simp) kYs) ?_; rintro v w47 ⟨hv, H1⟩; rw [decide_eq_true hg.2] at hv; subst hv; replace H := H.seq0 H1; clear H1)
          refine WA_takeM 7 rfl rfl rfl (by kernel_rfl) (by kernel_rfl) (H.kh (by simp) kYs) (fun _ hC => R_mv) ?_
          refine WA_take 8 rfl rfl rfl (by kernel_rfl) (by kernel_rfl) (H.kh (by simp) kYs) (fun _ hC => R_extract rfl rfl) ?_
          refine WA_take 9 rfl rfl rfl (by kernel_rfl) (by kernel_rfl) (H.kh (by simp) kYs) (fun _ hC => R_extract rfl rfl) ?_
          refine WA_one (i := 10) (by kernel_rfl) ?_
          (refine WI_effnA rfl (.inl rfl) (E_allocP H) (fun _ _ _ H => (by first | exact fun h => absurd h (by decide) | exact fun _ => H | exact fun _ => H.none kYs | exact fun _ => H.dropN kYs | exact fun _ => H.pop (by assumption) | exact fun _ => (H.pop (by assumption)).pop (by assumption) | exact fun _ => H.kp | exact fun _ => H.kp.tail | exact fun _ => H.kp.tail.tail | exact fun _ => H.kp.tail.tail.tail | exact fun _ => H.kp.sub (by simp) | exact fun _ => Kp.nil | exact fun _ => H.kh (by simp) kYs)) ?_; clear H; intro b7 w52 hb7 H)
          refine WA_one (i := 11) (by kernel_rfl) ?_
          (refine WI_effu rfl (.inl rfl) (E_storeP (q := (ofB xs)) H rfl rfl .here) (fun _ H => (by first | exact fun h => absurd h (by decide) | exact fun _ => H | exact fun _ => H.none kYs | exact fun _ => H.dropN kYs | exact fun _ => H.pop (by assumption) | exact fun _ => (H.pop (by assumption)).pop (by assumption) | exact fun _ => H.kp | exact fun _ => H.kp.tail | exact fun _ => H.kp.tail.tail | exact fun _ => H.kp.tail.tail.tail | exact fun _ => H.kp.sub (by simp) | exact fun _ => Kp.nil | exact fun _ => H.kh (by simp) kYs)) ?_; clear H; intro w54 H; replace H := Hp.dropMid (A := [_]) H hMk)
          refine WA_takeM 12 rfl rfl rfl (by kernel_rfl) (by kernel_rfl) (H.kh (by simp) kYs) (fun _ hC => R_as) ?_
          refine WA_done (by kernel_rfl) ?_
          refine W_seq ?_
          refine W_seq ?_
          refine W_region_l ?_
          refine WL_stepM rfl (R_mv) ?_
          refine WL_step rfl (R_not_t rfl) ?_
          refine WL_nil ?_
          refine W_cond_f rfl ?_
          refine W_skip ?_
          refine W_seq ?_
          refine W_region_l ?_
          refine WL_step rfl (R_loadP rfl (H.get .here)) ?_
          (refine WL_effu rfl (E_storeP (q := (ofB xs)) H rfl rfl (.there (.there .here))) ?_; clear H; intro w68 H)
          refine WL_stepM rfl (R_as) ?_
          refine WL_nil ?_
          refine W_ret ?_
          exact ⟨_, ⟨_, _, rfl, ldP (p := (ofB xs)) (H.get (.there (.there .here))), rfl⟩, .inl ⟨hg, rfl⟩, H.none kYs⟩
        · (refine WI_effnA rfl (.inl rfl) (E_allocP H) (fun _ _ _ H => (by first | exact fun h => absurd h (by decide) | exact fun _ => H | exact fun _ => H.none kYs | exact fun _ => H.dropN kYs | exact fun _ => H.pop (by assumption) | exact fun _ => (H.pop (by assumption)).pop (by assumption) | exact fun _ => H.kp | exact fun _ => H.kp.tail | exact fun _ => H.kp.tail.tail | exact fun _ => H.kp.tail.tail.tail | exact fun _ => H.kp.sub (by simp) | exact fun _ => Kp.nil | exact fun _ => H.kh (by simp) kYs)) ?_; clear H; intro b7 w73 hb7 H)
          refine WA_one (i := 6) (by kernel_rfl) ?_
          (refine WI_call rfl (.inl rfl) (R_call rfl Tryz.call163 rfl) (get_ret (xs := xs) (RdS.own hO (fun p hp => H.held p (by simp [hp]))) h8) (fun _ _ hR _ => (H.seq0 hR.2).kh (by simp) kYs) ?_; rintro v w75 ⟨hv, H1⟩; rw [decide_eq_true hg.2] at hv; subst hv; replace H := H.seq0 H1; clear H1)
          refine WA_takeM 7 rfl rfl rfl (by kernel_rfl) (by kernel_rfl) (H.kh (by simp) kYs) (fun _ hC => R_mv) ?_
          refine WA_take 8 rfl rfl rfl (by kernel_rfl) (by kernel_rfl) (H.kh (by simp) kYs) (fun _ hC => R_extract rfl rfl) ?_
          refine WA_take 9 rfl rfl rfl (by kernel_rfl) (by kernel_rfl) (H.kh (by simp) kYs) (fun _ hC => R_extract rfl rfl) ?_
          refine WA_one (i := 11) (by kernel_rfl) ?_
          (refine WI_effu rfl (.inl rfl) (E_storeP (q := (ofB xs)) H rfl rfl .here) (fun _ H => (by first | exact fun h => absurd h (by decide) | exact fun _ => H | exact fun _ => H.none kYs | exact fun _ => H.dropN kYs | exact fun _ => H.pop (by assumption) | exact fun _ => (H.pop (by assumption)).pop (by assumption) | exact fun _ => H.kp | exact fun _ => H.kp.tail | exact fun _ => H.kp.tail.tail | exact fun _ => H.kp.tail.tail.tail | exact fun _ => H.kp.sub (by simp) | exact fun _ => Kp.nil | exact fun _ => H.kh (by simp) kYs)) ?_; clear H; intro w80 H; replace H := Hp.dropMid (A := [_]) H hMk)
          refine WA_takeM 12 rfl rfl rfl (by kernel_rfl) (by kernel_rfl) (H.kh (by simp) kYs) (fun _ hC => R_as) ?_
          refine WA_done (by kernel_rfl) ?_
          refine W_seq ?_
          refine W_seq ?_
          refine W_region_l ?_
          refine WL_stepM rfl (R_mv) ?_
          refine WL_step rfl (R_not_t rfl) ?_
          refine WL_nil ?_
          refine W_cond_f rfl ?_
          refine W_skip ?_
          refine W_seq ?_
          refine W_region_l ?_
          refine WL_step rfl (R_loadP rfl (H.get .here)) ?_
          (refine WL_effu rfl (E_storeP (q := (ofB xs)) H rfl rfl (.there (.there .here))) ?_; clear H; intro w94 H)
          refine WL_stepM rfl (R_as) ?_
          refine WL_nil ?_
          refine W_ret ?_
          exact ⟨_, ⟨_, _, rfl, ldP (p := (ofB xs)) (H.get (.there (.there .here))), rfl⟩, .inl ⟨hg, rfl⟩, H.none kYs⟩
      · (refine WI_effnA rfl (.inl rfl) (E_allocP H) (fun _ _ _ H => (by first | exact fun h => absurd h (by decide) | exact fun _ => H | exact fun _ => H.none kYs | exact fun _ => H.dropN kYs | exact fun _ => H.pop (by assumption) | exact fun _ => (H.pop (by assumption)).pop (by assumption) | exact fun _ => H.kp | exact fun _ => H.kp.tail | exact fun _ => H.kp.tail.tail | exact fun _ => H.kp.tail.tail.tail | exact fun _ => H.kp.sub (by simp) | exact fun _ => Kp.nil | exact fun _ => H.kh (by simp) kYs)) ?_; clear H; intro b7 w99 hb7 H)
        refine WA_one (i := 5) (by kernel_rfl) ?_
        (refine WI_call rfl (.inl rfl) (R_call rfl Tryz.call65 rfl) (clone_ret (xs := xs) (hl.monoN H kYs) (by omega)) (fun _ _ ⟨M, hO, H1⟩ _ => ((H.seqO hO H1).2).kh (by simp) (kApp (H.seqO hO H1).1.keys kYs)) ?_; rintro u w101 ⟨M, hO, H1⟩; have h101 := H.seqO hO H1; clear H H1 hO; obtain ⟨hO, H⟩ := h101; have hMk := hO.keys; obtain ⟨a5, c5, rfl⟩ := hO.form)
        refine WA_one (i := 6) (by kernel_rfl) ?_
        (refine WI_call rfl (.inl rfl) (R_call rfl Tryz.call163 rfl) (get_ret (xs := xs) (RdS.own hO (fun p hp => H.held p (by simp [hp]))) h8) (fun _ _ hR _ => (H.seq0 hR.2).kh (by simp) kYs) ?_; rintro v w103 ⟨hv, H1⟩; rw [decide_eq_true hg.2] at hv; subst hv; replace H := H.seq0 H1; clear H1)
        refine WA_takeM 7 rfl rfl rfl (by kernel_rfl) (by kernel_rfl) (H.kh (by simp) kYs) (fun _ hC => R_mv) ?_
        refine WA_take 8 rfl rfl rfl (by kernel_rfl) (by kernel_rfl) (H.kh (by simp) kYs) (fun _ hC => R_extract rfl rfl) ?_
        refine WA_take 9 rfl rfl rfl (by kernel_rfl) (by kernel_rfl) (H.kh (by simp) kYs) (fun _ hC => R_extract rfl rfl) ?_
        refine WA_one (i := 11) (by kernel_rfl) ?_
        (refine WI_effu rfl (.inl rfl) (E_storeP (q := (ofB xs)) H rfl rfl (.app _ .here)) (fun _ H => (by first | exact fun h => absurd h (by decide) | exact fun _ => H | exact fun _ => H.none kYs | exact fun _ => H.dropN kYs | exact fun _ => H.pop (by assumption) | exact fun _ => (H.pop (by assumption)).pop (by assumption) | exact fun _ => H.kp | exact fun _ => H.kp.tail | exact fun _ => H.kp.tail.tail | exact fun _ => H.kp.tail.tail.tail | exact fun _ => H.kp.sub (by simp) | exact fun _ => Kp.nil | exact fun _ => H.kh (by simp) kYs)) ?_; clear H; intro w108 H; replace H := Hp.dropN H hMk)
        refine WA_takeM 12 rfl rfl rfl (by kernel_rfl) (by kernel_rfl) (H.kh (by simp) kYs) (fun _ hC => R_as) ?_
        refine WA_done (by kernel_rfl) ?_
        refine W_seq ?_
        refine W_seq ?_
        refine W_region_l ?_
        refine WL_stepM rfl (R_mv) ?_
        refine WL_step rfl (R_not_t rfl) ?_
        refine WL_nil ?_
        refine W_cond_f rfl ?_
        refine W_skip ?_
        refine W_seq ?_
        refine W_region_l ?_
        refine WL_step rfl (R_loadP rfl (H.get .here)) ?_
        (refine WL_effu rfl (E_storeP (q := (ofB xs)) H rfl rfl (.there (.there .here))) ?_; clear H; intro w122 H)
        refine WL_stepM rfl (R_as) ?_
        refine WL_nil ?_
        refine W_ret ?_
        exact ⟨_, ⟨_, _, rfl, ldP (p := (ofB xs)) (H.get (.there (.there .here))), rfl⟩, .inl ⟨hg, rfl⟩, H.none kYs⟩
    · refine W_seq ?_
      refine W_region_l ?_
      (refine WL_effn rfl (E_allocP H) ?_; clear H; intro b4 w3 hb4 H)
      refine WL_stepM rfl (R_as) ?_
      refine WL_nil ?_
      refine W_seq ?_
      refine W_region_l ?_
      (refine WL_effn rfl (E_allocP H) ?_; clear H; intro b6 w8 hb6 H)
      refine WL_nil ?_
      refine W_seq ?_
      refine W_seq ?_
      refine W_region_l ?_
      refine WL_stepM rfl (R_mv) ?_
      refine WL_step rfl (R_nilCheck rfl) ?_
      refine WL_step rfl (R_fieldAddr (off' := 2) Tryz.underlying261 rfl Tryz.sizeOf247 (by decide) rfl rfl) ?_
      refine WL_step rfl (R_load Tryz.isAgg247 rfl (H.blockN hq kYs) rfl) ?_
      refine WL_step rfl (R_eq_fn Tryz.underlying247 rfl rfl) ?_
      refine WL_stepM rfl (R_mv) ?_
      refine WL_guard_t rfl rfl ?_
      refine WL_stepM rfl (R_mv) ?_
      refine WL_guard_t rfl rfl ?_
      refine WL_step rfl (R_len_slice Tryz.underlying36 rfl) ?_
      refine WL_guard_t rfl rfl ?_
      refine WL_stepM rfl (R_mv) ?_
      refine WL_guard_t rfl rfl ?_
      refine WL_step rfl (R_nilCheck rfl) ?_
      refine WL_guard_t rfl rfl ?_
      refine WL_step rfl (R_fieldAddr (off' := 0) Tryz.underlying261 rfl Tryz.sizeOf3 (by decide) rfl rfl) ?_
      refine WL_guard_t rfl rfl ?_
      refine WL_step rfl (R_load Tryz.isAgg3 rfl (H.blockN hq kYs) rfl) ?_
      refine WL_guard_t rfl rfl ?_
      refine WL_step rfl (R_ne_f rfl rfl (by omega)) ?_
      refine WL_stepM rfl (R_pk_f rfl) ?_
      refine WL_nil ?_
      refine W_cond_f rfl ?_
      refine W_skip ?_
      refine W_seq ?_
      (refine W_draw (KH w []) (fun _ => false) (by kernel_rfl) H ?_; clear H; intro w38 H)
      refine WA_takeM 0 rfl rfl rfl (by kernel_rfl) (by kernel_rfl) (H.kh (by simp) kYs) (fun _ hC => R_mv) ?_
      refine WA_take 1 rfl rfl rfl (by kernel_rfl) (by kernel_rfl) (H.kh (by simp) kYs) (fun _ hC => R_nilCheck rfl) ?_
      refine WA_take 2 rfl rfl rfl (by kernel_rfl) (by kernel_rfl) (H.kh (by simp) kYs) (fun _ hC => R_fieldAddr (off' := 2) Tryz.underlying261 rfl Tryz.sizeOf247 (by decide) rfl rfl) ?_
      refine WA_take 3 rfl rfl rfl (by kernel_rfl) (by kernel_rfl) (H.kh (by simp) kYs) (fun _ hC => R_load Tryz.isAgg247 rfl (hC.old.block hq (by simp)) rfl) ?_
      refine WA_takeM 4 rfl rfl rfl (by kernel_rfl) (by kernel_rfl) (H.kh (by simp) kYs) (fun _ hC => R_mv) ?_
      refine WA_two (i := 5) (j := 10) (by kernel_rfl) ?_ ?_
      · (refine WI_call rfl (.inl rfl) (R_call rfl Tryz.call65 rfl) (clone_ret (xs := xs) (hl.monoN H kYs) (by omega)) (fun _ _ ⟨M, hO, H1⟩ _ => ((H.seqO hO H1).2).kh (by simp) (kApp (H.seqO hO H1).1.keys kYs)) ?_; rintro u w45 ⟨M, hO, H1⟩; have h45 := H.seqO hO H1; clear H H1 hO; obtain ⟨hO, H⟩ := h45; have hMk := hO.keys; obtain ⟨a5, c5, rfl⟩ := hO.form)
        refine WA_two (i := 6) (j := 10) (by kernel_rfl) ?_ ?_
        · (refine WI_call rfl (.inl rfl) (R_call rfl Tryz.call163 rfl) (get_ret (xs := xs) (RdS.own hO (fun p hp => H.held p (by simp [hp]))) h8) (fun _ _ hR _ => (H.seq0 hR.2).kh (by simp) kYs) ?_; rintro v w47 ⟨hv, H1⟩; rw [decide_eq_false (fun h => hg ⟨h8, h⟩)] at hv; subst hv; replace H := H.seq0 H1; clear H1)
          refine WA_takeM 7 rfl rfl rfl (by kernel_rfl) (by kernel_rfl) (H.kh (by simp) kYs) (fun _ hC => R_mv) ?_
          refine WA_take 8 rfl rfl rfl (by kernel_rfl) (by kernel_rfl) (H.kh (by simp) kYs) (fun _ hC => R_extract rfl rfl) ?_
          refine WA_take 9 rfl rfl rfl (by kernel_rfl) (by kernel_rfl) (H.kh (by simp) kYs) (fun _ hC => R_extract rfl rfl) ?_
          refine WA_one (i := 10) (by kernel_rfl) ?_
          (refine WI_effnA rfl (.inl rfl) (E_allocP H) (fun _ _ _ H => (by first | exact fun h => absurd h (by decide) | exact fun _ => H | exact fun _ => H.none kYs | exact fun _ => H.dropN kYs | exact fun _ => H.pop (by assumption) | exact fun _ => (H.pop (by assumption)).pop (by assumption) | exact fun _ => H.kp | exact fun _ => H.kp.tail | exact fun _ => H.kp.tail.tail | exact fun _ => H.kp.tail.tail.tail | exact fun _ => H.kp.sub (by simp) | exact fun _ => Kp.nil | exact fun _ => H.kh (by simp) kYs)) ?_; clear H; intro b7 w52 hb7 H)
          refine WA_one (i := 11) (by kernel_rfl) ?_
          (refine WI_effu rfl (.inl rfl) (E_storeP (q := (ofB xs)) H rfl rfl .here) (fun _ H => (by first | exact fun h => absurd h (by decide) | exact fun _ => H | exact fun _ => H.none kYs | exact fun _ => H.dropN kYs | exact fun _ => H.pop (by assumption) | exact fun _ => (H.pop (by assumption)).pop (by assumption) | exact fun _ => H.kp | exact fun _ => H.kp.tail | exact fun _ => H.kp.tail.tail | exact fun _ => H.kp.tail.tail.tail | exact fun _ => H.kp.sub (by simp) | exact fun _ => Kp.nil | exact fun _ => H.kh (by simp) kYs)) ?_; clear H; intro w54 H; replace H := Hp.dropMid (A := [_]) H hMk)
          refine WA_takeM 12 rfl rfl rfl (by kernel_rfl) (by kernel_rfl) (H.kh (by simp) kYs) (fun _ hC => R_as) ?_
          refine WA_done (by kernel_rfl) ?_
          refine W_seq ?_
          refine W_seq ?_
          refine W_region_l ?_
          refine WL_stepM rfl (R_mv) ?_
          refine WL_step rfl (R_not_f rfl) ?_
          refine WL_nil ?_
          refine W_cond_t rfl ?_
          refine W_seq ?_
          refine W_region_l ?_
          refine WL_step rfl (R_loadP rfl (H.get (.there .here))) ?_
          (refine WL_effu rfl (E_storeP (q := zeroP) H rfl rfl (.there (.there .here))) ?_; clear H; intro w67 H)
          refine WL_stepM rfl (R_as) ?_
          refine WL_nil ?_
          refine W_ret ?_
          exact ⟨_, ⟨_, _, rfl, ldP (p := zeroP) (H.get (.there (.there .here))), rfl⟩, .inr ⟨hg, rfl⟩, H.none kYs⟩
        · (refine WI_effnA rfl (.inl rfl) (E_allocP H) (fun _ _ _ H => (by first | exact fun h => absurd h (by decide) | exact fun _ => H | exact fun _ => H.none kYs | exact fun _ => H.dropN kYs | exact fun _ => H.pop (by assumption) | exact fun _ => (H.pop (by assumption)).pop (by assumption) | exact fun _ => H.kp | exact fun _ => H.kp.tail | exact fun _ => H.kp.tail.tail | exact fun _ => H.kp.tail.tail.tail | exact fun _ => H.kp.sub (by simp) | exact fun _ => Kp.nil | exact fun _ => H.kh (by simp) kYs)) ?_; clear H; intro b7 w72 hb7 H)
          refine WA_one (i := 6) (by kernel_rfl) ?_
          (refine WI_call rfl (.inl rfl) (R_call rfl Tryz.call163 rfl) (get_ret (xs := xs) (RdS.own hO (fun p hp => H.held p (by simp [hp]))) h8) (fun _ _ hR _ => (H.seq0 hR.2).kh (by simp) kYs) ?_; rintro v w74 ⟨hv, H1⟩; rw [decide_eq_false (fun h => hg ⟨h8, h⟩)] at hv; subst hv; replace H := H.seq0 H1; clear H1)
          refine WA_takeM 7 rfl rfl rfl (by kernel_rfl) (by kernel_rfl) (H.kh (by simp) kYs) (fun _ hC => R_mv) ?_
          refine WA_take 8 rfl rfl rfl (by kernel_rfl) (by kernel_rfl) (H.kh (by simp) kYs) (fun _ hC => R_extract rfl rfl) ?_
          refine WA_take 9 rfl rfl rfl (by kernel_rfl) (by kernel_rfl) (H.kh (by simp) kYs) (fun _ hC => R_extract rfl rfl) ?_
          refine WA_one (i := 11) (by kernel_rfl) ?_
          (refine WI_effu rfl (.inl rfl) (E_storeP (q := (ofB xs)) H rfl rfl .here) (fun _ H => (by first | exact fun h => absurd h (by decide) | exact fun _ => H | exact fun _ => H.none kYs | exact fun _ => H.dropN kYs | exact fun _ => H.pop (by assumption) | exact fun _ => (H.pop (by assumption)).pop (by assumption) | exact fun _ => H.kp | exact fun _ => H.kp.tail | exact fun _ => H.kp.tail.tail | exact fun _ => H.kp.tail.tail.tail | exact fun _ => H.kp.sub (by simp) | exact fun _ => Kp.nil | exact fun _ => H.kh (by simp) kYs)) ?_; clear H; intro w79 H; replace H := Hp.dropMid (A := [_]) H hMk)
          refine WA_takeM 12 rfl rfl rfl (by kernel_rfl) (by kernel_rfl) (H.kh (by simp) kYs) (fun _ hC => R_as) ?_
          refine WA_done (by kernel_rfl) ?_
          refine W_seq ?_
          refine W_seq ?_
          refine W_region_l ?_
          refine WL_stepM rfl (R_mv) ?_
          refine WL_step rfl (R_not_f rfl) ?_
          refine WL_nil ?_
          refine W_cond_t rfl ?_
          refine W_seq ?_
          refine W_region_l ?_
          refine WL_step rfl (R_loadP rfl (H.get (.there .here))) ?_
          (refine WL_effu rfl (E_storeP (q := zeroP) H rfl rfl (.there (.there .here))) ?_; clear H; intro w92 H)
          refine WL_stepM rfl (R_as) ?_
          refine WL_nil ?_
          refine W_ret ?_
          exact ⟨_, ⟨_, _, rfl, ldP (p := zeroP) (H.get (.there (.there .here))), rfl⟩, .inr ⟨hg, rfl⟩, H.none kYs⟩
      · (refine WI_effnA rfl (.inl rfl) (E_allocP H) (fun _ _ _ H => (by first | exact fun h => absurd h (by decide) | exact fun _ => H | exact fun _ => H.none kYs | exact fun _ => H.dropN kYs | exact fun _ => H.pop (by assumption) | exact fun _ => (H.pop (by assumption)).pop (by assumption) | exact fun _ => H.kp | exact fun _ => H.kp.tail | exact fun _ => H.kp.tail.tail | exact fun _ => H.kp.tail.tail.tail | exact fun _ => H.kp.sub (by simp) | exact fun _ => Kp.nil | exact fun _ => H.kh (by simp) kYs)) ?_; clear H; intro b7 w97 hb7 H)
        refine WA_one (i := 5) (by kernel_rfl) ?_
        (refine WI_call rfl (.inl rfl) (R_call rfl Tryz.call65 rfl) (clone_ret (xs := xs) (hl.monoN H kYs) (by omega)) (fun _ _ ⟨M, hO, H1⟩ _ => ((H.seqO hO H1).2).kh (by simp) (kApp (H.seqO hO H1).1.keys kYs)) ?_; rintro u w99 ⟨M, hO, H1⟩; have h99 := H.seqO hO H1; clear H H1 hO; obtain ⟨hO, H⟩ := h99; have hMk := hO.keys; obtain ⟨a5, c5, rfl⟩ := hO.form)
        refine WA_one (i := 6) (by kernel_rfl) ?_
        (refine WI_call rfl (.inl rfl) (R_call rfl Tryz.call163 rfl) (get_ret (xs := xs) (RdS.own hO (fun p hp => H.held p (by simp [hp]))) h8) (fun _ _ hR _ => (H.seq0 hR.2).kh (by simp) kYs) ?_; rintro v w101 ⟨hv, H1⟩; rw [decide_eq_false (fun h => hg ⟨h8, h⟩)] at hv; subst hv; replace H := H.seq0 H1; clear H1)
        refine WA_takeM 7 rfl rfl rfl (by kernel_rfl) (by kernel_rfl) (H.kh (by simp) kYs) (fun _ hC => R_mv) ?_
        refine WA_take 8 rfl rfl rfl (by kernel_rfl) (by kernel_rfl) (H.kh (by simp) kYs) (fun _ hC => R_extract rfl rfl) ?_
        refine WA_take 9 rfl rfl rfl (by kernel_rfl) (by kernel_rfl) (H.kh (by simp) kYs) (fun _ hC => R_extract rfl rfl) ?_
        refine WA_one (i := 11) (by kernel_rfl) ?_
        (refine WI_effu rfl (.inl rfl) (E_storeP (q := (ofB xs)) H rfl rfl (.app _ .here)) (fun _ H => (by first | exact fun h => absurd h (by decide) | exact fun _ => H | exact fun _ => H.none kYs | exact fun _ => H.dropN kYs | exact fun _ => H.pop (by assumption) | exact fun _ => (H.pop (by assumption)).pop (by assumption) | exact fun _ => H.kp | exact fun _ => H.kp.tail | exact fun _ => H.kp.tail.tail | exact fun _ => H.kp.tail.tail.tail | exact fun _ => H.kp.sub (by simp) | exact fun _ => Kp.nil | exact fun _ => H.kh (by simp) kYs)) ?_; clear H; intro w106 H; replace H := Hp.dropN H hMk)
        refine WA_takeM 12 rfl rfl rfl (by kernel_rfl) (by kernel_rfl) (H.kh (by simp) kYs) (fun _ hC => R_as) ?_
        refine WA_done (by kernel_rfl) ?_
        refine W_seq ?_
        refine W_seq ?_
        refine W_region_l ?_
        refine WL_stepM rfl (R_mv) ?_
        refine WL_step rfl (R_not_f rfl) ?_
        refine WL_nil ?_
        refine W_cond_t rfl ?_
        refine W_seq ?_
        refine W_region_l ?_
        refine WL_step rfl (R_loadP rfl (H.get (.there .here))) ?_
        (refine WL_effu rfl (E_storeP (q := zeroP) H rfl rfl (.there (.there .here))) ?_; clear H; intro w119 H)
        refine WL_stepM rfl (R_as) ?_
        refine WL_nil ?_
        refine W_ret ?_
        exact ⟨_, ⟨_, _, rfl, ldP (p := zeroP) (H.get (.there (.there .here))), rfl⟩, .inr ⟨hg, rfl⟩, H.none kYs⟩
  · refine W_seq ?_
    refine W_region_l ?_
    (refine WL_effn rfl (E_allocP H) ?_; clear H; intro b4 w3 hb4 H)
    refine WL_stepM rfl (R_as) ?_
    refine WL_nil ?_
    refine W_seq ?_
    refine W_region_l ?_
    (refine WL_effn rfl (E_allocP H) ?_; clear H; intro b6 w8 hb6 H)
    refine WL_nil ?_
    refine W_seq ?_
    refine W_seq ?_
    refine W_region_l ?_
    refine WL_stepM rfl (R_mv) ?_
    refine WL_step rfl (R_nilCheck rfl) ?_
    refine WL_step rfl (R_fieldAddr (off' := 2) Tryz.underlying261 rfl Tryz.sizeOf247 (by decide) rfl rfl) ?_
    refine WL_step rfl (R_load Tryz.isAgg247 rfl (H.blockN hq kYs) rfl) ?_
    refine WL_step rfl (R_eq_fn Tryz.underlying247 rfl rfl) ?_
    refine WL_stepM rfl (R_mv) ?_
    refine WL_guard_t rfl rfl ?_
    refine WL_stepM rfl (R_mv) ?_
    refine WL_guard_t rfl rfl ?_
    refine WL_step rfl (R_len_slice Tryz.underlying36 rfl) ?_
    refine WL_guard_t rfl rfl ?_
    refine WL_stepM rfl (R_mv) ?_
    refine WL_guard_t rfl rfl ?_
    refine WL_step rfl (R_nilCheck rfl) ?_
    refine WL_guard_t rfl rfl ?_
    refine WL_step rfl (R_fieldAddr (off' := 0) Tryz.underlying261 rfl Tryz.sizeOf3 (by decide) rfl rfl) ?_
    refine WL_guard_t rfl rfl ?_
    refine WL_step rfl (R_load Tryz.isAgg3 rfl (H.blockN hq kYs) rfl) ?_
    refine WL_guard_t rfl rfl ?_
    refine WL_step rfl (R_ne_t rfl rfl (by omega)) ?_
    refine WL_stepM rfl (R_pk_f rfl) ?_
    refine WL_nil ?_
    refine W_cond_t rfl ?_
    refine W_seq ?_
    refine W_region_l ?_
    refine WL_step rfl (R_loadP rfl (H.get .here)) ?_
    (refine WL_effu rfl (E_storeP (q := zeroP) H rfl rfl (.there .here)) ?_; clear H; intro w39 H)
    refine WL_stepM rfl (R_as) ?_
    refine WL_nil ?_
    refine W_ret ?_
    exact ⟨_, ⟨_, _, rfl, ldP (p := zeroP) (H.get (.there .here)), rfl⟩, .inr ⟨fun hg => h8 hg.1, rfl⟩, H.none kYs⟩
theorem dec_ret {xs : List UInt8} {w : World} {l : Value} (hl : RdS w l (xs.map U)) (hb : xs.length ≤ 100000) :
    Ret Tryz.prog 108 #[l] w fun v w' => v = .tuple #[vP (decP xs).1, I (decP xs).2] ∧ Hp w [] w' := by
  refine Ret_of_WC (args := [_]) Tryz.func108 rfl Tryz.ntmps108 Tryz.results108 (by simp) ?_
  have H := Hp.refl w
  obtain ⟨ao, ca, rfl⟩ := hl.form
  simp only [List.length_map] at hl ⊢
  by_cases hf : xs.length = 40 ∧ ∀ x ∈ xs, x = 0
  · have h8 := hf.1
    rw [decP_free hf.1 hf.2]
    refine W_seq ?_
    refine W_region_l ?_
    (refine WL_effn rfl (E_allocP H) ?_; clear H; intro b2 w3 hb2 H)
    refine WL_stepM rfl (R_as) ?_
    refine WL_nil ?_
    refine W_seq ?_
    refine W_seq ?_
    refine W_region_l ?_
    refine WL_stepM rfl (R_mv) ?_
    refine WL_step rfl (R_len_slice Tryz.underlying36 rfl) ?_
    refine WL_step rfl (R_eq_t rfl rfl (by omega)) ?_
    refine WL_stepM rfl (R_mv) ?_
    refine WL_guard_t rfl rfl ?_
    refine WL_stepM rfl (R_mv) ?_
    refine WL_guard_t rfl rfl ?_
    (refine WL_call rfl (R_call rfl Tryz.call146 rfl) (blank_ret (hl.monoN H kYs) (by omega)) ?_; rintro v w16 ⟨hv, H1⟩; rw [decide_eq_true hf.2] at hv; subst hv; replace H := H.seq0 H1; clear H1)
    refine WL_stepM rfl (R_pk_t rfl) ?_
    refine WL_nil ?_
    refine W_cond_t rfl ?_
    refine W_seq ?_
    refine W_region_l ?_
    refine WL_step rfl R_zeroP ?_
    (refine WL_effu rfl (E_storeP (q := zeroP) H rfl rfl .here) ?_; clear H; intro w23 H)
    refine WL_stepM rfl (R_as) ?_
    refine WL_nil ?_
    refine W_ret ?_
    exact ⟨_, ⟨_, _, rfl, ldP (p := zeroP) (H.get .here), rfl⟩, rfl, H.none kYs⟩
  · by_cases h8 : xs.length = 40
    · refine W_seq ?_
      refine W_region_l ?_
      (refine WL_effn rfl (E_allocP H) ?_; clear H; intro b2 w3 hb2 H)
      refine WL_stepM rfl (R_as) ?_
      refine WL_nil ?_
      refine W_seq ?_
      refine W_seq ?_
      refine W_region_l ?_
      refine WL_stepM rfl (R_mv) ?_
      refine WL_step rfl (R_len_slice Tryz.underlying36 rfl) ?_
      refine WL_step rfl (R_eq_t rfl rfl (by omega)) ?_
      refine WL_stepM rfl (R_mv) ?_
      refine WL_guard_t rfl rfl ?_
      refine WL_stepM rfl (R_mv) ?_
      refine WL_guard_t rfl rfl ?_
      (refine WL_call rfl (R_call rfl Tryz.call146 rfl) (blank_ret (hl.monoN H kYs) (by omega)) ?_; rintro v w16 ⟨hv, H1⟩; rw [decide_eq_false (fun h => hf ⟨h8, h⟩)] at hv; subst hv; replace H := H.seq0 H1; clear H1)
      refine WL_stepM rfl (R_pk_t rfl) ?_
      refine WL_nil ?_
      refine W_cond_f rfl ?_
      refine W_skip ?_
      refine W_seq ?_
      refine W_region_l ?_
      (refine WL_call rfl (R_call rfl Tryz.call122 rfl) (codec_ret _) ?_; rintro _ w23 ⟨q, rfl, hq, H1⟩; have hsz := H.size; replace H := H.seqN H1 (kCons hq kNil); replace hq := Nat.le_trans hsz hq; clear H1 hsz)
      refine WL_stepM rfl (R_mv) ?_
      (refine WL_call rfl (R_call rfl Tryz.call148 rfl) (decM_ret (xs := xs) (H.get .here) (hl.monoN H kYs) hb) ?_; rintro _ w25 ⟨(⟨hg, rfl⟩ | ⟨hg, rfl⟩), H1⟩ <;> (replace H := H.seq0 H1; clear H1))
      · refine WL_stepM rfl (R_mv) ?_
        refine WL_step rfl (R_extract rfl rfl) ?_
        refine WL_step rfl (R_extract rfl rfl) ?_
        (refine WL_effn rfl (E_allocP H) ?_; clear H; intro b4 w29 hb4 H)
        (have _g := hg.1; refine WL_effu rfl (E_storeP (q := (ofB xs)) H rfl rfl .here) ?_; clear H; intro w30 H)
        refine WL_stepM rfl (R_as) ?_
        refine WL_nil ?_
        refine W_seq ?_
        refine W_seq ?_
        refine W_region_l ?_
        refine WL_stepM rfl (R_mv) ?_
        refine WL_step rfl (R_not_t rfl) ?_
        refine WL_nil ?_
        refine W_cond_f rfl ?_
        refine W_skip ?_
        refine W_seq ?_
        refine W_region_l ?_
        refine WL_step rfl (R_loadP rfl (H.get .here)) ?_
        (have _g := hg.1; refine WL_effu rfl (E_storeP (q := (ofB xs)) H rfl rfl (.there (.there .here))) ?_; clear H; intro w44 H)
        refine WL_stepM rfl (R_as) ?_
        refine WL_nil ?_
        refine W_ret ?_
        exact ⟨_, ⟨_, _, rfl, ldP (p := (ofB xs)) (H.get (.there (.there .here))), rfl⟩, (by rw [decP_good hg]; rfl), H.none kYs⟩
      · refine WL_stepM rfl (R_mv) ?_
        refine WL_step rfl (R_extract rfl rfl) ?_
        refine WL_step rfl (R_extract rfl rfl) ?_
        (refine WL_effn rfl (E_allocP H) ?_; clear H; intro b4 w52 hb4 H)
        (refine WL_effu rfl (E_storeP (q := zeroP) H rfl rfl .here) ?_; clear H; intro w53 H)
        refine WL_stepM rfl (R_as) ?_
        refine WL_nil ?_
        refine W_seq ?_
        refine W_seq ?_
        refine W_region_l ?_
        refine WL_stepM rfl (R_mv) ?_
        refine WL_step rfl (R_not_f rfl) ?_
        refine WL_nil ?_
        refine W_cond_t rfl ?_
        refine W_seq ?_
        refine W_region_l ?_
        refine WL_step rfl R_zeroP ?_
        (refine WL_effu rfl (E_storeP (q := zeroP) H rfl rfl (.there (.there .here))) ?_; clear H; intro w66 H)
        refine WL_stepM rfl (R_as) ?_
        refine WL_nil ?_
        refine W_ret ?_
        exact ⟨_, ⟨_, _, rfl, ldP (p := zeroP) (H.get (.there (.there .here))), rfl⟩, (by rw [decP_bad hg hf]; rfl), H.none kYs⟩
    · refine W_seq ?_
      refine W_region_l ?_
      (refine WL_effn rfl (E_allocP H) ?_; clear H; intro b2 w3 hb2 H)
      refine WL_stepM rfl (R_as) ?_
      refine WL_nil ?_
      refine W_seq ?_
      refine W_seq ?_
      refine W_region_l ?_
      refine WL_stepM rfl (R_mv) ?_
      refine WL_step rfl (R_len_slice Tryz.underlying36 rfl) ?_
      refine WL_step rfl (R_eq_f rfl rfl (by omega)) ?_
      refine WL_stepM rfl (R_mv) ?_
      refine WL_guard_f rfl rfl (by decide) ?_
      refine WL_guard_f rfl rfl (by decide) ?_
      refine WL_stepM rfl (R_pk_f rfl) ?_
      refine WL_nil ?_
      refine W_cond_f rfl ?_
      refine W_skip ?_
      refine W_seq ?_
      refine W_region_l ?_
      (refine WL_call rfl (R_call rfl Tryz.call122 rfl) (codec_ret _) ?_; rintro _ w21 ⟨q, rfl, hq, H1⟩; have hsz := H.size; replace H := H.seqN H1 (kCons hq kNil); replace hq := Nat.le_trans hsz hq; clear H1 hsz)
      refine WL_stepM rfl (R_mv) ?_
      (refine WL_call rfl (R_call rfl Tryz.call148 rfl) (decM_ret (xs := xs) (H.get .here) (hl.monoN H kYs) hb) ?_; rintro _ w23 ⟨(⟨hg, rfl⟩ | ⟨hg, rfl⟩), H1⟩ <;> (replace H := H.seq0 H1; clear H1))
      · refine WL_stepM rfl (R_mv) ?_
        refine WL_step rfl (R_extract rfl rfl) ?_
        refine WL_step rfl (R_extract rfl rfl) ?_
        (refine WL_effn rfl (E_allocP H) ?_; clear H; intro b4 w27 hb4 H)
        (have _g := hg.1; refine WL_effu rfl (E_storeP (q := (ofB xs)) H rfl rfl .here) ?_; clear H; intro w28 H)
        refine WL_stepM rfl (R_as) ?_
        refine WL_nil ?_
        refine W_seq ?_
        refine W_seq ?_
        refine W_region_l ?_
        refine WL_stepM rfl (R_mv) ?_
        refine WL_step rfl (R_not_t rfl) ?_
        refine WL_nil ?_
        refine W_cond_f rfl ?_
        refine W_skip ?_
        refine W_seq ?_
        refine W_region_l ?_
        refine WL_step rfl (R_loadP rfl (H.get .here)) ?_
        (have _g := hg.1; refine WL_effu rfl (E_storeP (q := (ofB xs)) H rfl rfl (.there (.there .here))) ?_; clear H; intro w42 H)
        refine WL_stepM rfl (R_as) ?_
        refine WL_nil ?_
        refine W_ret ?_
        exact ⟨_, ⟨_, _, rfl, ldP (p := (ofB xs)) (H.get (.there (.there .here))), rfl⟩, (by rw [decP_good hg]; rfl), H.none kYs⟩
      · refine WL_stepM rfl (R_mv) ?_
        refine WL_step rfl (R_extract rfl rfl) ?_
        refine WL_step rfl (R_extract rfl rfl) ?_
        (refine WL_effn rfl (E_allocP H) ?_; clear H; intro b4 w50 hb4 H)
        (refine WL_effu rfl (E_storeP (q := zeroP) H rfl rfl .here) ?_; clear H; intro w51 H)
        refine WL_stepM rfl (R_as) ?_
        refine WL_nil ?_
        refine W_seq ?_
        refine W_seq ?_
        refine W_region_l ?_
        refine WL_stepM rfl (R_mv) ?_
        refine WL_step rfl (R_not_f rfl) ?_
        refine WL_nil ?_
        refine W_cond_t rfl ?_
        refine W_seq ?_
        refine W_region_l ?_
        refine WL_step rfl R_zeroP ?_
        (refine WL_effu rfl (E_storeP (q := zeroP) H rfl rfl (.there (.there .here))) ?_; clear H; intro w64 H)
        refine WL_stepM rfl (R_as) ?_
        refine WL_nil ?_
        refine W_ret ?_
        exact ⟨_, ⟨_, _, rfl, ldP (p := zeroP) (H.get (.there (.there .here))), rfl⟩, (by rw [decP_bad hg hf]; rfl), H.none kYs⟩

end Go.Proofs.YtlpmfldijgdcoaaGreatDoor.Ring
