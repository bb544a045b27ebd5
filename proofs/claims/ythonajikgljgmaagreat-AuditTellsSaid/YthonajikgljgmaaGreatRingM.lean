/-
  Pipes: their cells; which may be; their bytes.
-/
import Derived.Test.YthonajikgljgmaaGreatBytM
import Derived.Test.YthonajikgljgmaaGreatRefM
import Derived.Test.YthonajikgljgmaaGreatClone
import Derived.Test.YthonajikgljgmaaGreatFxY
import Derived.Test.YthonajikgljgmaaGreatFxZ
import Derived.Test.YthonajikgljgmaaGreatFxT
namespace Go.Proofs.YthonajikgljgmaaGreat.Ring
open Go Go.Proofs Go.Proofs.YthonajikgljgmaaGreat.Fx Go.Proofs.YthonajikgljgmaaGreat.Codec
set_option maxRecDepth 100000
set_option linter.unusedVariables false
set_option linter.unusedSimpArgs false
set_option maxHeartbeats 1000000

/-- a pipe -/
structure Pi where
  h : Int
  c : Int
  r : Int
  w : Int
  d : List UInt8
  hd : d.length = 32
def piC (p : Pi) : List Value := [I p.h, I p.c, I p.r, I p.w] ++ p.d.map U
abbrev vP (p : Pi) : Value := .agg (piC p).toArray
def zeroP : Pi := ⟨0, 0, 0, 0, List.replicate 32 0, rfl⟩
theorem piC_len (p : Pi) : (piC p).length = 36 := by simp [piC, p.hd]
theorem piC_all (p : Pi) : ((piC p).drop 0).take 36 = piC p := by rw [List.drop_zero, List.take_of_length_le (by rw [piC_len]; decide)]
theorem piC_one (p : Pi) : ∀ v ∈ piC p, v.oneCell' = true := by
  intro v hv
  simp only [piC, List.mem_append, List.mem_cons, List.mem_map, List.not_mem_nil, or_false] at hv
  rcases hv with (rfl | rfl | rfl | rfl) | ⟨x, _, rfl⟩ <;> rfl

section
variable {E : Env} {w0 w : World} {L : List (Nat × Obj)} {d : Option Nat} {ty e : TypeId} {pos : String} {after : Array Edge} {x y : Operand} {b : Nat} {p q : Pi} {f : Obj → List (Nat × Obj)}
theorem ldP (hb : w.heap[b]? = some (blk (piC p) e)) : (loadVar 43 ⟨b, 0, none⟩).run Tryz.prog w = .ok (vP p) w :=
  ldA Tryz.isAgg43 Tryz.sizeOf43 hb (piC_all p) (by rw [piC_len]; decide)
theorem R_loadP (hx : ev E x = ptr b 0) (hb : w.heap[b]? = some (blk (piC p) e)) : (execOp (ev E) (mk d (.load 43 x) ty pos after)).run Tryz.prog w = .ok (.value (vP p)) w :=
  R_loadA Tryz.isAgg43 Tryz.sizeOf43 hx hb (piC_all p) (by rw [piC_len]; decide)
theorem E_storeP (H : Hp w0 L w) (hx : ev E x = ptr b 0) (hy : ev E y = vP q) (hL : At L b (blk (piC p) e) f) :
    ∃ w', Hp w0 (f (blk (piC q) e)) w' ∧ (execOp (ev E) (mk d (.store 43 x y) ty pos after)).run Tryz.prog w = .ok .skip w' := by
  have h := E_storeA (d := d) (ty := ty) (pos := pos) (after := after) (vs := piC q) H (fun w => by rw [piC_len]; exact Tryz.sizeOf43 w) hx hy (piC_one q) hL (by rw [piC_len, piC_len]; decide)
  rw [List.take_zero, List.nil_append, piC_len, List.drop_of_length_le (by rw [piC_len]; decide), List.append_nil] at h
  exact h
theorem E_allocP (H : Hp w0 L w) : ∃ b w', w0.heap.size ≤ b ∧ Hp w0 ((b, blk (piC zeroP) 43) :: L) w' ∧ (execOp (ev E) (mk d (.alloc 43) ty pos after)).run Tryz.prog w = .ok (.value (ptr b 0)) w' :=
  E_alloc (vs := piC zeroP) H Tryz.zeroValue43 rfl
theorem E_boxP (H : Hp w0 L w) (hx : ev E x = vP q) : ∃ b w', w0.heap.size ≤ b ∧ Hp w0 ((b, blk (piC q) 43) :: L) w' ∧ (execOp (ev E) (mk d (.box 43 x) ty pos after)).run Tryz.prog w = .ok (.value (ptr b 0)) w' :=
  E_box (v := vP q) (vs := piC q) H hx rfl
end

theorem pi_data {p : Pi} {i : Nat} {x : UInt8} (h : p.d[i]? = some x) : (piC p)[4 + i]? = some (U x) := by
  unfold piC
  rw [List.getElem?_append_right (by simp)]
  simp [h]

def okP (p : Pi) : Prop := (0 ≤ p.h ∧ p.h ≤ 31) ∧ (0 ≤ p.c ∧ p.c ≤ 32) ∧ (0 ≤ p.r ∧ p.r ≤ 8) ∧ (0 ≤ p.w ∧ p.w ≤ 8)
instance (p : Pi) : Decidable (okP p) := by unfold okP; infer_instance
def b8 (n : Int) : UInt8 := UInt8.ofNat n.toNat
theorem u8_b8 {n : Int} (h : 0 ≤ n) : IntKind.u8.wrap n = ((b8 n).toNat : Int) := by
  obtain ⟨m, rfl⟩ : ∃ m : Nat, n = (m : Int) := ⟨n.toNat, by omega⟩
  exact u8_ofNat
def hb6 (p : Pi) : List UInt8 := [1, b8 p.h, b8 p.c, b8 p.r, b8 p.w, 197]
/-- a pipe's bytes -/
def bytesP (p : Pi) : List UInt8 := (hb6 p ++ [sumB (hb6 p), 0]) ++ p.d
theorem bytes_len (p : Pi) : (bytesP p).length = 40 := by simp [bytesP, hb6, p.hd]

theorem in_ret (n lo hi : Int) (w : World) : Ret Tryz.prog 77 #[I n, I lo, I hi] w fun v w' => v = .bool (decide (lo ≤ n ∧ n ≤ hi)) ∧ Hp w [] w' := by
  refine Ret_of_W (args := [_, _, _]) Tryz.func77 rfl Tryz.ntmps77 Tryz.results77 (by simp) ?_
  have H := Hp.refl w
  refine W_seq ?_
  refine W_region_l ?_
  refine WL_stepM rfl (R_as) ?_
  refine WL_nil ?_
  refine W_seq ?_
  refine W_region_l ?_
  refine WL_stepM rfl (R_mv) ?_
  refine WL_stepM rfl (R_mv) ?_
  refine WL_step rfl (R_ge rfl rfl) ?_
  refine WL_stepM rfl (R_mv) ?_
  apply WL_andK 4 10 14 [(11, 14)] H
  case hc => rfl
  case h1 =>
    intro h11
    refine WL_guard_t rfl rfl ?_
    refine WL_stepM rfl (R_mv) ?_
    refine WL_guard_t rfl rfl ?_
    refine WL_stepM rfl (R_mv) ?_
    refine WL_guard_t rfl rfl ?_
    refine WL_step rfl (R_le rfl rfl) ?_
    refine WL_stepM rfl (R_pk_t rfl) ?_
    refine WL_nil ?_
    exact ⟨(same_mov rfl (same_updo rfl (same_mov rfl (same_mov rfl Same.refl)))), rfl, H⟩
  case h0 =>
    intro h11
    refine WL_guard_f rfl rfl (by decide) ?_
    refine WL_guard_f rfl rfl (by decide) ?_
    refine WL_guard_f rfl rfl (by decide) ?_
    refine WL_stepM rfl (R_pk_f rfl) ?_
    refine WL_nil ?_
    exact ⟨(same_mov rfl (same_updo rfl (same_updo rfl (same_updo rfl Same.refl)))), rfl, H⟩
  case h2 =>
    (clear H; intro E11 w11 H)
    refine WL_stepM rfl (R_as) ?_
    refine WL_nil ?_
    refine W_ret ?_
    exact ⟨_, rfl, congrArg Value.bool (decide_eq_decide.2 (by omega)), H⟩
theorem in1_ret (n hi : Int) (w : World) : Ret Tryz.prog 100 #[I n, I hi] w fun v w' => v = .bool (decide (0 ≤ n ∧ n ≤ hi)) ∧ Hp w [] w' := by
  refine Ret_of_W (args := [_, _]) Tryz.func100 rfl Tryz.ntmps100 Tryz.results100 (by simp) ?_
  have H := Hp.refl w
  refine W_seq ?_
  refine W_region_l ?_
  refine WL_stepM rfl (R_as) ?_
  refine WL_nil ?_
  refine W_seq ?_
  refine W_region_l ?_
  refine WL_stepM rfl (R_mv) ?_
  refine WL_step rfl (R_ge rfl rfl) ?_
  refine WL_stepM rfl (R_mv) ?_
  apply WL_andK 4 7 11 [(8, 11)] H
  case hc => rfl
  case h1 =>
    intro h10
    refine WL_guard_t rfl rfl ?_
    refine WL_stepM rfl (R_mv) ?_
    refine WL_guard_t rfl rfl ?_
    refine WL_stepM rfl (R_mv) ?_
    refine WL_guard_t rfl rfl ?_
    refine WL_step rfl (R_le rfl rfl) ?_
    refine WL_stepM rfl (R_pk_t rfl) ?_
    refine WL_nil ?_
    exact ⟨(same_mov rfl (same_updo rfl (same_mov rfl (same_mov rfl Same.refl)))), rfl, H⟩
  case h0 =>
    intro h10
    refine WL_guard_f rfl rfl (by decide) ?_
    refine WL_guard_f rfl rfl (by decide) ?_
    refine WL_guard_f rfl rfl (by decide) ?_
    refine WL_stepM rfl (R_pk_f rfl) ?_
    refine WL_nil ?_
    exact ⟨(same_mov rfl (same_updo rfl (same_updo rfl (same_updo rfl Same.refl)))), rfl, H⟩
  case h2 =>
    (clear H; intro E10 w10 H)
    refine WL_stepM rfl (R_as) ?_
    refine WL_nil ?_
    refine W_ret ?_
    exact ⟨_, rfl, congrArg Value.bool (decide_eq_decide.2 (by omega)), H⟩

theorem ok_ret (p : Pi) (w : World) : Ret Tryz.prog 91 #[vP p] w fun v w' => v = .bool (decide (okP p)) ∧ Hp w [] w' := by
  refine Ret_of_W (args := [_]) Tryz.func91 rfl Tryz.ntmps91 Tryz.results91 (by simp) ?_
  have H := Hp.refl w
  refine W_seq ?_
  refine W_region_l ?_
  (refine WL_effn rfl (E_boxP H rfl) ?_; clear H; intro bx w3 hbx H)
  refine WL_stepM rfl (R_as) ?_
  refine WL_nil ?_
  refine W_seq ?_
  refine W_region_l ?_
  refine WL_stepM rfl (R_as) ?_
  refine WL_nil ?_
  refine W_seq ?_
  refine W_region_l ?_
  refine WL_stepM rfl (R_mv) ?_
  refine WL_step rfl (R_fieldAddr (off' := 0) Tryz.underlying43 rfl Tryz.sizeOf3 (by decide) rfl rfl) ?_
  refine WL_step rfl (R_load Tryz.isAgg3 rfl (H.get .here) rfl) ?_
  (refine WL_call rfl (R_call rfl Tryz.call100 rfl) (in1_ret _ _ _) ?_; rintro _ w15 ⟨rfl, H1⟩; replace H := H.seq0 H1; clear H1)
  refine WL_stepM rfl (R_mv) ?_
  apply WL_andK 5 8 13 [(9, 13)] H
  case hc => rfl
  case h1 =>
    intro h17
    refine WL_guard_t rfl rfl ?_
    refine WL_stepM rfl (R_mv) ?_
    refine WL_guard_t rfl rfl ?_
    refine WL_step rfl (R_fieldAddr (off' := 1) Tryz.underlying43 rfl Tryz.sizeOf3 (by decide) rfl rfl) ?_
    refine WL_guard_t rfl rfl ?_
    refine WL_step rfl (R_load Tryz.isAgg3 rfl (H.get .here) rfl) ?_
    refine WL_guard_t rfl rfl ?_
    (refine WL_call rfl (R_call rfl Tryz.call100 rfl) (in1_ret _ _ _) ?_; rintro _ w25 ⟨rfl, H1⟩; replace H := H.seq0 H1; clear H1)
    refine WL_stepM rfl (R_pk_t rfl) ?_
    refine WL_nil ?_
    exact ⟨(same_mov rfl (same_updo rfl (same_updo rfl (same_updo rfl (same_mov rfl Same.refl))))), rfl, H⟩
  case h0 =>
    intro h17
    refine WL_guard_f rfl rfl (by decide) ?_
    refine WL_guard_f rfl rfl (by decide) ?_
    refine WL_guard_f rfl rfl (by decide) ?_
    refine WL_guard_f rfl rfl (by decide) ?_
    refine WL_stepM rfl (R_pk_f rfl) ?_
    refine WL_nil ?_
    exact ⟨(same_mov rfl (same_updo rfl (same_updo rfl (same_updo rfl (same_updo rfl Same.refl))))), rfl, H⟩
  case h2 =>
    (clear H; intro E17 w17 H)
    refine WL_stepM rfl (R_mv) ?_
    apply WL_andK 5 14 19 [(15, 19)] H
    case hc => rfl
    case h1 =>
      intro h37
      refine WL_guard_t rfl rfl ?_
      refine WL_stepM rfl (R_mv) ?_
      refine WL_guard_t rfl rfl ?_
      refine WL_step rfl (R_fieldAddr (off' := 2) Tryz.underlying43 rfl Tryz.sizeOf3 (by decide) rfl rfl) ?_
      refine WL_guard_t rfl rfl ?_
      refine WL_step rfl (R_load Tryz.isAgg3 rfl (H.get .here) rfl) ?_
      refine WL_guard_t rfl rfl ?_
      (refine WL_call rfl (R_call rfl Tryz.call100 rfl) (in1_ret _ _ _) ?_; rintro _ w45 ⟨rfl, H1⟩; replace H := H.seq0 H1; clear H1)
      refine WL_stepM rfl (R_pk_t rfl) ?_
      refine WL_nil ?_
      exact ⟨(same_mov rfl (same_updo rfl (same_updo rfl (same_updo rfl (same_mov rfl Same.refl))))), rfl, H⟩
    case h0 =>
      intro h37
      refine WL_guard_f rfl rfl (by decide) ?_
      refine WL_guard_f rfl rfl (by decide) ?_
      refine WL_guard_f rfl rfl (by decide) ?_
      refine WL_guard_f rfl rfl (by decide) ?_
      refine WL_stepM rfl (R_pk_f rfl) ?_
      refine WL_nil ?_
      exact ⟨(same_mov rfl (same_updo rfl (same_updo rfl (same_updo rfl (same_updo rfl Same.refl))))), rfl, H⟩
    case h2 =>
      (clear H; intro E37 w37 H)
      refine WL_stepM rfl (R_mv) ?_
      apply WL_andK 5 20 25 [(21, 25)] H
      case hc => rfl
      case h1 =>
        intro h57
        refine WL_guard_t rfl rfl ?_
        refine WL_stepM rfl (R_mv) ?_
        refine WL_guard_t rfl rfl ?_
        refine WL_step rfl (R_fieldAddr (off' := 3) Tryz.underlying43 rfl Tryz.sizeOf3 (by decide) rfl rfl) ?_
        refine WL_guard_t rfl rfl ?_
        refine WL_step rfl (R_load Tryz.isAgg3 rfl (H.get .here) rfl) ?_
        refine WL_guard_t rfl rfl ?_
        (refine WL_call rfl (R_call rfl Tryz.call100 rfl) (in1_ret _ _ _) ?_; rintro _ w65 ⟨rfl, H1⟩; replace H := H.seq0 H1; clear H1)
        refine WL_stepM rfl (R_pk_t rfl) ?_
        refine WL_nil ?_
        exact ⟨(same_mov rfl (same_updo rfl (same_updo rfl (same_updo rfl (same_mov rfl Same.refl))))), rfl, H⟩
      case h0 =>
        intro h57
        refine WL_guard_f rfl rfl (by decide) ?_
        refine WL_guard_f rfl rfl (by decide) ?_
        refine WL_guard_f rfl rfl (by decide) ?_
        refine WL_guard_f rfl rfl (by decide) ?_
        refine WL_stepM rfl (R_pk_f rfl) ?_
        refine WL_nil ?_
        exact ⟨(same_mov rfl (same_updo rfl (same_updo rfl (same_updo rfl (same_updo rfl Same.refl))))), rfl, H⟩
      case h2 =>
        (clear H; intro E57 w57 H)
        refine WL_stepM rfl (R_as) ?_
        refine WL_nil ?_
        refine W_ret ?_
        exact ⟨_, rfl, congrArg Value.bool (decide_eq_decide.2 (by simp only [okP]; omega)), H.none (by repeat' first | exact kNil | apply kCons | apply kApp | assumption | exact OwnS.keys (by assumption))⟩
theorem refOk_ret (p : Pi) (w : World) : Ret Tryz.prog 63 #[vP p] w fun v w' => v = .bool (decide (okP p)) ∧ Hp w [] w' := by
  refine Ret_of_W (args := [_]) Tryz.func63 rfl Tryz.ntmps63 Tryz.results63 (by simp) ?_
  have H := Hp.refl w
  refine W_seq ?_
  refine W_region_l ?_
  (refine WL_effn rfl (E_boxP H rfl) ?_; clear H; intro bx w3 hbx H)
  refine WL_stepM rfl (R_as) ?_
  refine WL_nil ?_
  refine W_seq ?_
  refine W_region_l ?_
  refine WL_step rfl (R_fieldAddr (off' := 0) Tryz.underlying43 rfl Tryz.sizeOf3 (by decide) rfl rfl) ?_
  refine WL_step rfl (R_load Tryz.isAgg3 rfl (H.get .here) rfl) ?_
  (refine WL_call rfl (R_call rfl Tryz.call77 rfl) (in_ret _ _ _ _) ?_; rintro _ w10 ⟨rfl, H1⟩; replace H := H.seq0 H1; clear H1)
  refine WL_stepM rfl (R_mv) ?_
  apply WL_andK 4 6 10 [(7, 10)] H
  case hc => rfl
  case h1 =>
    intro h12
    refine WL_guard_t rfl rfl ?_
    refine WL_step rfl (R_fieldAddr (off' := 1) Tryz.underlying43 rfl Tryz.sizeOf3 (by decide) rfl rfl) ?_
    refine WL_guard_t rfl rfl ?_
    refine WL_step rfl (R_load Tryz.isAgg3 rfl (H.get .here) rfl) ?_
    refine WL_guard_t rfl rfl ?_
    (refine WL_call rfl (R_call rfl Tryz.call77 rfl) (in_ret _ _ _ _) ?_; rintro _ w18 ⟨rfl, H1⟩; replace H := H.seq0 H1; clear H1)
    refine WL_stepM rfl (R_pk_t rfl) ?_
    refine WL_nil ?_
    exact ⟨(same_mov rfl (same_updo rfl (same_updo rfl (same_updo rfl Same.refl)))), rfl, H⟩
  case h0 =>
    intro h12
    refine WL_guard_f rfl rfl (by decide) ?_
    refine WL_guard_f rfl rfl (by decide) ?_
    refine WL_guard_f rfl rfl (by decide) ?_
    refine WL_stepM rfl (R_pk_f rfl) ?_
    refine WL_nil ?_
    exact ⟨(same_mov rfl (same_updo rfl (same_updo rfl (same_updo rfl Same.refl)))), rfl, H⟩
  case h2 =>
    (clear H; intro E12 w12 H)
    refine WL_stepM rfl (R_mv) ?_
    apply WL_andK 4 11 15 [(12, 15)] H
    case hc => rfl
    case h1 =>
      intro h29
      refine WL_guard_t rfl rfl ?_
      refine WL_step rfl (R_fieldAddr (off' := 2) Tryz.underlying43 rfl Tryz.sizeOf3 (by decide) rfl rfl) ?_
      refine WL_guard_t rfl rfl ?_
      refine WL_step rfl (R_load Tryz.isAgg3 rfl (H.get .here) rfl) ?_
      refine WL_guard_t rfl rfl ?_
      (refine WL_call rfl (R_call rfl Tryz.call77 rfl) (in_ret _ _ _ _) ?_; rintro _ w35 ⟨rfl, H1⟩; replace H := H.seq0 H1; clear H1)
      refine WL_stepM rfl (R_pk_t rfl) ?_
      refine WL_nil ?_
      exact ⟨(same_mov rfl (same_updo rfl (same_updo rfl (same_updo rfl Same.refl)))), rfl, H⟩
    case h0 =>
      intro h29
      refine WL_guard_f rfl rfl (by decide) ?_
      refine WL_guard_f rfl rfl (by decide) ?_
      refine WL_guard_f rfl rfl (by decide) ?_
      refine WL_stepM rfl (R_pk_f rfl) ?_
      refine WL_nil ?_
      exact ⟨(same_mov rfl (same_updo rfl (same_updo rfl (same_updo rfl Same.refl)))), rfl, H⟩
    case h2 =>
      (clear H; intro E29 w29 H)
      refine WL_stepM rfl (R_mv) ?_
      apply WL_andK 4 16 20 [(17, 20)] H
      case hc => rfl
      case h1 =>
        intro h46
        refine WL_guard_t rfl rfl ?_
        refine WL_step rfl (R_fieldAddr (off' := 3) Tryz.underlying43 rfl Tryz.sizeOf3 (by decide) rfl rfl) ?_
        refine WL_guard_t rfl rfl ?_
        refine WL_step rfl (R_load Tryz.isAgg3 rfl (H.get .here) rfl) ?_
        refine WL_guard_t rfl rfl ?_
        (refine WL_call rfl (R_call rfl Tryz.call77 rfl) (in_ret _ _ _ _) ?_; rintro _ w52 ⟨rfl, H1⟩; replace H := H.seq0 H1; clear H1)
        refine WL_stepM rfl (R_pk_t rfl) ?_
        refine WL_nil ?_
        exact ⟨(same_mov rfl (same_updo rfl (same_updo rfl (same_updo rfl Same.refl)))), rfl, H⟩
      case h0 =>
        intro h46
        refine WL_guard_f rfl rfl (by decide) ?_
        refine WL_guard_f rfl rfl (by decide) ?_
        refine WL_guard_f rfl rfl (by decide) ?_
        refine WL_stepM rfl (R_pk_f rfl) ?_
        refine WL_nil ?_
        exact ⟨(same_mov rfl (same_updo rfl (same_updo rfl (same_updo rfl Same.refl)))), rfl, H⟩
      case h2 =>
        (clear H; intro E46 w46 H)
        refine WL_stepM rfl (R_as) ?_
        refine WL_nil ?_
        refine W_ret ?_
        exact ⟨_, rfl, congrArg Value.bool (decide_eq_decide.2 (by simp only [okP]; omega)), H.none (by repeat' first | exact kNil | apply kCons | apply kApp | assumption | exact OwnS.keys (by assumption))⟩
end Go.Proofs.YthonajikgljgmaaGreat.Ring

/-
  Pipes put into bytes.
-/
namespace Go.Proofs.YthonajikgljgmaaGreat.Ring
open Go Go.Proofs Go.Proofs.YthonajikgljgmaaGreat.Fx Go.Proofs.YthonajikgljgmaaGreat.Codec
set_option maxRecDepth 100000
set_option linter.unusedVariables false
set_option linter.unusedSimpArgs false
set_option maxHeartbeats 1000000

theorem take_snoc_u {xs : List UInt8} {i : Nat} (h : i < xs.length) : xs.take i ++ [xs[i]] = xs.take (i + 1) := (List.take_succ_eq_append_getElem h).symm
theorem cat_snoc {A xs : List UInt8} {i : Nat} (h : i < xs.length) : (A ++ xs.take i) ++ [xs[i]] = A ++ xs.take (i + 1) := by
  rw [List.append_assoc, take_snoc_u h]
theorem b8l (k : Int) (h : 0 ≤ k ∧ k ≤ 255) : IntKind.u8.wrap k = ((b8 k).toNat : Int) := u8_b8 h.1

theorem refBytes_ret (p : Pi) (hok : okP p) (w : World) : Ret Tryz.prog 18 #[vP p] w fun v w' => v = S (bytesP p) ∧ Hp w [] w' := by
  refine Ret_of_W (args := [_]) Tryz.func18 rfl Tryz.ntmps18 Tryz.results18 (by simp) ?_
  have H := Hp.refl w
  have hd := p.hd
  have hok0 := hok
  unfold okP at hok
  refine W_seq ?_
  refine W_region_l ?_
  (refine WL_effn rfl (E_boxP H rfl) ?_; clear H; intro bx w3 hbx H)
  refine WL_stepM rfl (R_as) ?_
  refine WL_nil ?_
  refine W_seq ?_
  refine W_region_l ?_
  refine WL_step rfl (R_fieldAddr (off' := 0) Tryz.underlying43 rfl Tryz.sizeOf3 (by decide) rfl rfl) ?_
  refine WL_step rfl (R_load Tryz.isAgg3 rfl (H.get .here) rfl) ?_
  refine WL_step rfl (R_conv_int Tryz.underlying3 Tryz.underlying5 rfl (u8_b8 (n := p.h) (by omega))) ?_
  refine WL_step rfl (R_fieldAddr (off' := 1) Tryz.underlying43 rfl Tryz.sizeOf3 (by decide) rfl rfl) ?_
  refine WL_step rfl (R_load Tryz.isAgg3 rfl (H.get .here) rfl) ?_
  refine WL_step rfl (R_conv_int Tryz.underlying3 Tryz.underlying5 rfl (u8_b8 (n := p.c) (by omega))) ?_
  refine WL_step rfl (R_fieldAddr (off' := 2) Tryz.underlying43 rfl Tryz.sizeOf3 (by decide) rfl rfl) ?_
  refine WL_step rfl (R_load Tryz.isAgg3 rfl (H.get .here) rfl) ?_
  refine WL_step rfl (R_conv_int Tryz.underlying3 Tryz.underlying5 rfl (u8_b8 (n := p.r) (by omega))) ?_
  refine WL_step rfl (R_fieldAddr (off' := 3) Tryz.underlying43 rfl Tryz.sizeOf3 (by decide) rfl rfl) ?_
  refine WL_step rfl (R_load Tryz.isAgg3 rfl (H.get .here) rfl) ?_
  refine WL_step rfl (R_conv_int Tryz.underlying3 Tryz.underlying5 rfl (u8_b8 (n := p.w) (by omega))) ?_
  (refine WL_effn rfl (E_buildOnes (vs := [(.int _ _), (.int _ _), (.int _ _), (.int _ _), (.int _ _), (.int _ _)]) H Tryz.underlying22 Tryz.sizeOf5 Tryz.zeroValue5 rfl rfl (by decide) rfl rfl (by simp [Value.oneCell'])) ?_; clear H; intro b20 w20 hb20 H)
  refine WL_step rfl (R_conv_bs (xs := hb6 p) Tryz.underlying22 Tryz.underlying5 Tryz.underlying9 rfl (RdS.blk (H.get .here) rfl (by simp) (by simp))) ?_
  refine WL_stepM rfl (R_as) ?_
  refine WL_nil ?_
  refine W_seq ?_
  refine W_region_l ?_
  refine WL_stepM rfl (R_mv) ?_
  refine WL_stepM rfl (R_mv) ?_
  (refine WL_call rfl (R_call rfl Tryz.call39 rfl) (refSum_ret _ (by simp [hb6])) ?_; rintro _ w28 ⟨rfl, H1⟩; replace H := H.seq0 H1; clear H1)
  (refine WL_effn rfl (E_buildOnes (vs := [(.int _ _), (.int _ _)]) H Tryz.underlying22 Tryz.sizeOf5 Tryz.zeroValue5 rfl rfl (by decide) rfl rfl (by simp [Value.oneCell'])) ?_; clear H; intro b29 w29 hb29 H)
  refine WL_step rfl (R_conv_bs (xs := [sumB (hb6 p), 0]) Tryz.underlying22 Tryz.underlying5 Tryz.underlying9 rfl (RdS.blk (H.get .here) rfl (by simp) (by simp))) ?_
  refine WL_step rfl (R_cat_S rfl rfl (by simp [hb6])) ?_
  refine WL_stepM rfl (R_as) ?_
  refine WL_nil ?_
  refine W_seq ?_
  refine W_seq ?_
  ((replace H := (H.pop (by assumption)).pop (by assumption))) <;> refine W_region_l ?_
  refine WL_stepM rfl (R_as) ?_
  refine WL_nil ?_
  refine W_block ?_
  refine W_loopS [(3, 4), (25, 36)] (fun (i : Nat) E w' => i ≤ 32 ∧ E 3 = S ((hb6 p ++ [sumB (hb6 p), 0]) ++ p.d.take i) ∧ E 4 = I i ∧ Hp w [(bx, blk (piC p) 43)] w') (fun i => 32 - i) 0 ?e0 ?r0
  · exact ⟨by omega, by rw [List.take_zero, List.append_nil]; rfl, rfl, H⟩
  · (clear H; rintro i E w1 ⟨hi, h3, h4, H⟩; refine W_kn2 h3 h4 ?_; by_cases hlt : i < 32)
    · refine W_seq ?_
      refine W_seq ?_
      refine W_region_l ?_
      refine WL_stepM rfl (R_mv) ?_
      refine WL_step rfl (R_lt_t rfl rfl (by omega)) ?_
      refine WL_nil ?_
      refine W_cond_t rfl ?_
      refine W_skip ?_
      refine W_seq ?_
      refine W_block ?_
      refine W_region_l ?_
      refine WL_stepM rfl (R_mv) ?_
      refine WL_stepM rfl (R_mv) ?_
      refine WL_step rfl (R_fieldAddr (off' := 4) Tryz.underlying43 rfl Tryz.sizeOf41 (by decide) rfl rfl) ?_
      refine WL_step rfl (R_indexAddrA Tryz.underlying41 Tryz.sizeOf5 rfl rfl (by omega) (by omega) idx_cast1) ?_
      refine WL_step rfl (R_load (v := U (p.d[i]'(by omega))) Tryz.isAgg5 rfl (H.get .here) (pi_data (List.getElem?_eq_getElem (by omega)))) ?_
      (refine WL_effn rfl (E_buildOnes (vs := [(.int _ _)]) H Tryz.underlying22 Tryz.sizeOf5 Tryz.zeroValue5 rfl rfl (by decide) rfl rfl (by simp [Value.oneCell'])) ?_; clear H; intro b58 w58 hb58 H)
      refine WL_step rfl (R_conv_bs (xs := [p.d[i]'(by omega)]) Tryz.underlying22 Tryz.underlying5 Tryz.underlying9 rfl (RdS.blk (H.get .here) rfl (by simp) (by simp))) ?_
      (refine WL_step rfl (R_cat_S rfl rfl (by simp [hb6]; omega)) ?_; replace H := H.pop (by assumption))
      refine WL_stepM rfl (R_as) ?_
      refine WL_nil ?_
      refine W_region_l ?_
      refine WL_stepM rfl (R_mv) ?_
      refine WL_step rfl (R_add rfl rfl (w_i64 (by omega))) ?_
      refine WL_stepM rfl (R_as) ?_
      refine WL_nil ?_
      exact ⟨(same_mov rfl (same_updo rfl (same_mov rfl (same_mov rfl (same_updo rfl (same_updo rfl (same_updo rfl (same_updo rfl (same_updo rfl (same_updo rfl (same_mov rfl (same_mov rfl (same_updo rfl (same_mov rfl same_ovr)))))))))))))), i + 1, by omega, by omega, congrArg S (cat_snoc (by omega)), rfl, H⟩
    · refine W_seq ?_
      refine W_seq ?_
      refine W_region_l ?_
      refine WL_stepM rfl (R_mv) ?_
      refine WL_step rfl (R_lt_f rfl rfl (by omega)) ?_
      refine WL_nil ?_
      refine W_cond_f rfl ?_
      refine W_exit ?_
      refine (if_pos rfl).mpr ?_
      refine W_seq ?_
      refine W_region_l ?_
      refine WL_stepM rfl (R_mv) ?_
      refine WL_stepM rfl (R_as) ?_
      refine WL_nil ?_
      refine W_ret ?_
      exact ⟨_, rfl, by unfold bytesP; rw [List.take_of_length_le (l := p.d) (i := i) (by omega)]; rfl, H.none (by repeat' first | exact kNil | apply kCons | apply kApp | assumption | exact OwnS.keys (by assumption))⟩

theorem put_no {l : Value} (p : Pi) (hok : ¬ okP p) (w : World) : Ret Tryz.prog 80 #[vP p, l] w fun v w' => v = .bool false ∧ Hp w [] w' := by
  refine Ret_of_W (args := [_, _]) Tryz.func80 rfl Tryz.ntmps80 Tryz.results80 (by simp) ?_
  have H := Hp.refl w
  refine W_seq ?_
  refine W_region_l ?_
  (refine WL_effn rfl (E_boxP H rfl) ?_; clear H; intro bx w3 hbx H)
  refine WL_stepM rfl (R_as) ?_
  refine WL_nil ?_
  refine W_seq ?_
  refine W_seq ?_
  refine W_region_l ?_
  refine WL_step rfl (R_loadP rfl (H.get .here)) ?_
  (refine WL_call rfl (R_call rfl Tryz.call91 rfl) (ok_ret p _) ?_; rintro v w10 ⟨hv, H1⟩; rw [decide_eq_false hok] at hv; subst hv; replace H := H.seq0 H1; clear H1)
  refine WL_step rfl (R_not_f rfl) ?_
  refine WL_nil ?_
  refine W_cond_t rfl ?_
  refine W_seq ?_
  refine W_region_l ?_
  refine WL_stepM rfl (R_as) ?_
  refine WL_nil ?_
  refine W_ret ?_
  exact ⟨_, rfl, rfl, H.none (by repeat' first | exact kNil | apply kCons | apply kApp | assumption | exact OwnS.keys (by assumption))⟩

theorem pi_dat (p : Pi) : ((piC p).drop 4).take 32 = p.d.map U := by
  have hd := p.hd
  unfold piC
  rw [List.drop_left' (by simp), List.take_of_length_le (by simp; omega)]
theorem put_cells (p : Pi) (s : UInt8) : (((hb6 p ++ [s, 0]) ++ List.replicate 32 0).map U).take 8 ++ (p.d.map U).take 32 ++ (((hb6 p ++ [s, 0]) ++ List.replicate 32 0).map U).drop (8 + min (p.d.map U).length 32) = ((hb6 p ++ [s, 0]) ++ p.d).map U := by
  have hd := p.hd
  rw [List.take_of_length_le (l := p.d.map U) (by simp; omega), List.length_map, hd, List.drop_of_length_le (by simp [hb6]), List.append_nil, List.map_append, List.take_left' (by simp [hb6]), List.map_append, List.map_append, List.map_append]

theorem put_yes {b : Nat} {w : World} (p : Pi) (hok : okP p) (hb : w.heap[b]? = some (blk ((List.replicate 40 0).map U) 5)) :
    Ret Tryz.prog 80 #[vP p, sl b 0 40 40] w fun v w' => v = .bool true ∧ Hp w [(b, blk ((bytesP p).map U) 5)] w' := by
  refine Ret_of_W (args := [_, _]) Tryz.func80 rfl Tryz.ntmps80 Tryz.results80 (by simp) ?_
  have H := Hp.focus0 hb
  have hd := p.hd
  have hok0 := hok
  unfold okP at hok
  refine W_seq ?_
  refine W_region_l ?_
  (refine WL_effn rfl (E_boxP H rfl) ?_; clear H; intro bx w3 hbx H)
  refine WL_stepM rfl (R_as) ?_
  refine WL_nil ?_
  refine W_seq ?_
  refine W_seq ?_
  refine W_region_l ?_
  refine WL_step rfl (R_loadP rfl (H.get .here)) ?_
  (refine WL_call rfl (R_call rfl Tryz.call91 rfl) (ok_ret p _) ?_; rintro v w10 ⟨hv, H1⟩; rw [decide_eq_true hok0] at hv; subst hv; replace H := H.seq0 H1; clear H1)
  refine WL_step rfl (R_not_t rfl) ?_
  refine WL_nil ?_
  refine W_cond_f rfl ?_
  refine W_skip ?_
  refine W_seq ?_
  refine W_region_l ?_
  refine WL_stepM rfl (R_mv) ?_
  refine WL_step rfl (R_fieldAddr (off' := 0) Tryz.underlying43 rfl Tryz.sizeOf3 (by decide) rfl rfl) ?_
  refine WL_step rfl (R_load Tryz.isAgg3 rfl (H.get .here) rfl) ?_
  refine WL_step rfl (R_conv_int Tryz.underlying3 Tryz.underlying5 rfl (u8_b8 (n := p.h) (by omega))) ?_
  refine WL_step rfl (R_fieldAddr (off' := 1) Tryz.underlying43 rfl Tryz.sizeOf3 (by decide) rfl rfl) ?_
  refine WL_step rfl (R_load Tryz.isAgg3 rfl (H.get .here) rfl) ?_
  refine WL_step rfl (R_conv_int Tryz.underlying3 Tryz.underlying5 rfl (u8_b8 (n := p.c) (by omega))) ?_
  refine WL_step rfl (R_fieldAddr (off' := 2) Tryz.underlying43 rfl Tryz.sizeOf3 (by decide) rfl rfl) ?_
  refine WL_step rfl (R_load Tryz.isAgg3 rfl (H.get .here) rfl) ?_
  refine WL_step rfl (R_conv_int Tryz.underlying3 Tryz.underlying5 rfl (u8_b8 (n := p.r) (by omega))) ?_
  refine WL_step rfl (R_fieldAddr (off' := 3) Tryz.underlying43 rfl Tryz.sizeOf3 (by decide) rfl rfl) ?_
  refine WL_step rfl (R_load Tryz.isAgg3 rfl (H.get .here) rfl) ?_
  refine WL_step rfl (R_conv_int Tryz.underlying3 Tryz.underlying5 rfl (u8_b8 (n := p.w) (by omega))) ?_
  (refine WL_effn rfl (E_buildOnes (vs := [(.int _ _), (.int _ _), (.int _ _), (.int _ _), (.int _ _), (.int _ _)]) H Tryz.underlying22 Tryz.sizeOf5 Tryz.zeroValue5 rfl rfl (by decide) rfl rfl (by simp [Value.oneCell'])) ?_; clear H; intro b30 w30 hb30 H)
  (refine WL_effm rfl (E_copy (xs := (hb6 p).map U) H (.there (.there .here)) Tryz.underlying22 Tryz.sizeOf5 rfl rfl (RdS.blk (H.get .here) rfl (by simp) (by simp)).csrc (by simp) (by simp [Value.oneCell'])) ?_; clear H; rintro _ _ w31 rfl H; replace H := H.pop (by assumption); replace H : Hp w [(bx, blk (piC p) 43), (b, blk ((hb6 p ++ List.replicate 34 0).map U) 5)] _ := H)
  refine WL_nil ?_
  refine W_seq ?_
  refine W_region_l ?_
  refine WL_stepM rfl (R_mv) ?_
  refine WL_stepM rfl (R_mv) ?_
  refine WL_step rfl (R_slice Tryz.underlying22 Tryz.sizeOf5 rfl .none (.some rfl) (by omega) (by omega) (by omega) (by omega) (by omega) rfl) ?_
  (refine WL_call rfl (R_call rfl Tryz.call67 rfl) (sum_ret (xs := hb6 p) (RdS.blk (H.get (.there .here)) rfl (by simp [hb6]) (by simp)) (by simp [hb6])) ?_; rintro _ w38 ⟨rfl, H1⟩; replace H := H.seq0 H1; clear H1)
  refine WL_step rfl (R_indexAddr (off' := 6) Tryz.underlying22 Tryz.sizeOf5 rfl rfl (by omega) (by omega) rfl) ?_
  (refine WL_effu rfl (E_store (v := U (sumB (hb6 p))) H Tryz.sizeOf5 rfl rfl rfl (.there .here) (by simp [hb6])) ?_; clear H; intro w40 H; replace H : Hp w [(bx, blk (piC p) 43), (b, blk (((hb6 p ++ [sumB (hb6 p), 0]) ++ List.replicate 32 0).map U) 5)] _ := H)
  refine WL_nil ?_
  refine W_seq ?_
  (refine W_draw (Kp []) (fun _ => false) (by kernel_rfl) H ?_; clear H; intro w43 H)
  refine WA_takeM 0 rfl rfl rfl (by kernel_rfl) (by kernel_rfl) (H.kp.sub (by simp)) (fun _ hC => R_mv) ?_
  refine WA_take 1 rfl rfl rfl (by kernel_rfl) (by kernel_rfl) (H.kp.sub (by simp)) (fun _ hC => R_from (k := 8) (m := 32) (k' := 8) Tryz.underlying22 Tryz.sizeOf5 rfl rfl rfl (by decide) rfl (by decide)) ?_
  refine WA_take 2 rfl rfl rfl (by kernel_rfl) (by kernel_rfl) (H.kp.sub (by simp)) (fun _ hC => R_fieldAddr (off' := 4) Tryz.underlying43 rfl Tryz.sizeOf41 (by decide) rfl rfl) ?_
  refine WA_take 3 rfl rfl rfl (by kernel_rfl) (by kernel_rfl) (H.kp.sub (by simp)) (fun _ hC => R_all Tryz.underlying41 Tryz.sizeOf5 rfl (by decide)) ?_
  refine WA_one (i := 4) (by kernel_rfl) ?_
  (refine WI_effm rfl (.inl rfl) (E_copy (xs := p.d.map U) (off := 8) H (.there .here) Tryz.underlying22 Tryz.sizeOf5 rfl rfl (RdS.blk (off := 4) (H.get .here) (pi_dat p) (by rw [piC_len]; decide) (by decide)).csrc (by simp [hb6]) (by simp [Value.oneCell'])) (fun _ _ H => (by first | exact fun h => absurd h (by decide) | exact fun _ => H | exact fun _ => H.none (by repeat' first | exact kNil | apply kCons | apply kApp | assumption | exact OwnS.keys (by assumption)) | exact fun _ => H.dropN (by repeat' first | exact kNil | apply kCons | apply kApp | assumption | exact OwnS.keys (by assumption)) | exact fun _ => H.pop (by assumption) | exact fun _ => (H.pop (by assumption)).pop (by assumption) | exact fun _ => H.kp | exact fun _ => H.kp.tail | exact fun _ => H.kp.tail.tail | exact fun _ => H.kp.tail.tail.tail | exact fun _ => H.kp.sub (by simp) | exact fun _ => Kp.nil | exact fun _ => H.kh (by simp) (by repeat' first | exact kNil | apply kCons | apply kApp | assumption | exact OwnS.keys (by assumption)))) ?_; clear H; rintro _ _ w49 rfl H; rw [put_cells p] at H)
  refine WA_done (by kernel_rfl) ?_
  refine W_seq ?_
  refine W_region_l ?_
  refine WL_stepM rfl (R_as) ?_
  refine WL_nil ?_
  refine W_ret ?_
  exact ⟨_, rfl, rfl, H.pop (by assumption)⟩
end Go.Proofs.YthonajikgljgmaaGreat.Ring

/-
  The codec: what is put, and what is refused.
-/
namespace Go.Proofs.YthonajikgljgmaaGreat.Ring
open Go Go.Proofs Go.Proofs.YthonajikgljgmaaGreat.Fx Go.Proofs.YthonajikgljgmaaGreat.Codec
set_option maxRecDepth 100000
set_option linter.unusedVariables false
set_option linter.unusedSimpArgs false
set_option maxHeartbeats 1000000

/-- the codec -/
abbrev cod : Obj := blk [I 40, .func (.func 80) #[] #[], .func (.func 81) #[] #[]] 139

theorem codec_ret (w : World) : Ret Tryz.prog 65 #[] w fun v w' => ∃ q, v = ptr q 0 ∧ w.heap.size ≤ q ∧ Hp w [(q, cod)] w' := by
  refine Ret_of_W (args := []) Tryz.func65 rfl Tryz.ntmps65 Tryz.results65 (by simp) ?_
  have H := Hp.refl w
  have hnew : Ret Tryz.prog 79 #[I 40, .func (.func 80) #[] #[], .func (.func 81) #[] #[]] w fun v w' => ∃ q, v = ptr q 0 ∧ w.heap.size ≤ q ∧ Hp w [(q, cod)] w' := by
    refine Ret_of_W (args := [_, _, _]) Tryz.func79 rfl Tryz.ntmps79 Tryz.results79 (by simp) ?_
    refine W_seq ?_
    refine W_region_l ?_
    refine WL_stepM rfl (R_as) ?_
    refine WL_nil ?_
    refine W_seq ?_
    refine W_region_l ?_
    refine WL_stepM rfl (R_mv) ?_
    refine WL_step rfl (R_max (r := 40) rfl rfl (by decide)) ?_
    refine WL_step rfl (R_min (r := 40) rfl rfl (by decide)) ?_
    refine WL_stepM rfl (R_mv) ?_
    refine WL_stepM rfl (R_mv) ?_
    refine WL_step rfl (R_buildL (places := [(0, 1), (1, 1), (2, 1)]) (vs := [(.int _ _), (.func _ _ _), (.func _ _ _)]) Tryz.underlying139 Tryz.typeInfo139 rfl rfl (by kernel_rfl) rfl rfl rfl) ?_
    (refine WL_effn rfl (E_box (v := (.agg (List.toArray [(.int _ _), (.func _ _ _), (.func _ _ _)]))) H rfl rfl) ?_; clear H; intro b13 w13 hb13 H)
    refine WL_stepM rfl (R_as) ?_
    refine WL_nil ?_
    refine W_ret ?_
    exact ⟨_, rfl, _, rfl, by assumption, H⟩
  refine W_seq ?_
  refine W_region_l ?_
  refine WL_stepM rfl (R_as) ?_
  refine WL_nil ?_
  refine W_seq ?_
  refine W_region_l ?_
  (refine WL_call rfl (R_call rfl Tryz.call79 rfl) hnew ?_; rintro _ w7 ⟨q, rfl, hq, H1⟩; replace H := H.seqN H1 (kCons hq kNil); clear H1)
  refine WL_stepM rfl (R_as) ?_
  refine WL_nil ?_
  refine W_ret ?_
  exact ⟨_, rfl, _, rfl, hq, H⟩

theorem encM_ret {q : Nat} {w : World} (f : Pi) (hq : w.heap[q]? = some cod) :
    Ret Tryz.prog 66 #[ptr q 0, vP f] w fun v w' => (okP f ∧ ∃ b, v = .tuple #[sl b 0 40 40, .bool true] ∧ w.heap.size ≤ b ∧ Hp w [(b, blk ((bytesP f).map U) 5)] w') ∨ (¬ okP f ∧ v = .tuple #[nilS, .bool false] ∧ Hp w [] w') := by
  refine Ret_of_W (args := [_, _]) Tryz.func66 rfl Tryz.ntmps66 Tryz.results66 (by simp) ?_
  have H := Hp.focus0 hq
  by_cases hok : okP f
  · refine W_seq ?_
    refine W_region_l ?_
    (refine WL_effn rfl (E_boxP H rfl) ?_; clear H; intro bx w3 hbx H)
    refine WL_stepM rfl (R_as) ?_
    refine WL_stepM rfl (R_as) ?_
    refine WL_nil ?_
    refine W_seq ?_
    refine W_region_l ?_
    refine WL_stepM rfl (R_mv) ?_
    refine WL_step rfl (R_nilCheck rfl) ?_
    refine WL_step rfl (R_fieldAddr (off' := 0) Tryz.underlying139 rfl Tryz.sizeOf3 (by decide) rfl rfl) ?_
    refine WL_step rfl (R_load Tryz.isAgg3 rfl (H.get (.there .here)) rfl) ?_
    (refine WL_effn rfl (E_makeSlice H Tryz.underlying22 Tryz.sizeOf5 Tryz.typeInfo5 Tryz.zeroValue5 rfl rfl rfl (by decide) (by decide) (by decide) (by decide)) ?_; clear H; intro b w13 hb H; replace H : Hp w [(b, blk ((List.replicate 40 0).map U) 5), (bx, blk (piC f) 43), (q, cod)] _ := H)
    refine WL_stepM rfl (R_as) ?_
    refine WL_nil ?_
    refine W_seq ?_
    refine W_seq ?_
    (refine W_draw (Kp [(bx, blk (piC f) 43), (q, cod)]) (fun _ => false) (by kernel_rfl) H ?_; clear H; intro w18 H)
    refine WA_takeM 0 rfl rfl rfl (by kernel_rfl) (by kernel_rfl) (H.kp.sub (by simp)) (fun _ hC => R_mv) ?_
    refine WA_take 1 rfl rfl rfl (by kernel_rfl) (by kernel_rfl) (H.kp.sub (by simp)) (fun _ hC => R_nilCheck rfl) ?_
    refine WA_take 2 rfl rfl rfl (by kernel_rfl) (by kernel_rfl) (H.kp.sub (by simp)) (fun _ hC => R_fieldAddr (off' := 1) Tryz.underlying139 rfl Tryz.sizeOf137 (by decide) rfl rfl) ?_
    refine WA_take 3 rfl rfl rfl (by kernel_rfl) (by kernel_rfl) (H.kp.sub (by simp)) (fun _ hC => R_load Tryz.isAgg137 rfl (hC.get (.there .here)) rfl) ?_
    refine WA_take 4 rfl rfl rfl (by kernel_rfl) (by kernel_rfl) (H.kp.sub (by simp)) (fun _ hC => R_eq_fn Tryz.underlying137 rfl rfl) ?_
    refine WA_takeM 5 rfl rfl rfl (by kernel_rfl) (by kernel_rfl) (H.kp.sub (by simp)) (fun _ hC => R_mv) ?_
    refine WA_takeGM 6 rfl rfl rfl rfl (by kernel_rfl) (by kernel_rfl) (H.kp.sub (by simp)) (fun _ hC => R_mv) ?_
    refine WA_takeG 7 rfl rfl rfl rfl (by kernel_rfl) (by kernel_rfl) (H.kp.sub (by simp)) (fun _ hC => R_nilCheck rfl) ?_
    refine WA_takeG 8 rfl rfl rfl rfl (by kernel_rfl) (by kernel_rfl) (H.kp.sub (by simp)) (fun _ hC => R_fieldAddr (off' := 1) Tryz.underlying139 rfl Tryz.sizeOf137 (by decide) rfl rfl) ?_
    refine WA_takeG 9 rfl rfl rfl rfl (by kernel_rfl) (by kernel_rfl) (H.kp.sub (by simp)) (fun _ hC => R_load Tryz.isAgg137 rfl (hC.get (.there .here)) rfl) ?_
    refine WA_takeG 10 rfl rfl rfl rfl (by kernel_rfl) (by kernel_rfl) (H.kp.sub (by simp)) (fun _ hC => R_loadP rfl (hC.get .here)) ?_
    refine WA_takeGM 11 rfl rfl rfl rfl (by kernel_rfl) (by kernel_rfl) (H.kp.sub (by simp)) (fun _ hC => R_mv) ?_
    refine WA_one (i := 12) (by kernel_rfl) ?_
    (refine WI_call rfl (.inr ⟨_, _, rfl, rfl⟩) (R_call rfl Tryz.call80 rfl) (put_yes f hok (H.get .here)) (fun _ _ hR _ => (H.seq hR.2 (okSeq_set .here okSeq_nil)).kp.sub (by simp)) ?_; rintro _ w32 ⟨rfl, H1⟩; replace H := H.seq H1 (okSeq_set .here okSeq_nil); clear H1)
    refine WA_takeG 13 rfl rfl rfl rfl (by kernel_rfl) (by kernel_rfl) (H.kp.sub (by simp)) (fun _ hC => R_not_t rfl) ?_
    refine WA_takeM 14 rfl rfl rfl (by kernel_rfl) (by kernel_rfl) (H.kp.sub (by simp)) (fun _ hC => R_pk_f rfl) ?_
    refine WA_done (by kernel_rfl) ?_
    refine W_cond_f rfl ?_
    refine W_skip ?_
    refine W_seq ?_
    refine W_region_l ?_
    refine WL_stepM rfl (R_mv) ?_
    refine WL_stepM rfl (R_as) ?_
    refine WL_stepM rfl (R_as) ?_
    refine WL_nil ?_
    refine W_ret ?_
    exact ⟨_, rfl, .inl ⟨hok, b, rfl, hb, (H.pop2 hbx).swap2.back hq⟩⟩
  · refine W_seq ?_
    refine W_region_l ?_
    (refine WL_effn rfl (E_boxP H rfl) ?_; clear H; intro bx w3 hbx H)
    refine WL_stepM rfl (R_as) ?_
    refine WL_stepM rfl (R_as) ?_
    refine WL_nil ?_
    refine W_seq ?_
    refine W_region_l ?_
    refine WL_stepM rfl (R_mv) ?_
    refine WL_step rfl (R_nilCheck rfl) ?_
    refine WL_step rfl (R_fieldAddr (off' := 0) Tryz.underlying139 rfl Tryz.sizeOf3 (by decide) rfl rfl) ?_
    refine WL_step rfl (R_load Tryz.isAgg3 rfl (H.get (.there .here)) rfl) ?_
    (refine WL_effn rfl (E_makeSlice H Tryz.underlying22 Tryz.sizeOf5 Tryz.typeInfo5 Tryz.zeroValue5 rfl rfl rfl (by decide) (by decide) (by decide) (by decide)) ?_; clear H; intro b w13 hb H; replace H : Hp w [(b, blk ((List.replicate 40 0).map U) 5), (bx, blk (piC f) 43), (q, cod)] _ := H)
    refine WL_stepM rfl (R_as) ?_
    refine WL_nil ?_
    refine W_seq ?_
    refine W_seq ?_
    (refine W_draw (Kp [(bx, blk (piC f) 43), (q, cod)]) (fun _ => false) (by kernel_rfl) H ?_; clear H; intro w18 H)
    refine WA_takeM 0 rfl rfl rfl (by kernel_rfl) (by kernel_rfl) (H.kp.sub (by simp)) (fun _ hC => R_mv) ?_
    refine WA_take 1 rfl rfl rfl (by kernel_rfl) (by kernel_rfl) (H.kp.sub (by simp)) (fun _ hC => R_nilCheck rfl) ?_
    refine WA_take 2 rfl rfl rfl (by kernel_rfl) (by kernel_rfl) (H.kp.sub (by simp)) (fun _ hC => R_fieldAddr (off' := 1) Tryz.underlying139 rfl Tryz.sizeOf137 (by decide) rfl rfl) ?_
    refine WA_take 3 rfl rfl rfl (by kernel_rfl) (by kernel_rfl) (H.kp.sub (by simp)) (fun _ hC => R_load Tryz.isAgg137 rfl (hC.get (.there .here)) rfl) ?_
    refine WA_take 4 rfl rfl rfl (by kernel_rfl) (by kernel_rfl) (H.kp.sub (by simp)) (fun _ hC => R_eq_fn Tryz.underlying137 rfl rfl) ?_
    refine WA_takeM 5 rfl rfl rfl (by kernel_rfl) (by kernel_rfl) (H.kp.sub (by simp)) (fun _ hC => R_mv) ?_
    refine WA_takeGM 6 rfl rfl rfl rfl (by kernel_rfl) (by kernel_rfl) (H.kp.sub (by simp)) (fun _ hC => R_mv) ?_
    refine WA_takeG 7 rfl rfl rfl rfl (by kernel_rfl) (by kernel_rfl) (H.kp.sub (by simp)) (fun _ hC => R_nilCheck rfl) ?_
    refine WA_takeG 8 rfl rfl rfl rfl (by kernel_rfl) (by kernel_rfl) (H.kp.sub (by simp)) (fun _ hC => R_fieldAddr (off' := 1) Tryz.underlying139 rfl Tryz.sizeOf137 (by decide) rfl rfl) ?_
    refine WA_takeG 9 rfl rfl rfl rfl (by kernel_rfl) (by kernel_rfl) (H.kp.sub (by simp)) (fun _ hC => R_load Tryz.isAgg137 rfl (hC.get (.there .here)) rfl) ?_
    refine WA_takeG 10 rfl rfl rfl rfl (by kernel_rfl) (by kernel_rfl) (H.kp.sub (by simp)) (fun _ hC => R_loadP rfl (hC.get .here)) ?_
    refine WA_takeGM 11 rfl rfl rfl rfl (by kernel_rfl) (by kernel_rfl) (H.kp.sub (by simp)) (fun _ hC => R_mv) ?_
    refine WA_one (i := 12) (by kernel_rfl) ?_
    (refine WI_call rfl (.inr ⟨_, _, rfl, rfl⟩) (R_call rfl Tryz.call80 rfl) (put_no f hok _) (fun _ _ hR _ => (H.seq0 hR.2).kp.sub (by simp)) ?_; rintro _ w32 ⟨rfl, H1⟩; replace H := H.seq0 H1; clear H1)
    refine WA_takeG 13 rfl rfl rfl rfl (by kernel_rfl) (by kernel_rfl) (H.kp.sub (by simp)) (fun _ hC => R_not_f rfl) ?_
    refine WA_takeM 14 rfl rfl rfl (by kernel_rfl) (by kernel_rfl) (H.kp.sub (by simp)) (fun _ hC => R_pk_f rfl) ?_
    refine WA_done (by kernel_rfl) ?_
    refine W_cond_t rfl ?_
    refine W_seq ?_
    refine W_region_l ?_
    refine WL_stepM rfl (R_as) ?_
    refine WL_stepM rfl (R_as) ?_
    refine WL_nil ?_
    refine W_ret ?_
    exact ⟨_, rfl, .inr ⟨hok, rfl, ((H.pop hb).pop hbx).back hq⟩⟩

theorem enc_ret (f : Pi) (w : World) :
    Ret Tryz.prog 36 #[vP f] w fun v w' => (okP f ∧ ∃ b, v = .tuple #[sl b 0 40 40, .bool true] ∧ w.heap.size ≤ b ∧ Hp w [(b, blk ((bytesP f).map U) 5)] w') ∨ (¬ okP f ∧ v = .tuple #[nilS, .bool false] ∧ Hp w [] w') := by
  refine Ret_of_W (args := [_]) Tryz.func36 rfl Tryz.ntmps36 Tryz.results36 (by simp) ?_
  have H := Hp.refl w
  refine W_seq ?_
  refine W_region_l ?_
  (refine WL_effn rfl (E_boxP H rfl) ?_; clear H; intro bx w3 hbx H)
  refine WL_stepM rfl (R_as) ?_
  refine WL_stepM rfl (R_as) ?_
  refine WL_nil ?_
  refine W_seq ?_
  (refine W_draw (Kp [(bx, blk (piC f) 43)]) (fun _ => false) (by kernel_rfl) H ?_; clear H; intro w8 H)
  refine WA_take 1 rfl rfl rfl (by kernel_rfl) (by kernel_rfl) H.kp (fun _ hC => R_loadP rfl (hC.get .here)) ?_
  refine WA_one (i := 0) (by kernel_rfl) ?_
  (refine WI_call rfl (.inl rfl) (R_call rfl Tryz.call65 rfl) (codec_ret _) (fun _ _ ⟨q, _, hq, H1⟩ _ => (H.seqN H1 (kCons hq kNil)).kp.sub (by simp)) ?_; rintro _ w11 ⟨q, rfl, hq, H1⟩; have hsz := H.size; replace H := H.seqN H1 (kCons hq kNil); replace hq := Nat.le_trans hsz hq; clear H1 hsz)
  refine WA_one (i := 2) (by kernel_rfl) ?_
  (refine WI_call rfl (.inl rfl) (R_call rfl Tryz.call66 rfl) (encM_ret f (H.get .here)) (fun _ _ hR _ => by rcases hR with ⟨_, b, _, hb, H1⟩ | ⟨_, _, H1⟩; exact (H.seqN H1 (kCons hb kNil)).kp.sub (by simp); exact (H.seq0 H1).kp.sub (by simp)) ?_; rintro _ w13 (⟨hok, b, rfl, hb, H1⟩ | ⟨hok, rfl, H1⟩); (have hsz := H.size; replace H := H.seqN H1 (kCons hb kNil); replace hb := Nat.le_trans hsz hb; clear H1 hsz); rotate_left; (replace H := H.seq0 H1; clear H1))
  · refine WA_take 3 rfl rfl rfl (by kernel_rfl) (by kernel_rfl) (H.kp.sub (by simp)) (fun _ hC => R_extract rfl rfl) ?_
    refine WA_take 4 rfl rfl rfl (by kernel_rfl) (by kernel_rfl) (H.kp.sub (by simp)) (fun _ hC => R_extract rfl rfl) ?_
    refine WA_takeM 5 rfl rfl rfl (by kernel_rfl) (by kernel_rfl) (H.kp.sub (by simp)) (fun _ hC => R_as) ?_
    refine WA_takeM 6 rfl rfl rfl (by kernel_rfl) (by kernel_rfl) (H.kp.sub (by simp)) (fun _ hC => R_as) ?_
    refine WA_done (by kernel_rfl) ?_
    refine W_ret ?_
    exact ⟨_, rfl, .inr ⟨hok, rfl, H.none (by repeat' first | exact kNil | apply kCons | apply kApp | assumption | exact OwnS.keys (by assumption))⟩⟩
  · refine WA_take 3 rfl rfl rfl (by kernel_rfl) (by kernel_rfl) (H.kp.sub (by simp)) (fun _ hC => R_extract rfl rfl) ?_
    refine WA_take 4 rfl rfl rfl (by kernel_rfl) (by kernel_rfl) (H.kp.sub (by simp)) (fun _ hC => R_extract rfl rfl) ?_
    refine WA_takeM 5 rfl rfl rfl (by kernel_rfl) (by kernel_rfl) (H.kp.sub (by simp)) (fun _ hC => R_as) ?_
    refine WA_takeM 6 rfl rfl rfl (by kernel_rfl) (by kernel_rfl) (H.kp.sub (by simp)) (fun _ hC => R_as) ?_
    refine WA_done (by kernel_rfl) ?_
    refine W_ret ?_
    exact ⟨_, rfl, .inl ⟨hok, b, rfl, hb, Hp.cut (L := [_]) H (by repeat' first | exact kNil | apply kCons | apply kApp | assumption | exact OwnS.keys (by assumption))⟩⟩
theorem enc_yes (f : Pi) (hok : okP f) (w : World) :
    Ret Tryz.prog 36 #[vP f] w fun v w' => ∃ b, v = .tuple #[sl b 0 40 40, .bool true] ∧ w.heap.size ≤ b ∧ Hp w [(b, blk ((bytesP f).map U) 5)] w' :=
  (enc_ret f w).mono fun v w' h => by
    rcases h with ⟨_, h⟩ | ⟨h, _⟩
    · exact h
    · exact (h hok).elim
theorem enc_no (f : Pi) (hok : ¬ okP f) (w : World) :
    Ret Tryz.prog 36 #[vP f] w fun v w' => v = .tuple #[nilS, .bool false] ∧ Hp w [] w' :=
  (enc_ret f w).mono fun v w' h => by
    rcases h with ⟨h, _⟩ | ⟨_, h⟩
    · exact (hok h).elim
    · exact h
theorem ok_to {f : Pi} {b : Bool} (h : decide (okP f) = b) (w : World) : Ret Tryz.prog 91 #[vP f] w fun v w' => v = .bool b ∧ Hp w [] w' := by
  subst h; exact ok_ret f w
theorem refOk_to {f : Pi} {b : Bool} (h : decide (okP f) = b) (w : World) : Ret Tryz.prog 63 #[vP f] w fun v w' => v = .bool b ∧ Hp w [] w' := by
  subst h; exact refOk_ret f w
end Go.Proofs.YthonajikgljgmaaGreat.Ring
