/-
  Front groups as bytes.
-/
import Derived.Test.YtlpmfldijgdcoaaGreatDoorBytM
import Derived.Test.YtlpmfldijgdcoaaGreatDoorFxZ
import Derived.Test.YtlpmfldijgdcoaaGreatDoorFxO
namespace Go.Proofs.YtlpmfldijgdcoaaGreatDoor.Cm
open Go Go.Proofs Go.Proofs.YtlpmfldijgdcoaaGreatDoor.Fx
set_option maxRecDepth 100000
set_option linter.unusedVariables false
set_option linter.unusedSimpArgs false
set_option maxHeartbeats 4000000

abbrev sumB := Codec.sumB
/-- a front group's bytes -/
def frontB (g : Int) : List UInt8 := [UInt8.ofNat g.toNat, 211, sumB [UInt8.ofNat g.toNat, 211], 0]
/-- bytes' front group -/
def decG (ys : List UInt8) : Int × Int := if ys.length = 4 ∧ (ys.headD 0).toNat < 8 ∧ frontB (ys.headD 0).toNat = ys then ((ys.headD 0).toNat, 1) else (0, 2)

theorem frontBytes_no {g : Int} (h : g < 0 ∨ 8 ≤ g) (w : World) : Ret Tryz.prog 87 #[I g] w fun v w' => v = .tuple #[nilS, .bool false] ∧ Hp w [] w' := by
  refine Ret_of_W (args := [_]) Tryz.func87 rfl Tryz.ntmps87 Tryz.results87 (by simp) ?_
  have H := Hp.refl w
  refine W_seq ?_
  refine W_region_l ?_
  refine WL_stepM rfl (R_as) ?_
  refine WL_stepM rfl (R_as) ?_
  refine WL_nil ?_
  refine W_seq ?_
  refine W_seq ?_
  refine W_region_l ?_
  refine WL_stepM rfl (R_mv) ?_
  refine WL_step rfl (R_lt rfl rfl) ?_
  refine WL_stepM rfl (R_mv) ?_
  apply WL_orK 3 7 10 [(8, 10)] H
  case hc => rfl
  case h1 =>
    intro h12
    refine WL_guard_t rfl rfl ?_
    refine WL_stepM rfl (R_mv) ?_
    refine WL_guard_t rfl rfl ?_
    refine WL_step rfl (R_ge rfl rfl) ?_
    refine WL_stepM rfl (R_pk_f rfl) ?_
    refine WL_nil ?_
    exact ⟨(same_mov rfl (same_updo rfl (same_mov rfl Same.refl))), rfl, H⟩
  case h0 =>
    intro h12
    refine WL_guard_f rfl rfl (by decide) ?_
    refine WL_guard_f rfl rfl (by decide) ?_
    refine WL_stepM rfl (R_pk_t rfl) ?_
    refine WL_nil ?_
    exact ⟨(same_mov rfl (same_updo rfl (same_updo rfl Same.refl))), rfl, H⟩
  case h2 =>
    (clear H; intro E12 w12 H)
    refine WL_nil ?_
    refine W_if rfl (fun h26 => ?_) (fun h26 => ?_)
    · refine W_seq ?_
      refine W_region_l ?_
      refine WL_stepM rfl (R_as) ?_
      refine WL_stepM rfl (R_as) ?_
      refine WL_nil ?_
      refine W_ret ?_
      exact ⟨_, rfl, rfl, H⟩
    · refine W_skip ?_
      refine W_seq ?_
      (exact (by omega : False).elim) <;> refine W_region_l ?_
theorem frontBytes_yes {g : Int} (h0 : 0 ≤ g) (h8 : g < 8) (w : World) : Ret Tryz.prog 87 #[I g] w fun v w' => ∃ u M, v = .tuple #[u, .bool true] ∧ OwnS w.heap.size 5 1 u 4 ((frontB g).map U) M ∧ Hp w M w' := by
  refine Ret_of_W (args := [_]) Tryz.func87 rfl Tryz.ntmps87 Tryz.results87 (by simp) ?_
  have H := Hp.refl w
  have hw : IntKind.u8.wrap g = ((UInt8.ofNat g.toNat).toNat : Int) := by
    obtain ⟨m, rfl⟩ : ∃ m : Nat, g = (m : Int) := ⟨g.toNat, by omega⟩
    exact u8_ofNat
  refine W_seq ?_
  refine W_region_l ?_
  refine WL_stepM rfl (R_as) ?_
  refine WL_stepM rfl (R_as) ?_
  refine WL_nil ?_
  refine W_seq ?_
  refine W_seq ?_
  refine W_region_l ?_
  refine WL_stepM rfl (R_mv) ?_
  refine WL_step rfl (R_lt_f rfl rfl (by omega)) ?_
  refine WL_stepM rfl (R_mv) ?_
  refine WL_guard_t rfl rfl ?_
  refine WL_stepM rfl (R_mv) ?_
  refine WL_guard_t rfl rfl ?_
  refine WL_step rfl (R_ge_f rfl rfl (by omega)) ?_
  refine WL_stepM rfl (R_pk_f rfl) ?_
  refine WL_nil ?_
  refine W_cond_f rfl ?_
  refine W_skip ?_
  refine W_seq ?_
  refine W_region_l ?_
  refine WL_stepM rfl (R_mv) ?_
  refine WL_step rfl (R_conv_int Tryz.underlying3 Tryz.underlying5 rfl hw) ?_
  (refine WL_effn rfl (E_buildOnes (vs := [U (UInt8.ofNat g.toNat), U 211]) H Tryz.underlying36 Tryz.sizeOf5 Tryz.zeroValue5 rfl rfl (by decide) rfl rfl (by simp [Value.oneCell'])) ?_; clear H; intro b13 w24 hb13 H)
  refine WL_stepM rfl (R_as) ?_
  refine WL_nil ?_
  refine W_seq ?_
  refine W_region_l ?_
  refine WL_stepM rfl (R_mv) ?_
  refine WL_stepM rfl (R_mv) ?_
  (refine WL_call rfl (R_call rfl Tryz.call125 rfl) (Codec.sum_ret (xs := [UInt8.ofNat g.toNat, 211]) (RdS.blk (c := [U (UInt8.ofNat g.toNat), U 211]) (off := 0) (m := 2) (cap := 2) (H.get .here) (by rfl) (by simp) (by simp)) (by simp)) ?_; rintro _ w31 ⟨rfl, H1⟩; replace H := H.seq0 H1; clear H1)
  (refine WL_effn rfl (E_buildOnes (vs := [U (sumB [UInt8.ofNat g.toNat, 211]), U 0]) H Tryz.underlying36 Tryz.sizeOf5 Tryz.zeroValue5 rfl rfl (by decide) rfl rfl (by simp [Value.oneCell'])) ?_; clear H; intro b17 w32 hb17 H)
  (refine WL_effm rfl (E_append (news := [U (sumB [UInt8.ofNat g.toNat, 211]), U 0]) (m := 2) (xs := [U (UInt8.ofNat g.toNat), U 211]) H (.there .last) (OwnS.new (sp := []) hb13 rfl rfl (by decide)) Tryz.underlying36 Tryz.typeInfo5 rfl rfl rfl rfl rfl rfl (src_blk (m := 2) (sp := []) Tryz.underlying36 (H.get .here) rfl (by simp [Value.oneCell'])) (by omega) (by simp only [Tryz.t5]; omega)) ?_; clear H; intro v1 N1 w33 hN1 H)
  refine WL_stepM rfl (R_as) ?_
  refine WL_stepM rfl (R_as) ?_
  refine WL_nil ?_
  refine W_ret ?_
  exact ⟨_, rfl, _, _, rfl, hN1, H.pop (by assumption)⟩
theorem frontOf_ret {xs : List UInt8} {w : World} {l : Value} (hl : RdS w l (xs.map U)) (hb : xs.length ≤ 100000) :
    Ret Tryz.prog 144 #[l] w fun v w' => v = .tuple #[I (decG xs).1, I (decG xs).2] ∧ Hp w [] w' := by
  refine Ret_of_W (args := [_]) Tryz.func144 rfl Tryz.ntmps144 Tryz.results144 (by simp) ?_
  have H := Hp.refl w
  obtain ⟨ao, ca, rfl, hca, hra⟩ := id hl
  simp only [List.length_map] at hl ⊢
  by_cases h4 : xs.length = 4
  · match xs, h4 with
    | [a, b, c, d], _ =>
      obtain ⟨b1, o1, rfl, hc1⟩ := hl.cell (i := 0) (u := U a) rfl
      have ha := a.toNat_lt
      by_cases h8 : a.toNat < 8
      · by_cases he : frontB a.toNat = [a, b, c, d]
        · have hd : decG [a, b, c, d] = (((a.toNat : Nat) : Int), (1 : Int)) := by unfold decG; exact if_pos ⟨rfl, h8, he⟩
          rw [hd]
          refine W_seq ?_
          refine W_region_l ?_
          refine WL_stepM rfl (R_as) ?_
          refine WL_stepM rfl (R_as) ?_
          refine WL_nil ?_
          refine W_seq ?_
          refine W_seq ?_
          refine W_region_l ?_
          refine WL_stepM rfl (R_mv) ?_
          refine WL_step rfl (R_len_slice Tryz.underlying36 rfl) ?_
          refine WL_step rfl (R_ne_f rfl rfl (by omega)) ?_
          refine WL_nil ?_
          refine W_cond_f rfl ?_
          refine W_skip ?_
          refine W_seq ?_
          refine W_region_l ?_
          refine WL_stepM rfl (R_mv) ?_
          refine WL_step rfl (R_indexAddr Tryz.underlying36 Tryz.sizeOf5 rfl rfl (by omega) (by omega) idx_cast1) ?_
          refine WL_step rfl (R_load_cell Tryz.isAgg5 rfl (H.cell hc1 (by simp))) ?_
          refine WL_step rfl (R_conv_int Tryz.underlying5 Tryz.underlying3 rfl u8_in_i64) ?_
          (refine WL_call rfl (R_call rfl Tryz.call87 rfl) (frontBytes_yes (g := (a.toNat : Int)) (by omega) (by omega) _) ?_; rintro _ w21 ⟨u, M, rfl, hO, H1⟩; have h21 := H.seqO hO H1; clear H H1 hO; obtain ⟨hO, H⟩ := h21; obtain ⟨ua, uc, rfl⟩ := hO.form; rw [List.append_nil] at H; have hMk := hO.keys)
          refine WL_stepM rfl (R_mv) ?_
          refine WL_step rfl (R_extract rfl rfl) ?_
          refine WL_step rfl (R_extract rfl rfl) ?_
          refine WL_stepM rfl (R_as) ?_
          refine WL_stepM rfl (R_as) ?_
          refine WL_nil ?_
          refine W_seq ?_
          refine W_seq ?_
          refine W_region_l ?_
          refine WL_stepM rfl (R_mv) ?_
          refine WL_step rfl (R_not_t rfl) ?_
          refine WL_stepM rfl (R_mv) ?_
          refine WL_guard_t rfl rfl ?_
          refine WL_stepM rfl (R_mv) ?_
          refine WL_guard_t rfl rfl ?_
          refine WL_step rfl (R_conv_bs (xs := frontB a.toNat) Tryz.underlying36 Tryz.underlying5 Tryz.underlying9 rfl (RdS.own hO H.held)) ?_
          refine WL_guard_t rfl rfl ?_
          refine WL_stepM rfl (R_mv) ?_
          refine WL_guard_t rfl rfl ?_
          refine WL_step rfl (R_conv_bs (xs := [a, b, c, d]) Tryz.underlying36 Tryz.underlying5 Tryz.underlying9 rfl (hl.monoN H hMk)) ?_
          refine WL_guard_t rfl rfl ?_
          refine WL_step rfl (R_ne_S_f rfl rfl he) ?_
          refine WL_stepM rfl (R_pk_f rfl) ?_
          refine WL_nil ?_
          refine W_cond_f rfl ?_
          refine W_skip ?_
          refine W_seq ?_
          refine W_region_l ?_
          refine WL_stepM rfl (R_mv) ?_
          refine WL_step rfl (R_indexAddr Tryz.underlying36 Tryz.sizeOf5 rfl rfl (by omega) (by omega) idx_cast1) ?_
          refine WL_step rfl (R_load_cell Tryz.isAgg5 rfl (H.cellN hc1 (by assumption))) ?_
          refine WL_step rfl (R_conv_int Tryz.underlying5 Tryz.underlying3 rfl u8_in_i64) ?_
          refine WL_stepM rfl (R_as) ?_
          refine WL_stepM rfl (R_as) ?_
          refine WL_nil ?_
          refine W_ret ?_
          exact ⟨_, rfl, rfl, H.none hMk⟩
        · have hd : decG [a, b, c, d] = (0, 2) := by unfold decG; exact if_neg (fun h => he h.2.2)
          rw [hd]
          refine W_seq ?_
          refine W_region_l ?_
          refine WL_stepM rfl (R_as) ?_
          refine WL_stepM rfl (R_as) ?_
          refine WL_nil ?_
          refine W_seq ?_
          refine W_seq ?_
          refine W_region_l ?_
          refine WL_stepM rfl (R_mv) ?_
          refine WL_step rfl (R_len_slice Tryz.underlying36 rfl) ?_
          refine WL_step rfl (R_ne_f rfl rfl (by omega)) ?_
          refine WL_nil ?_
          refine W_cond_f rfl ?_
          refine W_skip ?_
          refine W_seq ?_
          refine W_region_l ?_
          refine WL_stepM rfl (R_mv) ?_
          refine WL_step rfl (R_indexAddr Tryz.underlying36 Tryz.sizeOf5 rfl rfl (by omega) (by omega) idx_cast1) ?_
          refine WL_step rfl (R_load_cell Tryz.isAgg5 rfl (H.cell hc1 (by simp))) ?_
          refine WL_step rfl (R_conv_int Tryz.underlying5 Tryz.underlying3 rfl u8_in_i64) ?_
          (refine WL_call rfl (R_call rfl Tryz.call87 rfl) (frontBytes_yes (g := (a.toNat : Int)) (by omega) (by omega) _) ?_; rintro _ w21 ⟨u, M, rfl, hO, H1⟩; have h21 := H.seqO hO H1; clear H H1 hO; obtain ⟨hO, H⟩ := h21; obtain ⟨ua, uc, rfl⟩ := hO.form; rw [List.append_nil] at H; have hMk := hO.keys)
          refine WL_stepM rfl (R_mv) ?_
          refine WL_step rfl (R_extract rfl rfl) ?_
          refine WL_step rfl (R_extract rfl rfl) ?_
          refine WL_stepM rfl (R_as) ?_
          refine WL_stepM rfl (R_as) ?_
          refine WL_nil ?_
          refine W_seq ?_
          refine W_seq ?_
          refine W_region_l ?_
          refine WL_stepM rfl (R_mv) ?_
          refine WL_step rfl (R_not_t rfl) ?_
          refine WL_stepM rfl (R_mv) ?_
          refine WL_guard_t rfl rfl ?_
          refine WL_stepM rfl (R_mv) ?_
          refine WL_guard_t rfl rfl ?_
          refine WL_step rfl (R_conv_bs (xs := frontB a.toNat) Tryz.underlying36 Tryz.underlying5 Tryz.underlying9 rfl (RdS.own hO H.held)) ?_
          refine WL_guard_t rfl rfl ?_
          refine WL_stepM rfl (R_mv) ?_
          refine WL_guard_t rfl rfl ?_
          refine WL_step rfl (R_conv_bs (xs := [a, b, c, d]) Tryz.underlying36 Tryz.underlying5 Tryz.underlying9 rfl (hl.monoN H hMk)) ?_
          refine WL_guard_t rfl rfl ?_
          refine WL_step rfl (R_ne_S_t rfl rfl he) ?_
          refine WL_stepM rfl (R_pk_f rfl) ?_
          refine WL_nil ?_
          refine W_cond_t rfl ?_
          refine W_seq ?_
          refine W_region_l ?_
          refine WL_stepM rfl (R_as) ?_
          refine WL_stepM rfl (R_as) ?_
          refine WL_nil ?_
          refine W_ret ?_
          exact ⟨_, rfl, rfl, H.none hMk⟩
      · have hd : decG [a, b, c, d] = (0, 2) := by unfold decG; exact if_neg (fun h => h8 h.2.1)
        rw [hd]
        refine W_seq ?_
        refine W_region_l ?_
        refine WL_stepM rfl (R_as) ?_
        refine WL_stepM rfl (R_as) ?_
        refine WL_nil ?_
        refine W_seq ?_
        refine W_seq ?_
        refine W_region_l ?_
        refine WL_stepM rfl (R_mv) ?_
        refine WL_step rfl (R_len_slice Tryz.underlying36 rfl) ?_
        refine WL_step rfl (R_ne_f rfl rfl (by omega)) ?_
        refine WL_nil ?_
        refine W_cond_f rfl ?_
        refine W_skip ?_
        refine W_seq ?_
        refine W_region_l ?_
        refine WL_stepM rfl (R_mv) ?_
        refine WL_step rfl (R_indexAddr Tryz.underlying36 Tryz.sizeOf5 rfl rfl (by omega) (by omega) idx_cast1) ?_
        refine WL_step rfl (R_load_cell Tryz.isAgg5 rfl (H.cell hc1 (by simp))) ?_
        refine WL_step rfl (R_conv_int Tryz.underlying5 Tryz.underlying3 rfl u8_in_i64) ?_
        (refine WL_call rfl (R_call rfl Tryz.call87 rfl) (frontBytes_no (g := (a.toNat : Int)) (by omega) _) ?_; rintro _ w21 ⟨rfl, H1⟩; replace H := H.seq0 H1; clear H1)
        refine WL_stepM rfl (R_mv) ?_
        refine WL_step rfl (R_extract rfl rfl) ?_
        refine WL_step rfl (R_extract rfl rfl) ?_
        refine WL_stepM rfl (R_as) ?_
        refine WL_stepM rfl (R_as) ?_
        refine WL_nil ?_
        refine W_seq ?_
        refine W_seq ?_
        refine W_region_l ?_
        refine WL_stepM rfl (R_mv) ?_
        refine WL_step rfl (R_not_f rfl) ?_
        refine WL_stepM rfl (R_mv) ?_
        refine WL_guard_f rfl rfl (by decide) ?_
        refine WL_guard_f rfl rfl (by decide) ?_
        refine WL_guard_f rfl rfl (by decide) ?_
        refine WL_guard_f rfl rfl (by decide) ?_
        refine WL_guard_f rfl rfl (by decide) ?_
        refine WL_stepM rfl (R_pk_t rfl) ?_
        refine WL_nil ?_
        refine W_cond_t rfl ?_
        refine W_seq ?_
        refine W_region_l ?_
        refine WL_stepM rfl (R_as) ?_
        refine WL_stepM rfl (R_as) ?_
        refine WL_nil ?_
        refine W_ret ?_
        exact ⟨_, rfl, rfl, H⟩
  · have hd : decG xs = (0, 2) := by unfold decG; exact if_neg (fun h => h4 h.1)
    rw [hd]
    refine W_seq ?_
    refine W_region_l ?_
    refine WL_stepM rfl (R_as) ?_
    refine WL_stepM rfl (R_as) ?_
    refine WL_nil ?_
    refine W_seq ?_
    refine W_seq ?_
    refine W_region_l ?_
    refine WL_stepM rfl (R_mv) ?_
    refine WL_step rfl (R_len_slice Tryz.underlying36 rfl) ?_
    refine WL_step rfl (R_ne_t rfl rfl (by omega)) ?_
    refine WL_nil ?_
    refine W_cond_t rfl ?_
    refine W_seq ?_
    refine W_region_l ?_
    refine WL_stepM rfl (R_as) ?_
    refine WL_stepM rfl (R_as) ?_
    refine WL_nil ?_
    refine W_ret ?_
    exact ⟨_, rfl, rfl, H⟩
end Go.Proofs.YtlpmfldijgdcoaaGreatDoor.Cm
