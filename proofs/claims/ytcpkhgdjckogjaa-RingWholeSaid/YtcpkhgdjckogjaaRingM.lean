/-
  Package ring's own try.
-/
import Derived.Test.YtcpkhgdjckogjaaRingD
import Derived.Test.YtcpkhgdjckogjaaRingL
namespace Go.Proofs.Ytcpkhgdjckogjaa.Ring
open Go Go.Proofs Go.Proofs.Ytcpkhgdjckogjaa.Fx Go.Proofs.Ytcpkhgdjckogjaa.Codec
set_option maxRecDepth 100000
set_option linter.unusedVariables false
set_option linter.unusedSimpArgs false
set_option maxHeartbeats 2000000

theorem put_to {bs : List UInt8} {p q : Pi} {n : Nat} {w : World} {l : Value} (he : putP p bs = (q, n)) (hl : RdS w l (bs.map U)) (hb : bs.length ≤ 9223372036854775807) :
    Ret Try.prog 15 #[vP p, l] w fun v w' => v = .tuple #[vP q, I n] ∧ Hp w [] w' := by
  have := put_ret p hl hb
  rw [he] at this
  exact this
theorem rput_to {bs : List UInt8} {p q : Pi} {n : Nat} {w : World} (he : putP p bs = (q, n)) (hb : bs.length ≤ 100000) :
    Ret Try.prog 24 #[vP p, S bs] w fun v w' => v = .tuple #[vP q, I n] ∧ Hp w [] w' := by
  have := rput_ret (bs := bs) p w hb
  rw [he] at this
  exact this
theorem take_to {p q : Pi} {n : Int} {ys : List UInt8} {w : World} (he : takeP p n = (q, ys)) :
    Ret Try.prog 16 #[vP p, I n] w fun v w' => ∃ ao ca M, v = .tuple #[vP q, .slice ao ys.length ca] ∧ (∀ q ∈ M, w.heap.size ≤ q.1) ∧ RdM (.slice ao ys.length ca) (ys.map U) M ∧ Hp w M w' := by
  have := take_ret p n w
  rw [he] at this
  refine this.mono fun v w' ⟨u, M, hv, hM, hR, H⟩ => ?_
  obtain ⟨ao, ca, rfl⟩ := (hR w' H.held).form
  simp only [List.length_map] at hv hR
  exact ⟨ao, ca, M, hv, hM, hR, H⟩
theorem rtake_to {p q : Pi} {n : Int} {ys : List UInt8} {w : World} (he : takeP p n = (q, ys)) :
    Ret Try.prog 25 #[vP p, I n] w fun v w' => v = .tuple #[vP q, S ys] ∧ Hp w [] w' := by
  have := rtake_ret p n w
  rw [he] at this
  exact this

theorem awake_ret (w : World) : Ret Try.prog 14 #[] w fun v w' => v = .bool true ∧ Hp w [] w' := by
  refine Ret_of_W (args := []) Try.func14 rfl Try.ntmps14 Try.results14 (by simp) ?_
  have H := Hp.refl w
  obtain ⟨p1, p2, h1, h2, hok, hc, hh⟩ : ∃ p1 p2, putP zeroP [1, 2, 3] = (p1, 3) ∧ takeP p1 2 = (p2, [1, 2]) ∧ okP p2 ∧ p2.c = 1 ∧ p2.h = 2 := ⟨(putP zeroP [1, 2, 3]).1, (takeP (putP zeroP [1, 2, 3]).1 2).1, Prod.ext rfl (by decide), Prod.ext rfl (by decide), by decide, by decide, by decide⟩
  refine W_seq ?_
  refine W_region_l ?_
  refine WL_stepM rfl (R_as) ?_
  refine WL_nil ?_
  refine W_seq ?_
  refine W_region_l ?_
  refine WL_step rfl R_zeroP ?_
  (refine WL_effn rfl (E_buildOnes (vs := [(.int _ _), (.int _ _), (.int _ _)]) H Try.underlying22 Try.sizeOf5 Try.zeroValue5 rfl rfl (by decide) rfl rfl (by simp [Value.oneCell'])) ?_; clear H; intro b8 w8 hb8 H)
  (refine WL_call rfl (R_call rfl Try.call15 rfl) (put_to h1 (RdS.blk (c := ([1, 2, 3] : List UInt8).map U) (off := 0) (H.get .here) rfl (by decide) (by decide)) (by decide)) ?_; rintro _ w9 ⟨rfl, H1⟩; replace H := H.seq0 H1; clear H1)
  refine WL_stepM rfl (R_mv) ?_
  refine WL_step rfl (R_extract rfl rfl) ?_
  refine WL_step rfl (R_extract rfl rfl) ?_
  (refine WL_effn rfl (E_allocP H) ?_; clear H; intro b1 w13 hb1 H)
  (refine WL_effu rfl (E_storeP (q := p1) H rfl rfl .here) ?_; clear H; intro w14 H)
  refine WL_stepM rfl (R_as) ?_
  refine WL_nil ?_
  refine W_seq ?_
  refine W_region_l ?_
  refine WL_step rfl (R_loadP rfl (H.get .here)) ?_
  (refine WL_call rfl (R_call rfl Try.call16 rfl) (take_to h2) ?_; rintro _ w20 ⟨a2, c2, M2, rfl, hM2, hR2, H1⟩; have hsz := H.size; replace H := H.seqN H1 hM2; replace hM2 := fun q hq => Nat.le_trans hsz (hM2 q hq); clear H1 hsz)
  refine WL_stepM rfl (R_mv) ?_
  refine WL_step rfl (R_extract rfl rfl) ?_
  refine WL_step rfl (R_extract rfl rfl) ?_
  (refine WL_effn rfl (E_allocP H) ?_; clear H; intro b3 w24 hb3 H)
  (have _g := hb3; refine WL_effu rfl (E_storeP (q := p2) H rfl rfl .here) ?_; clear H; intro w25 H)
  refine WL_stepM rfl (R_as) ?_
  refine WL_nil ?_
  refine W_seq ?_
  refine W_region_l ?_
  refine WL_step rfl (R_loadP rfl (H.get .here)) ?_
  (refine WL_call rfl (R_call rfl Try.call17 rfl) (enc_yes p2 hok _) ?_; rintro _ w31 ⟨be, rfl, hbe, H1⟩; have hsz := H.size; replace H := H.seqN H1 (kCons hbe kNil); replace hbe := Nat.le_trans hsz hbe; clear H1 hsz)
  refine WL_stepM rfl (R_mv) ?_
  refine WL_step rfl (R_extract rfl rfl) ?_
  refine WL_step rfl (R_extract rfl rfl) ?_
  refine WL_stepM rfl (R_as) ?_
  refine WL_stepM rfl (R_as) ?_
  refine WL_nil ?_
  refine W_seq ?_
  refine W_region_l ?_
  (refine WL_effn rfl (E_makeSlice H Try.underlying22 Try.sizeOf5 Try.typeInfo5 Try.zeroValue5 rfl rfl rfl (by decide) (by decide) (by decide) (by decide)) ?_; clear H; intro bz w40 hbz H)
  (refine WL_call rfl (R_call rfl Try.call21 rfl) (dec_to (xs := List.replicate 40 0) (decP_free rfl (by simp)) (RdS.blk (c := (List.replicate 40 0).map U) (off := 0) (H.get .here) rfl (by simp) (by decide)) (by simp)) ?_; rintro _ w41 ⟨rfl, H1⟩; replace H := H.seq0 H1; clear H1)
  refine WL_stepM rfl (R_mv) ?_
  refine WL_step rfl (R_extract rfl rfl) ?_
  refine WL_step rfl (R_extract rfl rfl) ?_
  (refine WL_effn rfl (E_allocP H) ?_; clear H; intro b7 w45 hb7 H)
  (have _g := hb7; refine WL_effu rfl (E_storeP (q := zeroP) H rfl rfl .here) ?_; clear H; intro w46 H)
  refine WL_stepM rfl (R_as) ?_
  refine WL_nil ?_
  refine W_seq ?_
  refine W_region_l ?_
  refine WL_stepM rfl (R_mv) ?_
  refine WL_step rfl (R_eq_t rfl rfl (by omega)) ?_
  refine WL_stepM rfl (R_mv) ?_
  refine WL_guard_t rfl rfl ?_
  refine WL_stepM rfl (R_mv) ?_
  refine WL_guard_t rfl rfl ?_
  refine WL_step rfl (R_conv_bs (xs := [1, 2]) Try.underlying22 Try.underlying5 Try.underlying9 rfl (hR2 _ (fun p hp => H.held p (by simp [hp])))) ?_
  refine WL_guard_t rfl rfl ?_
  refine WL_step rfl (R_eq_S_t (xs := [1, 2]) (ys := [1, 2]) rfl rfl rfl) ?_
  refine WL_stepM rfl (R_pk_t rfl) ?_
  refine WL_stepM rfl (R_mv) ?_
  refine WL_guard_t rfl rfl ?_
  refine WL_step rfl (R_fieldAddr (off' := 1) Try.underlying26 rfl Try.sizeOf3 (by decide) rfl rfl) ?_
  refine WL_guard_t rfl rfl ?_
  refine WL_step rfl (R_load (v := I 1) Try.isAgg3 rfl (H.get (.there (.there (.there .here)))) (by rw [← hc]; rfl)) ?_
  refine WL_guard_t rfl rfl ?_
  refine WL_step rfl (R_eq_t rfl rfl (by omega)) ?_
  refine WL_stepM rfl (R_pk_t rfl) ?_
  refine WL_stepM rfl (R_mv) ?_
  refine WL_guard_t rfl rfl ?_
  refine WL_step rfl (R_fieldAddr (off' := 0) Try.underlying26 rfl Try.sizeOf3 (by decide) rfl rfl) ?_
  refine WL_guard_t rfl rfl ?_
  refine WL_step rfl (R_load (v := I 2) Try.isAgg3 rfl (H.get (.there (.there (.there .here)))) (by rw [← hh]; rfl)) ?_
  refine WL_guard_t rfl rfl ?_
  refine WL_step rfl (R_eq_t rfl rfl (by omega)) ?_
  refine WL_stepM rfl (R_pk_t rfl) ?_
  refine WL_stepM rfl (R_mv) ?_
  refine WL_guard_t rfl rfl ?_
  refine WL_stepM rfl (R_mv) ?_
  refine WL_stepM rfl (R_pk_t rfl) ?_
  refine WL_stepM rfl (R_mv) ?_
  refine WL_guard_t rfl rfl ?_
  refine WL_stepM rfl (R_mv) ?_
  refine WL_guard_t rfl rfl ?_
  refine WL_step rfl (R_len_slice Try.underlying22 rfl) ?_
  refine WL_guard_t rfl rfl ?_
  refine WL_step rfl (R_eq_t rfl rfl (by omega)) ?_
  refine WL_stepM rfl (R_pk_t rfl) ?_
  refine WL_stepM rfl (R_mv) ?_
  refine WL_guard_t rfl rfl ?_
  refine WL_stepM rfl (R_mv) ?_
  refine WL_guard_t rfl rfl ?_
  refine WL_step rfl (R_eq_t rfl rfl (by omega)) ?_
  refine WL_stepM rfl (R_pk_t rfl) ?_
  refine WL_stepM rfl (R_as) ?_
  refine WL_nil ?_
  refine W_ret ?_
  exact ⟨_, rfl, rfl, H.none (by repeat' first | exact kNil | apply kCons | apply kApp | assumption | exact OwnS.keys (by assumption))⟩
end Go.Proofs.Ytcpkhgdjckogjaa.Ring
