/-
  The law CodecBytes: what its calls come to.
-/
import Derived.Test.YtjfcnmbalojehaaCodecB
import Derived.Test.YtjfcnmbalojehaaRef1
import Derived.Test.YtjfcnmbalojehaaRef2
namespace Go.Proofs.Ytjfcnmbalojehaa.Codec
open Go Go.Proofs Go.Proofs.Ytjfcnmbalojehaa.Fx
set_option maxRecDepth 100000
set_option linter.unusedVariables false
set_option linter.unusedSimpArgs false
set_option maxHeartbeats 2000000

theorem set_two {x y : UInt8} : ∀ {xs : List UInt8} {k : Nat}, k + 2 ≤ xs.length → (xs.set k x).set (k + 1) y = xs.take k ++ [x, y] ++ xs.drop (k + 2)
  | p :: q :: t, 0, _ => by simp
  | p :: t, k + 1, h => by
    have := set_two (x := x) (y := y) (xs := t) (k := k) (by simpa using h)
    simpa using this

theorem set_map2 {xs : List UInt8} {sp : List Value} {k : Nat} {x y : UInt8} (h : k + 2 ≤ xs.length) :
    ((xs.map U ++ sp).set (0 + k) (U x)).set (0 + k + 1) (U y) = (xs.take k ++ [x, y] ++ xs.drop (k + 2)).map U ++ sp := by
  rw [Nat.zero_add, set_map (by omega), set_map (by simp; omega), set_two h]

theorem bytes_ret {xs : List UInt8} {w : World} {l : Value} (a c : Int) (hl : RdS w l (xs.map U)) (hb : xs.length ≤ 9223372036854775807) :
    Ret Try.prog 7 #[l, I a, I c] w fun v w' => v = .bool true ∧ Hp w [] w' := by
  refine Ret_of_W (args := [_, _, _]) Try.func7 rfl Try.ntmps7 Try.results7 (by simp) ?_
  have H := Hp.refl w
  obtain ⟨ao, ca, rfl, hca, hra⟩ := id hl
  simp only [List.length_map] at hl ⊢
  by_cases hz : 500 < xs.length
  · refine W_seq ?_
    refine W_region_l ?_
    refine WL_stepM rfl (R_as) ?_
    refine WL_nil ?_
    refine W_seq ?_
    refine W_seq ?_
    refine W_region_l ?_
    refine WL_stepM rfl (R_mv) ?_
    refine WL_step rfl (R_len_slice Try.underlying43 rfl) ?_
    refine WL_step rfl (R_gt_t rfl rfl (by omega)) ?_
    refine WL_nil ?_
    refine W_cond_t rfl ?_
    refine W_seq ?_
    refine W_region_l ?_
    (refine WL_call rfl (R_call rfl Try.call22 rfl) (awake_ret _) ?_; rintro _ w15 ⟨rfl, H1⟩; replace H := H.seq0 H1; clear H1)
    refine WL_stepM rfl (R_as) ?_
    refine WL_nil ?_
    refine W_ret ?_
    exact ⟨_, rfl, rfl, H⟩
  · by_cases hin : 0 ≤ a ∧ a + 2 ≤ xs.length
    · by_cases hg : 0 ≤ c ∧ c ≤ 65535
      · obtain ⟨k, rfl⟩ : ∃ k : Nat, a = (k : Int) := ⟨a.toNat, by omega⟩
        obtain ⟨n, rfl⟩ : ∃ n : Nat, c = (n : Int) := ⟨c.toNat, by omega⟩
        obtain ⟨ys, hys, hyl⟩ : ∃ ys : List UInt8, ys = xs.take k ++ [UInt8.ofNat (n / 256), UInt8.ofNat n] ++ xs.drop (k + 2) ∧ ys.length = xs.length := ⟨_, rfl, by simp; omega⟩
        obtain ⟨u, hu⟩ : ∃ u, ys[k]? = some u := ⟨_, List.getElem?_eq_getElem (by omega)⟩
        obtain ⟨v, hv⟩ : ∃ v, ys[k + 1]? = some v := ⟨_, List.getElem?_eq_getElem (by omega)⟩
        have hu2 := (List.getElem?_eq_some_iff.1 hu).2
        have hv2 := (List.getElem?_eq_some_iff.1 hv).2
        have hu8 := u.toNat_lt
        have hv8 := v.toNat_lt
        have hW : List.drop (Int.toNat 0) (List.take (k : Int).toNat xs) ++ [UInt8.ofNat (n / 256), UInt8.ofNat n] ++ List.drop ((k : Int) + 2).toNat (List.take (xs.length : Int).toNat xs) = ys := by
          rw [hys, Int.toNat_natCast, Int.toNat_natCast, show ((k : Int) + 2).toNat = k + 2 from by omega, List.take_length]; rfl
        have hu3 : ys[(k : Int).toNat]? = some u := hu
        have hv3 : ys[((k : Int) + 1).toNat]? = some v := by rw [show ((k : Int) + 1).toNat = k + 1 from by omega]; exact hv
        refine W_seq ?_
        refine W_region_l ?_
        refine WL_stepM rfl (R_as) ?_
        refine WL_nil ?_
        refine W_seq ?_
        refine W_seq ?_
        refine W_region_l ?_
        refine WL_stepM rfl (R_mv) ?_
        refine WL_step rfl (R_len_slice Try.underlying43 rfl) ?_
        refine WL_step rfl (R_gt_f rfl rfl (by omega)) ?_
        refine WL_nil ?_
        refine W_cond_f rfl ?_
        refine W_skip ?_
        refine W_seq ?_
        refine W_seq ?_
        (refine W_drawH (fun _ => false) (by kernel_rfl) H ?_; clear H; intro w16 H)
        refine WA_takeM 0 rfl rfl rfl (by kernel_rfl) (by kernel_rfl) H (fun _ hC => R_mv) ?_
        refine WA_takeM 2 rfl rfl rfl (by kernel_rfl) (by kernel_rfl) H (fun _ hC => R_mv) ?_
        refine WA_take 3 rfl rfl rfl (by kernel_rfl) (by kernel_rfl) H (fun _ hC => R_conv_bs (xs := xs) Try.underlying43 Try.underlying5 Try.underlying9 rfl (hl.same hC)) ?_
        refine WA_one (i := 1) (by kernel_rfl) ?_
        (refine WI_call rfl (.inl rfl) (R_call rfl Try.call23 rfl) (by exact sum_ret (hl.same H) hb) (by first | exact fun _ _ hR _ => H.seq0 hR.2 | exact fun _ _ hR h => Bool.noConfusion h | exact fun _ _ hR _ => (H.seq0 hR.2).none (by repeat' first | exact kNil | apply kCons | apply kApp | assumption | exact OwnS.keys (by assumption)) | exact fun _ _ hR _ => (H.seq0 hR.2).dropN (by repeat' first | exact kNil | apply kCons | apply kApp | assumption | exact OwnS.keys (by assumption))) ?_; rintro _ w21 ⟨rfl, H1⟩; replace H := H.seq0 H1; clear H1)
        refine WA_one (i := 4) (by kernel_rfl) ?_
        (refine WI_call rfl (.inl rfl) (R_call rfl Try.call24 rfl) (by exact refSum_ret _ (by omega)) (by first | exact fun _ _ hR _ => H.seq0 hR.2 | exact fun _ _ hR h => Bool.noConfusion h | exact fun _ _ hR _ => (H.seq0 hR.2).none (by repeat' first | exact kNil | apply kCons | apply kApp | assumption | exact OwnS.keys (by assumption)) | exact fun _ _ hR _ => (H.seq0 hR.2).dropN (by repeat' first | exact kNil | apply kCons | apply kApp | assumption | exact OwnS.keys (by assumption))) ?_; rintro _ w23 ⟨rfl, H1⟩; replace H := H.seq0 H1; clear H1)
        refine WA_take 5 rfl rfl rfl (by kernel_rfl) (by kernel_rfl) H (fun _ hC => R_ne_f rfl rfl (by omega)) ?_
        refine WA_takeM 6 rfl rfl rfl (by kernel_rfl) (by kernel_rfl) H (fun _ hC => R_mv) ?_
        refine WA_takeGM 7 rfl rfl rfl rfl (by kernel_rfl) (by kernel_rfl) H (fun _ hC => R_mv) ?_
        refine WA_takeGM 9 rfl rfl rfl rfl (by kernel_rfl) (by kernel_rfl) H (fun _ hC => R_mv) ?_
        refine WA_takeG 10 rfl rfl rfl rfl (by kernel_rfl) (by kernel_rfl) H (fun _ hC => R_conv_bs (xs := xs) Try.underlying43 Try.underlying5 Try.underlying9 rfl (hl.same hC)) ?_
        refine WA_one (i := 8) (by kernel_rfl) ?_
        (refine WI_call rfl (.inr ⟨_, _, rfl, rfl⟩) (R_call rfl Try.call25 rfl) (by exact blank_ret (hl.same H) hb) (by first | exact fun _ _ hR _ => H.seq0 hR.2 | exact fun _ _ hR h => Bool.noConfusion h | exact fun _ _ hR _ => (H.seq0 hR.2).none (by repeat' first | exact kNil | apply kCons | apply kApp | assumption | exact OwnS.keys (by assumption)) | exact fun _ _ hR _ => (H.seq0 hR.2).dropN (by repeat' first | exact kNil | apply kCons | apply kApp | assumption | exact OwnS.keys (by assumption))) ?_; rintro _ w30 ⟨rfl, H1⟩; replace H := H.seq0 H1; clear H1)
        refine WA_one (i := 11) (by kernel_rfl) ?_
        (refine WI_call rfl (.inr ⟨_, _, rfl, rfl⟩) (R_call rfl Try.call26 rfl) (by exact refBlank_ret _ (by omega)) (by first | exact fun _ _ hR _ => H.seq0 hR.2 | exact fun _ _ hR h => Bool.noConfusion h | exact fun _ _ hR _ => (H.seq0 hR.2).none (by repeat' first | exact kNil | apply kCons | apply kApp | assumption | exact OwnS.keys (by assumption)) | exact fun _ _ hR _ => (H.seq0 hR.2).dropN (by repeat' first | exact kNil | apply kCons | apply kApp | assumption | exact OwnS.keys (by assumption))) ?_; rintro _ w32 ⟨rfl, H1⟩; replace H := H.seq0 H1; clear H1)
        refine WA_takeG 12 rfl rfl rfl rfl (by kernel_rfl) (by kernel_rfl) H (fun _ hC => R_ne_bool_f Try.underlying4 rfl rfl rfl) ?_
        refine WA_takeM 13 rfl rfl rfl (by kernel_rfl) (by kernel_rfl) H (fun _ hC => R_pk_f rfl) ?_
        refine WA_done (by kernel_rfl) ?_
        refine W_cond_f rfl ?_
        refine W_skip ?_
        refine W_seq ?_
        refine W_region_l ?_
        (refine WL_effn rfl (E_buildSlice (vs := []) H Try.underlying43 Try.sizeOf5 Try.zeroValue5 rfl rfl (by decide) rfl rfl) ?_; clear H; intro b40 w40 hb40 H)
        refine WL_stepM rfl (R_mv) ?_
        (refine WL_effm rfl (E_append H .one (OwnS.new (xs := []) (sp := []) (by assumption) rfl rfl (by omega)) Try.underlying43 Try.typeInfo5 rfl rfl rfl rfl rfl rfl ((hl.monoN H (by repeat' first | exact kNil | apply kCons | apply kApp | assumption | exact OwnS.keys (by assumption))).src Try.underlying43 (by simp [Value.oneCell'])) (by simp; omega) (by simp [Try.t5]; omega)) ?_; clear H; intro vN MN w42 hO H; rw [List.length_map, Nat.zero_add, List.nil_append] at hO; obtain ⟨b3, cap3, sp3, rfl, hb3, rfl, hsp3, hcap3⟩ := OwnS.pos hO (by omega); rw [List.cons_append, List.nil_append] at H)
        refine WL_stepM rfl (R_as) ?_
        refine WL_nil ?_
        refine W_seq ?_
        refine W_region_l ?_
        refine WL_stepM rfl (R_mv) ?_
        refine WL_stepM rfl (R_mv) ?_
        refine WL_step rfl (R_len_slice Try.underlying43 rfl) ?_
        (refine WL_call rfl (R_call rfl Try.call27 rfl) (Ref1.within_yes _ (by omega) (by omega) (by omega) (by omega) (by omega)) ?_; rintro _ w50 ⟨rfl, H1⟩; replace H := H.seq0 H1; clear H1)
        refine WL_stepM rfl (R_as) ?_
        refine WL_nil ?_
        refine W_seq ?_
        refine W_region_l ?_
        refine WL_stepM rfl (R_mv) ?_
        refine WL_stepM rfl (R_mv) ?_
        refine WL_guard_t rfl rfl ?_
        refine WL_stepM rfl (R_mv) ?_
        refine WL_guard_t rfl rfl ?_
        refine WL_step rfl (R_ge_t rfl rfl (by omega)) ?_
        refine WL_stepM rfl (R_pk_t rfl) ?_
        refine WL_stepM rfl (R_mv) ?_
        refine WL_guard_t rfl rfl ?_
        refine WL_stepM rfl (R_mv) ?_
        refine WL_guard_t rfl rfl ?_
        refine WL_step rfl (R_le_t rfl rfl (by omega)) ?_
        refine WL_stepM rfl (R_pk_t rfl) ?_
        refine WL_stepM rfl (R_as) ?_
        refine WL_nil ?_
        refine W_seq ?_
        refine W_seq ?_
        refine W_region_l ?_
        refine WL_stepM rfl (R_mv) ?_
        refine WL_stepM rfl (R_mv) ?_
        refine WL_stepM rfl (R_mv) ?_
        (refine WL_call rfl (R_call rfl Try.call28 rfl) (put2_yes (k := k) (m := n) (H.get .here) (by omega) (by simp) (by omega) (by omega)) ?_; rintro _ w76 ⟨rfl, H1⟩; rw [set_map2 (by omega), ← hys] at H1; replace H := H.seq H1 (okSeq_set .here okSeq_nil); clear H1)
        refine WL_stepM rfl (R_mv) ?_
        refine WL_step rfl (R_ne_bool_f Try.underlying4 rfl rfl (by decide)) ?_
        refine WL_nil ?_
        refine W_cond_f rfl ?_
        refine W_skip ?_
        refine W_seq ?_
        refine W_region_l ?_
        refine WL_stepM rfl (R_mv) ?_
        refine WL_step rfl (R_conv_bs (xs := xs) Try.underlying43 Try.underlying5 Try.underlying9 rfl (hl.monoN H (by repeat' first | exact kNil | apply kCons | apply kApp | assumption | exact OwnS.keys (by assumption)))) ?_
        refine WL_stepM rfl (R_as) ?_
        refine WL_nil ?_
        refine W_seq ?_
        refine W_seq ?_
        refine W_region_l ?_
        refine WL_stepM rfl (R_mv) ?_
        refine WL_nil ?_
        refine W_cond_t rfl ?_
        (refine W_drawH (fun _ => false) (by kernel_rfl) H ?_; clear H; intro w94 H)
        refine WA_takeM 0 rfl rfl rfl (by kernel_rfl) (by kernel_rfl) H (fun _ hC => R_mv) ?_
        refine WA_takeM 1 rfl rfl rfl (by kernel_rfl) (by kernel_rfl) H (fun _ hC => R_mv) ?_
        refine WA_take 2 rfl rfl rfl (by kernel_rfl) (by kernel_rfl) H (fun _ hC => R_slice_S Try.underlying9 rfl .none (.some rfl) (by omega) (by omega) (by omega)) ?_
        refine WA_takeM 3 rfl rfl rfl (by kernel_rfl) (by kernel_rfl) H (fun _ hC => R_mv) ?_
        refine WA_takeM 6 rfl rfl rfl (by kernel_rfl) (by kernel_rfl) H (fun _ hC => R_mv) ?_
        refine WA_takeM 7 rfl rfl rfl (by kernel_rfl) (by kernel_rfl) H (fun _ hC => R_mv) ?_
        refine WA_take 8 rfl rfl rfl (by kernel_rfl) (by kernel_rfl) H (fun _ hC => R_add rfl rfl (w_i64 (by omega))) ?_
        refine WA_take 9 rfl rfl rfl (by kernel_rfl) (by kernel_rfl) H (fun _ hC => R_slice_S Try.underlying9 rfl (.some rfl) .none (by omega) (by omega) (by omega)) ?_
        refine WA_one (i := 4) (by kernel_rfl) ?_
        (refine WI_call rfl (.inl rfl) (R_call rfl Try.call29 rfl) (by exact two_ret _ _) (by first | exact fun _ _ hR _ => H.seq0 hR.2 | exact fun _ _ hR h => Bool.noConfusion h | exact fun _ _ hR _ => (H.seq0 hR.2).none (by repeat' first | exact kNil | apply kCons | apply kApp | assumption | exact OwnS.keys (by assumption)) | exact fun _ _ hR _ => (H.seq0 hR.2).dropN (by repeat' first | exact kNil | apply kCons | apply kApp | assumption | exact OwnS.keys (by assumption))) ?_; rintro _ w104 ⟨rfl, H1⟩; replace H := H.seq0 H1; clear H1)
        refine WA_take 5 rfl rfl rfl (by kernel_rfl) (by kernel_rfl) H (fun _ hC => R_cat_S rfl rfl (by simp; omega)) ?_
        refine WA_take 10 rfl rfl rfl (by kernel_rfl) (by kernel_rfl) H (fun _ hC => R_cat_S rfl rfl (by simp; omega)) ?_
        refine WA_takeM 11 rfl rfl rfl (by kernel_rfl) (by kernel_rfl) H (fun _ hC => R_as) ?_
        refine WA_done (by kernel_rfl) ?_
        refine W_seq ?_
        (rw [hW]; refine W_region_l ?_)
        refine WL_stepM rfl (R_mv) ?_
        refine WL_stepM rfl (R_mv) ?_
        (refine WL_call rfl (R_call rfl Try.call30 rfl) (get2_yes (xs := ys) (k := k) (hyl ▸ RdS.blk (H.get .here) (by rw [List.drop_zero, List.take_left' (by simp)]) (by simp) (by omega)) (by omega) (by omega)) ?_; rintro _ w113 ⟨rfl, H1⟩; rw [hu2, hv2]; replace H := H.seq0 H1; clear H1)
        refine WL_stepM rfl (R_mv) ?_
        refine WL_step rfl (R_extract rfl rfl) ?_
        refine WL_step rfl (R_extract rfl rfl) ?_
        refine WL_stepM rfl (R_as) ?_
        refine WL_stepM rfl (R_as) ?_
        refine WL_nil ?_
        refine W_seq ?_
        refine W_region_l ?_
        refine WL_stepM rfl (R_as) ?_
        refine WL_nil ?_
        refine W_seq ?_
        refine W_seq ?_
        refine W_region_l ?_
        refine WL_stepM rfl (R_mv) ?_
        refine WL_nil ?_
        refine W_cond_t rfl ?_
        (refine W_drawH (fun _ => false) (by kernel_rfl) H ?_; clear H; intro w130 H)
        refine WA_takeM 0 rfl rfl rfl (by kernel_rfl) (by kernel_rfl) H (fun _ hC => R_mv) ?_
        refine WA_takeM 1 rfl rfl rfl (by kernel_rfl) (by kernel_rfl) H (fun _ hC => R_mv) ?_
        refine WA_take 2 rfl rfl rfl (by kernel_rfl) (by kernel_rfl) H (fun _ hC => R_index_S (u := u) (i := (k : Int)) Try.underlying9 rfl rfl (by omega) hu3) ?_
        refine WA_take 3 rfl rfl rfl (by kernel_rfl) (by kernel_rfl) H (fun _ hC => R_conv_int Try.underlying5 Try.underlying3 rfl u8_in_i64) ?_
        refine WA_take 4 rfl rfl rfl (by kernel_rfl) (by kernel_rfl) H (fun _ hC => R_shl rfl rfl (by decide) (shl_i64 256 (by decide) (by omega))) ?_
        refine WA_takeM 5 rfl rfl rfl (by kernel_rfl) (by kernel_rfl) H (fun _ hC => R_mv) ?_
        refine WA_takeM 6 rfl rfl rfl (by kernel_rfl) (by kernel_rfl) H (fun _ hC => R_mv) ?_
        refine WA_take 7 rfl rfl rfl (by kernel_rfl) (by kernel_rfl) H (fun _ hC => R_add rfl rfl (w_i64 (by omega))) ?_
        refine WA_take 8 rfl rfl rfl (by kernel_rfl) (by kernel_rfl) H (fun _ hC => R_index_S (u := v) (i := (k : Int) + 1) Try.underlying9 rfl rfl (by omega) hv3) ?_
        refine WA_take 9 rfl rfl rfl (by kernel_rfl) (by kernel_rfl) H (fun _ hC => R_conv_int Try.underlying5 Try.underlying3 rfl u8_in_i64) ?_
        refine WA_take 10 rfl rfl rfl (by kernel_rfl) (by kernel_rfl) H (fun _ hC => R_bits rfl rfl (by simp) (or_bytes u v)) ?_
        refine WA_takeM 11 rfl rfl rfl (by kernel_rfl) (by kernel_rfl) H (fun _ hC => R_as) ?_
        refine WA_done (by kernel_rfl) ?_
        refine W_seq ?_
        refine W_region_l ?_
        refine WL_stepM rfl (R_mv) ?_
        refine WL_step rfl (R_conv_bs (xs := ys) Try.underlying43 Try.underlying5 Try.underlying9 rfl (hyl ▸ RdS.blk (H.get .here) (by rw [List.drop_zero, List.take_left' (by simp)]) (by simp) (by omega))) ?_
        refine WL_stepM rfl (R_mv) ?_
        refine WL_step rfl (R_eq_S_t rfl rfl rfl) ?_
        refine WL_stepM rfl (R_mv) ?_
        refine WL_guard_t rfl rfl ?_
        refine WL_stepM rfl (R_mv) ?_
        refine WL_guard_t rfl rfl ?_
        refine WL_stepM rfl (R_mv) ?_
        refine WL_guard_t rfl rfl ?_
        refine WL_step rfl (R_eq_bool_t Try.underlying4 rfl rfl (by decide)) ?_
        refine WL_stepM rfl (R_pk_t rfl) ?_
        refine WL_stepM rfl (R_mv) ?_
        refine WL_guard_t rfl rfl ?_
        refine WL_stepM rfl (R_mv) ?_
        refine WL_guard_t rfl rfl ?_
        refine WL_stepM rfl (R_mv) ?_
        refine WL_guard_t rfl rfl ?_
        refine WL_step rfl (R_eq_t rfl rfl (by omega)) ?_
        refine WL_stepM rfl (R_pk_t rfl) ?_
        refine WL_stepM rfl (R_mv) ?_
        refine WL_guard_t rfl rfl ?_
        (refine WL_call rfl (R_call rfl Try.call22 rfl) (awake_ret _) ?_; rintro _ w168 ⟨rfl, H1⟩; replace H := H.seq0 H1; clear H1)
        refine WL_stepM rfl (R_pk_t rfl) ?_
        refine WL_stepM rfl (R_as) ?_
        refine WL_nil ?_
        refine W_ret ?_
        exact ⟨_, rfl, rfl, H.none (by repeat' first | exact kNil | apply kCons | apply kApp | assumption | exact OwnS.keys (by assumption))⟩
      · obtain ⟨k, rfl⟩ : ∃ k : Nat, a = (k : Int) := ⟨a.toNat, by omega⟩
        obtain ⟨u, hu⟩ : ∃ u, xs[k]? = some u := ⟨_, List.getElem?_eq_getElem (by omega)⟩
        obtain ⟨v, hv⟩ : ∃ v, xs[k + 1]? = some v := ⟨_, List.getElem?_eq_getElem (by omega)⟩
        have hu2 := (List.getElem?_eq_some_iff.1 hu).2
        have hv2 := (List.getElem?_eq_some_iff.1 hv).2
        have hu8 := u.toNat_lt
        have hv8 := v.toNat_lt
        have hu3 : xs[(k : Int).toNat]? = some u := hu
        have hv3 : xs[((k : Int) + 1).toNat]? = some v := by rw [show ((k : Int) + 1).toNat = k + 1 from by omega]; exact hv
        by_cases hg0 : 0 ≤ c
        · refine W_seq ?_
          refine W_region_l ?_
          refine WL_stepM rfl (R_as) ?_
          refine WL_nil ?_
          refine W_seq ?_
          refine W_seq ?_
          refine W_region_l ?_
          refine WL_stepM rfl (R_mv) ?_
          refine WL_step rfl (R_len_slice Try.underlying43 rfl) ?_
          refine WL_step rfl (R_gt_f rfl rfl (by omega)) ?_
          refine WL_nil ?_
          refine W_cond_f rfl ?_
          refine W_skip ?_
          refine W_seq ?_
          refine W_seq ?_
          (refine W_drawH (fun _ => false) (by kernel_rfl) H ?_; clear H; intro w16 H)
          refine WA_takeM 0 rfl rfl rfl (by kernel_rfl) (by kernel_rfl) H (fun _ hC => R_mv) ?_
          refine WA_takeM 2 rfl rfl rfl (by kernel_rfl) (by kernel_rfl) H (fun _ hC => R_mv) ?_
          refine WA_take 3 rfl rfl rfl (by kernel_rfl) (by kernel_rfl) H (fun _ hC => R_conv_bs (xs := xs) Try.underlying43 Try.underlying5 Try.underlying9 rfl (hl.same hC)) ?_
          refine WA_one (i := 1) (by kernel_rfl) ?_
          (refine WI_call rfl (.inl rfl) (R_call rfl Try.call23 rfl) (by exact sum_ret (hl.same H) hb) (by first | exact fun _ _ hR _ => H.seq0 hR.2 | exact fun _ _ hR h => Bool.noConfusion h | exact fun _ _ hR _ => (H.seq0 hR.2).none (by repeat' first | exact kNil | apply kCons | apply kApp | assumption | exact OwnS.keys (by assumption)) | exact fun _ _ hR _ => (H.seq0 hR.2).dropN (by repeat' first | exact kNil | apply kCons | apply kApp | assumption | exact OwnS.keys (by assumption))) ?_; rintro _ w21 ⟨rfl, H1⟩; replace H := H.seq0 H1; clear H1)
          refine WA_one (i := 4) (by kernel_rfl) ?_
          (refine WI_call rfl (.inl rfl) (R_call rfl Try.call24 rfl) (by exact refSum_ret _ (by omega)) (by first | exact fun _ _ hR _ => H.seq0 hR.2 | exact fun _ _ hR h => Bool.noConfusion h | exact fun _ _ hR _ => (H.seq0 hR.2).none (by repeat' first | exact kNil | apply kCons | apply kApp | assumption | exact OwnS.keys (by assumption)) | exact fun _ _ hR _ => (H.seq0 hR.2).dropN (by repeat' first | exact kNil | apply kCons | apply kApp | assumption | exact OwnS.keys (by assumption))) ?_; rintro _ w23 ⟨rfl, H1⟩; replace H := H.seq0 H1; clear H1)
          refine WA_take 5 rfl rfl rfl (by kernel_rfl) (by kernel_rfl) H (fun _ hC => R_ne_f rfl rfl (by omega)) ?_
          refine WA_takeM 6 rfl rfl rfl (by kernel_rfl) (by kernel_rfl) H (fun _ hC => R_mv) ?_
          refine WA_takeGM 7 rfl rfl rfl rfl (by kernel_rfl) (by kernel_rfl) H (fun _ hC => R_mv) ?_
          refine WA_takeGM 9 rfl rfl rfl rfl (by kernel_rfl) (by kernel_rfl) H (fun _ hC => R_mv) ?_
          refine WA_takeG 10 rfl rfl rfl rfl (by kernel_rfl) (by kernel_rfl) H (fun _ hC => R_conv_bs (xs := xs) Try.underlying43 Try.underlying5 Try.underlying9 rfl (hl.same hC)) ?_
          refine WA_one (i := 8) (by kernel_rfl) ?_
          (refine WI_call rfl (.inr ⟨_, _, rfl, rfl⟩) (R_call rfl Try.call25 rfl) (by exact blank_ret (hl.same H) hb) (by first | exact fun _ _ hR _ => H.seq0 hR.2 | exact fun _ _ hR h => Bool.noConfusion h | exact fun _ _ hR _ => (H.seq0 hR.2).none (by repeat' first | exact kNil | apply kCons | apply kApp | assumption | exact OwnS.keys (by assumption)) | exact fun _ _ hR _ => (H.seq0 hR.2).dropN (by repeat' first | exact kNil | apply kCons | apply kApp | assumption | exact OwnS.keys (by assumption))) ?_; rintro _ w30 ⟨rfl, H1⟩; replace H := H.seq0 H1; clear H1)
          refine WA_one (i := 11) (by kernel_rfl) ?_
          (refine WI_call rfl (.inr ⟨_, _, rfl, rfl⟩) (R_call rfl Try.call26 rfl) (by exact refBlank_ret _ (by omega)) (by first | exact fun _ _ hR _ => H.seq0 hR.2 | exact fun _ _ hR h => Bool.noConfusion h | exact fun _ _ hR _ => (H.seq0 hR.2).none (by repeat' first | exact kNil | apply kCons | apply kApp | assumption | exact OwnS.keys (by assumption)) | exact fun _ _ hR _ => (H.seq0 hR.2).dropN (by repeat' first | exact kNil | apply kCons | apply kApp | assumption | exact OwnS.keys (by assumption))) ?_; rintro _ w32 ⟨rfl, H1⟩; replace H := H.seq0 H1; clear H1)
          refine WA_takeG 12 rfl rfl rfl rfl (by kernel_rfl) (by kernel_rfl) H (fun _ hC => R_ne_bool_f Try.underlying4 rfl rfl rfl) ?_
          refine WA_takeM 13 rfl rfl rfl (by kernel_rfl) (by kernel_rfl) H (fun _ hC => R_pk_f rfl) ?_
          refine WA_done (by kernel_rfl) ?_
          refine W_cond_f rfl ?_
          refine W_skip ?_
          refine W_seq ?_
          refine W_region_l ?_
          (refine WL_effn rfl (E_buildSlice (vs := []) H Try.underlying43 Try.sizeOf5 Try.zeroValue5 rfl rfl (by decide) rfl rfl) ?_; clear H; intro b40 w40 hb40 H)
          refine WL_stepM rfl (R_mv) ?_
          (refine WL_effm rfl (E_append H .one (OwnS.new (xs := []) (sp := []) (by assumption) rfl rfl (by omega)) Try.underlying43 Try.typeInfo5 rfl rfl rfl rfl rfl rfl ((hl.monoN H (by repeat' first | exact kNil | apply kCons | apply kApp | assumption | exact OwnS.keys (by assumption))).src Try.underlying43 (by simp [Value.oneCell'])) (by simp; omega) (by simp [Try.t5]; omega)) ?_; clear H; intro vN MN w42 hO H; rw [List.length_map, Nat.zero_add, List.nil_append] at hO; rw [List.append_nil] at H)
          refine WL_stepM rfl (R_as) ?_
          refine WL_nil ?_
          refine W_seq ?_
          refine W_region_l ?_
          refine WL_stepM rfl (R_mv) ?_
          refine WL_stepM rfl (R_mv) ?_
          refine WL_step rfl (R_len_slice Try.underlying43 rfl) ?_
          (refine WL_call rfl (R_call rfl Try.call27 rfl) (Ref1.within_yes _ (by omega) (by omega) (by omega) (by omega) (by omega)) ?_; rintro _ w50 ⟨rfl, H1⟩; replace H := H.seq0 H1; clear H1)
          refine WL_stepM rfl (R_as) ?_
          refine WL_nil ?_
          refine W_seq ?_
          refine W_region_l ?_
          refine WL_stepM rfl (R_mv) ?_
          refine WL_stepM rfl (R_mv) ?_
          refine WL_guard_t rfl rfl ?_
          refine WL_stepM rfl (R_mv) ?_
          refine WL_guard_t rfl rfl ?_
          refine WL_step rfl (R_ge_t rfl rfl (by omega)) ?_
          refine WL_stepM rfl (R_pk_t rfl) ?_
          refine WL_stepM rfl (R_mv) ?_
          refine WL_guard_t rfl rfl ?_
          refine WL_stepM rfl (R_mv) ?_
          refine WL_guard_t rfl rfl ?_
          refine WL_step rfl (R_le_f rfl rfl (by omega)) ?_
          refine WL_stepM rfl (R_pk_t rfl) ?_
          refine WL_stepM rfl (R_as) ?_
          refine WL_nil ?_
          refine W_seq ?_
          refine W_seq ?_
          refine W_region_l ?_
          refine WL_stepM rfl (R_mv) ?_
          refine WL_stepM rfl (R_mv) ?_
          refine WL_stepM rfl (R_mv) ?_
          (refine WL_call rfl (R_call rfl Try.call28 rfl) (put2_no _ _ (RdS.own hO (fun q hq => H.held q (by simp [hq]))) (by simp; omega) (by simp; omega)) ?_; rintro _ w76 ⟨rfl, H1⟩; replace H := H.seq0 H1; clear H1)
          refine WL_stepM rfl (R_mv) ?_
          refine WL_step rfl (R_ne_bool_f Try.underlying4 rfl rfl (by decide)) ?_
          refine WL_nil ?_
          refine W_cond_f rfl ?_
          refine W_skip ?_
          refine W_seq ?_
          refine W_region_l ?_
          refine WL_stepM rfl (R_mv) ?_
          refine WL_step rfl (R_conv_bs (xs := xs) Try.underlying43 Try.underlying5 Try.underlying9 rfl (hl.monoN H (by repeat' first | exact kNil | apply kCons | apply kApp | assumption | exact OwnS.keys (by assumption)))) ?_
          refine WL_stepM rfl (R_as) ?_
          refine WL_nil ?_
          refine W_seq ?_
          refine W_seq ?_
          refine W_region_l ?_
          refine WL_stepM rfl (R_mv) ?_
          refine WL_nil ?_
          refine W_cond_f rfl ?_
          refine W_skip ?_
          refine W_seq ?_
          refine W_region_l ?_
          refine WL_stepM rfl (R_mv) ?_
          refine WL_stepM rfl (R_mv) ?_
          (refine WL_call rfl (R_call rfl Try.call30 rfl) (get2_yes (xs := xs) (k := k) (RdS.own hO (fun q hq => H.held q (by simp [hq]))) (by omega) (by omega)) ?_; rintro _ w99 ⟨rfl, H1⟩; rw [hu2, hv2]; replace H := H.seq0 H1; clear H1)
          refine WL_stepM rfl (R_mv) ?_
          refine WL_step rfl (R_extract rfl rfl) ?_
          refine WL_step rfl (R_extract rfl rfl) ?_
          refine WL_stepM rfl (R_as) ?_
          refine WL_stepM rfl (R_as) ?_
          refine WL_nil ?_
          refine W_seq ?_
          refine W_region_l ?_
          refine WL_stepM rfl (R_as) ?_
          refine WL_nil ?_
          refine W_seq ?_
          refine W_seq ?_
          refine W_region_l ?_
          refine WL_stepM rfl (R_mv) ?_
          refine WL_nil ?_
          refine W_cond_t rfl ?_
          (refine W_drawH (fun _ => false) (by kernel_rfl) H ?_; clear H; intro w116 H)
          refine WA_takeM 0 rfl rfl rfl (by kernel_rfl) (by kernel_rfl) H (fun _ hC => R_mv) ?_
          refine WA_takeM 1 rfl rfl rfl (by kernel_rfl) (by kernel_rfl) H (fun _ hC => R_mv) ?_
          refine WA_take 2 rfl rfl rfl (by kernel_rfl) (by kernel_rfl) H (fun _ hC => R_index_S (u := u) (i := (k : Int)) Try.underlying9 rfl rfl (by omega) hu3) ?_
          refine WA_take 3 rfl rfl rfl (by kernel_rfl) (by kernel_rfl) H (fun _ hC => R_conv_int Try.underlying5 Try.underlying3 rfl u8_in_i64) ?_
          refine WA_take 4 rfl rfl rfl (by kernel_rfl) (by kernel_rfl) H (fun _ hC => R_shl rfl rfl (by decide) (shl_i64 256 (by decide) (by omega))) ?_
          refine WA_takeM 5 rfl rfl rfl (by kernel_rfl) (by kernel_rfl) H (fun _ hC => R_mv) ?_
          refine WA_takeM 6 rfl rfl rfl (by kernel_rfl) (by kernel_rfl) H (fun _ hC => R_mv) ?_
          refine WA_take 7 rfl rfl rfl (by kernel_rfl) (by kernel_rfl) H (fun _ hC => R_add rfl rfl (w_i64 (by omega))) ?_
          refine WA_take 8 rfl rfl rfl (by kernel_rfl) (by kernel_rfl) H (fun _ hC => R_index_S (u := v) (i := (k : Int) + 1) Try.underlying9 rfl rfl (by omega) hv3) ?_
          refine WA_take 9 rfl rfl rfl (by kernel_rfl) (by kernel_rfl) H (fun _ hC => R_conv_int Try.underlying5 Try.underlying3 rfl u8_in_i64) ?_
          refine WA_take 10 rfl rfl rfl (by kernel_rfl) (by kernel_rfl) H (fun _ hC => R_bits rfl rfl (by simp) (or_bytes u v)) ?_
          refine WA_takeM 11 rfl rfl rfl (by kernel_rfl) (by kernel_rfl) H (fun _ hC => R_as) ?_
          refine WA_done (by kernel_rfl) ?_
          refine W_seq ?_
          refine W_region_l ?_
          refine WL_stepM rfl (R_mv) ?_
          refine WL_step rfl (R_conv_bs (xs := xs) Try.underlying43 Try.underlying5 Try.underlying9 rfl (RdS.own hO (fun q hq => H.held q (by simp [hq])))) ?_
          refine WL_stepM rfl (R_mv) ?_
          refine WL_step rfl (R_eq_S_t rfl rfl rfl) ?_
          refine WL_stepM rfl (R_mv) ?_
          refine WL_guard_t rfl rfl ?_
          refine WL_stepM rfl (R_mv) ?_
          refine WL_guard_t rfl rfl ?_
          refine WL_stepM rfl (R_mv) ?_
          refine WL_guard_t rfl rfl ?_
          refine WL_step rfl (R_eq_bool_t Try.underlying4 rfl rfl (by decide)) ?_
          refine WL_stepM rfl (R_pk_t rfl) ?_
          refine WL_stepM rfl (R_mv) ?_
          refine WL_guard_t rfl rfl ?_
          refine WL_stepM rfl (R_mv) ?_
          refine WL_guard_t rfl rfl ?_
          refine WL_stepM rfl (R_mv) ?_
          refine WL_guard_t rfl rfl ?_
          refine WL_step rfl (R_eq_t rfl rfl (by omega)) ?_
          refine WL_stepM rfl (R_pk_t rfl) ?_
          refine WL_stepM rfl (R_mv) ?_
          refine WL_guard_t rfl rfl ?_
          (refine WL_call rfl (R_call rfl Try.call22 rfl) (awake_ret _) ?_; rintro _ w154 ⟨rfl, H1⟩; replace H := H.seq0 H1; clear H1)
          refine WL_stepM rfl (R_pk_t rfl) ?_
          refine WL_stepM rfl (R_as) ?_
          refine WL_nil ?_
          refine W_ret ?_
          exact ⟨_, rfl, rfl, H.none (by repeat' first | exact kNil | apply kCons | apply kApp | assumption | exact OwnS.keys (by assumption))⟩
        · refine W_seq ?_
          refine W_region_l ?_
          refine WL_stepM rfl (R_as) ?_
          refine WL_nil ?_
          refine W_seq ?_
          refine W_seq ?_
          refine W_region_l ?_
          refine WL_stepM rfl (R_mv) ?_
          refine WL_step rfl (R_len_slice Try.underlying43 rfl) ?_
          refine WL_step rfl (R_gt_f rfl rfl (by omega)) ?_
          refine WL_nil ?_
          refine W_cond_f rfl ?_
          refine W_skip ?_
          refine W_seq ?_
          refine W_seq ?_
          (refine W_drawH (fun _ => false) (by kernel_rfl) H ?_; clear H; intro w16 H)
          refine WA_takeM 0 rfl rfl rfl (by kernel_rfl) (by kernel_rfl) H (fun _ hC => R_mv) ?_
          refine WA_takeM 2 rfl rfl rfl (by kernel_rfl) (by kernel_rfl) H (fun _ hC => R_mv) ?_
          refine WA_take 3 rfl rfl rfl (by kernel_rfl) (by kernel_rfl) H (fun _ hC => R_conv_bs (xs := xs) Try.underlying43 Try.underlying5 Try.underlying9 rfl (hl.same hC)) ?_
          refine WA_one (i := 1) (by kernel_rfl) ?_
          (refine WI_call rfl (.inl rfl) (R_call rfl Try.call23 rfl) (by exact sum_ret (hl.same H) hb) (by first | exact fun _ _ hR _ => H.seq0 hR.2 | exact fun _ _ hR h => Bool.noConfusion h | exact fun _ _ hR _ => (H.seq0 hR.2).none (by repeat' first | exact kNil | apply kCons | apply kApp | assumption | exact OwnS.keys (by assumption)) | exact fun _ _ hR _ => (H.seq0 hR.2).dropN (by repeat' first | exact kNil | apply kCons | apply kApp | assumption | exact OwnS.keys (by assumption))) ?_; rintro _ w21 ⟨rfl, H1⟩; replace H := H.seq0 H1; clear H1)
          refine WA_one (i := 4) (by kernel_rfl) ?_
          (refine WI_call rfl (.inl rfl) (R_call rfl Try.call24 rfl) (by exact refSum_ret _ (by omega)) (by first | exact fun _ _ hR _ => H.seq0 hR.2 | exact fun _ _ hR h => Bool.noConfusion h | exact fun _ _ hR _ => (H.seq0 hR.2).none (by repeat' first | exact kNil | apply kCons | apply kApp | assumption | exact OwnS.keys (by assumption)) | exact fun _ _ hR _ => (H.seq0 hR.2).dropN (by repeat' first | exact kNil | apply kCons | apply kApp | assumption | exact OwnS.keys (by assumption))) ?_; rintro _ w23 ⟨rfl, H1⟩; replace H := H.seq0 H1; clear H1)
          refine WA_take 5 rfl rfl rfl (by kernel_rfl) (by kernel_rfl) H (fun _ hC => R_ne_f rfl rfl (by omega)) ?_
          refine WA_takeM 6 rfl rfl rfl (by kernel_rfl) (by kernel_rfl) H (fun _ hC => R_mv) ?_
          refine WA_takeGM 7 rfl rfl rfl rfl (by kernel_rfl) (by kernel_rfl) H (fun _ hC => R_mv) ?_
          refine WA_takeGM 9 rfl rfl rfl rfl (by kernel_rfl) (by kernel_rfl) H (fun _ hC => R_mv) ?_
          refine WA_takeG 10 rfl rfl rfl rfl (by kernel_rfl) (by kernel_rfl) H (fun _ hC => R_conv_bs (xs := xs) Try.underlying43 Try.underlying5 Try.underlying9 rfl (hl.same hC)) ?_
          refine WA_one (i := 8) (by kernel_rfl) ?_
          (refine WI_call rfl (.inr ⟨_, _, rfl, rfl⟩) (R_call rfl Try.call25 rfl) (by exact blank_ret (hl.same H) hb) (by first | exact fun _ _ hR _ => H.seq0 hR.2 | exact fun _ _ hR h => Bool.noConfusion h | exact fun _ _ hR _ => (H.seq0 hR.2).none (by repeat' first | exact kNil | apply kCons | apply kApp | assumption | exact OwnS.keys (by assumption)) | exact fun _ _ hR _ => (H.seq0 hR.2).dropN (by repeat' first | exact kNil | apply kCons | apply kApp | assumption | exact OwnS.keys (by assumption))) ?_; rintro _ w30 ⟨rfl, H1⟩; replace H := H.seq0 H1; clear H1)
          refine WA_one (i := 11) (by kernel_rfl) ?_
          (refine WI_call rfl (.inr ⟨_, _, rfl, rfl⟩) (R_call rfl Try.call26 rfl) (by exact refBlank_ret _ (by omega)) (by first | exact fun _ _ hR _ => H.seq0 hR.2 | exact fun _ _ hR h => Bool.noConfusion h | exact fun _ _ hR _ => (H.seq0 hR.2).none (by repeat' first | exact kNil | apply kCons | apply kApp | assumption | exact OwnS.keys (by assumption)) | exact fun _ _ hR _ => (H.seq0 hR.2).dropN (by repeat' first | exact kNil | apply kCons | apply kApp | assumption | exact OwnS.keys (by assumption))) ?_; rintro _ w32 ⟨rfl, H1⟩; replace H := H.seq0 H1; clear H1)
          refine WA_takeG 12 rfl rfl rfl rfl (by kernel_rfl) (by kernel_rfl) H (fun _ hC => R_ne_bool_f Try.underlying4 rfl rfl rfl) ?_
          refine WA_takeM 13 rfl rfl rfl (by kernel_rfl) (by kernel_rfl) H (fun _ hC => R_pk_f rfl) ?_
          refine WA_done (by kernel_rfl) ?_
          refine W_cond_f rfl ?_
          refine W_skip ?_
          refine W_seq ?_
          refine W_region_l ?_
          (refine WL_effn rfl (E_buildSlice (vs := []) H Try.underlying43 Try.sizeOf5 Try.zeroValue5 rfl rfl (by decide) rfl rfl) ?_; clear H; intro b40 w40 hb40 H)
          refine WL_stepM rfl (R_mv) ?_
          (refine WL_effm rfl (E_append H .one (OwnS.new (xs := []) (sp := []) (by assumption) rfl rfl (by omega)) Try.underlying43 Try.typeInfo5 rfl rfl rfl rfl rfl rfl ((hl.monoN H (by repeat' first | exact kNil | apply kCons | apply kApp | assumption | exact OwnS.keys (by assumption))).src Try.underlying43 (by simp [Value.oneCell'])) (by simp; omega) (by simp [Try.t5]; omega)) ?_; clear H; intro vN MN w42 hO H; rw [List.length_map, Nat.zero_add, List.nil_append] at hO; rw [List.append_nil] at H)
          refine WL_stepM rfl (R_as) ?_
          refine WL_nil ?_
          refine W_seq ?_
          refine W_region_l ?_
          refine WL_stepM rfl (R_mv) ?_
          refine WL_stepM rfl (R_mv) ?_
          refine WL_step rfl (R_len_slice Try.underlying43 rfl) ?_
          (refine WL_call rfl (R_call rfl Try.call27 rfl) (Ref1.within_yes _ (by omega) (by omega) (by omega) (by omega) (by omega)) ?_; rintro _ w50 ⟨rfl, H1⟩; replace H := H.seq0 H1; clear H1)
          refine WL_stepM rfl (R_as) ?_
          refine WL_nil ?_
          refine W_seq ?_
          refine W_region_l ?_
          refine WL_stepM rfl (R_mv) ?_
          refine WL_stepM rfl (R_mv) ?_
          refine WL_guard_t rfl rfl ?_
          refine WL_stepM rfl (R_mv) ?_
          refine WL_guard_t rfl rfl ?_
          refine WL_step rfl (R_ge_f rfl rfl (by omega)) ?_
          refine WL_stepM rfl (R_pk_t rfl) ?_
          refine WL_stepM rfl (R_mv) ?_
          refine WL_guard_f rfl rfl (by decide) ?_
          refine WL_guard_f rfl rfl (by decide) ?_
          refine WL_stepM rfl (R_pk_f rfl) ?_
          refine WL_stepM rfl (R_as) ?_
          refine WL_nil ?_
          refine W_seq ?_
          refine W_seq ?_
          refine W_region_l ?_
          refine WL_stepM rfl (R_mv) ?_
          refine WL_stepM rfl (R_mv) ?_
          refine WL_stepM rfl (R_mv) ?_
          (refine WL_call rfl (R_call rfl Try.call28 rfl) (put2_no _ _ (RdS.own hO (fun q hq => H.held q (by simp [hq]))) (by simp; omega) (by simp; omega)) ?_; rintro _ w74 ⟨rfl, H1⟩; replace H := H.seq0 H1; clear H1)
          refine WL_stepM rfl (R_mv) ?_
          refine WL_step rfl (R_ne_bool_f Try.underlying4 rfl rfl (by decide)) ?_
          refine WL_nil ?_
          refine W_cond_f rfl ?_
          refine W_skip ?_
          refine W_seq ?_
          refine W_region_l ?_
          refine WL_stepM rfl (R_mv) ?_
          refine WL_step rfl (R_conv_bs (xs := xs) Try.underlying43 Try.underlying5 Try.underlying9 rfl (hl.monoN H (by repeat' first | exact kNil | apply kCons | apply kApp | assumption | exact OwnS.keys (by assumption)))) ?_
          refine WL_stepM rfl (R_as) ?_
          refine WL_nil ?_
          refine W_seq ?_
          refine W_seq ?_
          refine W_region_l ?_
          refine WL_stepM rfl (R_mv) ?_
          refine WL_nil ?_
          refine W_cond_f rfl ?_
          refine W_skip ?_
          refine W_seq ?_
          refine W_region_l ?_
          refine WL_stepM rfl (R_mv) ?_
          refine WL_stepM rfl (R_mv) ?_
          (refine WL_call rfl (R_call rfl Try.call30 rfl) (get2_yes (xs := xs) (k := k) (RdS.own hO (fun q hq => H.held q (by simp [hq]))) (by omega) (by omega)) ?_; rintro _ w97 ⟨rfl, H1⟩; rw [hu2, hv2]; replace H := H.seq0 H1; clear H1)
          refine WL_stepM rfl (R_mv) ?_
          refine WL_step rfl (R_extract rfl rfl) ?_
          refine WL_step rfl (R_extract rfl rfl) ?_
          refine WL_stepM rfl (R_as) ?_
          refine WL_stepM rfl (R_as) ?_
          refine WL_nil ?_
          refine W_seq ?_
          refine W_region_l ?_
          refine WL_stepM rfl (R_as) ?_
          refine WL_nil ?_
          refine W_seq ?_
          refine W_seq ?_
          refine W_region_l ?_
          refine WL_stepM rfl (R_mv) ?_
          refine WL_nil ?_
          refine W_cond_t rfl ?_
          (refine W_drawH (fun _ => false) (by kernel_rfl) H ?_; clear H; intro w114 H)
          refine WA_takeM 0 rfl rfl rfl (by kernel_rfl) (by kernel_rfl) H (fun _ hC => R_mv) ?_
          refine WA_takeM 1 rfl rfl rfl (by kernel_rfl) (by kernel_rfl) H (fun _ hC => R_mv) ?_
          refine WA_take 2 rfl rfl rfl (by kernel_rfl) (by kernel_rfl) H (fun _ hC => R_index_S (u := u) (i := (k : Int)) Try.underlying9 rfl rfl (by omega) hu3) ?_
          refine WA_take 3 rfl rfl rfl (by kernel_rfl) (by kernel_rfl) H (fun _ hC => R_conv_int Try.underlying5 Try.underlying3 rfl u8_in_i64) ?_
          refine WA_take 4 rfl rfl rfl (by kernel_rfl) (by kernel_rfl) H (fun _ hC => R_shl rfl rfl (by decide) (shl_i64 256 (by decide) (by omega))) ?_
          refine WA_takeM 5 rfl rfl rfl (by kernel_rfl) (by kernel_rfl) H (fun _ hC => R_mv) ?_
          refine WA_takeM 6 rfl rfl rfl (by kernel_rfl) (by kernel_rfl) H (fun _ hC => R_mv) ?_
          refine WA_take 7 rfl rfl rfl (by kernel_rfl) (by kernel_rfl) H (fun _ hC => R_add rfl rfl (w_i64 (by omega))) ?_
          refine WA_take 8 rfl rfl rfl (by kernel_rfl) (by kernel_rfl) H (fun _ hC => R_index_S (u := v) (i := (k : Int) + 1) Try.underlying9 rfl rfl (by omega) hv3) ?_
          refine WA_take 9 rfl rfl rfl (by kernel_rfl) (by kernel_rfl) H (fun _ hC => R_conv_int Try.underlying5 Try.underlying3 rfl u8_in_i64) ?_
          refine WA_take 10 rfl rfl rfl (by kernel_rfl) (by kernel_rfl) H (fun _ hC => R_bits rfl rfl (by simp) (or_bytes u v)) ?_
          refine WA_takeM 11 rfl rfl rfl (by kernel_rfl) (by kernel_rfl) H (fun _ hC => R_as) ?_
          refine WA_done (by kernel_rfl) ?_
          refine W_seq ?_
          refine W_region_l ?_
          refine WL_stepM rfl (R_mv) ?_
          refine WL_step rfl (R_conv_bs (xs := xs) Try.underlying43 Try.underlying5 Try.underlying9 rfl (RdS.own hO (fun q hq => H.held q (by simp [hq])))) ?_
          refine WL_stepM rfl (R_mv) ?_
          refine WL_step rfl (R_eq_S_t rfl rfl rfl) ?_
          refine WL_stepM rfl (R_mv) ?_
          refine WL_guard_t rfl rfl ?_
          refine WL_stepM rfl (R_mv) ?_
          refine WL_guard_t rfl rfl ?_
          refine WL_stepM rfl (R_mv) ?_
          refine WL_guard_t rfl rfl ?_
          refine WL_step rfl (R_eq_bool_t Try.underlying4 rfl rfl (by decide)) ?_
          refine WL_stepM rfl (R_pk_t rfl) ?_
          refine WL_stepM rfl (R_mv) ?_
          refine WL_guard_t rfl rfl ?_
          refine WL_stepM rfl (R_mv) ?_
          refine WL_guard_t rfl rfl ?_
          refine WL_stepM rfl (R_mv) ?_
          refine WL_guard_t rfl rfl ?_
          refine WL_step rfl (R_eq_t rfl rfl (by omega)) ?_
          refine WL_stepM rfl (R_pk_t rfl) ?_
          refine WL_stepM rfl (R_mv) ?_
          refine WL_guard_t rfl rfl ?_
          (refine WL_call rfl (R_call rfl Try.call22 rfl) (awake_ret _) ?_; rintro _ w152 ⟨rfl, H1⟩; replace H := H.seq0 H1; clear H1)
          refine WL_stepM rfl (R_pk_t rfl) ?_
          refine WL_stepM rfl (R_as) ?_
          refine WL_nil ?_
          refine W_ret ?_
          exact ⟨_, rfl, rfl, H.none (by repeat' first | exact kNil | apply kCons | apply kApp | assumption | exact OwnS.keys (by assumption))⟩
    · refine W_seq ?_
      refine W_region_l ?_
      refine WL_stepM rfl (R_as) ?_
      refine WL_nil ?_
      refine W_seq ?_
      refine W_seq ?_
      refine W_region_l ?_
      refine WL_stepM rfl (R_mv) ?_
      refine WL_step rfl (R_len_slice Try.underlying43 rfl) ?_
      refine WL_step rfl (R_gt_f rfl rfl (by omega)) ?_
      refine WL_nil ?_
      refine W_cond_f rfl ?_
      refine W_skip ?_
      refine W_seq ?_
      refine W_seq ?_
      (refine W_drawH (fun _ => false) (by kernel_rfl) H ?_; clear H; intro w16 H)
      refine WA_takeM 0 rfl rfl rfl (by kernel_rfl) (by kernel_rfl) H (fun _ hC => R_mv) ?_
      refine WA_takeM 2 rfl rfl rfl (by kernel_rfl) (by kernel_rfl) H (fun _ hC => R_mv) ?_
      refine WA_take 3 rfl rfl rfl (by kernel_rfl) (by kernel_rfl) H (fun _ hC => R_conv_bs (xs := xs) Try.underlying43 Try.underlying5 Try.underlying9 rfl (hl.same hC)) ?_
      refine WA_one (i := 1) (by kernel_rfl) ?_
      (refine WI_call rfl (.inl rfl) (R_call rfl Try.call23 rfl) (by exact sum_ret (hl.same H) hb) (by first | exact fun _ _ hR _ => H.seq0 hR.2 | exact fun _ _ hR h => Bool.noConfusion h | exact fun _ _ hR _ => (H.seq0 hR.2).none (by repeat' first | exact kNil | apply kCons | apply kApp | assumption | exact OwnS.keys (by assumption)) | exact fun _ _ hR _ => (H.seq0 hR.2).dropN (by repeat' first | exact kNil | apply kCons | apply kApp | assumption | exact OwnS.keys (by assumption))) ?_; rintro _ w21 ⟨rfl, H1⟩; replace H := H.seq0 H1; clear H1)
      refine WA_one (i := 4) (by kernel_rfl) ?_
      (refine WI_call rfl (.inl rfl) (R_call rfl Try.call24 rfl) (by exact refSum_ret _ (by omega)) (by first | exact fun _ _ hR _ => H.seq0 hR.2 | exact fun _ _ hR h => Bool.noConfusion h | exact fun _ _ hR _ => (H.seq0 hR.2).none (by repeat' first | exact kNil | apply kCons | apply kApp | assumption | exact OwnS.keys (by assumption)) | exact fun _ _ hR _ => (H.seq0 hR.2).dropN (by repeat' first | exact kNil | apply kCons | apply kApp | assumption | exact OwnS.keys (by assumption))) ?_; rintro _ w23 ⟨rfl, H1⟩; replace H := H.seq0 H1; clear H1)
      refine WA_take 5 rfl rfl rfl (by kernel_rfl) (by kernel_rfl) H (fun _ hC => R_ne_f rfl rfl (by omega)) ?_
      refine WA_takeM 6 rfl rfl rfl (by kernel_rfl) (by kernel_rfl) H (fun _ hC => R_mv) ?_
      refine WA_takeGM 7 rfl rfl rfl rfl (by kernel_rfl) (by kernel_rfl) H (fun _ hC => R_mv) ?_
      refine WA_takeGM 9 rfl rfl rfl rfl (by kernel_rfl) (by kernel_rfl) H (fun _ hC => R_mv) ?_
      refine WA_takeG 10 rfl rfl rfl rfl (by kernel_rfl) (by kernel_rfl) H (fun _ hC => R_conv_bs (xs := xs) Try.underlying43 Try.underlying5 Try.underlying9 rfl (hl.same hC)) ?_
      refine WA_one (i := 8) (by kernel_rfl) ?_
      (refine WI_call rfl (.inr ⟨_, _, rfl, rfl⟩) (R_call rfl Try.call25 rfl) (by exact blank_ret (hl.same H) hb) (by first | exact fun _ _ hR _ => H.seq0 hR.2 | exact fun _ _ hR h => Bool.noConfusion h | exact fun _ _ hR _ => (H.seq0 hR.2).none (by repeat' first | exact kNil | apply kCons | apply kApp | assumption | exact OwnS.keys (by assumption)) | exact fun _ _ hR _ => (H.seq0 hR.2).dropN (by repeat' first | exact kNil | apply kCons | apply kApp | assumption | exact OwnS.keys (by assumption))) ?_; rintro _ w30 ⟨rfl, H1⟩; replace H := H.seq0 H1; clear H1)
      refine WA_one (i := 11) (by kernel_rfl) ?_
      (refine WI_call rfl (.inr ⟨_, _, rfl, rfl⟩) (R_call rfl Try.call26 rfl) (by exact refBlank_ret _ (by omega)) (by first | exact fun _ _ hR _ => H.seq0 hR.2 | exact fun _ _ hR h => Bool.noConfusion h | exact fun _ _ hR _ => (H.seq0 hR.2).none (by repeat' first | exact kNil | apply kCons | apply kApp | assumption | exact OwnS.keys (by assumption)) | exact fun _ _ hR _ => (H.seq0 hR.2).dropN (by repeat' first | exact kNil | apply kCons | apply kApp | assumption | exact OwnS.keys (by assumption))) ?_; rintro _ w32 ⟨rfl, H1⟩; replace H := H.seq0 H1; clear H1)
      refine WA_takeG 12 rfl rfl rfl rfl (by kernel_rfl) (by kernel_rfl) H (fun _ hC => R_ne_bool_f Try.underlying4 rfl rfl rfl) ?_
      refine WA_takeM 13 rfl rfl rfl (by kernel_rfl) (by kernel_rfl) H (fun _ hC => R_pk_f rfl) ?_
      refine WA_done (by kernel_rfl) ?_
      refine W_cond_f rfl ?_
      refine W_skip ?_
      refine W_seq ?_
      refine W_region_l ?_
      (refine WL_effn rfl (E_buildSlice (vs := []) H Try.underlying43 Try.sizeOf5 Try.zeroValue5 rfl rfl (by decide) rfl rfl) ?_; clear H; intro b40 w40 hb40 H)
      refine WL_stepM rfl (R_mv) ?_
      (refine WL_effm rfl (E_append H .one (OwnS.new (xs := []) (sp := []) (by assumption) rfl rfl (by omega)) Try.underlying43 Try.typeInfo5 rfl rfl rfl rfl rfl rfl ((hl.monoN H (by repeat' first | exact kNil | apply kCons | apply kApp | assumption | exact OwnS.keys (by assumption))).src Try.underlying43 (by simp [Value.oneCell'])) (by simp; omega) (by simp [Try.t5]; omega)) ?_; clear H; intro vN MN w42 hO H; rw [List.length_map, Nat.zero_add, List.nil_append] at hO; rw [List.append_nil] at H)
      refine WL_stepM rfl (R_as) ?_
      refine WL_nil ?_
      refine W_seq ?_
      refine W_region_l ?_
      refine WL_stepM rfl (R_mv) ?_
      refine WL_stepM rfl (R_mv) ?_
      refine WL_step rfl (R_len_slice Try.underlying43 rfl) ?_
      (refine WL_call rfl (R_call rfl Try.call27 rfl) (Ref1.within_no _ (by omega) (by omega)) ?_; rintro _ w50 ⟨rfl, H1⟩; replace H := H.seq0 H1; clear H1)
      refine WL_stepM rfl (R_as) ?_
      refine WL_nil ?_
      refine W_seq ?_
      refine W_region_l ?_
      refine WL_stepM rfl (R_mv) ?_
      refine WL_stepM rfl (R_mv) ?_
      refine WL_guard_f rfl rfl (by decide) ?_
      refine WL_guard_f rfl rfl (by decide) ?_
      refine WL_stepM rfl (R_pk_f rfl) ?_
      refine WL_stepM rfl (R_mv) ?_
      refine WL_guard_f rfl rfl (by decide) ?_
      refine WL_guard_f rfl rfl (by decide) ?_
      refine WL_stepM rfl (R_pk_f rfl) ?_
      refine WL_stepM rfl (R_as) ?_
      refine WL_nil ?_
      refine W_seq ?_
      refine W_seq ?_
      refine W_region_l ?_
      refine WL_stepM rfl (R_mv) ?_
      refine WL_stepM rfl (R_mv) ?_
      refine WL_stepM rfl (R_mv) ?_
      (refine WL_call rfl (R_call rfl Try.call28 rfl) (put2_no _ _ (RdS.own hO (fun q hq => H.held q (by simp [hq]))) (by simp; omega) (by simp; omega)) ?_; rintro _ w72 ⟨rfl, H1⟩; replace H := H.seq0 H1; clear H1)
      refine WL_stepM rfl (R_mv) ?_
      refine WL_step rfl (R_ne_bool_f Try.underlying4 rfl rfl (by decide)) ?_
      refine WL_nil ?_
      refine W_cond_f rfl ?_
      refine W_skip ?_
      refine W_seq ?_
      refine W_region_l ?_
      refine WL_stepM rfl (R_mv) ?_
      refine WL_step rfl (R_conv_bs (xs := xs) Try.underlying43 Try.underlying5 Try.underlying9 rfl (hl.monoN H (by repeat' first | exact kNil | apply kCons | apply kApp | assumption | exact OwnS.keys (by assumption)))) ?_
      refine WL_stepM rfl (R_as) ?_
      refine WL_nil ?_
      refine W_seq ?_
      refine W_seq ?_
      refine W_region_l ?_
      refine WL_stepM rfl (R_mv) ?_
      refine WL_nil ?_
      refine W_cond_f rfl ?_
      refine W_skip ?_
      refine W_seq ?_
      refine W_region_l ?_
      refine WL_stepM rfl (R_mv) ?_
      refine WL_stepM rfl (R_mv) ?_
      (refine WL_call rfl (R_call rfl Try.call30 rfl) (get2_no _ (RdS.own hO (fun q hq => H.held q (by simp [hq]))) (by simp; omega) (by simp; omega)) ?_; rintro _ w95 ⟨rfl, H1⟩; replace H := H.seq0 H1; clear H1)
      refine WL_stepM rfl (R_mv) ?_
      refine WL_step rfl (R_extract rfl rfl) ?_
      refine WL_step rfl (R_extract rfl rfl) ?_
      refine WL_stepM rfl (R_as) ?_
      refine WL_stepM rfl (R_as) ?_
      refine WL_nil ?_
      refine W_seq ?_
      refine W_region_l ?_
      refine WL_stepM rfl (R_as) ?_
      refine WL_nil ?_
      refine W_seq ?_
      refine W_seq ?_
      refine W_region_l ?_
      refine WL_stepM rfl (R_mv) ?_
      refine WL_nil ?_
      refine W_cond_f rfl ?_
      refine W_skip ?_
      refine W_seq ?_
      refine W_region_l ?_
      refine WL_stepM rfl (R_mv) ?_
      refine WL_step rfl (R_conv_bs (xs := xs) Try.underlying43 Try.underlying5 Try.underlying9 rfl (RdS.own hO (fun q hq => H.held q (by simp [hq])))) ?_
      refine WL_stepM rfl (R_mv) ?_
      refine WL_step rfl (R_eq_S_t rfl rfl rfl) ?_
      refine WL_stepM rfl (R_mv) ?_
      refine WL_guard_t rfl rfl ?_
      refine WL_stepM rfl (R_mv) ?_
      refine WL_guard_t rfl rfl ?_
      refine WL_stepM rfl (R_mv) ?_
      refine WL_guard_t rfl rfl ?_
      refine WL_step rfl (R_eq_bool_t Try.underlying4 rfl rfl (by decide)) ?_
      refine WL_stepM rfl (R_pk_t rfl) ?_
      refine WL_stepM rfl (R_mv) ?_
      refine WL_guard_t rfl rfl ?_
      refine WL_stepM rfl (R_mv) ?_
      refine WL_guard_t rfl rfl ?_
      refine WL_stepM rfl (R_mv) ?_
      refine WL_guard_t rfl rfl ?_
      refine WL_step rfl (R_eq_t rfl rfl (by omega)) ?_
      refine WL_stepM rfl (R_pk_t rfl) ?_
      refine WL_stepM rfl (R_mv) ?_
      refine WL_guard_t rfl rfl ?_
      (refine WL_call rfl (R_call rfl Try.call22 rfl) (awake_ret _) ?_; rintro _ w137 ⟨rfl, H1⟩; replace H := H.seq0 H1; clear H1)
      refine WL_stepM rfl (R_pk_t rfl) ?_
      refine WL_stepM rfl (R_as) ?_
      refine WL_nil ?_
      refine W_ret ?_
      exact ⟨_, rfl, rfl, H.none (by repeat' first | exact kNil | apply kCons | apply kApp | assumption | exact OwnS.keys (by assumption))⟩
end Go.Proofs.Ytjfcnmbalojehaa.Codec
