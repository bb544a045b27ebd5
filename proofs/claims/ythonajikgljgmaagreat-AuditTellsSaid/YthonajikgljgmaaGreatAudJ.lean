/-
  Awake of layer 16.
-/
import Derived.Test.YthonajikgljgmaaGreatAudI
namespace Go.Proofs.YthonajikgljgmaaGreat.Aud
open Go Go.Proofs Go.Proofs.YthonajikgljgmaaGreat.Fx
set_option maxRecDepth 100000
set_option linter.unusedVariables false
set_option linter.unusedSimpArgs false
set_option maxHeartbeats 16000000

theorem blank_bad : badAll blankB = [] := by kernel_rfl
theorem blank_faults : faults blankB = [] := by kernel_rfl
theorem nil_faults : ¬ faults [] = [] := by decide
theorem awake_ret (w : World) : Ret Tryz.prog 4 #[] w fun v w' => v = .bool true ∧ Hp w [] w' := by
  refine Ret_of_W (args := []) Tryz.func4 rfl Tryz.ntmps4 Tryz.results4 (by simp) ?_
  have H := Hp.refl w
  obtain ⟨B, hB⟩ : ∃ B, blankB = B := ⟨_, rfl⟩
  have hBl : B.length = 492 := hB ▸ blankB_len
  have hb1 : badAll B = [] := hB ▸ blank_bad
  have hb2 : faults B = [] := hB ▸ blank_faults
  refine W_seq ?_
  refine W_region_l ?_
  refine WL_stepM rfl (R_as) ?_
  refine WL_nil ?_
  refine W_seq ?_
  refine W_region_l ?_
  (refine WL_call rfl (R_call rfl Tryz.call12 rfl) (blank_ret _) ?_; rintro _ w7 ⟨M, hO, H1⟩; rw [hB] at hO; have h7 := H.seqO hO H1; clear H H1 hO; obtain ⟨hO, H⟩ := h7; obtain ⟨bb, bc, bsp, rfl, hbb, rfl, hbs, hbc⟩ := OwnS.pos hO (by decide); rw [List.append_nil] at H)
  refine WL_stepM rfl (R_as) ?_
  refine WL_nil ?_
  refine W_seq ?_
  (refine W_draw (KH w [(bb, blk (B.map U ++ bsp) 5)]) (fun _ => false) (by kernel_rfl) H ?_; clear H; intro w11 H)
  refine WA_takeM 0 rfl rfl rfl (by kernel_rfl) (by kernel_rfl) (H.kh (by simp) (by repeat' first | exact kNil | apply kCons | apply kApp | assumption | exact OwnS.keys (by assumption))) (fun _ hC => R_mv) ?_
  refine WA_take 1 rfl rfl rfl (by kernel_rfl) (by kernel_rfl) (H.kh (by simp) (by repeat' first | exact kNil | apply kCons | apply kApp | assumption | exact OwnS.keys (by assumption))) (fun _ hC => R_conv_bs (xs := B) Tryz.underlying22 Tryz.underlying5 Tryz.underlying9 rfl (RdS.own hO (fun p hp => hC.1 p (by simp [hp])))) ?_
  refine WA_one (i := 2) (by kernel_rfl) ?_
  (refine WI_call rfl (.inl rfl) (R_call rfl Tryz.call13 rfl) (refBlank_ret _) (fun _ _ hR _ => (H.seq0 hR.2).kh (by simp) (by repeat' first | exact kNil | apply kCons | apply kApp | assumption | exact OwnS.keys (by assumption))) ?_; rintro _ w15 ⟨rfl, H1⟩; rw [hB]; replace H := H.seq0 H1; clear H1)
  refine WA_take 3 rfl rfl rfl (by kernel_rfl) (by kernel_rfl) (H.kh (by simp) (by repeat' first | exact kNil | apply kCons | apply kApp | assumption | exact OwnS.keys (by assumption))) (fun _ hC => R_eq_S_t rfl rfl rfl) ?_
  refine WA_takeM 4 rfl rfl rfl (by kernel_rfl) (by kernel_rfl) (H.kh (by simp) (by repeat' first | exact kNil | apply kCons | apply kApp | assumption | exact OwnS.keys (by assumption))) (fun _ hC => R_mv) ?_
  refine WA_takeGM 5 rfl rfl rfl rfl (by kernel_rfl) (by kernel_rfl) (H.kh (by simp) (by repeat' first | exact kNil | apply kCons | apply kApp | assumption | exact OwnS.keys (by assumption))) (fun _ hC => R_mv) ?_
  refine WA_one (i := 6) (by kernel_rfl) ?_
  (refine WI_call rfl (.inr ⟨_, _, rfl, rfl⟩) (R_call rfl Tryz.call8 rfl) (sound_ret (xs := B) (RdS.own hO (fun p hp => H.held p (by simp [hp])))) (fun _ _ hR _ => (H.seq0 hR.2).kh (by simp) (by repeat' first | exact kNil | apply kCons | apply kApp | assumption | exact OwnS.keys (by assumption))) ?_; rintro _ w20 ⟨rfl, H1⟩; rw [decide_eq_true hb2]; replace H := H.seq0 H1; clear H1)
  refine WA_takeM 7 rfl rfl rfl (by kernel_rfl) (by kernel_rfl) (H.kh (by simp) (by repeat' first | exact kNil | apply kCons | apply kApp | assumption | exact OwnS.keys (by assumption))) (fun _ hC => R_pk_t rfl) ?_
  refine WA_takeM 8 rfl rfl rfl (by kernel_rfl) (by kernel_rfl) (H.kh (by simp) (by repeat' first | exact kNil | apply kCons | apply kApp | assumption | exact OwnS.keys (by assumption))) (fun _ hC => R_mv) ?_
  refine WA_takeGM 9 rfl rfl rfl rfl (by kernel_rfl) (by kernel_rfl) (H.kh (by simp) (by repeat' first | exact kNil | apply kCons | apply kApp | assumption | exact OwnS.keys (by assumption))) (fun _ hC => R_mv) ?_
  refine WA_one (i := 10) (by kernel_rfl) ?_
  (refine WI_call rfl (.inr ⟨_, _, rfl, rfl⟩) (R_call rfl Tryz.call11 rfl) (bad_yes (xs := B) (RdS.own hO (fun p hp => H.held p (by simp [hp]))) hBl) (fun _ _ hR _ => by obtain ⟨M', hO', H'⟩ := hR; exact (H.seqD H' hO'.keys).kh (by simp) (by repeat' first | exact kNil | apply kCons | apply kApp | assumption | exact OwnS.keys (by assumption))) ?_; rintro _ w25 ⟨M2, hO2, H1⟩; rw [hb1, show ([] : List (Int × Int)).length = 0 from rfl] at hO2; obtain ⟨a2, c2, rfl⟩ := hO2.form; replace H := H.seqD H1 hO2.keys; clear H1 hO2)
  refine WA_takeG 11 rfl rfl rfl rfl (by kernel_rfl) (by kernel_rfl) (H.kh (by simp) (by repeat' first | exact kNil | apply kCons | apply kApp | assumption | exact OwnS.keys (by assumption))) (fun _ hC => R_len_slice Tryz.underlying33 rfl) ?_
  refine WA_takeG 12 rfl rfl rfl rfl (by kernel_rfl) (by kernel_rfl) (H.kh (by simp) (by repeat' first | exact kNil | apply kCons | apply kApp | assumption | exact OwnS.keys (by assumption))) (fun _ hC => R_eq_t rfl rfl (by omega)) ?_
  refine WA_takeM 13 rfl rfl rfl (by kernel_rfl) (by kernel_rfl) (H.kh (by simp) (by repeat' first | exact kNil | apply kCons | apply kApp | assumption | exact OwnS.keys (by assumption))) (fun _ hC => R_pk_t rfl) ?_
  refine WA_takeM 14 rfl rfl rfl (by kernel_rfl) (by kernel_rfl) (H.kh (by simp) (by repeat' first | exact kNil | apply kCons | apply kApp | assumption | exact OwnS.keys (by assumption))) (fun _ hC => R_mv) ?_
  refine WA_one (i := 15) (by kernel_rfl) ?_
  (refine WI_call rfl (.inr ⟨_, _, rfl, rfl⟩) (R_call rfl Tryz.call11 rfl) (bad_no (xs := []) RdS.nil (by decide)) (fun _ _ hR _ => by obtain ⟨M', hO', H'⟩ := hR; exact (H.seqD H' hO'.keys).kh (by simp) (by repeat' first | exact kNil | apply kCons | apply kApp | assumption | exact OwnS.keys (by assumption))) ?_; rintro _ w31 ⟨M3, hO3, H1⟩; obtain ⟨a3, c3, rfl⟩ := hO3.form; replace H := H.seqD H1 hO3.keys; clear H1 hO3)
  refine WA_takeG 16 rfl rfl rfl rfl (by kernel_rfl) (by kernel_rfl) (H.kh (by simp) (by repeat' first | exact kNil | apply kCons | apply kApp | assumption | exact OwnS.keys (by assumption))) (fun _ hC => R_len_slice Tryz.underlying33 rfl) ?_
  refine WA_takeG 17 rfl rfl rfl rfl (by kernel_rfl) (by kernel_rfl) (H.kh (by simp) (by repeat' first | exact kNil | apply kCons | apply kApp | assumption | exact OwnS.keys (by assumption))) (fun _ hC => R_eq_t rfl rfl (by omega)) ?_
  refine WA_takeM 18 rfl rfl rfl (by kernel_rfl) (by kernel_rfl) (H.kh (by simp) (by repeat' first | exact kNil | apply kCons | apply kApp | assumption | exact OwnS.keys (by assumption))) (fun _ hC => R_pk_t rfl) ?_
  refine WA_takeM 19 rfl rfl rfl (by kernel_rfl) (by kernel_rfl) (H.kh (by simp) (by repeat' first | exact kNil | apply kCons | apply kApp | assumption | exact OwnS.keys (by assumption))) (fun _ hC => R_mv) ?_
  refine WA_one (i := 20) (by kernel_rfl) ?_
  (refine WI_call rfl (.inr ⟨_, _, rfl, rfl⟩) (R_call rfl Tryz.call8 rfl) (sound_ret (xs := []) RdS.nil) (fun _ _ hR _ => (H.seq0 hR.2).kh (by simp) (by repeat' first | exact kNil | apply kCons | apply kApp | assumption | exact OwnS.keys (by assumption))) ?_; rintro _ w37 ⟨rfl, H1⟩; rw [decide_eq_false nil_faults]; replace H := H.seq0 H1; clear H1)
  refine WA_takeG 21 rfl rfl rfl rfl (by kernel_rfl) (by kernel_rfl) (H.kh (by simp) (by repeat' first | exact kNil | apply kCons | apply kApp | assumption | exact OwnS.keys (by assumption))) (fun _ hC => R_not_f rfl) ?_
  refine WA_takeM 22 rfl rfl rfl (by kernel_rfl) (by kernel_rfl) (H.kh (by simp) (by repeat' first | exact kNil | apply kCons | apply kApp | assumption | exact OwnS.keys (by assumption))) (fun _ hC => R_pk_t rfl) ?_
  refine WA_takeM 23 rfl rfl rfl (by kernel_rfl) (by kernel_rfl) (H.kh (by simp) (by repeat' first | exact kNil | apply kCons | apply kApp | assumption | exact OwnS.keys (by assumption))) (fun _ hC => R_as) ?_
  refine WA_done (by kernel_rfl) ?_
  refine W_ret ?_
  exact ⟨_, rfl, rfl, H.none (by repeat' first | exact kNil | apply kCons | apply kApp | assumption | exact OwnS.keys (by assumption))⟩
end Go.Proofs.YthonajikgljgmaaGreat.Aud
