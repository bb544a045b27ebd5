/-
  What Set and Len do, over pairs.
-/
import Derived.Test.YtjkkfahjgaidbaaTabV
namespace Go.Proofs.Ytjkkfahjgaidbaa.TabV
open Go Go.Proofs Go.Proofs.Ytjkkfahjgaidbaa.Fx
set_option maxRecDepth 100000
set_option linter.unusedVariables false
set_option linter.unusedSimpArgs false
set_option maxHeartbeats 4000000
section
variable {w : World} {p b : Nat} {l : List Pl} {N : Nat}
theorem set_yes {i : Nat} {a : Pl} (hp : w.heap[p]? = some (blk [sl b 0 N N] 101)) (hb : w.heap[b]? = some (blk (rows plc l) 103)) (hN : l.length = N) (hN2 : N ≤ 256) (h : l[i]? = some a) (hg : a.g ≤ 1000001) (hu : a.u = true) (x : Vk) :
    Ret Try.prog 37 #[ptr p 0, I (i + 256 * a.g : Nat), vk x] w fun v w' => v = .bool true ∧ Hp w [(b, blk (rows plc (l.set i ⟨x, a.g, a.u⟩)) 103)] w' := by
  refine Ret_of_W (args := [_, _, _]) Try.func37 rfl Try.ntmps37 Try.results37 (by simp) ?_
  have H := Hp.focus0 hb
  have hne : p ≠ b := by simpa using ne_of_obj hp hb (by simp)
  have hi := (List.getElem?_eq_some_iff.1 h).1
  have hlen := rows_length plc_len l
  refine W_seq ?_
  refine W_region_l ?_
  (refine WL_effn rfl (E_boxK (q := x) H rfl) ?_; clear H; intro c5 w3 hc5 H)
  refine WL_stepM rfl (R_as) ?_
  refine WL_nil ?_
  refine W_seq ?_
  refine W_region_l ?_
  refine WL_stepM rfl (R_mv) ?_
  refine WL_stepM rfl (R_mv) ?_
  (refine WL_call rfl (R_call rfl Try.call63 rfl) (at_yes ((H.pop (by assumption)).block hp (by simpa using hne)) (H.get (.there .here)) hN hN2 h hg hu) ?_; rintro _ w10 ⟨rfl, H1⟩; replace H := H.seq0 H1; clear H1)
  refine WL_stepM rfl (R_as) ?_
  refine WL_nil ?_
  refine W_seq ?_
  refine W_seq ?_
  refine W_region_l ?_
  refine WL_stepM rfl (R_mv) ?_
  refine WL_step rfl (R_eq_ptr_nil Try.underlying109 rfl rfl) ?_
  refine WL_nil ?_
  refine W_cond_f rfl ?_
  refine W_skip ?_
  refine W_seq ?_
  refine W_region_l ?_
  refine WL_stepM rfl (R_mv) ?_
  refine WL_step rfl (R_loadK (q := x) rfl (H.get .here)) ?_
  refine WL_step rfl (R_nilCheck rfl) ?_
  refine WL_step rfl (R_fieldAddr Try.underlying103 rfl Try.sizeOf61 (by decide) rfl rfl) ?_
  (refine WL_effu rfl (E_storeA (vs := x.c) H (fun w => by rw [x.hc]; exact Try.sizeOf61 w) rfl rfl x.ho (.there .here) (by rw [x.hc, hlen]; show i * 4 + 0 + 2 ≤ _; omega)) ?_; clear H; intro w27 H; rw [x.hc] at H; replace H : Hp w [(c5, blk x.c 61), (b, blk ((rows plc l).take (i * 4 + 0) ++ x.c ++ (rows plc l).drop (i * 4 + 0 + 2)) 103)] w27 := H; rw [rows_val h x] at H)
  refine WL_nil ?_
  refine W_seq ?_
  refine W_region_l ?_
  refine WL_stepM rfl (R_as) ?_
  refine WL_nil ?_
  refine W_ret ?_
  exact ⟨_, rfl, rfl, H.pop (by assumption)⟩
theorem set_no {n : Int} (hp : w.heap[p]? = some (blk [sl b 0 N N] 101)) (hb : w.heap[b]? = some (blk (rows plc l) 103)) (hN : l.length = N) (hN2 : N ≤ 256) (hg : ∀ a ∈ l, a.g ≤ 1000001)
    (hn : ∀ (i : Nat) (a : Pl), l[i]? = some a → a.u = true → n ≠ ((i + 256 * a.g : Nat) : Int)) (x : Vk) :
    Ret Try.prog 37 #[ptr p 0, I n, vk x] w fun v w' => v = .bool false ∧ Hp w [] w' := by
  refine Ret_of_W (args := [_, _, _]) Try.func37 rfl Try.ntmps37 Try.results37 (by simp) ?_
  have H := Hp.refl w
  refine W_seq ?_
  refine W_region_l ?_
  (refine WL_effn rfl (E_boxK (q := x) H rfl) ?_; clear H; intro c5 w3 hc5 H)
  refine WL_stepM rfl (R_as) ?_
  refine WL_nil ?_
  refine W_seq ?_
  refine W_region_l ?_
  refine WL_stepM rfl (R_mv) ?_
  refine WL_stepM rfl (R_mv) ?_
  (refine WL_call rfl (R_call rfl Try.call63 rfl) (at_no (H.blockN hp (by repeat' first | exact kNil | apply kCons | apply kApp | assumption | exact OwnS.keys (by assumption))) (H.blockN hb (by repeat' first | exact kNil | apply kCons | apply kApp | assumption | exact OwnS.keys (by assumption))) hN hN2 hg hn) ?_; rintro _ w10 ⟨rfl, H1⟩; replace H := H.seq0 H1; clear H1)
  refine WL_stepM rfl (R_as) ?_
  refine WL_nil ?_
  refine W_seq ?_
  refine W_seq ?_
  refine W_region_l ?_
  refine WL_stepM rfl (R_mv) ?_
  refine WL_step rfl (R_eq_nil_nil Try.underlying109 rfl rfl) ?_
  refine WL_nil ?_
  refine W_cond_t rfl ?_
  refine W_seq ?_
  refine W_region_l ?_
  refine WL_stepM rfl (R_as) ?_
  refine WL_nil ?_
  refine W_ret ?_
  exact ⟨_, rfl, rfl, H.none (by repeat' first | exact kNil | apply kCons | apply kApp | assumption | exact OwnS.keys (by assumption))⟩
theorem len_ret (hp : w.heap[p]? = some (blk [sl b 0 N N] 101)) (hb : w.heap[b]? = some (blk (rows plc l) 103)) (hN : l.length = N) (hN2 : N ≤ 256) (hg : ∀ a ∈ l, a.g ≤ 1000001) :
    Ret Try.prog 41 #[ptr p 0] w fun v w' => v = I (namesFrom 0 l).length ∧ Hp w [] w' := by
  refine Ret_of_W (args := [_]) Try.func41 rfl Try.ntmps41 Try.results41 (by simp) ?_
  have H := Hp.refl w
  refine W_seq ?_
  refine W_region_l ?_
  refine WL_stepM rfl (R_as) ?_
  refine WL_nil ?_
  refine W_seq ?_
  refine W_region_l ?_
  refine WL_stepM rfl (R_mv) ?_
  (refine WL_call rfl (R_call rfl Try.call65 rfl) (names_ret (H.block hp (by simp)) (H.block hb (by simp)) hN hN2 hg) ?_; rintro v w8 ⟨M, hO, H1⟩; obtain ⟨ao, ca, rfl⟩ := OwnS.form hO; replace H := H.seqD H1 hO.keys; clear H1)
  refine WL_step rfl (R_len_slice Try.underlying51 rfl) ?_
  refine WL_stepM rfl (R_as) ?_
  refine WL_nil ?_
  refine W_ret ?_
  exact ⟨_, rfl, rfl, H⟩
end
end Go.Proofs.Ytjkkfahjgaidbaa.TabV
