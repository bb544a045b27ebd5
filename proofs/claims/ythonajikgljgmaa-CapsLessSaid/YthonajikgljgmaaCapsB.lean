/-
  Spaces of caps: put, got, granted.
-/
import Derived.Test.YthonajikgljgmaaCapsA
namespace Go.Proofs.Ythonajikgljgmaa.Caps
open Go Go.Proofs Go.Proofs.Ythonajikgljgmaa.Fx Go.Proofs.Ythonajikgljgmaa.TabC
set_option maxRecDepth 100000
set_option linter.unusedVariables false
set_option linter.unusedSimpArgs false
set_option maxHeartbeats 8000000

/-- a cap -/
def cp (o r lo n re rn : Int) : Vk := ⟨[I o, I r, I lo, I n, I re, I rn], rfl, by simp [Value.oneCell']⟩
theorem b_and {a b : Nat} (ha : a < 8) (hb : b < 8) : bitsOf .and .i64 (a : Int) (b : Int) = ((a &&& b : Nat) : Int) := by
  have : ∀ a b : Fin 8, bitsOf .and .i64 (a.val : Int) (b.val : Int) = ((a.val &&& b.val : Nat) : Int) := by decide
  exact this ⟨a, ha⟩ ⟨b, hb⟩
theorem b_andNot {a b : Nat} (ha : a < 8) (hb : b < 8) : bitsOf .andNot .i64 (a : Int) (b : Int) = ((a &&& (7 - b) : Nat) : Int) := by
  have : ∀ a b : Fin 8, bitsOf .andNot .i64 (a.val : Int) (b.val : Int) = ((a.val &&& (7 - b.val) : Nat) : Int) := by decide
  exact this ⟨a, ha⟩ ⟨b, hb⟩
theorem ptrs_get {PB : List (Nat × Nat)} {sp : List Value} {j : Nat} {q : Nat × Nat} (h : PB[j]? = some q) : (ptrs PB ++ sp)[j]? = some (ptr q.1 0) := by
  have hj := (List.getElem?_eq_some_iff.1 h).1
  rw [List.getElem?_append_left (by simpa [ptrs] using hj), ptrs, List.getElem?_map, h]; rfl

theorem in_ret (n : Int) (w : World) : Ret Try.prog 42 #[I n] w fun v w' => v = .bool (decide (0 ≤ n ∧ n ≤ 65536)) ∧ Hp w [] w' := by
  refine Ret_of_W (args := [_]) Try.func42 rfl Try.ntmps42 Try.results42 (by simp) ?_
  have H := Hp.refl w
  refine W_seq ?_
  refine W_region_l ?_
  refine WL_stepM rfl (R_as) ?_
  refine WL_nil ?_
  refine W_seq ?_
  refine W_region_l ?_
  refine WL_stepM rfl (R_mv) ?_
  refine WL_step rfl (R_ge rfl rfl) ?_
  refine WL_stepM rfl (R_mv) ?_
  apply WL_andK 3 5 8 [(6, 8)] H
  case hc => rfl
  case h1 =>
    intro h10
    refine WL_guard_t rfl rfl ?_
    refine WL_stepM rfl (R_mv) ?_
    refine WL_guard_t rfl rfl ?_
    refine WL_step rfl (R_le rfl rfl) ?_
    refine WL_stepM rfl (R_pk_t rfl) ?_
    refine WL_nil ?_
    exact ⟨(same_mov rfl (same_updo rfl (same_mov rfl Same.refl))), rfl, H⟩
  case h0 =>
    intro h10
    refine WL_guard_f rfl rfl (by decide) ?_
    refine WL_guard_f rfl rfl (by decide) ?_
    refine WL_stepM rfl (R_pk_f rfl) ?_
    refine WL_nil ?_
    exact ⟨(same_mov rfl (same_updo rfl (same_updo rfl Same.refl))), rfl, H⟩
  case h2 =>
    (clear H; intro E10 w10 H)
    refine WL_stepM rfl (R_as) ?_
    refine WL_nil ?_
    refine W_ret ?_
    exact ⟨_, rfl, congrArg Value.bool (decide_eq_decide.2 (by omega)), H⟩

section
variable {w : World} {s : Nat} {PB : List (Nat × Nat)} {ts : List (List Pl)}
theorem is_ret (hS : Sp w s PB ts) (n : Int) : Ret Try.prog 43 #[ptr s 0, I n] w fun v w' => v = .bool (decide (0 ≤ n ∧ n < PB.length)) ∧ Hp w [] w' := by
  obtain ⟨bs, cap, sp, hs, hbs⟩ := hS.ex
  refine Ret_of_W (args := [_, _]) Try.func43 rfl Try.ntmps43 Try.results43 (by simp) ?_
  have H := Hp.refl w
  refine W_seq ?_
  refine W_region_l ?_
  refine WL_stepM rfl (R_as) ?_
  refine WL_nil ?_
  refine W_seq ?_
  refine W_region_l ?_
  refine WL_stepM rfl (R_mv) ?_
  refine WL_step rfl (R_ge rfl rfl) ?_
  refine WL_stepM rfl (R_mv) ?_
  apply WL_andK 8 7 15 [(8, 15)] H
  case hc => rfl
  case h1 =>
    intro h10
    refine WL_guard_t rfl rfl ?_
    refine WL_stepM rfl (R_mv) ?_
    refine WL_guard_t rfl rfl ?_
    refine WL_stepM rfl (R_mv) ?_
    refine WL_guard_t rfl rfl ?_
    refine WL_step rfl (R_nilCheck rfl) ?_
    refine WL_guard_t rfl rfl ?_
    refine WL_step rfl (R_fieldAddr (off' := 0) Try.underlying90 rfl Try.sizeOf88 (by decide) rfl rfl) ?_
    refine WL_guard_t rfl rfl ?_
    refine WL_step rfl (R_load (v := sl bs 0 PB.length cap) Try.isAgg88 rfl (H.block hs (by simp)) rfl) ?_
    refine WL_guard_t rfl rfl ?_
    refine WL_step rfl (R_len_slice Try.underlying88 rfl) ?_
    refine WL_guard_t rfl rfl ?_
    refine WL_step rfl (R_lt rfl rfl) ?_
    refine WL_stepM rfl (R_pk_t rfl) ?_
    refine WL_nil ?_
    exact ⟨(same_mov rfl (same_updo rfl (same_updo rfl (same_updo rfl (same_updo rfl (same_updo rfl (same_mov rfl (same_mov rfl Same.refl)))))))), rfl, H⟩
  case h0 =>
    intro h10
    refine WL_guard_f rfl rfl (by decide) ?_
    refine WL_guard_f rfl rfl (by decide) ?_
    refine WL_guard_f rfl rfl (by decide) ?_
    refine WL_guard_f rfl rfl (by decide) ?_
    refine WL_guard_f rfl rfl (by decide) ?_
    refine WL_guard_f rfl rfl (by decide) ?_
    refine WL_guard_f rfl rfl (by decide) ?_
    refine WL_stepM rfl (R_pk_f rfl) ?_
    refine WL_nil ?_
    exact ⟨(same_mov rfl (same_updo rfl (same_updo rfl (same_updo rfl (same_updo rfl (same_updo rfl (same_updo rfl (same_updo rfl Same.refl)))))))), rfl, H⟩
  case h2 =>
    (clear H; intro E10 w10 H)
    refine WL_stepM rfl (R_as) ?_
    refine WL_nil ?_
    refine W_ret ?_
    exact ⟨_, rfl, congrArg Value.bool (decide_eq_decide.2 (by omega)), H⟩

theorem add_yes {j i : Nat} {q : Nat × Nat} {t : List Pl} {a : Pl} (hS : Sp w s PB ts) (hq : PB[j]? = some q) (ht : ts[j]? = some t) (x : Vk) (h : t[i]? = some a) (hf : free a) (hl : ∀ k a', k < i → t[k]? = some a' → ¬ free a') :
    Ret Try.prog 44 #[ptr s 0, I j, vk x] w fun v w' => v = .tuple #[I (i + 256 * a.g : Nat), I 0] ∧ Hp w [(q.2, blk (rows plc (t.set i ⟨x, a.g, true⟩)) 137)] w' := by
  obtain ⟨bs, cap, sp, hs, hbs⟩ := hS.ex
  have htp := hS.tp j q hq
  have htb := hS.tb j q t hq ht
  have hj := (List.getElem?_eq_some_iff.1 hq).1
  have hsz := hS.inv.sz t (List.mem_of_getElem? ht)
  have hgn := hS.inv.gn t (List.mem_of_getElem? ht)
  refine Ret_of_W (args := [_, _, _]) Try.func44 rfl Try.ntmps44 Try.results44 (by simp) ?_
  have n1 : q.1 ≠ q.2 := ne_of_obj htp htb (by simp)
  have n2 : bs ≠ q.1 := ne_of_obj hbs htp (by simp)
  have n3 : bs ≠ q.2 := ne_of_obj hbs htb (by simp)
  have n4 : s ≠ bs := ne_of_obj hs hbs (by simp)
  have n5 : s ≠ q.1 := ne_of_obj hs htp (by simp)
  have n6 : s ≠ q.2 := ne_of_obj hs htb (by simp)
  have H := (((Hp.focus0 htb).focus htp (by simpa using n1)).focus hbs (by simpa using ⟨n2, n3⟩)).focus hs (by simpa using ⟨n4, n5, n6⟩)
  refine W_seq ?_
  refine W_region_l ?_
  (refine WL_effn rfl (E_boxK (q := x) H rfl) ?_; clear H; intro c5 w3 hc5 H)
  refine WL_stepM rfl (R_as) ?_
  refine WL_stepM rfl (R_as) ?_
  refine WL_nil ?_
  refine W_seq ?_
  (refine W_draw (Kp [(c5, blk x.c 38), (s, blk [sl bs 0 PB.length cap] 90), (bs, blk (ptrs PB ++ sp) 91)]) (fun _ => false) (by kernel_rfl) H ?_; clear H; intro w8 H)
  refine WA_takeM 0 rfl rfl rfl (by kernel_rfl) (by kernel_rfl) (H.kp.sub (by simp)) (fun _ hC => R_mv) ?_
  refine WA_take 1 rfl rfl rfl (by kernel_rfl) (by kernel_rfl) (H.kp.sub (by simp)) (fun _ hC => R_nilCheck rfl) ?_
  refine WA_take 2 rfl rfl rfl (by kernel_rfl) (by kernel_rfl) (H.kp.sub (by simp)) (fun _ hC => R_fieldAddr (off' := 0) Try.underlying90 rfl Try.sizeOf88 (by decide) rfl rfl) ?_
  refine WA_take 3 rfl rfl rfl (by kernel_rfl) (by kernel_rfl) (H.kp.sub (by simp)) (fun _ hC => R_load (v := sl bs 0 PB.length cap) Try.isAgg88 rfl (hC.get (.there .here)) rfl) ?_
  refine WA_takeM 4 rfl rfl rfl (by kernel_rfl) (by kernel_rfl) (H.kp.sub (by simp)) (fun _ hC => R_mv) ?_
  refine WA_take 5 rfl rfl rfl (by kernel_rfl) (by kernel_rfl) (H.kp.sub (by simp)) (fun _ hC => R_indexAddr (off' := j) Try.underlying88 Try.sizeOf91 rfl rfl (by omega) (by omega) (by omega)) ?_
  refine WA_take 6 rfl rfl rfl (by kernel_rfl) (by kernel_rfl) (H.kp.sub (by simp)) (fun _ hC => R_load (v := ptr q.1 0) Try.isAgg91 rfl (hC.get (.there (.there .here))) (ptrs_get hq)) ?_
  refine WA_take 7 rfl rfl rfl (by kernel_rfl) (by kernel_rfl) (H.kp.sub (by simp)) (fun _ hC => R_loadK (q := x) rfl (hC.get .here)) ?_
  refine WA_one (i := 8) (by kernel_rfl) ?_
  (refine WI_call rfl (.inl rfl) (R_call rfl Try.call68 rfl) (TabC.add_yes (H.get (.there (.there (.there .here)))) (H.get (.there (.there (.there (.there .here))))) hsz (by decide) hgn x h hf hl) (fun _ _ hR _ => (H.seq hR.2 (okSeq_set (.there (.there (.there (.there .here)))) okSeq_nil)).kp.sub (by simp)) ?_; rintro _ w18 ⟨rfl, H1⟩; replace H := H.seq H1 (okSeq_set (.there (.there (.there (.there .here)))) okSeq_nil); clear H1)
  refine WA_takeM 9 rfl rfl rfl (by kernel_rfl) (by kernel_rfl) (H.kp.sub (by simp)) (fun _ hC => R_mv) ?_
  refine WA_take 10 rfl rfl rfl (by kernel_rfl) (by kernel_rfl) (H.kp.sub (by simp)) (fun _ hC => R_extract rfl rfl) ?_
  refine WA_take 11 rfl rfl rfl (by kernel_rfl) (by kernel_rfl) (H.kp.sub (by simp)) (fun _ hC => R_extract rfl rfl) ?_
  refine WA_takeM 12 rfl rfl rfl (by kernel_rfl) (by kernel_rfl) (H.kp.sub (by simp)) (fun _ hC => R_as) ?_
  refine WA_takeM 13 rfl rfl rfl (by kernel_rfl) (by kernel_rfl) (H.kp.sub (by simp)) (fun _ hC => R_as) ?_
  refine WA_done (by kernel_rfl) ?_
  refine W_seq ?_
  refine W_seq ?_
  refine W_region_l ?_
  refine WL_stepM rfl (R_mv) ?_
  refine WL_step rfl (R_not_t rfl) ?_
  refine WL_nil ?_
  refine W_cond_f rfl ?_
  refine W_skip ?_
  refine W_seq ?_
  refine W_region_l ?_
  refine WL_stepM rfl (R_mv) ?_
  refine WL_stepM rfl (R_as) ?_
  refine WL_stepM rfl (R_as) ?_
  refine WL_nil ?_
  refine W_ret ?_
  exact ⟨_, rfl, rfl, (((H.pop (by assumption)).back hs).back hbs).back htp⟩

theorem add_no {j : Nat} {q : Nat × Nat} {t : List Pl} (hS : Sp w s PB ts) (hq : PB[j]? = some q) (ht : ts[j]? = some t) (x : Vk) (hno : ∀ a ∈ t, ¬ free a) :
    Ret Try.prog 44 #[ptr s 0, I j, vk x] w fun v w' => v = .tuple #[I 0, I 4] ∧ Hp w [] w' := by
  obtain ⟨bs, cap, sp, hs, hbs⟩ := hS.ex
  have htp := hS.tp j q hq
  have htb := hS.tb j q t hq ht
  have hj := (List.getElem?_eq_some_iff.1 hq).1
  have hsz := hS.inv.sz t (List.mem_of_getElem? ht)
  have hgn := hS.inv.gn t (List.mem_of_getElem? ht)
  refine Ret_of_W (args := [_, _, _]) Try.func44 rfl Try.ntmps44 Try.results44 (by simp) ?_
  have n1 : q.1 ≠ q.2 := ne_of_obj htp htb (by simp)
  have n2 : bs ≠ q.1 := ne_of_obj hbs htp (by simp)
  have n3 : bs ≠ q.2 := ne_of_obj hbs htb (by simp)
  have n4 : s ≠ bs := ne_of_obj hs hbs (by simp)
  have n5 : s ≠ q.1 := ne_of_obj hs htp (by simp)
  have n6 : s ≠ q.2 := ne_of_obj hs htb (by simp)
  have H := (((Hp.focus0 htb).focus htp (by simpa using n1)).focus hbs (by simpa using ⟨n2, n3⟩)).focus hs (by simpa using ⟨n4, n5, n6⟩)
  refine W_seq ?_
  refine W_region_l ?_
  (refine WL_effn rfl (E_boxK (q := x) H rfl) ?_; clear H; intro c5 w3 hc5 H)
  refine WL_stepM rfl (R_as) ?_
  refine WL_stepM rfl (R_as) ?_
  refine WL_nil ?_
  refine W_seq ?_
  (refine W_draw (Kp [(c5, blk x.c 38), (s, blk [sl bs 0 PB.length cap] 90), (bs, blk (ptrs PB ++ sp) 91)]) (fun _ => false) (by kernel_rfl) H ?_; clear H; intro w8 H)
  refine WA_takeM 0 rfl rfl rfl (by kernel_rfl) (by kernel_rfl) (H.kp.sub (by simp)) (fun _ hC => R_mv) ?_
  refine WA_take 1 rfl rfl rfl (by kernel_rfl) (by kernel_rfl) (H.kp.sub (by simp)) (fun _ hC => R_nilCheck rfl) ?_
  refine WA_take 2 rfl rfl rfl (by kernel_rfl) (by kernel_rfl) (H.kp.sub (by simp)) (fun _ hC => R_fieldAddr (off' := 0) Try.underlying90 rfl Try.sizeOf88 (by decide) rfl rfl) ?_
  refine WA_take 3 rfl rfl rfl (by kernel_rfl) (by kernel_rfl) (H.kp.sub (by simp)) (fun _ hC => R_load (v := sl bs 0 PB.length cap) Try.isAgg88 rfl (hC.get (.there .here)) rfl) ?_
  refine WA_takeM 4 rfl rfl rfl (by kernel_rfl) (by kernel_rfl) (H.kp.sub (by simp)) (fun _ hC => R_mv) ?_
  refine WA_take 5 rfl rfl rfl (by kernel_rfl) (by kernel_rfl) (H.kp.sub (by simp)) (fun _ hC => R_indexAddr (off' := j) Try.underlying88 Try.sizeOf91 rfl rfl (by omega) (by omega) (by omega)) ?_
  refine WA_take 6 rfl rfl rfl (by kernel_rfl) (by kernel_rfl) (H.kp.sub (by simp)) (fun _ hC => R_load (v := ptr q.1 0) Try.isAgg91 rfl (hC.get (.there (.there .here))) (ptrs_get hq)) ?_
  refine WA_take 7 rfl rfl rfl (by kernel_rfl) (by kernel_rfl) (H.kp.sub (by simp)) (fun _ hC => R_loadK (q := x) rfl (hC.get .here)) ?_
  refine WA_one (i := 8) (by kernel_rfl) ?_
  (refine WI_call rfl (.inl rfl) (R_call rfl Try.call68 rfl) (TabC.add_no (H.get (.there (.there (.there .here)))) (H.get (.there (.there (.there (.there .here))))) hsz (by decide) hgn x hno) (fun _ _ hR _ => (H.seq0 hR.2).kp.sub (by simp)) ?_; rintro _ w18 ⟨rfl, H1⟩; replace H := H.seq0 H1; clear H1)
  refine WA_takeM 9 rfl rfl rfl (by kernel_rfl) (by kernel_rfl) (H.kp.sub (by simp)) (fun _ hC => R_mv) ?_
  refine WA_take 10 rfl rfl rfl (by kernel_rfl) (by kernel_rfl) (H.kp.sub (by simp)) (fun _ hC => R_extract rfl rfl) ?_
  refine WA_take 11 rfl rfl rfl (by kernel_rfl) (by kernel_rfl) (H.kp.sub (by simp)) (fun _ hC => R_extract rfl rfl) ?_
  refine WA_takeM 12 rfl rfl rfl (by kernel_rfl) (by kernel_rfl) (H.kp.sub (by simp)) (fun _ hC => R_as) ?_
  refine WA_takeM 13 rfl rfl rfl (by kernel_rfl) (by kernel_rfl) (H.kp.sub (by simp)) (fun _ hC => R_as) ?_
  refine WA_done (by kernel_rfl) ?_
  refine W_seq ?_
  refine W_seq ?_
  refine W_region_l ?_
  refine WL_stepM rfl (R_mv) ?_
  refine WL_step rfl (R_not_f rfl) ?_
  refine WL_nil ?_
  refine W_cond_t rfl ?_
  refine W_seq ?_
  refine W_region_l ?_
  refine WL_stepM rfl (R_as) ?_
  refine WL_stepM rfl (R_as) ?_
  refine WL_nil ?_
  refine W_ret ?_
  exact ⟨_, rfl, rfl, ((((H.pop (by assumption)).back hs).back hbs).back htp).back htb⟩

theorem get_yes {j i : Nat} {q : Nat × Nat} {t : List Pl} {a : Pl} (hS : Sp w s PB ts) (hq : PB[j]? = some q) (ht : ts[j]? = some t) (h : t[i]? = some a) (hu : a.u = true) :
    Ret Try.prog 26 #[ptr s 0, I j, I (i + 256 * a.g : Nat)] w fun v w' => v = .tuple #[vk a.v, I 0] ∧ Hp w [] w' := by
  obtain ⟨bs, cap, sp, hs, hbs⟩ := hS.ex
  have htp := hS.tp j q hq
  have htb := hS.tb j q t hq ht
  have hj := (List.getElem?_eq_some_iff.1 hq).1
  have hsz := hS.inv.sz t (List.mem_of_getElem? ht)
  have hgn := hS.inv.gn t (List.mem_of_getElem? ht)
  refine Ret_of_WC (args := [_, _, _]) Try.func26 rfl Try.ntmps26 Try.results26 (by simp) ?_
  have H := Hp.refl w
  refine W_seq ?_
  refine W_region_l ?_
  (refine WL_effn rfl (E_allocK H) ?_; clear H; intro c3 w3 hc3 H)
  refine WL_stepM rfl (R_as) ?_
  refine WL_nil ?_
  refine W_seq ?_
  refine W_seq ?_
  refine W_region_l ?_
  refine WL_stepM rfl (R_mv) ?_
  refine WL_stepM rfl (R_mv) ?_
  (refine WL_call rfl (R_call rfl Try.call43 rfl) (is_ret (hS.monoN H (by repeat' first | exact kNil | apply kCons | apply kApp | assumption | exact OwnS.keys (by assumption))) _) ?_; rintro _ w11 ⟨rfl, H1⟩; rw [decide_eq_true (show 0 ≤ (j : Int) ∧ (j : Int) < PB.length by omega)]; replace H := H.seq0 H1; clear H1)
  refine WL_step rfl (R_not_t rfl) ?_
  refine WL_nil ?_
  refine W_cond_f rfl ?_
  refine W_skip ?_
  refine W_seq ?_
  refine W_region_l ?_
  refine WL_stepM rfl (R_mv) ?_
  refine WL_step rfl (R_nilCheck rfl) ?_
  refine WL_step rfl (R_fieldAddr (off' := 0) Try.underlying90 rfl Try.sizeOf88 (by decide) rfl rfl) ?_
  refine WL_step rfl (R_load (v := sl bs 0 PB.length cap) Try.isAgg88 rfl (H.blockN hs (by repeat' first | exact kNil | apply kCons | apply kApp | assumption | exact OwnS.keys (by assumption))) rfl) ?_
  refine WL_stepM rfl (R_mv) ?_
  refine WL_step rfl (R_indexAddr Try.underlying88 Try.sizeOf91 rfl rfl (by omega) (by omega) idx0_cast) ?_
  refine WL_step rfl (R_load (v := ptr q.1 0) Try.isAgg91 rfl (H.blockN hbs (by repeat' first | exact kNil | apply kCons | apply kApp | assumption | exact OwnS.keys (by assumption))) (ptrs_get hq)) ?_
  refine WL_stepM rfl (R_mv) ?_
  (refine WL_call rfl (R_call rfl Try.call48 rfl) (TabC.get_yes (H.blockN htp (by repeat' first | exact kNil | apply kCons | apply kApp | assumption | exact OwnS.keys (by assumption))) (H.blockN htb (by repeat' first | exact kNil | apply kCons | apply kApp | assumption | exact OwnS.keys (by assumption))) hsz (by decide) h (hgn a (List.mem_of_getElem? h)) hu) ?_; rintro _ w26 ⟨rfl, H1⟩; replace H := H.seq0 H1; clear H1)
  refine WL_stepM rfl (R_mv) ?_
  refine WL_step rfl (R_extract rfl rfl) ?_
  refine WL_step rfl (R_extract rfl rfl) ?_
  (refine WL_effn rfl (E_allocK H) ?_; clear H; intro c30 w30 hc30 H)
  (refine WL_effu rfl (E_storeK H rfl rfl .here) ?_; clear H; intro w31 H)
  refine WL_stepM rfl (R_as) ?_
  refine WL_nil ?_
  refine W_seq ?_
  refine W_seq ?_
  refine W_region_l ?_
  refine WL_stepM rfl (R_mv) ?_
  refine WL_step rfl (R_not_t rfl) ?_
  refine WL_nil ?_
  refine W_cond_f rfl ?_
  refine W_skip ?_
  refine W_seq ?_
  refine W_region_l ?_
  refine WL_step rfl (R_loadK rfl (H.get .here)) ?_
  (refine WL_effu rfl (E_storeK H rfl rfl (.there .here)) ?_; clear H; intro w45 H)
  refine WL_stepM rfl (R_as) ?_
  refine WL_nil ?_
  refine W_ret ?_
  exact ⟨_, ⟨_, _, rfl, ldK (H.get (.there .here)), rfl⟩, rfl, H.none (by repeat' first | exact kNil | apply kCons | apply kApp | assumption | exact OwnS.keys (by assumption))⟩

theorem get_noenv (hS : Sp w s PB ts) (e n : Int) (he : ¬ (0 ≤ e ∧ e < PB.length)) :
    Ret Try.prog 26 #[ptr s 0, I e, I n] w fun v w' => v = .tuple #[vk zk, I 2] ∧ Hp w [] w' := by
  refine Ret_of_WC (args := [_, _, _]) Try.func26 rfl Try.ntmps26 Try.results26 (by simp) ?_
  have H := Hp.refl w
  refine W_seq ?_
  refine W_region_l ?_
  (refine WL_effn rfl (E_allocK H) ?_; clear H; intro c3 w3 hc3 H)
  refine WL_stepM rfl (R_as) ?_
  refine WL_nil ?_
  refine W_seq ?_
  refine W_seq ?_
  refine W_region_l ?_
  refine WL_stepM rfl (R_mv) ?_
  refine WL_stepM rfl (R_mv) ?_
  (refine WL_call rfl (R_call rfl Try.call43 rfl) (is_ret (hS.monoN H (by repeat' first | exact kNil | apply kCons | apply kApp | assumption | exact OwnS.keys (by assumption))) _) ?_; rintro _ w11 ⟨rfl, H1⟩; rw [decide_eq_false he]; replace H := H.seq0 H1; clear H1)
  refine WL_step rfl (R_not_f rfl) ?_
  refine WL_nil ?_
  refine W_cond_t rfl ?_
  refine W_seq ?_
  refine W_region_l ?_
  refine WL_step rfl (R_buildL (places := [(0, 1), (1, 1), (2, 1), (3, 1), (4, 2)]) (vs := zk.c) Try.underlying38 Try.typeInfo38 rfl rfl (by kernel_rfl) rfl rfl rfl) ?_
  (refine WL_effu rfl (E_storeK (q := zk) H rfl rfl .here) ?_; clear H; intro w18 H)
  refine WL_stepM rfl (R_as) ?_
  refine WL_nil ?_
  refine W_ret ?_
  exact ⟨_, ⟨_, _, rfl, ldK (H.get .here), rfl⟩, rfl, H.none (by repeat' first | exact kNil | apply kCons | apply kApp | assumption | exact OwnS.keys (by assumption))⟩

theorem get_no {j : Nat} {q : Nat × Nat} {t : List Pl} (hS : Sp w s PB ts) (hq : PB[j]? = some q) (ht : ts[j]? = some t) (n : Int)
    (hno : ∀ (i : Nat) (a : Pl), t[i]? = some a → a.u = true → n ≠ ((i + 256 * a.g : Nat) : Int)) :
    Ret Try.prog 26 #[ptr s 0, I j, I n] w fun v w' => v = .tuple #[vk zk, I 2] ∧ Hp w [] w' := by
  obtain ⟨bs, cap, sp, hs, hbs⟩ := hS.ex
  have htp := hS.tp j q hq
  have htb := hS.tb j q t hq ht
  have hj := (List.getElem?_eq_some_iff.1 hq).1
  have hsz := hS.inv.sz t (List.mem_of_getElem? ht)
  have hgn := hS.inv.gn t (List.mem_of_getElem? ht)
  refine Ret_of_WC (args := [_, _, _]) Try.func26 rfl Try.ntmps26 Try.results26 (by simp) ?_
  have H := Hp.refl w
  refine W_seq ?_
  refine W_region_l ?_
  (refine WL_effn rfl (E_allocK H) ?_; clear H; intro c3 w3 hc3 H)
  refine WL_stepM rfl (R_as) ?_
  refine WL_nil ?_
  refine W_seq ?_
  refine W_seq ?_
  refine W_region_l ?_
  refine WL_stepM rfl (R_mv) ?_
  refine WL_stepM rfl (R_mv) ?_
  (refine WL_call rfl (R_call rfl Try.call43 rfl) (is_ret (hS.monoN H (by repeat' first | exact kNil | apply kCons | apply kApp | assumption | exact OwnS.keys (by assumption))) _) ?_; rintro _ w11 ⟨rfl, H1⟩; rw [decide_eq_true (show 0 ≤ (j : Int) ∧ (j : Int) < PB.length by omega)]; replace H := H.seq0 H1; clear H1)
  refine WL_step rfl (R_not_t rfl) ?_
  refine WL_nil ?_
  refine W_cond_f rfl ?_
  refine W_skip ?_
  refine W_seq ?_
  refine W_region_l ?_
  refine WL_stepM rfl (R_mv) ?_
  refine WL_step rfl (R_nilCheck rfl) ?_
  refine WL_step rfl (R_fieldAddr (off' := 0) Try.underlying90 rfl Try.sizeOf88 (by decide) rfl rfl) ?_
  refine WL_step rfl (R_load (v := sl bs 0 PB.length cap) Try.isAgg88 rfl (H.blockN hs (by repeat' first | exact kNil | apply kCons | apply kApp | assumption | exact OwnS.keys (by assumption))) rfl) ?_
  refine WL_stepM rfl (R_mv) ?_
  refine WL_step rfl (R_indexAddr Try.underlying88 Try.sizeOf91 rfl rfl (by omega) (by omega) idx0_cast) ?_
  refine WL_step rfl (R_load (v := ptr q.1 0) Try.isAgg91 rfl (H.blockN hbs (by repeat' first | exact kNil | apply kCons | apply kApp | assumption | exact OwnS.keys (by assumption))) (ptrs_get hq)) ?_
  refine WL_stepM rfl (R_mv) ?_
  (refine WL_call rfl (R_call rfl Try.call48 rfl) (TabC.get_no (H.blockN htp (by repeat' first | exact kNil | apply kCons | apply kApp | assumption | exact OwnS.keys (by assumption))) (H.blockN htb (by repeat' first | exact kNil | apply kCons | apply kApp | assumption | exact OwnS.keys (by assumption))) hsz (by decide) hgn hno) ?_; rintro _ w26 ⟨rfl, H1⟩; replace H := H.seq0 H1; clear H1)
  refine WL_stepM rfl (R_mv) ?_
  refine WL_step rfl (R_extract rfl rfl) ?_
  refine WL_step rfl (R_extract rfl rfl) ?_
  (refine WL_effn rfl (E_allocK H) ?_; clear H; intro c30 w30 hc30 H)
  (refine WL_effu rfl (E_storeK (q := zk) H rfl rfl .here) ?_; clear H; intro w31 H)
  refine WL_stepM rfl (R_as) ?_
  refine WL_nil ?_
  refine W_seq ?_
  refine W_seq ?_
  refine W_region_l ?_
  refine WL_stepM rfl (R_mv) ?_
  refine WL_step rfl (R_not_f rfl) ?_
  refine WL_nil ?_
  refine W_cond_t rfl ?_
  refine W_seq ?_
  refine W_region_l ?_
  refine WL_step rfl (R_buildL (places := [(0, 1), (1, 1), (2, 1), (3, 1), (4, 2)]) (vs := zk.c) Try.underlying38 Try.typeInfo38 rfl rfl (by kernel_rfl) rfl rfl rfl) ?_
  (refine WL_effu rfl (E_storeK (q := zk) H rfl rfl (.there .here)) ?_; clear H; intro w44 H)
  refine WL_stepM rfl (R_as) ?_
  refine WL_nil ?_
  refine W_ret ?_
  exact ⟨_, ⟨_, _, rfl, ldK (H.get (.there .here)), rfl⟩, rfl, H.none (by repeat' first | exact kNil | apply kCons | apply kApp | assumption | exact OwnS.keys (by assumption))⟩

theorem put_yes {j i r : Nat} {q : Nat × Nat} {t : List Pl} {a : Pl} {o lo n re rn : Int} (hS : Sp w s PB ts) (hq : PB[j]? = some q) (ht : ts[j]? = some t) (hr : r < 8) (hlo : 0 ≤ lo ∧ lo ≤ 65536) (hn : 0 ≤ n ∧ n ≤ 65536) (h : t[i]? = some a) (hf : free a) (hl : ∀ k a', k < i → t[k]? = some a' → ¬ free a') :
    Ret Try.prog 18 #[ptr s 0, I j, vk (cp o r lo n re rn)] w fun v w' => v = .tuple #[I (i + 256 * a.g : Nat), I 0] ∧ Hp w [(q.2, blk (rows plc (t.set i ⟨cp o r lo n 0 0, a.g, true⟩)) 137)] w' := by
  have hj := (List.getElem?_eq_some_iff.1 hq).1
  have htb := hS.tb j q t hq ht
  refine Ret_of_W (args := [_, _, _]) Try.func18 rfl Try.ntmps18 Try.results18 (by simp) ?_
  have H := Hp.refl w
  refine W_seq ?_
  refine W_region_l ?_
  (refine WL_effn rfl (E_boxK (q := cp o r lo n re rn) H rfl) ?_; clear H; intro c5 w3 hc5 H)
  refine WL_stepM rfl (R_as) ?_
  refine WL_stepM rfl (R_as) ?_
  refine WL_nil ?_
  refine W_seq ?_
  refine W_region_l ?_
  refine WL_stepM rfl (R_as) ?_
  refine WL_nil ?_
  refine W_seq ?_
  refine W_seq ?_
  refine W_region_l ?_
  refine WL_stepM rfl (R_mv) ?_
  refine WL_stepM rfl (R_mv) ?_
  (refine WL_call rfl (R_call rfl Try.call43 rfl) (is_ret (hS.monoN H (by repeat' first | exact kNil | apply kCons | apply kApp | assumption | exact OwnS.keys (by assumption))) _) ?_; rintro _ w16 ⟨rfl, H1⟩; rw [decide_eq_true (show 0 ≤ (j : Int) ∧ (j : Int) < PB.length by omega)]; replace H := H.seq0 H1; clear H1)
  refine WL_step rfl (R_not_t rfl) ?_
  refine WL_stepM rfl (R_mv) ?_
  refine WL_guard_t rfl rfl ?_
  refine WL_step rfl (R_fieldAddr (off' := 1) Try.underlying38 rfl Try.sizeOf3 (by decide) rfl rfl) ?_
  refine WL_guard_t rfl rfl ?_
  refine WL_step rfl (R_load Try.isAgg3 rfl (H.get .here) rfl) ?_
  refine WL_guard_t rfl rfl ?_
  refine WL_step rfl (R_bits (r := 0) rfl rfl (by simp) ((b_andNot hr (b := 7) (by decide)).trans (by simp))) ?_
  refine WL_guard_t rfl rfl ?_
  refine WL_step rfl (R_ne_f rfl rfl (by omega)) ?_
  refine WL_stepM rfl (R_pk_f rfl) ?_
  refine WL_stepM rfl (R_mv) ?_
  refine WL_guard_t rfl rfl ?_
  refine WL_stepM rfl (R_mv) ?_
  refine WL_guard_t rfl rfl ?_
  refine WL_step rfl (R_fieldAddr (off' := 2) Try.underlying38 rfl Try.sizeOf3 (by decide) rfl rfl) ?_
  refine WL_guard_t rfl rfl ?_
  refine WL_step rfl (R_load Try.isAgg3 rfl (H.get .here) rfl) ?_
  refine WL_guard_t rfl rfl ?_
  (refine WL_call rfl (R_call rfl Try.call42 rfl) (in_ret lo _) ?_; rintro _ w36 ⟨rfl, H1⟩; rw [decide_eq_true hlo]; replace H := H.seq0 H1; clear H1)
  refine WL_guard_t rfl rfl ?_
  refine WL_step rfl (R_not_t rfl) ?_
  refine WL_stepM rfl (R_pk_f rfl) ?_
  refine WL_stepM rfl (R_mv) ?_
  refine WL_guard_t rfl rfl ?_
  refine WL_stepM rfl (R_mv) ?_
  refine WL_guard_t rfl rfl ?_
  refine WL_step rfl (R_fieldAddr (off' := 3) Try.underlying38 rfl Try.sizeOf3 (by decide) rfl rfl) ?_
  refine WL_guard_t rfl rfl ?_
  refine WL_step rfl (R_load Try.isAgg3 rfl (H.get .here) rfl) ?_
  refine WL_guard_t rfl rfl ?_
  (refine WL_call rfl (R_call rfl Try.call42 rfl) (in_ret n _) ?_; rintro _ w48 ⟨rfl, H1⟩; rw [decide_eq_true hn]; replace H := H.seq0 H1; clear H1)
  refine WL_guard_t rfl rfl ?_
  refine WL_step rfl (R_not_t rfl) ?_
  refine WL_stepM rfl (R_pk_f rfl) ?_
  refine WL_nil ?_
  refine W_cond_f rfl ?_
  refine W_skip ?_
  refine W_seq ?_
  refine W_region_l ?_
  refine WL_step rfl (R_buildL (places := [(0, 1), (1, 1)]) (vs := [I 0, I 0]) Try.underlying36 Try.typeInfo36 rfl rfl (by kernel_rfl) rfl rfl rfl) ?_
  refine WL_step rfl (R_fieldAddr (off' := 4) Try.underlying38 rfl Try.sizeOf36 (by decide) rfl rfl) ?_
  (refine WL_effu rfl (E_storeA (vs := [(.int _ _), (.int _ _)]) H Try.sizeOf36 rfl rfl (by simp [Value.oneCell']) .here (Nat.le_of_ble_eq_true rfl)) ?_; clear H; intro w59 H)
  refine WL_nil ?_
  refine W_seq ?_
  refine W_region_l ?_
  refine WL_stepM rfl (R_mv) ?_
  refine WL_stepM rfl (R_mv) ?_
  refine WL_step rfl (R_loadK (q := cp o r lo n 0 0) rfl (H.get .here)) ?_
  (refine WL_call rfl (R_call rfl Try.call44 rfl) (add_yes (hS.monoN H (by repeat' first | exact kNil | apply kCons | apply kApp | assumption | exact OwnS.keys (by assumption))) hq ht (cp o r lo n 0 0) h hf hl) ?_; rintro _ w66 ⟨rfl, H1⟩; replace H := H.seqB htb (by repeat' first | exact kNil | apply kCons | apply kApp | assumption | exact OwnS.keys (by assumption)) H1; clear H1)
  refine WL_step rfl (R_extract rfl rfl) ?_
  refine WL_step rfl (R_extract rfl rfl) ?_
  refine WL_stepM rfl (R_as) ?_
  refine WL_stepM rfl (R_as) ?_
  refine WL_nil ?_
  refine W_ret ?_
  exact ⟨_, rfl, rfl, H.pop2 (by assumption)⟩

theorem put_full {j r : Nat} {q : Nat × Nat} {t : List Pl} {o lo n re rn : Int} (hS : Sp w s PB ts) (hq : PB[j]? = some q) (ht : ts[j]? = some t) (hr : r < 8) (hlo : 0 ≤ lo ∧ lo ≤ 65536) (hn : 0 ≤ n ∧ n ≤ 65536) (hno : ∀ a ∈ t, ¬ free a) :
    Ret Try.prog 18 #[ptr s 0, I j, vk (cp o r lo n re rn)] w fun v w' => v = .tuple #[I 0, I 4] ∧ Hp w [] w' := by
  have hj := (List.getElem?_eq_some_iff.1 hq).1
  refine Ret_of_W (args := [_, _, _]) Try.func18 rfl Try.ntmps18 Try.results18 (by simp) ?_
  have H := Hp.refl w
  refine W_seq ?_
  refine W_region_l ?_
  (refine WL_effn rfl (E_boxK (q := cp o r lo n re rn) H rfl) ?_; clear H; intro c5 w3 hc5 H)
  refine WL_stepM rfl (R_as) ?_
  refine WL_stepM rfl (R_as) ?_
  refine WL_nil ?_
  refine W_seq ?_
  refine W_region_l ?_
  refine WL_stepM rfl (R_as) ?_
  refine WL_nil ?_
  refine W_seq ?_
  refine W_seq ?_
  refine W_region_l ?_
  refine WL_stepM rfl (R_mv) ?_
  refine WL_stepM rfl (R_mv) ?_
  (refine WL_call rfl (R_call rfl Try.call43 rfl) (is_ret (hS.monoN H (by repeat' first | exact kNil | apply kCons | apply kApp | assumption | exact OwnS.keys (by assumption))) _) ?_; rintro _ w16 ⟨rfl, H1⟩; rw [decide_eq_true (show 0 ≤ (j : Int) ∧ (j : Int) < PB.length by omega)]; replace H := H.seq0 H1; clear H1)
  refine WL_step rfl (R_not_t rfl) ?_
  refine WL_stepM rfl (R_mv) ?_
  refine WL_guard_t rfl rfl ?_
  refine WL_step rfl (R_fieldAddr (off' := 1) Try.underlying38 rfl Try.sizeOf3 (by decide) rfl rfl) ?_
  refine WL_guard_t rfl rfl ?_
  refine WL_step rfl (R_load Try.isAgg3 rfl (H.get .here) rfl) ?_
  refine WL_guard_t rfl rfl ?_
  refine WL_step rfl (R_bits (r := 0) rfl rfl (by simp) ((b_andNot hr (b := 7) (by decide)).trans (by simp))) ?_
  refine WL_guard_t rfl rfl ?_
  refine WL_step rfl (R_ne_f rfl rfl (by omega)) ?_
  refine WL_stepM rfl (R_pk_f rfl) ?_
  refine WL_stepM rfl (R_mv) ?_
  refine WL_guard_t rfl rfl ?_
  refine WL_stepM rfl (R_mv) ?_
  refine WL_guard_t rfl rfl ?_
  refine WL_step rfl (R_fieldAddr (off' := 2) Try.underlying38 rfl Try.sizeOf3 (by decide) rfl rfl) ?_
  refine WL_guard_t rfl rfl ?_
  refine WL_step rfl (R_load Try.isAgg3 rfl (H.get .here) rfl) ?_
  refine WL_guard_t rfl rfl ?_
  (refine WL_call rfl (R_call rfl Try.call42 rfl) (in_ret lo _) ?_; rintro _ w36 ⟨rfl, H1⟩; rw [decide_eq_true hlo]; replace H := H.seq0 H1; clear H1)
  refine WL_guard_t rfl rfl ?_
  refine WL_step rfl (R_not_t rfl) ?_
  refine WL_stepM rfl (R_pk_f rfl) ?_
  refine WL_stepM rfl (R_mv) ?_
  refine WL_guard_t rfl rfl ?_
  refine WL_stepM rfl (R_mv) ?_
  refine WL_guard_t rfl rfl ?_
  refine WL_step rfl (R_fieldAddr (off' := 3) Try.underlying38 rfl Try.sizeOf3 (by decide) rfl rfl) ?_
  refine WL_guard_t rfl rfl ?_
  refine WL_step rfl (R_load Try.isAgg3 rfl (H.get .here) rfl) ?_
  refine WL_guard_t rfl rfl ?_
  (refine WL_call rfl (R_call rfl Try.call42 rfl) (in_ret n _) ?_; rintro _ w48 ⟨rfl, H1⟩; rw [decide_eq_true hn]; replace H := H.seq0 H1; clear H1)
  refine WL_guard_t rfl rfl ?_
  refine WL_step rfl (R_not_t rfl) ?_
  refine WL_stepM rfl (R_pk_f rfl) ?_
  refine WL_nil ?_
  refine W_cond_f rfl ?_
  refine W_skip ?_
  refine W_seq ?_
  refine W_region_l ?_
  refine WL_step rfl (R_buildL (places := [(0, 1), (1, 1)]) (vs := [I 0, I 0]) Try.underlying36 Try.typeInfo36 rfl rfl (by kernel_rfl) rfl rfl rfl) ?_
  refine WL_step rfl (R_fieldAddr (off' := 4) Try.underlying38 rfl Try.sizeOf36 (by decide) rfl rfl) ?_
  (refine WL_effu rfl (E_storeA (vs := [(.int _ _), (.int _ _)]) H Try.sizeOf36 rfl rfl (by simp [Value.oneCell']) .here (Nat.le_of_ble_eq_true rfl)) ?_; clear H; intro w59 H)
  refine WL_nil ?_
  refine W_seq ?_
  refine W_region_l ?_
  refine WL_stepM rfl (R_mv) ?_
  refine WL_stepM rfl (R_mv) ?_
  refine WL_step rfl (R_loadK (q := cp o r lo n 0 0) rfl (H.get .here)) ?_
  (refine WL_call rfl (R_call rfl Try.call44 rfl) (add_no (hS.monoN H (by repeat' first | exact kNil | apply kCons | apply kApp | assumption | exact OwnS.keys (by assumption))) hq ht (cp o r lo n 0 0) hno) ?_; rintro _ w66 ⟨rfl, H1⟩; replace H := H.seq0 H1; clear H1)
  refine WL_step rfl (R_extract rfl rfl) ?_
  refine WL_step rfl (R_extract rfl rfl) ?_
  refine WL_stepM rfl (R_as) ?_
  refine WL_stepM rfl (R_as) ?_
  refine WL_nil ?_
  refine W_ret ?_
  exact ⟨_, rfl, rfl, H.none (by repeat' first | exact kNil | apply kCons | apply kApp | assumption | exact OwnS.keys (by assumption))⟩

theorem put_noenv {e o r lo n re rn : Int} (hS : Sp w s PB ts) (he : ¬ (0 ≤ e ∧ e < PB.length)) :
    Ret Try.prog 18 #[ptr s 0, I e, vk (cp o r lo n re rn)] w fun v w' => v = .tuple #[I 0, I 1] ∧ Hp w [] w' := by
  refine Ret_of_W (args := [_, _, _]) Try.func18 rfl Try.ntmps18 Try.results18 (by simp) ?_
  have H := Hp.refl w
  refine W_seq ?_
  refine W_region_l ?_
  (refine WL_effn rfl (E_boxK (q := cp o r lo n re rn) H rfl) ?_; clear H; intro c5 w3 hc5 H)
  refine WL_stepM rfl (R_as) ?_
  refine WL_stepM rfl (R_as) ?_
  refine WL_nil ?_
  refine W_seq ?_
  refine W_region_l ?_
  refine WL_stepM rfl (R_as) ?_
  refine WL_nil ?_
  refine W_seq ?_
  refine W_seq ?_
  refine W_region_l ?_
  refine WL_stepM rfl (R_mv) ?_
  refine WL_stepM rfl (R_mv) ?_
  (refine WL_call rfl (R_call rfl Try.call43 rfl) (is_ret (hS.monoN H (by repeat' first | exact kNil | apply kCons | apply kApp | assumption | exact OwnS.keys (by assumption))) _) ?_; rintro _ w16 ⟨rfl, H1⟩; rw [decide_eq_false he]; replace H := H.seq0 H1; clear H1)
  refine WL_step rfl (R_not_f rfl) ?_
  refine WL_stepM rfl (R_mv) ?_
  refine WL_guard_f rfl rfl (by decide) ?_
  refine WL_guard_f rfl rfl (by decide) ?_
  refine WL_guard_f rfl rfl (by decide) ?_
  refine WL_guard_f rfl rfl (by decide) ?_
  refine WL_stepM rfl (R_pk_t rfl) ?_
  refine WL_stepM rfl (R_mv) ?_
  refine WL_guard_f rfl rfl (by decide) ?_
  refine WL_guard_f rfl rfl (by decide) ?_
  refine WL_guard_f rfl rfl (by decide) ?_
  refine WL_guard_f rfl rfl (by decide) ?_
  refine WL_guard_f rfl rfl (by decide) ?_
  refine WL_stepM rfl (R_pk_t rfl) ?_
  refine WL_stepM rfl (R_mv) ?_
  refine WL_guard_f rfl rfl (by decide) ?_
  refine WL_guard_f rfl rfl (by decide) ?_
  refine WL_guard_f rfl rfl (by decide) ?_
  refine WL_guard_f rfl rfl (by decide) ?_
  refine WL_guard_f rfl rfl (by decide) ?_
  refine WL_stepM rfl (R_pk_t rfl) ?_
  refine WL_nil ?_
  refine W_cond_t rfl ?_
  refine W_seq ?_
  refine W_region_l ?_
  refine WL_stepM rfl (R_as) ?_
  refine WL_stepM rfl (R_as) ?_
  refine WL_nil ?_
  refine W_ret ?_
  exact ⟨_, rfl, rfl, H.none (by repeat' first | exact kNil | apply kCons | apply kApp | assumption | exact OwnS.keys (by assumption))⟩
theorem put_no8 {j : Nat} {o lo n re rn : Int} (hS : Sp w s PB ts) (hj : j < PB.length) :
    Ret Try.prog 18 #[ptr s 0, I j, vk (cp o 8 lo n re rn)] w fun v w' => v = .tuple #[I 0, I 1] ∧ Hp w [] w' := by
  refine Ret_of_W (args := [_, _, _]) Try.func18 rfl Try.ntmps18 Try.results18 (by simp) ?_
  have H := Hp.refl w
  refine W_seq ?_
  refine W_region_l ?_
  (refine WL_effn rfl (E_boxK (q := cp o 8 lo n re rn) H rfl) ?_; clear H; intro c5 w3 hc5 H)
  refine WL_stepM rfl (R_as) ?_
  refine WL_stepM rfl (R_as) ?_
  refine WL_nil ?_
  refine W_seq ?_
  refine W_region_l ?_
  refine WL_stepM rfl (R_as) ?_
  refine WL_nil ?_
  refine W_seq ?_
  refine W_seq ?_
  refine W_region_l ?_
  refine WL_stepM rfl (R_mv) ?_
  refine WL_stepM rfl (R_mv) ?_
  (refine WL_call rfl (R_call rfl Try.call43 rfl) (is_ret (hS.monoN H (by repeat' first | exact kNil | apply kCons | apply kApp | assumption | exact OwnS.keys (by assumption))) _) ?_; rintro _ w16 ⟨rfl, H1⟩; rw [decide_eq_true (show 0 ≤ (j : Int) ∧ (j : Int) < PB.length by omega)]; replace H := H.seq0 H1; clear H1)
  refine WL_step rfl (R_not_t rfl) ?_
  refine WL_stepM rfl (R_mv) ?_
  refine WL_guard_t rfl rfl ?_
  refine WL_step rfl (R_fieldAddr (off' := 1) Try.underlying38 rfl Try.sizeOf3 (by decide) rfl rfl) ?_
  refine WL_guard_t rfl rfl ?_
  refine WL_step rfl (R_load Try.isAgg3 rfl (H.get .here) rfl) ?_
  refine WL_guard_t rfl rfl ?_
  refine WL_step rfl (R_bits (r := 8) rfl rfl (by simp) (by decide)) ?_
  refine WL_guard_t rfl rfl ?_
  refine WL_step rfl (R_ne_t rfl rfl (by omega)) ?_
  refine WL_stepM rfl (R_pk_f rfl) ?_
  refine WL_stepM rfl (R_mv) ?_
  refine WL_guard_f rfl rfl (by decide) ?_
  refine WL_guard_f rfl rfl (by decide) ?_
  refine WL_guard_f rfl rfl (by decide) ?_
  refine WL_guard_f rfl rfl (by decide) ?_
  refine WL_guard_f rfl rfl (by decide) ?_
  refine WL_stepM rfl (R_pk_t rfl) ?_
  refine WL_stepM rfl (R_mv) ?_
  refine WL_guard_f rfl rfl (by decide) ?_
  refine WL_guard_f rfl rfl (by decide) ?_
  refine WL_guard_f rfl rfl (by decide) ?_
  refine WL_guard_f rfl rfl (by decide) ?_
  refine WL_guard_f rfl rfl (by decide) ?_
  refine WL_stepM rfl (R_pk_t rfl) ?_
  refine WL_nil ?_
  refine W_cond_t rfl ?_
  refine W_seq ?_
  refine W_region_l ?_
  refine WL_stepM rfl (R_as) ?_
  refine WL_stepM rfl (R_as) ?_
  refine WL_nil ?_
  refine W_ret ?_
  exact ⟨_, rfl, rfl, H.none (by repeat' first | exact kNil | apply kCons | apply kApp | assumption | exact OwnS.keys (by assumption))⟩
end
end Go.Proofs.Ythonajikgljgmaa.Caps
