/-
  What Drain and Either of package bell do.
-/
import Derived.Test.YtjfcnmbalojehaaBellA
namespace Go.Proofs.Ytjfcnmbalojehaa.Bell
open Go Go.Proofs Go.Proofs.Ytjfcnmbalojehaa.Fx
set_option maxRecDepth 100000

section
variable {w : World} {p q b c s r : Nat}

theorem either_nil_some {x : Int} {buf : List Value} (hp : w.heap[p]? = some (blk [.chan (some b)] 90)) (hb : w.heap[b]? = some (.chan c (I x :: buf).toArray false s r false)) :
    Ret Try.prog 16 #[.pointer none, ptr p 0] w fun v w' => v = .tuple #[I x, I 1, .bool true] ∧ Hp w [(b, .chan c buf.toArray false s (r + 1) false)] w' := by
  refine Ret_of_W (args := [_, _]) Try.func16 rfl Try.ntmps16 Try.results16 (by simp) ?_
  have H := ((Hp.refl w).focus hp (by simp)).focus hb (by simpa using ne_of_obj hb hp (by simp))
  refine W_seq ?_
  refine W_region_l ?_
  refine WL_stepM rfl (R_as) ?_
  refine WL_stepM rfl (R_as) ?_
  refine WL_stepM rfl (R_as) ?_
  refine WL_nil ?_
  refine W_seq ?_
  refine W_seq ?_
  refine W_region_l ?_
  refine WL_stepM rfl (R_mv) ?_
  refine WL_stepM rfl (R_mv) ?_
  (refine WL_effn rfl (E_buildSlice (vs := [(.pointer _), (.pointer _)]) H Try.underlying91 Try.sizeOf23 Try.zeroValue23 rfl rfl (by decide) rfl rfl) ?_; clear H; intro b12 w12 hb12 H)
  refine WL_step rfl (R_len_slice Try.underlying91 rfl) ?_
  refine WL_stepM rfl (R_mv) ?_
  refine WL_nil ?_
  refine W_block ?_
  refine W_rounds 2 ?_
  refine W_seq ?_
  refine W_region_l ?_
  refine WL_step rfl (R_lt_t rfl rfl (by omega)) ?_
  refine WL_nil ?_
  refine W_seq ?_
  refine W_cond_t rfl ?_
  refine W_skip ?_
  refine W_seq ?_
  refine W_block ?_
  refine W_seq ?_
  refine W_region_l ?_
  refine WL_stepM rfl (R_mv) ?_
  refine WL_step rfl (R_indexAddr (off' := 0) Try.underlying91 Try.sizeOf23 rfl rfl (by omega) (by omega) rfl) ?_
  refine WL_step rfl (R_load Try.isAgg23 rfl (H.get .here) rfl) ?_
  refine WL_stepM rfl (R_as) ?_
  refine WL_stepM rfl (R_as) ?_
  refine WL_nil ?_
  refine W_seq ?_
  refine W_seq ?_
  refine W_region_l ?_
  refine WL_stepM rfl (R_mv) ?_
  refine WL_step rfl (R_eq_nil_nil Try.underlying23 rfl rfl) ?_
  refine WL_nil ?_
  refine W_cond_t rfl ?_
  refine W_exit ?_
  refine (if_pos rfl).mpr ?_
  refine W_region_l ?_
  refine WL_step rfl (R_add (r := 1) rfl rfl (by decide)) ?_
  refine WL_stepM rfl (R_mv) ?_
  refine WL_nil ?_
  refine Rn_succ ?_
  refine W_seq ?_
  refine W_region_l ?_
  refine WL_step rfl (R_lt_t rfl rfl (by omega)) ?_
  refine WL_nil ?_
  refine W_seq ?_
  refine W_cond_t rfl ?_
  refine W_skip ?_
  refine W_seq ?_
  refine W_block ?_
  refine W_seq ?_
  refine W_region_l ?_
  refine WL_stepM rfl (R_mv) ?_
  refine WL_step rfl (R_indexAddr (off' := 1) Try.underlying91 Try.sizeOf23 rfl rfl (by omega) (by omega) rfl) ?_
  refine WL_step rfl (R_load Try.isAgg23 rfl (H.get .here) rfl) ?_
  refine WL_stepM rfl (R_as) ?_
  refine WL_stepM rfl (R_as) ?_
  refine WL_nil ?_
  refine W_seq ?_
  refine W_seq ?_
  refine W_region_l ?_
  refine WL_stepM rfl (R_mv) ?_
  refine WL_step rfl (R_eq_ptr_nil Try.underlying23 rfl rfl) ?_
  refine WL_nil ?_
  refine W_cond_f rfl ?_
  refine W_skip ?_
  refine W_seq ?_
  refine W_region_l ?_
  refine WL_stepM rfl (R_mv) ?_
  (refine WL_call rfl (R_call rfl Try.call18 rfl) (take_some (H.get (.there (.there .here))) (H.get (.there .here))) ?_; rintro _ w77 ⟨rfl, H1⟩; replace H := H.seq H1 (okSeq_set (.there .here) okSeq_nil); clear H1)
  refine WL_stepM rfl (R_mv) ?_
  refine WL_step rfl (R_extract rfl rfl) ?_
  refine WL_step rfl (R_extract rfl rfl) ?_
  refine WL_stepM rfl (R_as) ?_
  refine WL_stepM rfl (R_as) ?_
  refine WL_nil ?_
  refine W_seq ?_
  refine W_region_l ?_
  refine WL_stepM rfl (R_mv) ?_
  refine WL_nil ?_
  refine W_cond_t rfl ?_
  refine W_seq ?_
  refine W_region_l ?_
  refine WL_stepM rfl (R_mv) ?_
  refine WL_stepM rfl (R_mv) ?_
  refine WL_stepM rfl (R_as) ?_
  refine WL_stepM rfl (R_as) ?_
  refine WL_stepM rfl (R_as) ?_
  refine WL_nil ?_
  refine W_ret ?_
  exact ⟨_, rfl, rfl, (((H.pop (by assumption)).swap2).back hp)⟩

theorem either_some_nil {x : Int} {buf : List Value} (hp : w.heap[p]? = some (blk [.chan (some b)] 90)) (hb : w.heap[b]? = some (.chan c (I x :: buf).toArray false s r false)) :
    Ret Try.prog 16 #[ptr p 0, .pointer none] w fun v w' => v = .tuple #[I x, I 0, .bool true] ∧ Hp w [(b, .chan c buf.toArray false s (r + 1) false)] w' := by
  refine Ret_of_W (args := [_, _]) Try.func16 rfl Try.ntmps16 Try.results16 (by simp) ?_
  have H := ((Hp.refl w).focus hp (by simp)).focus hb (by simpa using ne_of_obj hb hp (by simp))
  refine W_seq ?_
  refine W_region_l ?_
  refine WL_stepM rfl (R_as) ?_
  refine WL_stepM rfl (R_as) ?_
  refine WL_stepM rfl (R_as) ?_
  refine WL_nil ?_
  refine W_seq ?_
  refine W_seq ?_
  refine W_region_l ?_
  refine WL_stepM rfl (R_mv) ?_
  refine WL_stepM rfl (R_mv) ?_
  (refine WL_effn rfl (E_buildSlice (vs := [(.pointer _), (.pointer _)]) H Try.underlying91 Try.sizeOf23 Try.zeroValue23 rfl rfl (by decide) rfl rfl) ?_; clear H; intro b12 w12 hb12 H)
  refine WL_step rfl (R_len_slice Try.underlying91 rfl) ?_
  refine WL_stepM rfl (R_mv) ?_
  refine WL_nil ?_
  refine W_block ?_
  refine W_rounds 2 ?_
  refine W_seq ?_
  refine W_region_l ?_
  refine WL_step rfl (R_lt_t rfl rfl (by omega)) ?_
  refine WL_nil ?_
  refine W_seq ?_
  refine W_cond_t rfl ?_
  refine W_skip ?_
  refine W_seq ?_
  refine W_block ?_
  refine W_seq ?_
  refine W_region_l ?_
  refine WL_stepM rfl (R_mv) ?_
  refine WL_step rfl (R_indexAddr (off' := 0) Try.underlying91 Try.sizeOf23 rfl rfl (by omega) (by omega) rfl) ?_
  refine WL_step rfl (R_load Try.isAgg23 rfl (H.get .here) rfl) ?_
  refine WL_stepM rfl (R_as) ?_
  refine WL_stepM rfl (R_as) ?_
  refine WL_nil ?_
  refine W_seq ?_
  refine W_seq ?_
  refine W_region_l ?_
  refine WL_stepM rfl (R_mv) ?_
  refine WL_step rfl (R_eq_ptr_nil Try.underlying23 rfl rfl) ?_
  refine WL_nil ?_
  refine W_cond_f rfl ?_
  refine W_skip ?_
  refine W_seq ?_
  refine W_region_l ?_
  refine WL_stepM rfl (R_mv) ?_
  (refine WL_call rfl (R_call rfl Try.call18 rfl) (take_some (H.get (.there (.there .here))) (H.get (.there .here))) ?_; rintro _ w46 ⟨rfl, H1⟩; replace H := H.seq H1 (okSeq_set (.there .here) okSeq_nil); clear H1)
  refine WL_stepM rfl (R_mv) ?_
  refine WL_step rfl (R_extract rfl rfl) ?_
  refine WL_step rfl (R_extract rfl rfl) ?_
  refine WL_stepM rfl (R_as) ?_
  refine WL_stepM rfl (R_as) ?_
  refine WL_nil ?_
  refine W_seq ?_
  refine W_region_l ?_
  refine WL_stepM rfl (R_mv) ?_
  refine WL_nil ?_
  refine W_cond_t rfl ?_
  refine W_seq ?_
  refine W_region_l ?_
  refine WL_stepM rfl (R_mv) ?_
  refine WL_stepM rfl (R_mv) ?_
  refine WL_stepM rfl (R_as) ?_
  refine WL_stepM rfl (R_as) ?_
  refine WL_stepM rfl (R_as) ?_
  refine WL_nil ?_
  refine W_ret ?_
  exact ⟨_, rfl, rfl, (((H.pop (by assumption)).swap2).back hp)⟩

theorem either_none_nil (hp : w.heap[p]? = some (blk [.chan (some b)] 90)) (hb : w.heap[b]? = some (.chan c [].toArray false s r false)) :
    Ret Try.prog 16 #[ptr p 0, .pointer none] w fun v w' => v = .tuple #[I 0, I 0, .bool false] ∧ Hp w [] w' := by
  refine Ret_of_W (args := [_, _]) Try.func16 rfl Try.ntmps16 Try.results16 (by simp) ?_
  have H := ((Hp.refl w).focus hp (by simp)).focus hb (by simpa using ne_of_obj hb hp (by simp))
  refine W_seq ?_
  refine W_region_l ?_
  refine WL_stepM rfl (R_as) ?_
  refine WL_stepM rfl (R_as) ?_
  refine WL_stepM rfl (R_as) ?_
  refine WL_nil ?_
  refine W_seq ?_
  refine W_seq ?_
  refine W_region_l ?_
  refine WL_stepM rfl (R_mv) ?_
  refine WL_stepM rfl (R_mv) ?_
  (refine WL_effn rfl (E_buildSlice (vs := [(.pointer _), (.pointer _)]) H Try.underlying91 Try.sizeOf23 Try.zeroValue23 rfl rfl (by decide) rfl rfl) ?_; clear H; intro b12 w12 hb12 H)
  refine WL_step rfl (R_len_slice Try.underlying91 rfl) ?_
  refine WL_stepM rfl (R_mv) ?_
  refine WL_nil ?_
  refine W_block ?_
  refine W_rounds 3 ?_
  refine W_seq ?_
  refine W_region_l ?_
  refine WL_step rfl (R_lt_t rfl rfl (by omega)) ?_
  refine WL_nil ?_
  refine W_seq ?_
  refine W_cond_t rfl ?_
  refine W_skip ?_
  refine W_seq ?_
  refine W_block ?_
  refine W_seq ?_
  refine W_region_l ?_
  refine WL_stepM rfl (R_mv) ?_
  refine WL_step rfl (R_indexAddr (off' := 0) Try.underlying91 Try.sizeOf23 rfl rfl (by omega) (by omega) rfl) ?_
  refine WL_step rfl (R_load Try.isAgg23 rfl (H.get .here) rfl) ?_
  refine WL_stepM rfl (R_as) ?_
  refine WL_stepM rfl (R_as) ?_
  refine WL_nil ?_
  refine W_seq ?_
  refine W_seq ?_
  refine W_region_l ?_
  refine WL_stepM rfl (R_mv) ?_
  refine WL_step rfl (R_eq_ptr_nil Try.underlying23 rfl rfl) ?_
  refine WL_nil ?_
  refine W_cond_f rfl ?_
  refine W_skip ?_
  refine W_seq ?_
  refine W_region_l ?_
  refine WL_stepM rfl (R_mv) ?_
  (refine WL_call rfl (R_call rfl Try.call18 rfl) (take_none (H.get (.there (.there .here))) (H.get (.there .here))) ?_; rintro _ w46 ⟨rfl, H1⟩; replace H := H.seq0 H1; clear H1)
  refine WL_stepM rfl (R_mv) ?_
  refine WL_step rfl (R_extract rfl rfl) ?_
  refine WL_step rfl (R_extract rfl rfl) ?_
  refine WL_stepM rfl (R_as) ?_
  refine WL_stepM rfl (R_as) ?_
  refine WL_nil ?_
  refine W_seq ?_
  refine W_region_l ?_
  refine WL_stepM rfl (R_mv) ?_
  refine WL_nil ?_
  refine W_cond_f rfl ?_
  refine W_skip ?_
  refine W_region_l ?_
  refine WL_step rfl (R_add (r := 1) rfl rfl (by decide)) ?_
  refine WL_stepM rfl (R_mv) ?_
  refine WL_nil ?_
  refine Rn_succ ?_
  refine W_seq ?_
  refine W_region_l ?_
  refine WL_step rfl (R_lt_t rfl rfl (by omega)) ?_
  refine WL_nil ?_
  refine W_seq ?_
  refine W_cond_t rfl ?_
  refine W_skip ?_
  refine W_seq ?_
  refine W_block ?_
  refine W_seq ?_
  refine W_region_l ?_
  refine WL_stepM rfl (R_mv) ?_
  refine WL_step rfl (R_indexAddr (off' := 1) Try.underlying91 Try.sizeOf23 rfl rfl (by omega) (by omega) rfl) ?_
  refine WL_step rfl (R_load Try.isAgg23 rfl (H.get .here) rfl) ?_
  refine WL_stepM rfl (R_as) ?_
  refine WL_stepM rfl (R_as) ?_
  refine WL_nil ?_
  refine W_seq ?_
  refine W_seq ?_
  refine W_region_l ?_
  refine WL_stepM rfl (R_mv) ?_
  refine WL_step rfl (R_eq_nil_nil Try.underlying23 rfl rfl) ?_
  refine WL_nil ?_
  refine W_cond_t rfl ?_
  refine W_exit ?_
  refine (if_pos rfl).mpr ?_
  refine W_region_l ?_
  refine WL_step rfl (R_add (r := 2) rfl rfl (by decide)) ?_
  refine WL_stepM rfl (R_mv) ?_
  refine WL_nil ?_
  refine Rn_succ ?_
  refine W_seq ?_
  refine W_region_l ?_
  refine WL_step rfl (R_lt_f rfl rfl (by omega)) ?_
  refine WL_nil ?_
  refine W_seq ?_
  refine W_cond_f rfl ?_
  refine W_exit ?_
  refine (if_pos rfl).mpr ?_
  refine W_seq ?_
  refine W_region_l ?_
  refine WL_stepM rfl (R_as) ?_
  refine WL_stepM rfl (R_as) ?_
  refine WL_stepM rfl (R_as) ?_
  refine WL_nil ?_
  refine W_ret ?_
  exact ⟨_, rfl, rfl, (((H.pop (by assumption)).swap2).back hp).back hb⟩

theorem either_nil_nil : Ret Try.prog 16 #[.pointer none, .pointer none] w fun v w' => v = .tuple #[I 0, I 0, .bool false] ∧ Hp w [] w' := by
  refine Ret_of_W (args := [_, _]) Try.func16 rfl Try.ntmps16 Try.results16 (by simp) ?_
  have H := Hp.refl w
  refine W_seq ?_
  refine W_region_l ?_
  refine WL_stepM rfl (R_as) ?_
  refine WL_stepM rfl (R_as) ?_
  refine WL_stepM rfl (R_as) ?_
  refine WL_nil ?_
  refine W_seq ?_
  refine W_seq ?_
  refine W_region_l ?_
  refine WL_stepM rfl (R_mv) ?_
  refine WL_stepM rfl (R_mv) ?_
  (refine WL_effn rfl (E_buildSlice (vs := [(.pointer _), (.pointer _)]) H Try.underlying91 Try.sizeOf23 Try.zeroValue23 rfl rfl (by decide) rfl rfl) ?_; clear H; intro b12 w12 hb12 H)
  refine WL_step rfl (R_len_slice Try.underlying91 rfl) ?_
  refine WL_stepM rfl (R_mv) ?_
  refine WL_nil ?_
  refine W_block ?_
  refine W_rounds 3 ?_
  refine W_seq ?_
  refine W_region_l ?_
  refine WL_step rfl (R_lt_t rfl rfl (by omega)) ?_
  refine WL_nil ?_
  refine W_seq ?_
  refine W_cond_t rfl ?_
  refine W_skip ?_
  refine W_seq ?_
  refine W_block ?_
  refine W_seq ?_
  refine W_region_l ?_
  refine WL_stepM rfl (R_mv) ?_
  refine WL_step rfl (R_indexAddr (off' := 0) Try.underlying91 Try.sizeOf23 rfl rfl (by omega) (by omega) rfl) ?_
  refine WL_step rfl (R_load Try.isAgg23 rfl (H.get .here) rfl) ?_
  refine WL_stepM rfl (R_as) ?_
  refine WL_stepM rfl (R_as) ?_
  refine WL_nil ?_
  refine W_seq ?_
  refine W_seq ?_
  refine W_region_l ?_
  refine WL_stepM rfl (R_mv) ?_
  refine WL_step rfl (R_eq_nil_nil Try.underlying23 rfl rfl) ?_
  refine WL_nil ?_
  refine W_cond_t rfl ?_
  refine W_exit ?_
  refine (if_pos rfl).mpr ?_
  refine W_region_l ?_
  refine WL_step rfl (R_add (r := 1) rfl rfl (by decide)) ?_
  refine WL_stepM rfl (R_mv) ?_
  refine WL_nil ?_
  refine Rn_succ ?_
  refine W_seq ?_
  refine W_region_l ?_
  refine WL_step rfl (R_lt_t rfl rfl (by omega)) ?_
  refine WL_nil ?_
  refine W_seq ?_
  refine W_cond_t rfl ?_
  refine W_skip ?_
  refine W_seq ?_
  refine W_block ?_
  refine W_seq ?_
  refine W_region_l ?_
  refine WL_stepM rfl (R_mv) ?_
  refine WL_step rfl (R_indexAddr (off' := 1) Try.underlying91 Try.sizeOf23 rfl rfl (by omega) (by omega) rfl) ?_
  refine WL_step rfl (R_load Try.isAgg23 rfl (H.get .here) rfl) ?_
  refine WL_stepM rfl (R_as) ?_
  refine WL_stepM rfl (R_as) ?_
  refine WL_nil ?_
  refine W_seq ?_
  refine W_seq ?_
  refine W_region_l ?_
  refine WL_stepM rfl (R_mv) ?_
  refine WL_step rfl (R_eq_nil_nil Try.underlying23 rfl rfl) ?_
  refine WL_nil ?_
  refine W_cond_t rfl ?_
  refine W_exit ?_
  refine (if_pos rfl).mpr ?_
  refine W_region_l ?_
  refine WL_step rfl (R_add (r := 2) rfl rfl (by decide)) ?_
  refine WL_stepM rfl (R_mv) ?_
  refine WL_nil ?_
  refine Rn_succ ?_
  refine W_seq ?_
  refine W_region_l ?_
  refine WL_step rfl (R_lt_f rfl rfl (by omega)) ?_
  refine WL_nil ?_
  refine W_seq ?_
  refine W_cond_f rfl ?_
  refine W_exit ?_
  refine (if_pos rfl).mpr ?_
  refine W_seq ?_
  refine W_region_l ?_
  refine WL_stepM rfl (R_as) ?_
  refine WL_stepM rfl (R_as) ?_
  refine WL_stepM rfl (R_as) ?_
  refine WL_nil ?_
  refine W_ret ?_
  exact ⟨_, rfl, rfl, H.pop (by assumption)⟩

/-- All that is there, in its order. -/
theorem drain_ret {ns : List Int} (hp : w.heap[p]? = some (blk [.chan (some b)] 90)) (hb : w.heap[b]? = some (.chan c (ns.map I).toArray false s r false)) (hl : ns.length ≤ 1000) :
    Ret Try.prog 20 #[ptr p 0] w fun v w' => ∃ M r', OwnS w.heap.size 3 1 v ns.length (ns.map I) M ∧ Hp w ((b, .chan c [].toArray false s r' false) :: M) w' := by
  refine Ret_of_W (args := [_]) Try.func20 rfl Try.ntmps20 Try.results20 (by simp) ?_
  have H := ((Hp.refl w).focus hp (by simp)).focus hb (by simpa using ne_of_obj hb hp (by simp))
  have hO := OwnS.nil w.heap.size 3 1
  rcases ns with _ | ⟨x, ns⟩
  · refine W_seq ?_
    refine W_region_l ?_
    refine WL_stepM rfl (R_as) ?_
    refine WL_nil ?_
    refine W_seq ?_
    refine W_region_l ?_
    refine WL_stepM rfl (R_as) ?_
    refine WL_nil ?_
    refine W_seq ?_
    refine W_seq ?_
    refine W_region_l ?_
    refine WL_stepM rfl (R_mv) ?_
    (refine WL_call rfl (R_call rfl Try.call18 rfl) (take_none (H.get (.there .here)) (H.get .here)) ?_; rintro _ w13 ⟨rfl, H1⟩; replace H := H.seq0 H1; clear H1)
    refine WL_stepM rfl (R_mv) ?_
    refine WL_step rfl (R_extract rfl rfl) ?_
    refine WL_step rfl (R_extract rfl rfl) ?_
    refine WL_stepM rfl (R_as) ?_
    refine WL_stepM rfl (R_as) ?_
    refine WL_nil ?_
    refine W_block ?_
    refine W_rounds 1 ?_
    refine W_seq ?_
    refine W_seq ?_
    refine W_region_l ?_
    refine WL_stepM rfl (R_mv) ?_
    refine WL_nil ?_
    refine W_cond_f rfl ?_
    refine W_exit ?_
    refine (if_pos rfl).mpr ?_
    refine W_seq ?_
    refine W_region_l ?_
    refine WL_stepM rfl (R_mv) ?_
    refine WL_stepM rfl (R_as) ?_
    refine WL_nil ?_
    refine W_ret ?_
    exact ⟨_, rfl, [], _, hO, H.swap2.back hp⟩
  · refine W_seq ?_
    refine W_region_l ?_
    refine WL_stepM rfl (R_as) ?_
    refine WL_nil ?_
    refine W_seq ?_
    refine W_region_l ?_
    refine WL_stepM rfl (R_as) ?_
    refine WL_nil ?_
    refine W_seq ?_
    refine W_seq ?_
    refine W_region_l ?_
    refine WL_stepM rfl (R_mv) ?_
    (refine WL_call rfl (R_call rfl Try.call18 rfl) (take_some (H.get (.there .here)) (H.get .here)) ?_; rintro _ w13 ⟨rfl, H1⟩; replace H := H.seq H1 (okSeq_set .here okSeq_nil); clear H1)
    refine WL_stepM rfl (R_mv) ?_
    refine WL_step rfl (R_extract rfl rfl) ?_
    refine WL_step rfl (R_extract rfl rfl) ?_
    refine WL_stepM rfl (R_as) ?_
    refine WL_stepM rfl (R_as) ?_
    refine WL_nil ?_
    refine W_block ?_
    refine W_loop (fun (todo : List Int) E w' => ∃ v M r' out, out ++ todo = x :: ns ∧ E 0 = ptr p 0 ∧ E 3 = v ∧ E 4 = I (todo.headD 0) ∧ E 5 = .bool (!todo.isEmpty) ∧ OwnS w.heap.size 3 1 v out.length (out.map I) M ∧ Hp w ((b, .chan c (todo.tail.map I).toArray false s r' false) :: (p, blk [.chan (some b)] 90) :: M) w') List.length (x :: ns) ?_ ?_
    · exact ⟨nilS, _, _, [], rfl, rfl, rfl, rfl, rfl, hO, H⟩
    · (clear H hO; rintro todo E w1 ⟨v, M, r1, out, ho, h0, h3, h4, h5, hO, H⟩; refine W_know4 h0 h3 h4 h5 ?_; rcases todo with _ | ⟨z, _ | ⟨z2, rest2⟩⟩)
      · refine W_seq ?_
        refine W_seq ?_
        refine W_region_l ?_
        refine WL_stepM rfl (R_mv) ?_
        refine WL_nil ?_
        refine W_cond_f rfl ?_
        refine W_exit ?_
        refine (if_pos rfl).mpr ?_
        refine W_seq ?_
        refine W_region_l ?_
        refine WL_stepM rfl (R_mv) ?_
        refine WL_stepM rfl (R_as) ?_
        refine WL_nil ?_
        refine W_ret ?_
        (rw [List.append_nil] at ho; subst ho; exact ⟨_, rfl, _, _, hO, H.swap2.back hp⟩)
      · refine W_seq ?_
        refine W_seq ?_
        refine W_region_l ?_
        refine WL_stepM rfl (R_mv) ?_
        refine WL_nil ?_
        refine W_cond_t rfl ?_
        refine W_skip ?_
        refine W_seq ?_
        refine W_block ?_
        refine W_region_l ?_
        refine WL_stepM rfl (R_mv) ?_
        refine WL_stepM rfl (R_mv) ?_
        (refine WL_effn rfl (E_buildSlice (vs := [(.int _ _)]) H Try.underlying22 Try.sizeOf3 Try.zeroValue3 rfl rfl (by decide) rfl rfl) ?_; clear H; intro b51 w51 hb51 H)
        (refine WL_effm rfl (E_append H (.there (.there (.there .last))) hO Try.underlying22 Try.typeInfo3 rfl rfl rfl rfl rfl rfl (src_one Try.underlying22 (H.get .here) rfl) (by have := congrArg List.length ho; simp at this hl; omega) (by have := congrArg List.length ho; simp at this hl; simp [Try.t3]; omega)) ?_; clear H hO; intro vN MN w52 hO H; replace H := H.pop (by assumption))
        refine WL_stepM rfl (R_as) ?_
        refine WL_nil ?_
        refine W_region_l ?_
        refine WL_stepM rfl (R_mv) ?_
        (refine WL_call rfl (R_call rfl Try.call18 rfl) (take_none (H.get (.there .here)) (H.get .here)) ?_; rintro _ w57 ⟨rfl, H1⟩; replace H := H.seq0 H1; clear H1)
        refine WL_stepM rfl (R_mv) ?_
        refine WL_step rfl (R_extract rfl rfl) ?_
        refine WL_step rfl (R_extract rfl rfl) ?_
        refine WL_stepM rfl (R_as) ?_
        refine WL_stepM rfl (R_as) ?_
        refine WL_nil ?_
        exact ⟨[], by simp, vN, _, _, out ++ [z], by simpa using ho, rfl, rfl, rfl, rfl, by simpa using hO, H⟩
      · refine W_seq ?_
        refine W_seq ?_
        refine W_region_l ?_
        refine WL_stepM rfl (R_mv) ?_
        refine WL_nil ?_
        refine W_cond_t rfl ?_
        refine W_skip ?_
        refine W_seq ?_
        refine W_block ?_
        refine W_region_l ?_
        refine WL_stepM rfl (R_mv) ?_
        refine WL_stepM rfl (R_mv) ?_
        (refine WL_effn rfl (E_buildSlice (vs := [(.int _ _)]) H Try.underlying22 Try.sizeOf3 Try.zeroValue3 rfl rfl (by decide) rfl rfl) ?_; clear H; intro b77 w77 hb77 H)
        (refine WL_effm rfl (E_append H (.there (.there (.there .last))) hO Try.underlying22 Try.typeInfo3 rfl rfl rfl rfl rfl rfl (src_one Try.underlying22 (H.get .here) rfl) (by have := congrArg List.length ho; simp at this hl; omega) (by have := congrArg List.length ho; simp at this hl; simp [Try.t3]; omega)) ?_; clear H hO; intro vN MN w78 hO H; replace H := H.pop (by assumption))
        refine WL_stepM rfl (R_as) ?_
        refine WL_nil ?_
        refine W_region_l ?_
        refine WL_stepM rfl (R_mv) ?_
        (refine WL_call rfl (R_call rfl Try.call18 rfl) (take_some (H.get (.there .here)) (H.get .here)) ?_; rintro _ w83 ⟨rfl, H1⟩; replace H := H.seq H1 (okSeq_set .here okSeq_nil); clear H1)
        refine WL_stepM rfl (R_mv) ?_
        refine WL_step rfl (R_extract rfl rfl) ?_
        refine WL_step rfl (R_extract rfl rfl) ?_
        refine WL_stepM rfl (R_as) ?_
        refine WL_stepM rfl (R_as) ?_
        refine WL_nil ?_
        exact ⟨z2 :: rest2, by simp, vN, _, _, out ++ [z], by simpa using ho, rfl, rfl, rfl, rfl, by simpa using hO, H⟩
end
end Go.Proofs.Ytjfcnmbalojehaa.Bell
