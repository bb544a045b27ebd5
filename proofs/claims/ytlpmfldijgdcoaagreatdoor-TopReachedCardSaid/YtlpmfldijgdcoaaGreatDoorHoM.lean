/-
  Processes' calls: who one is; a call that asks for the parent.
-/
import Derived.Test.YtlpmfldijgdcoaaGreatDoorCmM
import Derived.Test.YtlpmfldijgdcoaaGreatDoorKnM
import Derived.Test.YtlpmfldijgdcoaaGreatDoorFxR
namespace Go.Proofs.YtlpmfldijgdcoaaGreatDoor.Ho
open Go Go.Proofs Go.Proofs.YtlpmfldijgdcoaaGreatDoor.Fx Go.Proofs.YtlpmfldijgdcoaaGreatDoor.Kn Go.Proofs.YtlpmfldijgdcoaaGreatDoor.Cm
set_option maxRecDepth 100000
set_option linter.unusedVariables false
set_option linter.unusedSimpArgs false
set_option maxHeartbeats 8000000

section
variable {w : World} {c : Nat} {C : Cs} {i : Nat} {p : Slot.Pi}
theorem snd_nb (hs : Snd C) (r : Int × Int) : r ∉ C.bad := by rw [hs.nb]; simp
theorem Proc_to (hM : CmI w c C) (hs : Snd C) (hi : i < 8) (hp : C.pD i = (p, 1)) :
    Ret Tryz.prog 64 #[ptr c 0, I i] w fun v w' => v = .tuple #[Slot.vP p, I 1] ∧ Hp w [] w' := by
  have h := Proc_ret hM hi (snd_nb hs _) (hs.p i hi)
  rw [hp] at h
  exact h
theorem Self_ret (hM : CmI w c C) (hs : Snd C) (hi : i < 8) (hp : C.pD i = (p, 1)) (h1 : p.s = 1) :
    Ret Tryz.prog 184 #[ptr c 0, I i] w fun v w' => v = .tuple #[Slot.vP p, I 0] ∧ Hp w [] w' := by
  refine Ret_of_WC (args := [_, _]) Tryz.func184 rfl Tryz.ntmps184 Tryz.results184 (by simp) ?_
  have H := Hp.refl w
  refine W_seq ?_
  refine W_region_l ?_
  (refine WL_effn rfl (Slot.E_allocP H) ?_; clear H; intro c4 w3 hc4 H)
  refine WL_stepM rfl (R_as) ?_
  refine WL_nil ?_
  refine W_seq ?_
  refine W_region_l ?_
  refine WL_stepM rfl (R_mv) ?_
  (refine WL_call rfl (R_call rfl Tryz.call63 rfl) (Look_ret (hM.keepN H kYs) hs) ?_; rintro _ w9 ⟨rfl, H1⟩; replace H := H.seq0 H1; clear H1)
  refine WL_nil ?_
  refine W_seq ?_
  refine W_region_l ?_
  refine WL_stepM rfl (R_mv) ?_
  refine WL_stepM rfl (R_mv) ?_
  (refine WL_call rfl (R_call rfl Tryz.call64 rfl) (Proc_to (hM.keepN H kYs) hs hi hp) ?_; rintro _ w15 ⟨rfl, H1⟩; replace H := H.seq0 H1; clear H1)
  refine WL_stepM rfl (R_mv) ?_
  refine WL_step rfl (R_extract rfl rfl) ?_
  refine WL_step rfl (R_extract rfl rfl) ?_
  (refine WL_effn rfl (Slot.E_allocP H) ?_; clear H; intro c6 w19 hc6 H)
  (refine WL_effu rfl (Slot.E_storeP H rfl rfl .here) ?_; clear H; intro w20 H)
  refine WL_stepM rfl (R_as) ?_
  refine WL_nil ?_
  refine W_seq ?_
  refine W_seq ?_
  refine W_region_l ?_
  refine WL_stepM rfl (R_mv) ?_
  refine WL_step rfl (R_ne_f rfl rfl (by omega)) ?_
  refine WL_stepM rfl (R_mv) ?_
  refine WL_guard_t rfl rfl ?_
  refine WL_step rfl (R_fieldAddr (off' := 0) Tryz.underlying58 rfl Tryz.sizeOf3 (by decide) rfl rfl) ?_
  refine WL_guard_t rfl rfl ?_
  refine WL_step rfl (R_load (v := I 1) Tryz.isAgg3 rfl (H.get .here) (by rw [← h1]; rfl)) ?_
  refine WL_guard_t rfl rfl ?_
  refine WL_step rfl (R_ne_f rfl rfl (by omega)) ?_
  refine WL_stepM rfl (R_pk_f rfl) ?_
  refine WL_nil ?_
  refine W_cond_f rfl ?_
  refine W_skip ?_
  refine W_seq ?_
  refine W_region_l ?_
  refine WL_step rfl (Slot.R_loadP rfl (H.get .here)) ?_
  (refine WL_effu rfl (Slot.E_storeP H rfl rfl (.there .here)) ?_; clear H; intro w42 H)
  refine WL_stepM rfl (R_as) ?_
  refine WL_nil ?_
  refine W_ret ?_
  exact ⟨_, ⟨_, _, rfl, Slot.ldP (H.get (.there .here)), rfl⟩, rfl, H.none kYs⟩

/-- what a call tells -/
def rtC (n e : Int) (b : Value) (bl : Bool) : List Value := [I n, I e, b, .bool bl]
theorem own_parent (hM : CmI w c C) (hs : Snd C) (hi : i < 8) (hp : C.pD i = (p, 1)) (h1 : p.s = 1) (h2 : 0 ≤ p.p ∧ p.p ≤ 8) {a b : Int} {da : Option Addr} {dl dc : Nat} :
    Ret Tryz.prog 176 #[ptr c 0, I i, .agg #[I 17, I a, I b, .slice da dl dc]] w fun v w' => v = .agg (rtC (p.p - 1) 0 nilS false).toArray ∧ Hp w [] w' := by
  refine Ret_of_WC (args := [_, _, _]) Tryz.func176 rfl Tryz.ntmps176 Tryz.results176 (by simp) ?_
  have H := Hp.refl w
  refine W_seq ?_
  refine W_region_l ?_
  (refine WL_effn rfl (E_box (vs := [I 17, I a, I b, .slice da dl dc]) H rfl rfl) ?_; clear H; intro c5 w3 hc5 H)
  (refine WL_effn rfl (E_alloc (vs := rtC 0 0 nilS false) H Tryz.zeroValue227 rfl) ?_; clear H; intro c6 w4 hc6 H)
  refine WL_nil ?_
  refine W_seq ?_
  refine W_region_l ?_
  refine WL_stepM rfl (R_mv) ?_
  refine WL_stepM rfl (R_mv) ?_
  (refine WL_call rfl (R_call rfl Tryz.call184 rfl) (Self_ret (hM.keepN H kYs) hs hi hp h1) ?_; rintro _ w10 ⟨rfl, H1⟩; replace H := H.seq0 H1; clear H1)
  refine WL_stepM rfl (R_mv) ?_
  refine WL_step rfl (R_extract rfl rfl) ?_
  refine WL_step rfl (R_extract rfl rfl) ?_
  (refine WL_effn rfl (Slot.E_allocP H) ?_; clear H; intro c7 w14 hc7 H)
  (refine WL_effu rfl (Slot.E_storeP H rfl rfl .here) ?_; clear H; intro w15 H)
  refine WL_stepM rfl (R_as) ?_
  refine WL_nil ?_
  refine W_seq ?_
  refine W_region_l ?_
  refine WL_stepM rfl (R_as) ?_
  refine WL_nil ?_
  refine W_seq ?_
  refine W_block ?_
  refine W_seq ?_
  refine W_region_l ?_
  refine WL_stepM rfl (R_mv) ?_
  refine WL_step rfl (R_ne_f rfl rfl (by omega)) ?_
  refine WL_stepM rfl (R_as) ?_
  refine WL_nil ?_
  refine W_cond_f rfl ?_
  refine W_seq ?_
  refine W_region_l ?_
  refine WL_step rfl (R_fieldAddr (off' := 0) Tryz.underlying38 rfl Tryz.sizeOf3 (by decide) rfl rfl) ?_
  refine WL_step rfl (R_load Tryz.isAgg3 rfl (H.get (.there (.there .here))) rfl) ?_
  refine WL_step rfl (R_eq_f rfl rfl (by omega)) ?_
  refine WL_stepM rfl (R_as) ?_
  refine WL_nil ?_
  refine W_cond_f rfl ?_
  refine W_seq ?_
  refine W_region_l ?_
  refine WL_step rfl (R_fieldAddr (off' := 0) Tryz.underlying38 rfl Tryz.sizeOf3 (by decide) rfl rfl) ?_
  refine WL_step rfl (R_load Tryz.isAgg3 rfl (H.get (.there (.there .here))) rfl) ?_
  refine WL_step rfl (R_eq_t rfl rfl (by omega)) ?_
  refine WL_stepM rfl (R_as) ?_
  refine WL_nil ?_
  refine W_cond_t rfl ?_
  refine W_seq ?_
  ((have ms : True := trivial)) <;> refine W_region_l ?_
  refine WL_step rfl (R_fieldAddr (off' := 1) Tryz.underlying58 rfl Tryz.sizeOf3 (by decide) rfl rfl) ?_
  refine WL_step rfl (R_load (v := I p.p) Tryz.isAgg3 rfl (H.get .here) rfl) ?_
  refine WL_step rfl (R_sub rfl rfl (w_i64 (by omega))) ?_
  refine WL_step rfl (R_buildL (places := [(0, 1), (1, 1), (2, 1), (3, 1)]) (vs := rtC (p.p - 1) 0 nilS false) Tryz.underlying227 Tryz.typeInfo227 rfl rfl (by kernel_rfl) rfl rfl rfl) ?_
  (have _g := ms; refine WL_effu rfl (E_storeA (vs := rtC (p.p - 1) 0 nilS false) H Tryz.sizeOf227 rfl rfl (by simp [rtC, Value.oneCell']) (.there .here) (by simp [rtC])) ?_; clear H; intro w53 H; replace H : Hp w [(c7, blk (Slot.piC p) 58), (c6, blk (rtC (p.p - 1) 0 nilS false) 227), (c5, blk [I 17, I a, I b, .slice da dl dc] 38)] w53 := H)
  refine WL_nil ?_
  refine W_ret ?_
  exact ⟨_, ⟨_, rfl, ldA Tryz.isAgg227 Tryz.sizeOf227 (H.get (.there .here)) rfl (by simp [rtC])⟩, rfl, H.none kYs⟩
theorem files_none {a b : Int} {da : Option Addr} {dl dc : Nat} (cv : Value) (i : Int) (w : World) :
    Ret Tryz.prog 171 #[cv, I i, .agg #[I 17, I a, I b, .slice da dl dc]] w fun v w' => v = .tuple #[.agg (rtC 0 0 nilS false).toArray, .bool false] ∧ Hp w [] w' := by
  refine Ret_of_WC (args := [_, _, _]) Tryz.func171 rfl Tryz.ntmps171 Tryz.results171 (by simp) ?_
  have H := Hp.refl w
  refine W_seq ?_
  refine W_region_l ?_
  (refine WL_effn rfl (E_box (vs := [I 17, I a, I b, .slice da dl dc]) H rfl rfl) ?_; clear H; intro c5 w3 hc5 H)
  (refine WL_effn rfl (E_alloc (vs := rtC 0 0 nilS false) H Tryz.zeroValue227 rfl) ?_; clear H; intro c6 w4 hc6 H)
  refine WL_stepM rfl (R_as) ?_
  refine WL_nil ?_
  refine W_seq ?_
  refine W_seq ?_
  refine W_region_l ?_
  refine WL_step rfl (R_fieldAddr (off' := 0) Tryz.underlying38 rfl Tryz.sizeOf3 (by decide) rfl rfl) ?_
  refine WL_step rfl (R_load Tryz.isAgg3 rfl (H.get (.there .here)) rfl) ?_
  refine WL_nil ?_
  refine W_block ?_
  refine W_seq ?_
  refine W_region_l ?_
  refine WL_step rfl (R_eq_f rfl rfl (by omega)) ?_
  refine WL_stepM rfl (R_as) ?_
  refine WL_nil ?_
  refine W_cond_f rfl ?_
  refine W_seq ?_
  refine W_region_l ?_
  refine WL_step rfl (R_eq_f rfl rfl (by omega)) ?_
  refine WL_stepM rfl (R_as) ?_
  refine WL_nil ?_
  refine W_cond_f rfl ?_
  refine W_seq ?_
  refine W_region_l ?_
  refine WL_step rfl (R_eq_f rfl rfl (by omega)) ?_
  refine WL_stepM rfl (R_as) ?_
  refine WL_nil ?_
  refine W_cond_f rfl ?_
  refine W_seq ?_
  refine W_region_l ?_
  refine WL_step rfl (R_eq_f rfl rfl (by omega)) ?_
  refine WL_stepM rfl (R_as) ?_
  refine WL_nil ?_
  refine W_cond_f rfl ?_
  refine W_seq ?_
  refine W_region_l ?_
  refine WL_step rfl (R_eq_f rfl rfl (by omega)) ?_
  refine WL_stepM rfl (R_as) ?_
  refine WL_nil ?_
  refine W_cond_f rfl ?_
  refine W_seq ?_
  refine W_region_l ?_
  refine WL_step rfl (R_eq_f rfl rfl (by omega)) ?_
  refine WL_stepM rfl (R_as) ?_
  refine WL_nil ?_
  refine W_cond_f rfl ?_
  refine W_seq ?_
  refine W_region_l ?_
  refine WL_step rfl (R_eq_f rfl rfl (by omega)) ?_
  refine WL_stepM rfl (R_as) ?_
  refine WL_nil ?_
  refine W_cond_f rfl ?_
  refine W_seq ?_
  refine W_region_l ?_
  refine WL_step rfl (R_eq_f rfl rfl (by omega)) ?_
  refine WL_stepM rfl (R_as) ?_
  refine WL_nil ?_
  refine W_cond_f rfl ?_
  refine W_skip ?_
  refine W_seq ?_
  refine W_region_l ?_
  refine WL_step rfl (R_buildL (places := [(0, 1), (1, 1), (2, 1), (3, 1)]) (vs := rtC 0 0 nilS false) Tryz.underlying227 Tryz.typeInfo227 rfl rfl (by kernel_rfl) rfl rfl rfl) ?_
  (refine WL_effu rfl (E_storeA (vs := rtC 0 0 nilS false) H Tryz.sizeOf227 rfl rfl (by simp [rtC, Value.oneCell']) .here (by simp [rtC])) ?_; clear H; intro w66 H; replace H : Hp w [(c6, blk (rtC 0 0 nilS false) 227), (c5, blk [I 17, I a, I b, .slice da dl dc] 38)] w66 := H)
  refine WL_stepM rfl (R_as) ?_
  refine WL_nil ?_
  refine W_ret ?_
  exact ⟨_, ⟨_, _, rfl, ldA Tryz.isAgg227 Tryz.sizeOf227 (H.get .here) rfl (by simp [rtC]), rfl⟩, rfl, H.none kYs⟩
theorem Do_parent (hM : CmI w c C) (hs : Snd C) (hi : i < 8) (hp : C.pD i = (p, 1)) (h1 : p.s = 1) (h2 : 0 ≤ p.p ∧ p.p ≤ 8) {a b : Int} {da : Option Addr} {dl dc : Nat} :
    Ret Tryz.prog 133 #[ptr c 0, I i, .agg #[I 17, I a, I b, .slice da dl dc]] w fun v w' => v = .agg (rtC (p.p - 1) 0 nilS false).toArray ∧ Hp w [] w' := by
  refine Ret_of_WC (args := [_, _, _]) Tryz.func133 rfl Tryz.ntmps133 Tryz.results133 (by simp) ?_
  have H := Hp.refl w
  refine W_seq ?_
  refine W_region_l ?_
  (refine WL_effn rfl (E_box (vs := [I 17, I a, I b, .slice da dl dc]) H rfl rfl) ?_; clear H; intro c5 w3 hc5 H)
  (refine WL_effn rfl (E_alloc (vs := rtC 0 0 nilS false) H Tryz.zeroValue227 rfl) ?_; clear H; intro c6 w4 hc6 H)
  refine WL_nil ?_
  refine W_seq ?_
  refine W_region_l ?_
  refine WL_stepM rfl (R_mv) ?_
  (refine WL_call rfl (R_call rfl Tryz.call63 rfl) (Look_ret (hM.keepN H kYs) hs) ?_; rintro _ w9 ⟨rfl, H1⟩; replace H := H.seq0 H1; clear H1)
  refine WL_nil ?_
  refine W_seq ?_
  refine W_seq ?_
  refine W_region_l ?_
  refine WL_stepM rfl (R_mv) ?_
  refine WL_stepM rfl (R_mv) ?_
  refine WL_step rfl (R_loadA (vs := [I 17, I a, I b, .slice da dl dc]) Tryz.isAgg38 Tryz.sizeOf38 rfl (H.get (.there .here)) rfl (by simp)) ?_
  (refine WL_call rfl (R_call rfl Tryz.call171 rfl) (files_none _ _ _) ?_; rintro _ w17 ⟨rfl, H1⟩; replace H := H.seq0 H1; clear H1)
  refine WL_stepM rfl (R_mv) ?_
  refine WL_step rfl (R_extract rfl rfl) ?_
  refine WL_step rfl (R_extract rfl rfl) ?_
  (refine WL_effn rfl (E_alloc (vs := rtC 0 0 nilS false) H Tryz.zeroValue227 rfl) ?_; clear H; intro c7 w21 hc7 H)
  (refine WL_effu rfl (E_storeA (vs := rtC 0 0 nilS false) H Tryz.sizeOf227 rfl rfl (by simp [rtC, Value.oneCell']) .here (by simp [rtC])) ?_; clear H; intro w22 H; replace H : Hp w [(c7, blk (rtC 0 0 nilS false) 227), (c6, blk (rtC 0 0 nilS false) 227), (c5, blk [I 17, I a, I b, .slice da dl dc] 38)] w22 := H)
  refine WL_stepM rfl (R_as) ?_
  refine WL_nil ?_
  refine W_seq ?_
  refine W_region_l ?_
  refine WL_stepM rfl (R_mv) ?_
  refine WL_nil ?_
  refine W_cond_f rfl ?_
  refine W_skip ?_
  refine W_seq ?_
  refine W_seq ?_
  refine W_region_l ?_
  refine WL_step rfl (R_fieldAddr (off' := 0) Tryz.underlying38 rfl Tryz.sizeOf3 (by decide) rfl rfl) ?_
  refine WL_step rfl (R_load Tryz.isAgg3 rfl (H.get (.there (.there .here))) rfl) ?_
  refine WL_nil ?_
  refine W_block ?_
  refine W_seq ?_
  refine W_region_l ?_
  refine WL_step rfl (R_eq_f rfl rfl (by omega)) ?_
  refine WL_stepM rfl (R_as) ?_
  refine WL_nil ?_
  refine W_cond_f rfl ?_
  refine W_seq ?_
  refine W_region_l ?_
  refine WL_step rfl (R_eq_f rfl rfl (by omega)) ?_
  refine WL_stepM rfl (R_as) ?_
  refine WL_nil ?_
  refine W_cond_f rfl ?_
  refine W_seq ?_
  refine W_region_l ?_
  refine WL_step rfl (R_eq_f rfl rfl (by omega)) ?_
  refine WL_stepM rfl (R_as) ?_
  refine WL_nil ?_
  refine W_cond_f rfl ?_
  refine W_seq ?_
  refine W_region_l ?_
  refine WL_step rfl (R_eq_f rfl rfl (by omega)) ?_
  refine WL_stepM rfl (R_as) ?_
  refine WL_nil ?_
  refine W_cond_f rfl ?_
  refine W_seq ?_
  refine W_region_l ?_
  refine WL_step rfl (R_eq_f rfl rfl (by omega)) ?_
  refine WL_stepM rfl (R_as) ?_
  refine WL_nil ?_
  refine W_cond_f rfl ?_
  refine W_seq ?_
  refine W_seq ?_
  refine W_region_l ?_
  refine WL_step rfl (R_eq_f rfl rfl (by omega)) ?_
  refine WL_stepM rfl (R_as) ?_
  refine WL_nil ?_
  refine W_cond_f rfl ?_
  refine W_seq ?_
  refine W_region_l ?_
  refine WL_step rfl (R_eq_t rfl rfl (by omega)) ?_
  refine WL_stepM rfl (R_as) ?_
  refine WL_nil ?_
  refine W_cond_t rfl ?_
  refine W_skip ?_
  refine W_cond_t rfl ?_
  refine W_seq ?_
  ((have ms : True := trivial)) <;> refine W_region_l ?_
  refine WL_stepM rfl (R_mv) ?_
  refine WL_stepM rfl (R_mv) ?_
  refine WL_step rfl (R_loadA (vs := [I 17, I a, I b, .slice da dl dc]) Tryz.isAgg38 Tryz.sizeOf38 rfl (H.get (.there (.there .here))) rfl (by simp)) ?_
  (refine WL_call rfl (R_call rfl Tryz.call176 rfl) (own_parent (hM.keepN H kYs) hs hi hp h1 h2) ?_; rintro _ w88 ⟨rfl, H1⟩; replace H := H.seq0 H1; clear H1)
  (have _g := ms; refine WL_effu rfl (E_storeA (vs := rtC (p.p - 1) 0 nilS false) H Tryz.sizeOf227 rfl rfl (by simp [rtC, Value.oneCell']) (.there .here) (by simp [rtC])) ?_; clear H; intro w89 H; replace H : Hp w [(c7, blk (rtC 0 0 nilS false) 227), (c6, blk (rtC (p.p - 1) 0 nilS false) 227), (c5, blk [I 17, I a, I b, .slice da dl dc] 38)] w89 := H)
  refine WL_nil ?_
  refine W_ret ?_
  exact ⟨_, ⟨_, rfl, ldA Tryz.isAgg227 Tryz.sizeOf227 (H.get (.there .here)) rfl (by simp [rtC])⟩, rfl, H.none kYs⟩
end
end Go.Proofs.YtlpmfldijgdcoaaGreatDoor.Ho

/-
  Hosts: the section is asked for, and left; what a call returned; signals that nobody sent.
-/
namespace Go.Proofs.YtlpmfldijgdcoaaGreatDoor.Ho
open Go Go.Proofs Go.Proofs.YtlpmfldijgdcoaaGreatDoor.Fx Go.Proofs.YtlpmfldijgdcoaaGreatDoor.Kn Go.Proofs.YtlpmfldijgdcoaaGreatDoor.Cm Go.Proofs.YtlpmfldijgdcoaaGreatDoor.Sect
set_option maxRecDepth 100000
set_option linter.unusedVariables false
set_option linter.unusedSimpArgs false
set_option maxHeartbeats 8000000

theorem hp_rot {w0 w : World} {M : List (Nat × Obj)} {p q : Nat × Obj} (H : Hp w0 (M ++ p :: [q]) w) : Hp w0 (q :: (M ++ [p])) w := by
  rw [List.append_cons] at H
  exact H.perm List.perm_append_comm
/-- the first process, as it begins -/
def p0 : Slot.Pi := ⟨1, 0, 0, 0, 0, 0, 0, 0, [1, 0, 0, 0, 0, 0, 0, 0], rfl⟩
theorem next0 (w : World) : Ret Tryz.prog 178 #[Slot.vP p0] w fun v w' => v = .tuple #[I 0, I 0] ∧ Hp w [] w' := by
  refine Ret_of_W (args := [_]) Tryz.func178 rfl Tryz.ntmps178 Tryz.results178 (by simp) ?_
  have H := Hp.refl w
  refine W_seq ?_
  refine W_region_l ?_
  (refine WL_effn rfl (Slot.E_boxP H rfl) ?_; clear H; intro c1 w3 hc1 H)
  refine WL_stepM rfl (R_as) ?_
  refine WL_stepM rfl (R_as) ?_
  refine WL_nil ?_
  refine W_seq ?_
  refine W_region_l ?_
  refine WL_step rfl (R_fieldAddr (off' := 4) Tryz.underlying58 rfl Tryz.sizeOf3 (by decide) rfl rfl) ?_
  refine WL_step rfl (R_load (v := I 0) Tryz.isAgg3 rfl (H.get .here) rfl) ?_
  refine WL_step rfl (R_fieldAddr (off' := 5) Tryz.underlying58 rfl Tryz.sizeOf3 (by decide) rfl rfl) ?_
  refine WL_step rfl (R_load (v := I 0) Tryz.isAgg3 rfl (H.get .here) rfl) ?_
  refine WL_step rfl (R_bits (r := 0) rfl rfl (by simp) (by decide)) ?_
  refine WL_step rfl (R_bits (r := 0) rfl rfl (by simp) (by decide)) ?_
  refine WL_stepM rfl (R_as) ?_
  refine WL_nil ?_
  refine W_seq ?_
  refine W_block ?_
  refine W_seq ?_
  refine W_region_l ?_
  refine WL_step rfl (R_fieldAddr (off' := 0) Tryz.underlying58 rfl Tryz.sizeOf3 (by decide) rfl rfl) ?_
  refine WL_step rfl (R_load (v := I 1) Tryz.isAgg3 rfl (H.get .here) rfl) ?_
  refine WL_step rfl (R_ne_f rfl rfl (by omega)) ?_
  refine WL_stepM rfl (R_mv) ?_
  refine WL_guard_t rfl rfl ?_
  refine WL_stepM rfl (R_mv) ?_
  refine WL_guard_t rfl rfl ?_
  refine WL_step rfl (R_eq_t rfl rfl (by omega)) ?_
  refine WL_stepM rfl (R_pk_f rfl) ?_
  refine WL_stepM rfl (R_as) ?_
  refine WL_nil ?_
  refine W_cond_t rfl ?_
  refine W_seq ?_
  refine W_region_l ?_
  refine WL_stepM rfl (R_as) ?_
  refine WL_stepM rfl (R_as) ?_
  refine WL_nil ?_
  refine W_ret ?_
  exact ⟨_, rfl, rfl, H.none kYs⟩
theorem deliver0 (w : World) : Ret Tryz.prog 139 #[Slot.vP p0] w fun v w' => v = .tuple #[Slot.vP p0, nilS, I 0] ∧ Hp w [] w' := by
  refine Ret_of_WG (args := [_]) Tryz.func139 rfl Tryz.ntmps139 Tryz.results139 (by simp) ?_
  have H := Hp.refl w
  refine W_seq ?_
  refine W_region_l ?_
  (refine WL_effn rfl (Slot.E_boxP H rfl) ?_; clear H; intro c1 w3 hc1 H)
  (refine WL_effn rfl (Slot.E_allocP H) ?_; clear H; intro c2 w4 hc2 H)
  refine WL_stepM rfl (R_as) ?_
  refine WL_stepM rfl (R_as) ?_
  refine WL_nil ?_
  refine W_block ?_
  refine W_rounds 1 ?_
  refine W_block ?_
  refine W_seq ?_
  refine W_region_l ?_
  refine WL_step rfl (Slot.R_loadP (p := p0) rfl (H.get (.there .here))) ?_
  (refine WL_call rfl (R_call rfl Tryz.call178 rfl) (next0 _) ?_; rintro _ w14 ⟨rfl, H1⟩; replace H := H.seq0 H1; clear H1)
  refine WL_stepM rfl (R_mv) ?_
  refine WL_step rfl (R_extract rfl rfl) ?_
  refine WL_step rfl (R_extract rfl rfl) ?_
  refine WL_stepM rfl (R_as) ?_
  refine WL_stepM rfl (R_as) ?_
  refine WL_nil ?_
  refine W_seq ?_
  refine W_seq ?_
  refine W_region_l ?_
  refine WL_stepM rfl (R_mv) ?_
  refine WL_step rfl (R_eq_t rfl rfl (by omega)) ?_
  refine WL_nil ?_
  refine W_cond_t rfl ?_
  refine W_seq ?_
  refine W_region_l ?_
  refine WL_step rfl (Slot.R_loadP (p := p0) rfl (H.get (.there .here))) ?_
  refine WL_stepM rfl (R_mv) ?_
  (refine WL_effu rfl (Slot.E_storeP H rfl rfl .here) ?_; clear H; intro w32 H)
  refine WL_stepM rfl (R_as) ?_
  refine WL_stepM rfl (R_as) ?_
  refine WL_nil ?_
  refine W_ret ?_
  exact ⟨[Slot.vP p0, nilS, I 0], .cell rfl (Slot.ldP (H.get .here)) (.tmp rfl (.tmp rfl .nil)), by simp, rfl, H.none kYs⟩

section
variable {w : World} {κ : KS} {h e n sp c : Nat} {S : Sx} {qv : Value} {sl : Int} {ph st op a b : Int} {da : Option Addr} {dl dc : Nat}
theorem holds0 (hsp : w.heap[sp]? = some (blk (sxC S qv) 170)) (who stamp : Int) :
    Ret Tryz.prog 132 #[ptr sp 0, I who, I stamp] w fun v w' => v = .bool (decide (S.held = true ∧ S.who = who ∧ S.stamp = stamp)) ∧ Hp w [] w' :=
  (Sect.holds_ret (w0 := w) (Mq := []) (R := []) who stamp (Hp.focus0 hsp)).mono fun v w' ⟨h1, h2⟩ => ⟨h1, h2.back hsp⟩

theorem leave_ret (hh : w.heap[h]? = some (blk [ptr κ.k 0, I e, I sl, I n, ptr c 0, I ph, I st, I op, I a, I b, .slice da dl dc] 139)) (hs : Ks w κ e n sp) (hsp : w.heap[sp]? = some (blk (sxC S qv) 170)) (ph2 : Int) :
    Ret Tryz.prog 96 #[ptr h 0, I ph2] w fun v w' => v = .tuple #[] ∧ Hp w [(h, blk [ptr κ.k 0, I e, I sl, I n, ptr c 0, I ph2, I st, I op, I a, I b, .slice da dl dc] 139), (sp, blk (sxC (leaveSx S e st) qv) 170)] w' := by
  refine Ret_of_W (args := [_, _]) Tryz.func96 rfl Tryz.ntmps96 Tryz.results96 (by simp) ?_
  have hhs : h ≠ sp := ne_of_obj hh hsp (by simp)
  have H := (Hp.focus0 hsp).focus hh (by simpa using hhs)
  refine W_seq ?_
  (refine W_draw (fun w2 => w2.heap[h]? = some (blk [ptr κ.k 0, I e, I sl, I n, ptr c 0, I ph, I st, I op, I a, I b, .slice da dl dc] 139)) (fun _ => false) (by kernel_rfl) H ?_; clear H; intro w2 H)
  refine WA_takeM 0 rfl rfl rfl (by kernel_rfl) (by kernel_rfl) (H.get .here) (fun _ hC => R_mv) ?_
  refine WA_take 1 rfl rfl rfl (by kernel_rfl) (by kernel_rfl) (H.get .here) (fun _ hC => R_nilCheck rfl) ?_
  refine WA_take 2 rfl rfl rfl (by kernel_rfl) (by kernel_rfl) (H.get .here) (fun _ hC => R_fieldAddr (off' := 0) Tryz.underlying139 rfl Tryz.sizeOf71 (by decide) rfl rfl) ?_
  refine WA_take 3 rfl rfl rfl (by kernel_rfl) (by kernel_rfl) (H.get .here) (fun _ hC => R_load (v := ptr κ.k 0) Tryz.isAgg71 rfl hC rfl) ?_
  refine WA_takeM 4 rfl rfl rfl (by kernel_rfl) (by kernel_rfl) (H.get .here) (fun _ hC => R_mv) ?_
  refine WA_take 5 rfl rfl rfl (by kernel_rfl) (by kernel_rfl) (H.get .here) (fun _ hC => R_nilCheck rfl) ?_
  refine WA_take 6 rfl rfl rfl (by kernel_rfl) (by kernel_rfl) (H.get .here) (fun _ hC => R_fieldAddr (off' := 1) Tryz.underlying139 rfl Tryz.sizeOf3 (by decide) rfl rfl) ?_
  refine WA_take 7 rfl rfl rfl (by kernel_rfl) (by kernel_rfl) (H.get .here) (fun _ hC => R_load (v := I e) Tryz.isAgg3 rfl hC rfl) ?_
  refine WA_takeM 8 rfl rfl rfl (by kernel_rfl) (by kernel_rfl) (H.get .here) (fun _ hC => R_mv) ?_
  refine WA_take 9 rfl rfl rfl (by kernel_rfl) (by kernel_rfl) (H.get .here) (fun _ hC => R_nilCheck rfl) ?_
  refine WA_take 10 rfl rfl rfl (by kernel_rfl) (by kernel_rfl) (H.get .here) (fun _ hC => R_fieldAddr (off' := 3) Tryz.underlying139 rfl Tryz.sizeOf3 (by decide) rfl rfl) ?_
  refine WA_take 11 rfl rfl rfl (by kernel_rfl) (by kernel_rfl) (H.get .here) (fun _ hC => R_load (v := I n) Tryz.isAgg3 rfl hC rfl) ?_
  refine WA_takeM 12 rfl rfl rfl (by kernel_rfl) (by kernel_rfl) (H.get .here) (fun _ hC => R_mv) ?_
  refine WA_take 13 rfl rfl rfl (by kernel_rfl) (by kernel_rfl) (H.get .here) (fun _ hC => R_nilCheck rfl) ?_
  refine WA_take 14 rfl rfl rfl (by kernel_rfl) (by kernel_rfl) (H.get .here) (fun _ hC => R_fieldAddr (off' := 6) Tryz.underlying139 rfl Tryz.sizeOf3 (by decide) rfl rfl) ?_
  refine WA_take 15 rfl rfl rfl (by kernel_rfl) (by kernel_rfl) (H.get .here) (fun _ hC => R_load (v := I st) Tryz.isAgg3 rfl hC rfl) ?_
  refine WA_take 16 rfl rfl rfl (by kernel_rfl) (by kernel_rfl) (H.get .here) (fun _ hC => R_buildL (places := [(0, 1), (1, 1), (2, 1), (3, 1), (4, 1), (5, 1), (6, 1)]) (vs := [I 9, I 0, I st, I n, I 0, I 0, nilS]) Tryz.underlying44 Tryz.typeInfo44 rfl rfl (by kernel_rfl) rfl rfl rfl) ?_
  refine WA_one (i := 17) (by kernel_rfl) ?_
  (refine WI_call rfl (.inl rfl) (R_call rfl Tryz.call36 rfl) (do_leave (hs.keep H (Out.cons hh (by simp [sT, elT]) (Out.cons hsp (by simp [sT, elT]) Out.nil))) (H.get (.there .here))) (by rintro _ w2 ⟨_, H1⟩ _; exact (H.seq H1 (okSeq_set (.there .here) okSeq_nil)).get .here) ?_; rintro _ w21 ⟨rfl, H1⟩; replace H := H.seq H1 (okSeq_set (.there .here) okSeq_nil); clear H1)
  refine WA_done (by kernel_rfl) ?_
  refine W_region_l ?_
  refine WL_stepM rfl (R_mv) ?_
  refine WL_stepM rfl (R_mv) ?_
  refine WL_step rfl (R_nilCheck rfl) ?_
  refine WL_step rfl (R_fieldAddr (off' := 5) Tryz.underlying139 rfl Tryz.sizeOf3 (by decide) rfl rfl) ?_
  (refine WL_effu rfl (E_store (v := I ph2) H Tryz.sizeOf3 rfl rfl rfl .here (by simp)) ?_; clear H; intro w28 H; replace H : Hp w [(h, blk [ptr κ.k 0, I e, I sl, I n, ptr c 0, I ph2, I st, I op, I a, I b, .slice da dl dc] 139), (sp, blk (sxC (leaveSx S e st) qv) 170)] w28 := H)
  refine WL_nil ?_
  exact ⟨_, rfl, rfl, H⟩

/-- what is told of a process -/
def oC (ss sl op a b : Int) (D : Value) (n e : Int) (B : Value) (bk : Bool) (sg : Value) (d : Int) : List Value := [I ss, I sl, I op, I a, I b, D, I n, I e, B, .bool bk, sg, I d]
def z0 : List Value := oC 0 0 0 0 0 nilS 0 0 nilS false nilS 0
theorem back_ret {n1 e1 : Int} (hh : w.heap[h]? = some (blk [ptr κ.k 0, I e, I sl, I n, ptr c 0, I ph, I st, I op, I a, I b, .slice da dl dc] 139)) :
    Ret Tryz.prog 130 #[ptr h 0, .agg (rtC n1 e1 nilS false).toArray] w fun v w' => v = .agg (oC 0 sl op a b (.slice da dl dc) n1 e1 nilS true nilS 0).toArray ∧ Hp w [] w' := by
  refine Ret_of_WC (args := [_, _]) Tryz.func130 rfl Tryz.ntmps130 Tryz.results130 (by simp) ?_
  have H := Hp.refl w
  refine W_seq ?_
  refine W_region_l ?_
  (refine WL_effn rfl (E_box (vs := rtC n1 e1 nilS false) H rfl rfl) ?_; clear H; intro c3 w3 hc3 H)
  (refine WL_effn rfl (E_alloc (vs := z0) H Tryz.zeroValue40 rfl) ?_; clear H; intro c4 w4 hc4 H)
  refine WL_nil ?_
  refine W_seq ?_
  (refine W_drawH (fun i => i == 15) (by kernel_rfl) H ?_; clear H; intro w7 H)
  refine WA_takeM 0 rfl rfl rfl (by kernel_rfl) (by kernel_rfl) H (fun _ hC => R_mv) ?_
  refine WA_take 1 rfl rfl rfl (by kernel_rfl) (by kernel_rfl) H (fun _ hC => R_nilCheck rfl) ?_
  refine WA_take 2 rfl rfl rfl (by kernel_rfl) (by kernel_rfl) H (fun _ hC => R_fieldAddr (off' := 2) Tryz.underlying139 rfl Tryz.sizeOf3 (by decide) rfl rfl) ?_
  refine WA_take 3 rfl rfl rfl (by kernel_rfl) (by kernel_rfl) H (fun _ hC => R_load Tryz.isAgg3 rfl (hC.blockN hh kYs) rfl) ?_
  refine WA_takeM 4 rfl rfl rfl (by kernel_rfl) (by kernel_rfl) H (fun _ hC => R_mv) ?_
  refine WA_take 5 rfl rfl rfl (by kernel_rfl) (by kernel_rfl) H (fun _ hC => R_nilCheck rfl) ?_
  refine WA_take 6 rfl rfl rfl (by kernel_rfl) (by kernel_rfl) H (fun _ hC => R_fieldAddr (off' := 7) Tryz.underlying139 rfl Tryz.sizeOf38 (by decide) rfl rfl) ?_
  refine WA_take 7 rfl rfl rfl (by kernel_rfl) (by kernel_rfl) H (fun _ hC => R_loadA (vs := [I op, I a, I b, .slice da dl dc]) Tryz.isAgg38 Tryz.sizeOf38 rfl (hC.blockN hh kYs) rfl (by simp)) ?_
  refine WA_take 8 rfl rfl rfl (by kernel_rfl) (by kernel_rfl) H (fun _ hC => R_fieldAddr (off' := 0) Tryz.underlying227 rfl Tryz.sizeOf3 (by decide) rfl rfl) ?_
  refine WA_take 9 rfl rfl rfl (by kernel_rfl) (by kernel_rfl) H (fun _ hC => R_load (v := I n1) Tryz.isAgg3 rfl (hC.get (.there .here)) rfl) ?_
  refine WA_take 10 rfl rfl rfl (by kernel_rfl) (by kernel_rfl) H (fun _ hC => R_fieldAddr (off' := 1) Tryz.underlying227 rfl Tryz.sizeOf33 (by decide) rfl rfl) ?_
  refine WA_take 11 rfl rfl rfl (by kernel_rfl) (by kernel_rfl) H (fun _ hC => R_load (v := I e1) Tryz.isAgg33 rfl (hC.get (.there .here)) rfl) ?_
  refine WA_take 12 rfl rfl rfl (by kernel_rfl) (by kernel_rfl) H (fun _ hC => R_fieldAddr (off' := 2) Tryz.underlying227 rfl Tryz.sizeOf36 (by decide) rfl rfl) ?_
  refine WA_take 13 rfl rfl rfl (by kernel_rfl) (by kernel_rfl) H (fun _ hC => R_load (v := nilS) Tryz.isAgg36 rfl (hC.get (.there .here)) rfl) ?_
  refine WA_take 14 rfl rfl rfl (by kernel_rfl) (by kernel_rfl) H (fun _ hC => R_buildL (places := [(0, 1), (1, 1), (2, 4), (6, 1), (7, 1), (8, 1), (9, 1), (10, 1), (11, 1)]) (vs := oC 0 sl op a b (.slice da dl dc) n1 e1 nilS true nilS 0) Tryz.underlying40 Tryz.typeInfo40 rfl rfl (by kernel_rfl) rfl rfl rfl) ?_
  refine WA_one (i := 15) (by kernel_rfl) ?_
  (refine WI_effu rfl (.inl rfl) (E_storeA (vs := oC 0 sl op a b (.slice da dl dc) n1 e1 nilS true nilS 0) H Tryz.sizeOf40 rfl rfl (by simp [oC, Value.oneCell']) .here (by simp [oC, z0])) (fun _ _ h => Bool.noConfusion h) ?_; clear H; intro w24 H; replace H : Hp w [(c4, blk (oC 0 sl op a b (.slice da dl dc) n1 e1 nilS true nilS 0) 40), (c3, blk (rtC n1 e1 nilS false) 227)] w24 := H)
  refine WA_done (by kernel_rfl) ?_
  refine W_ret ?_
  exact ⟨_, ⟨_, rfl, ldA Tryz.isAgg40 Tryz.sizeOf40 (H.get .here) rfl (by simp [oC])⟩, rfl, H.none kYs⟩

/-- one asks to be let in, and is -/
theorem want_ret {T st2 : Int} (hh : w.heap[h]? = some (blk [ptr κ.k 0, I e, I sl, I n, ptr c 0, I ph, I st, I op, I a, I b, .slice da dl dc] 139)) (hs : Ks w κ e n sp) (hsp : w.heap[sp]? = some (blk (sxC S nilS) 170)) (hq : S.q = []) (hB : Bd S T) (hT : T ≤ 1000000) (hn : 0 ≤ κ.now ∧ κ.now ≤ T)
    (hst : (enter S e κ.now).2.1 = st2) (hst0 : 0 < st2) :
    Ret Tryz.prog 97 #[ptr h 0] w fun v w' => ∃ qv M, v = .tuple #[] ∧ (∀ p ∈ M, w.heap.size ≤ p.1) ∧
      Hp w ((h, blk [ptr κ.k 0, I e, I sl, I n, ptr c 0, I 2, I st2, I op, I a, I b, .slice da dl dc] 139) :: (M ++ [(sp, blk (sxC (enter S e κ.now).1 qv) 170)])) w' := by
  refine Ret_of_W (args := [_]) Tryz.func97 rfl Tryz.ntmps97 Tryz.results97 (by simp) ?_
  have hhs : h ≠ sp := ne_of_obj hh hsp (by simp)
  have H := Hp.refl w
  have hd : ∀ {w1 : World} {L : List (Nat × Obj)}, Hp w L w1 → (∀ p ∈ L, w.heap.size ≤ p.1) → Ret Tryz.prog 36 #[ptr κ.k 0, I e, .agg #[I 8, I 0, I 0, I n, I 0, I 0, nilS]] w1 fun v w' => ∃ qv M, v = .agg #[I 0, I st2, nilS] ∧ (∀ p ∈ M, w.heap.size ≤ p.1) ∧ Hp w (M ++ (sp, blk (sxC (enter S e κ.now).1 qv) 170) :: L) w' := by
    intro w1 L H1 hL
    refine (do_enter (hs.keepN H1 hL) (H1.blockN hsp hL) hq hB hT hn).mono ?_
    rintro v w' ⟨qv, M, rfl, hM, H2⟩
    rw [hst]
    exact ⟨qv, M, rfl, fun p hp => Nat.le_trans H1.size (hM p hp), hp_over2 H1 hsp hM H2 hL⟩
  have hout : ∀ {w1 : World} {qv : Value} {M L : List (Nat × Obj)}, (∀ p ∈ M, w.heap.size ≤ p.1) → (∀ p ∈ L, w.heap.size ≤ p.1) → Hp w (M ++ (sp, blk (sxC (enter S e κ.now).1 qv) 170) :: L) w1 → w1.heap[h]? = some (blk [ptr κ.k 0, I e, I sl, I n, ptr c 0, I ph, I st, I op, I a, I b, .slice da dl dc] 139) := by
    intro w1 qv M L hM hL H1
    exact H1.blockT (T := [139]) hh (by simp [elT]) ((Out.ofN hM).app (Out.cons hsp (by simp [elT]) (Out.ofN hL)))
  refine W_seq ?_
  (refine W_draw (fun w2 => w2.heap[h]? = some (blk [ptr κ.k 0, I e, I sl, I n, ptr c 0, I ph, I st, I op, I a, I b, .slice da dl dc] 139)) (fun _ => false) (by kernel_rfl) H ?_; clear H; intro w2 H)
  refine WA_takeM 0 rfl rfl rfl (by kernel_rfl) (by kernel_rfl) (H.blockN hh kYs) (fun _ hC => R_mv) ?_
  refine WA_take 1 rfl rfl rfl (by kernel_rfl) (by kernel_rfl) (H.blockN hh kYs) (fun _ hC => R_nilCheck rfl) ?_
  refine WA_take 2 rfl rfl rfl (by kernel_rfl) (by kernel_rfl) (H.blockN hh kYs) (fun _ hC => R_fieldAddr (off' := 0) Tryz.underlying139 rfl Tryz.sizeOf71 (by decide) rfl rfl) ?_
  refine WA_take 3 rfl rfl rfl (by kernel_rfl) (by kernel_rfl) (H.blockN hh kYs) (fun _ hC => R_load (v := ptr κ.k 0) Tryz.isAgg71 rfl hC rfl) ?_
  refine WA_takeM 4 rfl rfl rfl (by kernel_rfl) (by kernel_rfl) (H.blockN hh kYs) (fun _ hC => R_mv) ?_
  refine WA_take 5 rfl rfl rfl (by kernel_rfl) (by kernel_rfl) (H.blockN hh kYs) (fun _ hC => R_nilCheck rfl) ?_
  refine WA_take 6 rfl rfl rfl (by kernel_rfl) (by kernel_rfl) (H.blockN hh kYs) (fun _ hC => R_fieldAddr (off' := 1) Tryz.underlying139 rfl Tryz.sizeOf3 (by decide) rfl rfl) ?_
  refine WA_take 7 rfl rfl rfl (by kernel_rfl) (by kernel_rfl) (H.blockN hh kYs) (fun _ hC => R_load (v := I e) Tryz.isAgg3 rfl hC rfl) ?_
  refine WA_takeM 8 rfl rfl rfl (by kernel_rfl) (by kernel_rfl) (H.blockN hh kYs) (fun _ hC => R_mv) ?_
  refine WA_take 9 rfl rfl rfl (by kernel_rfl) (by kernel_rfl) (H.blockN hh kYs) (fun _ hC => R_nilCheck rfl) ?_
  refine WA_take 10 rfl rfl rfl (by kernel_rfl) (by kernel_rfl) (H.blockN hh kYs) (fun _ hC => R_fieldAddr (off' := 3) Tryz.underlying139 rfl Tryz.sizeOf3 (by decide) rfl rfl) ?_
  refine WA_take 11 rfl rfl rfl (by kernel_rfl) (by kernel_rfl) (H.blockN hh kYs) (fun _ hC => R_load (v := I n) Tryz.isAgg3 rfl hC rfl) ?_
  refine WA_take 12 rfl rfl rfl (by kernel_rfl) (by kernel_rfl) (H.blockN hh kYs) (fun _ hC => R_buildL (places := [(0, 1), (1, 1), (2, 1), (3, 1), (4, 1), (5, 1), (6, 1)]) (vs := [I 8, I 0, I 0, I n, I 0, I 0, nilS]) Tryz.underlying44 Tryz.typeInfo44 rfl rfl (by kernel_rfl) rfl rfl rfl) ?_
  refine WA_two (i := 13) (j := 14) (by kernel_rfl) ?_ ?_
  · (refine WI_call rfl (.inl rfl) (R_call rfl Tryz.call36 rfl) (hd H kYs) (fun _ _ ⟨_, _, _, hM, H1⟩ _ => hout hM kYs H1) ?_; rintro _ w17 ⟨qv, M, rfl, hM, H1⟩; have hhx := hout hM kYs H1; clear H; have H := H1; clear H1)
    refine WA_one (i := 14) (by kernel_rfl) ?_
    (refine WI_effnA rfl (.inl rfl) (E_alloc (vs := [I 0, I 0, nilS]) H Tryz.zeroValue96 rfl) (fun _ _ _ H _ => H.blockT (T := [139]) hh (by simp [elT]) (Out.new (by assumption) ((Out.ofN hM).app (Out.cons hsp (by simp [elT]) Out.nil)))) ?_; clear H; intro c2 w19 hc2 H; clear hhx; have hhx := H.blockT (T := [139]) hh (by simp [elT]) (Out.new hc2 ((Out.ofN hM).app (Out.cons hsp (by simp [elT]) Out.nil))))
    refine WA_one (i := 15) (by kernel_rfl) ?_
    (refine WI_effu rfl (.inl rfl) (E_storeA (vs := [I 0, I st2, nilS]) H Tryz.sizeOf96 rfl rfl (by simp [Value.oneCell']) .here (by simp)) (fun _ H _ => H.blockT (T := [139]) hh (by simp [elT]) (Out.new hc2 ((Out.ofN hM).app (Out.cons hsp (by simp [elT]) Out.nil)))) ?_; clear H; intro w21 H; clear hhx; have hhx := H.blockT (T := [139]) hh (by simp [elT]) (Out.new hc2 ((Out.ofN hM).app (Out.cons hsp (by simp [elT]) Out.nil))); replace H : Hp w ((c2, blk [I 0, I st2, nilS] 96) :: (M ++ [(sp, blk (sxC (enter S e κ.now).1 qv) 170)])) w21 := H)
    refine WA_done (by kernel_rfl) ?_
    refine W_seq ?_
    refine W_region_l ?_
    refine WL_step rfl (R_fieldAddr (off' := 1) Tryz.underlying96 rfl Tryz.sizeOf3 (by decide) rfl rfl) ?_
    refine WL_step rfl (R_load Tryz.isAgg3 rfl (H.get .here) rfl) ?_
    refine WL_step rfl (R_gt_t rfl rfl (by omega)) ?_
    refine WL_nil ?_
    refine W_cond_t rfl ?_
    (have hh2 : Hp w ((h, blk [ptr κ.k 0, I e, I sl, I n, ptr c 0, I ph, I st, I op, I a, I b, .slice da dl dc] 139) :: (c2, blk [I 0, I st2, nilS] 96) :: (M ++ [(sp, blk (sxC (enter S e κ.now).1 qv) 170)])) _ := H.focus hhx (by intro hm; obtain ⟨p, hp, ep⟩ := List.mem_map.1 hm; rcases List.mem_cons.1 hp with rfl | hp; exact absurd (lt_of_some hh) (by simp only at ep; omega); rcases List.mem_append.1 hp with hp | hp; exact absurd (lt_of_some hh) (by have := hM p hp; omega); rw [List.mem_singleton] at hp; subst hp; exact hhs ep.symm); clear H; have H := hh2; clear hh2; refine W_draw (fun w2 => w2.heap[c2]? = some (blk [I 0, I st2, nilS] 96)) (fun _ => false) (by kernel_rfl) H ?_; clear H; intro w30 H)
    refine WA_takeM 0 rfl rfl rfl (by kernel_rfl) (by kernel_rfl) (H.get (.there .here)) (fun _ hC => R_mv) ?_
    refine WA_takeM 1 rfl rfl rfl (by kernel_rfl) (by kernel_rfl) (H.get (.there .here)) (fun _ hC => R_mv) ?_
    refine WA_take 2 rfl rfl rfl (by kernel_rfl) (by kernel_rfl) (H.get (.there .here)) (fun _ hC => R_fieldAddr (off' := 1) Tryz.underlying96 rfl Tryz.sizeOf3 (by decide) rfl rfl) ?_
    refine WA_take 3 rfl rfl rfl (by kernel_rfl) (by kernel_rfl) (H.get (.there .here)) (fun _ hC => R_load (v := I st2) Tryz.isAgg3 rfl hC rfl) ?_
    refine WA_take 4 rfl rfl rfl (by kernel_rfl) (by kernel_rfl) (H.get (.there .here)) (fun _ hC => R_nilCheck rfl) ?_
    refine WA_take 5 rfl rfl rfl (by kernel_rfl) (by kernel_rfl) (H.get (.there .here)) (fun _ hC => R_fieldAddr (off' := 5) Tryz.underlying139 rfl Tryz.sizeOf3 (by decide) rfl rfl) ?_
    refine WA_one (i := 6) (by kernel_rfl) ?_
    (refine WI_effu rfl (.inl rfl) (E_store (v := I 2) H Tryz.sizeOf3 rfl rfl rfl .here (by simp)) (fun _ H _ => H.get (.there .here)) ?_; clear H; intro w38 H; replace H : Hp w ((h, blk [ptr κ.k 0, I e, I sl, I n, ptr c 0, I 2, I st, I op, I a, I b, .slice da dl dc] 139) :: (c2, blk [I 0, I st2, nilS] 96) :: (M ++ [(sp, blk (sxC (enter S e κ.now).1 qv) 170)])) w38 := H)
    refine WA_take 7 rfl rfl rfl (by kernel_rfl) (by kernel_rfl) (H.get (.there .here)) (fun _ hC => R_nilCheck rfl) ?_
    refine WA_take 8 rfl rfl rfl (by kernel_rfl) (by kernel_rfl) (H.get (.there .here)) (fun _ hC => R_fieldAddr (off' := 6) Tryz.underlying139 rfl Tryz.sizeOf3 (by decide) rfl rfl) ?_
    refine WA_one (i := 9) (by kernel_rfl) ?_
    (refine WI_effu rfl (.inl rfl) (E_store (v := I st2) H Tryz.sizeOf3 rfl rfl rfl .here (by simp)) (fun _ H _ => H.get (.there .here)) ?_; clear H; intro w42 H; replace H : Hp w ((h, blk [ptr κ.k 0, I e, I sl, I n, ptr c 0, I 2, I st2, I op, I a, I b, .slice da dl dc] 139) :: (c2, blk [I 0, I st2, nilS] 96) :: (M ++ [(sp, blk (sxC (enter S e κ.now).1 qv) 170)])) w42 := H)
    refine WA_done (by kernel_rfl) ?_
    exact ⟨_, rfl, qv, M, rfl, hM, H.pop2 hc2⟩
  · (refine WI_effnA rfl (.inl rfl) (E_alloc (vs := [I 0, I 0, nilS]) H Tryz.zeroValue96 rfl) (fun _ _ _ H _ => H.blockN hh kYs) ?_; clear H; intro c2 w45 hc2 H)
    refine WA_one (i := 13) (by kernel_rfl) ?_
    (refine WI_call rfl (.inl rfl) (R_call rfl Tryz.call36 rfl) (hd H kYs) (fun _ _ ⟨_, _, _, hM, H1⟩ _ => hout hM kYs H1) ?_; rintro _ w47 ⟨qv, M, rfl, hM, H1⟩; have hhx := hout hM kYs H1; clear H; have H := H1; clear H1)
    refine WA_one (i := 15) (by kernel_rfl) ?_
    (refine WI_effu rfl (.inl rfl) (E_storeA (vs := [I 0, I st2, nilS]) H Tryz.sizeOf96 rfl rfl (by simp [Value.oneCell']) (.app _ (.there .here)) (by simp)) (fun _ H _ => H.blockT (T := [139]) hh (by simp [elT]) ((Out.ofN hM).app (Out.cons hsp (by simp [elT]) (Out.new hc2 Out.nil)))) ?_; clear H; intro w49 H; replace H : Hp w ((c2, blk [I 0, I st2, nilS] 96) :: (M ++ [(sp, blk (sxC (enter S e κ.now).1 qv) 170)])) w49 := hp_rot H; clear hhx; have hhx := H.blockT (T := [139]) hh (by simp [elT]) (Out.new hc2 ((Out.ofN hM).app (Out.cons hsp (by simp [elT]) Out.nil))))
    refine WA_done (by kernel_rfl) ?_
    refine W_seq ?_
    refine W_region_l ?_
    refine WL_step rfl (R_fieldAddr (off' := 1) Tryz.underlying96 rfl Tryz.sizeOf3 (by decide) rfl rfl) ?_
    refine WL_step rfl (R_load Tryz.isAgg3 rfl (H.get .here) rfl) ?_
    refine WL_step rfl (R_gt_t rfl rfl (by omega)) ?_
    refine WL_nil ?_
    refine W_cond_t rfl ?_
    (have hh2 : Hp w ((h, blk [ptr κ.k 0, I e, I sl, I n, ptr c 0, I ph, I st, I op, I a, I b, .slice da dl dc] 139) :: (c2, blk [I 0, I st2, nilS] 96) :: (M ++ [(sp, blk (sxC (enter S e κ.now).1 qv) 170)])) _ := H.focus hhx (by intro hm; obtain ⟨p, hp, ep⟩ := List.mem_map.1 hm; rcases List.mem_cons.1 hp with rfl | hp; exact absurd (lt_of_some hh) (by simp only at ep; omega); rcases List.mem_append.1 hp with hp | hp; exact absurd (lt_of_some hh) (by have := hM p hp; omega); rw [List.mem_singleton] at hp; subst hp; exact hhs ep.symm); clear H; have H := hh2; clear hh2; refine W_draw (fun w2 => w2.heap[c2]? = some (blk [I 0, I st2, nilS] 96)) (fun _ => false) (by kernel_rfl) H ?_; clear H; intro w58 H)
    refine WA_takeM 0 rfl rfl rfl (by kernel_rfl) (by kernel_rfl) (H.get (.there .here)) (fun _ hC => R_mv) ?_
    refine WA_takeM 1 rfl rfl rfl (by kernel_rfl) (by kernel_rfl) (H.get (.there .here)) (fun _ hC => R_mv) ?_
    refine WA_take 2 rfl rfl rfl (by kernel_rfl) (by kernel_rfl) (H.get (.there .here)) (fun _ hC => R_fieldAddr (off' := 1) Tryz.underlying96 rfl Tryz.sizeOf3 (by decide) rfl rfl) ?_
    refine WA_take 3 rfl rfl rfl (by kernel_rfl) (by kernel_rfl) (H.get (.there .here)) (fun _ hC => R_load (v := I st2) Tryz.isAgg3 rfl hC rfl) ?_
    refine WA_take 4 rfl rfl rfl (by kernel_rfl) (by kernel_rfl) (H.get (.there .here)) (fun _ hC => R_nilCheck rfl) ?_
    refine WA_take 5 rfl rfl rfl (by kernel_rfl) (by kernel_rfl) (H.get (.there .here)) (fun _ hC => R_fieldAddr (off' := 5) Tryz.underlying139 rfl Tryz.sizeOf3 (by decide) rfl rfl) ?_
    refine WA_one (i := 6) (by kernel_rfl) ?_
    (refine WI_effu rfl (.inl rfl) (E_store (v := I 2) H Tryz.sizeOf3 rfl rfl rfl .here (by simp)) (fun _ H _ => H.get (.there .here)) ?_; clear H; intro w66 H; replace H : Hp w ((h, blk [ptr κ.k 0, I e, I sl, I n, ptr c 0, I 2, I st, I op, I a, I b, .slice da dl dc] 139) :: (c2, blk [I 0, I st2, nilS] 96) :: (M ++ [(sp, blk (sxC (enter S e κ.now).1 qv) 170)])) w66 := H)
    refine WA_take 7 rfl rfl rfl (by kernel_rfl) (by kernel_rfl) (H.get (.there .here)) (fun _ hC => R_nilCheck rfl) ?_
    refine WA_take 8 rfl rfl rfl (by kernel_rfl) (by kernel_rfl) (H.get (.there .here)) (fun _ hC => R_fieldAddr (off' := 6) Tryz.underlying139 rfl Tryz.sizeOf3 (by decide) rfl rfl) ?_
    refine WA_one (i := 9) (by kernel_rfl) ?_
    (refine WI_effu rfl (.inl rfl) (E_store (v := I st2) H Tryz.sizeOf3 rfl rfl rfl .here (by simp)) (fun _ H _ => H.get (.there .here)) ?_; clear H; intro w70 H; replace H : Hp w ((h, blk [ptr κ.k 0, I e, I sl, I n, ptr c 0, I 2, I st2, I op, I a, I b, .slice da dl dc] 139) :: (c2, blk [I 0, I st2, nilS] 96) :: (M ++ [(sp, blk (sxC (enter S e κ.now).1 qv) 170)])) w70 := H)
    refine WA_done (by kernel_rfl) ?_
    exact ⟨_, rfl, qv, M, rfl, hM, H.pop2 hc2⟩
end
end Go.Proofs.YtlpmfldijgdcoaaGreatDoor.Ho

/-
  Hosts: what is told at the end of a call; the call itself; a pick.
-/
namespace Go.Proofs.YtlpmfldijgdcoaaGreatDoor.Ho
open Go Go.Proofs Go.Proofs.YtlpmfldijgdcoaaGreatDoor.Fx Go.Proofs.YtlpmfldijgdcoaaGreatDoor.Kn Go.Proofs.YtlpmfldijgdcoaaGreatDoor.Cm Go.Proofs.YtlpmfldijgdcoaaGreatDoor.Sect
set_option maxRecDepth 100000
set_option linter.unusedVariables false
set_option linter.unusedSimpArgs false
set_option maxHeartbeats 8000000

/-- a block of another kind turns -/
theorem hp_addT {w0 w w' : World} {L : List (Nat × Obj)} {b : Nat} {o o' : Obj} (H : Hp w0 L w) (hb : w.heap[b]? = some o) (hn : ∀ p ∈ L, elT p.2 ≠ elT o) (H1 : Hp w [(b, o')] w') : Hp w0 ((b, o') :: L) w' :=
  (H.focus hb (fun hm => by
    obtain ⟨p, hp, e⟩ := List.mem_map.1 hm
    have h1 := H.held p hp
    rw [e, hb] at h1
    cases h1
    exact hn p hp rfl)).seq H1 (okSeq_set .here okSeq_nil)
section
variable {w : World} {κ : KS} {h e n sp c : Nat} {C : Cs} {S : Sx} {qv : Value} {sl : Nat} {ph st op a b : Int} {da : Option Addr} {dl dc : Nat}

theorem oC_one {ss sl op a b n e d : Int} {D B sg : Value} {bk : Bool} (hD : D.oneCell' = true) (hB : B.oneCell' = true) (hsg : sg.oneCell' = true) : ∀ u ∈ oC ss sl op a b D n e B bk sg d, u.oneCell' = true := by
  intro u hu
  simp only [oC, List.mem_cons, List.not_mem_nil, or_false] at hu
  rcases hu with rfl | rfl | rfl | rfl | rfl | rfl | rfl | rfl | rfl | rfl | rfl | rfl <;> first | rfl | assumption
/-- the bytes with the first process put where it is -/
def endB (C : Cs) (sl : Nat) : Cs := C.put 0 (24 * sl) (Slot.bytesP p0)
theorem okp0 : Slot.okP p0 := by unfold Slot.okP Slot.okB p0; decide
theorem lenp0 : (Slot.bytesP p0).length = 24 := by decide
theorem end_ret {ss n1 e1 d1 : Int} {B sg : Value} {bk : Bool} {xa : Option Addr} {xl xc : Nat} (hB : B.oneCell' = true) (hsg : sg.oneCell' = true) (hh : w.heap[h]? = some (blk [ptr κ.k 0, I e, I sl, I n, ptr c 0, I ph, I st, I op, I a, I b, .slice da dl dc] 139)) (hM : CmI w c C) (hs : Snd C) (hi : sl < 8) (hp : C.pD sl = (p0, 1)) {op' a' b' : Int} :
    Ret Tryz.prog 100 #[ptr h 0, .agg (oC ss sl op' a' b' (.slice xa xl xc) n1 e1 B bk sg d1).toArray] w fun v w' => v = .agg (oC ss sl op' a' b' (.slice xa xl xc) n1 e1 B bk nilS 0).toArray ∧ Hp w (endB C sl).mB w' := by
  refine Ret_of_WC (args := [_, _]) Tryz.func100 rfl Tryz.ntmps100 Tryz.results100 (by simp) ?_
  have H := Hp.refl w
  have hbk := hM.hK.hb
  refine W_seq ?_
  refine W_region_l ?_
  (refine WL_effn rfl (E_box (vs := oC ss sl op' a' b' (.slice xa xl xc) n1 e1 B bk sg d1) H rfl rfl) ?_; clear H; intro c3 w3 hc3 H)
  (refine WL_effn rfl (E_alloc (vs := z0) H Tryz.zeroValue40 rfl) ?_; clear H; intro c4 w4 hc4 H)
  refine WL_nil ?_
  refine W_seq ?_
  (refine W_draw (KH w [(c4, blk z0 40), (c3, blk (oC ss sl op' a' b' (.slice xa xl xc) n1 e1 B bk sg d1) 40)]) (fun _ => false) (by kernel_rfl) H ?_; clear H; intro w7 H)
  refine WA_takeM 0 rfl rfl rfl (by kernel_rfl) (by kernel_rfl) (H.kh (by simp) kYs) (fun _ hC => R_mv) ?_
  refine WA_take 1 rfl rfl rfl (by kernel_rfl) (by kernel_rfl) (H.kh (by simp) kYs) (fun _ hC => R_nilCheck rfl) ?_
  refine WA_take 2 rfl rfl rfl (by kernel_rfl) (by kernel_rfl) (H.kh (by simp) kYs) (fun _ hC => R_fieldAddr (off' := 4) Tryz.underlying139 rfl Tryz.sizeOf93 (by decide) rfl rfl) ?_
  refine WA_take 3 rfl rfl rfl (by kernel_rfl) (by kernel_rfl) (H.kh (by simp) kYs) (fun _ hC => R_load Tryz.isAgg93 rfl (hC.blockN hh kYs) rfl) ?_
  refine WA_takeM 4 rfl rfl rfl (by kernel_rfl) (by kernel_rfl) (H.kh (by simp) kYs) (fun _ hC => R_mv) ?_
  refine WA_take 5 rfl rfl rfl (by kernel_rfl) (by kernel_rfl) (H.kh (by simp) kYs) (fun _ hC => R_nilCheck rfl) ?_
  refine WA_take 6 rfl rfl rfl (by kernel_rfl) (by kernel_rfl) (H.kh (by simp) kYs) (fun _ hC => R_fieldAddr (off' := 2) Tryz.underlying139 rfl Tryz.sizeOf3 (by decide) rfl rfl) ?_
  refine WA_take 7 rfl rfl rfl (by kernel_rfl) (by kernel_rfl) (H.kh (by simp) kYs) (fun _ hC => R_load Tryz.isAgg3 rfl (hC.blockN hh kYs) rfl) ?_
  refine WA_two (i := 8) (j := 12) (by kernel_rfl) ?_ ?_
  · (refine WI_call rfl (.inl rfl) (R_call rfl Tryz.call64 rfl) (Proc_to (hM.keepN H kYs) hs hi hp) (fun _ _ hR _ => (H.seq0 hR.2).kh (by simp) kYs) ?_; rintro _ w17 ⟨rfl, H1⟩; replace H := H.seq0 H1; clear H1)
    refine WA_takeM 9 rfl rfl rfl (by kernel_rfl) (by kernel_rfl) (H.kh (by simp) kYs) (fun _ hC => R_mv) ?_
    refine WA_take 10 rfl rfl rfl (by kernel_rfl) (by kernel_rfl) (H.kh (by simp) kYs) (fun _ hC => R_extract rfl rfl) ?_
    refine WA_take 11 rfl rfl rfl (by kernel_rfl) (by kernel_rfl) (H.kh (by simp) kYs) (fun _ hC => R_extract rfl rfl) ?_
    refine WA_one (i := 12) (by kernel_rfl) ?_
    (refine WI_effnA rfl (.inl rfl) (Slot.E_allocP H) (fun _ _ _ H _ => H.kh (by simp) kYs) ?_; clear H; intro c5 w22 hc5 H)
    refine WA_one (i := 13) (by kernel_rfl) ?_
    (refine WI_effu rfl (.inl rfl) (Slot.E_storeP H rfl rfl .here) (fun _ H _ => H.kh (by simp) kYs) ?_; clear H; intro w24 H)
    refine WA_takeM 14 rfl rfl rfl (by kernel_rfl) (by kernel_rfl) (H.kh (by simp) kYs) (fun _ hC => R_as) ?_
    refine WA_done (by kernel_rfl) ?_
    refine W_seq ?_
    refine W_seq ?_
    refine W_region_l ?_
    refine WL_stepM rfl (R_mv) ?_
    refine WL_step rfl (R_ne_f rfl rfl (by omega)) ?_
    refine WL_stepM rfl (R_mv) ?_
    refine WL_guard_t rfl rfl ?_
    refine WL_step rfl (R_fieldAddr (off' := 0) Tryz.underlying58 rfl Tryz.sizeOf3 (by decide) rfl rfl) ?_
    refine WL_guard_t rfl rfl ?_
    refine WL_step rfl (R_load (v := I 1) Tryz.isAgg3 rfl (H.get .here) rfl) ?_
    refine WL_guard_t rfl rfl ?_
    refine WL_step rfl (R_ne_f rfl rfl (by omega)) ?_
    refine WL_stepM rfl (R_pk_f rfl) ?_
    refine WL_nil ?_
    refine W_cond_f rfl ?_
    refine W_skip ?_
    refine W_seq ?_
    refine W_region_l ?_
    refine WL_step rfl (Slot.R_loadP (p := p0) rfl (H.get .here)) ?_
    (refine WL_call rfl (R_call rfl Tryz.call139 rfl) (deliver0 _) ?_; rintro _ w46 ⟨rfl, H1⟩; replace H := H.seq0 H1; clear H1)
    refine WL_stepM rfl (R_mv) ?_
    refine WL_step rfl (R_extract rfl rfl) ?_
    refine WL_step rfl (R_extract rfl rfl) ?_
    refine WL_step rfl (R_extract rfl rfl) ?_
    (refine WL_effu rfl (Slot.E_storeP H rfl rfl .here) ?_; clear H; intro w51 H)
    refine WL_step rfl (R_fieldAddr (off' := 10) Tryz.underlying40 rfl Tryz.sizeOf22 (by decide) rfl rfl) ?_
    (refine WL_effu rfl (E_store (v := nilS) H Tryz.sizeOf22 rfl rfl rfl (.there (.there .here)) (by simp [oC])) ?_; clear H; intro w53 H; replace H : Hp w [(c5, blk (Slot.piC p0) 58), (c4, blk z0 40), (c3, blk (oC ss sl op' a' b' (.slice xa xl xc) n1 e1 B bk nilS d1) 40)] w53 := H)
    refine WL_step rfl (R_fieldAddr (off' := 11) Tryz.underlying40 rfl Tryz.sizeOf3 (by decide) rfl rfl) ?_
    (refine WL_effu rfl (E_store (v := I 0) H Tryz.sizeOf3 rfl rfl rfl (.there (.there .here)) (by simp [oC])) ?_; clear H; intro w55 H; replace H : Hp w [(c5, blk (Slot.piC p0) 58), (c4, blk z0 40), (c3, blk (oC ss sl op' a' b' (.slice xa xl xc) n1 e1 B bk nilS 0) 40)] w55 := H)
    refine WL_nil ?_
    refine W_seq ?_
    (refine W_draw (fun w2 => w2.heap[h]? = some (blk [ptr κ.k 0, I e, I sl, I n, ptr c 0, I ph, I st, I op, I a, I b, .slice da dl dc] 139) ∧ w2.heap[c5]? = some (blk (Slot.piC p0) 58)) (fun _ => false) (by kernel_rfl) H ?_; clear H; intro w58 H)
    refine WA_takeM 0 rfl rfl rfl (by kernel_rfl) (by kernel_rfl) ⟨H.blockN hh kYs, H.get .here⟩ (fun _ hC => R_mv) ?_
    refine WA_take 1 rfl rfl rfl (by kernel_rfl) (by kernel_rfl) ⟨H.blockN hh kYs, H.get .here⟩ (fun _ hC => R_nilCheck rfl) ?_
    refine WA_take 2 rfl rfl rfl (by kernel_rfl) (by kernel_rfl) ⟨H.blockN hh kYs, H.get .here⟩ (fun _ hC => R_fieldAddr (off' := 4) Tryz.underlying139 rfl Tryz.sizeOf93 (by decide) rfl rfl) ?_
    refine WA_take 3 rfl rfl rfl (by kernel_rfl) (by kernel_rfl) ⟨H.blockN hh kYs, H.get .here⟩ (fun _ hC => R_load (v := ptr c 0) Tryz.isAgg93 rfl hC.1 rfl) ?_
    refine WA_takeM 4 rfl rfl rfl (by kernel_rfl) (by kernel_rfl) ⟨H.blockN hh kYs, H.get .here⟩ (fun _ hC => R_mv) ?_
    refine WA_take 5 rfl rfl rfl (by kernel_rfl) (by kernel_rfl) ⟨H.blockN hh kYs, H.get .here⟩ (fun _ hC => R_nilCheck rfl) ?_
    refine WA_take 6 rfl rfl rfl (by kernel_rfl) (by kernel_rfl) ⟨H.blockN hh kYs, H.get .here⟩ (fun _ hC => R_fieldAddr (off' := 2) Tryz.underlying139 rfl Tryz.sizeOf3 (by decide) rfl rfl) ?_
    refine WA_take 7 rfl rfl rfl (by kernel_rfl) (by kernel_rfl) ⟨H.blockN hh kYs, H.get .here⟩ (fun _ hC => R_load (v := I sl) Tryz.isAgg3 rfl hC.1 rfl) ?_
    refine WA_take 8 rfl rfl rfl (by kernel_rfl) (by kernel_rfl) ⟨H.blockN hh kYs, H.get .here⟩ (fun _ hC => Slot.R_loadP (p := p0) rfl hC.2) ?_
    refine WA_one (i := 9) (by kernel_rfl) ?_
    (refine WI_call rfl (.inl rfl) (R_call rfl Tryz.call58 rfl) (SetProc_ret (hM.keepN H kYs) hi p0 okp0 lenp0 (snd_nb hs _)) (by rintro _ w2 ⟨_, _, H1⟩ _; exact ⟨H1.blockT (T := [139]) (H.blockN hh kYs) (by simp [elT]) (Out.cons (H.blockN hbk kYs) (by simp [elT]) Out.nil), (H.seqB hbk kYs H1).get (.there .here)⟩) ?_; rintro _ w69 ⟨rfl, _, H1⟩; replace H := H.seqB hbk kYs H1; clear H1)
    refine WA_done (by kernel_rfl) ?_
    refine W_seq ?_
    refine W_seq ?_
    refine W_region_l ?_
    refine WL_step rfl (R_fieldAddr (off' := 11) Tryz.underlying40 rfl Tryz.sizeOf3 (by decide) rfl rfl) ?_
    refine WL_step rfl (R_load (v := I 0) Tryz.isAgg3 rfl (H.get (.there (.there (.there .here)))) rfl) ?_
    refine WL_step rfl (R_gt_f rfl rfl (by omega)) ?_
    refine WL_nil ?_
    refine W_cond_f rfl ?_
    refine W_skip ?_
    refine W_seq ?_
    refine W_region_l ?_
    refine WL_step rfl (R_loadA (vs := oC ss sl op' a' b' (.slice xa xl xc) n1 e1 B bk nilS 0) Tryz.isAgg40 Tryz.sizeOf40 rfl (H.get (.there (.there (.there .here)))) rfl (by simp [oC])) ?_
    (refine WL_effu rfl (E_storeA (vs := oC ss sl op' a' b' (.slice xa xl xc) n1 e1 B bk nilS 0) H Tryz.sizeOf40 rfl rfl (oC_one rfl hB rfl) (.there (.there .here)) (by simp [oC, z0])) ?_; clear H; intro w83 H; replace H : Hp w ((endB C sl).mB ++ [(c5, blk (Slot.piC p0) 58), (c4, blk (oC ss sl op' a' b' (.slice xa xl xc) n1 e1 B bk nilS 0) 40), (c3, blk (oC ss sl op' a' b' (.slice xa xl xc) n1 e1 B bk nilS 0) 40)]) w83 := H)
    refine WL_nil ?_
    refine W_ret ?_
    exact ⟨_, ⟨_, rfl, ldA Tryz.isAgg40 Tryz.sizeOf40 (H.get (.there (.there .here))) rfl (by simp [oC])⟩, rfl, H.cut kYs⟩
  · (refine WI_effnA rfl (.inl rfl) (Slot.E_allocP H) (fun _ _ _ H _ => H.kh (by simp) kYs) ?_; clear H; intro c5 w87 hc5 H)
    refine WA_one (i := 8) (by kernel_rfl) ?_
    (refine WI_call rfl (.inl rfl) (R_call rfl Tryz.call64 rfl) (Proc_to (hM.keepN H kYs) hs hi hp) (fun _ _ hR _ => (H.seq0 hR.2).kh (by simp) kYs) ?_; rintro _ w89 ⟨rfl, H1⟩; replace H := H.seq0 H1; clear H1)
    refine WA_takeM 9 rfl rfl rfl (by kernel_rfl) (by kernel_rfl) (H.kh (by simp) kYs) (fun _ hC => R_mv) ?_
    refine WA_take 10 rfl rfl rfl (by kernel_rfl) (by kernel_rfl) (H.kh (by simp) kYs) (fun _ hC => R_extract rfl rfl) ?_
    refine WA_take 11 rfl rfl rfl (by kernel_rfl) (by kernel_rfl) (H.kh (by simp) kYs) (fun _ hC => R_extract rfl rfl) ?_
    refine WA_one (i := 13) (by kernel_rfl) ?_
    (refine WI_effu rfl (.inl rfl) (Slot.E_storeP H rfl rfl .here) (fun _ H _ => H.kh (by simp) kYs) ?_; clear H; intro w94 H)
    refine WA_takeM 14 rfl rfl rfl (by kernel_rfl) (by kernel_rfl) (H.kh (by simp) kYs) (fun _ hC => R_as) ?_
    refine WA_done (by kernel_rfl) ?_
    refine W_seq ?_
    refine W_seq ?_
    refine W_region_l ?_
    refine WL_stepM rfl (R_mv) ?_
    refine WL_step rfl (R_ne_f rfl rfl (by omega)) ?_
    refine WL_stepM rfl (R_mv) ?_
    refine WL_guard_t rfl rfl ?_
    refine WL_step rfl (R_fieldAddr (off' := 0) Tryz.underlying58 rfl Tryz.sizeOf3 (by decide) rfl rfl) ?_
    refine WL_guard_t rfl rfl ?_
    refine WL_step rfl (R_load (v := I 1) Tryz.isAgg3 rfl (H.get .here) rfl) ?_
    refine WL_guard_t rfl rfl ?_
    refine WL_step rfl (R_ne_f rfl rfl (by omega)) ?_
    refine WL_stepM rfl (R_pk_f rfl) ?_
    refine WL_nil ?_
    refine W_cond_f rfl ?_
    refine W_skip ?_
    refine W_seq ?_
    refine W_region_l ?_
    refine WL_step rfl (Slot.R_loadP (p := p0) rfl (H.get .here)) ?_
    (refine WL_call rfl (R_call rfl Tryz.call139 rfl) (deliver0 _) ?_; rintro _ w116 ⟨rfl, H1⟩; replace H := H.seq0 H1; clear H1)
    refine WL_stepM rfl (R_mv) ?_
    refine WL_step rfl (R_extract rfl rfl) ?_
    refine WL_step rfl (R_extract rfl rfl) ?_
    refine WL_step rfl (R_extract rfl rfl) ?_
    (refine WL_effu rfl (Slot.E_storeP H rfl rfl .here) ?_; clear H; intro w121 H)
    refine WL_step rfl (R_fieldAddr (off' := 10) Tryz.underlying40 rfl Tryz.sizeOf22 (by decide) rfl rfl) ?_
    (refine WL_effu rfl (E_store (v := nilS) H Tryz.sizeOf22 rfl rfl rfl (.there (.there .here)) (by simp [oC])) ?_; clear H; intro w123 H; replace H : Hp w [(c5, blk (Slot.piC p0) 58), (c4, blk z0 40), (c3, blk (oC ss sl op' a' b' (.slice xa xl xc) n1 e1 B bk nilS d1) 40)] w123 := H)
    refine WL_step rfl (R_fieldAddr (off' := 11) Tryz.underlying40 rfl Tryz.sizeOf3 (by decide) rfl rfl) ?_
    (refine WL_effu rfl (E_store (v := I 0) H Tryz.sizeOf3 rfl rfl rfl (.there (.there .here)) (by simp [oC])) ?_; clear H; intro w125 H; replace H : Hp w [(c5, blk (Slot.piC p0) 58), (c4, blk z0 40), (c3, blk (oC ss sl op' a' b' (.slice xa xl xc) n1 e1 B bk nilS 0) 40)] w125 := H)
    refine WL_nil ?_
    refine W_seq ?_
    (refine W_draw (fun w2 => w2.heap[h]? = some (blk [ptr κ.k 0, I e, I sl, I n, ptr c 0, I ph, I st, I op, I a, I b, .slice da dl dc] 139) ∧ w2.heap[c5]? = some (blk (Slot.piC p0) 58)) (fun _ => false) (by kernel_rfl) H ?_; clear H; intro w128 H)
    refine WA_takeM 0 rfl rfl rfl (by kernel_rfl) (by kernel_rfl) ⟨H.blockN hh kYs, H.get .here⟩ (fun _ hC => R_mv) ?_
    refine WA_take 1 rfl rfl rfl (by kernel_rfl) (by kernel_rfl) ⟨H.blockN hh kYs, H.get .here⟩ (fun _ hC => R_nilCheck rfl) ?_
    refine WA_take 2 rfl rfl rfl (by kernel_rfl) (by kernel_rfl) ⟨H.blockN hh kYs, H.get .here⟩ (fun _ hC => R_fieldAddr (off' := 4) Tryz.underlying139 rfl Tryz.sizeOf93 (by decide) rfl rfl) ?_
    refine WA_take 3 rfl rfl rfl (by kernel_rfl) (by kernel_rfl) ⟨H.blockN hh kYs, H.get .here⟩ (fun _ hC => R_load (v := ptr c 0) Tryz.isAgg93 rfl hC.1 rfl) ?_
    refine WA_takeM 4 rfl rfl rfl (by kernel_rfl) (by kernel_rfl) ⟨H.blockN hh kYs, H.get .here⟩ (fun _ hC => R_mv) ?_
    refine WA_take 5 rfl rfl rfl (by kernel_rfl) (by kernel_rfl) ⟨H.blockN hh kYs, H.get .here⟩ (fun _ hC => R_nilCheck rfl) ?_
    refine WA_take 6 rfl rfl rfl (by kernel_rfl) (by kernel_rfl) ⟨H.blockN hh kYs, H.get .here⟩ (fun _ hC => R_fieldAddr (off' := 2) Tryz.underlying139 rfl Tryz.sizeOf3 (by decide) rfl rfl) ?_
    refine WA_take 7 rfl rfl rfl (by kernel_rfl) (by kernel_rfl) ⟨H.blockN hh kYs, H.get .here⟩ (fun _ hC => R_load (v := I sl) Tryz.isAgg3 rfl hC.1 rfl) ?_
    refine WA_take 8 rfl rfl rfl (by kernel_rfl) (by kernel_rfl) ⟨H.blockN hh kYs, H.get .here⟩ (fun _ hC => Slot.R_loadP (p := p0) rfl hC.2) ?_
    refine WA_one (i := 9) (by kernel_rfl) ?_
    (refine WI_call rfl (.inl rfl) (R_call rfl Tryz.call58 rfl) (SetProc_ret (hM.keepN H kYs) hi p0 okp0 lenp0 (snd_nb hs _)) (by rintro _ w2 ⟨_, _, H1⟩ _; exact ⟨H1.blockT (T := [139]) (H.blockN hh kYs) (by simp [elT]) (Out.cons (H.blockN hbk kYs) (by simp [elT]) Out.nil), (H.seqB hbk kYs H1).get (.there .here)⟩) ?_; rintro _ w139 ⟨rfl, _, H1⟩; replace H := H.seqB hbk kYs H1; clear H1)
    refine WA_done (by kernel_rfl) ?_
    refine W_seq ?_
    refine W_seq ?_
    refine W_region_l ?_
    refine WL_step rfl (R_fieldAddr (off' := 11) Tryz.underlying40 rfl Tryz.sizeOf3 (by decide) rfl rfl) ?_
    refine WL_step rfl (R_load (v := I 0) Tryz.isAgg3 rfl (H.get (.there (.there (.there .here)))) rfl) ?_
    refine WL_step rfl (R_gt_f rfl rfl (by omega)) ?_
    refine WL_nil ?_
    refine W_cond_f rfl ?_
    refine W_skip ?_
    refine W_seq ?_
    refine W_region_l ?_
    refine WL_step rfl (R_loadA (vs := oC ss sl op' a' b' (.slice xa xl xc) n1 e1 B bk nilS 0) Tryz.isAgg40 Tryz.sizeOf40 rfl (H.get (.there (.there (.there .here)))) rfl (by simp [oC])) ?_
    (refine WL_effu rfl (E_storeA (vs := oC ss sl op' a' b' (.slice xa xl xc) n1 e1 B bk nilS 0) H Tryz.sizeOf40 rfl rfl (oC_one rfl hB rfl) (.there (.there .here)) (by simp [oC, z0])) ?_; clear H; intro w153 H; replace H : Hp w ((endB C sl).mB ++ [(c5, blk (Slot.piC p0) 58), (c4, blk (oC ss sl op' a' b' (.slice xa xl xc) n1 e1 B bk nilS 0) 40), (c3, blk (oC ss sl op' a' b' (.slice xa xl xc) n1 e1 B bk nilS 0) 40)]) w153 := H)
    refine WL_nil ?_
    refine W_ret ?_
    exact ⟨_, ⟨_, rfl, ldA Tryz.isAgg40 Tryz.sizeOf40 (H.get (.there (.there .here))) rfl (by simp [oC])⟩, rfl, H.cut kYs⟩
end
end Go.Proofs.YtlpmfldijgdcoaaGreatDoor.Ho

/-
  Hosts: a call is begun; the section is asked for; the call is done.
-/
namespace Go.Proofs.YtlpmfldijgdcoaaGreatDoor.Ho
open Go Go.Proofs Go.Proofs.YtlpmfldijgdcoaaGreatDoor.Fx Go.Proofs.YtlpmfldijgdcoaaGreatDoor.Kn Go.Proofs.YtlpmfldijgdcoaaGreatDoor.Cm Go.Proofs.YtlpmfldijgdcoaaGreatDoor.Sect
set_option maxRecDepth 100000
set_option linter.unusedVariables false
set_option linter.unusedSimpArgs false
set_option maxHeartbeats 8000000

/-- blocks of the outset, and new ones, turn beside blocks of one's own -/
theorem hp_olds {w0 w w' : World} {L M : List (Nat × Obj)} (H : Hp w0 L w) (hL : ∀ p ∈ L, w0.heap.size ≤ p.1) (H1 : Hp w M w') (hM : ∀ p ∈ M, p.1 < w0.heap.size ∨ w.heap.size ≤ p.1) : Hp w0 (M ++ L) w' := by
  have hd : ∀ p ∈ L, p.1 ∉ M.map (·.1) := fun p hp hm => by
    obtain ⟨q, hq, e⟩ := List.mem_map.1 hm
    have h1 := hL p hp
    have h2 := lt_of_some (H.held p hp)
    rcases hM q hq with h | h <;> omega
  refine ⟨H1.os.trans H.os, H1.tape.trans H.tape, H1.output.trans H.output, Nat.le_trans H.size H1.size, ?_, ?_, ?_⟩
  · intro k hk hn
    rw [List.map_append, List.mem_append, not_or] at hn
    rw [H1.old k (Nat.lt_of_lt_of_le hk H.size) hn.1]
    exact H.old k hk hn.2
  · intro p hp
    rcases List.mem_append.1 hp with hp | hp
    · exact H1.held p hp
    · rw [H1.old p.1 (lt_of_some (H.held p hp)) (hd p hp)]
      exact H.held p hp
  · rw [List.map_append, List.nodup_append]
    refine ⟨H1.nodup, H.nodup, ?_⟩
    intro a ha b hb e
    subst e
    obtain ⟨p, hp, rfl⟩ := List.mem_map.1 hb
    exact hd p hp ha

section
variable {w : World} {h e n sp c : Nat} {C : Cs} {S : Sx} {qv : Value} {sl : Nat} {ph st op a b : Int} {da : Option Addr} {dl dc : Nat}

/-- what the call for the parent tells -/
def parO (sl : Nat) (a b : Int) (D : Value) : List Value := oC 0 sl 17 a b D (-1) 0 nilS true nilS 0
theorem in_ret (hh : w.heap[h]? = some (blk [ptr C.κ.k 0, I e, I sl, I n, ptr c 0, I ph, I st, I 17, I a, I b, .slice da dl dc] 139)) (hM : CmI w c C) (hs : Snd C) (hi : sl < 8) (hp : C.pD sl = (p0, 1)) (hk : Ks w C.κ e n sp)
    (hsp : w.heap[sp]? = some (blk (sxC S qv) 170)) (hold : S.held = true ∧ S.who = e ∧ S.stamp = st) :
    Ret Tryz.prog 98 #[ptr h 0] w fun v w' => v = .tuple #[.agg (parO sl a b (.slice da dl dc)).toArray, .bool true] ∧
      Hp w ((endB C sl).mB ++ [(h, blk [ptr C.κ.k 0, I e, I sl, I n, ptr c 0, I 0, I st, I 17, I a, I b, .slice da dl dc] 139), (sp, blk (sxC (leaveSx S e st) qv) 170)]) w' := by
  refine Ret_of_WC (args := [_]) Tryz.func98 rfl Tryz.ntmps98 Tryz.results98 (by simp) ?_
  have H := Hp.refl w
  have hlt := lt_of_some hh
  have hlt2 := lt_of_some hsp
  refine W_seq ?_
  refine W_region_l ?_
  (refine WL_effn rfl (E_alloc (vs := z0) H Tryz.zeroValue40 rfl) ?_; clear H; intro c2 w3 hc2 H)
  refine WL_stepM rfl (R_as) ?_
  refine WL_nil ?_
  refine W_seq ?_
  refine W_seq ?_
  (refine W_drawH (fun _ => false) (by kernel_rfl) H ?_; clear H; intro w8 H)
  refine WA_takeM 0 rfl rfl rfl (by kernel_rfl) (by kernel_rfl) H (fun _ hC => R_mv) ?_
  refine WA_take 1 rfl rfl rfl (by kernel_rfl) (by kernel_rfl) H (fun _ hC => R_nilCheck rfl) ?_
  refine WA_take 2 rfl rfl rfl (by kernel_rfl) (by kernel_rfl) H (fun _ hC => R_fieldAddr (off' := 0) Tryz.underlying139 rfl Tryz.sizeOf71 (by decide) rfl rfl) ?_
  refine WA_take 3 rfl rfl rfl (by kernel_rfl) (by kernel_rfl) H (fun _ hC => R_load Tryz.isAgg71 rfl (hC.blockN hh kYs) rfl) ?_
  refine WA_takeM 4 rfl rfl rfl (by kernel_rfl) (by kernel_rfl) H (fun _ hC => R_mv) ?_
  refine WA_take 5 rfl rfl rfl (by kernel_rfl) (by kernel_rfl) H (fun _ hC => R_nilCheck rfl) ?_
  refine WA_take 6 rfl rfl rfl (by kernel_rfl) (by kernel_rfl) H (fun _ hC => R_fieldAddr (off' := 3) Tryz.underlying139 rfl Tryz.sizeOf3 (by decide) rfl rfl) ?_
  refine WA_take 7 rfl rfl rfl (by kernel_rfl) (by kernel_rfl) H (fun _ hC => R_load Tryz.isAgg3 rfl (hC.blockN hh kYs) rfl) ?_
  refine WA_takeM 9 rfl rfl rfl (by kernel_rfl) (by kernel_rfl) H (fun _ hC => R_mv) ?_
  refine WA_take 10 rfl rfl rfl (by kernel_rfl) (by kernel_rfl) H (fun _ hC => R_nilCheck rfl) ?_
  refine WA_take 11 rfl rfl rfl (by kernel_rfl) (by kernel_rfl) H (fun _ hC => R_fieldAddr (off' := 1) Tryz.underlying139 rfl Tryz.sizeOf3 (by decide) rfl rfl) ?_
  refine WA_take 12 rfl rfl rfl (by kernel_rfl) (by kernel_rfl) H (fun _ hC => R_load Tryz.isAgg3 rfl (hC.blockN hh kYs) rfl) ?_
  refine WA_takeM 13 rfl rfl rfl (by kernel_rfl) (by kernel_rfl) H (fun _ hC => R_mv) ?_
  refine WA_take 14 rfl rfl rfl (by kernel_rfl) (by kernel_rfl) H (fun _ hC => R_nilCheck rfl) ?_
  refine WA_take 15 rfl rfl rfl (by kernel_rfl) (by kernel_rfl) H (fun _ hC => R_fieldAddr (off' := 6) Tryz.underlying139 rfl Tryz.sizeOf3 (by decide) rfl rfl) ?_
  refine WA_take 16 rfl rfl rfl (by kernel_rfl) (by kernel_rfl) H (fun _ hC => R_load Tryz.isAgg3 rfl (hC.blockN hh kYs) rfl) ?_
  refine WA_one (i := 8) (by kernel_rfl) ?_
  (refine WI_call rfl (.inl rfl) (R_call rfl Tryz.call59 rfl) (by exact Sect_ret (hk.keepN H kYs)) (by first | exact fun _ _ hR _ => H.seq0 hR.2 | exact fun _ _ hR h => Bool.noConfusion h | exact fun _ _ hR _ => (H.seq0 hR.2).none kYs | exact fun _ _ hR _ => (H.seq0 hR.2).dropN kYs) ?_; rintro _ w26 ⟨rfl, H1⟩; replace H := H.seq0 H1; clear H1)
  refine WA_one (i := 17) (by kernel_rfl) ?_
  (refine WI_call rfl (.inl rfl) (R_call rfl Tryz.call132 rfl) (by exact holds0 (H.blockN hsp kYs) e st) (by first | exact fun _ _ hR _ => H.seq0 hR.2 | exact fun _ _ hR h => Bool.noConfusion h | exact fun _ _ hR _ => (H.seq0 hR.2).none kYs | exact fun _ _ hR _ => (H.seq0 hR.2).dropN kYs) ?_; rintro v w28 ⟨hv, H1⟩; rw [decide_eq_true hold] at hv; subst hv; replace H := H.seq0 H1; clear H1)
  refine WA_take 18 rfl rfl rfl (by kernel_rfl) (by kernel_rfl) H (fun _ hC => R_not_t rfl) ?_
  refine WA_done (by kernel_rfl) ?_
  refine W_cond_f rfl ?_
  refine W_skip ?_
  refine W_seq ?_
  (refine W_draw (KH w [(c2, blk z0 40)]) (fun _ => false) (by kernel_rfl) H ?_; clear H; intro w34 H)
  refine WA_takeM 0 rfl rfl rfl (by kernel_rfl) (by kernel_rfl) (H.kh (by simp) kYs) (fun _ hC => R_mv) ?_
  refine WA_take 1 rfl rfl rfl (by kernel_rfl) (by kernel_rfl) (H.kh (by simp) kYs) (fun _ hC => R_nilCheck rfl) ?_
  refine WA_take 2 rfl rfl rfl (by kernel_rfl) (by kernel_rfl) (H.kh (by simp) kYs) (fun _ hC => R_fieldAddr (off' := 4) Tryz.underlying139 rfl Tryz.sizeOf93 (by decide) rfl rfl) ?_
  refine WA_take 3 rfl rfl rfl (by kernel_rfl) (by kernel_rfl) (H.kh (by simp) kYs) (fun _ hC => R_load Tryz.isAgg93 rfl (hC.blockN hh kYs) rfl) ?_
  refine WA_takeM 4 rfl rfl rfl (by kernel_rfl) (by kernel_rfl) (H.kh (by simp) kYs) (fun _ hC => R_mv) ?_
  refine WA_take 5 rfl rfl rfl (by kernel_rfl) (by kernel_rfl) (H.kh (by simp) kYs) (fun _ hC => R_nilCheck rfl) ?_
  refine WA_take 6 rfl rfl rfl (by kernel_rfl) (by kernel_rfl) (H.kh (by simp) kYs) (fun _ hC => R_fieldAddr (off' := 2) Tryz.underlying139 rfl Tryz.sizeOf3 (by decide) rfl rfl) ?_
  refine WA_take 7 rfl rfl rfl (by kernel_rfl) (by kernel_rfl) (H.kh (by simp) kYs) (fun _ hC => R_load Tryz.isAgg3 rfl (hC.blockN hh kYs) rfl) ?_
  refine WA_takeM 8 rfl rfl rfl (by kernel_rfl) (by kernel_rfl) (H.kh (by simp) kYs) (fun _ hC => R_mv) ?_
  refine WA_take 9 rfl rfl rfl (by kernel_rfl) (by kernel_rfl) (H.kh (by simp) kYs) (fun _ hC => R_nilCheck rfl) ?_
  refine WA_take 10 rfl rfl rfl (by kernel_rfl) (by kernel_rfl) (H.kh (by simp) kYs) (fun _ hC => R_fieldAddr (off' := 7) Tryz.underlying139 rfl Tryz.sizeOf38 (by decide) rfl rfl) ?_
  refine WA_take 11 rfl rfl rfl (by kernel_rfl) (by kernel_rfl) (H.kh (by simp) kYs) (fun _ hC => R_loadA (vs := [I 17, I a, I b, .slice da dl dc]) Tryz.isAgg38 Tryz.sizeOf38 rfl (hC.blockN hh kYs) rfl (by simp)) ?_
  refine WA_two (i := 12) (j := 13) (by kernel_rfl) ?_ ?_
  · (refine WI_call rfl (.inl rfl) (R_call rfl Tryz.call133 rfl) (Do_parent (hM.keepN H kYs) hs hi hp rfl (by decide)) (fun _ _ hR _ => (H.seq0 hR.2).kh (by simp) kYs) ?_; rintro _ w48 ⟨rfl, H1⟩; replace H := H.seq0 H1; clear H1)
    refine WA_one (i := 13) (by kernel_rfl) ?_
    (refine WI_effnA rfl (.inl rfl) (E_alloc (vs := rtC 0 0 nilS false) H Tryz.zeroValue227 rfl) (fun _ _ _ H _ => H.kh (by simp) kYs) ?_; clear H; intro c4 w50 hc4 H)
    refine WA_one (i := 14) (by kernel_rfl) ?_
    (refine WI_effu rfl (.inl rfl) (E_storeA (vs := rtC (-1) 0 nilS false) H Tryz.sizeOf227 rfl rfl (by simp [rtC, Value.oneCell']) .here (by simp [rtC])) (fun _ H _ => H.kh (by simp) kYs) ?_; clear H; intro w52 H; replace H : Hp w [(c4, blk (rtC (-1) 0 nilS false) 227), (c2, blk z0 40)] w52 := H)
    refine WA_done (by kernel_rfl) ?_
    refine W_seq ?_
    refine W_seq ?_
    refine W_region_l ?_
    refine WL_step rfl (R_fieldAddr (off' := 3) Tryz.underlying227 rfl Tryz.sizeOf4 (by decide) rfl rfl) ?_
    refine WL_step rfl (R_load (v := .bool false) Tryz.isAgg4 rfl (H.get .here) rfl) ?_
    refine WL_nil ?_
    refine W_cond_f rfl ?_
    refine W_skip ?_
    refine W_seq ?_
    refine W_region_l ?_
    refine WL_stepM rfl (R_mv) ?_
    (refine WL_call rfl (R_call rfl Tryz.call96 rfl) (leave_ret (H.blockN hh kYs) (hk.keepN H kYs) (H.blockN hsp kYs) 0) ?_; rintro _ w65 ⟨rfl, H1⟩; replace H := hp_olds H kYs H1 (by intro p hp; simp only [List.mem_cons, List.not_mem_nil, or_false] at hp; rcases hp with rfl | rfl; exact .inl hlt; exact .inl hlt2); clear H1; replace H : Hp w [(h, blk [ptr C.κ.k 0, I e, I sl, I n, ptr c 0, I 0, I st, I 17, I a, I b, .slice da dl dc] 139), (sp, blk (sxC (leaveSx S e st) qv) 170), (c4, blk (rtC (-1) 0 nilS false) 227), (c2, blk z0 40)] w65 := H)
    refine WL_nil ?_
    refine W_seq ?_
    ((have m9 : True := trivial)) <;> refine W_region_l ?_
    refine WL_stepM rfl (R_mv) ?_
    refine WL_step rfl (R_loadA (vs := rtC (-1) 0 nilS false) Tryz.isAgg227 Tryz.sizeOf227 rfl (H.get (.there (.there .here))) rfl (by simp [rtC])) ?_
    (refine WL_call rfl (R_call rfl Tryz.call130 rfl) (back_ret (H.get .here)) ?_; rintro _ w71 ⟨rfl, H1⟩; replace H := H.seq0 H1; clear H1)
    (refine WL_effn rfl (E_alloc (vs := z0) H Tryz.zeroValue40 rfl) ?_; clear H; intro c5 w72 hc5 H)
    (have _g := m9; refine WL_effu rfl (E_storeA (vs := parO sl a b (.slice da dl dc)) H Tryz.sizeOf40 rfl rfl (oC_one rfl rfl rfl) .here (by simp [parO, oC, z0])) ?_; clear H; intro w73 H; replace H : Hp w [(c5, blk (parO sl a b (.slice da dl dc)) 40), (h, blk [ptr C.κ.k 0, I e, I sl, I n, ptr c 0, I 0, I st, I 17, I a, I b, .slice da dl dc] 139), (sp, blk (sxC (leaveSx S e st) qv) 170), (c4, blk (rtC (-1) 0 nilS false) 227), (c2, blk z0 40)] w73 := H)
    refine WL_nil ?_
    refine W_seq ?_
    refine W_seq ?_
    refine W_region_l ?_
    refine WL_stepM rfl (R_mv) ?_
    refine WL_step rfl (R_nilCheck rfl) ?_
    refine WL_step rfl (R_fieldAddr (off' := 7) Tryz.underlying139 rfl Tryz.sizeOf38 (by decide) rfl rfl) ?_
    refine WL_step rfl (R_fieldAddr (off' := 7) Tryz.underlying38 rfl Tryz.sizeOf3 (by decide) rfl rfl) ?_
    refine WL_step rfl (R_load (v := I 17) Tryz.isAgg3 rfl (H.get (.there .here)) rfl) ?_
    refine WL_step rfl (R_ne_t rfl rfl (by omega)) ?_
    refine WL_nil ?_
    refine W_cond_t rfl ?_
    ((have m11 : True := trivial; clear m9)) <;> refine W_region_l ?_
    refine WL_stepM rfl (R_mv) ?_
    refine WL_step rfl (R_loadA (vs := parO sl a b (.slice da dl dc)) Tryz.isAgg40 Tryz.sizeOf40 rfl (H.get .here) rfl (by simp [parO, oC])) ?_
    (have hM9 := hM.keep0 H (Out.new hc5 (Out.cons hh (by simp [cT, kT, elT]) (Out.cons hsp (by simp [cT, kT, elT]) (Out.new hc4 (Out.new hc2 Out.nil))))); refine WL_call rfl (R_call rfl Tryz.call100 rfl) (end_ret rfl rfl (H.get (.there .here)) hM9 hs hi hp) ?_; rintro _ w89 ⟨rfl, H1⟩; replace H := hp_addT H hM9.hK.hb (by simp [elT]) H1; clear H1)
    (have _g := m11; refine WL_effu rfl (E_storeA (vs := parO sl a b (.slice da dl dc)) H Tryz.sizeOf40 rfl rfl (oC_one rfl rfl rfl) (.there .here) (by simp [parO, oC, z0])) ?_; clear H; intro w90 H; replace H : Hp w ((endB C sl).mB ++ [(c5, blk (parO sl a b (.slice da dl dc)) 40), (h, blk [ptr C.κ.k 0, I e, I sl, I n, ptr c 0, I 0, I st, I 17, I a, I b, .slice da dl dc] 139), (sp, blk (sxC (leaveSx S e st) qv) 170), (c4, blk (rtC (-1) 0 nilS false) 227), (c2, blk z0 40)]) w90 := H)
    refine WL_nil ?_
    refine W_seq ?_
    ((have m12 : True := trivial; clear m11)) <;> refine W_region_l ?_
    refine WL_step rfl (R_loadA (vs := parO sl a b (.slice da dl dc)) Tryz.isAgg40 Tryz.sizeOf40 rfl (H.get (.there .here)) rfl (by simp [parO, oC])) ?_
    (have _g := m12; refine WL_effu rfl (E_storeA (vs := parO sl a b (.slice da dl dc)) H Tryz.sizeOf40 rfl rfl (oC_one rfl rfl rfl) (.there (.there (.there (.there (.there .here))))) (by simp [parO, oC, z0])) ?_; clear H; intro w95 H; replace H : Hp w ((endB C sl).mB ++ [(c5, blk (parO sl a b (.slice da dl dc)) 40), (h, blk [ptr C.κ.k 0, I e, I sl, I n, ptr c 0, I 0, I st, I 17, I a, I b, .slice da dl dc] 139), (sp, blk (sxC (leaveSx S e st) qv) 170), (c4, blk (rtC (-1) 0 nilS false) 227), (c2, blk (parO sl a b (.slice da dl dc)) 40)]) w95 := H)
    refine WL_stepM rfl (R_as) ?_
    refine WL_nil ?_
    refine W_ret ?_
    exact ⟨_, ⟨_, _, rfl, ldA Tryz.isAgg40 Tryz.sizeOf40 (H.get (.there (.there (.there (.there (.there .here)))))) rfl (by simp [parO, oC]), rfl⟩, rfl, Hp.cut (L := [_, _, _]) (M := [_, _]) (H.pop2 hc5) kYs⟩
  · (refine WI_effnA rfl (.inl rfl) (E_alloc (vs := rtC 0 0 nilS false) H Tryz.zeroValue227 rfl) (fun _ _ _ H _ => H.kh (by simp) kYs) ?_; clear H; intro c4 w100 hc4 H)
    refine WA_one (i := 12) (by kernel_rfl) ?_
    (refine WI_call rfl (.inl rfl) (R_call rfl Tryz.call133 rfl) (Do_parent (hM.keepN H kYs) hs hi hp rfl (by decide)) (fun _ _ hR _ => (H.seq0 hR.2).kh (by simp) kYs) ?_; rintro _ w102 ⟨rfl, H1⟩; replace H := H.seq0 H1; clear H1)
    refine WA_one (i := 14) (by kernel_rfl) ?_
    (refine WI_effu rfl (.inl rfl) (E_storeA (vs := rtC (-1) 0 nilS false) H Tryz.sizeOf227 rfl rfl (by simp [rtC, Value.oneCell']) .here (by simp [rtC])) (fun _ H _ => H.kh (by simp) kYs) ?_; clear H; intro w104 H; replace H : Hp w [(c4, blk (rtC (-1) 0 nilS false) 227), (c2, blk z0 40)] w104 := H)
    refine WA_done (by kernel_rfl) ?_
    refine W_seq ?_
    refine W_seq ?_
    refine W_region_l ?_
    refine WL_step rfl (R_fieldAddr (off' := 3) Tryz.underlying227 rfl Tryz.sizeOf4 (by decide) rfl rfl) ?_
    refine WL_step rfl (R_load (v := .bool false) Tryz.isAgg4 rfl (H.get .here) rfl) ?_
    refine WL_nil ?_
    refine W_cond_f rfl ?_
    refine W_skip ?_
    refine W_seq ?_
    refine W_region_l ?_
    refine WL_stepM rfl (R_mv) ?_
    (refine WL_call rfl (R_call rfl Tryz.call96 rfl) (leave_ret (H.blockN hh kYs) (hk.keepN H kYs) (H.blockN hsp kYs) 0) ?_; rintro _ w117 ⟨rfl, H1⟩; replace H := hp_olds H kYs H1 (by intro p hp; simp only [List.mem_cons, List.not_mem_nil, or_false] at hp; rcases hp with rfl | rfl; exact .inl hlt; exact .inl hlt2); clear H1; replace H : Hp w [(h, blk [ptr C.κ.k 0, I e, I sl, I n, ptr c 0, I 0, I st, I 17, I a, I b, .slice da dl dc] 139), (sp, blk (sxC (leaveSx S e st) qv) 170), (c4, blk (rtC (-1) 0 nilS false) 227), (c2, blk z0 40)] w117 := H)
    refine WL_nil ?_
    refine W_seq ?_
    ((have m9 : True := trivial)) <;> refine W_region_l ?_
    refine WL_stepM rfl (R_mv) ?_
    refine WL_step rfl (R_loadA (vs := rtC (-1) 0 nilS false) Tryz.isAgg227 Tryz.sizeOf227 rfl (H.get (.there (.there .here))) rfl (by simp [rtC])) ?_
    (refine WL_call rfl (R_call rfl Tryz.call130 rfl) (back_ret (H.get .here)) ?_; rintro _ w123 ⟨rfl, H1⟩; replace H := H.seq0 H1; clear H1)
    (refine WL_effn rfl (E_alloc (vs := z0) H Tryz.zeroValue40 rfl) ?_; clear H; intro c5 w124 hc5 H)
    (have _g := m9; refine WL_effu rfl (E_storeA (vs := parO sl a b (.slice da dl dc)) H Tryz.sizeOf40 rfl rfl (oC_one rfl rfl rfl) .here (by simp [parO, oC, z0])) ?_; clear H; intro w125 H; replace H : Hp w [(c5, blk (parO sl a b (.slice da dl dc)) 40), (h, blk [ptr C.κ.k 0, I e, I sl, I n, ptr c 0, I 0, I st, I 17, I a, I b, .slice da dl dc] 139), (sp, blk (sxC (leaveSx S e st) qv) 170), (c4, blk (rtC (-1) 0 nilS false) 227), (c2, blk z0 40)] w125 := H)
    refine WL_nil ?_
    refine W_seq ?_
    refine W_seq ?_
    refine W_region_l ?_
    refine WL_stepM rfl (R_mv) ?_
    refine WL_step rfl (R_nilCheck rfl) ?_
    refine WL_step rfl (R_fieldAddr (off' := 7) Tryz.underlying139 rfl Tryz.sizeOf38 (by decide) rfl rfl) ?_
    refine WL_step rfl (R_fieldAddr (off' := 7) Tryz.underlying38 rfl Tryz.sizeOf3 (by decide) rfl rfl) ?_
    refine WL_step rfl (R_load (v := I 17) Tryz.isAgg3 rfl (H.get (.there .here)) rfl) ?_
    refine WL_step rfl (R_ne_t rfl rfl (by omega)) ?_
    refine WL_nil ?_
    refine W_cond_t rfl ?_
    ((have m11 : True := trivial; clear m9)) <;> refine W_region_l ?_
    refine WL_stepM rfl (R_mv) ?_
    refine WL_step rfl (R_loadA (vs := parO sl a b (.slice da dl dc)) Tryz.isAgg40 Tryz.sizeOf40 rfl (H.get .here) rfl (by simp [parO, oC])) ?_
    (have hM9 := hM.keep0 H (Out.new hc5 (Out.cons hh (by simp [cT, kT, elT]) (Out.cons hsp (by simp [cT, kT, elT]) (Out.new hc4 (Out.new hc2 Out.nil))))); refine WL_call rfl (R_call rfl Tryz.call100 rfl) (end_ret rfl rfl (H.get (.there .here)) hM9 hs hi hp) ?_; rintro _ w141 ⟨rfl, H1⟩; replace H := hp_addT H hM9.hK.hb (by simp [elT]) H1; clear H1)
    (have _g := m11; refine WL_effu rfl (E_storeA (vs := parO sl a b (.slice da dl dc)) H Tryz.sizeOf40 rfl rfl (oC_one rfl rfl rfl) (.there .here) (by simp [parO, oC, z0])) ?_; clear H; intro w142 H; replace H : Hp w ((endB C sl).mB ++ [(c5, blk (parO sl a b (.slice da dl dc)) 40), (h, blk [ptr C.κ.k 0, I e, I sl, I n, ptr c 0, I 0, I st, I 17, I a, I b, .slice da dl dc] 139), (sp, blk (sxC (leaveSx S e st) qv) 170), (c4, blk (rtC (-1) 0 nilS false) 227), (c2, blk z0 40)]) w142 := H)
    refine WL_nil ?_
    refine W_seq ?_
    ((have m12 : True := trivial; clear m11)) <;> refine W_region_l ?_
    refine WL_step rfl (R_loadA (vs := parO sl a b (.slice da dl dc)) Tryz.isAgg40 Tryz.sizeOf40 rfl (H.get (.there .here)) rfl (by simp [parO, oC])) ?_
    (have _g := m12; refine WL_effu rfl (E_storeA (vs := parO sl a b (.slice da dl dc)) H Tryz.sizeOf40 rfl rfl (oC_one rfl rfl rfl) (.there (.there (.there (.there (.there .here))))) (by simp [parO, oC, z0])) ?_; clear H; intro w147 H; replace H : Hp w ((endB C sl).mB ++ [(c5, blk (parO sl a b (.slice da dl dc)) 40), (h, blk [ptr C.κ.k 0, I e, I sl, I n, ptr c 0, I 0, I st, I 17, I a, I b, .slice da dl dc] 139), (sp, blk (sxC (leaveSx S e st) qv) 170), (c4, blk (rtC (-1) 0 nilS false) 227), (c2, blk (parO sl a b (.slice da dl dc)) 40)]) w147 := H)
    refine WL_stepM rfl (R_as) ?_
    refine WL_nil ?_
    refine W_ret ?_
    exact ⟨_, ⟨_, _, rfl, ldA Tryz.isAgg40 Tryz.sizeOf40 (H.get (.there (.there (.there (.there (.there .here)))))) rfl (by simp [parO, oC]), rfl⟩, rfl, Hp.cut (L := [_, _, _]) (M := [_, _]) (H.pop2 hc5) kYs⟩
end
end Go.Proofs.YtlpmfldijgdcoaaGreatDoor.Ho

/-
  Hosts: picks; a call is begun.
-/
namespace Go.Proofs.YtlpmfldijgdcoaaGreatDoor.Ho
open Go Go.Proofs Go.Proofs.YtlpmfldijgdcoaaGreatDoor.Fx Go.Proofs.YtlpmfldijgdcoaaGreatDoor.Kn Go.Proofs.YtlpmfldijgdcoaaGreatDoor.Cm Go.Proofs.YtlpmfldijgdcoaaGreatDoor.Sect
set_option maxRecDepth 100000
set_option linter.unusedVariables false
set_option linter.unusedSimpArgs false
set_option maxHeartbeats 8000000

section
variable {w : World} {h e n sp c : Nat} {C : Cs} {S : Sx} {qv : Value} {sl : Nat} {ph st op a b : Int} {da : Option Addr} {dl dc : Nat}

theorem pick_in (hh : w.heap[h]? = some (blk [ptr C.κ.k 0, I e, I sl, I n, ptr c 0, I 2, I st, I 17, I a, I b, .slice da dl dc] 139)) (hM : CmI w c C) (hs : Snd C) (hi : sl < 8) (hp : C.pD sl = (p0, 1)) (hk : Ks w C.κ e n sp)
    (hsp : w.heap[sp]? = some (blk (sxC S qv) 170)) (hold : S.held = true ∧ S.who = e ∧ S.stamp = st) :
    Ret Tryz.prog 61 #[ptr h 0] w fun v w' => v = .tuple #[.agg (parO sl a b (.slice da dl dc)).toArray, .bool true] ∧
      Hp w ((endB C sl).mB ++ [(h, blk [ptr C.κ.k 0, I e, I sl, I n, ptr c 0, I 0, I st, I 17, I a, I b, .slice da dl dc] 139), (sp, blk (sxC (leaveSx S e st) qv) 170)]) w' := by
  refine Ret_of_WC (args := [_]) Tryz.func61 rfl Tryz.ntmps61 Tryz.results61 (by simp) ?_
  have H := Hp.refl w
  have hlt := lt_of_some hh
  have hlt2 := lt_of_some hsp
  have hlt3 := lt_of_some hM.hK.hb
  refine W_seq ?_
  refine W_region_l ?_
  (refine WL_effn rfl (E_alloc (vs := z0) H Tryz.zeroValue40 rfl) ?_; clear H; intro c2 w3 hc2 H)
  refine WL_stepM rfl (R_as) ?_
  refine WL_nil ?_
  refine W_seq ?_
  refine W_region_l ?_
  refine WL_stepM rfl (R_mv) ?_
  refine WL_step rfl (R_nilCheck rfl) ?_
  refine WL_step rfl (R_fieldAddr (off' := 4) Tryz.underlying139 rfl Tryz.sizeOf93 (by decide) rfl rfl) ?_
  refine WL_step rfl (R_load Tryz.isAgg93 rfl (H.blockN hh kYs) rfl) ?_
  (refine WL_call rfl (R_call rfl Tryz.call63 rfl) (Look_ret (hM.keepN H kYs) hs) ?_; rintro _ w12 ⟨rfl, H1⟩; replace H := H.seq0 H1; clear H1)
  refine WL_nil ?_
  refine W_seq ?_
  (refine W_draw (KH w [(c2, blk z0 40)]) (fun _ => false) (by kernel_rfl) H ?_; clear H; intro w15 H)
  refine WA_takeM 0 rfl rfl rfl (by kernel_rfl) (by kernel_rfl) (H.kh (by simp) kYs) (fun _ hC => R_mv) ?_
  refine WA_take 1 rfl rfl rfl (by kernel_rfl) (by kernel_rfl) (H.kh (by simp) kYs) (fun _ hC => R_nilCheck rfl) ?_
  refine WA_take 2 rfl rfl rfl (by kernel_rfl) (by kernel_rfl) (H.kh (by simp) kYs) (fun _ hC => R_fieldAddr (off' := 4) Tryz.underlying139 rfl Tryz.sizeOf93 (by decide) rfl rfl) ?_
  refine WA_take 3 rfl rfl rfl (by kernel_rfl) (by kernel_rfl) (H.kh (by simp) kYs) (fun _ hC => R_load Tryz.isAgg93 rfl (hC.blockN hh kYs) rfl) ?_
  refine WA_takeM 4 rfl rfl rfl (by kernel_rfl) (by kernel_rfl) (H.kh (by simp) kYs) (fun _ hC => R_mv) ?_
  refine WA_take 5 rfl rfl rfl (by kernel_rfl) (by kernel_rfl) (H.kh (by simp) kYs) (fun _ hC => R_nilCheck rfl) ?_
  refine WA_take 6 rfl rfl rfl (by kernel_rfl) (by kernel_rfl) (H.kh (by simp) kYs) (fun _ hC => R_fieldAddr (off' := 2) Tryz.underlying139 rfl Tryz.sizeOf3 (by decide) rfl rfl) ?_
  refine WA_take 7 rfl rfl rfl (by kernel_rfl) (by kernel_rfl) (H.kh (by simp) kYs) (fun _ hC => R_load Tryz.isAgg3 rfl (hC.blockN hh kYs) rfl) ?_
  refine WA_two (i := 8) (j := 12) (by kernel_rfl) ?_ ?_
  · (refine WI_call rfl (.inl rfl) (R_call rfl Tryz.call64 rfl) (Proc_to (hM.keepN H kYs) hs hi hp) (fun _ _ hR _ => (H.seq0 hR.2).kh (by simp) kYs) ?_; rintro _ w25 ⟨rfl, H1⟩; replace H := H.seq0 H1; clear H1)
    refine WA_takeM 9 rfl rfl rfl (by kernel_rfl) (by kernel_rfl) (H.kh (by simp) kYs) (fun _ hC => R_mv) ?_
    refine WA_take 10 rfl rfl rfl (by kernel_rfl) (by kernel_rfl) (H.kh (by simp) kYs) (fun _ hC => R_extract rfl rfl) ?_
    refine WA_take 11 rfl rfl rfl (by kernel_rfl) (by kernel_rfl) (H.kh (by simp) kYs) (fun _ hC => R_extract rfl rfl) ?_
    refine WA_one (i := 12) (by kernel_rfl) ?_
    (refine WI_effnA rfl (.inl rfl) (Slot.E_allocP H) (fun _ _ _ H _ => H.kh (by simp) kYs) ?_; clear H; intro c4 w30 hc4 H)
    refine WA_one (i := 13) (by kernel_rfl) ?_
    (refine WI_effu rfl (.inl rfl) (Slot.E_storeP H rfl rfl .here) (fun _ H _ => H.kh (by simp) kYs) ?_; clear H; intro w32 H)
    refine WA_takeM 14 rfl rfl rfl (by kernel_rfl) (by kernel_rfl) (H.kh (by simp) kYs) (fun _ hC => R_as) ?_
    refine WA_done (by kernel_rfl) ?_
    refine W_seq ?_
    refine W_block ?_
    refine W_seq ?_
    refine W_region_l ?_
    refine WL_stepM rfl (R_mv) ?_
    refine WL_step rfl (R_eq_f rfl rfl (by omega)) ?_
    refine WL_stepM rfl (R_as) ?_
    refine WL_nil ?_
    refine W_cond_f rfl ?_
    refine W_seq ?_
    refine W_region_l ?_
    refine WL_stepM rfl (R_mv) ?_
    refine WL_step rfl (R_eq_f rfl rfl (by omega)) ?_
    refine WL_stepM rfl (R_mv) ?_
    refine WL_guard_t rfl rfl ?_
    refine WL_step rfl (R_fieldAddr (off' := 0) Tryz.underlying58 rfl Tryz.sizeOf3 (by decide) rfl rfl) ?_
    refine WL_guard_t rfl rfl ?_
    refine WL_step rfl (R_load (v := I 1) Tryz.isAgg3 rfl (H.get .here) rfl) ?_
    refine WL_guard_t rfl rfl ?_
    refine WL_step rfl (R_eq_f rfl rfl (by omega)) ?_
    refine WL_stepM rfl (R_pk_f rfl) ?_
    refine WL_stepM rfl (R_as) ?_
    refine WL_nil ?_
    refine W_cond_f rfl ?_
    refine W_seq ?_
    refine W_region_l ?_
    refine WL_step rfl (R_fieldAddr (off' := 0) Tryz.underlying58 rfl Tryz.sizeOf3 (by decide) rfl rfl) ?_
    refine WL_step rfl (R_load (v := I 1) Tryz.isAgg3 rfl (H.get .here) rfl) ?_
    refine WL_step rfl (R_eq_f rfl rfl (by omega)) ?_
    refine WL_stepM rfl (R_as) ?_
    refine WL_nil ?_
    refine W_cond_f rfl ?_
    refine W_skip ?_
    refine W_seq ?_
    refine W_seq ?_
    refine W_region_l ?_
    refine WL_stepM rfl (R_mv) ?_
    refine WL_step rfl (R_nilCheck rfl) ?_
    refine WL_step rfl (R_fieldAddr (off' := 5) Tryz.underlying139 rfl Tryz.sizeOf3 (by decide) rfl rfl) ?_
    refine WL_step rfl (R_load (v := I 2) Tryz.isAgg3 rfl (H.blockN hh kYs) rfl) ?_
    refine WL_nil ?_
    refine W_block ?_
    refine W_seq ?_
    refine W_region_l ?_
    refine WL_step rfl (R_eq_f rfl rfl (by omega)) ?_
    refine WL_stepM rfl (R_as) ?_
    refine WL_nil ?_
    refine W_cond_f rfl ?_
    refine W_seq ?_
    refine W_region_l ?_
    refine WL_step rfl (R_eq_t rfl rfl (by omega)) ?_
    refine WL_stepM rfl (R_as) ?_
    refine WL_nil ?_
    refine W_cond_t rfl ?_
    refine W_seq ?_
    refine W_region_l ?_
    refine WL_stepM rfl (R_mv) ?_
    (refine WL_call rfl (R_call rfl Tryz.call98 rfl) (in_ret (H.blockN hh kYs) (hM.keepN H kYs) hs hi hp (hk.keepN H kYs) (H.blockN hsp kYs) hold) ?_; rintro _ w92 ⟨rfl, H1⟩; replace H := hp_olds H kYs H1 (by intro p hp; simp only [Cs.mB, List.cons_append, List.nil_append, List.mem_cons, List.not_mem_nil, or_false] at hp; rcases hp with rfl | rfl | rfl; exact .inl hlt3; exact .inl hlt; exact .inl hlt2); clear H1)
    refine WL_step rfl (R_extract rfl rfl) ?_
    refine WL_step rfl (R_extract rfl rfl) ?_
    (refine WL_effu rfl (E_storeA (vs := parO sl a b (.slice da dl dc)) H Tryz.sizeOf40 rfl rfl (oC_one rfl rfl rfl) (.there (.there (.there (.there .here)))) (by simp [parO, oC, z0])) ?_; clear H; intro w95 H; replace H : Hp w ((endB C sl).mB ++ [(h, blk [ptr C.κ.k 0, I e, I sl, I n, ptr c 0, I 0, I st, I 17, I a, I b, .slice da dl dc] 139), (sp, blk (sxC (leaveSx S e st) qv) 170), (c4, blk (Slot.piC p0) 58), (c2, blk (parO sl a b (.slice da dl dc)) 40)]) w95 := H)
    refine WL_stepM rfl (R_as) ?_
    refine WL_nil ?_
    refine W_ret ?_
    exact ⟨_, ⟨_, _, rfl, ldA Tryz.isAgg40 Tryz.sizeOf40 (H.get (.there (.there (.there (.there .here))))) rfl (by simp [parO, oC]), rfl⟩, rfl, Hp.cut (L := [_, _, _]) (M := [_, _]) H kYs⟩
  · (refine WI_effnA rfl (.inl rfl) (Slot.E_allocP H) (fun _ _ _ H _ => H.kh (by simp) kYs) ?_; clear H; intro c4 w100 hc4 H)
    refine WA_one (i := 8) (by kernel_rfl) ?_
    (refine WI_call rfl (.inl rfl) (R_call rfl Tryz.call64 rfl) (Proc_to (hM.keepN H kYs) hs hi hp) (fun _ _ hR _ => (H.seq0 hR.2).kh (by simp) kYs) ?_; rintro _ w102 ⟨rfl, H1⟩; replace H := H.seq0 H1; clear H1)
    refine WA_takeM 9 rfl rfl rfl (by kernel_rfl) (by kernel_rfl) (H.kh (by simp) kYs) (fun _ hC => R_mv) ?_
    refine WA_take 10 rfl rfl rfl (by kernel_rfl) (by kernel_rfl) (H.kh (by simp) kYs) (fun _ hC => R_extract rfl rfl) ?_
    refine WA_take 11 rfl rfl rfl (by kernel_rfl) (by kernel_rfl) (H.kh (by simp) kYs) (fun _ hC => R_extract rfl rfl) ?_
    refine WA_one (i := 13) (by kernel_rfl) ?_
    (refine WI_effu rfl (.inl rfl) (Slot.E_storeP H rfl rfl .here) (fun _ H _ => H.kh (by simp) kYs) ?_; clear H; intro w107 H)
    refine WA_takeM 14 rfl rfl rfl (by kernel_rfl) (by kernel_rfl) (H.kh (by simp) kYs) (fun _ hC => R_as) ?_
    refine WA_done (by kernel_rfl) ?_
    refine W_seq ?_
    refine W_block ?_
    refine W_seq ?_
    refine W_region_l ?_
    refine WL_stepM rfl (R_mv) ?_
    refine WL_step rfl (R_eq_f rfl rfl (by omega)) ?_
    refine WL_stepM rfl (R_as) ?_
    refine WL_nil ?_
    refine W_cond_f rfl ?_
    refine W_seq ?_
    refine W_region_l ?_
    refine WL_stepM rfl (R_mv) ?_
    refine WL_step rfl (R_eq_f rfl rfl (by omega)) ?_
    refine WL_stepM rfl (R_mv) ?_
    refine WL_guard_t rfl rfl ?_
    refine WL_step rfl (R_fieldAddr (off' := 0) Tryz.underlying58 rfl Tryz.sizeOf3 (by decide) rfl rfl) ?_
    refine WL_guard_t rfl rfl ?_
    refine WL_step rfl (R_load (v := I 1) Tryz.isAgg3 rfl (H.get .here) rfl) ?_
    refine WL_guard_t rfl rfl ?_
    refine WL_step rfl (R_eq_f rfl rfl (by omega)) ?_
    refine WL_stepM rfl (R_pk_f rfl) ?_
    refine WL_stepM rfl (R_as) ?_
    refine WL_nil ?_
    refine W_cond_f rfl ?_
    refine W_seq ?_
    refine W_region_l ?_
    refine WL_step rfl (R_fieldAddr (off' := 0) Tryz.underlying58 rfl Tryz.sizeOf3 (by decide) rfl rfl) ?_
    refine WL_step rfl (R_load (v := I 1) Tryz.isAgg3 rfl (H.get .here) rfl) ?_
    refine WL_step rfl (R_eq_f rfl rfl (by omega)) ?_
    refine WL_stepM rfl (R_as) ?_
    refine WL_nil ?_
    refine W_cond_f rfl ?_
    refine W_skip ?_
    refine W_seq ?_
    refine W_seq ?_
    refine W_region_l ?_
    refine WL_stepM rfl (R_mv) ?_
    refine WL_step rfl (R_nilCheck rfl) ?_
    refine WL_step rfl (R_fieldAddr (off' := 5) Tryz.underlying139 rfl Tryz.sizeOf3 (by decide) rfl rfl) ?_
    refine WL_step rfl (R_load (v := I 2) Tryz.isAgg3 rfl (H.blockN hh kYs) rfl) ?_
    refine WL_nil ?_
    refine W_block ?_
    refine W_seq ?_
    refine W_region_l ?_
    refine WL_step rfl (R_eq_f rfl rfl (by omega)) ?_
    refine WL_stepM rfl (R_as) ?_
    refine WL_nil ?_
    refine W_cond_f rfl ?_
    refine W_seq ?_
    refine W_region_l ?_
    refine WL_step rfl (R_eq_t rfl rfl (by omega)) ?_
    refine WL_stepM rfl (R_as) ?_
    refine WL_nil ?_
    refine W_cond_t rfl ?_
    refine W_seq ?_
    refine W_region_l ?_
    refine WL_stepM rfl (R_mv) ?_
    (refine WL_call rfl (R_call rfl Tryz.call98 rfl) (in_ret (H.blockN hh kYs) (hM.keepN H kYs) hs hi hp (hk.keepN H kYs) (H.blockN hsp kYs) hold) ?_; rintro _ w167 ⟨rfl, H1⟩; replace H := hp_olds H kYs H1 (by intro p hp; simp only [Cs.mB, List.cons_append, List.nil_append, List.mem_cons, List.not_mem_nil, or_false] at hp; rcases hp with rfl | rfl | rfl; exact .inl hlt3; exact .inl hlt; exact .inl hlt2); clear H1)
    refine WL_step rfl (R_extract rfl rfl) ?_
    refine WL_step rfl (R_extract rfl rfl) ?_
    (refine WL_effu rfl (E_storeA (vs := parO sl a b (.slice da dl dc)) H Tryz.sizeOf40 rfl rfl (oC_one rfl rfl rfl) (.there (.there (.there (.there .here)))) (by simp [parO, oC, z0])) ?_; clear H; intro w170 H; replace H : Hp w ((endB C sl).mB ++ [(h, blk [ptr C.κ.k 0, I e, I sl, I n, ptr c 0, I 0, I st, I 17, I a, I b, .slice da dl dc] 139), (sp, blk (sxC (leaveSx S e st) qv) 170), (c4, blk (Slot.piC p0) 58), (c2, blk (parO sl a b (.slice da dl dc)) 40)]) w170 := H)
    refine WL_stepM rfl (R_as) ?_
    refine WL_nil ?_
    refine W_ret ?_
    exact ⟨_, ⟨_, _, rfl, ldA Tryz.isAgg40 Tryz.sizeOf40 (H.get (.there (.there (.there (.there .here))))) rfl (by simp [parO, oC]), rfl⟩, rfl, Hp.cut (L := [_, _, _]) (M := [_, _]) H kYs⟩

theorem pick_want {T st2 : Int} (hh : w.heap[h]? = some (blk [ptr C.κ.k 0, I e, I sl, I n, ptr c 0, I 1, I st, I op, I a, I b, .slice da dl dc] 139)) (hM : CmI w c C) (hs : Snd C) (hi : sl < 8) (hp : C.pD sl = (p0, 1)) (hk : Ks w C.κ e n sp)
    (hsp : w.heap[sp]? = some (blk (sxC S nilS) 170)) (hq : S.q = []) (hB : Bd S T) (hT : T ≤ 1000000) (hn : 0 ≤ C.κ.now ∧ C.κ.now ≤ T) (hst : (enter S e C.κ.now).2.1 = st2) (hst0 : 0 < st2) :
    Ret Tryz.prog 61 #[ptr h 0] w fun v w' => ∃ qv M, v = .tuple #[.agg z0.toArray, .bool false] ∧ (∀ p ∈ M, w.heap.size ≤ p.1) ∧
      Hp w ((h, blk [ptr C.κ.k 0, I e, I sl, I n, ptr c 0, I 2, I st2, I op, I a, I b, .slice da dl dc] 139) :: (M ++ [(sp, blk (sxC (enter S e C.κ.now).1 qv) 170)])) w' := by
  refine Ret_of_WC (args := [_]) Tryz.func61 rfl Tryz.ntmps61 Tryz.results61 (by simp) ?_
  have H := Hp.refl w
  have hlt := lt_of_some hh
  have hlt2 := lt_of_some hsp
  refine W_seq ?_
  refine W_region_l ?_
  (refine WL_effn rfl (E_alloc (vs := z0) H Tryz.zeroValue40 rfl) ?_; clear H; intro c2 w3 hc2 H)
  refine WL_stepM rfl (R_as) ?_
  refine WL_nil ?_
  refine W_seq ?_
  refine W_region_l ?_
  refine WL_stepM rfl (R_mv) ?_
  refine WL_step rfl (R_nilCheck rfl) ?_
  refine WL_step rfl (R_fieldAddr (off' := 4) Tryz.underlying139 rfl Tryz.sizeOf93 (by decide) rfl rfl) ?_
  refine WL_step rfl (R_load Tryz.isAgg93 rfl (H.blockN hh kYs) rfl) ?_
  (refine WL_call rfl (R_call rfl Tryz.call63 rfl) (Look_ret (hM.keepN H kYs) hs) ?_; rintro _ w12 ⟨rfl, H1⟩; replace H := H.seq0 H1; clear H1)
  refine WL_nil ?_
  refine W_seq ?_
  (refine W_draw (KH w [(c2, blk z0 40)]) (fun _ => false) (by kernel_rfl) H ?_; clear H; intro w15 H)
  refine WA_takeM 0 rfl rfl rfl (by kernel_rfl) (by kernel_rfl) (H.kh (by simp) kYs) (fun _ hC => R_mv) ?_
  refine WA_take 1 rfl rfl rfl (by kernel_rfl) (by kernel_rfl) (H.kh (by simp) kYs) (fun _ hC => R_nilCheck rfl) ?_
  refine WA_take 2 rfl rfl rfl (by kernel_rfl) (by kernel_rfl) (H.kh (by simp) kYs) (fun _ hC => R_fieldAddr (off' := 4) Tryz.underlying139 rfl Tryz.sizeOf93 (by decide) rfl rfl) ?_
  refine WA_take 3 rfl rfl rfl (by kernel_rfl) (by kernel_rfl) (H.kh (by simp) kYs) (fun _ hC => R_load Tryz.isAgg93 rfl (hC.blockN hh kYs) rfl) ?_
  refine WA_takeM 4 rfl rfl rfl (by kernel_rfl) (by kernel_rfl) (H.kh (by simp) kYs) (fun _ hC => R_mv) ?_
  refine WA_take 5 rfl rfl rfl (by kernel_rfl) (by kernel_rfl) (H.kh (by simp) kYs) (fun _ hC => R_nilCheck rfl) ?_
  refine WA_take 6 rfl rfl rfl (by kernel_rfl) (by kernel_rfl) (H.kh (by simp) kYs) (fun _ hC => R_fieldAddr (off' := 2) Tryz.underlying139 rfl Tryz.sizeOf3 (by decide) rfl rfl) ?_
  refine WA_take 7 rfl rfl rfl (by kernel_rfl) (by kernel_rfl) (H.kh (by simp) kYs) (fun _ hC => R_load Tryz.isAgg3 rfl (hC.blockN hh kYs) rfl) ?_
  refine WA_two (i := 8) (j := 12) (by kernel_rfl) ?_ ?_
  · (refine WI_call rfl (.inl rfl) (R_call rfl Tryz.call64 rfl) (Proc_to (hM.keepN H kYs) hs hi hp) (fun _ _ hR _ => (H.seq0 hR.2).kh (by simp) kYs) ?_; rintro _ w25 ⟨rfl, H1⟩; replace H := H.seq0 H1; clear H1)
    refine WA_takeM 9 rfl rfl rfl (by kernel_rfl) (by kernel_rfl) (H.kh (by simp) kYs) (fun _ hC => R_mv) ?_
    refine WA_take 10 rfl rfl rfl (by kernel_rfl) (by kernel_rfl) (H.kh (by simp) kYs) (fun _ hC => R_extract rfl rfl) ?_
    refine WA_take 11 rfl rfl rfl (by kernel_rfl) (by kernel_rfl) (H.kh (by simp) kYs) (fun _ hC => R_extract rfl rfl) ?_
    refine WA_one (i := 12) (by kernel_rfl) ?_
    (refine WI_effnA rfl (.inl rfl) (Slot.E_allocP H) (fun _ _ _ H _ => H.kh (by simp) kYs) ?_; clear H; intro c4 w30 hc4 H)
    refine WA_one (i := 13) (by kernel_rfl) ?_
    (refine WI_effu rfl (.inl rfl) (Slot.E_storeP H rfl rfl .here) (fun _ H _ => H.kh (by simp) kYs) ?_; clear H; intro w32 H)
    refine WA_takeM 14 rfl rfl rfl (by kernel_rfl) (by kernel_rfl) (H.kh (by simp) kYs) (fun _ hC => R_as) ?_
    refine WA_done (by kernel_rfl) ?_
    refine W_seq ?_
    refine W_block ?_
    refine W_seq ?_
    refine W_region_l ?_
    refine WL_stepM rfl (R_mv) ?_
    refine WL_step rfl (R_eq_f rfl rfl (by omega)) ?_
    refine WL_stepM rfl (R_as) ?_
    refine WL_nil ?_
    refine W_cond_f rfl ?_
    refine W_seq ?_
    refine W_region_l ?_
    refine WL_stepM rfl (R_mv) ?_
    refine WL_step rfl (R_eq_f rfl rfl (by omega)) ?_
    refine WL_stepM rfl (R_mv) ?_
    refine WL_guard_t rfl rfl ?_
    refine WL_step rfl (R_fieldAddr (off' := 0) Tryz.underlying58 rfl Tryz.sizeOf3 (by decide) rfl rfl) ?_
    refine WL_guard_t rfl rfl ?_
    refine WL_step rfl (R_load (v := I 1) Tryz.isAgg3 rfl (H.get .here) rfl) ?_
    refine WL_guard_t rfl rfl ?_
    refine WL_step rfl (R_eq_f rfl rfl (by omega)) ?_
    refine WL_stepM rfl (R_pk_f rfl) ?_
    refine WL_stepM rfl (R_as) ?_
    refine WL_nil ?_
    refine W_cond_f rfl ?_
    refine W_seq ?_
    refine W_region_l ?_
    refine WL_step rfl (R_fieldAddr (off' := 0) Tryz.underlying58 rfl Tryz.sizeOf3 (by decide) rfl rfl) ?_
    refine WL_step rfl (R_load (v := I 1) Tryz.isAgg3 rfl (H.get .here) rfl) ?_
    refine WL_step rfl (R_eq_f rfl rfl (by omega)) ?_
    refine WL_stepM rfl (R_as) ?_
    refine WL_nil ?_
    refine W_cond_f rfl ?_
    refine W_skip ?_
    refine W_seq ?_
    refine W_seq ?_
    refine W_region_l ?_
    refine WL_stepM rfl (R_mv) ?_
    refine WL_step rfl (R_nilCheck rfl) ?_
    refine WL_step rfl (R_fieldAddr (off' := 5) Tryz.underlying139 rfl Tryz.sizeOf3 (by decide) rfl rfl) ?_
    refine WL_step rfl (R_load (v := I 1) Tryz.isAgg3 rfl (H.blockN hh kYs) rfl) ?_
    refine WL_nil ?_
    refine W_block ?_
    refine W_seq ?_
    refine W_region_l ?_
    refine WL_step rfl (R_eq_t rfl rfl (by omega)) ?_
    refine WL_stepM rfl (R_as) ?_
    refine WL_nil ?_
    refine W_cond_t rfl ?_
    refine W_region_l ?_
    refine WL_stepM rfl (R_mv) ?_
    (refine WL_call rfl (R_call rfl Tryz.call97 rfl) (want_ret (H.blockN hh kYs) (hk.keepN H kYs) (H.blockN hsp kYs) hq hB hT hn hst hst0) ?_; rintro _ w85 ⟨qv, M, rfl, hM2, H1⟩; have h9 : ∀ p ∈ M, w.heap.size ≤ p.1 := fun p hp => Nat.le_trans H.size (hM2 p hp); replace H := hp_olds H kYs H1 (by intro p hp; rcases List.mem_cons.1 hp with rfl | hp; exact .inl hlt; rcases List.mem_append.1 hp with hp | hp; exact .inr (hM2 p hp); rw [List.mem_singleton] at hp; subst hp; exact .inl hlt2); clear H1; replace H : Hp w ((h, blk [ptr C.κ.k 0, I e, I sl, I n, ptr c 0, I 2, I st2, I op, I a, I b, .slice da dl dc] 139) :: (M ++ (sp, blk (sxC (enter S e C.κ.now).1 qv) 170) :: [(c4, blk (Slot.piC p0) 58), (c2, blk z0 40)])) w85 := by simpa using H)
    refine WL_nil ?_
    refine W_seq ?_
    refine W_region_l ?_
    refine WL_step rfl (R_buildL (places := [(0, 1), (1, 1), (2, 4), (6, 1), (7, 1), (8, 1), (9, 1), (10, 1), (11, 1)]) (vs := z0) Tryz.underlying40 Tryz.typeInfo40 rfl rfl (by kernel_rfl) rfl rfl rfl) ?_
    (refine WL_effu rfl (E_storeA (vs := z0) H Tryz.sizeOf40 rfl rfl (oC_one rfl rfl rfl) (.there (.app _ (.there (.there .here)))) (by simp [z0, oC])) ?_; clear H; intro w90 H; replace H : Hp w ((h, blk [ptr C.κ.k 0, I e, I sl, I n, ptr c 0, I 2, I st2, I op, I a, I b, .slice da dl dc] 139) :: (M ++ (sp, blk (sxC (enter S e C.κ.now).1 qv) 170) :: [(c4, blk (Slot.piC p0) 58), (c2, blk z0 40)])) w90 := H)
    refine WL_stepM rfl (R_as) ?_
    refine WL_nil ?_
    refine W_ret ?_
    exact ⟨_, ⟨_, _, rfl, ldA Tryz.isAgg40 Tryz.sizeOf40 (H.get (.there (.app _ (.there (.there .here))))) rfl (by simp [z0, oC]), rfl⟩, qv, M, rfl, h9, Hp.cut (L := (h, _) :: (M ++ [(sp, _)])) (M := [_, _]) (by simpa using H) kYs⟩
  · (refine WI_effnA rfl (.inl rfl) (Slot.E_allocP H) (fun _ _ _ H _ => H.kh (by simp) kYs) ?_; clear H; intro c4 w95 hc4 H)
    refine WA_one (i := 8) (by kernel_rfl) ?_
    (refine WI_call rfl (.inl rfl) (R_call rfl Tryz.call64 rfl) (Proc_to (hM.keepN H kYs) hs hi hp) (fun _ _ hR _ => (H.seq0 hR.2).kh (by simp) kYs) ?_; rintro _ w97 ⟨rfl, H1⟩; replace H := H.seq0 H1; clear H1)
    refine WA_takeM 9 rfl rfl rfl (by kernel_rfl) (by kernel_rfl) (H.kh (by simp) kYs) (fun _ hC => R_mv) ?_
    refine WA_take 10 rfl rfl rfl (by kernel_rfl) (by kernel_rfl) (H.kh (by simp) kYs) (fun _ hC => R_extract rfl rfl) ?_
    refine WA_take 11 rfl rfl rfl (by kernel_rfl) (by kernel_rfl) (H.kh (by simp) kYs) (fun _ hC => R_extract rfl rfl) ?_
    refine WA_one (i := 13) (by kernel_rfl) ?_
    (refine WI_effu rfl (.inl rfl) (Slot.E_storeP H rfl rfl .here) (fun _ H _ => H.kh (by simp) kYs) ?_; clear H; intro w102 H)
    refine WA_takeM 14 rfl rfl rfl (by kernel_rfl) (by kernel_rfl) (H.kh (by simp) kYs) (fun _ hC => R_as) ?_
    refine WA_done (by kernel_rfl) ?_
    refine W_seq ?_
    refine W_block ?_
    refine W_seq ?_
    refine W_region_l ?_
    refine WL_stepM rfl (R_mv) ?_
    refine WL_step rfl (R_eq_f rfl rfl (by omega)) ?_
    refine WL_stepM rfl (R_as) ?_
    refine WL_nil ?_
    refine W_cond_f rfl ?_
    refine W_seq ?_
    refine W_region_l ?_
    refine WL_stepM rfl (R_mv) ?_
    refine WL_step rfl (R_eq_f rfl rfl (by omega)) ?_
    refine WL_stepM rfl (R_mv) ?_
    refine WL_guard_t rfl rfl ?_
    refine WL_step rfl (R_fieldAddr (off' := 0) Tryz.underlying58 rfl Tryz.sizeOf3 (by decide) rfl rfl) ?_
    refine WL_guard_t rfl rfl ?_
    refine WL_step rfl (R_load (v := I 1) Tryz.isAgg3 rfl (H.get .here) rfl) ?_
    refine WL_guard_t rfl rfl ?_
    refine WL_step rfl (R_eq_f rfl rfl (by omega)) ?_
    refine WL_stepM rfl (R_pk_f rfl) ?_
    refine WL_stepM rfl (R_as) ?_
    refine WL_nil ?_
    refine W_cond_f rfl ?_
    refine W_seq ?_
    refine W_region_l ?_
    refine WL_step rfl (R_fieldAddr (off' := 0) Tryz.underlying58 rfl Tryz.sizeOf3 (by decide) rfl rfl) ?_
    refine WL_step rfl (R_load (v := I 1) Tryz.isAgg3 rfl (H.get .here) rfl) ?_
    refine WL_step rfl (R_eq_f rfl rfl (by omega)) ?_
    refine WL_stepM rfl (R_as) ?_
    refine WL_nil ?_
    refine W_cond_f rfl ?_
    refine W_skip ?_
    refine W_seq ?_
    refine W_seq ?_
    refine W_region_l ?_
    refine WL_stepM rfl (R_mv) ?_
    refine WL_step rfl (R_nilCheck rfl) ?_
    refine WL_step rfl (R_fieldAddr (off' := 5) Tryz.underlying139 rfl Tryz.sizeOf3 (by decide) rfl rfl) ?_
    refine WL_step rfl (R_load (v := I 1) Tryz.isAgg3 rfl (H.blockN hh kYs) rfl) ?_
    refine WL_nil ?_
    refine W_block ?_
    refine W_seq ?_
    refine W_region_l ?_
    refine WL_step rfl (R_eq_t rfl rfl (by omega)) ?_
    refine WL_stepM rfl (R_as) ?_
    refine WL_nil ?_
    refine W_cond_t rfl ?_
    refine W_region_l ?_
    refine WL_stepM rfl (R_mv) ?_
    (refine WL_call rfl (R_call rfl Tryz.call97 rfl) (want_ret (H.blockN hh kYs) (hk.keepN H kYs) (H.blockN hsp kYs) hq hB hT hn hst hst0) ?_; rintro _ w155 ⟨qv, M, rfl, hM2, H1⟩; have h9 : ∀ p ∈ M, w.heap.size ≤ p.1 := fun p hp => Nat.le_trans H.size (hM2 p hp); replace H := hp_olds H kYs H1 (by intro p hp; rcases List.mem_cons.1 hp with rfl | hp; exact .inl hlt; rcases List.mem_append.1 hp with hp | hp; exact .inr (hM2 p hp); rw [List.mem_singleton] at hp; subst hp; exact .inl hlt2); clear H1; replace H : Hp w ((h, blk [ptr C.κ.k 0, I e, I sl, I n, ptr c 0, I 2, I st2, I op, I a, I b, .slice da dl dc] 139) :: (M ++ (sp, blk (sxC (enter S e C.κ.now).1 qv) 170) :: [(c4, blk (Slot.piC p0) 58), (c2, blk z0 40)])) w155 := by simpa using H)
    refine WL_nil ?_
    refine W_seq ?_
    refine W_region_l ?_
    refine WL_step rfl (R_buildL (places := [(0, 1), (1, 1), (2, 4), (6, 1), (7, 1), (8, 1), (9, 1), (10, 1), (11, 1)]) (vs := z0) Tryz.underlying40 Tryz.typeInfo40 rfl rfl (by kernel_rfl) rfl rfl rfl) ?_
    (refine WL_effu rfl (E_storeA (vs := z0) H Tryz.sizeOf40 rfl rfl (oC_one rfl rfl rfl) (.there (.app _ (.there (.there .here)))) (by simp [z0, oC])) ?_; clear H; intro w160 H; replace H : Hp w ((h, blk [ptr C.κ.k 0, I e, I sl, I n, ptr c 0, I 2, I st2, I op, I a, I b, .slice da dl dc] 139) :: (M ++ (sp, blk (sxC (enter S e C.κ.now).1 qv) 170) :: [(c4, blk (Slot.piC p0) 58), (c2, blk z0 40)])) w160 := H)
    refine WL_stepM rfl (R_as) ?_
    refine WL_nil ?_
    refine W_ret ?_
    exact ⟨_, ⟨_, _, rfl, ldA Tryz.isAgg40 Tryz.sizeOf40 (H.get (.there (.app _ (.there (.there .here))))) rfl (by simp [z0, oC]), rfl⟩, qv, M, rfl, h9, Hp.cut (L := (h, _) :: (M ++ [(sp, _)])) (M := [_, _]) (by simpa using H) kYs⟩

theorem start_ret {ds : List UInt8} {op' a' b' : Int} {D' : Value} {xa : Option Addr} {xl xc : Nat} (hD' : D'.oneCell' = true) (hh : w.heap[h]? = some (blk [ptr C.κ.k 0, I e, I sl, I n, ptr c 0, I 0, I st, I op', I a', I b', D'] 139)) (hM : CmI w c C) (hs : Snd C) (hi : sl < 8) (hp : C.pD sl = (p0, 1))
    (hl : RdS w (.slice xa xl xc) (ds.map U)) (hb : ds.length ≤ 1000000) :
    Ret Tryz.prog 33 #[ptr h 0, .agg #[I op, I a, I b, .slice xa xl xc]] w fun v w' => ∃ u M, v = .bool true ∧ OwnS w.heap.size 5 1 u ds.length (ds.map U) M ∧
      Hp w ((h, blk [ptr C.κ.k 0, I e, I sl, I n, ptr c 0, I 1, I st, I op, I a, I b, u] 139) :: M) w' := by
  refine Ret_of_W (args := [_, _]) Tryz.func33 rfl Tryz.ntmps33 Tryz.results33 (by simp) ?_
  have H := Hp.refl w
  refine W_seq ?_
  refine W_region_l ?_
  (refine WL_effn rfl (E_box (vs := [I op, I a, I b, .slice xa xl xc]) H rfl rfl) ?_; clear H; intro c3 w3 hc3 H)
  refine WL_stepM rfl (R_as) ?_
  refine WL_nil ?_
  refine W_seq ?_
  refine W_region_l ?_
  refine WL_stepM rfl (R_mv) ?_
  refine WL_step rfl (R_nilCheck rfl) ?_
  refine WL_step rfl (R_fieldAddr (off' := 4) Tryz.underlying139 rfl Tryz.sizeOf93 (by decide) rfl rfl) ?_
  refine WL_step rfl (R_load Tryz.isAgg93 rfl (H.blockN hh kYs) rfl) ?_
  (refine WL_call rfl (R_call rfl Tryz.call63 rfl) (Look_ret (hM.keepN H kYs) hs) ?_; rintro _ w12 ⟨rfl, H1⟩; replace H := H.seq0 H1; clear H1)
  refine WL_nil ?_
  refine W_seq ?_
  refine W_seq ?_
  refine W_region_l ?_
  refine WL_stepM rfl (R_mv) ?_
  refine WL_step rfl (R_nilCheck rfl) ?_
  refine WL_step rfl (R_fieldAddr (off' := 5) Tryz.underlying139 rfl Tryz.sizeOf3 (by decide) rfl rfl) ?_
  refine WL_step rfl (R_load (v := I 0) Tryz.isAgg3 rfl (H.blockN hh kYs) rfl) ?_
  refine WL_step rfl (R_ne_f rfl rfl (by omega)) ?_
  refine WL_nil ?_
  refine W_cond_f rfl ?_
  refine W_skip ?_
  refine W_seq ?_
  refine W_seq ?_
  (refine W_draw (KH w [(c3, blk [I op, I a, I b, .slice xa xl xc] 38)]) (fun _ => false) (by kernel_rfl) H ?_; clear H; intro w27 H)
  refine WA_takeM 0 rfl rfl rfl (by kernel_rfl) (by kernel_rfl) (H.kh (by simp) kYs) (fun _ hC => R_mv) ?_
  refine WA_take 1 rfl rfl rfl (by kernel_rfl) (by kernel_rfl) (H.kh (by simp) kYs) (fun _ hC => R_nilCheck rfl) ?_
  refine WA_take 2 rfl rfl rfl (by kernel_rfl) (by kernel_rfl) (H.kh (by simp) kYs) (fun _ hC => R_fieldAddr (off' := 4) Tryz.underlying139 rfl Tryz.sizeOf93 (by decide) rfl rfl) ?_
  refine WA_take 3 rfl rfl rfl (by kernel_rfl) (by kernel_rfl) (H.kh (by simp) kYs) (fun _ hC => R_load Tryz.isAgg93 rfl (hC.blockN hh kYs) rfl) ?_
  refine WA_takeM 4 rfl rfl rfl (by kernel_rfl) (by kernel_rfl) (H.kh (by simp) kYs) (fun _ hC => R_mv) ?_
  refine WA_take 5 rfl rfl rfl (by kernel_rfl) (by kernel_rfl) (H.kh (by simp) kYs) (fun _ hC => R_nilCheck rfl) ?_
  refine WA_take 6 rfl rfl rfl (by kernel_rfl) (by kernel_rfl) (H.kh (by simp) kYs) (fun _ hC => R_fieldAddr (off' := 2) Tryz.underlying139 rfl Tryz.sizeOf3 (by decide) rfl rfl) ?_
  refine WA_take 7 rfl rfl rfl (by kernel_rfl) (by kernel_rfl) (H.kh (by simp) kYs) (fun _ hC => R_load Tryz.isAgg3 rfl (hC.blockN hh kYs) rfl) ?_
  refine WA_two (i := 8) (j := 12) (by kernel_rfl) ?_ ?_
  · (refine WI_call rfl (.inl rfl) (R_call rfl Tryz.call64 rfl) (Proc_to (hM.keepN H kYs) hs hi hp) (fun _ _ hR _ => (H.seq0 hR.2).kh (by simp) kYs) ?_; rintro _ w37 ⟨rfl, H1⟩; replace H := H.seq0 H1; clear H1)
    refine WA_takeM 9 rfl rfl rfl (by kernel_rfl) (by kernel_rfl) (H.kh (by simp) kYs) (fun _ hC => R_mv) ?_
    refine WA_take 10 rfl rfl rfl (by kernel_rfl) (by kernel_rfl) (H.kh (by simp) kYs) (fun _ hC => R_extract rfl rfl) ?_
    refine WA_take 11 rfl rfl rfl (by kernel_rfl) (by kernel_rfl) (H.kh (by simp) kYs) (fun _ hC => R_extract rfl rfl) ?_
    refine WA_one (i := 12) (by kernel_rfl) ?_
    (refine WI_effnA rfl (.inl rfl) (Slot.E_allocP H) (fun _ _ _ H _ => H.kh (by simp) kYs) ?_; clear H; intro c5 w42 hc5 H)
    refine WA_one (i := 13) (by kernel_rfl) ?_
    (refine WI_effu rfl (.inl rfl) (Slot.E_storeP H rfl rfl .here) (fun _ H _ => H.kh (by simp) kYs) ?_; clear H; intro w44 H)
    refine WA_takeM 14 rfl rfl rfl (by kernel_rfl) (by kernel_rfl) (H.kh (by simp) kYs) (fun _ hC => R_as) ?_
    refine WA_done (by kernel_rfl) ?_
    refine W_seq ?_
    refine W_region_l ?_
    refine WL_stepM rfl (R_mv) ?_
    refine WL_step rfl (R_ne_f rfl rfl (by omega)) ?_
    refine WL_stepM rfl (R_mv) ?_
    refine WL_guard_t rfl rfl ?_
    refine WL_step rfl (R_fieldAddr (off' := 0) Tryz.underlying58 rfl Tryz.sizeOf3 (by decide) rfl rfl) ?_
    refine WL_guard_t rfl rfl ?_
    refine WL_step rfl (R_load (v := I 1) Tryz.isAgg3 rfl (H.get .here) rfl) ?_
    refine WL_guard_t rfl rfl ?_
    refine WL_step rfl (R_eq_f rfl rfl (by omega)) ?_
    refine WL_stepM rfl (R_pk_f rfl) ?_
    refine WL_nil ?_
    refine W_cond_f rfl ?_
    refine W_skip ?_
    refine W_seq ?_
    refine W_region_l ?_
    refine WL_step rfl (R_fieldAddr (off' := 3) Tryz.underlying38 rfl Tryz.sizeOf36 (by decide) rfl rfl) ?_
    refine WL_step rfl (R_load (v := .slice xa xl xc) Tryz.isAgg36 rfl (H.get (.there .here)) rfl) ?_
    (refine WL_call rfl (R_call rfl Tryz.call65 rfl) (Codec.clone_ret (hl.monoN H kYs) hb) ?_; rintro u w66 ⟨M, hO, H1⟩; have h66 := H.seqO hO H1; clear H H1 hO; obtain ⟨hO, H⟩ := h66; obtain ⟨ua, uc, rfl⟩ := hO.form)
    refine WL_step rfl (R_fieldAddr (off' := 3) Tryz.underlying38 rfl Tryz.sizeOf36 (by decide) rfl rfl) ?_
    (refine WL_effu rfl (E_store (v := .slice ua ds.length uc) H Tryz.sizeOf36 rfl rfl rfl (.app _ (.there .here)) (by simp)) ?_; clear H; intro w68 H; replace H : Hp w (M ++ [(c5, blk (Slot.piC p0) 58), (c3, blk [I op, I a, I b, .slice ua ds.length uc] 38)]) w68 := H)
    refine WL_nil ?_
    refine W_seq ?_
    (replace H := H.foc hh kYs; refine W_draw (fun w2 => w2.heap[c3]? = some (blk [I op, I a, I b, .slice ua ds.length uc] 38)) (fun _ => false) (by kernel_rfl) H ?_; clear H; intro w71 H)
    refine WA_takeM 0 rfl rfl rfl (by kernel_rfl) (by kernel_rfl) (H.get (.there (.app _ (.there .here)))) (fun _ hC => R_mv) ?_
    refine WA_takeM 1 rfl rfl rfl (by kernel_rfl) (by kernel_rfl) (H.get (.there (.app _ (.there .here)))) (fun _ hC => R_mv) ?_
    refine WA_take 2 rfl rfl rfl (by kernel_rfl) (by kernel_rfl) (H.get (.there (.app _ (.there .here)))) (fun _ hC => R_loadA (vs := [I op, I a, I b, .slice ua ds.length uc]) Tryz.isAgg38 Tryz.sizeOf38 rfl hC rfl (by simp)) ?_
    refine WA_take 3 rfl rfl rfl (by kernel_rfl) (by kernel_rfl) (H.get (.there (.app _ (.there .here)))) (fun _ hC => R_nilCheck rfl) ?_
    refine WA_take 4 rfl rfl rfl (by kernel_rfl) (by kernel_rfl) (H.get (.there (.app _ (.there .here)))) (fun _ hC => R_fieldAddr (off' := 5) Tryz.underlying139 rfl Tryz.sizeOf3 (by decide) rfl rfl) ?_
    refine WA_one (i := 5) (by kernel_rfl) ?_
    (refine WI_effu rfl (.inl rfl) (E_store (v := I 1) H Tryz.sizeOf3 rfl rfl rfl .here (by simp)) (fun _ H _ => H.get (.there (.app _ (.there .here)))) ?_; clear H; intro w78 H; replace H : Hp w ((h, blk [ptr C.κ.k 0, I e, I sl, I n, ptr c 0, I 1, I st, I op', I a', I b', D'] 139) :: (M ++ [(c5, blk (Slot.piC p0) 58), (c3, blk [I op, I a, I b, .slice ua ds.length uc] 38)])) w78 := H)
    refine WA_take 6 rfl rfl rfl (by kernel_rfl) (by kernel_rfl) (H.get (.there (.app _ (.there .here)))) (fun _ hC => R_nilCheck rfl) ?_
    refine WA_take 7 rfl rfl rfl (by kernel_rfl) (by kernel_rfl) (H.get (.there (.app _ (.there .here)))) (fun _ hC => R_fieldAddr (off' := 7) Tryz.underlying139 rfl Tryz.sizeOf38 (by decide) rfl rfl) ?_
    refine WA_one (i := 8) (by kernel_rfl) ?_
    (refine WI_effu rfl (.inl rfl) (E_storeA (vs := [I op, I a, I b, .slice ua ds.length uc]) H Tryz.sizeOf38 rfl rfl (by simp [Value.oneCell']) .here (by simp)) (fun _ H _ => H.get (.there (.app _ (.there .here)))) ?_; clear H; intro w82 H; replace H : Hp w ((h, blk [ptr C.κ.k 0, I e, I sl, I n, ptr c 0, I 1, I st, I op, I a, I b, .slice ua ds.length uc] 139) :: (M ++ [(c5, blk (Slot.piC p0) 58), (c3, blk [I op, I a, I b, .slice ua ds.length uc] 38)])) w82 := H)
    refine WA_done (by kernel_rfl) ?_
    refine W_seq ?_
    refine W_region_l ?_
    refine WL_stepM rfl (R_as) ?_
    refine WL_nil ?_
    refine W_ret ?_
    exact ⟨_, rfl, _, M, rfl, hO, Hp.cut (L := (h, _) :: M) (M := [_, _]) H kYs⟩
  · (refine WI_effnA rfl (.inl rfl) (Slot.E_allocP H) (fun _ _ _ H _ => H.kh (by simp) kYs) ?_; clear H; intro c5 w90 hc5 H)
    refine WA_one (i := 8) (by kernel_rfl) ?_
    (refine WI_call rfl (.inl rfl) (R_call rfl Tryz.call64 rfl) (Proc_to (hM.keepN H kYs) hs hi hp) (fun _ _ hR _ => (H.seq0 hR.2).kh (by simp) kYs) ?_; rintro _ w92 ⟨rfl, H1⟩; replace H := H.seq0 H1; clear H1)
    refine WA_takeM 9 rfl rfl rfl (by kernel_rfl) (by kernel_rfl) (H.kh (by simp) kYs) (fun _ hC => R_mv) ?_
    refine WA_take 10 rfl rfl rfl (by kernel_rfl) (by kernel_rfl) (H.kh (by simp) kYs) (fun _ hC => R_extract rfl rfl) ?_
    refine WA_take 11 rfl rfl rfl (by kernel_rfl) (by kernel_rfl) (H.kh (by simp) kYs) (fun _ hC => R_extract rfl rfl) ?_
    refine WA_one (i := 13) (by kernel_rfl) ?_
    (refine WI_effu rfl (.inl rfl) (Slot.E_storeP H rfl rfl .here) (fun _ H _ => H.kh (by simp) kYs) ?_; clear H; intro w97 H)
    refine WA_takeM 14 rfl rfl rfl (by kernel_rfl) (by kernel_rfl) (H.kh (by simp) kYs) (fun _ hC => R_as) ?_
    refine WA_done (by kernel_rfl) ?_
    refine W_seq ?_
    refine W_region_l ?_
    refine WL_stepM rfl (R_mv) ?_
    refine WL_step rfl (R_ne_f rfl rfl (by omega)) ?_
    refine WL_stepM rfl (R_mv) ?_
    refine WL_guard_t rfl rfl ?_
    refine WL_step rfl (R_fieldAddr (off' := 0) Tryz.underlying58 rfl Tryz.sizeOf3 (by decide) rfl rfl) ?_
    refine WL_guard_t rfl rfl ?_
    refine WL_step rfl (R_load (v := I 1) Tryz.isAgg3 rfl (H.get .here) rfl) ?_
    refine WL_guard_t rfl rfl ?_
    refine WL_step rfl (R_eq_f rfl rfl (by omega)) ?_
    refine WL_stepM rfl (R_pk_f rfl) ?_
    refine WL_nil ?_
    refine W_cond_f rfl ?_
    refine W_skip ?_
    refine W_seq ?_
    refine W_region_l ?_
    refine WL_step rfl (R_fieldAddr (off' := 3) Tryz.underlying38 rfl Tryz.sizeOf36 (by decide) rfl rfl) ?_
    refine WL_step rfl (R_load (v := .slice xa xl xc) Tryz.isAgg36 rfl (H.get (.there .here)) rfl) ?_
    (refine WL_call rfl (R_call rfl Tryz.call65 rfl) (Codec.clone_ret (hl.monoN H kYs) hb) ?_; rintro u w119 ⟨M, hO, H1⟩; have h119 := H.seqO hO H1; clear H H1 hO; obtain ⟨hO, H⟩ := h119; obtain ⟨ua, uc, rfl⟩ := hO.form)
    refine WL_step rfl (R_fieldAddr (off' := 3) Tryz.underlying38 rfl Tryz.sizeOf36 (by decide) rfl rfl) ?_
    (refine WL_effu rfl (E_store (v := .slice ua ds.length uc) H Tryz.sizeOf36 rfl rfl rfl (.app _ (.there .here)) (by simp)) ?_; clear H; intro w121 H; replace H : Hp w (M ++ [(c5, blk (Slot.piC p0) 58), (c3, blk [I op, I a, I b, .slice ua ds.length uc] 38)]) w121 := H)
    refine WL_nil ?_
    refine W_seq ?_
    (replace H := H.foc hh kYs; refine W_draw (fun w2 => w2.heap[c3]? = some (blk [I op, I a, I b, .slice ua ds.length uc] 38)) (fun _ => false) (by kernel_rfl) H ?_; clear H; intro w124 H)
    refine WA_takeM 0 rfl rfl rfl (by kernel_rfl) (by kernel_rfl) (H.get (.there (.app _ (.there .here)))) (fun _ hC => R_mv) ?_
    refine WA_takeM 1 rfl rfl rfl (by kernel_rfl) (by kernel_rfl) (H.get (.there (.app _ (.there .here)))) (fun _ hC => R_mv) ?_
    refine WA_take 2 rfl rfl rfl (by kernel_rfl) (by kernel_rfl) (H.get (.there (.app _ (.there .here)))) (fun _ hC => R_loadA (vs := [I op, I a, I b, .slice ua ds.length uc]) Tryz.isAgg38 Tryz.sizeOf38 rfl hC rfl (by simp)) ?_
    refine WA_take 3 rfl rfl rfl (by kernel_rfl) (by kernel_rfl) (H.get (.there (.app _ (.there .here)))) (fun _ hC => R_nilCheck rfl) ?_
    refine WA_take 4 rfl rfl rfl (by kernel_rfl) (by kernel_rfl) (H.get (.there (.app _ (.there .here)))) (fun _ hC => R_fieldAddr (off' := 5) Tryz.underlying139 rfl Tryz.sizeOf3 (by decide) rfl rfl) ?_
    refine WA_one (i := 5) (by kernel_rfl) ?_
    (refine WI_effu rfl (.inl rfl) (E_store (v := I 1) H Tryz.sizeOf3 rfl rfl rfl .here (by simp)) (fun _ H _ => H.get (.there (.app _ (.there .here)))) ?_; clear H; intro w131 H; replace H : Hp w ((h, blk [ptr C.κ.k 0, I e, I sl, I n, ptr c 0, I 1, I st, I op', I a', I b', D'] 139) :: (M ++ [(c5, blk (Slot.piC p0) 58), (c3, blk [I op, I a, I b, .slice ua ds.length uc] 38)])) w131 := H)
    refine WA_take 6 rfl rfl rfl (by kernel_rfl) (by kernel_rfl) (H.get (.there (.app _ (.there .here)))) (fun _ hC => R_nilCheck rfl) ?_
    refine WA_take 7 rfl rfl rfl (by kernel_rfl) (by kernel_rfl) (H.get (.there (.app _ (.there .here)))) (fun _ hC => R_fieldAddr (off' := 7) Tryz.underlying139 rfl Tryz.sizeOf38 (by decide) rfl rfl) ?_
    refine WA_one (i := 8) (by kernel_rfl) ?_
    (refine WI_effu rfl (.inl rfl) (E_storeA (vs := [I op, I a, I b, .slice ua ds.length uc]) H Tryz.sizeOf38 rfl rfl (by simp [Value.oneCell']) .here (by simp)) (fun _ H _ => H.get (.there (.app _ (.there .here)))) ?_; clear H; intro w135 H; replace H : Hp w ((h, blk [ptr C.κ.k 0, I e, I sl, I n, ptr c 0, I 1, I st, I op, I a, I b, .slice ua ds.length uc] 139) :: (M ++ [(c5, blk (Slot.piC p0) 58), (c3, blk [I op, I a, I b, .slice ua ds.length uc] 38)])) w135 := H)
    refine WA_done (by kernel_rfl) ?_
    refine W_seq ?_
    refine W_region_l ?_
    refine WL_stepM rfl (R_as) ?_
    refine WL_nil ?_
    refine W_ret ?_
    exact ⟨_, rfl, _, M, rfl, hO, Hp.cut (L := (h, _) :: M) (M := [_, _]) H kYs⟩
end
end Go.Proofs.YtlpmfldijgdcoaaGreatDoor.Ho

/-
  Commons and hosts are made.
-/
namespace Go.Proofs.YtlpmfldijgdcoaaGreatDoor.Ho
open Go Go.Proofs Go.Proofs.YtlpmfldijgdcoaaGreatDoor.Fx Go.Proofs.YtlpmfldijgdcoaaGreatDoor.Kn Go.Proofs.YtlpmfldijgdcoaaGreatDoor.Cm Go.Proofs.YtlpmfldijgdcoaaGreatDoor.TabC Go.Proofs.YtlpmfldijgdcoaaGreatDoor.Caps
set_option maxRecDepth 100000
set_option linter.unusedVariables false
set_option linter.unusedSimpArgs false
set_option maxHeartbeats 8000000

section
variable {w : World} {s : Nat} {PB : List (Nat × Nat)} {ts : List (List Pl)}
theorem spnames_yes {j : Nat} {q : Nat × Nat} {t : List Pl} (hS : Sp w s PB ts) (hq : PB[j]? = some q) (ht : ts[j]? = some t) :
    Ret Tryz.prog 84 #[ptr s 0, I j] w fun v w' => ∃ M, OwnS w.heap.size 3 1 v (namesFrom 0 t).length ((namesFrom 0 t).map I) M ∧ Hp w M w' := by
  obtain ⟨bs, cap, sp, hs, hbs⟩ := hS.ex
  have htp := hS.tp j q hq
  have htb := hS.tb j q t hq ht
  have hj := (List.getElem?_eq_some_iff.1 hq).1
  have hsz := hS.inv.sz t (List.mem_of_getElem? ht)
  have hgn := hS.inv.gn t (List.mem_of_getElem? ht)
  refine Ret_of_W (args := [_, _]) Tryz.func84 rfl Tryz.ntmps84 Tryz.results84 (by simp) ?_
  have H := Hp.refl w
  refine W_seq ?_
  refine W_region_l ?_
  refine WL_stepM rfl (R_as) ?_
  refine WL_nil ?_
  refine W_seq ?_
  refine W_seq ?_
  refine W_region_l ?_
  refine WL_stepM rfl (R_mv) ?_
  refine WL_stepM rfl (R_mv) ?_
  (refine WL_call rfl (R_call rfl Tryz.call81 rfl) (is_ret (hS.monoN H kYs) _) ?_; rintro _ w10 ⟨rfl, H1⟩; rw [decide_eq_true (show 0 ≤ (j : Int) ∧ (j : Int) < PB.length by omega)]; replace H := H.seq0 H1; clear H1)
  refine WL_step rfl (R_not_t rfl) ?_
  refine WL_nil ?_
  refine W_cond_f rfl ?_
  refine W_skip ?_
  refine W_seq ?_
  refine W_region_l ?_
  refine WL_stepM rfl (R_mv) ?_
  refine WL_step rfl (R_nilCheck rfl) ?_
  refine WL_step rfl (R_fieldAddr (off' := 0) Tryz.underlying164 rfl Tryz.sizeOf162 (by decide) rfl rfl) ?_
  refine WL_step rfl (R_load (v := sl bs 0 PB.length cap) Tryz.isAgg162 rfl (H.blockN hs kYs) rfl) ?_
  refine WL_stepM rfl (R_mv) ?_
  refine WL_step rfl (R_indexAddr Tryz.underlying162 Tryz.sizeOf165 rfl rfl (by omega) (by omega) idx0_cast) ?_
  refine WL_step rfl (R_load (v := ptr q.1 0) Tryz.isAgg165 rfl (H.blockN hbs kYs) (ptrs_get hq)) ?_
  (refine WL_call rfl (R_call rfl Tryz.call121 rfl) (TabC.names_ret (H.blockN htp kYs) (H.blockN htb kYs) hsz (by decide) hgn) ?_; rintro u w24 ⟨M, hO, H1⟩; have h24 := H.seqO hO H1; clear H H1 hO; obtain ⟨hO, H⟩ := h24; rw [List.append_nil] at H)
  refine WL_stepM rfl (R_as) ?_
  refine WL_nil ?_
  refine W_ret ?_
  exact ⟨_, rfl, M, hO, H⟩
end
section
variable {w : World} {κ : KS} {e n sp : Nat} {q : Nat × Nat} {t : List Pl} {nms : List Int}
theorem Space_ret (hK : Kr w κ) : Ret Tryz.prog 83 #[ptr κ.k 0] w fun v w' => v = ptr κ.s 0 ∧ Hp w [] w' := by
  refine Ret_of_W (args := [_]) Tryz.func83 rfl Tryz.ntmps83 Tryz.results83 (by simp) ?_
  have H := Hp.refl w
  have hk := hK.hk
  unfold KS.kb at hk
  refine W_seq ?_
  refine W_region_l ?_
  refine WL_stepM rfl (R_as) ?_
  refine WL_nil ?_
  refine W_seq ?_
  refine W_region_l ?_
  refine WL_stepM rfl (R_mv) ?_
  refine WL_step rfl (R_nilCheck rfl) ?_
  refine WL_step rfl (R_fieldAddr (off' := 3) Tryz.underlying113 rfl Tryz.sizeOf107 (by decide) rfl rfl) ?_
  refine WL_step rfl (R_load Tryz.isAgg107 rfl (H.block hk (by simp)) rfl) ?_
  refine WL_stepM rfl (R_as) ?_
  refine WL_nil ?_
  refine W_ret ?_
  exact ⟨_, rfl, rfl, H⟩
theorem cnew_ret (hK : Kr w κ) (hq : κ.PB[e]? = some q) (ht : κ.ts[e]? = some t) (hn : namesFrom 0 t = nms) (h0 : nms ≠ []) :
    Ret Tryz.prog 53 #[ptr κ.k 0, I e] w fun v w' => ∃ c u mp M, v = .tuple #[ptr c 0, I 0] ∧ w.heap.size ≤ c ∧ w.heap.size ≤ mp ∧ OwnS w.heap.size 3 1 u nms.length (nms.map I) M ∧
      Hp w ((c, blk [ptr κ.k 0, I e, u, .map (some mp)] 177) :: (mp, .map #[] 0) :: M) w' := by
  refine Ret_of_W (args := [_, _]) Tryz.func53 rfl Tryz.ntmps53 Tryz.results53 (by simp) ?_
  have H := Hp.refl w
  have hlen : nms.length ≠ 0 := fun h => h0 (List.length_eq_zero_iff.1 h)
  have hnames : ∀ {w1 : World}, Kr w1 κ → Ret Tryz.prog 84 #[ptr κ.s 0, I e] w1 fun v w' => ∃ M, OwnS w1.heap.size 3 1 v nms.length (nms.map I) M ∧ Hp w1 M w' := by
    intro w1 h1
    have := spnames_yes h1.hS hq ht
    rw [hn] at this
    exact this
  refine W_seq ?_
  refine W_region_l ?_
  refine WL_stepM rfl (R_as) ?_
  refine WL_stepM rfl (R_as) ?_
  refine WL_nil ?_
  refine W_seq ?_
  refine W_seq ?_
  refine W_region_l ?_
  refine WL_stepM rfl (R_mv) ?_
  refine WL_step rfl (R_eq_ptr_nil Tryz.underlying71 rfl rfl) ?_
  refine WL_stepM rfl (R_mv) ?_
  refine WL_guard_t rfl rfl ?_
  refine WL_stepM rfl (R_mv) ?_
  refine WL_guard_t rfl rfl ?_
  (refine WL_call rfl (R_call rfl Tryz.call83 rfl) (Space_ret (hK.keepN H kYs)) ?_; rintro _ w15 ⟨rfl, H1⟩; replace H := H.seq0 H1; clear H1)
  refine WL_guard_t rfl rfl ?_
  refine WL_stepM rfl (R_mv) ?_
  refine WL_guard_t rfl rfl ?_
  (refine WL_call rfl (R_call rfl Tryz.call84 rfl) (hnames (hK.keepN H kYs)) ?_; rintro u w19 ⟨M, hO, H1⟩; have h19 := H.seqO hO H1; clear H H1 hO; obtain ⟨hO, H⟩ := h19; obtain ⟨ua, uc, rfl⟩ := hO.form)
  refine WL_guard_t rfl rfl ?_
  refine WL_step rfl (R_len_slice Tryz.underlying22 rfl) ?_
  refine WL_guard_t rfl rfl ?_
  refine WL_step rfl (R_eq_f rfl rfl (by omega)) ?_
  refine WL_stepM rfl (R_pk_f rfl) ?_
  refine WL_nil ?_
  refine W_cond_f rfl ?_
  refine W_skip ?_
  refine W_seq ?_
  refine W_region_l ?_
  refine WL_stepM rfl (R_mv) ?_
  refine WL_stepM rfl (R_mv) ?_
  refine WL_stepM rfl (R_mv) ?_
  (refine WL_call rfl (R_call rfl Tryz.call83 rfl) (Space_ret (hK.keepN H kYs)) ?_; rintro _ w33 ⟨rfl, H1⟩; replace H := H.seq0 H1; clear H1)
  refine WL_stepM rfl (R_mv) ?_
  (refine WL_call rfl (R_call rfl Tryz.call84 rfl) (hnames (hK.keepN H kYs)) ?_; rintro u w35 ⟨M, hO, H1⟩; have h35 := H.seqO hO H1; clear H H1 hO; obtain ⟨hO, H⟩ := h35; obtain ⟨ua, uc, rfl⟩ := hO.form)
  (refine WL_effn rfl (Mr.E_makeMap H) ?_; clear H; intro mp w36 hmp H)
  refine WL_step rfl (R_buildL (places := [(0, 1), (1, 1), (2, 1), (3, 1)]) (vs := [ptr κ.k 0, I e, .slice ua nms.length uc, .map (some mp)]) Tryz.underlying177 Tryz.typeInfo177 rfl rfl (by kernel_rfl) rfl rfl rfl) ?_
  (refine WL_effn rfl (E_box (vs := [ptr κ.k 0, I e, .slice ua nms.length uc, .map (some mp)]) H rfl rfl) ?_; clear H; intro c w38 hc H)
  refine WL_stepM rfl (R_as) ?_
  refine WL_stepM rfl (R_as) ?_
  refine WL_nil ?_
  refine W_ret ?_
  exact ⟨_, rfl, c, _, mp, M, rfl, hc, hmp, hO, Hp.cut (L := (c, _) :: (mp, _) :: M) (M := _) (by simpa using H) kYs⟩

theorem hnew_ret {sl : Nat} (hs : Ks w κ e n sp) (hK : Kr w κ) (hq : κ.PB[e]? = some q) (ht : κ.ts[e]? = some t) (hn : namesFrom 0 t = nms) (h0 : nms ≠ []) (h8 : sl < 8) :
    Ret Tryz.prog 27 #[ptr κ.k 0, I e, I sl, I n] w fun v w' => ∃ h c u mp M, v = .tuple #[ptr h 0, I 0] ∧ w.heap.size ≤ h ∧ w.heap.size ≤ c ∧ w.heap.size ≤ mp ∧ OwnS w.heap.size 3 1 u nms.length (nms.map I) M ∧
      Hp w ((h, blk [ptr κ.k 0, I e, I sl, I n, ptr c 0, I 0, I 0, I 0, I 0, I 0, nilS] 139) :: (c, blk [ptr κ.k 0, I e, u, .map (some mp)] 177) :: (mp, .map #[] 0) :: M) w' := by
  refine Ret_of_W (args := [_, _, _, _]) Tryz.func27 rfl Tryz.ntmps27 Tryz.results27 (by simp) ?_
  have H := Hp.refl w
  refine W_seq ?_
  refine W_region_l ?_
  refine WL_stepM rfl (R_as) ?_
  refine WL_stepM rfl (R_as) ?_
  refine WL_nil ?_
  refine W_seq ?_
  refine W_region_l ?_
  refine WL_stepM rfl (R_mv) ?_
  refine WL_stepM rfl (R_mv) ?_
  (refine WL_call rfl (R_call rfl Tryz.call53 rfl) (cnew_ret hK hq ht hn h0) ?_; rintro _ w10 ⟨c, u, mp, M, rfl, hc, hmp, hO, H1⟩; clear H; have H := H1; clear H1)
  refine WL_stepM rfl (R_mv) ?_
  refine WL_step rfl (R_extract rfl rfl) ?_
  refine WL_step rfl (R_extract rfl rfl) ?_
  refine WL_stepM rfl (R_as) ?_
  refine WL_stepM rfl (R_as) ?_
  refine WL_nil ?_
  refine W_seq ?_
  refine W_block ?_
  refine W_seq ?_
  refine W_region_l ?_
  refine WL_stepM rfl (R_mv) ?_
  refine WL_step rfl (R_ne_f rfl rfl (by omega)) ?_
  refine WL_stepM rfl (R_as) ?_
  refine WL_nil ?_
  refine W_cond_f rfl ?_
  refine W_seq ?_
  refine W_region_l ?_
  refine WL_stepM rfl (R_mv) ?_
  refine WL_step rfl (R_lt_f rfl rfl (by omega)) ?_
  refine WL_stepM rfl (R_mv) ?_
  refine WL_guard_t rfl rfl ?_
  refine WL_stepM rfl (R_mv) ?_
  refine WL_guard_t rfl rfl ?_
  refine WL_step rfl (R_ge_f rfl rfl (by omega)) ?_
  refine WL_stepM rfl (R_pk_f rfl) ?_
  refine WL_stepM rfl (R_as) ?_
  refine WL_nil ?_
  refine W_cond_f rfl ?_
  refine W_seq ?_
  refine W_region_l ?_
  refine WL_stepM rfl (R_mv) ?_
  refine WL_stepM rfl (R_mv) ?_
  (refine WL_call rfl (R_call rfl Tryz.call59 rfl) (Sect_ret (hs.keepN H kYs)) ?_; rintro _ w43 ⟨rfl, H1⟩; replace H := H.seq0 H1; clear H1)
  refine WL_step rfl (R_eq_ptr_nil Tryz.underlying115 rfl rfl) ?_
  refine WL_stepM rfl (R_as) ?_
  refine WL_nil ?_
  refine W_cond_f rfl ?_
  refine W_skip ?_
  refine W_seq ?_
  refine W_region_l ?_
  refine WL_stepM rfl (R_mv) ?_
  refine WL_stepM rfl (R_mv) ?_
  refine WL_stepM rfl (R_mv) ?_
  refine WL_stepM rfl (R_mv) ?_
  refine WL_stepM rfl (R_mv) ?_
  refine WL_step rfl (R_buildL (places := [(0, 1), (1, 1), (2, 1), (3, 1), (4, 1), (5, 1), (6, 1), (7, 4)]) (vs := [ptr κ.k 0, I e, I sl, I n, ptr c 0, I 0, I 0, I 0, I 0, I 0, nilS]) Tryz.underlying139 Tryz.typeInfo139 rfl rfl (by kernel_rfl) rfl rfl rfl) ?_
  (refine WL_effn rfl (E_box (vs := [ptr κ.k 0, I e, I sl, I n, ptr c 0, I 0, I 0, I 0, I 0, I 0, nilS]) H rfl rfl) ?_; clear H; intro h w57 hh H)
  refine WL_stepM rfl (R_as) ?_
  refine WL_stepM rfl (R_as) ?_
  refine WL_nil ?_
  refine W_ret ?_
  exact ⟨_, rfl, h, c, u, mp, M, rfl, hh, hc, hmp, hO, H⟩
end
end Go.Proofs.YtlpmfldijgdcoaaGreatDoor.Ho
