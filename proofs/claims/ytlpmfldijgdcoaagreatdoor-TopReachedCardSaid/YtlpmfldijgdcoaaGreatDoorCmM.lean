/-
  Commons: what lies in the world; where a record is; its bytes are read.
-/
import Derived.Test.YtlpmfldijgdcoaaGreatDoorKnM
import Derived.Test.YtlpmfldijgdcoaaGreatDoorMapR
import Derived.Test.YtlpmfldijgdcoaaGreatDoorSlotM2
import Derived.Test.YtlpmfldijgdcoaaGreatDoorFileM
import Derived.Test.YtlpmfldijgdcoaaGreatDoorRingM
import Derived.Test.YtlpmfldijgdcoaaGreatDoorFrontA
namespace Go.Proofs.YtlpmfldijgdcoaaGreatDoor.Cm
open Go Go.Proofs Go.Proofs.YtlpmfldijgdcoaaGreatDoor.Fx Go.Proofs.YtlpmfldijgdcoaaGreatDoor.Kn
set_option maxRecDepth 100000
set_option linter.unusedVariables false
set_option linter.unusedSimpArgs false
set_option maxHeartbeats 8000000

def win (bs : List UInt8) (a n : Nat) : List UInt8 := (bs.drop a).take n
theorem _root_.Go.Proofs.YtlpmfldijgdcoaaGreatDoor.Fx.KH.blockN {w0 w : World} {K : List (Nat × Obj)} (H : KH w0 K w) {b : Nat} {o : Obj} (h : w0.heap[b]? = some o) (hn : ∀ p ∈ ([] : List (Nat × Obj)), w0.heap.size ≤ p.1) : w.heap[b]? = some o := H.old.blockN h hn
structure Cs where
  κ : KS
  e : Nat
  ca : Option Addr
  cc : Nat
  nms : List Int
  wins : List (Nat × Nat)
  mp : Nat
  es : Array MapEntry
  clk : Nat
  bad : List (Int × Int)
def cT : List Nat := 177 :: 3 :: 1000000 :: kT
/-- what one sees of the commons -/
structure CmI (w : World) (c : Nat) (C : Cs) : Prop where
  hc : w.heap[c]? = some (blk [ptr C.κ.k 0, I C.e, .slice C.ca C.nms.length C.cc, .map (some C.mp)] 177)
  hcv : RdS w (.slice C.ca C.nms.length C.cc) (C.nms.map I)
  hct : ∀ a, C.ca = some a → ∃ o, w.heap[a.block]? = some o ∧ elT o = 3
  hmp : w.heap[C.mp]? = some (.map C.es C.clk)
  hbad : Mr.MapIs C.es C.bad
  hK : Kr w C.κ
  hw : ∀ (j : Nat) (nm : Int) (x : Nat × Nat), C.nms[j]? = some nm → C.wins[j]? = some x → Wn C.κ C.e nm x.1 x.2
  hl : C.nms.length = C.wins.length
  hl0 : 1 ≤ C.wins.length ∧ C.wins.length ≤ 5
  hz0 : ∀ x, C.wins[0]? = some x → x.2 = 492
  hzj : ∀ (j : Nat) (x : Nat × Nat), 0 < j → C.wins[j]? = some x → x.2 = 40

section
variable {w w' : World} {c : Nat} {C : Cs} {L : List (Nat × Obj)}
theorem CmI.keepK (h : CmI w c C) (H : Hp w L w') (hn : Out cT w L) {κ' : KS} (hK : Kr w' κ') (hk : κ'.k = C.κ.k) (hw : ∀ (nm : Int) (x : Nat × Nat), Wn C.κ C.e nm x.1 x.2 → Wn κ' C.e nm x.1 x.2) : CmI w' c { C with κ := κ' } := by
  refine ⟨?_, ?_, ?_, H.blockT h.hmp (by simp [cT, elT]) hn, h.hbad, hK, fun j nm x h1 h2 => hw _ _ (h.hw j nm x h1 h2), h.hl, h.hl0, h.hz0, h.hzj⟩
  · have := H.blockT h.hc (by simp [cT, elT]) hn
    simp only [hk]; exact this
  · refine h.hcv.mono H fun a m c' e hm => ?_
    have ha : C.ca = some a := by injection e
    obtain ⟨o, h1, h2⟩ := h.hct a ha
    obtain ⟨p, hp, e2⟩ := List.mem_map.1 hm
    rcases hn p hp with h3 | ⟨o', h3, h4⟩
    · have := lt_of_some h1; omega
    · rw [e2, h1] at h3
      cases h3
      exact h4 (by rw [h2]; simp [cT])
  · intro a ha
    obtain ⟨o, h1, h2⟩ := h.hct a ha
    exact ⟨o, H.blockT h1 (by rw [h2]; simp [cT]) hn, h2⟩
theorem CmI.keep0 (h : CmI w c C) (H : Hp w L w') (hn : Out (5 :: cT) w L) : CmI w' c C :=
  h.keepK H (hn.sub (List.subset_cons_self _ _)) (h.hK.keep0 H (hn.sub (List.cons_subset_cons _ (fun x hx => .tail _ (.tail _ (.tail _ hx)))))) rfl (fun _ _ h => h)
theorem CmI.keepN (h : CmI w c C) (H : Hp w L w') (hn : ∀ p ∈ L, w.heap.size ≤ p.1) : CmI w' c C := h.keep0 H (Out.ofN hn)
theorem CmI.same (h : CmI w c C) (H : Hp w [] w') : CmI w' c C := h.keep0 H Out.nil
/-- the memory's bytes -/
def Cs.setB (C : Cs) (ys : List UInt8) : Cs := { C with κ := { C.κ with xs := ys } }
theorem CmI.keepB (h : CmI w c C) {ys : List UInt8} (H : Hp w [(C.κ.mb, blk (ys.map U) 5)] w') (hl : ys.length = C.κ.N) : CmI w' c (C.setB ys) :=
  h.keepK H (Out.cons h.hK.hb (by simp [cT, kT, elT]) Out.nil) (h.hK.keepB H hl) rfl (fun _ _ h => ⟨h.ex, h.hin, h.he⟩)

/-- where a record lies: in which window, from where on, how many bytes -/
def Rc (L : Nat) (kind idx j at_ n : Nat) : Prop :=
  (kind = 1 ∧ idx < 8 ∧ j = 0 ∧ at_ = 24 * idx ∧ n = 24) ∨ (kind = 2 ∧ idx < 12 ∧ j = 0 ∧ at_ = 192 + 8 * idx ∧ n = 8) ∨ (kind = 3 ∧ idx < 4 ∧ j = 0 ∧ at_ = 288 + 40 * idx ∧ n = 40) ∨
    (kind = 3 ∧ 4 ≤ idx ∧ idx < 3 + L ∧ j = idx - 3 ∧ at_ = 0 ∧ n = 40) ∨ (kind = 4 ∧ idx = 0 ∧ j = 0 ∧ at_ = 448 ∧ n = 40) ∨ (kind = 5 ∧ idx = 0 ∧ j = 0 ∧ at_ = 488 ∧ n = 4)
theorem Rc.fit {kind idx j at_ n : Nat} (h : Rc C.nms.length kind idx j at_ n) (hM : CmI w c C) : ∃ nm x, C.nms[j]? = some nm ∧ C.wins[j]? = some x ∧ at_ + n ≤ x.2 ∧ n ≤ 40 ∧ at_ ≤ 500 := by
  have h1 := hM.hl
  have h2 := hM.hl0
  have hj : j < C.wins.length := by unfold Rc at h; omega
  refine ⟨C.nms[j]'(by omega), C.wins[j], List.getElem?_eq_getElem _, List.getElem?_eq_getElem hj, ?_⟩
  by_cases h0 : j = 0
  · subst h0
    have := hM.hz0 C.wins[0] (List.getElem?_eq_getElem hj)
    unfold Rc at h; omega
  · have := hM.hzj j C.wins[j] (by omega) (List.getElem?_eq_getElem hj)
    unfold Rc at h; omega
end

section
variable {w : World} {c : Nat} {C : Cs}
theorem most_ret (hM : CmI w c C) (k : Int) (m : Nat) (h : (k = 1 ∧ m = 8) ∨ (k = 2 ∧ m = 12) ∨ (k = 3 ∧ m = 3 + C.nms.length) ∨ (3 < k ∧ m = 1)) :
    Ret Tryz.prog 102 #[ptr c 0, I k] w fun v w' => v = I m ∧ Hp w [] w' := by
  refine Ret_of_W (args := [_, _]) Tryz.func102 rfl Tryz.ntmps102 Tryz.results102 (by simp) ?_
  have H := Hp.refl w
  have hc := hM.hc
  have h1 := hM.hl
  have h2 := hM.hl0
  obtain ⟨κ, e, ca, cc, nms, wins, mp, es, clk, bad⟩ := C
  simp only at h h1 h2 hc
  rcases h with ⟨rfl, rfl⟩ | ⟨rfl, rfl⟩ | ⟨rfl, rfl⟩ | ⟨h, rfl⟩
  · refine W_seq ?_
    refine W_region_l ?_
    refine WL_stepM rfl (R_as) ?_
    refine WL_nil ?_
    refine W_seq ?_
    refine W_seq ?_
    refine W_region_l ?_
    refine WL_stepM rfl (R_mv) ?_
    refine WL_nil ?_
    refine W_block ?_
    refine W_seq ?_
    refine W_region_l ?_
    refine WL_step rfl (R_eq_t rfl rfl (by omega)) ?_
    refine WL_stepM rfl (R_as) ?_
    refine WL_nil ?_
    refine W_cond_t rfl ?_
    refine W_seq ?_
    refine W_region_l ?_
    refine WL_stepM rfl (R_as) ?_
    refine WL_nil ?_
    refine W_ret ?_
    exact ⟨_, rfl, rfl, H⟩
  · refine W_seq ?_
    refine W_region_l ?_
    refine WL_stepM rfl (R_as) ?_
    refine WL_nil ?_
    refine W_seq ?_
    refine W_seq ?_
    refine W_region_l ?_
    refine WL_stepM rfl (R_mv) ?_
    refine WL_nil ?_
    refine W_block ?_
    refine W_seq ?_
    refine W_region_l ?_
    refine WL_step rfl (R_eq_f rfl rfl (by omega)) ?_
    refine WL_stepM rfl (R_as) ?_
    refine WL_nil ?_
    refine W_cond_f rfl ?_
    refine W_seq ?_
    refine W_region_l ?_
    refine WL_step rfl (R_eq_t rfl rfl (by omega)) ?_
    refine WL_stepM rfl (R_as) ?_
    refine WL_nil ?_
    refine W_cond_t rfl ?_
    refine W_seq ?_
    refine W_region_l ?_
    refine WL_stepM rfl (R_as) ?_
    refine WL_nil ?_
    refine W_ret ?_
    exact ⟨_, rfl, rfl, H⟩
  · refine W_seq ?_
    refine W_region_l ?_
    refine WL_stepM rfl (R_as) ?_
    refine WL_nil ?_
    refine W_seq ?_
    refine W_seq ?_
    refine W_region_l ?_
    refine WL_stepM rfl (R_mv) ?_
    refine WL_nil ?_
    refine W_block ?_
    refine W_seq ?_
    refine W_region_l ?_
    refine WL_step rfl (R_eq_f rfl rfl (by omega)) ?_
    refine WL_stepM rfl (R_as) ?_
    refine WL_nil ?_
    refine W_cond_f rfl ?_
    refine W_seq ?_
    refine W_region_l ?_
    refine WL_step rfl (R_eq_f rfl rfl (by omega)) ?_
    refine WL_stepM rfl (R_as) ?_
    refine WL_nil ?_
    refine W_cond_f rfl ?_
    refine W_seq ?_
    refine W_region_l ?_
    refine WL_step rfl (R_eq_t rfl rfl (by omega)) ?_
    refine WL_stepM rfl (R_as) ?_
    refine WL_nil ?_
    refine W_cond_t rfl ?_
    refine W_seq ?_
    refine W_region_l ?_
    refine WL_stepM rfl (R_mv) ?_
    refine WL_step rfl (R_nilCheck rfl) ?_
    refine WL_step rfl (R_fieldAddr (off' := 2) Tryz.underlying177 rfl Tryz.sizeOf22 (by decide) rfl rfl) ?_
    refine WL_step rfl (R_load Tryz.isAgg22 rfl (H.block hc (by simp)) rfl) ?_
    refine WL_step rfl (R_len_slice Tryz.underlying22 rfl) ?_
    refine WL_step rfl (R_add rfl rfl (w_i64 (by omega))) ?_
    refine WL_step rfl (R_sub (r := ((3 + nms.length : Nat) : Int)) rfl rfl (by rw [w_i64 (by omega)]; omega)) ?_
    refine WL_stepM rfl (R_as) ?_
    refine WL_nil ?_
    refine W_ret ?_
    exact ⟨_, rfl, rfl, H⟩
  · refine W_seq ?_
    refine W_region_l ?_
    refine WL_stepM rfl (R_as) ?_
    refine WL_nil ?_
    refine W_seq ?_
    refine W_seq ?_
    refine W_region_l ?_
    refine WL_stepM rfl (R_mv) ?_
    refine WL_nil ?_
    refine W_block ?_
    refine W_seq ?_
    refine W_region_l ?_
    refine WL_step rfl (R_eq_f rfl rfl (by omega)) ?_
    refine WL_stepM rfl (R_as) ?_
    refine WL_nil ?_
    refine W_cond_f rfl ?_
    refine W_seq ?_
    refine W_region_l ?_
    refine WL_step rfl (R_eq_f rfl rfl (by omega)) ?_
    refine WL_stepM rfl (R_as) ?_
    refine WL_nil ?_
    refine W_cond_f rfl ?_
    refine W_seq ?_
    refine W_region_l ?_
    refine WL_step rfl (R_eq_f rfl rfl (by omega)) ?_
    refine WL_stepM rfl (R_as) ?_
    refine WL_nil ?_
    refine W_cond_f rfl ?_
    refine W_skip ?_
    refine W_seq ?_
    refine W_region_l ?_
    refine WL_stepM rfl (R_as) ?_
    refine WL_nil ?_
    refine W_ret ?_
    exact ⟨_, rfl, rfl, H⟩

theorem place1 (hM : CmI w c C) {nm : Int} {i : Nat} (h : C.nms[0]? = some nm) (hi : i < 8) :
    Ret Tryz.prog 124 #[ptr c 0, .agg #[I 1, I ((i : Nat) : Int)]] w fun v w' => v = .tuple #[.agg #[I nm, I ((24 * i : Nat) : Int), I 24], .bool true] ∧ Hp w [] w' := by
  refine Ret_of_WC (args := [_, _]) Tryz.func124 rfl Tryz.ntmps124 Tryz.results124 (by simp) ?_
  have H := Hp.refl w
  have hc := hM.hc
  have h1 := hM.hl
  have h2 := hM.hl0
  have hcv := hM.hcv
  obtain ⟨κ, e, ca, cc, nms, wins, mp, es, clk, bad⟩ := C
  simp only at h h1 h2 hc hcv 
  obtain ⟨cb, co, rfl, hcell⟩ := hcv.cell (i := 0) (u := I nm) (by rw [List.getElem?_map, h]; rfl)
  refine W_seq ?_
  refine W_region_l ?_
  (refine WL_effn rfl (E_box (vs := [I 1, I ((i : Nat) : Int)]) H rfl rfl) ?_; clear H; intro c3 w3 hc3 H)
  (refine WL_effn rfl (E_alloc (vs := [I 0, I 0, I 0]) H Tryz.zeroValue217 rfl) ?_; clear H; intro c4 w4 hc4 H)
  refine WL_stepM rfl (R_as) ?_
  refine WL_nil ?_
  refine W_seq ?_
  refine W_region_l ?_
  refine WL_step rfl (R_fieldAddr (off' := 1) Tryz.underlying182 rfl Tryz.sizeOf3 (by decide) rfl rfl) ?_
  refine WL_step rfl (R_load Tryz.isAgg3 rfl (H.get (.there .here)) rfl) ?_
  refine WL_stepM rfl (R_as) ?_
  refine WL_nil ?_
  refine W_seq ?_
  refine W_seq ?_
  refine W_region_l ?_
  refine WL_stepM rfl (R_mv) ?_
  refine WL_step rfl (R_lt_f rfl rfl (by omega)) ?_
  refine WL_stepM rfl (R_mv) ?_
  refine WL_guard_t rfl rfl ?_
  refine WL_stepM rfl (R_mv) ?_
  refine WL_guard_t rfl rfl ?_
  refine WL_stepM rfl (R_mv) ?_
  refine WL_guard_t rfl rfl ?_
  refine WL_step rfl (R_fieldAddr (off' := 0) Tryz.underlying182 rfl Tryz.sizeOf3 (by decide) rfl rfl) ?_
  refine WL_guard_t rfl rfl ?_
  refine WL_step rfl (R_load Tryz.isAgg3 rfl (H.get (.there .here)) rfl) ?_
  refine WL_guard_t rfl rfl ?_
  (refine WL_call rfl (R_call rfl Tryz.call102 rfl) (most_ret (hM.keepN H kYs) 1 (8) (.inl ⟨rfl, rfl⟩)) ?_; rintro _ w28 ⟨rfl, H1⟩; replace H := H.seq0 H1; clear H1)
  refine WL_guard_t rfl rfl ?_
  refine WL_step rfl (R_ge_f rfl rfl (by omega)) ?_
  refine WL_stepM rfl (R_pk_f rfl) ?_
  refine WL_nil ?_
  refine W_cond_f rfl ?_
  refine W_skip ?_
  refine W_seq ?_
  refine W_region_l ?_
  refine WL_stepM rfl (R_mv) ?_
  refine WL_step rfl (R_nilCheck rfl) ?_
  refine WL_step rfl (R_fieldAddr (off' := 2) Tryz.underlying177 rfl Tryz.sizeOf22 (by decide) rfl rfl) ?_
  refine WL_step rfl (R_load Tryz.isAgg22 rfl (H.blockN hc kYs) rfl) ?_
  refine WL_step rfl (R_indexAddr (off' := co) Tryz.underlying22 Tryz.sizeOf3 rfl rfl (by omega) (by omega) (by omega)) ?_
  refine WL_step rfl (R_load_cell Tryz.isAgg3 rfl (H.cellN hcell kYs)) ?_
  refine WL_stepM rfl (R_as) ?_
  refine WL_nil ?_
  refine W_seq ?_
  refine W_block ?_
  refine W_seq ?_
  refine W_region_l ?_
  refine WL_step rfl (R_fieldAddr (off' := 0) Tryz.underlying182 rfl Tryz.sizeOf3 (by decide) rfl rfl) ?_
  refine WL_step rfl (R_load Tryz.isAgg3 rfl (H.get (.there .here)) rfl) ?_
  refine WL_step rfl (R_eq_t rfl rfl (by omega)) ?_
  refine WL_stepM rfl (R_as) ?_
  refine WL_nil ?_
  refine W_cond_t rfl ?_
  refine W_seq ?_
  refine W_region_l ?_
  refine WL_stepM rfl (R_mv) ?_
  refine WL_stepM rfl (R_mv) ?_
  refine WL_step rfl (R_mul (r := ((24 * i : Nat) : Int)) rfl rfl (by rw [w_i64 (by omega)]; omega)) ?_
  refine WL_step rfl (R_buildL (places := [(0, 1), (1, 1), (2, 1)]) (vs := [I nm, I ((24 * i : Nat) : Int), I 24]) Tryz.underlying217 Tryz.typeInfo217 rfl rfl (by kernel_rfl) rfl rfl rfl) ?_
  (refine WL_effu rfl (E_storeA (vs := [I nm, I ((24 * i : Nat) : Int), I 24]) H Tryz.sizeOf217 rfl rfl (by simp [Value.oneCell']) .here (by simp)) ?_; clear H; intro w61 H; replace H : Hp w [(c4, blk [I nm, I ((24 * i : Nat) : Int), I 24] 217), (c3, blk [I 1, I ((i : Nat) : Int)] 182)] w61 := H)
  refine WL_stepM rfl (R_as) ?_
  refine WL_nil ?_
  refine W_ret ?_
  exact ⟨_, ⟨_, _, rfl, ldA Tryz.isAgg217 Tryz.sizeOf217 (H.get .here) rfl (by simp), rfl⟩, rfl, H.none kYs⟩

theorem place2 (hM : CmI w c C) {nm : Int} {i : Nat} (h : C.nms[0]? = some nm) (hi : i < 12) :
    Ret Tryz.prog 124 #[ptr c 0, .agg #[I 2, I ((i : Nat) : Int)]] w fun v w' => v = .tuple #[.agg #[I nm, I ((192 + 8 * i : Nat) : Int), I 8], .bool true] ∧ Hp w [] w' := by
  refine Ret_of_WC (args := [_, _]) Tryz.func124 rfl Tryz.ntmps124 Tryz.results124 (by simp) ?_
  have H := Hp.refl w
  have hc := hM.hc
  have h1 := hM.hl
  have h2 := hM.hl0
  have hcv := hM.hcv
  obtain ⟨κ, e, ca, cc, nms, wins, mp, es, clk, bad⟩ := C
  simp only at h h1 h2 hc hcv 
  obtain ⟨cb, co, rfl, hcell⟩ := hcv.cell (i := 0) (u := I nm) (by rw [List.getElem?_map, h]; rfl)
  refine W_seq ?_
  refine W_region_l ?_
  (refine WL_effn rfl (E_box (vs := [I 2, I ((i : Nat) : Int)]) H rfl rfl) ?_; clear H; intro c3 w3 hc3 H)
  (refine WL_effn rfl (E_alloc (vs := [I 0, I 0, I 0]) H Tryz.zeroValue217 rfl) ?_; clear H; intro c4 w4 hc4 H)
  refine WL_stepM rfl (R_as) ?_
  refine WL_nil ?_
  refine W_seq ?_
  refine W_region_l ?_
  refine WL_step rfl (R_fieldAddr (off' := 1) Tryz.underlying182 rfl Tryz.sizeOf3 (by decide) rfl rfl) ?_
  refine WL_step rfl (R_load Tryz.isAgg3 rfl (H.get (.there .here)) rfl) ?_
  refine WL_stepM rfl (R_as) ?_
  refine WL_nil ?_
  refine W_seq ?_
  refine W_seq ?_
  refine W_region_l ?_
  refine WL_stepM rfl (R_mv) ?_
  refine WL_step rfl (R_lt_f rfl rfl (by omega)) ?_
  refine WL_stepM rfl (R_mv) ?_
  refine WL_guard_t rfl rfl ?_
  refine WL_stepM rfl (R_mv) ?_
  refine WL_guard_t rfl rfl ?_
  refine WL_stepM rfl (R_mv) ?_
  refine WL_guard_t rfl rfl ?_
  refine WL_step rfl (R_fieldAddr (off' := 0) Tryz.underlying182 rfl Tryz.sizeOf3 (by decide) rfl rfl) ?_
  refine WL_guard_t rfl rfl ?_
  refine WL_step rfl (R_load Tryz.isAgg3 rfl (H.get (.there .here)) rfl) ?_
  refine WL_guard_t rfl rfl ?_
  (refine WL_call rfl (R_call rfl Tryz.call102 rfl) (most_ret (hM.keepN H kYs) 2 (12) (.inr (.inl ⟨rfl, rfl⟩))) ?_; rintro _ w28 ⟨rfl, H1⟩; replace H := H.seq0 H1; clear H1)
  refine WL_guard_t rfl rfl ?_
  refine WL_step rfl (R_ge_f rfl rfl (by omega)) ?_
  refine WL_stepM rfl (R_pk_f rfl) ?_
  refine WL_nil ?_
  refine W_cond_f rfl ?_
  refine W_skip ?_
  refine W_seq ?_
  refine W_region_l ?_
  refine WL_stepM rfl (R_mv) ?_
  refine WL_step rfl (R_nilCheck rfl) ?_
  refine WL_step rfl (R_fieldAddr (off' := 2) Tryz.underlying177 rfl Tryz.sizeOf22 (by decide) rfl rfl) ?_
  refine WL_step rfl (R_load Tryz.isAgg22 rfl (H.blockN hc kYs) rfl) ?_
  refine WL_step rfl (R_indexAddr (off' := co) Tryz.underlying22 Tryz.sizeOf3 rfl rfl (by omega) (by omega) (by omega)) ?_
  refine WL_step rfl (R_load_cell Tryz.isAgg3 rfl (H.cellN hcell kYs)) ?_
  refine WL_stepM rfl (R_as) ?_
  refine WL_nil ?_
  refine W_seq ?_
  refine W_block ?_
  refine W_seq ?_
  refine W_region_l ?_
  refine WL_step rfl (R_fieldAddr (off' := 0) Tryz.underlying182 rfl Tryz.sizeOf3 (by decide) rfl rfl) ?_
  refine WL_step rfl (R_load Tryz.isAgg3 rfl (H.get (.there .here)) rfl) ?_
  refine WL_step rfl (R_eq_f rfl rfl (by omega)) ?_
  refine WL_stepM rfl (R_as) ?_
  refine WL_nil ?_
  refine W_cond_f rfl ?_
  refine W_seq ?_
  refine W_region_l ?_
  refine WL_step rfl (R_fieldAddr (off' := 0) Tryz.underlying182 rfl Tryz.sizeOf3 (by decide) rfl rfl) ?_
  refine WL_step rfl (R_load Tryz.isAgg3 rfl (H.get (.there .here)) rfl) ?_
  refine WL_step rfl (R_eq_t rfl rfl (by omega)) ?_
  refine WL_stepM rfl (R_as) ?_
  refine WL_nil ?_
  refine W_cond_t rfl ?_
  refine W_seq ?_
  refine W_region_l ?_
  refine WL_stepM rfl (R_mv) ?_
  refine WL_stepM rfl (R_mv) ?_
  refine WL_step rfl (R_mul (r := ((8 * i : Nat) : Int)) rfl rfl (by rw [w_i64 (by omega)]; omega)) ?_
  refine WL_step rfl (R_add (r := ((192 + 8 * i : Nat) : Int)) rfl rfl (by rw [w_i64 (by omega)]; omega)) ?_
  refine WL_step rfl (R_buildL (places := [(0, 1), (1, 1), (2, 1)]) (vs := [I nm, I ((192 + 8 * i : Nat) : Int), I 8]) Tryz.underlying217 Tryz.typeInfo217 rfl rfl (by kernel_rfl) rfl rfl rfl) ?_
  (refine WL_effu rfl (E_storeA (vs := [I nm, I ((192 + 8 * i : Nat) : Int), I 8]) H Tryz.sizeOf217 rfl rfl (by simp [Value.oneCell']) .here (by simp)) ?_; clear H; intro w70 H; replace H : Hp w [(c4, blk [I nm, I ((192 + 8 * i : Nat) : Int), I 8] 217), (c3, blk [I 2, I ((i : Nat) : Int)] 182)] w70 := H)
  refine WL_stepM rfl (R_as) ?_
  refine WL_nil ?_
  refine W_ret ?_
  exact ⟨_, ⟨_, _, rfl, ldA Tryz.isAgg217 Tryz.sizeOf217 (H.get .here) rfl (by simp), rfl⟩, rfl, H.none kYs⟩

theorem place3 (hM : CmI w c C) {nm : Int} {i : Nat} (h : C.nms[0]? = some nm) (hi : i < 4) :
    Ret Tryz.prog 124 #[ptr c 0, .agg #[I 3, I ((i : Nat) : Int)]] w fun v w' => v = .tuple #[.agg #[I nm, I ((288 + 40 * i : Nat) : Int), I 40], .bool true] ∧ Hp w [] w' := by
  refine Ret_of_WC (args := [_, _]) Tryz.func124 rfl Tryz.ntmps124 Tryz.results124 (by simp) ?_
  have H := Hp.refl w
  have hc := hM.hc
  have h1 := hM.hl
  have h2 := hM.hl0
  have hcv := hM.hcv
  obtain ⟨κ, e, ca, cc, nms, wins, mp, es, clk, bad⟩ := C
  simp only at h h1 h2 hc hcv 
  obtain ⟨cb, co, rfl, hcell⟩ := hcv.cell (i := 0) (u := I nm) (by rw [List.getElem?_map, h]; rfl)
  refine W_seq ?_
  refine W_region_l ?_
  (refine WL_effn rfl (E_box (vs := [I 3, I ((i : Nat) : Int)]) H rfl rfl) ?_; clear H; intro c3 w3 hc3 H)
  (refine WL_effn rfl (E_alloc (vs := [I 0, I 0, I 0]) H Tryz.zeroValue217 rfl) ?_; clear H; intro c4 w4 hc4 H)
  refine WL_stepM rfl (R_as) ?_
  refine WL_nil ?_
  refine W_seq ?_
  refine W_region_l ?_
  refine WL_step rfl (R_fieldAddr (off' := 1) Tryz.underlying182 rfl Tryz.sizeOf3 (by decide) rfl rfl) ?_
  refine WL_step rfl (R_load Tryz.isAgg3 rfl (H.get (.there .here)) rfl) ?_
  refine WL_stepM rfl (R_as) ?_
  refine WL_nil ?_
  refine W_seq ?_
  refine W_seq ?_
  refine W_region_l ?_
  refine WL_stepM rfl (R_mv) ?_
  refine WL_step rfl (R_lt_f rfl rfl (by omega)) ?_
  refine WL_stepM rfl (R_mv) ?_
  refine WL_guard_t rfl rfl ?_
  refine WL_stepM rfl (R_mv) ?_
  refine WL_guard_t rfl rfl ?_
  refine WL_stepM rfl (R_mv) ?_
  refine WL_guard_t rfl rfl ?_
  refine WL_step rfl (R_fieldAddr (off' := 0) Tryz.underlying182 rfl Tryz.sizeOf3 (by decide) rfl rfl) ?_
  refine WL_guard_t rfl rfl ?_
  refine WL_step rfl (R_load Tryz.isAgg3 rfl (H.get (.there .here)) rfl) ?_
  refine WL_guard_t rfl rfl ?_
  (refine WL_call rfl (R_call rfl Tryz.call102 rfl) (most_ret (hM.keepN H kYs) 3 (3 + nms.length) (.inr (.inr (.inl ⟨rfl, rfl⟩)))) ?_; rintro _ w28 ⟨rfl, H1⟩; replace H := H.seq0 H1; clear H1)
  refine WL_guard_t rfl rfl ?_
  refine WL_step rfl (R_ge_f rfl rfl (by omega)) ?_
  refine WL_stepM rfl (R_pk_f rfl) ?_
  refine WL_nil ?_
  refine W_cond_f rfl ?_
  refine W_skip ?_
  refine W_seq ?_
  refine W_region_l ?_
  refine WL_stepM rfl (R_mv) ?_
  refine WL_step rfl (R_nilCheck rfl) ?_
  refine WL_step rfl (R_fieldAddr (off' := 2) Tryz.underlying177 rfl Tryz.sizeOf22 (by decide) rfl rfl) ?_
  refine WL_step rfl (R_load Tryz.isAgg22 rfl (H.blockN hc kYs) rfl) ?_
  refine WL_step rfl (R_indexAddr (off' := co) Tryz.underlying22 Tryz.sizeOf3 rfl rfl (by omega) (by omega) (by omega)) ?_
  refine WL_step rfl (R_load_cell Tryz.isAgg3 rfl (H.cellN hcell kYs)) ?_
  refine WL_stepM rfl (R_as) ?_
  refine WL_nil ?_
  refine W_seq ?_
  refine W_block ?_
  refine W_seq ?_
  refine W_region_l ?_
  refine WL_step rfl (R_fieldAddr (off' := 0) Tryz.underlying182 rfl Tryz.sizeOf3 (by decide) rfl rfl) ?_
  refine WL_step rfl (R_load Tryz.isAgg3 rfl (H.get (.there .here)) rfl) ?_
  refine WL_step rfl (R_eq_f rfl rfl (by omega)) ?_
  refine WL_stepM rfl (R_as) ?_
  refine WL_nil ?_
  refine W_cond_f rfl ?_
  refine W_seq ?_
  refine W_region_l ?_
  refine WL_step rfl (R_fieldAddr (off' := 0) Tryz.underlying182 rfl Tryz.sizeOf3 (by decide) rfl rfl) ?_
  refine WL_step rfl (R_load Tryz.isAgg3 rfl (H.get (.there .here)) rfl) ?_
  refine WL_step rfl (R_eq_f rfl rfl (by omega)) ?_
  refine WL_stepM rfl (R_as) ?_
  refine WL_nil ?_
  refine W_cond_f rfl ?_
  refine W_seq ?_
  refine W_region_l ?_
  refine WL_step rfl (R_fieldAddr (off' := 0) Tryz.underlying182 rfl Tryz.sizeOf3 (by decide) rfl rfl) ?_
  refine WL_step rfl (R_load Tryz.isAgg3 rfl (H.get (.there .here)) rfl) ?_
  refine WL_step rfl (R_eq_t rfl rfl (by omega)) ?_
  refine WL_stepM rfl (R_mv) ?_
  refine WL_guard_t rfl rfl ?_
  refine WL_stepM rfl (R_mv) ?_
  refine WL_guard_t rfl rfl ?_
  refine WL_step rfl (R_lt_t rfl rfl (by omega)) ?_
  refine WL_stepM rfl (R_pk_t rfl) ?_
  refine WL_stepM rfl (R_as) ?_
  refine WL_nil ?_
  refine W_cond_t rfl ?_
  refine W_seq ?_
  refine W_region_l ?_
  refine WL_stepM rfl (R_mv) ?_
  refine WL_stepM rfl (R_mv) ?_
  refine WL_step rfl (R_mul (r := ((40 * i : Nat) : Int)) rfl rfl (by rw [w_i64 (by omega)]; omega)) ?_
  refine WL_step rfl (R_add (r := ((288 + 40 * i : Nat) : Int)) rfl rfl (by rw [w_i64 (by omega)]; omega)) ?_
  refine WL_step rfl (R_buildL (places := [(0, 1), (1, 1), (2, 1)]) (vs := [I nm, I ((288 + 40 * i : Nat) : Int), I 40]) Tryz.underlying217 Tryz.typeInfo217 rfl rfl (by kernel_rfl) rfl rfl rfl) ?_
  (refine WL_effu rfl (E_storeA (vs := [I nm, I ((288 + 40 * i : Nat) : Int), I 40]) H Tryz.sizeOf217 rfl rfl (by simp [Value.oneCell']) .here (by simp)) ?_; clear H; intro w84 H; replace H : Hp w [(c4, blk [I nm, I ((288 + 40 * i : Nat) : Int), I 40] 217), (c3, blk [I 3, I ((i : Nat) : Int)] 182)] w84 := H)
  refine WL_stepM rfl (R_as) ?_
  refine WL_nil ?_
  refine W_ret ?_
  exact ⟨_, ⟨_, _, rfl, ldA Tryz.isAgg217 Tryz.sizeOf217 (H.get .here) rfl (by simp), rfl⟩, rfl, H.none kYs⟩

theorem place4 (hM : CmI w c C) {nm : Int} {i : Nat} (h : C.nms[i - 3]? = some nm) (hi : 4 ≤ i) (hi2 : i < 3 + C.nms.length) :
    Ret Tryz.prog 124 #[ptr c 0, .agg #[I 3, I ((i : Nat) : Int)]] w fun v w' => v = .tuple #[.agg #[I nm, I ((0 : Nat) : Int), I 40], .bool true] ∧ Hp w [] w' := by
  refine Ret_of_WC (args := [_, _]) Tryz.func124 rfl Tryz.ntmps124 Tryz.results124 (by simp) ?_
  have H := Hp.refl w
  obtain ⟨nm0, h0⟩ : ∃ nm0, C.nms[0]? = some nm0 := ⟨_, List.getElem?_eq_getElem (by have := hM.hl; have := hM.hl0; omega)⟩
  have hc := hM.hc
  have h1 := hM.hl
  have h2 := hM.hl0
  have hcv := hM.hcv
  obtain ⟨κ, e, ca, cc, nms, wins, mp, es, clk, bad⟩ := C
  simp only at h h1 h2 hc hcv hi2 h0
  obtain ⟨cb, co, rfl, hcell⟩ := hcv.cell (i := 0) (u := I nm0) (by rw [List.getElem?_map, h0]; rfl)
  obtain ⟨cb2, co2, hca2, hcell2⟩ := hcv.cell (i := i - 3) (u := I nm) (by rw [List.getElem?_map, h]; rfl)
  cases hca2
  refine W_seq ?_
  refine W_region_l ?_
  (refine WL_effn rfl (E_box (vs := [I 3, I ((i : Nat) : Int)]) H rfl rfl) ?_; clear H; intro c3 w3 hc3 H)
  (refine WL_effn rfl (E_alloc (vs := [I 0, I 0, I 0]) H Tryz.zeroValue217 rfl) ?_; clear H; intro c4 w4 hc4 H)
  refine WL_stepM rfl (R_as) ?_
  refine WL_nil ?_
  refine W_seq ?_
  refine W_region_l ?_
  refine WL_step rfl (R_fieldAddr (off' := 1) Tryz.underlying182 rfl Tryz.sizeOf3 (by decide) rfl rfl) ?_
  refine WL_step rfl (R_load Tryz.isAgg3 rfl (H.get (.there .here)) rfl) ?_
  refine WL_stepM rfl (R_as) ?_
  refine WL_nil ?_
  refine W_seq ?_
  refine W_seq ?_
  refine W_region_l ?_
  refine WL_stepM rfl (R_mv) ?_
  refine WL_step rfl (R_lt_f rfl rfl (by omega)) ?_
  refine WL_stepM rfl (R_mv) ?_
  refine WL_guard_t rfl rfl ?_
  refine WL_stepM rfl (R_mv) ?_
  refine WL_guard_t rfl rfl ?_
  refine WL_stepM rfl (R_mv) ?_
  refine WL_guard_t rfl rfl ?_
  refine WL_step rfl (R_fieldAddr (off' := 0) Tryz.underlying182 rfl Tryz.sizeOf3 (by decide) rfl rfl) ?_
  refine WL_guard_t rfl rfl ?_
  refine WL_step rfl (R_load Tryz.isAgg3 rfl (H.get (.there .here)) rfl) ?_
  refine WL_guard_t rfl rfl ?_
  (refine WL_call rfl (R_call rfl Tryz.call102 rfl) (most_ret (hM.keepN H kYs) 3 (3 + nms.length) (.inr (.inr (.inl ⟨rfl, rfl⟩)))) ?_; rintro _ w28 ⟨rfl, H1⟩; replace H := H.seq0 H1; clear H1)
  refine WL_guard_t rfl rfl ?_
  refine WL_step rfl (R_ge_f rfl rfl (by omega)) ?_
  refine WL_stepM rfl (R_pk_f rfl) ?_
  refine WL_nil ?_
  refine W_cond_f rfl ?_
  refine W_skip ?_
  refine W_seq ?_
  refine W_region_l ?_
  refine WL_stepM rfl (R_mv) ?_
  refine WL_step rfl (R_nilCheck rfl) ?_
  refine WL_step rfl (R_fieldAddr (off' := 2) Tryz.underlying177 rfl Tryz.sizeOf22 (by decide) rfl rfl) ?_
  refine WL_step rfl (R_load Tryz.isAgg22 rfl (H.blockN hc kYs) rfl) ?_
  refine WL_step rfl (R_indexAddr (off' := co) Tryz.underlying22 Tryz.sizeOf3 rfl rfl (by omega) (by omega) (by omega)) ?_
  refine WL_step rfl (R_load_cell Tryz.isAgg3 rfl (H.cellN hcell kYs)) ?_
  refine WL_stepM rfl (R_as) ?_
  refine WL_nil ?_
  refine W_seq ?_
  refine W_block ?_
  refine W_seq ?_
  refine W_region_l ?_
  refine WL_step rfl (R_fieldAddr (off' := 0) Tryz.underlying182 rfl Tryz.sizeOf3 (by decide) rfl rfl) ?_
  refine WL_step rfl (R_load Tryz.isAgg3 rfl (H.get (.there .here)) rfl) ?_
  refine WL_step rfl (R_eq_f rfl rfl (by omega)) ?_
  refine WL_stepM rfl (R_as) ?_
  refine WL_nil ?_
  refine W_cond_f rfl ?_
  refine W_seq ?_
  refine W_region_l ?_
  refine WL_step rfl (R_fieldAddr (off' := 0) Tryz.underlying182 rfl Tryz.sizeOf3 (by decide) rfl rfl) ?_
  refine WL_step rfl (R_load Tryz.isAgg3 rfl (H.get (.there .here)) rfl) ?_
  refine WL_step rfl (R_eq_f rfl rfl (by omega)) ?_
  refine WL_stepM rfl (R_as) ?_
  refine WL_nil ?_
  refine W_cond_f rfl ?_
  refine W_seq ?_
  refine W_region_l ?_
  refine WL_step rfl (R_fieldAddr (off' := 0) Tryz.underlying182 rfl Tryz.sizeOf3 (by decide) rfl rfl) ?_
  refine WL_step rfl (R_load Tryz.isAgg3 rfl (H.get (.there .here)) rfl) ?_
  refine WL_step rfl (R_eq_t rfl rfl (by omega)) ?_
  refine WL_stepM rfl (R_mv) ?_
  refine WL_guard_t rfl rfl ?_
  refine WL_stepM rfl (R_mv) ?_
  refine WL_guard_t rfl rfl ?_
  refine WL_step rfl (R_lt_f rfl rfl (by omega)) ?_
  refine WL_stepM rfl (R_pk_t rfl) ?_
  refine WL_stepM rfl (R_as) ?_
  refine WL_nil ?_
  refine W_cond_f rfl ?_
  refine W_seq ?_
  refine W_region_l ?_
  refine WL_step rfl (R_fieldAddr (off' := 0) Tryz.underlying182 rfl Tryz.sizeOf3 (by decide) rfl rfl) ?_
  refine WL_step rfl (R_load Tryz.isAgg3 rfl (H.get (.there .here)) rfl) ?_
  refine WL_step rfl (R_eq_t rfl rfl (by omega)) ?_
  refine WL_stepM rfl (R_as) ?_
  refine WL_nil ?_
  refine W_cond_t rfl ?_
  refine W_seq ?_
  refine W_region_l ?_
  refine WL_stepM rfl (R_mv) ?_
  refine WL_step rfl (R_nilCheck rfl) ?_
  refine WL_step rfl (R_fieldAddr (off' := 2) Tryz.underlying177 rfl Tryz.sizeOf22 (by decide) rfl rfl) ?_
  refine WL_step rfl (R_load Tryz.isAgg22 rfl (H.blockN hc kYs) rfl) ?_
  refine WL_stepM rfl (R_mv) ?_
  refine WL_step rfl (R_sub rfl rfl (w_i64 (by omega))) ?_
  refine WL_step rfl (R_add (r := ((i - 3 : Nat) : Int)) rfl rfl (by rw [w_i64 (by omega)]; omega)) ?_
  refine WL_step rfl (R_indexAddr (off' := co + (i - 3)) Tryz.underlying22 Tryz.sizeOf3 rfl rfl (by omega) (by omega) (by omega)) ?_
  refine WL_step rfl (R_load_cell Tryz.isAgg3 rfl (H.cellN hcell2 kYs)) ?_
  refine WL_step rfl (R_buildL (places := [(0, 1), (1, 1), (2, 1)]) (vs := [I nm, I ((0 : Nat) : Int), I 40]) Tryz.underlying217 Tryz.typeInfo217 rfl rfl (by kernel_rfl) rfl rfl rfl) ?_
  (refine WL_effu rfl (E_storeA (vs := [I nm, I ((0 : Nat) : Int), I 40]) H Tryz.sizeOf217 rfl rfl (by simp [Value.oneCell']) .here (by simp)) ?_; clear H; intro w97 H; replace H : Hp w [(c4, blk [I nm, I ((0 : Nat) : Int), I 40] 217), (c3, blk [I 3, I ((i : Nat) : Int)] 182)] w97 := H)
  refine WL_stepM rfl (R_as) ?_
  refine WL_nil ?_
  refine W_ret ?_
  exact ⟨_, ⟨_, _, rfl, ldA Tryz.isAgg217 Tryz.sizeOf217 (H.get .here) rfl (by simp), rfl⟩, rfl, H.none kYs⟩

theorem place5 (hM : CmI w c C) {nm : Int}  (h : C.nms[0]? = some nm)  :
    Ret Tryz.prog 124 #[ptr c 0, .agg #[I 4, I ((0 : Nat) : Int)]] w fun v w' => v = .tuple #[.agg #[I nm, I ((448 : Nat) : Int), I 40], .bool true] ∧ Hp w [] w' := by
  refine Ret_of_WC (args := [_, _]) Tryz.func124 rfl Tryz.ntmps124 Tryz.results124 (by simp) ?_
  have H := Hp.refl w
  have hc := hM.hc
  have h1 := hM.hl
  have h2 := hM.hl0
  have hcv := hM.hcv
  obtain ⟨κ, e, ca, cc, nms, wins, mp, es, clk, bad⟩ := C
  simp only at h h1 h2 hc hcv 
  obtain ⟨cb, co, rfl, hcell⟩ := hcv.cell (i := 0) (u := I nm) (by rw [List.getElem?_map, h]; rfl)
  refine W_seq ?_
  refine W_region_l ?_
  (refine WL_effn rfl (E_box (vs := [I 4, I ((0 : Nat) : Int)]) H rfl rfl) ?_; clear H; intro c3 w3 hc3 H)
  (refine WL_effn rfl (E_alloc (vs := [I 0, I 0, I 0]) H Tryz.zeroValue217 rfl) ?_; clear H; intro c4 w4 hc4 H)
  refine WL_stepM rfl (R_as) ?_
  refine WL_nil ?_
  refine W_seq ?_
  refine W_region_l ?_
  refine WL_step rfl (R_fieldAddr (off' := 1) Tryz.underlying182 rfl Tryz.sizeOf3 (by decide) rfl rfl) ?_
  refine WL_step rfl (R_load Tryz.isAgg3 rfl (H.get (.there .here)) rfl) ?_
  refine WL_stepM rfl (R_as) ?_
  refine WL_nil ?_
  refine W_seq ?_
  refine W_seq ?_
  refine W_region_l ?_
  refine WL_stepM rfl (R_mv) ?_
  refine WL_step rfl (R_lt_f rfl rfl (by omega)) ?_
  refine WL_stepM rfl (R_mv) ?_
  refine WL_guard_t rfl rfl ?_
  refine WL_stepM rfl (R_mv) ?_
  refine WL_guard_t rfl rfl ?_
  refine WL_stepM rfl (R_mv) ?_
  refine WL_guard_t rfl rfl ?_
  refine WL_step rfl (R_fieldAddr (off' := 0) Tryz.underlying182 rfl Tryz.sizeOf3 (by decide) rfl rfl) ?_
  refine WL_guard_t rfl rfl ?_
  refine WL_step rfl (R_load Tryz.isAgg3 rfl (H.get (.there .here)) rfl) ?_
  refine WL_guard_t rfl rfl ?_
  (refine WL_call rfl (R_call rfl Tryz.call102 rfl) (most_ret (hM.keepN H kYs) 4 (1) (.inr (.inr (.inr ⟨by decide, rfl⟩)))) ?_; rintro _ w28 ⟨rfl, H1⟩; replace H := H.seq0 H1; clear H1)
  refine WL_guard_t rfl rfl ?_
  refine WL_step rfl (R_ge_f rfl rfl (by omega)) ?_
  refine WL_stepM rfl (R_pk_f rfl) ?_
  refine WL_nil ?_
  refine W_cond_f rfl ?_
  refine W_skip ?_
  refine W_seq ?_
  refine W_region_l ?_
  refine WL_stepM rfl (R_mv) ?_
  refine WL_step rfl (R_nilCheck rfl) ?_
  refine WL_step rfl (R_fieldAddr (off' := 2) Tryz.underlying177 rfl Tryz.sizeOf22 (by decide) rfl rfl) ?_
  refine WL_step rfl (R_load Tryz.isAgg22 rfl (H.blockN hc kYs) rfl) ?_
  refine WL_step rfl (R_indexAddr (off' := co) Tryz.underlying22 Tryz.sizeOf3 rfl rfl (by omega) (by omega) (by omega)) ?_
  refine WL_step rfl (R_load_cell Tryz.isAgg3 rfl (H.cellN hcell kYs)) ?_
  refine WL_stepM rfl (R_as) ?_
  refine WL_nil ?_
  refine W_seq ?_
  refine W_block ?_
  refine W_seq ?_
  refine W_region_l ?_
  refine WL_step rfl (R_fieldAddr (off' := 0) Tryz.underlying182 rfl Tryz.sizeOf3 (by decide) rfl rfl) ?_
  refine WL_step rfl (R_load Tryz.isAgg3 rfl (H.get (.there .here)) rfl) ?_
  refine WL_step rfl (R_eq_f rfl rfl (by omega)) ?_
  refine WL_stepM rfl (R_as) ?_
  refine WL_nil ?_
  refine W_cond_f rfl ?_
  refine W_seq ?_
  refine W_region_l ?_
  refine WL_step rfl (R_fieldAddr (off' := 0) Tryz.underlying182 rfl Tryz.sizeOf3 (by decide) rfl rfl) ?_
  refine WL_step rfl (R_load Tryz.isAgg3 rfl (H.get (.there .here)) rfl) ?_
  refine WL_step rfl (R_eq_f rfl rfl (by omega)) ?_
  refine WL_stepM rfl (R_as) ?_
  refine WL_nil ?_
  refine W_cond_f rfl ?_
  refine W_seq ?_
  refine W_region_l ?_
  refine WL_step rfl (R_fieldAddr (off' := 0) Tryz.underlying182 rfl Tryz.sizeOf3 (by decide) rfl rfl) ?_
  refine WL_step rfl (R_load Tryz.isAgg3 rfl (H.get (.there .here)) rfl) ?_
  refine WL_step rfl (R_eq_f rfl rfl (by omega)) ?_
  refine WL_stepM rfl (R_mv) ?_
  refine WL_guard_f rfl rfl (by decide) ?_
  refine WL_guard_f rfl rfl (by decide) ?_
  refine WL_stepM rfl (R_pk_f rfl) ?_
  refine WL_stepM rfl (R_as) ?_
  refine WL_nil ?_
  refine W_cond_f rfl ?_
  refine W_seq ?_
  refine W_region_l ?_
  refine WL_step rfl (R_fieldAddr (off' := 0) Tryz.underlying182 rfl Tryz.sizeOf3 (by decide) rfl rfl) ?_
  refine WL_step rfl (R_load Tryz.isAgg3 rfl (H.get (.there .here)) rfl) ?_
  refine WL_step rfl (R_eq_f rfl rfl (by omega)) ?_
  refine WL_stepM rfl (R_as) ?_
  refine WL_nil ?_
  refine W_cond_f rfl ?_
  refine W_seq ?_
  refine W_region_l ?_
  refine WL_step rfl (R_fieldAddr (off' := 0) Tryz.underlying182 rfl Tryz.sizeOf3 (by decide) rfl rfl) ?_
  refine WL_step rfl (R_load Tryz.isAgg3 rfl (H.get (.there .here)) rfl) ?_
  refine WL_step rfl (R_eq_t rfl rfl (by omega)) ?_
  refine WL_stepM rfl (R_as) ?_
  refine WL_nil ?_
  refine W_cond_t rfl ?_
  refine W_seq ?_
  refine W_region_l ?_
  refine WL_stepM rfl (R_mv) ?_
  refine WL_step rfl (R_buildL (places := [(0, 1), (1, 1), (2, 1)]) (vs := [I nm, I ((448 : Nat) : Int), I 40]) Tryz.underlying217 Tryz.typeInfo217 rfl rfl (by kernel_rfl) rfl rfl rfl) ?_
  (refine WL_effu rfl (E_storeA (vs := [I nm, I ((448 : Nat) : Int), I 40]) H Tryz.sizeOf217 rfl rfl (by simp [Value.oneCell']) .here (by simp)) ?_; clear H; intro w95 H; replace H : Hp w [(c4, blk [I nm, I ((448 : Nat) : Int), I 40] 217), (c3, blk [I 4, I ((0 : Nat) : Int)] 182)] w95 := H)
  refine WL_stepM rfl (R_as) ?_
  refine WL_nil ?_
  refine W_ret ?_
  exact ⟨_, ⟨_, _, rfl, ldA Tryz.isAgg217 Tryz.sizeOf217 (H.get .here) rfl (by simp), rfl⟩, rfl, H.none kYs⟩

theorem place6 (hM : CmI w c C) {nm : Int}  (h : C.nms[0]? = some nm)  :
    Ret Tryz.prog 124 #[ptr c 0, .agg #[I 5, I ((0 : Nat) : Int)]] w fun v w' => v = .tuple #[.agg #[I nm, I ((488 : Nat) : Int), I 4], .bool true] ∧ Hp w [] w' := by
  refine Ret_of_WC (args := [_, _]) Tryz.func124 rfl Tryz.ntmps124 Tryz.results124 (by simp) ?_
  have H := Hp.refl w
  have hc := hM.hc
  have h1 := hM.hl
  have h2 := hM.hl0
  have hcv := hM.hcv
  obtain ⟨κ, e, ca, cc, nms, wins, mp, es, clk, bad⟩ := C
  simp only at h h1 h2 hc hcv 
  obtain ⟨cb, co, rfl, hcell⟩ := hcv.cell (i := 0) (u := I nm) (by rw [List.getElem?_map, h]; rfl)
  refine W_seq ?_
  refine W_region_l ?_
  (refine WL_effn rfl (E_box (vs := [I 5, I ((0 : Nat) : Int)]) H rfl rfl) ?_; clear H; intro c3 w3 hc3 H)
  (refine WL_effn rfl (E_alloc (vs := [I 0, I 0, I 0]) H Tryz.zeroValue217 rfl) ?_; clear H; intro c4 w4 hc4 H)
  refine WL_stepM rfl (R_as) ?_
  refine WL_nil ?_
  refine W_seq ?_
  refine W_region_l ?_
  refine WL_step rfl (R_fieldAddr (off' := 1) Tryz.underlying182 rfl Tryz.sizeOf3 (by decide) rfl rfl) ?_
  refine WL_step rfl (R_load Tryz.isAgg3 rfl (H.get (.there .here)) rfl) ?_
  refine WL_stepM rfl (R_as) ?_
  refine WL_nil ?_
  refine W_seq ?_
  refine W_seq ?_
  refine W_region_l ?_
  refine WL_stepM rfl (R_mv) ?_
  refine WL_step rfl (R_lt_f rfl rfl (by omega)) ?_
  refine WL_stepM rfl (R_mv) ?_
  refine WL_guard_t rfl rfl ?_
  refine WL_stepM rfl (R_mv) ?_
  refine WL_guard_t rfl rfl ?_
  refine WL_stepM rfl (R_mv) ?_
  refine WL_guard_t rfl rfl ?_
  refine WL_step rfl (R_fieldAddr (off' := 0) Tryz.underlying182 rfl Tryz.sizeOf3 (by decide) rfl rfl) ?_
  refine WL_guard_t rfl rfl ?_
  refine WL_step rfl (R_load Tryz.isAgg3 rfl (H.get (.there .here)) rfl) ?_
  refine WL_guard_t rfl rfl ?_
  (refine WL_call rfl (R_call rfl Tryz.call102 rfl) (most_ret (hM.keepN H kYs) 5 (1) (.inr (.inr (.inr ⟨by decide, rfl⟩)))) ?_; rintro _ w28 ⟨rfl, H1⟩; replace H := H.seq0 H1; clear H1)
  refine WL_guard_t rfl rfl ?_
  refine WL_step rfl (R_ge_f rfl rfl (by omega)) ?_
  refine WL_stepM rfl (R_pk_f rfl) ?_
  refine WL_nil ?_
  refine W_cond_f rfl ?_
  refine W_skip ?_
  refine W_seq ?_
  refine W_region_l ?_
  refine WL_stepM rfl (R_mv) ?_
  refine WL_step rfl (R_nilCheck rfl) ?_
  refine WL_step rfl (R_fieldAddr (off' := 2) Tryz.underlying177 rfl Tryz.sizeOf22 (by decide) rfl rfl) ?_
  refine WL_step rfl (R_load Tryz.isAgg22 rfl (H.blockN hc kYs) rfl) ?_
  refine WL_step rfl (R_indexAddr (off' := co) Tryz.underlying22 Tryz.sizeOf3 rfl rfl (by omega) (by omega) (by omega)) ?_
  refine WL_step rfl (R_load_cell Tryz.isAgg3 rfl (H.cellN hcell kYs)) ?_
  refine WL_stepM rfl (R_as) ?_
  refine WL_nil ?_
  refine W_seq ?_
  refine W_block ?_
  refine W_seq ?_
  refine W_region_l ?_
  refine WL_step rfl (R_fieldAddr (off' := 0) Tryz.underlying182 rfl Tryz.sizeOf3 (by decide) rfl rfl) ?_
  refine WL_step rfl (R_load Tryz.isAgg3 rfl (H.get (.there .here)) rfl) ?_
  refine WL_step rfl (R_eq_f rfl rfl (by omega)) ?_
  refine WL_stepM rfl (R_as) ?_
  refine WL_nil ?_
  refine W_cond_f rfl ?_
  refine W_seq ?_
  refine W_region_l ?_
  refine WL_step rfl (R_fieldAddr (off' := 0) Tryz.underlying182 rfl Tryz.sizeOf3 (by decide) rfl rfl) ?_
  refine WL_step rfl (R_load Tryz.isAgg3 rfl (H.get (.there .here)) rfl) ?_
  refine WL_step rfl (R_eq_f rfl rfl (by omega)) ?_
  refine WL_stepM rfl (R_as) ?_
  refine WL_nil ?_
  refine W_cond_f rfl ?_
  refine W_seq ?_
  refine W_region_l ?_
  refine WL_step rfl (R_fieldAddr (off' := 0) Tryz.underlying182 rfl Tryz.sizeOf3 (by decide) rfl rfl) ?_
  refine WL_step rfl (R_load Tryz.isAgg3 rfl (H.get (.there .here)) rfl) ?_
  refine WL_step rfl (R_eq_f rfl rfl (by omega)) ?_
  refine WL_stepM rfl (R_mv) ?_
  refine WL_guard_f rfl rfl (by decide) ?_
  refine WL_guard_f rfl rfl (by decide) ?_
  refine WL_stepM rfl (R_pk_f rfl) ?_
  refine WL_stepM rfl (R_as) ?_
  refine WL_nil ?_
  refine W_cond_f rfl ?_
  refine W_seq ?_
  refine W_region_l ?_
  refine WL_step rfl (R_fieldAddr (off' := 0) Tryz.underlying182 rfl Tryz.sizeOf3 (by decide) rfl rfl) ?_
  refine WL_step rfl (R_load Tryz.isAgg3 rfl (H.get (.there .here)) rfl) ?_
  refine WL_step rfl (R_eq_f rfl rfl (by omega)) ?_
  refine WL_stepM rfl (R_as) ?_
  refine WL_nil ?_
  refine W_cond_f rfl ?_
  refine W_seq ?_
  refine W_region_l ?_
  refine WL_step rfl (R_fieldAddr (off' := 0) Tryz.underlying182 rfl Tryz.sizeOf3 (by decide) rfl rfl) ?_
  refine WL_step rfl (R_load Tryz.isAgg3 rfl (H.get (.there .here)) rfl) ?_
  refine WL_step rfl (R_eq_f rfl rfl (by omega)) ?_
  refine WL_stepM rfl (R_as) ?_
  refine WL_nil ?_
  refine W_cond_f rfl ?_
  refine W_skip ?_
  refine W_seq ?_
  refine W_region_l ?_
  refine WL_stepM rfl (R_mv) ?_
  refine WL_step rfl (R_buildL (places := [(0, 1), (1, 1), (2, 1)]) (vs := [I nm, I ((488 : Nat) : Int), I 4]) Tryz.underlying217 Tryz.typeInfo217 rfl rfl (by kernel_rfl) rfl rfl rfl) ?_
  (refine WL_effu rfl (E_storeA (vs := [I nm, I ((488 : Nat) : Int), I 4]) H Tryz.sizeOf217 rfl rfl (by simp [Value.oneCell']) .here (by simp)) ?_; clear H; intro w96 H; replace H : Hp w [(c4, blk [I nm, I ((488 : Nat) : Int), I 4] 217), (c3, blk [I 5, I ((0 : Nat) : Int)] 182)] w96 := H)
  refine WL_stepM rfl (R_as) ?_
  refine WL_nil ?_
  refine W_ret ?_
  exact ⟨_, ⟨_, _, rfl, ldA Tryz.isAgg217 Tryz.sizeOf217 (H.get .here) rfl (by simp), rfl⟩, rfl, H.none kYs⟩

theorem place_ret (hM : CmI w c C) {kind idx j at_ n : Nat} {nm : Int} (h : Rc C.nms.length kind idx j at_ n) (hn : C.nms[j]? = some nm) :
    Ret Tryz.prog 124 #[ptr c 0, .agg #[I kind, I idx]] w fun v w' => v = .tuple #[.agg #[I nm, I at_, I n], .bool true] ∧ Hp w [] w' := by
  rcases h with ⟨rfl, h, rfl, rfl, rfl⟩ | ⟨rfl, h, rfl, rfl, rfl⟩ | ⟨rfl, h, rfl, rfl, rfl⟩ | ⟨rfl, h, h', rfl, rfl, rfl⟩ | ⟨rfl, rfl, rfl, rfl, rfl⟩ | ⟨rfl, rfl, rfl, rfl, rfl⟩
  · exact place1 hM hn h
  · exact place2 hM hn h
  · exact place3 hM hn h
  · exact place4 hM hn h h'
  · exact place5 hM hn
  · exact place6 hM hn

/-- a record's bytes -/
def Cs.rc (C : Cs) (j at_ n : Nat) : List UInt8 := win C.κ.xs ((C.wins.getD j (0, 0)).1 + at_) n
theorem read_ret (hM : CmI w c C) {kind idx j at_ n : Nat} (h : Rc C.nms.length kind idx j at_ n) (hnb : (((kind : Nat) : Int), ((idx : Nat) : Int)) ∉ C.bad) :
    Ret Tryz.prog 145 #[ptr c 0, .agg #[I kind, I idx]] w fun v w' => ∃ u M, v = .tuple #[u, .bool true] ∧ OwnS w.heap.size 5 1 u n ((C.rc j at_ n).map U) M ∧ Hp w M w' := by
  refine Ret_of_W (args := [_, _]) Tryz.func145 rfl Tryz.ntmps145 Tryz.results145 (by simp) ?_
  have H := Hp.refl w
  have hcb := hM.hc
  obtain ⟨nm, x, hnm, hx, hfit, hn40, ha5⟩ := h.fit hM
  have hrec : C.rc j at_ n = (C.κ.xs.drop (x.1 + at_)).take n := by unfold Cs.rc win; rw [List.getD_eq_getElem?_getD, hx]; rfl
  rw [hrec]
  refine W_seq ?_
  refine W_region_l ?_
  (refine WL_effn rfl (E_box (vs := [I kind, I idx]) H rfl rfl) ?_; clear H; intro c3 w3 hc3 H)
  refine WL_stepM rfl (R_as) ?_
  refine WL_stepM rfl (R_as) ?_
  refine WL_nil ?_
  refine W_seq ?_
  refine W_region_l ?_
  refine WL_stepM rfl (R_mv) ?_
  refine WL_step rfl (R_loadA (vs := [I kind, I idx]) Tryz.isAgg182 Tryz.sizeOf182 rfl (H.get .here) rfl (by simp)) ?_
  (refine WL_call rfl (R_call rfl Tryz.call124 rfl) (place_ret (hM.keepN H kYs) h hnm) ?_; rintro _ w11 ⟨rfl, H1⟩; replace H := H.seq0 H1; clear H1)
  refine WL_stepM rfl (R_mv) ?_
  refine WL_step rfl (R_extract rfl rfl) ?_
  refine WL_step rfl (R_extract rfl rfl) ?_
  (refine WL_effn rfl (E_alloc (vs := [I 0, I 0, I 0]) H Tryz.zeroValue217 rfl) ?_; clear H; intro c6 w15 hc6 H)
  (refine WL_effu rfl (E_storeA (vs := [I nm, I at_, I n]) H Tryz.sizeOf217 rfl rfl (by simp [Value.oneCell']) .here (by simp)) ?_; clear H; intro w16 H; replace H : Hp w [(c6, blk [I nm, I at_, I n] 217), (c3, blk [I kind, I idx] 182)] w16 := H)
  refine WL_stepM rfl (R_as) ?_
  refine WL_nil ?_
  refine W_seq ?_
  refine W_seq ?_
  (refine W_drawH (fun _ => false) (by kernel_rfl) H ?_; clear H; intro w21 H)
  refine WA_takeM 0 rfl rfl rfl (by kernel_rfl) (by kernel_rfl) H (fun _ hC => R_mv) ?_
  refine WA_take 1 rfl rfl rfl (by kernel_rfl) (by kernel_rfl) H (fun _ hC => R_not_t rfl) ?_
  refine WA_takeM 2 rfl rfl rfl (by kernel_rfl) (by kernel_rfl) H (fun _ hC => R_mv) ?_
  refine WA_takeGM 3 rfl rfl rfl rfl (by kernel_rfl) (by kernel_rfl) H (fun _ hC => R_mv) ?_
  refine WA_takeG 4 rfl rfl rfl rfl (by kernel_rfl) (by kernel_rfl) H (fun _ hC => R_nilCheck rfl) ?_
  refine WA_takeG 5 rfl rfl rfl rfl (by kernel_rfl) (by kernel_rfl) H (fun _ hC => R_fieldAddr (off' := 3) Tryz.underlying177 rfl Tryz.sizeOf175 (by decide) rfl rfl) ?_
  refine WA_takeG 6 rfl rfl rfl rfl (by kernel_rfl) (by kernel_rfl) H (fun _ hC => R_load Tryz.isAgg175 rfl (hC.blockN hcb kYs) rfl) ?_
  refine WA_takeG 7 rfl rfl rfl rfl (by kernel_rfl) (by kernel_rfl) H (fun _ hC => R_loadA (vs := [I kind, I idx]) Tryz.isAgg182 Tryz.sizeOf182 rfl (hC.get (.there .here)) rfl (by simp)) ?_
  refine WA_takeG 8 rfl rfl rfl rfl (by kernel_rfl) (by kernel_rfl) H (fun _ hC => Mr.R_lookup_no (hC.blockN hM.hmp kYs) hM.hbad rfl rfl hnb) ?_
  refine WA_takeG 9 rfl rfl rfl rfl (by kernel_rfl) (by kernel_rfl) H (fun _ hC => R_gt_f rfl rfl (by omega)) ?_
  refine WA_takeM 10 rfl rfl rfl (by kernel_rfl) (by kernel_rfl) H (fun _ hC => R_pk_f rfl) ?_
  refine WA_done (by kernel_rfl) ?_
  refine W_cond_f rfl ?_
  refine W_skip ?_
  refine W_seq ?_
  (refine W_draw (KH w [(c6, blk [I nm, I at_, I n] 217), (c3, blk [I kind, I idx] 182)]) (fun i => i == 17) (by kernel_rfl) H ?_; clear H; intro w37 H)
  refine WA_takeM 0 rfl rfl rfl (by kernel_rfl) (by kernel_rfl) (H.kh (by simp) kYs) (fun _ hC => R_mv) ?_
  refine WA_take 1 rfl rfl rfl (by kernel_rfl) (by kernel_rfl) (H.kh (by simp) kYs) (fun _ hC => R_nilCheck rfl) ?_
  refine WA_take 2 rfl rfl rfl (by kernel_rfl) (by kernel_rfl) (H.kh (by simp) kYs) (fun _ hC => R_fieldAddr (off' := 0) Tryz.underlying177 rfl Tryz.sizeOf71 (by decide) rfl rfl) ?_
  refine WA_take 3 rfl rfl rfl (by kernel_rfl) (by kernel_rfl) (H.kh (by simp) kYs) (fun _ hC => R_load Tryz.isAgg71 rfl (hC.blockN hcb kYs) rfl) ?_
  refine WA_takeM 4 rfl rfl rfl (by kernel_rfl) (by kernel_rfl) (H.kh (by simp) kYs) (fun _ hC => R_mv) ?_
  refine WA_take 5 rfl rfl rfl (by kernel_rfl) (by kernel_rfl) (H.kh (by simp) kYs) (fun _ hC => R_nilCheck rfl) ?_
  refine WA_take 6 rfl rfl rfl (by kernel_rfl) (by kernel_rfl) (H.kh (by simp) kYs) (fun _ hC => R_fieldAddr (off' := 1) Tryz.underlying177 rfl Tryz.sizeOf3 (by decide) rfl rfl) ?_
  refine WA_take 7 rfl rfl rfl (by kernel_rfl) (by kernel_rfl) (H.kh (by simp) kYs) (fun _ hC => R_load Tryz.isAgg3 rfl (hC.blockN hcb kYs) rfl) ?_
  refine WA_take 8 rfl rfl rfl (by kernel_rfl) (by kernel_rfl) (H.kh (by simp) kYs) (fun _ hC => R_fieldAddr (off' := 0) Tryz.underlying217 rfl Tryz.sizeOf3 (by decide) rfl rfl) ?_
  refine WA_take 9 rfl rfl rfl (by kernel_rfl) (by kernel_rfl) (H.kh (by simp) kYs) (fun _ hC => R_load Tryz.isAgg3 rfl (hC.get .here) rfl) ?_
  refine WA_take 10 rfl rfl rfl (by kernel_rfl) (by kernel_rfl) (H.kh (by simp) kYs) (fun _ hC => R_fieldAddr (off' := 1) Tryz.underlying217 rfl Tryz.sizeOf3 (by decide) rfl rfl) ?_
  refine WA_take 11 rfl rfl rfl (by kernel_rfl) (by kernel_rfl) (H.kh (by simp) kYs) (fun _ hC => R_load Tryz.isAgg3 rfl (hC.get .here) rfl) ?_
  refine WA_take 12 rfl rfl rfl (by kernel_rfl) (by kernel_rfl) (H.kh (by simp) kYs) (fun _ hC => R_fieldAddr (off' := 2) Tryz.underlying217 rfl Tryz.sizeOf3 (by decide) rfl rfl) ?_
  refine WA_take 13 rfl rfl rfl (by kernel_rfl) (by kernel_rfl) (H.kh (by simp) kYs) (fun _ hC => R_load Tryz.isAgg3 rfl (hC.get .here) rfl) ?_
  refine WA_take 14 rfl rfl rfl (by kernel_rfl) (by kernel_rfl) (H.kh (by simp) kYs) (fun _ hC => R_buildL (places := [(0, 1), (1, 1), (2, 1), (3, 1), (4, 1), (5, 1), (6, 1)]) (vs := [I 1, I nm, I at_, I n, I 0, I 0, nilS]) Tryz.underlying44 Tryz.typeInfo44 rfl rfl (by kernel_rfl) rfl rfl rfl) ?_
  refine WA_two (i := 15) (j := 16) (by kernel_rfl) ?_ ?_
  · (refine WI_call rfl (.inl rfl) (R_call rfl Tryz.call36 rfl) (do_read (hM.hK.keepN H kYs) (hM.hw _ _ _ hnm hx) n hfit) (by exact fun _ _ ⟨u, M, _, hO, H1⟩ _ => ((H.seqO hO H1).2).kh (by simp) (kApp (H.seqO hO H1).1.keys kYs)) ?_; rintro _ w54 ⟨u, M, rfl, hO, H1⟩; have h54 := H.seqO hO H1; clear H H1 hO; obtain ⟨hO, H⟩ := h54; obtain ⟨ua, uc, rfl⟩ := hO.form)
    refine WA_one (i := 16) (by kernel_rfl) ?_
    (refine WI_effnA rfl (.inl rfl) (E_alloc (vs := [I 0, I 0, nilS]) H Tryz.zeroValue96 rfl) (fun _ _ _ H _ => H.kh (by simp) kYs) ?_; clear H; intro c8 w56 hc8 H)
    refine WA_one (i := 17) (by kernel_rfl) ?_
    (refine WI_effu rfl (.inl rfl) (E_storeA (vs := [I 0, I 0, .slice ua n uc]) H Tryz.sizeOf96 rfl rfl (by simp [Value.oneCell']) .here (by simp)) (fun _ _ h => Bool.noConfusion h) ?_; clear H; intro w58 H; replace H : Hp w ((c8, blk [I 0, I 0, .slice ua n uc] 96) :: (M ++ [(c6, blk [I nm, I at_, I n] 217), (c3, blk [I kind, I idx] 182)])) w58 := H)
    refine WA_done (by kernel_rfl) ?_
    refine W_seq ?_
    refine W_seq ?_
    refine W_region_l ?_
    refine WL_step rfl (R_fieldAddr (off' := 0) Tryz.underlying96 rfl Tryz.sizeOf33 (by decide) rfl rfl) ?_
    refine WL_step rfl (R_load Tryz.isAgg33 rfl (H.get .here) rfl) ?_
    refine WL_step rfl (R_ne_f rfl rfl (by omega)) ?_
    refine WL_nil ?_
    refine W_cond_f rfl ?_
    refine W_skip ?_
    refine W_seq ?_
    refine W_region_l ?_
    refine WL_step rfl (R_fieldAddr (off' := 2) Tryz.underlying96 rfl Tryz.sizeOf36 (by decide) rfl rfl) ?_
    refine WL_step rfl (R_load Tryz.isAgg36 rfl (H.get .here) rfl) ?_
    refine WL_stepM rfl (R_as) ?_
    refine WL_stepM rfl (R_as) ?_
    refine WL_nil ?_
    refine W_ret ?_
    exact ⟨_, rfl, _, M, rfl, hO, (H.pop (by assumption)).cut kYs⟩
  · (refine WI_effnA rfl (.inl rfl) (E_alloc (vs := [I 0, I 0, nilS]) H Tryz.zeroValue96 rfl) (fun _ _ _ H _ => H.kh (by simp) kYs) ?_; clear H; intro c8 w78 hc8 H)
    refine WA_one (i := 15) (by kernel_rfl) ?_
    (refine WI_call rfl (.inl rfl) (R_call rfl Tryz.call36 rfl) (do_read (hM.hK.keepN H kYs) (hM.hw _ _ _ hnm hx) n hfit) (by exact fun _ _ ⟨u, M, _, hO, H1⟩ _ => ((H.seqO hO H1).2).kh (by simp) (kApp (H.seqO hO H1).1.keys kYs)) ?_; rintro _ w80 ⟨u, M, rfl, hO, H1⟩; have h80 := H.seqO hO H1; clear H H1 hO; obtain ⟨hO, H⟩ := h80; obtain ⟨ua, uc, rfl⟩ := hO.form)
    refine WA_one (i := 17) (by kernel_rfl) ?_
    (refine WI_effu rfl (.inl rfl) (E_storeA (vs := [I 0, I 0, .slice ua n uc]) H Tryz.sizeOf96 rfl rfl (by simp [Value.oneCell']) (.app _ .here) (by simp)) (fun _ _ h => Bool.noConfusion h) ?_; clear H; intro w82 H; replace H : Hp w (M ++ (c8, blk [I 0, I 0, .slice ua n uc] 96) :: [(c6, blk [I nm, I at_, I n] 217), (c3, blk [I kind, I idx] 182)]) w82 := H)
    refine WA_done (by kernel_rfl) ?_
    refine W_seq ?_
    refine W_seq ?_
    refine W_region_l ?_
    refine WL_step rfl (R_fieldAddr (off' := 0) Tryz.underlying96 rfl Tryz.sizeOf33 (by decide) rfl rfl) ?_
    refine WL_step rfl (R_load Tryz.isAgg33 rfl (H.get (.app _ .here)) rfl) ?_
    refine WL_step rfl (R_ne_f rfl rfl (by omega)) ?_
    refine WL_nil ?_
    refine W_cond_f rfl ?_
    refine W_skip ?_
    refine W_seq ?_
    refine W_region_l ?_
    refine WL_step rfl (R_fieldAddr (off' := 2) Tryz.underlying96 rfl Tryz.sizeOf36 (by decide) rfl rfl) ?_
    refine WL_step rfl (R_load Tryz.isAgg36 rfl (H.get (.app _ .here)) rfl) ?_
    refine WL_stepM rfl (R_as) ?_
    refine WL_stepM rfl (R_as) ?_
    refine WL_nil ?_
    refine W_ret ?_
    exact ⟨_, rfl, _, M, rfl, hO, H.cut kYs⟩
end
end Go.Proofs.YtlpmfldijgdcoaaGreatDoor.Cm

/-
  Commons: records are read.
-/
namespace Go.Proofs.YtlpmfldijgdcoaaGreatDoor.Cm
open Go Go.Proofs Go.Proofs.YtlpmfldijgdcoaaGreatDoor.Fx Go.Proofs.YtlpmfldijgdcoaaGreatDoor.Kn
set_option maxRecDepth 100000
set_option linter.unusedVariables false
set_option linter.unusedSimpArgs false
set_option maxHeartbeats 8000000

section
variable {P : Program} {E : Env} {w : World} {d : Option Nat} {ty : TypeId} {pos : String} {after : Array Edge}
theorem R_eq_no {t t' : TypeId} {x y : Operand} {k : IntKind} {a b : Int} (hx : ev E x = .int k a) (hy : ev E y = .int k b) (hne : a ≠ b) :
    (execOp (ev E) (mk d (.binOp .eql t x y t') ty pos after)).run P w = .ok (.value (.bool false)) w := by
  have h := R_eq (P := P) (E := E) (w := w) (d := d) (ty := ty) (pos := pos) (after := after) (t := t) (t' := t') hx hy
  rw [decide_eq_false hne] at h
  exact h
end
theorem slot_none (xs : List UInt8) (h : (Slot.decP xs).2 ≠ 1) : (Slot.decP xs).1 = Slot.zeroP := by
  unfold Slot.decP at h ⊢; split
  · rfl
  · split
    · rename_i h1 h2; rw [if_neg h1, if_pos h2] at h; exact absurd rfl h
    · rfl
theorem file_none (xs : List UInt8) (h : (File.decP xs).2 ≠ 1) : (File.decP xs).1 = File.zeroF := by
  unfold File.decP at h ⊢; split
  · rfl
  · split
    · rename_i h1 h2; rw [if_neg h1, if_pos h2] at h; exact absurd rfl h
    · rfl
theorem ring_none (xs : List UInt8) (h : (Ring.decP xs).2 ≠ 1) : (Ring.decP xs).1 = Ring.zeroP := by
  unfold Ring.decP at h ⊢; split
  · rfl
  · split
    · rename_i h1 h2; rw [if_neg h1, if_pos h2] at h; exact absurd rfl h
    · rfl
theorem front_none (xs : List UInt8) (h : (decG xs).2 ≠ 1) : (decG xs).1 = 0 := by
  unfold decG at h ⊢; split
  · rename_i h1; rw [if_pos h1] at h; exact absurd rfl h
  · rfl
theorem rec_len {w : World} {c : Nat} {C : Cs} {kind idx j at_ n : Nat} (h : Rc C.nms.length kind idx j at_ n) (hM : CmI w c C) : (C.rc j at_ n).length ≤ 40 := by
  obtain ⟨nm, x, h1, h2, h3, h4, h5⟩ := h.fit hM
  unfold Cs.rc win; rw [List.length_take]; omega
theorem C_proc (i : Int) (w : World) : Ret Tryz.prog 92 #[I i] w fun v w' => v = .agg #[I 1, I i] ∧ Hp w [] w' := by
  refine Ret_of_WC (args := [_]) Tryz.func92 rfl Tryz.ntmps92 Tryz.results92 (by simp) ?_
  have H := Hp.refl w
  refine W_seq ?_
  refine W_region_l ?_
  (refine WL_effn rfl (E_alloc H Tryz.zeroValue182 rfl) ?_; clear H; intro b3 w3 hb3 H)
  refine WL_nil ?_
  refine W_seq ?_
  refine W_region_l ?_
  refine WL_stepM rfl (R_mv) ?_
  refine WL_step rfl (R_buildL (places := [(0, 1), (1, 1)]) (vs := [(.int _ _), (.int _ _)]) Tryz.underlying182 Tryz.typeInfo182 rfl rfl (by kernel_rfl) rfl rfl rfl) ?_
  (refine WL_effu rfl (E_storeA (vs := [(.int _ _), (.int _ _)]) H Tryz.sizeOf182 rfl rfl (by simp [Value.oneCell']) .here (by simp)) ?_; clear H; intro w9 H)
  refine WL_nil ?_
  refine W_ret ?_
  exact ⟨_, ⟨_, rfl, ldA Tryz.isAgg182 Tryz.sizeOf182 (H.get .here) rfl (by simp)⟩, rfl, H.none kYs⟩
theorem C_file (i : Int) (w : World) : Ret Tryz.prog 89 #[I i] w fun v w' => v = .agg #[I 2, I i] ∧ Hp w [] w' := by
  refine Ret_of_WC (args := [_]) Tryz.func89 rfl Tryz.ntmps89 Tryz.results89 (by simp) ?_
  have H := Hp.refl w
  refine W_seq ?_
  refine W_region_l ?_
  (refine WL_effn rfl (E_alloc H Tryz.zeroValue182 rfl) ?_; clear H; intro b3 w3 hb3 H)
  refine WL_nil ?_
  refine W_seq ?_
  refine W_region_l ?_
  refine WL_stepM rfl (R_mv) ?_
  refine WL_step rfl (R_buildL (places := [(0, 1), (1, 1)]) (vs := [(.int _ _), (.int _ _)]) Tryz.underlying182 Tryz.typeInfo182 rfl rfl (by kernel_rfl) rfl rfl rfl) ?_
  (refine WL_effu rfl (E_storeA (vs := [(.int _ _), (.int _ _)]) H Tryz.sizeOf182 rfl rfl (by simp [Value.oneCell']) .here (by simp)) ?_; clear H; intro w9 H)
  refine WL_nil ?_
  refine W_ret ?_
  exact ⟨_, ⟨_, rfl, ldA Tryz.isAgg182 Tryz.sizeOf182 (H.get .here) rfl (by simp)⟩, rfl, H.none kYs⟩
theorem C_pipe (i : Int) (w : World) : Ret Tryz.prog 90 #[I i] w fun v w' => v = .agg #[I 3, I i] ∧ Hp w [] w' := by
  refine Ret_of_WC (args := [_]) Tryz.func90 rfl Tryz.ntmps90 Tryz.results90 (by simp) ?_
  have H := Hp.refl w
  refine W_seq ?_
  refine W_region_l ?_
  (refine WL_effn rfl (E_alloc H Tryz.zeroValue182 rfl) ?_; clear H; intro b3 w3 hb3 H)
  refine WL_nil ?_
  refine W_seq ?_
  refine W_region_l ?_
  refine WL_stepM rfl (R_mv) ?_
  refine WL_step rfl (R_buildL (places := [(0, 1), (1, 1)]) (vs := [(.int _ _), (.int _ _)]) Tryz.underlying182 Tryz.typeInfo182 rfl rfl (by kernel_rfl) rfl rfl rfl) ?_
  (refine WL_effu rfl (E_storeA (vs := [(.int _ _), (.int _ _)]) H Tryz.sizeOf182 rfl rfl (by simp [Value.oneCell']) .here (by simp)) ?_; clear H; intro w9 H)
  refine WL_nil ?_
  refine W_ret ?_
  exact ⟨_, ⟨_, rfl, ldA Tryz.isAgg182 Tryz.sizeOf182 (H.get .here) rfl (by simp)⟩, rfl, H.none kYs⟩

section
variable {w : World} {c : Nat} {C : Cs}

theorem recP_ret (hM : CmI w c C) {kind idx j at_ n : Nat} (h : Rc C.nms.length kind idx j at_ n) (hnb : (((kind : Nat) : Int), ((idx : Nat) : Int)) ∉ C.bad) (hd : (Slot.decP (C.rc j at_ n)).2 ≠ 2) :
    Ret Tryz.prog 105 #[ptr c 0, .agg #[I kind, I idx], .func (.func 106) #[] #[]] w fun v w' => v = .tuple #[Slot.vP (Slot.decP (C.rc j at_ n)).1, I (Slot.decP (C.rc j at_ n)).2] ∧ Hp w [] w' := by
  refine Ret_of_WC (args := [_, _, _]) Tryz.func105 rfl Tryz.ntmps105 Tryz.results105 (by simp) ?_
  have H := Hp.refl w
  have hl := rec_len h hM
  have hnone := slot_none (C.rc j at_ n)
  have hdec : ∀ {w1 : World} {l : Value}, RdS w1 l ((C.rc j at_ n).map U) → Ret Tryz.prog 106 #[l] w1 fun v w' => v = .tuple #[Slot.vP (Slot.decP (C.rc j at_ n)).1, I (Slot.decP (C.rc j at_ n)).2] ∧ Hp w1 [] w' := fun h => Slot.dec_ret h (by omega)
  generalize Slot.decP (C.rc j at_ n) = dd at *
  obtain ⟨p, z⟩ := dd
  simp only at hd hnone hdec ⊢
  refine W_seq ?_
  refine W_region_l ?_
  (refine WL_effn rfl (E_box (vs := [I kind, I idx]) H rfl rfl) ?_; clear H; intro c4 w3 hc4 H)
  (refine WL_effn rfl (Slot.E_allocP H) ?_; clear H; intro c6 w4 hc6 H)
  refine WL_stepM rfl (R_as) ?_
  refine WL_nil ?_
  refine W_seq ?_
  refine W_region_l ?_
  (refine WL_effn rfl (Slot.E_allocP H) ?_; clear H; intro c8 w9 hc8 H)
  refine WL_nil ?_
  refine W_seq ?_
  refine W_region_l ?_
  refine WL_stepM rfl (R_mv) ?_
  refine WL_step rfl (R_loadA (vs := [I kind, I idx]) Tryz.isAgg182 Tryz.sizeOf182 rfl (H.get (.there (.there .here))) rfl (by simp)) ?_
  (refine WL_call rfl (R_call rfl Tryz.call145 rfl) (read_ret (hM.keepN H kYs) h hnb) ?_; rintro _ w15 ⟨u, M, rfl, hO, H1⟩; have h15 := H.seqO hO H1; clear H H1 hO; obtain ⟨hO, H⟩ := h15; obtain ⟨ua, uc, rfl⟩ := hO.form)
  refine WL_stepM rfl (R_mv) ?_
  refine WL_step rfl (R_extract rfl rfl) ?_
  refine WL_step rfl (R_extract rfl rfl) ?_
  refine WL_stepM rfl (R_as) ?_
  refine WL_stepM rfl (R_as) ?_
  refine WL_nil ?_
  refine W_seq ?_
  refine W_seq ?_
  refine W_region_l ?_
  refine WL_stepM rfl (R_mv) ?_
  refine WL_step rfl (R_not_t rfl) ?_
  refine WL_nil ?_
  refine W_cond_f rfl ?_
  refine W_skip ?_
  refine W_seq ?_
  refine W_region_l ?_
  refine WL_stepM rfl (R_mv) ?_
  refine WL_stepM rfl (R_mv) ?_
  (refine WL_call rfl (R_call rfl Tryz.call106 rfl) (hdec (RdS.own hO (fun p hp => H.held p (by simp [hp])))) ?_; rintro _ w34 ⟨rfl, H1⟩; replace H := H.seq0 H1; clear H1)
  refine WL_stepM rfl (R_mv) ?_
  refine WL_step rfl (R_extract rfl rfl) ?_
  refine WL_step rfl (R_extract rfl rfl) ?_
  (refine WL_effn rfl (Slot.E_allocP H) ?_; clear H; intro c11 w38 hc11 H)
  (refine WL_effu rfl (Slot.E_storeP H rfl rfl .here) ?_; clear H; intro w39 H)
  refine WL_stepM rfl (R_as) ?_
  refine WL_nil ?_
  refine W_seq ?_
  refine W_seq ?_
  refine W_region_l ?_
  refine WL_stepM rfl (R_mv) ?_
  refine WL_step rfl (R_eq_no rfl rfl hd) ?_
  refine WL_nil ?_
  refine W_cond_f rfl ?_
  refine W_skip ?_
  refine W_seq ?_
  refine W_seq ?_
  refine W_region_l ?_
  refine WL_stepM rfl (R_mv) ?_
  refine WL_step rfl (R_ne rfl rfl) ?_
  refine WL_nil ?_
  refine W_if rfl (fun h56 => ?_) (fun h56 => ?_)
  · refine W_seq ?_
    refine W_region_l ?_
    refine WL_step rfl (Slot.R_loadP rfl (H.get (.there (.app _ .here)))) ?_
    refine WL_stepM rfl (R_mv) ?_
    (refine WL_effu rfl (Slot.E_storeP H rfl rfl (.there (.app _ (.there .here)))) ?_; clear H; intro w61 H)
    refine WL_stepM rfl (R_as) ?_
    refine WL_nil ?_
    refine W_ret ?_
    (refine ⟨_, ⟨_, _, rfl, Slot.ldP (H.get (.there (.app _ (.there .here)))), rfl⟩, (by rw [hnone (by assumption)]; rfl), ?_⟩; exact (((H.pop (by assumption)).dropN kYs).none kYs))
  · refine W_skip ?_
    refine W_seq ?_
    refine W_region_l ?_
    refine WL_step rfl (Slot.R_loadP rfl (H.get .here)) ?_
    refine WL_stepM rfl (R_mv) ?_
    (refine WL_effu rfl (Slot.E_storeP H rfl rfl (.there (.app _ (.there .here)))) ?_; clear H; intro w71 H)
    refine WL_stepM rfl (R_as) ?_
    refine WL_nil ?_
    refine W_ret ?_
    (obtain rfl : z = 1 := (by omega); exact ⟨_, ⟨_, _, rfl, Slot.ldP (H.get (.there (.app _ (.there .here)))), rfl⟩, rfl, ((H.pop (by assumption)).dropN kYs).none kYs⟩)

theorem recF_ret (hM : CmI w c C) {kind idx j at_ n : Nat} (h : Rc C.nms.length kind idx j at_ n) (hnb : (((kind : Nat) : Int), ((idx : Nat) : Int)) ∉ C.bad) (hd : (File.decP (C.rc j at_ n)).2 ≠ 2) :
    Ret Tryz.prog 141 #[ptr c 0, .agg #[I kind, I idx], .func (.func 142) #[] #[]] w fun v w' => v = .tuple #[File.vF (File.decP (C.rc j at_ n)).1, I (File.decP (C.rc j at_ n)).2] ∧ Hp w [] w' := by
  refine Ret_of_WC (args := [_, _, _]) Tryz.func141 rfl Tryz.ntmps141 Tryz.results141 (by simp) ?_
  have H := Hp.refl w
  have hl := rec_len h hM
  have hnone := file_none (C.rc j at_ n)
  have hdec : ∀ {w1 : World} {l : Value}, RdS w1 l ((C.rc j at_ n).map U) → Ret Tryz.prog 142 #[l] w1 fun v w' => v = .tuple #[File.vF (File.decP (C.rc j at_ n)).1, I (File.decP (C.rc j at_ n)).2] ∧ Hp w1 [] w' := fun h => File.dec_ret h (by omega)
  generalize File.decP (C.rc j at_ n) = dd at *
  obtain ⟨p, z⟩ := dd
  simp only at hd hnone hdec ⊢
  refine W_seq ?_
  refine W_region_l ?_
  (refine WL_effn rfl (E_box (vs := [I kind, I idx]) H rfl rfl) ?_; clear H; intro c4 w3 hc4 H)
  (refine WL_effn rfl (File.E_allocL H) ?_; clear H; intro c6 w4 hc6 H)
  refine WL_stepM rfl (R_as) ?_
  refine WL_nil ?_
  refine W_seq ?_
  refine W_region_l ?_
  (refine WL_effn rfl (File.E_allocL H) ?_; clear H; intro c8 w9 hc8 H)
  refine WL_nil ?_
  refine W_seq ?_
  refine W_region_l ?_
  refine WL_stepM rfl (R_mv) ?_
  refine WL_step rfl (R_loadA (vs := [I kind, I idx]) Tryz.isAgg182 Tryz.sizeOf182 rfl (H.get (.there (.there .here))) rfl (by simp)) ?_
  (refine WL_call rfl (R_call rfl Tryz.call145 rfl) (read_ret (hM.keepN H kYs) h hnb) ?_; rintro _ w15 ⟨u, M, rfl, hO, H1⟩; have h15 := H.seqO hO H1; clear H H1 hO; obtain ⟨hO, H⟩ := h15; obtain ⟨ua, uc, rfl⟩ := hO.form)
  refine WL_stepM rfl (R_mv) ?_
  refine WL_step rfl (R_extract rfl rfl) ?_
  refine WL_step rfl (R_extract rfl rfl) ?_
  refine WL_stepM rfl (R_as) ?_
  refine WL_stepM rfl (R_as) ?_
  refine WL_nil ?_
  refine W_seq ?_
  refine W_seq ?_
  refine W_region_l ?_
  refine WL_stepM rfl (R_mv) ?_
  refine WL_step rfl (R_not_t rfl) ?_
  refine WL_nil ?_
  refine W_cond_f rfl ?_
  refine W_skip ?_
  refine W_seq ?_
  refine W_region_l ?_
  refine WL_stepM rfl (R_mv) ?_
  refine WL_stepM rfl (R_mv) ?_
  (refine WL_call rfl (R_call rfl Tryz.call142 rfl) (hdec (RdS.own hO (fun p hp => H.held p (by simp [hp])))) ?_; rintro _ w34 ⟨rfl, H1⟩; replace H := H.seq0 H1; clear H1)
  refine WL_stepM rfl (R_mv) ?_
  refine WL_step rfl (R_extract rfl rfl) ?_
  refine WL_step rfl (R_extract rfl rfl) ?_
  (refine WL_effn rfl (File.E_allocL H) ?_; clear H; intro c11 w38 hc11 H)
  (refine WL_effu rfl (File.E_storeL H rfl rfl .here) ?_; clear H; intro w39 H)
  refine WL_stepM rfl (R_as) ?_
  refine WL_nil ?_
  refine W_seq ?_
  refine W_seq ?_
  refine W_region_l ?_
  refine WL_stepM rfl (R_mv) ?_
  refine WL_step rfl (R_eq_no rfl rfl hd) ?_
  refine WL_nil ?_
  refine W_cond_f rfl ?_
  refine W_skip ?_
  refine W_seq ?_
  refine W_seq ?_
  refine W_region_l ?_
  refine WL_stepM rfl (R_mv) ?_
  refine WL_step rfl (R_ne rfl rfl) ?_
  refine WL_nil ?_
  refine W_if rfl (fun h56 => ?_) (fun h56 => ?_)
  · refine W_seq ?_
    refine W_region_l ?_
    refine WL_step rfl (File.R_loadL rfl (H.get (.there (.app _ .here)))) ?_
    refine WL_stepM rfl (R_mv) ?_
    (refine WL_effu rfl (File.E_storeL H rfl rfl (.there (.app _ (.there .here)))) ?_; clear H; intro w61 H)
    refine WL_stepM rfl (R_as) ?_
    refine WL_nil ?_
    refine W_ret ?_
    (refine ⟨_, ⟨_, _, rfl, File.ldL (H.get (.there (.app _ (.there .here)))), rfl⟩, (by rw [hnone (by assumption)]; rfl), ?_⟩; exact (((H.pop (by assumption)).dropN kYs).none kYs))
  · refine W_skip ?_
    refine W_seq ?_
    refine W_region_l ?_
    refine WL_step rfl (File.R_loadL rfl (H.get .here)) ?_
    refine WL_stepM rfl (R_mv) ?_
    (refine WL_effu rfl (File.E_storeL H rfl rfl (.there (.app _ (.there .here)))) ?_; clear H; intro w71 H)
    refine WL_stepM rfl (R_as) ?_
    refine WL_nil ?_
    refine W_ret ?_
    (obtain rfl : z = 1 := (by omega); exact ⟨_, ⟨_, _, rfl, File.ldL (H.get (.there (.app _ (.there .here)))), rfl⟩, rfl, ((H.pop (by assumption)).dropN kYs).none kYs⟩)

theorem recQ_ret (hM : CmI w c C) {kind idx j at_ n : Nat} (h : Rc C.nms.length kind idx j at_ n) (hnb : (((kind : Nat) : Int), ((idx : Nat) : Int)) ∉ C.bad) (hd : (Ring.decP (C.rc j at_ n)).2 ≠ 2) :
    Ret Tryz.prog 107 #[ptr c 0, .agg #[I kind, I idx], .func (.func 108) #[] #[]] w fun v w' => v = .tuple #[Ring.vP (Ring.decP (C.rc j at_ n)).1, I (Ring.decP (C.rc j at_ n)).2] ∧ Hp w [] w' := by
  refine Ret_of_WC (args := [_, _, _]) Tryz.func107 rfl Tryz.ntmps107 Tryz.results107 (by simp) ?_
  have H := Hp.refl w
  have hl := rec_len h hM
  have hnone := ring_none (C.rc j at_ n)
  have hdec : ∀ {w1 : World} {l : Value}, RdS w1 l ((C.rc j at_ n).map U) → Ret Tryz.prog 108 #[l] w1 fun v w' => v = .tuple #[Ring.vP (Ring.decP (C.rc j at_ n)).1, I (Ring.decP (C.rc j at_ n)).2] ∧ Hp w1 [] w' := fun h => Ring.dec_ret h (by omega)
  generalize Ring.decP (C.rc j at_ n) = dd at *
  obtain ⟨p, z⟩ := dd
  simp only at hd hnone hdec ⊢
  refine W_seq ?_
  refine W_region_l ?_
  (refine WL_effn rfl (E_box (vs := [I kind, I idx]) H rfl rfl) ?_; clear H; intro c4 w3 hc4 H)
  (refine WL_effn rfl (Ring.E_allocP H) ?_; clear H; intro c6 w4 hc6 H)
  refine WL_stepM rfl (R_as) ?_
  refine WL_nil ?_
  refine W_seq ?_
  refine W_region_l ?_
  (refine WL_effn rfl (Ring.E_allocP H) ?_; clear H; intro c8 w9 hc8 H)
  refine WL_nil ?_
  refine W_seq ?_
  refine W_region_l ?_
  refine WL_stepM rfl (R_mv) ?_
  refine WL_step rfl (R_loadA (vs := [I kind, I idx]) Tryz.isAgg182 Tryz.sizeOf182 rfl (H.get (.there (.there .here))) rfl (by simp)) ?_
  (refine WL_call rfl (R_call rfl Tryz.call145 rfl) (read_ret (hM.keepN H kYs) h hnb) ?_; rintro _ w15 ⟨u, M, rfl, hO, H1⟩; have h15 := H.seqO hO H1; clear H H1 hO; obtain ⟨hO, H⟩ := h15; obtain ⟨ua, uc, rfl⟩ := hO.form)
  refine WL_stepM rfl (R_mv) ?_
  refine WL_step rfl (R_extract rfl rfl) ?_
  refine WL_step rfl (R_extract rfl rfl) ?_
  refine WL_stepM rfl (R_as) ?_
  refine WL_stepM rfl (R_as) ?_
  refine WL_nil ?_
  refine W_seq ?_
  refine W_seq ?_
  refine W_region_l ?_
  refine WL_stepM rfl (R_mv) ?_
  refine WL_step rfl (R_not_t rfl) ?_
  refine WL_nil ?_
  refine W_cond_f rfl ?_
  refine W_skip ?_
  refine W_seq ?_
  refine W_region_l ?_
  refine WL_stepM rfl (R_mv) ?_
  refine WL_stepM rfl (R_mv) ?_
  (refine WL_call rfl (R_call rfl Tryz.call108 rfl) (hdec (RdS.own hO (fun p hp => H.held p (by simp [hp])))) ?_; rintro _ w34 ⟨rfl, H1⟩; replace H := H.seq0 H1; clear H1)
  refine WL_stepM rfl (R_mv) ?_
  refine WL_step rfl (R_extract rfl rfl) ?_
  refine WL_step rfl (R_extract rfl rfl) ?_
  (refine WL_effn rfl (Ring.E_allocP H) ?_; clear H; intro c11 w38 hc11 H)
  (refine WL_effu rfl (Ring.E_storeP H rfl rfl .here) ?_; clear H; intro w39 H)
  refine WL_stepM rfl (R_as) ?_
  refine WL_nil ?_
  refine W_seq ?_
  refine W_seq ?_
  refine W_region_l ?_
  refine WL_stepM rfl (R_mv) ?_
  refine WL_step rfl (R_eq_no rfl rfl hd) ?_
  refine WL_nil ?_
  refine W_cond_f rfl ?_
  refine W_skip ?_
  refine W_seq ?_
  refine W_seq ?_
  refine W_region_l ?_
  refine WL_stepM rfl (R_mv) ?_
  refine WL_step rfl (R_ne rfl rfl) ?_
  refine WL_nil ?_
  refine W_if rfl (fun h56 => ?_) (fun h56 => ?_)
  · refine W_seq ?_
    refine W_region_l ?_
    refine WL_step rfl (Ring.R_loadP rfl (H.get (.there (.app _ .here)))) ?_
    refine WL_stepM rfl (R_mv) ?_
    (refine WL_effu rfl (Ring.E_storeP H rfl rfl (.there (.app _ (.there .here)))) ?_; clear H; intro w61 H)
    refine WL_stepM rfl (R_as) ?_
    refine WL_nil ?_
    refine W_ret ?_
    (refine ⟨_, ⟨_, _, rfl, Ring.ldP (H.get (.there (.app _ (.there .here)))), rfl⟩, (by rw [hnone (by assumption)]; rfl), ?_⟩; exact (((H.pop (by assumption)).dropN kYs).none kYs))
  · refine W_skip ?_
    refine W_seq ?_
    refine W_region_l ?_
    refine WL_step rfl (Ring.R_loadP rfl (H.get .here)) ?_
    refine WL_stepM rfl (R_mv) ?_
    (refine WL_effu rfl (Ring.E_storeP H rfl rfl (.there (.app _ (.there .here)))) ?_; clear H; intro w71 H)
    refine WL_stepM rfl (R_as) ?_
    refine WL_nil ?_
    refine W_ret ?_
    (obtain rfl : z = 1 := (by omega); exact ⟨_, ⟨_, _, rfl, Ring.ldP (H.get (.there (.app _ (.there .here)))), rfl⟩, rfl, ((H.pop (by assumption)).dropN kYs).none kYs⟩)

theorem recG_ret (hM : CmI w c C) {kind idx j at_ n : Nat} (h : Rc C.nms.length kind idx j at_ n) (hnb : (((kind : Nat) : Int), ((idx : Nat) : Int)) ∉ C.bad) (hd : (decG (C.rc j at_ n)).2 ≠ 2) :
    Ret Tryz.prog 143 #[ptr c 0, .agg #[I kind, I idx], .func (.func 144) #[] #[]] w fun v w' => v = .tuple #[I (decG (C.rc j at_ n)).1, I (decG (C.rc j at_ n)).2] ∧ Hp w [] w' := by
  refine Ret_of_W (args := [_, _, _]) Tryz.func143 rfl Tryz.ntmps143 Tryz.results143 (by simp) ?_
  have H := Hp.refl w
  have hl := rec_len h hM
  have hnone := front_none (C.rc j at_ n)
  have hdec : ∀ {w1 : World} {l : Value}, RdS w1 l ((C.rc j at_ n).map U) → Ret Tryz.prog 144 #[l] w1 fun v w' => v = .tuple #[I (decG (C.rc j at_ n)).1, I (decG (C.rc j at_ n)).2] ∧ Hp w1 [] w' := fun h => frontOf_ret h (by omega)
  generalize decG (C.rc j at_ n) = dd at *
  obtain ⟨p, z⟩ := dd
  simp only at hd hnone hdec ⊢
  refine W_seq ?_
  refine W_region_l ?_
  (refine WL_effn rfl (E_box (vs := [I kind, I idx]) H rfl rfl) ?_; clear H; intro c4 w3 hc4 H)
  refine WL_stepM rfl (R_as) ?_
  refine WL_stepM rfl (R_as) ?_
  refine WL_nil ?_
  refine W_seq ?_
  refine W_region_l ?_
  refine WL_stepM rfl (R_as) ?_
  refine WL_nil ?_
  refine W_seq ?_
  refine W_region_l ?_
  refine WL_stepM rfl (R_mv) ?_
  refine WL_step rfl (R_loadA (vs := [I kind, I idx]) Tryz.isAgg182 Tryz.sizeOf182 rfl (H.get .here) rfl (by simp)) ?_
  (refine WL_call rfl (R_call rfl Tryz.call145 rfl) (read_ret (hM.keepN H kYs) h hnb) ?_; rintro _ w15 ⟨u, M, rfl, hO, H1⟩; have h15 := H.seqO hO H1; clear H H1 hO; obtain ⟨hO, H⟩ := h15; obtain ⟨ua, uc, rfl⟩ := hO.form)
  refine WL_stepM rfl (R_mv) ?_
  refine WL_step rfl (R_extract rfl rfl) ?_
  refine WL_step rfl (R_extract rfl rfl) ?_
  refine WL_stepM rfl (R_as) ?_
  refine WL_stepM rfl (R_as) ?_
  refine WL_nil ?_
  refine W_seq ?_
  refine W_seq ?_
  refine W_region_l ?_
  refine WL_stepM rfl (R_mv) ?_
  refine WL_step rfl (R_not_t rfl) ?_
  refine WL_nil ?_
  refine W_cond_f rfl ?_
  refine W_skip ?_
  refine W_seq ?_
  refine W_region_l ?_
  refine WL_stepM rfl (R_mv) ?_
  refine WL_stepM rfl (R_mv) ?_
  (refine WL_call rfl (R_call rfl Tryz.call144 rfl) (hdec (RdS.own hO (fun p hp => H.held p (by simp [hp])))) ?_; rintro _ w34 ⟨rfl, H1⟩; replace H := H.seq0 H1; clear H1)
  refine WL_stepM rfl (R_mv) ?_
  refine WL_step rfl (R_extract rfl rfl) ?_
  refine WL_step rfl (R_extract rfl rfl) ?_
  refine WL_stepM rfl (R_as) ?_
  refine WL_stepM rfl (R_as) ?_
  refine WL_nil ?_
  refine W_seq ?_
  refine W_seq ?_
  refine W_region_l ?_
  refine WL_stepM rfl (R_mv) ?_
  refine WL_step rfl (R_eq_no rfl rfl hd) ?_
  refine WL_nil ?_
  refine W_cond_f rfl ?_
  refine W_skip ?_
  refine W_seq ?_
  refine W_seq ?_
  refine W_region_l ?_
  refine WL_stepM rfl (R_mv) ?_
  refine WL_step rfl (R_ne rfl rfl) ?_
  refine WL_nil ?_
  refine W_if rfl (fun h55 => ?_) (fun h55 => ?_)
  · refine W_seq ?_
    refine W_region_l ?_
    refine WL_stepM rfl (R_mv) ?_
    refine WL_stepM rfl (R_mv) ?_
    refine WL_stepM rfl (R_as) ?_
    refine WL_stepM rfl (R_as) ?_
    refine WL_nil ?_
    refine W_ret ?_
    (refine ⟨_, rfl, (by rw [hnone (by assumption)]; rfl), (H.dropN kYs).none kYs⟩)
  · refine W_skip ?_
    refine W_seq ?_
    refine W_region_l ?_
    refine WL_stepM rfl (R_mv) ?_
    refine WL_stepM rfl (R_mv) ?_
    refine WL_stepM rfl (R_as) ?_
    refine WL_stepM rfl (R_as) ?_
    refine WL_nil ?_
    refine W_ret ?_
    (obtain rfl : z = 1 := (by omega); exact ⟨_, rfl, rfl, (H.dropN kYs).none kYs⟩)

def Cs.pD (C : Cs) (i : Nat) : Slot.Pi × Int := Slot.decP (C.rc 0 (24 * i) 24)
def Cs.fD (C : Cs) (i : Nat) : File.Fl × Int := File.decP (C.rc 0 (192 + 8 * i) 8)
def Cs.qD (C : Cs) (i : Nat) : Ring.Pi × Int := Ring.decP (if i < 4 then C.rc 0 (288 + 40 * i) 40 else C.rc (i - 3) 0 40)
def Cs.tD (C : Cs) : Ring.Pi × Int := Ring.decP (C.rc 0 448 40)
def Cs.gD (C : Cs) : Int × Int := decG (C.rc 0 488 4)

theorem Proc_ret (hM : CmI w c C) {i : Nat} (hi : i < 8) (hnb : ((1 : Int), (i : Int)) ∉ C.bad) (hd : (C.pD i).2 ≠ 2) :
    Ret Tryz.prog 64 #[ptr c 0, I i] w fun v w' => v = .tuple #[Slot.vP (C.pD i).1, I (C.pD i).2] ∧ Hp w [] w' := by
  refine Ret_of_WC (args := [_, _]) Tryz.func64 rfl Tryz.ntmps64 Tryz.results64 (by simp) ?_
  have H := Hp.refl w
  refine W_seq ?_
  refine W_region_l ?_
  (refine WL_effn rfl (Slot.E_allocP H) ?_; clear H; intro c4 w3 hc4 H)
  refine WL_stepM rfl (R_as) ?_
  refine WL_nil ?_
  refine W_seq ?_
  refine W_region_l ?_
  refine WL_stepM rfl (R_mv) ?_
  refine WL_stepM rfl (R_mv) ?_
  (refine WL_call rfl (R_call rfl Tryz.call92 rfl) (C_proc _ _) ?_; rintro _ w10 ⟨rfl, H1⟩; replace H := H.seq0 H1; clear H1)
  (refine WL_call rfl (R_call rfl Tryz.call105 rfl) (recP_ret (kind := 1) (idx := i) (j := 0) (at_ := 24 * i) (n := 24) (hM.keepN H kYs) (.inl ⟨rfl, hi, rfl, rfl, rfl⟩) hnb hd) ?_; rintro _ w11 ⟨rfl, H1⟩; replace H := H.seq0 H1; clear H1)
  refine WL_step rfl (R_extract rfl rfl) ?_
  refine WL_step rfl (R_extract rfl rfl) ?_
  (refine WL_effu rfl (Slot.E_storeP H rfl rfl .here) ?_; clear H; intro w14 H)
  refine WL_stepM rfl (R_as) ?_
  refine WL_nil ?_
  refine W_ret ?_
  exact ⟨_, ⟨_, _, rfl, Slot.ldP (H.get .here), rfl⟩, rfl, H.none kYs⟩
theorem File_ret (hM : CmI w c C) {i : Nat} (hi : i < 12) (hnb : ((2 : Int), (i : Int)) ∉ C.bad) (hd : (C.fD i).2 ≠ 2) :
    Ret Tryz.prog 101 #[ptr c 0, I i] w fun v w' => v = .tuple #[File.vF (C.fD i).1, I (C.fD i).2] ∧ Hp w [] w' := by
  refine Ret_of_WC (args := [_, _]) Tryz.func101 rfl Tryz.ntmps101 Tryz.results101 (by simp) ?_
  have H := Hp.refl w
  refine W_seq ?_
  refine W_region_l ?_
  (refine WL_effn rfl (File.E_allocL H) ?_; clear H; intro c4 w3 hc4 H)
  refine WL_stepM rfl (R_as) ?_
  refine WL_nil ?_
  refine W_seq ?_
  refine W_region_l ?_
  refine WL_stepM rfl (R_mv) ?_
  refine WL_stepM rfl (R_mv) ?_
  (refine WL_call rfl (R_call rfl Tryz.call89 rfl) (C_file _ _) ?_; rintro _ w10 ⟨rfl, H1⟩; replace H := H.seq0 H1; clear H1)
  (refine WL_call rfl (R_call rfl Tryz.call141 rfl) (recF_ret (kind := 2) (idx := i) (j := 0) (at_ := 192 + 8 * i) (n := 8) (hM.keepN H kYs) (.inr (.inl ⟨rfl, hi, rfl, rfl, rfl⟩)) hnb hd) ?_; rintro _ w11 ⟨rfl, H1⟩; replace H := H.seq0 H1; clear H1)
  refine WL_step rfl (R_extract rfl rfl) ?_
  refine WL_step rfl (R_extract rfl rfl) ?_
  (refine WL_effu rfl (File.E_storeL H rfl rfl .here) ?_; clear H; intro w14 H)
  refine WL_stepM rfl (R_as) ?_
  refine WL_nil ?_
  refine W_ret ?_
  exact ⟨_, ⟨_, _, rfl, File.ldL (H.get .here), rfl⟩, rfl, H.none kYs⟩
theorem Pipe_ret (hM : CmI w c C) {i : Nat} (hi : i < 3 + C.nms.length) (hnb : ((3 : Int), (i : Int)) ∉ C.bad) (hd : (C.qD i).2 ≠ 2) :
    Ret Tryz.prog 103 #[ptr c 0, I i] w fun v w' => v = .tuple #[Ring.vP (C.qD i).1, I (C.qD i).2] ∧ Hp w [] w' := by
  refine Ret_of_WC (args := [_, _]) Tryz.func103 rfl Tryz.ntmps103 Tryz.results103 (by simp) ?_
  have H := Hp.refl w
  have hR : ∀ {w1 : World}, CmI w1 c C → Ret Tryz.prog 107 #[ptr c 0, .agg #[I 3, I i], .func (.func 108) #[] #[]] w1 fun v w' => v = .tuple #[Ring.vP (C.qD i).1, I (C.qD i).2] ∧ Hp w1 [] w' := by
    intro w1 h1
    unfold Cs.qD at hd ⊢
    by_cases h4 : i < 4
    · rw [if_pos h4] at hd ⊢
      exact recQ_ret (kind := 3) (idx := i) (j := 0) (at_ := 288 + 40 * i) (n := 40) h1 (.inr (.inr (.inl ⟨rfl, h4, rfl, rfl, rfl⟩))) hnb hd
    · rw [if_neg h4] at hd ⊢
      exact recQ_ret (kind := 3) (idx := i) (j := i - 3) (at_ := 0) (n := 40) h1 (.inr (.inr (.inr (.inl ⟨rfl, by omega, hi, rfl, rfl, rfl⟩)))) hnb hd
  refine W_seq ?_
  refine W_region_l ?_
  (refine WL_effn rfl (Ring.E_allocP H) ?_; clear H; intro c4 w3 hc4 H)
  refine WL_stepM rfl (R_as) ?_
  refine WL_nil ?_
  refine W_seq ?_
  refine W_region_l ?_
  refine WL_stepM rfl (R_mv) ?_
  refine WL_stepM rfl (R_mv) ?_
  (refine WL_call rfl (R_call rfl Tryz.call90 rfl) (C_pipe _ _) ?_; rintro _ w10 ⟨rfl, H1⟩; replace H := H.seq0 H1; clear H1)
  (refine WL_call rfl (R_call rfl Tryz.call107 rfl) (hR (hM.keepN H kYs)) ?_; rintro _ w11 ⟨rfl, H1⟩; replace H := H.seq0 H1; clear H1)
  refine WL_step rfl (R_extract rfl rfl) ?_
  refine WL_step rfl (R_extract rfl rfl) ?_
  (refine WL_effu rfl (Ring.E_storeP H rfl rfl .here) ?_; clear H; intro w14 H)
  refine WL_stepM rfl (R_as) ?_
  refine WL_nil ?_
  refine W_ret ?_
  exact ⟨_, ⟨_, _, rfl, Ring.ldP (H.get .here), rfl⟩, rfl, H.none kYs⟩
theorem Term_ret (hM : CmI w c C) (hnb : ((4 : Int), (0 : Int)) ∉ C.bad) (hd : C.tD.2 ≠ 2) :
    Ret Tryz.prog 66 #[ptr c 0] w fun v w' => v = .tuple #[Ring.vP C.tD.1, I C.tD.2] ∧ Hp w [] w' := by
  refine Ret_of_WC (args := [_]) Tryz.func66 rfl Tryz.ntmps66 Tryz.results66 (by simp) ?_
  have H := Hp.refl w
  refine W_seq ?_
  refine W_region_l ?_
  (refine WL_effn rfl (Ring.E_allocP H) ?_; clear H; intro c2 w3 hc2 H)
  refine WL_stepM rfl (R_as) ?_
  refine WL_nil ?_
  refine W_seq ?_
  refine W_region_l ?_
  refine WL_stepM rfl (R_mv) ?_
  refine WL_step rfl (R_buildL (places := [(0, 1), (1, 1)]) (vs := [I (4 : Nat), I (0 : Nat)]) Tryz.underlying182 Tryz.typeInfo182 rfl rfl (by kernel_rfl) rfl rfl rfl) ?_
  (refine WL_call rfl (R_call rfl Tryz.call107 rfl) (recQ_ret (kind := 4) (idx := 0) (j := 0) (at_ := 448) (n := 40) (hM.keepN H kYs) (.inr (.inr (.inr (.inr (.inl ⟨rfl, rfl, rfl, rfl, rfl⟩))))) hnb hd) ?_; rintro _ w10 ⟨rfl, H1⟩; replace H := H.seq0 H1; clear H1)
  refine WL_step rfl (R_extract rfl rfl) ?_
  refine WL_step rfl (R_extract rfl rfl) ?_
  (refine WL_effu rfl (Ring.E_storeP H rfl rfl .here) ?_; clear H; intro w13 H)
  refine WL_stepM rfl (R_as) ?_
  refine WL_nil ?_
  refine W_ret ?_
  exact ⟨_, ⟨_, _, rfl, Ring.ldP (H.get .here), rfl⟩, rfl, H.none kYs⟩
theorem Front_ret (hM : CmI w c C) (hnb : ((5 : Int), (0 : Int)) ∉ C.bad) (hd : C.gD.2 ≠ 2) :
    Ret Tryz.prog 104 #[ptr c 0] w fun v w' => v = .tuple #[I C.gD.1, .bool (decide (C.gD.2 = 1))] ∧ Hp w [] w' := by
  refine Ret_of_W (args := [_]) Tryz.func104 rfl Tryz.ntmps104 Tryz.results104 (by simp) ?_
  have H := Hp.refl w
  refine W_seq ?_
  refine W_region_l ?_
  refine WL_stepM rfl (R_as) ?_
  refine WL_stepM rfl (R_as) ?_
  refine WL_nil ?_
  refine W_seq ?_
  refine W_region_l ?_
  refine WL_stepM rfl (R_mv) ?_
  refine WL_step rfl (R_buildL (places := [(0, 1), (1, 1)]) (vs := [I (5 : Nat), I (0 : Nat)]) Tryz.underlying182 Tryz.typeInfo182 rfl rfl (by kernel_rfl) rfl rfl rfl) ?_
  (refine WL_call rfl (R_call rfl Tryz.call143 rfl) (recG_ret (kind := 5) (idx := 0) (j := 0) (at_ := 488) (n := 4) (hM.keepN H kYs) (.inr (.inr (.inr (.inr (.inr ⟨rfl, rfl, rfl, rfl, rfl⟩))))) hnb hd) ?_; rintro _ w10 ⟨rfl, H1⟩; replace H := H.seq0 H1; clear H1)
  refine WL_stepM rfl (R_mv) ?_
  refine WL_step rfl (R_extract rfl rfl) ?_
  refine WL_step rfl (R_extract rfl rfl) ?_
  refine WL_stepM rfl (R_as) ?_
  refine WL_stepM rfl (R_as) ?_
  refine WL_nil ?_
  refine W_seq ?_
  refine W_region_l ?_
  refine WL_stepM rfl (R_mv) ?_
  refine WL_stepM rfl (R_mv) ?_
  refine WL_step rfl (R_eq rfl rfl) ?_
  refine WL_stepM rfl (R_as) ?_
  refine WL_stepM rfl (R_as) ?_
  refine WL_nil ?_
  refine W_ret ?_
  exact ⟨_, rfl, rfl, H⟩

/-- no record is bad, and none becomes so -/
structure Snd (C : Cs) : Prop where
  nb : C.bad = []
  p : ∀ i, i < 8 → (C.pD i).2 ≠ 2
  f : ∀ i, i < 12 → (C.fD i).2 ≠ 2
  q : ∀ i, i < 3 + C.nms.length → (C.qD i).2 ≠ 2
  t : C.tD.2 ≠ 2
  g : C.gD.2 ≠ 2
theorem Look_ret (hM : CmI w c C) (hs : Snd C) : Ret Tryz.prog 63 #[ptr c 0] w fun v w' => v = .tuple #[] ∧ Hp w [] w' := by
  refine Ret_of_W (args := [_]) Tryz.func63 rfl Tryz.ntmps63 Tryz.results63 (by simp) ?_
  have H := Hp.refl w
  have hnb : ∀ r, r ∉ C.bad := fun r => by rw [hs.nb]; simp
  have h1 := hM.hl
  have h2 := hM.hl0
  refine W_seq ?_
  refine W_seq ?_
  refine W_region_l ?_
  refine WL_stepM rfl (R_mv) ?_
  refine WL_nil ?_
  refine W_block ?_
  refine W_loopS [(2, 2), (5, 11)] (fun (i : Nat) E w' => i ≤ 8 ∧ E 5 = I i ∧ Hp w [] w') (fun i => 8 - i) 0 ?e0 ?r0
  · exact ⟨by omega, rfl, H⟩
  · (clear H; rintro i E w1 ⟨hi, h5, H⟩; refine W_kn h5 ?_)
    refine W_seq ?_
    refine W_region_l ?_
    refine WL_step rfl (R_lt rfl rfl) ?_
    refine WL_nil ?_
    refine W_seq ?_
    refine W_if rfl (fun h14 => ?_) (fun h14 => ?_)
    · refine W_skip ?_
      refine W_seq ?_
      refine W_block ?_
      refine W_seq ?_
      refine W_region_l ?_
      refine WL_stepM rfl (R_mv) ?_
      refine WL_stepM rfl (R_as) ?_
      refine WL_nil ?_
      refine W_region_l ?_
      refine WL_stepM rfl (R_mv) ?_
      refine WL_stepM rfl (R_mv) ?_
      (refine WL_call rfl (R_call rfl Tryz.call64 rfl) (Proc_ret (i := i) (hM.same H) (by omega) (hnb _) (hs.p i (by omega))) ?_; rintro _ w26 ⟨rfl, H1⟩; replace H := H.seq0 H1; clear H1)
      refine WL_nil ?_
      refine W_region_l ?_
      refine WL_step rfl (R_add rfl rfl (w_i64 (by omega))) ?_
      refine WL_stepM rfl (R_mv) ?_
      refine WL_nil ?_
      exact ⟨(same_mov rfl (same_updo rfl (same_updo rfl (same_mov rfl (same_mov rfl (same_mov rfl (same_mov rfl (same_know rfl (same_updo rfl same_ovr))))))))), i + 1, by omega, by omega, rfl, H⟩
    · refine W_exit ?_
      refine (if_pos rfl).mpr ?_
      refine W_seq ?_
      refine W_seq ?_
      refine W_region_l ?_
      refine WL_stepM rfl (R_mv) ?_
      refine WL_nil ?_
      refine W_block ?_
      refine W_loopS [(3, 3), (12, 18)] (fun (i : Nat) E w' => i ≤ 12 ∧ E 12 = I i ∧ Hp w [] w') (fun i => 12 - i) 0 ?e2 ?r2
      · exact ⟨by omega, rfl, H⟩
      · (clear H; rintro i2 E2 w2 ⟨hi2, h12, H⟩; refine W_kn h12 ?_)
        refine W_seq ?_
        refine W_region_l ?_
        refine WL_step rfl (R_lt rfl rfl) ?_
        refine WL_nil ?_
        refine W_seq ?_
        refine W_if rfl (fun h48 => ?_) (fun h48 => ?_)
        · refine W_skip ?_
          refine W_seq ?_
          refine W_block ?_
          refine W_seq ?_
          refine W_region_l ?_
          refine WL_stepM rfl (R_mv) ?_
          refine WL_stepM rfl (R_as) ?_
          refine WL_nil ?_
          refine W_region_l ?_
          refine WL_stepM rfl (R_mv) ?_
          refine WL_stepM rfl (R_mv) ?_
          (refine WL_call rfl (R_call rfl Tryz.call101 rfl) (File_ret (i := i2) (hM.same H) (by omega) (hnb _) (hs.f i2 (by omega))) ?_; rintro _ w60 ⟨rfl, H1⟩; replace H := H.seq0 H1; clear H1)
          refine WL_nil ?_
          refine W_region_l ?_
          refine WL_step rfl (R_add rfl rfl (w_i64 (by omega))) ?_
          refine WL_stepM rfl (R_mv) ?_
          refine WL_nil ?_
          exact ⟨(same_mov rfl (same_updo rfl (same_updo rfl (same_mov rfl (same_mov rfl (same_mov rfl (same_mov rfl (same_know rfl (same_updo rfl same_ovr))))))))), i2 + 1, by omega, by omega, rfl, H⟩
        · refine W_exit ?_
          refine (if_pos rfl).mpr ?_
          refine W_seq ?_
          refine W_seq ?_
          refine W_region_l ?_
          refine WL_stepM rfl (R_mv) ?_
          (refine WL_call rfl (R_call rfl Tryz.call102 rfl) (most_ret (hM.same H) 3 (3 + C.nms.length) (.inr (.inr (.inl ⟨rfl, rfl⟩)))) ?_; rintro _ w73 ⟨rfl, H1⟩; replace H := H.seq0 H1; clear H1)
          refine WL_stepM rfl (R_mv) ?_
          refine WL_nil ?_
          refine W_block ?_
          refine W_loopS [(4, 4), (21, 27)] (fun (i : Nat) E w' => i ≤ 3 + C.nms.length ∧ E 21 = I i ∧ Hp w [] w') (fun i => 3 + C.nms.length - i) 0 ?e4 ?r4
          · exact ⟨by omega, rfl, H⟩
          · (clear H; rintro i4 E4 w4 ⟨hi4, h21, H⟩; refine W_kn h21 ?_)
            refine W_seq ?_
            refine W_region_l ?_
            refine WL_step rfl (R_lt rfl rfl) ?_
            refine WL_nil ?_
            refine W_seq ?_
            refine W_if rfl (fun h84 => ?_) (fun h84 => ?_)
            · refine W_skip ?_
              refine W_seq ?_
              refine W_block ?_
              refine W_seq ?_
              refine W_region_l ?_
              refine WL_stepM rfl (R_mv) ?_
              refine WL_stepM rfl (R_as) ?_
              refine WL_nil ?_
              refine W_region_l ?_
              refine WL_stepM rfl (R_mv) ?_
              refine WL_stepM rfl (R_mv) ?_
              (refine WL_call rfl (R_call rfl Tryz.call103 rfl) (Pipe_ret (i := i4) (hM.same H) (by omega) (hnb _) (hs.q i4 (by omega))) ?_; rintro _ w96 ⟨rfl, H1⟩; replace H := H.seq0 H1; clear H1)
              refine WL_nil ?_
              refine W_region_l ?_
              refine WL_step rfl (R_add rfl rfl (w_i64 (by omega))) ?_
              refine WL_stepM rfl (R_mv) ?_
              refine WL_nil ?_
              exact ⟨(same_mov rfl (same_updo rfl (same_updo rfl (same_mov rfl (same_mov rfl (same_mov rfl (same_mov rfl (same_know rfl (same_updo rfl same_ovr))))))))), i4 + 1, by omega, by omega, rfl, H⟩
            · refine W_exit ?_
              refine (if_pos rfl).mpr ?_
              refine W_seq ?_
              refine W_region_l ?_
              refine WL_stepM rfl (R_mv) ?_
              (refine WL_call rfl (R_call rfl Tryz.call66 rfl) (Term_ret (hM.same H) (hnb _) hs.t) ?_; rintro _ w108 ⟨rfl, H1⟩; replace H := H.seq0 H1; clear H1)
              refine WL_nil ?_
              refine W_region_l ?_
              refine WL_stepM rfl (R_mv) ?_
              (refine WL_call rfl (R_call rfl Tryz.call104 rfl) (Front_ret (hM.same H) (hnb _) hs.g) ?_; rintro _ w112 ⟨rfl, H1⟩; replace H := H.seq0 H1; clear H1)
              refine WL_nil ?_
              exact ⟨_, rfl, rfl, H⟩
end
end Go.Proofs.YtlpmfldijgdcoaaGreatDoor.Cm

/-
  Commons: records are written.
-/
namespace Go.Proofs.YtlpmfldijgdcoaaGreatDoor.Cm
open Go Go.Proofs Go.Proofs.YtlpmfldijgdcoaaGreatDoor.Fx Go.Proofs.YtlpmfldijgdcoaaGreatDoor.Kn
set_option maxRecDepth 100000
set_option linter.unusedVariables false
set_option linter.unusedSimpArgs false
set_option maxHeartbeats 8000000

theorem fenc_yes (f : File.Fl) (hok : File.fileOk f) (w : World) :
    Ret Tryz.prog 88 #[File.vF f] w fun v w' => ∃ b, v = .tuple #[sl b 0 8 8, .bool true] ∧ w.heap.size ≤ b ∧ Hp w [(b, blk ((File.fileBytes f).map U) 5)] w' :=
  (File.enc_ret f w).mono fun v w' h => by
    rcases h with ⟨_, h⟩ | ⟨h, _⟩
    · exact h
    · exact (h hok).elim
section
variable {w : World} {c : Nat} {C : Cs}
/-- bytes are put into a record -/
def Cs.put (C : Cs) (j at_ : Nat) (ys : List UInt8) : Cs := C.setB (Mem.put C.κ.xs ys ((C.wins.getD j (0, 0)).1 + at_))
theorem put_len {xs ys : List UInt8} {p : Nat} (h : p + ys.length ≤ xs.length) : (Mem.put xs ys p).length = xs.length := by
  unfold Mem.put; simp only [List.length_append, List.length_take, List.length_drop]; omega
/-- the memory's block -/
def Cs.mB (C : Cs) : List (Nat × Obj) := [(C.κ.mb, blk (C.κ.xs.map U) 5)]
theorem write_ret (hM : CmI w c C) {kind idx j at_ n : Nat} {bv : Value} {ys : List UInt8} (h : Rc C.nms.length kind idx j at_ n) (hnb : (((kind : Nat) : Int), ((idx : Nat) : Int)) ∉ C.bad) (hl : RdS w bv (ys.map U)) (hy : ys.length = n) :
    Ret Tryz.prog 86 #[ptr c 0, .agg #[I kind, I idx], bv, .bool true] w fun v w' => v = .bool true ∧ CmI w' c (C.put j at_ ys) ∧ Hp w (C.put j at_ ys).mB w' := by
  obtain ⟨nm, x, hnm, hx, hfit, hn40, ha5⟩ := h.fit hM
  have hlo : (C.wins.getD j (0, 0)).1 = x.1 := by rw [List.getD_eq_getElem?_getD, hx]; rfl
  have hin := (hM.hw _ _ _ hnm hx).hin
  have hxl := hM.hK.hx
  have key : Ret Tryz.prog 86 #[ptr c 0, .agg #[I kind, I idx], bv, .bool true] w fun v w' => v = .bool true ∧ Hp w [(C.κ.mb, blk ((Mem.put C.κ.xs ys (x.1 + at_)).map U) 5)] w' := by
    refine Ret_of_W (args := [_, _, _, _]) Tryz.func86 rfl Tryz.ntmps86 Tryz.results86 (by simp) ?_
    have H := Hp.refl w
    have hcb := hM.hc
    obtain ⟨ba, bc, rfl⟩ := hl.form
    refine W_seq ?_
    refine W_region_l ?_
    (refine WL_effn rfl (E_box (vs := [I kind, I idx]) H rfl rfl) ?_; clear H; intro c5 w3 hc5 H)
    refine WL_stepM rfl (R_as) ?_
    refine WL_nil ?_
    refine W_seq ?_
    refine W_region_l ?_
    refine WL_stepM rfl (R_mv) ?_
    refine WL_step rfl (R_loadA (vs := [I kind, I idx]) Tryz.isAgg182 Tryz.sizeOf182 rfl (H.get .here) rfl (by simp)) ?_
    (refine WL_call rfl (R_call rfl Tryz.call124 rfl) (place_ret (hM.keepN H kYs) h hnm) ?_; rintro _ w10 ⟨rfl, H1⟩; replace H := H.seq0 H1; clear H1)
    refine WL_stepM rfl (R_mv) ?_
    refine WL_step rfl (R_extract rfl rfl) ?_
    refine WL_step rfl (R_extract rfl rfl) ?_
    (refine WL_effn rfl (E_alloc (vs := [I 0, I 0, I 0]) H Tryz.zeroValue217 rfl) ?_; clear H; intro c9 w14 hc9 H)
    (refine WL_effu rfl (E_storeA (vs := [I nm, I at_, I n]) H Tryz.sizeOf217 rfl rfl (by simp [Value.oneCell']) .here (by simp)) ?_; clear H; intro w15 H; replace H : Hp w [(c9, blk [I nm, I at_, I n] 217), (c5, blk [I kind, I idx] 182)] w15 := H)
    refine WL_stepM rfl (R_as) ?_
    refine WL_nil ?_
    refine W_seq ?_
    refine W_seq ?_
    (refine W_drawH (fun _ => false) (by kernel_rfl) H ?_; clear H; intro w20 H)
    refine WA_takeM 0 rfl rfl rfl (by kernel_rfl) (by kernel_rfl) H (fun _ hC => R_mv) ?_
    refine WA_take 1 rfl rfl rfl (by kernel_rfl) (by kernel_rfl) H (fun _ hC => R_not_t rfl) ?_
    refine WA_takeM 2 rfl rfl rfl (by kernel_rfl) (by kernel_rfl) H (fun _ hC => R_mv) ?_
    refine WA_takeGM 3 rfl rfl rfl rfl (by kernel_rfl) (by kernel_rfl) H (fun _ hC => R_mv) ?_
    refine WA_takeG 4 rfl rfl rfl rfl (by kernel_rfl) (by kernel_rfl) H (fun _ hC => R_not_t rfl) ?_
    refine WA_takeM 5 rfl rfl rfl (by kernel_rfl) (by kernel_rfl) H (fun _ hC => R_pk_f rfl) ?_
    refine WA_takeM 6 rfl rfl rfl (by kernel_rfl) (by kernel_rfl) H (fun _ hC => R_mv) ?_
    refine WA_takeGM 7 rfl rfl rfl rfl (by kernel_rfl) (by kernel_rfl) H (fun _ hC => R_mv) ?_
    refine WA_takeG 8 rfl rfl rfl rfl (by kernel_rfl) (by kernel_rfl) H (fun _ hC => R_nilCheck rfl) ?_
    refine WA_takeG 9 rfl rfl rfl rfl (by kernel_rfl) (by kernel_rfl) H (fun _ hC => R_fieldAddr (off' := 3) Tryz.underlying177 rfl Tryz.sizeOf175 (by decide) rfl rfl) ?_
    refine WA_takeG 10 rfl rfl rfl rfl (by kernel_rfl) (by kernel_rfl) H (fun _ hC => R_load Tryz.isAgg175 rfl (hC.blockN hcb kYs) rfl) ?_
    refine WA_takeG 11 rfl rfl rfl rfl (by kernel_rfl) (by kernel_rfl) H (fun _ hC => R_loadA (vs := [I kind, I idx]) Tryz.isAgg182 Tryz.sizeOf182 rfl (hC.get (.there .here)) rfl (by simp)) ?_
    refine WA_takeG 12 rfl rfl rfl rfl (by kernel_rfl) (by kernel_rfl) H (fun _ hC => Mr.R_lookup_no (hC.blockN hM.hmp kYs) hM.hbad rfl rfl hnb) ?_
    refine WA_takeG 13 rfl rfl rfl rfl (by kernel_rfl) (by kernel_rfl) H (fun _ hC => R_gt_f rfl rfl (by omega)) ?_
    refine WA_takeM 14 rfl rfl rfl (by kernel_rfl) (by kernel_rfl) H (fun _ hC => R_pk_f rfl) ?_
    refine WA_done (by kernel_rfl) ?_
    refine W_cond_f rfl ?_
    refine W_skip ?_
    refine W_seq ?_
    (refine W_draw (fun w2 => w2.heap[c]? = some (blk [ptr C.κ.k 0, I C.e, .slice C.ca C.nms.length C.cc, .map (some C.mp)] 177) ∧ w2.heap[c9]? = some (blk [I nm, I at_, I n] 217)) (fun _ => false) (by kernel_rfl) H ?_; clear H; intro w40 H)
    refine WA_takeM 0 rfl rfl rfl (by kernel_rfl) (by kernel_rfl) ⟨H.blockN hcb kYs, H.get .here⟩ (fun _ hC => R_mv) ?_
    refine WA_take 1 rfl rfl rfl (by kernel_rfl) (by kernel_rfl) ⟨H.blockN hcb kYs, H.get .here⟩ (fun _ hC => R_nilCheck rfl) ?_
    refine WA_take 2 rfl rfl rfl (by kernel_rfl) (by kernel_rfl) ⟨H.blockN hcb kYs, H.get .here⟩ (fun _ hC => R_fieldAddr (off' := 0) Tryz.underlying177 rfl Tryz.sizeOf71 (by decide) rfl rfl) ?_
    refine WA_take 3 rfl rfl rfl (by kernel_rfl) (by kernel_rfl) ⟨H.blockN hcb kYs, H.get .here⟩ (fun _ hC => R_load (v := ptr C.κ.k 0) Tryz.isAgg71 rfl hC.1 rfl) ?_
    refine WA_takeM 4 rfl rfl rfl (by kernel_rfl) (by kernel_rfl) ⟨H.blockN hcb kYs, H.get .here⟩ (fun _ hC => R_mv) ?_
    refine WA_take 5 rfl rfl rfl (by kernel_rfl) (by kernel_rfl) ⟨H.blockN hcb kYs, H.get .here⟩ (fun _ hC => R_nilCheck rfl) ?_
    refine WA_take 6 rfl rfl rfl (by kernel_rfl) (by kernel_rfl) ⟨H.blockN hcb kYs, H.get .here⟩ (fun _ hC => R_fieldAddr (off' := 1) Tryz.underlying177 rfl Tryz.sizeOf3 (by decide) rfl rfl) ?_
    refine WA_take 7 rfl rfl rfl (by kernel_rfl) (by kernel_rfl) ⟨H.blockN hcb kYs, H.get .here⟩ (fun _ hC => R_load (v := I C.e) Tryz.isAgg3 rfl hC.1 rfl) ?_
    refine WA_take 8 rfl rfl rfl (by kernel_rfl) (by kernel_rfl) ⟨H.blockN hcb kYs, H.get .here⟩ (fun _ hC => R_fieldAddr (off' := 0) Tryz.underlying217 rfl Tryz.sizeOf3 (by decide) rfl rfl) ?_
    refine WA_take 9 rfl rfl rfl (by kernel_rfl) (by kernel_rfl) ⟨H.blockN hcb kYs, H.get .here⟩ (fun _ hC => R_load (v := I nm) Tryz.isAgg3 rfl hC.2 rfl) ?_
    refine WA_take 10 rfl rfl rfl (by kernel_rfl) (by kernel_rfl) ⟨H.blockN hcb kYs, H.get .here⟩ (fun _ hC => R_fieldAddr (off' := 1) Tryz.underlying217 rfl Tryz.sizeOf3 (by decide) rfl rfl) ?_
    refine WA_take 11 rfl rfl rfl (by kernel_rfl) (by kernel_rfl) ⟨H.blockN hcb kYs, H.get .here⟩ (fun _ hC => R_load (v := I at_) Tryz.isAgg3 rfl hC.2 rfl) ?_
    refine WA_takeM 12 rfl rfl rfl (by kernel_rfl) (by kernel_rfl) ⟨H.blockN hcb kYs, H.get .here⟩ (fun _ hC => R_mv) ?_
    refine WA_take 13 rfl rfl rfl (by kernel_rfl) (by kernel_rfl) ⟨H.blockN hcb kYs, H.get .here⟩ (fun _ hC => R_buildL (places := [(0, 1), (1, 1), (2, 1), (3, 1), (4, 1), (5, 1), (6, 1)]) (vs := [I 2, I nm, I at_, I 0, I 0, I 0, .slice ba (ys.map U).length bc]) Tryz.underlying44 Tryz.typeInfo44 rfl rfl (by kernel_rfl) rfl rfl rfl) ?_
    refine WA_one (i := 14) (by kernel_rfl) ?_
    (refine WI_call rfl (.inl rfl) (R_call rfl Tryz.call36 rfl) (do_write (hl.monoN H kYs) (hM.hK.keepN H kYs) (hM.hw _ _ _ hnm hx) (by omega)) (by rintro _ w2 ⟨rfl, H1⟩ _; exact ⟨H1.blockT (T := [177]) (H.blockN hcb kYs) (by simp [elT]) (Out.cons (H.blockN hM.hK.hb kYs) (by simp [elT]) Out.nil), (H.seqB hM.hK.hb kYs H1).get (.there .here)⟩) ?_; rintro _ w56 ⟨rfl, H1⟩; have hk9 := H1.blockT (T := [177]) (H.blockN hcb kYs) (by simp [elT]) (Out.cons (H.blockN hM.hK.hb kYs) (by simp [elT]) Out.nil); replace H := H.seqB hM.hK.hb kYs H1; clear H1)
    refine WA_take 15 rfl rfl rfl (by kernel_rfl) (by kernel_rfl) ⟨hk9, H.get (.there .here)⟩ (fun _ hC => R_field Tryz.underlying96 rfl Tryz.isAgg33 rfl rfl) ?_
    refine WA_take 16 rfl rfl rfl (by kernel_rfl) (by kernel_rfl) ⟨hk9, H.get (.there .here)⟩ (fun _ hC => R_eq_t rfl rfl (by omega)) ?_
    refine WA_takeM 17 rfl rfl rfl (by kernel_rfl) (by kernel_rfl) ⟨hk9, H.get (.there .here)⟩ (fun _ hC => R_as) ?_
    refine WA_done (by kernel_rfl) ?_
    refine W_ret ?_
    exact ⟨_, rfl, rfl, (H.pop2 (by assumption)).pop2 (by assumption)⟩
  refine key.mono ?_
  rintro v w' ⟨rfl, H⟩
  refine ⟨rfl, ?_, ?_⟩
  · unfold Cs.put; rw [hlo]
    exact hM.keepB H (by rw [put_len (by omega)]; exact hxl)
  · unfold Cs.put Cs.mB Cs.setB; rw [hlo]; exact H
theorem SetProc_ret (hM : CmI w c C) {i : Nat} (hi : i < 8) (p : Slot.Pi) (hok : Slot.okP p) (hlen : (Slot.bytesP p).length = 24) (hnb : ((1 : Int), ((i : Nat) : Int)) ∉ C.bad) :
    Ret Tryz.prog 58 #[ptr c 0, I i, Slot.vP p] w fun v w' => v = .bool true ∧ CmI w' c (C.put 0 (24 * i) (Slot.bytesP p)) ∧ Hp w (C.put 0 (24 * i) (Slot.bytesP p)).mB w' := by
  refine Ret_of_W (args := [_, _, _]) Tryz.func58 rfl Tryz.ntmps58 Tryz.results58 (by simp) ?_
  have H := Hp.refl w
  have hbk := hM.hK.hb
  refine W_seq ?_
  refine W_region_l ?_
  (refine WL_effn rfl (Slot.E_boxP H rfl) ?_; clear H; intro cb w3 hcb H)
  refine WL_stepM rfl (R_as) ?_
  refine WL_nil ?_
  refine W_seq ?_
  refine W_region_l ?_
  refine WL_step rfl (Slot.R_loadP rfl (H.get .here)) ?_
  (refine WL_call rfl (R_call rfl Tryz.call91 rfl) (Slot.enc_yes p hok _) ?_; rintro _ w9 ⟨b, rfl, hb, H1⟩; have hsz := H.size; replace H := H.seqN H1 (kCons hb kNil); replace hb := Nat.le_trans hsz hb; clear H1 hsz)
  refine WL_stepM rfl (R_mv) ?_
  refine WL_step rfl (R_extract rfl rfl) ?_
  refine WL_step rfl (R_extract rfl rfl) ?_
  refine WL_stepM rfl (R_as) ?_
  refine WL_stepM rfl (R_as) ?_
  refine WL_nil ?_
  refine W_seq ?_
  refine W_region_l ?_
  refine WL_stepM rfl (R_mv) ?_
  refine WL_stepM rfl (R_mv) ?_
  (refine WL_call rfl (R_call rfl Tryz.call92 rfl) (C_proc _ _) ?_; rintro _ w20 ⟨rfl, H1⟩; replace H := H.seq0 H1; clear H1)
  refine WL_stepM rfl (R_mv) ?_
  refine WL_stepM rfl (R_mv) ?_
  (refine WL_call rfl (R_call rfl Tryz.call86 rfl) (write_ret (kind := 1) (idx := i) (j := 0) (at_ := 24 * i) (n := 24) (hM.keepN H kYs) (.inl ⟨rfl, hi, rfl, rfl, rfl⟩) hnb (RdS.blk (H.get .here) (by rw [List.drop_zero, List.take_of_length_le (by rw [List.length_map, hlen]; exact Nat.le_refl _)]) (by rw [List.length_map, hlen]; exact Nat.le_refl _) (Nat.le_refl _)) hlen) ?_; rintro _ w23 ⟨rfl, hM2, H1⟩; replace H := H.seqB hbk kYs H1; clear H1)
  refine WL_stepM rfl (R_as) ?_
  refine WL_nil ?_
  refine W_ret ?_
  exact ⟨_, rfl, rfl, hM2, (H.pop2 (by assumption)).pop2 (by assumption)⟩

theorem SetFile_ret (hM : CmI w c C) {i : Nat} (hi : i < 12) (p : File.Fl) (hok : File.fileOk p) (hlen : (File.fileBytes p).length = 8) (hnb : ((2 : Int), ((i : Nat) : Int)) ∉ C.bad) :
    Ret Tryz.prog 56 #[ptr c 0, I i, File.vF p] w fun v w' => v = .bool true ∧ CmI w' c (C.put 0 (192 + 8 * i) (File.fileBytes p)) ∧ Hp w (C.put 0 (192 + 8 * i) (File.fileBytes p)).mB w' := by
  refine Ret_of_W (args := [_, _, _]) Tryz.func56 rfl Tryz.ntmps56 Tryz.results56 (by simp) ?_
  have H := Hp.refl w
  have hbk := hM.hK.hb
  refine W_seq ?_
  refine W_region_l ?_
  (refine WL_effn rfl (File.E_boxL H rfl) ?_; clear H; intro cb w3 hcb H)
  refine WL_stepM rfl (R_as) ?_
  refine WL_nil ?_
  refine W_seq ?_
  refine W_region_l ?_
  refine WL_step rfl (File.R_loadL rfl (H.get .here)) ?_
  (refine WL_call rfl (R_call rfl Tryz.call88 rfl) (fenc_yes p hok _) ?_; rintro _ w9 ⟨b, rfl, hb, H1⟩; have hsz := H.size; replace H := H.seqN H1 (kCons hb kNil); replace hb := Nat.le_trans hsz hb; clear H1 hsz)
  refine WL_stepM rfl (R_mv) ?_
  refine WL_step rfl (R_extract rfl rfl) ?_
  refine WL_step rfl (R_extract rfl rfl) ?_
  refine WL_stepM rfl (R_as) ?_
  refine WL_stepM rfl (R_as) ?_
  refine WL_nil ?_
  refine W_seq ?_
  refine W_region_l ?_
  refine WL_stepM rfl (R_mv) ?_
  refine WL_stepM rfl (R_mv) ?_
  (refine WL_call rfl (R_call rfl Tryz.call89 rfl) (C_file _ _) ?_; rintro _ w20 ⟨rfl, H1⟩; replace H := H.seq0 H1; clear H1)
  refine WL_stepM rfl (R_mv) ?_
  refine WL_stepM rfl (R_mv) ?_
  (refine WL_call rfl (R_call rfl Tryz.call86 rfl) (write_ret (kind := 2) (idx := i) (j := 0) (at_ := 192 + 8 * i) (n := 8) (hM.keepN H kYs) (.inr (.inl ⟨rfl, hi, rfl, rfl, rfl⟩)) hnb (RdS.blk (H.get .here) (by rw [List.drop_zero, List.take_of_length_le (by rw [List.length_map, hlen]; exact Nat.le_refl _)]) (by rw [List.length_map, hlen]; exact Nat.le_refl _) (Nat.le_refl _)) hlen) ?_; rintro _ w23 ⟨rfl, hM2, H1⟩; replace H := H.seqB hbk kYs H1; clear H1)
  refine WL_stepM rfl (R_as) ?_
  refine WL_nil ?_
  refine W_ret ?_
  exact ⟨_, rfl, rfl, hM2, (H.pop2 (by assumption)).pop2 (by assumption)⟩

theorem SetTerm_ret (hM : CmI w c C) (p : Ring.Pi) (hok : Ring.okP p) (hlen : (Ring.bytesP p).length = 40) (hnb : ((4 : Int), ((0 : Nat) : Int)) ∉ C.bad) :
    Ret Tryz.prog 54 #[ptr c 0, Ring.vP p] w fun v w' => v = .bool true ∧ CmI w' c (C.put 0 (448) (Ring.bytesP p)) ∧ Hp w (C.put 0 (448) (Ring.bytesP p)).mB w' := by
  refine Ret_of_W (args := [_, _]) Tryz.func54 rfl Tryz.ntmps54 Tryz.results54 (by simp) ?_
  have H := Hp.refl w
  have hbk := hM.hK.hb
  refine W_seq ?_
  refine W_region_l ?_
  (refine WL_effn rfl (Ring.E_boxP H rfl) ?_; clear H; intro cb w3 hcb H)
  refine WL_stepM rfl (R_as) ?_
  refine WL_nil ?_
  refine W_seq ?_
  refine W_region_l ?_
  refine WL_step rfl (Ring.R_loadP rfl (H.get .here)) ?_
  (refine WL_call rfl (R_call rfl Tryz.call85 rfl) (Ring.enc_yes p hok _) ?_; rintro _ w9 ⟨b, rfl, hb, H1⟩; have hsz := H.size; replace H := H.seqN H1 (kCons hb kNil); replace hb := Nat.le_trans hsz hb; clear H1 hsz)
  refine WL_stepM rfl (R_mv) ?_
  refine WL_step rfl (R_extract rfl rfl) ?_
  refine WL_step rfl (R_extract rfl rfl) ?_
  refine WL_stepM rfl (R_as) ?_
  refine WL_stepM rfl (R_as) ?_
  refine WL_nil ?_
  refine W_seq ?_
  refine W_region_l ?_
  refine WL_stepM rfl (R_mv) ?_
  refine WL_step rfl (R_buildL (places := [(0, 1), (1, 1)]) (vs := [I (4 : Nat), I (0 : Nat)]) Tryz.underlying182 Tryz.typeInfo182 rfl rfl (by kernel_rfl) rfl rfl rfl) ?_
  refine WL_stepM rfl (R_mv) ?_
  refine WL_stepM rfl (R_mv) ?_
  (refine WL_call rfl (R_call rfl Tryz.call86 rfl) (write_ret (kind := 4) (idx := 0) (j := 0) (at_ := 448) (n := 40) (hM.keepN H kYs) (.inr (.inr (.inr (.inr (.inl ⟨rfl, rfl, rfl, rfl, rfl⟩))))) hnb (RdS.blk (H.get .here) (by rw [List.drop_zero, List.take_of_length_le (by rw [List.length_map, hlen]; exact Nat.le_refl _)]) (by rw [List.length_map, hlen]; exact Nat.le_refl _) (Nat.le_refl _)) hlen) ?_; rintro _ w22 ⟨rfl, hM2, H1⟩; replace H := H.seqB hbk kYs H1; clear H1)
  refine WL_stepM rfl (R_as) ?_
  refine WL_nil ?_
  refine W_ret ?_
  exact ⟨_, rfl, rfl, hM2, (H.pop2 (by assumption)).pop2 (by assumption)⟩

theorem SetFront_ret (hM : CmI w c C) {g : Int} (h0 : 0 ≤ g) (h8 : g < 8) (hnb : ((5 : Int), ((0 : Nat) : Int)) ∉ C.bad) :
    Ret Tryz.prog 55 #[ptr c 0, I g] w fun v w' => v = .bool true ∧ CmI w' c (C.put 0 488 (frontB g)) ∧ Hp w (C.put 0 488 (frontB g)).mB w' := by
  refine Ret_of_W (args := [_, _]) Tryz.func55 rfl Tryz.ntmps55 Tryz.results55 (by simp) ?_
  have H := Hp.refl w
  have hbk := hM.hK.hb
  refine W_seq ?_
  refine W_region_l ?_
  refine WL_stepM rfl (R_as) ?_
  refine WL_nil ?_
  refine W_seq ?_
  refine W_region_l ?_
  refine WL_stepM rfl (R_mv) ?_
  (refine WL_call rfl (R_call rfl Tryz.call87 rfl) (frontBytes_yes h0 h8 _) ?_; rintro _ w8 ⟨u, M, rfl, hO, H1⟩; have h8 := H.seqO hO H1; clear H H1 hO; obtain ⟨hO, H⟩ := h8; obtain ⟨ua, uc, rfl⟩ := hO.form)
  refine WL_stepM rfl (R_mv) ?_
  refine WL_step rfl (R_extract rfl rfl) ?_
  refine WL_step rfl (R_extract rfl rfl) ?_
  refine WL_stepM rfl (R_as) ?_
  refine WL_stepM rfl (R_as) ?_
  refine WL_nil ?_
  refine W_seq ?_
  refine W_region_l ?_
  refine WL_stepM rfl (R_mv) ?_
  refine WL_step rfl (R_buildL (places := [(0, 1), (1, 1)]) (vs := [I (5 : Nat), I (0 : Nat)]) Tryz.underlying182 Tryz.typeInfo182 rfl rfl (by kernel_rfl) rfl rfl rfl) ?_
  refine WL_stepM rfl (R_mv) ?_
  refine WL_stepM rfl (R_mv) ?_
  (refine WL_call rfl (R_call rfl Tryz.call86 rfl) (write_ret (kind := 5) (idx := 0) (j := 0) (at_ := 488) (n := 4) (hM.keepN H kYs) (.inr (.inr (.inr (.inr (.inr ⟨rfl, rfl, rfl, rfl, rfl⟩))))) hnb (RdS.own hO (fun p hp => H.held p (by simp [hp]))) rfl) ?_; rintro _ w21 ⟨rfl, hM2, H1⟩; replace H := H.seqB hbk kYs H1; clear H1)
  refine WL_stepM rfl (R_as) ?_
  refine WL_nil ?_
  refine W_ret ?_
  exact ⟨_, rfl, rfl, hM2, (H.perm (List.perm_append_comm (l₁ := [_]) (l₂ := M ++ []) |>.symm.symm)).dropN kYs⟩
end
end Go.Proofs.YtlpmfldijgdcoaaGreatDoor.Cm
