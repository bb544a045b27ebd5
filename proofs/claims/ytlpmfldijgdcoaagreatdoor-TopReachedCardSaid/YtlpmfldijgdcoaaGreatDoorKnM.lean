/-
  Regions: where bytes of a cap lie, whatever region it is of.
-/
import Derived.Test.YtlpmfldijgdcoaaGreatDoorRegM
import Derived.Test.YtlpmfldijgdcoaaGreatDoorFxO
import Derived.Test.YtlpmfldijgdcoaaGreatDoorFxY
import Derived.Test.YtlpmfldijgdcoaaGreatDoorSecM
namespace Go.Proofs.YtlpmfldijgdcoaaGreatDoor.Kn
open Go Go.Proofs Go.Proofs.YtlpmfldijgdcoaaGreatDoor.Fx Go.Proofs.YtlpmfldijgdcoaaGreatDoor.TabC Go.Proofs.YtlpmfldijgdcoaaGreatDoor.Caps
set_option maxRecDepth 100000
set_option linter.unusedVariables false
set_option linter.unusedSimpArgs false
set_option maxHeartbeats 8000000

def spC (p : Nat × Nat) : List Value := [I p.1, I p.2]
theorem spC_len (p : Nat × Nat) : (spC p).length = 2 := rfl

section
variable {w : World} {rr m s : Nat}
variable {a ca S : Nat} {sp : List (Nat × Nat)} {tl : List Value} {PB : List (Nat × Nat)} {ts : List (List Pl)} {j i g0 : Nat} {q : Nat × Nat} {t : List Pl} {r re rx : Int} {o lo n rlo rn at_ k : Nat}

theorem place_in {rt z : Int} (hr : w.heap[rr]? = some (blk [ptr m 0, ptr s 0, sl a 0 S ca] 142)) (ha : w.heap[a]? = some (blk (rows spC sp ++ tl) 145)) (hS : Sp w s PB ts) (hSl : sp.length = S)
    (hq : PB[j]? = some q) (ht : ts[j]? = some t) (h : t[i]? = some ⟨cp o r lo n re rx, g0, true⟩) (bz : bitsOf .and .i64 r rt = z) (hz : z ≠ 0) (ho : sp[o]? = some (rlo, rn))
    (hlo : lo ≤ 65536) (hn : n ≤ 65536) (hrlo : rlo ≤ 65536) (hrn : rn ≤ 65536) (hk : at_ + k ≤ n) (hin : lo + at_ + k ≤ rn) (hS32 : S ≤ 32) :
    Ret Tryz.prog 150 #[ptr rr 0, I j, I (i + 256 * g0 : Nat), I rt, I at_, I k] w fun v w' => v = .tuple #[I (rlo + lo + at_ : Nat), I 0] ∧ Hp w [] w' := by
  refine Ret_of_W (args := [_, _, _, _, _, _]) Tryz.func150 rfl Tryz.ntmps150 Tryz.results150 (by simp) ?_
  have H := Hp.refl w
  have hoS : o < S := by have := (List.getElem?_eq_some_iff.1 ho).1; omega
  have hrow : ((rows spC sp ++ tl).drop (o * 2)).take 2 = [I rlo, I rn] := by
    rw [List.drop_append_of_le_length (by rw [rows_length spC_len]; omega), List.take_append_of_le_length (by rw [List.length_drop, rows_length spC_len]; omega)]
    exact rows_one spC_len ho
  have hlen : o * 2 + 2 ≤ (rows spC sp ++ tl).length := by rw [List.length_append, rows_length spC_len]; omega
  refine W_seq ?_
  refine W_region_l ?_
  refine WL_stepM rfl (R_as) ?_
  refine WL_stepM rfl (R_as) ?_
  refine WL_nil ?_
  refine W_seq ?_
  refine W_region_l ?_
  refine WL_stepM rfl (R_mv) ?_
  refine WL_step rfl (R_nilCheck rfl) ?_
  refine WL_step rfl (R_fieldAddr (off' := 1) Tryz.underlying142 rfl Tryz.sizeOf107 (by decide) rfl rfl) ?_
  refine WL_step rfl (R_load (v := ptr s 0) Tryz.isAgg107 rfl (H.blockN hr kYs) rfl) ?_
  refine WL_stepM rfl (R_mv) ?_
  refine WL_stepM rfl (R_mv) ?_
  (refine WL_call rfl (R_call rfl Tryz.call152 rfl) (get_yes hS hq ht h rfl) ?_; rintro _ w14 ⟨rfl, H1⟩; replace H := H.seq0 H1; clear H1)
  refine WL_stepM rfl (R_mv) ?_
  refine WL_step rfl (R_extract rfl rfl) ?_
  refine WL_step rfl (R_extract rfl rfl) ?_
  (refine WL_effn rfl (E_allocK H) ?_; clear H; intro c14 w18 hc14 H)
  (refine WL_effu rfl (E_storeK (q := cp o r lo n re rx) H rfl rfl .here) ?_; clear H; intro w19 H; replace H : Hp w [(c14, blk [I o, I r, I lo, I n, I re, I rx] 125)] w19 := H)
  refine WL_stepM rfl (R_as) ?_
  refine WL_nil ?_
  refine W_seq ?_
  refine W_block ?_
  refine W_seq ?_
  refine W_region_l ?_
  refine WL_stepM rfl (R_mv) ?_
  refine WL_step rfl (R_ne_f rfl rfl (by omega)) ?_
  refine WL_stepM rfl (R_as) ?_
  refine WL_nil ?_
  refine W_cond_f rfl ?_
  refine W_seq ?_
  refine W_region_l ?_
  refine WL_step rfl (R_fieldAddr (off' := 1) Tryz.underlying125 rfl Tryz.sizeOf3 (by decide) rfl rfl) ?_
  refine WL_step rfl (R_load Tryz.isAgg3 rfl (H.get .here) rfl) ?_
  refine WL_stepM rfl (R_mv) ?_
  refine WL_step rfl (R_bits (r := z) rfl rfl (by simp) bz) ?_
  refine WL_step rfl (R_eq_f rfl rfl (by omega)) ?_
  refine WL_stepM rfl (R_as) ?_
  refine WL_nil ?_
  refine W_cond_f rfl ?_
  refine W_seq ?_
  (refine W_draw (fun w2 => w2.heap[rr]? = some (blk [ptr m 0, ptr s 0, sl a 0 S ca] 142) ∧ w2.heap[c14]? = some (blk [I o, I r, I lo, I n, I re, I rx] 125)) (fun _ => false) (by kernel_rfl) H ?_; clear H; intro w42 H)
  refine WA_takeM 0 rfl rfl rfl (by kernel_rfl) (by kernel_rfl) ⟨H.blockN hr kYs, H.get .here⟩ (fun _ hC => R_mv) ?_
  refine WA_take 1 rfl rfl rfl (by kernel_rfl) (by kernel_rfl) ⟨H.blockN hr kYs, H.get .here⟩ (fun _ hC => R_lt_f rfl rfl (by omega)) ?_
  refine WA_takeM 2 rfl rfl rfl (by kernel_rfl) (by kernel_rfl) ⟨H.blockN hr kYs, H.get .here⟩ (fun _ hC => R_mv) ?_
  refine WA_takeGM 3 rfl rfl rfl rfl (by kernel_rfl) (by kernel_rfl) ⟨H.blockN hr kYs, H.get .here⟩ (fun _ hC => R_mv) ?_
  refine WA_takeG 4 rfl rfl rfl rfl (by kernel_rfl) (by kernel_rfl) ⟨H.blockN hr kYs, H.get .here⟩ (fun _ hC => R_lt_f rfl rfl (by omega)) ?_
  refine WA_takeM 5 rfl rfl rfl (by kernel_rfl) (by kernel_rfl) ⟨H.blockN hr kYs, H.get .here⟩ (fun _ hC => R_pk_f rfl) ?_
  refine WA_takeM 6 rfl rfl rfl (by kernel_rfl) (by kernel_rfl) ⟨H.blockN hr kYs, H.get .here⟩ (fun _ hC => R_mv) ?_
  refine WA_takeGM 7 rfl rfl rfl rfl (by kernel_rfl) (by kernel_rfl) ⟨H.blockN hr kYs, H.get .here⟩ (fun _ hC => R_mv) ?_
  refine WA_takeG 8 rfl rfl rfl rfl (by kernel_rfl) (by kernel_rfl) ⟨H.blockN hr kYs, H.get .here⟩ (fun _ hC => R_fieldAddr (off' := 3) Tryz.underlying125 rfl Tryz.sizeOf3 (by decide) rfl rfl) ?_
  refine WA_takeG 9 rfl rfl rfl rfl (by kernel_rfl) (by kernel_rfl) ⟨H.blockN hr kYs, H.get .here⟩ (fun _ hC => R_load (v := I n) Tryz.isAgg3 rfl hC.2 rfl) ?_
  refine WA_takeG 10 rfl rfl rfl rfl (by kernel_rfl) (by kernel_rfl) ⟨H.blockN hr kYs, H.get .here⟩ (fun _ hC => R_gt_f rfl rfl (by omega)) ?_
  refine WA_takeM 11 rfl rfl rfl (by kernel_rfl) (by kernel_rfl) ⟨H.blockN hr kYs, H.get .here⟩ (fun _ hC => R_pk_f rfl) ?_
  refine WA_takeM 12 rfl rfl rfl (by kernel_rfl) (by kernel_rfl) ⟨H.blockN hr kYs, H.get .here⟩ (fun _ hC => R_mv) ?_
  refine WA_takeGM 13 rfl rfl rfl rfl (by kernel_rfl) (by kernel_rfl) ⟨H.blockN hr kYs, H.get .here⟩ (fun _ hC => R_mv) ?_
  refine WA_takeG 14 rfl rfl rfl rfl (by kernel_rfl) (by kernel_rfl) ⟨H.blockN hr kYs, H.get .here⟩ (fun _ hC => R_fieldAddr (off' := 3) Tryz.underlying125 rfl Tryz.sizeOf3 (by decide) rfl rfl) ?_
  refine WA_takeG 15 rfl rfl rfl rfl (by kernel_rfl) (by kernel_rfl) ⟨H.blockN hr kYs, H.get .here⟩ (fun _ hC => R_load (v := I n) Tryz.isAgg3 rfl hC.2 rfl) ?_
  refine WA_takeGM 16 rfl rfl rfl rfl (by kernel_rfl) (by kernel_rfl) ⟨H.blockN hr kYs, H.get .here⟩ (fun _ hC => R_mv) ?_
  refine WA_takeG 17 rfl rfl rfl rfl (by kernel_rfl) (by kernel_rfl) ⟨H.blockN hr kYs, H.get .here⟩ (fun _ hC => R_sub rfl rfl (w_i64 (by omega))) ?_
  refine WA_takeG 18 rfl rfl rfl rfl (by kernel_rfl) (by kernel_rfl) ⟨H.blockN hr kYs, H.get .here⟩ (fun _ hC => R_gt_f rfl rfl (by omega)) ?_
  refine WA_takeM 19 rfl rfl rfl (by kernel_rfl) (by kernel_rfl) ⟨H.blockN hr kYs, H.get .here⟩ (fun _ hC => R_pk_f rfl) ?_
  refine WA_takeM 20 rfl rfl rfl (by kernel_rfl) (by kernel_rfl) ⟨H.blockN hr kYs, H.get .here⟩ (fun _ hC => R_mv) ?_
  refine WA_takeG 21 rfl rfl rfl rfl (by kernel_rfl) (by kernel_rfl) ⟨H.blockN hr kYs, H.get .here⟩ (fun _ hC => R_fieldAddr (off' := 0) Tryz.underlying125 rfl Tryz.sizeOf3 (by decide) rfl rfl) ?_
  refine WA_takeG 22 rfl rfl rfl rfl (by kernel_rfl) (by kernel_rfl) ⟨H.blockN hr kYs, H.get .here⟩ (fun _ hC => R_load (v := I o) Tryz.isAgg3 rfl hC.2 rfl) ?_
  refine WA_takeG 23 rfl rfl rfl rfl (by kernel_rfl) (by kernel_rfl) ⟨H.blockN hr kYs, H.get .here⟩ (fun _ hC => R_lt_f rfl rfl (by omega)) ?_
  refine WA_takeM 24 rfl rfl rfl (by kernel_rfl) (by kernel_rfl) ⟨H.blockN hr kYs, H.get .here⟩ (fun _ hC => R_pk_f rfl) ?_
  refine WA_takeM 25 rfl rfl rfl (by kernel_rfl) (by kernel_rfl) ⟨H.blockN hr kYs, H.get .here⟩ (fun _ hC => R_mv) ?_
  refine WA_takeG 26 rfl rfl rfl rfl (by kernel_rfl) (by kernel_rfl) ⟨H.blockN hr kYs, H.get .here⟩ (fun _ hC => R_fieldAddr (off' := 0) Tryz.underlying125 rfl Tryz.sizeOf3 (by decide) rfl rfl) ?_
  refine WA_takeG 27 rfl rfl rfl rfl (by kernel_rfl) (by kernel_rfl) ⟨H.blockN hr kYs, H.get .here⟩ (fun _ hC => R_load (v := I o) Tryz.isAgg3 rfl hC.2 rfl) ?_
  refine WA_takeGM 28 rfl rfl rfl rfl (by kernel_rfl) (by kernel_rfl) ⟨H.blockN hr kYs, H.get .here⟩ (fun _ hC => R_mv) ?_
  refine WA_takeG 29 rfl rfl rfl rfl (by kernel_rfl) (by kernel_rfl) ⟨H.blockN hr kYs, H.get .here⟩ (fun _ hC => R_nilCheck rfl) ?_
  refine WA_takeG 30 rfl rfl rfl rfl (by kernel_rfl) (by kernel_rfl) ⟨H.blockN hr kYs, H.get .here⟩ (fun _ hC => R_fieldAddr (off' := 2) Tryz.underlying142 rfl Tryz.sizeOf140 (by decide) rfl rfl) ?_
  refine WA_takeG 31 rfl rfl rfl rfl (by kernel_rfl) (by kernel_rfl) ⟨H.blockN hr kYs, H.get .here⟩ (fun _ hC => R_load (v := sl a 0 S ca) Tryz.isAgg140 rfl hC.1 rfl) ?_
  refine WA_takeG 32 rfl rfl rfl rfl (by kernel_rfl) (by kernel_rfl) ⟨H.blockN hr kYs, H.get .here⟩ (fun _ hC => R_len_slice Tryz.underlying140 rfl) ?_
  refine WA_takeG 33 rfl rfl rfl rfl (by kernel_rfl) (by kernel_rfl) ⟨H.blockN hr kYs, H.get .here⟩ (fun _ hC => R_ge_f rfl rfl (by omega)) ?_
  refine WA_takeM 34 rfl rfl rfl (by kernel_rfl) (by kernel_rfl) ⟨H.blockN hr kYs, H.get .here⟩ (fun _ hC => R_pk_f rfl) ?_
  refine WA_takeM 35 rfl rfl rfl (by kernel_rfl) (by kernel_rfl) ⟨H.blockN hr kYs, H.get .here⟩ (fun _ hC => R_as) ?_
  refine WA_done (by kernel_rfl) ?_
  refine W_cond_f rfl ?_
  refine W_skip ?_
  refine W_seq ?_
  (refine W_draw (fun w2 => w2.heap[rr]? = some (blk [ptr m 0, ptr s 0, sl a 0 S ca] 142) ∧ w2.heap[c14]? = some (blk [I o, I r, I lo, I n, I re, I rx] 125) ∧ w2.heap[a]? = some (blk (rows spC sp ++ tl) 145)) (fun _ => false) (by kernel_rfl) H ?_; clear H; intro w83 H)
  refine WA_takeM 0 rfl rfl rfl (by kernel_rfl) (by kernel_rfl) ⟨H.blockN hr kYs, H.get .here, H.blockN ha kYs⟩ (fun _ hC => R_mv) ?_
  refine WA_take 1 rfl rfl rfl (by kernel_rfl) (by kernel_rfl) ⟨H.blockN hr kYs, H.get .here, H.blockN ha kYs⟩ (fun _ hC => R_nilCheck rfl) ?_
  refine WA_take 2 rfl rfl rfl (by kernel_rfl) (by kernel_rfl) ⟨H.blockN hr kYs, H.get .here, H.blockN ha kYs⟩ (fun _ hC => R_fieldAddr (off' := 2) Tryz.underlying142 rfl Tryz.sizeOf140 (by decide) rfl rfl) ?_
  refine WA_take 3 rfl rfl rfl (by kernel_rfl) (by kernel_rfl) ⟨H.blockN hr kYs, H.get .here, H.blockN ha kYs⟩ (fun _ hC => R_load (v := sl a 0 S ca) Tryz.isAgg140 rfl hC.1 rfl) ?_
  refine WA_take 4 rfl rfl rfl (by kernel_rfl) (by kernel_rfl) ⟨H.blockN hr kYs, H.get .here, H.blockN ha kYs⟩ (fun _ hC => R_fieldAddr (off' := 0) Tryz.underlying125 rfl Tryz.sizeOf3 (by decide) rfl rfl) ?_
  refine WA_take 5 rfl rfl rfl (by kernel_rfl) (by kernel_rfl) ⟨H.blockN hr kYs, H.get .here, H.blockN ha kYs⟩ (fun _ hC => R_load (v := I o) Tryz.isAgg3 rfl hC.2.1 rfl) ?_
  refine WA_take 6 rfl rfl rfl (by kernel_rfl) (by kernel_rfl) ⟨H.blockN hr kYs, H.get .here, H.blockN ha kYs⟩ (fun _ hC => R_indexAddr (off' := o * 2) Tryz.underlying140 Tryz.sizeOf145 rfl rfl (by omega) (by omega) (by omega)) ?_
  refine WA_take 7 rfl rfl rfl (by kernel_rfl) (by kernel_rfl) ⟨H.blockN hr kYs, H.get .here, H.blockN ha kYs⟩ (fun _ hC => R_loadA (vs := [I rlo, I rn]) Tryz.isAgg145 Tryz.sizeOf145 rfl hC.2.2 hrow hlen) ?_
  refine WA_one (i := 8) (by kernel_rfl) ?_
  (refine WI_effnA rfl (.inl rfl) (E_alloc (vs := [I 0, I 0]) H Tryz.zeroValue145 rfl) (fun _ _ _ H _ => ⟨H.blockN hr kYs, H.get (.there .here), H.blockN ha kYs⟩) ?_; clear H; intro c16 w93 hc16 H)
  refine WA_one (i := 9) (by kernel_rfl) ?_
  (refine WI_effu rfl (.inl rfl) (E_storeA (vs := [I rlo, I rn]) H Tryz.sizeOf145 rfl rfl (by simp [Value.oneCell']) .here (by simp)) (fun _ H _ => ⟨H.blockN hr kYs, H.get (.there .here), H.blockN ha kYs⟩) ?_; clear H; intro w95 H; replace H : Hp w [(c16, blk [I rlo, I rn] 145), (c14, blk [I o, I r, I lo, I n, I re, I rx] 125)] w95 := H)
  refine WA_done (by kernel_rfl) ?_
  refine W_seq ?_
  refine W_seq ?_
  refine W_region_l ?_
  refine WL_step rfl (R_fieldAddr (off' := 2) Tryz.underlying125 rfl Tryz.sizeOf3 (by decide) rfl rfl) ?_
  refine WL_step rfl (R_load Tryz.isAgg3 rfl (H.get (.there .here)) rfl) ?_
  refine WL_stepM rfl (R_mv) ?_
  refine WL_step rfl (R_add rfl rfl (w_i64 (by omega))) ?_
  refine WL_step rfl (R_fieldAddr (off' := 1) Tryz.underlying145 rfl Tryz.sizeOf3 (by decide) rfl rfl) ?_
  refine WL_step rfl (R_load Tryz.isAgg3 rfl (H.get .here) rfl) ?_
  refine WL_step rfl (R_gt_f rfl rfl (by omega)) ?_
  refine WL_stepM rfl (R_mv) ?_
  refine WL_guard_t rfl rfl ?_
  refine WL_stepM rfl (R_mv) ?_
  refine WL_guard_t rfl rfl ?_
  refine WL_step rfl (R_fieldAddr (off' := 1) Tryz.underlying145 rfl Tryz.sizeOf3 (by decide) rfl rfl) ?_
  refine WL_guard_t rfl rfl ?_
  refine WL_step rfl (R_load Tryz.isAgg3 rfl (H.get .here) rfl) ?_
  refine WL_guard_t rfl rfl ?_
  refine WL_step rfl (R_fieldAddr (off' := 2) Tryz.underlying125 rfl Tryz.sizeOf3 (by decide) rfl rfl) ?_
  refine WL_guard_t rfl rfl ?_
  refine WL_step rfl (R_load Tryz.isAgg3 rfl (H.get (.there .here)) rfl) ?_
  refine WL_guard_t rfl rfl ?_
  refine WL_step rfl (R_sub rfl rfl (w_i64 (by omega))) ?_
  refine WL_guard_t rfl rfl ?_
  refine WL_stepM rfl (R_mv) ?_
  refine WL_guard_t rfl rfl ?_
  refine WL_step rfl (R_sub rfl rfl (w_i64 (by omega))) ?_
  refine WL_guard_t rfl rfl ?_
  refine WL_step rfl (R_gt_f rfl rfl (by omega)) ?_
  refine WL_stepM rfl (R_pk_f rfl) ?_
  refine WL_nil ?_
  refine W_cond_f rfl ?_
  refine W_skip ?_
  refine W_seq ?_
  refine W_region_l ?_
  refine WL_step rfl (R_fieldAddr (off' := 0) Tryz.underlying145 rfl Tryz.sizeOf3 (by decide) rfl rfl) ?_
  refine WL_step rfl (R_load Tryz.isAgg3 rfl (H.get .here) rfl) ?_
  refine WL_step rfl (R_fieldAddr (off' := 2) Tryz.underlying125 rfl Tryz.sizeOf3 (by decide) rfl rfl) ?_
  refine WL_step rfl (R_load Tryz.isAgg3 rfl (H.get (.there .here)) rfl) ?_
  refine WL_step rfl (R_add rfl rfl (w_i64 (by omega))) ?_
  refine WL_stepM rfl (R_mv) ?_
  refine WL_step rfl (R_add rfl rfl (w_i64 (by omega))) ?_
  refine WL_stepM rfl (R_as) ?_
  refine WL_stepM rfl (R_as) ?_
  refine WL_nil ?_
  refine W_ret ?_
  exact ⟨_, rfl, by rw [show ((rlo + lo + at_ : Nat) : Int) = (rlo : Int) + lo + at_ by omega]; rfl, H.none kYs⟩
end
end Go.Proofs.YtlpmfldijgdcoaaGreatDoor.Kn

/-
  A kernel, as far as bytes go; its Do, asked to read or to write bytes that are there.
-/
namespace Go.Proofs.YtlpmfldijgdcoaaGreatDoor.Kn
open Go Go.Proofs Go.Proofs.YtlpmfldijgdcoaaGreatDoor.Fx Go.Proofs.YtlpmfldijgdcoaaGreatDoor.TabC Go.Proofs.YtlpmfldijgdcoaaGreatDoor.Caps
set_option maxRecDepth 100000
set_option linter.unusedVariables false
set_option linter.unusedSimpArgs false
set_option maxHeartbeats 8000000

structure KS where
  k : Nat
  m : Nat
  mb : Nat
  N : Nat
  s : Nat
  q : Nat
  r : Nat
  a : Nat
  ca : Nat
  ea : Option Addr
  en : Nat
  ec : Nat
  mayv : Value
  sv : Value
  PB : List (Nat × Nat)
  ts : List (List Pl)
  sp : List (Nat × Nat)
  tl : List Value
  xs : List UInt8
  now : Int

def KS.kb (κ : KS) : Obj := blk [.slice κ.ea κ.en κ.ec, κ.mayv, ptr κ.m 0, ptr κ.s 0, ptr κ.q 0, ptr κ.r 0, κ.sv, I κ.now] 113
/-- what lies of a kernel in the world, as far as bytes go -/
structure Kr (w : World) (κ : KS) : Prop where
  hk : w.heap[κ.k]? = some κ.kb
  hm : w.heap[κ.m]? = some (blk [sl κ.mb 0 κ.N κ.N] 161)
  hb : w.heap[κ.mb]? = some (blk (κ.xs.map U) 5)
  hr : w.heap[κ.r]? = some (blk [ptr κ.m 0, ptr κ.s 0, sl κ.a 0 κ.sp.length κ.ca] 142)
  ha : w.heap[κ.a]? = some (blk (rows spC κ.sp ++ κ.tl) 145)
  hS : Sp w κ.s κ.PB κ.ts
  hx : κ.xs.length = κ.N
  hN : κ.N ≤ 16384
  hsp : κ.sp.length ≤ 32
  hen : κ.en ≤ 40

/-- a name is a cap of n bytes from lo on -/
structure Wn (κ : KS) (e : Nat) (nm : Int) (lo n : Nat) : Prop where
  ex : ∃ q t i g0 o re rx, κ.PB[e]? = some q ∧ κ.ts[e]? = some t ∧ t[i]? = some ⟨cp ((o : Nat) : Int) 3 0 (n : Nat) re rx, g0, true⟩ ∧ nm = ((i + 256 * g0 : Nat) : Int) ∧ κ.sp[o]? = some (lo, n)
  hin : lo + n ≤ κ.N
  he : e < κ.en

/-- the first kind of an object -/
def elT : Obj → Nat
  | .cells _ e _ => e
  | _ => 1000000
/-- what is changed is new, or not of these kinds -/
def Out (T : List Nat) (w : World) (L : List (Nat × Obj)) : Prop := ∀ p ∈ L, w.heap.size ≤ p.1 ∨ ∃ o, w.heap[p.1]? = some o ∧ elT o ∉ T
theorem Out.nil {T : List Nat} {w : World} : Out T w [] := fun _ h => nomatch h
theorem Out.cons {T : List Nat} {w : World} {b : Nat} {o o' : Obj} {L : List (Nat × Obj)} (h : w.heap[b]? = some o) (ho : elT o ∉ T) (hL : Out T w L) : Out T w ((b, o') :: L) := by
  intro p hp
  rcases List.mem_cons.1 hp with rfl | hp
  · exact .inr ⟨o, h, ho⟩
  · exact hL p hp
theorem Out.new {T : List Nat} {w : World} {b : Nat} {o' : Obj} {L : List (Nat × Obj)} (h : w.heap.size ≤ b) (hL : Out T w L) : Out T w ((b, o') :: L) := by
  intro p hp
  rcases List.mem_cons.1 hp with rfl | hp
  · exact .inl h
  · exact hL p hp
theorem Out.ofN {T : List Nat} {w : World} {L : List (Nat × Obj)} (h : ∀ p ∈ L, w.heap.size ≤ p.1) : Out T w L := fun p hp => .inl (h p hp)
theorem Out.sub {T T' : List Nat} {w : World} {L : List (Nat × Obj)} (h : Out T w L) (hs : T' ⊆ T) : Out T' w L := fun p hp => (h p hp).imp id (fun ⟨o, h1, h2⟩ => ⟨o, h1, fun h3 => h2 (hs h3)⟩)
theorem Out.app {T : List Nat} {w : World} {L M : List (Nat × Obj)} (h : Out T w L) (h' : Out T w M) : Out T w (L ++ M) := fun p hp => (List.mem_append.1 hp).elim (h p) (h' p)
/-- a block of one of these kinds stays -/
theorem _root_.Go.Proofs.YtlpmfldijgdcoaaGreatDoor.Fx.Hp.blockT {w w' : World} {T : List Nat} {L : List (Nat × Obj)} {b : Nat} {o : Obj} (H : Hp w L w') (hb : w.heap[b]? = some o) (hT : elT o ∈ T) (hO : Out T w L) : w'.heap[b]? = some o := by
  refine H.block hb fun h => ?_
  obtain ⟨p, hp, e⟩ := List.mem_map.1 h
  rcases hO p hp with h1 | ⟨o', h1, h2⟩
  · have := lt_of_some hb; omega
  · rw [e, hb] at h1
    cases h1; exact h2 hT
def kT : List Nat := [113, 161, 142, 145, 164, 165, 209, 211]
theorem sp_keep {w w' : World} {s : Nat} {PB : List (Nat × Nat)} {ts : List (List Pl)} {L : List (Nat × Obj)} (h : Sp w s PB ts) (H : Hp w L w') (hn : Out kT w L) : Sp w' s PB ts := by
  obtain ⟨bs, cap, sp, h1, h2⟩ := h.ex
  exact ⟨⟨bs, cap, sp, H.blockT h1 (by simp [kT, elT]) hn, H.blockT h2 (by simp [kT, elT]) hn⟩, fun j q hq => H.blockT (h.tp j q hq) (by simp [kT, elT]) hn, fun j q t hq ht => H.blockT (h.tb j q t hq ht) (by simp [kT, elT]) hn, h.inv⟩
/-- nothing of the kernel has turned but bytes, perhaps -/
theorem Kr.keep {w w' : World} {κ : KS} {L : List (Nat × Obj)} (h : Kr w κ) (H : Hp w L w') (hn : Out kT w L) {ys : List UInt8} (hb : w'.heap[κ.mb]? = some (blk (ys.map U) 5)) (hl : ys.length = κ.N) : Kr w' { κ with xs := ys } :=
  ⟨H.blockT h.hk (by simp [kT, elT, KS.kb]) hn, H.blockT h.hm (by simp [kT, elT]) hn, hb, H.blockT h.hr (by simp [kT, elT]) hn, H.blockT h.ha (by simp [kT, elT]) hn, sp_keep h.hS H hn, hl, h.hN, h.hsp, h.hen⟩
theorem Kr.keep0 {w w' : World} {κ : KS} {L : List (Nat × Obj)} (h : Kr w κ) (H : Hp w L w') (hn : Out (5 :: kT) w L) : Kr w' κ :=
  h.keep H (hn.sub (List.subset_cons_self _ _)) (H.blockT h.hb (by simp [elT]) hn) h.hx
theorem Kr.keepN {w w' : World} {κ : KS} {L : List (Nat × Obj)} (h : Kr w κ) (H : Hp w L w') (hn : ∀ p ∈ L, w.heap.size ≤ p.1) : Kr w' κ := h.keep0 H (Out.ofN hn)
theorem Kr.keepB {w w' : World} {κ : KS} (h : Kr w κ) {ys : List UInt8} (H : Hp w [(κ.mb, blk (ys.map U) 5)] w') (hl : ys.length = κ.N) : Kr w' { κ with xs := ys } :=
  h.keep H (Out.cons h.hb (by simp [kT, elT]) Out.nil) (H.get .here) hl

section
variable {w : World} {κ : KS} {e lo n at_ : Nat} {nm : Int}

theorem place_ret (hK : Kr w κ) (hW : Wn κ e nm lo n) (rt : Int) (hrt : rt = 1 ∨ rt = 2) (j : Nat) (h : at_ + j ≤ n) :
    Ret Tryz.prog 150 #[ptr κ.r 0, I e, I nm, I rt, I at_, I j] w fun v w' => v = .tuple #[I (lo + at_ : Nat), I 0] ∧ Hp w [] w' := by
  obtain ⟨q, t, i, g0, o, re, rx, h1, h2, h3, rfl, h5⟩ := hW.ex
  have h7 := hW.hin
  have h8 := hK.hN
  have hz : bitsOf .and .i64 3 rt = rt := by rcases hrt with rfl | rfl <;> decide
  have := place_in (rt := rt) (z := rt) (at_ := at_) (k := j) hK.hr hK.ha hK.hS rfl h1 h2 (lo := 0) h3 hz (by omega) h5 (by omega) (by omega) (by omega) (by omega) (by omega) (by omega) hK.hsp
  simpa using this

theorem bytes_read (hK : Kr w κ) (hW : Wn κ e nm lo n) (j : Nat) (h : at_ + j ≤ n) :
    Ret Tryz.prog 68 #[ptr κ.k 0, I e, .agg #[I 1, I nm, I at_, I j, I 0, I 0, nilS]] w fun v w' => ∃ u M, v = .tuple #[u, I 0, .bool true] ∧ OwnS w.heap.size 5 1 u j (((κ.xs.drop (lo + at_)).take j).map U) M ∧ Hp w M w' := by
  refine Ret_of_W (args := [_, _, _]) Tryz.func68 rfl Tryz.ntmps68 Tryz.results68 (by simp) ?_
  have H := Hp.refl w
  have hk := hK.hk
  have h7 := hW.hin
  have h8 := hK.hN
  have hx := hK.hx
  unfold KS.kb at hk
  refine W_seq ?_
  refine W_region_l ?_
  (refine WL_effn rfl (E_box (vs := [I 1, I nm, I at_, I j, I 0, I 0, nilS]) H rfl rfl) ?_; clear H; intro c5 w3 hc5 H)
  refine WL_stepM rfl (R_as) ?_
  refine WL_stepM rfl (R_as) ?_
  refine WL_stepM rfl (R_as) ?_
  refine WL_nil ?_
  refine W_seq ?_
  refine W_seq ?_
  refine W_region_l ?_
  refine WL_step rfl (R_fieldAddr (off' := 0) Tryz.underlying44 rfl Tryz.sizeOf3 (by decide) rfl rfl) ?_
  refine WL_step rfl (R_load Tryz.isAgg3 rfl (H.get .here) rfl) ?_
  refine WL_nil ?_
  refine W_block ?_
  refine W_seq ?_
  refine W_region_l ?_
  refine WL_step rfl (R_eq_t rfl rfl (by omega)) ?_
  refine WL_stepM rfl (R_as) ?_
  refine WL_nil ?_
  refine W_cond_t rfl ?_
  (refine W_draw (fun w2 => w2.heap[κ.k]? = some (blk [.slice κ.ea κ.en κ.ec, κ.mayv, ptr κ.m 0, ptr κ.s 0, ptr κ.q 0, ptr κ.r 0, κ.sv, I κ.now] 113) ∧ w2.heap[c5]? = some (blk [I 1, I nm, I at_, I j, I 0, I 0, nilS] 44)) (fun _ => false) (by kernel_rfl) H ?_; clear H; intro w21 H)
  refine WA_takeM 0 rfl rfl rfl (by kernel_rfl) (by kernel_rfl) ⟨H.blockN hk kYs, H.get .here⟩ (fun _ hC => R_mv) ?_
  refine WA_take 1 rfl rfl rfl (by kernel_rfl) (by kernel_rfl) ⟨H.blockN hk kYs, H.get .here⟩ (fun _ hC => R_nilCheck rfl) ?_
  refine WA_take 2 rfl rfl rfl (by kernel_rfl) (by kernel_rfl) ⟨H.blockN hk kYs, H.get .here⟩ (fun _ hC => R_fieldAddr (off' := 5) Tryz.underlying113 rfl Tryz.sizeOf87 (by decide) rfl rfl) ?_
  refine WA_take 3 rfl rfl rfl (by kernel_rfl) (by kernel_rfl) ⟨H.blockN hk kYs, H.get .here⟩ (fun _ hC => R_load (v := ptr κ.r 0) Tryz.isAgg87 rfl hC.1 rfl) ?_
  refine WA_takeM 4 rfl rfl rfl (by kernel_rfl) (by kernel_rfl) ⟨H.blockN hk kYs, H.get .here⟩ (fun _ hC => R_mv) ?_
  refine WA_take 5 rfl rfl rfl (by kernel_rfl) (by kernel_rfl) ⟨H.blockN hk kYs, H.get .here⟩ (fun _ hC => R_fieldAddr (off' := 1) Tryz.underlying44 rfl Tryz.sizeOf3 (by decide) rfl rfl) ?_
  refine WA_take 6 rfl rfl rfl (by kernel_rfl) (by kernel_rfl) ⟨H.blockN hk kYs, H.get .here⟩ (fun _ hC => R_load (v := I nm) Tryz.isAgg3 rfl hC.2 rfl) ?_
  refine WA_take 7 rfl rfl rfl (by kernel_rfl) (by kernel_rfl) ⟨H.blockN hk kYs, H.get .here⟩ (fun _ hC => R_fieldAddr (off' := 2) Tryz.underlying44 rfl Tryz.sizeOf3 (by decide) rfl rfl) ?_
  refine WA_take 8 rfl rfl rfl (by kernel_rfl) (by kernel_rfl) ⟨H.blockN hk kYs, H.get .here⟩ (fun _ hC => R_load (v := I at_) Tryz.isAgg3 rfl hC.2 rfl) ?_
  refine WA_take 9 rfl rfl rfl (by kernel_rfl) (by kernel_rfl) ⟨H.blockN hk kYs, H.get .here⟩ (fun _ hC => R_fieldAddr (off' := 3) Tryz.underlying44 rfl Tryz.sizeOf3 (by decide) rfl rfl) ?_
  refine WA_take 10 rfl rfl rfl (by kernel_rfl) (by kernel_rfl) ⟨H.blockN hk kYs, H.get .here⟩ (fun _ hC => R_load (v := I j) Tryz.isAgg3 rfl hC.2 rfl) ?_
  refine WA_one (i := 11) (by kernel_rfl) ?_
  (refine WI_call rfl (.inl rfl) (R_call rfl Tryz.call110 rfl) (Reg.read_yes (place_ret (hK.keepN H kYs) hW 1 (.inl rfl) j h) (H.blockN hK.hr kYs) (H.blockN hK.hm kYs) (H.blockN hK.hb kYs) hx h8 (by omega)) (by rintro _ w2 ⟨u, M, rfl, hO, H1⟩ _; exact ⟨(H.seqO hO H1).2.blockN hk (kApp (H.seqO hO H1).1.keys kYs), (H.seqO hO H1).2.get (.app _ .here)⟩) ?_; rintro _ w34 ⟨u, M, rfl, hO, H1⟩; have h34 := H.seqO hO H1; clear H H1 hO; obtain ⟨hO, H⟩ := h34)
  refine WA_takeM 12 rfl rfl rfl (by kernel_rfl) (by kernel_rfl) ⟨H.blockN hk kYs, H.get (.app _ .here)⟩ (fun _ hC => R_mv) ?_
  refine WA_take 13 rfl rfl rfl (by kernel_rfl) (by kernel_rfl) ⟨H.blockN hk kYs, H.get (.app _ .here)⟩ (fun _ hC => R_extract rfl rfl) ?_
  refine WA_take 14 rfl rfl rfl (by kernel_rfl) (by kernel_rfl) ⟨H.blockN hk kYs, H.get (.app _ .here)⟩ (fun _ hC => R_extract rfl rfl) ?_
  refine WA_takeM 15 rfl rfl rfl (by kernel_rfl) (by kernel_rfl) ⟨H.blockN hk kYs, H.get (.app _ .here)⟩ (fun _ hC => R_as) ?_
  refine WA_takeM 16 rfl rfl rfl (by kernel_rfl) (by kernel_rfl) ⟨H.blockN hk kYs, H.get (.app _ .here)⟩ (fun _ hC => R_as) ?_
  refine WA_done (by kernel_rfl) ?_
  refine W_seq ?_
  refine W_region_l ?_
  refine WL_stepM rfl (R_mv) ?_
  refine WL_stepM rfl (R_mv) ?_
  refine WL_stepM rfl (R_as) ?_
  refine WL_stepM rfl (R_as) ?_
  refine WL_stepM rfl (R_as) ?_
  refine WL_nil ?_
  refine W_ret ?_
  exact ⟨_, rfl, u, M, rfl, hO, H.cut kYs⟩

theorem do_read (hK : Kr w κ) (hW : Wn κ e nm lo n) (j : Nat) (h : at_ + j ≤ n) :
    Ret Tryz.prog 36 #[ptr κ.k 0, I e, .agg #[I 1, I nm, I at_, I j, I 0, I 0, nilS]] w fun v w' => ∃ u M, v = .agg #[I 0, I 0, u] ∧ OwnS w.heap.size 5 1 u j (((κ.xs.drop (lo + at_)).take j).map U) M ∧ Hp w M w' := by
  refine Ret_of_WC (args := [_, _, _]) Tryz.func36 rfl Tryz.ntmps36 Tryz.results36 (by simp) ?_
  have H := Hp.refl w
  have hk := hK.hk
  have he := hW.he
  have he2 := hK.hen
  unfold KS.kb at hk
  refine W_seq ?_
  refine W_region_l ?_
  (refine WL_effn rfl (E_box (vs := [I 1, I nm, I at_, I j, I 0, I 0, nilS]) H rfl rfl) ?_; clear H; intro c5 w3 hc5 H)
  (refine WL_effn rfl (E_alloc (vs := [I 0, I 0, nilS]) H Tryz.zeroValue96 rfl) ?_; clear H; intro c6 w4 hc6 H)
  refine WL_nil ?_
  refine W_seq ?_
  refine W_seq ?_
  refine W_region_l ?_
  refine WL_stepM rfl (R_mv) ?_
  refine WL_step rfl (R_lt_f rfl rfl (by omega)) ?_
  refine WL_stepM rfl (R_mv) ?_
  refine WL_guard_t rfl rfl ?_
  refine WL_stepM rfl (R_mv) ?_
  refine WL_guard_t rfl rfl ?_
  refine WL_stepM rfl (R_mv) ?_
  refine WL_guard_t rfl rfl ?_
  refine WL_step rfl (R_nilCheck rfl) ?_
  refine WL_guard_t rfl rfl ?_
  refine WL_step rfl (R_fieldAddr (off' := 0) Tryz.underlying113 rfl Tryz.sizeOf22 (by decide) rfl rfl) ?_
  refine WL_guard_t rfl rfl ?_
  refine WL_step rfl (R_load Tryz.isAgg22 rfl (H.blockN hk kYs) rfl) ?_
  refine WL_guard_t rfl rfl ?_
  refine WL_step rfl (R_len_slice Tryz.underlying22 rfl) ?_
  refine WL_guard_t rfl rfl ?_
  refine WL_step rfl (R_ge_f rfl rfl (by omega)) ?_
  refine WL_stepM rfl (R_pk_f rfl) ?_
  refine WL_nil ?_
  refine W_cond_f rfl ?_
  refine W_skip ?_
  refine W_seq ?_
  refine W_seq ?_
  refine W_region_l ?_
  refine WL_stepM rfl (R_mv) ?_
  refine WL_stepM rfl (R_mv) ?_
  refine WL_step rfl (R_loadA Tryz.isAgg44 Tryz.sizeOf44 rfl (H.get (.there .here)) rfl (by simp)) ?_
  (refine WL_call rfl (R_call rfl Tryz.call68 rfl) (bytes_read (hK.keepN H kYs) hW j h) ?_; rintro _ w36 ⟨u, M, rfl, hO, H1⟩; have h36 := H.seqO hO H1; clear H H1 hO; obtain ⟨hO, H⟩ := h36; obtain ⟨ua, uc, rfl⟩ := hO.form)
  refine WL_stepM rfl (R_mv) ?_
  refine WL_step rfl (R_extract rfl rfl) ?_
  refine WL_step rfl (R_extract rfl rfl) ?_
  refine WL_step rfl (R_extract rfl rfl) ?_
  refine WL_stepM rfl (R_as) ?_
  refine WL_stepM rfl (R_as) ?_
  refine WL_stepM rfl (R_as) ?_
  refine WL_nil ?_
  refine W_seq ?_
  refine W_region_l ?_
  refine WL_stepM rfl (R_mv) ?_
  refine WL_nil ?_
  refine W_cond_t rfl ?_
  refine W_seq ?_
  refine W_region_l ?_
  refine WL_stepM rfl (R_mv) ?_
  refine WL_stepM rfl (R_mv) ?_
  refine WL_step rfl (R_buildL (places := [(0, 1), (1, 1), (2, 1)]) (vs := [I 0, I 0, .slice ua j uc]) Tryz.underlying96 Tryz.typeInfo96 rfl rfl (by kernel_rfl) rfl rfl rfl) ?_
  (refine WL_effu rfl (E_storeA (vs := [I 0, I 0, .slice ua j uc]) H Tryz.sizeOf96 rfl rfl (by simp [Value.oneCell']) (.app _ .here) (by simp)) ?_; clear H; intro w55 H; replace H : Hp w (M ++ [(c6, blk [I 0, I 0, .slice ua j uc] 96), (c5, blk [I 1, I nm, I at_, I j, I 0, I 0, nilS] 44)]) w55 := H)
  refine WL_nil ?_
  refine W_ret ?_
  exact ⟨_, ⟨_, rfl, ldA Tryz.isAgg96 Tryz.sizeOf96 (H.get (.app _ .here)) rfl (by simp)⟩, _, M, rfl, hO, H.cut kYs⟩

theorem bytes_write {bv : Value} {ys : List UInt8} (hl : RdS w bv (ys.map U)) (hK : Kr w κ) (hW : Wn κ e nm lo n) (h : at_ + ys.length ≤ n) :
    Ret Tryz.prog 68 #[ptr κ.k 0, I e, .agg #[I 2, I nm, I at_, I 0, I 0, I 0, bv]] w fun v w' => v = .tuple #[nilS, I 0, .bool true] ∧ Hp w [(κ.mb, blk ((Mem.put κ.xs ys (lo + at_)).map U) 5)] w' := by
  refine Ret_of_W (args := [_, _, _]) Tryz.func68 rfl Tryz.ntmps68 Tryz.results68 (by simp) ?_
  have H := Hp.refl w
  have hk := hK.hk
  have h7 := hW.hin
  have h8 := hK.hN
  have hx := hK.hx
  unfold KS.kb at hk
  obtain ⟨ba, bc, rfl⟩ := hl.form
  refine W_seq ?_
  refine W_region_l ?_
  (refine WL_effn rfl (E_box (vs := [I 2, I nm, I at_, I 0, I 0, I 0, .slice ba (ys.map U).length bc]) H rfl rfl) ?_; clear H; intro c5 w3 hc5 H)
  refine WL_stepM rfl (R_as) ?_
  refine WL_stepM rfl (R_as) ?_
  refine WL_stepM rfl (R_as) ?_
  refine WL_nil ?_
  refine W_seq ?_
  refine W_seq ?_
  refine W_region_l ?_
  refine WL_step rfl (R_fieldAddr (off' := 0) Tryz.underlying44 rfl Tryz.sizeOf3 (by decide) rfl rfl) ?_
  refine WL_step rfl (R_load Tryz.isAgg3 rfl (H.get .here) rfl) ?_
  refine WL_nil ?_
  refine W_block ?_
  refine W_seq ?_
  refine W_region_l ?_
  refine WL_step rfl (R_eq_f rfl rfl (by omega)) ?_
  refine WL_stepM rfl (R_as) ?_
  refine WL_nil ?_
  refine W_cond_f rfl ?_
  refine W_seq ?_
  refine W_region_l ?_
  refine WL_step rfl (R_eq_t rfl rfl (by omega)) ?_
  refine WL_stepM rfl (R_as) ?_
  refine WL_nil ?_
  refine W_cond_t rfl ?_
  (refine W_draw (fun w2 => w2.heap[κ.k]? = some (blk [.slice κ.ea κ.en κ.ec, κ.mayv, ptr κ.m 0, ptr κ.s 0, ptr κ.q 0, ptr κ.r 0, κ.sv, I κ.now] 113) ∧ w2.heap[c5]? = some (blk [I 2, I nm, I at_, I 0, I 0, I 0, .slice ba (ys.map U).length bc] 44)) (fun _ => false) (by kernel_rfl) H ?_; clear H; intro w27 H)
  refine WA_takeM 0 rfl rfl rfl (by kernel_rfl) (by kernel_rfl) ⟨H.blockN hk kYs, H.get .here⟩ (fun _ hC => R_mv) ?_
  refine WA_take 1 rfl rfl rfl (by kernel_rfl) (by kernel_rfl) ⟨H.blockN hk kYs, H.get .here⟩ (fun _ hC => R_nilCheck rfl) ?_
  refine WA_take 2 rfl rfl rfl (by kernel_rfl) (by kernel_rfl) ⟨H.blockN hk kYs, H.get .here⟩ (fun _ hC => R_fieldAddr (off' := 5) Tryz.underlying113 rfl Tryz.sizeOf87 (by decide) rfl rfl) ?_
  refine WA_take 3 rfl rfl rfl (by kernel_rfl) (by kernel_rfl) ⟨H.blockN hk kYs, H.get .here⟩ (fun _ hC => R_load (v := ptr κ.r 0) Tryz.isAgg87 rfl hC.1 rfl) ?_
  refine WA_takeM 4 rfl rfl rfl (by kernel_rfl) (by kernel_rfl) ⟨H.blockN hk kYs, H.get .here⟩ (fun _ hC => R_mv) ?_
  refine WA_take 5 rfl rfl rfl (by kernel_rfl) (by kernel_rfl) ⟨H.blockN hk kYs, H.get .here⟩ (fun _ hC => R_fieldAddr (off' := 1) Tryz.underlying44 rfl Tryz.sizeOf3 (by decide) rfl rfl) ?_
  refine WA_take 6 rfl rfl rfl (by kernel_rfl) (by kernel_rfl) ⟨H.blockN hk kYs, H.get .here⟩ (fun _ hC => R_load (v := I nm) Tryz.isAgg3 rfl hC.2 rfl) ?_
  refine WA_take 7 rfl rfl rfl (by kernel_rfl) (by kernel_rfl) ⟨H.blockN hk kYs, H.get .here⟩ (fun _ hC => R_fieldAddr (off' := 2) Tryz.underlying44 rfl Tryz.sizeOf3 (by decide) rfl rfl) ?_
  refine WA_take 8 rfl rfl rfl (by kernel_rfl) (by kernel_rfl) ⟨H.blockN hk kYs, H.get .here⟩ (fun _ hC => R_load (v := I at_) Tryz.isAgg3 rfl hC.2 rfl) ?_
  refine WA_take 9 rfl rfl rfl (by kernel_rfl) (by kernel_rfl) ⟨H.blockN hk kYs, H.get .here⟩ (fun _ hC => R_fieldAddr (off' := 6) Tryz.underlying44 rfl Tryz.sizeOf36 (by decide) rfl rfl) ?_
  refine WA_take 10 rfl rfl rfl (by kernel_rfl) (by kernel_rfl) ⟨H.blockN hk kYs, H.get .here⟩ (fun _ hC => R_load (v := .slice ba (ys.map U).length bc) Tryz.isAgg36 rfl hC.2 rfl) ?_
  refine WA_one (i := 11) (by kernel_rfl) ?_
  (refine WI_call rfl (.inl rfl) (R_call rfl Tryz.call111 rfl) (Reg.write_yes (hl.monoN H kYs) (place_ret (hK.keepN H kYs) hW 2 (.inr rfl) ys.length h) (H.blockN hK.hr kYs) (H.blockN hK.hm kYs) (H.blockN hK.hb kYs) hx h8 (by omega)) (by rintro _ w2 ⟨rfl, H1⟩ _; exact ⟨H1.blockT (T := kT) (H.blockN hk kYs) (by simp [kT, elT]) (Out.cons (H.blockN hK.hb kYs) (by simp [kT, elT]) Out.nil), (H.seqB hK.hb kYs H1).get (.there .here)⟩) ?_; rintro _ w40 ⟨rfl, H1⟩; have hk9 := H1.blockT (H.blockN hk kYs) (T := kT) (by simp [kT, elT]) (Out.cons (H.blockN hK.hb kYs) (by simp [kT, elT]) Out.nil); replace H := H.seqB hK.hb kYs H1; clear H1)
  refine WA_takeM 12 rfl rfl rfl (by kernel_rfl) (by kernel_rfl) ⟨hk9, H.get (.there .here)⟩ (fun _ hC => R_as) ?_
  refine WA_done (by kernel_rfl) ?_
  refine W_seq ?_
  refine W_region_l ?_
  refine WL_stepM rfl (R_mv) ?_
  refine WL_stepM rfl (R_mv) ?_
  refine WL_stepM rfl (R_as) ?_
  refine WL_stepM rfl (R_as) ?_
  refine WL_stepM rfl (R_as) ?_
  refine WL_nil ?_
  refine W_ret ?_
  exact ⟨_, rfl, rfl, H.pop2 (by assumption)⟩

theorem do_write {bv : Value} {ys : List UInt8} (hl : RdS w bv (ys.map U)) (hK : Kr w κ) (hW : Wn κ e nm lo n) (h : at_ + ys.length ≤ n) :
    Ret Tryz.prog 36 #[ptr κ.k 0, I e, .agg #[I 2, I nm, I at_, I 0, I 0, I 0, bv]] w fun v w' => v = .agg #[I 0, I 0, nilS] ∧ Hp w [(κ.mb, blk ((Mem.put κ.xs ys (lo + at_)).map U) 5)] w' := by
  refine Ret_of_WC (args := [_, _, _]) Tryz.func36 rfl Tryz.ntmps36 Tryz.results36 (by simp) ?_
  have H := Hp.refl w
  have hk := hK.hk
  have he := hW.he
  have he2 := hK.hen
  unfold KS.kb at hk
  obtain ⟨ba, bc, rfl⟩ := hl.form
  refine W_seq ?_
  refine W_region_l ?_
  (refine WL_effn rfl (E_box (vs := [I 2, I nm, I at_, I 0, I 0, I 0, .slice ba (ys.map U).length bc]) H rfl rfl) ?_; clear H; intro c5 w3 hc5 H)
  (refine WL_effn rfl (E_alloc (vs := [I 0, I 0, nilS]) H Tryz.zeroValue96 rfl) ?_; clear H; intro c6 w4 hc6 H)
  refine WL_nil ?_
  refine W_seq ?_
  refine W_seq ?_
  refine W_region_l ?_
  refine WL_stepM rfl (R_mv) ?_
  refine WL_step rfl (R_lt_f rfl rfl (by omega)) ?_
  refine WL_stepM rfl (R_mv) ?_
  refine WL_guard_t rfl rfl ?_
  refine WL_stepM rfl (R_mv) ?_
  refine WL_guard_t rfl rfl ?_
  refine WL_stepM rfl (R_mv) ?_
  refine WL_guard_t rfl rfl ?_
  refine WL_step rfl (R_nilCheck rfl) ?_
  refine WL_guard_t rfl rfl ?_
  refine WL_step rfl (R_fieldAddr (off' := 0) Tryz.underlying113 rfl Tryz.sizeOf22 (by decide) rfl rfl) ?_
  refine WL_guard_t rfl rfl ?_
  refine WL_step rfl (R_load Tryz.isAgg22 rfl (H.blockN hk kYs) rfl) ?_
  refine WL_guard_t rfl rfl ?_
  refine WL_step rfl (R_len_slice Tryz.underlying22 rfl) ?_
  refine WL_guard_t rfl rfl ?_
  refine WL_step rfl (R_ge_f rfl rfl (by omega)) ?_
  refine WL_stepM rfl (R_pk_f rfl) ?_
  refine WL_nil ?_
  refine W_cond_f rfl ?_
  refine W_skip ?_
  refine W_seq ?_
  refine W_seq ?_
  refine W_region_l ?_
  refine WL_stepM rfl (R_mv) ?_
  refine WL_stepM rfl (R_mv) ?_
  refine WL_step rfl (R_loadA Tryz.isAgg44 Tryz.sizeOf44 rfl (H.get (.there .here)) rfl (by simp)) ?_
  (refine WL_call rfl (R_call rfl Tryz.call68 rfl) (bytes_write (hl.monoN H kYs) (hK.keepN H kYs) hW h) ?_; rintro _ w36 ⟨rfl, H1⟩; replace H := H.seqB hK.hb kYs H1; clear H1)
  refine WL_stepM rfl (R_mv) ?_
  refine WL_step rfl (R_extract rfl rfl) ?_
  refine WL_step rfl (R_extract rfl rfl) ?_
  refine WL_step rfl (R_extract rfl rfl) ?_
  refine WL_stepM rfl (R_as) ?_
  refine WL_stepM rfl (R_as) ?_
  refine WL_stepM rfl (R_as) ?_
  refine WL_nil ?_
  refine W_seq ?_
  refine W_region_l ?_
  refine WL_stepM rfl (R_mv) ?_
  refine WL_nil ?_
  refine W_cond_t rfl ?_
  refine W_seq ?_
  refine W_region_l ?_
  refine WL_stepM rfl (R_mv) ?_
  refine WL_stepM rfl (R_mv) ?_
  refine WL_step rfl (R_buildL (places := [(0, 1), (1, 1), (2, 1)]) (vs := [I 0, I 0, nilS]) Tryz.underlying96 Tryz.typeInfo96 rfl rfl (by kernel_rfl) rfl rfl rfl) ?_
  (refine WL_effu rfl (E_storeA (vs := [I 0, I 0, nilS]) H Tryz.sizeOf96 rfl rfl (by simp [Value.oneCell']) (.there .here) (by simp)) ?_; clear H; intro w55 H; replace H : Hp w [(κ.mb, blk ((Mem.put κ.xs ys (lo + at_)).map U) 5), (c6, blk [I 0, I 0, nilS] 96), (c5, blk [I 2, I nm, I at_, I 0, I 0, I 0, .slice ba (ys.map U).length bc] 44)] w55 := H)
  refine WL_nil ?_
  refine W_ret ?_
  exact ⟨_, ⟨_, rfl, ldA Tryz.isAgg96 Tryz.sizeOf96 (H.get (.there .here)) rfl (by simp)⟩, rfl, (H.pop2 (by assumption)).pop2 (by assumption)⟩
end
end Go.Proofs.YtlpmfldijgdcoaaGreatDoor.Kn

/-
  A kernel's sections: which one it is; it is entered, and left.
-/
namespace Go.Proofs.YtlpmfldijgdcoaaGreatDoor.Kn
open Go Go.Proofs Go.Proofs.YtlpmfldijgdcoaaGreatDoor.Fx Go.Proofs.YtlpmfldijgdcoaaGreatDoor.Sect
set_option maxRecDepth 100000
set_option linter.unusedVariables false
set_option linter.unusedSimpArgs false
set_option maxHeartbeats 8000000

/-- a slice that is read, and of what kind its block is -/
structure RdT (T : Nat) (w : World) (v : Value) (xs : List Value) : Prop where
  rd : RdS w v xs
  ty : ∀ a m c, v = .slice (some a) m c → ∃ o, w.heap[a.block]? = some o ∧ elT o = T
theorem RdT.keep {T : Nat} {w w' : World} {v : Value} {xs : List Value} {L : List (Nat × Obj)} (h : RdT T w v xs) (H : Hp w L w') (hn : Out [T] w L) : RdT T w' v xs := by
  refine ⟨h.rd.mono H fun a m c e hm => ?_, fun a m c e => ?_⟩
  · obtain ⟨o, h1, h2⟩ := h.ty a m c e
    obtain ⟨p, hp, e2⟩ := List.mem_map.1 hm
    rcases hn p hp with h3 | ⟨o', h3, h4⟩
    · have := lt_of_some h1; omega
    · rw [e2, h1] at h3
      cases h3
      exact h4 (by rw [h2]; simp)
  · obtain ⟨o, h1, h2⟩ := h.ty a m c e
    exact ⟨o, H.blockT h1 (by rw [h2]; simp) hn, h2⟩
theorem RdT.own {w : World} {B e m : Nat} {v : Value} {xs : List Value} {M : List (Nat × Obj)} (h : OwnS B e 1 v m xs M) (hM : ∀ p ∈ M, w.heap[p.1]? = some p.2) : RdT e w v xs := by
  refine ⟨RdS.own h hM, fun a m c e => ?_⟩
  rcases h.2 with ⟨h1, _⟩ | h1
  · subst e; cases h1
  · obtain ⟨b, cap, sp, h2, h3, h4, h5⟩ := h1
    subst e
    cases h2
    exact ⟨_, hM (b, _) (by rw [h4]; exact .head _), rfl⟩

/-- a section that an environment may enter -/
structure Ks (w : World) (κ : KS) (e n sp : Nat) : Prop where
  hk : w.heap[κ.k]? = some κ.kb
  ex : ∃ (envs : List Int) (mays : List Value) (l : List Int) (mv : Value) (ss : List Value) (x : Int), RdT 3 w (.slice κ.ea κ.en κ.ec) (envs.map I) ∧ envs[e]? = some x ∧ RdT 22 w κ.mayv mays ∧ mays[n]? = some mv ∧
    RdT 3 w mv (l.map I) ∧ x ∈ l ∧ RdT 115 w κ.sv ss ∧ ss[n]? = some (ptr sp 0) ∧ l.length ≤ 100 ∧ ss.length ≤ 8
  he : e < κ.en
  he2 : κ.en ≤ 40
def sT : List Nat := [113, 3, 22, 115]
theorem Ks.keep {w w' : World} {κ : KS} {e n sp : Nat} {L : List (Nat × Obj)} (h : Ks w κ e n sp) (H : Hp w L w') (hn : Out sT w L) : Ks w' κ e n sp := by
  obtain ⟨envs, mays, l, mv, ss, x, h1, h2, h3, h4, h5, h6, h7, h8, h9⟩ := h.ex
  exact ⟨H.blockT h.hk (by simp [sT, elT, KS.kb]) hn, ⟨envs, mays, l, mv, ss, x, h1.keep H (hn.sub (by simp [sT])), h2, h3.keep H (hn.sub (by simp [sT])), h4, h5.keep H (hn.sub (by simp [sT])), h6, h7.keep H (hn.sub (by simp [sT])), h8, h9⟩, h.he, h.he2⟩
theorem Ks.keepN {w w' : World} {κ : KS} {e n sp : Nat} {L : List (Nat × Obj)} (h : Ks w κ e n sp) (H : Hp w L w') (hn : ∀ p ∈ L, w.heap.size ≤ p.1) : Ks w' κ e n sp := h.keep H (Out.ofN hn)

section
variable {w : World} {κ : KS} {e n sp : Nat}

theorem bytes_no {op a b c d f : Int} {ba : Option Addr} {bl bc : Nat} (h1 : op ≠ 1) (h2 : op ≠ 2) (h3 : op ≠ 3) (k : Value) (e : Int) :
    Ret Tryz.prog 68 #[k, I e, .agg #[I op, I a, I b, I c, I d, I f, .slice ba bl bc]] w fun v w' => v = .tuple #[nilS, I 0, .bool false] ∧ Hp w [] w' := by
  refine Ret_of_W (args := [_, _, _]) Tryz.func68 rfl Tryz.ntmps68 Tryz.results68 (by simp) ?_
  have H := Hp.refl w
  have q : ∀ (m : Int), op ≠ m → decide (op = m) = false := fun m h => decide_eq_false h
  refine W_seq ?_
  refine W_region_l ?_
  (refine WL_effn rfl (E_box (vs := [I op, I a, I b, I c, I d, I f, .slice ba bl bc]) H rfl rfl) ?_; clear H; intro c5 w3 hc5 H)
  refine WL_stepM rfl (R_as) ?_
  refine WL_stepM rfl (R_as) ?_
  refine WL_stepM rfl (R_as) ?_
  refine WL_nil ?_
  refine W_seq ?_
  refine W_seq ?_
  refine W_region_l ?_
  refine WL_step rfl (R_fieldAddr (off' := 0) Tryz.underlying44 rfl Tryz.sizeOf3 (by decide) rfl rfl) ?_
  refine WL_step rfl (R_load Tryz.isAgg3 rfl (H.get .here) rfl) ?_
  refine WL_nil ?_
  refine W_block ?_
  refine W_seq ?_
  refine W_region_l ?_
  refine WL_step rfl (R_eq_f rfl rfl (by omega)) ?_
  refine WL_stepM rfl (R_as) ?_
  refine WL_nil ?_
  refine W_cond_f rfl ?_
  refine W_seq ?_
  refine W_region_l ?_
  refine WL_step rfl (R_eq_f rfl rfl (by omega)) ?_
  refine WL_stepM rfl (R_as) ?_
  refine WL_nil ?_
  refine W_cond_f rfl ?_
  refine W_seq ?_
  refine W_region_l ?_
  refine WL_step rfl (R_eq_f rfl rfl (by omega)) ?_
  refine WL_stepM rfl (R_as) ?_
  refine WL_nil ?_
  refine W_cond_f rfl ?_
  refine W_seq ?_
  refine W_region_l ?_
  refine WL_stepM rfl (R_as) ?_
  refine WL_stepM rfl (R_as) ?_
  refine WL_stepM rfl (R_as) ?_
  refine WL_nil ?_
  refine W_ret ?_
  exact ⟨_, rfl, rfl, H.none kYs⟩

theorem sect_ret (hs : Ks w κ e n sp) : Ret Tryz.prog 157 #[ptr κ.k 0, I e, I n] w fun v w' => v = .tuple #[ptr sp 0, I 0] ∧ Hp w [] w' := by
  refine Ret_of_W (args := [_, _, _]) Tryz.func157 rfl Tryz.ntmps157 Tryz.results157 (by simp) ?_
  have H := Hp.refl w
  obtain ⟨envs, mays, l, mv, ss, x, h1, h2, h3, h4, h5, h6, h7, h8, h9, h10⟩ := hs.ex
  have hk := hs.hk
  have he := hs.he
  have he2 := hs.he2
  obtain ⟨k, m, mb, N, s, q, r, a, ca, ea, en, ec, mayv, sv, PB, ts, spl, tl, xs, now⟩ := κ
  unfold KS.kb at hk
  simp only at h1 h3 h7 hk he he2
  obtain ⟨ma, mc, rfl⟩ := h3.rd.form
  obtain ⟨sa, sc, rfl⟩ := h7.rd.form
  obtain ⟨b1, o1, rfl, hc1⟩ := h1.rd.cell (i := e) (u := I x) (by rw [List.getElem?_map, h2]; rfl)
  obtain ⟨b2, o2, rfl, hc2⟩ := h3.rd.cell h4
  obtain ⟨b3, o3, rfl, hc3⟩ := h7.rd.cell h8
  have hnm := (List.getElem?_eq_some_iff.1 h4).1
  have hns := (List.getElem?_eq_some_iff.1 h8).1
  have hcont : decide (x ∈ l) = true := decide_eq_true h6
  obtain ⟨va, vc, rfl⟩ := h5.rd.form
  refine W_seq ?_
  refine W_region_l ?_
  refine WL_stepM rfl (R_as) ?_
  refine WL_stepM rfl (R_as) ?_
  refine WL_nil ?_
  refine W_seq ?_
  refine W_seq ?_
  (refine W_drawH (fun _ => false) (by kernel_rfl) H ?_; clear H; intro w8 H)
  refine WA_takeM 0 rfl rfl rfl (by kernel_rfl) (by kernel_rfl) H (fun _ hC => R_mv) ?_
  refine WA_take 1 rfl rfl rfl (by kernel_rfl) (by kernel_rfl) H (fun _ hC => R_lt_f rfl rfl (by omega)) ?_
  refine WA_takeM 2 rfl rfl rfl (by kernel_rfl) (by kernel_rfl) H (fun _ hC => R_mv) ?_
  refine WA_takeGM 3 rfl rfl rfl rfl (by kernel_rfl) (by kernel_rfl) H (fun _ hC => R_mv) ?_
  refine WA_takeGM 4 rfl rfl rfl rfl (by kernel_rfl) (by kernel_rfl) H (fun _ hC => R_mv) ?_
  refine WA_takeG 5 rfl rfl rfl rfl (by kernel_rfl) (by kernel_rfl) H (fun _ hC => R_nilCheck rfl) ?_
  refine WA_takeG 6 rfl rfl rfl rfl (by kernel_rfl) (by kernel_rfl) H (fun _ hC => R_fieldAddr (off' := 6) Tryz.underlying113 rfl Tryz.sizeOf111 (by decide) rfl rfl) ?_
  refine WA_takeG 7 rfl rfl rfl rfl (by kernel_rfl) (by kernel_rfl) H (fun _ hC => R_load Tryz.isAgg111 rfl (hC.block hk (by simp)) rfl) ?_
  refine WA_takeG 8 rfl rfl rfl rfl (by kernel_rfl) (by kernel_rfl) H (fun _ hC => R_len_slice Tryz.underlying111 rfl) ?_
  refine WA_takeG 9 rfl rfl rfl rfl (by kernel_rfl) (by kernel_rfl) H (fun _ hC => R_ge_f rfl rfl (by omega)) ?_
  refine WA_takeM 10 rfl rfl rfl (by kernel_rfl) (by kernel_rfl) H (fun _ hC => R_pk_f rfl) ?_
  refine WA_takeM 11 rfl rfl rfl (by kernel_rfl) (by kernel_rfl) H (fun _ hC => R_mv) ?_
  refine WA_takeGM 12 rfl rfl rfl rfl (by kernel_rfl) (by kernel_rfl) H (fun _ hC => R_mv) ?_
  refine WA_takeG 13 rfl rfl rfl rfl (by kernel_rfl) (by kernel_rfl) H (fun _ hC => R_nilCheck rfl) ?_
  refine WA_takeG 14 rfl rfl rfl rfl (by kernel_rfl) (by kernel_rfl) H (fun _ hC => R_fieldAddr (off' := 1) Tryz.underlying113 rfl Tryz.sizeOf74 (by decide) rfl rfl) ?_
  refine WA_takeG 15 rfl rfl rfl rfl (by kernel_rfl) (by kernel_rfl) H (fun _ hC => R_load Tryz.isAgg74 rfl (hC.block hk (by simp)) rfl) ?_
  refine WA_takeGM 16 rfl rfl rfl rfl (by kernel_rfl) (by kernel_rfl) H (fun _ hC => R_mv) ?_
  refine WA_takeG 17 rfl rfl rfl rfl (by kernel_rfl) (by kernel_rfl) H (fun _ hC => R_indexAddr (off' := o2 + n) Tryz.underlying74 Tryz.sizeOf22 rfl rfl (by omega) (by omega) (by omega)) ?_
  refine WA_takeG 18 rfl rfl rfl rfl (by kernel_rfl) (by kernel_rfl) H (fun _ hC => R_load_cell Tryz.isAgg22 rfl (hC.cellN hc2 kYs)) ?_
  refine WA_takeGM 19 rfl rfl rfl rfl (by kernel_rfl) (by kernel_rfl) H (fun _ hC => R_mv) ?_
  refine WA_takeG 20 rfl rfl rfl rfl (by kernel_rfl) (by kernel_rfl) H (fun _ hC => R_nilCheck rfl) ?_
  refine WA_takeG 21 rfl rfl rfl rfl (by kernel_rfl) (by kernel_rfl) H (fun _ hC => R_fieldAddr (off' := 0) Tryz.underlying113 rfl Tryz.sizeOf22 (by decide) rfl rfl) ?_
  refine WA_takeG 22 rfl rfl rfl rfl (by kernel_rfl) (by kernel_rfl) H (fun _ hC => R_load Tryz.isAgg22 rfl (hC.block hk (by simp)) rfl) ?_
  refine WA_takeGM 23 rfl rfl rfl rfl (by kernel_rfl) (by kernel_rfl) H (fun _ hC => R_mv) ?_
  refine WA_takeG 24 rfl rfl rfl rfl (by kernel_rfl) (by kernel_rfl) H (fun _ hC => R_indexAddr (off' := o1 + e) Tryz.underlying22 Tryz.sizeOf3 rfl rfl (by omega) (by omega) (by omega)) ?_
  refine WA_takeG 25 rfl rfl rfl rfl (by kernel_rfl) (by kernel_rfl) H (fun _ hC => R_load_cell Tryz.isAgg3 rfl (hC.cellN hc1 kYs)) ?_
  refine WA_one (i := 26) (by kernel_rfl) ?_
  (refine WI_call rfl (.inr ⟨_, _, rfl, rfl⟩) (R_call rfl Tryz.call51 rfl) (by exact contains_ret x (h5.rd.same H) (by omega)) (by first | exact fun _ _ hR _ => H.seq0 hR.2 | exact fun _ _ hR h => Bool.noConfusion h | exact fun _ _ hR _ => (H.seq0 hR.2).none kYs | exact fun _ _ hR _ => (H.seq0 hR.2).dropN kYs) ?_; rintro v w36 ⟨hv, H1⟩; rw [hcont] at hv; subst hv; replace H := H.seq0 H1; clear H1)
  refine WA_takeG 27 rfl rfl rfl rfl (by kernel_rfl) (by kernel_rfl) H (fun _ hC => R_not_t rfl) ?_
  refine WA_takeM 28 rfl rfl rfl (by kernel_rfl) (by kernel_rfl) H (fun _ hC => R_pk_f rfl) ?_
  refine WA_done (by kernel_rfl) ?_
  refine W_cond_f rfl ?_
  refine W_skip ?_
  refine W_seq ?_
  refine W_region_l ?_
  refine WL_stepM rfl (R_mv) ?_
  refine WL_step rfl (R_nilCheck rfl) ?_
  refine WL_step rfl (R_fieldAddr (off' := 6) Tryz.underlying113 rfl Tryz.sizeOf111 (by decide) rfl rfl) ?_
  refine WL_step rfl (R_load Tryz.isAgg111 rfl (H.block hk (by simp)) rfl) ?_
  refine WL_stepM rfl (R_mv) ?_
  refine WL_step rfl (R_indexAddr (off' := o3 + n) Tryz.underlying111 Tryz.sizeOf115 rfl rfl (by omega) (by omega) (by omega)) ?_
  refine WL_step rfl (R_load_cell Tryz.isAgg115 rfl (H.cellN hc3 kYs)) ?_
  refine WL_stepM rfl (R_as) ?_
  refine WL_stepM rfl (R_as) ?_
  refine WL_nil ?_
  refine W_ret ?_
  exact ⟨_, rfl, rfl, H⟩

theorem Sect_ret (hs : Ks w κ e n sp) : Ret Tryz.prog 59 #[ptr κ.k 0, I n] w fun v w' => v = ptr sp 0 ∧ Hp w [] w' := by
  refine Ret_of_W (args := [_, _]) Tryz.func59 rfl Tryz.ntmps59 Tryz.results59 (by simp) ?_
  have H := Hp.refl w
  obtain ⟨envs, mays, l, mv, ss, x, h1, h2, h3, h4, h5, h6, h7, h8, h9, h10⟩ := hs.ex
  have hk := hs.hk
  obtain ⟨k, m, mb, N, s, q, r, a, ca, ea, en, ec, mayv, sv, PB, ts, spl, tl, xs, now⟩ := κ
  unfold KS.kb at hk
  simp only at h7 hk
  obtain ⟨sa, sc, rfl⟩ := h7.rd.form
  obtain ⟨b3, o3, rfl, hc3⟩ := h7.rd.cell h8
  have hns := (List.getElem?_eq_some_iff.1 h8).1
  refine W_seq ?_
  refine W_region_l ?_
  refine WL_stepM rfl (R_as) ?_
  refine WL_nil ?_
  refine W_seq ?_
  refine W_seq ?_
  refine W_region_l ?_
  refine WL_stepM rfl (R_mv) ?_
  refine WL_step rfl (R_lt_f rfl rfl (by omega)) ?_
  refine WL_stepM rfl (R_mv) ?_
  refine WL_guard_t rfl rfl ?_
  refine WL_stepM rfl (R_mv) ?_
  refine WL_guard_t rfl rfl ?_
  refine WL_stepM rfl (R_mv) ?_
  refine WL_guard_t rfl rfl ?_
  refine WL_step rfl (R_nilCheck rfl) ?_
  refine WL_guard_t rfl rfl ?_
  refine WL_step rfl (R_fieldAddr (off' := 6) Tryz.underlying113 rfl Tryz.sizeOf111 (by decide) rfl rfl) ?_
  refine WL_guard_t rfl rfl ?_
  refine WL_step rfl (R_load Tryz.isAgg111 rfl (H.block hk (by simp)) rfl) ?_
  refine WL_guard_t rfl rfl ?_
  refine WL_step rfl (R_len_slice Tryz.underlying111 rfl) ?_
  refine WL_guard_t rfl rfl ?_
  refine WL_step rfl (R_ge_f rfl rfl (by omega)) ?_
  refine WL_stepM rfl (R_pk_f rfl) ?_
  refine WL_nil ?_
  refine W_cond_f rfl ?_
  refine W_skip ?_
  refine W_seq ?_
  refine W_region_l ?_
  refine WL_stepM rfl (R_mv) ?_
  refine WL_step rfl (R_nilCheck rfl) ?_
  refine WL_step rfl (R_fieldAddr (off' := 6) Tryz.underlying113 rfl Tryz.sizeOf111 (by decide) rfl rfl) ?_
  refine WL_step rfl (R_load Tryz.isAgg111 rfl (H.block hk (by simp)) rfl) ?_
  refine WL_stepM rfl (R_mv) ?_
  refine WL_step rfl (R_indexAddr (off' := o3 + n) Tryz.underlying111 Tryz.sizeOf115 rfl rfl (by omega) (by omega) (by omega)) ?_
  refine WL_step rfl (R_load_cell Tryz.isAgg115 rfl (H.cellN hc3 kYs)) ?_
  refine WL_stepM rfl (R_as) ?_
  refine WL_nil ?_
  refine W_ret ?_
  exact ⟨_, rfl, rfl, H⟩

/-- a section in which nobody waits is entered -/
theorem enter_ret {S : Sx} {T : Int} (hs : Ks w κ e n sp) (hsp : w.heap[sp]? = some (blk (sxC S nilS) 170)) (hq : S.q = []) (hB : Bd S T) (hT : T ≤ 1000000) (hn : 0 ≤ κ.now ∧ κ.now ≤ T) :
    Ret Tryz.prog 117 #[ptr κ.k 0, I e, .agg #[I 8, I 0, I 0, I n, I 0, I 0, nilS]] w fun v w' => ∃ qv M, v = .tuple #[I (enter S e κ.now).2.1, I 0] ∧ (∀ p ∈ M, w.heap.size ≤ p.1) ∧ Hp w (M ++ [(sp, blk (sxC (enter S e κ.now).1 qv) 170)]) w' := by
  refine Ret_of_W (args := [_, _, _]) Tryz.func117 rfl Tryz.ntmps117 Tryz.results117 (by simp) ?_
  have H := Hp.focus0 hsp
  have hk := hs.hk
  unfold KS.kb at hk
  have hks : κ.k ≠ sp := ne_of_obj hk hsp (by simp)
  refine W_seq ?_
  refine W_region_l ?_
  (refine WL_effn rfl (E_box (vs := [I 8, I 0, I 0, I n, I 0, I 0, nilS]) H rfl rfl) ?_; clear H; intro c5 w3 hc5 H; have hk5 := H.blockT (T := sT) hk (by simp [sT, elT]) (Out.new hc5 (Out.cons hsp (by simp [sT, elT]) Out.nil)); have hs5 := hs.keep H (Out.new hc5 (Out.cons hsp (by simp [sT, elT]) Out.nil)))
  refine WL_stepM rfl (R_as) ?_
  refine WL_stepM rfl (R_as) ?_
  refine WL_nil ?_
  refine W_seq ?_
  refine W_region_l ?_
  refine WL_stepM rfl (R_mv) ?_
  refine WL_stepM rfl (R_mv) ?_
  refine WL_step rfl (R_fieldAddr (off' := 3) Tryz.underlying44 rfl Tryz.sizeOf3 (by decide) rfl rfl) ?_
  refine WL_step rfl (R_load Tryz.isAgg3 rfl (H.get .here) rfl) ?_
  (refine WL_call rfl (R_call rfl Tryz.call157 rfl) (sect_ret hs5) ?_; rintro _ w13 ⟨rfl, H1⟩; replace hk5 := H1.blockN hk5 kYs; replace H := H.seq0 H1; clear H1)
  refine WL_stepM rfl (R_mv) ?_
  refine WL_step rfl (R_extract rfl rfl) ?_
  refine WL_step rfl (R_extract rfl rfl) ?_
  refine WL_stepM rfl (R_as) ?_
  refine WL_stepM rfl (R_as) ?_
  refine WL_nil ?_
  refine W_seq ?_
  refine W_seq ?_
  refine W_region_l ?_
  refine WL_stepM rfl (R_mv) ?_
  refine WL_step rfl (R_ne_f rfl rfl (by omega)) ?_
  refine WL_nil ?_
  refine W_cond_f rfl ?_
  refine W_skip ?_
  refine W_seq ?_
  refine W_region_l ?_
  refine WL_stepM rfl (R_mv) ?_
  refine WL_stepM rfl (R_mv) ?_
  refine WL_stepM rfl (R_mv) ?_
  refine WL_step rfl (R_nilCheck rfl) ?_
  refine WL_step rfl (R_fieldAddr (off' := 7) Tryz.underlying113 rfl Tryz.sizeOf3 (by decide) rfl rfl) ?_
  refine WL_step rfl (R_load (v := I κ.now) Tryz.isAgg3 rfl hk5 rfl) ?_
  (refine WL_call rfl (R_call rfl Tryz.call158 rfl) (Sect.enter_ret (w0 := w) (Mq := []) (R := [(c5, blk [I 8, I 0, I 0, I n, I 0, I 0, nilS] 44)]) (e : Int) κ.now (by rw [hq]; exact OwnQ.nil _ _) H.swap2 hB hT hn) ?_; clear H; rintro _ w36 ⟨qv, M, rfl, hO, H⟩)
  refine WL_stepM rfl (R_mv) ?_
  refine WL_step rfl (R_extract rfl rfl) ?_
  refine WL_step rfl (R_extract rfl rfl) ?_
  refine WL_stepM rfl (R_as) ?_
  refine WL_stepM rfl (R_as) ?_
  refine WL_nil ?_
  refine W_seq ?_
  refine W_region_l ?_
  refine WL_stepM rfl (R_mv) ?_
  refine WL_stepM rfl (R_as) ?_
  refine WL_stepM rfl (R_as) ?_
  refine WL_nil ?_
  refine W_ret ?_
  (refine ⟨_, rfl, qv, M, rfl, hO.keys, ?_⟩; exact (H.perm (by rw [← List.singleton_append, ← List.append_assoc]; exact List.perm_append_comm)).pop hc5)
end
end Go.Proofs.YtlpmfldijgdcoaaGreatDoor.Kn

/-
  A kernel's section is left; Do, asked to enter or to leave.
-/
namespace Go.Proofs.YtlpmfldijgdcoaaGreatDoor.Kn
open Go Go.Proofs Go.Proofs.YtlpmfldijgdcoaaGreatDoor.Fx Go.Proofs.YtlpmfldijgdcoaaGreatDoor.Sect
set_option maxRecDepth 100000
set_option linter.unusedVariables false
set_option linter.unusedSimpArgs false
set_option maxHeartbeats 8000000

/-- a block of the outset and new ones have turned, over a list of new ones -/
theorem hp_over2 {w0 w w' : World} {L M : List (Nat × Obj)} {b : Nat} {o o' : Obj} (H : Hp w0 L w) (hb : w0.heap[b]? = some o) (hM : ∀ p ∈ M, w.heap.size ≤ p.1) (H1 : Hp w (M ++ [(b, o')]) w') (hL : ∀ p ∈ L, w0.heap.size ≤ p.1) : Hp w0 (M ++ (b, o') :: L) w' := by
  exact ((H.foc hb hL).seq (H1.perm List.perm_append_comm) (okSeq_set .here (okSeq_all hM))).perm ((List.reverse_perm M).append_right _)
theorem hp_cut1 {w0 w : World} {M : List (Nat × Obj)} {p : Nat × Obj} {b : Nat} {o : Obj} (H : Hp w0 (M ++ p :: [(b, o)]) w) (hb : w0.heap.size ≤ b) : Hp w0 (M ++ [p]) w := by
  rw [List.append_cons] at H
  exact H.cut (fun q hq => by rw [List.mem_singleton] at hq; subst hq; exact hb)
theorem hp_cut2 {w0 w : World} {M : List (Nat × Obj)} {p : Nat × Obj} {b c : Nat} {o o' : Obj} (H : Hp w0 (M ++ p :: [(b, o), (c, o')]) w) (hb : w0.heap.size ≤ b) (hc : w0.heap.size ≤ c) : Hp w0 (M ++ [p]) w := by
  rw [List.append_cons] at H
  exact H.cut (fun q hq => by
    rcases List.mem_cons.1 hq with rfl | hq
    · exact hb
    · rw [List.mem_singleton] at hq; subst hq; exact hc)

section
variable {w : World} {κ : KS} {e n sp : Nat}
/-- what Leave answers -/
def lvE (S : Sx) (e : Nat) (st : Int) : Int := if S.held = true ∧ S.who = e ∧ S.stamp = st then 0 else 8
theorem leave_ret {S : Sx} {qv : Value} {st : Int} (hs : Ks w κ e n sp) (hsp : w.heap[sp]? = some (blk (sxC S qv) 170)) :
    Ret Tryz.prog 118 #[ptr κ.k 0, I e, .agg #[I 9, I 0, I st, I n, I 0, I 0, nilS]] w fun v w' => v = I (lvE S e st) ∧ Hp w [(sp, blk (sxC (leaveSx S e st) qv) 170)] w' := by
  refine Ret_of_W (args := [_, _, _]) Tryz.func118 rfl Tryz.ntmps118 Tryz.results118 (by simp) ?_
  have H := Hp.focus0 hsp
  have hk := hs.hk
  unfold KS.kb at hk
  refine W_seq ?_
  refine W_region_l ?_
  (refine WL_effn rfl (E_box (vs := [I 9, I 0, I st, I n, I 0, I 0, nilS]) H rfl rfl) ?_; clear H; intro c5 w3 hc5 H; have hs5 := hs.keep H (Out.new hc5 (Out.cons hsp (by simp [sT, elT]) Out.nil)))
  refine WL_stepM rfl (R_as) ?_
  refine WL_nil ?_
  refine W_seq ?_
  refine W_region_l ?_
  refine WL_stepM rfl (R_mv) ?_
  refine WL_stepM rfl (R_mv) ?_
  refine WL_step rfl (R_fieldAddr (off' := 3) Tryz.underlying44 rfl Tryz.sizeOf3 (by decide) rfl rfl) ?_
  refine WL_step rfl (R_load Tryz.isAgg3 rfl (H.get .here) rfl) ?_
  (refine WL_call rfl (R_call rfl Tryz.call157 rfl) (sect_ret hs5) ?_; rintro _ w12 ⟨rfl, H1⟩; replace H := H.seq0 H1; clear H1)
  refine WL_stepM rfl (R_mv) ?_
  refine WL_step rfl (R_extract rfl rfl) ?_
  refine WL_step rfl (R_extract rfl rfl) ?_
  refine WL_stepM rfl (R_as) ?_
  refine WL_stepM rfl (R_as) ?_
  refine WL_nil ?_
  refine W_seq ?_
  refine W_seq ?_
  refine W_region_l ?_
  refine WL_stepM rfl (R_mv) ?_
  refine WL_step rfl (R_eq_t rfl rfl (by omega)) ?_
  refine WL_stepM rfl (R_mv) ?_
  refine WL_guard_t rfl rfl ?_
  refine WL_stepM rfl (R_mv) ?_
  refine WL_guard_t rfl rfl ?_
  refine WL_stepM rfl (R_mv) ?_
  refine WL_guard_t rfl rfl ?_
  refine WL_step rfl (R_fieldAddr (off' := 2) Tryz.underlying44 rfl Tryz.sizeOf3 (by decide) rfl rfl) ?_
  refine WL_guard_t rfl rfl ?_
  refine WL_step rfl (R_load Tryz.isAgg3 rfl (H.get .here) rfl) ?_
  refine WL_guard_t rfl rfl ?_
  (refine WL_call rfl (R_call rfl Tryz.call159 rfl) (Sect.leave_ret (w0 := w) (Mq := []) (R := [(c5, blk [I 9, I 0, I st, I n, I 0, I 0, nilS] 44)]) (e : Int) st H.swap2) ?_; clear H; rintro _ w34 ⟨rfl, H⟩; replace H := H.swap2)
  refine WL_guard_t rfl rfl ?_
  refine WL_step rfl (R_not_d rfl) ?_
  refine WL_stepM rfl (R_pk_t rfl) ?_
  refine WL_nil ?_
  refine W_if rfl (fun h39 => ?_) (fun h39 => ?_)
  · refine W_region_l ?_
    refine WL_stepM rfl (R_as) ?_
    refine WL_nil ?_
    refine W_seq ?_
    refine W_region_l ?_
    refine WL_stepM rfl (R_mv) ?_
    refine WL_stepM rfl (R_as) ?_
    refine WL_nil ?_
    refine W_ret ?_
    exact ⟨_, rfl, (by unfold lvE; rw [if_neg (by assumption)]; rfl), H.pop hc5⟩
  · refine W_skip ?_
    refine W_seq ?_
    refine W_region_l ?_
    refine WL_stepM rfl (R_mv) ?_
    refine WL_stepM rfl (R_as) ?_
    refine WL_nil ?_
    refine W_ret ?_
    exact ⟨_, rfl, (by unfold lvE; rw [if_pos (Decidable.of_not_not (by assumption))]; rfl), H.pop hc5⟩

theorem number_enter {S : Sx} {T : Int} (hs : Ks w κ e n sp) (hsp : w.heap[sp]? = some (blk (sxC S nilS) 170)) (hq : S.q = []) (hB : Bd S T) (hT : T ≤ 1000000) (hn : 0 ≤ κ.now ∧ κ.now ≤ T) :
    Ret Tryz.prog 69 #[ptr κ.k 0, I e, .agg #[I 8, I 0, I 0, I n, I 0, I 0, nilS]] w fun v w' => ∃ qv M, v = .tuple #[I (enter S e κ.now).2.1, I 0] ∧ (∀ p ∈ M, w.heap.size ≤ p.1) ∧ Hp w (M ++ [(sp, blk (sxC (enter S e κ.now).1 qv) 170)]) w' := by
  refine Ret_of_W (args := [_, _, _]) Tryz.func69 rfl Tryz.ntmps69 Tryz.results69 (by simp) ?_
  have H := Hp.refl w
  refine W_seq ?_
  refine W_region_l ?_
  (refine WL_effn rfl (E_box (vs := [I 8, I 0, I 0, I n, I 0, I 0, nilS]) H rfl rfl) ?_; clear H; intro c5 w3 hc5 H)
  refine WL_stepM rfl (R_as) ?_
  refine WL_stepM rfl (R_as) ?_
  refine WL_nil ?_
  refine W_seq ?_
  refine W_seq ?_
  refine W_region_l ?_
  refine WL_step rfl (R_fieldAddr (off' := 0) Tryz.underlying44 rfl Tryz.sizeOf3 (by decide) rfl rfl) ?_
  refine WL_step rfl (R_load Tryz.isAgg3 rfl (H.get .here) rfl) ?_
  refine WL_nil ?_
  refine W_block ?_
  refine W_seq ?_
  refine W_region_l ?_
  refine WL_step rfl (R_eq_f rfl rfl (by omega)) ?_
  refine WL_stepM rfl (R_as) ?_
  refine WL_nil ?_
  refine W_cond_f rfl ?_
  refine W_seq ?_
  refine W_region_l ?_
  refine WL_step rfl (R_eq_f rfl rfl (by omega)) ?_
  refine WL_stepM rfl (R_as) ?_
  refine WL_nil ?_
  refine W_cond_f rfl ?_
  refine W_seq ?_
  refine W_region_l ?_
  refine WL_step rfl (R_eq_f rfl rfl (by omega)) ?_
  refine WL_stepM rfl (R_as) ?_
  refine WL_nil ?_
  refine W_cond_f rfl ?_
  refine W_seq ?_
  refine W_region_l ?_
  refine WL_step rfl (R_eq_f rfl rfl (by omega)) ?_
  refine WL_stepM rfl (R_as) ?_
  refine WL_nil ?_
  refine W_cond_f rfl ?_
  refine W_seq ?_
  refine W_region_l ?_
  refine WL_step rfl (R_eq_t rfl rfl (by omega)) ?_
  refine WL_stepM rfl (R_as) ?_
  refine WL_nil ?_
  refine W_cond_t rfl ?_
  refine W_seq ?_
  refine W_region_l ?_
  refine WL_stepM rfl (R_mv) ?_
  refine WL_stepM rfl (R_mv) ?_
  refine WL_step rfl (R_loadA (vs := [I 8, I 0, I 0, I n, I 0, I 0, nilS]) Tryz.isAgg44 Tryz.sizeOf44 rfl (H.get .here) rfl (by simp)) ?_
  (refine WL_call rfl (R_call rfl Tryz.call117 rfl) (enter_ret (hs.keepN H kYs) (H.blockN hsp kYs) hq hB hT hn) ?_; rintro _ w49 ⟨qv, M, rfl, hM, H1⟩; have h9 : ∀ p ∈ M, w.heap.size ≤ p.1 := fun p hp => Nat.le_trans H.size (hM p hp))
  refine WL_step rfl (R_extract rfl rfl) ?_
  refine WL_step rfl (R_extract rfl rfl) ?_
  refine WL_stepM rfl (R_as) ?_
  refine WL_stepM rfl (R_as) ?_
  refine WL_nil ?_
  refine W_ret ?_
  exact ⟨_, rfl, qv, M, rfl, h9, hp_cut1 (hp_over2 H hsp hM H1 kYs) hc5⟩

theorem number_leave {S : Sx} {qv : Value} {st : Int} (hs : Ks w κ e n sp) (hsp : w.heap[sp]? = some (blk (sxC S qv) 170)) :
    Ret Tryz.prog 69 #[ptr κ.k 0, I e, .agg #[I 9, I 0, I st, I n, I 0, I 0, nilS]] w fun v w' => v = .tuple #[I 0, I (lvE S e st)] ∧ Hp w [(sp, blk (sxC (leaveSx S e st) qv) 170)] w' := by
  refine Ret_of_W (args := [_, _, _]) Tryz.func69 rfl Tryz.ntmps69 Tryz.results69 (by simp) ?_
  have H := Hp.refl w
  refine W_seq ?_
  refine W_region_l ?_
  (refine WL_effn rfl (E_box (vs := [I 9, I 0, I st, I n, I 0, I 0, nilS]) H rfl rfl) ?_; clear H; intro c5 w3 hc5 H)
  refine WL_stepM rfl (R_as) ?_
  refine WL_stepM rfl (R_as) ?_
  refine WL_nil ?_
  refine W_seq ?_
  refine W_seq ?_
  refine W_region_l ?_
  refine WL_step rfl (R_fieldAddr (off' := 0) Tryz.underlying44 rfl Tryz.sizeOf3 (by decide) rfl rfl) ?_
  refine WL_step rfl (R_load Tryz.isAgg3 rfl (H.get .here) rfl) ?_
  refine WL_nil ?_
  refine W_block ?_
  refine W_seq ?_
  refine W_region_l ?_
  refine WL_step rfl (R_eq_f rfl rfl (by omega)) ?_
  refine WL_stepM rfl (R_as) ?_
  refine WL_nil ?_
  refine W_cond_f rfl ?_
  refine W_seq ?_
  refine W_region_l ?_
  refine WL_step rfl (R_eq_f rfl rfl (by omega)) ?_
  refine WL_stepM rfl (R_as) ?_
  refine WL_nil ?_
  refine W_cond_f rfl ?_
  refine W_seq ?_
  refine W_region_l ?_
  refine WL_step rfl (R_eq_f rfl rfl (by omega)) ?_
  refine WL_stepM rfl (R_as) ?_
  refine WL_nil ?_
  refine W_cond_f rfl ?_
  refine W_seq ?_
  refine W_region_l ?_
  refine WL_step rfl (R_eq_f rfl rfl (by omega)) ?_
  refine WL_stepM rfl (R_as) ?_
  refine WL_nil ?_
  refine W_cond_f rfl ?_
  refine W_seq ?_
  refine W_region_l ?_
  refine WL_step rfl (R_eq_f rfl rfl (by omega)) ?_
  refine WL_stepM rfl (R_as) ?_
  refine WL_nil ?_
  refine W_cond_f rfl ?_
  refine W_seq ?_
  refine W_region_l ?_
  refine WL_step rfl (R_eq_t rfl rfl (by omega)) ?_
  refine WL_stepM rfl (R_as) ?_
  refine WL_nil ?_
  refine W_cond_t rfl ?_
  refine W_seq ?_
  refine W_region_l ?_
  refine WL_stepM rfl (R_mv) ?_
  refine WL_stepM rfl (R_mv) ?_
  refine WL_step rfl (R_loadA (vs := [I 9, I 0, I st, I n, I 0, I 0, nilS]) Tryz.isAgg44 Tryz.sizeOf44 rfl (H.get .here) rfl (by simp)) ?_
  (refine WL_call rfl (R_call rfl Tryz.call118 rfl) (leave_ret (hs.keepN H kYs) (H.blockN hsp kYs)) ?_; rintro _ w55 ⟨rfl, H1⟩; replace H := H.seqB hsp kYs H1; clear H1)
  refine WL_stepM rfl (R_as) ?_
  refine WL_stepM rfl (R_as) ?_
  refine WL_nil ?_
  refine W_ret ?_
  exact ⟨_, rfl, rfl, H.pop2 hc5⟩

theorem do_enter {S : Sx} {T : Int} (hs : Ks w κ e n sp) (hsp : w.heap[sp]? = some (blk (sxC S nilS) 170)) (hq : S.q = []) (hB : Bd S T) (hT : T ≤ 1000000) (hn : 0 ≤ κ.now ∧ κ.now ≤ T) :
    Ret Tryz.prog 36 #[ptr κ.k 0, I e, .agg #[I 8, I 0, I 0, I n, I 0, I 0, nilS]] w fun v w' => ∃ qv M, v = .agg #[I 0, I (enter S e κ.now).2.1, nilS] ∧ (∀ p ∈ M, w.heap.size ≤ p.1) ∧ Hp w (M ++ [(sp, blk (sxC (enter S e κ.now).1 qv) 170)]) w' := by
  refine Ret_of_WC (args := [_, _, _]) Tryz.func36 rfl Tryz.ntmps36 Tryz.results36 (by simp) ?_
  have H := Hp.refl w
  have hk := hs.hk
  have he := hs.he
  have he2 := hs.he2
  unfold KS.kb at hk
  refine W_seq ?_
  refine W_region_l ?_
  (refine WL_effn rfl (E_box (vs := [I 8, I 0, I 0, I n, I 0, I 0, nilS]) H rfl rfl) ?_; clear H; intro c5 w3 hc5 H)
  (refine WL_effn rfl (E_alloc (vs := [I 0, I 0, nilS]) H Tryz.zeroValue96 rfl) ?_; clear H; intro c6 w4 hc6 H)
  refine WL_nil ?_
  refine W_seq ?_
  refine W_seq ?_
  refine W_region_l ?_
  refine WL_stepM rfl (R_mv) ?_
  refine WL_step rfl (R_lt_f rfl rfl (by omega)) ?_
  refine WL_stepM rfl (R_mv) ?_
  refine WL_guard_t rfl rfl ?_
  refine WL_stepM rfl (R_mv) ?_
  refine WL_guard_t rfl rfl ?_
  refine WL_stepM rfl (R_mv) ?_
  refine WL_guard_t rfl rfl ?_
  refine WL_step rfl (R_nilCheck rfl) ?_
  refine WL_guard_t rfl rfl ?_
  refine WL_step rfl (R_fieldAddr (off' := 0) Tryz.underlying113 rfl Tryz.sizeOf22 (by decide) rfl rfl) ?_
  refine WL_guard_t rfl rfl ?_
  refine WL_step rfl (R_load Tryz.isAgg22 rfl (H.blockN hk kYs) rfl) ?_
  refine WL_guard_t rfl rfl ?_
  refine WL_step rfl (R_len_slice Tryz.underlying22 rfl) ?_
  refine WL_guard_t rfl rfl ?_
  refine WL_step rfl (R_ge_f rfl rfl (by omega)) ?_
  refine WL_stepM rfl (R_pk_f rfl) ?_
  refine WL_nil ?_
  refine W_cond_f rfl ?_
  refine W_skip ?_
  refine W_seq ?_
  refine W_seq ?_
  refine W_region_l ?_
  refine WL_stepM rfl (R_mv) ?_
  refine WL_stepM rfl (R_mv) ?_
  refine WL_step rfl (R_loadA (vs := [I 8, I 0, I 0, I n, I 0, I 0, nilS]) Tryz.isAgg44 Tryz.sizeOf44 rfl (H.get (.there .here)) rfl (by simp)) ?_
  (refine WL_call rfl (R_call rfl Tryz.call68 rfl) (bytes_no (by decide) (by decide) (by decide) _ _) ?_; rintro _ w36 ⟨rfl, H1⟩; replace H := H.seq0 H1; clear H1)
  refine WL_stepM rfl (R_mv) ?_
  refine WL_step rfl (R_extract rfl rfl) ?_
  refine WL_step rfl (R_extract rfl rfl) ?_
  refine WL_step rfl (R_extract rfl rfl) ?_
  refine WL_stepM rfl (R_as) ?_
  refine WL_stepM rfl (R_as) ?_
  refine WL_stepM rfl (R_as) ?_
  refine WL_nil ?_
  refine W_seq ?_
  refine W_region_l ?_
  refine WL_stepM rfl (R_mv) ?_
  refine WL_nil ?_
  refine W_cond_f rfl ?_
  refine W_skip ?_
  refine W_seq ?_
  refine W_region_l ?_
  refine WL_stepM rfl (R_mv) ?_
  refine WL_stepM rfl (R_mv) ?_
  refine WL_step rfl (R_loadA (vs := [I 8, I 0, I 0, I n, I 0, I 0, nilS]) Tryz.isAgg44 Tryz.sizeOf44 rfl (H.get (.there .here)) rfl (by simp)) ?_
  (refine WL_call rfl (R_call rfl Tryz.call69 rfl) (number_enter (hs.keepN H kYs) (H.blockN hsp kYs) hq hB hT hn) ?_; rintro _ w56 ⟨qv, M, rfl, hM, H1⟩; have h9 : ∀ p ∈ M, w.heap.size ≤ p.1 := fun p hp => Nat.le_trans H.size (hM p hp); replace H := hp_over2 H hsp hM H1 kYs; clear H1)
  refine WL_stepM rfl (R_mv) ?_
  refine WL_step rfl (R_extract rfl rfl) ?_
  refine WL_step rfl (R_extract rfl rfl) ?_
  refine WL_stepM rfl (R_as) ?_
  refine WL_stepM rfl (R_as) ?_
  refine WL_nil ?_
  refine W_seq ?_
  refine W_region_l ?_
  refine WL_stepM rfl (R_mv) ?_
  refine WL_stepM rfl (R_mv) ?_
  refine WL_step rfl (R_buildL (places := [(0, 1), (1, 1), (2, 1)]) (vs := [I 0, I (enter S e κ.now).2.1, nilS]) Tryz.underlying96 Tryz.typeInfo96 rfl rfl (by kernel_rfl) rfl rfl rfl) ?_
  (refine WL_effu rfl (E_storeA (vs := [I 0, I (enter S e κ.now).2.1, nilS]) H Tryz.sizeOf96 rfl rfl (by simp [Value.oneCell']) (.app _ (.there .here)) (by simp)) ?_; clear H; intro w68 H; replace H : Hp w (M ++ (sp, blk (sxC (enter S e κ.now).1 qv) 170) :: [(c6, blk [I 0, I (enter S e κ.now).2.1, nilS] 96), (c5, blk [I 8, I 0, I 0, I n, I 0, I 0, nilS] 44)]) w68 := H)
  refine WL_nil ?_
  refine W_ret ?_
  exact ⟨_, ⟨_, rfl, ldA Tryz.isAgg96 Tryz.sizeOf96 (H.get (.app _ (.there .here))) rfl (by simp)⟩, qv, M, rfl, h9, hp_cut2 H hc6 hc5⟩

theorem do_leave {S : Sx} {qv : Value} {st : Int} (hs : Ks w κ e n sp) (hsp : w.heap[sp]? = some (blk (sxC S qv) 170)) :
    Ret Tryz.prog 36 #[ptr κ.k 0, I e, .agg #[I 9, I 0, I st, I n, I 0, I 0, nilS]] w fun v w' => v = .agg #[I (lvE S e st), I 0, nilS] ∧ Hp w [(sp, blk (sxC (leaveSx S e st) qv) 170)] w' := by
  refine Ret_of_WC (args := [_, _, _]) Tryz.func36 rfl Tryz.ntmps36 Tryz.results36 (by simp) ?_
  have H := Hp.refl w
  have hk := hs.hk
  have he := hs.he
  have he2 := hs.he2
  unfold KS.kb at hk
  refine W_seq ?_
  refine W_region_l ?_
  (refine WL_effn rfl (E_box (vs := [I 9, I 0, I st, I n, I 0, I 0, nilS]) H rfl rfl) ?_; clear H; intro c5 w3 hc5 H)
  (refine WL_effn rfl (E_alloc (vs := [I 0, I 0, nilS]) H Tryz.zeroValue96 rfl) ?_; clear H; intro c6 w4 hc6 H)
  refine WL_nil ?_
  refine W_seq ?_
  refine W_seq ?_
  refine W_region_l ?_
  refine WL_stepM rfl (R_mv) ?_
  refine WL_step rfl (R_lt_f rfl rfl (by omega)) ?_
  refine WL_stepM rfl (R_mv) ?_
  refine WL_guard_t rfl rfl ?_
  refine WL_stepM rfl (R_mv) ?_
  refine WL_guard_t rfl rfl ?_
  refine WL_stepM rfl (R_mv) ?_
  refine WL_guard_t rfl rfl ?_
  refine WL_step rfl (R_nilCheck rfl) ?_
  refine WL_guard_t rfl rfl ?_
  refine WL_step rfl (R_fieldAddr (off' := 0) Tryz.underlying113 rfl Tryz.sizeOf22 (by decide) rfl rfl) ?_
  refine WL_guard_t rfl rfl ?_
  refine WL_step rfl (R_load Tryz.isAgg22 rfl (H.blockN hk kYs) rfl) ?_
  refine WL_guard_t rfl rfl ?_
  refine WL_step rfl (R_len_slice Tryz.underlying22 rfl) ?_
  refine WL_guard_t rfl rfl ?_
  refine WL_step rfl (R_ge_f rfl rfl (by omega)) ?_
  refine WL_stepM rfl (R_pk_f rfl) ?_
  refine WL_nil ?_
  refine W_cond_f rfl ?_
  refine W_skip ?_
  refine W_seq ?_
  refine W_seq ?_
  refine W_region_l ?_
  refine WL_stepM rfl (R_mv) ?_
  refine WL_stepM rfl (R_mv) ?_
  refine WL_step rfl (R_loadA (vs := [I 9, I 0, I st, I n, I 0, I 0, nilS]) Tryz.isAgg44 Tryz.sizeOf44 rfl (H.get (.there .here)) rfl (by simp)) ?_
  (refine WL_call rfl (R_call rfl Tryz.call68 rfl) (bytes_no (by decide) (by decide) (by decide) _ _) ?_; rintro _ w36 ⟨rfl, H1⟩; replace H := H.seq0 H1; clear H1)
  refine WL_stepM rfl (R_mv) ?_
  refine WL_step rfl (R_extract rfl rfl) ?_
  refine WL_step rfl (R_extract rfl rfl) ?_
  refine WL_step rfl (R_extract rfl rfl) ?_
  refine WL_stepM rfl (R_as) ?_
  refine WL_stepM rfl (R_as) ?_
  refine WL_stepM rfl (R_as) ?_
  refine WL_nil ?_
  refine W_seq ?_
  refine W_region_l ?_
  refine WL_stepM rfl (R_mv) ?_
  refine WL_nil ?_
  refine W_cond_f rfl ?_
  refine W_skip ?_
  refine W_seq ?_
  refine W_region_l ?_
  refine WL_stepM rfl (R_mv) ?_
  refine WL_stepM rfl (R_mv) ?_
  refine WL_step rfl (R_loadA (vs := [I 9, I 0, I st, I n, I 0, I 0, nilS]) Tryz.isAgg44 Tryz.sizeOf44 rfl (H.get (.there .here)) rfl (by simp)) ?_
  (refine WL_call rfl (R_call rfl Tryz.call69 rfl) (number_leave (hs.keepN H kYs) (H.blockN hsp kYs)) ?_; rintro _ w56 ⟨rfl, H1⟩; replace H := H.seqB hsp kYs H1; clear H1)
  refine WL_stepM rfl (R_mv) ?_
  refine WL_step rfl (R_extract rfl rfl) ?_
  refine WL_step rfl (R_extract rfl rfl) ?_
  refine WL_stepM rfl (R_as) ?_
  refine WL_stepM rfl (R_as) ?_
  refine WL_nil ?_
  refine W_seq ?_
  refine W_region_l ?_
  refine WL_stepM rfl (R_mv) ?_
  refine WL_stepM rfl (R_mv) ?_
  refine WL_step rfl (R_buildL (places := [(0, 1), (1, 1), (2, 1)]) (vs := [I (lvE S e st), I 0, nilS]) Tryz.underlying96 Tryz.typeInfo96 rfl rfl (by kernel_rfl) rfl rfl rfl) ?_
  (refine WL_effu rfl (E_storeA (vs := [I (lvE S e st), I 0, nilS]) H Tryz.sizeOf96 rfl rfl (by simp [Value.oneCell']) (.there .here) (by simp)) ?_; clear H; intro w68 H; replace H : Hp w [(sp, blk (sxC (leaveSx S e st) qv) 170), (c6, blk [I (lvE S e st), I 0, nilS] 96), (c5, blk [I 9, I 0, I st, I n, I 0, I 0, nilS] 44)] w68 := H)
  refine WL_nil ?_
  refine W_ret ?_
  exact ⟨_, ⟨_, rfl, ldA Tryz.isAgg96 Tryz.sizeOf96 (H.get (.there .here)) rfl (by simp)⟩, rfl, (H.pop2 hc6).pop2 hc5⟩
end
end Go.Proofs.YtlpmfldijgdcoaaGreatDoor.Kn
