/-
  The law BellPlays: what its calls come to.
-/
import Derived.Test.YtjfcnmbalojehaaBellE
namespace Go.Proofs.Ytjfcnmbalojehaa.Bell
open Go Go.Proofs Go.Proofs.Ytjfcnmbalojehaa.Fx
set_option maxRecDepth 100000
set_option linter.unusedVariables false
set_option linter.unusedSimpArgs false
set_option maxHeartbeats 2000000

section
variable {w0 w w' : World} {L M : List (Nat × Obj)}
theorem seqC {b : Nat} {o o' : Obj} {f} (H : Hp w0 L w) (hat : At L b o f) (H1 : Hp w ((b, o') :: M) w') (hM : ∀ p ∈ M, w.heap.size ≤ p.1) : Hp w0 (M ++ f o') w' :=
  (H.seq H1 (okSeq_set hat (okSeq_all hM))).perm ((List.reverse_perm M).append_right _)
theorem dropMid {A B : List (Nat × Obj)} (H : Hp w0 (A ++ (M ++ B)) w) (hM : ∀ p ∈ M, w0.heap.size ≤ p.1) : Hp w0 (A ++ B) w :=
  H.drop ((List.Sublist.refl A).append (List.sublist_append_right M B)) fun p hp hn => by
    simp only [List.mem_append, not_or] at hp hn
    rcases hp with hp | hp | hp
    · exact (hn.1 hp).elim
    · exact hM p hp
    · exact (hn.2 hp).elim
theorem dropEnd {A B : List (Nat × Obj)} (H : Hp w0 (A ++ (B ++ M)) w) (hM : ∀ p ∈ M, w0.heap.size ≤ p.1) : Hp w0 (A ++ (B ++ [])) w := by
  rw [← List.append_assoc] at H ⊢
  rw [show (A ++ B) ++ M = (A ++ B) ++ (M ++ []) by simp] at H
  exact dropMid H hM
end

/-- what is there beside two Bells -/
abbrev bTail (p0 p1 ab am aw : Nat) (m0 m1 : Nat) (v0 v1 : Value) (L : List (Nat × Obj)) : List (Nat × Obj) :=
  (aw, blk [v0, v1] 33) :: (am, blk [I m0, I m1] 32) :: (ab, blk [ptr p0 0, ptr p1 0] 31) :: L

structure BS (B : Nat) (m0 m1 : Nat) (x0 x1 : List Int) (v0 v1 : Value) (M0 M1 : List (Nat × Obj)) : Prop where
  q0 : OwnQ B 3 v0 (x0.map I) M0
  q1 : OwnQ B 3 v1 (x1.map I) M1
  l0 : x0.length ≤ m0
  l1 : x1.length ≤ m1

theorem BS.keys {B m0 m1 : Nat} {x0 x1 : List Int} {v0 v1 : Value} {M0 M1 : List (Nat × Obj)} (h : BS B m0 m1 x0 x1 v0 v1 M0 M1) : ∀ p ∈ M0 ++ M1, B ≤ p.1 := kApp h.q0.keys h.q1.keys
theorem BS.form0 {B m0 m1 : Nat} {x0 x1 : List Int} {v0 v1 : Value} {M0 M1 : List (Nat × Obj)} (h : BS B m0 m1 x0 x1 v0 v1 M0 M1) : ∃ a c, v0 = .slice a x0.length c := by
  obtain ⟨a, c, h⟩ := h.q0.form; exact ⟨a, c, by simpa using h⟩
theorem BS.form1 {B m0 m1 : Nat} {x0 x1 : List Int} {v0 v1 : Value} {M0 M1 : List (Nat × Obj)} (h : BS B m0 m1 x0 x1 v0 v1 M0 M1) : ∃ a c, v1 = .slice a x1.length c := by
  obtain ⟨a, c, h⟩ := h.q1.form; exact ⟨a, c, by simpa using h⟩

theorem plays_ret {xs : List BOp} {l : Value} {w : World} (sa sb : Int) (hl : RdR bopC w l xs) (hb : xs.length ≤ 9223372036854775807) :
    Ret Try.prog 4 #[I sa, I sb, l] w fun v w' => v = .bool true ∧ Hp w [] w' := by
  refine Ret_of_W (args := [_, _, _]) Try.func4 rfl Try.ntmps4 Try.results4 (by simp) ?_
  have H := Hp.refl w
  obtain ⟨ao, ca, rfl⟩ := hl.form
  obtain ⟨m0, hm0, hm0b, hm0c⟩ : ∃ m : Nat, (m : Int) = min (max sa 1) 64 ∧ (min (max sa 1) 64).toNat = m ∧ m ≤ 64 := ⟨(min (max sa 1) 64).toNat, by omega, rfl, by omega⟩
  obtain ⟨m1, hm1, hm1b, hm1c⟩ : ∃ m : Nat, (m : Int) = min (max sb 1) 64 ∧ (min (max sb 1) 64).toNat = m ∧ m ≤ 64 := ⟨(min (max sb 1) 64).toNat, by omega, rfl, by omega⟩
  refine W_seq ?_
  refine W_region_l ?_
  refine WL_stepM rfl (R_as) ?_
  refine WL_nil ?_
  refine W_seq ?_
  refine W_region_l ?_
  refine WL_stepM rfl (R_mv) ?_
  (refine WL_call rfl (R_call rfl Try.call14 rfl) (new_ret sa _) ?_; rintro _ w8 ⟨p0, b0, rfl, hp0, hb0, H1⟩; rw [hm0b] at H1; replace H : Hp w ((p0, bp b0) :: (b0, bc m0 [] 0 0) :: []) w8 := H.seqN H1 (kCons hp0 (kCons hb0 kNil)); clear H1)
  refine WL_stepM rfl (R_mv) ?_
  (have hsz := H.size; refine WL_call rfl (R_call rfl Try.call14 rfl) (new_ret sb _) ?_; rintro _ w10 ⟨p1, b1, rfl, hp1, hb1, H1⟩; rw [hm1b] at H1; replace H : Hp w ((p1, bp b1) :: (b1, bc m1 [] 0 0) :: (p0, bp b0) :: (b0, bc m0 [] 0 0) :: []) w10 := H.seqN H1 (kCons hp1 (kCons hb1 kNil)); replace hp1 := Nat.le_trans hsz hp1; replace hb1 := Nat.le_trans hsz hb1; clear H1 hsz; replace H := turn4 H)
  refine WL_step rfl (R_build (vs := [(.pointer _), (.pointer _)]) rfl rfl) ?_
  (refine WL_effn rfl (E_alloc H Try.zeroValue31 rfl) ?_; clear H; intro ab w12 hab H)
  (refine WL_effu rfl (E_storeA (vs := [(.pointer _), (.pointer _)]) H Try.sizeOf31 rfl rfl (by simp [Value.oneCell']) .here (by simp)) ?_; clear H; intro w13 H)
  refine WL_nil ?_
  refine W_seq ?_
  refine W_seq ?_
  ((replace H := behind4 H)) <;> refine W_region_l ?_
  refine WL_step rfl (R_indexAddrA (off' := 0) Try.underlying31 Try.sizeOf23 rfl rfl (by omega) (by omega) rfl) ?_
  refine WL_step rfl (R_load Try.isAgg23 rfl (H.get (.there (.there (.there (.there .here))))) rfl) ?_
  refine WL_step rfl (R_eq_ptr_nil Try.underlying23 rfl rfl) ?_
  refine WL_stepM rfl (R_mv) ?_
  refine WL_guard_t rfl rfl ?_
  refine WL_step rfl (R_indexAddrA (off' := 1) Try.underlying31 Try.sizeOf23 rfl rfl (by omega) (by omega) rfl) ?_
  refine WL_guard_t rfl rfl ?_
  refine WL_step rfl (R_load Try.isAgg23 rfl (H.get (.there (.there (.there (.there .here))))) rfl) ?_
  refine WL_guard_t rfl rfl ?_
  refine WL_step rfl (R_eq_ptr_nil Try.underlying23 rfl rfl) ?_
  refine WL_stepM rfl (R_pk_f rfl) ?_
  refine WL_stepM rfl (R_mv) ?_
  refine WL_guard_t rfl rfl ?_
  (refine WL_call rfl (R_call rfl Try.call17 rfl) (awake_ret _) ?_; rintro _ w31 ⟨rfl, H1⟩; replace H := H.seq0 H1; clear H1)
  refine WL_guard_t rfl rfl ?_
  refine WL_step rfl (R_not_t rfl) ?_
  refine WL_stepM rfl (R_pk_f rfl) ?_
  refine WL_nil ?_
  refine W_cond_f rfl ?_
  refine W_skip ?_
  refine W_seq ?_
  refine W_region_l ?_
  refine WL_stepM rfl (R_mv) ?_
  refine WL_step rfl (R_max rfl rfl rfl) ?_
  refine WL_step rfl (R_min rfl rfl hm0.symm) ?_
  refine WL_stepM rfl (R_mv) ?_
  refine WL_step rfl (R_max rfl rfl rfl) ?_
  refine WL_step rfl (R_min rfl rfl hm1.symm) ?_
  refine WL_step rfl (R_build (vs := [(.int _ _), (.int _ _)]) rfl rfl) ?_
  (refine WL_effn rfl (E_alloc H Try.zeroValue32 rfl) ?_; clear H; intro am w47 ham H)
  (refine WL_effu rfl (E_storeA (vs := [(.int _ _), (.int _ _)]) H Try.sizeOf32 rfl rfl (by simp [Value.oneCell']) .here (by simp)) ?_; clear H; intro w48 H)
  refine WL_nil ?_
  refine W_seq ?_
  ((replace H := behind4 H)) <;> refine W_region_l ?_
  (refine WL_effn rfl (E_alloc H Try.zeroValue33 rfl) ?_; clear H; intro aw w52 haw H)
  refine WL_nil ?_
  refine W_seq ?_
  refine W_seq ?_
  ((replace H := behind4 H)) <;> refine W_region_l ?_
  refine WL_stepM rfl (R_as) ?_
  refine WL_nil ?_
  refine W_block ?_
  refine W_loopS [(6, 6), (10, 21), (46, 229)] (fun (k : Nat) E w' => ∃ x0 x1 s0 r0 s1 r1 v0 v1 M0 M1, k ≤ xs.length ∧ k ≤ 120 ∧ E 10 = I k ∧ BS w.heap.size m0 m1 x0 x1 v0 v1 M0 M1 ∧ Hp w ((p0, bp b0) :: (b0, bc m0 x0 s0 r0) :: (p1, bp b1) :: (b1, bc m1 x1 s1 r1) :: bTail p0 p1 ab am aw m0 m1 v0 v1 (M0 ++ M1)) w') (fun k => 120 - k) 0 ?e0 ?r0
  · exact ⟨[], [], 0, 0, 0, 0, nilS, nilS, [], [], by omega, by omega, rfl, ⟨OwnQ.nil _ _, OwnQ.nil _ _, by simp, by simp⟩, H⟩
  · (clear H; rintro k E w1 ⟨x0, x1, s0, r0, s1, r1, v0, v1, M0, M1, hk, hk2, h0, hS, H⟩; refine W_kn h0 ?_; have hk0 := hS.q0.keys; have hk1 := hS.q1.keys; have hl0 := hS.l0; have hl1 := hS.l1)
    refine W_seq ?_
    refine W_seq ?_
    refine W_region_l ?_
    refine WL_stepM rfl (R_mv) ?_
    refine WL_stepM rfl (R_mv) ?_
    refine WL_step rfl (R_len_slice Try.underlying30 rfl) ?_
    refine WL_step rfl (R_lt rfl rfl) ?_
    refine WL_stepM rfl (R_mv) ?_
    apply WL_andK 3 50 53 [(51, 53)] H
    case hc => rfl
    case h1 =>
      intro h70
      refine WL_guard_t rfl rfl ?_
      refine WL_stepM rfl (R_mv) ?_
      refine WL_guard_t rfl rfl ?_
      refine WL_step rfl (R_lt rfl rfl) ?_
      refine WL_stepM rfl (R_pk_t rfl) ?_
      refine WL_nil ?_
      exact ⟨(same_mov rfl (same_updo rfl (same_mov rfl Same.refl))), rfl, H⟩
    case h0 =>
      intro h70
      refine WL_guard_f rfl rfl (by decide) ?_
      refine WL_guard_f rfl rfl (by decide) ?_
      refine WL_stepM rfl (R_pk_f rfl) ?_
      refine WL_nil ?_
      exact ⟨(same_mov rfl (same_updo rfl (same_updo rfl Same.refl))), rfl, H⟩
    case h2 =>
      (clear H; intro E70 w70 H)
      refine WL_nil ?_
      refine W_if rfl (fun h84 => ?_) (fun h84 => ?_)
      · refine W_skip ?_
        refine W_seq ?_
        refine W_block ?_
        refine W_seq ?_
        (obtain ⟨⟨ok, on, ob⟩, ho⟩ : ∃ o, xs[k]? = some o := ⟨_, List.getElem?_eq_getElem (by omega)⟩; obtain ⟨bz, oz, rfl, hc⟩ := hl.cell bopC_len ho; obtain ⟨a0, c0, rfl⟩ := hS.form0; obtain ⟨a1, c1, rfl⟩ := hS.form1; obtain ⟨n0, hn0⟩ : ∃ n, x0.length = n := ⟨_, rfl⟩; obtain ⟨n1, hn1⟩ : ∃ n, x1.length = n := ⟨_, rfl⟩; rw [hn0] at hS H; rw [hn1] at hS H) <;> refine W_region_l ?_
        refine WL_stepM rfl (R_mv) ?_
        refine WL_stepM rfl (R_mv) ?_
        refine WL_step rfl (R_indexAddr Try.underlying30 Try.sizeOf35 rfl rfl (by omega) (by omega) idx_castn) ?_
        refine WL_step rfl (R_loadA_cell (vs := [I ok, I on, I ob]) Try.isAgg35 Try.sizeOf35 rfl (fun j v hj => H.cellN (hc j v hj) (by repeat' first | exact kNil | apply kCons | apply kApp | assumption | exact OwnS.keys (by assumption))) rfl) ?_
        (refine WL_effn rfl (E_alloc H Try.zeroValue35 rfl) ?_; clear H; intro bo w94 hbo H)
        (refine WL_effu rfl (E_storeA (vs := [(.int _ _), (.int _ _), (.int _ _)]) H Try.sizeOf35 rfl rfl (by simp [Value.oneCell']) .here (by simp)) ?_; clear H; intro w95 H)
        refine WL_nil ?_
        refine W_seq ?_
        ((replace H := behind4 H)) <;> refine W_region_l ?_
        refine WL_step rfl (R_fieldAddr (off' := 2) Try.underlying35 rfl Try.sizeOf3 (by decide) rfl rfl) ?_
        refine WL_step rfl (R_load Try.isAgg3 rfl (H.get (.there (.there (.there (.there .here))))) rfl) ?_
        (refine WL_step rfl (R_bits rfl rfl (by simp) (and_mask_i64 1 2 (by decide) rfl (by decide))) ?_; rcases (show ob % 2 = 0 ∨ ob % 2 = 1 by omega) with hk1' | hk1' <;> rw [hk1'])
        · refine WL_stepM rfl (R_as) ?_
          refine WL_nil ?_
          refine W_seqS [(6, 6), (13, 21), (63, 213)] (fun E w' => ∃ x0 x1 s0 r0 s1 r1 v0 v1 M0 M1, BS w.heap.size m0 m1 x0 x1 v0 v1 M0 M1 ∧ Hp w ((p0, bp b0) :: (b0, bc m0 x0 s0 r0) :: (p1, bp b1) :: (b1, bc m1 x1 s1 r1) :: (bo, blk [I ok, I on, I ob] 35) :: bTail p0 p1 ab am aw m0 m1 v0 v1 (M0 ++ M1)) w') ?c11 ?k11
          · refine W_seq ?_
            refine W_region_l ?_
            refine WL_step rfl (R_fieldAddr (off' := 0) Try.underlying35 rfl Try.sizeOf3 (by decide) rfl rfl) ?_
            refine WL_step rfl (R_load Try.isAgg3 rfl (H.get (.there (.there (.there (.there .here))))) rfl) ?_
            refine WL_nil ?_
            refine W_block ?_
            refine W_seq ?_
            refine W_region_l ?_
            refine WL_step rfl (R_eq rfl rfl) ?_
            refine WL_stepM rfl (R_as) ?_
            refine WL_nil ?_
            refine W_if rfl (fun h116 => ?_) (fun h116 => ?_)
            · refine W_seq ?_
              ((have _g : ob % 2 = 0 := hk1'; by_cases hr : n0 < m0)) <;> (refine W_drawH (fun _ => false) (by kernel_rfl) H ?_; clear H; intro w118 H)
              · refine WA_takeM 0 rfl rfl rfl (by kernel_rfl) (by kernel_rfl) H (fun _ hC => R_mv) ?_
                refine WA_take 1 rfl rfl rfl (by kernel_rfl) (by kernel_rfl) H (fun _ hC => R_indexAddrA (off' := 0) Try.underlying33 Try.sizeOf22 rfl rfl (by omega) (by omega) rfl) ?_
                refine WA_take 2 rfl rfl rfl (by kernel_rfl) (by kernel_rfl) H (fun _ hC => R_load Try.isAgg22 rfl (hC.get (.there (.there (.there (.there (.there .here)))))) rfl) ?_
                refine WA_take 3 rfl rfl rfl (by kernel_rfl) (by kernel_rfl) H (fun _ hC => R_len_slice Try.underlying22 rfl) ?_
                refine WA_takeM 4 rfl rfl rfl (by kernel_rfl) (by kernel_rfl) H (fun _ hC => R_mv) ?_
                refine WA_take 5 rfl rfl rfl (by kernel_rfl) (by kernel_rfl) H (fun _ hC => R_indexAddrA (off' := 0) Try.underlying32 Try.sizeOf3 rfl rfl (by omega) (by omega) rfl) ?_
                refine WA_take 6 rfl rfl rfl (by kernel_rfl) (by kernel_rfl) H (fun _ hC => R_load Try.isAgg3 rfl (hC.get (.there (.there (.there (.there (.there (.there .here))))))) rfl) ?_
                refine WA_take 7 rfl rfl rfl (by kernel_rfl) (by kernel_rfl) H (fun _ hC => R_lt_t rfl rfl (by omega)) ?_
                refine WA_takeM 8 rfl rfl rfl (by kernel_rfl) (by kernel_rfl) H (fun _ hC => R_as) ?_
                refine WA_done (by kernel_rfl) ?_
                refine W_seq ?_
                refine W_seq ?_
                (have _g : ob % 2 = 0 := hk1'; refine W_draw (Kp [(ab, blk [ptr p0 0, ptr p1 0] 31), (bo, blk [I ok, I on, I ob] 35)]) (fun _ => false) (by kernel_rfl) H ?_; clear H; intro w131 H)
                refine WA_takeM 0 rfl rfl rfl (by kernel_rfl) (by kernel_rfl) (H.kp.sub (by simp)) (fun _ hC => R_mv) ?_
                refine WA_take 1 rfl rfl rfl (by kernel_rfl) (by kernel_rfl) (H.kp.sub (by simp)) (fun _ hC => R_indexAddrA (off' := 0) Try.underlying31 Try.sizeOf23 rfl rfl (by omega) (by omega) rfl) ?_
                refine WA_take 2 rfl rfl rfl (by kernel_rfl) (by kernel_rfl) (H.kp.sub (by simp)) (fun _ hC => R_load Try.isAgg23 rfl (hC.get .here) rfl) ?_
                refine WA_take 3 rfl rfl rfl (by kernel_rfl) (by kernel_rfl) (H.kp.sub (by simp)) (fun _ hC => R_fieldAddr (off' := 1) Try.underlying35 rfl Try.sizeOf3 (by decide) rfl rfl) ?_
                refine WA_take 4 rfl rfl rfl (by kernel_rfl) (by kernel_rfl) (H.kp.sub (by simp)) (fun _ hC => R_load Try.isAgg3 rfl (hC.get (.there .here)) rfl) ?_
                refine WA_takeM 6 rfl rfl rfl (by kernel_rfl) (by kernel_rfl) (H.kp.sub (by simp)) (fun _ hC => R_mv) ?_
                refine WA_one (i := 5) (by kernel_rfl) ?_
                (have _g : ob % 2 = 0 := hk1'; refine WI_call rfl (.inl rfl) (R_call rfl Try.call15 rfl) (ringI_room (xs := x0) on (H.get .here) (H.get (.there .here)) (by rw [hn0]; exact hr)) (fun _ _ hR _ => (H.seq hR.2 (okSeq_set (.there .here) okSeq_nil)).kp.sub (by simp)) ?_; rintro _ w139 ⟨rfl, H1⟩; replace H := H.seq H1 (okSeq_set (.there .here) okSeq_nil); clear H1)
                refine WA_take 7 rfl rfl rfl (by kernel_rfl) (by kernel_rfl) (H.kp.sub (by simp)) (fun _ hC => R_ne_bool_f Try.underlying4 rfl rfl (by decide)) ?_
                refine WA_done (by kernel_rfl) ?_
                refine W_cond_f rfl ?_
                refine W_skip ?_
                refine W_seq ?_
                refine W_region_l ?_
                refine WL_stepM rfl (R_mv) ?_
                refine WL_nil ?_
                refine W_cond_t rfl ?_
                (have _g : ob % 2 = 0 := hk1'; refine W_draw (Kp [(aw, blk [.slice a0 n0 c0, .slice a1 n1 c1] 33), (bo, blk [I ok, I on, I ob] 35)]) (fun i => Nat.ble 8 i) (by kernel_rfl) H ?_; clear H; intro w149 H)
                refine WA_takeM 0 rfl rfl rfl (by kernel_rfl) (by kernel_rfl) (H.kp.sub (by simp)) (fun _ hC => R_mv) ?_
                refine WA_takeM 1 rfl rfl rfl (by kernel_rfl) (by kernel_rfl) (H.kp.sub (by simp)) (fun _ hC => R_mv) ?_
                refine WA_take 2 rfl rfl rfl (by kernel_rfl) (by kernel_rfl) (H.kp.sub (by simp)) (fun _ hC => R_indexAddrA (off' := 0) Try.underlying33 Try.sizeOf22 rfl rfl (by omega) (by omega) rfl) ?_
                refine WA_take 3 rfl rfl rfl (by kernel_rfl) (by kernel_rfl) (H.kp.sub (by simp)) (fun _ hC => R_load Try.isAgg22 rfl (hC.get .here) rfl) ?_
                refine WA_take 4 rfl rfl rfl (by kernel_rfl) (by kernel_rfl) (H.kp.sub (by simp)) (fun _ hC => R_fieldAddr (off' := 1) Try.underlying35 rfl Try.sizeOf3 (by decide) rfl rfl) ?_
                refine WA_take 5 rfl rfl rfl (by kernel_rfl) (by kernel_rfl) (H.kp.sub (by simp)) (fun _ hC => R_load Try.isAgg3 rfl (hC.get (.there .here)) rfl) ?_
                refine WA_one (i := 6) (by kernel_rfl) ?_
                (refine WI_effn rfl (.inl rfl) (E_buildOnes (vs := [(.int _ _)]) H Try.underlying22 Try.sizeOf3 Try.zeroValue3 rfl rfl (by decide) rfl rfl (by simp [Value.oneCell'])) (fun _ _ H => (by first | exact fun h => absurd h (by decide) | exact fun _ => H | exact fun _ => H.none (by repeat' first | exact kNil | apply kCons | apply kApp | assumption | exact OwnS.keys (by assumption)) | exact fun _ => H.dropN (by repeat' first | exact kNil | apply kCons | apply kApp | assumption | exact OwnS.keys (by assumption)) | exact fun _ => H.pop (by assumption) | exact fun _ => (H.pop (by assumption)).pop (by assumption) | exact fun _ => H.kp | exact fun _ => H.kp.tail | exact fun _ => H.kp.tail.tail | exact fun _ => H.kp.tail.tail.tail | exact fun _ => H.kp.sub (by simp) | exact fun _ => Kp.nil | exact fun _ => H.kh (by simp) (by repeat' first | exact kNil | apply kCons | apply kApp | assumption | exact OwnS.keys (by assumption)))) ?_; clear H; intro b157 w157 hb157 H)
                refine WA_one (i := 7) (by kernel_rfl) ?_
                (have _g : ob % 2 = 0 := hk1'; have hsn : x0.map I ++ [I on] = (x0 ++ [on]).map I := (by simp); refine WI_effm rfl (.inl rfl) (E_appendQ (news := [I on]) (m := 1) H (.there (.there (.there (.there (.there (.there (.there (.there (.there .here))))))))) hS.q0 Try.underlying22 Try.typeInfo3 rfl rfl rfl rfl rfl rfl (src_one Try.underlying22 (H.get .here) rfl) (by rw [List.length_map]; omega) (by rw [List.length_map]; simp [Try.t3]; omega)) (fun _ _ H => (by first | exact fun h => absurd h (by decide) | exact fun _ => H | exact fun _ => H.none (by repeat' first | exact kNil | apply kCons | apply kApp | assumption | exact OwnS.keys (by assumption)) | exact fun _ => H.dropN (by repeat' first | exact kNil | apply kCons | apply kApp | assumption | exact OwnS.keys (by assumption)) | exact fun _ => H.pop (by assumption) | exact fun _ => (H.pop (by assumption)).pop (by assumption) | exact fun _ => H.kp | exact fun _ => H.kp.tail | exact fun _ => H.kp.tail.tail | exact fun _ => H.kp.tail.tail.tail | exact fun _ => H.kp.sub (by simp) | exact fun _ => Kp.nil | exact fun _ => H.kh (by simp) (by repeat' first | exact kNil | apply kCons | apply kApp | assumption | exact OwnS.keys (by assumption)))) ?_; clear H; intro v5 M5 w159 hQ5 H; replace H := H.pop (by assumption); rw [hsn] at hQ5; obtain ⟨a5, c5, hv5⟩ := hQ5.form; rw [List.length_map] at hv5; subst hv5)
                refine WA_one (i := 8) (by kernel_rfl) ?_
                refine WI_value rfl (.inl rfl) (R_indexAddrA (off' := 0) Try.underlying33 Try.sizeOf22 rfl rfl (by omega) (by omega) rfl) (by first | exact fun h => absurd h (by decide) | exact fun _ => H | exact fun _ => H.none (by repeat' first | exact kNil | apply kCons | apply kApp | assumption | exact OwnS.keys (by assumption)) | exact fun _ => H.dropN (by repeat' first | exact kNil | apply kCons | apply kApp | assumption | exact OwnS.keys (by assumption)) | exact fun _ => H.pop (by assumption) | exact fun _ => (H.pop (by assumption)).pop (by assumption) | exact fun _ => H.kp | exact fun _ => H.kp.tail | exact fun _ => H.kp.tail.tail | exact fun _ => H.kp.tail.tail.tail | exact fun _ => H.kp.sub (by simp) | exact fun _ => Kp.nil | exact fun _ => H.kh (by simp) (by repeat' first | exact kNil | apply kCons | apply kApp | assumption | exact OwnS.keys (by assumption))) ?_
                refine WA_one (i := 9) (by kernel_rfl) ?_
                (refine WI_effu rfl (.inl rfl) (E_store (v := (.slice _ _ _)) H Try.sizeOf22 rfl rfl rfl (.there (.there (.there (.there (.there .here))))) (by simp)) (fun _ H => (by first | exact fun h => absurd h (by decide) | exact fun _ => H | exact fun _ => H.none (by repeat' first | exact kNil | apply kCons | apply kApp | assumption | exact OwnS.keys (by assumption)) | exact fun _ => H.dropN (by repeat' first | exact kNil | apply kCons | apply kApp | assumption | exact OwnS.keys (by assumption)) | exact fun _ => H.pop (by assumption) | exact fun _ => (H.pop (by assumption)).pop (by assumption) | exact fun _ => H.kp | exact fun _ => H.kp.tail | exact fun _ => H.kp.tail.tail | exact fun _ => H.kp.tail.tail.tail | exact fun _ => H.kp.sub (by simp) | exact fun _ => Kp.nil | exact fun _ => H.kh (by simp) (by repeat' first | exact kNil | apply kCons | apply kApp | assumption | exact OwnS.keys (by assumption)))) ?_; clear H; intro w163 H)
                refine WA_done (by kernel_rfl) ?_
                (have _g : ob % 2 = 0 := hk1'; exact ⟨(same_updn (same_updo rfl (same_updo rfl (same_updo rfl (same_updo rfl (same_updo rfl (same_updo rfl (same_updo rfl (same_mov rfl (same_mov rfl (same_mov rfl (same_updo rfl (same_updo rfl (same_mov rfl (same_updo rfl (same_updo rfl (same_updo rfl (same_updo rfl (same_mov rfl (same_mov rfl (same_updo rfl (same_updo rfl (same_updo rfl (same_mov rfl (same_updo rfl (same_updo rfl (same_updo rfl (same_mov rfl (same_know rfl (same_mov rfl (same_updo rfl (same_updo rfl (same_updo rfl Same.refl))))))))))))))))))))))))))))))))), _, _, _, _, _, _, _, _, _, _, ⟨hQ5, hS.q1, (by have h1 := hS.l0; simp at h1 ⊢; omega), hS.l1⟩, H⟩)
              · refine WA_takeM 0 rfl rfl rfl (by kernel_rfl) (by kernel_rfl) H (fun _ hC => R_mv) ?_
                refine WA_take 1 rfl rfl rfl (by kernel_rfl) (by kernel_rfl) H (fun _ hC => R_indexAddrA (off' := 0) Try.underlying33 Try.sizeOf22 rfl rfl (by omega) (by omega) rfl) ?_
                refine WA_take 2 rfl rfl rfl (by kernel_rfl) (by kernel_rfl) H (fun _ hC => R_load Try.isAgg22 rfl (hC.get (.there (.there (.there (.there (.there .here)))))) rfl) ?_
                refine WA_take 3 rfl rfl rfl (by kernel_rfl) (by kernel_rfl) H (fun _ hC => R_len_slice Try.underlying22 rfl) ?_
                refine WA_takeM 4 rfl rfl rfl (by kernel_rfl) (by kernel_rfl) H (fun _ hC => R_mv) ?_
                refine WA_take 5 rfl rfl rfl (by kernel_rfl) (by kernel_rfl) H (fun _ hC => R_indexAddrA (off' := 0) Try.underlying32 Try.sizeOf3 rfl rfl (by omega) (by omega) rfl) ?_
                refine WA_take 6 rfl rfl rfl (by kernel_rfl) (by kernel_rfl) H (fun _ hC => R_load Try.isAgg3 rfl (hC.get (.there (.there (.there (.there (.there (.there .here))))))) rfl) ?_
                refine WA_take 7 rfl rfl rfl (by kernel_rfl) (by kernel_rfl) H (fun _ hC => R_lt_f rfl rfl (by omega)) ?_
                refine WA_takeM 8 rfl rfl rfl (by kernel_rfl) (by kernel_rfl) H (fun _ hC => R_as) ?_
                refine WA_done (by kernel_rfl) ?_
                refine W_seq ?_
                refine W_seq ?_
                (have _g : ob % 2 = 0 := hk1'; refine W_draw (Kp [(ab, blk [ptr p0 0, ptr p1 0] 31), (bo, blk [I ok, I on, I ob] 35)]) (fun _ => false) (by kernel_rfl) H ?_; clear H; intro w178 H)
                refine WA_takeM 0 rfl rfl rfl (by kernel_rfl) (by kernel_rfl) (H.kp.sub (by simp)) (fun _ hC => R_mv) ?_
                refine WA_take 1 rfl rfl rfl (by kernel_rfl) (by kernel_rfl) (H.kp.sub (by simp)) (fun _ hC => R_indexAddrA (off' := 0) Try.underlying31 Try.sizeOf23 rfl rfl (by omega) (by omega) rfl) ?_
                refine WA_take 2 rfl rfl rfl (by kernel_rfl) (by kernel_rfl) (H.kp.sub (by simp)) (fun _ hC => R_load Try.isAgg23 rfl (hC.get .here) rfl) ?_
                refine WA_take 3 rfl rfl rfl (by kernel_rfl) (by kernel_rfl) (H.kp.sub (by simp)) (fun _ hC => R_fieldAddr (off' := 1) Try.underlying35 rfl Try.sizeOf3 (by decide) rfl rfl) ?_
                refine WA_take 4 rfl rfl rfl (by kernel_rfl) (by kernel_rfl) (H.kp.sub (by simp)) (fun _ hC => R_load Try.isAgg3 rfl (hC.get (.there .here)) rfl) ?_
                refine WA_takeM 6 rfl rfl rfl (by kernel_rfl) (by kernel_rfl) (H.kp.sub (by simp)) (fun _ hC => R_mv) ?_
                refine WA_one (i := 5) (by kernel_rfl) ?_
                (have _g : ob % 2 = 0 := hk1'; refine WI_call rfl (.inl rfl) (R_call rfl Try.call15 rfl) (ringI_full (xs := x0) on (H.get .here) (H.get (.there .here)) (by omega)) (fun _ _ hR _ => (H.seq0 hR.2).kp.sub (by simp)) ?_; rintro _ w186 ⟨rfl, H1⟩; replace H := H.seq0 H1; clear H1)
                refine WA_take 7 rfl rfl rfl (by kernel_rfl) (by kernel_rfl) (H.kp.sub (by simp)) (fun _ hC => R_ne_bool_f Try.underlying4 rfl rfl (by decide)) ?_
                refine WA_done (by kernel_rfl) ?_
                refine W_cond_f rfl ?_
                refine W_skip ?_
                refine W_seq ?_
                refine W_region_l ?_
                refine WL_stepM rfl (R_mv) ?_
                refine WL_nil ?_
                refine W_cond_f rfl ?_
                refine W_skip ?_
                exact ⟨(same_mov rfl (same_updo rfl (same_updo rfl (same_mov rfl (same_updo rfl (same_updo rfl (same_updo rfl (same_updo rfl (same_mov rfl (same_mov rfl (same_updo rfl (same_updo rfl (same_updo rfl (same_mov rfl (same_updo rfl (same_updo rfl (same_updo rfl (same_mov rfl (same_know rfl (same_mov rfl (same_updo rfl (same_updo rfl (same_updo rfl Same.refl))))))))))))))))))))))), _, _, _, _, _, _, _, _, _, _, hS, H⟩
            · refine W_seq ?_
              refine W_region_l ?_
              refine WL_step rfl (R_eq rfl rfl) ?_
              refine WL_stepM rfl (R_as) ?_
              refine WL_nil ?_
              refine W_if rfl (fun h203 => ?_) (fun h203 => ?_)
              · refine W_seq ?_
                ((have _g : ob % 2 = 0 := hk1'; rcases x0 with _ | ⟨z, x0⟩ <;> simp only [List.length_nil, List.length_cons] at hn0 hl0)) <;> refine W_region_l ?_
                · refine WL_stepM rfl (R_mv) ?_
                  refine WL_step rfl (R_indexAddrA (off' := 0) Try.underlying31 Try.sizeOf23 rfl rfl (by omega) (by omega) rfl) ?_
                  refine WL_step rfl (R_load Try.isAgg23 rfl (H.get (.there (.there (.there (.there (.there (.there (.there .here)))))))) rfl) ?_
                  (have _g : ob % 2 = 0 := hk1'; refine WL_call rfl (R_call rfl Try.call18 rfl) (take_none (H.get .here) (H.get (.there .here))) ?_; rintro _ w209 ⟨rfl, H1⟩; replace H := H.seq0 H1; clear H1)
                  refine WL_stepM rfl (R_mv) ?_
                  refine WL_step rfl (R_extract rfl rfl) ?_
                  refine WL_step rfl (R_extract rfl rfl) ?_
                  refine WL_stepM rfl (R_as) ?_
                  refine WL_stepM rfl (R_as) ?_
                  refine WL_nil ?_
                  refine W_seq ?_
                  refine W_seq ?_
                  refine W_region_l ?_
                  refine WL_stepM rfl (R_mv) ?_
                  refine WL_stepM rfl (R_mv) ?_
                  refine WL_step rfl (R_indexAddrA (off' := 0) Try.underlying33 Try.sizeOf22 rfl rfl (by omega) (by omega) rfl) ?_
                  refine WL_step rfl (R_load Try.isAgg22 rfl (H.get (.there (.there (.there (.there (.there .here)))))) rfl) ?_
                  refine WL_step rfl (R_len_slice Try.underlying22 rfl) ?_
                  refine WL_step rfl (R_gt_f rfl rfl (by omega)) ?_
                  refine WL_step rfl (R_ne_bool_f Try.underlying4 rfl rfl (by decide)) ?_
                  refine WL_stepM rfl (R_mv) ?_
                  refine WL_guard_t rfl rfl ?_
                  refine WL_stepM rfl (R_mv) ?_
                  refine WL_guard_t rfl rfl ?_
                  refine WL_stepM rfl (R_mv) ?_
                  refine WL_guard_f rfl rfl (by decide) ?_
                  refine WL_guard_f rfl rfl (by decide) ?_
                  refine WL_guard_f rfl rfl (by decide) ?_
                  refine WL_guard_f rfl rfl (by decide) ?_
                  refine WL_guard_f rfl rfl (by decide) ?_
                  refine WL_guard_f rfl rfl (by decide) ?_
                  refine WL_guard_f rfl rfl (by decide) ?_
                  refine WL_guard_t rfl rfl ?_
                  refine WL_stepM rfl (R_pk_f rfl) ?_
                  refine WL_stepM rfl (R_pk_f rfl) ?_
                  refine WL_stepM rfl (R_mv) ?_
                  refine WL_guard_t rfl rfl ?_
                  refine WL_stepM rfl (R_mv) ?_
                  refine WL_guard_t rfl rfl ?_
                  refine WL_step rfl (R_not_f rfl) ?_
                  refine WL_guard_t rfl rfl ?_
                  refine WL_stepM rfl (R_mv) ?_
                  refine WL_guard_t rfl rfl ?_
                  refine WL_stepM rfl (R_mv) ?_
                  refine WL_guard_t rfl rfl ?_
                  refine WL_step rfl (R_ne_f rfl rfl (by omega)) ?_
                  refine WL_guard_t rfl rfl ?_
                  refine WL_stepM rfl (R_pk_t rfl) ?_
                  refine WL_stepM rfl (R_pk_f rfl) ?_
                  refine WL_nil ?_
                  refine W_cond_f rfl ?_
                  refine W_skip ?_
                  refine W_seq ?_
                  refine W_region_l ?_
                  refine WL_stepM rfl (R_mv) ?_
                  refine WL_nil ?_
                  refine W_cond_f rfl ?_
                  refine W_skip ?_
                  exact ⟨(same_mov rfl (same_mov rfl (same_mov rfl (same_updo rfl (same_mov rfl (same_mov rfl (same_updo rfl (same_mov rfl (same_mov rfl (same_mov rfl (same_mov rfl (same_updo rfl (same_updo rfl (same_updo rfl (same_updo rfl (same_updo rfl (same_updo rfl (same_updo rfl (same_mov rfl (same_mov rfl (same_mov rfl (same_updo rfl (same_updo rfl (same_updo rfl (same_updo rfl (same_updo rfl (same_mov rfl (same_mov rfl (same_mov rfl (same_mov rfl (same_updo rfl (same_updo rfl (same_mov rfl (same_updo rfl (same_updo rfl (same_updo rfl (same_mov rfl (same_know rfl (same_mov rfl (same_updo rfl (same_know rfl (same_mov rfl (same_updo rfl (same_updo rfl (same_updo rfl Same.refl))))))))))))))))))))))))))))))))))))))))))))), _, _, _, _, _, _, _, _, _, _, hS, H⟩
                · refine WL_stepM rfl (R_mv) ?_
                  refine WL_step rfl (R_indexAddrA (off' := 0) Try.underlying31 Try.sizeOf23 rfl rfl (by omega) (by omega) rfl) ?_
                  refine WL_step rfl (R_load Try.isAgg23 rfl (H.get (.there (.there (.there (.there (.there (.there (.there .here)))))))) rfl) ?_
                  (have _g : ob % 2 = 0 := hk1'; refine WL_call rfl (R_call rfl Try.call18 rfl) (take_some (x := z) (buf := x0.map I) (H.get .here) (H.get (.there .here))) ?_; rintro _ w268 ⟨rfl, H1⟩; replace H := H.seq H1 (okSeq_set (.there .here) okSeq_nil); clear H1)
                  refine WL_stepM rfl (R_mv) ?_
                  refine WL_step rfl (R_extract rfl rfl) ?_
                  refine WL_step rfl (R_extract rfl rfl) ?_
                  refine WL_stepM rfl (R_as) ?_
                  refine WL_stepM rfl (R_as) ?_
                  refine WL_nil ?_
                  refine W_seq ?_
                  refine W_seq ?_
                  ((have _g : ob % 2 = 0 := hk1'; obtain ⟨by5, oy5, rfl, hcz⟩ := RdS.cell (i := 0) (u := I z) (hS.q0.rds (fun p hp => H.held p (by simp [hp]))) rfl)) <;> refine W_region_l ?_
                  refine WL_stepM rfl (R_mv) ?_
                  refine WL_stepM rfl (R_mv) ?_
                  refine WL_step rfl (R_indexAddrA (off' := 0) Try.underlying33 Try.sizeOf22 rfl rfl (by omega) (by omega) rfl) ?_
                  refine WL_step rfl (R_load Try.isAgg22 rfl (H.get (.there (.there (.there (.there (.there .here)))))) rfl) ?_
                  refine WL_step rfl (R_len_slice Try.underlying22 rfl) ?_
                  refine WL_step rfl (R_gt_t rfl rfl (by omega)) ?_
                  refine WL_step rfl (R_ne_bool_f Try.underlying4 rfl rfl (by decide)) ?_
                  refine WL_stepM rfl (R_mv) ?_
                  refine WL_guard_t rfl rfl ?_
                  refine WL_stepM rfl (R_mv) ?_
                  refine WL_guard_t rfl rfl ?_
                  refine WL_stepM rfl (R_mv) ?_
                  refine WL_guard_t rfl rfl ?_
                  refine WL_stepM rfl (R_mv) ?_
                  refine WL_guard_t rfl rfl ?_
                  refine WL_stepM rfl (R_mv) ?_
                  refine WL_guard_t rfl rfl ?_
                  refine WL_step rfl (R_indexAddrA (off' := 0) Try.underlying33 Try.sizeOf22 rfl rfl (by omega) (by omega) rfl) ?_
                  refine WL_guard_t rfl rfl ?_
                  refine WL_step rfl (R_load Try.isAgg22 rfl (H.get (.there (.there (.there (.there (.there .here)))))) rfl) ?_
                  refine WL_guard_t rfl rfl ?_
                  refine WL_step rfl (R_indexAddr Try.underlying22 Try.sizeOf3 rfl rfl (by omega) (by omega) idx_cast1) ?_
                  refine WL_guard_t rfl rfl ?_
                  refine WL_step rfl (R_load_cell Try.isAgg3 rfl hcz) ?_
                  refine WL_guard_t rfl rfl ?_
                  refine WL_step rfl (R_ne_f rfl rfl (by omega)) ?_
                  refine WL_guard_t rfl rfl ?_
                  refine WL_stepM rfl (R_pk_t rfl) ?_
                  refine WL_stepM rfl (R_pk_f rfl) ?_
                  refine WL_stepM rfl (R_mv) ?_
                  refine WL_guard_t rfl rfl ?_
                  refine WL_stepM rfl (R_mv) ?_
                  refine WL_guard_t rfl rfl ?_
                  refine WL_step rfl (R_not_t rfl) ?_
                  refine WL_guard_t rfl rfl ?_
                  refine WL_stepM rfl (R_mv) ?_
                  refine WL_guard_f rfl rfl (by decide) ?_
                  refine WL_guard_f rfl rfl (by decide) ?_
                  refine WL_guard_t rfl rfl ?_
                  refine WL_stepM rfl (R_pk_f rfl) ?_
                  refine WL_stepM rfl (R_pk_f rfl) ?_
                  refine WL_nil ?_
                  refine W_cond_f rfl ?_
                  refine W_skip ?_
                  refine W_seq ?_
                  refine W_region_l ?_
                  refine WL_stepM rfl (R_mv) ?_
                  refine WL_nil ?_
                  refine W_cond_t rfl ?_
                  refine W_region_l ?_
                  refine WL_stepM rfl (R_mv) ?_
                  refine WL_stepM rfl (R_mv) ?_
                  refine WL_step rfl (R_indexAddrA (off' := 0) Try.underlying33 Try.sizeOf22 rfl rfl (by omega) (by omega) rfl) ?_
                  refine WL_step rfl (R_load Try.isAgg22 rfl (H.get (.there (.there (.there (.there (.there .here)))))) rfl) ?_
                  (refine WL_tailQ (a := I z) (xs := x0.map I) hS.q0 Try.underlying22 Try.sizeOf3 rfl rfl ?_; intro v5 hQ5; obtain ⟨a5, c5, hv5⟩ := hQ5.form; rw [List.length_map] at hv5; subst hv5)
                  refine WL_step rfl (R_indexAddrA (off' := 0) Try.underlying33 Try.sizeOf22 rfl rfl (by omega) (by omega) rfl) ?_
                  (refine WL_effu rfl (E_store (v := (.slice _ _ _)) H Try.sizeOf22 rfl rfl rfl (.there (.there (.there (.there (.there .here))))) (by simp)) ?_; clear H; intro w334 H)
                  refine WL_nil ?_
                  (have _g : ob % 2 = 0 := hk1'; exact ⟨(same_updn (same_updo rfl (same_updo rfl (same_updo rfl (same_updo rfl (same_mov rfl (same_mov rfl (same_mov rfl (same_mov rfl (same_mov rfl (same_updo rfl (same_updo rfl (same_mov rfl (same_updo rfl (same_mov rfl (same_mov rfl (same_mov rfl (same_mov rfl (same_updo rfl (same_updo rfl (same_updo rfl (same_updo rfl (same_updo rfl (same_mov rfl (same_mov rfl (same_mov rfl (same_mov rfl (same_mov rfl (same_updo rfl (same_updo rfl (same_updo rfl (same_updo rfl (same_updo rfl (same_mov rfl (same_mov rfl (same_mov rfl (same_mov rfl (same_updo rfl (same_updo rfl (same_mov rfl (same_updo rfl (same_updo rfl (same_updo rfl (same_mov rfl (same_know rfl (same_mov rfl (same_updo rfl (same_know rfl (same_mov rfl (same_updo rfl (same_updo rfl (same_updo rfl Same.refl)))))))))))))))))))))))))))))))))))))))))))))))))))), _, _, _, _, _, _, _, _, _, _, ⟨hQ5, hS.q1, (by have h1 := hS.l0; simp at h1 ⊢; omega), hS.l1⟩, H⟩)
              · refine W_seq ?_
                refine W_region_l ?_
                refine WL_step rfl (R_eq rfl rfl) ?_
                refine WL_stepM rfl (R_as) ?_
                refine WL_nil ?_
                refine W_if rfl (fun h342 => ?_) (fun h342 => ?_)
                · refine W_seq ?_
                  refine W_seq ?_
                  (have _g : ob % 2 = 0 := hk1'; refine W_draw (Kp [(aw, blk [.slice a0 n0 c0, .slice a1 n1 c1] 33), (ab, blk [ptr p0 0, ptr p1 0] 31)]) (fun _ => false) (by kernel_rfl) H ?_; clear H; intro w345 H)
                  refine WA_takeM 0 rfl rfl rfl (by kernel_rfl) (by kernel_rfl) (H.kp.sub (by simp)) (fun _ hC => R_mv) ?_
                  refine WA_take 1 rfl rfl rfl (by kernel_rfl) (by kernel_rfl) (H.kp.sub (by simp)) (fun _ hC => R_indexAddrA (off' := 0) Try.underlying31 Try.sizeOf23 rfl rfl (by omega) (by omega) rfl) ?_
                  refine WA_take 2 rfl rfl rfl (by kernel_rfl) (by kernel_rfl) (H.kp.sub (by simp)) (fun _ hC => R_load Try.isAgg23 rfl (hC.get (.there .here)) rfl) ?_
                  refine WA_takeM 4 rfl rfl rfl (by kernel_rfl) (by kernel_rfl) (H.kp.sub (by simp)) (fun _ hC => R_mv) ?_
                  refine WA_take 5 rfl rfl rfl (by kernel_rfl) (by kernel_rfl) (H.kp.sub (by simp)) (fun _ hC => R_indexAddrA (off' := 0) Try.underlying33 Try.sizeOf22 rfl rfl (by omega) (by omega) rfl) ?_
                  refine WA_take 6 rfl rfl rfl (by kernel_rfl) (by kernel_rfl) (H.kp.sub (by simp)) (fun _ hC => R_load Try.isAgg22 rfl (hC.get .here) rfl) ?_
                  refine WA_one (i := 3) (by kernel_rfl) ?_
                  (have _g : ob % 2 = 0 := hk1'; refine WI_call rfl (.inl rfl) (R_call rfl Try.call20 rfl) (drain_ret (ns := x0) (H.get .here) (H.get (.there .here)) (by omega)) (fun _ _ hR _ => by obtain ⟨M, r1, hO, H1⟩ := hR; exact (seqC H (.there .here) H1 hO.keys).kp.sub (by simp)) ?_; rintro v w353 ⟨M, r5, hO, H1⟩; have hOk := fun p hp => Nat.le_trans H.size (hO.keys p hp); replace H := seqC H (.there .here) H1 hO.keys; clear H1; obtain ⟨a9, c9, rfl⟩ := hO.form)
                  refine WA_one (i := 7) (by kernel_rfl) ?_
                  (have _g : ob % 2 = 0 := hk1'; refine WI_call rfl (.inl rfl) (R_call rfl Try.call19 rfl) (sameInts_ret (xs := x0) (ys := x0) (RdS.own hO (fun p hp => H.held p (by simp [hp]))) (hS.q0.rds (fun p hp => H.held p (by simp [hp]))) (by omega) (by omega)) (fun _ _ hR _ => (H.seq0 hR.2).kp.sub (by simp)) ?_; rintro v w355 ⟨hv, H1⟩; rw [decide_eq_true rfl] at hv; subst hv; replace H := Hp.dropN (H.seq0 H1) hOk; clear H1)
                  refine WA_take 8 rfl rfl rfl (by kernel_rfl) (by kernel_rfl) (H.kp.sub (by simp)) (fun _ hC => R_not_t rfl) ?_
                  refine WA_done (by kernel_rfl) ?_
                  refine W_cond_f rfl ?_
                  refine W_skip ?_
                  refine W_region_l ?_
                  refine WL_stepM rfl (R_mv) ?_
                  refine WL_step rfl (R_indexAddrA (off' := 0) Try.underlying33 Try.sizeOf22 rfl rfl (by omega) (by omega) rfl) ?_
                  (refine WL_effu rfl (E_store (v := (.slice _ _ _)) H Try.sizeOf22 rfl rfl rfl (.there (.there (.there (.there (.there .here))))) (by simp)) ?_; clear H; intro w363 H)
                  refine WL_nil ?_
                  (have _g : ob % 2 = 0 := hk1'; exact ⟨(same_updn (same_updo rfl (same_mov rfl (same_updo rfl (same_updo rfl (same_updo rfl (same_updo rfl (same_updo rfl (same_mov rfl (same_updo rfl (same_updo rfl (same_mov rfl (same_know rfl (same_mov rfl (same_updo rfl (same_know rfl (same_mov rfl (same_updo rfl (same_know rfl (same_mov rfl (same_updo rfl (same_updo rfl (same_updo rfl Same.refl))))))))))))))))))))))), [], _, _, _, _, _, _, _, _, _, ⟨OwnQ.nil _ _, hS.q1, by simp, hS.l1⟩, dropMid (A := [_, _, _, _, _, _, _, _]) H hk0⟩)
                · refine W_seq ?_
                  (have _g : ob % 2 = 0 := hk1'; ((rcases x0 with _ | ⟨z, x0⟩; (rcases x1 with _ | ⟨z, x1⟩)) <;> simp only [List.length_nil, List.length_cons] at hn0 hn1 hl0 hl1) <;> (refine W_draw (Kp [(ab, blk [ptr p0 0, ptr p1 0] 31)]) (fun _ => false) (by kernel_rfl) H ?_; clear H; intro w367 H))
                  · refine WA_takeM 0 rfl rfl rfl (by kernel_rfl) (by kernel_rfl) (H.kp.sub (by simp)) (fun _ hC => R_mv) ?_
                    refine WA_take 1 rfl rfl rfl (by kernel_rfl) (by kernel_rfl) (H.kp.sub (by simp)) (fun _ hC => R_indexAddrA (off' := 0) Try.underlying31 Try.sizeOf23 rfl rfl (by omega) (by omega) rfl) ?_
                    refine WA_take 2 rfl rfl rfl (by kernel_rfl) (by kernel_rfl) (H.kp.sub (by simp)) (fun _ hC => R_load Try.isAgg23 rfl (hC.get .here) rfl) ?_
                    refine WA_takeM 3 rfl rfl rfl (by kernel_rfl) (by kernel_rfl) (H.kp.sub (by simp)) (fun _ hC => R_mv) ?_
                    refine WA_take 4 rfl rfl rfl (by kernel_rfl) (by kernel_rfl) (H.kp.sub (by simp)) (fun _ hC => R_sub (r := 1) rfl rfl (by decide)) ?_
                    refine WA_take 5 rfl rfl rfl (by kernel_rfl) (by kernel_rfl) (H.kp.sub (by simp)) (fun _ hC => R_indexAddrA (off' := 1) Try.underlying31 Try.sizeOf23 rfl rfl (by omega) (by omega) rfl) ?_
                    refine WA_take 6 rfl rfl rfl (by kernel_rfl) (by kernel_rfl) (H.kp.sub (by simp)) (fun _ hC => R_load Try.isAgg23 rfl (hC.get .here) rfl) ?_
                    refine WA_one (i := 7) (by kernel_rfl) ?_
                    (have _g : ob % 2 = 0 := hk1'; refine WI_call rfl (.inl rfl) (R_call rfl Try.call16 rfl) (either_neither H) (fun _ _ hR _ => hR.2.kp.sub (by simp)) ?_; clear H; rintro _ w376 ⟨rfl, H⟩; skip)
                    refine WA_takeM 8 rfl rfl rfl (by kernel_rfl) (by kernel_rfl) (H.kp.sub (by simp)) (fun _ hC => R_mv) ?_
                    refine WA_take 9 rfl rfl rfl (by kernel_rfl) (by kernel_rfl) (H.kp.sub (by simp)) (fun _ hC => R_extract rfl rfl) ?_
                    refine WA_take 10 rfl rfl rfl (by kernel_rfl) (by kernel_rfl) (H.kp.sub (by simp)) (fun _ hC => R_extract rfl rfl) ?_
                    refine WA_take 11 rfl rfl rfl (by kernel_rfl) (by kernel_rfl) (H.kp.sub (by simp)) (fun _ hC => R_extract rfl rfl) ?_
                    refine WA_takeM 12 rfl rfl rfl (by kernel_rfl) (by kernel_rfl) (H.kp.sub (by simp)) (fun _ hC => R_as) ?_
                    refine WA_takeM 13 rfl rfl rfl (by kernel_rfl) (by kernel_rfl) (H.kp.sub (by simp)) (fun _ hC => R_as) ?_
                    refine WA_takeM 14 rfl rfl rfl (by kernel_rfl) (by kernel_rfl) (H.kp.sub (by simp)) (fun _ hC => R_as) ?_
                    refine WA_done (by kernel_rfl) ?_
                    refine W_seq ?_
                    refine W_region_l ?_
                    refine WL_stepM rfl (R_as) ?_
                    refine WL_nil ?_
                    refine W_seq ?_
                    refine W_seq ?_
                    refine W_region_l ?_
                    refine WL_stepM rfl (R_mv) ?_
                    refine WL_step rfl (R_indexAddrA (off' := 0) Try.underlying33 Try.sizeOf22 rfl rfl (by omega) (by omega) rfl) ?_
                    refine WL_step rfl (R_load Try.isAgg22 rfl (H.get (.there (.there (.there (.there (.there .here)))))) rfl) ?_
                    refine WL_step rfl (R_len_slice Try.underlying22 rfl) ?_
                    refine WL_step rfl (R_eq_t rfl rfl (by omega)) ?_
                    refine WL_nil ?_
                    refine W_cond_t rfl ?_
                    refine W_region_l ?_
                    refine WL_stepM rfl (R_as) ?_
                    refine WL_nil ?_
                    refine W_seq ?_
                    refine W_region_l ?_
                    refine WL_stepM rfl (R_mv) ?_
                    refine WL_stepM rfl (R_mv) ?_
                    refine WL_step rfl (R_add (r := 1) rfl rfl (by decide)) ?_
                    refine WL_step rfl (R_rem (r := 1) rfl rfl (by decide) (by decide)) ?_
                    refine WL_stepM rfl (R_as) ?_
                    refine WL_nil ?_
                    refine W_seq ?_
                    refine W_region_l ?_
                    refine WL_stepM rfl (R_mv) ?_
                    refine WL_step rfl (R_indexAddrA (off' := 1) Try.underlying33 Try.sizeOf22 rfl rfl (by omega) (by omega) rfl) ?_
                    refine WL_step rfl (R_load Try.isAgg22 rfl (H.get (.there (.there (.there (.there (.there .here)))))) rfl) ?_
                    refine WL_step rfl (R_len_slice Try.underlying22 rfl) ?_
                    refine WL_step rfl (R_gt_f rfl rfl (by omega)) ?_
                    refine WL_stepM rfl (R_as) ?_
                    refine WL_nil ?_
                    refine W_seq ?_
                    refine W_seq ?_
                    refine W_region_l ?_
                    refine WL_stepM rfl (R_mv) ?_
                    refine WL_stepM rfl (R_mv) ?_
                    refine WL_step rfl (R_ne_bool_f Try.underlying4 rfl rfl (by decide)) ?_
                    refine WL_stepM rfl (R_mv) ?_
                    refine WL_guard_t rfl rfl ?_
                    refine WL_stepM rfl (R_mv) ?_
                    refine WL_guard_t rfl rfl ?_
                    refine WL_stepM rfl (R_mv) ?_
                    refine WL_guard_f rfl rfl (by decide) ?_
                    refine WL_guard_f rfl rfl (by decide) ?_
                    refine WL_guard_f rfl rfl (by decide) ?_
                    refine WL_guard_f rfl rfl (by decide) ?_
                    refine WL_guard_n rfl rfl ?_
                    refine WL_guard_n rfl rfl ?_
                    refine WL_guard_n rfl rfl ?_
                    refine WL_guard_n rfl rfl ?_
                    refine WL_guard_n rfl rfl ?_
                    refine WL_guard_n rfl rfl ?_
                    refine WL_guard_n rfl rfl ?_
                    refine WL_guard_f rfl rfl (by decide) ?_
                    refine WL_guard_t rfl rfl ?_
                    refine WL_stepM rfl (R_pk_f rfl) ?_
                    refine WL_stepM rfl (R_pk_f rfl) ?_
                    refine WL_stepM rfl (R_mv) ?_
                    refine WL_guard_t rfl rfl ?_
                    refine WL_stepM rfl (R_mv) ?_
                    refine WL_guard_t rfl rfl ?_
                    refine WL_step rfl (R_not_f rfl) ?_
                    refine WL_guard_t rfl rfl ?_
                    refine WL_stepM rfl (R_mv) ?_
                    refine WL_guard_t rfl rfl ?_
                    refine WL_stepM rfl (R_mv) ?_
                    refine WL_guard_t rfl rfl ?_
                    refine WL_step rfl (R_ne_f rfl rfl (by omega)) ?_
                    refine WL_guard_t rfl rfl ?_
                    refine WL_stepM rfl (R_mv) ?_
                    refine WL_guard_t rfl rfl ?_
                    refine WL_stepM rfl (R_mv) ?_
                    refine WL_guard_t rfl rfl ?_
                    refine WL_step rfl (R_ne_f rfl rfl (by omega)) ?_
                    refine WL_guard_t rfl rfl ?_
                    refine WL_stepM rfl (R_pk_f rfl) ?_
                    refine WL_guard_t rfl rfl ?_
                    refine WL_stepM rfl (R_pk_t rfl) ?_
                    refine WL_stepM rfl (R_pk_f rfl) ?_
                    refine WL_nil ?_
                    refine W_cond_f rfl ?_
                    refine W_skip ?_
                    refine W_seq ?_
                    refine W_region_l ?_
                    refine WL_stepM rfl (R_mv) ?_
                    refine WL_nil ?_
                    refine W_cond_f rfl ?_
                    refine W_skip ?_
                    exact ⟨(same_mov rfl (same_mov rfl (same_mov rfl (same_mov rfl (same_updo rfl (same_mov rfl (same_mov rfl (same_updo rfl (same_mov rfl (same_mov rfl (same_updo rfl (same_mov rfl (same_mov rfl (same_mov rfl (same_mov rfl (same_updo rfl (same_updo rfl (same_updo rfl (same_updo rfl (same_updo rfl (same_updo rfl (same_updo rfl (same_updo rfl (same_updo rfl (same_updo rfl (same_updo rfl (same_updo rfl (same_mov rfl (same_mov rfl (same_mov rfl (same_updo rfl (same_mov rfl (same_mov rfl (same_mov rfl (same_updo rfl (same_updo rfl (same_updo rfl (same_updo rfl (same_mov rfl (same_mov rfl (same_updo rfl (same_updo rfl (same_mov rfl (same_mov rfl (same_mov rfl (same_updo rfl (same_updo rfl (same_updo rfl (same_updo rfl (same_mov rfl (same_mov rfl (same_mov rfl (same_mov rfl (same_mov rfl (same_updo rfl (same_updo rfl (same_updo rfl (same_mov rfl (same_updo rfl (same_updo rfl (same_updo rfl (same_updo rfl (same_mov rfl (same_updo rfl (same_updo rfl (same_mov rfl (same_know rfl (same_mov rfl (same_updo rfl (same_know rfl (same_mov rfl (same_updo rfl (same_know rfl (same_mov rfl (same_updo rfl (same_updo rfl (same_updo rfl Same.refl))))))))))))))))))))))))))))))))))))))))))))))))))))))))))))))))))))))))))))), _, _, _, _, _, _, _, _, _, _, hS, H⟩
                  · refine WA_takeM 0 rfl rfl rfl (by kernel_rfl) (by kernel_rfl) (H.kp.sub (by simp)) (fun _ hC => R_mv) ?_
                    refine WA_take 1 rfl rfl rfl (by kernel_rfl) (by kernel_rfl) (H.kp.sub (by simp)) (fun _ hC => R_indexAddrA (off' := 0) Try.underlying31 Try.sizeOf23 rfl rfl (by omega) (by omega) rfl) ?_
                    refine WA_take 2 rfl rfl rfl (by kernel_rfl) (by kernel_rfl) (H.kp.sub (by simp)) (fun _ hC => R_load Try.isAgg23 rfl (hC.get .here) rfl) ?_
                    refine WA_takeM 3 rfl rfl rfl (by kernel_rfl) (by kernel_rfl) (H.kp.sub (by simp)) (fun _ hC => R_mv) ?_
                    refine WA_take 4 rfl rfl rfl (by kernel_rfl) (by kernel_rfl) (H.kp.sub (by simp)) (fun _ hC => R_sub (r := 1) rfl rfl (by decide)) ?_
                    refine WA_take 5 rfl rfl rfl (by kernel_rfl) (by kernel_rfl) (H.kp.sub (by simp)) (fun _ hC => R_indexAddrA (off' := 1) Try.underlying31 Try.sizeOf23 rfl rfl (by omega) (by omega) rfl) ?_
                    refine WA_take 6 rfl rfl rfl (by kernel_rfl) (by kernel_rfl) (H.kp.sub (by simp)) (fun _ hC => R_load Try.isAgg23 rfl (hC.get .here) rfl) ?_
                    refine WA_one (i := 7) (by kernel_rfl) ?_
                    (have _g : ob % 2 = 0 := hk1'; refine WI_call rfl (.inl rfl) (R_call rfl Try.call16 rfl) (either_second (x := z) (xs := x1) H) (fun _ _ hR _ => hR.2.kp.sub (by simp)) ?_; clear H; rintro _ w485 ⟨rfl, H⟩; skip)
                    refine WA_takeM 8 rfl rfl rfl (by kernel_rfl) (by kernel_rfl) (H.kp.sub (by simp)) (fun _ hC => R_mv) ?_
                    refine WA_take 9 rfl rfl rfl (by kernel_rfl) (by kernel_rfl) (H.kp.sub (by simp)) (fun _ hC => R_extract rfl rfl) ?_
                    refine WA_take 10 rfl rfl rfl (by kernel_rfl) (by kernel_rfl) (H.kp.sub (by simp)) (fun _ hC => R_extract rfl rfl) ?_
                    refine WA_take 11 rfl rfl rfl (by kernel_rfl) (by kernel_rfl) (H.kp.sub (by simp)) (fun _ hC => R_extract rfl rfl) ?_
                    refine WA_takeM 12 rfl rfl rfl (by kernel_rfl) (by kernel_rfl) (H.kp.sub (by simp)) (fun _ hC => R_as) ?_
                    refine WA_takeM 13 rfl rfl rfl (by kernel_rfl) (by kernel_rfl) (H.kp.sub (by simp)) (fun _ hC => R_as) ?_
                    refine WA_takeM 14 rfl rfl rfl (by kernel_rfl) (by kernel_rfl) (H.kp.sub (by simp)) (fun _ hC => R_as) ?_
                    refine WA_done (by kernel_rfl) ?_
                    refine W_seq ?_
                    refine W_region_l ?_
                    refine WL_stepM rfl (R_as) ?_
                    refine WL_nil ?_
                    refine W_seq ?_
                    refine W_seq ?_
                    refine W_region_l ?_
                    refine WL_stepM rfl (R_mv) ?_
                    refine WL_step rfl (R_indexAddrA (off' := 0) Try.underlying33 Try.sizeOf22 rfl rfl (by omega) (by omega) rfl) ?_
                    refine WL_step rfl (R_load Try.isAgg22 rfl (H.get (.there (.there (.there (.there (.there .here)))))) rfl) ?_
                    refine WL_step rfl (R_len_slice Try.underlying22 rfl) ?_
                    refine WL_step rfl (R_eq_t rfl rfl (by omega)) ?_
                    refine WL_nil ?_
                    refine W_cond_t rfl ?_
                    refine W_region_l ?_
                    refine WL_stepM rfl (R_as) ?_
                    refine WL_nil ?_
                    refine W_seq ?_
                    refine W_region_l ?_
                    refine WL_stepM rfl (R_mv) ?_
                    refine WL_stepM rfl (R_mv) ?_
                    refine WL_step rfl (R_add (r := 1) rfl rfl (by decide)) ?_
                    refine WL_step rfl (R_rem (r := 1) rfl rfl (by decide) (by decide)) ?_
                    refine WL_stepM rfl (R_as) ?_
                    refine WL_nil ?_
                    refine W_seq ?_
                    refine W_region_l ?_
                    refine WL_stepM rfl (R_mv) ?_
                    refine WL_step rfl (R_indexAddrA (off' := 1) Try.underlying33 Try.sizeOf22 rfl rfl (by omega) (by omega) rfl) ?_
                    refine WL_step rfl (R_load Try.isAgg22 rfl (H.get (.there (.there (.there (.there (.there .here)))))) rfl) ?_
                    refine WL_step rfl (R_len_slice Try.underlying22 rfl) ?_
                    refine WL_step rfl (R_gt_t rfl rfl (by omega)) ?_
                    refine WL_stepM rfl (R_as) ?_
                    refine WL_nil ?_
                    refine W_seq ?_
                    refine W_seq ?_
                    ((obtain ⟨by5, oy5, rfl, hcz⟩ := RdS.cell (i := 0) (u := I z) (hS.q1.rds (fun p hp => H.held p (by simp [hp]))) rfl)) <;> refine W_region_l ?_
                    refine WL_stepM rfl (R_mv) ?_
                    refine WL_stepM rfl (R_mv) ?_
                    refine WL_step rfl (R_ne_bool_f Try.underlying4 rfl rfl (by decide)) ?_
                    refine WL_stepM rfl (R_mv) ?_
                    refine WL_guard_t rfl rfl ?_
                    refine WL_stepM rfl (R_mv) ?_
                    refine WL_guard_t rfl rfl ?_
                    refine WL_stepM rfl (R_mv) ?_
                    refine WL_guard_t rfl rfl ?_
                    refine WL_stepM rfl (R_mv) ?_
                    refine WL_guard_t rfl rfl ?_
                    refine WL_stepM rfl (R_mv) ?_
                    refine WL_guard_t rfl rfl ?_
                    refine WL_step rfl (R_ne_f rfl rfl (by omega)) ?_
                    refine WL_guard_t rfl rfl ?_
                    refine WL_stepM rfl (R_mv) ?_
                    refine WL_guard_t rfl rfl ?_
                    refine WL_stepM rfl (R_mv) ?_
                    refine WL_guard_t rfl rfl ?_
                    refine WL_stepM rfl (R_mv) ?_
                    refine WL_guard_t rfl rfl ?_
                    refine WL_step rfl (R_indexAddrA (off' := 1) Try.underlying33 Try.sizeOf22 rfl rfl (by omega) (by omega) rfl) ?_
                    refine WL_guard_t rfl rfl ?_
                    refine WL_step rfl (R_load Try.isAgg22 rfl (H.get (.there (.there (.there (.there (.there .here)))))) rfl) ?_
                    refine WL_guard_t rfl rfl ?_
                    refine WL_step rfl (R_indexAddr Try.underlying22 Try.sizeOf3 rfl rfl (by omega) (by omega) idx_cast1) ?_
                    refine WL_guard_t rfl rfl ?_
                    refine WL_step rfl (R_load_cell Try.isAgg3 rfl hcz) ?_
                    refine WL_guard_t rfl rfl ?_
                    refine WL_step rfl (R_ne_f rfl rfl (by omega)) ?_
                    refine WL_guard_t rfl rfl ?_
                    refine WL_stepM rfl (R_pk_f rfl) ?_
                    refine WL_guard_t rfl rfl ?_
                    refine WL_stepM rfl (R_pk_t rfl) ?_
                    refine WL_stepM rfl (R_pk_f rfl) ?_
                    refine WL_stepM rfl (R_mv) ?_
                    refine WL_guard_t rfl rfl ?_
                    refine WL_stepM rfl (R_mv) ?_
                    refine WL_guard_t rfl rfl ?_
                    refine WL_step rfl (R_not_t rfl) ?_
                    refine WL_guard_t rfl rfl ?_
                    refine WL_stepM rfl (R_mv) ?_
                    refine WL_guard_f rfl rfl (by decide) ?_
                    refine WL_guard_f rfl rfl (by decide) ?_
                    refine WL_guard_f rfl rfl (by decide) ?_
                    refine WL_guard_n rfl rfl ?_
                    refine WL_guard_n rfl rfl ?_
                    refine WL_guard_f rfl rfl (by decide) ?_
                    refine WL_guard_t rfl rfl ?_
                    refine WL_stepM rfl (R_pk_f rfl) ?_
                    refine WL_stepM rfl (R_pk_f rfl) ?_
                    refine WL_nil ?_
                    refine W_cond_f rfl ?_
                    refine W_skip ?_
                    refine W_seq ?_
                    refine W_region_l ?_
                    refine WL_stepM rfl (R_mv) ?_
                    refine WL_nil ?_
                    refine W_cond_t rfl ?_
                    refine W_region_l ?_
                    refine WL_stepM rfl (R_mv) ?_
                    refine WL_stepM rfl (R_mv) ?_
                    refine WL_step rfl (R_indexAddrA (off' := 1) Try.underlying33 Try.sizeOf22 rfl rfl (by omega) (by omega) rfl) ?_
                    refine WL_step rfl (R_load Try.isAgg22 rfl (H.get (.there (.there (.there (.there (.there .here)))))) rfl) ?_
                    (refine WL_tailQ (a := I z) (xs := x1.map I) hS.q1 Try.underlying22 Try.sizeOf3 rfl rfl ?_; intro v5 hQ5; obtain ⟨a5, c5, hv5⟩ := hQ5.form; rw [List.length_map] at hv5; subst hv5)
                    refine WL_step rfl (R_indexAddrA (off' := 1) Try.underlying33 Try.sizeOf22 rfl rfl (by omega) (by omega) rfl) ?_
                    (refine WL_effu rfl (E_store (v := (.slice _ _ _)) H Try.sizeOf22 rfl rfl rfl (.there (.there (.there (.there (.there .here))))) (by simp)) ?_; clear H; intro w597 H)
                    refine WL_nil ?_
                    (exact ⟨(same_updn (same_updo rfl (same_updo rfl (same_updo rfl (same_updo rfl (same_mov rfl (same_mov rfl (same_mov rfl (same_mov rfl (same_mov rfl (same_updo rfl (same_updo rfl (same_updo rfl (same_updo rfl (same_updo rfl (same_updo rfl (same_mov rfl (same_updo rfl (same_mov rfl (same_mov rfl (same_mov rfl (same_mov rfl (same_mov rfl (same_updo rfl (same_updo rfl (same_updo rfl (same_updo rfl (same_updo rfl (same_mov rfl (same_mov rfl (same_mov rfl (same_updo rfl (same_mov rfl (same_mov rfl (same_mov rfl (same_mov rfl (same_mov rfl (same_updo rfl (same_mov rfl (same_mov rfl (same_mov rfl (same_updo rfl (same_updo rfl (same_updo rfl (same_updo rfl (same_mov rfl (same_mov rfl (same_updo rfl (same_updo rfl (same_mov rfl (same_mov rfl (same_mov rfl (same_updo rfl (same_updo rfl (same_updo rfl (same_updo rfl (same_mov rfl (same_mov rfl (same_mov rfl (same_mov rfl (same_mov rfl (same_updo rfl (same_updo rfl (same_updo rfl (same_mov rfl (same_updo rfl (same_updo rfl (same_updo rfl (same_updo rfl (same_mov rfl (same_updo rfl (same_updo rfl (same_mov rfl (same_know rfl (same_mov rfl (same_updo rfl (same_know rfl (same_mov rfl (same_updo rfl (same_know rfl (same_mov rfl (same_updo rfl (same_updo rfl (same_updo rfl Same.refl)))))))))))))))))))))))))))))))))))))))))))))))))))))))))))))))))))))))))))))))))))), _, _, _, _, _, _, _, _, _, _, ⟨hS.q0, hQ5, hS.l0, (by have h1 := hS.l1; simp at h1 ⊢; omega)⟩, H⟩)
                  · refine WA_takeM 0 rfl rfl rfl (by kernel_rfl) (by kernel_rfl) (H.kp.sub (by simp)) (fun _ hC => R_mv) ?_
                    refine WA_take 1 rfl rfl rfl (by kernel_rfl) (by kernel_rfl) (H.kp.sub (by simp)) (fun _ hC => R_indexAddrA (off' := 0) Try.underlying31 Try.sizeOf23 rfl rfl (by omega) (by omega) rfl) ?_
                    refine WA_take 2 rfl rfl rfl (by kernel_rfl) (by kernel_rfl) (H.kp.sub (by simp)) (fun _ hC => R_load Try.isAgg23 rfl (hC.get .here) rfl) ?_
                    refine WA_takeM 3 rfl rfl rfl (by kernel_rfl) (by kernel_rfl) (H.kp.sub (by simp)) (fun _ hC => R_mv) ?_
                    refine WA_take 4 rfl rfl rfl (by kernel_rfl) (by kernel_rfl) (H.kp.sub (by simp)) (fun _ hC => R_sub (r := 1) rfl rfl (by decide)) ?_
                    refine WA_take 5 rfl rfl rfl (by kernel_rfl) (by kernel_rfl) (H.kp.sub (by simp)) (fun _ hC => R_indexAddrA (off' := 1) Try.underlying31 Try.sizeOf23 rfl rfl (by omega) (by omega) rfl) ?_
                    refine WA_take 6 rfl rfl rfl (by kernel_rfl) (by kernel_rfl) (H.kp.sub (by simp)) (fun _ hC => R_load Try.isAgg23 rfl (hC.get .here) rfl) ?_
                    refine WA_one (i := 7) (by kernel_rfl) ?_
                    (have _g : ob % 2 = 0 := hk1'; refine WI_call rfl (.inl rfl) (R_call rfl Try.call16 rfl) (either_first (x := z) (xs := x0) p1 H) (fun _ _ hR _ => hR.2.kp.sub (by simp)) ?_; clear H; rintro _ w608 ⟨rfl, H⟩; skip)
                    refine WA_takeM 8 rfl rfl rfl (by kernel_rfl) (by kernel_rfl) (H.kp.sub (by simp)) (fun _ hC => R_mv) ?_
                    refine WA_take 9 rfl rfl rfl (by kernel_rfl) (by kernel_rfl) (H.kp.sub (by simp)) (fun _ hC => R_extract rfl rfl) ?_
                    refine WA_take 10 rfl rfl rfl (by kernel_rfl) (by kernel_rfl) (H.kp.sub (by simp)) (fun _ hC => R_extract rfl rfl) ?_
                    refine WA_take 11 rfl rfl rfl (by kernel_rfl) (by kernel_rfl) (H.kp.sub (by simp)) (fun _ hC => R_extract rfl rfl) ?_
                    refine WA_takeM 12 rfl rfl rfl (by kernel_rfl) (by kernel_rfl) (H.kp.sub (by simp)) (fun _ hC => R_as) ?_
                    refine WA_takeM 13 rfl rfl rfl (by kernel_rfl) (by kernel_rfl) (H.kp.sub (by simp)) (fun _ hC => R_as) ?_
                    refine WA_takeM 14 rfl rfl rfl (by kernel_rfl) (by kernel_rfl) (H.kp.sub (by simp)) (fun _ hC => R_as) ?_
                    refine WA_done (by kernel_rfl) ?_
                    refine W_seq ?_
                    refine W_region_l ?_
                    refine WL_stepM rfl (R_as) ?_
                    refine WL_nil ?_
                    refine W_seq ?_
                    refine W_seq ?_
                    refine W_region_l ?_
                    refine WL_stepM rfl (R_mv) ?_
                    refine WL_step rfl (R_indexAddrA (off' := 0) Try.underlying33 Try.sizeOf22 rfl rfl (by omega) (by omega) rfl) ?_
                    refine WL_step rfl (R_load Try.isAgg22 rfl (H.get (.there (.there (.there (.there (.there .here)))))) rfl) ?_
                    refine WL_step rfl (R_len_slice Try.underlying22 rfl) ?_
                    refine WL_step rfl (R_eq_f rfl rfl (by omega)) ?_
                    refine WL_nil ?_
                    refine W_cond_f rfl ?_
                    refine W_skip ?_
                    refine W_seq ?_
                    refine W_region_l ?_
                    refine WL_stepM rfl (R_mv) ?_
                    refine WL_stepM rfl (R_mv) ?_
                    refine WL_step rfl (R_add (r := 0) rfl rfl (by decide)) ?_
                    refine WL_step rfl (R_rem (r := 0) rfl rfl (by decide) (by decide)) ?_
                    refine WL_stepM rfl (R_as) ?_
                    refine WL_nil ?_
                    refine W_seq ?_
                    refine W_region_l ?_
                    refine WL_stepM rfl (R_mv) ?_
                    refine WL_step rfl (R_indexAddrA (off' := 0) Try.underlying33 Try.sizeOf22 rfl rfl (by omega) (by omega) rfl) ?_
                    refine WL_step rfl (R_load Try.isAgg22 rfl (H.get (.there (.there (.there (.there (.there .here)))))) rfl) ?_
                    refine WL_step rfl (R_len_slice Try.underlying22 rfl) ?_
                    refine WL_step rfl (R_gt_t rfl rfl (by omega)) ?_
                    refine WL_stepM rfl (R_as) ?_
                    refine WL_nil ?_
                    refine W_seq ?_
                    refine W_seq ?_
                    ((obtain ⟨by5, oy5, rfl, hcz⟩ := RdS.cell (i := 0) (u := I z) (hS.q0.rds (fun p hp => H.held p (by simp [hp]))) rfl)) <;> refine W_region_l ?_
                    refine WL_stepM rfl (R_mv) ?_
                    refine WL_stepM rfl (R_mv) ?_
                    refine WL_step rfl (R_ne_bool_f Try.underlying4 rfl rfl (by decide)) ?_
                    refine WL_stepM rfl (R_mv) ?_
                    refine WL_guard_t rfl rfl ?_
                    refine WL_stepM rfl (R_mv) ?_
                    refine WL_guard_t rfl rfl ?_
                    refine WL_stepM rfl (R_mv) ?_
                    refine WL_guard_t rfl rfl ?_
                    refine WL_stepM rfl (R_mv) ?_
                    refine WL_guard_t rfl rfl ?_
                    refine WL_stepM rfl (R_mv) ?_
                    refine WL_guard_t rfl rfl ?_
                    refine WL_step rfl (R_ne_f rfl rfl (by omega)) ?_
                    refine WL_guard_t rfl rfl ?_
                    refine WL_stepM rfl (R_mv) ?_
                    refine WL_guard_t rfl rfl ?_
                    refine WL_stepM rfl (R_mv) ?_
                    refine WL_guard_t rfl rfl ?_
                    refine WL_stepM rfl (R_mv) ?_
                    refine WL_guard_t rfl rfl ?_
                    refine WL_step rfl (R_indexAddrA (off' := 0) Try.underlying33 Try.sizeOf22 rfl rfl (by omega) (by omega) rfl) ?_
                    refine WL_guard_t rfl rfl ?_
                    refine WL_step rfl (R_load Try.isAgg22 rfl (H.get (.there (.there (.there (.there (.there .here)))))) rfl) ?_
                    refine WL_guard_t rfl rfl ?_
                    refine WL_step rfl (R_indexAddr Try.underlying22 Try.sizeOf3 rfl rfl (by omega) (by omega) idx_cast1) ?_
                    refine WL_guard_t rfl rfl ?_
                    refine WL_step rfl (R_load_cell Try.isAgg3 rfl hcz) ?_
                    refine WL_guard_t rfl rfl ?_
                    refine WL_step rfl (R_ne_f rfl rfl (by omega)) ?_
                    refine WL_guard_t rfl rfl ?_
                    refine WL_stepM rfl (R_pk_f rfl) ?_
                    refine WL_guard_t rfl rfl ?_
                    refine WL_stepM rfl (R_pk_t rfl) ?_
                    refine WL_stepM rfl (R_pk_f rfl) ?_
                    refine WL_stepM rfl (R_mv) ?_
                    refine WL_guard_t rfl rfl ?_
                    refine WL_stepM rfl (R_mv) ?_
                    refine WL_guard_t rfl rfl ?_
                    refine WL_step rfl (R_not_t rfl) ?_
                    refine WL_guard_t rfl rfl ?_
                    refine WL_stepM rfl (R_mv) ?_
                    refine WL_guard_f rfl rfl (by decide) ?_
                    refine WL_guard_f rfl rfl (by decide) ?_
                    refine WL_guard_f rfl rfl (by decide) ?_
                    refine WL_guard_n rfl rfl ?_
                    refine WL_guard_n rfl rfl ?_
                    refine WL_guard_f rfl rfl (by decide) ?_
                    refine WL_guard_t rfl rfl ?_
                    refine WL_stepM rfl (R_pk_f rfl) ?_
                    refine WL_stepM rfl (R_pk_f rfl) ?_
                    refine WL_nil ?_
                    refine W_cond_f rfl ?_
                    refine W_skip ?_
                    refine W_seq ?_
                    refine W_region_l ?_
                    refine WL_stepM rfl (R_mv) ?_
                    refine WL_nil ?_
                    refine W_cond_t rfl ?_
                    refine W_region_l ?_
                    refine WL_stepM rfl (R_mv) ?_
                    refine WL_stepM rfl (R_mv) ?_
                    refine WL_step rfl (R_indexAddrA (off' := 0) Try.underlying33 Try.sizeOf22 rfl rfl (by omega) (by omega) rfl) ?_
                    refine WL_step rfl (R_load Try.isAgg22 rfl (H.get (.there (.there (.there (.there (.there .here)))))) rfl) ?_
                    (refine WL_tailQ (a := I z) (xs := x0.map I) hS.q0 Try.underlying22 Try.sizeOf3 rfl rfl ?_; intro v5 hQ5; obtain ⟨a5, c5, hv5⟩ := hQ5.form; rw [List.length_map] at hv5; subst hv5)
                    refine WL_step rfl (R_indexAddrA (off' := 0) Try.underlying33 Try.sizeOf22 rfl rfl (by omega) (by omega) rfl) ?_
                    (refine WL_effu rfl (E_store (v := (.slice _ _ _)) H Try.sizeOf22 rfl rfl rfl (.there (.there (.there (.there (.there .here))))) (by simp)) ?_; clear H; intro w718 H)
                    refine WL_nil ?_
                    (have _g : ob % 2 = 0 := hk1'; exact ⟨(same_updn (same_updo rfl (same_updo rfl (same_updo rfl (same_updo rfl (same_mov rfl (same_mov rfl (same_mov rfl (same_mov rfl (same_mov rfl (same_updo rfl (same_updo rfl (same_updo rfl (same_updo rfl (same_updo rfl (same_updo rfl (same_mov rfl (same_updo rfl (same_mov rfl (same_mov rfl (same_mov rfl (same_mov rfl (same_mov rfl (same_updo rfl (same_updo rfl (same_updo rfl (same_updo rfl (same_updo rfl (same_mov rfl (same_mov rfl (same_mov rfl (same_updo rfl (same_mov rfl (same_mov rfl (same_mov rfl (same_mov rfl (same_mov rfl (same_updo rfl (same_mov rfl (same_mov rfl (same_mov rfl (same_updo rfl (same_updo rfl (same_updo rfl (same_updo rfl (same_mov rfl (same_mov rfl (same_updo rfl (same_updo rfl (same_mov rfl (same_mov rfl (same_updo rfl (same_updo rfl (same_updo rfl (same_updo rfl (same_mov rfl (same_mov rfl (same_mov rfl (same_mov rfl (same_mov rfl (same_updo rfl (same_updo rfl (same_updo rfl (same_mov rfl (same_updo rfl (same_updo rfl (same_updo rfl (same_updo rfl (same_mov rfl (same_updo rfl (same_updo rfl (same_mov rfl (same_know rfl (same_mov rfl (same_updo rfl (same_know rfl (same_mov rfl (same_updo rfl (same_know rfl (same_mov rfl (same_updo rfl (same_updo rfl (same_updo rfl Same.refl))))))))))))))))))))))))))))))))))))))))))))))))))))))))))))))))))))))))))))))))))), _, _, _, _, _, _, _, _, _, _, ⟨hQ5, hS.q1, (by have h1 := hS.l0; simp at h1 ⊢; omega), hS.l1⟩, H⟩)
          · (clear H; clear hk0 hk1 hl0 hl1 hS; rintro E w1 ⟨x0, x1, s0, r0, s1, r1, v0, v1, M0, M1, hS, H⟩; have hk0 := hS.q0.keys; have hk1 := hS.q1.keys; obtain ⟨a0, c0, rfl⟩ := hS.form0; obtain ⟨a1, c1, rfl⟩ := hS.form1)
            refine W_seq ?_
            (refine W_drawH (fun _ => false) (by kernel_rfl) H ?_; clear H; intro w723 H)
            refine WA_take 0 rfl rfl rfl (by kernel_rfl) (by kernel_rfl) H (fun _ hC => R_indexAddrA (off' := 0) Try.underlying31 Try.sizeOf23 rfl rfl (by omega) (by omega) rfl) ?_
            refine WA_take 1 rfl rfl rfl (by kernel_rfl) (by kernel_rfl) H (fun _ hC => R_load Try.isAgg23 rfl (hC.get (.there (.there (.there (.there (.there (.there (.there .here)))))))) rfl) ?_
            refine WA_take 3 rfl rfl rfl (by kernel_rfl) (by kernel_rfl) H (fun _ hC => R_indexAddrA (off' := 0) Try.underlying33 Try.sizeOf22 rfl rfl (by omega) (by omega) rfl) ?_
            refine WA_take 4 rfl rfl rfl (by kernel_rfl) (by kernel_rfl) H (fun _ hC => R_load Try.isAgg22 rfl (hC.get (.there (.there (.there (.there (.there .here)))))) rfl) ?_
            refine WA_take 5 rfl rfl rfl (by kernel_rfl) (by kernel_rfl) H (fun _ hC => R_len_slice Try.underlying22 rfl) ?_
            refine WA_one (i := 2) (by kernel_rfl) ?_
            (refine WI_call rfl (.inl rfl) (R_call rfl Try.call21 rfl) (by exact len_ret (buf := x0.map I) (k := x0.length) (by simp) (H.get .here) (H.get (.there .here))) (by first | exact fun _ _ hR _ => H.seq0 hR.2 | exact fun _ _ hR h => Bool.noConfusion h | exact fun _ _ hR _ => (H.seq0 hR.2).none (by repeat' first | exact kNil | apply kCons | apply kApp | assumption | exact OwnS.keys (by assumption)) | exact fun _ _ hR _ => (H.seq0 hR.2).dropN (by repeat' first | exact kNil | apply kCons | apply kApp | assumption | exact OwnS.keys (by assumption))) ?_; rintro _ w730 ⟨rfl, H1⟩; replace H := H.seq0 H1; clear H1)
            refine WA_take 6 rfl rfl rfl (by kernel_rfl) (by kernel_rfl) H (fun _ hC => R_ne_f rfl rfl (by omega)) ?_
            refine WA_takeM 7 rfl rfl rfl (by kernel_rfl) (by kernel_rfl) H (fun _ hC => R_mv) ?_
            refine WA_takeG 8 rfl rfl rfl rfl (by kernel_rfl) (by kernel_rfl) H (fun _ hC => R_indexAddrA (off' := 1) Try.underlying31 Try.sizeOf23 rfl rfl (by omega) (by omega) rfl) ?_
            refine WA_takeG 9 rfl rfl rfl rfl (by kernel_rfl) (by kernel_rfl) H (fun _ hC => R_load Try.isAgg23 rfl (hC.get (.there (.there (.there (.there (.there (.there (.there .here)))))))) rfl) ?_
            refine WA_takeG 11 rfl rfl rfl rfl (by kernel_rfl) (by kernel_rfl) H (fun _ hC => R_indexAddrA (off' := 1) Try.underlying33 Try.sizeOf22 rfl rfl (by omega) (by omega) rfl) ?_
            refine WA_takeG 12 rfl rfl rfl rfl (by kernel_rfl) (by kernel_rfl) H (fun _ hC => R_load Try.isAgg22 rfl (hC.get (.there (.there (.there (.there (.there .here)))))) rfl) ?_
            refine WA_takeG 13 rfl rfl rfl rfl (by kernel_rfl) (by kernel_rfl) H (fun _ hC => R_len_slice Try.underlying22 rfl) ?_
            refine WA_one (i := 10) (by kernel_rfl) ?_
            (refine WI_call rfl (.inr ⟨_, _, rfl, rfl⟩) (R_call rfl Try.call21 rfl) (by exact len_ret (buf := x1.map I) (k := x1.length) (by simp) (H.get (.there (.there .here))) (H.get (.there (.there (.there .here))))) (by first | exact fun _ _ hR _ => H.seq0 hR.2 | exact fun _ _ hR h => Bool.noConfusion h | exact fun _ _ hR _ => (H.seq0 hR.2).none (by repeat' first | exact kNil | apply kCons | apply kApp | assumption | exact OwnS.keys (by assumption)) | exact fun _ _ hR _ => (H.seq0 hR.2).dropN (by repeat' first | exact kNil | apply kCons | apply kApp | assumption | exact OwnS.keys (by assumption))) ?_; rintro _ w739 ⟨rfl, H1⟩; replace H := H.seq0 H1; clear H1)
            refine WA_takeG 14 rfl rfl rfl rfl (by kernel_rfl) (by kernel_rfl) H (fun _ hC => R_ne_f rfl rfl (by omega)) ?_
            refine WA_takeM 15 rfl rfl rfl (by kernel_rfl) (by kernel_rfl) H (fun _ hC => R_pk_f rfl) ?_
            refine WA_done (by kernel_rfl) ?_
            refine W_cond_f rfl ?_
            refine W_skip ?_
            refine W_region_l ?_
            refine WL_stepM rfl (R_mv) ?_
            refine WL_step rfl (R_add rfl rfl (w_i64 (by omega))) ?_
            refine WL_stepM rfl (R_as) ?_
            refine WL_nil ?_
            exact ⟨(same_mov rfl (same_updo rfl (same_mov rfl (same_mov rfl (same_updo rfl (same_updo rfl (same_updo rfl (same_updo rfl (same_updo rfl (same_updo rfl (same_updo rfl (same_mov rfl (same_updo rfl (same_updo rfl (same_updo rfl (same_updo rfl (same_updo rfl (same_updo rfl (same_updo rfl (same_in rfl (same_mov rfl (same_updo rfl (same_updo rfl (same_updo rfl (same_updn (same_updo rfl (same_updo rfl (same_updo rfl (same_mov rfl (same_mov rfl (same_know rfl (same_in rfl (same_mov rfl (same_updo rfl (same_updo rfl (same_mov rfl (same_mov rfl same_ovr))))))))))))))))))))))))))))))))))))), k + 1, by omega, x0, x1, _, _, _, _, _, _, M0, M1, by omega, by omega, rfl, hS, (ahead4 H).pop hbo⟩
        · refine WL_stepM rfl (R_as) ?_
          refine WL_nil ?_
          refine W_seqS [(6, 6), (13, 21), (63, 213)] (fun E w' => ∃ x0 x1 s0 r0 s1 r1 v0 v1 M0 M1, BS w.heap.size m0 m1 x0 x1 v0 v1 M0 M1 ∧ Hp w ((p0, bp b0) :: (b0, bc m0 x0 s0 r0) :: (p1, bp b1) :: (b1, bc m1 x1 s1 r1) :: (bo, blk [I ok, I on, I ob] 35) :: bTail p0 p1 ab am aw m0 m1 v0 v1 (M0 ++ M1)) w') ?c11b ?k11b
          · refine W_seq ?_
            refine W_region_l ?_
            refine WL_step rfl (R_fieldAddr (off' := 0) Try.underlying35 rfl Try.sizeOf3 (by decide) rfl rfl) ?_
            refine WL_step rfl (R_load Try.isAgg3 rfl (H.get (.there (.there (.there (.there .here))))) rfl) ?_
            refine WL_nil ?_
            refine W_block ?_
            refine W_seq ?_
            refine W_region_l ?_
            refine WL_step rfl (R_eq rfl rfl) ?_
            refine WL_stepM rfl (R_as) ?_
            refine WL_nil ?_
            refine W_if rfl (fun h765 => ?_) (fun h765 => ?_)
            · refine W_seq ?_
              ((have _g : ob % 2 = 1 := hk1'; by_cases hr : n1 < m1)) <;> (refine W_drawH (fun _ => false) (by kernel_rfl) H ?_; clear H; intro w767 H)
              · refine WA_takeM 0 rfl rfl rfl (by kernel_rfl) (by kernel_rfl) H (fun _ hC => R_mv) ?_
                refine WA_take 1 rfl rfl rfl (by kernel_rfl) (by kernel_rfl) H (fun _ hC => R_indexAddrA (off' := 1) Try.underlying33 Try.sizeOf22 rfl rfl (by omega) (by omega) rfl) ?_
                refine WA_take 2 rfl rfl rfl (by kernel_rfl) (by kernel_rfl) H (fun _ hC => R_load Try.isAgg22 rfl (hC.get (.there (.there (.there (.there (.there .here)))))) rfl) ?_
                refine WA_take 3 rfl rfl rfl (by kernel_rfl) (by kernel_rfl) H (fun _ hC => R_len_slice Try.underlying22 rfl) ?_
                refine WA_takeM 4 rfl rfl rfl (by kernel_rfl) (by kernel_rfl) H (fun _ hC => R_mv) ?_
                refine WA_take 5 rfl rfl rfl (by kernel_rfl) (by kernel_rfl) H (fun _ hC => R_indexAddrA (off' := 1) Try.underlying32 Try.sizeOf3 rfl rfl (by omega) (by omega) rfl) ?_
                refine WA_take 6 rfl rfl rfl (by kernel_rfl) (by kernel_rfl) H (fun _ hC => R_load Try.isAgg3 rfl (hC.get (.there (.there (.there (.there (.there (.there .here))))))) rfl) ?_
                refine WA_take 7 rfl rfl rfl (by kernel_rfl) (by kernel_rfl) H (fun _ hC => R_lt_t rfl rfl (by omega)) ?_
                refine WA_takeM 8 rfl rfl rfl (by kernel_rfl) (by kernel_rfl) H (fun _ hC => R_as) ?_
                refine WA_done (by kernel_rfl) ?_
                refine W_seq ?_
                refine W_seq ?_
                (have _g : ob % 2 = 1 := hk1'; refine W_draw (Kp [(ab, blk [ptr p0 0, ptr p1 0] 31), (bo, blk [I ok, I on, I ob] 35)]) (fun _ => false) (by kernel_rfl) H ?_; clear H; intro w780 H)
                refine WA_takeM 0 rfl rfl rfl (by kernel_rfl) (by kernel_rfl) (H.kp.sub (by simp)) (fun _ hC => R_mv) ?_
                refine WA_take 1 rfl rfl rfl (by kernel_rfl) (by kernel_rfl) (H.kp.sub (by simp)) (fun _ hC => R_indexAddrA (off' := 1) Try.underlying31 Try.sizeOf23 rfl rfl (by omega) (by omega) rfl) ?_
                refine WA_take 2 rfl rfl rfl (by kernel_rfl) (by kernel_rfl) (H.kp.sub (by simp)) (fun _ hC => R_load Try.isAgg23 rfl (hC.get .here) rfl) ?_
                refine WA_take 3 rfl rfl rfl (by kernel_rfl) (by kernel_rfl) (H.kp.sub (by simp)) (fun _ hC => R_fieldAddr (off' := 1) Try.underlying35 rfl Try.sizeOf3 (by decide) rfl rfl) ?_
                refine WA_take 4 rfl rfl rfl (by kernel_rfl) (by kernel_rfl) (H.kp.sub (by simp)) (fun _ hC => R_load Try.isAgg3 rfl (hC.get (.there .here)) rfl) ?_
                refine WA_takeM 6 rfl rfl rfl (by kernel_rfl) (by kernel_rfl) (H.kp.sub (by simp)) (fun _ hC => R_mv) ?_
                refine WA_one (i := 5) (by kernel_rfl) ?_
                (have _g : ob % 2 = 1 := hk1'; refine WI_call rfl (.inl rfl) (R_call rfl Try.call15 rfl) (ringI_room (xs := x1) on (H.get (.there (.there .here))) (H.get (.there (.there (.there .here)))) (by rw [hn1]; exact hr)) (fun _ _ hR _ => (H.seq hR.2 (okSeq_set (.there (.there (.there .here))) okSeq_nil)).kp.sub (by simp)) ?_; rintro _ w788 ⟨rfl, H1⟩; replace H := H.seq H1 (okSeq_set (.there (.there (.there .here))) okSeq_nil); clear H1)
                refine WA_take 7 rfl rfl rfl (by kernel_rfl) (by kernel_rfl) (H.kp.sub (by simp)) (fun _ hC => R_ne_bool_f Try.underlying4 rfl rfl (by decide)) ?_
                refine WA_done (by kernel_rfl) ?_
                refine W_cond_f rfl ?_
                refine W_skip ?_
                refine W_seq ?_
                refine W_region_l ?_
                refine WL_stepM rfl (R_mv) ?_
                refine WL_nil ?_
                refine W_cond_t rfl ?_
                (have _g : ob % 2 = 1 := hk1'; refine W_draw (Kp [(aw, blk [.slice a0 n0 c0, .slice a1 n1 c1] 33), (bo, blk [I ok, I on, I ob] 35)]) (fun i => Nat.ble 8 i) (by kernel_rfl) H ?_; clear H; intro w798 H)
                refine WA_takeM 0 rfl rfl rfl (by kernel_rfl) (by kernel_rfl) (H.kp.sub (by simp)) (fun _ hC => R_mv) ?_
                refine WA_takeM 1 rfl rfl rfl (by kernel_rfl) (by kernel_rfl) (H.kp.sub (by simp)) (fun _ hC => R_mv) ?_
                refine WA_take 2 rfl rfl rfl (by kernel_rfl) (by kernel_rfl) (H.kp.sub (by simp)) (fun _ hC => R_indexAddrA (off' := 1) Try.underlying33 Try.sizeOf22 rfl rfl (by omega) (by omega) rfl) ?_
                refine WA_take 3 rfl rfl rfl (by kernel_rfl) (by kernel_rfl) (H.kp.sub (by simp)) (fun _ hC => R_load Try.isAgg22 rfl (hC.get .here) rfl) ?_
                refine WA_take 4 rfl rfl rfl (by kernel_rfl) (by kernel_rfl) (H.kp.sub (by simp)) (fun _ hC => R_fieldAddr (off' := 1) Try.underlying35 rfl Try.sizeOf3 (by decide) rfl rfl) ?_
                refine WA_take 5 rfl rfl rfl (by kernel_rfl) (by kernel_rfl) (H.kp.sub (by simp)) (fun _ hC => R_load Try.isAgg3 rfl (hC.get (.there .here)) rfl) ?_
                refine WA_one (i := 6) (by kernel_rfl) ?_
                (refine WI_effn rfl (.inl rfl) (E_buildOnes (vs := [(.int _ _)]) H Try.underlying22 Try.sizeOf3 Try.zeroValue3 rfl rfl (by decide) rfl rfl (by simp [Value.oneCell'])) (fun _ _ H => (by first | exact fun h => absurd h (by decide) | exact fun _ => H | exact fun _ => H.none (by repeat' first | exact kNil | apply kCons | apply kApp | assumption | exact OwnS.keys (by assumption)) | exact fun _ => H.dropN (by repeat' first | exact kNil | apply kCons | apply kApp | assumption | exact OwnS.keys (by assumption)) | exact fun _ => H.pop (by assumption) | exact fun _ => (H.pop (by assumption)).pop (by assumption) | exact fun _ => H.kp | exact fun _ => H.kp.tail | exact fun _ => H.kp.tail.tail | exact fun _ => H.kp.tail.tail.tail | exact fun _ => H.kp.sub (by simp) | exact fun _ => Kp.nil | exact fun _ => H.kh (by simp) (by repeat' first | exact kNil | apply kCons | apply kApp | assumption | exact OwnS.keys (by assumption)))) ?_; clear H; intro b806 w806 hb806 H)
                refine WA_one (i := 7) (by kernel_rfl) ?_
                (have _g : ob % 2 = 1 := hk1'; have hsn : x1.map I ++ [I on] = (x1 ++ [on]).map I := (by simp); refine WI_effm rfl (.inl rfl) (E_appendQ (news := [I on]) (m := 1) H (.there (.there (.there (.there (.there (.there (.there (.there (.there (AtM.app _ .last)))))))))) hS.q1 Try.underlying22 Try.typeInfo3 rfl rfl rfl rfl rfl rfl (src_one Try.underlying22 (H.get .here) rfl) (by rw [List.length_map]; omega) (by rw [List.length_map]; simp [Try.t3]; omega)) (fun _ _ H => (by first | exact fun h => absurd h (by decide) | exact fun _ => H | exact fun _ => H.none (by repeat' first | exact kNil | apply kCons | apply kApp | assumption | exact OwnS.keys (by assumption)) | exact fun _ => H.dropN (by repeat' first | exact kNil | apply kCons | apply kApp | assumption | exact OwnS.keys (by assumption)) | exact fun _ => H.pop (by assumption) | exact fun _ => (H.pop (by assumption)).pop (by assumption) | exact fun _ => H.kp | exact fun _ => H.kp.tail | exact fun _ => H.kp.tail.tail | exact fun _ => H.kp.tail.tail.tail | exact fun _ => H.kp.sub (by simp) | exact fun _ => Kp.nil | exact fun _ => H.kh (by simp) (by repeat' first | exact kNil | apply kCons | apply kApp | assumption | exact OwnS.keys (by assumption)))) ?_; clear H; intro v5 M5 w808 hQ5 H; replace H := H.pop (by assumption); rw [hsn] at hQ5; obtain ⟨a5, c5, hv5⟩ := hQ5.form; rw [List.length_map] at hv5; subst hv5)
                refine WA_one (i := 8) (by kernel_rfl) ?_
                refine WI_value rfl (.inl rfl) (R_indexAddrA (off' := 1) Try.underlying33 Try.sizeOf22 rfl rfl (by omega) (by omega) rfl) (by first | exact fun h => absurd h (by decide) | exact fun _ => H | exact fun _ => H.none (by repeat' first | exact kNil | apply kCons | apply kApp | assumption | exact OwnS.keys (by assumption)) | exact fun _ => H.dropN (by repeat' first | exact kNil | apply kCons | apply kApp | assumption | exact OwnS.keys (by assumption)) | exact fun _ => H.pop (by assumption) | exact fun _ => (H.pop (by assumption)).pop (by assumption) | exact fun _ => H.kp | exact fun _ => H.kp.tail | exact fun _ => H.kp.tail.tail | exact fun _ => H.kp.tail.tail.tail | exact fun _ => H.kp.sub (by simp) | exact fun _ => Kp.nil | exact fun _ => H.kh (by simp) (by repeat' first | exact kNil | apply kCons | apply kApp | assumption | exact OwnS.keys (by assumption))) ?_
                refine WA_one (i := 9) (by kernel_rfl) ?_
                (refine WI_effu rfl (.inl rfl) (E_store (v := (.slice _ _ _)) H Try.sizeOf22 rfl rfl rfl (.there (.there (.there (.there (.there .here))))) (by simp)) (fun _ H => (by first | exact fun h => absurd h (by decide) | exact fun _ => H | exact fun _ => H.none (by repeat' first | exact kNil | apply kCons | apply kApp | assumption | exact OwnS.keys (by assumption)) | exact fun _ => H.dropN (by repeat' first | exact kNil | apply kCons | apply kApp | assumption | exact OwnS.keys (by assumption)) | exact fun _ => H.pop (by assumption) | exact fun _ => (H.pop (by assumption)).pop (by assumption) | exact fun _ => H.kp | exact fun _ => H.kp.tail | exact fun _ => H.kp.tail.tail | exact fun _ => H.kp.tail.tail.tail | exact fun _ => H.kp.sub (by simp) | exact fun _ => Kp.nil | exact fun _ => H.kh (by simp) (by repeat' first | exact kNil | apply kCons | apply kApp | assumption | exact OwnS.keys (by assumption)))) ?_; clear H; intro w812 H)
                refine WA_done (by kernel_rfl) ?_
                (have _g : ob % 2 = 1 := hk1'; exact ⟨(same_updn (same_updo rfl (same_updo rfl (same_updo rfl (same_updo rfl (same_updo rfl (same_updo rfl (same_updo rfl (same_mov rfl (same_mov rfl (same_mov rfl (same_updo rfl (same_updo rfl (same_mov rfl (same_updo rfl (same_updo rfl (same_updo rfl (same_updo rfl (same_mov rfl (same_mov rfl (same_updo rfl (same_updo rfl (same_updo rfl (same_mov rfl (same_updo rfl (same_updo rfl (same_updo rfl (same_mov rfl (same_know rfl (same_mov rfl (same_updo rfl (same_updo rfl (same_updo rfl Same.refl))))))))))))))))))))))))))))))))), _, _, _, _, _, _, _, _, _, _, ⟨hS.q0, hQ5, hS.l0, (by have h1 := hS.l1; simp at h1 ⊢; omega)⟩, H⟩)
              · refine WA_takeM 0 rfl rfl rfl (by kernel_rfl) (by kernel_rfl) H (fun _ hC => R_mv) ?_
                refine WA_take 1 rfl rfl rfl (by kernel_rfl) (by kernel_rfl) H (fun _ hC => R_indexAddrA (off' := 1) Try.underlying33 Try.sizeOf22 rfl rfl (by omega) (by omega) rfl) ?_
                refine WA_take 2 rfl rfl rfl (by kernel_rfl) (by kernel_rfl) H (fun _ hC => R_load Try.isAgg22 rfl (hC.get (.there (.there (.there (.there (.there .here)))))) rfl) ?_
                refine WA_take 3 rfl rfl rfl (by kernel_rfl) (by kernel_rfl) H (fun _ hC => R_len_slice Try.underlying22 rfl) ?_
                refine WA_takeM 4 rfl rfl rfl (by kernel_rfl) (by kernel_rfl) H (fun _ hC => R_mv) ?_
                refine WA_take 5 rfl rfl rfl (by kernel_rfl) (by kernel_rfl) H (fun _ hC => R_indexAddrA (off' := 1) Try.underlying32 Try.sizeOf3 rfl rfl (by omega) (by omega) rfl) ?_
                refine WA_take 6 rfl rfl rfl (by kernel_rfl) (by kernel_rfl) H (fun _ hC => R_load Try.isAgg3 rfl (hC.get (.there (.there (.there (.there (.there (.there .here))))))) rfl) ?_
                refine WA_take 7 rfl rfl rfl (by kernel_rfl) (by kernel_rfl) H (fun _ hC => R_lt_f rfl rfl (by omega)) ?_
                refine WA_takeM 8 rfl rfl rfl (by kernel_rfl) (by kernel_rfl) H (fun _ hC => R_as) ?_
                refine WA_done (by kernel_rfl) ?_
                refine W_seq ?_
                refine W_seq ?_
                (have _g : ob % 2 = 1 := hk1'; refine W_draw (Kp [(ab, blk [ptr p0 0, ptr p1 0] 31), (bo, blk [I ok, I on, I ob] 35)]) (fun _ => false) (by kernel_rfl) H ?_; clear H; intro w827 H)
                refine WA_takeM 0 rfl rfl rfl (by kernel_rfl) (by kernel_rfl) (H.kp.sub (by simp)) (fun _ hC => R_mv) ?_
                refine WA_take 1 rfl rfl rfl (by kernel_rfl) (by kernel_rfl) (H.kp.sub (by simp)) (fun _ hC => R_indexAddrA (off' := 1) Try.underlying31 Try.sizeOf23 rfl rfl (by omega) (by omega) rfl) ?_
                refine WA_take 2 rfl rfl rfl (by kernel_rfl) (by kernel_rfl) (H.kp.sub (by simp)) (fun _ hC => R_load Try.isAgg23 rfl (hC.get .here) rfl) ?_
                refine WA_take 3 rfl rfl rfl (by kernel_rfl) (by kernel_rfl) (H.kp.sub (by simp)) (fun _ hC => R_fieldAddr (off' := 1) Try.underlying35 rfl Try.sizeOf3 (by decide) rfl rfl) ?_
                refine WA_take 4 rfl rfl rfl (by kernel_rfl) (by kernel_rfl) (H.kp.sub (by simp)) (fun _ hC => R_load Try.isAgg3 rfl (hC.get (.there .here)) rfl) ?_
                refine WA_takeM 6 rfl rfl rfl (by kernel_rfl) (by kernel_rfl) (H.kp.sub (by simp)) (fun _ hC => R_mv) ?_
                refine WA_one (i := 5) (by kernel_rfl) ?_
                (have _g : ob % 2 = 1 := hk1'; refine WI_call rfl (.inl rfl) (R_call rfl Try.call15 rfl) (ringI_full (xs := x1) on (H.get (.there (.there .here))) (H.get (.there (.there (.there .here)))) (by omega)) (fun _ _ hR _ => (H.seq0 hR.2).kp.sub (by simp)) ?_; rintro _ w835 ⟨rfl, H1⟩; replace H := H.seq0 H1; clear H1)
                refine WA_take 7 rfl rfl rfl (by kernel_rfl) (by kernel_rfl) (H.kp.sub (by simp)) (fun _ hC => R_ne_bool_f Try.underlying4 rfl rfl (by decide)) ?_
                refine WA_done (by kernel_rfl) ?_
                refine W_cond_f rfl ?_
                refine W_skip ?_
                refine W_seq ?_
                refine W_region_l ?_
                refine WL_stepM rfl (R_mv) ?_
                refine WL_nil ?_
                refine W_cond_f rfl ?_
                refine W_skip ?_
                exact ⟨(same_mov rfl (same_updo rfl (same_updo rfl (same_mov rfl (same_updo rfl (same_updo rfl (same_updo rfl (same_updo rfl (same_mov rfl (same_mov rfl (same_updo rfl (same_updo rfl (same_updo rfl (same_mov rfl (same_updo rfl (same_updo rfl (same_updo rfl (same_mov rfl (same_know rfl (same_mov rfl (same_updo rfl (same_updo rfl (same_updo rfl Same.refl))))))))))))))))))))))), _, _, _, _, _, _, _, _, _, _, hS, H⟩
            · refine W_seq ?_
              refine W_region_l ?_
              refine WL_step rfl (R_eq rfl rfl) ?_
              refine WL_stepM rfl (R_as) ?_
              refine WL_nil ?_
              refine W_if rfl (fun h852 => ?_) (fun h852 => ?_)
              · refine W_seq ?_
                ((have _g : ob % 2 = 1 := hk1'; rcases x1 with _ | ⟨z, x1⟩ <;> simp only [List.length_nil, List.length_cons] at hn1 hl1)) <;> refine W_region_l ?_
                · refine WL_stepM rfl (R_mv) ?_
                  refine WL_step rfl (R_indexAddrA (off' := 1) Try.underlying31 Try.sizeOf23 rfl rfl (by omega) (by omega) rfl) ?_
                  refine WL_step rfl (R_load Try.isAgg23 rfl (H.get (.there (.there (.there (.there (.there (.there (.there .here)))))))) rfl) ?_
                  (have _g : ob % 2 = 1 := hk1'; refine WL_call rfl (R_call rfl Try.call18 rfl) (take_none (H.get (.there (.there .here))) (H.get (.there (.there (.there .here))))) ?_; rintro _ w858 ⟨rfl, H1⟩; replace H := H.seq0 H1; clear H1)
                  refine WL_stepM rfl (R_mv) ?_
                  refine WL_step rfl (R_extract rfl rfl) ?_
                  refine WL_step rfl (R_extract rfl rfl) ?_
                  refine WL_stepM rfl (R_as) ?_
                  refine WL_stepM rfl (R_as) ?_
                  refine WL_nil ?_
                  refine W_seq ?_
                  refine W_seq ?_
                  refine W_region_l ?_
                  refine WL_stepM rfl (R_mv) ?_
                  refine WL_stepM rfl (R_mv) ?_
                  refine WL_step rfl (R_indexAddrA (off' := 1) Try.underlying33 Try.sizeOf22 rfl rfl (by omega) (by omega) rfl) ?_
                  refine WL_step rfl (R_load Try.isAgg22 rfl (H.get (.there (.there (.there (.there (.there .here)))))) rfl) ?_
                  refine WL_step rfl (R_len_slice Try.underlying22 rfl) ?_
                  refine WL_step rfl (R_gt_f rfl rfl (by omega)) ?_
                  refine WL_step rfl (R_ne_bool_f Try.underlying4 rfl rfl (by decide)) ?_
                  refine WL_stepM rfl (R_mv) ?_
                  refine WL_guard_t rfl rfl ?_
                  refine WL_stepM rfl (R_mv) ?_
                  refine WL_guard_t rfl rfl ?_
                  refine WL_stepM rfl (R_mv) ?_
                  refine WL_guard_f rfl rfl (by decide) ?_
                  refine WL_guard_f rfl rfl (by decide) ?_
                  refine WL_guard_f rfl rfl (by decide) ?_
                  refine WL_guard_f rfl rfl (by decide) ?_
                  refine WL_guard_f rfl rfl (by decide) ?_
                  refine WL_guard_f rfl rfl (by decide) ?_
                  refine WL_guard_f rfl rfl (by decide) ?_
                  refine WL_guard_t rfl rfl ?_
                  refine WL_stepM rfl (R_pk_f rfl) ?_
                  refine WL_stepM rfl (R_pk_f rfl) ?_
                  refine WL_stepM rfl (R_mv) ?_
                  refine WL_guard_t rfl rfl ?_
                  refine WL_stepM rfl (R_mv) ?_
                  refine WL_guard_t rfl rfl ?_
                  refine WL_step rfl (R_not_f rfl) ?_
                  refine WL_guard_t rfl rfl ?_
                  refine WL_stepM rfl (R_mv) ?_
                  refine WL_guard_t rfl rfl ?_
                  refine WL_stepM rfl (R_mv) ?_
                  refine WL_guard_t rfl rfl ?_
                  refine WL_step rfl (R_ne_f rfl rfl (by omega)) ?_
                  refine WL_guard_t rfl rfl ?_
                  refine WL_stepM rfl (R_pk_t rfl) ?_
                  refine WL_stepM rfl (R_pk_f rfl) ?_
                  refine WL_nil ?_
                  refine W_cond_f rfl ?_
                  refine W_skip ?_
                  refine W_seq ?_
                  refine W_region_l ?_
                  refine WL_stepM rfl (R_mv) ?_
                  refine WL_nil ?_
                  refine W_cond_f rfl ?_
                  refine W_skip ?_
                  exact ⟨(same_mov rfl (same_mov rfl (same_mov rfl (same_updo rfl (same_mov rfl (same_mov rfl (same_updo rfl (same_mov rfl (same_mov rfl (same_mov rfl (same_mov rfl (same_updo rfl (same_updo rfl (same_updo rfl (same_updo rfl (same_updo rfl (same_updo rfl (same_updo rfl (same_mov rfl (same_mov rfl (same_mov rfl (same_updo rfl (same_updo rfl (same_updo rfl (same_updo rfl (same_updo rfl (same_mov rfl (same_mov rfl (same_mov rfl (same_mov rfl (same_updo rfl (same_updo rfl (same_mov rfl (same_updo rfl (same_updo rfl (same_updo rfl (same_mov rfl (same_know rfl (same_mov rfl (same_updo rfl (same_know rfl (same_mov rfl (same_updo rfl (same_updo rfl (same_updo rfl Same.refl))))))))))))))))))))))))))))))))))))))))))))), _, _, _, _, _, _, _, _, _, _, hS, H⟩
                · refine WL_stepM rfl (R_mv) ?_
                  refine WL_step rfl (R_indexAddrA (off' := 1) Try.underlying31 Try.sizeOf23 rfl rfl (by omega) (by omega) rfl) ?_
                  refine WL_step rfl (R_load Try.isAgg23 rfl (H.get (.there (.there (.there (.there (.there (.there (.there .here)))))))) rfl) ?_
                  (have _g : ob % 2 = 1 := hk1'; refine WL_call rfl (R_call rfl Try.call18 rfl) (take_some (x := z) (buf := x1.map I) (H.get (.there (.there .here))) (H.get (.there (.there (.there .here))))) ?_; rintro _ w917 ⟨rfl, H1⟩; replace H := H.seq H1 (okSeq_set (.there (.there (.there .here))) okSeq_nil); clear H1)
                  refine WL_stepM rfl (R_mv) ?_
                  refine WL_step rfl (R_extract rfl rfl) ?_
                  refine WL_step rfl (R_extract rfl rfl) ?_
                  refine WL_stepM rfl (R_as) ?_
                  refine WL_stepM rfl (R_as) ?_
                  refine WL_nil ?_
                  refine W_seq ?_
                  refine W_seq ?_
                  ((have _g : ob % 2 = 1 := hk1'; obtain ⟨by5, oy5, rfl, hcz⟩ := RdS.cell (i := 0) (u := I z) (hS.q1.rds (fun p hp => H.held p (by simp [hp]))) rfl)) <;> refine W_region_l ?_
                  refine WL_stepM rfl (R_mv) ?_
                  refine WL_stepM rfl (R_mv) ?_
                  refine WL_step rfl (R_indexAddrA (off' := 1) Try.underlying33 Try.sizeOf22 rfl rfl (by omega) (by omega) rfl) ?_
                  refine WL_step rfl (R_load Try.isAgg22 rfl (H.get (.there (.there (.there (.there (.there .here)))))) rfl) ?_
                  refine WL_step rfl (R_len_slice Try.underlying22 rfl) ?_
                  refine WL_step rfl (R_gt_t rfl rfl (by omega)) ?_
                  refine WL_step rfl (R_ne_bool_f Try.underlying4 rfl rfl (by decide)) ?_
                  refine WL_stepM rfl (R_mv) ?_
                  refine WL_guard_t rfl rfl ?_
                  refine WL_stepM rfl (R_mv) ?_
                  refine WL_guard_t rfl rfl ?_
                  refine WL_stepM rfl (R_mv) ?_
                  refine WL_guard_t rfl rfl ?_
                  refine WL_stepM rfl (R_mv) ?_
                  refine WL_guard_t rfl rfl ?_
                  refine WL_stepM rfl (R_mv) ?_
                  refine WL_guard_t rfl rfl ?_
                  refine WL_step rfl (R_indexAddrA (off' := 1) Try.underlying33 Try.sizeOf22 rfl rfl (by omega) (by omega) rfl) ?_
                  refine WL_guard_t rfl rfl ?_
                  refine WL_step rfl (R_load Try.isAgg22 rfl (H.get (.there (.there (.there (.there (.there .here)))))) rfl) ?_
                  refine WL_guard_t rfl rfl ?_
                  refine WL_step rfl (R_indexAddr Try.underlying22 Try.sizeOf3 rfl rfl (by omega) (by omega) idx_cast1) ?_
                  refine WL_guard_t rfl rfl ?_
                  refine WL_step rfl (R_load_cell Try.isAgg3 rfl hcz) ?_
                  refine WL_guard_t rfl rfl ?_
                  refine WL_step rfl (R_ne_f rfl rfl (by omega)) ?_
                  refine WL_guard_t rfl rfl ?_
                  refine WL_stepM rfl (R_pk_t rfl) ?_
                  refine WL_stepM rfl (R_pk_f rfl) ?_
                  refine WL_stepM rfl (R_mv) ?_
                  refine WL_guard_t rfl rfl ?_
                  refine WL_stepM rfl (R_mv) ?_
                  refine WL_guard_t rfl rfl ?_
                  refine WL_step rfl (R_not_t rfl) ?_
                  refine WL_guard_t rfl rfl ?_
                  refine WL_stepM rfl (R_mv) ?_
                  refine WL_guard_f rfl rfl (by decide) ?_
                  refine WL_guard_f rfl rfl (by decide) ?_
                  refine WL_guard_t rfl rfl ?_
                  refine WL_stepM rfl (R_pk_f rfl) ?_
                  refine WL_stepM rfl (R_pk_f rfl) ?_
                  refine WL_nil ?_
                  refine W_cond_f rfl ?_
                  refine W_skip ?_
                  refine W_seq ?_
                  refine W_region_l ?_
                  refine WL_stepM rfl (R_mv) ?_
                  refine WL_nil ?_
                  refine W_cond_t rfl ?_
                  refine W_region_l ?_
                  refine WL_stepM rfl (R_mv) ?_
                  refine WL_stepM rfl (R_mv) ?_
                  refine WL_step rfl (R_indexAddrA (off' := 1) Try.underlying33 Try.sizeOf22 rfl rfl (by omega) (by omega) rfl) ?_
                  refine WL_step rfl (R_load Try.isAgg22 rfl (H.get (.there (.there (.there (.there (.there .here)))))) rfl) ?_
                  (refine WL_tailQ (a := I z) (xs := x1.map I) hS.q1 Try.underlying22 Try.sizeOf3 rfl rfl ?_; intro v5 hQ5; obtain ⟨a5, c5, hv5⟩ := hQ5.form; rw [List.length_map] at hv5; subst hv5)
                  refine WL_step rfl (R_indexAddrA (off' := 1) Try.underlying33 Try.sizeOf22 rfl rfl (by omega) (by omega) rfl) ?_
                  (refine WL_effu rfl (E_store (v := (.slice _ _ _)) H Try.sizeOf22 rfl rfl rfl (.there (.there (.there (.there (.there .here))))) (by simp)) ?_; clear H; intro w983 H)
                  refine WL_nil ?_
                  (have _g : ob % 2 = 1 := hk1'; exact ⟨(same_updn (same_updo rfl (same_updo rfl (same_updo rfl (same_updo rfl (same_mov rfl (same_mov rfl (same_mov rfl (same_mov rfl (same_mov rfl (same_updo rfl (same_updo rfl (same_mov rfl (same_updo rfl (same_mov rfl (same_mov rfl (same_mov rfl (same_mov rfl (same_updo rfl (same_updo rfl (same_updo rfl (same_updo rfl (same_updo rfl (same_mov rfl (same_mov rfl (same_mov rfl (same_mov rfl (same_mov rfl (same_updo rfl (same_updo rfl (same_updo rfl (same_updo rfl (same_updo rfl (same_mov rfl (same_mov rfl (same_mov rfl (same_mov rfl (same_updo rfl (same_updo rfl (same_mov rfl (same_updo rfl (same_updo rfl (same_updo rfl (same_mov rfl (same_know rfl (same_mov rfl (same_updo rfl (same_know rfl (same_mov rfl (same_updo rfl (same_updo rfl (same_updo rfl Same.refl)))))))))))))))))))))))))))))))))))))))))))))))))))), _, _, _, _, _, _, _, _, _, _, ⟨hS.q0, hQ5, hS.l0, (by have h1 := hS.l1; simp at h1 ⊢; omega)⟩, H⟩)
              · refine W_seq ?_
                refine W_region_l ?_
                refine WL_step rfl (R_eq rfl rfl) ?_
                refine WL_stepM rfl (R_as) ?_
                refine WL_nil ?_
                refine W_if rfl (fun h991 => ?_) (fun h991 => ?_)
                · refine W_seq ?_
                  refine W_seq ?_
                  (have _g : ob % 2 = 1 := hk1'; refine W_draw (Kp [(aw, blk [.slice a0 n0 c0, .slice a1 n1 c1] 33), (ab, blk [ptr p0 0, ptr p1 0] 31)]) (fun _ => false) (by kernel_rfl) H ?_; clear H; intro w994 H)
                  refine WA_takeM 0 rfl rfl rfl (by kernel_rfl) (by kernel_rfl) (H.kp.sub (by simp)) (fun _ hC => R_mv) ?_
                  refine WA_take 1 rfl rfl rfl (by kernel_rfl) (by kernel_rfl) (H.kp.sub (by simp)) (fun _ hC => R_indexAddrA (off' := 1) Try.underlying31 Try.sizeOf23 rfl rfl (by omega) (by omega) rfl) ?_
                  refine WA_take 2 rfl rfl rfl (by kernel_rfl) (by kernel_rfl) (H.kp.sub (by simp)) (fun _ hC => R_load Try.isAgg23 rfl (hC.get (.there .here)) rfl) ?_
                  refine WA_takeM 4 rfl rfl rfl (by kernel_rfl) (by kernel_rfl) (H.kp.sub (by simp)) (fun _ hC => R_mv) ?_
                  refine WA_take 5 rfl rfl rfl (by kernel_rfl) (by kernel_rfl) (H.kp.sub (by simp)) (fun _ hC => R_indexAddrA (off' := 1) Try.underlying33 Try.sizeOf22 rfl rfl (by omega) (by omega) rfl) ?_
                  refine WA_take 6 rfl rfl rfl (by kernel_rfl) (by kernel_rfl) (H.kp.sub (by simp)) (fun _ hC => R_load Try.isAgg22 rfl (hC.get .here) rfl) ?_
                  refine WA_one (i := 3) (by kernel_rfl) ?_
                  (have _g : ob % 2 = 1 := hk1'; refine WI_call rfl (.inl rfl) (R_call rfl Try.call20 rfl) (drain_ret (ns := x1) (H.get (.there (.there .here))) (H.get (.there (.there (.there .here)))) (by omega)) (fun _ _ hR _ => by obtain ⟨M, r1, hO, H1⟩ := hR; exact (seqC H (.there (.there (.there .here))) H1 hO.keys).kp.sub (by simp)) ?_; rintro v w1002 ⟨M, r5, hO, H1⟩; have hOk := fun p hp => Nat.le_trans H.size (hO.keys p hp); replace H := seqC H (.there (.there (.there .here))) H1 hO.keys; clear H1; obtain ⟨a9, c9, rfl⟩ := hO.form)
                  refine WA_one (i := 7) (by kernel_rfl) ?_
                  (have _g : ob % 2 = 1 := hk1'; refine WI_call rfl (.inl rfl) (R_call rfl Try.call19 rfl) (sameInts_ret (xs := x1) (ys := x1) (RdS.own hO (fun p hp => H.held p (by simp [hp]))) (hS.q1.rds (fun p hp => H.held p (by simp [hp]))) (by omega) (by omega)) (fun _ _ hR _ => (H.seq0 hR.2).kp.sub (by simp)) ?_; rintro v w1004 ⟨hv, H1⟩; rw [decide_eq_true rfl] at hv; subst hv; replace H := Hp.dropN (H.seq0 H1) hOk; clear H1)
                  refine WA_take 8 rfl rfl rfl (by kernel_rfl) (by kernel_rfl) (H.kp.sub (by simp)) (fun _ hC => R_not_t rfl) ?_
                  refine WA_done (by kernel_rfl) ?_
                  refine W_cond_f rfl ?_
                  refine W_skip ?_
                  refine W_region_l ?_
                  refine WL_stepM rfl (R_mv) ?_
                  refine WL_step rfl (R_indexAddrA (off' := 1) Try.underlying33 Try.sizeOf22 rfl rfl (by omega) (by omega) rfl) ?_
                  (refine WL_effu rfl (E_store (v := (.slice _ _ _)) H Try.sizeOf22 rfl rfl rfl (.there (.there (.there (.there (.there .here))))) (by simp)) ?_; clear H; intro w1012 H)
                  refine WL_nil ?_
                  (have _g : ob % 2 = 1 := hk1'; exact ⟨(same_updn (same_updo rfl (same_mov rfl (same_updo rfl (same_updo rfl (same_updo rfl (same_updo rfl (same_updo rfl (same_mov rfl (same_updo rfl (same_updo rfl (same_mov rfl (same_know rfl (same_mov rfl (same_updo rfl (same_know rfl (same_mov rfl (same_updo rfl (same_know rfl (same_mov rfl (same_updo rfl (same_updo rfl (same_updo rfl Same.refl))))))))))))))))))))))), _, [], _, _, _, _, _, _, _, _, ⟨hS.q0, OwnQ.nil _ _, hS.l0, by simp⟩, dropEnd (A := [_, _, _, _, _, _, _, _]) H hk1⟩)
                · refine W_seq ?_
                  (have _g : ob % 2 = 1 := hk1'; ((rcases x1 with _ | ⟨z, x1⟩; (rcases x0 with _ | ⟨z, x0⟩)) <;> simp only [List.length_nil, List.length_cons] at hn0 hn1 hl0 hl1) <;> (refine W_draw (Kp [(ab, blk [ptr p0 0, ptr p1 0] 31)]) (fun _ => false) (by kernel_rfl) H ?_; clear H; intro w1016 H))
                  · refine WA_takeM 0 rfl rfl rfl (by kernel_rfl) (by kernel_rfl) (H.kp.sub (by simp)) (fun _ hC => R_mv) ?_
                    refine WA_take 1 rfl rfl rfl (by kernel_rfl) (by kernel_rfl) (H.kp.sub (by simp)) (fun _ hC => R_indexAddrA (off' := 1) Try.underlying31 Try.sizeOf23 rfl rfl (by omega) (by omega) rfl) ?_
                    refine WA_take 2 rfl rfl rfl (by kernel_rfl) (by kernel_rfl) (H.kp.sub (by simp)) (fun _ hC => R_load Try.isAgg23 rfl (hC.get .here) rfl) ?_
                    refine WA_takeM 3 rfl rfl rfl (by kernel_rfl) (by kernel_rfl) (H.kp.sub (by simp)) (fun _ hC => R_mv) ?_
                    refine WA_take 4 rfl rfl rfl (by kernel_rfl) (by kernel_rfl) (H.kp.sub (by simp)) (fun _ hC => R_sub (r := 0) rfl rfl (by decide)) ?_
                    refine WA_take 5 rfl rfl rfl (by kernel_rfl) (by kernel_rfl) (H.kp.sub (by simp)) (fun _ hC => R_indexAddrA (off' := 0) Try.underlying31 Try.sizeOf23 rfl rfl (by omega) (by omega) rfl) ?_
                    refine WA_take 6 rfl rfl rfl (by kernel_rfl) (by kernel_rfl) (H.kp.sub (by simp)) (fun _ hC => R_load Try.isAgg23 rfl (hC.get .here) rfl) ?_
                    refine WA_one (i := 7) (by kernel_rfl) ?_
                    (have _g : ob % 2 = 1 := hk1'; refine WI_call rfl (.inl rfl) (R_call rfl Try.call16 rfl) (either_neither (turn4 H)) (fun _ _ hR _ => hR.2.kp.sub (by simp)) ?_; clear H; rintro _ w1025 ⟨rfl, H⟩; replace H := turn4 H; skip)
                    refine WA_takeM 8 rfl rfl rfl (by kernel_rfl) (by kernel_rfl) (H.kp.sub (by simp)) (fun _ hC => R_mv) ?_
                    refine WA_take 9 rfl rfl rfl (by kernel_rfl) (by kernel_rfl) (H.kp.sub (by simp)) (fun _ hC => R_extract rfl rfl) ?_
                    refine WA_take 10 rfl rfl rfl (by kernel_rfl) (by kernel_rfl) (H.kp.sub (by simp)) (fun _ hC => R_extract rfl rfl) ?_
                    refine WA_take 11 rfl rfl rfl (by kernel_rfl) (by kernel_rfl) (H.kp.sub (by simp)) (fun _ hC => R_extract rfl rfl) ?_
                    refine WA_takeM 12 rfl rfl rfl (by kernel_rfl) (by kernel_rfl) (H.kp.sub (by simp)) (fun _ hC => R_as) ?_
                    refine WA_takeM 13 rfl rfl rfl (by kernel_rfl) (by kernel_rfl) (H.kp.sub (by simp)) (fun _ hC => R_as) ?_
                    refine WA_takeM 14 rfl rfl rfl (by kernel_rfl) (by kernel_rfl) (H.kp.sub (by simp)) (fun _ hC => R_as) ?_
                    refine WA_done (by kernel_rfl) ?_
                    refine W_seq ?_
                    refine W_region_l ?_
                    refine WL_stepM rfl (R_as) ?_
                    refine WL_nil ?_
                    refine W_seq ?_
                    refine W_seq ?_
                    refine W_region_l ?_
                    refine WL_stepM rfl (R_mv) ?_
                    refine WL_step rfl (R_indexAddrA (off' := 1) Try.underlying33 Try.sizeOf22 rfl rfl (by omega) (by omega) rfl) ?_
                    refine WL_step rfl (R_load Try.isAgg22 rfl (H.get (.there (.there (.there (.there (.there .here)))))) rfl) ?_
                    refine WL_step rfl (R_len_slice Try.underlying22 rfl) ?_
                    refine WL_step rfl (R_eq_t rfl rfl (by omega)) ?_
                    refine WL_nil ?_
                    refine W_cond_t rfl ?_
                    refine W_region_l ?_
                    refine WL_stepM rfl (R_as) ?_
                    refine WL_nil ?_
                    refine W_seq ?_
                    refine W_region_l ?_
                    refine WL_stepM rfl (R_mv) ?_
                    refine WL_stepM rfl (R_mv) ?_
                    refine WL_step rfl (R_add (r := 2) rfl rfl (by decide)) ?_
                    refine WL_step rfl (R_rem (r := 0) rfl rfl (by decide) (by decide)) ?_
                    refine WL_stepM rfl (R_as) ?_
                    refine WL_nil ?_
                    refine W_seq ?_
                    refine W_region_l ?_
                    refine WL_stepM rfl (R_mv) ?_
                    refine WL_step rfl (R_indexAddrA (off' := 0) Try.underlying33 Try.sizeOf22 rfl rfl (by omega) (by omega) rfl) ?_
                    refine WL_step rfl (R_load Try.isAgg22 rfl (H.get (.there (.there (.there (.there (.there .here)))))) rfl) ?_
                    refine WL_step rfl (R_len_slice Try.underlying22 rfl) ?_
                    refine WL_step rfl (R_gt_f rfl rfl (by omega)) ?_
                    refine WL_stepM rfl (R_as) ?_
                    refine WL_nil ?_
                    refine W_seq ?_
                    refine W_seq ?_
                    refine W_region_l ?_
                    refine WL_stepM rfl (R_mv) ?_
                    refine WL_stepM rfl (R_mv) ?_
                    refine WL_step rfl (R_ne_bool_f Try.underlying4 rfl rfl (by decide)) ?_
                    refine WL_stepM rfl (R_mv) ?_
                    refine WL_guard_t rfl rfl ?_
                    refine WL_stepM rfl (R_mv) ?_
                    refine WL_guard_t rfl rfl ?_
                    refine WL_stepM rfl (R_mv) ?_
                    refine WL_guard_f rfl rfl (by decide) ?_
                    refine WL_guard_f rfl rfl (by decide) ?_
                    refine WL_guard_f rfl rfl (by decide) ?_
                    refine WL_guard_f rfl rfl (by decide) ?_
                    refine WL_guard_n rfl rfl ?_
                    refine WL_guard_n rfl rfl ?_
                    refine WL_guard_n rfl rfl ?_
                    refine WL_guard_n rfl rfl ?_
                    refine WL_guard_n rfl rfl ?_
                    refine WL_guard_n rfl rfl ?_
                    refine WL_guard_n rfl rfl ?_
                    refine WL_guard_f rfl rfl (by decide) ?_
                    refine WL_guard_t rfl rfl ?_
                    refine WL_stepM rfl (R_pk_f rfl) ?_
                    refine WL_stepM rfl (R_pk_f rfl) ?_
                    refine WL_stepM rfl (R_mv) ?_
                    refine WL_guard_t rfl rfl ?_
                    refine WL_stepM rfl (R_mv) ?_
                    refine WL_guard_t rfl rfl ?_
                    refine WL_step rfl (R_not_f rfl) ?_
                    refine WL_guard_t rfl rfl ?_
                    refine WL_stepM rfl (R_mv) ?_
                    refine WL_guard_t rfl rfl ?_
                    refine WL_stepM rfl (R_mv) ?_
                    refine WL_guard_t rfl rfl ?_
                    refine WL_step rfl (R_ne_f rfl rfl (by omega)) ?_
                    refine WL_guard_t rfl rfl ?_
                    refine WL_stepM rfl (R_mv) ?_
                    refine WL_guard_t rfl rfl ?_
                    refine WL_stepM rfl (R_mv) ?_
                    refine WL_guard_t rfl rfl ?_
                    refine WL_step rfl (R_ne_f rfl rfl (by omega)) ?_
                    refine WL_guard_t rfl rfl ?_
                    refine WL_stepM rfl (R_pk_f rfl) ?_
                    refine WL_guard_t rfl rfl ?_
                    refine WL_stepM rfl (R_pk_t rfl) ?_
                    refine WL_stepM rfl (R_pk_f rfl) ?_
                    refine WL_nil ?_
                    refine W_cond_f rfl ?_
                    refine W_skip ?_
                    refine W_seq ?_
                    refine W_region_l ?_
                    refine WL_stepM rfl (R_mv) ?_
                    refine WL_nil ?_
                    refine W_cond_f rfl ?_
                    refine W_skip ?_
                    exact ⟨(same_mov rfl (same_mov rfl (same_mov rfl (same_mov rfl (same_updo rfl (same_mov rfl (same_mov rfl (same_updo rfl (same_mov rfl (same_mov rfl (same_updo rfl (same_mov rfl (same_mov rfl (same_mov rfl (same_mov rfl (same_updo rfl (same_updo rfl (same_updo rfl (same_updo rfl (same_updo rfl (same_updo rfl (same_updo rfl (same_updo rfl (same_updo rfl (same_updo rfl (same_updo rfl (same_updo rfl (same_mov rfl (same_mov rfl (same_mov rfl (same_updo rfl (same_mov rfl (same_mov rfl (same_mov rfl (same_updo rfl (same_updo rfl (same_updo rfl (same_updo rfl (same_mov rfl (same_mov rfl (same_updo rfl (same_updo rfl (same_mov rfl (same_mov rfl (same_mov rfl (same_updo rfl (same_updo rfl (same_updo rfl (same_updo rfl (same_mov rfl (same_mov rfl (same_mov rfl (same_mov rfl (same_mov rfl (same_updo rfl (same_updo rfl (same_updo rfl (same_mov rfl (same_updo rfl (same_updo rfl (same_updo rfl (same_updo rfl (same_mov rfl (same_updo rfl (same_updo rfl (same_mov rfl (same_know rfl (same_mov rfl (same_updo rfl (same_know rfl (same_mov rfl (same_updo rfl (same_know rfl (same_mov rfl (same_updo rfl (same_updo rfl (same_updo rfl Same.refl))))))))))))))))))))))))))))))))))))))))))))))))))))))))))))))))))))))))))))), _, _, _, _, _, _, _, _, _, _, hS, H⟩
                  · refine WA_takeM 0 rfl rfl rfl (by kernel_rfl) (by kernel_rfl) (H.kp.sub (by simp)) (fun _ hC => R_mv) ?_
                    refine WA_take 1 rfl rfl rfl (by kernel_rfl) (by kernel_rfl) (H.kp.sub (by simp)) (fun _ hC => R_indexAddrA (off' := 1) Try.underlying31 Try.sizeOf23 rfl rfl (by omega) (by omega) rfl) ?_
                    refine WA_take 2 rfl rfl rfl (by kernel_rfl) (by kernel_rfl) (H.kp.sub (by simp)) (fun _ hC => R_load Try.isAgg23 rfl (hC.get .here) rfl) ?_
                    refine WA_takeM 3 rfl rfl rfl (by kernel_rfl) (by kernel_rfl) (H.kp.sub (by simp)) (fun _ hC => R_mv) ?_
                    refine WA_take 4 rfl rfl rfl (by kernel_rfl) (by kernel_rfl) (H.kp.sub (by simp)) (fun _ hC => R_sub (r := 0) rfl rfl (by decide)) ?_
                    refine WA_take 5 rfl rfl rfl (by kernel_rfl) (by kernel_rfl) (H.kp.sub (by simp)) (fun _ hC => R_indexAddrA (off' := 0) Try.underlying31 Try.sizeOf23 rfl rfl (by omega) (by omega) rfl) ?_
                    refine WA_take 6 rfl rfl rfl (by kernel_rfl) (by kernel_rfl) (H.kp.sub (by simp)) (fun _ hC => R_load Try.isAgg23 rfl (hC.get .here) rfl) ?_
                    refine WA_one (i := 7) (by kernel_rfl) ?_
                    (have _g : ob % 2 = 1 := hk1'; refine WI_call rfl (.inl rfl) (R_call rfl Try.call16 rfl) (either_second (x := z) (xs := x0) (turn4 H)) (fun _ _ hR _ => hR.2.kp.sub (by simp)) ?_; clear H; rintro _ w1134 ⟨rfl, H⟩; replace H := turn4 H; skip)
                    refine WA_takeM 8 rfl rfl rfl (by kernel_rfl) (by kernel_rfl) (H.kp.sub (by simp)) (fun _ hC => R_mv) ?_
                    refine WA_take 9 rfl rfl rfl (by kernel_rfl) (by kernel_rfl) (H.kp.sub (by simp)) (fun _ hC => R_extract rfl rfl) ?_
                    refine WA_take 10 rfl rfl rfl (by kernel_rfl) (by kernel_rfl) (H.kp.sub (by simp)) (fun _ hC => R_extract rfl rfl) ?_
                    refine WA_take 11 rfl rfl rfl (by kernel_rfl) (by kernel_rfl) (H.kp.sub (by simp)) (fun _ hC => R_extract rfl rfl) ?_
                    refine WA_takeM 12 rfl rfl rfl (by kernel_rfl) (by kernel_rfl) (H.kp.sub (by simp)) (fun _ hC => R_as) ?_
                    refine WA_takeM 13 rfl rfl rfl (by kernel_rfl) (by kernel_rfl) (H.kp.sub (by simp)) (fun _ hC => R_as) ?_
                    refine WA_takeM 14 rfl rfl rfl (by kernel_rfl) (by kernel_rfl) (H.kp.sub (by simp)) (fun _ hC => R_as) ?_
                    refine WA_done (by kernel_rfl) ?_
                    refine W_seq ?_
                    refine W_region_l ?_
                    refine WL_stepM rfl (R_as) ?_
                    refine WL_nil ?_
                    refine W_seq ?_
                    refine W_seq ?_
                    refine W_region_l ?_
                    refine WL_stepM rfl (R_mv) ?_
                    refine WL_step rfl (R_indexAddrA (off' := 1) Try.underlying33 Try.sizeOf22 rfl rfl (by omega) (by omega) rfl) ?_
                    refine WL_step rfl (R_load Try.isAgg22 rfl (H.get (.there (.there (.there (.there (.there .here)))))) rfl) ?_
                    refine WL_step rfl (R_len_slice Try.underlying22 rfl) ?_
                    refine WL_step rfl (R_eq_t rfl rfl (by omega)) ?_
                    refine WL_nil ?_
                    refine W_cond_t rfl ?_
                    refine W_region_l ?_
                    refine WL_stepM rfl (R_as) ?_
                    refine WL_nil ?_
                    refine W_seq ?_
                    refine W_region_l ?_
                    refine WL_stepM rfl (R_mv) ?_
                    refine WL_stepM rfl (R_mv) ?_
                    refine WL_step rfl (R_add (r := 2) rfl rfl (by decide)) ?_
                    refine WL_step rfl (R_rem (r := 0) rfl rfl (by decide) (by decide)) ?_
                    refine WL_stepM rfl (R_as) ?_
                    refine WL_nil ?_
                    refine W_seq ?_
                    refine W_region_l ?_
                    refine WL_stepM rfl (R_mv) ?_
                    refine WL_step rfl (R_indexAddrA (off' := 0) Try.underlying33 Try.sizeOf22 rfl rfl (by omega) (by omega) rfl) ?_
                    refine WL_step rfl (R_load Try.isAgg22 rfl (H.get (.there (.there (.there (.there (.there .here)))))) rfl) ?_
                    refine WL_step rfl (R_len_slice Try.underlying22 rfl) ?_
                    refine WL_step rfl (R_gt_t rfl rfl (by omega)) ?_
                    refine WL_stepM rfl (R_as) ?_
                    refine WL_nil ?_
                    refine W_seq ?_
                    refine W_seq ?_
                    ((obtain ⟨by5, oy5, rfl, hcz⟩ := RdS.cell (i := 0) (u := I z) (hS.q0.rds (fun p hp => H.held p (by simp [hp]))) rfl)) <;> refine W_region_l ?_
                    refine WL_stepM rfl (R_mv) ?_
                    refine WL_stepM rfl (R_mv) ?_
                    refine WL_step rfl (R_ne_bool_f Try.underlying4 rfl rfl (by decide)) ?_
                    refine WL_stepM rfl (R_mv) ?_
                    refine WL_guard_t rfl rfl ?_
                    refine WL_stepM rfl (R_mv) ?_
                    refine WL_guard_t rfl rfl ?_
                    refine WL_stepM rfl (R_mv) ?_
                    refine WL_guard_t rfl rfl ?_
                    refine WL_stepM rfl (R_mv) ?_
                    refine WL_guard_t rfl rfl ?_
                    refine WL_stepM rfl (R_mv) ?_
                    refine WL_guard_t rfl rfl ?_
                    refine WL_step rfl (R_ne_f rfl rfl (by omega)) ?_
                    refine WL_guard_t rfl rfl ?_
                    refine WL_stepM rfl (R_mv) ?_
                    refine WL_guard_t rfl rfl ?_
                    refine WL_stepM rfl (R_mv) ?_
                    refine WL_guard_t rfl rfl ?_
                    refine WL_stepM rfl (R_mv) ?_
                    refine WL_guard_t rfl rfl ?_
                    refine WL_step rfl (R_indexAddrA (off' := 0) Try.underlying33 Try.sizeOf22 rfl rfl (by omega) (by omega) rfl) ?_
                    refine WL_guard_t rfl rfl ?_
                    refine WL_step rfl (R_load Try.isAgg22 rfl (H.get (.there (.there (.there (.there (.there .here)))))) rfl) ?_
                    refine WL_guard_t rfl rfl ?_
                    refine WL_step rfl (R_indexAddr Try.underlying22 Try.sizeOf3 rfl rfl (by omega) (by omega) idx_cast1) ?_
                    refine WL_guard_t rfl rfl ?_
                    refine WL_step rfl (R_load_cell Try.isAgg3 rfl hcz) ?_
                    refine WL_guard_t rfl rfl ?_
                    refine WL_step rfl (R_ne_f rfl rfl (by omega)) ?_
                    refine WL_guard_t rfl rfl ?_
                    refine WL_stepM rfl (R_pk_f rfl) ?_
                    refine WL_guard_t rfl rfl ?_
                    refine WL_stepM rfl (R_pk_t rfl) ?_
                    refine WL_stepM rfl (R_pk_f rfl) ?_
                    refine WL_stepM rfl (R_mv) ?_
                    refine WL_guard_t rfl rfl ?_
                    refine WL_stepM rfl (R_mv) ?_
                    refine WL_guard_t rfl rfl ?_
                    refine WL_step rfl (R_not_t rfl) ?_
                    refine WL_guard_t rfl rfl ?_
                    refine WL_stepM rfl (R_mv) ?_
                    refine WL_guard_f rfl rfl (by decide) ?_
                    refine WL_guard_f rfl rfl (by decide) ?_
                    refine WL_guard_f rfl rfl (by decide) ?_
                    refine WL_guard_n rfl rfl ?_
                    refine WL_guard_n rfl rfl ?_
                    refine WL_guard_f rfl rfl (by decide) ?_
                    refine WL_guard_t rfl rfl ?_
                    refine WL_stepM rfl (R_pk_f rfl) ?_
                    refine WL_stepM rfl (R_pk_f rfl) ?_
                    refine WL_nil ?_
                    refine W_cond_f rfl ?_
                    refine W_skip ?_
                    refine W_seq ?_
                    refine W_region_l ?_
                    refine WL_stepM rfl (R_mv) ?_
                    refine WL_nil ?_
                    refine W_cond_t rfl ?_
                    refine W_region_l ?_
                    refine WL_stepM rfl (R_mv) ?_
                    refine WL_stepM rfl (R_mv) ?_
                    refine WL_step rfl (R_indexAddrA (off' := 0) Try.underlying33 Try.sizeOf22 rfl rfl (by omega) (by omega) rfl) ?_
                    refine WL_step rfl (R_load Try.isAgg22 rfl (H.get (.there (.there (.there (.there (.there .here)))))) rfl) ?_
                    (refine WL_tailQ (a := I z) (xs := x0.map I) hS.q0 Try.underlying22 Try.sizeOf3 rfl rfl ?_; intro v5 hQ5; obtain ⟨a5, c5, hv5⟩ := hQ5.form; rw [List.length_map] at hv5; subst hv5)
                    refine WL_step rfl (R_indexAddrA (off' := 0) Try.underlying33 Try.sizeOf22 rfl rfl (by omega) (by omega) rfl) ?_
                    (refine WL_effu rfl (E_store (v := (.slice _ _ _)) H Try.sizeOf22 rfl rfl rfl (.there (.there (.there (.there (.there .here))))) (by simp)) ?_; clear H; intro w1246 H)
                    refine WL_nil ?_
                    (exact ⟨(same_updn (same_updo rfl (same_updo rfl (same_updo rfl (same_updo rfl (same_mov rfl (same_mov rfl (same_mov rfl (same_mov rfl (same_mov rfl (same_updo rfl (same_updo rfl (same_updo rfl (same_updo rfl (same_updo rfl (same_updo rfl (same_mov rfl (same_updo rfl (same_mov rfl (same_mov rfl (same_mov rfl (same_mov rfl (same_mov rfl (same_updo rfl (same_updo rfl (same_updo rfl (same_updo rfl (same_updo rfl (same_mov rfl (same_mov rfl (same_mov rfl (same_updo rfl (same_mov rfl (same_mov rfl (same_mov rfl (same_mov rfl (same_mov rfl (same_updo rfl (same_mov rfl (same_mov rfl (same_mov rfl (same_updo rfl (same_updo rfl (same_updo rfl (same_updo rfl (same_mov rfl (same_mov rfl (same_updo rfl (same_updo rfl (same_mov rfl (same_mov rfl (same_mov rfl (same_updo rfl (same_updo rfl (same_updo rfl (same_updo rfl (same_mov rfl (same_mov rfl (same_mov rfl (same_mov rfl (same_mov rfl (same_updo rfl (same_updo rfl (same_updo rfl (same_mov rfl (same_updo rfl (same_updo rfl (same_updo rfl (same_updo rfl (same_mov rfl (same_updo rfl (same_updo rfl (same_mov rfl (same_know rfl (same_mov rfl (same_updo rfl (same_know rfl (same_mov rfl (same_updo rfl (same_know rfl (same_mov rfl (same_updo rfl (same_updo rfl (same_updo rfl Same.refl)))))))))))))))))))))))))))))))))))))))))))))))))))))))))))))))))))))))))))))))))))), _, _, _, _, _, _, _, _, _, _, ⟨hQ5, hS.q1, (by have h1 := hS.l0; simp at h1 ⊢; omega), hS.l1⟩, H⟩)
                  · refine WA_takeM 0 rfl rfl rfl (by kernel_rfl) (by kernel_rfl) (H.kp.sub (by simp)) (fun _ hC => R_mv) ?_
                    refine WA_take 1 rfl rfl rfl (by kernel_rfl) (by kernel_rfl) (H.kp.sub (by simp)) (fun _ hC => R_indexAddrA (off' := 1) Try.underlying31 Try.sizeOf23 rfl rfl (by omega) (by omega) rfl) ?_
                    refine WA_take 2 rfl rfl rfl (by kernel_rfl) (by kernel_rfl) (H.kp.sub (by simp)) (fun _ hC => R_load Try.isAgg23 rfl (hC.get .here) rfl) ?_
                    refine WA_takeM 3 rfl rfl rfl (by kernel_rfl) (by kernel_rfl) (H.kp.sub (by simp)) (fun _ hC => R_mv) ?_
                    refine WA_take 4 rfl rfl rfl (by kernel_rfl) (by kernel_rfl) (H.kp.sub (by simp)) (fun _ hC => R_sub (r := 0) rfl rfl (by decide)) ?_
                    refine WA_take 5 rfl rfl rfl (by kernel_rfl) (by kernel_rfl) (H.kp.sub (by simp)) (fun _ hC => R_indexAddrA (off' := 0) Try.underlying31 Try.sizeOf23 rfl rfl (by omega) (by omega) rfl) ?_
                    refine WA_take 6 rfl rfl rfl (by kernel_rfl) (by kernel_rfl) (H.kp.sub (by simp)) (fun _ hC => R_load Try.isAgg23 rfl (hC.get .here) rfl) ?_
                    refine WA_one (i := 7) (by kernel_rfl) ?_
                    (have _g : ob % 2 = 1 := hk1'; refine WI_call rfl (.inl rfl) (R_call rfl Try.call16 rfl) (either_first (x := z) (xs := x1) p0 (turn4 H)) (fun _ _ hR _ => hR.2.kp.sub (by simp)) ?_; clear H; rintro _ w1257 ⟨rfl, H⟩; replace H := turn4 H; skip)
                    refine WA_takeM 8 rfl rfl rfl (by kernel_rfl) (by kernel_rfl) (H.kp.sub (by simp)) (fun _ hC => R_mv) ?_
                    refine WA_take 9 rfl rfl rfl (by kernel_rfl) (by kernel_rfl) (H.kp.sub (by simp)) (fun _ hC => R_extract rfl rfl) ?_
                    refine WA_take 10 rfl rfl rfl (by kernel_rfl) (by kernel_rfl) (H.kp.sub (by simp)) (fun _ hC => R_extract rfl rfl) ?_
                    refine WA_take 11 rfl rfl rfl (by kernel_rfl) (by kernel_rfl) (H.kp.sub (by simp)) (fun _ hC => R_extract rfl rfl) ?_
                    refine WA_takeM 12 rfl rfl rfl (by kernel_rfl) (by kernel_rfl) (H.kp.sub (by simp)) (fun _ hC => R_as) ?_
                    refine WA_takeM 13 rfl rfl rfl (by kernel_rfl) (by kernel_rfl) (H.kp.sub (by simp)) (fun _ hC => R_as) ?_
                    refine WA_takeM 14 rfl rfl rfl (by kernel_rfl) (by kernel_rfl) (H.kp.sub (by simp)) (fun _ hC => R_as) ?_
                    refine WA_done (by kernel_rfl) ?_
                    refine W_seq ?_
                    refine W_region_l ?_
                    refine WL_stepM rfl (R_as) ?_
                    refine WL_nil ?_
                    refine W_seq ?_
                    refine W_seq ?_
                    refine W_region_l ?_
                    refine WL_stepM rfl (R_mv) ?_
                    refine WL_step rfl (R_indexAddrA (off' := 1) Try.underlying33 Try.sizeOf22 rfl rfl (by omega) (by omega) rfl) ?_
                    refine WL_step rfl (R_load Try.isAgg22 rfl (H.get (.there (.there (.there (.there (.there .here)))))) rfl) ?_
                    refine WL_step rfl (R_len_slice Try.underlying22 rfl) ?_
                    refine WL_step rfl (R_eq_f rfl rfl (by omega)) ?_
                    refine WL_nil ?_
                    refine W_cond_f rfl ?_
                    refine W_skip ?_
                    refine W_seq ?_
                    refine W_region_l ?_
                    refine WL_stepM rfl (R_mv) ?_
                    refine WL_stepM rfl (R_mv) ?_
                    refine WL_step rfl (R_add (r := 1) rfl rfl (by decide)) ?_
                    refine WL_step rfl (R_rem (r := 1) rfl rfl (by decide) (by decide)) ?_
                    refine WL_stepM rfl (R_as) ?_
                    refine WL_nil ?_
                    refine W_seq ?_
                    refine W_region_l ?_
                    refine WL_stepM rfl (R_mv) ?_
                    refine WL_step rfl (R_indexAddrA (off' := 1) Try.underlying33 Try.sizeOf22 rfl rfl (by omega) (by omega) rfl) ?_
                    refine WL_step rfl (R_load Try.isAgg22 rfl (H.get (.there (.there (.there (.there (.there .here)))))) rfl) ?_
                    refine WL_step rfl (R_len_slice Try.underlying22 rfl) ?_
                    refine WL_step rfl (R_gt_t rfl rfl (by omega)) ?_
                    refine WL_stepM rfl (R_as) ?_
                    refine WL_nil ?_
                    refine W_seq ?_
                    refine W_seq ?_
                    ((obtain ⟨by5, oy5, rfl, hcz⟩ := RdS.cell (i := 0) (u := I z) (hS.q1.rds (fun p hp => H.held p (by simp [hp]))) rfl)) <;> refine W_region_l ?_
                    refine WL_stepM rfl (R_mv) ?_
                    refine WL_stepM rfl (R_mv) ?_
                    refine WL_step rfl (R_ne_bool_f Try.underlying4 rfl rfl (by decide)) ?_
                    refine WL_stepM rfl (R_mv) ?_
                    refine WL_guard_t rfl rfl ?_
                    refine WL_stepM rfl (R_mv) ?_
                    refine WL_guard_t rfl rfl ?_
                    refine WL_stepM rfl (R_mv) ?_
                    refine WL_guard_t rfl rfl ?_
                    refine WL_stepM rfl (R_mv) ?_
                    refine WL_guard_t rfl rfl ?_
                    refine WL_stepM rfl (R_mv) ?_
                    refine WL_guard_t rfl rfl ?_
                    refine WL_step rfl (R_ne_f rfl rfl (by omega)) ?_
                    refine WL_guard_t rfl rfl ?_
                    refine WL_stepM rfl (R_mv) ?_
                    refine WL_guard_t rfl rfl ?_
                    refine WL_stepM rfl (R_mv) ?_
                    refine WL_guard_t rfl rfl ?_
                    refine WL_stepM rfl (R_mv) ?_
                    refine WL_guard_t rfl rfl ?_
                    refine WL_step rfl (R_indexAddrA (off' := 1) Try.underlying33 Try.sizeOf22 rfl rfl (by omega) (by omega) rfl) ?_
                    refine WL_guard_t rfl rfl ?_
                    refine WL_step rfl (R_load Try.isAgg22 rfl (H.get (.there (.there (.there (.there (.there .here)))))) rfl) ?_
                    refine WL_guard_t rfl rfl ?_
                    refine WL_step rfl (R_indexAddr Try.underlying22 Try.sizeOf3 rfl rfl (by omega) (by omega) idx_cast1) ?_
                    refine WL_guard_t rfl rfl ?_
                    refine WL_step rfl (R_load_cell Try.isAgg3 rfl hcz) ?_
                    refine WL_guard_t rfl rfl ?_
                    refine WL_step rfl (R_ne_f rfl rfl (by omega)) ?_
                    refine WL_guard_t rfl rfl ?_
                    refine WL_stepM rfl (R_pk_f rfl) ?_
                    refine WL_guard_t rfl rfl ?_
                    refine WL_stepM rfl (R_pk_t rfl) ?_
                    refine WL_stepM rfl (R_pk_f rfl) ?_
                    refine WL_stepM rfl (R_mv) ?_
                    refine WL_guard_t rfl rfl ?_
                    refine WL_stepM rfl (R_mv) ?_
                    refine WL_guard_t rfl rfl ?_
                    refine WL_step rfl (R_not_t rfl) ?_
                    refine WL_guard_t rfl rfl ?_
                    refine WL_stepM rfl (R_mv) ?_
                    refine WL_guard_f rfl rfl (by decide) ?_
                    refine WL_guard_f rfl rfl (by decide) ?_
                    refine WL_guard_f rfl rfl (by decide) ?_
                    refine WL_guard_n rfl rfl ?_
                    refine WL_guard_n rfl rfl ?_
                    refine WL_guard_f rfl rfl (by decide) ?_
                    refine WL_guard_t rfl rfl ?_
                    refine WL_stepM rfl (R_pk_f rfl) ?_
                    refine WL_stepM rfl (R_pk_f rfl) ?_
                    refine WL_nil ?_
                    refine W_cond_f rfl ?_
                    refine W_skip ?_
                    refine W_seq ?_
                    refine W_region_l ?_
                    refine WL_stepM rfl (R_mv) ?_
                    refine WL_nil ?_
                    refine W_cond_t rfl ?_
                    refine W_region_l ?_
                    refine WL_stepM rfl (R_mv) ?_
                    refine WL_stepM rfl (R_mv) ?_
                    refine WL_step rfl (R_indexAddrA (off' := 1) Try.underlying33 Try.sizeOf22 rfl rfl (by omega) (by omega) rfl) ?_
                    refine WL_step rfl (R_load Try.isAgg22 rfl (H.get (.there (.there (.there (.there (.there .here)))))) rfl) ?_
                    (refine WL_tailQ (a := I z) (xs := x1.map I) hS.q1 Try.underlying22 Try.sizeOf3 rfl rfl ?_; intro v5 hQ5; obtain ⟨a5, c5, hv5⟩ := hQ5.form; rw [List.length_map] at hv5; subst hv5)
                    refine WL_step rfl (R_indexAddrA (off' := 1) Try.underlying33 Try.sizeOf22 rfl rfl (by omega) (by omega) rfl) ?_
                    (refine WL_effu rfl (E_store (v := (.slice _ _ _)) H Try.sizeOf22 rfl rfl rfl (.there (.there (.there (.there (.there .here))))) (by simp)) ?_; clear H; intro w1367 H)
                    refine WL_nil ?_
                    (have _g : ob % 2 = 1 := hk1'; exact ⟨(same_updn (same_updo rfl (same_updo rfl (same_updo rfl (same_updo rfl (same_mov rfl (same_mov rfl (same_mov rfl (same_mov rfl (same_mov rfl (same_updo rfl (same_updo rfl (same_updo rfl (same_updo rfl (same_updo rfl (same_updo rfl (same_mov rfl (same_updo rfl (same_mov rfl (same_mov rfl (same_mov rfl (same_mov rfl (same_mov rfl (same_updo rfl (same_updo rfl (same_updo rfl (same_updo rfl (same_updo rfl (same_mov rfl (same_mov rfl (same_mov rfl (same_updo rfl (same_mov rfl (same_mov rfl (same_mov rfl (same_mov rfl (same_mov rfl (same_updo rfl (same_mov rfl (same_mov rfl (same_mov rfl (same_updo rfl (same_updo rfl (same_updo rfl (same_updo rfl (same_mov rfl (same_mov rfl (same_updo rfl (same_updo rfl (same_mov rfl (same_mov rfl (same_updo rfl (same_updo rfl (same_updo rfl (same_updo rfl (same_mov rfl (same_mov rfl (same_mov rfl (same_mov rfl (same_mov rfl (same_updo rfl (same_updo rfl (same_updo rfl (same_mov rfl (same_updo rfl (same_updo rfl (same_updo rfl (same_updo rfl (same_mov rfl (same_updo rfl (same_updo rfl (same_mov rfl (same_know rfl (same_mov rfl (same_updo rfl (same_know rfl (same_mov rfl (same_updo rfl (same_know rfl (same_mov rfl (same_updo rfl (same_updo rfl (same_updo rfl Same.refl))))))))))))))))))))))))))))))))))))))))))))))))))))))))))))))))))))))))))))))))))), _, _, _, _, _, _, _, _, _, _, ⟨hS.q0, hQ5, hS.l0, (by have h1 := hS.l1; simp at h1 ⊢; omega)⟩, H⟩)
          · (clear H; clear hk0 hk1 hl0 hl1 hS; rintro E w1 ⟨x0, x1, s0, r0, s1, r1, v0, v1, M0, M1, hS, H⟩; have hk0 := hS.q0.keys; have hk1 := hS.q1.keys; obtain ⟨a0, c0, rfl⟩ := hS.form0; obtain ⟨a1, c1, rfl⟩ := hS.form1)
            refine W_seq ?_
            (refine W_drawH (fun _ => false) (by kernel_rfl) H ?_; clear H; intro w1372 H)
            refine WA_take 0 rfl rfl rfl (by kernel_rfl) (by kernel_rfl) H (fun _ hC => R_indexAddrA (off' := 0) Try.underlying31 Try.sizeOf23 rfl rfl (by omega) (by omega) rfl) ?_
            refine WA_take 1 rfl rfl rfl (by kernel_rfl) (by kernel_rfl) H (fun _ hC => R_load Try.isAgg23 rfl (hC.get (.there (.there (.there (.there (.there (.there (.there .here)))))))) rfl) ?_
            refine WA_take 3 rfl rfl rfl (by kernel_rfl) (by kernel_rfl) H (fun _ hC => R_indexAddrA (off' := 0) Try.underlying33 Try.sizeOf22 rfl rfl (by omega) (by omega) rfl) ?_
            refine WA_take 4 rfl rfl rfl (by kernel_rfl) (by kernel_rfl) H (fun _ hC => R_load Try.isAgg22 rfl (hC.get (.there (.there (.there (.there (.there .here)))))) rfl) ?_
            refine WA_take 5 rfl rfl rfl (by kernel_rfl) (by kernel_rfl) H (fun _ hC => R_len_slice Try.underlying22 rfl) ?_
            refine WA_one (i := 2) (by kernel_rfl) ?_
            (refine WI_call rfl (.inl rfl) (R_call rfl Try.call21 rfl) (by exact len_ret (buf := x0.map I) (k := x0.length) (by simp) (H.get .here) (H.get (.there .here))) (by first | exact fun _ _ hR _ => H.seq0 hR.2 | exact fun _ _ hR h => Bool.noConfusion h | exact fun _ _ hR _ => (H.seq0 hR.2).none (by repeat' first | exact kNil | apply kCons | apply kApp | assumption | exact OwnS.keys (by assumption)) | exact fun _ _ hR _ => (H.seq0 hR.2).dropN (by repeat' first | exact kNil | apply kCons | apply kApp | assumption | exact OwnS.keys (by assumption))) ?_; rintro _ w1379 ⟨rfl, H1⟩; replace H := H.seq0 H1; clear H1)
            refine WA_take 6 rfl rfl rfl (by kernel_rfl) (by kernel_rfl) H (fun _ hC => R_ne_f rfl rfl (by omega)) ?_
            refine WA_takeM 7 rfl rfl rfl (by kernel_rfl) (by kernel_rfl) H (fun _ hC => R_mv) ?_
            refine WA_takeG 8 rfl rfl rfl rfl (by kernel_rfl) (by kernel_rfl) H (fun _ hC => R_indexAddrA (off' := 1) Try.underlying31 Try.sizeOf23 rfl rfl (by omega) (by omega) rfl) ?_
            refine WA_takeG 9 rfl rfl rfl rfl (by kernel_rfl) (by kernel_rfl) H (fun _ hC => R_load Try.isAgg23 rfl (hC.get (.there (.there (.there (.there (.there (.there (.there .here)))))))) rfl) ?_
            refine WA_takeG 11 rfl rfl rfl rfl (by kernel_rfl) (by kernel_rfl) H (fun _ hC => R_indexAddrA (off' := 1) Try.underlying33 Try.sizeOf22 rfl rfl (by omega) (by omega) rfl) ?_
            refine WA_takeG 12 rfl rfl rfl rfl (by kernel_rfl) (by kernel_rfl) H (fun _ hC => R_load Try.isAgg22 rfl (hC.get (.there (.there (.there (.there (.there .here)))))) rfl) ?_
            refine WA_takeG 13 rfl rfl rfl rfl (by kernel_rfl) (by kernel_rfl) H (fun _ hC => R_len_slice Try.underlying22 rfl) ?_
            refine WA_one (i := 10) (by kernel_rfl) ?_
            (refine WI_call rfl (.inr ⟨_, _, rfl, rfl⟩) (R_call rfl Try.call21 rfl) (by exact len_ret (buf := x1.map I) (k := x1.length) (by simp) (H.get (.there (.there .here))) (H.get (.there (.there (.there .here))))) (by first | exact fun _ _ hR _ => H.seq0 hR.2 | exact fun _ _ hR h => Bool.noConfusion h | exact fun _ _ hR _ => (H.seq0 hR.2).none (by repeat' first | exact kNil | apply kCons | apply kApp | assumption | exact OwnS.keys (by assumption)) | exact fun _ _ hR _ => (H.seq0 hR.2).dropN (by repeat' first | exact kNil | apply kCons | apply kApp | assumption | exact OwnS.keys (by assumption))) ?_; rintro _ w1388 ⟨rfl, H1⟩; replace H := H.seq0 H1; clear H1)
            refine WA_takeG 14 rfl rfl rfl rfl (by kernel_rfl) (by kernel_rfl) H (fun _ hC => R_ne_f rfl rfl (by omega)) ?_
            refine WA_takeM 15 rfl rfl rfl (by kernel_rfl) (by kernel_rfl) H (fun _ hC => R_pk_f rfl) ?_
            refine WA_done (by kernel_rfl) ?_
            refine W_cond_f rfl ?_
            refine W_skip ?_
            refine W_region_l ?_
            refine WL_stepM rfl (R_mv) ?_
            refine WL_step rfl (R_add rfl rfl (w_i64 (by omega))) ?_
            refine WL_stepM rfl (R_as) ?_
            refine WL_nil ?_
            exact ⟨(same_mov rfl (same_updo rfl (same_mov rfl (same_mov rfl (same_updo rfl (same_updo rfl (same_updo rfl (same_updo rfl (same_updo rfl (same_updo rfl (same_updo rfl (same_mov rfl (same_updo rfl (same_updo rfl (same_updo rfl (same_updo rfl (same_updo rfl (same_updo rfl (same_updo rfl (same_in rfl (same_mov rfl (same_updo rfl (same_updo rfl (same_updo rfl (same_updn (same_updo rfl (same_updo rfl (same_updo rfl (same_mov rfl (same_mov rfl (same_know rfl (same_in rfl (same_mov rfl (same_updo rfl (same_updo rfl (same_mov rfl (same_mov rfl same_ovr))))))))))))))))))))))))))))))))))))), k + 1, by omega, x0, x1, _, _, _, _, _, _, M0, M1, by omega, by omega, rfl, hS, (ahead4 H).pop hbo⟩
      · refine W_exit ?_
        refine (if_pos rfl).mpr ?_
        refine W_seq ?_
        refine W_region_l ?_
        refine WL_stepM rfl (R_as) ?_
        refine WL_nil ?_
        refine W_ret ?_
        exact ⟨_, rfl, rfl, H.none (by repeat' first | exact kNil | apply kCons | apply kApp | assumption | exact OwnS.keys (by assumption))⟩
end Go.Proofs.Ytjfcnmbalojehaa.Bell
