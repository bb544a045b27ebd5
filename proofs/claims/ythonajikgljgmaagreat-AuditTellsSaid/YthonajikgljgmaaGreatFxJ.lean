/-
  Slices beside nil; bytes and strings; copy.
-/
import Derived.Test.YthonajikgljgmaaGreatFxRow
import Derived.Lib.ConvBytes
import Derived.Laws.BytesString
namespace Go.Proofs.YthonajikgljgmaaGreat.Fx
open Go

section
variable {P : Program} {E : Env} {w0 w : World} {L : List (Nat × Obj)}
variable {d : Option Nat} {ty : TypeId} {pos : String} {after : Array Edge}

theorem R_eq_sl {t t' e : TypeId} {x y : Operand} {a : Addr} {n1 n2 m1 m2 : Nat} (ht : P.underlying t = some (.slice e)) (hx : ev E x = .slice (some a) n1 n2) (hy : ev E y = .slice none m1 m2)
    : (execOp (ev E) (mk d (.binOp .eql t x y t') ty pos after)).run P w = .ok (.value ((.bool false))) w :=
  R_eqv hx hy run_eqGuard_slice (by simp only [binOp, Sem.run_bind, run_equal (eqIn_slice_nil ht), Result.andThen_ok, Sem.run_pure])
theorem R_eq_nils {t t' e : TypeId} {x y : Operand} {n1 n2 m1 m2 : Nat} (ht : P.underlying t = some (.slice e)) (hx : ev E x = .slice none n1 n2) (hy : ev E y = .slice none m1 m2)
    : (execOp (ev E) (mk d (.binOp .eql t x y t') ty pos after)).run P w = .ok (.value ((.bool true))) w :=
  R_eqv hx hy run_eqGuard_slice (by simp only [binOp, Sem.run_bind, run_equal (eqIn_nils_nil ht), Result.andThen_ok, Sem.run_pure])
theorem R_ne_sl {t t' e : TypeId} {x y : Operand} {a : Addr} {n1 n2 m1 m2 : Nat} (ht : P.underlying t = some (.slice e)) (hx : ev E x = .slice (some a) n1 n2) (hy : ev E y = .slice none m1 m2)
    : (execOp (ev E) (mk d (.binOp .neq t x y t') ty pos after)).run P w = .ok (.value ((.bool true))) w :=
  R_nev hx hy run_eqGuard_slice (by simp only [binOp, Sem.run_bind, run_equal (eqIn_slice_nil ht), Result.andThen_ok, Sem.run_pure, Bool.not_false])
theorem R_ne_nils {t t' e : TypeId} {x y : Operand} {n1 n2 m1 m2 : Nat} (ht : P.underlying t = some (.slice e)) (hx : ev E x = .slice none n1 n2) (hy : ev E y = .slice none m1 m2)
    : (execOp (ev E) (mk d (.binOp .neq t x y t') ty pos after)).run P w = .ok (.value ((.bool false))) w :=
  R_nev hx hy run_eqGuard_slice (by simp only [binOp, Sem.run_bind, run_equal (eqIn_nils_nil ht), Result.andThen_ok, Sem.run_pure, Bool.not_true])

/-- a string, by its bytes -/
abbrev S (xs : List UInt8) : Value := .string ⟨xs.toArray⟩

theorem foldl_push_u (xs : List UInt8) : ∀ s : ByteArray, (xs.map fun x => (x.toNat : Int)).foldl (fun r n => r.push (UInt8.ofNat n.toNat)) s = ⟨s.data ++ xs.toArray⟩ := by
  induction xs with
  | nil => intro s; simp
  | cons x xs ih => intro s; rw [List.map_cons, List.foldl_cons, ih]; simp [ByteArray.push]

theorem loadCells_of {a : Addr} {b off : Nat} {xs : List Value} (ha : a = ⟨b, off, none⟩) (h : ∀ j u, xs[j]? = some u → w.cell? ⟨b, off + j, none⟩ = some u) (n : Nat) : (loadCells a (xs.take n).length).run P w = .ok (xs.take n).toArray w := by
  subst ha
  refine run_loadCells_list w _ _ (fun j v hj => ?_)
  rw [add_none]
  rw [List.getElem?_take] at hj
  split at hj
  · exact h j v hj
  · cases hj

theorem R_conv_bs {s t e : TypeId} {x : Operand} {v : Value} {xs : List UInt8} (hs : P.underlying s = some (.slice e)) (he : P.underlying e = some (.int .u8)) (ht : P.underlying t = some .string) (hx : ev E x = v) (h : RdS w v (xs.map U))
    : (execOp (ev E) (mk d (.convert s t x) ty pos after)).run P w = .ok (.value (S xs)) w := by
  obtain ⟨ao, cap, rfl, hl, h⟩ := h
  have hgo : ∀ a, ao = some a → (loadCells a (xs.map U).length).run P w = .ok (xs.map U).toArray w → (execOp (ev E) (mk d (.convert s t x) ty pos after)).run P w = .ok (.value (S xs)) w := by
    rintro a rfl hld
    have e1 : xs.map U = (xs.map fun x => (x.toNat : Int)).map (Value.int .u8) := by rw [List.map_map]; rfl
    have h2 := run_bytesToString (P := P) w a (xs.map U).length cap (xs.map fun x => (x.toNat : Int)) (by rw [hld, e1])
    rw [foldl_push_u] at h2
    simp only [execOp, Sem.run_bind, Sem.run_pure, Result.andThen_ok, hx, run_convert_bytes_string w s t e (some a) (xs.map U).length cap hs he ht, h2]
    congr 2
    simp [S]
  rcases h with h0 | ⟨b, off, rfl, h⟩
  · obtain rfl : xs = [] := by simpa using h0
    cases ao with
    | none => simp [execOp, hx, run_convert_bytes_string w s t e none 0 cap hs he ht, Conv.bytesToString, S]; rfl
    | some a => exact hgo a rfl (by simpa using run_loadCells_list (P := P) w a [] (by simp))
  · exact hgo _ rfl (by have := loadCells_of (P := P) rfl h (xs.map U).length; rwa [List.take_length] at this)

theorem E_conv_sb {s t e : TypeId} {x : Operand} {xs : List UInt8} {u : TypeDesc} (H : Hp w0 L w) (hs : P.underlying s = some u) (ht : P.underlying t = some (.slice e)) (he : P.underlying e = some (.int .u8)) (hx : ev E x = S xs) :
    ∃ (v : Value) (m : Nat × Obj) (w' : World), (∃ cap sp, v = sl m.1 0 xs.length cap ∧ m.2 = .cells (xs.map U ++ sp).toArray e ((xs.map U ++ sp).length, (xs.map U ++ sp).length + 1) ∧ xs.length ≤ cap ∧ w0.heap.size ≤ m.1) ∧ Hp w0 (m :: L) w' ∧
      (execOp (ev E) (mk d (.convert s t x) ty pos after)).run P w = .ok (.value v) w' := by
  have hr := Lib.run_convert_string_bytes (P := P) w s t e ⟨xs.toArray⟩ hs ht he
  have hsz : (⟨xs.toArray⟩ : ByteArray).size = xs.length := by simp [ByteArray.size]
  have e1 : Lib.bytesCells w e ⟨xs.toArray⟩ = (xs.map U ++ List.replicate (grownCap w xs.length 0 e - xs.length) (Value.int .u8 0)).toArray := by
    unfold Lib.bytesCells
    rw [hsz]
    apply Array.ext'
    simp
  refine ⟨_, (w.heap.size, _), Lib.bytesWorld w e ⟨xs.toArray⟩, ⟨grownCap w xs.length 0 e, List.replicate (grownCap w xs.length 0 e - xs.length) (Value.int .u8 0), rfl, rfl, grownCap_ge w xs.length 0 e, H.size⟩, ?_, ?_⟩
  · have hn := Lib.bytesWorld_at_new w e ⟨xs.toArray⟩
    rw [e1] at hn
    exact (H.same (w' := Lib.bytesWorld w e ⟨xs.toArray⟩) rfl rfl rfl (by rw [Lib.bytesWorld_size]; omega) (fun k hk => Lib.bytesWorld_at_old w e _ k hk)).focus (by rw [hn]; simp) (H.fresh (Nat.le_refl _))
  · simp only [execOp, Sem.run_bind, Sem.run_pure, Result.andThen_ok, hx, hr, hsz]

/-- what copy and append read of -/
def CopySrc (P : Program) (w : World) (u : Value) (xs : List Value) : Prop :=
  (∀ w' : World, (Builtin.lenOf u).run P w' = .ok xs.length w') ∧ ∀ n, n ≤ xs.length → (Builtin.firstCells 1 n u).run P w = .ok (xs.take n).toArray w

theorem RdS.csrc {v : Value} {xs : List Value} (h : RdS w v xs) : CopySrc P w v xs := by
  obtain ⟨ao, cap, rfl, hl, h⟩ := h
  refine ⟨fun w' => by simp [Builtin.lenOf], fun n hn => ?_⟩
  rcases h with rfl | ⟨b, off, rfl, h⟩
  · obtain rfl : n = 0 := by simpa using hn
    cases ao with
    | none => simp [Builtin.firstCells]
    | some a => simpa [Builtin.firstCells] using run_loadCells_list (P := P) w a [] (by simp)
  · have := loadCells_of (P := P) rfl h n
    rw [List.length_take, Nat.min_eq_left hn] at this
    simpa [Builtin.firstCells] using this

theorem S_csrc {xs : List UInt8} : CopySrc P w (S xs) (xs.map U) := by
  refine ⟨fun w' => by simp [Builtin.lenOf, ByteArray.size], fun n hn => ?_⟩
  simp only [Builtin.firstCells, Sem.run_pure]
  congr 1
  apply Array.ext'
  simp [ByteArray.extract, ByteArray.copySlice, List.map_take]

theorem E_copy {dT sT elem : TypeId} {b off len cap : Nat} {c xs : List Value} {e : TypeId} {f} {u : Value} {x y : Operand} (H : Hp w0 L w) (hL : At L b (blk c e) f) (ht : P.underlying dT = some (.slice elem)) (hS : ∀ w, (sizeOf elem).run P w = .ok 1 w)
    (hx : ev E x = sl b off len cap) (hy : ev E y = u) (hu : CopySrc P w u xs) (hfit : off + len ≤ c.length) (h1 : ∀ v ∈ xs, v.oneCell' = true) :
    ∃ (v : Value) (_ : Unit) (w' : World), v = I (min xs.length len : Nat) ∧ Hp w0 (f (blk (c.take off ++ xs.take len ++ c.drop (off + min xs.length len)) e)) w' ∧
      (execOp (ev E) (mk d (bi .copy #[x, y] #[dT, sT]) ty pos after)).run P w = .ok (.value v) w' := by
  have hg := H.get hL
  have e1 : xs.take len = xs.take (min xs.length len) := by
    rcases Nat.le_total xs.length len with h | h
    · rw [Nat.min_eq_left h, List.take_of_length_le h, List.take_length]
    · rw [Nat.min_eq_right h]
  have hlen : (xs.take len).length = min xs.length len := by rw [List.length_take, Nat.min_comm]
  have hst := run_storeCells_at P b off e (xs.take len) 0 c.toArray w hg (by rw [hlen]; simp; omega) (fun v hv => h1 v (List.mem_of_mem_take hv))
  simp only [Nat.add_zero, hlen] at hst
  have hfc := hu.2 (min xs.length len) (Nat.min_le_left _ _)
  rw [← e1] at hfc
  refine ⟨_, (), _, rfl, H.setRow hL (c' := c.take off ++ xs.take len ++ c.drop (off + min xs.length len)), ?_⟩
  · have hnm : Nat.min xs.length len = min xs.length len := rfl
    simp [execOp, resolve, invoke, builtin, hx, hy, Builtin.copy_, run_underlying ht, hu.1, hS, hnm, hfc, hst, goInt]

theorem R_copy0 {dT sT elem : TypeId} {u : Value} {xs : List Value} {ao : Option Addr} {len cap : Nat} {x y : Operand} (ht : P.underlying dT = some (.slice elem)) (hS : ∀ w, (sizeOf elem).run P w = .ok 1 w)
    (hx : ev E x = .slice ao len cap) (hy : ev E y = u) (hu : CopySrc P w u xs) (h0 : xs.length = 0 ∨ len = 0) :
    (execOp (ev E) (mk d (bi .copy #[x, y] #[dT, sT]) ty pos after)).run P w = .ok (.value (I 0)) w := by
  have hnm : Nat.min xs.length len = 0 := by show min xs.length len = 0; omega
  have hfc := hu.2 0 (Nat.zero_le _)
  cases ao <;> simp [execOp, resolve, invoke, builtin, hx, hy, Builtin.copy_, run_underlying ht, hu.1, hS, hnm, hfc, goInt, storeCells]

/-! ### strings by their bytes -/
theorem S_size {xs : List UInt8} : (⟨xs.toArray⟩ : ByteArray).size = xs.length := by simp [ByteArray.size]
theorem R_len_S {t : TypeId} {x : Operand} {xs : List UInt8} (ht : P.underlying t = some .string) (hx : ev E x = S xs)
    : (execOp (ev E) (mk d (bi .len #[x] #[t]) ty pos after)).run P w = .ok (.value (I xs.length)) w := by
  have := R_len_string (P := P) (w := w) (d := d) (ty := ty) (pos := pos) (after := after) ht hx
  rwa [S_size] at this
theorem R_index_S {t : TypeId} {x y : Operand} {k : IntKind} {i : Int} {xs : List UInt8} {u : UInt8} (ht : P.underlying t = some .string)
    (hx : ev E x = S xs) (hy : ev E y = .int k i) (h0 : 0 ≤ i) (hv : xs[i.toNat]? = some u)
    : (execOp (ev E) (mk d (.index t x y) ty pos after)).run P w = .ok (.value (U u)) w :=
  R_indexS ht hx hy h0 (by simpa using hv)
theorem R_cat_S {t t' : TypeId} {x y : Operand} {xs ys : List UInt8} (hx : ev E x = S xs) (hy : ev E y = S ys) (hl : xs.length + ys.length ≤ 9223372036854775807)
    : (execOp (ev E) (mk d (.binOp .add t x y t') ty pos after)).run P w = .ok (.value (S (xs ++ ys))) w :=
  R_cat hx hy (by rw [S_size, S_size]; omega) (by
    apply ByteArray.ext
    simp)
theorem R_slice_S {t : TypeId} {x : Operand} {lo hi : Option Operand} {xs : List UInt8} {i j : Int} (ht : P.underlying t = some .string)
    (hx : ev E x = S xs) (hlo : Bd E lo 0 i) (hhi : Bd E hi xs.length j) (h0 : 0 ≤ i) (h1 : i ≤ j) (h2 : j ≤ xs.length)
    : (execOp (ev E) (mk d (.slice t x lo hi none) ty pos after)).run P w = .ok (.value (S ((xs.take j.toNat).drop i.toNat))) w :=
  R_sliceStr ht hx hlo (by rw [S_size]; exact hhi) h0 h1 (by rw [S_size]; exact h2) (by
    apply ByteArray.ext
    rw [ByteArray.data_extract]
    simp [List.extract_eq_take_drop, List.drop_take])
theorem S_eq_iff {xs ys : List UInt8} : ((⟨xs.toArray⟩ : ByteArray).data.toList = (⟨ys.toArray⟩ : ByteArray).data.toList) ↔ xs = ys := by simp
theorem R_eq_S {t t' : TypeId} {x y : Operand} {xs ys : List UInt8} (hx : ev E x = S xs) (hy : ev E y = S ys)
    : (execOp (ev E) (mk d (.binOp .eql t x y t') ty pos after)).run P w = .ok (.value (.bool (decide (xs = ys)))) w := by
  rw [R_eq_str hx hy]
theorem R_eq_S_t {t t' : TypeId} {x y : Operand} {xs ys : List UInt8} (hx : ev E x = S xs) (hy : ev E y = S ys) (h : xs = ys)
    : (execOp (ev E) (mk d (.binOp .eql t x y t') ty pos after)).run P w = .ok (.value (.bool true)) w := by
  rw [R_eq_S hx hy, decide_eq_true h]
theorem R_eq_S_f {t t' : TypeId} {x y : Operand} {xs ys : List UInt8} (hx : ev E x = S xs) (hy : ev E y = S ys) (h : ¬ xs = ys)
    : (execOp (ev E) (mk d (.binOp .eql t x y t') ty pos after)).run P w = .ok (.value (.bool false)) w := by
  rw [R_eq_S hx hy, decide_eq_false h]
theorem R_ne_S {t t' : TypeId} {x y : Operand} {xs ys : List UInt8} (hx : ev E x = S xs) (hy : ev E y = S ys)
    : (execOp (ev E) (mk d (.binOp .neq t x y t') ty pos after)).run P w = .ok (.value (.bool (decide (xs ≠ ys)))) w := by
  rw [R_ne_str hx hy]
theorem R_ne_S_f {t t' : TypeId} {x y : Operand} {xs ys : List UInt8} (hx : ev E x = S xs) (hy : ev E y = S ys) (h : xs = ys)
    : (execOp (ev E) (mk d (.binOp .neq t x y t') ty pos after)).run P w = .ok (.value (.bool false)) w := by
  rw [R_ne_S hx hy, decide_eq_false (by simpa using h)]
theorem R_ne_S_t {t t' : TypeId} {x y : Operand} {xs ys : List UInt8} (hx : ev E x = S xs) (hy : ev E y = S ys) (h : ¬ xs = ys)
    : (execOp (ev E) (mk d (.binOp .neq t x y t') ty pos after)).run P w = .ok (.value (.bool true)) w := by
  rw [R_ne_S hx hy, decide_eq_true h]

/-- what is behind the last element of a slice's room -/
theorem R_sliceE {t elem : TypeId} {x : Operand} {lo hi : Option Operand} {b off len cap sz : Nat} {i j : Int} (ht : P.underlying t = some (.slice elem)) (hS : ∀ w, (sizeOf elem).run P w = .ok sz w)
    (hx : ev E x = sl b off len cap) (hlo : Bd E lo 0 i) (hhi : Bd E hi len j) (h0 : i = cap) (h1 : j = cap)
    : (execOp (ev E) (mk d (.slice t x lo hi none) ty pos after)).run P w = .ok (.value (sl b off 0 0)) w := by
  have h2 : j ≤ cap := by omega
  have h0' : 0 ≤ i := by omega
  have h1' : i ≤ j := by omega
  have hb : (Instr.sliceBounds true len cap (lo.map (ev E)) (hi.map (ev E)) none).run P w = .ok (i.toNat, j.toNat, cap) w := by
    cases hlo with
    | none =>
      cases hhi with
      | none => simp [Instr.sliceBounds]
      | some hh => simp [Instr.sliceBounds, hh, run_sliceBound (P := P) (w := w) (code := .sliceAcap) (show 0 ≤ j by omega) h2]
    | some hl =>
      cases hhi with
      | none => simp [Instr.sliceBounds, hl, run_sliceBound (P := P) (w := w) (code := .sliceB) h0' h1']
      | some hh => simp [Instr.sliceBounds, hl, hh, run_sliceBound (P := P) (w := w) (code := .sliceAcap) (show 0 ≤ j by omega) h2, run_sliceBound (P := P) (w := w) (code := .sliceB) (y := j.toNat) h0' (by omega)]
  have e1 : i.toNat = cap := by omega
  have e2 : j.toNat = cap := by omega
  rw [e1, e2] at hb
  simp [execOp, hx, Instr.sliceAt, Instr.slice, run_underlying ht, hb, hS]

theorem u8_in_i64 {x : UInt8} : IntKind.i64.wrap (x.toNat : Int) = (x.toNat : Int) := by
  have := x.toNat_lt
  exact w_i64 ⟨by omega, by omega⟩
theorem u8_in_u32 {x : UInt8} : IntKind.u32.wrap (x.toNat : Int) = (x.toNat : Int) := by
  have := x.toNat_lt
  exact w_u32 ⟨by omega, by omega⟩

theorem and_mask_u32 (k : Nat) {x m : Int} (M : Int) (hM : (2 : Int) ^ k = M) (hm : m = M - 1) (hk : k ≤ 31) : bitsOf .and .u32 x m = x % M := by
  have e1 : ((BitVec.ofInt 32 x &&& BitVec.ofInt 32 m).toNat : Int) = x % M := by
    have hp : (2 : Nat) ^ k ≤ 2 ^ 31 := Nat.pow_le_pow_right (by omega) hk
    have hpos : 0 < (2 : Nat) ^ k := Nat.pow_pos (by omega)
    have hMn : M = ((2 ^ k : Nat) : Int) := by rw [← hM]; simp
    have hmn : m = ((2 ^ k - 1 : Nat) : Int) := by rw [hm, hMn]; omega
    have h2 : (BitVec.ofInt 32 m).toNat = 2 ^ k - 1 := by
      rw [hmn, BitVec.toNat_ofInt]
      have : (2 ^ k - 1 : Nat) < 2 ^ 32 := by omega
      have h3 : (((2 ^ k - 1 : Nat) : Int) % ((2 ^ 32 : Nat) : Int)) = ((2 ^ k - 1 : Nat) : Int) := Int.emod_eq_of_lt (by omega) (by omega)
      rw [h3]; simp
    rw [BitVec.toNat_and, h2, and_nat k _ _ rfl, BitVec.toNat_ofInt]
    rw [Int.natCast_emod, ← hMn]
    have h5 : (((x % ((2 ^ 32 : Nat) : Int)).toNat : Nat) : Int) = x % ((2 ^ 32 : Nat) : Int) := Int.toNat_of_nonneg (Int.emod_nonneg _ (by decide))
    rw [h5]
    refine Int.emod_emod_of_dvd x ?_
    rw [hMn]
    exact Int.natCast_dvd_natCast.2 (Nat.pow_dvd_pow 2 (by omega))
  have hpos : 0 < M := by rw [← hM]; exact Int.pow_pos (by omega)
  have hle : M ≤ 2147483648 := by
    have h1 : (2 : Nat) ^ k ≤ 2 ^ 31 := Nat.pow_le_pow_right (by omega) hk
    have h2 : M = ((2 ^ k : Nat) : Int) := by rw [← hM]; simp
    omega
  have h0 := Int.emod_nonneg x (show M ≠ 0 by omega)
  have h1 := Int.emod_lt_of_pos x hpos
  show IntKind.u32.wrap ((BitVec.ofInt 32 x &&& BitVec.ofInt 32 m).toNat : Int) = x % M
  rw [e1]
  exact w_u32 ⟨by omega, by omega⟩

end
end Go.Proofs.YthonajikgljgmaaGreat.Fx
