/-
  Zeros behind a row of bytes of one's own.
-/
import Derived.Test.YtcpkhgdjckogjaaFxU
import Derived.Test.YtcpkhgdjckogjaaFxZ
namespace Go.Proofs.Ytcpkhgdjckogjaa.Fx
open Go Go.Proofs
set_option linter.unusedVariables false
set_option linter.unusedSimpArgs false

theorem zeroCells_u8 (n : Nat) : Builtin.zeroCells (U 0).cells n = (List.replicate n (U 0)).toArray := by
  have h := zeros_eq [U 0] n
  rw [replicate_one] at h
  exact h
theorem zeroStr_u8 (n : Nat) : (((⟨(List.replicate n (0 : UInt8)).toArray⟩ : ByteArray).extract 0 n).data.map fun b => Value.int .u8 b.toNat) = (List.replicate n (U 0)).toArray := by
  apply Array.ext'
  simp [List.map_replicate]

section
variable {P : Program} {E : Env} {w0 w : World} {L : List (Nat × Obj)} {d : Option Nat} {ty : TypeId} {pos : String} {after : Array Edge}
theorem run_append_zeros_eq {t tn ts e : TypeId} {i : TypeInfo} {k kn : IntKind} {a : Option Addr} {len cap n : Nat} (ht : P.underlying t = some (.slice e)) (htn : P.underlying tn = some (.int kn)) (hts : P.underlying ts = some .string)
    (hi : P.info? e = some i) (hz : i.zero = some (U 0)) (hs : i.size = 1) (hn : 0 < n) (h63 : ((len + n : Nat) : Int) ≤ 9223372036854775807) (hb : (n : Int) * (i.bytes : Int) ≤ 281474976710656) (h48 : cap < len + n → Builtin.nextslicecap (len + n) cap * i.bytes ≤ 281474976710656) :
    (Builtin.append_ #[t, tn] ty #[.slice a len cap, .int k n]).run P w = (Builtin.append_ #[t, ts] ty #[.slice a len cap, S (List.replicate n 0)]).run P w := by
  have hw : IntKind.i64.wrap (n : Int) = n := by rw [IntKind.wrap_i64]; omega
  have h48i : ¬ (281474976710656 < (n : Int) * (i.bytes : Int)) := by omega
  have hneg : ¬ ((n : Int) < 0) := by omega
  have hns : ¬ (n = 0) := by omega
  have hsz : (⟨(List.replicate n (0 : UInt8)).toArray⟩ : ByteArray).size = n := by simp [ByteArray.size]
  have hU : Value.int .u8 0 = U 0 := rfl
  have hsz2 : (⟨Array.replicate n (0 : UInt8)⟩ : ByteArray).size = n := by simp [ByteArray.size]
  have h63' : ¬ (9223372036854775807 < ((len + n : Nat) : Int)) := by omega
  have h63'' : ¬ (9223372036854775807 < (len : Int) + (n : Int)) := by omega
  by_cases hroom : len + n ≤ cap
  · simp [Builtin.append_, run_underlying ht, run_underlying htn, run_underlying hts, sizeOf, typeInfo, zeroValue, hi, hz, hs, asInt, asIntOf, hw, hneg, hns, h48i, hroom, Builtin.lenOf, hsz2, Builtin.firstCells, zeroCells_u8, zeroStr_u8, hU]
    try rfl
  · have h48' : ¬ (281474976710656 < Builtin.nextslicecap (len + n) cap * i.bytes) := by have := h48 (by omega); omega
    simp [Builtin.append_, run_underlying ht, run_underlying htn, run_underlying hts, sizeOf, typeInfo, zeroValue, hi, hz, hs, asInt, asIntOf, hw, hneg, hns, h48i, hroom, Builtin.lenOf, hsz2, h63', h63'', h48', Builtin.firstCells, zeroCells_u8, zeroStr_u8, hU]
    try rfl
theorem E_appendZo {t tn ts e : TypeId} {len n : Nat} {v : Value} {k kn : IntKind} {i : TypeInfo} {xs : List Value} {M : List (Nat × Obj)} {f} {x y : Operand} (H : Hp w0 L w) (hM : AtM L M f) (ho : OwnS w0.heap.size e 1 v len xs M)
    (ht : P.underlying t = some (.slice e)) (htn : P.underlying tn = some (.int kn)) (hts : P.underlying ts = some .string) (hI0 : ∀ w, (typeInfo e).run P w = .ok i w) (hsz : i.size = 1) (hZ : i.zero = some (U 0))
    (hx : ev E x = v) (hy : ev E y = .int k n) (hn : 0 < n) (hlen : len + n ≤ 9223372036854775807) (hby : (len + n) * i.bytes ≤ 140737488355328) :
    ∃ v' M' w', OwnS w0.heap.size e 1 v' (len + n) (xs ++ List.replicate n (U 0)) M' ∧ Hp w0 (f M') w' ∧ (execOp (ev E) (mk d (bi .append #[x, y] #[t, tn]) ty pos after)).run P w = .ok (.value v') w' := by
  have hs : (⟨(List.replicate n (0 : UInt8)).toArray⟩ : ByteArray).size = n := by simp [ByteArray.size]
  have hc : ∀ w : World, (Builtin.firstCells 1 n (S (List.replicate n 0))).run P w = .ok (List.replicate n (U 0)).toArray w := fun w => by
    show (pure (((⟨(List.replicate n (0 : UInt8)).toArray⟩ : ByteArray).extract 0 n).data.map fun b => Value.int .u8 b.toNat) : Sem _).run P w = _
    rw [zeroStr_u8]; rfl
  have hsrc : Src P 1 ts (S (List.replicate n 0)) n (List.replicate n (U 0)) w :=
    ⟨.inr hts, fun w' => by show (pure (⟨(List.replicate n (0 : UInt8)).toArray⟩ : ByteArray).size : Sem Nat).run P w' = _; rw [hs]; rfl, hc w, hc w.drew, by simp, fun u hu => by rw [(List.mem_replicate.1 hu).2]; rfl⟩
  obtain ⟨v', M', w', h1, h2, h3⟩ := E_append (d := d) (ty := ty) (pos := pos) (after := after) (E := fun j => if j = 0 then v else S (List.replicate n 0)) (x := .tmp 0) (y := .tmp 1) (news := List.replicate n (U 0)) H hM ho ht hI0 hsz hZ rfl rfl rfl rfl hsrc hlen hby
  refine ⟨v', M', w', h1, h2, ?_⟩
  obtain ⟨ao, cap, hv⟩ := ho.form
  have hb : n * i.bytes ≤ 140737488355328 := Nat.le_trans (Nat.mul_le_mul_right _ (by omega)) hby
  have hb' : (n : Int) * (i.bytes : Int) ≤ 281474976710656 := by rw [← Int.natCast_mul]; omega
  have heq := run_append_zeros_eq (P := P) (w := w) (ty := ty) (t := t) (tn := tn) (ts := ts) (k := k) (a := ao) (len := len) (cap := cap) ht htn hts (info_of_run hI0 w) hZ hsz hn (by omega) hb' (fun h => growslice_fits h hby)
  subst hv
  have e1 : (execOp (ev E) (mk d (bi .append #[x, y] #[t, tn]) ty pos after)).run P w = ((Builtin.append_ #[t, tn] ty #[.slice ao len cap, .int k n]).run P w).andThen fun a w' => .ok (.value a) w' := by
    simp [execOp, resolve, invoke, builtin, hx, hy]
  have e2 : (execOp (ev fun j => if j = 0 then .slice ao len cap else S (List.replicate n 0)) (mk d (bi .append #[.tmp 0, .tmp 1] #[t, ts]) ty pos after)).run P w = ((Builtin.append_ #[t, ts] ty #[.slice ao len cap, S (List.replicate n 0)]).run P w).andThen fun a w' => .ok (.value a) w' := by
    have a1 : ev (fun j => if j = 0 then .slice ao len cap else S (List.replicate n 0)) (.tmp 0) = .slice ao len cap := rfl
    have a2 : ev (fun j => if j = 0 then .slice ao len cap else S (List.replicate n 0)) (.tmp 1) = S (List.replicate n 0) := rfl
    simp only [execOp, resolve, invoke, builtin, Sem.run_bind, Sem.run_pure, Result.andThen_ok, List.map_toArray, List.map_cons, List.map_nil, a1, a2]
  rw [e1, heq, ← e2]
  exact h3
end
end Go.Proofs.Ytcpkhgdjckogjaa.Fx
