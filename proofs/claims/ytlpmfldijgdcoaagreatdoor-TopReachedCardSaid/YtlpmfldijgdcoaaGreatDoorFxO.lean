/-
  Slices of things of many cells that are only read.
-/
import Derived.Test.YtlpmfldijgdcoaaGreatDoorFxM2
namespace Go.Proofs.YtlpmfldijgdcoaaGreatDoor.Fx
open Go
set_option linter.unusedVariables false

/-- a row told by its places -/
def tab {α : Type} (n : Nat) (f : Nat → α) : List α := (List.range n).map f
/-- The slice v reads as the things of l, each in its cells. -/
def RdR {α : Type} (f : α → List Value) (w : World) (v : Value) (l : List α) : Prop :=
  ∃ ao cap, v = .slice ao l.length cap ∧ l.length ≤ cap ∧ (l = [] ∨ ∃ b off, ao = some ⟨b, off, none⟩ ∧ ∀ j u, (rows f l)[j]? = some u → w.cell? ⟨b, off + j, none⟩ = some u)

section
variable {α : Type} {f : α → List Value} {sz : Nat} {P : Program} {E : Env} {w0 w : World} {L : List (Nat × Obj)}
variable {d : Option Nat} {ty : TypeId} {pos : String} {after : Array Edge}

theorem RdR.nil : RdR f w nilS [] := ⟨none, 0, rfl, Nat.le_refl _, .inl rfl⟩
theorem RdR.form {v : Value} {l : List α} (h : RdR f w v l) : ∃ ao cap, v = .slice ao l.length cap := by
  obtain ⟨ao, cap, hv, _⟩ := h; exact ⟨ao, cap, hv⟩
theorem RdR.monoN {w' : World} {v : Value} {l : List α} (h : RdR f w v l) (H : Hp w L w') (hn : ∀ p ∈ L, w.heap.size ≤ p.1) : RdR f w' v l := by
  obtain ⟨ao, cap, rfl, hl, h⟩ := h
  refine ⟨ao, cap, rfl, hl, ?_⟩
  rcases h with h | ⟨b, off, rfl, h⟩
  · exact .inl h
  · exact .inr ⟨b, off, rfl, fun j u hj => H.cellN (h j u hj) hn⟩
/-- the slice lies in none of the blocks in sight -/
theorem RdR.mono {w' : World} {v : Value} {l : List α} (h : RdR f w v l) (H : Hp w L w') (hn : ∀ a m c, v = .slice (some a) m c → a.block ∉ L.map (·.1)) : RdR f w' v l := by
  obtain ⟨ao, cap, rfl, hl, h⟩ := h
  refine ⟨ao, cap, rfl, hl, ?_⟩
  rcases h with h | ⟨b, off, rfl, h⟩
  · exact .inl h
  · exact .inr ⟨b, off, rfl, fun j u hj => H.cell (h j u hj) (hn ⟨b, off, none⟩ _ _ rfl)⟩
theorem RdR.same {w' : World} {v : Value} {l : List α} (h : RdR f w v l) (H : Hp w [] w') : RdR f w' v l := h.monoN H kNil
theorem RdR.blk {b off cap : Nat} {c : List Value} {l : List α} {e : TypeId} {fz : Nat × Nat} (hb : w.heap[b]? = some (.cells c.toArray e fz)) (h : (c.drop off).take (rows f l).length = rows f l) (hc : l.length ≤ cap) : RdR f w (sl b off l.length cap) l := by
  refine ⟨some ⟨b, off, none⟩, cap, rfl, hc, .inr ⟨b, off, rfl, fun j u hj => ?_⟩⟩
  rw [cell_blk hb]
  rw [← h, List.getElem?_take] at hj
  split at hj
  · rwa [List.getElem?_drop] at hj
  · cases hj
theorem RdR.own {B : Nat} {e : TypeId} {v : Value} {m : Nat} {l : List α} {M : List (Nat × Obj)} (hf : ∀ a, (f a).length = sz) (h : OwnS B e sz v m (rows f l) M) (hm : m = l.length) (hM : ∀ p ∈ M, w.heap[p.1]? = some p.2) : RdR f w v l := by
  subst hm
  obtain ⟨_, h⟩ := h
  rcases h with ⟨rfl, h0, rfl⟩ | ⟨b, cap, sp, rfl, hb, rfl, hs, hc⟩
  · obtain rfl : l = [] := List.length_eq_zero_iff.1 h0
    exact RdR.nil
  · exact RdR.blk (c := rows f l ++ sp) (off := 0) (hM _ (.head _)) (by simp) hc
theorem RdR.cell {ao : Option Addr} {m cap i : Nat} {l : List α} {a : α} (hf : ∀ a, (f a).length = sz) (h : RdR f w (.slice ao m cap) l) (hi : l[i]? = some a) :
    ∃ b off, ao = some ⟨b, off, none⟩ ∧ ∀ j v, (f a)[j]? = some v → w.cell? ⟨b, off + i * sz + j, none⟩ = some v := by
  obtain ⟨ao', cap', e, _, h⟩ := h
  cases e
  rcases h with rfl | ⟨b, off, h1, h2⟩
  · simp at hi
  · refine ⟨b, off, h1, fun j v hj => ?_⟩
    have hjl := (List.getElem?_eq_some_iff.1 hj).1
    rw [hf] at hjl
    rw [Nat.add_assoc]
    exact h2 _ v ((rows_get hf hi hjl).trans hj)
theorem RdR.src {tx e' : TypeId} {v : Value} {l : List α} (hf : ∀ a, (f a).length = sz) (h : RdR f w v l) (hk : P.underlying tx = some (.slice e')) (h1 : ∀ u ∈ rows f l, u.oneCell' = true) : Src P sz tx v l.length (rows f l) w := by
  obtain ⟨ao, cap, rfl, hl, h⟩ := h
  have hlen := rows_length hf l
  rcases h with rfl | ⟨b, off, rfl, h⟩
  · cases ao with
    | none => exact Src.ofNil w hk cap
    | some a => exact Src.ofSlice w hk a 0 cap [] (by simp) (fun j u hj => by simp at hj) (by simp)
  · exact src_cells hk hlen h h1

theorem R_loadA_cell {t : TypeId} {x : Operand} {b off sz : Nat} {vs : List Value} (hA : ∀ w, (isAgg t).run P w = .ok true w) (hS : ∀ w, (sizeOf t).run P w = .ok sz w) (hx : ev E x = ptr b off)
    (hc : ∀ j v, vs[j]? = some v → w.cell? ⟨b, off + j, none⟩ = some v) (hl : vs.length = sz)
    : (execOp (ev E) (mk d (.load t x) ty pos after)).run P w = .ok (.value (.agg vs.toArray)) w := by
  have := run_loadAgg (P := P) (w := w) (b := b) (off := off) hA hS hc hl
  simp [execOp, hx, Instr.loadAt, Instr.sureAddr, this]
theorem RdS.form {v : Value} {xs : List Value} (h : RdS w v xs) : ∃ ao cap, v = .slice ao xs.length cap := by
  obtain ⟨ao, cap, hv, _⟩ := h; exact ⟨ao, cap, hv⟩
theorem foldl_set (vs : List Value) : ∀ (off k : Nat) (cs : Array Value), off + k + vs.length ≤ cs.size →
    ((vs.zipIdx k).foldl (fun (cs : Array Value) (p : Value × Nat) => cs.setIfInBounds (off + p.2) p.1) cs).toList = cs.toList.take (off + k) ++ vs ++ cs.toList.drop (off + k + vs.length) := by
  induction vs with
  | nil => intro off k cs h; simp
  | cons v vs ih =>
    intro off k cs h
    rw [List.length_cons] at h
    rw [List.zipIdx_cons, List.foldl_cons, ih off (k + 1) _ (by simp; omega)]
    rw [Array.toList_setIfInBounds, List.take_set, List.drop_set, if_pos (by omega)]
    have hlt : off + k < cs.toList.length := by simp; omega
    have e1 : (cs.toList.take (off + (k + 1))).set (off + k) v = cs.toList.take (off + k) ++ [v] := by
      rw [show off + (k + 1) = (off + k) + 1 from by omega, List.take_succ_eq_append_getElem hlt, List.set_append, if_neg (by simp; omega)]
      simp only [List.length_take]
      rw [show off + k - min (off + k) cs.toList.length = 0 from by omega]
      rfl
    rw [e1, List.length_cons, show off + (k + 1) + vs.length = off + k + (vs.length + 1) from by omega]
    simp

theorem arr_zip {β : Type} (vs : List Value) (f : β → Value × Nat → β) (b : β) : vs.toArray.zipIdx.foldl f b = vs.zipIdx.foldl f b := by
  rw [← Array.foldl_toList]; simp

theorem fill_rows {sz : Nat} : ∀ (vss : List (List Value)) (k : Nat) (pre rest : List Value), (∀ vs ∈ vss, vs.length = sz) → pre.length = k * sz → vss.length * sz ≤ rest.length →
    Instr.fill (fun i => some (i * sz, sz)) (pre ++ rest).toArray ((vss.zipIdx k).map fun p => (p.2, .agg p.1.toArray)) = some (pre ++ vss.flatten ++ rest.drop (vss.length * sz)).toArray
  | [], k, pre, rest, _, _, _ => by simp [Instr.fill]
  | vs :: vss, k, pre, rest, h, hp, hr => by
    have hvs := h vs (.head _)
    rw [List.length_cons, Nat.add_mul, Nat.one_mul] at hr
    rw [List.zipIdx_cons, List.map_cons, Instr.fill]
    have hc : (Value.agg vs.toArray).cells = vs.toArray := rfl
    simp only [hc]
    rw [if_neg (by simp [hvs, hp]; omega)]
    have hf : (vs.toArray.zipIdx.foldl (fun (cs : Array Value) (x : Value × Nat) => match x with | (c, j) => cs.setIfInBounds (k * sz + j) c) (pre ++ rest).toArray) = ((pre ++ vs) ++ rest.drop sz).toArray := by
      apply Array.ext'
      have := foldl_set vs (k * sz) 0 (pre ++ rest).toArray (by simp [hvs, hp]; omega)
      simp only [Nat.add_zero] at this
      rw [hvs, ← hp, List.take_left, List.drop_length_add_append] at this
      rw [arr_zip, ← hp]
      rw [List.append_assoc] at this ⊢
      exact this
    rw [hf, fill_rows vss (k + 1) (pre ++ vs) (rest.drop sz) (fun v hv => h v (.tail _ hv)) (by rw [List.length_append, hp, hvs, Nat.add_mul, Nat.one_mul]) (by rw [List.length_drop]; omega)]
    rw [List.drop_drop, List.length_cons, Nat.add_mul, Nat.one_mul, Nat.add_comm sz]
    simp

theorem fill_ones : ∀ (vs : List Value) (k : Nat) (pre rest : List Value), (∀ v ∈ vs, v.oneCell' = true) → pre.length = k → vs.length ≤ rest.length →
    Instr.fill (fun i => some (i * 1, 1)) (pre ++ rest).toArray ((vs.zipIdx k).map fun p => (p.2, p.1)) = some (pre ++ vs ++ rest.drop vs.length).toArray
  | [], k, pre, rest, _, _, _ => by simp [Instr.fill]
  | v :: vs, k, pre, rest, h, hp, hr => by
    rw [List.length_cons] at hr
    rw [List.zipIdx_cons, List.map_cons, Instr.fill]
    have hc : v.cells = #[v] := by have := h v (.head _); cases v <;> first | rfl | cases this
    simp only [hc]
    have hlt : ¬ (k + rest.length < k + 1) := by omega
    rw [if_neg (by simpa [hp] using fun e : rest = [] => by subst e; simp at hr)]
    have hf : ((#[v] : Array Value).zipIdx.foldl (fun (cs : Array Value) (x : Value × Nat) => match x with | (c, j) => cs.setIfInBounds (k * 1 + j) c) (pre ++ rest).toArray) = ((pre ++ [v]) ++ rest.drop 1).toArray := by
      apply Array.ext'
      have := foldl_set [v] (k * 1) 0 (pre ++ rest).toArray (by simp [hp]; omega)
      simp only [Nat.add_zero, Nat.mul_one, List.length_singleton] at this
      rw [← hp, List.take_left, List.drop_length_add_append] at this
      rw [← hp]
      simp only [Nat.mul_one]
      exact this
    rw [hf, fill_ones vs (k + 1) (pre ++ [v]) (rest.drop 1) (fun v hv => h v (.tail _ hv)) (by rw [List.length_append, hp, List.length_singleton]) (by rw [List.length_drop]; omega)]
    rw [List.drop_drop, List.length_cons, Nat.add_comm 1]
    simp

/-- a literal of structs, each of them told -/
theorem E_buildRows {t elem : TypeId} {len sz : Nat} {parts : Array (Nat × Operand)} {vss : List (List Value)} {zs : List Value} {z : Value} (H : Hp w0 L w) (ht : P.underlying t = some (.slice elem))
    (hS : ∀ w, (sizeOf elem).run P w = .ok sz w) (hZ : ∀ w, (zeroValue elem).run P w = .ok z w) (hz : z.cells = zs.toArray) (hzl : zs.length = sz) (hn : len * sz ≤ 16777216) (hvl : vss.length = len)
    (hp : parts.toList.map (fun p => (p.1, ev E p.2)) = (vss.zipIdx 0).map fun p => (p.2, .agg p.1.toArray)) (hvs : ∀ vs ∈ vss, vs.length = sz) :
    ∃ b w', w0.heap.size ≤ b ∧ Hp w0 ((b, blk vss.flatten elem) :: L) w' ∧ (execOp (ev E) (mk d (.buildSlice t len parts) ty pos after)).run P w = .ok (.value (sl b 0 len len)) w' := by
  refine E_buildSlice (ps := (vss.zipIdx 0).map fun p => (p.2, .agg p.1.toArray)) H ht hS hZ hz hzl hn hp ?_
  have hl : (List.replicate len zs).flatten.length = vss.length * sz := by simp [hzl, hvl]
  have := fill_rows vss 0 [] (List.replicate len zs).flatten hvs (by simp) (by rw [hl]; exact Nat.le_refl _)
  rw [List.nil_append, List.nil_append, ← hl, List.drop_length, List.append_nil] at this
  exact this

/-- a literal of things of one cell, each of them told -/
theorem E_buildOnes {t elem : TypeId} {len : Nat} {parts : Array (Nat × Operand)} {vs : List Value} {zs : List Value} {z : Value} (H : Hp w0 L w) (ht : P.underlying t = some (.slice elem))
    (hS : ∀ w, (sizeOf elem).run P w = .ok 1 w) (hZ : ∀ w, (zeroValue elem).run P w = .ok z w) (hz : z.cells = zs.toArray) (hzl : zs.length = 1) (hn : len * 1 ≤ 16777216) (hvl : vs.length = len)
    (hp : parts.toList.map (fun p => (p.1, ev E p.2)) = (vs.zipIdx 0).map fun p => (p.2, p.1)) (hvs : ∀ v ∈ vs, v.oneCell' = true) :
    ∃ b w', w0.heap.size ≤ b ∧ Hp w0 ((b, blk vs elem) :: L) w' ∧ (execOp (ev E) (mk d (.buildSlice t len parts) ty pos after)).run P w = .ok (.value (sl b 0 len len)) w' := by
  refine E_buildSlice (ps := (vs.zipIdx 0).map fun p => (p.2, p.1)) H ht hS hZ hz hzl hn hp ?_
  have hl : (List.replicate len zs).flatten.length = vs.length := by simp [hzl, hvl]
  have := fill_ones vs 0 [] (List.replicate len zs).flatten hvs (by simp) (by rw [hl]; exact Nat.le_refl _)
  rw [List.nil_append, List.nil_append, ← hl, List.drop_length, List.append_nil] at this
  exact this
end
end Go.Proofs.YtlpmfldijgdcoaaGreatDoor.Fx
