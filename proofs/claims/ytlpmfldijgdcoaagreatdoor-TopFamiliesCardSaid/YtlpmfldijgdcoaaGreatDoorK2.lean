/-
Tests of several parts: the ways through the parts meet again behind them. Slices of things of many cells that are only read. cap, an append of zeros, slices with three bounds. Cells that move within their own block: an append in place, a clear, a cut with both bounds and a capacity. Cuts with plain numbers. Functions whose first result is a struct: it lies in a block of its own and is loaded at the end. Functions with any results, some of which lie in memory. Three operations that may come up, in any order. What comes in: slices of structs, structs. Fields of structs that come in: slices of bytes, bytes, truth values. The rules for a walk, in few letters, so that a row of them can stand in one term. A row with a mark behind it. What the functions of package table do, over things of 6 cells. Spaces of caps: their blocks; one is made. Spaces of caps: put, got, granted. Spaces of caps: granted. What slices.Clone of bytes does. What the functions of package mem do. Regions: one is made, one is added; where bytes of a cap lie. Regions: read, written, copied; what is refused. Regions: where bytes of a cap lie, whatever region it is of. A kernel, as far as bytes go; its Do, asked to read or to write bytes that are there. What a Sect holds in memory; the lesser calls.
-/
import Derived.Test.YtlpmfldijgdcoaaGreatDoorK1
import Derived.Lib.AppendZeros
import Derived.Deep.Slices
import Derived.OpenShut
import Derived.Test.YtlpmfldijgdcoaaGreatDoorProg
set_option maxRecDepth 100000
set_option maxHeartbeats 16000000
namespace Go.Proofs.YtlpmfldijgdcoaaGreatDoor.Fx
open Go
theorem wp_monoQ {P : Program} {o : Oper} {a : Act} {w : World} {K K' : Act → World → Prop} {Q Q' : Exit → Act → World → Prop} (h : ∀ a w, K a w → K' a w)
  (hp : ∀ c a w, Q (.panic c) a w → Q' (.panic c) a w) (ho : LetsOut Q → LetsOut Q') (hh : o.wp P a w K Q) : o.wp P a w K' Q' := by
 unfold Oper.wp at *
 generalize (execOp a.eval o).run P w = r at *
 cases r with
 | ok n w' =>
  cases n <;> simp only [Oper.upon] at hh ⊢ <;>
   first
    | exact h _ _ hh
    | exact Calls.mono hh (fun e w'' he => by cases e <;> first | exact h _ _ he | exact hp _ _ _ he | exact ho he)
    | exact Rows.mono hh (fun _ _ he => h _ _ he)
 | halt x w' => cases x <;> simp only [Oper.upon] at hh ⊢ <;> first | exact hp _ _ _ hh | exact hh
section
variable {P : Program} {n : Nat} {ops : Array Oper} {kn : Env → World → Prop} {l : List Oper} {E : Env} {w0 w : World} {L : List (Nat × Obj)}
theorem wpList_app {Q : Exit → Act → World → Prop} {l2 : List Oper} : ∀ (l1 : List Oper) (a : Act) (w : World),
  wpList P ops (fun e a w => match e with | .normal => wpList P ops Q l2 a w | _ => False) l1 a w → wpList P ops Q (l1 ++ l2) a w
 | [], a, w, h => h
 | o :: l1, a, w, h => by
  rw [List.cons_append]
  unfold wpList at h ⊢
  split
  ·rename_i hw
   rw [if_pos hw] at h
   rcases h with h | ⟨_, a', w', h⟩
   ·exact .inl (wp_monoQ (fun a w h => wpList_app l1 a w h) (fun _ _ _ h => h.elim) (fun ⟨_, _, h⟩ => h.elim) h)
   ·exact h.elim
  ·rename_i hw
   rw [if_neg hw] at h
   exact wpList_app l1 _ _ h
theorem WL_app {l2 : List Oper} {kn1 : Env → World → Prop} (h : WL P n ops kn1 l E w) (k : ∀ E' w', kn1 E' w' → WL P n ops kn l2 E' w') : WL P n ops kn (l ++ l2) E w := by
 refine ⟨fun Q hQ a ha => ?_⟩
 exact wpList_app l a w (h.out _ (fun a E' w' ha hk => (k E' w' hk).out Q hQ a ha) a ha)
/-- Behind the first k operations this slot holds v, and what is in sight is as it was. -/
theorem WL_join (k t : Nat) (D : List (Nat × Nat)) (v : Value) (h1 : WL P n ops (fun E' w' => Same D E' E ∧ E' t = v ∧ Hp w0 L w') (l.take k) E w)
  (h2 : ∀ E' w', Hp w0 L w' → WL P n ops kn (l.drop k) (ovr D (know E' t v) E) w') : WL P n ops kn l E w := by
 rw [← List.take_append_drop k l]
 refine WL_app h1 ?_
 rintro E' w' ⟨hS, ht, hH⟩
 have := h2 E' w' hH
 rwa [Zj ht, ovr_eq hS] at this
theorem Xz (k tj t : Nat) (D : List (Nat × Nat)) (_H : Hp w0 L w) {a q : Prop} {ia : Decidable a} {iq : Decidable q} (hc : E tj = .bool (@decide a ia))
  (h1 : ¬ a → WL P n ops (fun E' w' => Same D E' (know E tj (.bool false)) ∧ E' t = .bool (@decide q iq) ∧ Hp w0 L w') (l.take k) (know E tj (.bool false)) w)
  (h0 : a → WL P n ops (fun E' w' => Same D E' (know E tj (.bool true)) ∧ E' t = .bool true ∧ Hp w0 L w') (l.take k) (know E tj (.bool true)) w)
  (h2 : ∀ E' w', Hp w0 L w' → WL P n ops kn (l.drop k) (ovr D (know E' t (.bool (@decide (a ∨ q) (@instDecidableOr a q ia iq)))) E) w') : WL P n ops kn l E w := by
 refine WL_join k t D (.bool (@decide (a ∨ q) (@instDecidableOr a q ia iq))) ?_ h2
 by_cases ha : a
 ·have h := h0 ha
  have e : E tj = .bool true := by rw [hc]; exact congrArg Value.bool (decide_eq_true ha)
  rw [Zj e] at h
  have e2 : @decide (a ∨ q) (@instDecidableOr a q ia iq) = true := decide_eq_true (.inl ha)
  rw [e2]; exact h
 ·have h := h1 ha
  have e : E tj = .bool false := by rw [hc]; exact congrArg Value.bool (decide_eq_false ha)
  rw [Zj e] at h
  have e2 : @decide (a ∨ q) (@instDecidableOr a q ia iq) = @decide q iq := by
   by_cases hq : q
   ·exact (decide_eq_true (.inr hq)).trans (decide_eq_true hq).symm
   ·exact (decide_eq_false (fun h => h.elim ha hq)).trans (decide_eq_false hq).symm
  rw [e2]; exact h
theorem Xs (k tj t : Nat) (D : List (Nat × Nat)) (_H : Hp w0 L w) {a q : Prop} {ia : Decidable a} {iq : Decidable q} (hc : E tj = .bool (@decide a ia))
  (h1 : a → WL P n ops (fun E' w' => Same D E' (know E tj (.bool true)) ∧ E' t = .bool (@decide q iq) ∧ Hp w0 L w') (l.take k) (know E tj (.bool true)) w)
  (h0 : ¬ a → WL P n ops (fun E' w' => Same D E' (know E tj (.bool false)) ∧ E' t = .bool false ∧ Hp w0 L w') (l.take k) (know E tj (.bool false)) w)
  (h2 : ∀ E' w', Hp w0 L w' → WL P n ops kn (l.drop k) (ovr D (know E' t (.bool (@decide (a ∧ q) (@instDecidableAnd a q ia iq)))) E) w') : WL P n ops kn l E w := by
 refine WL_join k t D (.bool (@decide (a ∧ q) (@instDecidableAnd a q ia iq))) ?_ h2
 by_cases ha : a
 ·have h := h1 ha
  have e : E tj = .bool true := by rw [hc]; exact congrArg Value.bool (decide_eq_true ha)
  rw [Zj e] at h
  have e2 : @decide (a ∧ q) (@instDecidableAnd a q ia iq) = @decide q iq := by
   by_cases hq : q
   ·exact (decide_eq_true ⟨ha, hq⟩).trans (decide_eq_true hq).symm
   ·exact (decide_eq_false (fun h => hq h.2)).trans (decide_eq_false hq).symm
  rw [e2]; exact h
 ·have h := h0 ha
  have e : E tj = .bool false := by rw [hc]; exact congrArg Value.bool (decide_eq_false ha)
  rw [Zj e] at h
  have e2 : @decide (a ∧ q) (@instDecidableAnd a q ia iq) = false := decide_eq_false (fun h => ha h.1)
  rw [e2]; exact h
theorem decV {v : Value} {b : Bool} (h : v = .bool b) : v = .bool (decide (b = true)) := by rw [h]; cases b <;> rfl
end
end Go.Proofs.YtlpmfldijgdcoaaGreatDoor.Fx
namespace Go.Proofs.YtlpmfldijgdcoaaGreatDoor.Fx
open Go
/-- a row told by its places -/
def tab {α : Type} (n : Nat) (f : Nat → α) : List α := (List.range n).map f
/-- The slice v reads as the things of l, each in its cells. -/
def RdR {α : Type} (f : α → List Value) (w : World) (v : Value) (l : List α) : Prop :=
 ∃ ao cap, v = .slice ao l.length cap ∧ l.length ≤ cap ∧ (l = [] ∨ ∃ b off, ao = some ⟨b, off, none⟩ ∧ ∀ j u, (rows f l)[j]? = some u → w.cell? ⟨b, off + j, none⟩ = some u)
section
variable {α : Type} {f : α → List Value} {sz : Nat} {P : Program} {E : Env} {w0 w : World} {L : List (Nat × Obj)}
variable {d : Option Nat} {ty : TypeId} {pos : String} {after : Array Edge}
theorem RdR.nil : RdR f w nilS [] := ⟨none, 0, rfl, Nat.le_refl _, .inl rfl⟩
theorem lt_of_cell {a : Addr} {v : Value} (h : w.cell? a = some v) : a.block < w.heap.size := by
 rcases Nat.lt_or_ge a.block w.heap.size with h' | h'
 ·exact h'
 ·simp [World.cell?, Array.getElem?_eq_none h'] at h
theorem RdS.lt {v : Value} {xs : List Value} (h : RdS w v xs) (hx : xs ≠ []) : ∀ a m c, v = .slice (some a) m c → a.block < w.heap.size := by
 obtain ⟨ao, cap, rfl, _, h⟩ := h
 intro a m c he
 cases he
 rcases h with h | ⟨b, off, h, hc⟩
 ·exact (hx h).elim
 ·cases h
  obtain ⟨x, xs', rfl⟩ := List.exists_cons_of_ne_nil hx
  exact lt_of_cell (hc 0 x rfl)
theorem RdR.form {v : Value} {l : List α} (h : RdR f w v l) : ∃ ao cap, v = .slice ao l.length cap := by
 obtain ⟨ao, cap, hv, _⟩ := h; exact ⟨ao, cap, hv⟩
theorem RdR.Yd {w' : World} {v : Value} {l : List α} (h : RdR f w v l) (H : Hp w L w') (hn : ∀ p ∈ L, w.heap.size ≤ p.1) : RdR f w' v l := by
 obtain ⟨ao, cap, rfl, hl, h⟩ := h
 refine ⟨ao, cap, rfl, hl, ?_⟩
 rcases h with h | ⟨b, off, rfl, h⟩
 ·exact .inl h
 ·exact .inr ⟨b, off, rfl, fun j u hj => H.Zx (h j u hj) hn⟩
/-- the slice lies in none of the blocks in sight -/
theorem RdR.mono {w' : World} {v : Value} {l : List α} (h : RdR f w v l) (H : Hp w L w') (hn : ∀ a m c, v = .slice (some a) m c → a.block ∉ L.map (·.1)) : RdR f w' v l := by
 obtain ⟨ao, cap, rfl, hl, h⟩ := h
 refine ⟨ao, cap, rfl, hl, ?_⟩
 rcases h with h | ⟨b, off, rfl, h⟩
 ·exact .inl h
 ·exact .inr ⟨b, off, rfl, fun j u hj => H.cell (h j u hj) (hn ⟨b, off, none⟩ _ _ rfl)⟩
theorem RdR.same {w' : World} {v : Value} {l : List α} (h : RdR f w v l) (H : Hp w [] w') : RdR f w' v l := h.Yd H Xu
theorem RdR.blk {b off cap : Nat} {c : List Value} {l : List α} {e : TypeId} {fz : Nat × Nat} (hb : w.heap[b]? = some (.cells c.toArray e fz)) (h : (c.drop off).take (rows f l).length = rows f l) (hc : l.length ≤ cap) : RdR f w (sl b off l.length cap) l := by
 refine ⟨some ⟨b, off, none⟩, cap, rfl, hc, .inr ⟨b, off, rfl, fun j u hj => ?_⟩⟩
 rw [Uf hb]
 rw [← h, List.getElem?_take] at hj
 split at hj
 ·rwa [List.getElem?_drop] at hj
 ·cases hj
theorem RdR.own {B : Nat} {e : TypeId} {v : Value} {m : Nat} {l : List α} {M : List (Nat × Obj)} (hf : ∀ a, (f a).length = sz) (h : Yo B e sz v m (rows f l) M) (hm : m = l.length) (hM : ∀ p ∈ M, w.heap[p.1]? = some p.2) : RdR f w v l := by
 subst hm
 obtain ⟨_, h⟩ := h
 rcases h with ⟨rfl, h0, rfl⟩ | ⟨b, cap, sp, rfl, hb, rfl, hs, hc⟩
 ·obtain rfl : l = [] := List.length_eq_zero_iff.1 h0
  exact RdR.nil
 ·exact RdR.blk (c := rows f l ++ sp) (off := 0) (hM _ (.head _)) (by simp) hc
theorem RdR.cell {ao : Option Addr} {m cap i : Nat} {l : List α} {a : α} (hf : ∀ a, (f a).length = sz) (h : RdR f w (.slice ao m cap) l) (hi : l[i]? = some a) :
  ∃ b off, ao = some ⟨b, off, none⟩ ∧ ∀ j v, (f a)[j]? = some v → w.cell? ⟨b, off + i * sz + j, none⟩ = some v := by
 obtain ⟨ao', cap', e, _, h⟩ := h
 cases e
 rcases h with rfl | ⟨b, off, h1, h2⟩
 ·simp at hi
 ·refine ⟨b, off, h1, fun j v hj => ?_⟩
  have hjl := (List.getElem?_eq_some_iff.1 hj).1
  rw [hf] at hjl
  rw [Nat.add_assoc]
  exact h2 _ v ((Nj hf hi hjl).trans hj)
theorem RdR.src {tx e' : TypeId} {v : Value} {l : List α} (hf : ∀ a, (f a).length = sz) (h : RdR f w v l) (hk : P.underlying tx = some (.slice e')) (h1 : ∀ u ∈ rows f l, u.oneCell' = true) : Src P sz tx v l.length (rows f l) w := by
 obtain ⟨ao, cap, rfl, hl, h⟩ := h
 have hlen := Zh hf l
 rcases h with rfl | ⟨b, off, rfl, h⟩
 ·cases ao with
  | none => exact Src.ofNil w hk cap
  | some a => exact Src.ofSlice w hk a 0 cap [] (by simp) (fun j u hj => by simp at hj) (by simp)
 ·exact src_cells hk hlen h h1
theorem Vm {t : TypeId} {x : Operand} {b off sz : Nat} {vs : List Value} (hA : ∀ w, (isAgg t).run P w = .ok true w) (hS : ∀ w, (sizeOf t).run P w = .ok sz w) (hx : ev E x = ptr b off)
  (hc : ∀ j v, vs[j]? = some v → w.cell? ⟨b, off + j, none⟩ = some v) (hl : vs.length = sz)
  : (execOp (ev E) (mk d (.load t x) ty pos after)).run P w = .ok (.value (.agg vs.toArray)) w := by
 have := run_loadAgg (P := P) (w := w) (b := b) (off := off) hA hS hc hl
 simp [execOp, hx, Instr.loadAt, Instr.sureAddr, this]
theorem RdS.form {v : Value} {xs : List Value} (h : RdS w v xs) : ∃ ao cap, v = .slice ao xs.length cap := by
 obtain ⟨ao, cap, hv, _⟩ := h; exact ⟨ao, cap, hv⟩
theorem foldl_set (vs : List Value) : ∀ (off k : Nat) (cs : Array Value), off + k + vs.length ≤ cs.size →
  ((vs.zipIdx k).foldl (fun (cs : Array Value) (p : Value × Nat) => cs.setIfInBounds (off + p.2) p.1) cs).toList = cs.toList.take (off + k) ++ vs ++ cs.toList.drop (off + k + vs.length) := by
 induction vs with
 | nil => intro off k cs h; simp
 | cons v vs ih =>
  intro off k cs h
  rw [List.length_cons] at h
  rw [List.zipIdx_cons, List.foldl_cons, ih off (k + 1) _ (by simp; omega)]
  rw [Array.toList_setIfInBounds, List.take_set, List.drop_set, if_pos (by omega)]
  have hlt : off + k < cs.toList.length := by simp; omega
  have e1 : (cs.toList.take (off + (k + 1))).set (off + k) v = cs.toList.take (off + k) ++ [v] := by
   rw [show off + (k + 1) = (off + k) + 1 from by omega, List.take_succ_eq_append_getElem hlt, List.set_append, if_neg (by simp; omega)]
   simp only [List.length_take]
   rw [show off + k - min (off + k) cs.toList.length = 0 from by omega]
   rfl
  rw [e1, List.length_cons, show off + (k + 1) + vs.length = off + k + (vs.length + 1) from by omega]
  simp
theorem arr_zip {β : Type} (vs : List Value) (f : β → Value × Nat → β) (b : β) : vs.toArray.zipIdx.foldl f b = vs.zipIdx.foldl f b := by
 rw [← Array.foldl_toList]; simp
theorem fill_rows {sz : Nat} : ∀ (vss : List (List Value)) (k : Nat) (pre rest : List Value), (∀ vs ∈ vss, vs.length = sz) → pre.length = k * sz → vss.length * sz ≤ rest.length →
  Instr.fill (fun i => some (i * sz, sz)) (pre ++ rest).toArray ((vss.zipIdx k).map fun p => (p.2, .agg p.1.toArray)) = some (pre ++ vss.flatten ++ rest.drop (vss.length * sz)).toArray
 | [], k, pre, rest, _, _, _ => by simp [Instr.fill]
 | vs :: vss, k, pre, rest, h, hp, hr => by
  have hvs := h vs (.head _)
  rw [List.length_cons, Nat.add_mul, Nat.one_mul] at hr
  rw [List.zipIdx_cons, List.map_cons, Instr.fill]
  have hc : (Value.agg vs.toArray).cells = vs.toArray := rfl
  simp only [hc]
  rw [if_neg (by simp [hvs, hp]; omega)]
  have hf : (vs.toArray.zipIdx.foldl (fun (cs : Array Value) (x : Value × Nat) => match x with | (c, j) => cs.setIfInBounds (k * sz + j) c) (pre ++ rest).toArray) = ((pre ++ vs) ++ rest.drop sz).toArray := by
   apply Array.ext'
   have := foldl_set vs (k * sz) 0 (pre ++ rest).toArray (by simp [hvs, hp]; omega)
   simp only [Nat.add_zero] at this
   rw [hvs, ← hp, List.take_left, List.drop_length_add_append] at this
   rw [arr_zip, ← hp]
   rw [List.append_assoc] at this ⊢
   exact this
  rw [hf, fill_rows vss (k + 1) (pre ++ vs) (rest.drop sz) (fun v hv => h v (.tail _ hv)) (by rw [List.length_append, hp, hvs, Nat.add_mul, Nat.one_mul]) (by rw [List.length_drop]; omega)]
  rw [List.drop_drop, List.length_cons, Nat.add_mul, Nat.one_mul, Nat.add_comm sz]
  simp
theorem fill_ones : ∀ (vs : List Value) (k : Nat) (pre rest : List Value), (∀ v ∈ vs, v.oneCell' = true) → pre.length = k → vs.length ≤ rest.length →
  Instr.fill (fun i => some (i * 1, 1)) (pre ++ rest).toArray ((vs.zipIdx k).map fun p => (p.2, p.1)) = some (pre ++ vs ++ rest.drop vs.length).toArray
 | [], k, pre, rest, _, _, _ => by simp [Instr.fill]
 | v :: vs, k, pre, rest, h, hp, hr => by
  rw [List.length_cons] at hr
  rw [List.zipIdx_cons, List.map_cons, Instr.fill]
  have hc : v.cells = #[v] := by have := h v (.head _); cases v <;> first | rfl | cases this
  simp only [hc]
  have hlt : ¬ (k + rest.length < k + 1) := by omega
  rw [if_neg (by simpa [hp] using fun e : rest = [] => by subst e; simp at hr)]
  have hf : ((#[v] : Array Value).zipIdx.foldl (fun (cs : Array Value) (x : Value × Nat) => match x with | (c, j) => cs.setIfInBounds (k * 1 + j) c) (pre ++ rest).toArray) = ((pre ++ [v]) ++ rest.drop 1).toArray := by
   apply Array.ext'
   have := foldl_set [v] (k * 1) 0 (pre ++ rest).toArray (by simp [hp]; omega)
   simp only [Nat.add_zero, Nat.mul_one, List.length_singleton] at this
   rw [← hp, List.take_left, List.drop_length_add_append] at this
   rw [← hp]
   simp only [Nat.mul_one]
   exact this
  rw [hf, fill_ones vs (k + 1) (pre ++ [v]) (rest.drop 1) (fun v hv => h v (.tail _ hv)) (by rw [List.length_append, hp, List.length_singleton]) (by rw [List.length_drop]; omega)]
  rw [List.drop_drop, List.length_cons, Nat.add_comm 1]
  simp
/-- a literal of structs, each of them told -/
theorem Zt {t elem : TypeId} {len sz : Nat} {parts : Array (Nat × Operand)} {vss : List (List Value)} {zs : List Value} {z : Value} (H : Hp w0 L w) (ht : P.underlying t = some (.slice elem))
  (hS : ∀ w, (sizeOf elem).run P w = .ok sz w) (hZ : ∀ w, (zeroValue elem).run P w = .ok z w) (hz : z.cells = zs.toArray) (hzl : zs.length = sz) (hn : len * sz ≤ 16777216) (hvl : vss.length = len)
  (hp : parts.toList.map (fun p => (p.1, ev E p.2)) = (vss.zipIdx 0).map fun p => (p.2, .agg p.1.toArray)) (hvs : ∀ vs ∈ vss, vs.length = sz) :
  ∃ b w', w0.heap.size ≤ b ∧ Hp w0 ((b, blk vss.flatten elem) :: L) w' ∧ (execOp (ev E) (mk d (.buildSlice t len parts) ty pos after)).run P w = .ok (.value (sl b 0 len len)) w' := by
 refine Du (ps := (vss.zipIdx 0).map fun p => (p.2, .agg p.1.toArray)) H ht hS hZ hz hzl hn hp ?_
 have hl : (List.replicate len zs).flatten.length = vss.length * sz := by simp [hzl, hvl]
 have := fill_rows vss 0 [] (List.replicate len zs).flatten hvs (by simp) (by rw [hl]; exact Nat.le_refl _)
 rw [List.nil_append, List.nil_append, ← hl, List.drop_length, List.append_nil] at this
 exact this
/-- a literal of things of one cell, each of them told -/
theorem Xk {t elem : TypeId} {len : Nat} {parts : Array (Nat × Operand)} {vs : List Value} {zs : List Value} {z : Value} (H : Hp w0 L w) (ht : P.underlying t = some (.slice elem))
  (hS : ∀ w, (sizeOf elem).run P w = .ok 1 w) (hZ : ∀ w, (zeroValue elem).run P w = .ok z w) (hz : z.cells = zs.toArray) (hzl : zs.length = 1) (hn : len * 1 ≤ 16777216) (hvl : vs.length = len)
  (hp : parts.toList.map (fun p => (p.1, ev E p.2)) = (vs.zipIdx 0).map fun p => (p.2, p.1)) (hvs : ∀ v ∈ vs, v.oneCell' = true) :
  ∃ b w', w0.heap.size ≤ b ∧ Hp w0 ((b, blk vs elem) :: L) w' ∧ (execOp (ev E) (mk d (.buildSlice t len parts) ty pos after)).run P w = .ok (.value (sl b 0 len len)) w' := by
 refine Du (ps := (vs.zipIdx 0).map fun p => (p.2, p.1)) H ht hS hZ hz hzl hn hp ?_
 have hl : (List.replicate len zs).flatten.length = vs.length := by simp [hzl, hvl]
 have := fill_ones vs 0 [] (List.replicate len zs).flatten hvs (by simp) (by rw [hl]; exact Nat.le_refl _)
 rw [List.nil_append, List.nil_append, ← hl, List.drop_length, List.append_nil] at this
 exact this
end
end Go.Proofs.YtlpmfldijgdcoaaGreatDoor.Fx
namespace Go.Proofs.YtlpmfldijgdcoaaGreatDoor.Fx
open Go
section
variable {P : Program} {E : Env} {w0 w : World} {L : List (Nat × Obj)}
variable {d : Option Nat} {ty : TypeId} {pos : String} {after : Array Edge}
end
end Go.Proofs.YtlpmfldijgdcoaaGreatDoor.Fx
namespace Go.Proofs.YtlpmfldijgdcoaaGreatDoor.Fx
open Go
section
variable {P : Program} {E : Env} {w0 w : World} {L : List (Nat × Obj)}
variable {d : Option Nat} {ty : TypeId} {pos : String} {after : Array Edge}
theorem R_slice3lo {t elem : TypeId} {x lo hi mx : Operand} {b off len cap i j sz : Nat} (ht : P.underlying t = some (.slice elem)) (hS : ∀ w, (sizeOf elem).run P w = .ok sz w)
  (hx : ev E x = sl b off len cap) (hlo : ev E lo = I i) (hhi : ev E hi = I j) (hmx : ev E mx = I len) (hij : i ≤ j) (hj : j ≤ len) (hi' : i < len) (hlc : len ≤ cap)
  : (execOp (ev E) (mk d (.slice t x (some lo) (some hi) (some mx)) ty pos after)).run P w = .ok (.value (sl b (off + i * sz) (j - i) (len - i))) w := by
 have hb : (Instr.sliceBounds true len cap (some (I i)) (some (I j)) (some (I len))).run P w = .ok (i, j, len) w := by
  simp [Instr.sliceBounds, Instr.sliceBound, asIntOf, hlc, hij, hj]
 have hne : ¬ len = i := by omega
 simp [execOp, hx, hhi, hlo, hmx, Instr.sliceAt, Instr.slice, run_underlying ht, hb, hS, hne, Addr.add]
theorem E_appendIn {t tx e : TypeId} {b off len cap m : Nat} {c : List Value} {u : Value} {news : List Value} {i : TypeInfo} {f} {x y : Operand} (H : Hp w0 L w) (hL : At L b (blk c e) f)
  (ht : P.underlying t = some (.slice e)) (hI0 : ∀ w, (typeInfo e).run P w = .ok i w) (hsz : i.size = 1)
  (hx : ev E x = sl b off len cap) (hy : ev E y = u) (hs : Src P 1 tx u m news w) (hroom : len + m ≤ cap) (hcap : off + cap ≤ c.length) :
  ∃ (_q : Nat) (w' : World), True ∧ Hp w0 (f (blk (c.take (off + len) ++ news ++ c.drop (off + len + news.length)) e)) w' ∧ (execOp (ev E) (mk d (bi .append #[x, y] #[t, tx]) ty pos after)).run P w = .ok (.value (sl b off (len + m) cap)) w' := by
 have hI : P.info? e = some i := Vv hI0 w
 have hnm : news.length = m := by have := hs.newsLen; simpa using this
 have hexec : (execOp (ev E) (mk d (bi .append #[x, y] #[t, tx]) ty pos after)).run P w = ((Builtin.append_ #[t, tx] ty #[sl b off len cap, u]).run P w).andThen fun a w' => .ok (.value a) w' := by
  subst hy
  simp [execOp, resolve, invoke, builtin, hx]
 rw [hexec]
 have hst := run_storeCells_at P b (off + len) e news 0 c.toArray w (H.get hL) (by simp; omega) hs.one
 simp only [Nat.add_zero] at hst
 have hrun : (Builtin.append_ #[t, tx] ty #[sl b off len cap, u]).run P w = .ok (sl b off (len + m) cap) (w.setRow b (c.take (off + len) ++ news ++ c.drop (off + len + news.length)).toArray) := by
  rw [← hsz] at hs
  have h1 : len * i.size = len := by rw [hsz]; simp
  rcases hs.kind with ⟨e', hk⟩ | hk <;> simp [Builtin.append_, run_underlying ht, run_underlying hk, sizeOf, typeInfo, hI, hs.len, hroom, hs.cells, Zq, h1, hst]
 exact ⟨0, _, trivial, H.setRow hL, by rw [hrun]; rfl⟩
theorem E_clear1 {t e : TypeId} {b off cap : Nat} {c : List Value} {z : Value} {f} {x : Operand} (H : Hp w0 L w) (hL : At L b (blk c e) f)
  (ht : P.underlying t = some (.slice e)) (hZ : ∀ w, (zeroValue e).run P w = .ok z w) (hz : z.cells = #[z]) (h1 : z.oneCell' = true)
  (hx : ev E x = sl b off 1 cap) (hcap : off < c.length) :
  ∃ (_q : Nat) (w' : World), True ∧ Hp w0 (f (blk (c.take off ++ [z] ++ c.drop (off + 1)) e)) w' ∧ (execOp (ev E) (mk d (bi .clear #[x] #[t]) ty pos after)).run P w = .ok (.value (.tuple #[])) w' := by
 have hst := run_storeCells_at P b off e [z] 0 c.toArray w (H.get hL) (by simp; omega) (by simpa using h1)
 simp only [Nat.add_zero] at hst
 have hzc : (Builtin.zeroCells #[z] 1).toList = [z] := by simp [Builtin.zeroCells]
 refine ⟨0, _, trivial, H.setRow hL (c' := c.take off ++ [z] ++ c.drop (off + 1)), ?_⟩
 simp [execOp, resolve, invoke, builtin, hx, Builtin.clear_, run_underlying ht, hZ, hz, hzc, hst]
end
end Go.Proofs.YtlpmfldijgdcoaaGreatDoor.Fx
namespace Go.Proofs.YtlpmfldijgdcoaaGreatDoor.Fx
open Go
section
variable {P : Program} {E : Env} {w : World} {d : Option Nat} {ty : TypeId} {pos : String} {after : Array Edge}
theorem R_to {t elem : TypeId} {x hi : Operand} {b off len cap i sz : Nat} (ht : P.underlying t = some (.slice elem)) (hS : ∀ w, (sizeOf elem).run P w = .ok sz w)
  (hx : ev E x = sl b off len cap) (hhi : ev E hi = I i) (hlc : len ≤ cap) (hic : i ≤ cap)
  : (execOp (ev E) (mk d (.slice t x none (some hi) none) ty pos after)).run P w = .ok (.value (sl b off i cap)) w := by
 have := Bq (d := d) (ty := ty) (pos := pos) (after := after) (w := w) (off' := off) (i := 0) (j := (i : Int)) ht hS hx .none (.some hhi) hlc (by omega) (by omega) (by omega) (.inl rfl) (by simp)
 simpa using this
theorem R_from {t elem : TypeId} {x lo : Operand} {b off len cap k m : Nat} {k' : Int} (ht : P.underlying t = some (.slice elem)) (hS : ∀ w, (sizeOf elem).run P w = .ok 1 w)
  (hx : ev E x = sl b off len cap) (hlo : ev E lo = I k') (hk' : k' = k) (hlc : len ≤ cap) (hm : len = k + m) (hkc : k < cap)
  : (execOp (ev E) (mk d (.slice t x (some lo) none none) ty pos after)).run P w = .ok (.value (sl b (off + k) m (cap - k))) w := by
 subst hk'
 have := Bq (d := d) (ty := ty) (pos := pos) (after := after) (w := w) (off' := off + k) (i := (k : Int)) (j := (len : Int)) ht hS hx (.some hlo) .none hlc (by omega) (by omega) (by omega) (.inr (by omega)) (by simp)
 rw [show ((len : Int) - k).toNat = m by omega, show ((cap : Int) - k).toNat = cap - k by omega] at this
 exact this
theorem R_mid {t elem : TypeId} {x lo hi : Operand} {b off len cap k : Nat} {k' j' : Int} (ht : P.underlying t = some (.slice elem)) (hS : ∀ w, (sizeOf elem).run P w = .ok 1 w)
  (hx : ev E x = sl b off len cap) (hlo : ev E lo = I k') (hhi : ev E hi = I j') (hk' : k' = k) (hj' : j' = k + 1) (hlc : len ≤ cap) (hkc : k < cap)
  : (execOp (ev E) (mk d (.slice t x (some lo) (some hi) none) ty pos after)).run P w = .ok (.value (sl b (off + k) 1 (cap - k))) w := by
 subst hk' hj'
 have := Bq (d := d) (ty := ty) (pos := pos) (after := after) (w := w) (off' := off + k) (i := (k : Int)) (j := (k : Int) + 1) ht hS hx (.some hlo) (.some hhi) hlc (by omega) (by omega) (by omega) (.inr (by omega)) (by simp)
 rw [show ((k : Int) + 1 - k).toNat = 1 by omega, show ((cap : Int) - k).toNat = cap - k by omega] at this
 exact this
end
end Go.Proofs.YtlpmfldijgdcoaaGreatDoor.Fx
namespace Go.Proofs.YtlpmfldijgdcoaaGreatDoor.Fx
open Go
/-- What a function hands back whose first result lies in memory. -/
def resultC (P : Program) (rs : Array ResultVar) (E : Env) (w : World) (v : Value) : Prop :=
 match rs.toList with
 | [.cell a t] => ∃ ad, E a = .pointer (some ad) ∧ (loadVar t ad).run P w = .ok v w
 | [.cell a t, .tmp u] => ∃ ad x, E a = .pointer (some ad) ∧ (loadVar t ad).run P w = .ok x w ∧ v = .tuple #[x, E u]
 | [.cell a t, .tmp u, .tmp y] => ∃ ad x, E a = .pointer (some ad) ∧ (loadVar t ad).run P w = .ok x w ∧ v = .tuple #[x, E u, E y]
 | _ => False
theorem results_ofC {P : Program} {fn : Func} {n : Nat} {E : Env} {a : Act} {v : Value} {w : World} (ha : Rep n E a) (h : resultC P fn.results E w v) :
  (results fn a.tmps).run P w = .ok v w := by
 obtain ⟨rs, hrs⟩ : ∃ rs, fn.results.toList = rs := ⟨_, rfl⟩
 have hrs' : fn.results = rs.toArray := by rw [← hrs]
 unfold resultC at h
 rw [hrs] at h
 split at h
 ·obtain ⟨ad, h1, h2⟩ := h
  rw [← ha.slot, Array.getD_eq_getD_getElem?] at h1
  simp [results, hrs', asAddr, h1, h2]
 ·obtain ⟨ad, x, h1, h2, rfl⟩ := h
  rw [← ha.slot, Array.getD_eq_getD_getElem?] at h1
  rw [← ha.slot]
  simp [results, hrs', asAddr, h1, h2]
 ·obtain ⟨ad, x, h1, h2, rfl⟩ := h
  rw [← ha.slot, Array.getD_eq_getD_getElem?] at h1
  rw [← ha.slot, ← ha.slot]
  simp [results, hrs', asAddr, h1, h2]
 ·cases h
theorem Qy {P : Program} {f : FuncId} {fn : Func} {c : Code} {args : List Value} {w : World} {R : Value → World → Prop} {n : Nat} {rs : Array ResultVar}
  (hf : P.funcs[f]? = some fn) (hb : fn.body = some c) (hnt : fn.ntmps = n) (hrs : fn.results = rs) (hn : args.length ≤ n)
  (h : W P n c (fun E w => ∃ v, resultC P rs E w v ∧ R v w) (fun _ _ _ => False) (fun E w => ∃ v, resultC P rs E w v ∧ R v w) (env0 args) w) :
  Ret P f args.toArray w R := by
 subst hnt hrs
 refine ⟨calls_of_wp hf hb ?_⟩
 have hrep : Rep fn.ntmps (env0 args) { tmps := args.toArray ++ Array.replicate (fn.ntmps - args.toArray.size) undef, defers := [] } := by
  refine ⟨by simp; omega, ?_, rfl⟩
  intro t
  simp only [env0, Array.getD_eq_getD_getElem?, Array.getElem?_append, List.getD_eq_getElem?_getD]
  by_cases ht : t < args.length
  ·simp [ht]
  ·simp only [List.size_toArray, if_neg ht, Array.getElem?_replicate]
   rw [List.getElem?_eq_none (by omega)]
   split <;> rfl
 refine wp_mono (h.out _ hrep) ?_
 intro e a w hq
 cases e with
 | normal => obtain ⟨E, ha, v, hv, hR⟩ := hq; exact ⟨ha.defers, v, results_ofC ha hv, v, rfl, hR⟩
 | exit i => obtain ⟨E, ha, h⟩ := hq; exact h.elim
 | ret => obtain ⟨E, ha, v, hv, hR⟩ := hq; exact ⟨ha.defers, v, results_ofC ha hv, v, rfl, hR⟩
 | goto l => exact hq.elim
 | panic c => exact hq.elim
 | outgrown => exact hq.elim
/-- a struct that is loaded -/
theorem ldA {P : Program} {w : World} {t : TypeId} {b off sz : Nat} {vs c : List Value} {e : TypeId} {fz : Nat × Nat} (hA : ∀ w, (isAgg t).run P w = .ok true w) (hS : ∀ w, (sizeOf t).run P w = .ok sz w)
  (hb : w.heap[b]? = some (.cells c.toArray e fz)) (hc : (c.drop off).take sz = vs) (hl : off + sz ≤ c.length) : (loadVar t ⟨b, off, none⟩).run P w = .ok (.agg vs.toArray) w :=
 run_loadAgg hA hS (fun j v hj => by
  rw [Uf hb]
  subst hc
  rw [List.getElem?_take] at hj
  split at hj
  ·rwa [List.getElem?_drop] at hj
  ·cases hj) (by subst hc; simp; omega)
/-! ### values of structs, many fields -/
/-- a row with some cells put over those from a place on -/
def Mu : Nat → List Value → List Value → List Value
 | _, _, [] => []
 | 0, [], c :: cs => c :: cs
 | 0, v :: vs, _ :: cs => v :: Mu 0 vs cs
 | n + 1, vs, c :: cs => c :: Mu n vs cs
def fillL (places : List (Nat × Nat)) : List Value → List (Nat × Value) → List Value
 | cs, [] => cs
 | cs, (i, v) :: r => fillL places (Mu ((places[i]?.getD (0, 0)).1) v.cells.toList cs) r
def fitsL (places : List (Nat × Nat)) (n : Nat) : List (Nat × Value) → Bool
 | [] => true
 | (i, v) :: r => match places[i]? with
  | none => false
  | some p => Nat.beq v.cells.size p.2 && Nat.ble (p.1 + p.2) n && fitsL places n r
theorem Nt : ∀ (n : Nat) (vs cs : List Value), (Mu n vs cs).length = cs.length
 | _, _, [] => by simp [Mu]
 | 0, [], c :: cs => by simp [Mu]
 | 0, v :: vs, c :: cs => by simp [Mu, Nt 0 vs cs]
 | n + 1, vs, c :: cs => by simp [Mu, Nt n vs cs]
theorem overL_get : ∀ (n : Nat) (vs cs : List Value) (j : Nat), n + vs.length ≤ cs.length → (Mu n vs cs)[j]? = if n ≤ j ∧ j < n + vs.length then vs[j - n]? else cs[j]?
 | n, vs, [], j, h => by
  simp only [List.length_nil] at h
  have h1 : vs = [] := List.length_eq_zero_iff.1 (by omega)
  subst h1
  simp [Mu]
 | 0, [], c :: cs, j, h => by
  have : ¬ (0 ≤ j ∧ j < 0 + ([] : List Value).length) := by simp
  rw [if_neg this]; rfl
 | 0, v :: vs, c :: cs, j, h => by
  unfold Mu
  cases j with
  | zero => simp
  | succ j =>
   have := overL_get 0 vs cs j (by simp at h ⊢; omega)
   rw [List.getElem?_cons_succ, this]
   simp only [List.length_cons, Nat.zero_add, Nat.sub_zero, List.getElem?_cons_succ]
   by_cases hj : j < vs.length
   ·rw [if_pos ⟨by omega, hj⟩, if_pos ⟨by omega, by omega⟩]
   ·rw [if_neg (by omega), if_neg (by omega)]
 | n + 1, vs, c :: cs, j, h => by
  unfold Mu
  cases j with
  | zero => rw [if_neg (by omega)]; rfl
  | succ j =>
   have := overL_get n vs cs j (by simp at h; omega)
   rw [List.getElem?_cons_succ, this]
   by_cases hj : n ≤ j ∧ j < n + vs.length
   ·rw [if_pos hj, if_pos ⟨by omega, by omega⟩, show j + 1 - (n + 1) = j - n from by omega]
   ·rw [if_neg hj, if_neg (by omega)]; rfl
theorem foldl_over (off : Nat) (vs cs : List Value) (h : off + vs.length ≤ cs.length) : vs.toArray.zipIdx.foldl (fun cs (p : Value × Nat) => cs.setIfInBounds (off + p.2) p.1) cs.toArray = (Mu off vs cs).toArray := by
 rw [arr_zip vs (fun cs (p : Value × Nat) => cs.setIfInBounds (off + p.2) p.1) cs.toArray]
 have h1 := foldl_set vs off 0 cs.toArray (by simpa using h)
 apply Array.ext'
 rw [h1]
 apply List.ext_getElem?
 intro j
 simp only [Nat.add_zero]
 rw [overL_get off vs cs j h]
 simp only [List.getElem?_append, List.length_append, List.length_take, List.getElem?_take, List.getElem?_drop]
 rw [Nat.min_eq_left (by omega)]
 by_cases a1 : j < off
 ·rw [if_pos (by omega), if_pos a1, if_pos a1, if_neg (by omega)]
 ·by_cases a2 : j < off + vs.length
  ·rw [if_pos (by omega), if_neg a1, if_pos ⟨by omega, a2⟩]
  ·rw [if_neg (by omega), if_neg (by omega)]
   congr 1
   omega
theorem fill_eq {places : List (Nat × Nat)} : ∀ (ps : List (Nat × Value)) (cs : List Value), fitsL places cs.length ps = true → Instr.fill (places.toArray[·]?) cs.toArray ps = some (fillL places cs ps).toArray
 | [], cs, _ => rfl
 | (i, v) :: r, cs, h => by
  unfold fitsL at h
  cases hp : places[i]? with
  | none => rw [hp] at h; cases h
  | some p =>
   rw [hp] at h
   simp only [Bool.and_eq_true] at h
   obtain ⟨⟨h1, h2⟩, h3⟩ := h
   have e1 := Nat.eq_of_beq_eq_true h1
   have e2 := Nat.le_of_ble_eq_true h2
   have hl : v.cells.toList.length = v.cells.size := by simp
   have ih := fill_eq r (Mu p.1 v.cells.toList cs) (by rw [Nt]; exact h3)
   unfold Instr.fill fillL
   have e3 : places.toArray[i]? = some (p.1, p.2) := by simpa using hp
   rw [e3]
   simp only [hp, Option.getD_some]
   rw [if_neg (by simp only [ne_eq, List.size_toArray, Bool.or_eq_true, decide_eq_true_eq, not_or, Decidable.not_not]; omega), ← ih]
   congr 1
   have := foldl_over p.1 v.cells.toList cs (by omega)
   simpa using this
section
variable {P : Program} {E : Env} {w : World} {d : Option Nat} {ty : TypeId} {pos : String} {after : Array Edge}
theorem Qm {t : TypeId} {parts : Array (Nat × Operand)} {ps : List (Nat × Value)} {vs zs : List Value} {places : List (Nat × Nat)} {fields : Array Field} {i : TypeInfo} {z : Value} (hu : P.underlying t = some (.struct fields)) (hI : ∀ w, (typeInfo t).run P w = .ok i w)
  (hZ : i.zero = some z) (hz : z.cells = zs.toArray) (hpl : fields.toList.mapM (fun f => (P.info? f.type).map fun i => (f.offset, i.size)) = some places)
  (hp : parts.toList.map (fun p => (p.1, ev E p.2)) = ps) (hf : fitsL places zs.length ps = true) (hv : fillL places zs ps = vs)
  : (execOp (ev E) (mk d (.build t parts) ty pos after)).run P w = .ok (.value (.agg vs.toArray)) w := by
 refine Nb hp ?_
 unfold Program.built
 rw [Vv hI w, hu]
 simp only [hZ, hpl, hz]
 rw [fill_eq ps zs hf, hv]
end
end Go.Proofs.YtlpmfldijgdcoaaGreatDoor.Fx
namespace Go.Proofs.YtlpmfldijgdcoaaGreatDoor.Fx
open Go
/-- what is handed back, one behind the other -/
inductive ResG (P : Program) (E : Env) (w : World) : List ResultVar → List Value → Prop
 | nil : ResG P E w [] []
 | tmp {t : Nat} {v : Value} {rs : List ResultVar} {vs : List Value} (h1 : E t = v) (h : ResG P E w rs vs) : ResG P E w (.tmp t :: rs) (v :: vs)
 | cell {a : Nat} {t : TypeId} {ad : Addr} {x : Value} {rs : List ResultVar} {vs : List Value} (h1 : E a = .pointer (some ad)) (h2 : (loadVar t ad).run P w = .ok x w) (h : ResG P E w rs vs) : ResG P E w (.cell a t :: rs) (x :: vs)
def resM (tmps : Array Value) : ResultVar → Sem Value
 | .tmp t => pure (tmps.getD t undef)
 | .cell a t => do loadVar t (← asAddr (tmps.getD a undef))
theorem mapM_ofG {P : Program} {E : Env} {w : World} {n : Nat} {a : Act} (ha : Rep n E a) : ∀ {rs : List ResultVar} {vs : List Value}, ResG P E w rs vs → (rs.mapM (resM a.tmps)).run P w = .ok vs w := by
 intro rs vs h
 induction h with
 | nil => simp
 | @tmp t v rs vs h1 h ih =>
  have e1 : (resM a.tmps (.tmp t)).run P w = .ok v w := by
   unfold resM; rw [Sem.run_pure, Array.getD_eq_getD_getElem?, ← Array.getD_eq_getD_getElem?, ha.slot, h1]
  rw [List.mapM_cons, Sem.run_bind, e1, Result.andThen_ok, Sem.run_bind, ih, Result.andThen_ok, Sem.run_pure]
 | @cell b t ad x rs vs h1 h2 h ih =>
  have hs : a.tmps.getD b undef = .pointer (some ad) := by rw [ha.slot, h1]
  have e1 : (resM a.tmps (.cell b t)).run P w = .ok x w := by
   simp [resM, hs, asAddr, h2]
  rw [List.mapM_cons, Sem.run_bind, e1, Result.andThen_ok, Sem.run_bind, ih, Result.andThen_ok, Sem.run_pure]
theorem results_ofG {P : Program} {fn : Func} {n : Nat} {E : Env} {a : Act} {w : World} {vs : List Value} (ha : Rep n E a) (h : ResG P E w fn.results.toList vs) (hl : vs.length ≠ 1) :
  (results fn a.tmps).run P w = .ok (.tuple vs.toArray) w := by
 have hm := mapM_ofG ha h
 have h2 : (fn.results.mapM (resM a.tmps)).run P w = .ok vs.toArray w := by
  have he : fn.results = fn.results.toList.toArray := by simp
  rw [he, List.mapM_toArray]
  simp [hm]
 show (fn.results.mapM (resM a.tmps) >>= fun vs => pure (if h : vs.size = 1 then vs[0] else .tuple vs)).run P w = _
 rw [Sem.run_bind, h2, Result.andThen_ok, Sem.run_pure]
 rw [dif_neg (by simpa using hl)]
theorem Ret_of_WG {P : Program} {f : FuncId} {fn : Func} {c : Code} {args : List Value} {w : World} {R : Value → World → Prop} {n : Nat} {rs : Array ResultVar}
  (hf : P.funcs[f]? = some fn) (hb : fn.body = some c) (hnt : fn.ntmps = n) (hrs : fn.results = rs) (hn : args.length ≤ n)
  (h : W P n c (fun E w => ∃ vs, ResG P E w rs.toList vs ∧ vs.length ≠ 1 ∧ R (.tuple vs.toArray) w) (fun _ _ _ => False) (fun E w => ∃ vs, ResG P E w rs.toList vs ∧ vs.length ≠ 1 ∧ R (.tuple vs.toArray) w) (env0 args) w) :
  Ret P f args.toArray w R := by
 subst hnt hrs
 refine ⟨calls_of_wp hf hb ?_⟩
 have hrep : Rep fn.ntmps (env0 args) { tmps := args.toArray ++ Array.replicate (fn.ntmps - args.toArray.size) undef, defers := [] } := by
  refine ⟨by simp; omega, ?_, rfl⟩
  intro t
  simp only [env0, Array.getD_eq_getD_getElem?, Array.getElem?_append, List.getD_eq_getElem?_getD]
  by_cases ht : t < args.length
  ·simp [ht]
  ·simp only [List.size_toArray, if_neg ht, Array.getElem?_replicate]
   rw [List.getElem?_eq_none (by omega)]
   split <;> rfl
 refine wp_mono (h.out _ hrep) ?_
 intro e a w hq
 cases e with
 | normal => obtain ⟨E, ha, vs, hv, hl, hR⟩ := hq; exact ⟨ha.defers, _, results_ofG ha hv hl, _, rfl, hR⟩
 | exit i => obtain ⟨E, ha, h⟩ := hq; exact h.elim
 | ret => obtain ⟨E, ha, vs, hv, hl, hR⟩ := hq; exact ⟨ha.defers, _, results_ofG ha hv hl, _, rfl, hR⟩
 | goto l => exact hq.elim
 | panic c => exact hq.elim
 | outgrown => exact hq.elim
end Go.Proofs.YtlpmfldijgdcoaaGreatDoor.Fx
namespace Go.Proofs.YtlpmfldijgdcoaaGreatDoor.Fx
open Go
section
variable {P : Program} {n : Nat} {ops : Array Oper} {C : World → Prop} {tl : Nat → Bool} {kn : Env → World → Prop} {E : Env} {w : World} {f : Nat} {listed : Array Bool}
theorem WA_three {i j l : Nat} (hr : Region.ready .any ops listed = [i, j, l]) (h : WI P n ops C tl kn f listed i E w) (h' : WI P n ops C tl kn f listed j E w) (h'' : WI P n ops C tl kn f listed l E w) : WA P n ops C tl kn (f + 1) listed E w := by
 refine ⟨fun Q hQ a ha => ?_⟩
 refine ⟨fun h0 => (by rw [hr] at h0; cases h0), fun k hk => ?_⟩
 rw [hr] at hk
 rcases List.mem_cons.1 hk with rfl | hk
 ·exact h.out Q hQ a ha
 ·rcases List.mem_cons.1 hk with rfl | hk
  ·exact h'.out Q hQ a ha
  ·obtain rfl : k = l := by simpa using hk
   exact h''.out Q hQ a ha
end
end Go.Proofs.YtlpmfldijgdcoaaGreatDoor.Fx
namespace Go.Proofs.YtlpmfldijgdcoaaGreatDoor.Fx
open Go Go.RowKit Go.ChangeShapes Go.WideShapes Go.Deep
section
variable {H : Type} {enc : TypeId × Value → H} {P : Program} {w : World} {base : Nat} {spare : Nat → Bool} {held : Bool}
/-- A slice of things, whose cells are told by what is read of them. -/
theorem rows_of_row {α : Type} {f : α → List Value} {good : α → Prop} {sz : Nat} {t e : TypeId} {a : Option Addr} {len cap : Nat} {d : DataW H} {p : List MemPlace} (ht : P.underlying t = some (.slice e)) (hC : P.cellsOf e = sz) (hsz : 0 < sz)
  (hlen : ∀ x, (f x).length = sz)
  (hcells : ∀ (n : Nat) (cs : List Value) (y : DataW H × List MemPlace), DataW.trod enc P w base spare held n e cs = some y → ∃ x, cs = f x ∧ good x)
  (h : DataW.Trod enc P w base spare held t (.slice a len cap) d p) :
  ∃ l : List α, l.length = len ∧ len ≤ 9223372036854775807 ∧ RdR f w (.slice a len cap) l ∧ ∀ x ∈ l, good x := by
 obtain ⟨fuel, hf⟩ := h
 have hcs : (Value.slice a len cap).cells.toList = [.slice a len cap] := rfl
 rw [hcs] at hf
 rcases open_slice ht hf with ⟨h0, _⟩ | ⟨x, l, c, m, n, D, Pl, h0, hb, hl, hm, hmm, _, hi⟩
 ·simp only [List.cons.injEq, and_true, Value.slice.injEq] at h0
  obtain ⟨rfl, rfl, rfl⟩ := h0
  exact ⟨[], rfl, by omega, RdR.nil, fun x hx => nomatch hx⟩
 ·simp only [List.cons.injEq, and_true, Value.slice.injEq] at h0
  obtain ⟨rfl, rfl, rfl⟩ := h0
  have hle : len ≤ m := by rw [hmm]; split <;> omega
  have each : ∀ i, i < len → ∃ y : α, good y ∧ ∀ j v, (f y)[j]? = some v → w.cell? (x.add (i * sz + j)) = some v := by
   intro i hil
   obtain ⟨cs', hc, ht'⟩ := hi i (by omega)
   rw [hC] at hc
   obtain ⟨y, rfl, hg⟩ := hcells n cs' _ ht'
   obtain ⟨_, hcl, hat⟩ := World.cells?_some hc
   refine ⟨y, hg, fun j v hj => ?_⟩
   have hjl := (List.getElem?_eq_some_iff.1 hj).1
   rw [hlen] at hjl
   have := hat j hjl
   rw [hj] at this
   rw [← Go.Deep.add_add, this]
  have spot : 0 < len → x = ⟨x.block, x.off, none⟩ := by
   intro hpos
   obtain ⟨y, _, hy⟩ := each 0 hpos
   have h0 := hy 0 _ (List.getElem?_eq_getElem (by rw [hlen]; exact hsz))
   have hx : x.add (0 * sz + 0) = x := by simp [Addr.add]
   rw [hx] at h0
   exact Np h0
  refine ⟨(List.range len).pmap (fun i hi => (each i hi).choose) (fun i hi => List.mem_range.1 hi), by simp, by unfold maxLen at hm; omega, ?_, ?_⟩
  ·rcases Nat.eq_zero_or_pos len with rfl | hpos
   ·exact ⟨some x, cap, by simp, by simp, .inl (by simp)⟩
   ·refine ⟨some x, cap, by simp, by simp; omega, .inr ⟨x.block, x.off, ?_, fun j u hj => ?_⟩⟩
    ·exact congrArg some (spot hpos)
    ·have hx0 := spot hpos
     have hjl := (List.getElem?_eq_some_iff.1 hj).1
     rw [Zh hlen, List.length_pmap, List.length_range] at hjl
     have hdiv : j / sz < len := Nat.div_lt_of_lt_mul (by rw [Nat.mul_comm]; exact hjl)
     have hmod : j % sz < sz := Nat.mod_lt _ hsz
     have hj2 : j = j / sz * sz + j % sz := by rw [Nat.mul_comm]; exact (Nat.div_add_mod j sz).symm
     have hget : ((List.range len).pmap (fun i hi => (each i hi).choose) (fun i hi => List.mem_range.1 hi))[j / sz]? = some (each (j / sz) hdiv).choose := by
      rw [List.getElem?_eq_getElem (by simpa using hdiv)]
      simp
     have hrow := Nj hlen hget hmod
     rw [← hj2, hj] at hrow
     have := (each (j / sz) hdiv).choose_spec.2 (j % sz) u hrow.symm
     rw [← hj2, hx0, Zq] at this
     exact this
  ·intro y hy
   obtain ⟨i, hi', rfl⟩ := List.mem_pmap.1 hy
   exact (each i (List.mem_range.1 hi')).choose_spec.1
theorem Zp {fs : Array Field} {n : Nat} {cs : List Value} {xs : List (DataW H × List MemPlace)}
  (hf : ∀ (i : Nat) (f : Field), fs[i]? = some f → DataW.trod enc P w base spare held n f.type ((cs.drop f.offset).take (P.cellsOf f.type)) = xs[i]?) (i t o c : Nat) (h : (fs[i]?).map (fun f => (f.type, f.offset)) = some (t, o)) (hc : P.cellsOf t = c) :
  DataW.trod enc P w base spare held n t ((cs.drop o).take c) = xs[i]? := by
 subst hc
 cases hq : fs[i]? with
 | none => rw [hq] at h; cases h
 | some f =>
  rw [hq] at h
  simp only [Option.map_some, Option.some.injEq, Prod.mk.injEq] at h
  obtain ⟨rfl, rfl⟩ := h
  exact hf i f hq
/-- one field of one cell, an int -/
theorem Vh {n : Nat} {e : TypeId} {k : IntKind} {cs : List Value} {y : Option (DataW H × List MemPlace)} {y' : DataW H × List MemPlace} (he : P.underlying e = some (.int k)) (h : DataW.trod enc P w base spare held n e cs = y) (hy : y = some y') :
  ∃ x : Int, cs = [.int k x] ∧ (Lit.int k x).wf = true := by
 subst hy
 obtain ⟨x, h1, _, h2⟩ := DataW.trod_int he h
 exact ⟨x, h1, h2⟩
theorem take1 {cs : List Value} {v : Value} {i : Nat} (h : (cs.drop i).take 1 = [v]) : cs[i]? = some v := by
 have := congrArg (fun l => l[0]?) h
 simp only [List.getElem?_take, List.getElem?_drop, Nat.add_zero, List.getElem?_cons_zero] at this
 simpa using this
end
end Go.Proofs.YtlpmfldijgdcoaaGreatDoor.Fx
namespace Go.Proofs.YtlpmfldijgdcoaaGreatDoor.Fx
open Go Go.RowKit Go.ChangeShapes Go.WideShapes Go.Deep
section
variable {H : Type} {enc : TypeId × Value → H} {P : Program} {w : World} {base : Nat} {held : Bool}
theorem field_bytes {n : Nat} {t e : TypeId} {cs : List Value} {y : Option (DataW H × List MemPlace)} {y' : DataW H × List MemPlace} (ht : P.underlying t = some (.slice e)) (he : P.underlying e = some (.int .u8)) (hC : P.cellsOf e = 1)
  (h : DataW.trod enc P w base (fun _ => true) held n t cs = y) (hy : y = some y') : ∃ (v : Value) (xs : List UInt8), cs = [v] ∧ xs.length ≤ 9223372036854775807 ∧ RdS w v (xs.map U) := by
 subst hy
 rcases open_ints ht he hC h with ⟨hcs, _⟩ | ⟨x, l, c, zs, hcs, _, hl, hm, hz, _, hcell, hwz⟩
 ·subst hcs
  obtain ⟨xs, h1, h2, h3⟩ := bytes_of_row (w := w) (zs := []) (.inl ⟨rfl, rfl, rfl, rfl⟩)
  exact ⟨_, xs, rfl, by omega, h3⟩
 ·subst hcs
  obtain ⟨xs, h1, h2, h3⟩ := bytes_of_row (w := w) (.inr ⟨x, rfl, hl, hm, by simpa using hz, hcell, hwz⟩)
  exact ⟨_, xs, rfl, by omega, h3⟩
end
/-- Some blocks hold this, and all that w0 had is as it was. -/
structure KH (w0 : World) (K : List (Nat × Obj)) (w : World) : Prop where
 kp : Kp K w
 old : Hp w0 [] w
theorem KH.get {w0 w : World} {L : List (Nat × Obj)} {b : Nat} {o : Obj} {f} (H : KH w0 L w) (h : At L b o f) : w.heap[b]? = some o := H.kp.get h
theorem Hp.kh {w0 w : World} {L K : List (Nat × Obj)} (H : Hp w0 L w) (hs : K ⊆ L) (hL : ∀ p ∈ L, w0.heap.size ≤ p.1) : KH w0 K w := ⟨H.kp.sub hs, H.none hL⟩
section
variable {P : Program} {n : Nat} {ops : Array Oper} {C : World → Prop} {tl : Nat → Bool} {kn : Env → World → Prop} {f : Nat} {listed : Array Bool} {E : Env} {w : World}
theorem Xd {i : Nat} {o : Oper} {A : Nat → Prop} {F : Nat → World → Prop} {v : Nat → Value} (hi : ops[i]? = some o) (hg : Wanted ops E o) (he : ∃ b w', A b ∧ F b w' ∧ (execOp (ev E) { o with guard := none }).run P w = .ok (.value (v b)) w')
  (hC : ∀ b w', A b → F b w' → tl i = false → C w') (h : ∀ b w', A b → F b w' → WA P n ops C tl kn f (listed.setIfInBounds i true) (updo n E o.dst (v b)) w') : WI P n ops C tl kn f listed i E w := by
 obtain ⟨b, w', hA, hF, hr⟩ := he
 exact Xv hi hg hr (hC b w' hA hF) (h b w' hA hF)
theorem Bn {i : Nat} {o : Oper} {M : Type} {A : Value → M → Prop} {F : M → World → Prop} (hi : ops[i]? = some o) (hg : Wanted ops E o) (he : ∃ v m w', A v m ∧ F m w' ∧ (execOp (ev E) { o with guard := none }).run P w = .ok (.value v) w')
  (hC : ∀ v m w', A v m → F m w' → tl i = false → C w') (h : ∀ v m w', A v m → F m w' → WA P n ops C tl kn f (listed.setIfInBounds i true) (updo n E o.dst v) w') : WI P n ops C tl kn f listed i E w := by
 obtain ⟨v, m, w', hA, hF, hr⟩ := he
 exact Xv hi hg hr (hC v m w' hA hF) (h v m w' hA hF)
end
theorem Hp.Uv {w0 w : World} {A M B : List (Nat × Obj)} (H : Hp w0 (A ++ (M ++ B)) w) (hM : ∀ p ∈ M, w0.heap.size ≤ p.1) : Hp w0 (A ++ B) w :=
 H.drop ((List.Sublist.refl A).append (List.sublist_append_right M B)) fun p hp hn => by
  simp only [List.mem_append, not_or] at hp hn
  rcases hp with hp | hp | hp
  ·exact (hn.1 hp).elim
  ·exact hM p hp
  ·exact (hn.2 hp).elim
end Go.Proofs.YtlpmfldijgdcoaaGreatDoor.Fx
namespace Go.Proofs.YtlpmfldijgdcoaaGreatDoor.Fx
open Go
section
variable {P : Program} {n : Nat} {ops : Array Oper} {kn : Env → World → Prop} {kx : Nat → Env → World → Prop} {kr : Env → World → Prop} {l : List Oper} {E : Env} {w w' : World} {L : List (Nat × Obj)} {o : Oper}
variable {d : Option Nat} {ty : TypeId} {pos : String} {after : Array Edge}
theorem Js {x y : Code} (h : W P n x (fun E w => W P n y kn kx kr E w) kx kr E w) : W P n (.seq x y) kn kx kr E w := W_seq h
theorem Jr {id : Nat} {l : List Oper} (h : WL P n l.toArray kn l E w) : W P n (.region id l.toArray false) kn kx kr E w := Qk h
theorem Jn (h : kn E w) : WL P n ops kn [] E w := WL_nil h
theorem Jk (h : kn E w) : W P n .skip kn kx kr E w := W_skip h
theorem Je (h : kr E w) : W P n .ret kn kx kr E w := W_ret h
theorem Jb {id : Nat} {c : Code} (h : W P n c kn (fun i E w => if i = id then kn E w else kx i E w) kr E w) : W P n (.block id c) kn kx kr E w := W_block h
theorem Jc {c : Operand} {x y : Code} (hc : ev E c = .bool false) (h : W P n y kn kx kr E w) : W P n (.cond c x y) kn kx kr E w := W_cond_f hc h
theorem Jd {c : Operand} {x y : Code} (hc : ev E c = .bool true) (h : W P n x kn kx kr E w) : W P n (.cond c x y) kn kx kr E w := W_cond_t hc h
theorem Jm {x : Operand} (h : WL P n ops kn l (mov n E d x) w) : WL P n ops kn (mk d (.move x) ty pos after :: l) E w := WL_stepM rfl Va h
theorem Ja {x : Operand} (h : WL P n ops kn l (mov n E d x) w) : WL P n ops kn (mk d (.assign x) ty pos after :: l) E w := WL_stepM rfl R_as h
theorem Jp {c a b : Operand} (hc : ev E c = .bool false) (h : WL P n ops kn l (mov n E d b) w) : WL P n ops kn (mk d (.pick c a b) ty pos after :: l) E w := WL_stepM rfl (Zg hc) h
theorem Jq {c a b : Operand} (hc : ev E c = .bool true) (h : WL P n ops kn l (mov n E d a) w) : WL P n ops kn (mk d (.pick c a b) ty pos after :: l) E w := WL_stepM rfl (Ug hc) h
theorem Jx {x : Operand} {i : Nat} {vs : Array Value} {v : Value} (hx : ev E x = .tuple vs) (hv : vs[i]? = some v) (h : WL P n ops kn l (updo n E d v) w) : WL P n ops kn (mk d (.extract x i) ty pos after :: l) E w := Ym rfl (Qs hx hv) h
theorem Ji {x : Operand} {a : Addr} (hx : ev E x = .pointer (some a)) (h : WL P n ops kn l (updo n E d (.pointer (some a))) w) : WL P n ops kn (mk d (.nilCheck x) ty pos after :: l) E w := Ym rfl (Qf hx) h
theorem Jf {s : TypeId} {x : Operand} {b off sz i : Nat} {fields : Array Field} {fd : Field} (off' : Nat) (hs : P.underlying s = some (.struct fields)) (hf : fields[i]? = some fd)
  (hS : ∀ w, (sizeOf fd.type).run P w = .ok sz w) (hx : ev E x = ptr b off) (hr : off + fd.offset = off') (h : WL P n ops kn l (updo n E d (ptr b off')) w) (h0 : sz ≠ 0 := by decide) : WL P n ops kn (mk d (.fieldAddr s x i) ty pos after :: l) E w :=
 Ym rfl (Qa hs hf hS h0 hx hr) h
theorem Jl {t : TypeId} {x : Operand} {b off : Nat} {v : Value} {c : List Value} {e : TypeId} {fz : Nat × Nat} (hA : ∀ w, (isAgg t).run P w = .ok false w) (hx : ev E x = ptr b off)
  (hb : w.heap[b]? = some (.cells c.toArray e fz)) (hc : c[off]? = some v) (h : WL P n ops kn l (updo n E d v) w) : WL P n ops kn (mk d (.load t x) ty pos after :: l) E w := Ym rfl (Qe hA hx hb hc) h
theorem Jt {j : Nat} {want : Bool} (hg : o.guard = some (j, want)) (hy : yE ops E j = some want) (h : WL P n ops kn ({ o with guard := none } :: l) E w) : WL P n ops kn (o :: l) E w := WL_guard_t hg hy h
theorem Jg {j : Nat} {want b : Bool} (hg : o.guard = some (j, want)) (hy : yE ops E j = some b) (h : WL P n ops kn l (updo n E o.dst undef) w) (hb : b ≠ want := by decide) : WL P n ops kn (o :: l) E w := WL_guard_f hg hy hb h
theorem Jo {j : Nat} {want : Bool} (hg : o.guard = some (j, want)) (hy : yE ops E j = none) (h : WL P n ops kn l (updo n E o.dst undef) w) : WL P n ops kn (o :: l) E w := WL_guard_n hg hy h
theorem Jy {f : FuncId} {x : Operand} {args : Array Operand} {ts : Array TypeId} {first captured : Array Value} {az : List Value} {R : Value → World → Prop} (hx : ev E x = .func (.func f) first captured) (hf : ∀ a w, (callFunc f a).run P w = .ok (.enter f a) w)
  (ha : first.toList ++ args.toList.map (ev E) ++ captured.toList = az) (hc : Ret P f az.toArray w R) (h : ∀ v w', R v w' → WL P n ops kn l (updo n E d v) w') : WL P n ops kn (mk d (callOf x args ts) ty pos after :: l) E w := Vl rfl (Qw hx hf ha) hc h
/-- a call that changes nothing -/
theorem Jz {w0 : World} {f : FuncId} {x : Operand} {args : Array Operand} {ts : Array TypeId} {first captured : Array Value} {az : List Value} {u : Value} (hx : ev E x = .func (.func f) first captured) (hf : ∀ a w, (callFunc f a).run P w = .ok (.enter f a) w)
  (ha : first.toList ++ args.toList.map (ev E) ++ captured.toList = az) (hc : Ret P f az.toArray w fun v w' => v = u ∧ Hp w [] w') (H : Hp w0 L w) (h : ∀ w', Hp w0 L w' → WL P n ops kn l (updo n E d u) w') : WL P n ops kn (mk d (callOf x args ts) ty pos after :: l) E w :=
 Jy hx hf ha hc (fun v w' hR => by rw [hR.1]; exact h w' (H.seq0 hR.2))
theorem J {v : Value} (hr : (execOp (ev E) o).run P w = .ok (.value v) w') (h : WL P n ops kn l (updo n E o.dst v) w') (hg : o.guard = none := by rfl) : WL P n ops kn (o :: l) E w := Ym hg hr h
end
section
variable {P : Program} {n : Nat} {ops : Array Oper} {C : World → Prop} {tl : Nat → Bool} {kn : Env → World → Prop} {E : Env} {w : World} {f : Nat} {listed : Array Bool} {d : Option Nat} {ty : TypeId} {pos : String} {after : Array Edge}
theorem Am (i : Nat) {x : Operand} (hi : ops[i]? = some (mk d (.move x) ty pos after)) (hC : C w) (h : WA P n ops C tl kn f (listed.setIfInBounds i true) (mov n E d x) w) (ht : Mm ops tl = true := by kernel_rfl) (hb : Mb ops tl listed i = true := by kernel_rfl) : WA P n ops C tl kn (f + 1) listed E w :=
 WA_takeM i rfl hi rfl ht hb hC (fun _ _ => Va) h
theorem Aa (i : Nat) {x : Operand} (hi : ops[i]? = some (mk d (.assign x) ty pos after)) (hC : C w) (h : WA P n ops C tl kn f (listed.setIfInBounds i true) (mov n E d x) w) (ht : Mm ops tl = true := by kernel_rfl) (hb : Mb ops tl listed i = true := by kernel_rfl) : WA P n ops C tl kn (f + 1) listed E w :=
 WA_takeM i rfl hi rfl ht hb hC (fun _ _ => R_as) h
theorem Az {o : Oper} {v : Value} (i : Nat) (hi : ops[i]? = some o) (hg : o.guard = none) (hC : C w) (hv : ∀ w, C w → (execOp (ev E) o).run P w = .ok (.value v) w) (h : WA P n ops C tl kn f (listed.setIfInBounds i true) (updo n E o.dst v) w)
  (ht : Mm ops tl = true := by kernel_rfl) (hb : Mb ops tl listed i = true := by kernel_rfl) : WA P n ops C tl kn (f + 1) listed E w := WA_take i rfl hi hg ht hb hC hv h
theorem Ah {o : Oper} {x : Operand} (i : Nat) (hi : ops[i]? = some o) (hg : o.guard = none) (hC : C w) (hv : ∀ w, C w → (execOp (ev E) o).run P w = .ok (.value (ev E x)) w) (h : WA P n ops C tl kn f (listed.setIfInBounds i true) (mov n E o.dst x) w)
  (ht : Mm ops tl = true := by kernel_rfl) (hb : Mb ops tl listed i = true := by kernel_rfl) : WA P n ops C tl kn (f + 1) listed E w := WA_takeM i rfl hi hg ht hb hC hv h
theorem Ag {o : Oper} {v : Value} {j : Nat} {want : Bool} (i : Nat) (hi : ops[i]? = some o) (hg : o.guard = some (j, want)) (hy : yE ops E j = some want) (hC : C w) (hv : ∀ w, C w → (execOp (ev E) { o with guard := none }).run P w = .ok (.value v) w) (h : WA P n ops C tl kn f (listed.setIfInBounds i true) (updo n E o.dst v) w)
  (ht : Mm ops tl = true := by kernel_rfl) (hb : Mb ops tl listed i = true := by kernel_rfl) : WA P n ops C tl kn (f + 1) listed E w := WA_takeG i rfl hi hg hy ht hb hC hv h
theorem Ai {o : Oper} {x : Operand} {j : Nat} {want : Bool} (i : Nat) (hi : ops[i]? = some o) (hg : o.guard = some (j, want)) (hy : yE ops E j = some want) (hC : C w) (hv : ∀ w, C w → (execOp (ev E) { o with guard := none }).run P w = .ok (.value (ev E x)) w) (h : WA P n ops C tl kn f (listed.setIfInBounds i true) (mov n E o.dst x) w)
  (ht : Mm ops tl = true := by kernel_rfl) (hb : Mb ops tl listed i = true := by kernel_rfl) : WA P n ops C tl kn (f + 1) listed E w := WA_takeGM i rfl hi hg hy ht hb hC hv h
theorem Aq {o : Oper} {j : Nat} {want : Bool} (i : Nat) (hi : ops[i]? = some o) (hg : o.guard = some (j, want)) (hy : yE ops E j ≠ some want) (hC : C w) (h : WA P n ops C tl kn f (listed.setIfInBounds i true) (updo n E o.dst undef) w)
  (ht : Mm ops tl = true := by kernel_rfl) (hb : Mb ops tl listed i = true := by kernel_rfl) : WA P n ops C tl kn (f + 1) listed E w := WA_pass i rfl hi hg hy ht hb hC h
theorem Ao (i : Nat) (h : WI P n ops C tl kn f listed i E w) (hr : Region.ready .any ops listed = [i] := by kernel_rfl) : WA P n ops C tl kn (f + 1) listed E w := WA_one hr h
theorem Ad (h : kn E w) (hr : Region.ready .any ops listed = [] := by kernel_rfl) : WA P n ops C tl kn f listed E w := WA_done hr h
end
/-- what a drawn region asks for, in the ways that are common -/
theorem kC {p : Prop} (h : p := by first | exact fun h => absurd h (by decide) | exact fun _ => H | exact fun _ => H.none kYs | exact fun _ => H.Ub kYs | exact fun _ => H.pop (by assumption) | exact fun _ => (H.pop (by assumption)).pop (by assumption) | exact fun _ => H.kp | exact fun _ => H.kp.tail | exact fun _ => H.kp.tail.tail | exact fun _ => H.kp.tail.tail.tail | exact fun _ => H.kp.sub (by simp) | exact fun _ => Kp.nil | exact fun _ => H.kh (by simp) kYs) : p := h
/-- other slots are as they were -/
theorem kS {p : Prop} (h : p := by repeat' first | exact same_ovr | exact Same.refl | refine same_mov rfl ?_ | refine same_updo rfl ?_ | refine same_upd rfl ?_ | refine same_updn ?_ | refine same_know rfl ?_ | refine same_in rfl ?_) : p := h
theorem Hp.kK {w0 w : World} {L K : List (Nat × Obj)} (H : Hp w0 L w) (hs : K ⊆ L := by simp) (hL : ∀ p ∈ L, w0.heap.size ≤ p.1 := by repeat' first | exact Xu | apply Qu | apply Yv | assumption | exact Yo.keys (by assumption)) : KH w0 K w := H.kh hs hL
end Go.Proofs.YtlpmfldijgdcoaaGreatDoor.Fx
namespace Go.Proofs.YtlpmfldijgdcoaaGreatDoor.Fx
open Go
/-! ### a row with a mark behind it -/
section
variable {P : Program} {E : Env} {w0 w : World} {L : List (Nat × Obj)} {d : Option Nat} {ty : TypeId} {pos : String} {after : Array Edge}
end
section
variable {P : Program} {E : Env} {w : World} {d : Option Nat} {ty : TypeId} {pos : String} {after : Array Edge}
/-- the whole of an array -/
theorem R_all {t elem : TypeId} {x : Operand} {b off m : Nat} (ht : P.underlying t = some (.array m elem)) (hS : ∀ w, (sizeOf elem).run P w = .ok 1 w)
  (hx : ev E x = ptr b off) (h0 : 0 < m)
  : (execOp (ev E) (mk d (.slice t x none none none) ty pos after)).run P w = .ok (.value (sl b off m m)) w := by
 have h := R_sliceArr (d := d) (ty := ty) (pos := pos) (after := after) (w := w) (off' := off) (i := 0) (j := (m : Int)) ht hS hx (.none (dflt := 0)) (.none (dflt := (m : Int))) (by omega) (by omega) (by omega) (by omega) (by simp)
 simpa using h
end
end Go.Proofs.YtlpmfldijgdcoaaGreatDoor.Fx
namespace Go.Proofs.YtlpmfldijgdcoaaGreatDoor.TabC
open Go Go.Proofs Fx Tryz
/-- a thing of 6 cells -/
structure Vk where
 c : List Value
 hc : c.length = 6
 ho : ∀ x ∈ c, x.oneCell' = true
abbrev vk (x : Vk) : Value := .agg x.c.toArray
def zk : Vk := ⟨[I 0, I 0, I 0, I 0, I 0, I 0], rfl, by simp [Value.oneCell']⟩
/-- a place of a table -/
structure Pl where
 v : Vk
 g : Nat
 u : Bool
def plc (a : Pl) : List Value := a.v.c ++ [I a.g, .bool a.u]
theorem Vo (a : Pl) : (plc a).length = 8 := by unfold plc; rw [List.length_append, a.v.hc]; rfl
theorem plc_one (a : Pl) : ∀ x ∈ plc a, x.oneCell' = true := by
 intro x hx
 unfold plc at hx
 rcases List.mem_append.1 hx with h | h
 ·exact a.v.ho x h
 ·simp only [List.mem_cons, List.not_mem_nil, or_false] at h
  rcases h with rfl | rfl <;> rfl
theorem plc_g (a : Pl) : (plc a)[6]? = some (I a.g) := by unfold plc; rw [List.getElem?_append_right (by rw [a.v.hc]; decide), a.v.hc]; rfl
theorem plc_u (a : Pl) : (plc a)[7]? = some (.bool a.u) := by unfold plc; rw [List.getElem?_append_right (by rw [a.v.hc]; decide), a.v.hc]; rfl
theorem pl_gen {l : List Pl} {i : Nat} {a : Pl} (h : l[i]? = some a) : (rows plc l)[i * 8 + 6]? = some (I a.g) := (Nj Vo h (by decide)).trans (plc_g a)
theorem pl_used {l : List Pl} {i : Nat} {a : Pl} (h : l[i]? = some a) : (rows plc l)[i * 8 + 7]? = some (.bool a.u) := (Nj Vo h (by decide)).trans (plc_u a)
theorem pl_all {l : List Pl} {i : Nat} {a : Pl} (h : l[i]? = some a) : ((rows plc l).drop (i * 8)).take 8 = plc a := rows_one Vo h
theorem pl_val {l : List Pl} {i : Nat} {a : Pl} (h : l[i]? = some a) : ((rows plc l).drop (i * 8 + 0)).take 6 = a.v.c := by
 have e := congrArg (List.take 6) (pl_all h)
 rw [List.take_take, show min 6 8 = 6 from rfl] at e
 rw [Nat.add_zero, e]
 unfold plc
 rw [List.take_left' a.v.hc]
theorem plc_setu (a : Pl) (b : Bool) : (plc a).set 7 (.bool b) = plc ⟨a.v, a.g, b⟩ := by
 unfold plc; rw [List.set_append_right _ _ (by rw [a.v.hc]; decide), a.v.hc]; rfl
/-- another thing at a place -/
theorem rows_val {l : List Pl} {i : Nat} {a : Pl} (h : l[i]? = some a) (x : Vk) : (rows plc l).take (i * 8 + 0) ++ x.c ++ (rows plc l).drop (i * 8 + 0 + 6) = rows plc (l.set i ⟨x, a.g, a.u⟩) := by
 have hi := (List.getElem?_eq_some_iff.1 h).1
 have e := rows_put (a' := ⟨x, a.g, a.u⟩) Vo hi
 rw [← e, Nat.add_zero, List.append_assoc, List.append_assoc]
 congr 1
 have e2 : (rows plc l).drop (i * 8) = plc a ++ (rows plc l).drop (i * 8 + 8) := by
  rw [← pl_all h, show (rows plc l).drop (i * 8 + 8) = ((rows plc l).drop (i * 8)).drop 8 from by rw [List.drop_drop]]
  exact (List.take_append_drop 8 _).symm
 have e3 : (rows plc l).drop (i * 8 + 6) = [I a.g, .bool a.u] ++ (rows plc l).drop (i * 8 + 8) := by
  rw [show (rows plc l).drop (i * 8 + 6) = ((rows plc l).drop (i * 8)).drop 6 from by rw [List.drop_drop], e2]
  show (a.v.c ++ [I a.g, .bool a.u] ++ _).drop 6 = _
  rw [List.append_assoc, List.drop_left' a.v.hc]
 rw [e3]
 show x.c ++ ([I a.g, .bool a.u] ++ _) = (x.c ++ [I a.g, .bool a.u]) ++ _
 rw [List.append_assoc]
section
variable {E : Env} {w0 w : World} {L : List (Nat × Obj)} {d : Option Nat} {ty e : TypeId} {pos : String} {after : Array Edge} {x y : Operand} {b : Nat} {p q : Vk} {f : Obj → List (Nat × Obj)} {c : List Value}
theorem k_all (q : Vk) : (q.c.drop 0).take 6 = q.c := by rw [List.drop_zero, List.take_of_length_le (by rw [q.hc]; decide)]
theorem ldK (hb : w.heap[b]? = some (blk q.c e)) : (loadVar 125 ⟨b, 0, none⟩).run Tryz.prog w = .ok (vk q) w :=
 ldA isAgg125 sizeOf125 hb (k_all q) (by rw [q.hc]; decide)
theorem R_loadK (hx : ev E x = ptr b 0) (hb : w.heap[b]? = some (blk q.c e)) : (execOp (ev E) (mk d (.load 125 x) ty pos after)).run Tryz.prog w = .ok (.value (vk q)) w :=
 Qo isAgg125 sizeOf125 hx hb (k_all q) (by rw [q.hc]; decide)
theorem E_storeK (H : Hp w0 L w) (hx : ev E x = ptr b 0) (hy : ev E y = vk q) (hL : At L b (blk p.c e) f) :
  ∃ w', Hp w0 (f (blk q.c e)) w' ∧ (execOp (ev E) (mk d (.store 125 x y) ty pos after)).run Tryz.prog w = .ok .skip w' := by
 have h := Qg (d := d) (ty := ty) (pos := pos) (after := after) (vs := q.c) H (fun w => by rw [q.hc]; exact sizeOf125 w) hx hy q.ho hL (by rw [q.hc, p.hc]; decide)
 rw [List.take_zero, List.nil_append, q.hc, List.drop_of_length_le (by rw [p.hc]; decide), List.append_nil] at h
 exact h
theorem E_allocK (H : Hp w0 L w) : ∃ b w', w0.heap.size ≤ b ∧ Hp w0 ((b, blk zk.c 125) :: L) w' ∧ (execOp (ev E) (mk d (.alloc 125) ty pos after)).run Tryz.prog w = .ok (.value (ptr b 0)) w' :=
 Qp (vs := zk.c) H zeroValue125 rfl
theorem E_boxK (H : Hp w0 L w) (hx : ev E x = vk q) : ∃ b w', w0.heap.size ≤ b ∧ Hp w0 ((b, blk q.c 125) :: L) w' ∧ (execOp (ev E) (mk d (.box 125 x) ty pos after)).run Tryz.prog w = .ok (.value (ptr b 0)) w' :=
 Xl (v := vk q) (vs := q.c) H hx rfl
/-- a whole place, as it was taken out of the row -/
theorem Ma {a a' : Pl} (H : Hp w0 L w) (hx : ev E x = ptr b 0) (hy : ev E y = .agg (plc a').toArray) (hL : At L b (blk (plc a) e) f) :
  ∃ w', Hp w0 (f (blk (plc a') e)) w' ∧ (execOp (ev E) (mk d (.store 211 x y) ty pos after)).run Tryz.prog w = .ok .skip w' := by
 have h := Qg (d := d) (ty := ty) (pos := pos) (after := after) (vs := plc a') H (fun w => by rw [Vo]; exact sizeOf211 w) hx hy (plc_one a') hL (by rw [Vo, Vo]; decide)
 rw [List.take_zero, List.nil_append, Vo, List.drop_of_length_le (by rw [Vo]; decide), List.append_nil] at h
 exact h
end
def Bw : Pl := ⟨zk, 0, false⟩
def newPl : Pl := ⟨zk, 1, false⟩
def szOf (n : Int) : Nat := (min (max n 0) 256).toNat
def free (a : Pl) : Prop := a.u = false ∧ a.g ≤ 1000000
/-- the names that are there, from a place on -/
def Zi : Nat → List Pl → List Int
 | _, [] => []
 | k, a :: l => if a.u = true then ((k + 256 * a.g : Nat) : Int) :: Zi (k + 1) l else Zi (k + 1) l
theorem namesFrom_le : ∀ (l : List Pl) (k : Nat), (Zi k l).length ≤ l.length
 | [], k => by simp [Zi]
 | a :: l, k => by
  have := namesFrom_le l (k + 1)
  unfold Zi
  split <;> simp <;> omega
theorem rows_rep (n : Nat) (a : Pl) : (List.replicate n (plc a)).flatten = rows plc (List.replicate n a) := by
 unfold rows; rw [List.flatMap_def, List.map_replicate]
theorem rep_step {i n : Nat} (h : i < n) : (List.replicate i newPl ++ List.replicate (n - i) Bw).set i newPl = List.replicate (i + 1) newPl ++ List.replicate (n - (i + 1)) Bw := by
 rw [List.set_append, if_neg (by simp), List.length_replicate, Nat.sub_self, show n - i = (n - (i + 1)) + 1 from by omega, List.replicate_succ, List.set_cons_zero, List.replicate_succ', List.append_assoc]
 rfl
theorem rep_get {i n : Nat} (h : i < n) : (List.replicate i newPl ++ List.replicate (n - i) Bw)[i]? = some Bw := by
 rw [List.getElem?_append_right (by simp), List.length_replicate, Nat.sub_self, List.getElem?_replicate, if_pos (by omega)]
section
variable {w : World} {p b : Nat} {l : List Pl} {N : Nat}
theorem name_ret {i : Nat} {a : Pl} (hp : w.heap[p]? = some (blk [sl b 0 N N] 209)) (hb : w.heap[b]? = some (blk (rows plc l) 211)) (hN : l.length = N) (hN2 : N ≤ 256) (h : l[i]? = some a) (hg : a.g ≤ 1000001) :
  Ret Tryz.prog 160 #[ptr p 0, I i] w fun v w' => v = I (i + 256 * a.g : Nat) ∧ Hp w [] w' := by
 refine Qi (args := [_, _]) func160 rfl ntmps160 results160 (by simp) ?_
 have H := Hp.refl w
 have hi := (List.getElem?_eq_some_iff.1 h).1
 refine Js (Jr (Ja (Jn (Js (Jr (Jm (Jm (Ji rfl (Jf 0 underlying209 rfl sizeOf207 rfl rfl (Jl isAgg207 rfl (H.block hp (by simp)) rfl (Jm (J (Qj underlying207 sizeOf211 rfl rfl (by omega) (by omega) Zz) (J (Qa (off' := _ + 6) underlying211 rfl sizeOf3 (by decide) rfl rfl) (J (Qe isAgg3 rfl (H.block hb (by simp)) (pl_gen h)) (J (Bs (r := ((256 * a.g : Nat) : Int)) rfl rfl (by rw [Xc (by omega)]; omega)) (J (Xg (r := ((i + 256 * a.g : Nat) : Int)) rfl rfl (by rw [Xc (by omega)]; omega)) (Ja (Jn (Je ?_)))))))))))))))))))
 exact ⟨_, rfl, rfl, H⟩
theorem at_yes {i : Nat} {a : Pl} (hp : w.heap[p]? = some (blk [sl b 0 N N] 209)) (hb : w.heap[b]? = some (blk (rows plc l) 211)) (hN : l.length = N) (hN2 : N ≤ 256) (h : l[i]? = some a) (hg : a.g ≤ 1000001) (hu : a.u = true) :
  Ret Tryz.prog 196 #[ptr p 0, I (i + 256 * a.g : Nat)] w fun v w' => v = ptr b (i * 8) ∧ Hp w [] w' := by
 refine Qi (args := [_, _]) func196 rfl ntmps196 results196 (by simp) ?_
 have H := Hp.refl w
 have hi := (List.getElem?_eq_some_iff.1 h).1
 have hus := pl_used h
 rw [hu] at hus
 (refine Js (Jr (Ja (Jn (Js (Jr (Jm (J (Zb (r := (i : Int)) rfl rfl (by simp) ((Yp 8 256 (by decide) rfl (by decide)).trans (by omega))) (Ja (Jn (Js (Js (Jr (Jm (J (Xp rfl rfl (by omega)) (Jm (Jt rfl rfl (Jm (Jt rfl rfl (Jm (Jt rfl rfl (Ji rfl (Jt rfl rfl (Jf 0 underlying209 rfl sizeOf207 rfl rfl (Jt rfl rfl (Jl isAgg207 rfl (H.block hp (by simp)) rfl (Jt rfl rfl (J (Qh underlying207 rfl) (Jt rfl rfl (J (Zn rfl rfl (by omega)) (Jp rfl (Jm (Jt rfl rfl (Jm (Jt rfl rfl (Ji rfl (Jt rfl rfl (Jf 0 underlying209 rfl sizeOf207 rfl rfl (Jt rfl rfl (Jl isAgg207 rfl (H.block hp (by simp)) rfl (Jt rfl rfl (Jm (Jt rfl rfl (J (Qj underlying207 sizeOf211 rfl rfl (by omega) (by omega) Zz) (Jt rfl rfl (J (Qa (off' := _ + 7) underlying211 rfl sizeOf4 (by decide) rfl rfl) (Jt rfl rfl (J (Qe isAgg4 rfl (H.block hb (by simp)) hus) (Jt rfl rfl (J (Xj rfl) (Jp rfl (Jm (Jt rfl rfl (Jm (Jt rfl rfl (Jm (Jt rfl rfl (Jz rfl call160 rfl (name_ret (H.block hp (by simp)) (H.block hb (by simp)) hN hN2 h hg) H ?_))))))))))))))))))))))))))))))))))))))))))))))))))))))))); intro w58 H)
 refine Jt rfl rfl (Jm (Jt rfl rfl (J (Yl rfl rfl (by omega)) (Jp rfl (Jn (Jc rfl (Jk (Js (Jr (Jm (Ji rfl (Jf 0 underlying209 rfl sizeOf207 rfl rfl (Jl isAgg207 rfl (H.block hp (by simp)) rfl (Jm (J (Qj underlying207 sizeOf211 rfl rfl (by omega) (by omega) Zz) (Ja (Jn (Je ?_))))))))))))))))))
 exact ⟨_, rfl, rfl, H⟩
theorem get_yes {i : Nat} {a : Pl} (hp : w.heap[p]? = some (blk [sl b 0 N N] 209)) (hb : w.heap[b]? = some (blk (rows plc l) 211)) (hN : l.length = N) (hN2 : N ≤ 256) (h : l[i]? = some a) (hg : a.g ≤ 1000001) (hu : a.u = true) :
  Ret Tryz.prog 193 #[ptr p 0, I (i + 256 * a.g : Nat)] w fun v w' => v = .tuple #[vk a.v, .bool true] ∧ Hp w [] w' := by
 refine Qy (args := [_, _]) func193 rfl ntmps193 results193 (by simp) ?_
 have H := Hp.refl w
 have hi := (List.getElem?_eq_some_iff.1 h).1
 have hlen := Zh Vo l
 (refine Js (Jr (Qb rfl (E_allocK H) ?_)); clear H; intro c4 w3 hc4 H)
 (refine Ja (Jn (Js (Jr (Jm (Jm (Jz rfl call196 rfl (at_yes (H.Qc hp kYs) (H.Qc hb kYs) hN hN2 h hg hu) H ?_)))))); intro w10 H)
 (refine Ja (Jn (Js (Js (Jr (Jm (J (Vx underlying302 rfl rfl) (Jn (Jc rfl (Jk (Js (Jr (Jm (Ji rfl (J (Qa underlying211 rfl sizeOf125 (by decide) rfl rfl) (J (Qo (vs := a.v.c) isAgg125 sizeOf125 rfl (H.Qc hb kYs) (pl_val h) (by rw [hlen]; show i * 8 + 0 + 6 ≤ _; omega)) (Qd rfl (E_storeK H rfl rfl .here) ?_)))))))))))))))); clear H; intro w27 H)
 refine Ja (Jn (Je ?_))
 exact ⟨_, ⟨_, _, rfl, ldK (H.get .here), rfl⟩, rfl, H.none kYs⟩
end
theorem Bg (n : Int) (w : World) : Ret Tryz.prog 77 #[I n] w fun v w' => ∃ p b, v = ptr p 0 ∧
  Hp w [(p, blk [sl b 0 (szOf n) (szOf n)] 209), (b, blk (rows plc (List.replicate (szOf n) newPl)) 211)] w' ∧ w.heap.size ≤ p ∧ w.heap.size ≤ b := by
 refine Qi (args := [_]) func77 rfl ntmps77 results77 (by simp) ?_
 have H := Hp.refl w
 obtain ⟨m, hm, hm2⟩ : ∃ m : Nat, min (max n 0) 256 = (m : Int) ∧ szOf n = m := ⟨szOf n, by unfold szOf; omega, rfl⟩
 have hm3 : m ≤ 256 := by omega
 rw [hm2]
 refine Js (Jr (Ja (Jn (Js (Jr (Jm (J (Mz rfl rfl rfl) (Ym rfl (Nn rfl rfl hm) ?_))))))))
 (refine Qb rfl (E_makeSliceA (zs := plc Bw) H underlying207 sizeOf211 typeInfo211 zeroValue211 rfl rfl rfl rfl (by omega) (by omega) (by omega) (by simp only [Tryz.t211]; omega)) ?_; clear H; intro b w10 hb H; rw [Int.toNat_natCast, rows_rep] at H; rw [Int.toNat_natCast])
 (refine J (Qm (places := [(0, 1)]) (vs := [(.slice _ _ _)]) underlying209 typeInfo209 rfl rfl (by kernel_rfl) rfl rfl rfl) (Qb rfl (Xl (vs := [sl b 0 m m]) H rfl rfl) ?_); clear H; intro p w12 hp H)
 refine Ja (Jn (Js (Js (Jr (Jm (Ji rfl (Jf 0 underlying209 rfl sizeOf207 rfl rfl (Jl isAgg207 rfl (H.get .here) rfl (J (Qh underlying207 rfl) (Jm (Jn (Jb (Dp (fun (i : Nat) E w' => i ≤ m ∧ E 3 = ptr p 0 ∧ E 15 = I m ∧ E 16 = I i ∧ Hp w [(p, blk [sl b 0 m m] 209), (b, blk (rows plc (List.replicate i newPl ++ List.replicate (m - i) Bw)) 211)] w') (fun i => m - i) 0 ?_ ?_)))))))))))))
 ·exact ⟨by omega, rfl, rfl, rfl, H⟩
 ·(clear H; rintro i E w1 ⟨hi, h0, h1, h2, H⟩; refine W_know3 h0 h1 h2 ?_; by_cases hlt : i < m)
  ·refine Js (Jr (J (Za rfl rfl (by omega)) (Jn (Js (Jd rfl (Jk (Js (Jb (Js (Jr (Jm (Ja (Jn ?_)))))))))))))
   (have hlen := Zh Vo (List.replicate i newPl ++ List.replicate (m - i) Bw); rw [List.length_append, List.length_replicate, List.length_replicate] at hlen; refine Qk ?_)
   (refine Jm (Ji rfl (Jf 0 underlying209 rfl sizeOf207 rfl rfl (Jl isAgg207 rfl (H.get .here) rfl (Jm (J (Qj underlying207 sizeOf211 rfl rfl (by omega) (by omega) Zz) (J (Qa (off' := _ + 6) underlying211 rfl sizeOf3 (by decide) rfl rfl) (Qd rfl (Qz (v := (.int _ _)) H sizeOf3 rfl rfl rfl (.there .here) (by omega)) ?_))))))); clear H; intro w51 H)
   refine Jn ?_
   (rw [rows_set (j := 6) (v := I 1) (a' := newPl) Vo (rep_get hlt) (by decide) rfl, rep_step hlt] at H; refine Qk ?_)
   refine J (Xg rfl rfl (Xc (by omega))) (Jm (Jn ?_))
   exact ⟨i + 1, by omega, by omega, rfl, rfl, rfl, H⟩
  ·refine Js (Jr (J (Xp rfl rfl (by omega)) (Jn (Js (Jc rfl (Xr ?_))))))
   refine (if_pos rfl).mpr ?_
   refine Js (Jr (Jm (Ja (Jn (Je ?_)))))
   (obtain rfl : i = m := (by omega); rw [Nat.sub_self, List.replicate_zero, List.append_nil] at H; exact ⟨_, rfl, _, _, rfl, H, by assumption, by assumption⟩)
section
variable {w : World} {p b : Nat} {l : List Pl} {N : Nat}
theorem names_ret (hp : w.heap[p]? = some (blk [sl b 0 N N] 209)) (hb : w.heap[b]? = some (blk (rows plc l) 211)) (hN : l.length = N) (hN2 : N ≤ 256) (hg : ∀ a ∈ l, a.g ≤ 1000001) :
  Ret Tryz.prog 121 #[ptr p 0] w fun v w' => ∃ M, Yo w.heap.size 3 1 v (Zi 0 l).length ((Zi 0 l).map I) M ∧ Hp w M w' := by
 refine Qi (args := [_]) func121 rfl ntmps121 results121 (by simp) ?_
 have H := Hp.refl w
 have hlen := Zh Vo l
 have hO := Yo.nil w.heap.size 3 1
 have hnl := namesFrom_le l 0
 refine Js (Jr (Ja (Jn (Js (Jr (Ja (Jn (Js (Js (Jr (Jm (Ji rfl (Jf 0 underlying209 rfl sizeOf207 rfl rfl (Jl isAgg207 rfl (H.block hp (by simp)) rfl (J (Qh underlying207 rfl) (Jm (Jn (Jb (Dp (fun (i : Nat) E w' => ∃ v M out, i ≤ N ∧ E 0 = ptr p 0 ∧ E 3 = v ∧ E 9 = sl b 0 N N ∧ E 10 = I N ∧ E 11 = I i ∧ out ++ Zi i (l.drop i) = Zi 0 l ∧ Yo w.heap.size 3 1 v out.length (out.map I) M ∧ Hp w M w') (fun i => N - i) 0 ?_ ?_)))))))))))))))))))
 ·exact ⟨_, [], [], by omega, rfl, rfl, rfl, rfl, rfl, rfl, hO, H⟩
 ·(clear H hO; rintro i E w1 ⟨v, M, out, hi, h0, h3, h1, h2, h4, hout, hO, H⟩; refine W_know5 h0 h3 h1 h2 h4 ?_; have hol := congrArg List.length hout; rw [List.length_append] at hol; by_cases hlt : i < N)
  ·refine Js (Jr (J (Za rfl rfl (by omega)) (Jn (Js (Jd rfl (Jk (Js (Jb (Js ?_)))))))))
   (obtain ⟨a, h⟩ : ∃ a, l[i]? = some a := ⟨_, List.getElem?_eq_getElem (by omega)⟩; have hga := hg _ (List.mem_of_getElem? h); rw [List.drop_eq_getElem_cons (by omega), (List.getElem?_eq_some_iff.1 h).2] at hout; have hus := plc_u a; cases hau : a.u <;> rw [hau] at hus <;> refine Qk ?_)
   ·(refine Jm (J (Qj underlying207 sizeOf211 rfl rfl (by omega) (by omega) Zz) (J (Qo (vs := plc a) isAgg211 sizeOf211 rfl (H.Qc hb kYs) (pl_all h) (by omega)) (Qb rfl (Qp (vs := plc Bw) H zeroValue211 rfl) ?_))); clear H; intro c5 w37 hc5 H)
    (refine Ja (Qd rfl (Ma (a' := a) H rfl rfl .here) ?_); clear H; intro w39 H)
    refine Jn (Js (Jr (Jf 7 underlying211 rfl sizeOf4 rfl rfl (J (Qe (v := .bool _) isAgg4 rfl (H.get .here) hus) (Jn (Jc rfl (Jk (Jr (J (Xg rfl rfl (Xc (by omega))) (Jm (Jn ?_)))))))))))
    exact ⟨i + 1, by omega, v, M, out, by omega, rfl, rfl, rfl, rfl, rfl, (by rw [Zi, hau] at hout; exact hout), hO, H.pop (by assumption)⟩
   ·(refine Jm (J (Qj underlying207 sizeOf211 rfl rfl (by omega) (by omega) Zz) (J (Qo (vs := plc a) isAgg211 sizeOf211 rfl (H.Qc hb kYs) (pl_all h) (by omega)) (Qb rfl (Qp (vs := plc Bw) H zeroValue211 rfl) ?_))); clear H; intro c5 w56 hc5 H)
    (refine Ja (Qd rfl (Ma (a' := a) H rfl rfl .here) ?_); clear H; intro w58 H)
    (refine Jn (Js (Jr (Jf 7 underlying211 rfl sizeOf4 rfl rfl (J (Qe (v := .bool _) isAgg4 rfl (H.get .here) hus) (Jn (Jd rfl (Jr (Jm (Jm (Jm (Jz rfl call160 rfl (name_ret (H.Qc hp kYs) (H.Qc hb kYs) hN hN2 h hga) H ?_))))))))))); intro w70 H)
    (refine Qb rfl (Xk (vs := [(.int _ _)]) H underlying22 sizeOf3 zeroValue3 rfl rfl (by decide) rfl rfl (by simp [Value.oneCell'])) ?_; clear H; intro b71 w71 hb71 H)
    (refine Ve rfl (Yx H (.there (.there .last)) hO underlying22 typeInfo3 rfl rfl rfl rfl rfl rfl (Ut underlying22 (H.get .here) rfl) (by omega) (by simp only [Tryz.t3]; omega)) ?_; clear H hO; intro vN MN w72 hO H; replace H := H.pop (by assumption))
    refine Ja (Jn (Jr (J (Xg rfl rfl (Xc (by omega))) (Jm (Jn ?_)))))
    exact ⟨i + 1, by omega, vN, MN, out ++ [((i + 256 * a.g : Nat) : Int)], by omega, rfl, rfl, rfl, rfl, rfl, (by rw [Zi, hau] at hout; rw [List.append_assoc]; exact hout), (by rw [List.length_append, List.map_append]; exact hO), H.pop (by assumption)⟩
  ·refine Js (Jr (J (Xp rfl rfl (by omega)) (Jn (Js (Jc rfl (Xr ?_))))))
   refine (if_pos rfl).mpr ?_
   refine Js (Jr (Jm (Ja (Jn (Je ?_)))))
   (rw [List.drop_of_length_le (by omega)] at hout; simp only [Zi, List.append_nil] at hout; subst hout; exact ⟨_, rfl, M, hO, H⟩)
theorem add_ret (hp : w.heap[p]? = some (blk [sl b 0 N N] 209)) (hb : w.heap[b]? = some (blk (rows plc l) 211)) (hN : l.length = N) (hN2 : N ≤ 256) (hg : ∀ a ∈ l, a.g ≤ 1000001) (x : Vk) :
  Ret Tryz.prog 120 #[ptr p 0, vk x] w fun v w' =>
   (∃ i a, l[i]? = some a ∧ free a ∧ (∀ j a', j < i → l[j]? = some a' → ¬ free a') ∧ v = .tuple #[I (i + 256 * a.g : Nat), .bool true] ∧ Hp w [(b, blk (rows plc (l.set i ⟨x, a.g, true⟩)) 211)] w') ∨
   ((∀ a ∈ l, ¬ free a) ∧ v = .tuple #[I 0, .bool false] ∧ Hp w [] w') := by
 refine Qi (args := [_, _]) func120 rfl ntmps120 results120 (by simp) ?_
 have H := (Hp.focus0 hp).focus hb (by simpa using Vg hb hp (by simp))
 have hlen := Zh Vo l
 (refine Js (Jr (Qb rfl (E_boxK (q := x) H rfl) ?_)); clear H; intro c3 w3 hc3 H)
 refine Ja (Ja (Jn (Js (Js (Jr (Jm (Ji rfl (Jf 0 underlying209 rfl sizeOf207 rfl rfl (Jl isAgg207 rfl (H.get (.there (.there .here))) rfl (J (Qh underlying207 rfl) (Jm (Jn (Jb (Dp (fun (i : Nat) E w' => i ≤ N ∧ E 0 = ptr p 0 ∧ E 3 = ptr c3 0 ∧ E 11 = sl b 0 N N ∧ E 12 = I N ∧ E 13 = I i ∧ (∀ j a', j < i → l[j]? = some a' → ¬ free a') ∧ Hp w [(c3, blk x.c 125), (b, blk (rows plc l) 211), (p, blk [sl b 0 N N] 209)] w') (fun i => N - i) 0 ?_ ?_))))))))))))))
 ·exact ⟨by omega, rfl, rfl, rfl, rfl, rfl, fun j a' hj _ => absurd hj (by omega), H⟩
 ·(clear H; rintro i E w1 ⟨hi, h0, h1, h2, h3, h4, hf, H⟩; refine W_know5 h0 h1 h2 h3 h4 ?_; by_cases hlt : i < N)
  ·refine Js (Jr (J (Za rfl rfl (by omega)) (Jn (Js (Jd rfl (Jk (Js (Jb (Js ?_)))))))))
   (obtain ⟨a, h⟩ : ∃ a, l[i]? = some a := ⟨_, List.getElem?_eq_getElem (by omega)⟩; have hus := plc_u a; have hgs := plc_g a; cases hau : a.u <;> rw [hau] at hus <;> by_cases hg6 : a.g ≤ 1000000 <;> refine Qk ?_)
   ·(refine Jm (J (Qj underlying207 sizeOf211 rfl rfl (by omega) (by omega) Zz) (J (Qo (vs := plc a) isAgg211 sizeOf211 rfl (H.get (.there .here)) (pl_all h) (by omega)) (Qb rfl (Qp (vs := plc Bw) H zeroValue211 rfl) ?_))); clear H; intro c7 w35 hc7 H)
    (refine Ja (Qd rfl (Ma (a' := a) H rfl rfl .here) ?_); clear H; intro w37 H)
    refine Jn (Js (Jr (Jf 7 underlying211 rfl sizeOf4 rfl rfl (J (Qe (v := .bool _) isAgg4 rfl (H.get .here) hus) (J (Xx rfl) (Jm (Jt rfl rfl (Jf 6 underlying211 rfl sizeOf3 rfl rfl (Jt rfl rfl (J (Qe (v := I a.g) isAgg3 rfl (H.get .here) hgs) (Jt rfl rfl (J (R_le_t rfl rfl (by omega)) (Jq rfl (Jn (Jd rfl (Js ?_))))))))))))))))
    (have mk5 : True := trivial; refine Xi (Kp [(c3, blk x.c 125), (p, blk [sl b 0 N N] 209)]) (fun _ => false) (by kernel_rfl) H ?_; clear H; intro w55 H)
    (refine Am 0 rfl (H.kp.sub (by simp)) (Az 1 rfl rfl (H.kp.sub (by simp)) (fun _ hC => Qf rfl) (Az 2 rfl rfl (H.kp.sub (by simp)) (fun _ hC => Qa (off' := 0) underlying209 rfl sizeOf207 (by decide) rfl rfl) (Az 3 rfl rfl (H.kp.sub (by simp)) (fun _ hC => Qe (v := sl b 0 N N) isAgg207 rfl (hC.get (.there .here)) rfl) (Am 4 rfl (H.kp.sub (by simp)) (Am 5 rfl (H.kp.sub (by simp)) (Az 6 rfl rfl (H.kp.sub (by simp)) (fun _ hC => Qf rfl) (Az 7 rfl rfl (H.kp.sub (by simp)) (fun _ hC => Qa (off' := 0) underlying209 rfl sizeOf207 (by decide) rfl rfl) (Az 8 rfl rfl (H.kp.sub (by simp)) (fun _ hC => Qe (v := sl b 0 N N) isAgg207 rfl (hC.get (.there .here)) rfl) (Am 9 rfl (H.kp.sub (by simp)) (Az 10 rfl rfl (H.kp.sub (by simp)) (fun _ hC => R_loadK (q := x) rfl (hC.get .here)) (Az 11 rfl rfl (H.kp.sub (by simp)) (fun _ hC => Qj underlying207 sizeOf211 rfl rfl (by omega) (by omega) Zz) (Az 12 rfl rfl (H.kp.sub (by simp)) (fun _ hC => Qa underlying211 rfl sizeOf125 (by decide) rfl rfl) (Ao 13 (Xb rfl (.inl rfl) (Qg (vs := x.c) H (fun w => by rw [x.hc]; exact sizeOf125 w) rfl rfl x.ho (.there (.there .here)) (by rw [x.hc, hlen]; show i * 8 + 0 + 6 ≤ _; omega)) (fun _ H _ => H.kp.sub (by simp)) ?_)))))))))))))); clear H; intro w70 H; rw [x.hc] at H; replace H : Hp w [(c7, blk (plc a) 211), (c3, blk x.c 125), (b, blk ((rows plc l).take (i * 8 + 0) ++ x.c ++ (rows plc l).drop (i * 8 + 0 + 6)) 211), (p, blk [sl b 0 N N] 209)] w70 := H; rw [rows_val h x] at H)
    (refine Az 14 rfl rfl (H.kp.sub (by simp)) (fun _ hC => Qj underlying207 sizeOf211 rfl rfl (by omega) (by omega) Zz) (Az 15 rfl rfl (H.kp.sub (by simp)) (fun _ hC => Qa (off' := _ + 7) underlying211 rfl sizeOf4 (by decide) rfl rfl) (Ao 16 (Xb rfl (.inl rfl) (Qz (v := .bool true) H sizeOf4 rfl rfl rfl (.there (.there .here)) (by rw [Zh Vo, List.length_set]; show i * 8 + 7 < _; omega)) (fun _ H _ => H.kp.sub (by simp)) ?_))); clear H; intro w74 H)
    refine Ad (Js ?_)
    (replace H : Hp w [(c7, blk (plc a) 211), (c3, blk x.c 125), (b, blk ((rows plc (l.set i ⟨x, a.g, a.u⟩)).set (i * 8 + 7) (.bool true)) 211), (p, blk [sl b 0 N N] 209)] _ := H; rw [rows_set (j := 7) (v := .bool true) (a' := ⟨x, a.g, true⟩) (l := l.set i ⟨x, a.g, a.u⟩) (a := ⟨x, a.g, a.u⟩) Vo (List.getElem?_set_self (by omega)) (by decide) (plc_setu ⟨x, a.g, a.u⟩ true).symm, List.set_set] at H; refine Qk ?_)
    (refine Jm (Jm (Jz rfl call160 rfl (name_ret (a := ⟨x, a.g, true⟩) (H.get (.there (.there (.there .here)))) (H.get (.there (.there .here))) (by simpa using hN) hN2 (List.getElem?_set_self (by omega)) (by show a.g ≤ 1000001; omega)) H ?_)); intro w80 H)
    refine Ja (Ja (Jn (Je ?_)))
    exact ⟨_, rfl, .inl ⟨i, _, h, ⟨hau, hg6⟩, hf, rfl, (Hp.pop (Hp.pop H (by assumption)) (by assumption)).swap2.back hp⟩⟩
   ·(refine Jm (J (Qj underlying207 sizeOf211 rfl rfl (by omega) (by omega) Zz) (J (Qo (vs := plc a) isAgg211 sizeOf211 rfl (H.get (.there .here)) (pl_all h) (by omega)) (Qb rfl (Qp (vs := plc Bw) H zeroValue211 rfl) ?_))); clear H; intro c7 w89 hc7 H)
    (refine Ja (Qd rfl (Ma (a' := a) H rfl rfl .here) ?_); clear H; intro w91 H)
    refine Jn (Js (Jr (Jf 7 underlying211 rfl sizeOf4 rfl rfl (J (Qe (v := .bool _) isAgg4 rfl (H.get .here) hus) (J (Xx rfl) (Jm (Jt rfl rfl (Jf 6 underlying211 rfl sizeOf3 rfl rfl (Jt rfl rfl (J (Qe (v := I a.g) isAgg3 rfl (H.get .here) hgs) (Jt rfl rfl (J (R_le_f rfl rfl (by omega)) (Jq rfl (Jn (Jc rfl (Jk (Jr (J (Xg rfl rfl (Xc (by omega))) (Jm (Jn ?_))))))))))))))))))))
    exact ⟨i + 1, by omega, by omega, rfl, rfl, rfl, rfl, rfl, (fun j a' hj hja hfr => by rcases Nat.lt_or_ge j i with h' | h'; exact hf j a' h' hja hfr; obtain rfl : j = i := (by omega); rw [h] at hja; cases hja; first | exact hg6 hfr.2 | (have h5 := hfr.1; rw [hau] at h5; cases h5)), H.pop (by assumption)⟩
   ·(refine Jm (J (Qj underlying207 sizeOf211 rfl rfl (by omega) (by omega) Zz) (J (Qo (vs := plc a) isAgg211 sizeOf211 rfl (H.get (.there .here)) (pl_all h) (by omega)) (Qb rfl (Qp (vs := plc Bw) H zeroValue211 rfl) ?_))); clear H; intro c7 w117 hc7 H)
    (refine Ja (Qd rfl (Ma (a' := a) H rfl rfl .here) ?_); clear H; intro w119 H)
    refine Jn (Js (Jr (Jf 7 underlying211 rfl sizeOf4 rfl rfl (J (Qe (v := .bool _) isAgg4 rfl (H.get .here) hus) (J (Xj rfl) (Jm (Jg rfl rfl (Jg rfl rfl (Jg rfl rfl (Jp rfl (Jn (Jc rfl (Jk (Jr (J (Xg rfl rfl (Xc (by omega))) (Jm (Jn ?_)))))))))))))))))
    exact ⟨i + 1, by omega, by omega, rfl, rfl, rfl, rfl, rfl, (fun j a' hj hja hfr => by rcases Nat.lt_or_ge j i with h' | h'; exact hf j a' h' hja hfr; obtain rfl : j = i := (by omega); rw [h] at hja; cases hja; first | exact hg6 hfr.2 | (have h5 := hfr.1; rw [hau] at h5; cases h5)), H.pop (by assumption)⟩
   ·(refine Jm (J (Qj underlying207 sizeOf211 rfl rfl (by omega) (by omega) Zz) (J (Qo (vs := plc a) isAgg211 sizeOf211 rfl (H.get (.there .here)) (pl_all h) (by omega)) (Qb rfl (Qp (vs := plc Bw) H zeroValue211 rfl) ?_))); clear H; intro c7 w142 hc7 H)
    (refine Ja (Qd rfl (Ma (a' := a) H rfl rfl .here) ?_); clear H; intro w144 H)
    refine Jn (Js (Jr (Jf 7 underlying211 rfl sizeOf4 rfl rfl (J (Qe (v := .bool _) isAgg4 rfl (H.get .here) hus) (J (Xj rfl) (Jm (Jg rfl rfl (Jg rfl rfl (Jg rfl rfl (Jp rfl (Jn (Jc rfl (Jk (Jr (J (Xg rfl rfl (Xc (by omega))) (Jm (Jn ?_)))))))))))))))))
    exact ⟨i + 1, by omega, by omega, rfl, rfl, rfl, rfl, rfl, (fun j a' hj hja hfr => by rcases Nat.lt_or_ge j i with h' | h'; exact hf j a' h' hja hfr; obtain rfl : j = i := (by omega); rw [h] at hja; cases hja; first | exact hg6 hfr.2 | (have h5 := hfr.1; rw [hau] at h5; cases h5)), H.pop (by assumption)⟩
  ·refine Js (Jr (J (Xp rfl rfl (by omega)) (Jn (Js (Jc rfl (Xr ?_))))))
   refine (if_pos rfl).mpr ?_
   refine Js (Jr (Ja (Ja (Jn (Je ?_)))))
   exact ⟨_, rfl, .inr ⟨fun a ha hfr => by obtain ⟨j, hj⟩ := List.mem_iff_getElem?.1 ha; exact hf j a (by have := (List.getElem?_eq_some_iff.1 hj).1; omega) hj hfr, rfl, ((H.pop (by assumption)).back hb).back hp⟩⟩
theorem add_yes {i : Nat} {a : Pl} (hp : w.heap[p]? = some (blk [sl b 0 N N] 209)) (hb : w.heap[b]? = some (blk (rows plc l) 211)) (hN : l.length = N) (hN2 : N ≤ 256) (hg : ∀ a ∈ l, a.g ≤ 1000001)
  (x : Vk) (h : l[i]? = some a) (hf : free a) (hlt : ∀ j a', j < i → l[j]? = some a' → ¬ free a') :
  Ret Tryz.prog 120 #[ptr p 0, vk x] w fun v w' => v = .tuple #[I (i + 256 * a.g : Nat), .bool true] ∧ Hp w [(b, blk (rows plc (l.set i ⟨x, a.g, true⟩)) 211)] w' := by
 refine (add_ret hp hb hN hN2 hg x).mono ?_
 rintro v w' (⟨i', a', h', hf', hlt', hv', H⟩ | ⟨hno, _⟩)
 ·rcases Nat.lt_trichotomy i i' with hh | rfl | hh
  ·exact (hlt' i a hh h hf).elim
  ·rw [h] at h'; cases h'; exact ⟨hv', H⟩
  ·exact (hlt i' a' hh h' hf').elim
 ·exact (hno a (List.mem_of_getElem? h) hf).elim
end
end Go.Proofs.YtlpmfldijgdcoaaGreatDoor.TabC
namespace Go.Proofs.YtlpmfldijgdcoaaGreatDoor.Caps
open Go Go.Proofs Fx TabC
open _root_.Go.Proofs.Tryz hiding t0
/-- a table's blocks -/
def tbB : List (Nat × Nat) → List (List Pl) → List (Nat × Obj)
 | q :: PB, t :: ts => (q.1, blk [sl q.2 0 32 32] 209) :: (q.2, blk (rows plc t) 211) :: tbB PB ts
 | _, _ => []
def ptrs (PB : List (Nat × Nat)) : List Value := PB.map fun q => ptr q.1 0
def spB (s bs cap : Nat) (sp : List Value) (PB : List (Nat × Nat)) (ts : List (List Pl)) : List (Nat × Obj) :=
 (s, blk [sl bs 0 PB.length cap] 164) :: (bs, blk (ptrs PB ++ sp) 165) :: tbB PB ts
/-- what holds of the tables -/
structure Inv (PB : List (Nat × Nat)) (ts : List (List Pl)) : Prop where
 len : ts.length = PB.length
 sz : ∀ t ∈ ts, t.length = 32
 gn : ∀ t ∈ ts, ∀ a ∈ t, a.g ≤ 1000001
/-- a space lies in the world -/
structure Sp (w : World) (s : Nat) (PB : List (Nat × Nat)) (ts : List (List Pl)) : Prop where
 ex : ∃ bs cap sp, w.heap[s]? = some (blk [sl bs 0 PB.length cap] 164) ∧ w.heap[bs]? = some (blk (ptrs PB ++ sp) 165)
 tp : ∀ (j : Nat) (q : Nat × Nat), PB[j]? = some q → w.heap[q.1]? = some (blk [sl q.2 0 32 32] 209)
 tb : ∀ (j : Nat) (q : Nat × Nat) (t : List Pl), PB[j]? = some q → ts[j]? = some t → w.heap[q.2]? = some (blk (rows plc t) 211)
 inv : Inv PB ts
theorem Sp.Yd {w w' : World} {s : Nat} {PB : List (Nat × Nat)} {ts : List (List Pl)} {L : List (Nat × Obj)} (h : Sp w s PB ts) (H : Hp w L w') (hn : ∀ p ∈ L, w.heap.size ≤ p.1) : Sp w' s PB ts := by
 obtain ⟨bs, cap, sp, h1, h2⟩ := h.ex
 exact ⟨⟨bs, cap, sp, H.Qc h1 hn, H.Qc h2 hn⟩, fun j q hq => H.Qc (h.tp j q hq) hn, fun j q t hq ht => H.Qc (h.tb j q t hq ht) hn, h.inv⟩
theorem tbB_mem : ∀ {PB : List (Nat × Nat)} {ts : List (List Pl)} {j : Nat} {q : Nat × Nat} {t : List Pl}, PB[j]? = some q → ts[j]? = some t →
  (q.1, blk [sl q.2 0 32 32] 209) ∈ tbB PB ts ∧ (q.2, blk (rows plc t) 211) ∈ tbB PB ts
 | q0 :: PB, t0 :: ts, 0, q, t, hq, ht => by
  cases hq; cases ht
  exact ⟨.head _, .tail _ (.head _)⟩
 | q0 :: PB, t0 :: ts, j + 1, q, t, hq, ht => by
  have := tbB_mem (PB := PB) (ts := ts) (j := j) (by simpa using hq) (by simpa using ht)
  exact ⟨.tail _ (.tail _ this.1), .tail _ (.tail _ this.2)⟩
 | [], _, _, _, _, hq, _ => by simp at hq
 | _ :: _, [], _, _, _, _, ht => by simp at ht
theorem Sp.of {w : World} {s bs cap : Nat} {sp : List Value} {PB : List (Nat × Nat)} {ts : List (List Pl)} (hh : ∀ p ∈ spB s bs cap sp PB ts, w.heap[p.1]? = some p.2) (hI : Inv PB ts) : Sp w s PB ts := by
 refine ⟨⟨bs, cap, sp, hh _ (.head _), hh _ (.tail _ (.head _))⟩, fun j q hq => ?_, fun j q t hq ht => hh _ (.tail _ (.tail _ (tbB_mem hq ht).2)), hI⟩
 have hj := (List.getElem?_eq_some_iff.1 hq).1
 rw [← hI.len] at hj
 exact hh _ (.tail _ (.tail _ (tbB_mem hq (List.getElem?_eq_getElem hj)).1))
theorem tbB_at : ∀ {PB : List (Nat × Nat)} {ts : List (List Pl)} {j : Nat} {q : Nat × Nat} {t : List Pl}, PB[j]? = some q → ts[j]? = some t →
  ∃ f, At (tbB PB ts) q.2 (blk (rows plc t) 211) f ∧ ∀ t', f (blk (rows plc t') 211) = tbB PB (ts.set j t')
 | q0 :: PB, t0 :: ts, 0, q, t, hq, ht => by
  cases hq; cases ht
  exact ⟨_, .there .here, fun _ => rfl⟩
 | q0 :: PB, t0 :: ts, j + 1, q, t, hq, ht => by
  obtain ⟨f, h1, h2⟩ := tbB_at (PB := PB) (ts := ts) (j := j) (by simpa using hq) (by simpa using ht)
  exact ⟨_, .there (.there h1), fun t' => by show _ :: _ :: f _ = _; rw [h2]; rfl⟩
 | [], _, _, _, _, hq, _ => by simp at hq
 | _ :: _, [], _, _, _, _, ht => by simp at ht
theorem at_left {L B : List (Nat × Obj)} {b : Nat} {o : Obj} {f} (h : At L b o f) : At (L ++ B) b o (fun o => f o ++ B) := by
 induction h with
 | here => exact .here
 | there _ ih => exact .there ih
/-- one table is turned -/
theorem seqSp {w0 w w' : World} {A B : List (Nat × Obj)} {s bs cap j : Nat} {sp : List Value} {PB : List (Nat × Nat)} {ts : List (List Pl)} {q : Nat × Nat} {t t' : List Pl} (H : Hp w0 (A ++ (spB s bs cap sp PB ts ++ B)) w) (hq : PB[j]? = some q) (ht : ts[j]? = some t)
  (H1 : Hp w [(q.2, blk (rows plc t') 211)] w') : Hp w0 (A ++ (spB s bs cap sp PB (ts.set j t') ++ B)) w' := by
 obtain ⟨f, h1, h2⟩ := tbB_at hq ht
 have h3 := H.seq H1 (Yh (.app A (at_left (B := B) (.there (.there h1)))) Yi)
 have e := h2 t'
 show Hp w0 (A ++ ((s, blk [sl bs 0 PB.length cap] 164) :: (bs, blk (ptrs PB ++ sp) 165) :: tbB PB (ts.set j t') ++ B)) w'
 rw [← e]
 exact h3
theorem Inv.set {PB : List (Nat × Nat)} {ts : List (List Pl)} (h : Inv PB ts) {j : Nat} {t' : List Pl} (h1 : t'.length = 32) (h2 : ∀ a ∈ t', a.g ≤ 1000001) : Inv PB (ts.set j t') :=
 ⟨by rw [List.length_set]; exact h.len, fun t ht => (List.mem_or_eq_of_mem_set ht).elim (h.sz t) (fun e => e ▸ h1), fun t ht => (List.mem_or_eq_of_mem_set ht).elim (h.gn t) (fun e => e ▸ h2)⟩
theorem spB_keys {B s bs cap : Nat} {sp : List Value} (h1 : B ≤ s) (h2 : B ≤ bs) : ∀ {PB : List (Nat × Nat)} {ts : List (List Pl)}, (∀ q ∈ PB, B ≤ q.1 ∧ B ≤ q.2) → ∀ p ∈ spB s bs cap sp PB ts, B ≤ p.1 := by
 intro PB ts hP
 have hk : ∀ (PB : List (Nat × Nat)) (ts : List (List Pl)), (∀ q ∈ PB, B ≤ q.1 ∧ B ≤ q.2) → ∀ p ∈ tbB PB ts, B ≤ p.1 := by
  intro PB
  induction PB with
  | nil => intro ts _ p hp; cases ts <;> cases hp
  | cons q PB ih =>
   intro ts hP p hp
   cases ts with
   | nil => cases hp
   | cons t ts =>
    have hq := hP q (.head _)
    rcases List.mem_cons.1 hp with rfl | hp
    ·exact hq.1
    ·rcases List.mem_cons.1 hp with rfl | hp
     ·exact hq.2
     ·exact ih ts (fun q hq => hP q (.tail _ hq)) p hp
 exact Qu h1 (Qu h2 (hk PB ts hP))
theorem tbB_snoc : ∀ {PB : List (Nat × Nat)} {ts : List (List Pl)} {q : Nat × Nat} {t : List Pl}, ts.length = PB.length → tbB (PB ++ [q]) (ts ++ [t]) = tbB PB ts ++ [(q.1, blk [sl q.2 0 32 32] 209), (q.2, blk (rows plc t) 211)]
 | [], [], q, t, _ => rfl
 | q0 :: PB, t0 :: ts, q, t, h => by
  show _ :: _ :: tbB (PB ++ [q]) (ts ++ [t]) = _
  rw [tbB_snoc (by simpa using h)]; rfl
 | [], _ :: _, _, _, h => by simp at h
 | _ :: _, [], _, _, h => by simp at h
/-- a table of nothing -/
def t0 : List Pl := List.replicate 32 newPl
theorem new_perm {α : Type} (a b : α) (M T : List α) (x : α) : (a :: b :: (M ++ (x :: T))).Perm (M ++ (x :: (T ++ [a, b]))) := by
 have h : (a :: b :: (M ++ (x :: T))).Perm ((M ++ (x :: T)) ++ [a, b]) := (List.perm_append_comm (l₁ := [a, b]) (l₂ := M ++ (x :: T)))
 rwa [List.append_assoc, List.cons_append] at h
theorem Bg {E : Nat} (h1 : 1 ≤ E) (h40 : E ≤ 40) (w : World) : Ret Tryz.prog 45 #[I E] w fun v w' => ∃ s bs cap sp PB, v = ptr s 0 ∧ PB.length = E ∧ w.heap.size ≤ s ∧ w.heap.size ≤ bs ∧ (∀ q ∈ PB, w.heap.size ≤ q.1 ∧ w.heap.size ≤ q.2) ∧
  Hp w (spB s bs cap sp PB (List.replicate E t0)) w' := by
 refine Qi (args := [_]) func45 rfl ntmps45 results45 (by simp) ?_
 have H := Hp.refl w
 have hO := Yo.nil w.heap.size 165 1
 (refine Js (Jr (Ja (Jn (Js (Jr (J (Qm (places := [(0, 1)]) (vs := [(.slice _ _ _)]) underlying164 typeInfo164 rfl rfl (by kernel_rfl) rfl rfl rfl) (Qb rfl (Xl (vs := [nilS]) H rfl rfl) ?_))))))); clear H; intro s w8 hs H)
 refine Ja (Jn (Js (Js (Jr (Jm (J (Mz (r := (E : Int)) rfl rfl (by omega)) (Ym rfl (Nn (r := (E : Int)) rfl rfl (by omega)) ?_)))))))
 refine Jm (Jn (Jb (Dp (fun (i : Nat) F w' => ∃ (v : Value) (M : List (Nat × Obj)) (PB : List (Nat × Nat)), i ≤ E ∧ PB.length = i ∧ (∀ q ∈ PB, w.heap.size ≤ q.1 ∧ w.heap.size ≤ q.2) ∧ (∀ p ∈ tbB PB (List.replicate i t0), w.heap.size ≤ p.1) ∧ F 3 = ptr s 0 ∧ F 8 = I E ∧ F 9 = I i ∧ Yo w.heap.size 165 1 v i (ptrs PB) M ∧ Hp w (M ++ ((s, blk [v] 164) :: tbB PB (List.replicate i t0))) w') (fun i => E - i) 0 ?_ ?_)))
 ·exact ⟨_, [], [], by omega, rfl, (fun _ h => nomatch h), Xu, rfl, rfl, rfl, hO, H⟩
 ·(clear H hO; rintro i F w1 ⟨v, M, PB, hi, hPl, hPk, hTk, h0, h1', h2, hO, H⟩; obtain ⟨av, cv, rfl⟩ := Yo.form hO; refine W_know3 h0 h1' h2 ?_)
  refine Js (Jr (J (Vb rfl rfl) (Jn (Js (Xo rfl (fun h28 => ?_) (fun h28 => ?_))))))
  ·refine Jk (Js (Jb ?_))
   (refine Xi (Kp [(s, blk [.slice av i cv] 164)]) (fun j => Nat.ble 8 j) (by kernel_rfl) H ?_; clear H; intro w32 H)
   (refine Am 0 rfl (H.kp.sub (by simp)) (Am 1 rfl (H.kp.sub (by simp)) (Az 2 rfl rfl (H.kp.sub (by simp)) (fun _ hC => Qf rfl) (Az 3 rfl rfl (H.kp.sub (by simp)) (fun _ hC => Qa (off' := 0) underlying164 rfl sizeOf162 (by decide) rfl rfl) (Az 4 rfl rfl (H.kp.sub (by simp)) (fun _ hC => Qe (v := .slice av i cv) isAgg162 rfl (hC.get .here) rfl) (Ao 5 (Qv rfl (.inl rfl) (Qw rfl call77 rfl) (TabC.Bg 32 _) (fun _ _ ⟨_, _, _, hR, hR1, hR2⟩ _ => (H.Zo hR (Qu hR1 (Qu hR2 Xu))).kp.sub (by simp)) ?_)))))); rintro _ w39 ⟨p, b, rfl, H1, hp, hb⟩; rw [show szOf 32 = 32 from rfl] at H1; have hsz := H.size; replace H := H.Zo H1 (Qu hp (Qu hb Xu)); rw [List.cons_append, List.cons_append, List.nil_append] at H; replace hp := Nat.le_trans hsz hp; replace hb := Nat.le_trans hsz hb; clear H1 hsz)
   (refine Ao 6 (Xd rfl (.inl rfl) (Xk (vs := [ptr p 0]) H underlying162 sizeOf165 zeroValue165 rfl rfl (by decide) rfl rfl (by simp [Value.oneCell'])) (fun _ _ _ H => kC) ?_); clear H; intro c17 w41 hc17 H)
   (refine Ao 7 (WI_effm rfl (.inl rfl) (Yx (len := i) (news := [ptr p 0]) (m := 1) H (.there (.there (.there .here))) hO underlying162 typeInfo165 rfl rfl rfl rfl rfl rfl (Ut underlying162 (H.get .here) rfl) (by simp; omega) (by simp [Tryz.t165]; omega)) (fun _ _ H => kC) ?_); clear H hO; intro vN MN w43 hO H; replace H := H.pop (by assumption); obtain ⟨aN, cN, rfl⟩ := Yo.form hO)
   refine Ao 8 ?_
   refine Xv rfl (.inl rfl) (Qf rfl) kC ?_
   refine Ao 9 ?_
   refine Xv rfl (.inl rfl) (Qa (off' := 0) underlying164 rfl sizeOf162 (by decide) rfl rfl) kC ?_
   (refine Ao 10 (Xb rfl (.inl rfl) (Qz (v := .slice aN (i + 1) cN) H sizeOf162 rfl rfl rfl (.there (.there (.app _ .here))) (by simp)) (fun _ _ h => absurd h (by decide)) ?_); clear H; intro w49 H)
   refine Ad (Jr (J (Xg rfl rfl (Xc (by omega))) (Jm (Jn ?_))))
   exact ⟨i + 1, by omega, _, MN, PB ++ [(p, b)], by omega, (by rw [List.length_append, hPl]; rfl), (fun q hq => (List.mem_append.1 hq).elim (hPk q) (fun h => by rw [List.mem_singleton.1 h]; exact ⟨hp, hb⟩)), (by rw [List.replicate_succ', tbB_snoc (by simp [hPl])]; exact Yv hTk (Qu hp (Qu hb Xu))), rfl, rfl, rfl, (by rw [show ptrs (PB ++ [(p, b)]) = ptrs PB ++ [ptr p 0] from by simp [ptrs]]; exact hO), (by rw [List.replicate_succ', tbB_snoc (by simp [hPl])]; exact H.perm (new_perm _ _ _ _ _))⟩
  ·refine Xr ?_
   refine (if_pos rfl).mpr ?_
   refine Js (Jr (Jm (Ja (Jn (Je ?_)))))
   (obtain rfl : i = E := (by omega); obtain ⟨bs, cap, sp, hv, hbs, hM, hsp, hcap⟩ := Yo.pos hO (by omega); cases hv; subst hM; subst hPl; exact ⟨_, rfl, s, bs, _, sp, PB, rfl, rfl, hs, hbs, hPk, H.swap2⟩)
end Go.Proofs.YtlpmfldijgdcoaaGreatDoor.Caps
namespace Go.Proofs.YtlpmfldijgdcoaaGreatDoor.Caps
open Go Go.Proofs Fx TabC Tryz
/-- a cap -/
def cp (o r lo n re rn : Int) : Vk := ⟨[I o, I r, I lo, I n, I re, I rn], rfl, by simp [Value.oneCell']⟩
theorem b_andNot {a b : Nat} (ha : a < 8) (hb : b < 8) : Dn .andNot .i64 (a : Int) (b : Int) = ((a &&& (7 - b) : Nat) : Int) := by
 have : ∀ a b : Fin 8, Dn .andNot .i64 (a.val : Int) (b.val : Int) = ((a.val &&& (7 - b.val) : Nat) : Int) := by decide
 exact this ⟨a, ha⟩ ⟨b, hb⟩
theorem ptrs_get {PB : List (Nat × Nat)} {sp : List Value} {j : Nat} {q : Nat × Nat} (h : PB[j]? = some q) : (ptrs PB ++ sp)[j]? = some (ptr q.1 0) := by
 have hj := (List.getElem?_eq_some_iff.1 h).1
 rw [List.getElem?_append_left (by simpa [ptrs] using hj), ptrs, List.getElem?_map, h]; rfl
theorem Ux (n : Int) (w : World) : Ret Tryz.prog 80 #[I n] w fun v w' => v = .bool (decide (0 ≤ n ∧ n ≤ 65536)) ∧ Hp w [] w' := by
 refine Qi (args := [_]) func80 rfl ntmps80 results80 (by simp) ?_
 have H := Hp.refl w
 refine Js (Jr (Ja (Jn (Js (Jr (Jm (J (Mi rfl rfl) (Jm ?_))))))))
 apply Xs 3 5 8 [(6, 8)] H
 case hc => rfl
 case h1 =>
  intro h10
  refine Jt rfl rfl (Jm (Jt rfl rfl (J (R_le rfl rfl) (Jq rfl (Jn ?_)))))
  exact ⟨kS, rfl, H⟩
 case h0 =>
  intro h10
  refine Jg rfl rfl (Jg rfl rfl (Jp rfl (Jn ?_)))
  exact ⟨kS, rfl, H⟩
 case h2 =>
  (clear H; intro E10 w10 H)
  refine Ja (Jn (Je ?_))
  exact ⟨_, rfl, congrArg Value.bool (decide_eq_decide.2 (by omega)), H⟩
section
variable {w : World} {s : Nat} {PB : List (Nat × Nat)} {ts : List (List Pl)}
theorem is_ret (hS : Sp w s PB ts) (n : Int) : Ret Tryz.prog 81 #[ptr s 0, I n] w fun v w' => v = .bool (decide (0 ≤ n ∧ n < PB.length)) ∧ Hp w [] w' := by
 obtain ⟨bs, cap, sp, hs, hbs⟩ := hS.ex
 refine Qi (args := [_, _]) func81 rfl ntmps81 results81 (by simp) ?_
 have H := Hp.refl w
 refine Js (Jr (Ja (Jn (Js (Jr (Jm (J (Mi rfl rfl) (Jm ?_))))))))
 apply Xs 8 7 15 [(8, 15)] H
 case hc => rfl
 case h1 =>
  intro h10
  refine Jt rfl rfl (Jm (Jt rfl rfl (Jm (Jt rfl rfl (Ji rfl (Jt rfl rfl (Jf 0 underlying164 rfl sizeOf162 rfl rfl (Jt rfl rfl (J (Qe (v := sl bs 0 PB.length cap) isAgg162 rfl (H.block hs (by simp)) rfl) (Jt rfl rfl (J (Qh underlying162 rfl) (Jt rfl rfl (J (Vb rfl rfl) (Jq rfl (Jn ?_)))))))))))))))
  exact ⟨kS, rfl, H⟩
 case h0 =>
  intro h10
  refine Jg rfl rfl (Jg rfl rfl (Jg rfl rfl (Jg rfl rfl (Jg rfl rfl (Jg rfl rfl (Jg rfl rfl (Jp rfl (Jn ?_))))))))
  exact ⟨kS, rfl, H⟩
 case h2 =>
  (clear H; intro E10 w10 H)
  refine Ja (Jn (Je ?_))
  exact ⟨_, rfl, congrArg Value.bool (decide_eq_decide.2 (by omega)), H⟩
theorem add_yes {j i : Nat} {q : Nat × Nat} {t : List Pl} {a : Pl} (hS : Sp w s PB ts) (hq : PB[j]? = some q) (ht : ts[j]? = some t) (x : Vk) (h : t[i]? = some a) (hf : free a) (hl : ∀ k a', k < i → t[k]? = some a' → ¬ free a') :
  Ret Tryz.prog 82 #[ptr s 0, I j, vk x] w fun v w' => v = .tuple #[I (i + 256 * a.g : Nat), I 0] ∧ Hp w [(q.2, blk (rows plc (t.set i ⟨x, a.g, true⟩)) 211)] w' := by
 obtain ⟨bs, cap, sp, hs, hbs⟩ := hS.ex
 have htp := hS.tp j q hq
 have htb := hS.tb j q t hq ht
 have hj := (List.getElem?_eq_some_iff.1 hq).1
 have hsz := hS.inv.sz t (List.mem_of_getElem? ht)
 have hgn := hS.inv.gn t (List.mem_of_getElem? ht)
 refine Qi (args := [_, _, _]) func82 rfl ntmps82 results82 (by simp) ?_
 have n1 : q.1 ≠ q.2 := Vg htp htb (by simp)
 have n2 : bs ≠ q.1 := Vg hbs htp (by simp)
 have n3 : bs ≠ q.2 := Vg hbs htb (by simp)
 have n4 : s ≠ bs := Vg hs hbs (by simp)
 have n5 : s ≠ q.1 := Vg hs htp (by simp)
 have n6 : s ≠ q.2 := Vg hs htb (by simp)
 have H := (((Hp.focus0 htb).focus htp (by simpa using n1)).focus hbs (by simpa using ⟨n2, n3⟩)).focus hs (by simpa using ⟨n4, n5, n6⟩)
 (refine Js (Jr (Qb rfl (E_boxK (q := x) H rfl) ?_)); clear H; intro c5 w3 hc5 H)
 refine Ja (Ja (Jn (Js ?_)))
 (refine Xi (Kp [(c5, blk x.c 125), (s, blk [sl bs 0 PB.length cap] 164), (bs, blk (ptrs PB ++ sp) 165)]) (fun _ => false) (by kernel_rfl) H ?_; clear H; intro w8 H)
 (refine Am 0 rfl (H.kp.sub (by simp)) (Az 1 rfl rfl (H.kp.sub (by simp)) (fun _ hC => Qf rfl) (Az 2 rfl rfl (H.kp.sub (by simp)) (fun _ hC => Qa (off' := 0) underlying164 rfl sizeOf162 (by decide) rfl rfl) (Az 3 rfl rfl (H.kp.sub (by simp)) (fun _ hC => Qe (v := sl bs 0 PB.length cap) isAgg162 rfl (hC.get (.there .here)) rfl) (Am 4 rfl (H.kp.sub (by simp)) (Az 5 rfl rfl (H.kp.sub (by simp)) (fun _ hC => Qj (off' := j) underlying162 sizeOf165 rfl rfl (by omega) (by omega) (by omega)) (Az 6 rfl rfl (H.kp.sub (by simp)) (fun _ hC => Qe (v := ptr q.1 0) isAgg165 rfl (hC.get (.there (.there .here))) (ptrs_get hq)) (Az 7 rfl rfl (H.kp.sub (by simp)) (fun _ hC => R_loadK (q := x) rfl (hC.get .here)) (Ao 8 (Qv rfl (.inl rfl) (Qw rfl call120 rfl) (TabC.add_yes (H.get (.there (.there (.there .here)))) (H.get (.there (.there (.there (.there .here))))) hsz (by decide) hgn x h hf hl) (fun _ _ hR _ => (H.seq hR.2 (Yh (.there (.there (.there (.there .here)))) Yi)).kp.sub (by simp)) ?_))))))))); rintro _ w18 ⟨rfl, H1⟩; replace H := H.seq H1 (Yh (.there (.there (.there (.there .here)))) Yi); clear H1)
 refine Am 9 rfl (H.kp.sub (by simp)) (Az 10 rfl rfl (H.kp.sub (by simp)) (fun _ hC => Qs rfl rfl) (Az 11 rfl rfl (H.kp.sub (by simp)) (fun _ hC => Qs rfl rfl) (Aa 12 rfl (H.kp.sub (by simp)) (Aa 13 rfl (H.kp.sub (by simp)) (Ad (Js (Js (Jr (Jm (J (Xj rfl) (Jn (Jc rfl (Jk (Js (Jr (Jm (Ja (Ja (Jn (Je ?_))))))))))))))))))))
 exact ⟨_, rfl, rfl, (((H.pop (by assumption)).back hs).back hbs).back htp⟩
theorem get_yes {j i : Nat} {q : Nat × Nat} {t : List Pl} {a : Pl} (hS : Sp w s PB ts) (hq : PB[j]? = some q) (ht : ts[j]? = some t) (h : t[i]? = some a) (hu : a.u = true) :
  Ret Tryz.prog 152 #[ptr s 0, I j, I (i + 256 * a.g : Nat)] w fun v w' => v = .tuple #[vk a.v, I 0] ∧ Hp w [] w' := by
 obtain ⟨bs, cap, sp, hs, hbs⟩ := hS.ex
 have htp := hS.tp j q hq
 have htb := hS.tb j q t hq ht
 have hj := (List.getElem?_eq_some_iff.1 hq).1
 have hsz := hS.inv.sz t (List.mem_of_getElem? ht)
 have hgn := hS.inv.gn t (List.mem_of_getElem? ht)
 refine Qy (args := [_, _, _]) func152 rfl ntmps152 results152 (by simp) ?_
 have H := Hp.refl w
 (refine Js (Jr (Qb rfl (E_allocK H) ?_)); clear H; intro c3 w3 hc3 H)
 (refine Ja (Jn (Js (Js (Jr (Jm (Jm (Jy rfl call81 rfl (is_ret (hS.Yd H kYs) _) ?_))))))); rintro _ w11 ⟨rfl, H1⟩; rw [decide_eq_true (show 0 ≤ (j : Int) ∧ (j : Int) < PB.length by omega)]; replace H := H.seq0 H1; clear H1)
 (refine J (Xj rfl) (Jn (Jc rfl (Jk (Js (Jr (Jm (Ji rfl (Jf 0 underlying164 rfl sizeOf162 rfl rfl (J (Qe (v := sl bs 0 PB.length cap) isAgg162 rfl (H.Qc hs kYs) rfl) (Jm (J (Qj underlying162 sizeOf165 rfl rfl (by omega) (by omega) Bz) (J (Qe (v := ptr q.1 0) isAgg165 rfl (H.Qc hbs kYs) (ptrs_get hq)) (Jm (Jz rfl call193 rfl (TabC.get_yes (H.Qc htp kYs) (H.Qc htb kYs) hsz (by decide) h (hgn a (List.mem_of_getElem? h)) hu) H ?_)))))))))))))); intro w26 H)
 (refine Jm (Jx rfl rfl (Jx rfl rfl (Qb rfl (E_allocK H) ?_))); clear H; intro c30 w30 hc30 H)
 (refine Qd rfl (E_storeK H rfl rfl .here) ?_; clear H; intro w31 H)
 (refine Ja (Jn (Js (Js (Jr (Jm (J (Xj rfl) (Jn (Jc rfl (Jk (Js (Jr (J (R_loadK rfl (H.get .here)) (Qd rfl (E_storeK H rfl rfl (.there .here)) ?_))))))))))))); clear H; intro w45 H)
 refine Ja (Jn (Je ?_))
 exact ⟨_, ⟨_, _, rfl, ldK (H.get (.there .here)), rfl⟩, rfl, H.none kYs⟩
theorem Nr {j i r : Nat} {q : Nat × Nat} {t : List Pl} {a : Pl} {o lo n re rn : Int} (hS : Sp w s PB ts) (hq : PB[j]? = some q) (ht : ts[j]? = some t) (hr : r < 8) (hlo : 0 ≤ lo ∧ lo ≤ 65536) (hn : 0 ≤ n ∧ n ≤ 65536) (h : t[i]? = some a) (hf : free a) (hl : ∀ k a', k < i → t[k]? = some a' → ¬ free a') :
  Ret Tryz.prog 52 #[ptr s 0, I j, vk (cp o r lo n re rn)] w fun v w' => v = .tuple #[I (i + 256 * a.g : Nat), I 0] ∧ Hp w [(q.2, blk (rows plc (t.set i ⟨cp o r lo n 0 0, a.g, true⟩)) 211)] w' := by
 have hj := (List.getElem?_eq_some_iff.1 hq).1
 have htb := hS.tb j q t hq ht
 refine Qi (args := [_, _, _]) func52 rfl ntmps52 results52 (by simp) ?_
 have H := Hp.refl w
 (refine Js (Jr (Qb rfl (E_boxK (q := cp o r lo n re rn) H rfl) ?_)); clear H; intro c5 w3 hc5 H)
 (refine Ja (Ja (Jn (Js (Jr (Ja (Jn (Js (Js (Jr (Jm (Jm (Jy rfl call81 rfl (is_ret (hS.Yd H kYs) _) ?_)))))))))))); rintro _ w16 ⟨rfl, H1⟩; rw [decide_eq_true (show 0 ≤ (j : Int) ∧ (j : Int) < PB.length by omega)]; replace H := H.seq0 H1; clear H1)
 (refine J (Xj rfl) (Jm (Jt rfl rfl (Jf 1 underlying125 rfl sizeOf3 rfl rfl (Jt rfl rfl (Jl isAgg3 rfl (H.get .here) rfl (Jt rfl rfl (J (Zb (r := 0) rfl rfl (by simp) ((b_andNot hr (b := 7) (by decide)).trans (by simp))) (Jt rfl rfl (J (Yl rfl rfl (by omega)) (Jp rfl (Jm (Jt rfl rfl (Jm (Jt rfl rfl (Jf 2 underlying125 rfl sizeOf3 rfl rfl (Jt rfl rfl (Jl isAgg3 rfl (H.get .here) rfl (Jt rfl rfl (Jy rfl call80 rfl (Ux lo _) ?_))))))))))))))))))); rintro _ w36 ⟨rfl, H1⟩; rw [decide_eq_true hlo]; replace H := H.seq0 H1; clear H1)
 (refine Jt rfl rfl (J (Xj rfl) (Jp rfl (Jm (Jt rfl rfl (Jm (Jt rfl rfl (Jf 3 underlying125 rfl sizeOf3 rfl rfl (Jt rfl rfl (Jl isAgg3 rfl (H.get .here) rfl (Jt rfl rfl (Jy rfl call80 rfl (Ux n _) ?_))))))))))); rintro _ w48 ⟨rfl, H1⟩; rw [decide_eq_true hn]; replace H := H.seq0 H1; clear H1)
 (refine Jt rfl rfl (J (Xj rfl) (Jp rfl (Jn (Jc rfl (Jk (Js (Jr (J (Qm (places := [(0, 1), (1, 1)]) (vs := [I 0, I 0]) underlying123 typeInfo123 rfl rfl (by kernel_rfl) rfl rfl rfl) (Jf 4 underlying125 rfl sizeOf123 rfl rfl (Qd rfl (Qg (vs := [(.int _ _), (.int _ _)]) H sizeOf123 rfl rfl (by simp [Value.oneCell']) .here (Nat.le_of_ble_eq_true rfl)) ?_)))))))))); clear H; intro w59 H)
 (refine Jn (Js (Jr (Jm (Jm (J (R_loadK (q := cp o r lo n 0 0) rfl (H.get .here)) (Jy rfl call82 rfl (add_yes (hS.Yd H kYs) hq ht (cp o r lo n 0 0) h hf hl) ?_)))))); rintro _ w66 ⟨rfl, H1⟩; replace H := H.Bx htb kYs H1; clear H1)
 refine Jx rfl rfl (Jx rfl rfl (Ja (Ja (Jn (Je ?_)))))
 exact ⟨_, rfl, rfl, H.pop2 (by assumption)⟩
end
end Go.Proofs.YtlpmfldijgdcoaaGreatDoor.Caps
namespace Go.Proofs.YtlpmfldijgdcoaaGreatDoor.Caps
open Go Go.Proofs Fx TabC Tryz
section
variable {w : World} {s : Nat} {PB : List (Nat × Nat)} {ts : List (List Pl)} {j i g0 : Nat} {q : Nat × Nat} {t : List Pl} {o r lo n re rn : Int}
end
end Go.Proofs.YtlpmfldijgdcoaaGreatDoor.Caps
namespace Go.Proofs.YtlpmfldijgdcoaaGreatDoor.Codec
open Go Go.Proofs Fx Tryz
theorem Ze {xs : List UInt8} {w : World} {l : Value} (hl : RdS w l (xs.map U)) (hb : xs.length ≤ 1000000) :
  Ret Tryz.prog 65 #[l] w fun v w' => ∃ M, Yo w.heap.size 5 1 v xs.length (xs.map U) M ∧ Hp w M w' := by
 refine Qi (args := [_]) func65 rfl ntmps65 results65 (by simp) ?_
 have H := Hp.refl w
 obtain ⟨ao, ca, rfl, hca, hra⟩ := id hl
 simp only [List.length_map] at hl ⊢
 cases ao with
 | none =>
  obtain rfl : xs = [] := by
   rcases hra with h | ⟨_, _, h, _⟩
   ·simpa using h
   ·cases h
  refine Js (Jr (Ja (Jn (Js (Js (Jr (Jm (J (R_eq_nils underlying36 rfl rfl) (Jn (Jd rfl (Js (Jr (Ja (Jn (Je ?_)))))))))))))))
  exact ⟨_, rfl, [], Yo.nil _ _ _, H⟩
 | some a =>
  (refine Js (Jr (Ja (Jn (Js (Js (Jr (Jm (J (R_eq_sl underlying36 rfl rfl) (Jn (Jc rfl (Jk (Js (Jr (Qb rfl (Du (vs := []) H underlying36 sizeOf5 zeroValue5 rfl rfl (by decide) rfl rfl) ?_)))))))))))))); clear H; intro b15 w15 hb15 H)
  (refine Jm (Ve rfl (Yx H .one (Yo.new (xs := []) (sp := []) (by assumption) rfl rfl (by omega)) underlying36 typeInfo5 rfl rfl rfl rfl rfl rfl ((hl.Yd H (Qu (by assumption) Xu)).src underlying36 (by simp [Value.oneCell'])) (by simp; omega) (by simp [Tryz.t5]; omega)) ?_); clear H; intro vN MN w17 hO H; rw [List.length_map, Nat.zero_add, List.nil_append] at hO; rw [List.append_nil] at H)
  refine Ja (Jn (Je ?_))
  exact ⟨_, rfl, MN, hO, H⟩
end Go.Proofs.YtlpmfldijgdcoaaGreatDoor.Codec
namespace Go.Proofs.YtlpmfldijgdcoaaGreatDoor.Mem
open Go Go.Proofs Fx Tryz
/-- how many bytes so many frames have -/
def szOf (f : Int) : Nat := (64 * min (max f 0) 256).toNat
theorem Bg (f : Int) (w : World) : Ret Tryz.prog 44 #[I f] w fun v w' => ∃ p b, v = ptr p 0 ∧
  Hp w [(p, blk [sl b 0 (szOf f) (szOf f)] 161), (b, blk (List.replicate (szOf f) (.int .u8 0)) 5)] w' ∧ w.heap.size ≤ p ∧ w.heap.size ≤ b := by
 refine Qi (args := [_]) func44 rfl ntmps44 results44 (by simp) ?_
 have H := Hp.refl w
 refine Js (Jr (Ja (Jn (Js (Jr (Jm (J (Mz rfl rfl rfl) (Ym rfl (Nn rfl rfl rfl) ?_))))))))
 (refine J (Bs rfl rfl (Xc (by omega))) (Qb rfl (Vf H underlying36 sizeOf5 typeInfo5 zeroValue5 rfl rfl rfl (by omega) (by omega) (by omega) (by simp only [Tryz.t5]; omega)) ?_); clear H; intro b11 w11 hb11 H)
 (refine J (Nb (vs := [(.slice _ _ _)]) rfl rfl) (Qb rfl (Xl (v := (.agg (List.toArray [(.slice _ _ _)]))) H rfl rfl) ?_); clear H; intro b13 w13 hb13 H)
 refine Ja (Jn (Je ?_))
 exact ⟨_, rfl, _, _, rfl, H, by assumption, by assumption⟩
section
variable {w : World} {p b : Nat} {xs : List UInt8} {N : Nat}
theorem in_yes (at_ n : Nat) (hp : w.heap[p]? = some (blk [sl b 0 N N] 161)) (hx : xs.length = N) (hN : xs.length ≤ 16384) (h : at_ + n ≤ xs.length) :
  Ret Tryz.prog 93 #[ptr p 0, I at_, I n] w fun v w' => v = .bool true ∧ Hp w [] w' := by
 subst hx
 refine Qi (args := [_, _, _]) func93 rfl ntmps93 results93 (by simp) ?_
 have H := Hp.refl w
 refine Js (Jr (Ja (Jn (Js (Jr (Jm (J (R_ge_t rfl rfl (by omega)) (Jm (Jt rfl rfl (Jm (Jt rfl rfl (J (R_ge_t rfl rfl (by omega)) (Jq rfl (Jm (Jt rfl rfl (Jm (Jt rfl rfl (Jm (Jt rfl rfl (Ji rfl (Jt rfl rfl (Jf 0 underlying161 rfl sizeOf36 rfl rfl (Jt rfl rfl (Jl isAgg36 rfl (H.block hp (by simp)) rfl (Jt rfl rfl (J (Qh underlying36 rfl) (Jt rfl rfl (J (R_le_t rfl rfl (by omega)) (Jq rfl (Jm (Jt rfl rfl (Jm (Jt rfl rfl (Jm (Jt rfl rfl (Ji rfl (Jt rfl rfl (Jf 0 underlying161 rfl sizeOf36 rfl rfl (Jt rfl rfl (Jl isAgg36 rfl (H.block hp (by simp)) rfl (Jt rfl rfl (J (Qh underlying36 rfl) (Jt rfl rfl (Jm (Jt rfl rfl (J (Vt rfl rfl (Xc (by omega))) (Jt rfl rfl (J (R_le_t rfl rfl (by omega)) (Jq rfl (Ja (Jn (Je ?_))))))))))))))))))))))))))))))))))))))))))))))))))))
 exact ⟨_, rfl, rfl, H⟩
theorem load_yes (at_ n : Nat) (hp : w.heap[p]? = some (blk [sl b 0 N N] 161)) (hb : w.heap[b]? = some (blk (xs.map U) 5)) (hx : xs.length = N) (hN : xs.length ≤ 16384) (h : at_ + n ≤ xs.length) :
  Ret Tryz.prog 60 #[ptr p 0, I at_, I n] w fun v w' => ∃ u M, v = .tuple #[u, I 0] ∧ Yo w.heap.size 5 1 u n (((xs.drop at_).take n).map U) M ∧ Hp w M w' := by
 subst hx
 refine Qi (args := [_, _, _]) func60 rfl ntmps60 results60 (by simp) ?_
 have H := Hp.refl w
 have hl : ((xs.drop at_).take n).length = n := by simp; omega
 by_cases he : at_ < xs.length
 ·(refine Js (Jr (Ja (Ja (Jn (Js (Js (Jr (Jm (Jm (Jm (Jz rfl call93 rfl (in_yes _ _ hp rfl hN h) H ?_))))))))))); intro w12 H)
  refine J (Xj rfl) (Jn (Jc rfl (Jk (Js (Jr (Jm (Ji rfl (Jf 0 underlying161 rfl sizeOf36 rfl rfl (Jl isAgg36 rfl (H.block hp (by simp)) rfl (Jm (Jm (Jm (J (Xg rfl rfl (Xc (by omega))) (J (Bq (off' := at_) underlying36 sizeOf5 rfl (.some rfl) (.some rfl) (by omega) (by omega) (by omega) (by omega) (by omega) (by simp)) ?_))))))))))))))
  (rw [show ((at_ : Int) + n - at_).toNat = n from by omega, show ((xs.length : Int) - at_).toNat = xs.length - at_ from by omega]; refine Vl rfl (Qw rfl call65 rfl) (Codec.Ze (xs := (xs.drop at_).take n) (RdS.blk (H.block hb (by simp)) (by simp) (by simp; omega) (by omega)) (by omega)) ?_; rintro u w28 ⟨M, hO, H1⟩; rw [hl] at hO; have h28 := H.Yn hO H1; clear H H1 hO; obtain ⟨hO, H⟩ := h28; rw [List.append_nil] at H)
  refine Ja (Ja (Jn (Je ?_)))
  exact ⟨_, rfl, u, M, rfl, hO, H⟩
 ·obtain rfl : n = 0 := by omega
  (refine Js (Jr (Ja (Ja (Jn (Js (Js (Jr (Jm (Jm (Jm (Jz rfl call93 rfl (in_yes _ _ hp rfl hN h) H ?_))))))))))); intro w12 H)
  (refine J (Xj rfl) (Jn (Jc rfl (Jk (Js (Jr (Jm (Ji rfl (Jf 0 underlying161 rfl sizeOf36 rfl rfl (Jl isAgg36 rfl (H.block hp (by simp)) rfl (Jm (Jm (Jm (J (Xg rfl rfl (Xc (by omega))) (J (R_sliceE underlying36 sizeOf5 rfl (.some rfl) (.some rfl) (by omega) (by omega)) (Jy rfl call65 rfl (Codec.Ze (xs := (xs.drop at_).take 0) (RdS.blk (H.block hb (by simp)) (by simp) (by simp) (by omega)) (by omega)) ?_))))))))))))))); rintro u w28 ⟨M, hO, H1⟩; rw [hl] at hO; have h28 := H.Yn hO H1; clear H H1 hO; obtain ⟨hO, H⟩ := h28; rw [List.append_nil] at H)
  refine Ja (Ja (Jn (Je ?_)))
  exact ⟨_, rfl, u, M, rfl, hO, H⟩
/-- bytes with others put in from a place on -/
def put (xs ys : List UInt8) (at_ : Nat) : List UInt8 := xs.take at_ ++ ys ++ xs.drop (at_ + ys.length)
theorem store_yes {l : Value} {ys : List UInt8} (at_ : Nat) (hp : w.heap[p]? = some (blk [sl b 0 N N] 161)) (hb : w.heap[b]? = some (blk (xs.map U) 5)) (hx : xs.length = N) (hN : xs.length ≤ 16384) (hl : RdS w l (ys.map U))
  (h : at_ + ys.length ≤ xs.length) :
  Ret Tryz.prog 151 #[ptr p 0, I at_, l] w fun v w' => v = I 0 ∧ Hp w [(b, blk ((put xs ys at_).map U) 5)] w' := by
 subst hx
 refine Qi (args := [_, _, _]) func151 rfl ntmps151 results151 (by simp) ?_
 have H := Hp.refl w
 obtain ⟨ao, ca, rfl, hca, hra⟩ := id hl
 simp only [List.length_map] at hl ⊢
 by_cases he : at_ < xs.length
 ·(refine Js (Jr (Ja (Jn (Js (Js (Jr (Jm (Jm (Jm (J (Qh underlying36 rfl) (Jz rfl call93 rfl (in_yes _ _ hp rfl hN h) H ?_))))))))))); intro w12 H)
  refine J (Xj rfl) (Jn (Jc rfl (Jk (Js ?_))))
  (have H0 := H; replace H := H.focus (H.block hb (by simp)) (by simp); refine Qk ?_)
  (refine Jm (Ji rfl (Jf 0 underlying161 rfl sizeOf36 rfl rfl (Jl isAgg36 rfl (H0.block hp (by simp)) rfl (Jm (Ym rfl (Bq (off' := at_) underlying36 sizeOf5 rfl (.some rfl) .none (by omega) (by omega) (by omega) (by omega) (by omega) (by simp)) ?_))))); rw [show ((xs.length : Int) - at_).toNat = xs.length - at_ from by omega])
  (refine Jm (Ve rfl (E_copy H .here underlying36 sizeOf5 rfl rfl ((hl.same H0).csrc) (by simp; omega) (by simp [Value.oneCell'])) ?_); clear H; rintro _ _ w26 rfl H; rw [List.length_map, Nat.min_eq_left (by omega), List.take_of_length_le (l := ys.map U) (by simp; omega), ← List.map_take, ← List.map_drop, ← List.map_append, ← List.map_append] at H)
  refine Jn (Js (Jr (Ja (Jn (Je ?_)))))
  exact ⟨_, rfl, rfl, H⟩
 ·obtain rfl : ys = [] := List.length_eq_zero_iff.1 (by omega)
  have hput : put xs [] at_ = xs := by unfold put; simp
  (refine Js (Jr (Ja (Jn (Js (Js (Jr (Jm (Jm (Jm (J (Qh underlying36 rfl) (Jz rfl call93 rfl (in_yes _ _ hp rfl hN h) H ?_))))))))))); intro w12 H)
  refine J (Xj rfl) (Jn (Jc rfl (Jk (Js (Jr (Jm (Ji rfl (Jf 0 underlying161 rfl sizeOf36 rfl rfl (Jl isAgg36 rfl (H.block hp (by simp)) rfl (Jm (J (R_sliceE underlying36 sizeOf5 rfl (.some rfl) .none (by omega) (by omega)) (Jm (J (R_copy0 underlying36 sizeOf5 rfl rfl ((hl.same H).csrc) (.inl rfl)) (Jn (Js (Jr (Ja (Jn (Je ?_)))))))))))))))))))
  exact ⟨_, rfl, rfl, by rw [hput]; exact H.focus (H.block hb (by simp)) (by simp)⟩
theorem size_ret (hp : w.heap[p]? = some (blk [sl b 0 N N] 161)) (hx : xs.length = N) :
  Ret Tryz.prog 78 #[ptr p 0] w fun v w' => v = I xs.length ∧ Hp w [] w' := by
 subst hx
 refine Qi (args := [_]) func78 rfl ntmps78 results78 (by simp) ?_
 have H := Hp.refl w
 refine Js (Jr (Ja (Jn (Js (Jr (Jm (Ji rfl (Jf 0 underlying161 rfl sizeOf36 rfl rfl (Jl isAgg36 rfl (H.block hp (by simp)) rfl (J (Qh underlying36 rfl) (Ja (Jn (Je ?_)))))))))))))
 exact ⟨_, rfl, rfl, H⟩
end
end Go.Proofs.YtlpmfldijgdcoaaGreatDoor.Mem
namespace Go.Proofs.YtlpmfldijgdcoaaGreatDoor.Reg
open Go Go.Proofs Fx TabC Caps Tryz
theorem Bg (m s : Nat) (w : World) : Ret Tryz.prog 47 #[ptr m 0, ptr s 0] w fun v w' => ∃ rr, v = ptr rr 0 ∧ w.heap.size ≤ rr ∧ Hp w [(rr, blk [ptr m 0, ptr s 0, nilS] 142)] w' := by
 refine Qi (args := [_, _]) func47 rfl ntmps47 results47 (by simp) ?_
 have H := Hp.refl w
 (refine Js (Jr (Ja (Jn (Js (Jr (Jm (Jm (J (Qm (places := [(0, 1), (1, 1), (2, 1)]) (vs := [(.pointer _), (.pointer _), (.slice _ _ _)]) underlying142 typeInfo142 rfl rfl (by kernel_rfl) rfl rfl rfl) (Qb rfl (Xl (vs := [ptr m 0, ptr s 0, nilS]) H rfl rfl) ?_))))))))); clear H; intro rr w10 hrr H)
 refine Ja (Jn (Je ?_))
 exact ⟨_, rfl, _, rfl, hrr, H⟩
section
variable {w : World} {rr m mb s N : Nat} {xs : List UInt8}
theorem add_ret (hr : w.heap[rr]? = some (blk [ptr m 0, ptr s 0, nilS] 142)) (hm : w.heap[m]? = some (blk [sl mb 0 N N] 161)) (hx : xs.length = N) (hN : N ≤ 16384) {lo n : Int} (hlo : 0 ≤ lo) (hn : 0 ≤ n) (h : lo + n ≤ N) :
  Ret Tryz.prog 49 #[ptr rr 0, I lo, I n] w fun v w' => ∃ a ca sp, v = .tuple #[I 0, I 0] ∧ w.heap.size ≤ a ∧ Hp w [(rr, blk [ptr m 0, ptr s 0, sl a 0 1 ca] 142), (a, blk ([I lo, I n] ++ sp) 145)] w' := by
 refine Qi (args := [_, _, _]) func49 rfl ntmps49 results49 (by simp) ?_
 have nm : m ≠ rr := Vg hm hr (by simp)
 have H := (Hp.focus0 hr).focus hm (by simpa using nm)
 have hO := Yo.nil w.heap.size 145 2
 (refine Js (Jr (Ja (Ja (Jn (Js (Jb (Js (Jr (Jm (J (Xp rfl rfl (by omega)) (Jm (Jt rfl rfl (Jm (Jt rfl rfl (J (Xp rfl rfl (by omega)) (Jp rfl (Jm (Jt rfl rfl (Jm (Jt rfl rfl (Jm (Jt rfl rfl (Ji rfl (Jt rfl rfl (Jf 0 underlying142 rfl sizeOf105 rfl rfl (Jt rfl rfl (Jl isAgg105 rfl (H.get (.there .here)) rfl (Jt rfl rfl (Jz rfl call78 rfl (Mem.size_ret (H.get .here) hx) H ?_))))))))))))))))))))))))))))); intro w30 H)
 (refine Jt rfl rfl (J (Zm rfl rfl (by omega)) (Jp rfl (Jm (Jt rfl rfl (Jm (Jt rfl rfl (Jm (Jt rfl rfl (Ji rfl (Jt rfl rfl (Jf 0 underlying142 rfl sizeOf105 rfl rfl (Jt rfl rfl (Jl isAgg105 rfl (H.get (.there .here)) rfl (Jt rfl rfl (Jz rfl call78 rfl (Mem.size_ret (H.get .here) hx) H ?_))))))))))))))); intro w46 H)
 (refine Jt rfl rfl (Jm (Jt rfl rfl (J (Vt rfl rfl (Xc (by omega))) (Jt rfl rfl (J (Zm rfl rfl (by omega)) (Jp rfl (Ja (Jn (Jc rfl (Js (Jr (Jm (Ji rfl (Jf 2 underlying142 rfl sizeOf140 rfl rfl (Jl isAgg140 rfl (H.get (.there .here)) rfl (J (Qh underlying140 rfl) (J (Zn rfl rfl (by omega)) (Ja (Jn (Jc rfl (Jk (Js (Jr (Jm (Jm (Ji rfl (Jf 2 underlying142 rfl sizeOf140 rfl rfl (Jl isAgg140 rfl (H.get (.there .here)) rfl (Jm (Jm (J (Qm (places := [(0, 1), (1, 1)]) (vs := [(.int _ _), (.int _ _)]) underlying145 typeInfo145 rfl rfl (by kernel_rfl) rfl rfl rfl) (Qb rfl (Zt (vss := [[I lo, I n]]) H underlying140 sizeOf145 zeroValue145 rfl rfl (by decide) rfl rfl (by simp)) ?_)))))))))))))))))))))))))))))))); clear H; intro b79 w79 hb79 H)
 (refine Ve rfl (Yx (news := [I lo, I n]) H (.there (.there (.there .last))) hO underlying140 typeInfo145 rfl rfl rfl rfl rfl rfl (Mn (m := 1) (sp := []) underlying140 (by rw [List.append_nil]; exact H.get .here) rfl (by simp [Value.oneCell'])) (by omega) (by simp only [Tryz.t145]; omega)) ?_; clear H hO; intro vN MN w80 hO H; replace H := H.pop (by assumption); obtain ⟨aN, ca, sp, hv, haN, hM, hsp, hcap⟩ := Yo.pos hO (by omega); subst hv; subst hM; replace H : Hp w [(m, blk [sl mb 0 N N] 161), (rr, blk [ptr m 0, ptr s 0, nilS] 142), (aN, blk ([I lo, I n] ++ sp) 145)] w80 := H)
 (refine Ji rfl (Jf 2 underlying142 rfl sizeOf140 rfl rfl (Qd rfl (Qz (v := sl aN 0 1 ca) H sizeOf140 rfl rfl rfl (.there .here) (by simp)) ?_)); clear H; intro w83 H; replace H : Hp w [(m, blk [sl mb 0 N N] 161), (rr, blk [ptr m 0, ptr s 0, sl aN 0 1 ca] 142), (aN, blk ([I lo, I n] ++ sp) 145)] w83 := H)
 refine Jn (Js (Jr (Jm (Ji rfl (Jf 2 underlying142 rfl sizeOf140 rfl rfl (Jl isAgg140 rfl (H.get (.there .here)) rfl (J (Qh underlying140 rfl) (J (Vt rfl rfl (Xc (by omega))) (Ja (Ja (Jn (Je ?_))))))))))))
 exact ⟨_, rfl, aN, ca, sp, rfl, haN, H.back hm⟩
variable {a ca : Nat} {sp : List Value} {rlo rn : Int} {PB : List (Nat × Nat)} {ts : List (List Pl)} {j i g0 : Nat} {q : Nat × Nat} {t : List Pl} {o r lo n re : Int}
end
end Go.Proofs.YtlpmfldijgdcoaaGreatDoor.Reg
namespace Go.Proofs.YtlpmfldijgdcoaaGreatDoor.Reg
open Go Go.Proofs Fx TabC Caps Tryz
section
variable {w : World} {rr m mb s N : Nat} {xs : List UInt8}
variable {a ca : Nat} {sp : List Value} {rlo rn : Int} {PB : List (Nat × Nat)} {ts : List (List Pl)} {j i g0 : Nat} {q : Nat × Nat} {t : List Pl} {o r lo n re : Int} {l : Value}
variable {env nm at_ k p e : Int}
theorem read_yes {p k : Nat} (hP : Ret Tryz.prog 150 #[ptr rr 0, I env, I nm, I 1, I at_, I k] w fun v w' => v = .tuple #[I p, I 0] ∧ Hp w [] w')
  (hr : w.heap[rr]? = some (blk [ptr m 0, ptr s 0, l] 142)) (hm : w.heap[m]? = some (blk [sl mb 0 N N] 161)) (hb : w.heap[mb]? = some (blk (xs.map U) 5)) (hx : xs.length = N) (hN : N ≤ 16384) (h : p + k ≤ xs.length) :
  Ret Tryz.prog 110 #[ptr rr 0, I env, I nm, I at_, I k] w fun v w' => ∃ u M, v = .tuple #[u, I 0] ∧ Yo w.heap.size 5 1 u k (((xs.drop p).take k).map U) M ∧ Hp w M w' := by
 refine Qi (args := [_, _, _, _, _]) func110 rfl ntmps110 results110 (by simp) ?_
 have H := Hp.refl w
 (refine Js (Jr (Ja (Ja (Jn (Js (Jr (Jm (Jm (Jm (Jm (Jm (Jz rfl call150 rfl (hP) H ?_)))))))))))); intro w13 H)
 (refine Jm (Jx rfl rfl (Jx rfl rfl (Ja (Ja (Jn (Js (Js (Jr (Jm (J (Yl rfl rfl (by omega)) (Jn (Jc rfl (Jk (Js (Jr (Jm (Ji rfl (Jf 0 underlying142 rfl sizeOf105 rfl rfl (J (Qe (v := ptr m 0) isAgg105 rfl (H.Qc hr kYs) rfl) (Jm (Jm (Jy rfl call60 rfl (Mem.load_yes p k (H.Qc hm kYs) (H.Qc hb kYs) hx (by omega) h) ?_)))))))))))))))))))))); rintro _ w36 ⟨u, M, rfl, hO, H1⟩; have h36 := H.Yn hO H1; clear H H1 hO; obtain ⟨hO, H⟩ := h36; rw [List.append_nil] at H)
 refine Jx rfl rfl (Jx rfl rfl (Ja (Ja (Jn (Je ?_)))))
 exact ⟨_, rfl, u, M, rfl, hO, H⟩
theorem write_yes {bv : Value} {ys : List UInt8} {p : Nat} (hl : RdS w bv (ys.map U)) (hP : Ret Tryz.prog 150 #[ptr rr 0, I env, I nm, I 2, I at_, I ys.length] w fun v w' => v = .tuple #[I p, I 0] ∧ Hp w [] w')
  (hr : w.heap[rr]? = some (blk [ptr m 0, ptr s 0, l] 142)) (hm : w.heap[m]? = some (blk [sl mb 0 N N] 161)) (hb : w.heap[mb]? = some (blk (xs.map U) 5)) (hx : xs.length = N) (hN : N ≤ 16384) (h : p + ys.length ≤ xs.length) :
  Ret Tryz.prog 111 #[ptr rr 0, I env, I nm, I at_, bv] w fun v w' => v = I 0 ∧ Hp w [(mb, blk ((Mem.put xs ys p).map U) 5)] w' := by
 refine Qi (args := [_, _, _, _, _]) func111 rfl ntmps111 results111 (by simp) ?_
 have H := Hp.refl w
 obtain ⟨ao, co, rfl⟩ := hl.form
 simp only [List.length_map] at hl ⊢
 (refine Js (Jr (Ja (Jn (Js (Jr (Jm (Jm (Jm (Jm (Jm (J (Qh underlying36 rfl) (Jz rfl call150 rfl (hP) H ?_)))))))))))); intro w13 H)
 (refine Jm (Jx rfl rfl (Jx rfl rfl (Ja (Ja (Jn (Js (Js (Jr (Jm (J (Yl rfl rfl (by omega)) (Jn (Jc rfl (Jk (Js (Jr (Jm (Ji rfl (Jf 0 underlying142 rfl sizeOf105 rfl rfl (J (Qe (v := ptr m 0) isAgg105 rfl (H.Qc hr kYs) rfl) (Jm (Jm (Jy rfl call151 rfl (Mem.store_yes p (H.Qc hm kYs) (H.Qc hb kYs) hx (by omega) (by first | exact hl.same H | exact (hl.same H)) h) ?_)))))))))))))))))))))); rintro _ w36 ⟨rfl, H1⟩; replace H := H.Bx hb kYs H1; clear H1)
 refine Ja (Jn (Je ?_))
 exact ⟨_, rfl, rfl, H⟩
variable {nm2 on : Int}
end
end Go.Proofs.YtlpmfldijgdcoaaGreatDoor.Reg
namespace Go.Proofs.YtlpmfldijgdcoaaGreatDoor.Kn
open Go Go.Proofs Fx TabC Caps Tryz
def spC (p : Nat × Nat) : List Value := [I p.1, I p.2]
theorem Mp (p : Nat × Nat) : (spC p).length = 2 := rfl
section
variable {w : World} {rr m s : Nat}
variable {a ca S : Nat} {sp : List (Nat × Nat)} {tl : List Value} {PB : List (Nat × Nat)} {ts : List (List Pl)} {j i g0 : Nat} {q : Nat × Nat} {t : List Pl} {r re rx : Int} {o lo n rlo rn at_ k : Nat}
theorem place_in {rt z : Int} (hr : w.heap[rr]? = some (blk [ptr m 0, ptr s 0, sl a 0 S ca] 142)) (ha : w.heap[a]? = some (blk (rows spC sp ++ tl) 145)) (hS : Sp w s PB ts) (hSl : sp.length = S)
  (hq : PB[j]? = some q) (ht : ts[j]? = some t) (h : t[i]? = some ⟨cp o r lo n re rx, g0, true⟩) (bz : Dn .and .i64 r rt = z) (hz : z ≠ 0) (ho : sp[o]? = some (rlo, rn))
  (hlo : lo ≤ 65536) (hn : n ≤ 65536) (hrlo : rlo ≤ 65536) (hrn : rn ≤ 65536) (hk : at_ + k ≤ n) (hin : lo + at_ + k ≤ rn) (hS32 : S ≤ 32) :
  Ret Tryz.prog 150 #[ptr rr 0, I j, I (i + 256 * g0 : Nat), I rt, I at_, I k] w fun v w' => v = .tuple #[I (rlo + lo + at_ : Nat), I 0] ∧ Hp w [] w' := by
 refine Qi (args := [_, _, _, _, _, _]) func150 rfl ntmps150 results150 (by simp) ?_
 have H := Hp.refl w
 have hoS : o < S := by have := (List.getElem?_eq_some_iff.1 ho).1; omega
 have hrow : ((rows spC sp ++ tl).drop (o * 2)).take 2 = [I rlo, I rn] := by
  rw [List.drop_append_of_le_length (by rw [Zh Mp]; omega), List.take_append_of_le_length (by rw [List.length_drop, Zh Mp]; omega)]
  exact rows_one Mp ho
 have hlen : o * 2 + 2 ≤ (rows spC sp ++ tl).length := by rw [List.length_append, Zh Mp]; omega
 (refine Js (Jr (Ja (Ja (Jn (Js (Jr (Jm (Ji rfl (Jf 1 underlying142 rfl sizeOf107 rfl rfl (J (Qe (v := ptr s 0) isAgg107 rfl (H.Qc hr kYs) rfl) (Jm (Jm (Jz rfl call152 rfl (get_yes hS hq ht h rfl) H ?_))))))))))))); intro w14 H)
 (refine Jm (Jx rfl rfl (Jx rfl rfl (Qb rfl (E_allocK H) ?_))); clear H; intro c14 w18 hc14 H)
 (refine Qd rfl (E_storeK (q := cp o r lo n re rx) H rfl rfl .here) ?_; clear H; intro w19 H; replace H : Hp w [(c14, blk [I o, I r, I lo, I n, I re, I rx] 125)] w19 := H)
 refine Ja (Jn (Js (Jb (Js (Jr (Jm (J (Yl rfl rfl (by omega)) (Ja (Jn (Jc rfl (Js (Jr (Jf 1 underlying125 rfl sizeOf3 rfl rfl (Jl isAgg3 rfl (H.get .here) rfl (Jm (J (Zb (r := z) rfl rfl (by simp) bz) (J (Xf rfl rfl (by omega)) (Ja (Jn (Jc rfl (Js ?_)))))))))))))))))))))
 (refine Xi (fun w2 => w2.heap[rr]? = some (blk [ptr m 0, ptr s 0, sl a 0 S ca] 142) ∧ w2.heap[c14]? = some (blk [I o, I r, I lo, I n, I re, I rx] 125)) (fun _ => false) (by kernel_rfl) H ?_; clear H; intro w42 H)
 refine Am 0 rfl ⟨H.Qc hr kYs, H.get .here⟩ (Az 1 rfl rfl ⟨H.Qc hr kYs, H.get .here⟩ (fun _ hC => Xp rfl rfl (by omega)) (Am 2 rfl ⟨H.Qc hr kYs, H.get .here⟩ (Ai 3 rfl rfl rfl ⟨H.Qc hr kYs, H.get .here⟩ (fun _ hC => Va) (Ag 4 rfl rfl rfl ⟨H.Qc hr kYs, H.get .here⟩ (fun _ hC => Xp rfl rfl (by omega)) (Ah 5 rfl rfl ⟨H.Qc hr kYs, H.get .here⟩ (fun _ hC => Zg rfl) (Am 6 rfl ⟨H.Qc hr kYs, H.get .here⟩ (Ai 7 rfl rfl rfl ⟨H.Qc hr kYs, H.get .here⟩ (fun _ hC => Va) (Ag 8 rfl rfl rfl ⟨H.Qc hr kYs, H.get .here⟩ (fun _ hC => Qa (off' := 3) underlying125 rfl sizeOf3 (by decide) rfl rfl) (Ag 9 rfl rfl rfl ⟨H.Qc hr kYs, H.get .here⟩ (fun _ hC => Qe (v := I n) isAgg3 rfl hC.2 rfl) (Ag 10 rfl rfl rfl ⟨H.Qc hr kYs, H.get .here⟩ (fun _ hC => Zm rfl rfl (by omega)) (Ah 11 rfl rfl ⟨H.Qc hr kYs, H.get .here⟩ (fun _ hC => Zg rfl) (Am 12 rfl ⟨H.Qc hr kYs, H.get .here⟩ (Ai 13 rfl rfl rfl ⟨H.Qc hr kYs, H.get .here⟩ (fun _ hC => Va) (Ag 14 rfl rfl rfl ⟨H.Qc hr kYs, H.get .here⟩ (fun _ hC => Qa (off' := 3) underlying125 rfl sizeOf3 (by decide) rfl rfl) (Ag 15 rfl rfl rfl ⟨H.Qc hr kYs, H.get .here⟩ (fun _ hC => Qe (v := I n) isAgg3 rfl hC.2 rfl) (Ai 16 rfl rfl rfl ⟨H.Qc hr kYs, H.get .here⟩ (fun _ hC => Va) (Ag 17 rfl rfl rfl ⟨H.Qc hr kYs, H.get .here⟩ (fun _ hC => Vt rfl rfl (Xc (by omega))) (Ag 18 rfl rfl rfl ⟨H.Qc hr kYs, H.get .here⟩ (fun _ hC => Zm rfl rfl (by omega)) (Ah 19 rfl rfl ⟨H.Qc hr kYs, H.get .here⟩ (fun _ hC => Zg rfl) (Am 20 rfl ⟨H.Qc hr kYs, H.get .here⟩ (Ag 21 rfl rfl rfl ⟨H.Qc hr kYs, H.get .here⟩ (fun _ hC => Qa (off' := 0) underlying125 rfl sizeOf3 (by decide) rfl rfl) (Ag 22 rfl rfl rfl ⟨H.Qc hr kYs, H.get .here⟩ (fun _ hC => Qe (v := I o) isAgg3 rfl hC.2 rfl) (Ag 23 rfl rfl rfl ⟨H.Qc hr kYs, H.get .here⟩ (fun _ hC => Xp rfl rfl (by omega)) (Ah 24 rfl rfl ⟨H.Qc hr kYs, H.get .here⟩ (fun _ hC => Zg rfl) (Am 25 rfl ⟨H.Qc hr kYs, H.get .here⟩ (Ag 26 rfl rfl rfl ⟨H.Qc hr kYs, H.get .here⟩ (fun _ hC => Qa (off' := 0) underlying125 rfl sizeOf3 (by decide) rfl rfl) (Ag 27 rfl rfl rfl ⟨H.Qc hr kYs, H.get .here⟩ (fun _ hC => Qe (v := I o) isAgg3 rfl hC.2 rfl) (Ai 28 rfl rfl rfl ⟨H.Qc hr kYs, H.get .here⟩ (fun _ hC => Va) (Ag 29 rfl rfl rfl ⟨H.Qc hr kYs, H.get .here⟩ (fun _ hC => Qf rfl) (Ag 30 rfl rfl rfl ⟨H.Qc hr kYs, H.get .here⟩ (fun _ hC => Qa (off' := 2) underlying142 rfl sizeOf140 (by decide) rfl rfl) (Ag 31 rfl rfl rfl ⟨H.Qc hr kYs, H.get .here⟩ (fun _ hC => Qe (v := sl a 0 S ca) isAgg140 rfl hC.1 rfl) (Ag 32 rfl rfl rfl ⟨H.Qc hr kYs, H.get .here⟩ (fun _ hC => Qh underlying140 rfl) (Ag 33 rfl rfl rfl ⟨H.Qc hr kYs, H.get .here⟩ (fun _ hC => Zn rfl rfl (by omega)) (Ah 34 rfl rfl ⟨H.Qc hr kYs, H.get .here⟩ (fun _ hC => Zg rfl) (Aa 35 rfl ⟨H.Qc hr kYs, H.get .here⟩ (Ad (Jc rfl (Jk (Js ?_)))))))))))))))))))))))))))))))))))))))
 (refine Xi (fun w2 => w2.heap[rr]? = some (blk [ptr m 0, ptr s 0, sl a 0 S ca] 142) ∧ w2.heap[c14]? = some (blk [I o, I r, I lo, I n, I re, I rx] 125) ∧ w2.heap[a]? = some (blk (rows spC sp ++ tl) 145)) (fun _ => false) (by kernel_rfl) H ?_; clear H; intro w83 H)
 (refine Am 0 rfl ⟨H.Qc hr kYs, H.get .here, H.Qc ha kYs⟩ (Az 1 rfl rfl ⟨H.Qc hr kYs, H.get .here, H.Qc ha kYs⟩ (fun _ hC => Qf rfl) (Az 2 rfl rfl ⟨H.Qc hr kYs, H.get .here, H.Qc ha kYs⟩ (fun _ hC => Qa (off' := 2) underlying142 rfl sizeOf140 (by decide) rfl rfl) (Az 3 rfl rfl ⟨H.Qc hr kYs, H.get .here, H.Qc ha kYs⟩ (fun _ hC => Qe (v := sl a 0 S ca) isAgg140 rfl hC.1 rfl) (Az 4 rfl rfl ⟨H.Qc hr kYs, H.get .here, H.Qc ha kYs⟩ (fun _ hC => Qa (off' := 0) underlying125 rfl sizeOf3 (by decide) rfl rfl) (Az 5 rfl rfl ⟨H.Qc hr kYs, H.get .here, H.Qc ha kYs⟩ (fun _ hC => Qe (v := I o) isAgg3 rfl hC.2.1 rfl) (Az 6 rfl rfl ⟨H.Qc hr kYs, H.get .here, H.Qc ha kYs⟩ (fun _ hC => Qj (off' := o * 2) underlying140 sizeOf145 rfl rfl (by omega) (by omega) (by omega)) (Az 7 rfl rfl ⟨H.Qc hr kYs, H.get .here, H.Qc ha kYs⟩ (fun _ hC => Qo (vs := [I rlo, I rn]) isAgg145 sizeOf145 rfl hC.2.2 hrow hlen) (Ao 8 (Xd rfl (.inl rfl) (Qp (vs := [I 0, I 0]) H zeroValue145 rfl) (fun _ _ _ H _ => ⟨H.Qc hr kYs, H.get (.there .here), H.Qc ha kYs⟩) ?_))))))))); clear H; intro c16 w93 hc16 H)
 (refine Ao 9 (Xb rfl (.inl rfl) (Qg (vs := [I rlo, I rn]) H sizeOf145 rfl rfl (by simp [Value.oneCell']) .here (by simp)) (fun _ H _ => ⟨H.Qc hr kYs, H.get (.there .here), H.Qc ha kYs⟩) ?_); clear H; intro w95 H; replace H : Hp w [(c16, blk [I rlo, I rn] 145), (c14, blk [I o, I r, I lo, I n, I re, I rx] 125)] w95 := H)
 refine Ad (Js (Js (Jr (Jf 2 underlying125 rfl sizeOf3 rfl rfl (Jl isAgg3 rfl (H.get (.there .here)) rfl (Jm (J (Xg rfl rfl (Xc (by omega))) (Jf 1 underlying145 rfl sizeOf3 rfl rfl (Jl isAgg3 rfl (H.get .here) rfl (J (Zm rfl rfl (by omega)) (Jm (Jt rfl rfl (Jm (Jt rfl rfl (Jf 1 underlying145 rfl sizeOf3 rfl rfl (Jt rfl rfl (Jl isAgg3 rfl (H.get .here) rfl (Jt rfl rfl (Jf 2 underlying125 rfl sizeOf3 rfl rfl (Jt rfl rfl (Jl isAgg3 rfl (H.get (.there .here)) rfl (Jt rfl rfl (J (Vt rfl rfl (Xc (by omega))) (Jt rfl rfl (Jm (Jt rfl rfl (J (Vt rfl rfl (Xc (by omega))) (Jt rfl rfl (J (Zm rfl rfl (by omega)) (Jp rfl (Jn (Jc rfl (Jk (Js (Jr (Jf 0 underlying145 rfl sizeOf3 rfl rfl (Jl isAgg3 rfl (H.get .here) rfl (Jf 2 underlying125 rfl sizeOf3 rfl rfl (Jl isAgg3 rfl (H.get (.there .here)) rfl (J (Xg rfl rfl (Xc (by omega))) (Jm (J (Xg rfl rfl (Xc (by omega))) (Ja (Ja (Jn (Je ?_))))))))))))))))))))))))))))))))))))))))))))))
 exact ⟨_, rfl, by rw [show ((rlo + lo + at_ : Nat) : Int) = (rlo : Int) + lo + at_ by omega]; rfl, H.none kYs⟩
end
end Go.Proofs.YtlpmfldijgdcoaaGreatDoor.Kn
namespace Go.Proofs.YtlpmfldijgdcoaaGreatDoor.Kn
open Go Go.Proofs Fx TabC Caps Tryz
structure KS where
 k : Nat
 m : Nat
 mb : Nat
 N : Nat
 s : Nat
 q : Nat
 r : Nat
 a : Nat
 ca : Nat
 ea : Option Addr
 en : Nat
 ec : Nat
 mayv : Value
 sv : Value
 PB : List (Nat × Nat)
 ts : List (List Pl)
 sp : List (Nat × Nat)
 tl : List Value
 xs : List UInt8
 now : Int
def KS.kb (κ : KS) : Obj := blk [.slice κ.ea κ.en κ.ec, κ.mayv, ptr κ.m 0, ptr κ.s 0, ptr κ.q 0, ptr κ.r 0, κ.sv, I κ.now] 113
/-- what lies of a kernel in the world, as far as bytes go -/
structure Kr (w : World) (κ : KS) : Prop where
 hk : w.heap[κ.k]? = some κ.kb
 hm : w.heap[κ.m]? = some (blk [sl κ.mb 0 κ.N κ.N] 161)
 hb : w.heap[κ.mb]? = some (blk (κ.xs.map U) 5)
 hr : w.heap[κ.r]? = some (blk [ptr κ.m 0, ptr κ.s 0, sl κ.a 0 κ.sp.length κ.ca] 142)
 ha : w.heap[κ.a]? = some (blk (rows spC κ.sp ++ κ.tl) 145)
 hS : Sp w κ.s κ.PB κ.ts
 hx : κ.xs.length = κ.N
 hN : κ.N ≤ 16384
 hsp : κ.sp.length ≤ 32
 hen : κ.en ≤ 40
/-- a name is a cap of n bytes from lo on -/
structure Wn (κ : KS) (e : Nat) (nm : Int) (lo n : Nat) : Prop where
 ex : ∃ q t i g0 o re rx, κ.PB[e]? = some q ∧ κ.ts[e]? = some t ∧ t[i]? = some ⟨cp ((o : Nat) : Int) 3 0 (n : Nat) re rx, g0, true⟩ ∧ nm = ((i + 256 * g0 : Nat) : Int) ∧ κ.sp[o]? = some (lo, n)
 hin : lo + n ≤ κ.N
 he : e < κ.en
/-- the first kind of an object -/
def elT : Obj → Nat
 | .cells _ e _ => e
 | _ => 1000000
/-- what is changed is new, or not of these kinds -/
def Out (T : List Nat) (w : World) (L : List (Nat × Obj)) : Prop := ∀ p ∈ L, w.heap.size ≤ p.1 ∨ ∃ o, w.heap[p.1]? = some o ∧ elT o ∉ T
theorem Out.nil {T : List Nat} {w : World} : Out T w [] := fun _ h => nomatch h
theorem Out.cons {T : List Nat} {w : World} {b : Nat} {o o' : Obj} {L : List (Nat × Obj)} (h : w.heap[b]? = some o) (ho : elT o ∉ T) (hL : Out T w L) : Out T w ((b, o') :: L) := by
 intro p hp
 rcases List.mem_cons.1 hp with rfl | hp
 ·exact .inr ⟨o, h, ho⟩
 ·exact hL p hp
theorem Out.new {T : List Nat} {w : World} {b : Nat} {o' : Obj} {L : List (Nat × Obj)} (h : w.heap.size ≤ b) (hL : Out T w L) : Out T w ((b, o') :: L) := by
 intro p hp
 rcases List.mem_cons.1 hp with rfl | hp
 ·exact .inl h
 ·exact hL p hp
theorem Out.ofN {T : List Nat} {w : World} {L : List (Nat × Obj)} (h : ∀ p ∈ L, w.heap.size ≤ p.1) : Out T w L := fun p hp => .inl (h p hp)
theorem Out.sub {T T' : List Nat} {w : World} {L : List (Nat × Obj)} (h : Out T w L) (hs : T' ⊆ T) : Out T' w L := fun p hp => (h p hp).imp id (fun ⟨o, h1, h2⟩ => ⟨o, h1, fun h3 => h2 (hs h3)⟩)
theorem Out.app {T : List Nat} {w : World} {L M : List (Nat × Obj)} (h : Out T w L) (h' : Out T w M) : Out T w (L ++ M) := fun p hp => (List.mem_append.1 hp).elim (h p) (h' p)
/-- a block of one of these kinds stays -/
theorem _root_.Go.Proofs.YtlpmfldijgdcoaaGreatDoor.Fx.Hp.Xw {w w' : World} {T : List Nat} {L : List (Nat × Obj)} {b : Nat} {o : Obj} (H : Hp w L w') (hb : w.heap[b]? = some o) (hT : elT o ∈ T) (hO : Out T w L) : w'.heap[b]? = some o := by
 refine H.block hb fun h => ?_
 obtain ⟨p, hp, e⟩ := List.mem_map.1 h
 rcases hO p hp with h1 | ⟨o', h1, h2⟩
 ·have := Qr hb; omega
 ·rw [e, hb] at h1
  cases h1; exact h2 hT
def kT : List Nat := [113, 161, 142, 145, 164, 165, 209, 211]
theorem sp_keep {w w' : World} {s : Nat} {PB : List (Nat × Nat)} {ts : List (List Pl)} {L : List (Nat × Obj)} (h : Sp w s PB ts) (H : Hp w L w') (hn : Out kT w L) : Sp w' s PB ts := by
 obtain ⟨bs, cap, sp, h1, h2⟩ := h.ex
 exact ⟨⟨bs, cap, sp, H.Xw h1 (by simp [kT, elT]) hn, H.Xw h2 (by simp [kT, elT]) hn⟩, fun j q hq => H.Xw (h.tp j q hq) (by simp [kT, elT]) hn, fun j q t hq ht => H.Xw (h.tb j q t hq ht) (by simp [kT, elT]) hn, h.inv⟩
/-- nothing of the kernel has turned but bytes, perhaps -/
theorem Kr.keep {w w' : World} {κ : KS} {L : List (Nat × Obj)} (h : Kr w κ) (H : Hp w L w') (hn : Out kT w L) {ys : List UInt8} (hb : w'.heap[κ.mb]? = some (blk (ys.map U) 5)) (hl : ys.length = κ.N) : Kr w' { κ with xs := ys } :=
 ⟨H.Xw h.hk (by simp [kT, elT, KS.kb]) hn, H.Xw h.hm (by simp [kT, elT]) hn, hb, H.Xw h.hr (by simp [kT, elT]) hn, H.Xw h.ha (by simp [kT, elT]) hn, sp_keep h.hS H hn, hl, h.hN, h.hsp, h.hen⟩
theorem Kr.keep0 {w w' : World} {κ : KS} {L : List (Nat × Obj)} (h : Kr w κ) (H : Hp w L w') (hn : Out (5 :: kT) w L) : Kr w' κ :=
 h.keep H (hn.sub (List.subset_cons_self _ _)) (H.Xw h.hb (by simp [elT]) hn) h.hx
theorem Kr.Ql {w w' : World} {κ : KS} {L : List (Nat × Obj)} (h : Kr w κ) (H : Hp w L w') (hn : ∀ p ∈ L, w.heap.size ≤ p.1) : Kr w' κ := h.keep0 H (Out.ofN hn)
theorem Kr.keepB {w w' : World} {κ : KS} (h : Kr w κ) {ys : List UInt8} (H : Hp w [(κ.mb, blk (ys.map U) 5)] w') (hl : ys.length = κ.N) : Kr w' { κ with xs := ys } :=
 h.keep H (Out.cons h.hb (by simp [kT, elT]) Out.nil) (H.get .here) hl
section
variable {w : World} {κ : KS} {e lo n at_ : Nat} {nm : Int}
theorem Vp (hK : Kr w κ) (hW : Wn κ e nm lo n) (rt : Int) (hrt : rt = 1 ∨ rt = 2) (j : Nat) (h : at_ + j ≤ n) :
  Ret Tryz.prog 150 #[ptr κ.r 0, I e, I nm, I rt, I at_, I j] w fun v w' => v = .tuple #[I (lo + at_ : Nat), I 0] ∧ Hp w [] w' := by
 obtain ⟨q, t, i, g0, o, re, rx, h1, h2, h3, rfl, h5⟩ := hW.ex
 have h7 := hW.hin
 have h8 := hK.hN
 have hz : Dn .and .i64 3 rt = rt := by rcases hrt with rfl | rfl <;> decide
 have := place_in (rt := rt) (z := rt) (at_ := at_) (k := j) hK.hr hK.ha hK.hS rfl h1 h2 (lo := 0) h3 hz (by omega) h5 (by omega) (by omega) (by omega) (by omega) (by omega) (by omega) hK.hsp
 simpa using this
theorem bytes_read (hK : Kr w κ) (hW : Wn κ e nm lo n) (j : Nat) (h : at_ + j ≤ n) :
  Ret Tryz.prog 68 #[ptr κ.k 0, I e, .agg #[I 1, I nm, I at_, I j, I 0, I 0, nilS]] w fun v w' => ∃ u M, v = .tuple #[u, I 0, .bool true] ∧ Yo w.heap.size 5 1 u j (((κ.xs.drop (lo + at_)).take j).map U) M ∧ Hp w M w' := by
 refine Qi (args := [_, _, _]) func68 rfl ntmps68 results68 (by simp) ?_
 have H := Hp.refl w
 have hk := hK.hk
 have h7 := hW.hin
 have h8 := hK.hN
 have hx := hK.hx
 unfold KS.kb at hk
 (refine Js (Jr (Qb rfl (Xl (vs := [I 1, I nm, I at_, I j, I 0, I 0, nilS]) H rfl rfl) ?_)); clear H; intro c5 w3 hc5 H)
 refine Ja (Ja (Ja (Jn (Js (Js (Jr (Jf 0 underlying44 rfl sizeOf3 rfl rfl (Jl isAgg3 rfl (H.get .here) rfl (Jn (Jb (Js (Jr (J (Yr rfl rfl (by omega)) (Ja (Jn (Jd rfl ?_))))))))))))))))
 (refine Xi (fun w2 => w2.heap[κ.k]? = some (blk [.slice κ.ea κ.en κ.ec, κ.mayv, ptr κ.m 0, ptr κ.s 0, ptr κ.q 0, ptr κ.r 0, κ.sv, I κ.now] 113) ∧ w2.heap[c5]? = some (blk [I 1, I nm, I at_, I j, I 0, I 0, nilS] 44)) (fun _ => false) (by kernel_rfl) H ?_; clear H; intro w21 H)
 (refine Am 0 rfl ⟨H.Qc hk kYs, H.get .here⟩ (Az 1 rfl rfl ⟨H.Qc hk kYs, H.get .here⟩ (fun _ hC => Qf rfl) (Az 2 rfl rfl ⟨H.Qc hk kYs, H.get .here⟩ (fun _ hC => Qa (off' := 5) underlying113 rfl sizeOf87 (by decide) rfl rfl) (Az 3 rfl rfl ⟨H.Qc hk kYs, H.get .here⟩ (fun _ hC => Qe (v := ptr κ.r 0) isAgg87 rfl hC.1 rfl) (Am 4 rfl ⟨H.Qc hk kYs, H.get .here⟩ (Az 5 rfl rfl ⟨H.Qc hk kYs, H.get .here⟩ (fun _ hC => Qa (off' := 1) underlying44 rfl sizeOf3 (by decide) rfl rfl) (Az 6 rfl rfl ⟨H.Qc hk kYs, H.get .here⟩ (fun _ hC => Qe (v := I nm) isAgg3 rfl hC.2 rfl) (Az 7 rfl rfl ⟨H.Qc hk kYs, H.get .here⟩ (fun _ hC => Qa (off' := 2) underlying44 rfl sizeOf3 (by decide) rfl rfl) (Az 8 rfl rfl ⟨H.Qc hk kYs, H.get .here⟩ (fun _ hC => Qe (v := I at_) isAgg3 rfl hC.2 rfl) (Az 9 rfl rfl ⟨H.Qc hk kYs, H.get .here⟩ (fun _ hC => Qa (off' := 3) underlying44 rfl sizeOf3 (by decide) rfl rfl) (Az 10 rfl rfl ⟨H.Qc hk kYs, H.get .here⟩ (fun _ hC => Qe (v := I j) isAgg3 rfl hC.2 rfl) (Ao 11 (Qv rfl (.inl rfl) (Qw rfl call110 rfl) (Reg.read_yes (Vp (hK.Ql H kYs) hW 1 (.inl rfl) j h) (H.Qc hK.hr kYs) (H.Qc hK.hm kYs) (H.Qc hK.hb kYs) hx h8 (by omega)) (by rintro _ w2 ⟨u, M, rfl, hO, H1⟩ _; exact ⟨(H.Yn hO H1).2.Qc hk (Yv (H.Yn hO H1).1.keys kYs), (H.Yn hO H1).2.get (.app _ .here)⟩) ?_)))))))))))); rintro _ w34 ⟨u, M, rfl, hO, H1⟩; have h34 := H.Yn hO H1; clear H H1 hO; obtain ⟨hO, H⟩ := h34)
 refine Am 12 rfl ⟨H.Qc hk kYs, H.get (.app _ .here)⟩ (Az 13 rfl rfl ⟨H.Qc hk kYs, H.get (.app _ .here)⟩ (fun _ hC => Qs rfl rfl) (Az 14 rfl rfl ⟨H.Qc hk kYs, H.get (.app _ .here)⟩ (fun _ hC => Qs rfl rfl) (Aa 15 rfl ⟨H.Qc hk kYs, H.get (.app _ .here)⟩ (Aa 16 rfl ⟨H.Qc hk kYs, H.get (.app _ .here)⟩ (Ad (Js (Jr (Jm (Jm (Ja (Ja (Ja (Jn (Je ?_))))))))))))))
 exact ⟨_, rfl, u, M, rfl, hO, H.cut kYs⟩
theorem do_read (hK : Kr w κ) (hW : Wn κ e nm lo n) (j : Nat) (h : at_ + j ≤ n) :
  Ret Tryz.prog 36 #[ptr κ.k 0, I e, .agg #[I 1, I nm, I at_, I j, I 0, I 0, nilS]] w fun v w' => ∃ u M, v = .agg #[I 0, I 0, u] ∧ Yo w.heap.size 5 1 u j (((κ.xs.drop (lo + at_)).take j).map U) M ∧ Hp w M w' := by
 refine Qy (args := [_, _, _]) func36 rfl ntmps36 results36 (by simp) ?_
 have H := Hp.refl w
 have hk := hK.hk
 have he := hW.he
 have he2 := hK.hen
 unfold KS.kb at hk
 (refine Js (Jr (Qb rfl (Xl (vs := [I 1, I nm, I at_, I j, I 0, I 0, nilS]) H rfl rfl) ?_)); clear H; intro c5 w3 hc5 H)
 (refine Qb rfl (Qp (vs := [I 0, I 0, nilS]) H zeroValue96 rfl) ?_; clear H; intro c6 w4 hc6 H)
 (refine Jn (Js (Js (Jr (Jm (J (Xp rfl rfl (by omega)) (Jm (Jt rfl rfl (Jm (Jt rfl rfl (Jm (Jt rfl rfl (Ji rfl (Jt rfl rfl (Jf 0 underlying113 rfl sizeOf22 rfl rfl (Jt rfl rfl (Jl isAgg22 rfl (H.Qc hk kYs) rfl (Jt rfl rfl (J (Qh underlying22 rfl) (Jt rfl rfl (J (Zn rfl rfl (by omega)) (Jp rfl (Jn (Jc rfl (Jk (Js (Js (Jr (Jm (Jm (J (Qo isAgg44 sizeOf44 rfl (H.get (.there .here)) rfl (by simp)) (Jy rfl call68 rfl (bytes_read (hK.Ql H kYs) hW j h) ?_))))))))))))))))))))))))))))))); rintro _ w36 ⟨u, M, rfl, hO, H1⟩; have h36 := H.Yn hO H1; clear H H1 hO; obtain ⟨hO, H⟩ := h36; obtain ⟨ua, uc, rfl⟩ := hO.form)
 (refine Jm (Jx rfl rfl (Jx rfl rfl (Jx rfl rfl (Ja (Ja (Ja (Jn (Js (Jr (Jm (Jn (Jd rfl (Js (Jr (Jm (Jm (J (Qm (places := [(0, 1), (1, 1), (2, 1)]) (vs := [I 0, I 0, .slice ua j uc]) underlying96 typeInfo96 rfl rfl (by kernel_rfl) rfl rfl rfl) (Qd rfl (Qg (vs := [I 0, I 0, .slice ua j uc]) H sizeOf96 rfl rfl (by simp [Value.oneCell']) (.app _ .here) (by simp)) ?_)))))))))))))))))); clear H; intro w55 H; replace H : Hp w (M ++ [(c6, blk [I 0, I 0, .slice ua j uc] 96), (c5, blk [I 1, I nm, I at_, I j, I 0, I 0, nilS] 44)]) w55 := H)
 refine Jn (Je ?_)
 exact ⟨_, ⟨_, rfl, ldA isAgg96 sizeOf96 (H.get (.app _ .here)) rfl (by simp)⟩, _, M, rfl, hO, H.cut kYs⟩
theorem bytes_write {bv : Value} {ys : List UInt8} (hl : RdS w bv (ys.map U)) (hK : Kr w κ) (hW : Wn κ e nm lo n) (h : at_ + ys.length ≤ n) :
  Ret Tryz.prog 68 #[ptr κ.k 0, I e, .agg #[I 2, I nm, I at_, I 0, I 0, I 0, bv]] w fun v w' => v = .tuple #[nilS, I 0, .bool true] ∧ Hp w [(κ.mb, blk ((Mem.put κ.xs ys (lo + at_)).map U) 5)] w' := by
 refine Qi (args := [_, _, _]) func68 rfl ntmps68 results68 (by simp) ?_
 have H := Hp.refl w
 have hk := hK.hk
 have h7 := hW.hin
 have h8 := hK.hN
 have hx := hK.hx
 unfold KS.kb at hk
 obtain ⟨ba, bc, rfl⟩ := hl.form
 (refine Js (Jr (Qb rfl (Xl (vs := [I 2, I nm, I at_, I 0, I 0, I 0, .slice ba (ys.map U).length bc]) H rfl rfl) ?_)); clear H; intro c5 w3 hc5 H)
 refine Ja (Ja (Ja (Jn (Js (Js (Jr (Jf 0 underlying44 rfl sizeOf3 rfl rfl (Jl isAgg3 rfl (H.get .here) rfl (Jn (Jb (Js (Jr (J (Xf rfl rfl (by omega)) (Ja (Jn (Jc rfl (Js (Jr (J (Yr rfl rfl (by omega)) (Ja (Jn (Jd rfl ?_))))))))))))))))))))))
 (refine Xi (fun w2 => w2.heap[κ.k]? = some (blk [.slice κ.ea κ.en κ.ec, κ.mayv, ptr κ.m 0, ptr κ.s 0, ptr κ.q 0, ptr κ.r 0, κ.sv, I κ.now] 113) ∧ w2.heap[c5]? = some (blk [I 2, I nm, I at_, I 0, I 0, I 0, .slice ba (ys.map U).length bc] 44)) (fun _ => false) (by kernel_rfl) H ?_; clear H; intro w27 H)
 (refine Am 0 rfl ⟨H.Qc hk kYs, H.get .here⟩ (Az 1 rfl rfl ⟨H.Qc hk kYs, H.get .here⟩ (fun _ hC => Qf rfl) (Az 2 rfl rfl ⟨H.Qc hk kYs, H.get .here⟩ (fun _ hC => Qa (off' := 5) underlying113 rfl sizeOf87 (by decide) rfl rfl) (Az 3 rfl rfl ⟨H.Qc hk kYs, H.get .here⟩ (fun _ hC => Qe (v := ptr κ.r 0) isAgg87 rfl hC.1 rfl) (Am 4 rfl ⟨H.Qc hk kYs, H.get .here⟩ (Az 5 rfl rfl ⟨H.Qc hk kYs, H.get .here⟩ (fun _ hC => Qa (off' := 1) underlying44 rfl sizeOf3 (by decide) rfl rfl) (Az 6 rfl rfl ⟨H.Qc hk kYs, H.get .here⟩ (fun _ hC => Qe (v := I nm) isAgg3 rfl hC.2 rfl) (Az 7 rfl rfl ⟨H.Qc hk kYs, H.get .here⟩ (fun _ hC => Qa (off' := 2) underlying44 rfl sizeOf3 (by decide) rfl rfl) (Az 8 rfl rfl ⟨H.Qc hk kYs, H.get .here⟩ (fun _ hC => Qe (v := I at_) isAgg3 rfl hC.2 rfl) (Az 9 rfl rfl ⟨H.Qc hk kYs, H.get .here⟩ (fun _ hC => Qa (off' := 6) underlying44 rfl sizeOf36 (by decide) rfl rfl) (Az 10 rfl rfl ⟨H.Qc hk kYs, H.get .here⟩ (fun _ hC => Qe (v := .slice ba (ys.map U).length bc) isAgg36 rfl hC.2 rfl) (Ao 11 (Qv rfl (.inl rfl) (Qw rfl call111 rfl) (Reg.write_yes (hl.Yd H kYs) (Vp (hK.Ql H kYs) hW 2 (.inr rfl) ys.length h) (H.Qc hK.hr kYs) (H.Qc hK.hm kYs) (H.Qc hK.hb kYs) hx h8 (by omega)) (by rintro _ w2 ⟨rfl, H1⟩ _; exact ⟨H1.Xw (T := kT) (H.Qc hk kYs) (by simp [kT, elT]) (Out.cons (H.Qc hK.hb kYs) (by simp [kT, elT]) Out.nil), (H.Bx hK.hb kYs H1).get (.there .here)⟩) ?_)))))))))))); rintro _ w40 ⟨rfl, H1⟩; have hk9 := H1.Xw (H.Qc hk kYs) (T := kT) (by simp [kT, elT]) (Out.cons (H.Qc hK.hb kYs) (by simp [kT, elT]) Out.nil); replace H := H.Bx hK.hb kYs H1; clear H1)
 refine Aa 12 rfl ⟨hk9, H.get (.there .here)⟩ (Ad (Js (Jr (Jm (Jm (Ja (Ja (Ja (Jn (Je ?_))))))))))
 exact ⟨_, rfl, rfl, H.pop2 (by assumption)⟩
theorem do_write {bv : Value} {ys : List UInt8} (hl : RdS w bv (ys.map U)) (hK : Kr w κ) (hW : Wn κ e nm lo n) (h : at_ + ys.length ≤ n) :
  Ret Tryz.prog 36 #[ptr κ.k 0, I e, .agg #[I 2, I nm, I at_, I 0, I 0, I 0, bv]] w fun v w' => v = .agg #[I 0, I 0, nilS] ∧ Hp w [(κ.mb, blk ((Mem.put κ.xs ys (lo + at_)).map U) 5)] w' := by
 refine Qy (args := [_, _, _]) func36 rfl ntmps36 results36 (by simp) ?_
 have H := Hp.refl w
 have hk := hK.hk
 have he := hW.he
 have he2 := hK.hen
 unfold KS.kb at hk
 obtain ⟨ba, bc, rfl⟩ := hl.form
 (refine Js (Jr (Qb rfl (Xl (vs := [I 2, I nm, I at_, I 0, I 0, I 0, .slice ba (ys.map U).length bc]) H rfl rfl) ?_)); clear H; intro c5 w3 hc5 H)
 (refine Qb rfl (Qp (vs := [I 0, I 0, nilS]) H zeroValue96 rfl) ?_; clear H; intro c6 w4 hc6 H)
 (refine Jn (Js (Js (Jr (Jm (J (Xp rfl rfl (by omega)) (Jm (Jt rfl rfl (Jm (Jt rfl rfl (Jm (Jt rfl rfl (Ji rfl (Jt rfl rfl (Jf 0 underlying113 rfl sizeOf22 rfl rfl (Jt rfl rfl (Jl isAgg22 rfl (H.Qc hk kYs) rfl (Jt rfl rfl (J (Qh underlying22 rfl) (Jt rfl rfl (J (Zn rfl rfl (by omega)) (Jp rfl (Jn (Jc rfl (Jk (Js (Js (Jr (Jm (Jm (J (Qo isAgg44 sizeOf44 rfl (H.get (.there .here)) rfl (by simp)) (Jy rfl call68 rfl (bytes_write (hl.Yd H kYs) (hK.Ql H kYs) hW h) ?_))))))))))))))))))))))))))))))); rintro _ w36 ⟨rfl, H1⟩; replace H := H.Bx hK.hb kYs H1; clear H1)
 (refine Jm (Jx rfl rfl (Jx rfl rfl (Jx rfl rfl (Ja (Ja (Ja (Jn (Js (Jr (Jm (Jn (Jd rfl (Js (Jr (Jm (Jm (J (Qm (places := [(0, 1), (1, 1), (2, 1)]) (vs := [I 0, I 0, nilS]) underlying96 typeInfo96 rfl rfl (by kernel_rfl) rfl rfl rfl) (Qd rfl (Qg (vs := [I 0, I 0, nilS]) H sizeOf96 rfl rfl (by simp [Value.oneCell']) (.there .here) (by simp)) ?_)))))))))))))))))); clear H; intro w55 H; replace H : Hp w [(κ.mb, blk ((Mem.put κ.xs ys (lo + at_)).map U) 5), (c6, blk [I 0, I 0, nilS] 96), (c5, blk [I 2, I nm, I at_, I 0, I 0, I 0, .slice ba (ys.map U).length bc] 44)] w55 := H)
 refine Jn (Je ?_)
 exact ⟨_, ⟨_, rfl, ldA isAgg96 sizeOf96 (H.get (.there .here)) rfl (by simp)⟩, rfl, (H.pop2 (by assumption)).pop2 (by assumption)⟩
end
end Go.Proofs.YtlpmfldijgdcoaaGreatDoor.Kn
namespace Go.Proofs.YtlpmfldijgdcoaaGreatDoor.Sect
open Go Go.Proofs Fx Tryz
/-- a Sect -/
structure Sx where
 lease : Int
 held : Bool
 who : Int
 stamp : Int
 since : Int
 q : List Int
 first : Int
 last : Int
 stamps : Int
def sxC (s : Sx) (qv : Value) : List Value := [I s.lease, .bool s.held, I s.who, I s.stamp, I s.since, qv, I s.first, I s.last, I s.stamps]
def Bh (n : Int) : Sx := ⟨min (max n 1) 1000, false, 0, 0, 0, [], 0, 0, 0⟩
section
variable {w0 w : World} {p : Nat} {s : Sx} {qv : Value} {Mq R : List (Nat × Obj)}
theorem Bg (n : Int) (w : World) : Ret Tryz.prog 48 #[I n] w fun v w' => ∃ p, v = ptr p 0 ∧ w.heap.size ≤ p ∧ Hp w [(p, blk (sxC (Bh n) nilS) 170)] w' := by
 refine Qi (args := [_]) func48 rfl ntmps48 results48 (by simp) ?_
 have H := Hp.refl w
 refine Js (Jr (Ja (Jn (Js (Jr (Jm (J (Mz rfl rfl rfl) (Ym rfl (Nn rfl rfl rfl) ?_))))))))
 (refine J (Nb (vs := [(.int _ _), (.bool _), (.int _ _), (.int _ _), (.int _ _), (.slice _ _ _), (.int _ _), (.int _ _), (.int _ _)]) rfl rfl) (Qb rfl (Xl (vs := sxC (Bh n) nilS) H rfl rfl) ?_); clear H; intro p w11 hp H)
 refine Ja (Jn (Je ?_))
 exact ⟨_, rfl, p, rfl, hp, H⟩
theorem holds_ret (who stamp : Int) (H : Hp w0 (Mq ++ ((p, blk (sxC s qv) 170) :: R)) w) :
  Ret Tryz.prog 132 #[ptr p 0, I who, I stamp] w fun v w' => v = .bool (decide (s.held = true ∧ s.who = who ∧ s.stamp = stamp)) ∧ Hp w0 (Mq ++ ((p, blk (sxC s qv) 170) :: R)) w' := by
 refine Qi (args := [_, _, _]) func132 rfl ntmps132 results132 (by simp) ?_
 unfold sxC at H
 refine Js (Jr (Ja (Jn (Js (Jr (Jm (Ji rfl (Jf 1 underlying170 rfl sizeOf4 rfl rfl (Jl isAgg4 rfl (H.get (.app _ .here)) rfl (Jm ?_))))))))))
 apply Xs 7 11 18 [(12, 18)] H
 case hc => exact decV rfl
 case h1 =>
  intro h12
  refine Jt rfl rfl (Jm (Jt rfl rfl (Ji rfl (Jt rfl rfl (Jf 2 underlying170 rfl sizeOf3 rfl rfl (Jt rfl rfl (Jl isAgg3 rfl (H.get (.app _ .here)) rfl (Jt rfl rfl (Jm (Jt rfl rfl (J (Yk rfl rfl) (Jq rfl (Jn ?_)))))))))))))
  exact ⟨kS, rfl, H⟩
 case h0 =>
  intro h12
  refine Jg rfl rfl (Jg rfl rfl (Jg rfl rfl (Jg rfl rfl (Jg rfl rfl (Jg rfl rfl (Jp rfl (Jn ?_)))))))
  exact ⟨kS, rfl, H⟩
 case h2 =>
  (clear H; intro E12 w12 H)
  refine Jm ?_
  apply Xs 7 19 26 [(20, 26)] H
  case hc => rfl
  case h1 =>
   intro h38
   refine Jt rfl rfl (Jm (Jt rfl rfl (Ji rfl (Jt rfl rfl (Jf 3 underlying170 rfl sizeOf3 rfl rfl (Jt rfl rfl (Jl isAgg3 rfl (H.get (.app _ .here)) rfl (Jt rfl rfl (Jm (Jt rfl rfl (J (Yk rfl rfl) (Jq rfl (Jn ?_)))))))))))))
   exact ⟨kS, rfl, H⟩
  case h0 =>
   intro h38
   refine Jg rfl rfl (Jg rfl rfl (Jg rfl rfl (Jg rfl rfl (Jg rfl rfl (Jg rfl rfl (Jp rfl (Jn ?_)))))))
   exact ⟨kS, rfl, H⟩
  case h2 =>
   (clear H; intro E38 w38 H)
   refine Ja (Jn (Je ?_))
   exact ⟨_, rfl, congrArg Value.bool (decide_eq_decide.2 and_assoc), H⟩
def Yy (s : Sx) (who stamp : Int) : Sx := if s.held = true ∧ s.who = who ∧ s.stamp = stamp then { s with held := false, first := s.last } else s
theorem By (who stamp : Int) (H : Hp w0 (Mq ++ ((p, blk (sxC s qv) 170) :: R)) w) :
  Ret Tryz.prog 159 #[ptr p 0, I who, I stamp] w fun v w' => v = .bool (decide (s.held = true ∧ s.who = who ∧ s.stamp = stamp)) ∧ Hp w0 (Mq ++ ((p, blk (sxC (Yy s who stamp) qv) 170) :: R)) w' := by
 refine Qi (args := [_, _, _]) func159 rfl ntmps159 results159 (by simp) ?_
 unfold sxC at H
 (refine Js (Jr (Ja (Jn (Js (Js (Jr (Jm (Jm (Jm (Jy rfl call132 rfl (holds_ret who stamp H) ?_)))))))))); clear H; rintro _ w11 ⟨rfl, H⟩; unfold sxC at H)
 refine J (Zd rfl) (Jn (Xo rfl (fun h14 => ?_) (fun h14 => ?_)))
 ·refine Js (Jr (Ja (Jn (Je ?_))))
  (have hx : ¬ (s.held = true ∧ s.who = who ∧ s.stamp = stamp) := (by assumption); exact ⟨_, rfl, congrArg Value.bool (decide_eq_false hx).symm, (by unfold Yy; rw [if_neg hx]; exact H)⟩)
 ·(refine Jk (Js (Jr (Jm (Ji rfl (Jf 1 underlying170 rfl sizeOf4 rfl rfl (Qd rfl (Qz (v := (.bool _)) H sizeOf4 rfl rfl rfl (.app _ .here) (by simp)) ?_)))))); clear H; intro w27 H)
  (refine Jn (Js (Jr (Jm (Jm (Ji rfl (Jf 7 underlying170 rfl sizeOf3 rfl rfl (Jl isAgg3 rfl (H.get (.app _ .here)) rfl (Ji rfl (Jf 6 underlying170 rfl sizeOf3 rfl rfl (Qd rfl (Qz (v := (.int _ _)) H sizeOf3 rfl rfl rfl (.app _ .here) (by simp)) ?_)))))))))); clear H; intro w38 H)
  refine Jn (Js (Jr (Ja (Jn (Je ?_)))))
  (have hx : s.held = true ∧ s.who = who ∧ s.stamp = stamp := Decidable.of_not_not (by assumption); exact ⟨_, rfl, congrArg Value.bool (decide_eq_true hx).symm, (by unfold Yy; rw [if_pos hx]; exact H)⟩)
/-- where a number stands in a row; below 0: nowhere -/
def idx (xs : List Int) (x : Int) : Int := match xs with
 | [] => -1
 | y :: ys => if x = y then 0 else if idx ys x < 0 then -1 else idx ys x + 1
theorem idx_ge (xs : List Int) (x : Int) : -1 ≤ idx xs x := by
 induction xs with
 | nil => simp [idx]
 | cons y ys ih => unfold idx; split <;> (try split) <;> omega
theorem idx_mem {xs : List Int} {x : Int} : 0 ≤ idx xs x ↔ x ∈ xs := by
 induction xs with
 | nil => simp [idx]
 | cons y ys ih =>
  unfold idx
  rw [List.mem_cons, ← ih]
  split
  ·simp_all
  ·split <;> omega
/-- the first of the numbers behind place k, if none ahead of it is it -/
theorem idx_drop {xs : List Int} {x : Int} {k : Nat} (hk : k < xs.length) (h : ∀ j (hj : j < k), xs[j]'(by omega) ≠ x) (hx : x = xs[k]) : idx xs x = k := by
 induction xs generalizing k with
 | nil => simp at hk
 | cons y ys ih =>
  unfold idx
  cases k with
  | zero => rw [if_pos (by simpa using hx)]; rfl
  | succ k =>
   have h0 := h 0 (by omega)
   rw [if_neg (fun e => h0 e.symm)]
   simp only [List.length_cons] at hk
   have := ih (k := k) (by omega) (fun j hj => by have := h (j + 1) (by omega); simpa using this) (by simpa using hx)
   rw [this]
   rw [if_neg (by omega)]
   omega
theorem idx_none {xs : List Int} {x : Int} (h : ∀ j (hj : j < xs.length), xs[j] ≠ x) : idx xs x = -1 := by
 have h1 := idx_ge xs x
 have h2 : ¬ 0 ≤ idx xs x := fun h3 => by
  obtain ⟨j, hj, he⟩ := List.getElem_of_mem (idx_mem.1 h3)
  exact h j hj he
 omega
theorem index_ret {xs : List Int} {w : World} {v : Value} (x : Int) (hv : RdS w v (xs.map I)) (hb : xs.length ≤ 9223372036854775807) :
  Ret Tryz.prog 79 #[v, I x] w fun r w' => r = I (idx xs x) ∧ Hp w [] w' := by
 refine Qi (args := [_, _]) func79 rfl ntmps79 results79 (by simp) ?_
 obtain ⟨ao, ca, rfl⟩ := hv.form
 simp only [List.length_map] at hv ⊢
 have H := Hp.refl w
 refine Js (Jr (Ja (Jn (Js (Js (Jr (Jm (J (Qh underlying22 rfl) (Jm (Jn (Jb ?_)))))))))))
 refine Yg [(4, 5), (8, 18)] (fun (k : Nat) E w' => k ≤ xs.length ∧ E 8 = I k ∧ (∀ j (hj : j < k) (hl : j < xs.length), xs[j] ≠ x) ∧ Hp w [] w') (fun k => xs.length - k) 0 ?e0 ?r0
 ·exact ⟨by omega, rfl, fun j hj => by omega, H⟩
 ·(clear H; rintro k E w1 ⟨hk, h0, hn, H⟩; refine Ur h0 ?_)
  refine Js (Jr (J (Vb rfl rfl) (Jn (Js (Xo rfl (fun h20 => ?_) (fun h20 => ?_))))))
  ·refine Jk (Js (Jb (Js (Jr (Jm (Ja (Jn (Js ?_))))))))
   (obtain ⟨b1, o1, rfl, hc1⟩ := hv.cell (i := k) (u := I xs[k]) (by rw [List.getElem?_map, List.getElem?_eq_getElem (by omega)]; rfl)) <;> refine Qk ?_
   refine Jm (Jm (Jm (J (Qj underlying22 sizeOf3 rfl rfl (by omega) (by omega) Xt) (J (Qx isAgg3 rfl (H.Zx hc1 kYs)) (J (Yk rfl rfl) (Jn (Xo rfl (fun h38 => ?_) (fun h38 => ?_))))))))
   ·refine Js (Jr (Jm (Ja (Jn (Je ?_)))))
    exact ⟨_, rfl, congrArg I (idx_drop (by omega) (fun j hj => hn j hj (by omega)) (by assumption)).symm, H⟩
   ·refine Jk (Jr (J (Xg rfl rfl (Xc (by omega))) (Jm (Jn ?_))))
    exact ⟨kS, k + 1, by omega, by omega, rfl, (fun j hj hl => by rcases Nat.lt_or_ge j k with h' | h'; exact hn j h' hl; obtain rfl : j = k := (by omega); exact fun e => absurd e.symm (by assumption)), H⟩
  ·refine Xr ?_
   refine (if_pos rfl).mpr ?_
   refine Js (Jr (Ja (Jn (Je ?_))))
   exact ⟨_, rfl, congrArg I (idx_none (fun j hj => hn j (by omega) hj)).symm, H⟩
theorem Nw {xs : List Int} {w : World} {v : Value} (x : Int) (hv : RdS w v (xs.map I)) (hb : xs.length ≤ 9223372036854775807) :
  Ret Tryz.prog 51 #[v, I x] w fun r w' => r = .bool (decide (x ∈ xs)) ∧ Hp w [] w' := by
 refine Qi (args := [_, _]) func51 rfl ntmps51 results51 (by simp) ?_
 have H := Hp.refl w
 (refine Js (Jr (Ja (Jn (Js (Jr (Jm (Jm (Jz rfl call79 rfl (index_ret x hv hb) H ?_)))))))); intro w9 H)
 refine J (Mi rfl rfl) (Ja (Jn (Je ?_)))
 exact ⟨_, rfl, congrArg Value.bool (decide_eq_decide.2 idx_mem), H⟩
theorem cloneI_ret {xs : List Int} {w : World} {l : Value} (hl : RdS w l (xs.map I)) (hb : xs.length ≤ 1000000) :
  Ret Tryz.prog 43 #[l] w fun v w' => ∃ M, Yo w.heap.size 3 1 v xs.length (xs.map I) M ∧ Hp w M w' := by
 refine Qi (args := [_]) func43 rfl ntmps43 results43 (by simp) ?_
 have H := Hp.refl w
 obtain ⟨ao, ca, rfl, hca, hra⟩ := id hl
 simp only [List.length_map] at hl ⊢
 cases ao with
 | none =>
  obtain rfl : xs = [] := by
   rcases hra with h | ⟨_, _, h, _⟩
   ·simpa using h
   ·cases h
  refine Js (Jr (Ja (Jn (Js (Js (Jr (Jm (J (R_eq_nils underlying22 rfl rfl) (Jn (Jd rfl (Js (Jr (Ja (Jn (Je ?_)))))))))))))))
  exact ⟨_, rfl, [], Yo.nil _ _ _, H⟩
 | some a =>
  (refine Js (Jr (Ja (Jn (Js (Js (Jr (Jm (J (R_eq_sl underlying22 rfl rfl) (Jn (Jc rfl (Jk (Js (Jr (Qb rfl (Du (vs := []) H underlying22 sizeOf3 zeroValue3 rfl rfl (by decide) rfl rfl) ?_)))))))))))))); clear H; intro b15 w15 hb15 H)
  (refine Jm (Ve rfl (Yx H .one (Yo.new (xs := []) (sp := []) (by assumption) rfl rfl (by omega)) underlying22 typeInfo3 rfl rfl rfl rfl rfl rfl ((hl.Yd H (Qu (by assumption) Xu)).src underlying22 (by simp [Value.oneCell'])) (by simp; omega) (by simp [Tryz.t3]; omega)) ?_); clear H; intro vN MN w17 hO H; rw [List.length_map, Nat.zero_add, List.nil_append] at hO; rw [List.append_nil] at H)
  refine Ja (Jn (Je ?_))
  exact ⟨_, rfl, MN, hO, H⟩
end
end Go.Proofs.YtlpmfldijgdcoaaGreatDoor.Sect
