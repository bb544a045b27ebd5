/-
  Chains of caps: how many are under one.
-/
import Derived.Test.YthonajikgljgmaaRevM
import Derived.Test.YthonajikgljgmaaCapsL
import Derived.Test.YthonajikgljgmaaCapsP
namespace Go.Proofs.Ythonajikgljgmaa.Caps
open Go Go.Proofs Go.Proofs.Ythonajikgljgmaa.Fx Go.Proofs.Ythonajikgljgmaa.TabC
set_option maxRecDepth 100000
set_option linter.unusedVariables false
set_option linter.unusedSimpArgs false

theorem seg_all {C : List (Int × Int)} {k : Nat} : seg C (k + 1) C.length = C.drop (k + 1) := by
  unfold seg; rw [List.take_length]
theorem mem_und {ts : List (List Pl)} {C : List (Int × Int)} (hC : Chain ts C) {k : Nat} {r : Int × Int} : r ∈ und C k (scan 0 ts) ↔ r ∈ C.drop (k + 1) := by
  show r ∈ List.filter _ _ ↔ _
  rw [List.mem_filter, decide_eq_true_iff, seg_all]
  exact ⟨fun h => h.2, fun h => ⟨(hC.all r).1 (List.mem_of_mem_drop h), h⟩⟩
theorem und_nodup {ts : List (List Pl)} {C : List (Int × Int)} {k : Nat} (hs : (scan 0 ts).Nodup) : (und C k (scan 0 ts)).Nodup := List.Nodup.sublist List.filter_sublist hs
/-- two rows of the same things, each once, are as long as each other -/
theorem same_length : ∀ {l m : List (Int × Int)}, l.Nodup → m.Nodup → (∀ r, r ∈ l ↔ r ∈ m) → l.length = m.length
  | [], m, _, _, h => by
    cases m with
    | nil => rfl
    | cons b m => exact absurd ((h b).2 (.head _)) (by simp)
  | a :: l, m, hl, hm, h => by
    obtain ⟨m1, m2, rfl⟩ := List.append_of_mem ((h a).1 (.head _))
    have hl' := List.nodup_cons.1 hl
    have hp : (m1 ++ a :: m2).Perm (a :: (m1 ++ m2)) := List.perm_middle
    have hm' := List.nodup_cons.1 (hp.nodup_iff.1 hm)
    have := same_length (l := l) (m := m1 ++ m2) hl'.2 hm'.2 (fun r => by
      constructor
      · intro hr
        have h1 := hp.mem_iff.1 ((h r).1 (.tail _ hr))
        rcases List.mem_cons.1 h1 with rfl | h1
        · exact absurd hr hl'.1
        · exact h1
      · intro hr
        have h1 := (h r).2 (hp.mem_iff.2 (.tail _ hr))
        rcases List.mem_cons.1 h1 with rfl | h1
        · exact absurd hr hm'.1
        · exact h1)
    rw [hp.length_eq, List.length_cons, List.length_cons, this]
theorem und_length {ts : List (List Pl)} {C : List (Int × Int)} (hC : Chain ts C) {k : Nat} (hs : (scan 0 ts).Nodup) : (und C k (scan 0 ts)).length = C.length - (k + 1) := by
  rw [same_length (und_nodup hs) (List.Nodup.sublist (List.drop_sublist _ _) hC.nd) (fun r => mem_und hC), List.length_drop]
theorem self_notin {ts : List (List Pl)} {C : List (Int × Int)} (hC : Chain ts C) {k : Nat} {r : Int × Int} (hk : C[k]? = some r) : r ∉ und C k (scan 0 ts) := by
  rw [mem_und hC, ← seg_all]
  intro h
  have := (seg_mem hC.nd hk).1 h
  omega
end Go.Proofs.Ythonajikgljgmaa.Caps

/-
  Chains of caps: what is dropped is gone.
-/
namespace Go.Proofs.Ythonajikgljgmaa.Caps
open Go Go.Proofs Go.Proofs.Ythonajikgljgmaa.Fx Go.Proofs.Ythonajikgljgmaa.TabC
set_option maxRecDepth 100000
set_option linter.unusedVariables false
set_option linter.unusedSimpArgs false

def gone (ts : List (List Pl)) (r : Int × Int) : Prop := ∀ (e : Nat) (t : List Pl) (i : Nat) (a : Pl), ts[e]? = some t → t[i]? = some a → a.u = true → r ≠ ((e : Int), ((i + 256 * a.g : Nat) : Int))
theorem get_after {ts : List (List Pl)} {e i e2 i2 : Nat} {t t2 : List Pl} {x a2 : Pl} (ht : ts[e]? = some t) (hx : x.u = false) (h1 : (ts.set e (t.set i x))[e2]? = some t2) (h2 : t2[i2]? = some a2) (hu : a2.u = true) :
    ∃ t3, ts[e2]? = some t3 ∧ t3[i2]? = some a2 ∧ (e = e2 → i ≠ i2) := by
  have he := (List.getElem?_eq_some_iff.1 ht).1
  by_cases hee : e = e2
  · subst hee
    rw [List.getElem?_set_self he] at h1; cases h1
    by_cases hii : i = i2
    · subst hii
      rw [List.getElem?_set] at h2
      simp only [if_true] at h2
      split at h2
      · cases h2; rw [hx] at hu; cases hu
      · cases h2
    · rw [List.getElem?_set_ne hii] at h2
      exact ⟨t, ht, h2, fun _ => hii⟩
  · rw [List.getElem?_set_ne hee] at h1
    exact ⟨t2, h1, h2, fun h => (hee h).elim⟩
theorem Dropped.gone {ts ts' : List (List Pl)} {D : List (Int × Int)} (h : Dropped ts D ts') (hl : ∀ t ∈ ts, t.length = 32) {r : Int × Int} (hr : r ∈ D) : gone ts' r := by
  suffices H : (∀ t ∈ ts', t.length = 32) ∧ (∀ r ∈ D, Caps.gone ts' r) from H.2 r hr
  clear hr
  induction h with
  | nil => exact ⟨hl, fun r hr => nomatch hr⟩
  | @snoc ts1 D e i t a h ht ha hu ih =>
    obtain ⟨h1, h2⟩ := ih
    refine ⟨fun x hx => ?_, fun r hr => ?_⟩
    · rcases List.mem_or_eq_of_mem_set hx with hh | rfl
      · exact h1 x hh
      · rw [List.length_set]; exact h1 t (List.mem_of_getElem? ht)
    · intro e2 t2 i2 a2 g1 g2 g3
      obtain ⟨t3, k1, k2, k3⟩ := get_after ht rfl g1 g2 g3
      rcases List.mem_append.1 hr with hh | hh
      · exact h2 r hh e2 t3 i2 a2 k1 k2 g3
      · rw [List.mem_singleton.1 hh]
        intro heq
        obtain ⟨q1, q2⟩ := Prod.mk.inj heq
        have hee : e = e2 := by omega
        subst hee
        rw [ht] at k1; cases k1
        have hi := (List.getElem?_eq_some_iff.1 ha).1
        have hi2 := (List.getElem?_eq_some_iff.1 k2).1
        rw [h1 t (List.mem_of_getElem? ht)] at hi hi2
        exact k3 rfl (by omega)
end Go.Proofs.Ythonajikgljgmaa.Caps

/-
  Chains of caps: one more.
-/
namespace Go.Proofs.Ythonajikgljgmaa.Caps
open Go Go.Proofs Go.Proofs.Ythonajikgljgmaa.Fx Go.Proofs.Ythonajikgljgmaa.TabC
set_option maxRecDepth 100000
set_option linter.unusedVariables false
set_option linter.unusedSimpArgs false

theorem names_of {l : List Pl} : ∀ (k i : Nat) (a : Pl), l[i]? = some a → a.u = true → ((k + i + 256 * a.g : Nat) : Int) ∈ namesFrom k l := by
  induction l with
  | nil => intro k i a h; simp at h
  | cons b l ih =>
    intro k i a h hu
    unfold namesFrom
    cases i with
    | zero =>
      cases h
      rw [if_pos hu]; exact .head _
    | succ i =>
      have := ih (k + 1) i a (by simpa using h) hu
      rw [show k + 1 + i = k + (i + 1) from by omega] at this
      split
      · exact .tail _ this
      · exact this
theorem has_scan_aux : ∀ (l : List (List Pl)) (e d : Nat) (t : List Pl) (i : Nat) (a : Pl), l[d]? = some t → t[i]? = some a → a.u = true → (((e + d : Nat) : Int), ((i + 256 * a.g : Nat) : Int)) ∈ scan e l
  | [], _, _, _, _, _, h, _, _ => by simp at h
  | t0 :: l, e, 0, t, i, a, h, h2, hu => by
    cases h
    rw [scan]
    refine List.mem_append_left _ (List.mem_map.2 ⟨_, ?_, rfl⟩)
    have := names_of 0 i a h2 hu
    rwa [Nat.zero_add] at this
  | t0 :: l, e, d + 1, t, i, a, h, h2, hu => by
    rw [scan]
    refine List.mem_append_right _ ?_
    have := has_scan_aux l (e + 1) d t i a (by simpa using h) h2 hu
    rwa [show e + 1 + d = e + (d + 1) from by omega] at this
theorem has_scan {ts : List (List Pl)} {r : Int × Int} : has ts r ↔ r ∈ scan 0 ts := by
  constructor
  · rintro ⟨e, t, i, a, h1, h2, h3, rfl⟩
    have := has_scan_aux ts 0 e t i a h1 h2 h3
    rwa [Nat.zero_add] at this
  · exact scan_has
end Go.Proofs.Ythonajikgljgmaa.Caps

/-
  Chains of caps: a chain grows.
-/
namespace Go.Proofs.Ythonajikgljgmaa.Caps
open Go Go.Proofs Go.Proofs.Ythonajikgljgmaa.Fx Go.Proofs.Ythonajikgljgmaa.TabC
set_option maxRecDepth 100000
set_option linter.unusedVariables false
set_option linter.unusedSimpArgs false

theorem place_set {ts : List (List Pl)} {e i e2 i2 : Nat} {t t2 : List Pl} {x a2 : Pl} (ht : ts[e]? = some t) (h1 : (ts.set e (t.set i x))[e2]? = some t2) (h2 : t2[i2]? = some a2) :
    (e2 = e ∧ i2 = i ∧ a2 = x) ∨ (¬ (e2 = e ∧ i2 = i) ∧ ∃ t3, ts[e2]? = some t3 ∧ t3[i2]? = some a2) := by
  have he := (List.getElem?_eq_some_iff.1 ht).1
  by_cases hee : e = e2
  · subst hee
    rw [List.getElem?_set_self he] at h1; cases h1
    by_cases hii : i = i2
    · subst hii
      have hl := (List.getElem?_eq_some_iff.1 h2).1
      rw [List.length_set] at hl
      rw [List.getElem?_set_self hl] at h2; cases h2
      exact .inl ⟨rfl, rfl, rfl⟩
    · rw [List.getElem?_set_ne hii] at h2
      exact .inr ⟨fun h => hii h.2.symm, t, ht, h2⟩
  · rw [List.getElem?_set_ne hee] at h1
    exact .inr ⟨fun h => hee h.1.symm, t2, h1, h2⟩
theorem has_set {ts : List (List Pl)} {e i : Nat} {t : List Pl} {a x : Pl} {r : Int × Int} (ht : ts[e]? = some t) (ha : t[i]? = some a) (hf : a.u = false) (hx : x.u = true) (hxg : x.g = a.g) :
    has (ts.set e (t.set i x)) r ↔ has ts r ∨ r = ((e : Int), ((i + 256 * a.g : Nat) : Int)) := by
  have he := (List.getElem?_eq_some_iff.1 ht).1
  have hi := (List.getElem?_eq_some_iff.1 ha).1
  constructor
  · rintro ⟨e2, t2, i2, a2, h1, h2, h3, rfl⟩
    rcases place_set ht h1 h2 with ⟨rfl, rfl, rfl⟩ | ⟨_, t3, k1, k2⟩
    · right; rw [hxg]
    · exact .inl ⟨e2, t3, i2, a2, k1, k2, h3, rfl⟩
  · rintro (⟨e2, t2, i2, a2, h1, h2, h3, rfl⟩ | rfl)
    · by_cases hee : e = e2
      · subst hee
        rw [ht] at h1; cases h1
        have hii : i ≠ i2 := by
          rintro rfl
          rw [ha] at h2; cases h2; rw [hf] at h3; cases h3
        exact ⟨e, _, i2, a2, List.getElem?_set_self he, by rw [List.getElem?_set_ne hii]; exact h2, h3, rfl⟩
      · exact ⟨e2, t2, i2, a2, by rw [List.getElem?_set_ne hee]; exact h1, h2, h3, rfl⟩
    · exact ⟨e, _, i, x, List.getElem?_set_self he, List.getElem?_set_self hi, hx, by rw [hxg]⟩
theorem new_out {ts : List (List Pl)} {C : List (Int × Int)} {e i : Nat} {t : List Pl} {a : Pl} (hC : Chain ts C) (hl : ∀ t ∈ ts, t.length = 32) (ht : ts[e]? = some t) (ha : t[i]? = some a) (hf : a.u = false) : ((e : Int), ((i + 256 * a.g : Nat) : Int)) ∉ C := by
  intro hm
  obtain ⟨e2, t2, i2, a2, h1, h2, h3, h4⟩ := has_scan.2 ((hC.all _).1 hm)
  obtain ⟨q1, q2⟩ := Prod.mk.inj h4
  have hee : e = e2 := by omega
  subst hee
  rw [ht] at h1; cases h1
  have hi := (List.getElem?_eq_some_iff.1 ha).1
  have hi2 := (List.getElem?_eq_some_iff.1 h2).1
  rw [hl t (List.mem_of_getElem? ht)] at hi hi2
  have hii : i = i2 := by omega
  subst hii
  rw [ha] at h2; cases h2
  rw [hf] at h3; cases h3
theorem Chain.grow {ts : List (List Pl)} {C : List (Int × Int)} {e i : Nat} {t : List Pl} {a : Pl} {o r l n : Int} {p : Int × Int} (hC : Chain ts C) (hl : ∀ t ∈ ts, t.length = 32) (hC0 : 0 < C.length) (hp : C[C.length - 1]? = some p) (ht : ts[e]? = some t) (ha : t[i]? = some a) (hf : a.u = false) (hg : 0 < a.g) :
    Chain (ts.set e (t.set i ⟨cp o r l n p.1 p.2, a.g, true⟩)) (C ++ [((e : Int), ((i + 256 * a.g : Nat) : Int))]) := by
  have hout := new_out hC hl ht ha hf
  refine ⟨?_, fun x => ?_, fun x hx => ?_, fun e2 t2 i2 a2 h1 h2 h3 => ?_⟩
  · rw [List.nodup_append]
    exact ⟨hC.nd, by simp, fun x hx y hy hxy => by rw [List.mem_singleton.1 hy] at hxy; exact hout (hxy ▸ hx)⟩
  · have h1 := has_set (r := x) (x := ⟨cp o r l n p.1 p.2, a.g, true⟩) ht ha hf rfl rfl
    rw [List.mem_append, List.mem_singleton, hC.all, ← has_scan, ← has_scan, h1]
  · rcases List.mem_append.1 hx with h | h
    · exact hC.pos x h
    · rw [List.mem_singleton.1 h]; show (0 : Int) < ((i + 256 * a.g : Nat) : Int); omega
  · rcases place_set ht h1 h2 with ⟨rfl, rfl, rfl⟩ | ⟨_, t3, k1, k2⟩
    · exact ⟨o, r, l, n, p, rfl, C.length, by rw [List.getElem?_append_right (Nat.le_refl _), Nat.sub_self]; rfl, .inr ⟨hC0, by rw [List.getElem?_append_left (by omega)]; exact hp⟩⟩
    · obtain ⟨o2, r2, l2, n2, x, hv, j, hj, hr⟩ := hC.root e2 t3 i2 a2 k1 k2 h3
      have hjl := (List.getElem?_eq_some_iff.1 hj).1
      refine ⟨o2, r2, l2, n2, x, hv, j, by rw [List.getElem?_append_left hjl]; exact hj, ?_⟩
      rcases hr with hr | ⟨h0, hr⟩
      · exact .inl hr
      · exact .inr ⟨h0, by rw [List.getElem?_append_left (by omega)]; exact hr⟩
end Go.Proofs.Ythonajikgljgmaa.Caps

/-
  Tables of one generation: their refs rise.
-/
namespace Go.Proofs.Ythonajikgljgmaa.Caps
open Go Go.Proofs Go.Proofs.Ythonajikgljgmaa.Fx Go.Proofs.Ythonajikgljgmaa.TabC
set_option maxRecDepth 100000
set_option linter.unusedVariables false
set_option linter.unusedSimpArgs false

def lt2 (a b : Int × Int) : Prop := a.1 < b.1 ∨ (a.1 = b.1 ∧ a.2 < b.2)
theorem names_low {G : Nat} : ∀ (l : List Pl) (k : Nat), (∀ a ∈ l, a.g = G) → ∀ m ∈ namesFrom k l, ((k + 256 * G : Nat) : Int) ≤ m
  | [], _, _, m, h => by simp [namesFrom] at h
  | a :: l, k, hG, m, h => by
    have hg := hG a (.head _)
    have ih := names_low l (k + 1) (fun b hb => hG b (.tail _ hb))
    unfold namesFrom at h
    split at h
    · rcases List.mem_cons.1 h with rfl | h
      · rw [hg]; exact Int.le_refl _
      · have := ih m h; omega
    · have := ih m h; omega
theorem names_rise {G : Nat} : ∀ (l : List Pl) (k : Nat), (∀ a ∈ l, a.g = G) → (namesFrom k l).Pairwise (· < ·)
  | [], _, _ => by simp [namesFrom]
  | a :: l, k, hG => by
    have hg := hG a (.head _)
    have ih := names_rise l (k + 1) (fun b hb => hG b (.tail _ hb))
    unfold namesFrom
    split
    · refine List.pairwise_cons.2 ⟨fun m hm => ?_, ih⟩
      have := names_low l (k + 1) (fun b hb => hG b (.tail _ hb)) m hm
      rw [hg]; omega
    · exact ih
theorem scan_low : ∀ (ts : List (List Pl)) (e : Nat), ∀ r ∈ scan e ts, (e : Int) ≤ r.1
  | [], _, r, h => by simp [scan] at h
  | t :: ts, e, r, h => by
    rw [scan] at h
    rcases List.mem_append.1 h with h | h
    · obtain ⟨m, _, rfl⟩ := List.mem_map.1 h; exact Int.le_refl _
    · have := scan_low ts (e + 1) r h; omega
theorem scan_rise {G : Nat} : ∀ (ts : List (List Pl)) (e : Nat), (∀ t ∈ ts, ∀ a ∈ t, a.g = G) → (scan e ts).Pairwise lt2
  | [], _, _ => by simp [scan]
  | t :: ts, e, hG => by
    rw [scan]
    refine List.pairwise_append.2 ⟨?_, scan_rise ts (e + 1) (fun x hx => hG x (.tail _ hx)), fun a ha b hb => ?_⟩
    · exact List.pairwise_map.2 ((names_rise t 0 (hG t (.head _))).imp (fun h => .inr ⟨rfl, h⟩))
    · obtain ⟨m, _, rfl⟩ := List.mem_map.1 ha
      have := scan_low ts (e + 1) b hb
      exact .inl (by show (e : Int) < b.1; omega)
theorem rise_nodup {l : List (Int × Int)} (h : l.Pairwise lt2) : l.Nodup := h.imp (fun {a b} hab e => by subst e; rcases hab with h | ⟨_, h⟩ <;> omega)
theorem rise_up {l : List (Int × Int)} (h : l.Pairwise lt2) (hb : ∀ a ∈ l, 0 ≤ a.1 ∧ a.1 ≤ 100 ∧ 0 ≤ a.2 ∧ a.2 ≤ 1000000000) : Up l := by
  refine ⟨fun i j a b hij hi hj => ?_, hb⟩
  rcases Nat.lt_or_ge i j with hlt | hge
  · have h1 := List.getElem?_eq_some_iff.1 hi
    have h2 := List.getElem?_eq_some_iff.1 hj
    have := List.pairwise_iff_getElem.1 h _ _ h1.1 h2.1 hlt
    rw [h1.2, h2.2] at this
    rcases this with h | ⟨h, h'⟩
    · exact .inl h
    · exact .inr ⟨h, by omega⟩
  · obtain rfl : i = j := by omega
    rw [hi] at hj; cases hj
    exact .inr ⟨rfl, Int.le_refl _⟩
theorem und_rise {C : List (Int × Int)} {k : Nat} {l : List (Int × Int)} (h : l.Pairwise lt2) : (und C k l).Pairwise lt2 := h.sublist List.filter_sublist
end Go.Proofs.Ythonajikgljgmaa.Caps

/-
  Chains of caps: one cap to begin with; room for one more; what is seen behind the drops.
-/
namespace Go.Proofs.Ythonajikgljgmaa.Caps
open Go Go.Proofs Go.Proofs.Ythonajikgljgmaa.Fx Go.Proofs.Ythonajikgljgmaa.TabC Go.Proofs.Ythonajikgljgmaa.Reg
set_option maxRecDepth 100000
set_option linter.unusedVariables false
set_option linter.unusedSimpArgs false

/-- tables of new generations with a chain in them, whose last cap is known -/
structure Lk (ts : List (List Pl)) (C : List (Int × Int)) (r : Nat) (lo n : Int) : Prop where
  len : ts.length = 5
  sz : ∀ t ∈ ts, t.length = 32
  g1 : ∀ t ∈ ts, ∀ a ∈ t, a.g = newPl.g
  ch : Chain ts C
  pos : 0 < C.length
  last : ∃ (e i : Nat) (t : List Pl) (re rn : Int), ts[e]? = some t ∧ t[i]? = some ⟨cp 9 (r : Int) lo n re rn, newPl.g, true⟩ ∧ C[C.length - 1]? = some ((e : Int), ((i + 256 * newPl.g : Nat) : Int))
  hr : r < 8
  hl : 100 ≤ lo
  hn : 0 ≤ n
  hln : lo + n ≤ 1100

theorem Lk.inv {ts : List (List Pl)} {C : List (Int × Int)} {r : Nat} {lo n : Int} (h : Lk ts C r lo n) {PB : List (Nat × Nat)} (hP : PB.length = 5) : Inv PB ts :=
  ⟨by rw [h.len, hP], h.sz, fun t ht a ha => by rw [h.g1 t ht a ha]; decide⟩
theorem Lk.scanlen {ts : List (List Pl)} {C : List (Int × Int)} {r : Nat} {lo n : Int} (h : Lk ts C r lo n) : (scan 0 ts).length = C.length :=
  same_length (rise_nodup (scan_rise ts 0 h.g1)) h.ch.nd (fun x => (h.ch.all x).symm)
theorem full_names : ∀ (t : List Pl) (k : Nat), (∀ a ∈ t, a.u = true) → (namesFrom k t).length = t.length
  | [], k, _ => by simp [namesFrom]
  | a :: t, k, h => by
    unfold namesFrom
    rw [if_pos (h a (.head _)), List.length_cons, List.length_cons, full_names t (k + 1) (fun b hb => h b (.tail _ hb))]
theorem scan_ge : ∀ (ts : List (List Pl)) (e d : Nat) (t : List Pl), ts[d]? = some t → (namesFrom 0 t).length ≤ (scan e ts).length
  | [], _, d, t, h => by simp at h
  | t0 :: ts, e, 0, t, h => by
    cases h
    rw [scan, List.length_append, rowOf, List.length_map]; omega
  | t0 :: ts, e, d + 1, t, h => by
    have := scan_ge ts (e + 1) d t (by simpa using h)
    rw [scan, List.length_append]; omega
/-- there is room in each table -/
theorem Lk.room {ts : List (List Pl)} {C : List (Int × Int)} {r : Nat} {lo n : Int} (h : Lk ts C r lo n) (hC : C.length ≤ 30) {e : Nat} {t : List Pl} (ht : ts[e]? = some t) :
    ∃ (i : Nat) (a : Pl), t[i]? = some a ∧ free a ∧ a.g = newPl.g ∧ i < 32 ∧ ∀ (j : Nat) (a' : Pl), j < i → t[j]? = some a' → ¬ free a' := by
  have htm := List.mem_of_getElem? ht
  rcases first_free t with ⟨i, a, h1, h2, h3⟩ | hno
  · exact ⟨i, a, h1, h2, h.g1 t htm a (List.mem_of_getElem? h1), by have := (List.getElem?_eq_some_iff.1 h1).1; rw [h.sz t htm] at this; exact this, h3⟩
  · have hu : ∀ a ∈ t, a.u = true := fun a ha => by
      cases hau : a.u with
      | true => rfl
      | false => exact absurd (show free a from ⟨hau, by rw [h.g1 t htm a ha]; decide⟩) (hno a ha)
    have h1 := full_names t 0 hu
    have h2 := scan_ge ts 0 e t ht
    rw [h.scanlen] at h2
    rw [h.sz t htm] at h1
    omega
/-- one more is granted of the last -/
theorem Lk.grow {ts : List (List Pl)} {C : List (Int × Int)} {r : Nat} {lo n : Int} (h : Lk ts C r lo n) {e i : Nat} {t : List Pl} {a : Pl} {r2 : Nat} {l2 n2 : Int} {p : Int × Int} (hp : C[C.length - 1]? = some p) (ht : ts[e]? = some t) (ha : t[i]? = some a) (hf : free a) (hr : r2 < 8)
    (h1 : 0 ≤ l2) (h2 : 0 ≤ n2) (h3 : l2 ≤ n) (h4 : n2 ≤ n - l2) : Lk (ts.set e (t.set i ⟨cp 9 (r2 : Int) (lo + l2) n2 p.1 p.2, newPl.g, true⟩)) (C ++ [((e : Int), ((i + 256 * newPl.g : Nat) : Int))]) r2 (lo + l2) n2 := by
  have htm := List.mem_of_getElem? ht
  have hag := h.g1 t htm a (List.mem_of_getElem? ha)
  have hel := (List.getElem?_eq_some_iff.1 ht).1
  have hil := (List.getElem?_eq_some_iff.1 ha).1
  have hgr := h.ch.grow (o := 9) (r := (r2 : Int)) (l := lo + l2) (n := n2) h.sz h.pos hp ht ha hf.1 (by rw [hag]; decide)
  rw [hag] at hgr
  refine ⟨by rw [List.length_set]; exact h.len, fun x hx => ?_, fun x hx b hb => ?_, hgr, by simp, ?_, hr, by have := h.hl; omega, h2, by have := h.hln; omega⟩
  · rcases List.mem_or_eq_of_mem_set hx with hh | rfl
    · exact h.sz x hh
    · rw [List.length_set]; exact h.sz t htm
  · rcases List.mem_or_eq_of_mem_set hx with hh | rfl
    · exact h.g1 x hh b hb
    · rcases List.mem_or_eq_of_mem_set hb with hh | rfl
      · exact h.g1 t htm b hh
      · rfl
  · exact ⟨e, i, _, p.1, p.2, List.getElem?_set_self hel, List.getElem?_set_self hil, by rw [show (C ++ [((e : Int), ((i + 256 * newPl.g : Nat) : Int))]).length - 1 = C.length from by simp, List.getElem?_append_right (Nat.le_refl _), Nat.sub_self]; rfl⟩
theorem names_new (n k : Nat) : namesFrom k (List.replicate n newPl) = [] := List.length_eq_zero_iff.1 (names_rep0 n k)
/-- one cap to begin with -/
theorem Lk.start : Lk ([t0, t0, t0, t0, t0].set 0 (t0.set 0 ⟨cp 9 (7 : Nat) 100 1000 0 0, newPl.g, true⟩)) [((0 : Int), ((0 + 256 * newPl.g : Nat) : Int))] 7 100 1000 := by
  have hs : scan 0 ([t0, t0, t0, t0, t0].set 0 (t0.set 0 ⟨cp 9 (7 : Nat) 100 1000 0 0, newPl.g, true⟩)) = [((0 : Int), ((0 + 256 * newPl.g : Nat) : Int))] := by
    have e0 : namesFrom 0 (t0.set 0 ⟨cp 9 (7 : Nat) 100 1000 0 0, newPl.g, true⟩) = [((0 + 256 * newPl.g : Nat) : Int)] := by
      show namesFrom 0 (⟨cp 9 (7 : Nat) 100 1000 0 0, newPl.g, true⟩ :: List.replicate 31 newPl) = _
      unfold namesFrom
      rw [if_pos rfl, names_new]
    have e1 : namesFrom 0 t0 = [] := names_new 32 0
    show rowOf 0 (t0.set 0 ⟨cp 9 (7 : Nat) 100 1000 0 0, newPl.g, true⟩) ++ (rowOf 1 t0 ++ (rowOf 2 t0 ++ (rowOf 3 t0 ++ (rowOf 4 t0 ++ [])))) = _
    unfold rowOf
    rw [e0, e1]; rfl
  have ht0 : ∀ a ∈ t0, a = newPl := fun a ha => List.eq_of_mem_replicate ha
  refine ⟨rfl, ?_, ?_, ⟨by simp, fun r => by rw [hs], fun r hr => by rw [List.mem_singleton.1 hr]; decide, ?_⟩, by simp, ⟨0, 0, _, 0, 0, rfl, rfl, rfl⟩, by decide, by decide, by decide, by decide⟩
  · intro t ht
    simp only [List.set_cons_zero, List.mem_cons, List.not_mem_nil, or_false] at ht
    rcases ht with rfl | rfl | rfl | rfl | rfl <;> simp [t0]
  · intro t ht a ha
    rcases List.mem_or_eq_of_mem_set ht with hh | rfl
    · simp only [List.mem_cons, List.not_mem_nil, or_false] at hh
      rcases hh with rfl | rfl | rfl | rfl | rfl <;> rw [ht0 a ha]
    · rcases List.mem_or_eq_of_mem_set ha with hh | rfl
      · rw [ht0 a hh]
      · rfl
  · intro e t i a h1 h2 hu
    have hm := has_scan.1 ⟨e, t, i, a, h1, h2, hu, rfl⟩
    rw [hs] at hm
    have hm' := List.mem_singleton.1 hm
    obtain ⟨q1, q2⟩ := Prod.mk.inj hm'
    have he : e = 0 := by omega
    subst he
    have htm : t = t0.set 0 ⟨cp 9 (7 : Nat) 100 1000 0 0, newPl.g, true⟩ := by simpa using h1.symm
    subst htm
    have hi32 := (List.getElem?_eq_some_iff.1 h2).1
    rw [List.length_set] at hi32
    have hag : a.g = newPl.g := by
      rcases List.mem_or_eq_of_mem_set (List.mem_of_getElem? h2) with hh | rfl
      · rw [ht0 a hh]
      · rfl
    rw [hag] at q2
    have hi0 : i = 0 := by omega
    subst hi0
    cases h2
    exact ⟨9, (7 : Nat), 100, 1000, (0, 0), rfl, 0, rfl, .inl ⟨rfl, rfl⟩⟩
theorem und_up {ts : List (List Pl)} {C : List (Int × Int)} {r : Nat} {lo n : Int} (h : Lk ts C r lo n) {k : Nat} : Up (und C k (scan 0 ts)) := by
  refine rise_up (und_rise (scan_rise ts 0 h.g1)) (fun x hx => ?_)
  obtain ⟨e, t, i, a, h1, h2, h3, rfl⟩ := scan_has (List.mem_filter.1 (show x ∈ List.filter _ _ from hx)).1
  have h4 := (List.getElem?_eq_some_iff.1 h1).1
  have h5 := (List.getElem?_eq_some_iff.1 h2).1
  rw [h.len] at h4
  rw [h.sz t (List.mem_of_getElem? h1)] at h5
  have h6 := h.g1 t (List.mem_of_getElem? h1) a (List.mem_of_getElem? h2)
  have h7 : newPl.g = 1 := rfl
  rw [h6, h7]
  refine ⟨?_, ?_, ?_, ?_⟩ <;> show _ ≤ _ <;> omega
/-- a ref of the chain is at a place -/
theorem Lk.at {ts : List (List Pl)} {C : List (Int × Int)} {r : Nat} {lo n : Int} (h : Lk ts C r lo n) {k : Nat} (hk : k < C.length) : ∃ (e i : Nat) (t : List Pl) (a : Pl), ts[e]? = some t ∧ t[i]? = some a ∧ a.u = true ∧ e < 5 ∧ i < 32 ∧ a.g = newPl.g ∧ C[k]? = some ((e : Int), ((i + 256 * newPl.g : Nat) : Int)) := by
  obtain ⟨e, t, i, a, h1, h2, h3, h4⟩ := has_scan.2 ((h.ch.all _).1 (List.getElem_mem hk))
  have h5 := (List.getElem?_eq_some_iff.1 h1).1
  have h6 := (List.getElem?_eq_some_iff.1 h2).1
  rw [h.len] at h5
  rw [h.sz t (List.mem_of_getElem? h1)] at h6
  have hg := h.g1 t (List.mem_of_getElem? h1) a (List.mem_of_getElem? h2)
  exact ⟨e, i, t, a, h1, h2, h3, h5, h6, hg, by rw [List.getElem?_eq_getElem hk, h4, hg]⟩
/-- behind a revoke: what is ahead is there, the others are not -/
theorem Lk.behind {ts ts' : List (List Pl)} {C : List (Int × Int)} {r : Nat} {lo n : Int} (h : Lk ts C r lo n) {k : Nat} {x : Int × Int} (hk : C[k]? = some x) (hD : Dropped ts (und C k (scan 0 ts) ++ [x]) ts') {j : Nat} {y : Int × Int} (hj : C[j]? = some y) :
    (j < k → has ts' y) ∧ (k ≤ j → gone ts' y) := by
  have hcases : y ∈ und C k (scan 0 ts) ++ [x] ↔ k ≤ j := by
    rw [List.mem_append, mem_und h.ch, ← seg_all, seg_mem h.ch.nd hj, List.mem_singleton]
    have hjl := (List.getElem?_eq_some_iff.1 hj).1
    constructor
    · rintro (h1 | rfl)
      · omega
      · by_cases hjk : j = k
        · omega
        · exact (chain_ne h.ch hj hk hjk).elim
    · intro h1
      by_cases hjk : j = k
      · subst hjk; rw [hj] at hk; cases hk; exact .inr rfl
      · exact .inl (by omega)
  constructor
  · intro h1
    exact hD.keeps (has_scan.2 ((h.ch.all _).1 (List.mem_of_getElem? hj))) (fun hm => by have := hcases.1 hm; omega)
  · intro h1
    exact hD.gone h.sz (hcases.2 h1)
end Go.Proofs.Ythonajikgljgmaa.Caps
