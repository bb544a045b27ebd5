/-
  What a piece of memory holds, block by block, and how it passes from world to world.
-/
import Derived.Test.YthonajikgljgmaaFxA
namespace Go.Proofs.Ythonajikgljgmaa.Fx
open Go

/-- The world w is w0 but for the blocks of L, which hold what L says; blocks that w0 did not have may be there besides. -/
structure Hp (w0 : World) (L : List (Nat × Obj)) (w : World) : Prop where
  os : w.os = w0.os
  tape : w.tape = w0.tape
  output : w.output = w0.output
  size : w0.heap.size ≤ w.heap.size
  old : ∀ k, k < w0.heap.size → k ∉ L.map (·.1) → w.heap[k]? = w0.heap[k]?
  held : ∀ p ∈ L, w.heap[p.1]? = some p.2
  nodup : (L.map (·.1)).Nodup

theorem Hp.refl (w : World) : Hp w [] w := ⟨rfl, rfl, rfl, Nat.le_refl _, fun _ _ _ => rfl, (fun _ h => nomatch h), List.nodup_nil⟩

theorem lt_of_some {w : World} {b : Nat} {o : Obj} (h : w.heap[b]? = some o) : b < w.heap.size := (Array.getElem?_eq_some_iff.1 h).1

/-- A block that is known comes into sight. -/
theorem Hp.focus {w0 w : World} {L : List (Nat × Obj)} (H : Hp w0 L w) {b : Nat} {o : Obj} (hb : w.heap[b]? = some o) (hn : b ∉ L.map (·.1)) : Hp w0 ((b, o) :: L) w := by
  refine ⟨H.os, H.tape, H.output, H.size, fun k hk hn' => H.old k hk (fun h => hn' (.tail _ h)), ?_, List.nodup_cons.2 ⟨hn, H.nodup⟩⟩
  intro p hp
  rcases List.mem_cons.1 hp with rfl | hp
  · exact hb
  · exact H.held p hp

theorem Hp.focus0 {w : World} {b : Nat} {o : Obj} (hb : w.heap[b]? = some o) : Hp w [(b, o)] w := by
  exact (Hp.refl w).focus hb (by simp)

/-- The place of a block in the list, and the list with something else in that place. -/
inductive At : List (Nat × Obj) → Nat → Obj → (Obj → List (Nat × Obj)) → Prop
  | here {b o L} : At ((b, o) :: L) b o (fun o' => (b, o') :: L)
  | there {b o L p f} : At L b o f → At (p :: L) b o (fun o' => p :: f o')

/-- The place of a part of the list, and the list with another part in that place. -/
inductive AtM : List (Nat × Obj) → List (Nat × Obj) → (List (Nat × Obj) → List (Nat × Obj)) → Prop
  | last {M} : AtM M M (fun M' => M')
  | here {M B} : AtM (M ++ B) M (fun M' => M' ++ B)
  | there {L M p f} : AtM L M f → AtM (p :: L) M (fun M' => p :: f M')

theorem AtM.split {L M f} (h : AtM L M f) : ∃ A B, L = A ++ (M ++ B) ∧ ∀ M', f M' = A ++ (M' ++ B) := by
  induction h with
  | last => exact ⟨[], [], by simp, fun _ => by simp⟩
  | @here M B => exact ⟨[], B, rfl, fun _ => rfl⟩
  | @there L M p f _ ih =>
    obtain ⟨A, B, e, h⟩ := ih
    exact ⟨p :: A, B, by rw [e]; rfl, fun M' => congrArg (p :: ·) (h M')⟩

theorem At.mem {L b o f} (h : At L b o f) : (b, o) ∈ L := by
  induction h with
  | here => exact .head _
  | there _ ih => exact .tail _ ih

theorem At.keys {L b o f} (h : At L b o f) (o' : Obj) : (f o').map (·.1) = L.map (·.1) := by
  induction h with
  | here => rfl
  | there _ ih => simp [ih]

theorem At.mem_set {L b o f} (h : At L b o f) {o' : Obj} (hn : (L.map (·.1)).Nodup) {p : Nat × Obj} (hp : p ∈ f o') : p = (b, o') ∨ (p ∈ L ∧ p.1 ≠ b) := by
  induction h with
  | @here b o L =>
    rcases List.mem_cons.1 hp with hp | hp
    · exact .inl hp
    · refine .inr ⟨.tail _ hp, fun e => ?_⟩
      simp only [List.map_cons, List.nodup_cons] at hn
      exact hn.1 (e ▸ List.mem_map_of_mem hp)
  | @there b o L q f h ih =>
    simp only [List.map_cons, List.nodup_cons] at hn
    rcases List.mem_cons.1 hp with hp | hp
    · refine .inr ⟨by rw [hp]; exact .head _, fun e => hn.1 ?_⟩
      rw [← hp, e]
      exact List.mem_map_of_mem (f := (·.1)) h.mem
    · rcases ih hn.2 hp with h | ⟨h, h'⟩
      · exact .inl h
      · exact .inr ⟨.tail _ h, h'⟩

theorem Hp.get {w0 w : World} {L b o f} (H : Hp w0 L w) (h : At L b o f) : w.heap[b]? = some o := H.held _ h.mem

/-- From a world to a later one: a block has turned. -/
theorem Hp.put {w0 w w' : World} {L b o f} (H : Hp w0 L w) (h : At L b o f) {o' : Obj} (hos : w'.os = w.os) (htape : w'.tape = w.tape) (hout : w'.output = w.output)
    (hsize : w.heap.size ≤ w'.heap.size) (hsame : ∀ k, k < w.heap.size → k ≠ b → w'.heap[k]? = w.heap[k]?) (hb : w'.heap[b]? = some o') : Hp w0 (f o') w' := by
  refine ⟨hos.trans H.os, htape.trans H.tape, hout.trans H.output, Nat.le_trans H.size hsize, ?_, ?_, ?_⟩
  · intro k hk hn
    rw [h.keys] at hn
    have hkb : k ≠ b := fun e => hn (e ▸ List.mem_map_of_mem (f := (·.1)) h.mem)
    rw [hsame k (Nat.lt_of_lt_of_le hk H.size) hkb]
    exact H.old k hk hn
  · intro p hp
    rcases h.mem_set H.nodup hp with rfl | ⟨hp, hne⟩
    · exact hb
    · rw [hsame p.1 (lt_of_some (H.held p hp)) hne]
      exact H.held p hp
  · rw [h.keys]; exact H.nodup

/-- Nothing that was there has turned. -/
theorem Hp.same {w0 w w' : World} {L} (H : Hp w0 L w) (hos : w'.os = w.os) (htape : w'.tape = w.tape) (hout : w'.output = w.output)
    (hsize : w.heap.size ≤ w'.heap.size) (hsame : ∀ k, k < w.heap.size → w'.heap[k]? = w.heap[k]?) : Hp w0 L w' :=
  ⟨hos.trans H.os, htape.trans H.tape, hout.trans H.output, Nat.le_trans H.size hsize, fun k hk hn => by rw [hsame k (Nat.lt_of_lt_of_le hk H.size)]; exact H.old k hk hn,
    fun p hp => by rw [hsame p.1 (lt_of_some (H.held p hp))]; exact H.held p hp, H.nodup⟩

theorem Hp.drew {w0 w : World} {L} (H : Hp w0 L w) : Hp w0 L w.drew := ⟨H.os, H.tape, H.output, H.size, H.old, H.held, H.nodup⟩
theorem Hp.drawn {w0 w : World} {L} (H : Hp w0 L w) (n : Nat) : Hp w0 L { w with drawn := n } := ⟨H.os, H.tape, H.output, H.size, H.old, H.held, H.nodup⟩

theorem Hp.fresh {w0 w : World} {L} (H : Hp w0 L w) {k : Nat} (hk : w.heap.size ≤ k) : k ∉ L.map (·.1) := by
  intro h
  obtain ⟨p, hp, rfl⟩ := List.mem_map.1 h
  have := lt_of_some (H.held p hp)
  omega

theorem heap_alloc (w : World) (o : Obj) (k : Nat) (h : k < w.heap.size) : (w.alloc o).heap[k]? = w.heap[k]? := by
  show (w.heap.push o)[k]? = _
  rw [Array.getElem?_push, if_neg (by omega)]
theorem heap_alloc_new (w : World) (o : Obj) : (w.alloc o).heap[w.heap.size]? = some o := by
  show (w.heap.push o)[w.heap.size]? = _
  simp

/-- A new block. -/
theorem Hp.alloc {w0 w : World} {L} (H : Hp w0 L w) (o : Obj) : Hp w0 ((w.heap.size, o) :: L) (w.alloc o) :=
  (H.same (w' := w.alloc o) rfl rfl rfl (by simp) (fun k hk => heap_alloc w o k hk)).focus (heap_alloc_new w o) (H.fresh (Nat.le_refl _))

/-- A block of no more interest, which w0 did not have. -/
theorem Hp.drop {w0 w : World} {L M : List (Nat × Obj)} (H : Hp w0 L w) (hs : M.Sublist L) (hn : ∀ p ∈ L, p ∉ M → w0.heap.size ≤ p.1) : Hp w0 M w := by
  refine ⟨H.os, H.tape, H.output, H.size, ?_, fun p hp => H.held p (hs.subset hp), (hs.map _).nodup H.nodup⟩
  intro k hk hk'
  refine H.old k hk fun h => ?_
  obtain ⟨p, hp, rfl⟩ := List.mem_map.1 h
  by_cases hm : p ∈ M
  · exact hk' (List.mem_map_of_mem hm)
  · have := hn p hp hm; omega

/-- A block that holds what it held. -/
theorem Hp.unfocus {w0 w : World} {L M : List (Nat × Obj)} (H : Hp w0 L w) (hs : M.Sublist L) (hn : ∀ p ∈ L, p ∉ M → w0.heap.size ≤ p.1 ∨ w0.heap[p.1]? = some p.2) : Hp w0 M w := by
  refine ⟨H.os, H.tape, H.output, H.size, ?_, fun p hp => H.held p (hs.subset hp), (hs.map _).nodup H.nodup⟩
  intro k hk hk'
  by_cases h : k ∈ L.map (·.1)
  · obtain ⟨p, hp, rfl⟩ := List.mem_map.1 h
    by_cases hm : p ∈ M
    · exact (hk' (List.mem_map_of_mem hm)).elim
    · rcases hn p hp hm with h | h
      · omega
      · rw [H.held p hp, h]
  · exact H.old k hk h

theorem Hp.perm {w0 w : World} {L M : List (Nat × Obj)} (H : Hp w0 L w) (hp : L.Perm M) : Hp w0 M w :=
  ⟨H.os, H.tape, H.output, H.size, fun k hk hn => H.old k hk (fun h => hn ((hp.map _).mem_iff.1 h)), fun p h => H.held p (hp.mem_iff.2 h), (hp.map _).nodup_iff.1 H.nodup⟩

/-- A row of changes behind a call, each at a block that is in sight, or a new one. -/
def okSeq (w : World) : List (Nat × Obj) → List (Nat × Obj) → List (Nat × Obj) → Prop
  | L, [], L' => L' = L
  | L, (b, o) :: M, L' => (∃ o0 f, At L b o0 f ∧ okSeq w (f o) M L') ∨ (w.heap.size ≤ b ∧ okSeq w ((b, o) :: L) M L')

theorem okSeq_nil {w : World} {L} : okSeq w L [] L := rfl
theorem okSeq_set {w : World} {L b o o0 f M L'} (h : At L b o0 f) (k : okSeq w (f o) M L') : okSeq w L ((b, o) :: M) L' := .inl ⟨o0, f, h, k⟩
theorem okSeq_new {w : World} {L b o M L'} (h : w.heap.size ≤ b) (k : okSeq w ((b, o) :: L) M L') : okSeq w L ((b, o) :: M) L' := .inr ⟨h, k⟩

theorem okSeq_keys {w : World} : ∀ {M L L' : List (Nat × Obj)}, okSeq w L M L' → ∀ k, k ∈ L'.map (·.1) ↔ k ∈ L.map (·.1) ∨ k ∈ M.map (·.1)
  | [], L, L', h, k => by rw [show L' = L from h]; simp
  | (b, o) :: M, L, L', h, k => by
    rcases h with ⟨o0, f, hat, h⟩ | ⟨_, h⟩
    · rw [okSeq_keys h k, hat.keys]
      have : b ∈ L.map (·.1) := List.mem_map_of_mem (f := (·.1)) hat.mem
      constructor
      · rintro (h | h)
        · exact .inl h
        · exact .inr (by simp at h ⊢; exact .inr h)
      · rintro (h | h)
        · exact .inl h
        · rcases List.mem_cons.1 (by simpa using h : k ∈ b :: M.map (·.1)) with rfl | h
          · exact .inl this
          · exact .inr h
    · rw [okSeq_keys h k]
      simp only [List.map_cons, List.mem_cons]
      constructor
      · rintro ((h | h) | h)
        · exact .inr (.inl h)
        · exact .inl h
        · exact .inr (.inr h)
      · rintro (h | h | h)
        · exact .inl (.inr h)
        · exact .inl (.inl h)
        · exact .inr h

theorem okSeq_mem {w : World} : ∀ {M L L' : List (Nat × Obj)}, okSeq w L M L' → (L.map (·.1)).Nodup → (M.map (·.1)).Nodup → (∀ k ∈ L.map (·.1), k < w.heap.size ∨ k ∉ M.map (·.1)) →
    (L'.map (·.1)).Nodup ∧ ∀ p ∈ L', p ∈ M ∨ (p ∈ L ∧ p.1 ∉ M.map (·.1))
  | [], L, L', h, hL, _, _ => by rw [show L' = L from h]; exact ⟨hL, fun p hp => .inr ⟨hp, by simp⟩⟩
  | (b, o) :: M, L, L', h, hL, hM, hlt => by
    simp only [List.map_cons, List.nodup_cons] at hM
    rcases h with ⟨o0, f, hat, h⟩ | ⟨hb, h⟩
    · have ih := okSeq_mem h (by rw [hat.keys]; exact hL) hM.2 (fun k hk => by rw [hat.keys] at hk; rcases hlt k hk with h | h; exact .inl h; exact .inr (fun h' => h (by simp at h' ⊢; exact .inr h')))
      refine ⟨ih.1, fun p hp => ?_⟩
      rcases ih.2 p hp with h | ⟨h, h'⟩
      · exact .inl (.tail _ h)
      · rcases hat.mem_set hL h with rfl | ⟨h1, h2⟩
        · exact .inl (.head _)
        · exact .inr ⟨h1, by simp only [List.map_cons, List.mem_cons, not_or]; exact ⟨h2, h'⟩⟩
    · have hbL : b ∉ L.map (·.1) := fun hk => by
        rcases hlt b hk with h | h
        · omega
        · exact h (by simp)
      have hnd : (((b, o) :: L).map (·.1)).Nodup := List.nodup_cons.2 ⟨hbL, hL⟩
      have ih := okSeq_mem h hnd hM.2 (fun k hk => by
        rcases List.mem_cons.1 hk with rfl | hk
        · exact .inr hM.1
        · rcases hlt k hk with h | h
          · exact .inl h
          · exact .inr (fun h' => h (by simp at h' ⊢; exact .inr h')))
      refine ⟨ih.1, fun p hp => ?_⟩
      rcases ih.2 p hp with h | ⟨h, h'⟩
      · exact .inl (.tail _ h)
      · rcases List.mem_cons.1 h with rfl | h
        · exact .inl (.head _)
        · refine .inr ⟨h, ?_⟩
          simp only [List.map_cons, List.mem_cons, not_or]
          exact ⟨fun e => hbL (e ▸ List.mem_map_of_mem h), h'⟩

/-- Behind a call. -/
theorem Hp.seq {w0 w w' : World} {L M L' : List (Nat × Obj)} (H : Hp w0 L w) (H' : Hp w M w') (h : okSeq w L M L') : Hp w0 L' w' := by
  have hlt : ∀ k ∈ L.map (·.1), k < w.heap.size ∨ k ∉ M.map (·.1) := fun k hk => by
    obtain ⟨p, hp, rfl⟩ := List.mem_map.1 hk
    exact .inl (lt_of_some (H.held p hp))
  have hm := okSeq_mem h H.nodup H'.nodup hlt
  refine ⟨H'.os.trans H.os, H'.tape.trans H.tape, H'.output.trans H.output, Nat.le_trans H.size H'.size, ?_, ?_, hm.1⟩
  · intro k hk hn
    rw [okSeq_keys h k, not_or] at hn
    rw [H'.old k (Nat.lt_of_lt_of_le hk H.size) hn.2]
    exact H.old k hk hn.1
  · intro p hp
    rcases hm.2 p hp with h | ⟨h, h'⟩
    · exact H'.held p h
    · rw [H'.old p.1 (lt_of_some (H.held p h)) h']
      exact H.held p h

theorem Hp.seq0 {w0 w w' : World} {L : List (Nat × Obj)} (H : Hp w0 L w) (H' : Hp w [] w') : Hp w0 L w' := H.seq H' okSeq_nil

/-- What some blocks hold. -/
def Kp (L : List (Nat × Obj)) (w : World) : Prop := ∀ p ∈ L, w.heap[p.1]? = some p.2
theorem Hp.kp {w0 w : World} {L : List (Nat × Obj)} (H : Hp w0 L w) : Kp L w := H.held
theorem Kp.get {w : World} {L b o f} (H : Kp L w) (h : At L b o f) : w.heap[b]? = some o := H _ h.mem

theorem Kp.tail {w : World} {L p} (h : Kp (p :: L) w) : Kp L w := fun q hq => h q (.tail _ hq)
theorem Kp.sub {w : World} {L K : List (Nat × Obj)} (h : Kp L w) (hs : K ⊆ L) : Kp K w := fun q hq => h q (hs hq)
theorem Kp.nil {w : World} : Kp [] w := fun _ h => nomatch h

/-- A block that holds what it held is of no more interest. -/
theorem Hp.back {w0 w : World} {L : List (Nat × Obj)} {b : Nat} {o : Obj} (H : Hp w0 ((b, o) :: L) w) (hb : w0.heap[b]? = some o) : Hp w0 L w :=
  H.unfocus (List.sublist_cons_self _ _) fun p hp hn => by
    rcases List.mem_cons.1 hp with rfl | hp
    · exact .inr hb
    · exact (hn hp).elim
theorem Hp.swap2 {w0 w : World} {L : List (Nat × Obj)} {p q : Nat × Obj} (H : Hp w0 (p :: q :: L) w) : Hp w0 (q :: p :: L) w := H.perm (List.Perm.swap _ _ _)

end Go.Proofs.Ythonajikgljgmaa.Fx
