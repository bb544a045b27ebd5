/-
  The law TablePlays: what its states are.
-/
import Derived.Test.YtjkkfahjgaidbaaTabN
import Derived.Test.YtjkkfahjgaidbaaTabS
import Derived.Test.YtjkkfahjgaidbaaTabI
import Derived.Test.YtjkkfahjgaidbaaSameI
namespace Go.Proofs.Ytjkkfahjgaidbaa.TabR
open Go Go.Proofs Go.Proofs.Ytjkkfahjgaidbaa.Fx Go.Proofs.Ytjkkfahjgaidbaa.Tab
set_option maxRecDepth 100000
set_option linter.unusedVariables false
set_option linter.unusedSimpArgs false
set_option maxHeartbeats 4000000

/-- a number's last byte -/
def bt (x : Int) : UInt8 := UInt8.ofNat (x % 256).toNat
theorem bt_wrap (x : Int) : IntKind.u8.wrap x = ((bt x).toNat : Int) := by
  unfold bt
  rw [UInt8.toNat_ofNat', IntKind.wrap_u8]
  omega
def ix (v : Value) : Int := match v with | .int _ x => x | _ => 0
/-- the same place of the table of texts -/
def strP (a : Pl) : Pl := ⟨if a.u then S [bt (ix a.v)] else TabS.zS, a.g, a.u⟩
theorem strP_one (a : Pl) : (strP a).v.oneCell' = true := by unfold strP; cases a.u <;> rfl

structure St (N G : Nat) (lt : List Pl) (vs : List Int) : Prop where
  len : lt.length = N
  gen : ∀ a ∈ lt, a.g ≤ G
  frm : ∀ a ∈ lt, ∃ x, a.v = I x
  val : ∀ (i : Nat) (a : Pl), lt[i]? = some a → a.u = true → ∃ x, a.v = I x ∧ vs[i]? = some x
  vl : vs.length = 256
theorem St.start (N : Nat) : St N 1 (List.replicate N newPl) (List.replicate 256 0) :=
  ⟨by simp, fun a h => (by rw [List.eq_of_mem_replicate h]; decide), fun a h => (by rw [List.eq_of_mem_replicate h]; exact ⟨0, rfl⟩),
    fun i a h hu => (by have := List.eq_of_mem_replicate (List.mem_of_getElem? h); subst this; cases hu), by simp⟩
section
variable {N G : Nat} {lt : List Pl} {vs : List Int}
theorem St.mono {G' : Nat} (h : St N G lt vs) (hG : G ≤ G') : St N G' lt vs := ⟨h.len, fun a ha => Nat.le_trans (h.gen a ha) hG, h.frm, h.val, h.vl⟩
theorem St.one (h : St N G lt vs) : ∀ a ∈ lt, a.v.oneCell' = true := fun a ha => by obtain ⟨x, hx⟩ := h.frm a ha; rw [hx]; rfl
theorem St.slen (h : St N G lt vs) : (lt.map strP).length = N := by rw [List.length_map]; exact h.len
theorem St.sgen (h : St N G lt vs) (hG : G ≤ 1000001) : ∀ a ∈ lt.map strP, a.g ≤ 1000001 := fun a ha => by
  obtain ⟨b, hb, rfl⟩ := List.mem_map.1 ha
  exact Nat.le_trans (h.gen b hb) hG
theorem sone : ∀ a ∈ lt.map strP, a.v.oneCell' = true := fun a ha => by
  obtain ⟨b, hb, rfl⟩ := List.mem_map.1 ha
  exact strP_one b
theorem s_get {i : Nat} {a : Pl} (h : lt[i]? = some a) : (lt.map strP)[i]? = some (strP a) := by rw [List.getElem?_map, h]; rfl
theorem s_free {i : Nat} (h : ∀ (j : Nat) (a' : Pl), j < i → lt[j]? = some a' → ¬ free a') : ∀ (j : Nat) (a' : Pl), j < i → (lt.map strP)[j]? = some a' → ¬ free a' := fun j a' hj ha => by
  rw [List.getElem?_map] at ha
  cases hb : lt[j]? with
  | none => rw [hb] at ha; cases ha
  | some b => rw [hb] at ha; cases ha; exact h j b hj hb
theorem s_nofree (h : ∀ a ∈ lt, ¬ free a) : ∀ a ∈ lt.map strP, ¬ free a := fun a ha => by
  obtain ⟨b, hb, rfl⟩ := List.mem_map.1 ha
  exact h b hb
theorem s_no {n : Int} (h : ∀ (i : Nat) (a : Pl), lt[i]? = some a → a.u = true → n ≠ ((i + 256 * a.g : Nat) : Int)) :
    ∀ (i : Nat) (a : Pl), (lt.map strP)[i]? = some a → a.u = true → n ≠ ((i + 256 * a.g : Nat) : Int) := fun i a ha hu => by
  rw [List.getElem?_map] at ha
  cases hb : lt[i]? with
  | none => rw [hb] at ha; cases ha
  | some b => rw [hb] at ha; cases ha; exact h i b hb hu
theorem s_names : ∀ (l : List Pl) (k : Nat), namesFrom k (l.map strP) = namesFrom k l
  | [], k => rfl
  | a :: l, k => by
    rw [List.map_cons, namesFrom, namesFrom, s_names l (k + 1)]
    rfl
theorem s_set {i g : Nat} {x : Int} : (lt.map strP).set i ⟨.string ⟨#[bt x]⟩, g, true⟩ = (lt.set i ⟨I x, g, true⟩).map strP := by rw [List.map_set]; rfl
theorem s_drop {i g : Nat} : (lt.map strP).set i ⟨TabS.zS, g, false⟩ = (lt.set i ⟨I 0, g, false⟩).map strP := by rw [List.map_set]; rfl
theorem s_start : List.replicate N TabS.newPl = (List.replicate N newPl).map strP := by rw [List.map_replicate]; rfl
theorem St.put {i : Nat} {a : Pl} (h : St N G lt vs) (ha : lt[i]? = some a) (x : Int) (hN : N ≤ 256) : St N G (lt.set i ⟨I x, a.g, true⟩) (vs.set i x) := by
  have hi := (List.getElem?_eq_some_iff.1 ha).1
  refine ⟨by rw [List.length_set]; exact h.len, fun b hb => ?_, fun b hb => ?_, fun j b hj hu => ?_, by rw [List.length_set]; exact h.vl⟩
  · rcases List.mem_or_eq_of_mem_set hb with hb | rfl
    · exact h.gen b hb
    · exact h.gen a (List.mem_of_getElem? ha)
  · rcases List.mem_or_eq_of_mem_set hb with hb | rfl
    · exact h.frm b hb
    · exact ⟨x, rfl⟩
  · rw [List.getElem?_set] at hj ⊢
    by_cases e : i = j
    · subst e
      rw [if_pos rfl, if_pos hi] at hj
      cases hj
      exact ⟨x, rfl, by rw [if_pos rfl, if_pos (by rw [h.vl]; rw [h.len] at hi; omega)]⟩
    · rw [if_neg e] at hj ⊢
      exact h.val j b hj hu
theorem St.drop {i : Nat} {a : Pl} (h : St N G lt vs) (ha : lt[i]? = some a) : St N (G + 1) (lt.set i ⟨I 0, a.g + 1, false⟩) vs := by
  have hi := (List.getElem?_eq_some_iff.1 ha).1
  refine ⟨by rw [List.length_set]; exact h.len, fun b hb => ?_, fun b hb => ?_, fun j b hj hu => ?_, h.vl⟩
  · rcases List.mem_or_eq_of_mem_set hb with hb | rfl
    · exact Nat.le_succ_of_le (h.gen b hb)
    · exact Nat.succ_le_succ (h.gen a (List.mem_of_getElem? ha))
  · rcases List.mem_or_eq_of_mem_set hb with hb | rfl
    · exact h.frm b hb
    · exact ⟨0, rfl⟩
  · rw [List.getElem?_set] at hj
    by_cases e : i = j
    · subst e
      rw [if_pos rfl, if_pos hi] at hj
      cases hj; cases hu
    · rw [if_neg e] at hj
      exact h.val j b hj hu
end
theorem least {P : Nat → Prop} : ∀ i : Nat, P i → ∃ i : Nat, P i ∧ ∀ j : Nat, j < i → ¬ P j := by
  intro i
  induction i using Nat.strongRecOn with
  | _ i ih =>
    intro hi
    by_cases h : ∃ j, j < i ∧ P j
    · obtain ⟨j, hj, hp⟩ := h; exact ih j hj hp
    · exact ⟨i, hi, fun j hj hp => h ⟨j, hj, hp⟩⟩
theorem first_free (lt : List Pl) : (∃ (i : Nat) (a : Pl), lt[i]? = some a ∧ free a ∧ ∀ (j : Nat) (a' : Pl), j < i → lt[j]? = some a' → ¬ free a') ∨ (∀ a ∈ lt, ¬ free a) := by
  by_cases h : ∃ (i : Nat) (a : Pl), lt[i]? = some a ∧ free a
  · obtain ⟨i, hi⟩ := h
    obtain ⟨i, ⟨a, ha, hf⟩, hl⟩ := least (P := fun i => ∃ a, lt[i]? = some a ∧ free a) i hi
    exact .inl ⟨i, a, ha, hf, fun j a' hj ha' hf' => hl j hj ⟨a', ha', hf'⟩⟩
  · exact .inr fun a ha hf => by
      obtain ⟨i, hi⟩ := List.mem_iff_getElem?.1 ha
      exact h ⟨i, a, hi, hf⟩
theorem there_cases (lt : List Pl) (n : Int) : (∃ (i : Nat) (a : Pl), lt[i]? = some a ∧ a.u = true ∧ n = ((i + 256 * a.g : Nat) : Int)) ∨ (∀ (i : Nat) (a : Pl), lt[i]? = some a → a.u = true → n ≠ ((i + 256 * a.g : Nat) : Int)) := by
  by_cases h : ∃ (i : Nat) (a : Pl), lt[i]? = some a ∧ a.u = true ∧ n = ((i + 256 * a.g : Nat) : Int)
  · exact .inl h
  · exact .inr fun i a ha hu e => h ⟨i, a, ha, hu, e⟩
theorem LR_same {N bL i : Nat} {l : List Pl} {sp : List Value} {a : Pl} {v : Value} (h : l[i]? = some a) (hu : a.u = true) : LR N bL (l.set i ⟨v, a.g, true⟩) sp = LR N bL l sp := by
  have hi := (List.getElem?_eq_some_iff.1 h).1
  have : rows rc (l.set i ⟨v, a.g, true⟩) = rows rc l := by
    have e := rows_set (j := 1) (v := .bool true) (a' := a) rc_len h (by decide) (by rw [rc, hu]; rfl)
    rw [set_get h] at e
    have e2 := rows_set (j := 1) (v := .bool true) (a' := ⟨v, a.g, true⟩) rc_len h (by decide) (by rw [rc]; rfl)
    rw [← e2, e]
  unfold LR
  rw [this]
where
  set_get {l : List Pl} {i : Nat} {a : Pl} (h : l[i]? = some a) : l.set i a = l := by
    apply List.ext_getElem?
    intro j
    rw [List.getElem?_set]
    split
    · rename_i e; subst e; split
      · rw [h]
      · rename_i h'; rw [(List.getElem?_eq_none (by omega))] at h; cases h
    · rfl
theorem seqLR {w0 w w' : World} {A B : List (Nat × Obj)} {x y : Nat × Obj} {N bL : Nat} {l l' : List Pl} {sp : List Value} (H : Hp w0 (A ++ (x :: y :: (LR N bL l sp ++ B))) w) (H1 : Hp w (LR N bL l' sp) w') : Hp w0 (A ++ (x :: y :: (LR N bL l' sp ++ B))) w' := by
  by_cases h0 : N = 0
  · subst h0
    exact H.seq0 H1
  · rw [LR_pos h0] at H H1 ⊢
    exact H.seq H1 (okSeq_set (.app _ (.there (.there .here))) okSeq_nil)
theorem vs_get {vs : List Int} {i : Nat} {x : Int} (h : vs[i]? = some x) : (vs.map I)[i]? = some (I x) := by rw [List.getElem?_map, h]; rfl
theorem vs_set {vs : List Int} {i : Nat} {x : Int} : (vs.map I).set i (I x) = (vs.set i x).map I := by rw [List.map_set]
end Go.Proofs.Ytjkkfahjgaidbaa.TabR
