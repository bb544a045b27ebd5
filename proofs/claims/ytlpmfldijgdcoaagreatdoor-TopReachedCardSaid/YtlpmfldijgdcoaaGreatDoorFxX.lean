/-
  Fields of structs that come in: slices of bytes, bytes, truth values.
-/
import Derived.Test.YtlpmfldijgdcoaaGreatDoorFxS
namespace Go.Proofs.YtlpmfldijgdcoaaGreatDoor.Fx
open Go Go.RowKit Go.ChangeShapes Go.WideShapes Go.Deep
set_option linter.unusedVariables false

section
variable {H : Type} {enc : TypeId × Value → H} {P : Program} {w : World} {base : Nat} {held : Bool}
end

/-- Some blocks hold this, and all that w0 had is as it was. -/
structure KH (w0 : World) (K : List (Nat × Obj)) (w : World) : Prop where
  kp : Kp K w
  old : Hp w0 [] w
theorem KH.get {w0 w : World} {L : List (Nat × Obj)} {b : Nat} {o : Obj} {f} (H : KH w0 L w) (h : At L b o f) : w.heap[b]? = some o := H.kp.get h
theorem Hp.kh {w0 w : World} {L K : List (Nat × Obj)} (H : Hp w0 L w) (hs : K ⊆ L) (hL : ∀ p ∈ L, w0.heap.size ≤ p.1) : KH w0 K w := ⟨H.kp.sub hs, H.none hL⟩
section
variable {P : Program} {n : Nat} {ops : Array Oper} {C : World → Prop} {tl : Nat → Bool} {kn : Env → World → Prop} {f : Nat} {listed : Array Bool} {E : Env} {w : World}
theorem WI_effnA {i : Nat} {o : Oper} {A : Nat → Prop} {F : Nat → World → Prop} {v : Nat → Value} (hi : ops[i]? = some o) (hg : Wanted ops E o) (he : ∃ b w', A b ∧ F b w' ∧ (execOp (ev E) { o with guard := none }).run P w = .ok (.value (v b)) w')
    (hC : ∀ b w', A b → F b w' → tl i = false → C w') (h : ∀ b w', A b → F b w' → WA P n ops C tl kn f (listed.setIfInBounds i true) (updo n E o.dst (v b)) w') : WI P n ops C tl kn f listed i E w := by
  obtain ⟨b, w', hA, hF, hr⟩ := he
  exact WI_value hi hg hr (hC b w' hA hF) (h b w' hA hF)
theorem WI_effmA {i : Nat} {o : Oper} {M : Type} {A : Value → M → Prop} {F : M → World → Prop} (hi : ops[i]? = some o) (hg : Wanted ops E o) (he : ∃ v m w', A v m ∧ F m w' ∧ (execOp (ev E) { o with guard := none }).run P w = .ok (.value v) w')
    (hC : ∀ v m w', A v m → F m w' → tl i = false → C w') (h : ∀ v m w', A v m → F m w' → WA P n ops C tl kn f (listed.setIfInBounds i true) (updo n E o.dst v) w') : WI P n ops C tl kn f listed i E w := by
  obtain ⟨v, m, w', hA, hF, hr⟩ := he
  exact WI_value hi hg hr (hC v m w' hA hF) (h v m w' hA hF)
end
theorem Hp.dropMid {w0 w : World} {A M B : List (Nat × Obj)} (H : Hp w0 (A ++ (M ++ B)) w) (hM : ∀ p ∈ M, w0.heap.size ≤ p.1) : Hp w0 (A ++ B) w :=
  H.drop ((List.Sublist.refl A).append (List.sublist_append_right M B)) fun p hp hn => by
    simp only [List.mem_append, not_or] at hp hn
    rcases hp with hp | hp | hp
    · exact (hn.1 hp).elim
    · exact hM p hp
    · exact (hn.2 hp).elim
end Go.Proofs.YtlpmfldijgdcoaaGreatDoor.Fx
