/-
One session's commons, as values: what is told of records behind what was set and freed. Forks, ends and waits, as values: who is there behind them. An end, as values; what a call leaves. Worlds: which host it is; a pick. Worlds: a host's pick; a host that begins anew; what is kept. Worlds: a host that begins anew; time goes on; a world as it begins. Worlds: what a pick tells. Worlds: a call is begun, something is typed; a pick. Worlds: a pick. Worlds: a step. Worlds: a session's bytes; a world as it begins. Steps that come in. Slots that are of bytes, as the document has it; slots are alike or not. The tops' scripts: which steps are short, tame, and to be done. The tops' scripts: those steps that are to be done. Steps in a world of one session: a call is begun, its process is picked twice.
-/
import Derived.Test.YtlpmfldijgdcoaaGreatDoorK8
import Derived.Test.YtlpmfldijgdcoaaGreatDoorProg
set_option maxRecDepth 100000
set_option maxHeartbeats 16000000
namespace Go.Proofs.YtlpmfldijgdcoaaGreatDoor.Fam
open Go Go.Proofs Fx Kn Cm Pr Ho Tryz
/-- commons of one session -/
structure Fi (C : Cs) : Prop where
 wins : C.wins = [(0, 492)]
 bad : C.bad = []
 len : 492 ≤ C.κ.xs.length
section
variable {C : Cs} {ys : List UInt8} {a b n m : Nat}
theorem Fi.nb (F : Fi C) (r : Int × Int) : r ∉ C.bad := by rw [F.bad]; simp
theorem put_xs (F : Fi C) : (C.put 0 a ys).κ.xs = Mem.put C.κ.xs ys a := by
 show Mem.put C.κ.xs ys ((C.wins.getD 0 (0, 0)).1 + a) = _
 rw [F.wins]; congr 1; exact Nat.zero_add a
theorem rc_xs (F : Fi C) : C.rc 0 a n = win C.κ.xs a n := by
 unfold Cs.rc; rw [F.wins]; congr 1; exact Nat.zero_add a
theorem Fi.put (F : Fi C) (h : a + ys.length ≤ 492) : Fi (C.put 0 a ys) :=
 ⟨F.wins, F.bad, by rw [put_xs F, Ns (by have := F.len; omega)]; exact F.len⟩
theorem rcs (F : Fi C) (h : a + ys.length ≤ 492) (hy : ys.length = n) : (C.put 0 a ys).rc 0 a n = ys := by
 rw [rc_xs (F.put h), put_xs F]; exact win_put_same (by have := F.len; omega) hy
theorem rco (F : Fi C) (h : a + ys.length ≤ 492) (hd : b + m ≤ a ∨ a + ys.length ≤ b) : (C.put 0 a ys).rc 0 b m = C.rc 0 b m := by
 rw [rc_xs (F.put h), put_xs F, rc_xs F]; exact win_put_other (by have := F.len; omega) hd
theorem pR_D (F : Fi C) (j : Nat) : C.pR j = Slot.Xy (C.rc 0 (24 * j) 24) := if_neg (F.nb _)
theorem fR_D (F : Fi C) (j : Nat) : C.fR j = File.Xy (C.rc 0 (192 + 8 * j) 8) := if_neg (F.nb _)
theorem Fi.Xh (F : Fi C) {xs : List UInt8} (h : 492 ≤ xs.length) : Fi (C.Xh xs) := ⟨F.wins, F.bad, h⟩
theorem Fi.same (C : Cs) : C.Xh C.κ.xs = C := rfl
theorem put_set (C : Cs) (j a : Nat) (ys : List UInt8) : C.Xh (C.put j a ys).κ.xs = C.put j a ys := rfl
theorem up_P (F : Fi C) {i : Nat} (hi : i < 8) (p : Slot.Pi) : Fi (C.Xh (Ds C i p)) ∧ (∀ j, j < 8 → (C.Xh (Ds C i p)).pR j = if j = i ∧ Slot.okP p then (p, 1) else C.pR j) ∧ (∀ j, j < 12 → (C.Xh (Ds C i p)).fR j = C.fR j) := by
 have hl := Slot.Yu p
 unfold Ds
 by_cases hok : Slot.okP p
 ·rw [if_pos ⟨F.nb _, hok⟩, put_set]
  have F' := F.put (a := 24 * i) (ys := Slot.Xm p) (by omega)
  refine ⟨F', fun j hj => ?_, fun j hj => ?_⟩
  ·rw [pR_D F']
   by_cases h : j = i
   ·subst h; rw [if_pos ⟨rfl, hok⟩, rcs F (by omega) hl, Slot.Ud hok]
   ·rw [if_neg (fun g => h g.1), rco F (by omega) (by omega), pR_D F]
  ·rw [fR_D F', rco F (by omega) (by omega), fR_D F]
 ·rw [if_neg (fun h => hok h.2), Fi.same]
  exact ⟨F, fun j hj => by rw [if_neg (fun h => hok h.2)], fun j hj => rfl⟩
theorem fr_P (F : Fi C) {i : Nat} (hi : i < 8) : Fi (C.Xh (frPX C i)) ∧ (∀ j, j < 8 → (C.Xh (frPX C i)).pR j = if j = i then (Slot.Xn, 0) else C.pR j) ∧ (∀ j, j < 12 → (C.Xh (frPX C i)).fR j = C.fR j) := by
 have hl : (List.replicate 24 (0 : UInt8)).length = 24 := by simp
 unfold frPX
 rw [if_pos (F.nb _), put_set]
 have F' := F.put (a := 24 * i) (ys := List.replicate 24 0) (by omega)
 refine ⟨F', fun j hj => ?_, fun j hj => ?_⟩
 ·rw [pR_D F']
  by_cases h : j = i
  ·subst h; rw [if_pos rfl, rcs F (by omega) hl, zP]
  ·rw [if_neg h, rco F (by omega) (by omega), pR_D F]
 ·rw [fR_D F', rco F (by omega) (by omega), fR_D F]
theorem up_F (F : Fi C) {i : Nat} (hi : i < 12) (f : File.Fl) : Fi (C.Xh (upFX C i f)) ∧ (∀ j, j < 8 → (C.Xh (upFX C i f)).pR j = C.pR j) ∧ (∀ j, j < 12 → (C.Xh (upFX C i f)).fR j = if j = i ∧ File.Yz f then (f, 1) else C.fR j) := by
 have hl := fb_len f
 unfold upFX
 by_cases hok : File.Yz f
 ·rw [if_pos ⟨F.nb _, hok⟩, put_set]
  have F' := F.put (a := 192 + 8 * i) (ys := File.Yj f) (by omega)
  refine ⟨F', fun j hj => ?_, fun j hj => ?_⟩
  ·rw [pR_D F', rco F (by omega) (by omega), pR_D F]
  ·rw [fR_D F']
   by_cases h : j = i
   ·subst h; rw [if_pos ⟨rfl, hok⟩, rcs F (by omega) hl, File.Ud hok]
   ·rw [if_neg (fun g => h g.1), rco F (by omega) (by omega), fR_D F]
 ·rw [if_neg (fun h => hok h.2), Fi.same]
  exact ⟨F, fun j hj => rfl, fun j hj => by rw [if_neg (fun h => hok h.2)]⟩
theorem fr_F (F : Fi C) {i : Nat} (hi : i < 12) : Fi (C.Xh (Uy C i)) ∧ (∀ j, j < 8 → (C.Xh (Uy C i)).pR j = C.pR j) ∧ (∀ j, j < 12 → (C.Xh (Uy C i)).fR j = if j = i then (File.Yt, 0) else C.fR j) := by
 have hl : (List.replicate 8 (0 : UInt8)).length = 8 := by simp
 unfold Uy
 rw [if_pos (F.nb _), put_set]
 have F' := F.put (a := 192 + 8 * i) (ys := List.replicate 8 0) (by omega)
 refine ⟨F', fun j hj => ?_, fun j hj => ?_⟩
 ·rw [pR_D F', rco F (by omega) (by omega), pR_D F]
 ·rw [fR_D F']
  by_cases h : j = i
  ·subst h; rw [if_pos rfl, rcs F (by omega) hl, zF]
  ·rw [if_neg h, rco F (by omega) (by omega), fR_D F]
theorem up_T (F : Fi C) (p : Ring.Pi) : Fi (C.Xh (upTX C p)) ∧ (∀ j, j < 8 → (C.Xh (upTX C p)).pR j = C.pR j) ∧ (∀ j, j < 12 → (C.Xh (upTX C p)).fR j = C.fR j) := by
 have hl := Ring.Yu p
 unfold upTX
 by_cases hok : Ring.okP p
 ·rw [if_pos ⟨F.nb _, hok⟩, put_set]
  have F' := F.put (a := 448) (ys := Ring.Xm p) (by omega)
  refine ⟨F', fun j hj => ?_, fun j hj => ?_⟩
  ·rw [pR_D F', rco F (by omega) (by omega), pR_D F]
  ·rw [fR_D F', rco F (by omega) (by omega), fR_D F]
 ·rw [if_neg (fun h => hok h.2), Fi.same]; exact ⟨F, fun j hj => rfl, fun j hj => rfl⟩
end
/-- files are no others than they were -/
def KF (C C' : Cs) : Prop := Fi C' ∧ (∀ j, j < 8 → C'.pR j = C.pR j) ∧ (∀ f, f < 12 → (C'.fR f).2 = 1 → (C.fR f).2 = 1 ∧ (C'.fR f).1.k = (C.fR f).1.k)
theorem KF.refl {C : Cs} (F : Fi C) : KF C C := ⟨F, fun _ _ => rfl, fun _ _ h => ⟨h, rfl⟩⟩
theorem KF.trans {A B C : Cs} (h : KF A B) (h' : KF B C) : KF A C :=
 ⟨h'.1, fun j hj => (h'.2.1 j hj).trans (h.2.1 j hj), fun f hf h1 => by
  obtain ⟨a, b⟩ := h'.2.2 f hf h1
  obtain ⟨c, d⟩ := h.2.2 f hf a
  exact ⟨c, b.trans d⟩⟩
theorem fR_none {C : Cs} (F : Fi C) {f : Nat} (h : (C.fR f).2 ≠ 1) : (C.fR f).1 = File.Yt := by
 rw [fR_D F] at h ⊢; exact file_none _ h
theorem kf_up {C : Cs} (F : Fi C) {f : Nat} (hf : f < 12) {y : File.Fl} (hy : y.k = (C.fR f).1.k) : KF C (C.Xh (upFX C f y)) := by
 obtain ⟨h1, h2, h3⟩ := up_F F hf y
 refine ⟨h1, h2, fun j hj h => ?_⟩
 rw [h3 j hj] at h ⊢
 split at h
 ·rename_i hh
  rw [if_pos hh, hh.1]
  refine ⟨?_, hy⟩
  by_cases h9 : (C.fR f).2 = 1
  ·exact h9
  ·have := fR_none F h9
   rw [this] at hy
   have hk := hh.2.1.1
   rw [hy] at hk
   exact absurd hk (by decide)
 ·rename_i hh; rw [if_neg hh]; exact ⟨h, rfl⟩
theorem kf_fr {C : Cs} (F : Fi C) {f : Nat} (hf : f < 12) : KF C (C.Xh (Uy C f)) := by
 obtain ⟨h1, h2, h3⟩ := fr_F F hf
 refine ⟨h1, h2, fun j hj h => ?_⟩
 rw [h3 j hj] at h ⊢
 split at h
 ·cases h
 ·rename_i hh; rw [if_neg hh]; exact ⟨h, rfl⟩
theorem kf_add (p : Slot.Pi) : ∀ (k : Nat) (C : Cs), k ≤ 12 → Fi C → KF C (C.Xh (addS p k C).1)
 | 0, C, _, F => KF.refl F
 | k + 1, C, hk, F => by
  rw [addS]
  split
  ·exact kf_add p k C (by omega) F
  ·split
   ·have h1 := kf_up (y := moreF C p (11 - k)) F (show 11 - k < 12 by omega) rfl
    exact h1.trans (kf_add p k _ (by omega) h1.1)
   ·exact kf_up (y := moreF C p (11 - k)) F (by omega) rfl
theorem kf_share {C : Cs} (F : Fi C) (p : Slot.Pi) : KF C (C.Xh (Vi C p).1) := by
 unfold Vi
 split
 ·exact KF.refl F
 ·exact kf_add p 12 C (Nat.le_refl _) F
theorem kf_close {C : Cs} (F : Fi C) {f : Nat} (hf : f < 12) (h3 : (C.fR f).2 = 1 → (C.fR f).1.k = 3) : KF C (C.Xh (Dc C f).1) := by
 unfold Dc
 split
 ·exact KF.refl F
 ·rename_i h9
  have hk := h3 (Decidable.not_not.1 h9)
  split
  ·exact kf_up F hf rfl
  ·rw [if_neg (F.nb _), show closePX (C.Xh (Uy C f)) (less (C.fR f).1) = (Uy C f, 0) from if_pos hk]
   exact kf_fr F hf
end Go.Proofs.YtlpmfldijgdcoaaGreatDoor.Fam
namespace Go.Proofs.YtlpmfldijgdcoaaGreatDoor.Fam
open Go Go.Proofs Fx Kn Cm Pr Ho Tryz
/-- a process of a session in which nobody raises signals, or opens files -/
def FamP (p : Slot.Pi) : Prop := Zs p ∧ p.s ≠ 3 ∧ ∃ x : Int, (x = 0 ∨ x = 1) ∧ p.f = [x, 0, 0, 0, 0, 0, 0, 0]
structure FamQ (C : Cs) : Prop where
 p : ∀ j, j < 8 → (C.pR j).2 = 1 → FamP (C.pR j).1
 f : (C.fR 0).2 = 1 → (C.fR 0).1.k = 3
/-- what a call that was done left -/
structure StepL (C C' : Cs) (i : Nat) (op n e : Int) : Prop where
 fi : Fi C'
 fam : FamQ C'
 made : ∀ k : Nat, k < 8 → ((op = 2 ∧ e = 0 ∧ n = k) ↔ ((C.pR k).2 = 0 ∧ (C'.pR k).2 = 1))
 born : ∀ k : Nat, k < 8 → op = 2 → e = 0 → n = k → (C'.pR k).1.p = (i : Int) + 1 ∧ (C'.pR k).1.s = 1
 gone : ∀ k : Nat, k < 8 → (C.pR k).2 = 1 → (C.pR k).1.s = 2 → (C'.pR k).2 = 0 → ((op = 4 ∧ e = 0 ∧ n = 256 * (k : Int) + (C.pR k).1.e) ∨ op = 3) ∧ (C.pR k).1.p = (i : Int) + 1
 kin : ∀ k : Nat, k < 8 → (C.pR k).2 = 1 → (C'.pR k).2 = 1 → (C.pR k).1.p ≠ (C'.pR k).1.p → (C'.pR k).1.p = 0 ∧ op = 3 ∧ (C.pR k).1.p = (i : Int) + 1
theorem FamQ.same {C C' : Cs} (Q : FamQ C) (h : KF C C') : FamQ C' :=
 ⟨fun j hj h1 => by rw [h.2.1 j hj] at h1 ⊢; exact Q.p j hj h1, fun h1 => by obtain ⟨a, b⟩ := h.2.2 0 (by decide) h1; rw [b]; exact Q.f a⟩
theorem Di {C C' : Cs} (Q : FamQ C) (h : KF C C') {i : Nat} {op n e : Int} (he : op = 2 → e ≠ 0) : StepL C C' i op n e := by
 refine ⟨h.1, Q.same h, fun k hk => ⟨fun g => absurd g.2.1 (he g.1), fun g => ?_⟩, fun k hk h1 h2 => absurd h2 (he h1), fun k hk h1 h2 h3 => ?_, fun k hk h1 h2 h3 => ?_⟩
 ·rw [h.2.1 k hk] at g; omega
 ·rw [h.2.1 k hk] at h3; omega
 ·rw [h.2.1 k hk] at h3; exact absurd rfl h3
theorem freeI_free {C : Cs} : ∀ {k : Nat}, k ≤ 8 → 0 ≤ Uc C k → (C.pR (Uc C k).toNat).2 = 0
 | 0, _, h => by rw [Uc] at h; omega
 | k + 1, hk, h => by
  rw [Uc] at h ⊢
  split
  ·rename_i h1; rw [Int.toNat_natCast]; exact h1
  ·rename_i h1; rw [if_neg h1] at h; exact freeI_free (by omega) h
theorem dn_t (n : Int) : dn true n = (n, 0) := rfl
theorem dn_f (n : Int) : dn false n = (0, 105) := rfl
theorem fork_law {C : Cs} (F : Fi C) (Q : FamQ C) {i : Nat} (hi : i < 8) : StepL C (C.Xh (Um C i).1) i 2 (Um C i).2.1 (Um C i).2.2 := by
 unfold Um
 split
 ·rename_i h1; exact Di Q (KF.refl F) (fun _ => h1)
 ·rename_i h1
  have hs := self_ok (Decidable.not_not.1 h1)
  split
  ·exact Di Q (KF.refl F) (fun _ => (by decide : (111 : Int) ≠ 0))
  ·rename_i h2
   have hS := kf_share F (self C i).1
   split
   ·rename_i h3; exact Di Q hS (fun _ => h3)
   ·have hlt := (freeI_lt C 8).2
    have hfree := freeI_free (C := C) (k := 8) (Nat.le_refl _) (by omega)
    obtain ⟨t, ht⟩ : ∃ t : Nat, Uc C 8 = t := ⟨(Uc C 8).toNat, by omega⟩
    rw [ht] at hfree ⊢
    rw [Int.toNat_natCast] at hfree ⊢
    have ht8 : t < 8 := by omega
    obtain ⟨u1, u2, u3⟩ := up_P hS.1 ht8 (Mh (self C i).1 i)
    generalize hC1 : C.Xh (Vi C (self C i).1).1 = C1 at *
    have e1 : C.Xh (Ds C1 t (Mh (self C i).1 i)) = C1.Xh (Ds C1 t (Mh (self C i).1 i)) := by rw [← hC1]; rfl
    by_cases hok : Slot.okP (Mh (self C i).1 i)
    ·have hb : upPb C1 t (Mh (self C i).1 i) = true := decide_eq_true ⟨hS.1.nb _, hok⟩
     simp only [hb, dn_t, e1]
     have hp : ∀ j, j < 8 → ((C1.Xh (Ds C1 t (Mh (self C i).1 i))).pR j) = if j = t then (Mh (self C i).1 i, 1) else C.pR j := by
      intro j hj
      rw [u2 j hj, hS.2.1 j hj]
      by_cases h : j = t
      ·rw [if_pos ⟨h, hok⟩, if_pos h]
      ·rw [if_neg (fun g => h g.1), if_neg h]
     have hfp : FamP (Mh (self C i).1 i) := by
      have := Q.p i hi hs.1
      rw [← hs.2.2.1] at this
      exact ⟨⟨rfl, this.1.2⟩, this.2.1, this.2.2⟩
     refine ⟨u1, ⟨fun j hj h1 => ?_, fun h1 => ?_⟩, fun k hk => ?_, fun k hk _ _ h3 => ?_, fun k hk g1 g2 g3 => ?_, fun k hk g1 g2 g3 => ?_⟩
     ·rw [hp j hj] at h1 ⊢
      split
      ·exact hfp
      ·rename_i h9; rw [if_neg h9] at h1; exact Q.p j hj h1
     ·rw [u3 0 (by decide)] at h1 ⊢; exact (Q.same hS).f h1
     ·rw [hp k hk]
      constructor
      ·rintro ⟨_, _, h3⟩
       have : k = t := by omega
       subst this; rw [if_pos rfl]; exact ⟨hfree, rfl⟩
      ·rintro ⟨g1, g2⟩
       split at g2
       ·rename_i h9; exact ⟨rfl, rfl, by rw [h9]⟩
       ·omega
     ·have : k = t := by omega
      subst this
      rw [hp k hk, if_pos rfl]
      exact ⟨rfl, by show (self C i).1.s = 1; rw [hs.2.2.1]; exact hs.2.1⟩
     ·rw [hp k hk] at g3
      split at g3
      ·cases g3
      ·omega
     ·rw [hp k hk] at g2 g3
      split at g3
      ·rename_i h9; rw [h9] at g1; omega
      ·exact absurd rfl g3
    ·have hb : upPb C1 t (Mh (self C i).1 i) = false := decide_eq_false (fun h => hok h.2)
     simp only [hb, dn_f, e1]
     refine Di Q ⟨u1, fun j hj => ?_, fun f hf h1 => ?_⟩ (fun _ => (by decide : (105 : Int) ≠ 0))
     ·rw [u2 j hj, if_neg (fun g => hok g.2)]; exact hS.2.1 j hj
     ·rw [u3 f hf] at h1 ⊢; exact hS.2.2 f hf h1
theorem wait_law {C : Cs} (F : Fi C) (Q : FamQ C) {i : Nat} (hi : i < 8) : StepL C (C.Xh (Ml C i).1) i 4 (Ml C i).2.1 (Ml C i).2.2.1 := by
 unfold Ml
 split
 ·exact Di Q (KF.refl F) (fun h => absurd h (by decide))
 ·split
  ·rename_i x hx
   have hm := List.mem_of_find?_eq_some hx
   have hz := List.find?_some hx
   obtain ⟨g1, g2, g3⟩ := Vn hm
   obtain ⟨u1, u2, u3⟩ := fr_P F g1
   have hpp : x.2.p = (i : Int) + 1 := of_decide_eq_true g3
   have hb : decide (((1 : Int), (x.1 : Int)) ∉ C.bad) = true := decide_eq_true (F.nb _)
   simp only [hb, dn_t]
   refine ⟨u1, ⟨fun j hj h1 => ?_, fun h1 => ?_⟩, fun k hk => ⟨fun g => absurd g.1 (by decide), fun g => ?_⟩, fun k hk h1 => absurd h1 (by decide), fun k hk f1 f2 f3 => ?_, fun k hk f1 f2 f3 => ?_⟩
   ·rw [u2 j hj] at h1 ⊢
    split at h1
    ·cases h1
    ·rename_i h9; rw [if_neg h9]; exact Q.p j hj h1
   ·rw [u3 0 (by decide)] at h1 ⊢; exact Q.f h1
   ·rw [u2 k hk] at g
    split at g
    ·exact absurd g.2 (by decide)
    ·omega
   ·rw [u2 k hk] at f3
    split at f3
    ·rename_i h9
     rw [h9, g2]
     exact ⟨.inl ⟨rfl, rfl, rfl⟩, hpp⟩
    ·omega
   ·rw [u2 k hk] at f2 f3
    split at f3
    ·rename_i h9; rw [if_pos h9] at f2; cases f2
    ·exact absurd rfl f3
  ·split <;> exact Di Q (KF.refl F) (fun h => absurd h (by decide))
end Go.Proofs.YtlpmfldijgdcoaaGreatDoor.Fam
namespace Go.Proofs.YtlpmfldijgdcoaaGreatDoor.Fam
open Go Go.Proofs Fx Kn Cm Pr Ho Tryz
theorem noF_fam {p : Slot.Pi} (h : FamP p) : FamP (noF p) := ⟨h.1, h.2.1, 0, .inl rfl, rfl⟩
theorem alone_fam {p : Slot.Pi} (h : FamP p) : FamP (alone p) := ⟨h.1, h.2.1, h.2.2⟩
theorem alone_ok {p : Slot.Pi} (h : Slot.okP p) : Slot.okP (alone p) := by
 obtain ⟨⟨a, b, c⟩, d⟩ := h
 exact ⟨⟨a, ⟨Int.le_refl 0, (by decide : (0 : Int) ≤ 8)⟩, c⟩, d⟩
/-- what became of the children that are in a list -/
theorem orph_law : ∀ (l : List (Nat × Slot.Pi)) (C : Cs), Fi C → (l.map (·.1)).Nodup → (∀ x ∈ l, x.1 < 8 ∧ C.pR x.1 = (x.2, 1)) →
  Fi (C.Xh (Ul l C)) ∧ (∀ k, k < 8 → k ∉ l.map (·.1) → (C.Xh (Ul l C)).pR k = C.pR k) ∧ (∀ x ∈ l, (C.Xh (Ul l C)).pR x.1 = if x.2.s = 2 then (Slot.Xn, 0) else (alone x.2, 1)) ∧ (∀ f, f < 12 → (C.Xh (Ul l C)).fR f = C.fR f)
 | [], C, F, _, _ => ⟨F, (fun _ _ _ => rfl), (fun _ h => nomatch h), (fun _ _ => rfl)⟩
 | (j, p) :: l, C, F, hn, hm => by
  rw [List.map_cons, List.nodup_cons] at hn
  obtain ⟨hj8, hpj⟩ := hm (j, p) (.head _)
  simp only at hj8 hpj hn
  have hokp : Slot.okP p := by have := pR_ok (C := C) (i := j) (by rw [hpj]); rw [hpj] at this; exact this
  have key : ∀ (xs : List UInt8), Fi (C.Xh xs) → (∀ k, k < 8 → (C.Xh xs).pR k = if k = j then (if p.s = 2 then (Slot.Xn, 0) else (alone p, 1)) else C.pR k) → (∀ f, f < 12 → (C.Xh xs).fR f = C.fR f) →
    Fi (C.Xh (Ul l (C.Xh xs))) ∧ (∀ k, k < 8 → k ∉ ((j, p) :: l).map (·.1) → (C.Xh (Ul l (C.Xh xs))).pR k = C.pR k) ∧ (∀ x ∈ (j, p) :: l, (C.Xh (Ul l (C.Xh xs))).pR x.1 = if x.2.s = 2 then (Slot.Xn, 0) else (alone x.2, 1)) ∧ (∀ f, f < 12 → (C.Xh (Ul l (C.Xh xs))).fR f = C.fR f) := by
   intro xs F1 h1 h2
   have hne : ∀ x ∈ l, x.1 ≠ j := fun x hx e => hn.1 (by rw [← e]; exact List.mem_map_of_mem hx)
   obtain ⟨i1, i2, i3, i4⟩ := orph_law l (C.Xh xs) F1 hn.2 (fun x hx => ⟨(hm x (.tail _ hx)).1, by rw [h1 x.1 (hm x (.tail _ hx)).1, if_neg (hne x hx)]; exact (hm x (.tail _ hx)).2⟩)
   refine ⟨i1, fun k hk hkn => ?_, fun x hx => ?_, fun f hf => (i4 f hf).trans (h2 f hf)⟩
   ·rw [List.map_cons, List.mem_cons, not_or] at hkn
    exact (i2 k hk hkn.2).trans (by rw [h1 k hk, if_neg hkn.1])
   ·rcases List.mem_cons.1 hx with rfl | hx
    ·exact (i2 j hj8 hn.1).trans (by rw [h1 j hj8, if_pos rfl])
    ·exact i3 x hx
  rw [Ul]
  by_cases hs : p.s = 2
  ·rw [if_pos hs]
   obtain ⟨u1, u2, u3⟩ := fr_P F hj8
   exact key _ u1 (fun k hk => by rw [u2 k hk, if_pos hs]) u3
  ·rw [if_neg hs]
   obtain ⟨u1, u2, u3⟩ := up_P F hj8 (alone p)
   refine key _ u1 (fun k hk => ?_) u3
   rw [show (Ds C j { p with p := 0 }) = Ds C j (alone p) from rfl, u2 k hk, if_neg hs]
   by_cases h : k = j
   ·rw [if_pos ⟨h, alone_ok hokp⟩, if_pos h]
   ·rw [if_neg (fun g => h g.1), if_neg h]
theorem Nq (C : Cs) (P : Nat × Slot.Pi → Bool) : ∀ k, ((Yb C P k).map (·.1)).Nodup
 | 0 => List.nodup_nil
 | k + 1 => by
  unfold Yb
  split
  ·rw [List.map_append, List.nodup_append]
   refine ⟨Nq C P k, by simp, fun a ha b hb e => ?_⟩
   obtain ⟨x, hx, rfl⟩ := List.mem_map.1 ha
   have := (Vn hx).1
   simp at hb; omega
  ·exact Nq C P k
/-- all descriptors closed -/
theorem closeL_kf {C : Cs} (F : Fi C) (Q : FamQ C) {f : List Int} (h : ∃ x : Int, (x = 0 ∨ x = 1) ∧ f = [x, 0, 0, 0, 0, 0, 0, 0]) : KF C (C.Xh (Bm f C)) := by
 obtain ⟨x, hx, rfl⟩ := h
 rcases hx with rfl | rfl
 ·exact KF.refl F
 ·exact kf_close F (show 0 < 12 by decide) Q.f
theorem exit_law {C : Cs} (F : Fi C) (Q : FamQ C) {i : Nat} (hi : i < 8) (code : Int) : StepL C (C.Xh (Bv C i code).1) i 3 (Bv C i code).2.1 (Bv C i code).2.2 := by
 unfold Bv
 split
 ·exact Di Q (KF.refl F) (fun h => absurd h (by decide))
 ·rename_i h1
  obtain ⟨hp1, hs1, hsp, hok⟩ := self_ok (Decidable.not_not.1 h1)
  rw [hsp] at hok
  have hfam := Q.p i hi hp1
  -- all closed
  have hK := closeL_kf F Q hfam.2.2
  obtain ⟨q, hq⟩ : ∃ q, C.pR i = (q, 1) := ⟨(C.pR i).1, Prod.ext rfl hp1⟩
  rw [hq] at hs1 hfam hok hK
  simp only at hs1 hfam hok hK
  have hA : Vw C i = Ds (C.Xh (Bm q.f C)) i (noF q) := by unfold Vw; rw [hq]; exact if_neg (fun h => h rfl)
  obtain ⟨a1, a2, a3⟩ := up_P hK.1 hi (noF q)
  have hA1 : ∃ q1 : Slot.Pi, q1.p = q.p ∧ q1.s = 1 ∧ FamP q1 ∧ (C.Xh (Vw C i)).pR i = (q1, 1) := by
   rw [hA]
   have e := a2 i hi
   by_cases ho : Slot.okP (noF q)
   ·rw [if_pos ⟨rfl, ho⟩] at e; exact ⟨noF q, rfl, hs1, noF_fam hfam, e⟩
   ·rw [if_neg (fun g => ho g.2), hK.2.1 i hi, hq] at e; exact ⟨q, rfl, hs1, hfam, e⟩
  have hA2 : Fi (C.Xh (Vw C i)) := by rw [hA]; exact a1
  have hA3 : ∀ k, k < 8 → k ≠ i → (C.Xh (Vw C i)).pR k = C.pR k := by
   intro k hk hne
   rw [hA]
   have e := a2 k hk
   rw [if_neg (fun g => hne g.1), hK.2.1 k hk] at e
   exact e
  have hA4 : ∀ f, f < 12 → ((C.Xh (Vw C i)).fR f).2 = 1 → (C.fR f).2 = 1 ∧ ((C.Xh (Vw C i)).fR f).1.k = (C.fR f).1.k := by
   intro f hf h9
   rw [hA] at h9 ⊢
   have e := a3 f hf
   have e2 : (C.Xh (Ds (C.Xh (Bm q.f C)) i (noF q))).fR f = (C.Xh (Bm q.f C)).fR f := e
   rw [e2] at h9 ⊢
   exact hK.2.2 f hf h9
  clear hA a1 a2 a3 hK
  generalize hC1 : C.Xh (Vw C i) = C1 at *
  obtain ⟨q1, hq1p, hq1s, hq1f, hq1⟩ := hA1
  -- children alone
  obtain ⟨o1, o2, o3, o4⟩ := orph_law (Yb C1 (Vc i) 8) C1 hA2 (Nq C1 (Vc i) 8) (fun x hx => ⟨(Vn hx).1, (Vn hx).2.1⟩)
  have e2 : C.Xh (Mx C1 i) = C1.Xh (Ul (Yb C1 (Vc i) 8) C1) := by rw [← hC1]; rfl
  rw [e2]
  have hin : i ∉ (Yb C1 (Vc i) 8).map (·.1) := by
   intro hm
   obtain ⟨x, hx, e⟩ := List.mem_map.1 hm
   have := of_decide_eq_true (Vn hx).2.2
   omega
  have hO : ∀ k, k < 8 → k ≠ i → (C1.Xh (Ul (Yb C1 (Vc i) 8) C1)).pR k = C.pR k ∨ ∃ p, C.pR k = (p, 1) ∧ p.p = (i : Int) + 1 ∧ (C1.Xh (Ul (Yb C1 (Vc i) 8) C1)).pR k = if p.s = 2 then (Slot.Xn, 0) else (alone p, 1) := by
   intro k hk hne
   by_cases hm : k ∈ (Yb C1 (Vc i) 8).map (·.1)
   ·obtain ⟨x, hx, rfl⟩ := List.mem_map.1 hm
    have g := Vn hx
    have g3 := of_decide_eq_true g.2.2
    exact .inr ⟨x.2, (hA3 x.1 hk hne).symm.trans g.2.1, g3.2, o3 x hx⟩
   ·exact .inl ((o2 k hk hm).trans (hA3 k hk hne))
  have hOi : (C1.Xh (Ul (Yb C1 (Vc i) 8) C1)).pR i = (q1, 1) := (o2 i hi hin).trans hq1
  have hO4 : ∀ f, f < 12 → ((C1.Xh (Ul (Yb C1 (Vc i) 8) C1)).fR f).2 = 1 → (C.fR f).2 = 1 ∧ ((C1.Xh (Ul (Yb C1 (Vc i) 8) C1)).fR f).1.k = (C.fR f).1.k := by
   intro f hf h9; rw [o4 f hf] at h9 ⊢; exact hA4 f hf h9
  clear hA2 hA3 hA4 hq1 o2 o3 o4 hin
  generalize hC2 : C1.Xh (Ul (Yb C1 (Vc i) 8) C1) = C2 at *
  have hset : ∀ xs, C.Xh xs = C2.Xh xs := by intro xs; rw [← hC2, ← hC1]; rfl
  rw [hset]
  have fin : ∀ (xs : List UInt8) (n e : Int), Fi (C2.Xh xs) → (∀ k, k < 8 → k ≠ i → (C2.Xh xs).pR k = C2.pR k) → ((C2.Xh xs).pR i).2 = 0 ∨ (((C2.Xh xs).pR i).2 = 1 ∧ ((C2.Xh xs).pR i).1.p = q.p ∧ FamP ((C2.Xh xs).pR i).1) → (∀ f, f < 12 → (C2.Xh xs).fR f = C2.fR f) → StepL C (C2.Xh xs) i 3 n e := by
   intro xs n e F2 hk hii hff
   refine ⟨F2, ⟨fun j hj h9 => ?_, fun h9 => ?_⟩, fun k hk9 => ⟨fun g => absurd g.1 (by decide), fun g => ?_⟩, fun k hk9 h => absurd h (by decide), fun k hk9 g1 g2 g3 => ?_, fun k hk9 g1 g2 g3 => ?_⟩
   ·by_cases hji : j = i
    ·subst hji; rcases hii with h | h; omega; exact h.2.2
    ·rw [hk j hj hji] at h9 ⊢
     rcases hO j hj hji with h | ⟨p, h, hpp, h2⟩
     ·rw [h] at h9 ⊢; exact Q.p j hj h9
     ·have hpf := Q.p j hj (by rw [h])
      rw [h] at hpf
      rw [h2] at h9 ⊢
      by_cases hz : p.s = 2
      ·rw [if_pos hz] at h9; cases h9
      ·rw [if_neg hz]; exact alone_fam hpf
   ·rw [hff 0 (by decide)] at h9 ⊢
    obtain ⟨a, b⟩ := hO4 0 (by decide) h9
    rw [b]; exact Q.f a
   ·by_cases hki : k = i
    ·subst hki; rw [hq] at g; exact absurd g.1 (by decide : ¬ (1 : Int) = 0)
    ·rw [hk k hk9 hki] at g
     rcases hO k hk9 hki with h | ⟨p, h, hpp, h2⟩
     ·rw [h] at g; omega
     ·rw [h] at g; exact absurd g.1 (by decide : ¬ (1 : Int) = 0)
   ·by_cases hki : k = i
    ·subst hki; rw [hq] at g2; simp only at g2; omega
    ·rw [hk k hk9 hki] at g3
     rcases hO k hk9 hki with h | ⟨p, h, hpp, h2⟩
     ·rw [h] at g3; omega
     ·rw [h]; exact ⟨.inr rfl, hpp⟩
   ·by_cases hki : k = i
    ·subst hki
     rcases hii with h | h
     ·omega
     ·rw [h.2.1, hq] at g3; exact absurd rfl g3
    ·rw [hk k hk9 hki] at g2 g3 ⊢
     rcases hO k hk9 hki with h | ⟨p, h, hpp, h2⟩
     ·rw [h] at g3; exact absurd rfl g3
     ·rw [h2] at g2 ⊢
      rw [h]
      by_cases hz : p.s = 2
      ·rw [if_pos hz] at g2; cases g2
      ·rw [if_neg hz]; exact ⟨rfl, rfl, hpp⟩
  unfold exit3
  rw [hOi]
  rw [if_neg (fun h => h rfl)]
  split
  ·obtain ⟨u1, u2, u3⟩ := up_P o1 hi (zombP q1 code)
   refine fin _ _ _ u1 (fun k hk hne => by rw [u2 k hk, if_neg (fun g => hne g.1)]) ?_ u3
   have e := u2 i hi
   by_cases ho : Slot.okP (zombP q1 code)
   ·rw [if_pos ⟨rfl, ho⟩] at e
    rw [e]
    exact .inr ⟨rfl, hq1p, ⟨rfl, hq1f.1.2⟩, by show (2 : Int) ≠ 3; decide, 0, .inl rfl, rfl⟩
   ·rw [if_neg (fun g => ho g.2), hOi] at e
    rw [e]; exact .inr ⟨rfl, hq1p, hq1f⟩
  ·obtain ⟨u1, u2, u3⟩ := fr_P o1 hi
   refine fin _ _ _ u1 (fun k hk hne => by rw [u2 k hk, if_neg hne]) ?_ u3
   rw [u2 i hi, if_pos rfl]; exact .inl rfl
theorem end_kf {C : Cs} (F : Fi C) {i : Nat} (hi : i < 8) : KF C (C.Xh (endX C i)) := by
 unfold endX
 split
 ·rename_i h
  obtain ⟨u1, u2, u3⟩ := up_P F hi (C.pR i).1
  refine ⟨u1, fun j hj => ?_, fun f hf h9 => by rw [u3 f hf] at h9 ⊢; exact ⟨h9, rfl⟩⟩
  rw [u2 j hj]
  by_cases h2 : j = i ∧ Slot.okP (C.pR i).1
  ·rw [if_pos h2, h2.1]; exact (Prod.ext rfl h.1 : C.pR i = ((C.pR i).1, 1)).symm
  ·rw [if_neg h2]
 ·exact KF.refl F
theorem StepL.kf {C C' C2 : Cs} {i : Nat} {op n e : Int} (h : StepL C C' i op n e) (hk : KF C' C2) : StepL C C2 i op n e :=
 ⟨hk.1, h.fam.same hk, fun k h8 => by rw [hk.2.1 k h8]; exact h.made k h8, fun k h8 => by rw [hk.2.1 k h8]; exact h.born k h8, fun k h8 => by rw [hk.2.1 k h8]; exact h.gone k h8, fun k h8 => by rw [hk.2.1 k h8]; exact h.kin k h8⟩
theorem do_law {C : Cs} (F : Fi C) (Q : FamQ C) {i : Nat} (hi : i < 8) {op : Int} (a : Int) (hop : FOp op) : StepL C (C.Xh (doX C i op a).1) i op (doX C i op a).2.1 (doX C i op a).2.2.1 := by
 unfold doX
 split
 ·rename_i h; subst h; exact fork_law F Q hi
 ·split
  ·rename_i h; subst h; exact exit_law F Q hi a
  ·split
   ·rename_i h; subst h; exact wait_law F Q hi
   ·rename_i h2 h3 h4; exact Di Q (KF.refl F) (fun h => absurd h h2)
theorem fin_law {C : Cs} (F : Fi C) (Q : FamQ C) {i : Nat} (hi : i < 8) {op : Int} (a : Int) (hop : FOp op) : StepL C (C.Xh (finX C i op a)) i op (doX C i op a).2.1 (doX C i op a).2.2.1 := by
 have h := do_law F Q hi a hop
 unfold finX
 split
 ·exact h
 ·exact h.kf (end_kf h.fi hi)
theorem type_kf {C : Cs} (F : Fi C) (bs : List UInt8) : KF C (C.Xh (typeX C bs)) := by
 unfold typeX
 split
 ·exact KF.refl F
 ·obtain ⟨u1, u2, u3⟩ := up_T F (Ring.putP C.tR.1 bs).1
  exact ⟨u1, u2, fun f hf h9 => by rw [u3 f hf] at h9 ⊢; exact ⟨h9, rfl⟩⟩
end Go.Proofs.YtlpmfldijgdcoaaGreatDoor.Fam
namespace Go.Proofs.YtlpmfldijgdcoaaGreatDoor.Wp
open Go Go.Proofs Fx Kn Cm Ho TabC Tryz
section
variable {w w' : World} {κ : KS} {bt : Bool} {wd sp : Nat} {hb : List Nat} {B : Nat} {T : Int} {k : Nat} {S : Sect.Sx} {qs : List Nat} {L : List (Nat × Obj)}
def hostV (hb : List Nat) (s p : Int) : Value := if s = 0 ∧ 0 ≤ p ∧ p < 8 then ptr (hb.getD p.toNat 0) 0 else .pointer none
theorem wHost (W : Wst w κ bt wd sp hb B T k S qs) (s p : Int) : Ret Tryz.prog 30 #[ptr wd 0, I s, I p] w fun v w' => v = hostV hb s p ∧ Hp w [] w' := by
 refine Qi (args := [_, _, _]) func30 rfl ntmps30 results30 (by simp) ?_
 have H := Hp.refl w
 obtain ⟨bb, bbc, ba, bc, ha, hc, la, lc, h1, h2, h3, _⟩ := W.wb
 have hl := W.hl
 obtain ⟨b1, o1, rfl, hc1⟩ := h2.rd.cell (i := 0) (u := .slice la 8 lc) rfl
 have hp9 : 0 ≤ p ∧ p < 8 → ∃ b2 o2, la = some ⟨b2, o2, none⟩ ∧ w.cell? ⟨b2, o2 + p.toNat, none⟩ = some (ptr (hb.getD p.toNat 0) 0) := by
  intro hp
  obtain ⟨b2, o2, e, hc2⟩ := h3.rd.cell (i := p.toNat) (u := ptr (hb.getD p.toNat 0) 0) (by rw [List.getElem?_map, List.getD_eq_getElem?_getD, List.getElem?_eq_getElem (by omega)]; rfl)
  exact ⟨b2, o2, e, hc2⟩
 refine Js (Jr (Ja (Jn (Js (Js (Jr (Jm (J (Vb rfl rfl) (Jm ?_)))))))))
 apply Xz 8 9 17 [(10, 17)] H
 case hc => rfl
 case h1 =>
  intro h11
  refine Jt rfl rfl (Jm (Jt rfl rfl (Jm (Jt rfl rfl (Ji rfl (Jt rfl rfl (Jf 4 underlying81 rfl sizeOf79 rfl rfl (Jt rfl rfl (Jl isAgg79 rfl (H.block h1 (by simp)) rfl (Jt rfl rfl (J (Qh underlying79 rfl) (Jt rfl rfl (J (Mi rfl rfl) (Jp rfl (Jn ?_)))))))))))))))
  exact ⟨kS, rfl, H⟩
 case h0 =>
  intro h11
  refine Jg rfl rfl (Jg rfl rfl (Jg rfl rfl (Jg rfl rfl (Jg rfl rfl (Jg rfl rfl (Jg rfl rfl (Jq rfl (Jn ?_))))))))
  exact ⟨kS, rfl, H⟩
 case h2 =>
  (clear H; intro E11 w11 H)
  refine Jm ?_
  apply Xz 3 18 21 [(19, 21)] H
  case hc => rfl
  case h1 =>
   intro h40
   refine Jt rfl rfl (Jm (Jt rfl rfl (J (Vb rfl rfl) (Jp rfl (Jn ?_)))))
   exact ⟨kS, rfl, H⟩
  case h0 =>
   intro h40
   refine Jg rfl rfl (Jg rfl rfl (Jq rfl (Jn ?_)))
   exact ⟨kS, rfl, H⟩
  case h2 =>
   (clear H; intro E40 w40 H)
   refine Jm ?_
   apply Xz 3 22 25 [(23, 25)] H
   case hc => rfl
   case h1 =>
    intro h54
    refine Jt rfl rfl (Jm (Jt rfl rfl (J (Mi rfl rfl) (Jp rfl (Jn ?_)))))
    exact ⟨kS, rfl, H⟩
   case h0 =>
    intro h54
    refine Jg rfl rfl (Jg rfl rfl (Jq rfl (Jn ?_)))
    exact ⟨kS, rfl, H⟩
   case h2 =>
    (clear H; intro E54 w54 H)
    refine Jn (Xo rfl (fun h68 => ?_) (fun h68 => ?_))
    ·refine Js (Jr (Ja (Jn (Je ?_))))
     exact ⟨_, rfl, (by unfold hostV; exact (if_neg (by omega)).symm), H⟩
    ·refine Jk (Js ?_)
     ((obtain rfl : s = 0 := (by omega); obtain ⟨b2, o2, rfl, hc2⟩ := hp9 (by omega))) <;> refine Qk ?_
     refine Jm (Ji rfl (Jf 4 underlying81 rfl sizeOf79 rfl rfl (Jl isAgg79 rfl (H.block h1 (by simp)) rfl (Jm (J (Qj (off' := o1 + 0) underlying79 sizeOf83 rfl rfl (by decide) (by decide) (by simp)) (J (Qx isAgg83 rfl (H.Zx hc1 kYs)) (Jm (J (Qj (off' := o2 + p.toNat) underlying83 sizeOf84 rfl rfl (by omega) (by omega) (by omega)) (J (Qx isAgg84 rfl (H.Zx hc2 kYs)) (Ja (Jn (Je ?_))))))))))))
     exact ⟨_, rfl, (by unfold hostV; exact (if_pos (by omega)).symm), H⟩
end
end Go.Proofs.YtlpmfldijgdcoaaGreatDoor.Wp
namespace Go.Proofs.YtlpmfldijgdcoaaGreatDoor.Wp
open Go Go.Proofs Fx Kn Cm Ho TabC Fam Tryz
section
variable {w w1 w' : World} {κ : KS} {bt : Bool} {wd sp : Nat} {hb : List Nat} {B : Nat} {T : Int} {k : Nat} {S : Sect.Sx} {qs : List Nat} {L : List (Nat × Obj)}
/-- only what turns, and what is new -/
def Dk (w : World) (κ : KS) (sp : Nat) (hb qs : List Nat) (L : List (Nat × Obj)) : Prop := ∀ p ∈ L, p.1 ∈ Dy κ sp hb qs ∨ w.heap.size ≤ p.1
theorem fi_cv (W : Wst w κ bt wd sp hb B T k S qs) : Fi (cv κ) := ⟨rfl, rfl, by show 492 ≤ κ.xs.length; rw [W.kr.hx, W.n]; decide⟩
theorem fi_cw (W : Wst w κ bt wd sp hb B T k S qs) (i : Nat) (ca : Option Addr) (cc mp : Nat) : Fi (cw κ i ca cc mp) := ⟨rfl, rfl, (fi_cv W).len⟩
theorem fq_cw (Q : FamQ (cv κ)) (i : Nat) (ca : Option Addr) (cc mp : Nat) : FamQ (cw κ i ca cc mp) := ⟨Q.p, Q.f⟩
theorem host_mb {h b : Nat} {ho ys : List Value} (hh : w.heap[h]? = some (blk ho 139)) (hb : w.heap[b]? = some (blk ys 5)) : h ≠ b := by
 rintro rfl; rw [hh] at hb; cases hb
theorem hPick (W : Wst w κ bt wd sp hb B T k S qs) (Q : FamQ (cv κ)) (hk9 : k ≤ 1000000) (hT : T ≤ 1000000) {i h : Nat} (hh : hb[i]? = some h) :
  Ret Tryz.prog 61 #[ptr h 0] w fun v w' => ∃ out is xs S' qs' L ua uc mp op a b da dl dc, v = .tuple #[.agg out.toArray, .bool is] ∧ PickR (cw κ i ua uc mp) i op a b (.slice da dl dc) xs out is ∧
   Wst w' { κ with xs := xs } bt wd sp hb B T (k + 1) S' qs' ∧ (∀ b ∈ qs', b ∈ qs ∨ w.heap.size ≤ b) ∧ Dk w κ sp hb qs L ∧ Hp w L w' := by
 have hi : i < 8 := by have := (List.getElem?_eq_some_iff.1 hh).1; rw [W.hl] at this; exact this
 obtain ⟨c, ua, uc, mp, ph, st, op, a, b, da, dl, dc, h1, h2, h3, h4⟩ := W.host i h hh
 have hQ := fq_cw Q i ua uc mp
 have hF := fi_cw W i ua uc mp
 refine (PickF (C := cw κ i ua uc mp) h1 h2 hi ((W.ks i (by omega)).ks W.kr.hk) W.sq h3 rfl W.bk hk9 hT W.now h4 (fun h9 => ⟨(hQ.p i hi h9).1, (hQ.p i hi h9).2.1⟩) (fun hop h9 h8 => ((do_law hF hQ hi a hop).fam.p i hi h8).1)).mono ?_
 rintro v w' ⟨out, is, xs, ph2, st2, S', rfl, hR, hp2, hbk, hgp, Qq, qs', k1, k2, k3, H⟩
 have hhq := Nd h1 W.sq
 have hU : Ou qs w ([(κ.mb, blk (xs.map U) 5), (h, blk (hC κ i i 0 c ph2 st2 op a b (.slice da dl dc)) 139)] ++ Qq) := Ou.kind W.kr.hb (by simp [DT, elT]) (Ou.kind h1 (by simp [DT, elT]) (Ou.q W.sq k1))
 have hmb := H.held (κ.mb, blk (xs.map U) 5) (by exact .head _)
 have hhn := H.held (h, blk (hC κ i i 0 c ph2 st2 op a b (.slice da dl dc)) 139) (by exact .tail _ (.head _))
 have hsq := k2.at (fun p hp => H.held p (List.mem_append_right _ hp))
 refine ⟨out, is, xs, S', qs', _, ua, uc, mp, op, a, b, da, dl, dc, rfl, hR, W.upd H hU hmb (gp_cv hgp) hsq k3 hbk (i := i) (fun j h' hj hne hm => ?_) (fun h' hj => ?_), k3, fun p hp => ?_, H⟩
 ·obtain ⟨c', ua', uc', mp', ph', st', op', a', b', da', dl', dc', g1, _⟩ := W.host j h' hj
  have g2 := Nd g1 W.sq
  rw [List.map_append, List.mem_append] at hm
  rcases hm with hm | hm
  ·rcases List.mem_cons.1 hm with e | hm
   ·exact host_mb g1 W.kr.hb e
   ·exact W.host_ne hh hj hne (List.mem_singleton.1 hm)
  ·obtain ⟨p, hp, e⟩ := List.mem_map.1 hm
   have := Qr g1
   rcases k1 p hp with h5 | h5 | h5
   ·exact g2.1 (by omega)
   ·exact g2.2 (by rw [← e]; exact h5)
   ·omega
 ·rw [hh] at hj; cases hj
  refine ⟨c, ua, uc, mp, ph2, st2, op, a, b, da, dl, dc, hhn, h2.atU W.sq h3 H hU hmb hgp, fun a ha hm => ?_, hp2⟩
  rcases k3 _ hm with h5 | h5
  ·exact h3 a ha h5
  ·obtain ⟨o, h6, _⟩ := h2.hM.hct a ha
   have := Qr h6; omega
 ·rcases List.mem_append.1 hp with hp | hp
  ·rcases List.mem_cons.1 hp with rfl | hp
   ·exact .inl (List.Mem.head _)
   ·rw [List.mem_singleton.1 hp]; exact .inl (by simp [Dy, List.mem_of_getElem? hh])
  ·rcases k1 p hp with h5 | h5 | h5
   ·exact .inl (by rw [h5]; simp [Dy])
   ·exact .inl (by simp [Dy, h5])
   ·exact .inr h5
end
end Go.Proofs.YtlpmfldijgdcoaaGreatDoor.Wp
namespace Go.Proofs.YtlpmfldijgdcoaaGreatDoor.Wp
open Go Go.Proofs Fx Kn Cm Ho TabC Caps Fam Tryz
section
variable {w w1 w' : World} {κ : KS} {bt : Bool} {wd sp : Nat} {hb : List Nat} {B : Nat} {T : Int} {k : Nat} {S : Sect.Sx} {qs : List Nat} {L : List (Nat × Obj)}
/-- commons made anew -/
theorem cmi_new {c e uc mp : Nat} {ua : Option Addr} (hK : Kr w κ) (hW : Wn κ e 256 0 492) (hc : w.heap[c]? = some (blk [ptr κ.k 0, I e, .slice ua 1 uc, .map (some mp)] 177)) (hmp : w.heap[mp]? = some (.map #[] 0)) (hO : RdT 3 w (.slice ua 1 uc) ([256].map I)) : CmI w c (cw κ e ua uc mp) := by
 refine ⟨hc, hO.rd, fun a ha => hO.ty a 1 uc (by subst ha; rfl), hmp, Mr.MapIs.nil, hK, ?_, rfl, show 1 ≤ 1 ∧ 1 ≤ 5 by decide, ?_, ?_⟩
 ·intro j nm x h1 h2
  match j, h1, h2 with
  | 0, h1, h2 => cases h1; cases h2; exact ⟨hW.ex, hW.hin, hW.he⟩
  | j + 1, h1, _ => simp [cw] at h1
 ·intro x hx; cases hx; rfl
 ·intro j x hj hx
  match j, hj with
  | j + 1, _ => simp [cw] at hx
theorem Wst.wn (W : Wst w κ bt wd sp hb B T k S qs) {i h : Nat} (hh : hb[i]? = some h) : Wn κ i 256 0 492 := by
 obtain ⟨c, ua, uc, mp, ph, st, op, a, b, da, dl, dc, h1, h2, h3, h4⟩ := W.host i h hh
 exact h2.hM.hw 0 256 (0, 492) rfl rfl
theorem hFresh (W : Wst w κ bt wd sp hb B T k S qs) (hk9 : k ≤ 1000000) (hl : ∀ b ∈ qs, b + 1 < w.heap.size) {i h : Nat} (hh : hb[i]? = some h) :
  Ret Tryz.prog 62 #[ptr h 0] w fun v w' => ∃ S' qs' L, Wst w' κ bt wd sp hb B T (k + 1) S' qs' ∧ (∀ b ∈ qs', b ∈ qs ∨ w.heap.size ≤ b) ∧ Dk w κ sp hb qs L ∧ Hp w L w' := by
 have hi : i < 8 := by have := (List.getElem?_eq_some_iff.1 hh).1; rw [W.hl] at this; exact this
 obtain ⟨c, ua, uc, mp, ph, st, op, a, b, da, dl, dc, h1, h2, h3, h4⟩ := W.host i h hh
 obtain ⟨q', hq', ht'⟩ := W.tb i (by omega)
 have hBd := W.bk.bd hk9
 refine (FreshG (nms := [256]) h1 ((W.ks i (by omega)).ks W.kr.hk) W.sq hl hBd.q1 W.kr hq' ht' (by kernel_rfl) (by simp)).mono ?_
 rintro v w' ⟨S', c', u, mp', M, Q, qs', hS', k1, k2, k3, g1, g2, hO, H⟩
 obtain ⟨ua', uc', rfl⟩ := hO.form
 have hhq := Nd h1 W.sq
 have hM := hO.keys
 have hU : Ou qs w (((c', blk [ptr κ.k 0, I i, .slice ua' 1 uc', .map (some mp')] 177) :: (mp', .map #[] 0) :: M) ++ ((h, blk (hC κ i i 0 c' 0 st op a b (.slice da dl dc)) 139) :: Q)) :=
  (Ou.cnew g1 (Ou.cnew g2 (Ou.new hM))).app (Ou.kind h1 (by simp [DT, elT]) (Ou.q W.sq k1))
 have hsq := k2.at (fun p hp => H.held p (List.mem_append_right _ (.tail _ hp)))
 have hhn := H.held (h, blk (hC κ i i 0 c' 0 st op a b (.slice da dl dc)) 139) (List.mem_append_right _ (.head _))
 have hmbn : κ.mb ∉ (((c', blk [ptr κ.k 0, I i, .slice ua' 1 uc', .map (some mp')] 177) :: (mp', .map #[] 0) :: M) ++ ((h, blk (hC κ i i 0 c' 0 st op a b (.slice da dl dc)) 139) :: Q)).map (·.1) := by
  intro hm
  obtain ⟨p, hp, e⟩ := List.mem_map.1 hm
  have hlt := Qr W.kr.hb
  have hmq := mb_q h1 W.sq W.kr.hb
  rcases List.mem_append.1 hp with hp | hp
  ·have : w.heap.size ≤ p.1 := Qu g1 (Qu g2 hM) p hp
   omega
  ·rcases List.mem_cons.1 hp with rfl | hp
   ·exact hmq.1 e.symm
   ·rcases k1 p hp with h5 | h5 | h5
    ·exact hmq.2.1 (by omega)
    ·exact hmq.2.2 (by rw [← e]; exact h5)
    ·omega
 have hmb := H.block W.kr.hb hmbn
 have hbk : Sect.Bk S' T (k + 1) := by
  rcases hS' with rfl | rfl
  ·exact W.bk.mono (Int.le_refl _) (by omega)
  ·exact (Bk.quit W.bk).mono (Int.le_refl _) (by omega)
 have hKr : Kr w' κ := W.kr.keep H (hU.out W.sq (by simp [DT, kT])) hmb W.kr.hx
 have hrd : RdT 3 w' (.slice ua' 1 uc') ([256].map I) := RdT.own hO (fun p hp => H.held p (List.mem_append_left _ (.tail _ (.tail _ hp))))
 have hcm : CmI w' c' (cw κ i ua' uc' mp') := cmi_new hKr (W.wn hh) (H.held (c', _) (List.mem_append_left _ (.head _))) (H.held (mp', _) (List.mem_append_left _ (.tail _ (.head _)))) hrd
 refine ⟨S', qs', _, W.upd H hU hmb W.gp hsq k3 hbk (i := i) (fun j h' hj hne hm => ?_) (fun h' hj => ?_), k3, fun p hp => ?_, H⟩
 ·obtain ⟨c2, ua2, uc2, mp2, ph2, st2, op2, a2, b2, da2, dl2, dc2, f1, _⟩ := W.host j h' hj
  have f2 := Nd f1 W.sq
  have hlt := Qr f1
  obtain ⟨p, hp, e⟩ := List.mem_map.1 hm
  rcases List.mem_append.1 hp with hp | hp
  ·have : w.heap.size ≤ p.1 := Qu g1 (Qu g2 hM) p hp
   omega
  ·rcases List.mem_cons.1 hp with rfl | hp
   ·exact W.host_ne hh hj hne e.symm
   ·rcases k1 p hp with h5 | h5 | h5
    ·exact f2.1 (by omega)
    ·exact f2.2 (by rw [← e]; exact h5)
    ·omega
 ·rw [hh] at hj; cases hj
  refine ⟨c', ua', uc', mp', 0, st, op, a, b, da, dl, dc, hhn, ⟨hcm, ?_, wj1 _ rfl⟩, fun a ha hm => ?_, .inl rfl⟩
  ·exact (gp_cw W.gp i ua' uc' mp').1
  ·obtain ⟨b9, cap9, sp9, e1, _, e2, _⟩ := hO.pos (by decide)
   obtain ⟨qv9, Mq9, _, _, e3, e4⟩ := k2
   have hab : a.block = b9 := by
    have h5 : ua' = some ⟨b9, 0, none⟩ := by injection e1
    rw [ha] at h5; cases h5; rfl
   rw [e4] at hm
   obtain ⟨p, hp, e5⟩ := List.mem_map.1 hm
   have hnd := H.nodup
   rw [List.map_append, List.nodup_append] at hnd
   refine hnd.2.2 a.block ?_ a.block ?_ rfl
   ·rw [hab, e2]; simp
   ·rw [← e5]; exact List.mem_map_of_mem (.tail _ (e3 hp))
 ·rcases List.mem_append.1 hp with hp | hp
  ·exact .inr (Qu g1 (Qu g2 hM) p hp)
  ·rcases List.mem_cons.1 hp with rfl | hp
   ·exact .inl (by simp [Dy, List.mem_of_getElem? hh])
   ·rcases k1 p hp with h5 | h5 | h5
    ·exact .inl (by rw [h5]; simp [Dy])
    ·exact .inl (by simp [Dy, h5])
    ·exact .inr h5
/-- time went on -/
def KS.tick (κ : KS) (n : Int) : KS := { κ with now := n }
theorem sp_keep2 {s : Nat} {PB : List (Nat × Nat)} {ts : List (List Pl)} (h : Sp w s PB ts) (H : Hp w L w') (hn : Out [164, 165, 209, 211] w L) : Sp w' s PB ts := by
 obtain ⟨bs, cap, sp, h1, h2⟩ := h.ex
 exact ⟨⟨bs, cap, sp, H.Xw h1 (by simp [elT]) hn, H.Xw h2 (by simp [elT]) hn⟩, fun j q hq => H.Xw (h.tp j q hq) (by simp [elT]) hn, fun j q t hq ht => H.Xw (h.tb j q t hq ht) (by simp [elT]) hn, h.inv⟩
def kT2 : List Nat := [161, 5, 142, 145, 164, 165, 209, 211]
theorem Kr.tick (h : Kr w κ) {n : Int} (H : Hp w [(κ.k, (KS.tick κ n).kb)] w') : Kr w' (KS.tick κ n) := by
 have hn : Out kT2 w [(κ.k, (KS.tick κ n).kb)] := Out.cons h.hk (by simp [kT2, elT, KS.kb]) Out.nil
 exact ⟨H.get .here, H.Xw h.hm (by simp [kT2, elT]) hn, H.Xw h.hb (by simp [kT2, elT]) hn, H.Xw h.hr (by simp [kT2, elT]) hn, H.Xw h.ha (by simp [kT2, elT]) hn, sp_keep2 h.hS H (hn.sub (by simp [kT2])), h.hx, h.hN, h.hsp, h.hen⟩
theorem cmi_tick {c i mp uc : Nat} {ua : Option Addr} (h : CmI w c (cw κ i ua uc mp)) {n : Int} (H : Hp w [(κ.k, (KS.tick κ n).kb)] w') : CmI w' c (cw (KS.tick κ n) i ua uc mp) := by
 have hk : w.heap[κ.k]? = some κ.kb := h.hK.hk
 have hn : Out [177, 1000000] w [(κ.k, (KS.tick κ n).kb)] := Out.cons hk (by simp [elT, KS.kb]) Out.nil
 refine ⟨H.Xw h.hc (by simp [elT]) hn, ?_, ?_, H.Xw h.hmp (by simp [elT]) hn, h.hbad, Kr.tick h.hK H, fun j nm x h1 h2 => ?_, h.hl, h.hl0, h.hz0, h.hzj⟩
 ·refine h.hcv.mono H fun a m c' e hm => ?_
  have ha : ua = some a := by injection e
  obtain ⟨o, h1, h2⟩ := h.hct a ha
  have : a.block = κ.k := by simpa using hm
  rw [this, hk] at h1
  cases h1; simp [elT, KS.kb] at h2
 ·intro a ha
  obtain ⟨o, h1, h2⟩ := h.hct a ha
  refine ⟨o, H.block h1 (fun hm => ?_), h2⟩
  have : a.block = κ.k := by simpa using hm
  rw [this, hk] at h1
  cases h1; simp [elT, KS.kb] at h2
 ·have := h.hw j nm x h1 h2
  exact ⟨this.ex, this.hin, this.he⟩
theorem Wst.tick (W : Wst w κ bt wd sp hb B T k S qs) {n : Int} (h0 : 0 ≤ n) (hn : n ≤ T + 1000) (H : Hp w [(κ.k, (KS.tick κ n).kb)] w') : Wst w' (KS.tick κ n) bt wd sp hb B (T + 1000) k S qs := by
 have hk := W.kr.hk
 have hO : ∀ {T : List Nat}, 113 ∉ T → Out T w [(κ.k, (KS.tick κ n).kb)] := fun h => Out.cons hk (by simpa [elT, KS.kb] using h) Out.nil
 have hne : ∀ {b : Nat} {o : Obj}, w.heap[b]? = some o → elT o ≠ 113 → b ≠ κ.k := by
  rintro b o h1 h2 rfl
  rw [hk] at h1; cases h1; exact h2 rfl
 obtain ⟨bb, bbc, ba, bc, ha, hc, la, lc, h1, h2, h3, h4⟩ := W.wb
 refine ⟨⟨bb, bbc, ba, bc, ha, hc, la, lc, H.Xw (T := [81]) h1 (by simp [elT]) (hO (by simp)), h2.keep H (hO (by simp)), h3.keep H (hO (by simp)), h4.keep H (hO (by simp))⟩, W.hl, fun j h hj => ?_, fun e he => ?_, Kr.tick W.kr H, W.sq.keep H (fun p hp => ?_), W.qB, W.n, W.tb, W.bk.mono (by omega) (Nat.le_refl _), ⟨h0, hn⟩, Nat.le_trans W.hB H.size, ⟨⟨W.gp.1.p, W.gp.1.f, W.gp.1.q, W.gp.1.t, W.gp.1.g⟩, W.gp.2⟩⟩
 ·obtain ⟨c, ua, uc, mp, ph, st, op, a, b, da, dl, dc, g1, g2, g3, g4⟩ := W.host j h hj
  exact ⟨c, ua, uc, mp, ph, st, op, a, b, da, dl, dc, H.Xw (T := [139]) g1 (by simp [elT]) (hO (by simp)), ⟨cmi_tick g2.hM H, ⟨g2.hL.p, g2.hL.f, g2.hL.q, g2.hL.t, g2.hL.g⟩, wj1 _ rfl⟩, g3, g4⟩
 ·obtain ⟨envs, mays, l, mv, ss, x, g1, g2, g3, g4, g5, g6, g7, g8, g9⟩ := W.ks e he
  exact ⟨envs, mays, l, mv, ss, x, ⟨g1.1.keep H (hO (by simp)), g1.2⟩, g2, g3.keep H (hO (by simp)), g4, ⟨g5.1.keep H (hO (by simp)), g5.2⟩, g6, g7.keep H (hO (by simp)), g8, g9⟩
 ·rw [List.mem_singleton] at hp
  subst hp
  refine ⟨fun e => ?_, fun hm => ?_⟩
  ·obtain ⟨o, f1, f2⟩ := W.sq.sect
   exact hne f1 (by rw [f2]; decide) e.symm
  ·obtain ⟨o, f1, f2⟩ := W.sq.int hm
   exact hne f1 (by rw [f2]; decide) rfl
/-- what Tick leaves -/
def tickN (now n : Int) : Int := now + min (max n 0) 1000
theorem Tick_ret {n : Int} (hk : w.heap[κ.k]? = some κ.kb) (hn : IntKind.i64.wrap n = n) (h0 : 0 ≤ κ.now ∧ κ.now ≤ 1000000) :
  Ret Tryz.prog 32 #[ptr κ.k 0, I n] w fun v w' => Hp w [(κ.k, (KS.tick κ (tickN κ.now n)).kb)] w' := by
 refine Qi (args := [_, _]) func32 rfl ntmps32 results32 (by simp) ?_
 unfold KS.kb at hk
 unfold KS.kb KS.tick
 have H := Hp.refl w
 have hm : κ.now + min (max n 0) 1000 = tickN κ.now n := rfl
 refine Js (Jr (Ja (Jn (Js ?_))))
 ((replace H := H.foc hk kYs)) <;> refine Qk ?_
 refine Jm (Jm (Ji rfl (Jf 7 underlying113 rfl sizeOf3 rfl rfl (Jl isAgg3 rfl (H.get .here) rfl (Jm (J (Mz rfl rfl rfl) (Ym rfl (Nn rfl rfl rfl) ?_)))))))
 refine J (Xg rfl rfl (Xc (by omega))) (J (Nn rfl rfl (by rw [Int.min_eq_left (by omega)])) (Ym rfl (Qf rfl) ?_))
 (refine Jf 7 underlying113 rfl sizeOf3 rfl rfl (Qd rfl (Qz (v := I (tickN κ.now n)) H sizeOf3 rfl rfl rfl .here (by simp)) ?_); clear H; intro w19 H)
 refine Jn (Js (Jr (Jm (Ji rfl (Jf 7 underlying113 rfl sizeOf3 rfl rfl (Jl isAgg3 rfl (H.get .here) rfl (Ja (Jn (Je ?_)))))))))
 exact ⟨_, rfl, H⟩
end
end Go.Proofs.YtlpmfldijgdcoaaGreatDoor.Wp
namespace Go.Proofs.YtlpmfldijgdcoaaGreatDoor.Wp
open Go Go.Proofs Fx Kn Cm Ho TabC Fam Tryz
/-- what a step tells, and leaves -/
def Dl (κ : KS) (xs : List UInt8) (out : List Value) (is : Bool) : Prop :=
 (is = false ∧ out = z0 ∧ KF (cv κ) ((cv κ).Xh xs)) ∨
 (is = true ∧ ∃ (i : Nat) (op a b : Int) (D : Value) (n e : Int), i < 8 ∧ FOp op ∧ D.oneCell' = true ∧ out = oC 0 i op a b D n e nilS true nilS 0 ∧ StepL (cv κ) ((cv κ).Xh xs) i op n e)
theorem Dl.fam {κ : KS} {xs : List UInt8} {out : List Value} {is : Bool} (h : Dl κ xs out is) (Q : FamQ (cv κ)) : FamQ (cv { κ with xs := xs }) := by
 rcases h with ⟨_, _, h⟩ | ⟨_, i, op, a, b, D, n, e, _, _, _, _, h⟩
 ·exact ⟨(Q.same h).p, (Q.same h).f⟩
 ·exact ⟨h.fam.p, h.fam.f⟩
theorem Dl.same {κ : KS} (F : Fi (cv κ)) : Dl κ κ.xs z0 false := .inl ⟨rfl, rfl, KF.refl F⟩
theorem step_cv {κ : KS} {xs : List UInt8} {i j : Nat} {ca : Option Addr} {cc mp : Nat} {op n e : Int} (h : StepL (cw κ j ca cc mp) ((cw κ j ca cc mp).Xh xs) i op n e) : StepL (cv κ) ((cv κ).Xh xs) i op n e :=
 ⟨⟨h.fi.wins, h.fi.bad, h.fi.len⟩, ⟨h.fam.p, h.fam.f⟩, h.made, h.born, h.gone, h.kin⟩
theorem kf_cv {κ : KS} {xs : List UInt8} {j : Nat} {ca : Option Addr} {cc mp : Nat} (h : KF (cw κ j ca cc mp) ((cw κ j ca cc mp).Xh xs)) : KF (cv κ) ((cv κ).Xh xs) :=
 ⟨⟨h.1.wins, h.1.bad, h.1.len⟩, h.2.1, h.2.2⟩
/-- what is asked of a slot ahead of a step, and behind it -/
structure TellK (x y : Slot.Pi × Int) (k : Nat) (is bk : Bool) (sl op n e : Int) : Prop where
 m : (is = true ∧ bk = true ∧ e = 0 ∧ op = 2 ∧ n = k) ↔ (x.2 = 0 ∧ y.2 = 1)
 b : is = true → bk = true → e = 0 → op = 2 → n = k → y.1.p = sl + 1 ∧ y.1.s = 1
 g : x.2 = 1 → x.1.s = 2 → y.2 = 0 → (is = true ∧ bk = true ∧ ((op = 4 ∧ e = 0 ∧ n = 256 * (k : Int) + x.1.e) ∨ op = 3) ∧ x.1.p = sl + 1)
 p : x.2 = 1 → y.2 = 1 → x.1.p ≠ y.1.p → (y.1.p = 0 ∧ is = true ∧ op = 3 ∧ x.1.p = sl + 1)
theorem pR_cv {κ : KS} (F : Fi (cv κ)) (k : Nat) : (cv κ).pR k = Slot.Xy (win κ.xs (24 * k) 24) := by rw [pR_D F, rc_xs F]; rfl
theorem pR_cv2 {κ : KS} {xs : List UInt8} (F : Fi ((cv κ).Xh xs)) (k : Nat) : ((cv κ).Xh xs).pR k = Slot.Xy (win xs (24 * k) 24) := by rw [pR_D F, rc_xs F]; rfl
theorem Dl.law {κ : KS} {xs : List UInt8} {out : List Value} {is : Bool} (h : Dl κ xs out is) (F : Fi (cv κ)) :
  ∃ (sl : Nat) (op a b : Int) (D : Value) (n e : Int) (bk : Bool), out = oC 0 sl op a b D n e nilS bk nilS 0 ∧ D.oneCell' = true ∧ sl < 8 ∧ ∀ k, k < 8 → TellK (Slot.Xy (win κ.xs (24 * k) 24)) (Slot.Xy (win xs (24 * k) 24)) k is bk sl op n e := by
 rcases h with ⟨rfl, rfl, h⟩ | ⟨rfl, i, op, a, b, D, n, e, hi, hop, hD, rfl, h⟩
 ·refine ⟨0, 0, 0, 0, nilS, 0, 0, false, rfl, rfl, by decide, fun k hk => ?_⟩
  have e1 := h.2.1 k hk
  rw [pR_cv F, pR_cv2 h.1] at e1
  rw [e1]
  exact ⟨⟨fun g => absurd g.1 (by decide), fun g => by omega⟩, fun g => absurd g (by decide), fun g1 g2 g3 => by omega, fun _ _ g => absurd rfl g⟩
 ·refine ⟨i, op, a, b, D, n, e, true, rfl, hD, hi, fun k hk => ?_⟩
  have hm := h.made k hk
  have hb := h.born k hk
  have hg := h.gone k hk
  have hp := h.kin k hk
  rw [pR_cv F, pR_cv2 h.fi] at hm hg hp
  rw [pR_cv2 h.fi] at hb
  exact ⟨⟨fun g => hm.1 ⟨g.2.2.2.1, g.2.2.1, g.2.2.2.2⟩, fun g => by have := hm.2 g; exact ⟨rfl, rfl, this.2.1, this.1, this.2.2⟩⟩, fun _ _ g1 g2 g3 => hb g2 g1 g3, fun g1 g2 g3 => ⟨rfl, rfl, hg g1 g2 g3⟩, fun g1 g2 g3 => by have := hp g1 g2 g3; exact ⟨this.1, rfl, this.2⟩⟩
section
variable {w w1 w' : World} {κ : KS} {bt : Bool} {wd sp : Nat} {hb : List Nat} {B : Nat} {T : Int} {k : Nat} {S : Sect.Sx} {qs : List Nat} {L : List (Nat × Obj)}
theorem PickR.tell (W : Wst w κ bt wd sp hb B T k S qs) (Q : FamQ (cv κ)) {i : Nat} (hi : i < 8) {ua : Option Addr} {uc mp : Nat} {op a b : Int} {D : Value} (hD : D.oneCell' = true) {xs : List UInt8} {out : List Value} {is : Bool}
  (h : PickR (cw κ i ua uc mp) i op a b D xs out is) : Dl κ xs out is := by
 have hQ := fq_cw Q i ua uc mp
 have hF := fi_cw W i ua uc mp
 rcases h with ⟨h1, h2, h3⟩ | ⟨h1, hop, h2⟩
 ·refine .inl ⟨h1, h2, ?_⟩
  rcases h3 with rfl | rfl
  ·exact KF.refl (fi_cv W)
  ·exact kf_cv (end_kf hF hi)
 ·rcases h2 with ⟨h2, _⟩ | ⟨_, _, h4, h5⟩
  ·rw [h1] at h2; cases h2
  ·have e : xs = finX (cw κ i ua uc mp) i op a := h5
   subst e
   exact .inr ⟨h1, i, op, a, b, D, _, _, hi, hop, hD, h4, step_cv (fin_law hF hQ hi a hop)⟩
/-- ahead of blocks of one's own -/
theorem Wst.own (W : Wst w κ bt wd sp hb B T k S qs) (H : Hp w L w1) (hn : ∀ p ∈ L, w.heap.size ≤ p.1) {M : List (Nat × Obj)} (hM : Dk w1 κ sp hb qs M) (H1 : Hp w1 M w') : Dk w κ sp hb qs M ∧ Hp w (M ++ L) w' :=
 ⟨fun p hp => (hM p hp).imp id (fun h => Nat.le_trans H.size h), Uj H hn H1 (fun p hp => (hM p hp).imp (fun h => W.dy_lt h) id)⟩
theorem Dk.two {κ' : KS} {qs' : List Nat} {M : List (Nat × Obj)} (h1 : Dk w κ sp hb qs L) (hmb : κ'.mb = κ.mb) (hk : κ'.k = κ.k) (hsz : w.heap.size ≤ w1.heap.size) (hqs : ∀ b ∈ qs', b ∈ qs ∨ w.heap.size ≤ b) (h2 : Dk w1 κ' sp hb qs' M) : Dk w κ sp hb qs M := by
 intro p hp
 rcases h2 p hp with h | h
 ·simp only [Dy, List.mem_cons, List.mem_append, hmb, hk] at h ⊢
  rcases h with h | h | h | h | h
  ·exact .inl (.inl h)
  ·exact .inl (.inr (.inl h))
  ·exact .inl (.inr (.inr (.inl h)))
  ·exact .inl (.inr (.inr (.inr (.inl h))))
  ·rcases hqs _ h with h | h
   ·exact .inl (.inr (.inr (.inr (.inr h))))
   ·exact .inr h
 ·exact .inr (Nat.le_trans hsz h)
/-- one behind the other, whatever both turned -/
theorem hp_two {w2 : World} {M : List (Nat × Obj)} (H : Hp w L w1) (H1 : Hp w1 M w2) : Hp w (M ++ L.filter (fun p => decide (p.1 ∉ M.map (·.1)))) w2 := by
 have hf : ∀ p, p ∈ L.filter (fun p => decide (p.1 ∉ M.map (·.1))) ↔ (p ∈ L ∧ p.1 ∉ M.map (·.1)) := fun p => by rw [List.mem_filter, decide_eq_true_eq]
 refine ⟨H1.os.trans H.os, H1.tape.trans H.tape, H1.output.trans H.output, Nat.le_trans H.size H1.size, fun k hk hn => ?_, fun p hp => ?_, ?_⟩
 ·rw [List.map_append, List.mem_append, not_or] at hn
  rw [H1.old k (Nat.lt_of_lt_of_le hk H.size) hn.1]
  refine H.old k hk fun hm => hn.2 ?_
  obtain ⟨p, hp, rfl⟩ := List.mem_map.1 hm
  exact List.mem_map_of_mem ((hf p).2 ⟨hp, hn.1⟩)
 ·rcases List.mem_append.1 hp with hp | hp
  ·exact H1.held p hp
  ·have := (hf p).1 hp
   exact H1.block (H.held p this.1) this.2
 ·rw [List.map_append, List.nodup_append]
  refine ⟨H1.nodup, List.Nodup.sublist (List.Sublist.map _ List.filter_sublist) H.nodup, fun a ha b hb e => ?_⟩
  subst e
  obtain ⟨p, hp, rfl⟩ := List.mem_map.1 hb
  exact ((hf p).1 hp).2 ha
end
end Go.Proofs.YtlpmfldijgdcoaaGreatDoor.Wp
namespace Go.Proofs.YtlpmfldijgdcoaaGreatDoor.Wp
open Go Go.Proofs Fx Kn Cm Ho TabC Fam Tryz
section
variable {w w1 w' : World} {κ : KS} {bt : Bool} {wd sp : Nat} {hb : List Nat} {B : Nat} {T : Int} {k : Nat} {S : Sect.Sx} {qs : List Nat} {L : List (Nat × Obj)}
/-- but for what is new, and what is told -/
theorem Wst.keepO (W : Wst w κ bt wd sp hb B T k S qs) (H : Hp w L w') (hL : ∀ p ∈ L, w.heap.size ≤ p.1 ∨ ∃ o, w.heap[p.1]? = some o ∧ elT o = 40) : Wst w' κ bt wd sp hb B T k S qs := by
 have hne : ∀ {b : Nat} {o : Obj}, w.heap[b]? = some o → elT o ≠ 40 → b ∉ L.map (·.1) := by
  intro b o h1 h2 hm
  obtain ⟨p, hp, e⟩ := List.mem_map.1 hm
  rcases hL p hp with h | ⟨o', h3, h4⟩
  ·have := Qr h1; omega
  ·rw [e, h1] at h3; cases h3; exact h2 h4
 have hU : Ou qs w L := fun p hp => (hL p hp).imp id (fun ⟨o, h1, h2⟩ => .inr ⟨o, h1, by rw [h2]; simp [DT]⟩)
 refine W.upd H hU (H.block W.kr.hb (hne W.kr.hb (by simp [elT]))) W.gp (W.sq.keep H (fun p hp => ⟨fun e => ?_, fun hm => ?_⟩)) (fun b hb => .inl hb) W.bk (i := 100) (fun j h hj _ => ?_) (fun h hh => by
  have := (List.getElem?_eq_some_iff.1 hh).1; rw [W.hl] at this; omega)
 ·obtain ⟨o, f1, f2⟩ := W.sq.sect
  exact hne f1 (by rw [f2]; decide) (by rw [← e]; exact List.mem_map_of_mem hp)
 ·obtain ⟨o, f1, f2⟩ := W.sq.int hm
  exact hne f1 (by rw [f2]; decide) (List.mem_map_of_mem hp)
 ·obtain ⟨c, ua, uc, mp, ph, st, op, a, b, da, dl, dc, h1, _⟩ := W.host j h hj
  exact hne h1 (by simp [elT])
theorem dk_glue {w2 : World} {κ' : KS} {qs' : List Nat} {M : List (Nat × Obj)} (h1 : Dk w κ sp hb qs L) (H : Hp w L w1) (hmb : κ'.mb = κ.mb) (hk : κ'.k = κ.k) (hqs : ∀ b ∈ qs', b ∈ qs ∨ w.heap.size ≤ b) (h2 : ∀ p ∈ M, p.1 ∈ Dy κ' sp hb qs' ∨ w.heap.size ≤ p.1) (H1 : Hp w1 M w2) : ∃ N, Dk w κ sp hb qs N ∧ Hp w N w2 := by
 refine ⟨_, fun p hp => (List.mem_append.1 hp).elim (fun h => ?_) (fun h => h1 p (List.mem_filter.1 h).1), hp_two H H1⟩
 exact Dk.two (w1 := w) (M := M) h1 hmb hk (Nat.le_refl _) hqs h2 p h
theorem dy_new (W : Wst w κ bt wd sp hb B T k S qs) {κ' : KS} (hmb : κ'.mb = κ.mb) (hk : κ'.k = κ.k) {qs' : List Nat} {n c : Nat} (hqs : ∀ b ∈ qs', b ∈ qs ∨ n ≤ b) (hc : w.heap.size ≤ c) (hn : c < n) : c ∉ Dy κ' sp hb qs' := by
 intro hm
 have h0 : c ∉ Dy κ sp hb qs := fun h => by have := W.dy_lt h; omega
 simp only [Dy, List.mem_cons, List.mem_append, hmb, hk, not_or] at h0 hm
 rcases hm with h | h | h | h | h
 ·exact h0.1 h
 ·exact h0.2.1 h
 ·exact h0.2.2.1 h
 ·exact h0.2.2.2.1 h
 ·rcases hqs _ h with h | h
  ·exact h0.2.2.2.2 h
  ·omega
theorem dk_out {c : Nat} (hd : c ∉ Dy κ sp hb qs) (hlt : c < w.heap.size) (hL : Dk w κ sp hb qs L) : c ∉ L.map (·.1) := by
 intro hm
 obtain ⟨p, hp, e⟩ := List.mem_map.1 hm
 rcases hL p hp with h | h
 ·rw [e] at h; exact hd h
 ·omega
theorem hostV_or (W : Wst w κ bt wd sp hb B T k S qs) (s p : Int) : hostV hb s p = .pointer none ∨ ∃ (i h : Nat), hb[i]? = some h ∧ hostV hb s p = ptr h 0 ∧ s = 0 := by
 unfold hostV
 split
 ·rename_i h
  obtain ⟨x, hx⟩ := W.host_get (i := p.toNat) (by omega)
  refine .inr ⟨p.toNat, x, hx, ?_, h.1⟩
  rw [List.getD_eq_getElem?_getD, hx]; rfl
 ·exact .inl rfl
theorem hStart (W : Wst w κ bt wd sp hb B T k S qs) {i h : Nat} (hh : hb[i]? = some h) {op a b : Int} (hop : FOp op) {xa : Option Addr} {xl xc : Nat} {ds : List UInt8} (hl : RdS w (.slice xa xl xc) (ds.map U)) (hd : ds.length ≤ 1000000) :
  Ret Tryz.prog 33 #[ptr h 0, .agg (sysC op a b (.slice xa xl xc)).toArray] w fun v w' => ∃ L, Wst w' κ bt wd sp hb B T k S qs ∧ Dk w κ sp hb qs L ∧ Hp w L w' := by
 have hi : i < 8 := by have := (List.getElem?_eq_some_iff.1 hh).1; rw [W.hl] at this; exact this
 obtain ⟨c, ua, uc, mp, ph, st, op', a', b', da, dl, dc, h1, h2, h3, h4⟩ := W.host i h hh
 refine (StartG (op := op) (a := a) (b := b) (C := cw κ i ua uc mp) h1 h2 hi hl hd).mono ?_
 rintro v w' ⟨ok, ph2, op2, a2, b2, da2, dl2, dc2, M, rfl, hp2, hM, H⟩
 have hhq := Nd h1 W.sq
 have hkey : ∀ p ∈ (h, blk (hC κ i i 0 c ph2 st op2 a2 b2 (.slice da2 dl2 dc2)) 139) :: M, p.1 = h ∨ w.heap.size ≤ p.1 := fun p hp => by
  rcases List.mem_cons.1 hp with rfl | hp
  ·exact .inl rfl
  ·exact .inr (hM p hp)
 have hold : ∀ {b : Nat}, b < w.heap.size → b ≠ h → b ∉ ((h, blk (hC κ i i 0 c ph2 st op2 a2 b2 (.slice da2 dl2 dc2)) 139) :: M).map (·.1) := by
  intro b hb1 hb2 hm
  obtain ⟨p, hp, e⟩ := List.mem_map.1 hm
  rcases hkey p hp with h5 | h5 <;> omega
 have hU : Ou qs w ((h, blk (hC κ i i 0 c ph2 st op2 a2 b2 (.slice da2 dl2 dc2)) 139) :: M) := Ou.kind h1 (by simp [DT, elT]) (Ou.new hM)
 have hmb := H.block W.kr.hb (hold (Qr W.kr.hb) (host_mb h1 W.kr.hb).symm)
 refine ⟨_, W.upd H hU hmb W.gp (W.sq.keep H (fun p hp => ⟨fun e => ?_, fun hm => ?_⟩)) (fun b hb => .inl hb) W.bk (i := i) (fun j h' hj hne => ?_) (fun h' hj => ?_), fun p hp => ?_, H⟩
 ·rcases hkey p hp with h5 | h5
  ·exact hhq.1 (by omega)
  ·have := W.sq.slt; omega
 ·rcases hkey p hp with h5 | h5
  ·rw [h5] at hm; exact hhq.2 hm
  ·have := W.sq.lt hm; omega
 ·obtain ⟨c', ua', uc', mp', ph', st', op3, a3, b3, da', dl', dc', g1, _⟩ := W.host j h' hj
  exact hold (Qr g1) (W.host_ne hh hj hne)
 ·rw [hh] at hj; cases hj
  refine ⟨c, ua, uc, mp, ph2, st, op2, a2, b2, da2, dl2, dc2, H.get .here, h2.atU W.sq h3 H hU hmb (gp_cw W.gp i ua uc mp), h3, ?_⟩
  rcases hp2 with ⟨rfl, rfl⟩ | ⟨rfl, rfl⟩
  ·exact h4
  ·exact .inr ⟨.inl rfl, hop⟩
 ·rcases hkey p hp with h5 | h5
  ·exact .inl (by rw [h5]; simp [Dy, List.mem_of_getElem? hh])
  ·exact .inr h5
theorem hCommons (W : Wst w κ bt wd sp hb B T k S qs) {i h : Nat} (hh : hb[i]? = some h) :
  Ret Tryz.prog 35 #[ptr h 0] w fun v w' => ∃ c ua uc mp, v = ptr c 0 ∧ Gd w c (cw κ i ua uc mp) ∧ (∀ a, ua = some a → a.block ∉ qs) ∧ Hp w [] w' := by
 refine Qi (args := [_]) func35 rfl ntmps35 results35 (by simp) ?_
 have H := Hp.refl w
 obtain ⟨c, ua, uc, mp, ph, st, op', a', b', da, dl, dc, h1, h2, h3, h4⟩ := W.host i h hh
 refine Js (Jr (Ja (Jn (Js (Jr (Jm (Ji rfl (Jf 4 underlying139 rfl sizeOf93 rfl rfl (J (Qe (v := ptr c 0) isAgg93 rfl (H.Qc h1 kYs) rfl) (Ja (Jn (Je ?_))))))))))))
 exact ⟨_, rfl, c, ua, uc, mp, rfl, h2, h3, H⟩
theorem hType (W : Wst w κ bt wd sp hb B T k S qs) {i c uc mp : Nat} {ua : Option Addr} (g : Gd w c (cw κ i ua uc mp)) {bs : List UInt8} {l : Value} (hl : RdS w l (bs.map U)) (hd : bs.length ≤ 1000000) :
  Ret Tryz.prog 34 #[ptr c 0, l] w fun v w' => ∃ xs L, KF (cv κ) ((cv κ).Xh xs) ∧ Wst w' { κ with xs := xs } bt wd sp hb B T k S qs ∧ Dk w κ sp hb qs L ∧ Hp w L w' := by
 refine (TypeG g hl hd).mono ?_
 rintro v w' ⟨hgp, H⟩
 have hF := fi_cw W i ua uc mp
 have hne : ∀ {b : Nat} {o : Obj}, w.heap[b]? = some o → elT o ≠ 5 → b ∉ [(κ.mb, blk ((typeX (cw κ i ua uc mp) bs).map U) 5)].map (·.1) := by
  intro b o h1 h2 hm
  have hb0 := W.kr.hb
  have e : b = κ.mb := by simpa using hm
  rw [e, hb0] at h1; cases h1; exact h2 rfl
 refine ⟨typeX (cw κ i ua uc mp) bs, [(κ.mb, blk ((typeX (cw κ i ua uc mp) bs).map U) 5)], kf_cv (type_kf hF bs), W.upd H (Ou.kind W.kr.hb (by simp [DT, elT]) Ou.nil) (H.get .here) (gp_cv hgp) (W.sq.keep H (fun p hp => ⟨fun e => ?_, fun hm => ?_⟩)) (fun b hb => .inl hb) W.bk (i := 100) (fun j h hj _ => ?_) (fun h hh => by
  have := (List.getElem?_eq_some_iff.1 hh).1; rw [W.hl] at this; omega), fun p hp => ?_, H⟩
 ·obtain ⟨o, f1, f2⟩ := W.sq.sect
  exact hne f1 (by rw [f2]; decide) (by rw [← e]; exact List.mem_map_of_mem hp)
 ·obtain ⟨o, f1, f2⟩ := W.sq.int hm
  exact hne f1 (by rw [f2]; decide) (List.mem_map_of_mem hp)
 ·obtain ⟨c, ua, uc, mp, ph, st, op, a, b, da, dl, dc, h1, _⟩ := W.host j h hj
  exact hne h1 (by simp [elT])
 ·rw [List.mem_singleton.1 hp]; exact .inl (.head _)
end
end Go.Proofs.YtlpmfldijgdcoaaGreatDoor.Wp
namespace Go.Proofs.YtlpmfldijgdcoaaGreatDoor.Wp
open Go Go.Proofs Fx Kn Cm Ho TabC Fam Tryz
/-- a step's cells -/
def sC (kd s p n : Int) (bv : Value) (op a c : Int) (dv : Value) (c1 c2 c3 c4 c5 c6 : Int) (cv : Value) : List Value := [I kd, I s, I p, I n, bv, I op, I a, I c, dv, I c1, I c2, I c3, I c4, I c5, I c6, cv]
section
variable {w w1 w' : World} {κ : KS} {bt : Bool} {wd sp : Nat} {hb : List Nat} {B : Nat} {T : Int} {k : Nat} {S : Sect.Sx} {qs : List Nat} {L : List (Nat × Obj)}
/-- what a step does to a world -/
def DoW (w : World) (κ : KS) (bt : Bool) (wd sp : Nat) (hb : List Nat) (B : Nat) (T : Int) (k : Nat) (qs : List Nat) (out : List Value) (is : Bool) (w' : World) : Prop :=
 ∃ (xs : List UInt8) (now : Int) (T' : Int) (k' : Nat) (S' : Sect.Sx) (qs' : List Nat) (L : List (Nat × Obj)), Dl κ xs out is ∧ Wst w' { κ with xs := xs, now := now } bt wd sp hb B T' k' S' qs' ∧ T' ≤ T + 1000 ∧ k' ≤ k + 2 ∧ Dk w κ sp hb qs L ∧ Hp w L w' ∧ (∀ b ∈ qs', b ∈ qs ∨ w.heap.size ≤ b)
theorem Dk.app {L2 : List (Nat × Obj)} (h : Dk w κ sp hb qs L) (h2 : ∀ p ∈ L2, w.heap.size ≤ p.1) : Dk w κ sp hb qs (L ++ L2) := fun p hp => (List.mem_append.1 hp).elim (h p) (fun h => .inr (h2 p h))
theorem Dl.none {xs : List UInt8} {out : List Value} (h : Dl κ xs out false) : Dl κ xs z0 false := by
 rcases h with ⟨_, rfl, h⟩ | ⟨h, _⟩
 ·exact .inl ⟨rfl, rfl, h⟩
 ·cases h
theorem wPick (W : Wst w κ bt wd sp hb B T k S qs) (Q : FamQ (cv κ)) (hk9 : k ≤ 100000) (hT : T ≤ 1000000) {kd s p n op a c d1 d2 d3 d4 d5 d6 : Int} {bv dv cv' : Value} (hbv : bv.oneCell' = true) (hdv : dv.oneCell' = true) (hcv : cv'.oneCell' = true) :
  Ret Tryz.prog 31 #[ptr wd 0, .agg (sC kd s p n bv op a c dv d1 d2 d3 d4 d5 d6 cv').toArray] w fun v w' => ∃ out is, v = .tuple #[.agg out.toArray, .bool is] ∧ DoW w κ bt wd sp hb B T k qs out is w' := by
 refine Qy (args := [_, _]) func31 rfl ntmps31 results31 (by simp) ?_
 have H := Hp.refl w
 have hF := fi_cv W
 (refine Js (Jr (Qb rfl (Xl (vs := sC kd s p n bv op a c dv d1 d2 d3 d4 d5 d6 cv') H rfl rfl) ?_)); clear H; intro c3 w3 hc3 H)
 (refine Qb rfl (Qp (vs := z0) H zeroValue40 rfl) ?_; clear H; intro c4 w4 hc4 H)
 (refine Ja (Jn (Js (Jr (Jm (Jf 1 underlying46 rfl sizeOf3 rfl rfl (J (Qe (v := I s) isAgg3 rfl (H.get (.there .here)) rfl) (Jf 2 underlying46 rfl sizeOf3 rfl rfl (J (Qe (v := I p) isAgg3 rfl (H.get (.there .here)) rfl) (Jz rfl call30 rfl (wHost (W.Ql H kYs) s p) H ?_))))))))); intro w14 H; rcases hostV_or W s p with hv | ⟨i, h, hh, hv, rfl⟩ <;> rw [hv])
 ·refine Ja (Jn (Js (Js (Jr (Jm (J (R_eq_nil_nil underlying84 rfl rfl) (Jn (Jd rfl (Js ?_)))))))))
  ((have m3 : True := trivial)) <;> refine Qk ?_
  refine J (Qm (places := [(0, 1), (1, 1), (2, 4), (6, 1), (7, 1), (8, 1), (9, 1), (10, 1), (11, 1)]) (vs := z0) underlying40 typeInfo40 rfl rfl (by kernel_rfl) rfl rfl rfl) ?_
  (have _g := m3; refine Qd rfl (Qg (vs := z0) H sizeOf40 rfl rfl (Xq rfl rfl rfl) .here (by simp [z0, oC])) ?_; clear H; intro w27 H)
  refine Ja (Jn (Je ?_))
  (have _g := m3; exact ⟨_, ⟨_, _, rfl, ldA isAgg40 sizeOf40 (H.get .here) rfl (by simp [z0, oC]), rfl⟩, z0, false, rfl, κ.xs, κ.now, T, k, S, qs, _, Dl.same hF, W.Ql H kYs, by omega, by omega, fun p hp => .inr (Qu hc4 (Qu hc3 Xu) p hp), H, fun b hb => .inl hb⟩)
 ·refine Ja (Jn (Js (Js (Jr (Jm (J (Vx underlying84 rfl rfl) (Jn (Jc rfl (Jk (Js (Jr (Jm ?_))))))))))))
  (have W0 := W.Ql H kYs; have hz4 := Qr (H.get .here); have hz0 := H.size; have hi8 : i < 8 := (by have := (List.getElem?_eq_some_iff.1 hh).1; rw [W.hl] at this; exact this); refine Vl rfl (Qw rfl call61 rfl) (hPick W0 Q (by omega) hT hh) ?_; rintro _ w9 ⟨out, is, xs, S', qs', L, ua, uc, mp, op9, a9, b9, da9, dl9, dc9, rfl, hR, W1, hqs, hD, H1⟩; have hTell := PickR.tell W0 Q hi8 (D := .slice da9 dl9 dc9) rfl hR; obtain ⟨hD0, H0⟩ := W.own H kYs hD H1; have hc4b := H0.get (.app L .here); have hc3b := H0.get (.app L (.there .here)); have hDk0 := Dk.app hD0 (L2 := [(c4, blk z0 40), (c3, blk (sC kd 0 p n bv op a c dv d1 d2 d3 d4 d5 d6 cv') 46)]) (Qu hc4 (Qu hc3 Xu)); have hqs0 : ∀ b ∈ qs', b ∈ qs ∨ w.heap.size ≤ b := (fun b hb => (hqs b hb).imp id (Nat.le_trans hz0)); have hd4 := dy_new W (κ' := { κ with xs := xs }) rfl rfl hqs hc4 hz4; have hlt4 := Qr hc4b; have hsz9 := H0.size; clear H H1; have H := Hp.refl w9; rcases hTell with ⟨rfl, rfl, hKF⟩ | ⟨rfl, i8, op8, a8, b8, D8, n8, e8, hi9, hop8, hD8, rfl, hSt⟩)
  ·(refine Jm (Jx rfl rfl (Jx rfl rfl (Qb rfl (Qp (vs := z0) H zeroValue40 rfl) ?_))); clear H; intro c7 w49 hc7 H)
   (have _g := hKF; refine Qd rfl (Qg (vs := z0) H sizeOf40 rfl rfl (Xq rfl rfl rfl) .here (by simp [z0, oC])) ?_; clear H; intro w50 H; have H : Hp w9 [(c7, blk z0 40)] w50 := H)
   refine Ja (Jn (Js (Js (Jr (Jm (J (Xx rfl) (Jn (Jd rfl (Js ?_)))))))))
   ((have m6 : True := trivial)) <;> refine Qk ?_
   refine J (Qm (places := [(0, 1), (1, 1), (2, 4), (6, 1), (7, 1), (8, 1), (9, 1), (10, 1), (11, 1)]) (vs := z0) underlying40 typeInfo40 rfl rfl (by kernel_rfl) rfl rfl rfl) ?_
   (have _g := m6; refine Qd rfl (Qg (vs := z0) (H.focus (H.block hc4b (dk_out hd4 hlt4 (fun p hp => .inr (Qu hc7 Xu p hp)))) (dk_out hd4 hlt4 (fun p hp => .inr (Qu hc7 Xu p hp)))) sizeOf40 rfl rfl (Xq rfl rfl rfl) .here (by simp [z0, oC])) ?_; clear H; intro w63 H)
   refine Ja (Jn (Je ?_))
   (have _g := m6; obtain ⟨N, hDN, HN⟩ := dk_glue hDk0 H0 (κ' := { κ with xs := xs }) rfl rfl hqs0 (fun p hp => .inr (Qu hc4 (Qu (Nat.le_trans hsz9 hc7) Xu) p hp)) H; exact ⟨_, ⟨_, _, rfl, ldA isAgg40 sizeOf40 (H.get .here) rfl (by simp [z0, oC]), rfl⟩, z0, false, rfl, xs, κ.now, T, k + 1, S', qs', N, .inl ⟨rfl, rfl, hKF⟩, W1.keepO H (by intro p hp; rcases List.mem_cons.1 hp with rfl | hp; exact .inr ⟨_, hc4b, rfl⟩; exact .inl (Qu hc7 Xu p hp)), by omega, by omega, hDN, HN, hqs0⟩)
  ·(refine Jm (Jx rfl rfl (Jx rfl rfl (Qb rfl (Qp (vs := z0) H zeroValue40 rfl) ?_))); clear H; intro c7 w71 hc7 H)
   (refine Qd rfl (Qg (vs := oC 0 i8 op8 a8 b8 D8 n8 e8 nilS true nilS 0) H sizeOf40 rfl rfl (Xq hD8 rfl rfl) .here (by simp [z0, oC])) ?_; clear H; intro w72 H; have H : Hp w9 [(c7, blk (oC 0 i8 op8 a8 b8 D8 n8 e8 nilS true nilS 0) 40)] w72 := H)
   refine Ja (Jn (Js (Js (Jr (Jm (J (Xj rfl) (Jn (Jc rfl (Jk (Js ?_))))))))))
   ((have m7 : True := trivial)) <;> refine Qk ?_
   refine Jf 1 underlying46 rfl sizeOf3 rfl rfl (J (Qe (v := I 0) isAgg3 rfl (H.Qc hc3b kYs) rfl) (Jf 0 underlying40 rfl sizeOf3 rfl rfl ?_))
   (have _g := m7; refine Qd rfl (Qz (v := I 0) H sizeOf3 rfl rfl rfl .here (by simp [oC])) ?_; clear H; intro w88 H; have H : Hp w9 [(c7, blk (oC 0 i8 op8 a8 b8 D8 n8 e8 nilS true nilS 0) 40)] w88 := H)
   refine Jn (Js (Js (Jr (Jf 9 underlying40 rfl sizeOf4 rfl rfl (J (Qe (v := .bool true) isAgg4 rfl (H.get .here) rfl) (Jm (Jt rfl rfl (Jf 2 underlying40 rfl sizeOf38 rfl rfl (Jt rfl rfl (Jf 2 underlying38 rfl sizeOf3 rfl rfl (Jt rfl rfl (J (Qe (v := I op8) isAgg3 rfl (H.get .here) rfl) (Jt rfl rfl (J (Yk rfl rfl) (Jq rfl (Jm ?_))))))))))))))))
   apply Xs 4 38 42 [(39, 42)] H
   case hc => rfl
   case h1 =>
    intro h106
    refine Jt rfl rfl (Jf 7 underlying40 rfl sizeOf33 rfl rfl (Jt rfl rfl (J (Qe (v := I e8) isAgg33 rfl (H.get .here) rfl) (Jt rfl rfl (J (Yk rfl rfl) (Jq rfl (Jn ?_)))))))
    exact ⟨kS, rfl, H⟩
   case h0 =>
    intro h106
    refine Jg rfl rfl (Jg rfl rfl (Jg rfl rfl (Jp rfl (Jn ?_))))
    exact ⟨kS, rfl, H⟩
   case h2 =>
    (clear H; intro E106 w106 H)
    refine Jn (Xo rfl (fun h123 => ?_) (fun h123 => ?_))
    ·(refine Js (Jr (Jm (Jf 1 underlying46 rfl sizeOf3 rfl rfl (J (Qe (v := I 0) isAgg3 rfl (H.Qc hc3b kYs) rfl) (Jf 6 underlying40 rfl sizeOf3 rfl rfl (J (Qe (v := I n8) isAgg3 rfl (H.get .here) rfl) (Jz rfl call30 rfl (wHost (W1.Ql H kYs) 0 n8) H ?_))))))); intro w131 H; rcases hostV_or W1 0 n8 with hv | ⟨i7, h7, hh7, hv, _⟩ <;> rw [hv])
     ·refine Ja (Jn (Js (Jr (Jm (J (R_ne_nil_nil underlying84 rfl rfl) (Jn (Jc rfl (Jk (Js ?_)))))))))
      ((have m12 : True := trivial)) <;> refine Qk ?_
      refine J (Qo (vs := oC 0 i8 op8 a8 b8 D8 n8 e8 nilS true nilS 0) isAgg40 sizeOf40 rfl (H.get .here) rfl (by simp [oC])) ?_
      (have _g := m12; refine Qd rfl (Qg (vs := oC 0 i8 op8 a8 b8 D8 n8 e8 nilS true nilS 0) (H.focus (H.block hc4b (dk_out hd4 hlt4 (fun p hp => .inr (Qu hc7 Xu p hp)))) (dk_out hd4 hlt4 (fun p hp => .inr (Qu hc7 Xu p hp)))) sizeOf40 rfl rfl (Xq hD8 rfl rfl) .here (by simp [z0, oC])) ?_; clear H; intro w144 H)
      refine Ja (Jn (Je ?_))
      (obtain ⟨N, hDN, HN⟩ := dk_glue hDk0 H0 (κ' := { κ with xs := xs }) rfl rfl hqs0 (fun p hp => .inr (Qu hc4 (Qu (Nat.le_trans hsz9 hc7) Xu) p hp)) H; exact ⟨_, ⟨_, _, rfl, ldA isAgg40 sizeOf40 (H.get .here) rfl (by simp [z0, oC]), rfl⟩, _, true, rfl, xs, κ.now, T, k + 1, S', qs', N, .inr ⟨rfl, i8, op8, a8, b8, D8, n8, e8, hi9, hop8, hD8, rfl, hSt⟩, W1.keepO H (by intro p hp; rcases List.mem_cons.1 hp with rfl | hp; exact .inr ⟨_, hc4b, rfl⟩; exact .inl (Qu hc7 Xu p hp)), by omega, by omega, hDN, HN, hqs0⟩)
     ·refine Ja (Jn (Js (Jr (Jm (J (Br underlying84 rfl rfl) (Jn (Jd rfl (Jr (Jm ?_)))))))))
      (have W2 := W1.Ql H kYs; have hz9 := H.size; refine Vl rfl (Qw rfl call62 rfl) (hFresh W2 (by omega) (lastN W1.sq H hc7) hh7) ?_; rintro _ w8 ⟨S2, qs2, L2, W3, hqs2, hD2, H1⟩; obtain ⟨hD3, H3⟩ := W1.own H kYs hD2 H1; have hc7b := H3.get (.app L2 .here); have hD4 := Dk.app hD3 (L2 := [(c7, blk (oC 0 i8 op8 a8 b8 D8 n8 e8 nilS true nilS 0) 40)]) (Qu hc7 Xu); have hc4c := H3.block hc4b (dk_out hd4 hlt4 hD4); obtain ⟨N, hDN, HN⟩ := dk_glue hDk0 H0 (κ' := { κ with xs := xs }) rfl rfl hqs0 (fun p hp => (hD4 p hp).imp id (Nat.le_trans hsz9)) H3; have hqs3 : ∀ b ∈ qs2, b ∈ qs ∨ w.heap.size ≤ b := (fun b hb => (hqs2 b hb).elim (hqs0 b) (fun h => .inr (Nat.le_trans hsz9 (Nat.le_trans hz9 h)))); clear H H1 H3 hD3 hD4 hc4b hDk0 H0; have hc4b := hc4c; have H := Hp.refl w8)
      refine Jn (Js ?_)
      ((have m12 : True := trivial)) <;> refine Qk ?_
      refine J (Qo (vs := oC 0 i8 op8 a8 b8 D8 n8 e8 nilS true nilS 0) isAgg40 sizeOf40 rfl (H.Qc hc7b kYs) rfl (by simp [oC])) ?_
      (have _g := m12; refine Qd rfl (Qg (vs := oC 0 i8 op8 a8 b8 D8 n8 e8 nilS true nilS 0) (H.focus (H.block hc4b (by simp)) (by simp)) sizeOf40 rfl rfl (Xq hD8 rfl rfl) .here (by simp [z0, oC])) ?_; clear H; intro w164 H; have H : Hp w8 [(c4, blk (oC 0 i8 op8 a8 b8 D8 n8 e8 nilS true nilS 0) 40)] w164 := H)
      refine Ja (Jn (Je ?_))
      (have _g := hqs3; obtain ⟨N2, hDN2, HN2⟩ := dk_glue hDN HN (κ' := { κ with xs := xs }) rfl rfl hqs3 (fun p hp => .inr (Qu hc4 Xu p hp)) H; exact ⟨_, ⟨_, _, rfl, ldA isAgg40 sizeOf40 (H.get .here) rfl (by simp [z0, oC]), rfl⟩, _, true, rfl, xs, κ.now, T, k + 2, S2, qs2, N2, .inr ⟨rfl, i8, op8, a8, b8, D8, n8, e8, hi9, hop8, hD8, rfl, hSt⟩, W3.keepO H (by intro p hp; rw [List.mem_singleton] at hp; subst hp; exact .inr ⟨_, hc4b, rfl⟩), by omega, by omega, hDN2, HN2, hqs3⟩)
    ·refine Jk (Js ?_)
     ((have m12 : True := trivial)) <;> refine Qk ?_
     refine J (Qo (vs := oC 0 i8 op8 a8 b8 D8 n8 e8 nilS true nilS 0) isAgg40 sizeOf40 rfl (H.get .here) rfl (by simp [oC])) ?_
     (have _g := m12; refine Qd rfl (Qg (vs := oC 0 i8 op8 a8 b8 D8 n8 e8 nilS true nilS 0) (H.focus (H.block hc4b (dk_out hd4 hlt4 (fun p hp => .inr (Qu hc7 Xu p hp)))) (dk_out hd4 hlt4 (fun p hp => .inr (Qu hc7 Xu p hp)))) sizeOf40 rfl rfl (Xq hD8 rfl rfl) .here (by simp [z0, oC])) ?_; clear H; intro w173 H)
     refine Ja (Jn (Je ?_))
     (obtain ⟨N, hDN, HN⟩ := dk_glue hDk0 H0 (κ' := { κ with xs := xs }) rfl rfl hqs0 (fun p hp => .inr (Qu hc4 (Qu (Nat.le_trans hsz9 hc7) Xu) p hp)) H; exact ⟨_, ⟨_, _, rfl, ldA isAgg40 sizeOf40 (H.get .here) rfl (by simp [z0, oC]), rfl⟩, _, true, rfl, xs, κ.now, T, k + 1, S', qs', N, .inr ⟨rfl, i8, op8, a8, b8, D8, n8, e8, hi9, hop8, hD8, rfl, hSt⟩, W1.keepO H (by intro p hp; rcases List.mem_cons.1 hp with rfl | hp; exact .inr ⟨_, hc4b, rfl⟩; exact .inl (Qu hc7 Xu p hp)), by omega, by omega, hDN, HN, hqs0⟩)
end
end Go.Proofs.YtlpmfldijgdcoaaGreatDoor.Wp
namespace Go.Proofs.YtlpmfldijgdcoaaGreatDoor.Wp
open Go Go.Proofs Fx Kn Cm Ho TabC Fam Tryz
section
variable {w w1 w' : World} {κ : KS} {wd sp : Nat} {hb : List Nat} {B : Nat} {T : Int} {k : Nat} {S : Sect.Sx} {qs : List Nat} {L : List (Nat × Obj)}
/-- a world behind a step, as the walk has it -/
def DoV (w : World) (κ : KS) (wd sp : Nat) (hb : List Nat) (B : Nat) (T : Int) (k : Nat) (qs : List Nat) (c4 c3 : Nat) (sc : List Value) (out : List Value) (is : Bool) (w' : World) : Prop :=
 ∃ (xs : List UInt8) (now : Int) (T' : Int) (k' : Nat) (S' : Sect.Sx) (qs' : List Nat) (N : List (Nat × Obj)), Dl κ xs out is ∧ Wst w' { κ with xs := xs, now := now } false wd sp hb B T' k' S' qs' ∧ T' ≤ T + 1000 ∧ k' ≤ k + 2 ∧ Dk w κ sp hb qs N ∧ Hp w N w' ∧ (∀ b ∈ qs', b ∈ qs ∨ w.heap.size ≤ b) ∧
  w'.heap[c4]? = some (blk z0 40) ∧ w'.heap[c3]? = some (blk sc 46)
theorem DoV.of (W : Wst w κ false wd sp hb B T k S qs) {c4 c3 : Nat} {sc out : List Value} {is : Bool} (H : Hp w [(c4, blk z0 40), (c3, blk sc 46)] w1) (h4 : w.heap.size ≤ c4) (h3 : w.heap.size ≤ c3) {xs : List UInt8} {now T' : Int} {k' : Nat} {S' : Sect.Sx} {qs' : List Nat}
  (ht : Dl κ xs out is) (W1 : Wst w' { κ with xs := xs, now := now } false wd sp hb B T' k' S' qs') (e1 : T' ≤ T + 1000) (e2 : k' ≤ k + 2) (hD : Dk w1 κ sp hb qs L) (H1 : Hp w1 L w') (hqs : ∀ b ∈ qs', b ∈ qs ∨ w1.heap.size ≤ b) : DoV w κ wd sp hb B T k qs c4 c3 sc out is w' := by
 obtain ⟨hD0, H0⟩ := W.own H (Qu h4 (Qu h3 Xu)) hD H1
 exact ⟨xs, now, T', k', S', qs', _, ht, W1, e1, e2, Dk.app hD0 (Qu h4 (Qu h3 Xu)), H0, fun b hb => (hqs b hb).imp id (Nat.le_trans H.size), H0.get (.app L .here), H0.get (.app L (.there .here))⟩
theorem DoV.fin {c4 c3 : Nat} {sc out out' : List Value} {is : Bool} (h : DoV w κ wd sp hb B T k qs c4 c3 sc out is w1) (h4 : w.heap.size ≤ c4) (H : Hp w1 [(c4, blk out' 40)] w') : DoW w κ false wd sp hb B T k qs out is w' := by
 obtain ⟨xs, now, T', k', S', qs', N, ht, W1, e1, e2, hD, H0, hqs, h5, h6⟩ := h
 obtain ⟨M, hDM, HM⟩ := dk_glue hD H0 (κ' := { κ with xs := xs, now := now }) rfl rfl hqs (fun p hp => .inr (Qu h4 Xu p hp)) H
 exact ⟨xs, now, T', k', S', qs', M, ht, W1.keepO H (by intro p hp; rw [List.mem_singleton] at hp; subst hp; exact .inr ⟨_, h5, rfl⟩), e1, e2, hDM, HM, hqs⟩
theorem DoV.c4 {c4 c3 : Nat} {sc out : List Value} {is : Bool} (h : DoV w κ wd sp hb B T k qs c4 c3 sc out is w') : w'.heap[c4]? = some (blk z0 40) := by
 obtain ⟨xs, now, T', k', S', qs', N, ht, W1, e1, e2, hD, H0, hqs, h5, h6⟩ := h
 exact h5
theorem DoV.c3 {c4 c3 : Nat} {sc out : List Value} {is : Bool} (h : DoV w κ wd sp hb B T k qs c4 c3 sc out is w') : w'.heap[c3]? = some (blk sc 46) := by
 obtain ⟨xs, now, T', k', S', qs', N, ht, W1, e1, e2, hD, H0, hqs, h5, h6⟩ := h
 exact h6
theorem wDo (W : Wst w κ false wd sp hb B T k S qs) (Q : FamQ (cv κ)) (hk9 : k ≤ 100000) (hT : T ≤ 900000) {kd s p n op a c d1 d2 d3 d4 d5 d6 : Int} {bv dv cv' : Value} (hn : IntKind.i64.wrap n = n) (hop : kd = 1 → FOp op) {ds bs : List UInt8} (hd : RdS w dv (ds.map U)) (hdl : ds.length ≤ 1000000) (hbs : RdS w bv (bs.map U)) (hbl : bs.length ≤ 1000000) (hcv : cv'.oneCell' = true) :
  Ret Tryz.prog 15 #[ptr wd 0, .agg (sC kd s p n bv op a c dv d1 d2 d3 d4 d5 d6 cv').toArray] w fun v w' => ∃ out is, v = .tuple #[.agg out.toArray, .bool is] ∧ DoW w κ false wd sp hb B T k qs out is w' := by
 refine Qy (args := [_, _]) func15 rfl ntmps15 results15 (by simp) ?_
 have H := Hp.refl w
 have hF := fi_cv W
 have hnow := W.now
 obtain ⟨bb, bbc, ba, bc, ha, hc, la, lc, hwb, hR1, hR2, hR3⟩ := W.wb
 obtain ⟨b1, o1, rfl, hcb⟩ := hR3.rd.cell (i := 0) (u := .bool false) rfl
 obtain ⟨xa, xc, rfl⟩ : ∃ xa xc, dv = .slice xa ds.length xc := by have := hd.form; rw [List.length_map] at this; exact this
 obtain ⟨ya, yc, rfl⟩ : ∃ ya yc, bv = .slice ya bs.length yc := by have := hbs.form; rw [List.length_map] at this; exact this
 have hsame : ∀ {w1 : World} {c4 c3 : Nat}, Hp w [(c4, blk z0 40), (c3, blk (sC kd s p n (.slice ya bs.length yc) op a c (.slice xa ds.length xc) d1 d2 d3 d4 d5 d6 cv') 46)] w1 → w.heap.size ≤ c4 → w.heap.size ≤ c3 → DoV w κ wd sp hb B T k qs c4 c3 (sC kd s p n (.slice ya bs.length yc) op a c (.slice xa ds.length xc) d1 d2 d3 d4 d5 d6 cv') z0 false w1 := fun H1 h4 h3 =>
  ⟨κ.xs, κ.now, T, k, S, qs, _, Dl.same hF, W.Ql H1 (Qu h4 (Qu h3 Xu)), by omega, by omega, (fun p hp => .inr (Qu h4 (Qu h3 Xu) p hp)), H1, (fun b hb => .inl hb), H1.get .here, H1.get (.there .here)⟩
 (refine Js (Jr (Qb rfl (Xl (vs := sC kd s p n (.slice ya bs.length yc) op a c (.slice xa ds.length xc) d1 d2 d3 d4 d5 d6 cv') H rfl rfl) ?_)); clear H; intro c3 w3 hc3 H)
 (refine Qb rfl (Qp (vs := z0) H zeroValue40 rfl) ?_; clear H; intro c4 w4 hc4 H)
 (refine Ja (Jn (Js (Jr (Jm (Jf 1 underlying46 rfl sizeOf3 rfl rfl (J (Qe (v := I s) isAgg3 rfl (H.get (.there .here)) rfl) (Jf 2 underlying46 rfl sizeOf3 rfl rfl (J (Qe (v := I p) isAgg3 rfl (H.get (.there .here)) rfl) (Jz rfl call30 rfl (wHost (W.Ql H kYs) s p) H ?_))))))))); intro w14 H)
 refine Ja (Jn (Js (Js (Jr (Jf 0 underlying46 rfl sizeOf3 rfl rfl (J (Qe (v := I kd) isAgg3 rfl (H.get (.there .here)) rfl) (Jn (Jb (Js (Jr (J (Yk rfl rfl) (Ja (Jn (Xo rfl (fun h29 => ?_) (fun h29 => ?_)))))))))))))))
 ·(refine Js (Jr (Jm (J (Qo (vs := sC kd s p n (.slice ya bs.length yc) op a c (.slice xa ds.length xc) d1 d2 d3 d4 d5 d6 cv') isAgg46 sizeOf46 rfl (H.get (.there .here)) rfl (by simp [sC])) (Jy rfl call31 rfl (wPick (W.Ql H kYs) Q hk9 (by omega) rfl rfl hcv) ?_)))); rintro _ w9 ⟨out, is, rfl, xs1, n1, T1, k1, S1, qs1, L, ht, W1, e1, e2, hD, H1, hqs⟩; have hV := DoV.of W H hc4 hc3 ht W1 e1 e2 hD H1 hqs; clear H H1; have H := Hp.refl w9; have hc4b := hV.c4; obtain ⟨sl8, op8, a8, b8, D8, n8, e8, bk8, rfl, hD8, _, _⟩ := ht.law hF)
  refine Jx rfl rfl (Jx rfl rfl ?_)
  (have _g := hD8; refine Qd rfl (Qg (vs := oC 0 sl8 op8 a8 b8 D8 n8 e8 nilS bk8 nilS 0) (H.focus (H.block hc4b (by simp)) (by simp)) sizeOf40 rfl rfl (Xq hD8 rfl rfl) .here (by simp [z0, oC])) ?_; clear H; intro w37 H; have H : Hp w9 [(c4, blk (oC 0 sl8 op8 a8 b8 D8 n8 e8 nilS bk8 nilS 0) 40)] w37 := H)
  refine Ja (Jn (Je ?_))
  (have _g := hD8; exact ⟨_, ⟨_, _, rfl, ldA isAgg40 sizeOf40 (H.get .here) rfl (by simp [oC]), rfl⟩, _, is, rfl, hV.fin hc4 H⟩)
 ·refine Js (Jr (J (Yk rfl rfl) (Ja (Jn (Xo rfl (fun h47 => ?_) (fun h47 => ?_))))))
  ·(refine Xi (fun w2 => w2.heap[wd]? = some (blk [.slice (some ⟨b1, o1, none⟩) 1 bbc, .slice ba 0 bc, I 3, ptr κ.k 0, .slice ha 1 hc] 81) ∧ w2.heap[c3]? = some (blk (sC kd s p n (.slice ya bs.length yc) op a c (.slice xa ds.length xc) d1 d2 d3 d4 d5 d6 cv') 46)) (fun _ => false) (by kernel_rfl) H ?_; clear H; intro w48 H)
   (refine Am 0 rfl ⟨H.Qc hwb kYs, H.get (.there .here)⟩ (Az 1 rfl rfl ⟨H.Qc hwb kYs, H.get (.there .here)⟩ (fun _ hC => Qf rfl) (Az 2 rfl rfl ⟨H.Qc hwb kYs, H.get (.there .here)⟩ (fun _ hC => Qa (off' := 3) underlying81 rfl sizeOf71 (by decide) rfl rfl) (Az 3 rfl rfl ⟨H.Qc hwb kYs, H.get (.there .here)⟩ (fun _ hC => Qe (v := ptr κ.k 0) isAgg71 rfl hC.1 rfl) (Az 4 rfl rfl ⟨H.Qc hwb kYs, H.get (.there .here)⟩ (fun _ hC => Qa (off' := 3) underlying46 rfl sizeOf3 (by decide) rfl rfl) (Az 5 rfl rfl ⟨H.Qc hwb kYs, H.get (.there .here)⟩ (fun _ hC => Qe (v := I n) isAgg3 rfl hC.2 rfl) (Ao 6 (Qv rfl (.inl rfl) (Qw rfl call32 rfl) (Tick_ret (H.Qc W.kr.hk kYs) hn (by omega)) (fun _ w2 H1 _ => ⟨H1.Xw (T := [81]) (H.Qc hwb kYs) (by simp [elT]) (Out.cons (H.Qc W.kr.hk kYs) (by simp [elT, KS.kb]) Out.nil), H1.Xw (T := [46]) (H.get (.there .here)) (by simp [elT]) (Out.cons (H.Qc W.kr.hk kYs) (by simp [elT, KS.kb]) Out.nil)⟩) ?_))))))); rintro _ w9 H1; have W0 := W.Ql H kYs; have hwb9 := H1.Xw (T := [81]) (H.Qc hwb kYs) (by simp [elT]) (Out.cons (H.Qc W.kr.hk kYs) (by simp [elT, KS.kb]) Out.nil); have W1 := W0.tick (n := tickN κ.now n) (by unfold tickN; omega) (by unfold tickN; omega) H1; have hV : DoV w κ wd sp hb B T k qs c4 c3 (sC kd s p n (.slice ya bs.length yc) op a c (.slice xa ds.length xc) d1 d2 d3 d4 d5 d6 cv') z0 false w9 := DoV.of (xs := κ.xs) W H hc4 hc3 (Dl.same hF) W1 (Int.le_refl _) (by omega) (fun p hp => by rw [List.mem_singleton.1 hp]; exact .inl (by simp [Dy])) H1 (fun b hb => .inl hb); clear H H1; have H := Hp.refl w9; have hc4b := hV.c4; have hc3b := hV.c3)
   refine Ad (Js (Jr (J (Qm (places := [(0, 1), (1, 1), (2, 4), (6, 1), (7, 1), (8, 1), (9, 1), (10, 1), (11, 1)]) (vs := z0) underlying40 typeInfo40 rfl rfl (by kernel_rfl) rfl rfl rfl) ?_)))
   (have _g := hV; refine Qd rfl (Qg (vs := z0) (H.focus (H.block hc4b (by simp)) (by simp)) sizeOf40 rfl rfl (Xq rfl rfl rfl) .here (by simp [z0, oC])) ?_; clear H; intro w61 H; have H : Hp w9 [(c4, blk z0 40)] w61 := H)
   refine Ja (Jn (Je ?_))
   exact ⟨_, ⟨_, _, rfl, ldA isAgg40 sizeOf40 (H.get .here) rfl (by simp [z0, oC]), rfl⟩, _, false, rfl, hV.fin hc4 H⟩
  ·refine Js (Jr (J (Yk rfl rfl) (Ja (Jn (Xo rfl (fun h71 => ?_) (fun h71 => ?_))))))
   ·refine Js ?_
    ((rcases hostV_or W s p with hv | ⟨i, h, hh, hv, rfl⟩ <;> rw [hv])) <;> refine Qk ?_
    ·refine Jm (J (R_ne_nil_nil underlying84 rfl rfl) (Jn (Jc rfl (Jk (Js (Jr (J (Qm (places := [(0, 1), (1, 1), (2, 4), (6, 1), (7, 1), (8, 1), (9, 1), (10, 1), (11, 1)]) (vs := z0) underlying40 typeInfo40 rfl rfl (by kernel_rfl) rfl rfl rfl) ?_)))))))
     (have hV := hsame H hc4 hc3; have hc4b := hV.c4; rename World => w9; clear H; have H := Hp.refl w9; refine Qd rfl (Qg (vs := z0) (H.focus (H.block hc4b (by simp)) (by simp)) sizeOf40 rfl rfl (Xq rfl rfl rfl) .here (by simp [z0, oC])) ?_; clear H; intro w82 H; have H : Hp w9 [(c4, blk z0 40)] w82 := H)
     refine Ja (Jn (Je ?_))
     exact ⟨_, ⟨_, _, rfl, ldA isAgg40 sizeOf40 (H.get .here) rfl (by simp [z0, oC]), rfl⟩, _, false, rfl, hV.fin hc4 H⟩
    ·(refine Jm (J (Br underlying84 rfl rfl) (Jn (Jd rfl (Jr (Jm (Jf 5 underlying46 rfl sizeOf38 rfl rfl (J (Qo (vs := [I op, I a, I c, .slice xa ds.length xc]) isAgg38 sizeOf38 rfl (H.get (.there .here)) rfl (by simp [sC])) (Jy rfl call33 rfl (hStart (W.Ql H kYs) hh (hop (by omega)) (hd.Yd H kYs) hdl) ?_)))))))); rintro _ w9 ⟨L, W1, hD, H1⟩; have hV : DoV w κ wd sp hb B T k qs c4 c3 (sC kd 0 p n (.slice ya bs.length yc) op a c (.slice xa ds.length xc) d1 d2 d3 d4 d5 d6 cv') z0 false w9 := DoV.of (xs := κ.xs) (now := κ.now) W H hc4 hc3 (Dl.same hF) W1 (by omega) (by omega) hD H1 (fun b hb => .inl hb); clear H H1; have H := Hp.refl w9; have hc4b := hV.c4)
     refine Jn (Js (Jr (J (Qm (places := [(0, 1), (1, 1), (2, 4), (6, 1), (7, 1), (8, 1), (9, 1), (10, 1), (11, 1)]) (vs := z0) underlying40 typeInfo40 rfl rfl (by kernel_rfl) rfl rfl rfl) ?_)))
     (have _g := hV; refine Qd rfl (Qg (vs := z0) (H.focus (H.block hc4b (by simp)) (by simp)) sizeOf40 rfl rfl (Xq rfl rfl rfl) .here (by simp [z0, oC])) ?_; clear H; intro w100 H; have H : Hp w9 [(c4, blk z0 40)] w100 := H)
     refine Ja (Jn (Je ?_))
     exact ⟨_, ⟨_, _, rfl, ldA isAgg40 sizeOf40 (H.get .here) rfl (by simp [z0, oC]), rfl⟩, _, false, rfl, hV.fin hc4 H⟩
   ·refine Js (Jr (J (Yk rfl rfl) (Ja (Jn (Xo rfl (fun h110 => ?_) (fun h110 => ?_))))))
    ·refine Js ?_
     ((rcases hostV_or W s p with hv | ⟨i, h, hh, hv, rfl⟩ <;> rw [hv])) <;> refine Qk ?_
     ·refine Jm (J (R_ne_nil_nil underlying84 rfl rfl) (Jm (Jg rfl rfl (Jg rfl rfl (Jg rfl rfl (Jg rfl rfl (Jp rfl (Jn (Jc rfl (Jk (Js (Jr (J (Qm (places := [(0, 1), (1, 1), (2, 4), (6, 1), (7, 1), (8, 1), (9, 1), (10, 1), (11, 1)]) (vs := z0) underlying40 typeInfo40 rfl rfl (by kernel_rfl) rfl rfl rfl) ?_)))))))))))))
      (have hV := hsame H hc4 hc3; have hc4b := hV.c4; rename World => w9; clear H; have H := Hp.refl w9; refine Qd rfl (Qg (vs := z0) (H.focus (H.block hc4b (by simp)) (by simp)) sizeOf40 rfl rfl (Xq rfl rfl rfl) .here (by simp [z0, oC])) ?_; clear H; intro w127 H; have H : Hp w9 [(c4, blk z0 40)] w127 := H)
      refine Ja (Jn (Je ?_))
      exact ⟨_, ⟨_, _, rfl, ldA isAgg40 sizeOf40 (H.get .here) rfl (by simp [z0, oC]), rfl⟩, _, false, rfl, hV.fin hc4 H⟩
     ·refine Jm (J (Br underlying84 rfl rfl) (Jm (Jt rfl rfl (Jf 4 underlying46 rfl sizeOf36 rfl rfl (Jt rfl rfl (J (Qe (v := .slice ya bs.length yc) isAgg36 rfl (H.get (.there .here)) rfl) (Jt rfl rfl (J (Qh underlying36 rfl) (Jt rfl rfl (J (R_le rfl rfl) (Jq rfl (Jn (Xo rfl (fun h145 => ?_) (fun h145 => ?_))))))))))))))
      ·(refine Xi (fun w2 => w2.heap[c3]? = some (blk (sC kd 0 p n (.slice ya bs.length yc) op a c (.slice xa ds.length xc) d1 d2 d3 d4 d5 d6 cv') 46)) (fun _ => false) (by kernel_rfl) H ?_; clear H; intro w146 H)
       (refine Am 0 rfl (H.get (.there .here)) (Az 2 rfl rfl (H.get (.there .here)) (fun _ hC => Qa (off' := 4) underlying46 rfl sizeOf36 (by decide) rfl rfl) (Az 3 rfl rfl (H.get (.there .here)) (fun _ hC => Qe (v := .slice ya bs.length yc) isAgg36 rfl hC rfl) (Ao 1 (Qv rfl (.inl rfl) (Qw rfl call35 rfl) (hCommons (W.Ql H kYs) hh) (fun _ _ hR _ => by obtain ⟨_, _, _, _, _, _, _, H1⟩ := hR; exact (H.seq0 H1).get (.there .here)) ?_)))); rintro _ w151 ⟨c8, ua8, uc8, mp8, rfl, g8, hq8, H1⟩; have g8 := g8.Ql H1 Xu; replace H := H.seq0 H1; clear H1)
       refine Ao 4 ?_
       (have hz3 := Qr (H.get (.there .here)); refine Qv rfl (.inl rfl) (Qw rfl call34 rfl) (hType (W.Ql H kYs) g8 (hbs.Yd H kYs) hbl) (fun _ _ hR _ => by obtain ⟨_, _, _, _, hD, H1⟩ := hR; exact H1.block (H.get (.there .here)) (dk_out (fun h => by have := W.dy_lt h; omega) hz3 hD)) ?_; rintro _ w9 ⟨xs1, L, hK, W1, hD, H1⟩; have hV : DoV w κ wd sp hb B T k qs c4 c3 (sC kd 0 p n (.slice ya bs.length yc) op a c (.slice xa ds.length xc) d1 d2 d3 d4 d5 d6 cv') z0 false w9 := DoV.of (now := κ.now) W H hc4 hc3 (.inl ⟨rfl, rfl, hK⟩) W1 (by omega) (by omega) hD H1 (fun b hb => .inl hb); clear H H1; have H := Hp.refl w9; have hc4b := hV.c4; have hc3b := hV.c3)
       refine Ad (Js (Jr (J (Qm (places := [(0, 1), (1, 1), (2, 4), (6, 1), (7, 1), (8, 1), (9, 1), (10, 1), (11, 1)]) (vs := z0) underlying40 typeInfo40 rfl rfl (by kernel_rfl) rfl rfl rfl) ?_)))
       (have _g := hV; refine Qd rfl (Qg (vs := z0) (H.focus (H.block hc4b (by simp)) (by simp)) sizeOf40 rfl rfl (Xq rfl rfl rfl) .here (by simp [z0, oC])) ?_; clear H; intro w158 H; have H : Hp w9 [(c4, blk z0 40)] w158 := H)
       refine Ja (Jn (Je ?_))
       exact ⟨_, ⟨_, _, rfl, ldA isAgg40 sizeOf40 (H.get .here) rfl (by simp [z0, oC]), rfl⟩, _, false, rfl, hV.fin hc4 H⟩
      ·refine Jk (Js (Jr (J (Qm (places := [(0, 1), (1, 1), (2, 4), (6, 1), (7, 1), (8, 1), (9, 1), (10, 1), (11, 1)]) (vs := z0) underlying40 typeInfo40 rfl rfl (by kernel_rfl) rfl rfl rfl) ?_)))
       (have hV := hsame H hc4 hc3; have hc4b := hV.c4; rename World => w9; clear H; have H := Hp.refl w9; refine Qd rfl (Qg (vs := z0) (H.focus (H.block hc4b (by simp)) (by simp)) sizeOf40 rfl rfl (Xq rfl rfl rfl) .here (by simp [z0, oC])) ?_; clear H; intro w167 H; have H : Hp w9 [(c4, blk z0 40)] w167 := H)
       refine Ja (Jn (Je ?_))
       exact ⟨_, ⟨_, _, rfl, ldA isAgg40 sizeOf40 (H.get .here) rfl (by simp [z0, oC]), rfl⟩, _, false, rfl, hV.fin hc4 H⟩
    ·refine Js (Jr (J (Yk rfl rfl) (Ja (Jn (Xo rfl (fun h177 => ?_) (fun h177 => ?_))))))
     ·refine Js ?_
      ((have hs3 : s < 0 ∨ s = 0 ∨ 0 < s := (by omega); rcases hs3 with hs3 | rfl | hs3)) <;> (refine Zc (fun _ => false) (by kernel_rfl) H ?_; clear H; intro w179 H)
      ·refine Az 0 rfl rfl H (fun _ hC => Qa (off' := 1) underlying46 rfl sizeOf3 (by decide) rfl rfl) (Az 1 rfl rfl H (fun _ hC => Qe isAgg3 rfl (hC.get (.there .here)) rfl) (Az 2 rfl rfl H (fun _ hC => Zn rfl rfl (by omega)) (Am 3 rfl H (Aq 4 rfl rfl (fun h => nomatch h) H (Aq 5 rfl rfl (fun h => nomatch h) H (Aq 6 rfl rfl (fun h => nomatch h) H (Aq 7 rfl rfl (fun h => nomatch h) H (Aq 8 rfl rfl (fun h => nomatch h) H (Aq 9 rfl rfl (fun h => nomatch h) H (Aq 10 rfl rfl (fun h => nomatch h) H (Aq 11 rfl rfl (fun h => nomatch h) H (Aq 12 rfl rfl (fun h => nomatch h) H (Ah 13 rfl rfl H (fun _ hC => Zg rfl) (Am 14 rfl H (Aq 15 rfl rfl (fun h => nomatch h) H (Aq 16 rfl rfl (fun h => nomatch h) H (Aq 17 rfl rfl (fun h => nomatch h) H (Aq 18 rfl rfl (fun h => nomatch h) H (Aq 19 rfl rfl (fun h => nomatch h) H (Aq 20 rfl rfl (fun h => nomatch h) H (Aq 21 rfl rfl (fun h => nomatch h) H (Aq 22 rfl rfl (fun h => nomatch h) H (Aq 23 rfl rfl (fun h => nomatch h) H (Ah 24 rfl rfl H (fun _ hC => Zg rfl) (Ad (Jc rfl (Jk (Js (Jr (J (Qm (places := [(0, 1), (1, 1), (2, 4), (6, 1), (7, 1), (8, 1), (9, 1), (10, 1), (11, 1)]) (vs := z0) underlying40 typeInfo40 rfl rfl (by kernel_rfl) rfl rfl rfl) ?_))))))))))))))))))))))))))))))
       (have hV := hsame H hc4 hc3; have hc4b := hV.c4; rename World => w9; clear H; have H := Hp.refl w9; refine Qd rfl (Qg (vs := z0) (H.focus (H.block hc4b (by simp)) (by simp)) sizeOf40 rfl rfl (Xq rfl rfl rfl) .here (by simp [z0, oC])) ?_; clear H; intro w211 H; have H : Hp w9 [(c4, blk z0 40)] w211 := H)
       refine Ja (Jn (Je ?_))
       exact ⟨_, ⟨_, _, rfl, ldA isAgg40 sizeOf40 (H.get .here) rfl (by simp [z0, oC]), rfl⟩, _, false, rfl, hV.fin hc4 H⟩
      ·refine Az 0 rfl rfl H (fun _ hC => Qa (off' := 1) underlying46 rfl sizeOf3 (by decide) rfl rfl) (Az 1 rfl rfl H (fun _ hC => Qe isAgg3 rfl (hC.get (.there .here)) rfl) (Az 2 rfl rfl H (fun _ hC => R_ge_t rfl rfl (by omega)) (Am 3 rfl H (Ag 4 rfl rfl rfl H (fun _ hC => Qa (off' := 1) underlying46 rfl sizeOf3 (by decide) rfl rfl) (Ag 5 rfl rfl rfl H (fun _ hC => Qe isAgg3 rfl (hC.get (.there .here)) rfl) (Ai 6 rfl rfl rfl H (fun _ hC => Va) (Ag 7 rfl rfl rfl H (fun _ hC => Qf rfl) (Ag 8 rfl rfl rfl H (fun _ hC => Qa (off' := 0) underlying81 rfl sizeOf27 (by decide) rfl rfl) (Ag 9 rfl rfl rfl H (fun _ hC => Qa (off' := 0) underlying27 rfl sizeOf24 (by decide) rfl rfl) (Ag 10 rfl rfl rfl H (fun _ hC => Qe isAgg24 rfl (hC.Qc hwb kYs) rfl) (Ag 11 rfl rfl rfl H (fun _ hC => Qh underlying24 rfl) (Ag 12 rfl rfl rfl H (fun _ hC => Za rfl rfl (by omega)) (Ah 13 rfl rfl H (fun _ hC => Ug rfl) (Am 14 rfl H (Ai 15 rfl rfl rfl H (fun _ hC => Va) (Ag 16 rfl rfl rfl H (fun _ hC => Qf rfl) (Ag 17 rfl rfl rfl H (fun _ hC => Qa (off' := 0) underlying81 rfl sizeOf27 (by decide) rfl rfl) (Ag 18 rfl rfl rfl H (fun _ hC => Qa (off' := 0) underlying27 rfl sizeOf24 (by decide) rfl rfl) (Ag 19 rfl rfl rfl H (fun _ hC => Qe isAgg24 rfl (hC.Qc hwb kYs) rfl) (Ag 20 rfl rfl rfl H (fun _ hC => Qa (off' := 1) underlying46 rfl sizeOf3 (by decide) rfl rfl) (Ag 21 rfl rfl rfl H (fun _ hC => Qe isAgg3 rfl (hC.get (.there .here)) rfl) (Ag 22 rfl rfl rfl H (fun _ hC => Qj (off' := o1 + 0) underlying24 sizeOf4 rfl rfl (by decide) (by decide) (by simp)) (Ag 23 rfl rfl rfl H (fun _ hC => Qx isAgg4 rfl (hC.Zx hcb kYs)) (Ah 24 rfl rfl H (fun _ hC => Ug rfl) (Ad (Jc rfl (Jk (Js (Jr (J (Qm (places := [(0, 1), (1, 1), (2, 4), (6, 1), (7, 1), (8, 1), (9, 1), (10, 1), (11, 1)]) (vs := z0) underlying40 typeInfo40 rfl rfl (by kernel_rfl) rfl rfl rfl) ?_))))))))))))))))))))))))))))))
       (have hV := hsame H hc4 hc3; have hc4b := hV.c4; rename World => w9; clear H; have H := Hp.refl w9; refine Qd rfl (Qg (vs := z0) (H.focus (H.block hc4b (by simp)) (by simp)) sizeOf40 rfl rfl (Xq rfl rfl rfl) .here (by simp [z0, oC])) ?_; clear H; intro w247 H; have H : Hp w9 [(c4, blk z0 40)] w247 := H)
       refine Ja (Jn (Je ?_))
       exact ⟨_, ⟨_, _, rfl, ldA isAgg40 sizeOf40 (H.get .here) rfl (by simp [z0, oC]), rfl⟩, _, false, rfl, hV.fin hc4 H⟩
      ·refine Az 0 rfl rfl H (fun _ hC => Qa (off' := 1) underlying46 rfl sizeOf3 (by decide) rfl rfl) (Az 1 rfl rfl H (fun _ hC => Qe isAgg3 rfl (hC.get (.there .here)) rfl) (Az 2 rfl rfl H (fun _ hC => R_ge_t rfl rfl (by omega)) (Am 3 rfl H (Ag 4 rfl rfl rfl H (fun _ hC => Qa (off' := 1) underlying46 rfl sizeOf3 (by decide) rfl rfl) (Ag 5 rfl rfl rfl H (fun _ hC => Qe isAgg3 rfl (hC.get (.there .here)) rfl) (Ai 6 rfl rfl rfl H (fun _ hC => Va) (Ag 7 rfl rfl rfl H (fun _ hC => Qf rfl) (Ag 8 rfl rfl rfl H (fun _ hC => Qa (off' := 0) underlying81 rfl sizeOf27 (by decide) rfl rfl) (Ag 9 rfl rfl rfl H (fun _ hC => Qa (off' := 0) underlying27 rfl sizeOf24 (by decide) rfl rfl) (Ag 10 rfl rfl rfl H (fun _ hC => Qe isAgg24 rfl (hC.Qc hwb kYs) rfl) (Ag 11 rfl rfl rfl H (fun _ hC => Qh underlying24 rfl) (Ag 12 rfl rfl rfl H (fun _ hC => Xp rfl rfl (by omega)) (Ah 13 rfl rfl H (fun _ hC => Ug rfl) (Am 14 rfl H (Aq 15 rfl rfl (fun h => nomatch h) H (Aq 16 rfl rfl (fun h => nomatch h) H (Aq 17 rfl rfl (fun h => nomatch h) H (Aq 18 rfl rfl (fun h => nomatch h) H (Aq 19 rfl rfl (fun h => nomatch h) H (Aq 20 rfl rfl (fun h => nomatch h) H (Aq 21 rfl rfl (fun h => nomatch h) H (Aq 22 rfl rfl (fun h => nomatch h) H (Aq 23 rfl rfl (fun h => nomatch h) H (Ah 24 rfl rfl H (fun _ hC => Zg rfl) (Ad (Jc rfl (Jk (Js (Jr (J (Qm (places := [(0, 1), (1, 1), (2, 4), (6, 1), (7, 1), (8, 1), (9, 1), (10, 1), (11, 1)]) (vs := z0) underlying40 typeInfo40 rfl rfl (by kernel_rfl) rfl rfl rfl) ?_))))))))))))))))))))))))))))))
       (have hV := hsame H hc4 hc3; have hc4b := hV.c4; rename World => w9; clear H; have H := Hp.refl w9; refine Qd rfl (Qg (vs := z0) (H.focus (H.block hc4b (by simp)) (by simp)) sizeOf40 rfl rfl (Xq rfl rfl rfl) .here (by simp [z0, oC])) ?_; clear H; intro w283 H; have H : Hp w9 [(c4, blk z0 40)] w283 := H)
       refine Ja (Jn (Je ?_))
       exact ⟨_, ⟨_, _, rfl, ldA isAgg40 sizeOf40 (H.get .here) rfl (by simp [z0, oC]), rfl⟩, _, false, rfl, hV.fin hc4 H⟩
     ·refine Jk (Js (Jr (J (Qm (places := [(0, 1), (1, 1), (2, 4), (6, 1), (7, 1), (8, 1), (9, 1), (10, 1), (11, 1)]) (vs := z0) underlying40 typeInfo40 rfl rfl (by kernel_rfl) rfl rfl rfl) ?_)))
      (have hV := hsame H hc4 hc3; have hc4b := hV.c4; rename World => w9; clear H; have H := Hp.refl w9; refine Qd rfl (Qg (vs := z0) (H.focus (H.block hc4b (by simp)) (by simp)) sizeOf40 rfl rfl (Xq rfl rfl rfl) .here (by simp [z0, oC])) ?_; clear H; intro w292 H; have H : Hp w9 [(c4, blk z0 40)] w292 := H)
      refine Ja (Jn (Je ?_))
      exact ⟨_, ⟨_, _, rfl, ldA isAgg40 sizeOf40 (H.get .here) rfl (by simp [z0, oC]), rfl⟩, _, false, rfl, hV.fin hc4 H⟩
end
end Go.Proofs.YtlpmfldijgdcoaaGreatDoor.Wp
namespace Go.Proofs.YtlpmfldijgdcoaaGreatDoor.Wp
open Go Go.Proofs Fx Kn Cm Ho TabC Caps Fam Wo
open _root_.Go.Proofs.Tryz hiding t0
section
variable {w w1 w' : World} {κ : KS} {bt : Bool} {wd sp : Nat} {hb : List Nat} {B : Nat} {T : Int} {k : Nat} {S : Sect.Sx} {qs : List Nat} {L : List (Nat × Obj)}
theorem Regions_ret (hK : Kr w κ) : Ret Tryz.prog 28 #[ptr κ.k 0] w fun v w' => v = ptr κ.r 0 ∧ Hp w [] w' := by
 refine Qi (args := [_]) func28 rfl ntmps28 results28 (by simp) ?_
 have H := Hp.refl w
 have hk := hK.hk
 unfold KS.kb at hk
 refine Js (Jr (Ja (Jn (Js (Jr (Jm (Ji rfl (Jf 5 underlying113 rfl sizeOf87 rfl rfl (Jl isAgg87 rfl (H.block hk (by simp)) rfl (Ja (Jn (Je ?_))))))))))))
 exact ⟨_, rfl, rfl, H⟩
theorem RRaw_ret {lo n : Nat} (hK : Kr w κ) (h0 : κ.sp[0]? = some (lo, n)) (hin : lo + n ≤ κ.N) :
  Ret Tryz.prog 29 #[ptr κ.r 0, I 0] w fun v w' => ∃ u M, v = .tuple #[u, I 0] ∧ Yo w.heap.size 5 1 u n (((κ.xs.drop lo).take n).map U) M ∧ Hp w M w' := by
 refine Qi (args := [_, _]) func29 rfl ntmps29 results29 (by simp) ?_
 have H := Hp.refl w
 have hr := hK.hr
 have ha := hK.ha
 have hl0 := (List.getElem?_eq_some_iff.1 h0).1
 have hx := hK.hx
 have hN := hK.hN
 have hsp := hK.hsp
 have c0 : (rows spC κ.sp ++ κ.tl)[0]? = some (I lo) := by
  rw [List.getElem?_append_left (by rw [Zh Mp]; omega)]; exact (Nj (sz := 2) (i := 0) (j := 0) Mp h0 (by decide)).trans rfl
 have c1 : (rows spC κ.sp ++ κ.tl)[1]? = some (I n) := by
  rw [List.getElem?_append_left (by rw [Zh Mp]; omega)]; exact (Nj (sz := 2) (i := 0) (j := 1) Mp h0 (by decide)).trans rfl
 refine Js (Jr (Ja (Ja (Jn (Js (Js (Jr (Jm (J (Xp rfl rfl (by omega)) (Jm (Jt rfl rfl (Jm (Jt rfl rfl (Jm (Jt rfl rfl (Ji rfl (Jt rfl rfl (Jf 2 underlying142 rfl sizeOf140 rfl rfl (Jt rfl rfl (J (Qe (v := sl κ.a 0 κ.sp.length κ.ca) isAgg140 rfl (H.Qc hr kYs) rfl) (Jt rfl rfl (J (Qh underlying140 rfl) (Jt rfl rfl (J (Zn rfl rfl (by omega)) (Jp rfl (Jn (Jc rfl (Jk (Js ?_)))))))))))))))))))))))))))))
 (refine Zc (fun _ => false) (by kernel_rfl) H ?_; clear H; intro w31 H)
 (refine Am 0 rfl H (Az 1 rfl rfl H (fun _ hC => Qf rfl) (Az 2 rfl rfl H (fun _ hC => Qa (off' := 0) underlying142 rfl sizeOf105 (by decide) rfl rfl) (Az 3 rfl rfl H (fun _ hC => Qe (v := ptr κ.m 0) isAgg105 rfl (hC.Qc hr kYs) rfl) (Am 4 rfl H (Az 5 rfl rfl H (fun _ hC => Qf rfl) (Az 6 rfl rfl H (fun _ hC => Qa (off' := 2) underlying142 rfl sizeOf140 (by decide) rfl rfl) (Az 7 rfl rfl H (fun _ hC => Qe (v := sl κ.a 0 κ.sp.length κ.ca) isAgg140 rfl (hC.Qc hr kYs) rfl) (Am 8 rfl H (Az 9 rfl rfl H (fun _ hC => Qj (off' := 0) underlying140 sizeOf145 rfl rfl (by omega) (by omega) rfl) (Az 10 rfl rfl H (fun _ hC => Qa (off' := 0) underlying145 rfl sizeOf3 (by decide) rfl rfl) (Az 11 rfl rfl H (fun _ hC => Qe (v := I lo) isAgg3 rfl (hC.Qc ha kYs) c0) (Am 12 rfl H (Az 13 rfl rfl H (fun _ hC => Qf rfl) (Az 14 rfl rfl H (fun _ hC => Qa (off' := 2) underlying142 rfl sizeOf140 (by decide) rfl rfl) (Az 15 rfl rfl H (fun _ hC => Qe (v := sl κ.a 0 κ.sp.length κ.ca) isAgg140 rfl (hC.Qc hr kYs) rfl) (Am 16 rfl H (Az 17 rfl rfl H (fun _ hC => Qj (off' := 0) underlying140 sizeOf145 rfl rfl (by omega) (by omega) rfl) (Az 18 rfl rfl H (fun _ hC => Qa (off' := 1) underlying145 rfl sizeOf3 (by decide) rfl rfl) (Az 19 rfl rfl H (fun _ hC => Qe (v := I n) isAgg3 rfl (hC.Qc ha kYs) c1) (Ao 20 (Qv rfl (.inl rfl) (Qw rfl call60 rfl) (Mem.load_yes lo n (H.Qc hK.hm kYs) (H.Qc hK.hb kYs) hx (by omega) (by omega)) (fun _ _ hR _ => by obtain ⟨_, _, _, hO, H1⟩ := hR; exact (H.Yn hO H1).2.none (Yv (H.Yn hO H1).1.keys Xu)) ?_))))))))))))))))))))); rintro _ w53 ⟨u, M, rfl, hO, H1⟩; have h53 := H.Yn hO H1; clear H H1 hO; obtain ⟨hO, H⟩ := h53; rw [List.append_nil] at H)
 refine Az 21 rfl rfl (H.none kYs) (fun _ hC => Qs rfl rfl) (Az 22 rfl rfl (H.none kYs) (fun _ hC => Qs rfl rfl) (Aa 23 rfl (H.none kYs) (Aa 24 rfl (H.none kYs) (Ad (Je ?_)))))
 exact ⟨_, rfl, u, M, rfl, hO, H⟩
theorem sp_zero (W : Wst w κ bt wd sp hb B T k S qs) : κ.sp[0]? = some (0, 492) := by
 obtain ⟨h, hh⟩ := W.host_get (i := 0) (by decide)
 obtain ⟨q, t, i, g0, o, re, rx, h1, h2, h3, h4, h5⟩ := (W.wn hh).ex
 obtain ⟨q', h6, h7⟩ := W.tb 0 (by decide)
 rw [h2] at h7
 obtain rfl := Option.some.inj h7
 unfold Ke.tab1 at h3
 by_cases hi : i = 0
 ·subst hi
  have h8 : (t0.set 0 Ke.pl1)[0]? = some Ke.pl1 := by rw [List.getElem?_set_self (by simp [t0])]
  rw [h8] at h3
  have h9 := congrArg (fun (x : Pl) => x.v.c[0]?) (Option.some.inj h3)
  simp [Ke.pl1, cp, I] at h9
  obtain rfl : o = 0 := by omega
  exact h5
 ·rw [List.getElem?_set_ne (Ne.symm hi)] at h3
  have h8 := List.mem_of_getElem? h3
  have h9 := List.eq_of_mem_replicate h8
  have h10 := congrArg (fun (x : Pl) => x.u) h9
  simp [newPl] at h10
theorem wRaw (W : Wst w κ bt wd sp hb B T k S qs) :
  Ret Tryz.prog 14 #[ptr wd 0, I 0] w fun v w' => ∃ u M, v = .tuple #[u, I 0] ∧ Yo w.heap.size 5 1 u 492 ((κ.xs.take 492).map U) M ∧ Hp w M w' := by
 refine Qi (args := [_, _]) func14 rfl ntmps14 results14 (by simp) ?_
 have H := Hp.refl w
 obtain ⟨bb, bbc, ba, bc, ha, hc, la, lc, h1, h2, h3, _⟩ := W.wb
 have hk := W.kr.hk
 unfold KS.kb at hk
 (refine Js (Jr (Ja (Ja (Jn (Js (Js (Jr (Jm (J (Xp rfl rfl (by omega)) (Jm (Jt rfl rfl (Jm (Jt rfl rfl (Jm (Jt rfl rfl (Ji rfl (Jt rfl rfl (Jf 4 underlying81 rfl sizeOf79 rfl rfl (Jt rfl rfl (Jl isAgg79 rfl (H.block h1 (by simp)) rfl (Jt rfl rfl (J (Qh underlying79 rfl) (Jt rfl rfl (J (Zn rfl rfl (by omega)) (Jp rfl (Jn (Jc rfl (Jk (Js (Jr (Jm (Ji rfl (Jf 3 underlying81 rfl sizeOf71 rfl rfl (Jl isAgg71 rfl (H.block h1 (by simp)) rfl (Jz rfl call28 rfl (Regions_ret (W.Ql H kYs).kr) H ?_))))))))))))))))))))))))))))))))))); intro w36 H)
 (refine Jm (Jy rfl call29 rfl (RRaw_ret (W.Ql H kYs).kr (sp_zero W) (by rw [W.n]; decide)) ?_); rintro _ w38 ⟨u, M, rfl, hO, H1⟩; have h38 := H.Yn hO H1; clear H H1 hO; obtain ⟨hO, H⟩ := h38; rw [List.append_nil] at H; rw [List.drop_zero] at hO)
 refine Jx rfl rfl (Jx rfl rfl (Ja (Ja (Jn (Je ?_)))))
 exact ⟨_, rfl, u, M, rfl, hO, H⟩
/-- as it begins -/
theorem theQ : (∀ j, j < 8 → (Slot.Xy (win W0 (24 * j) 24)) = if j = 0 then (p0, 1) else (Slot.Xn, 0)) ∧ (File.Xy (win W0 192 8)).1.k = 3 := by
 constructor
 ·intro j hj
  match j, hj with
  | 0, _ => exact theP
  | 1, _ => exact (show Slot.Xy (win W0 (24 * 1) 24) = (Slot.Xn, 0) by kernel_rfl)
  | 2, _ => exact (show Slot.Xy (win W0 (24 * 2) 24) = (Slot.Xn, 0) by kernel_rfl)
  | 3, _ => exact (show Slot.Xy (win W0 (24 * 3) 24) = (Slot.Xn, 0) by kernel_rfl)
  | 4, _ => exact (show Slot.Xy (win W0 (24 * 4) 24) = (Slot.Xn, 0) by kernel_rfl)
  | 5, _ => exact (show Slot.Xy (win W0 (24 * 5) 24) = (Slot.Xn, 0) by kernel_rfl)
  | 6, _ => exact (show Slot.Xy (win W0 (24 * 6) 24) = (Slot.Xn, 0) by kernel_rfl)
  | 7, _ => exact (show Slot.Xy (win W0 (24 * 7) 24) = (Slot.Xn, 0) by kernel_rfl)
 ·kernel_rfl
theorem wst0 {κ : KS} (W : W8 w κ bt wd sp hb) (hx : κ.xs = X4 (List.replicate 1280 0)) : Wst w κ bt wd sp hb w.heap.size 0 0 (Sect.Bh 3) [] ∧ FamQ (cv κ) := by
 have e0 : ∀ i ca cc mp, cw κ i ca cc mp = c0 κ (X4 (List.replicate 1280 0)) i ca cc mp := fun i ca cc mp => by rw [← hx]; rfl
 have hs := snd0 κ 0 none 0 0
 rw [← e0] at hs
 have hL : Lk (cv κ) := ⟨fun i hi _ => hs.p i hi, fun i hi _ => hs.f i hi, fun i hi _ => hs.q i hi, fun _ => hs.t, fun _ => hs.g⟩
 have hlen : κ.xs.length = κ.N := W.kr.hx
 have hF : Fi (cv κ) := ⟨rfl, rfl, by show 492 ≤ κ.xs.length; rw [hlen, W.n]; decide⟩
 refine ⟨⟨W.wb, W.hl, fun j h hj => ?_, fun e he => KsI.of (W.ks e he), W.kr, ⟨nilS, [], W.sb, .inl ⟨rfl, rfl, rfl⟩, (fun _ h => nomatch h), rfl⟩, (fun _ h => nomatch h), W.n, W.tb, Sect.Bk.new 3, by rw [W.now]; decide, Nat.le_refl _, ⟨hL, hlen⟩⟩, ?_⟩
 ·obtain ⟨c, mp, uc, ua, hf, hcm⟩ := W.hf j h hj
  exact ⟨c, ua, uc, mp, 0, 0, 0, 0, 0, none, 0, 0, hf.h, ⟨hcm, (gp_cw (⟨hL, hlen⟩ : Gp (cv κ) κ.xs) j ua uc mp).1, wj1 _ rfl⟩, (fun _ _ hm => nomatch hm), .inl rfl⟩
 ·have hw : ∀ a n, a + n ≤ 492 → win κ.xs a n = win W0 a n := fun a n h => by
   have h9 := win_in κ.xs a n h
   rw [Nat.zero_add] at h9
   rw [h9, hx, win_x4]
  refine ⟨fun j hj h1 => ?_, fun h1 => ?_⟩
  ·rw [pR_cv hF, hw _ _ (by omega), theQ.1 j hj] at h1 ⊢
   split at h1
   ·rw [if_pos (by assumption)]; exact ⟨⟨rfl, rfl⟩, by decide, 1, .inr rfl, rfl⟩
   ·cases h1
  ·rw [fR_D hF, rc_xs hF]
   show (File.Xy (win κ.xs 192 8)).1.k = 3
   rw [hw _ _ (by decide)]
   exact theQ.2
end
end Go.Proofs.YtlpmfldijgdcoaaGreatDoor.Wp
namespace Go.Proofs.YtlpmfldijgdcoaaGreatDoor.Wp
open Go Go.Proofs Go.Proofs.YtlpmfldijgdcoaaGreatDoor.Fx Go.RowKit
/-- a step that comes in -/
structure Stp where
 kd : Int
 s : Int
 p : Int
 n : Int
 bv : Value
 b : List UInt8
 op : Int
 a : Int
 c : Int
 dv : Value
 d : List UInt8
 c1 : Int
 c2 : Int
 c3 : Int
 c4 : Int
 c5 : Int
 c6 : Int
 cv : Value
 cb : List UInt8
def Zy (o : Stp) : List Value := [I o.kd, I o.s, I o.p, I o.n, o.bv, I o.op, I o.a, I o.c, o.dv, I o.c1, I o.c2, I o.c3, I o.c4, I o.c5, I o.c6, o.cv]
theorem stpC_len (o : Stp) : (Zy o).length = 16 := rfl
/-- its bytes are there, its numbers are numbers -/
structure Stp.ok (w : World) (o : Stp) : Prop where
 b : RdS w o.bv (o.b.map U)
 d : RdS w o.dv (o.d.map U)
 c : RdS w o.cv (o.cb.map U)
 w3 : IntKind.i64.wrap o.n = o.n
theorem Bc {cs : List Value} {i n j : Nat} {v : Value} (h : ((cs.drop i).take n)[j]? = some v) : cs[i + j]? = some v := by
 have hj : j < n := by
  have := (List.getElem?_eq_some_iff.1 h).1
  rw [List.length_take] at this; omega
 rwa [List.getElem?_take_of_lt hj, List.getElem?_drop] at h
theorem list16 {cs : List Value} {y0 y1 y2 y3 y4 y5 y6 y7 y8 y9 y10 y11 y12 y13 y14 y15 : Value} (hl : cs.length = 16) (h0 : cs[0]? = some y0) (h1 : cs[1]? = some y1) (h2 : cs[2]? = some y2) (h3 : cs[3]? = some y3) (h4 : cs[4]? = some y4) (h5 : cs[5]? = some y5) (h6 : cs[6]? = some y6) (h7 : cs[7]? = some y7) (h8 : cs[8]? = some y8) (h9 : cs[9]? = some y9) (h10 : cs[10]? = some y10) (h11 : cs[11]? = some y11) (h12 : cs[12]? = some y12) (h13 : cs[13]? = some y13) (h14 : cs[14]? = some y14) (h15 : cs[15]? = some y15) : cs = [y0, y1, y2, y3, y4, y5, y6, y7, y8, y9, y10, y11, y12, y13, y14, y15] := by
 apply List.ext_getElem?
 intro z
 match z with
 | 0 => exact h0
 | 1 => exact h1
 | 2 => exact h2
 | 3 => exact h3
 | 4 => exact h4
 | 5 => exact h5
 | 6 => exact h6
 | 7 => exact h7
 | 8 => exact h8
 | 9 => exact h9
 | 10 => exact h10
 | 11 => exact h11
 | 12 => exact h12
 | 13 => exact h13
 | 14 => exact h14
 | 15 => exact h15
 | z + 16 => rw [List.getElem?_eq_none (by omega), List.getElem?_eq_none (by simp)]
theorem steps_in {H : Type} {enc : TypeId × Value → H} {w : World} {a : Option Addr} {len cap : Nat} {d : DataW H} {p : List MemPlace} (h : DataW.Trod enc Tryz.prog w 0 (fun _ => true) true 23 (.slice a len cap) d p) :
  ∃ l : List Stp, l.length = len ∧ len ≤ 9223372036854775807 ∧ RdR Zy w (.slice a len cap) l ∧ ∀ x ∈ l, x.ok w := by
 refine rows_of_row (sz := 16) Tryz.underlying23 (by kernel_rfl) (by decide) stpC_len ?_ h
 intro n cs y hy
 obtain ⟨xs, m, _, _, hl, hxl, hf⟩ := DataW.trod_struct Tryz.underlying46 hy
 have hl16 : cs.length = 16 := hl.trans (by kernel_rfl)
 have c3 : Tryz.prog.cellsOf 3 = 1 := by kernel_rfl
 have cB : Tryz.prog.cellsOf 36 = 1 := by kernel_rfl
 have hx : xs.length = 7 := hxl
 have f0 := Zp hf 0 3 0 1 rfl c3
 have f1 := Zp hf 1 3 1 1 rfl c3
 have f2 := Zp hf 2 3 2 1 rfl c3
 have f3 := Zp hf 3 3 3 1 rfl c3
 have f4 := Zp hf 4 36 4 1 rfl cB
 have f5 := Zp hf 5 38 5 4 rfl (by kernel_rfl)
 have f6 := Zp hf 6 44 9 7 rfl (by kernel_rfl)
 obtain ⟨x0, e0, w0⟩ := Vh Tryz.underlying3 f0 (List.getElem?_eq_getElem (by omega))
 obtain ⟨x1, e1, w1⟩ := Vh Tryz.underlying3 f1 (List.getElem?_eq_getElem (by omega))
 obtain ⟨x2, e2, w2⟩ := Vh Tryz.underlying3 f2 (List.getElem?_eq_getElem (by omega))
 obtain ⟨x3, e3, w3⟩ := Vh Tryz.underlying3 f3 (List.getElem?_eq_getElem (by omega))
 obtain ⟨v4, b4, e4, hb4, hr4⟩ := field_bytes Tryz.underlying36 Tryz.underlying5 (by kernel_rfl) f4 (List.getElem?_eq_getElem (by omega))
 obtain ⟨ys, m2, _, _, _, hyl, hg⟩ := DataW.trod_struct Tryz.underlying38 (f5.trans (List.getElem?_eq_getElem (show 5 < xs.length by omega)))
 have hyl4 : ys.length = 4 := hyl
 have g0 := Zp hg 0 3 0 1 rfl c3
 have g1 := Zp hg 1 3 1 1 rfl c3
 have g2 := Zp hg 2 3 2 1 rfl c3
 have g3 := Zp hg 3 36 3 1 rfl cB
 obtain ⟨x5, e5, w5⟩ := Vh Tryz.underlying3 g0 (List.getElem?_eq_getElem (by omega))
 obtain ⟨x6, e6, w6⟩ := Vh Tryz.underlying3 g1 (List.getElem?_eq_getElem (by omega))
 obtain ⟨x7, e7, w7⟩ := Vh Tryz.underlying3 g2 (List.getElem?_eq_getElem (by omega))
 obtain ⟨v8, b8, e8, hb8, hr8⟩ := field_bytes Tryz.underlying36 Tryz.underlying5 (by kernel_rfl) g3 (List.getElem?_eq_getElem (by omega))
 obtain ⟨zs, m3, _, _, _, hzl, hk⟩ := DataW.trod_struct Tryz.underlying44 (f6.trans (List.getElem?_eq_getElem (show 6 < xs.length by omega)))
 have hzl7 : zs.length = 7 := hzl
 have k0 := Zp hk 0 3 0 1 rfl c3
 have k1 := Zp hk 1 3 1 1 rfl c3
 have k2 := Zp hk 2 3 2 1 rfl c3
 have k3 := Zp hk 3 3 3 1 rfl c3
 have k4 := Zp hk 4 3 4 1 rfl c3
 have k5 := Zp hk 5 3 5 1 rfl c3
 have k6 := Zp hk 6 36 6 1 rfl cB
 obtain ⟨x9, e9, w9⟩ := Vh Tryz.underlying3 k0 (List.getElem?_eq_getElem (by omega))
 obtain ⟨x10, e10, w10⟩ := Vh Tryz.underlying3 k1 (List.getElem?_eq_getElem (by omega))
 obtain ⟨x11, e11, w11⟩ := Vh Tryz.underlying3 k2 (List.getElem?_eq_getElem (by omega))
 obtain ⟨x12, e12, w12⟩ := Vh Tryz.underlying3 k3 (List.getElem?_eq_getElem (by omega))
 obtain ⟨x13, e13, w13⟩ := Vh Tryz.underlying3 k4 (List.getElem?_eq_getElem (by omega))
 obtain ⟨x14, e14, w14⟩ := Vh Tryz.underlying3 k5 (List.getElem?_eq_getElem (by omega))
 obtain ⟨v15, b15, e15, hb15, hr15⟩ := field_bytes Tryz.underlying36 Tryz.underlying5 (by kernel_rfl) k6 (List.getElem?_eq_getElem (by omega))
 exact ⟨⟨x0, x1, x2, x3, v4, b4, x5, x6, x7, v8, b8, x9, x10, x11, x12, x13, x14, v15, b15⟩, list16 hl16 (take1 e0) (take1 e1) (take1 e2) (take1 e3) (take1 e4) (Bc (i := 5) (j := 0) (take1 e5)) (Bc (i := 5) (j := 1) (take1 e6)) (Bc (i := 5) (j := 2) (take1 e7)) (Bc (i := 5) (j := 3) (take1 e8)) (Bc (i := 9) (j := 0) (take1 e9)) (Bc (i := 9) (j := 1) (take1 e10)) (Bc (i := 9) (j := 2) (take1 e11)) (Bc (i := 9) (j := 3) (take1 e12)) (Bc (i := 9) (j := 4) (take1 e13)) (Bc (i := 9) (j := 5) (take1 e14)) (Bc (i := 9) (j := 6) (take1 e15)), ⟨hr4, hr8, hr15, (by have := wf_i64 w3; exact Xc (by omega))⟩⟩
end Go.Proofs.YtlpmfldijgdcoaaGreatDoor.Wp
namespace Go.Proofs.YtlpmfldijgdcoaaGreatDoor.Slot
open Go Go.Proofs Fx Codec Tryz
def piK : List IntKind := [.i64] ++ ([.i64] ++ ([.i64] ++ ([.i64] ++ ([.i64] ++ ([.i64] ++ ([.i64] ++ ([.i64] ++ (List.replicate 8 .i64 ++ []))))))))
def piN (p : Pi) : List Int := [p.s, p.p, p.g, p.e, p.a.toInt, p.b.toInt, p.c.toInt, p.d.toInt] ++ p.f
theorem piN_inj {p q : Pi} : piN p = piN q ↔ p = q := by
 refine ⟨fun h => ?_, fun h => by rw [h]⟩
 unfold piN at h
 have h2 := List.append_inj h rfl
 have h3 := h2.1
 simp only [List.cons.injEq, and_true] at h3
 obtain ⟨h4, h5, h6, h7, h8, h9, h10, h11⟩ := h3
 exact pi_ext h4 h5 h6 h7 (BitVec.eq_of_toInt_eq h8) (BitVec.eq_of_toInt_eq h9) (BitVec.eq_of_toInt_eq h10) (BitVec.eq_of_toInt_eq h11) h2.2
instance : DecidableEq Pi := fun _ _ => decidable_of_iff _ piN_inj
section
variable {E : Env} {w : World} {d : Option Nat} {ty : TypeId} {pos : String} {after : Array Edge} {t' : TypeId} {x y : Operand} {f g : Pi}
end
theorem three {xs : List UInt8} (h8 : xs.length = 24) (hz : ¬ ∀ x ∈ xs, x = 0) {ff : Pi} (hff : ff = ofB xs) : (okP ff ∧ Xm ff = xs ∧ Xy xs = (ff, 1)) ∨ (okP ff ∧ ¬ Xm ff = xs ∧ Xy xs = (Xn, 2)) ∨ (¬ okP ff ∧ Xy xs = (Xn, 2)) := by
 subst hff
 by_cases h1 : okP (ofB xs)
 ·by_cases h2 : Xm (ofB xs) = xs
  ·exact .inl ⟨h1, h2, Vj ⟨h8, h1, h2⟩⟩
  ·exact .inr (.inl ⟨h1, h2, Ue (fun h => h2 h.2.2) (fun h => hz h.2)⟩)
 ·exact .inr (.inr ⟨h1, Ue (fun h => h1 h.2.1) (fun h => hz h.2)⟩)
theorem pickT {xs : List UInt8} (h : xs.length = 24) {i : Nat} (hi : i < 4) : [I (ofB xs).a.toInt, I (ofB xs).b.toInt, I (ofB xs).c.toInt, I (ofB xs).d.toInt][i]? = some (I ((xs[4 + 2 * i]'(by omega)).toNat * 256 + (xs[4 + 2 * i + 1]'(by omega)).toNat)) := by
 have := pickV h hi
 match i, hi with
 | 0, _ => exact this
 | 1, _ => exact this
 | 2, _ => exact this
 | 3, _ => exact this
theorem first8 {xs : List UInt8} (h : xs.length = 24) : (piC (ofB xs)).take 8 = [I (xs[0]'(by omega)).toNat, I (xs[1]'(by omega)).toNat, I (xs[2]'(by omega)).toNat, I (xs[3]'(by omega)).toNat, I (ofB xs).a.toInt, I (ofB xs).b.toInt, I (ofB xs).c.toInt, I (ofB xs).d.toInt] := by
 rw [← Me, ← Me, ← Me, ← Me]
 rfl
theorem refOf_ret {xs : List UInt8} {w : World} (hb : xs.length ≤ 100000) :
  Ret Tryz.prog 16 #[S xs] w fun v w' => v = .tuple #[vP (Xy xs).1, I (Xy xs).2] ∧ Hp w [] w' := by
 refine Qy (args := [_]) func16 rfl ntmps16 results16 (by simp) ?_
 have H := Hp.refl w
 by_cases h8 : xs.length = 24
 ·by_cases hz : ∀ x ∈ xs, x = 0
  ·rw [Uk h8 hz]
   (refine Js (Jr (Qb rfl (Qt H) ?_)); clear H; intro b2 w3 hb2 H)
   (refine Ja (Jn (Js (Js (Jr (Jm (J (Na underlying9 rfl) (J (Yl rfl rfl (by omega)) (Jn (Jc rfl (Jk (Js (Js (Jr (Jm (Jy rfl call37 rfl (refBlank_ret _ hb) ?_))))))))))))))); rintro v w19 ⟨hv, H1⟩; rw [decide_eq_true hz] at hv; subst hv; replace H := H.seq0 H1; clear H1)
   refine Jn (Jd rfl (Js (Jr (Ym rfl Uw ?_))))
   (refine Qd rfl (Qn (q := Xn) H rfl rfl .here) ?_; clear H; intro w25 H)
   refine Ja (Jn (Je ?_))
   exact ⟨_, ⟨_, _, rfl, ldP (p := Xn) (H.get .here), rfl⟩, rfl, H.none kYs⟩
  ·obtain ⟨ff, hff⟩ : ∃ ff : Pi, ff = ofB xs := ⟨_, rfl⟩
   have h3 := three h8 hz hff
   have hVl := Ya ff
   have hV8 := first8 h8
   rw [← hff] at hV8
   obtain ⟨T, hT⟩ : ∃ T, T = [I ff.a.toInt, I ff.b.toInt, I ff.c.toInt, I ff.d.toInt] := ⟨_, rfl⟩
   have hTl : T.length = 4 := by rw [hT]; rfl
   have hTi : ∀ {i : Nat} (hi : i < 4), T[i]? = some (I ((xs[4 + 2 * i]'(by omega)).toNat * 256 + (xs[4 + 2 * i + 1]'(by omega)).toNat)) := fun hi => by rw [hT, hff]; exact pickT h8 hi
   obtain ⟨p1, hp1⟩ : ∃ p1 : Pi, p1 = ⟨(xs[0]'(by omega)).toNat, (xs[1]'(by omega)).toNat, (xs[2]'(by omega)).toNat, (xs[3]'(by omega)).toNat, ff.a, ff.b, ff.c, ff.d, List.replicate 8 0, rfl⟩ := ⟨_, rfl⟩
   have hp1v : piC p1 = [I (xs[0]'(by omega)).toNat, I (xs[1]'(by omega)).toNat, I (xs[2]'(by omega)).toNat, I (xs[3]'(by omega)).toNat, I ff.a.toInt, I ff.b.toInt, I ff.c.toInt, I ff.d.toInt] ++ List.replicate 8 (I 0) := by rw [hp1]; rfl
   have hp18 : piC p1 = (piC ff).take (8 + 0) ++ List.replicate (16 - (8 + 0)) (I 0) := by rw [hp1v, hV8]
   have hT0 : [I 0, I 0, I 0, I 0] = T.take 0 ++ List.replicate (4 - 0) (I 0) := rfl
   (refine Js (Jr (Qb rfl (Qt H) ?_)); clear H; intro b2 w3 hb2 H)
   (refine Ja (Jn (Js (Js (Jr (Jm (J (Na underlying9 rfl) (J (Yl rfl rfl (by omega)) (Jn (Jc rfl (Jk (Js (Js (Jr (Jm (Jy rfl call37 rfl (refBlank_ret _ hb) ?_))))))))))))))); rintro v w19 ⟨hv, H1⟩; rw [decide_eq_false hz] at hv; subst hv; replace H := H.seq0 H1; clear H1)
   (refine Jn (Jc rfl (Jk (Js (Jr (J (R_zeroArr (zs := [I 0, I 0, I 0, I 0]) underlying99 typeInfo99 ⟨_, Vv typeInfo3 default⟩ rfl rfl) (Qb rfl (Qp (vs := [I 0, I 0, I 0, I 0]) H zeroValue99 rfl) ?_)))))); clear H; intro b4 w26 hb4 H)
   (refine Qd rfl (Qg (vs := [I 0, I 0, I 0, I 0]) H sizeOf99 rfl rfl (by simp [Value.oneCell']) .here (by simp)) ?_; clear H; intro w27 H; replace H : Hp w [(b4, blk [I 0, I 0, I 0, I 0] 99), (b2, blk (piC Xn) 58)] _ := H)
   refine Jn (Js (Js (Jr (Ja (Jn (Jb ?_))))))
   refine Yg [(5, 5), (16, 35)] (fun (i : Nat) E w' => i ≤ 4 ∧ E 5 = I i ∧ Hp w [(b4, blk (T.take i ++ List.replicate (4 - i) (I 0)) 99), (b2, blk (piC Xn) 58)] w') (fun i => 4 - i) 0 ?e0 ?r0
   ·exact ⟨by omega, rfl, by rw [← hT0]; exact H⟩
   ·(clear H; rintro i E w1 ⟨hi, h5, H⟩; refine Ur h5 ?_; by_cases hlt : i < 4)
    ·refine Js (Js (Jr (Jm (J (Za rfl rfl (by omega)) (Jn (Jd rfl (Jk (Js (Jb ?_)))))))))
     (have hk1 := (xs[4 + 2 * i]'(by omega)).toNat_lt; have hk2 := (xs[4 + 2 * i + 1]'(by omega)).toNat_lt; refine Xi (KH w [(b2, blk (piC Xn) 58)]) (fun _ => false) (by kernel_rfl) H ?_; clear H; intro w47 H)
     refine Am 0 rfl H.kK (Am 1 rfl H.kK (Am 2 rfl H.kK (Az 3 rfl rfl H.kK (fun _ hC => Bs (r := ((2 * i : Nat) : Int)) rfl rfl (by rw [Xc (by omega)]; omega)) (Az 4 rfl rfl H.kK (fun _ hC => Xg (r := ((4 + 2 * i : Nat) : Int)) rfl rfl (by rw [Xc (by omega)]; omega)) (Az 5 rfl rfl H.kK (fun _ hC => Vz (u := xs[4 + 2 * i]) (i := ((4 + 2 * i : Nat) : Int)) underlying9 rfl rfl (by omega) (by rw [Int.toNat_natCast]; exact List.getElem?_eq_getElem (by omega))) (Az 6 rfl rfl H.kK (fun _ hC => Xe underlying5 underlying3 rfl Yf) (Az 7 rfl rfl H.kK (fun _ hC => R_shl rfl rfl (by decide) (shl_i64 256 (by decide) (by omega))) (Am 8 rfl H.kK (Am 9 rfl H.kK (Az 10 rfl rfl H.kK (fun _ hC => Bs (r := ((2 * i : Nat) : Int)) rfl rfl (by rw [Xc (by omega)]; omega)) (Az 11 rfl rfl H.kK (fun _ hC => Xg (r := ((4 + 2 * i + 1 : Nat) : Int)) rfl rfl (by rw [Xc (by omega)]; omega)) (Az 12 rfl rfl H.kK (fun _ hC => Vz (u := xs[4 + 2 * i + 1]) (i := ((4 + 2 * i + 1 : Nat) : Int)) underlying9 rfl rfl (by omega) (by rw [Int.toNat_natCast]; exact List.getElem?_eq_getElem (by omega))) (Az 13 rfl rfl H.kK (fun _ hC => Xe underlying5 underlying3 rfl Yf) (Az 14 rfl rfl H.kK (fun _ hC => Zb rfl rfl (by simp) (or_bytes _ _)) (Az 15 rfl rfl H.kK (fun _ hC => Yq (off' := i) underlying99 sizeOf3 rfl rfl (by omega) (by omega) (by omega)) (Ao 16 ?_))))))))))))))))
     (have _g := hlt; refine Xb rfl (.inl rfl) (Qz (v := I (xs[4 + 2 * i].toNat * 256 + xs[4 + 2 * i + 1].toNat)) H sizeOf3 rfl rfl rfl .here (by simp; omega)) (fun _ H => kC) ?_; clear H; intro w65 H; rw [fillV hTl (hTi hlt)] at H)
     refine Ad (Jr (Jm (J (Xg rfl rfl (Xc (by omega))) (Ja (Jn ?_)))))
     exact ⟨kS, i + 1, by omega, by omega, rfl, H⟩
    ·refine Js (Js (Jr (Jm (J (Xp rfl rfl (by omega)) (Jn (Jc rfl (Xr ?_)))))))
     refine (if_pos rfl).mpr ?_
     refine Js ?_
     (obtain rfl : i = 4 := (by omega); rw [List.take_of_length_le (l := T) (i := 4) (by omega), show 4 - 4 = 0 from rfl, List.replicate_zero, List.append_nil, hT] at H; refine Xi (KH w [(b4, blk [I ff.a.toInt, I ff.b.toInt, I ff.c.toInt, I ff.d.toInt] 99), (b2, blk (piC Xn) 58)]) (fun _ => false) (by kernel_rfl) H ?_; clear H; intro w83 H)
     (refine Am 0 rfl H.kK (Az 1 rfl rfl H.kK (fun _ hC => Vz (u := xs[0]) (i := 0) underlying9 rfl rfl (by omega) (List.getElem?_eq_getElem (by omega))) (Az 2 rfl rfl H.kK (fun _ hC => Xe underlying5 underlying3 rfl Yf) (Am 3 rfl H.kK (Az 4 rfl rfl H.kK (fun _ hC => Vz (u := xs[1]) (i := 1) underlying9 rfl rfl (by omega) (List.getElem?_eq_getElem (by omega))) (Az 5 rfl rfl H.kK (fun _ hC => Xe underlying5 underlying3 rfl Yf) (Am 6 rfl H.kK (Az 7 rfl rfl H.kK (fun _ hC => Vz (u := xs[2]) (i := 2) underlying9 rfl rfl (by omega) (List.getElem?_eq_getElem (by omega))) (Az 8 rfl rfl H.kK (fun _ hC => Xe underlying5 underlying3 rfl Yf) (Am 9 rfl H.kK (Az 10 rfl rfl H.kK (fun _ hC => Vz (u := xs[3]) (i := 3) underlying9 rfl rfl (by omega) (List.getElem?_eq_getElem (by omega))) (Az 11 rfl rfl H.kK (fun _ hC => Xe underlying5 underlying3 rfl Yf) (Az 12 rfl rfl H.kK (fun _ hC => Yq (off' := 0) underlying99 sizeOf3 rfl rfl (by omega) (by omega) rfl) (Az 13 rfl rfl H.kK (fun _ hC => Qe (v := I ff.a.toInt) isAgg3 rfl (hC.get .here) rfl) (Az 14 rfl rfl H.kK (fun _ hC => Yq (off' := 1) underlying99 sizeOf3 rfl rfl (by omega) (by omega) rfl) (Az 15 rfl rfl H.kK (fun _ hC => Qe (v := I ff.b.toInt) isAgg3 rfl (hC.get .here) rfl) (Az 16 rfl rfl H.kK (fun _ hC => Yq (off' := 2) underlying99 sizeOf3 rfl rfl (by omega) (by omega) rfl) (Az 17 rfl rfl H.kK (fun _ hC => Qe (v := I ff.c.toInt) isAgg3 rfl (hC.get .here) rfl) (Az 18 rfl rfl H.kK (fun _ hC => Yq (off' := 3) underlying99 sizeOf3 rfl rfl (by omega) (by omega) rfl) (Az 19 rfl rfl H.kK (fun _ hC => Qe (v := I ff.d.toInt) isAgg3 rfl (hC.get .here) rfl) (Az 20 rfl rfl H.kK (fun _ hC => Qm (places := [(0, 1), (1, 1), (2, 1), (3, 1), (4, 1), (5, 1), (6, 1), (7, 1), (8, 8)]) (vs := [I (xs[0]'(by omega)).toNat, I (xs[1]'(by omega)).toNat, I (xs[2]'(by omega)).toNat, I (xs[3]'(by omega)).toNat, I ff.a.toInt, I ff.b.toInt, I ff.c.toInt, I ff.d.toInt] ++ List.replicate 8 (I 0)) underlying58 typeInfo58 rfl rfl (by kernel_rfl) rfl rfl rfl) (Ao 21 (Xd rfl (.inl rfl) (Qt H) (fun _ _ _ H => kC) ?_)))))))))))))))))))))); clear H; intro b6 w106 hb6 H)
     (refine Ao 22 (Xb rfl (.inl rfl) (Qn (q := p1) H rfl (congrArg (fun l => Value.agg (List.toArray l)) hp1v.symm) .here) (fun _ H => kC) ?_); clear H; intro w108 H)
     refine Ad (Js (Js (Jr (Ja (Jn (Jb ?_))))))
     refine Yg [(7, 7), (57, 68)] (fun (m : Nat) E w' => m ≤ 8 ∧ E 7 = I m ∧ Hp w [(b6, blk ((piC ff).take (8 + m) ++ List.replicate (16 - (8 + m)) (I 0)) 58), (b4, blk [I ff.a.toInt, I ff.b.toInt, I ff.c.toInt, I ff.d.toInt] 99), (b2, blk (piC Xn) 58)] w') (fun m => 8 - m) 0 ?e2 ?r2
     ·exact ⟨by omega, rfl, by rw [← hp18]; exact H⟩
     ·(clear H; rintro m E w1 ⟨hmm, h9, H⟩; refine Ur h9 ?_; by_cases hlm : m < 8)
      ·refine Js (Js (Jr (Jm (J (Za rfl rfl (by omega)) (Jn (Jd rfl (Jk (Js (Jb (Jr (Jm (Jm (Jm (J (Xg (r := ((12 + m : Nat) : Int)) rfl rfl (by rw [Xc (by omega)]; omega)) (J (Vz (u := xs[12 + m]) (i := ((12 + m : Nat) : Int)) underlying9 rfl rfl (by omega) (by rw [Int.toNat_natCast]; exact List.getElem?_eq_getElem (by omega))) (J (Xe underlying5 underlying3 rfl Yf) (Jf 8 underlying58 rfl sizeOf56 rfl rfl (J (Yq (off' := 8 + m) underlying56 sizeOf3 rfl rfl (by omega) (by omega) (by omega)) ?_))))))))))))))))))
       (have _g := hlm; refine Qd rfl (Qz (v := I xs[12 + m].toNat) H sizeOf3 rfl rfl rfl .here (by simp [hVl]; omega)) ?_; clear H; intro w137 H; rw [fillV hVl (by rw [hff]; exact pickW h8 hlm)] at H)
       refine Jn (Jr (Jm (J (Xg rfl rfl (Xc (by omega))) (Ja (Jn ?_)))))
       exact ⟨kS, m + 1, by omega, by omega, rfl, H⟩
      ·refine Js (Js (Jr (Jm (J (Xp rfl rfl (by omega)) (Jn (Jc rfl (Xr ?_)))))))
       refine (if_pos rfl).mpr ?_
       refine Js (Js ?_)
       ((obtain rfl : m = 8 := (by omega); rw [List.take_of_length_le (l := piC ff) (i := 8 + 8) (by omega), show 16 - (8 + 8) = 0 from rfl, List.replicate_zero, List.append_nil] at H; rcases h3 with ⟨hok, hby, hdec⟩ | ⟨hok, hby, hdec⟩ | ⟨hok, hdec⟩)) <;> refine Qk ?_
       ·(refine J (Xa rfl (H.get .here)) (Jz rfl call38 rfl (refOk_to (decide_eq_true hok) _) H ?_); intro w158 H)
        (refine J (Xj rfl) (Jm (Jt rfl rfl (J (Xa rfl (H.get .here)) (Jt rfl rfl (Jz rfl call39 rfl (refBytes_ret ff hok _) H ?_))))); intro w164 H)
        (refine Jt rfl rfl (Jm (Jt rfl rfl (J (R_ne_S_f rfl rfl hby) (Jp rfl (Jn (Jc rfl (Jk (Js (Jr (J (Xa rfl (H.get .here)) (Qd rfl (Qn (q := ff) H rfl rfl (.there (.there .here))) ?_))))))))))); clear H; intro w176 H)
        refine Ja (Jn (Je ?_))
        exact ⟨_, ⟨_, _, rfl, ldP (p := ff) (H.get (.there (.there .here))), rfl⟩, (by simp only [hdec]; rfl), H.none kYs⟩
       ·(refine J (Xa rfl (H.get .here)) (Jz rfl call38 rfl (refOk_to (decide_eq_true hok) _) H ?_); intro w182 H)
        (refine J (Xj rfl) (Jm (Jt rfl rfl (J (Xa rfl (H.get .here)) (Jt rfl rfl (Jz rfl call39 rfl (refBytes_ret ff hok _) H ?_))))); intro w188 H)
        refine Jt rfl rfl (Jm (Jt rfl rfl (J (R_ne_S_t rfl rfl hby) (Jp rfl (Jn (Jd rfl (Js (Jr (Ym rfl Uw ?_)))))))))
        (refine Qd rfl (Qn (q := Xn) H rfl rfl (.there (.there .here))) ?_; clear H; intro w199 H)
        refine Ja (Jn (Je ?_))
        exact ⟨_, ⟨_, _, rfl, ldP (p := Xn) (H.get (.there (.there .here))), rfl⟩, (by simp only [hdec]; rfl), H.none kYs⟩
       ·(refine J (Xa rfl (H.get .here)) (Jz rfl call38 rfl (refOk_to (decide_eq_false hok) _) H ?_); intro w205 H)
        refine J (Xx rfl) (Jm (Jg rfl rfl (Jg rfl rfl (Jg rfl rfl (Jg rfl rfl (Jq rfl (Jn (Jd rfl (Js (Jr (Ym rfl Uw ?_)))))))))))
        (refine Qd rfl (Qn (q := Xn) H rfl rfl (.there (.there .here))) ?_; clear H; intro w218 H)
        refine Ja (Jn (Je ?_))
        exact ⟨_, ⟨_, _, rfl, ldP (p := Xn) (H.get (.there (.there .here))), rfl⟩, (by simp only [hdec]; rfl), H.none kYs⟩
 ·have hdec : Xy xs = (Xn, 2) := Ue (fun h => h8 h.1) (fun h => h8 h.1)
  rw [hdec]
  (refine Js (Jr (Qb rfl (Qt H) ?_)); clear H; intro b2 w3 hb2 H)
  refine Ja (Jn (Js (Js (Jr (Jm (J (Na underlying9 rfl) (J (Dq rfl rfl (by omega)) (Jn (Jd rfl (Js (Jr (Ym rfl Uw ?_))))))))))))
  (refine Qd rfl (Qn (q := Xn) H rfl rfl .here) ?_; clear H; intro w17 H)
  refine Ja (Jn (Je ?_))
  exact ⟨_, ⟨_, _, rfl, ldP (p := Xn) (H.get .here), rfl⟩, rfl, H.none kYs⟩
theorem refOf_to {xs : List UInt8} {f : Pi} {d : Int} {w : World} (he : Xy xs = (f, d)) (hb : xs.length ≤ 100000) :
  Ret Tryz.prog 16 #[S xs] w fun v w' => v = .tuple #[vP f, I d] ∧ Hp w [] w' := by
 have := refOf_ret (w := w) hb
 rw [he] at this
 exact this
end Go.Proofs.YtlpmfldijgdcoaaGreatDoor.Slot
namespace Go.Proofs.YtlpmfldijgdcoaaGreatDoor.Wp
open Go Go.Proofs Fx Kn Tryz
theorem Stp.fb {w : World} {o : Stp} (h : o.ok w) : ∃ a c, o.bv = .slice a o.b.length c := by have := h.b.form; rw [List.length_map] at this; exact this
theorem Stp.fd {w : World} {o : Stp} (h : o.ok w) : ∃ a c, o.dv = .slice a o.d.length c := by have := h.d.form; rw [List.length_map] at this; exact this
theorem Stp.fc {w : World} {o : Stp} (h : o.ok w) : ∃ a c, o.cv = .slice a o.cb.length c := by have := h.c.form; rw [List.length_map] at this; exact this
theorem stpC_one {w : World} {o : Stp} (h : o.ok w) : ∀ u ∈ Zy o, u.oneCell' = true := by
 obtain ⟨a1, k1, e1⟩ := Stp.fb h
 obtain ⟨a2, k2, e2⟩ := Stp.fd h
 obtain ⟨a3, k3, e3⟩ := Stp.fc h
 intro u hu
 simp only [Zy, e1, e2, e3, List.mem_cons, List.not_mem_nil, or_false] at hu
 rcases hu with rfl | rfl | rfl | rfl | rfl | rfl | rfl | rfl | rfl | rfl | rfl | rfl | rfl | rfl | rfl | rfl <;> rfl
theorem Stp.ok.Ql {w w' : World} {o : Stp} {L : List (Nat × Obj)} (h : o.ok w) (H : Hp w L w') (hn : ∀ p ∈ L, w.heap.size ≤ p.1) : o.ok w' :=
 ⟨h.b.Yd H hn, h.d.Yd H hn, h.c.Yd H hn, h.w3⟩
def stz : List Value := [I 0, I 0, I 0, I 0, nilS, I 0, I 0, I 0, nilS, I 0, I 0, I 0, I 0, I 0, I 0, nilS]
def ShortP (o : Stp) : Prop := o.b.length ≤ 60 ∧ o.d.length ≤ 60 ∧ o.cb.length ≤ 200
instance (o : Stp) : Decidable (ShortP o) := by unfold ShortP; infer_instance
theorem short_ret {w : World} {o : Stp} (h : o.ok w) : Ret Tryz.prog 19 #[.agg (Zy o).toArray] w fun v w' => v = .bool (decide (ShortP o)) ∧ Hp w [] w' := by
 refine Qi (args := [_]) func19 rfl ntmps19 results19 (by simp) ?_
 have H := Hp.refl w
 obtain ⟨a1, k1, e1⟩ := Stp.fb h
 obtain ⟨a2, k2, e2⟩ := Stp.fd h
 obtain ⟨a3, k3, e3⟩ := Stp.fc h
 (refine Js (Jr (Qb rfl (Xl (vs := Zy o) H rfl rfl) ?_)); clear H; intro c1 w3 hc1 H)
 refine Ja (Jn (Js (Jr (Jf 4 underlying46 rfl sizeOf36 rfl rfl (J (Qe (v := .slice a1 o.b.length k1) isAgg36 rfl (H.get .here) (by rw [← e1]; rfl)) (J (Qh underlying36 rfl) (J (R_le rfl rfl) (Jm ?_))))))))
 apply Xs 6 7 13 [(8, 13)] H
 case hc => rfl
 case h1 =>
  intro h13
  refine Jt rfl rfl (Jf 5 underlying46 rfl sizeOf38 rfl rfl (Jt rfl rfl (Jf 8 underlying38 rfl sizeOf36 rfl rfl (Jt rfl rfl (J (Qe (v := .slice a2 o.d.length k2) isAgg36 rfl (H.get .here) (by rw [← e2]; rfl)) (Jt rfl rfl (J (Qh underlying36 rfl) (Jt rfl rfl (J (R_le rfl rfl) (Jq rfl (Jn ?_)))))))))))
  exact ⟨kS, rfl, H⟩
 case h0 =>
  intro h13
  refine Jg rfl rfl (Jg rfl rfl (Jg rfl rfl (Jg rfl rfl (Jg rfl rfl (Jp rfl (Jn ?_))))))
  exact ⟨kS, rfl, H⟩
 case h2 =>
  (clear H; intro E13 w13 H)
  refine Jm ?_
  apply Xs 6 14 20 [(15, 20)] H
  case hc => rfl
  case h1 =>
   intro h36
   refine Jt rfl rfl (Jf 9 underlying46 rfl sizeOf44 rfl rfl (Jt rfl rfl (Jf 15 underlying44 rfl sizeOf36 rfl rfl (Jt rfl rfl (J (Qe (v := .slice a3 o.cb.length k3) isAgg36 rfl (H.get .here) (by rw [← e3]; rfl)) (Jt rfl rfl (J (Qh underlying36 rfl) (Jt rfl rfl (J (R_le rfl rfl) (Jq rfl (Jn ?_)))))))))))
   exact ⟨kS, rfl, H⟩
  case h0 =>
   intro h36
   refine Jg rfl rfl (Jg rfl rfl (Jg rfl rfl (Jg rfl rfl (Jg rfl rfl (Jp rfl (Jn ?_))))))
   exact ⟨kS, rfl, H⟩
  case h2 =>
   (clear H; intro E36 w36 H)
   refine Ja (Jn (Je ?_))
   exact ⟨_, rfl, congrArg Value.bool (decide_eq_decide.2 (by unfold ShortP; omega)), H.none kYs⟩
/-- a step that is tame -/
def Bb (nb : Nat) (o : Stp) : Stp := if o.n % 32 = 7 then o else { o with s := o.s % 256 % nb, p := o.p % 4 }
theorem tame_ok {w : World} {o : Stp} (h : o.ok w) (nb : Nat) : (Bb nb o).ok w := by
 unfold Bb
 split
 ·exact h
 ·exact ⟨h.b, h.d, h.c, h.w3⟩
theorem tame_ret {w : World} {o : Stp} (h : o.ok w) {pb ga : Option Addr} {nb pc gn gc : Nat} {le : Int} (h0 : 1 ≤ nb) (h1 : nb ≤ 1000) :
  Ret Tryz.prog 20 #[.agg #[.slice pb nb pc, .slice ga gn gc, I le], .agg (Zy o).toArray] w fun v w' => v = .agg (Zy (Bb nb o)).toArray ∧ Hp w [] w' := by
 refine Qy (args := [_, _]) func20 rfl ntmps20 results20 (by simp) ?_
 have H := Hp.refl w
 have hone := stpC_one h
 have hone2 := stpC_one (tame_ok h nb)
 have e7 : o.n % 32 = 7 → Bb nb o = o := fun h => if_pos h
 have e8 : ¬ o.n % 32 = 7 → Bb nb o = { o with s := o.s % 256 % nb, p := o.p % 4 } := fun h => if_neg h
 (refine Js (Jr (Qb rfl (Xl (vs := [.slice pb nb pc, .slice ga gn gc, I le]) H rfl rfl) ?_)); clear H; intro c2 w3 hc2 H)
 (refine Qb rfl (Xl (vs := Zy o) H rfl rfl) ?_; clear H; intro c3 w4 hc3 H)
 (refine Qb rfl (Qp (vs := stz) H zeroValue46 rfl) ?_; clear H; intro c4 w5 hc4 H)
 refine Jn (Js (Js (Jr (Jf 3 underlying46 rfl sizeOf3 rfl rfl (J (Qe (v := I o.n) isAgg3 rfl (H.get (.there .here)) rfl) (J (Zb (r := o.n % 32) rfl rfl (by simp) (Yp 5 32 (by decide) rfl (by decide))) (J (Yk rfl rfl) (Jn (Xo rfl (fun h15 => ?_) (fun h15 => ?_))))))))))
 ·refine Js ?_
  ((have m2 : True := trivial)) <;> refine Qk ?_
  refine J (Qo (vs := Zy o) isAgg46 sizeOf46 rfl (H.get (.there .here)) rfl (by simp [Zy])) ?_
  (have _g := m2; refine Qd rfl (Qg (vs := Zy o) H sizeOf46 rfl rfl hone .here (by simp [Zy, stz])) ?_; clear H; intro w19 H)
  refine Jn (Je ?_)
  (have _g := m2; rw [e7 (by omega)]; exact ⟨_, ⟨_, rfl, ldA isAgg46 sizeOf46 (H.get .here) rfl (by simp [Zy])⟩, rfl, H.none kYs⟩)
 ·(refine Jk (Js (Jr (Jf 1 underlying46 rfl sizeOf3 rfl rfl (J (Qe (v := I o.s) isAgg3 rfl (H.get (.there .here)) rfl) (J (Zb (r := o.s % 256) rfl rfl (by simp) (Yp 8 256 (by decide) rfl (by decide))) (Jf 0 underlying27 rfl sizeOf24 rfl rfl (J (Qe (v := .slice pb nb pc) isAgg24 rfl (H.get (.there (.there .here))) rfl) (J (Qh underlying24 rfl) (J (R_rem (r := o.s % 256 % nb) rfl rfl (by omega) (Int.tmod_eq_emod_of_nonneg (by omega))) (Jf 1 underlying46 rfl sizeOf3 rfl rfl (Qd rfl (Qz (v := I (o.s % 256 % nb)) H sizeOf3 rfl rfl rfl (.there .here) (by simp [Zy])) ?_))))))))))); clear H; intro w34 H; have H : Hp w [(c4, blk (stz) 46), (c3, blk (Zy { o with s := o.s % 256 % nb }) 46), (c2, blk [.slice pb nb pc, .slice ga gn gc, I le] 27)] w34 := H; have m17 : True := trivial)
  refine Jn (Js ?_)
  ((have m4 : True := trivial)) <;> refine Qk ?_
  refine Jf 2 underlying46 rfl sizeOf3 rfl rfl (J (Qe (v := I o.p) isAgg3 rfl (H.get (.there .here)) rfl) (J (Zb (r := o.p % 4) rfl rfl (by simp) (Yp 2 4 (by decide) rfl (by decide))) (Jf 2 underlying46 rfl sizeOf3 rfl rfl ?_)))
  (have _g := m4; refine Qd rfl (Qz (v := I (o.p % 4)) H sizeOf3 rfl rfl rfl (.there .here) (by simp [Zy])) ?_; clear H; intro w42 H; have H : Hp w [(c4, blk (stz) 46), (c3, blk (Zy { o with s := o.s % 256 % nb, p := o.p % 4 }) 46), (c2, blk [.slice pb nb pc, .slice ga gn gc, I le] 27)] w42 := H; rw [← e8 (by omega)] at H)
  refine Jn (Js ?_)
  ((have m5 : True := trivial)) <;> refine Qk ?_
  refine J (Qo (vs := Zy (Bb nb o)) isAgg46 sizeOf46 rfl (H.get (.there .here)) rfl (by simp [Zy])) ?_
  (have _g := m5; refine Qd rfl (Qg (vs := Zy (Bb nb o)) H sizeOf46 rfl rfl hone2 .here (by simp [Zy, stz])) ?_; clear H; intro w47 H)
  refine Jn (Je ?_)
  exact ⟨_, ⟨_, rfl, ldA isAgg46 sizeOf46 (H.get .here) rfl (by simp [Zy])⟩, rfl, H.none kYs⟩
end Go.Proofs.YtlpmfldijgdcoaaGreatDoor.Wp
namespace Go.Proofs.YtlpmfldijgdcoaaGreatDoor.Wp
open Go Go.Proofs Fx Kn Tryz
/-- steps that are to be done: what befalls is told, or of one of the sessions -/
structure Todo (w : World) (nb most : Nat) (ys : List Stp) : Prop where
 ok : ∀ y ∈ ys, y.ok w ∧ ShortP y ∧ (y.n % 32 = 7 ∨ (0 ≤ y.s ∧ y.s < nb ∧ 0 ≤ y.p ∧ y.p < 4))
 len : ys.length ≤ most
theorem tame_todo {w : World} {nb : Nat} (h0 : 1 ≤ nb) {o : Stp} (h : o.ok w) (hs : ShortP o) : (Bb nb o).ok w ∧ ShortP (Bb nb o) ∧ ((Bb nb o).n % 32 = 7 ∨ (0 ≤ (Bb nb o).s ∧ (Bb nb o).s < nb ∧ 0 ≤ (Bb nb o).p ∧ (Bb nb o).p < 4)) := by
 refine ⟨tame_ok h nb, ?_, ?_⟩
 ·unfold Bb; split; exact hs; exact hs
 ·unfold Bb
  split
  ·rename_i h7; exact .inl h7
  ·refine .inr ⟨Int.emod_nonneg _ (by omega), Int.emod_lt_of_pos _ (by omega), ?_, ?_⟩ <;> simp only <;> omega
theorem steps_ret {w : World} {xs : List Stp} {l : Value} (hl : RdR Zy w l xs) (hb : xs.length ≤ 9223372036854775807) (hg : ∀ x ∈ xs, x.ok w) {pb ga : Option Addr} {nb pc gn gc : Nat} {le : Int} (h0 : 1 ≤ nb) (h1 : nb ≤ 1000) {most : Nat} (hmost : most ≤ 1000) :
  Ret Tryz.prog 9 #[.agg #[.slice pb nb pc, .slice ga gn gc, I le], l, I most] w fun v w' => ∃ sv ok ys M, v = .tuple #[sv, .bool ok] ∧ Todo w nb most ys ∧ Yo w.heap.size 46 16 sv ys.length (rows Zy ys) M ∧ Hp w M w' := by
 refine Qi (args := [_, _, _]) func9 rfl ntmps9 results9 (by simp) ?_
 have H := Hp.refl w
 obtain ⟨ao, ca, rfl⟩ := hl.form
 have hcell : ∀ i, i < xs.length → ∃ (o : Stp) (b off : Nat), xs[i]? = some o ∧ o.ok w ∧ ao = some ⟨b, off, none⟩ ∧ ∀ j u, (Zy o)[j]? = some u → w.cell? ⟨b, off + i * 16 + j, none⟩ = some u := by
  intro i hi
  obtain ⟨b, off, e, hc⟩ := hl.cell stpC_len (List.getElem?_eq_getElem hi)
  exact ⟨_, b, off, List.getElem?_eq_getElem hi, hg _ (List.getElem_mem hi), e, hc⟩
 (refine Js (Jr (Qb rfl (Xl (vs := [.slice pb nb pc, .slice ga gn gc, I le]) H rfl rfl) ?_)); clear H; intro c3 w3 hc3 H)
 refine Ja (Ja (Jn (Js (Jr (Ja (Jn (Js (Js (Jr (Ja (Jn (Jb ?_))))))))))))
 refine Yg [(6, 35)] (fun (i : Nat) E w' => i ≤ xs.length ∧ E 9 = I i ∧ ∃ (v : Value) (ys : List Stp) (M : List (Nat × Obj)), E 8 = v ∧ ys.length = i ∧ Todo w nb most ys ∧ Yo w.heap.size 46 16 v i (rows Zy ys) M ∧ Hp w (M ++ [(c3, blk [.slice pb nb pc, .slice ga gn gc, I le] 27)]) w') (fun i => xs.length - i) 0 ?e0 ?r0
 ·exact ⟨by omega, rfl, nilS, [], [], rfl, rfl, ⟨(fun _ h => nomatch h), Nat.zero_le _⟩, Yo.nil _ _ _, H⟩
 ·(clear H; rintro i E w1 ⟨hi, h9, v, ys, M, h8, hyl, hT, hO, H⟩; refine W_kn2 h9 h8 ?_; have hM := hO.keys)
  refine Js (Js (Jr (Jm (Jm (J (Qh underlying23 rfl) (J (Vb rfl rfl) (Jm ?_)))))))
  apply Xs 4 14 18 [(15, 18)] H
  case hc => rfl
  case h1 =>
   intro h27
   refine Jt rfl rfl (Jm (Jt rfl rfl (Jm (Jt rfl rfl (J (Vb rfl rfl) (Jq rfl (Jn ?_)))))))
   exact ⟨kS, rfl, H⟩
  case h0 =>
   intro h27
   refine Jg rfl rfl (Jg rfl rfl (Jg rfl rfl (Jp rfl (Jn ?_))))
   exact ⟨kS, rfl, H⟩
  case h2 =>
   (clear H; intro E27 w27 H)
   refine Jn (Xo rfl (fun h44 => ?_) (fun h44 => ?_))
   ·refine Jk (Js (Jb (Js (Js ?_))))
    ((obtain ⟨o, b, off, hxo, hok, rfl, hc⟩ := hcell i (by omega); have hok1 := hok.Ql H (Yv hM (Qu hc3 Xu)))) <;> refine Qk ?_
    (refine Jm (Jm (J (Qj (off' := off + i * 16) underlying23 sizeOf46 rfl rfl (by omega) (by omega) (by omega)) (J (Vm (vs := Zy o) isAgg46 sizeOf46 rfl (fun j u hj => H.Zx (hc j u hj) (Yv hM (Qu hc3 Xu))) (by simp [Zy])) (Jz rfl call19 rfl (short_ret hok1) H ?_)))); intro w55 H)
    refine J (Zd rfl) (Jn (Xo rfl (fun h58 => ?_) (fun h58 => ?_)))
    ·refine Js (Jr (Ja (Ja (Jn (Je ?_)))))
     exact ⟨_, rfl, nilS, false, [], [], rfl, ⟨(fun _ h => nomatch h), Nat.zero_le _⟩, Yo.nil _ _ _, H.none (Yv hM (Qu hc3 Xu))⟩
    ·refine Jk ?_
     (refine Xi (fun w2 => w2.heap[c3]? = some (blk [.slice pb nb pc, .slice ga gn gc, I le] 27) ∧ Hp w [] w2) (fun _ => false) (by kernel_rfl) H ?_; clear H; intro w67 H)
     (refine Am 0 rfl ⟨H.get (.app _ .here), H.none (Yv hM (Qu hc3 Xu))⟩ (Az 1 rfl rfl ⟨H.get (.app _ .here), H.none (Yv hM (Qu hc3 Xu))⟩ (fun _ hC => Qo (vs := [.slice pb nb pc, .slice ga gn gc, I le]) isAgg27 sizeOf27 rfl hC.1 rfl (by simp)) (Am 2 rfl ⟨H.get (.app _ .here), H.none (Yv hM (Qu hc3 Xu))⟩ (Am 3 rfl ⟨H.get (.app _ .here), H.none (Yv hM (Qu hc3 Xu))⟩ (Az 4 rfl rfl ⟨H.get (.app _ .here), H.none (Yv hM (Qu hc3 Xu))⟩ (fun _ hC => Qj (off' := off + i * 16) underlying23 sizeOf46 rfl rfl (by omega) (by omega) (by omega)) (Az 5 rfl rfl ⟨H.get (.app _ .here), H.none (Yv hM (Qu hc3 Xu))⟩ (fun _ hC => Vm (vs := Zy o) isAgg46 sizeOf46 rfl (fun j u hj => hC.2.Zx (hc j u hj) Xu) (by simp [Zy])) (Ao 6 (Qv rfl (.inl rfl) (Qw rfl call20 rfl) (tame_ret (hok.Ql H (Yv hM (Qu hc3 Xu))) h0 h1) (fun _ _ hR _ => ⟨(H.seq0 hR.2).get (.app _ .here), (H.seq0 hR.2).none (Yv hM (Qu hc3 Xu))⟩) ?_))))))); rintro _ w75 ⟨rfl, H1⟩; replace H := H.seq0 H1; clear H1; have hone := stpC_one (tame_ok hok nb))
     (refine Ao 7 (Xd rfl (.inl rfl) (Zt (vss := [Zy (Bb nb o)]) H underlying23 sizeOf46 zeroValue46 rfl rfl (by decide) rfl rfl (by simp [Zy])) (fun _ _ hb9 H _ => ⟨H.get (.there (.app _ .here)), H.none (Qu hb9 (Yv hM (Qu hc3 Xu)))⟩) ?_); clear H; intro b34 w77 hb34 H)
     (refine Ao 8 (Bn rfl (.inl rfl) (Yx (news := Zy (Bb nb o)) (m := 1) H (.there .here) hO underlying23 typeInfo46 rfl rfl rfl rfl rfl rfl (Mn (m := 1) (sp := []) underlying23 (by rw [List.append_nil]; exact H.get .here) rfl hone) (by omega) (by simp only [Tryz.t46]; omega)) (fun _ _ _ hO9 H _ => ⟨H.get (.there (.app _ .here)), H.none (Qu hb34 (Yv hO9.keys (Qu hc3 Xu)))⟩) ?_); clear H hO; intro v5 M5 w79 hO H; replace H := H.pop hb34)
     refine Aa 9 rfl ⟨H.get (.app _ .here), H.none (Yv hO.keys (Qu hc3 Xu))⟩ (Ad (Jr (Jm (J (Xg rfl rfl (Xc (by omega))) (Ja (Jn ?_))))))
     exact ⟨kS, i + 1, by omega, by omega, rfl, v5, ys ++ [Bb nb o], M5, rfl, (by simp [hyl]), ⟨(by intro y hy; rcases List.mem_append.1 hy with hy | hy; exact hT.ok y hy; rw [List.mem_singleton.1 hy]; exact tame_todo h0 hok (by first | assumption | exact Decidable.not_not.1 (by assumption))), (by simp; omega)⟩, (by rw [Ba]; simpa [rows] using hO), H⟩
   ·refine Xr ?_
    refine (if_pos rfl).mpr ?_
    refine Js (Jr (Jm (Ja (Ja (Jn (Je ?_))))))
    (subst hyl; exact ⟨_, rfl, v, true, ys, M, rfl, hT, hO, Hp.cut (L := M) (M := [_]) H (Qu hc3 Xu)⟩)
end Go.Proofs.YtlpmfldijgdcoaaGreatDoor.Wp
namespace Go.Proofs.YtlpmfldijgdcoaaGreatDoor.Wo
open Go Go.Proofs Fx Kn Ke Cm Ho Tryz
def wT : List Nat := 81 :: 83 :: 84 :: 22 :: 115 :: 5 :: cT
theorem Wd.keep {w w' : World} {C : Cs} {wd h c sp : Nat} {L : List (Nat × Obj)} (hd : Wd w C wd h c sp) (H : Hp w L w') (hn : Out wT w L) : Wd w' C wd h c sp := by
 obtain ⟨bb, bbc, ba, bc, ha, hc, la, lc, l, h1, h2, h3, h4⟩ := hd.wb
 refine ⟨⟨bb, bbc, ba, bc, ha, hc, la, lc, l, H.Xw h1 (by simp [wT, elT]) hn, h2.keep H (hn.sub (by simp [wT])), h3.keep H (hn.sub (by simp [wT])), h4⟩, hd.cm.keep0 H (hn.sub ?_), hd.ks.keep H (hn.sub ?_)⟩
 ·intro x hx; exact .tail _ (.tail _ (.tail _ (.tail _ (.tail _ hx))))
 ·simp [wT, sT, cT, kT]
def stC (k op : Int) : List Value := [I k, I 0, I 0, I 0, nilS, I op, I 0, I 0, nilS, I 0, I 0, I 0, I 0, I 0, I 0, nilS]
section
variable {w : World} {C : Cs} {wd h c sp : Nat}
theorem Host_ret (hd : Wd w C wd h c sp) : Ret Tryz.prog 30 #[ptr wd 0, I 0, I 0] w fun v w' => v = ptr h 0 ∧ Hp w [] w' := by
 refine Qi (args := [_, _, _]) func30 rfl ntmps30 results30 (by simp) ?_
 have H := Hp.refl w
 obtain ⟨bb, bbc, ba, bc, ha, hc, la, lc, l, h1, h2, h3, h4⟩ := hd.wb
 obtain ⟨b1, o1, rfl, hc1⟩ := h2.rd.cell (i := 0) (u := .slice la 8 lc) rfl
 obtain ⟨b2, o2, rfl, hc2⟩ := h3.rd.cell h4
 refine Js (Jr (Ja (Jn (Js (Js (Jr (Jm (J (Xp rfl rfl (by omega)) (Jm (Jt rfl rfl (Jm (Jt rfl rfl (Jm (Jt rfl rfl (Ji rfl (Jt rfl rfl (Jf 4 underlying81 rfl sizeOf79 rfl rfl (Jt rfl rfl (Jl isAgg79 rfl (H.block h1 (by simp)) rfl (Jt rfl rfl (J (Qh underlying79 rfl) (Jt rfl rfl (J (Zn rfl rfl (by omega)) (Jp rfl (Jm (Jt rfl rfl (Jm (Jt rfl rfl (J (Xp rfl rfl (by omega)) (Jp rfl (Jm (Jt rfl rfl (Jm (Jt rfl rfl (J (Zn rfl rfl (by omega)) (Jp rfl (Jn (Jc rfl (Jk (Js (Jr (Jm (Ji rfl (Jf 4 underlying81 rfl sizeOf79 rfl rfl (Jl isAgg79 rfl (H.block h1 (by simp)) rfl (Jm (J (Qj (off' := o1 + 0) underlying79 sizeOf83 rfl rfl (by decide) (by decide) (by simp)) (J (Qx isAgg83 rfl (H.Zx hc1 kYs)) (Jm (J (Qj (off' := o2 + 0) underlying83 sizeOf84 rfl rfl (by decide) (by decide) (by simp)) (J (Qx isAgg84 rfl (H.Zx hc2 kYs)) (Ja (Jn (Je ?_))))))))))))))))))))))))))))))))))))))))))))))))))))))
 exact ⟨_, rfl, rfl, H⟩
theorem do_call (hd : Wd w C wd h c sp) (hh : w.heap[h]? = some (blk [ptr C.κ.k 0, I 0, I 0, I 0, ptr c 0, I 0, I 0, I 0, I 0, I 0, nilS] 139)) (hs : Snd C) (hp : C.pD 0 = (p0, 1)) :
  Ret Tryz.prog 15 #[ptr wd 0, .agg (stC 1 17).toArray] w fun v w' => ∃ ua uc M, v = .tuple #[.agg z0.toArray, .bool false] ∧ (∀ p ∈ M, w.heap.size ≤ p.1) ∧
   Hp w ((h, blk [ptr C.κ.k 0, I 0, I 0, I 0, ptr c 0, I 1, I 0, I 17, I 0, I 0, .slice ua 0 uc] 139) :: M) w' := by
 refine Qy (args := [_, _]) func15 rfl ntmps15 results15 (by simp) ?_
 have H := Hp.refl w
 have hlt := Qr hh
 (refine Js (Jr (Qb rfl (Xl (vs := stC 1 17) H rfl rfl) ?_)); clear H; intro c3 w3 hc3 H)
 (refine Qb rfl (Qp (vs := z0) H zeroValue40 rfl) ?_; clear H; intro c4 w4 hc4 H)
 (refine Ja (Jn (Js (Jr (Jm (Jf 1 underlying46 rfl sizeOf3 rfl rfl (J (Qe (v := I 0) isAgg3 rfl (H.get (.there .here)) rfl) (Jf 2 underlying46 rfl sizeOf3 rfl rfl (J (Qe (v := I 0) isAgg3 rfl (H.get (.there .here)) rfl) (Jz rfl call30 rfl (Host_ret (hd.keep H (Out.ofN kYs))) H ?_))))))))); intro w14 H)
 (refine Ja (Jn (Js (Js (Jr (Jf 0 underlying46 rfl sizeOf3 rfl rfl (J (Qe (v := I 1) isAgg3 rfl (H.get (.there .here)) rfl) (Jn (Jb (Js (Jr (J (Xf rfl rfl (by omega)) (Ja (Jn (Jc rfl (Js (Jr (J (Xf rfl rfl (by omega)) (Ja (Jn (Jc rfl (Js (Jr (J (Yr rfl rfl (by omega)) (Ja (Jn (Jd rfl (Js (Jr (Jm (J (Br underlying84 rfl rfl) (Jn (Jd rfl (Jr (Jm (Jf 5 underlying46 rfl sizeOf38 rfl rfl (J (Qo (vs := [I 17, I 0, I 0, nilS]) isAgg38 sizeOf38 rfl (H.get (.there .here)) rfl (by simp [stC])) (Jy rfl call33 rfl (start_ret (C := C) (e := 0) (n := 0) (sl := 0) (ds := []) rfl (H.Qc hh kYs) (hd.keep H (Out.ofN kYs)).cm hs (by decide) hp RdS.nil (by decide)) ?_))))))))))))))))))))))))))))))))))))); rintro _ w52 ⟨u, M, rfl, hO, H1⟩; obtain ⟨ua, uc, rfl⟩ := hO.form; have hM : ∀ p ∈ M, w.heap.size ≤ p.1 := (fun p hp => Nat.le_trans H.size (hO.keys p hp)); have hok := hO.keys; have H9 := Uj H kYs H1 (by intro p hp; rcases List.mem_cons.1 hp with rfl | hp; exact .inl hlt; exact .inr (hok p hp)); clear H H1; have H : Hp w ((h, blk [ptr C.κ.k 0, I 0, I 0, I 0, ptr c 0, I 1, I 0, I 17, I 0, I 0, .slice ua 0 uc] 139) :: (M ++ [(c4, blk z0 40), (c3, blk (stC 1 17) 46)])) w52 := H9; clear H9)
 (refine Jn (Js (Jr (J (Qm (places := [(0, 1), (1, 1), (2, 4), (6, 1), (7, 1), (8, 1), (9, 1), (10, 1), (11, 1)]) (vs := z0) underlying40 typeInfo40 rfl rfl (by kernel_rfl) rfl rfl rfl) (Qd rfl (Qg (vs := z0) H sizeOf40 rfl rfl (Xq rfl rfl rfl) (.there (.app _ .here)) (by simp [z0, oC])) ?_)))); clear H; intro w57 H; replace H : Hp w ((h, blk [ptr C.κ.k 0, I 0, I 0, I 0, ptr c 0, I 1, I 0, I 17, I 0, I 0, .slice ua 0 uc] 139) :: (M ++ [(c4, blk z0 40), (c3, blk (stC 1 17) 46)])) w57 := H)
 refine Ja (Jn (Je ?_))
 exact ⟨_, ⟨_, _, rfl, ldA isAgg40 sizeOf40 (H.get (.there (.app _ .here))) rfl (by simp [z0, oC]), rfl⟩, ua, uc, M, rfl, hM, Hp.cut (L := (h, _) :: M) (M := [_, _]) H kYs⟩
variable {S : Sect.Sx} {qv : Value} {st : Int} {da : Option Addr} {dc : Nat}
theorem wpick_want {T st2 : Int} (hd : Wd w C wd h c sp) (hh : w.heap[h]? = some (blk [ptr C.κ.k 0, I 0, I 0, I 0, ptr c 0, I 1, I st, I 17, I 0, I 0, .slice da 0 dc] 139)) (hs : Snd C) (hp : C.pD 0 = (p0, 1))
  (hsp : w.heap[sp]? = some (blk (Sect.sxC S nilS) 170)) (hq : S.q = []) (hB : Sect.Bd S T) (hT : T ≤ 1000000) (hn : 0 ≤ C.κ.now ∧ C.κ.now ≤ T) (hst : (Sect.enter S (0 : Nat) C.κ.now).2.1 = st2) (hst0 : 0 < st2) :
  Ret Tryz.prog 31 #[ptr wd 0, .agg (stC 2 0).toArray] w fun v w' => ∃ qv M, v = .tuple #[.agg z0.toArray, .bool false] ∧ (∀ p ∈ M, w.heap.size ≤ p.1) ∧
   Hp w ((h, blk [ptr C.κ.k 0, I 0, I 0, I 0, ptr c 0, I 2, I st2, I 17, I 0, I 0, .slice da 0 dc] 139) :: (M ++ [(sp, blk (Sect.sxC (Sect.enter S (0 : Nat) C.κ.now).1 qv) 170)])) w' := by
 refine Qy (args := [_, _]) func31 rfl ntmps31 results31 (by simp) ?_
 have H := Hp.refl w
 have hlt := Qr hh
 have hlt2 := Qr hsp
 (refine Js (Jr (Qb rfl (Xl (vs := stC 2 0) H rfl rfl) ?_)); clear H; intro c3 w3 hc3 H)
 (refine Qb rfl (Qp (vs := z0) H zeroValue40 rfl) ?_; clear H; intro c4 w4 hc4 H)
 (refine Ja (Jn (Js (Jr (Jm (Jf 1 underlying46 rfl sizeOf3 rfl rfl (J (Qe (v := I 0) isAgg3 rfl (H.get (.there .here)) rfl) (Jf 2 underlying46 rfl sizeOf3 rfl rfl (J (Qe (v := I 0) isAgg3 rfl (H.get (.there .here)) rfl) (Jz rfl call30 rfl (Host_ret (hd.keep H (Out.ofN kYs))) H ?_))))))))); intro w14 H)
 (refine Ja (Jn (Js (Js (Jr (Jm (J (Vx underlying84 rfl rfl) (Jn (Jc rfl (Jk (Js (Jr (Jm (Jy rfl call61 rfl (pick_want (C := C) (e := 0) (n := 0) (sl := 0) (H.Qc hh kYs) (hd.keep H (Out.ofN kYs)).cm hs (by decide) hp (hd.keep H (Out.ofN kYs)).ks (H.Qc hsp kYs) hq hB hT hn hst hst0) ?_))))))))))))); rintro _ w28 ⟨qv, M, rfl, hM2, H1⟩; have hM : ∀ p ∈ M, w.heap.size ≤ p.1 := (fun p hp => Nat.le_trans H.size (hM2 p hp)); have H9 := Uj H kYs H1 (by intro p hp; rcases List.mem_cons.1 hp with rfl | hp; exact .inl hlt; rcases List.mem_append.1 hp with hp | hp; exact .inr (hM2 p hp); rw [List.mem_singleton] at hp; subst hp; exact .inl hlt2); clear H H1; have H : Hp w ((h, blk [ptr C.κ.k 0, I 0, I 0, I 0, ptr c 0, I 2, I st2, I 17, I 0, I 0, .slice da 0 dc] 139) :: (M ++ (sp, blk (Sect.sxC (Sect.enter S (0 : Nat) C.κ.now).1 qv) 170) :: [(c4, blk z0 40), (c3, blk (stC 2 0) 46)])) w28 := (by simpa using H9); clear H9)
 (refine Jm (Jx rfl rfl (Jx rfl rfl (Qb rfl (Qp (vs := z0) H zeroValue40 rfl) ?_))); clear H; intro c7 w32 hc7 H)
 (refine Qd rfl (Qg (vs := z0) H sizeOf40 rfl rfl (Xq rfl rfl rfl) .here (by simp [z0, oC])) ?_; clear H; intro w33 H; replace H := H.pop hc7)
 refine Ja (Jn (Js (Js (Jr (Jm (J (Xx rfl) (Jn (Jd rfl (Js ?_)))))))))
 ((have m6 : True := trivial)) <;> refine Qk ?_
 refine J (Qm (places := [(0, 1), (1, 1), (2, 4), (6, 1), (7, 1), (8, 1), (9, 1), (10, 1), (11, 1)]) (vs := z0) underlying40 typeInfo40 rfl rfl (by kernel_rfl) rfl rfl rfl) ?_
 (have _g := m6; refine Qd rfl (Qg (vs := z0) H sizeOf40 rfl rfl (Xq rfl rfl rfl) (.there (.app _ (.there .here))) (by simp [z0, oC])) ?_; clear H; intro w46 H; replace H : Hp w ((h, blk [ptr C.κ.k 0, I 0, I 0, I 0, ptr c 0, I 2, I st2, I 17, I 0, I 0, .slice da 0 dc] 139) :: (M ++ (sp, blk (Sect.sxC (Sect.enter S (0 : Nat) C.κ.now).1 qv) 170) :: [(c4, blk z0 40), (c3, blk (stC 2 0) 46)])) w46 := H)
 refine Ja (Jn (Je ?_))
 exact ⟨_, ⟨_, _, rfl, ldA isAgg40 sizeOf40 (H.get (.there (.app _ (.there .here)))) rfl (by simp [z0, oC]), rfl⟩, qv, M, rfl, hM, Hp.cut (L := (h, _) :: (M ++ [(sp, _)])) (M := [_, _]) (by simpa using H) kYs⟩
theorem wpick_in (hd : Wd w C wd h c sp) (hh : w.heap[h]? = some (blk [ptr C.κ.k 0, I 0, I 0, I 0, ptr c 0, I 2, I st, I 17, I 0, I 0, .slice da 0 dc] 139)) (hs : Snd C) (hp : C.pD 0 = (p0, 1))
  (hsp : w.heap[sp]? = some (blk (Sect.sxC S qv) 170)) (hold : S.held = true ∧ S.who = (0 : Nat) ∧ S.stamp = st) :
  Ret Tryz.prog 31 #[ptr wd 0, .agg (stC 2 0).toArray] w fun v w' => v = .tuple #[.agg (Zk 0 0 0 (.slice da 0 dc)).toArray, .bool true] ∧
   Hp w ((endB C 0).mB ++ [(h, blk [ptr C.κ.k 0, I 0, I 0, I 0, ptr c 0, I 0, I st, I 17, I 0, I 0, .slice da 0 dc] 139), (sp, blk (Sect.sxC (Sect.Yy S (0 : Nat) st) qv) 170)]) w' := by
 refine Qy (args := [_, _]) func31 rfl ntmps31 results31 (by simp) ?_
 have H := Hp.refl w
 have hlt := Qr hh
 have hlt2 := Qr hsp
 have hlt3 := Qr hd.cm.hK.hb
 (refine Js (Jr (Qb rfl (Xl (vs := stC 2 0) H rfl rfl) ?_)); clear H; intro c3 w3 hc3 H)
 (refine Qb rfl (Qp (vs := z0) H zeroValue40 rfl) ?_; clear H; intro c4 w4 hc4 H)
 (refine Ja (Jn (Js (Jr (Jm (Jf 1 underlying46 rfl sizeOf3 rfl rfl (J (Qe (v := I 0) isAgg3 rfl (H.get (.there .here)) rfl) (Jf 2 underlying46 rfl sizeOf3 rfl rfl (J (Qe (v := I 0) isAgg3 rfl (H.get (.there .here)) rfl) (Jz rfl call30 rfl (Host_ret (hd.keep H (Out.ofN kYs))) H ?_))))))))); intro w14 H)
 (refine Ja (Jn (Js (Js (Jr (Jm (J (Vx underlying84 rfl rfl) (Jn (Jc rfl (Jk (Js (Jr (Jm (Jy rfl call61 rfl (pick_in (C := C) (e := 0) (n := 0) (sl := 0) (H.Qc hh kYs) (hd.keep H (Out.ofN kYs)).cm hs (by decide) hp (hd.keep H (Out.ofN kYs)).ks (H.Qc hsp kYs) hold) ?_))))))))))))); rintro _ w28 ⟨rfl, H1⟩; have H9 := Uj H kYs H1 (by intro p hp; simp only [Cs.mB, List.cons_append, List.nil_append, List.mem_cons, List.not_mem_nil, or_false] at hp; rcases hp with rfl | rfl | rfl; exact .inl hlt3; exact .inl hlt; exact .inl hlt2); clear H H1; have H := H9; clear H9)
 (refine Jm (Jx rfl rfl (Jx rfl rfl (Qb rfl (Qp (vs := z0) H zeroValue40 rfl) ?_))); clear H; intro c7 w32 hc7 H)
 (refine Qd rfl (Qg (vs := Zk 0 0 0 (.slice da 0 dc)) H sizeOf40 rfl rfl (Xq rfl rfl rfl) .here (by simp [Zk, z0, oC])) ?_; clear H; intro w33 H; replace H : Hp w ((c7, blk (Zk 0 0 0 (.slice da 0 dc)) 40) :: ((endB C 0).mB ++ [(h, blk [ptr C.κ.k 0, I 0, I 0, I 0, ptr c 0, I 0, I st, I 17, I 0, I 0, .slice da 0 dc] 139), (sp, blk (Sect.sxC (Sect.Yy S (0 : Nat) st) qv) 170), (c4, blk z0 40), (c3, blk (stC 2 0) 46)])) w33 := H)
 refine Ja (Jn (Js (Js (Jr (Jm (J (Xj rfl) (Jn (Jc rfl (Jk (Js ?_))))))))))
 ((have m7 : True := trivial)) <;> refine Qk ?_
 refine Jf 1 underlying46 rfl sizeOf3 rfl rfl (J (Qe (v := I 0) isAgg3 rfl (H.get (.there (.there (.there (.there (.there .here)))))) rfl) (Jf 0 underlying40 rfl sizeOf3 rfl rfl ?_))
 (have _g := m7; refine Qd rfl (Qz (v := I 0) H sizeOf3 rfl rfl rfl .here (by simp [Zk, oC])) ?_; clear H; intro w49 H; replace H : Hp w ((c7, blk (Zk 0 0 0 (.slice da 0 dc)) 40) :: ((endB C 0).mB ++ [(h, blk [ptr C.κ.k 0, I 0, I 0, I 0, ptr c 0, I 0, I st, I 17, I 0, I 0, .slice da 0 dc] 139), (sp, blk (Sect.sxC (Sect.Yy S (0 : Nat) st) qv) 170), (c4, blk z0 40), (c3, blk (stC 2 0) 46)])) w49 := H)
 refine Jn (Js (Js (Jr (Jf 9 underlying40 rfl sizeOf4 rfl rfl (J (Qe (v := .bool true) isAgg4 rfl (H.get .here) rfl) (Jm (Jt rfl rfl (Jf 2 underlying40 rfl sizeOf38 rfl rfl (Jt rfl rfl (Jf 2 underlying38 rfl sizeOf3 rfl rfl (Jt rfl rfl (J (Qe (v := I 17) isAgg3 rfl (H.get .here) rfl) (Jt rfl rfl (J (Xf rfl rfl (by omega)) (Jq rfl (Jm (Jg rfl rfl (Jg rfl rfl (Jg rfl rfl (Jp rfl (Jn (Jc rfl (Jk (Js ?_))))))))))))))))))))))))
 ((have m12 : True := trivial)) <;> refine Qk ?_
 refine J (Qo (vs := Zk 0 0 0 (.slice da 0 dc)) isAgg40 sizeOf40 rfl (H.get .here) rfl (by simp [Zk, oC])) ?_
 (have _g := m12; refine Qd rfl (Qg (vs := Zk 0 0 0 (.slice da 0 dc)) H sizeOf40 rfl rfl (Xq rfl rfl rfl) (.there (.there (.there (.there .here)))) (by simp [Zk, z0, oC])) ?_; clear H; intro w77 H; replace H := H.pop hc7)
 refine Ja (Jn (Je ?_))
 exact ⟨_, ⟨_, _, rfl, ldA isAgg40 sizeOf40 (H.get (.there (.there (.there .here)))) rfl (by simp [Zk, oC]), rfl⟩, rfl, Hp.cut (L := [_, _, _]) (M := [_, _]) H kYs⟩
end
end Go.Proofs.YtlpmfldijgdcoaaGreatDoor.Wo
