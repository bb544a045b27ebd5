/-
Slots put into bytes. The bytes of a slot; they are put. A slot is put into bytes. The codec: what is put, and what is refused. Slots got of bytes. What bytes are: one of these, free, or bad. What files are, as bytes; which may be. Files put into bytes, and got of them. What bytes are: a file, free, or bad. What bytes are, of both; files made of numbers; package ofile's own try. Open files as structs in memory. Pipes: their cells; which may be; their bytes. Pipes put into bytes. The codec: what is put, and what is refused. Pipes got of bytes.
-/
import Derived.Test.YtlpmfldijgdcoaaGreatDoorK3
set_option maxRecDepth 100000
set_option maxHeartbeats 16000000
namespace Go.Proofs.YtlpmfldijgdcoaaGreatDoor.Slot
open Go Go.Proofs Fx Codec Tryz
theorem rep_iff {f : List Int} (h : f.length = 8) : f = List.replicate 8 0 ↔ ¬ ∃ x ∈ f, x ≠ 0 := by
 rw [List.eq_replicate_iff]
 constructor
 ·rintro ⟨_, h2⟩ ⟨x, hx, hn⟩; exact hn (h2 x hx)
 ·intro h2; exact ⟨h, fun x hx => Classical.byContradiction fun hn => h2 ⟨x, hx, hn⟩⟩
theorem mid2_iff {a b c d : BitVec 64} : (((((¬okB a ∨ ¬okB b) ∨ ¬okB c) ∨ ¬okB d) ∨ (((b ||| c) ||| d) &&& 16896#64).toInt ≠ 0) ∨ (c &&& d).toInt ≠ 0) ↔
  ¬ ((okB a ∧ okB b ∧ okB c ∧ okB d) ∧ (b &&& 16896#64 = 0#64 ∧ c &&& 16896#64 = 0#64 ∧ d &&& 16896#64 = 0#64) ∧ c &&& d = 0#64) := by
 rw [ne_eq, ne_eq, De, De, bv_or_and]
 simp only [Classical.not_and_iff_not_or_not, or_assoc]
theorem mid2_of {a b c d : BitVec 64} (h : ¬ (((((¬okB a ∨ ¬okB b) ∨ ¬okB c) ∨ ¬okB d) ∨ (((b ||| c) ||| d) &&& 16896#64).toInt ≠ 0) ∨ (c &&& d).toInt ≠ 0)) :
  (okB a ∧ okB b ∧ okB c ∧ okB d) ∧ (b &&& 16896#64 = 0#64 ∧ c &&& 16896#64 = 0#64 ∧ d &&& 16896#64 = 0#64) ∧ c &&& d = 0#64 :=
 Classical.byContradiction fun hn => h (mid2_iff.2 hn)
theorem pi_fd {p : Pi} {i : Nat} (hi : i < 8) : (piC p)[8 + i]? = some (I (p.f[i]'(by rw [p.hf]; exact hi))) := by
 unfold piC
 rw [List.getElem?_append_right (by simp), List.getElem?_map]
 simp only [List.length_cons, List.length_nil, Nat.zero_add]
 rw [show 8 + i - 8 = i from by omega, List.getElem?_eq_getElem (by rw [p.hf]; exact hi)]
 rfl
theorem refOk_ret (p : Pi) (w : World) : Ret Tryz.prog 38 #[vP p] w fun v w' => v = .bool (decide (okP p)) ∧ Hp w [] w' := by
 refine Qi (args := [_]) func38 rfl ntmps38 results38 (by simp) ?_
 have H := Hp.refl w
 have hf8 := p.hf
 (refine Js (Jr (Qb rfl (Ys H rfl) ?_)); clear H; intro bx w3 hbx H)
 (refine Ja (Jn (Js (Js (Jr (Jf 0 underlying58 rfl sizeOf3 rfl rfl (Jl isAgg3 rfl (H.get .here) rfl (Jz rfl call70 rfl (Ux _ _ _ _) H ?_))))))); intro w11 H)
 refine J (Zd rfl) (Jm ?_)
 apply Xz 5 9 14 [(10, 14)] H
 case hc => rfl
 case h1 =>
  intro h14
  (refine Jt rfl rfl (Jf 1 underlying58 rfl sizeOf3 rfl rfl (Jt rfl rfl (Jl isAgg3 rfl (H.get .here) rfl (Jt rfl rfl (Jz rfl call70 rfl (Ux _ _ _ _) H ?_))))); intro w20 H)
  refine Jt rfl rfl (J (Zd rfl) (Jp rfl (Jn ?_)))
  exact ⟨kS, rfl, H⟩
 case h0 =>
  intro h14
  refine Jg rfl rfl (Jg rfl rfl (Jg rfl rfl (Jg rfl rfl (Jq rfl (Jn ?_)))))
  exact ⟨kS, rfl, H⟩
 case h2 =>
  (clear H; intro E14 w14 H)
  refine Jm ?_
  apply Xz 5 15 20 [(16, 20)] H
  case hc => rfl
  case h1 =>
   intro h34
   (refine Jt rfl rfl (Jf 2 underlying58 rfl sizeOf3 rfl rfl (Jt rfl rfl (Jl isAgg3 rfl (H.get .here) rfl (Jt rfl rfl (Jz rfl call70 rfl (Ux _ _ _ _) H ?_))))); intro w40 H)
   refine Jt rfl rfl (J (Zd rfl) (Jp rfl (Jn ?_)))
   exact ⟨kS, rfl, H⟩
  case h0 =>
   intro h34
   refine Jg rfl rfl (Jg rfl rfl (Jg rfl rfl (Jg rfl rfl (Jq rfl (Jn ?_)))))
   exact ⟨kS, rfl, H⟩
  case h2 =>
   (clear H; intro E34 w34 H)
   refine Jm ?_
   apply Xz 5 21 26 [(22, 26)] H
   case hc => rfl
   case h1 =>
    intro h54
    (refine Jt rfl rfl (Jf 3 underlying58 rfl sizeOf3 rfl rfl (Jt rfl rfl (Jl isAgg3 rfl (H.get .here) rfl (Jt rfl rfl (Jz rfl call70 rfl (Ux _ _ _ _) H ?_))))); intro w60 H)
    refine Jt rfl rfl (J (Zd rfl) (Jp rfl (Jn ?_)))
    exact ⟨kS, rfl, H⟩
   case h0 =>
    intro h54
    refine Jg rfl rfl (Jg rfl rfl (Jg rfl rfl (Jg rfl rfl (Jq rfl (Jn ?_)))))
    exact ⟨kS, rfl, H⟩
   case h2 =>
    (clear H; intro E54 w54 H)
    refine Jn (Xo rfl (fun h74 => ?_) (fun h74 => ?_))
    ·refine Js (Jr (Ja (Jn (Je ?_))))
     exact ⟨_, rfl, congrArg Value.bool (decide_eq_false (fun h => by simp only [okP] at h; omega)).symm, H.none kYs⟩
    ·(refine Jk (Js (Js (Jr (Jf 4 underlying58 rfl sizeOf3 rfl rfl (Jl isAgg3 rfl (H.get .here) rfl (Jz rfl call71 rfl (Ms _ _) H ?_)))))); intro w87 H)
     refine J (Zd rfl) (Jm ?_)
     apply Xz 5 31 36 [(32, 36)] H
     case hc => rfl
     case h1 =>
      intro h90
      (refine Jt rfl rfl (Jf 5 underlying58 rfl sizeOf3 rfl rfl (Jt rfl rfl (Jl isAgg3 rfl (H.get .here) rfl (Jt rfl rfl (Jz rfl call71 rfl (Ms _ _) H ?_))))); intro w96 H)
      refine Jt rfl rfl (J (Zd rfl) (Jp rfl (Jn ?_)))
      exact ⟨kS, rfl, H⟩
     case h0 =>
      intro h90
      refine Jg rfl rfl (Jg rfl rfl (Jg rfl rfl (Jg rfl rfl (Jq rfl (Jn ?_)))))
      exact ⟨kS, rfl, H⟩
     case h2 =>
      (clear H; intro E90 w90 H)
      refine Jm ?_
      apply Xz 5 37 42 [(38, 42)] H
      case hc => rfl
      case h1 =>
       intro h110
       (refine Jt rfl rfl (Jf 6 underlying58 rfl sizeOf3 rfl rfl (Jt rfl rfl (Jl isAgg3 rfl (H.get .here) rfl (Jt rfl rfl (Jz rfl call71 rfl (Ms _ _) H ?_))))); intro w116 H)
       refine Jt rfl rfl (J (Zd rfl) (Jp rfl (Jn ?_)))
       exact ⟨kS, rfl, H⟩
      case h0 =>
       intro h110
       refine Jg rfl rfl (Jg rfl rfl (Jg rfl rfl (Jg rfl rfl (Jq rfl (Jn ?_)))))
       exact ⟨kS, rfl, H⟩
      case h2 =>
       (clear H; intro E110 w110 H)
       refine Jm ?_
       apply Xz 5 43 48 [(44, 48)] H
       case hc => rfl
       case h1 =>
        intro h130
        (refine Jt rfl rfl (Jf 7 underlying58 rfl sizeOf3 rfl rfl (Jt rfl rfl (Jl isAgg3 rfl (H.get .here) rfl (Jt rfl rfl (Jz rfl call71 rfl (Ms _ _) H ?_))))); intro w136 H)
        refine Jt rfl rfl (J (Zd rfl) (Jp rfl (Jn ?_)))
        exact ⟨kS, rfl, H⟩
       case h0 =>
        intro h130
        refine Jg rfl rfl (Jg rfl rfl (Jg rfl rfl (Jg rfl rfl (Jq rfl (Jn ?_)))))
        exact ⟨kS, rfl, H⟩
       case h2 =>
        (clear H; intro E130 w130 H)
        refine Jm ?_
        apply Xz 11 49 60 [(50, 60)] H
        case hc => rfl
        case h1 =>
         intro h150
         refine Jt rfl rfl (Jf 5 underlying58 rfl sizeOf3 rfl rfl (Jt rfl rfl (Jl isAgg3 rfl (H.get .here) rfl (Jt rfl rfl (Jf 6 underlying58 rfl sizeOf3 rfl rfl (Jt rfl rfl (Jl isAgg3 rfl (H.get .here) rfl (Jt rfl rfl (J (Zb rfl rfl (by simp) (bv_or p.b p.c)) (Jt rfl rfl (Jf 7 underlying58 rfl sizeOf3 rfl rfl (Jt rfl rfl (Jl isAgg3 rfl (H.get .here) rfl (Jt rfl rfl (J (Zb rfl rfl (by simp) (bv_or (p.b ||| p.c) p.d)) (Jt rfl rfl (J (Zb rfl rfl (by simp) (bv_and ((p.b ||| p.c) ||| p.d) 16896#64)) (Jt rfl rfl (J (Zu rfl rfl) (Jp rfl (Jn ?_)))))))))))))))))))))
         exact ⟨kS, rfl, H⟩
        case h0 =>
         intro h150
         refine Jg rfl rfl (Jg rfl rfl (Jg rfl rfl (Jg rfl rfl (Jg rfl rfl (Jg rfl rfl (Jg rfl rfl (Jg rfl rfl (Jg rfl rfl (Jg rfl rfl (Jq rfl (Jn ?_)))))))))))
         exact ⟨kS, rfl, H⟩
        case h2 =>
         (clear H; intro E150 w150 H)
         refine Jm ?_
         apply Xz 7 61 68 [(62, 68)] H
         case hc => rfl
         case h1 =>
          intro h188
          refine Jt rfl rfl (Jf 6 underlying58 rfl sizeOf3 rfl rfl (Jt rfl rfl (Jl isAgg3 rfl (H.get .here) rfl (Jt rfl rfl (Jf 7 underlying58 rfl sizeOf3 rfl rfl (Jt rfl rfl (Jl isAgg3 rfl (H.get .here) rfl (Jt rfl rfl (J (Zb rfl rfl (by simp) (bv_and p.c p.d)) (Jt rfl rfl (J (Zu rfl rfl) (Jp rfl (Jn ?_)))))))))))))
          exact ⟨kS, rfl, H⟩
         case h0 =>
          intro h188
          refine Jg rfl rfl (Jg rfl rfl (Jg rfl rfl (Jg rfl rfl (Jg rfl rfl (Jg rfl rfl (Jq rfl (Jn ?_)))))))
          exact ⟨kS, rfl, H⟩
         case h2 =>
          (clear H; intro E188 w188 H)
          refine Jn (Xo rfl (fun h214 => ?_) (fun h214 => ?_))
          ·refine Js (Jr (Ja (Jn (Je ?_))))
           exact ⟨_, rfl, congrArg Value.bool (decide_eq_false (fun h => mid2_iff.1 (by assumption) h.2.1)).symm, H.none kYs⟩
          ·refine Jk (Js (Jr (Ja (Jn (Js (Js (Jr (Ja (Jn (Jb ?_))))))))))
           refine Yg [(2, 4), (69, 86)] (fun (i : Nat) E w' => ∃ b, i ≤ 8 ∧ E 3 = .bool b ∧ E 4 = I i ∧ (b = true ↔ ∃ x ∈ p.f.take i, x ≠ 0) ∧ (∀ x ∈ p.f.take i, 0 ≤ x ∧ x ≤ 12) ∧ Hp w [(bx, blk (piC p) 58)] w') (fun i => 8 - i) 0 ?e0 ?r0
           ·exact ⟨false, by omega, rfl, rfl, by simp, by simp, H⟩
           ·(clear H; rintro i E w1 ⟨b, hi, h3, h4, hb, hz, H⟩; refine W_kn2 h3 h4 ?_; clear h3; (by_cases hlt : i < 8 <;> cases b))
            ·(refine Js (Js (Jr (Jm (J (Za rfl rfl (by omega)) (Jn (Jd rfl (Jk (Js (Jb (Js (Js (Jr (Jm (Jf 8 underlying58 rfl sizeOf56 rfl rfl (J (Yq (off' := 8 + i) underlying56 sizeOf3 rfl rfl (by omega) (by omega) (by omega)) (J (Qe (v := I p.f[i]) isAgg3 rfl (H.get .here) (pi_fd hlt)) (Jz rfl call70 rfl (Ux _ _ _ _) H ?_))))))))))))))))); intro w251 H)
             refine J (Zd rfl) (Jn (Xo rfl (fun h254 => ?_) (fun h254 => ?_)))
             ·refine Js (Jr (Ja (Jn (Je ?_))))
              exact ⟨_, rfl, congrArg Value.bool (decide_eq_false (fun h => by have := h.2.2.1 p.f[i] (List.getElem_mem _); omega)).symm, H.none kYs⟩
             ·refine Jk (Jr (Jm (Jm (Jt rfl rfl (Jm (Jt rfl rfl (Jf 8 underlying58 rfl sizeOf56 rfl rfl (Jt rfl rfl (J (Yq (off' := 8 + i) underlying56 sizeOf3 rfl rfl (by omega) (by omega) (by omega)) (Jt rfl rfl (J (Qe (v := I p.f[i]) isAgg3 rfl (H.get .here) (pi_fd hlt)) (Jt rfl rfl (J (Zu rfl rfl) (Jp rfl (Ja (Jn (Jr (Jm (J (Xg rfl rfl (Xc (by omega))) (Ja (Jn ?_)))))))))))))))))))))
              exact ⟨kS, i + 1, by omega, _, by omega, rfl, rfl, (by rw [decide_eq_true_eq, List.take_succ_eq_append_getElem (by omega)]; exact ⟨fun h => ⟨_, List.mem_append_right _ (List.mem_singleton.2 rfl), h⟩, fun ⟨x, hx, hn⟩ => by rcases List.mem_append.1 hx with hx | hx; exact (nomatch hb.2 ⟨x, hx, hn⟩); rw [← List.mem_singleton.1 hx]; exact hn⟩), (by intro x hx; rw [List.take_succ_eq_append_getElem (by omega)] at hx; rcases List.mem_append.1 hx with hx | hx; exact hz x hx; rw [List.mem_singleton.1 hx]; omega), H⟩
            ·(refine Js (Js (Jr (Jm (J (Za rfl rfl (by omega)) (Jn (Jd rfl (Jk (Js (Jb (Js (Js (Jr (Jm (Jf 8 underlying58 rfl sizeOf56 rfl rfl (J (Yq (off' := 8 + i) underlying56 sizeOf3 rfl rfl (by omega) (by omega) (by omega)) (J (Qe (v := I p.f[i]) isAgg3 rfl (H.get .here) (pi_fd hlt)) (Jz rfl call70 rfl (Ux _ _ _ _) H ?_))))))))))))))))); intro w301 H)
             refine J (Zd rfl) (Jn (Xo rfl (fun h304 => ?_) (fun h304 => ?_)))
             ·refine Js (Jr (Ja (Jn (Je ?_))))
              exact ⟨_, rfl, congrArg Value.bool (decide_eq_false (fun h => by have := h.2.2.1 p.f[i] (List.getElem_mem _); omega)).symm, H.none kYs⟩
             ·refine Jk (Jr (Jm (Jm (Jg rfl rfl (Jg rfl rfl (Jg rfl rfl (Jg rfl rfl (Jg rfl rfl (Jq rfl (Ja (Jn (Jr (Jm (J (Xg rfl rfl (Xc (by omega))) (Ja (Jn ?_))))))))))))))))
              exact ⟨kS, i + 1, by omega, true, by omega, rfl, rfl, ⟨fun _ => by obtain ⟨x, hx, hn⟩ := hb.1 rfl; exact ⟨x, by rw [List.take_succ_eq_append_getElem (by omega)]; exact List.mem_append_left _ hx, hn⟩, fun _ => rfl⟩, (by intro x hx; rw [List.take_succ_eq_append_getElem (by omega)] at hx; rcases List.mem_append.1 hx with hx | hx; exact hz x hx; rw [List.mem_singleton.1 hx]; omega), H⟩
            ·refine Js (Js (Jr (Jm (J (Xp rfl rfl (by omega)) (Jn (Jc rfl (Xr ?_)))))))
             refine (if_pos rfl).mpr ?_
             refine Js (Js ?_)
             ((obtain rfl : i = 8 := (by omega); rw [List.take_of_length_le (l := p.f) (i := 8) (by rw [p.hf]; decide)] at hb hz; have hrep := rep_iff p.hf)) <;> refine Qk ?_
             refine Jf 0 underlying58 rfl sizeOf3 rfl rfl (Jl isAgg3 rfl (H.get .here) rfl (J (Yk rfl rfl) (Jn (Xo rfl (fun h345 => ?_) (fun h345 => ?_)))))
             ·refine Js (Jr (Jm (J (Xx rfl) (Jm (Jt rfl rfl (Jf 4 underlying58 rfl sizeOf3 rfl rfl (Jt rfl rfl (Jl isAgg3 rfl (H.get .here) rfl (Jt rfl rfl (J (Yk rfl rfl) (Jq rfl (Ja (Jn (Je ?_))))))))))))))
              exact ⟨_, rfl, congrArg Value.bool (decide_eq_decide.2 ⟨fun h => ⟨by omega, mid2_of (by assumption), hz, .inl ⟨by omega, De.1 h, hrep.2 (fun hn => nomatch hb.2 hn)⟩⟩, fun h => by rcases h.2.2.2 with ⟨_, h1, _⟩ | ⟨h1, _⟩; exact De.2 h1; exact (h1 (by omega)).elim⟩), H.none kYs⟩
             ·refine Jk (Js (Jr (Jf 3 underlying58 rfl sizeOf3 rfl rfl (Jl isAgg3 rfl (H.get .here) rfl (J (Yk rfl rfl) (Ja (Jn (Je ?_))))))))
              exact ⟨_, rfl, congrArg Value.bool (decide_eq_decide.2 ⟨fun h => ⟨by omega, mid2_of (by assumption), hz, .inr ⟨by omega, h⟩⟩, fun h => by rcases h.2.2.2 with ⟨h1, _⟩ | ⟨_, h1⟩; exact (‹¬ p.s = 2› h1).elim; exact h1⟩), H.none kYs⟩
            ·refine Js (Js (Jr (Jm (J (Xp rfl rfl (by omega)) (Jn (Jc rfl (Xr ?_)))))))
             refine (if_pos rfl).mpr ?_
             refine Js (Js ?_)
             ((obtain rfl : i = 8 := (by omega); rw [List.take_of_length_le (l := p.f) (i := 8) (by rw [p.hf]; decide)] at hb hz; have hrep := rep_iff p.hf)) <;> refine Qk ?_
             refine Jf 0 underlying58 rfl sizeOf3 rfl rfl (Jl isAgg3 rfl (H.get .here) rfl (J (Yk rfl rfl) (Jn (Xo rfl (fun h388 => ?_) (fun h388 => ?_)))))
             ·refine Js (Jr (Jm (J (Xj rfl) (Jm (Jg rfl rfl (Jg rfl rfl (Jg rfl rfl (Jp rfl (Ja (Jn (Je ?_)))))))))))
              exact ⟨_, rfl, congrArg Value.bool (decide_eq_false (fun h => by rcases h.2.2.2 with ⟨_, _, h2⟩ | ⟨h1, _⟩; exact hrep.1 h2 (hb.1 rfl); exact h1 (by omega))).symm, H.none kYs⟩
             ·refine Jk (Js (Jr (Jf 3 underlying58 rfl sizeOf3 rfl rfl (Jl isAgg3 rfl (H.get .here) rfl (J (Yk rfl rfl) (Ja (Jn (Je ?_))))))))
              exact ⟨_, rfl, congrArg Value.bool (decide_eq_decide.2 ⟨fun h => ⟨by omega, mid2_of (by assumption), hz, .inr ⟨by omega, h⟩⟩, fun h => by rcases h.2.2.2 with ⟨h1, _⟩ | ⟨_, h1⟩; exact (‹¬ p.s = 2› h1).elim; exact h1⟩), H.none kYs⟩
end Go.Proofs.YtlpmfldijgdcoaaGreatDoor.Slot
namespace Go.Proofs.YtlpmfldijgdcoaaGreatDoor.Slot
open Go Go.Proofs Fx Codec Tryz
theorem okB_lt {x : BitVec 64} (h : okB x) : x.toNat < 65536 := by
 have := bv_lt h
 have e : (65534#64).toNat = 65534 := rfl
 omega
theorem two_bv {x : BitVec 64} (h : okB x) (w : World) : Ret Tryz.prog 72 #[I x.toInt] w fun v w' => v = S (two x) ∧ Hp w [] w' := by
 rw [bv_small (okB_lt h)]
 exact two_ret x.toNat w
theorem put2_bv {c : List Value} {w : World} {b off len cap e k : Nat} {x : BitVec 64} (hx : okB x) (hb : w.heap[b]? = some (blk c e)) (h1 : k + 2 ≤ len) (h2 : off + len ≤ c.length) (hlc : len ≤ 9223372036854775807) :
  Ret Tryz.prog 200 #[sl b off len cap, I k, I x.toInt] w fun v w' => v = .bool true ∧ Hp w [(b, blk ((c.set (off + k) (U (UInt8.ofNat (x.toNat / 256)))).set (off + k + 1) (U (UInt8.ofNat x.toNat))) e)] w' := by
 rw [bv_small (okB_lt hx)]
 have := okB_lt hx
 exact put2_yes hb h1 h2 (by omega) hlc
theorem cat_snoc {A xs : List UInt8} {i : Nat} (h : i < xs.length) : (A ++ xs.take i) ++ [xs[i]] = A ++ xs.take (i + 1) := by
 rw [List.append_assoc, ← List.take_succ_eq_append_getElem h]
/-- the first twelve -/
def h12 (p : Pi) : List UInt8 := [b8 p.s, b8 p.p, b8 p.g, b8 p.e] ++ two p.a ++ two p.b ++ two p.c ++ two p.d
theorem refBytes_ret (p : Pi) (hok : okP p) (w : World) : Ret Tryz.prog 39 #[vP p] w fun v w' => v = S (Xm p) ∧ Hp w [] w' := by
 refine Qi (args := [_]) func39 rfl ntmps39 results39 (by simp) ?_
 have H := Hp.refl w
 have hf8 := p.hf
 obtain ⟨hr, ⟨⟨ha, hb, hc, hd⟩, _, _⟩, hz, _⟩ := hok
 have hl12 : (h12 p).length = 12 := by simp [h12, two]
 have hbl : (p.f.map b8).length = 8 := by simp [hf8]
 (refine Js (Jr (Qb rfl (Ys H rfl) ?_)); clear H; intro bx w3 hbx H)
 (refine Ja (Jn (Js (Jr (Jf 0 underlying58 rfl sizeOf3 rfl rfl (Jl isAgg3 rfl (H.get .here) rfl (J (Xe underlying3 underlying5 rfl (Dg (n := p.s) (by omega))) (Jf 1 underlying58 rfl sizeOf3 rfl rfl (Jl isAgg3 rfl (H.get .here) rfl (J (Xe underlying3 underlying5 rfl (Dg (n := p.p) (by omega))) (Jf 2 underlying58 rfl sizeOf3 rfl rfl (Jl isAgg3 rfl (H.get .here) rfl (J (Xe underlying3 underlying5 rfl (Dg (n := p.g) (by omega))) (Jf 3 underlying58 rfl sizeOf3 rfl rfl (Jl isAgg3 rfl (H.get .here) rfl (J (Xe underlying3 underlying5 rfl (Dg (n := p.e) (by omega))) (Qb rfl (Xk (vs := [(.int _ _), (.int _ _), (.int _ _), (.int _ _)]) H underlying36 sizeOf5 zeroValue5 rfl rfl (by decide) rfl rfl (by simp [Value.oneCell'])) ?_)))))))))))))))); clear H; intro b20 w20 hb20 H)
 refine J (Ua (xs := [b8 p.s, b8 p.p, b8 p.g, b8 p.e]) underlying36 underlying5 underlying9 rfl (RdS.blk (H.get .here) rfl (by simp) (by simp))) (Ja (Jn (Js ?_)))
 (replace H := H.pop (by assumption); refine Xi (KH w [(bx, blk (piC p) 58)]) (fun _ => false) (by kernel_rfl) H ?_; clear H; intro w25 H)
 (refine Am 0 rfl H.kK (Az 1 rfl rfl H.kK (fun _ hC => Qa (off' := 4) underlying58 rfl sizeOf3 (by decide) rfl rfl) (Az 2 rfl rfl H.kK (fun _ hC => Qe isAgg3 rfl (hC.get .here) rfl) (Az 5 rfl rfl H.kK (fun _ hC => Qa (off' := 5) underlying58 rfl sizeOf3 (by decide) rfl rfl) (Az 6 rfl rfl H.kK (fun _ hC => Qe isAgg3 rfl (hC.get .here) rfl) (Az 9 rfl rfl H.kK (fun _ hC => Qa (off' := 6) underlying58 rfl sizeOf3 (by decide) rfl rfl) (Az 10 rfl rfl H.kK (fun _ hC => Qe isAgg3 rfl (hC.get .here) rfl) (Az 13 rfl rfl H.kK (fun _ hC => Qa (off' := 7) underlying58 rfl sizeOf3 (by decide) rfl rfl) (Az 14 rfl rfl H.kK (fun _ hC => Qe isAgg3 rfl (hC.get .here) rfl) (Ao 3 (Qv rfl (.inl rfl) (Qw rfl call72 rfl) (two_bv ha _) (fun _ _ hR _ => (H.seq0 hR.2).kh (by simp) kYs) ?_)))))))))); rintro _ w36 ⟨rfl, H1⟩; replace H := H.seq0 H1; clear H1)
 (refine Az 4 rfl rfl H.kK (fun _ hC => R_cat_S rfl rfl (by simp [two])) (Ao 7 (Qv rfl (.inl rfl) (Qw rfl call72 rfl) (two_bv hb _) (fun _ _ hR _ => (H.seq0 hR.2).kh (by simp) kYs) ?_)); rintro _ w39 ⟨rfl, H1⟩; replace H := H.seq0 H1; clear H1)
 (refine Az 8 rfl rfl H.kK (fun _ hC => R_cat_S rfl rfl (by simp [two])) (Ao 11 (Qv rfl (.inl rfl) (Qw rfl call72 rfl) (two_bv hc _) (fun _ _ hR _ => (H.seq0 hR.2).kh (by simp) kYs) ?_)); rintro _ w42 ⟨rfl, H1⟩; replace H := H.seq0 H1; clear H1)
 (refine Az 12 rfl rfl H.kK (fun _ hC => R_cat_S rfl rfl (by simp [two])) (Ao 15 (Qv rfl (.inl rfl) (Qw rfl call72 rfl) (two_bv hd _) (fun _ _ hR _ => (H.seq0 hR.2).kh (by simp) kYs) ?_)); rintro _ w45 ⟨rfl, H1⟩; replace H := H.seq0 H1; clear H1)
 refine Az 16 rfl rfl H.kK (fun _ hC => R_cat_S rfl rfl (by simp [two])) (Aa 17 rfl H.kK (Ad (Js (Js (Jr (Ja (Jn (Jb ?_))))))))
 refine Yg [(3, 4), (36, 48)] (fun (i : Nat) E w' => i ≤ 8 ∧ E 3 = S (h12 p ++ (p.f.map b8).take i) ∧ E 4 = I i ∧ Hp w [(bx, blk (piC p) 58)] w') (fun i => 8 - i) 0 ?e0 ?r0
 ·exact ⟨by omega, by rw [List.take_zero, List.append_nil]; rfl, rfl, H⟩
 ·(clear H; rintro i E w1 ⟨hi, h3, h4, H⟩; refine W_kn2 h3 h4 ?_; by_cases hlt : i < 8)
  ·(refine Js (Js (Jr (Jm (J (Za rfl rfl (by omega)) (Jn (Jd rfl (Jk (Js (Jb (Jr (Jm (Jm (Jf 8 underlying58 rfl sizeOf56 rfl rfl (J (Yq (off' := 8 + i) underlying56 sizeOf3 rfl rfl (by omega) (by omega) (by omega)) (J (Qe (v := I p.f[i]) isAgg3 rfl (H.get .here) (pi_fd hlt)) (J (Xe underlying3 underlying5 rfl (Dg (n := p.f[i]) (hz _ (List.getElem_mem _)).1)) (Qb rfl (Xk (vs := [(.int _ _)]) H underlying36 sizeOf5 zeroValue5 rfl rfl (by decide) rfl rfl (by simp [Value.oneCell'])) ?_))))))))))))))))); clear H; intro b74 w74 hb74 H)
   (refine J (Ua (xs := [b8 p.f[i]]) underlying36 underlying5 underlying9 rfl (RdS.blk (H.get .here) rfl (by simp) (by simp))) (Ym rfl (R_cat_S rfl rfl (by simp [hl12]; omega)) ?_); replace H := H.pop (by assumption))
   refine Ja (Jn (Jr (Jm (J (Xg rfl rfl (Xc (by omega))) (Ja (Jn ?_))))))
   exact ⟨kS, i + 1, by omega, by omega, congrArg S ((congrArg (fun y => (h12 p ++ (p.f.map b8).take i) ++ [y]) (List.getElem_map b8 (h := by rw [hbl]; exact hlt)).symm).trans (cat_snoc (by rw [hbl]; exact hlt))), rfl, H⟩
  ·refine Js (Js (Jr (Jm (J (Xp rfl rfl (by omega)) (Jn (Jc rfl (Xr ?_)))))))
   refine (if_pos rfl).mpr ?_
   refine Js ?_
   ((obtain rfl : i = 8 := (by omega); rw [List.take_of_length_le (l := p.f.map b8) (i := 8) (by omega)])) <;> refine Qk ?_
   (refine Jm (J (R_cat_S (ys := [167]) rfl rfl (by simp [hl12]; omega)) (Ja (Jn (Js (Jr (Jm (Jm (Jz rfl call73 rfl (refSum_ret (xs := hbs p) _ (by rw [My]; decide)) H ?_)))))))); intro w104 H)
   (refine Qb rfl (Xk (vs := [(.int _ _), (.int _ _), (.int _ _)]) H underlying36 sizeOf5 zeroValue5 rfl rfl (by decide) rfl rfl (by simp [Value.oneCell'])) ?_; clear H; intro b105 w105 hb105 H)
   refine J (Ua (xs := [Nh (hbs p), 0, 0]) underlying36 underlying5 underlying9 rfl (RdS.blk (H.get .here) rfl (by simp) (by simp))) (J (R_cat_S rfl rfl (by simp; omega)) (Ja (Jn (Je ?_))))
   exact ⟨_, rfl, rfl, H.none kYs⟩
end Go.Proofs.YtlpmfldijgdcoaaGreatDoor.Slot
namespace Go.Proofs.YtlpmfldijgdcoaaGreatDoor.Slot
open Go Go.Proofs Fx Codec Tryz
theorem put_no {l : Value} (p : Pi) (hok : ¬ okP p) (w : World) : Ret Tryz.prog 168 #[vP p, l] w fun v w' => v = .bool false ∧ Hp w [] w' := by
 refine Qi (args := [_, _]) func168 rfl ntmps168 results168 (by simp) ?_
 have H := Hp.refl w
 (refine Js (Jr (Qb rfl (Ys H rfl) ?_)); clear H; intro bx w3 hbx H)
 (refine Ja (Jn (Js (Js (Jr (J (Xa rfl (H.get .here)) (Jy rfl call199 rfl (Dm p _) ?_)))))); rintro v w10 ⟨hv, H1⟩; rw [decide_eq_false hok] at hv; subst hv; replace H := H.seq0 H1; clear H1)
 refine J (Xx rfl) (Jn (Jd rfl (Js (Jr (Ja (Jn (Je ?_)))))))
 exact ⟨_, rfl, rfl, H.none kYs⟩
/-- one byte more of those that come -/
theorem fillW {W : List UInt8} {k n : Nat} {x : UInt8} (hW : W.length = n) (hx : W[k]? = some x) : ((W.take k ++ List.replicate (n - k) 0).map U).set k (U x) = (W.take (k + 1) ++ List.replicate (n - (k + 1)) 0).map U := by
 obtain ⟨hk, rfl⟩ := List.getElem?_eq_some_iff.1 hx
 have hl : (W.take k).length = k := by simp; omega
 rw [← List.map_set]
 congr 1
 rw [List.set_append_right _ _ (by omega), hl, Nat.sub_self, show n - k = (n - (k + 1)) + 1 by omega, List.replicate_succ, List.set_cons_zero, List.take_succ_eq_append_getElem hk, List.append_assoc]
 rfl
theorem pickH {p : Pi} (h : okP p) {i : Nat} (hi : i < 4) : ∃ z : Int, [I p.s, I p.p, I p.g, I p.e][i]? = some (I z) ∧ (Xm p)[i]? = some (b8 z) ∧ 0 ≤ z := by
 obtain ⟨hr, _⟩ := h
 match i, hi with
 | 0, _ => exact ⟨p.s, rfl, rfl, by omega⟩
 | 1, _ => exact ⟨p.p, rfl, rfl, by omega⟩
 | 2, _ => exact ⟨p.g, rfl, rfl, by omega⟩
 | 3, _ => exact ⟨p.e, rfl, rfl, by omega⟩
theorem pickS {p : Pi} (h : okP p) {i : Nat} (hi : i < 4) : ∃ x : BitVec 64, [I p.a.toInt, I p.b.toInt, I p.c.toInt, I p.d.toInt][i]? = some (I x.toInt) ∧ okB x ∧ (Xm p)[4 + 2 * i]? = some (UInt8.ofNat (x.toNat / 256)) ∧ (Xm p)[4 + 2 * i + 1]? = some (UInt8.ofNat x.toNat) := by
 obtain ⟨_, ⟨⟨ha, hb, hc, hd⟩, _, _⟩, _⟩ := h
 match i, hi with
 | 0, _ => exact ⟨p.a, rfl, ha, rfl, rfl⟩
 | 1, _ => exact ⟨p.b, rfl, hb, rfl, rfl⟩
 | 2, _ => exact ⟨p.c, rfl, hc, rfl, rfl⟩
 | 3, _ => exact ⟨p.d, rfl, hd, rfl, rfl⟩
theorem bytes_12 (p : Pi) : Xm p = h12 p ++ (p.f.map b8 ++ [167, Nh (hbs p), 0, 0]) := by
 show (((h12 p ++ p.f.map b8) ++ [167]) ++ [Nh (hbs p), 0, 0]) = _
 rw [List.append_assoc, List.append_assoc]
 rfl
theorem h12_len (p : Pi) : (h12 p).length = 12 := by simp [h12, two]
theorem pickF {p : Pi} (h : okP p) {i : Nat} (hi : i < 8) : ∃ z : Int, (p.f.map fun x => I x)[i]? = some (I z) ∧ (Xm p)[12 + i]? = some (b8 z) ∧ 0 ≤ z := by
 have hf := p.hf
 obtain ⟨_, _, hz, _⟩ := h
 refine ⟨p.f[i], by rw [List.getElem?_map, List.getElem?_eq_getElem]; rfl, ?_, (hz _ (List.getElem_mem _)).1⟩
 rw [bytes_12, List.getElem?_append_right (by rw [h12_len]; omega), h12_len, show 12 + i - 12 = i by omega, List.getElem?_append_left (by simp; omega), List.getElem?_map, List.getElem?_eq_getElem]
 rfl
theorem bytes_20 (p : Pi) : (Xm p)[20]? = some 167 := by
 rw [bytes_12, List.getElem?_append_right (by rw [h12_len]; decide), h12_len, List.getElem?_append_right (by simp [p.hf])]
 simp [p.hf]
theorem bytes_21 (p : Pi) : (Xm p)[21]? = some (Nh (hbs p)) := by
 unfold Xm
 rw [List.getElem?_append_right (by rw [My]; decide), My]
 rfl
theorem bytes_t21 (p : Pi) : (Xm p).take 21 = hbs p := by
 unfold Xm
 exact List.take_left' (My p)
theorem bytes_t22 (p : Pi) : (Xm p).take 22 ++ List.replicate 2 0 = Xm p := by
 have h : (Xm p).take 22 = hbs p ++ [Nh (hbs p)] := by
  unfold Xm
  rw [List.take_append, My, List.take_of_length_le (by rw [My]; decide)]
  rfl
 rw [h, List.append_assoc]
 rfl
theorem Nr {b : Nat} {w : World} (p : Pi) (hok : okP p) (hb : w.heap[b]? = some (blk ((List.replicate 24 0).map U) 5)) :
  Ret Tryz.prog 168 #[vP p, sl b 0 24 24] w fun v w' => v = .bool true ∧ Hp w [(b, blk ((Xm p).map U) 5)] w' := by
 refine Qi (args := [_, _]) func168 rfl ntmps168 results168 (by simp) ?_
 have H := Hp.focus0 hb
 have hf8 := p.hf
 have hWl := Yu p
 obtain ⟨W, hW⟩ : ∃ W, Xm p = W := ⟨_, rfl⟩
 rw [hW] at hWl
 (refine Js (Jr (Qb rfl (Ys H rfl) ?_)); clear H; intro bx w3 hbx H)
 (refine Ja (Jn (Js (Js (Jr (J (Xa rfl (H.get .here)) (Jy rfl call199 rfl (Dm p _) ?_)))))); rintro v w10 ⟨hv, H1⟩; rw [decide_eq_true hok] at hv; subst hv; replace H := H.seq0 H1; clear H1)
 (refine J (Xj rfl) (Jn (Jc rfl (Jk (Js (Js (Jr (Jf 0 underlying58 rfl sizeOf3 rfl rfl (Jl isAgg3 rfl (H.get .here) rfl (Jf 1 underlying58 rfl sizeOf3 rfl rfl (Jl isAgg3 rfl (H.get .here) rfl (Jf 2 underlying58 rfl sizeOf3 rfl rfl (Jl isAgg3 rfl (H.get .here) rfl (Jf 3 underlying58 rfl sizeOf3 rfl rfl (Jl isAgg3 rfl (H.get .here) rfl (Qb rfl (Xk (vs := [I p.s, I p.p, I p.g, I p.e]) H underlying22 sizeOf3 zeroValue3 rfl rfl (by decide) rfl rfl (by simp [Value.oneCell'])) ?_))))))))))))))); clear H; intro b22 w26 hb22 H)
 refine J (Qh underlying22 rfl) (Jm (Jn (Jb ?_)))
 refine Yg [(5, 6), (24, 34)] (fun (i : Nat) E w' => i ≤ 4 ∧ E 24 = I i ∧ Hp w [(b22, blk [I p.s, I p.p, I p.g, I p.e] 3), (bx, blk (piC p) 58), (b, blk ((W.take i ++ List.replicate (24 - i) 0).map U) 5)] w') (fun i => 4 - i) 0 ?e0 ?r0
 ·exact ⟨by omega, rfl, H⟩
 ·(clear H; rintro i E w1 ⟨hi, h0, H⟩; refine Ur h0 ?_; by_cases hlt : i < 4)
  ·refine Js (Jr (J (Za rfl rfl (by omega)) (Jn (Js (Jd rfl (Jk (Js (Jb (Js ?_)))))))))
   ((obtain ⟨z, hz1, hz2, hz0⟩ := pickH hok hlt; rw [hW] at hz2)) <;> refine Qk ?_
   refine Jm (J (Qj underlying22 sizeOf3 rfl rfl (by omega) (by omega) Bz) (J (Qe (v := I z) isAgg3 rfl (H.get .here) hz1) (Ja (Ja (Jn (Jr (Jm (Jm (Jm (J (Xe underlying3 underlying5 rfl (Dg (n := z) hz0)) (J (Qj underlying36 sizeOf5 rfl rfl (by omega) (by omega) Bz) ?_)))))))))))
   (have _g := hz0; refine Qd rfl (Qz (v := U (b8 z)) H sizeOf5 rfl rfl rfl (.there (.there .here)) (by simp; omega)) ?_; clear H; intro w56 H; rw [fillW hWl hz2] at H)
   refine Jn (Jr (J (Xg rfl rfl (Xc (by omega))) (Jm (Jn ?_))))
   exact ⟨kS, i + 1, by omega, by omega, rfl, H⟩
  ·refine Js (Jr (J (Xp rfl rfl (by omega)) (Jn (Js (Jc rfl (Xr ?_))))))
   refine (if_pos rfl).mpr ?_
   (refine Js (Js (Jr (Jf 4 underlying58 rfl sizeOf3 rfl rfl (Jl isAgg3 rfl (H.get (.there .here)) rfl (Jf 5 underlying58 rfl sizeOf3 rfl rfl (Jl isAgg3 rfl (H.get (.there .here)) rfl (Jf 6 underlying58 rfl sizeOf3 rfl rfl (Jl isAgg3 rfl (H.get (.there .here)) rfl (Jf 7 underlying58 rfl sizeOf3 rfl rfl (Jl isAgg3 rfl (H.get (.there .here)) rfl (Qb rfl (Xk (vs := [I p.a.toInt, I p.b.toInt, I p.c.toInt, I p.d.toInt]) H underlying22 sizeOf3 zeroValue3 rfl rfl (by decide) rfl rfl (by simp [Value.oneCell'])) ?_))))))))))); clear H; intro b43 w82 hb43 H)
   refine J (Qh underlying22 rfl) (Jm (Jn (Jb ?_)))
   refine Yg [(7, 8), (45, 56)] (fun (i : Nat) E w' => i ≤ 4 ∧ E 45 = I i ∧ Hp w [(b43, blk [I p.a.toInt, I p.b.toInt, I p.c.toInt, I p.d.toInt] 3), (b22, blk [I p.s, I p.p, I p.g, I p.e] 3), (bx, blk (piC p) 58), (b, blk ((W.take (4 + 2 * i) ++ List.replicate (24 - (4 + 2 * i)) 0).map U) 5)] w') (fun i => 4 - i) 0 ?e2 ?r2
   ·(obtain rfl : i = 4 := (by omega); exact ⟨by omega, rfl, H⟩)
   ·(clear H; rintro j E w1 ⟨hj, h0, H⟩; refine Ur h0 ?_; by_cases hlj : j < 4)
    ·refine Js (Jr (J (Za rfl rfl (by omega)) (Jn (Js (Jd rfl (Jk (Js (Jb (Js ?_)))))))))
     ((obtain ⟨x, hz1, hz0, hz2, hz3⟩ := pickS hok hlj; rw [hW] at hz2 hz3)) <;> refine Qk ?_
     (refine Jm (J (Qj underlying22 sizeOf3 rfl rfl (by omega) (by omega) Bz) (J (Qe (v := I x.toInt) isAgg3 rfl (H.get .here) hz1) (Ja (Ja (Jn (Jr (Jm (Jm (J (Bs (r := ((2 * j : Nat) : Int)) rfl rfl (by rw [Xc (by omega)]; omega)) (J (Xg (r := ((4 + 2 * j : Nat) : Int)) rfl rfl (by rw [Xc (by omega)]; omega)) (Jm (Jy rfl call200 rfl (put2_bv (k := 4 + 2 * j) hz0 (H.get (.there (.there (.there .here)))) (by omega) (by simp; omega) (by decide)) ?_)))))))))))); rintro _ w112 ⟨rfl, H1⟩; replace H := H.seq H1 (Yh (.there (.there (.there .here))) Yi); clear H1; rw [Nat.zero_add, fillW hWl hz2, fillW hWl hz3] at H)
     refine Jn (Jr (J (Xg rfl rfl (Xc (by omega))) (Jm (Jn ?_))))
     exact ⟨kS, j + 1, by omega, by omega, rfl, H⟩
    ·refine Js (Jr (J (Xp rfl rfl (by omega)) (Jn (Js (Jc rfl (Xr ?_))))))
     refine (if_pos rfl).mpr ?_
     refine Js (Js (Jr (Jf 8 underlying58 rfl sizeOf56 rfl rfl (J (Qo (vs := p.f.map fun x => I x) isAgg56 sizeOf56 rfl (H.get (.there (.there .here))) (hfd p) (by rw [Ya]; decide)) (Jm (Jn (Jb ?_)))))))
     refine Yg [(9, 10), (59, 69)] (fun (i : Nat) E w' => i ≤ 8 ∧ E 59 = I i ∧ Hp w [(b43, blk [I p.a.toInt, I p.b.toInt, I p.c.toInt, I p.d.toInt] 3), (b22, blk [I p.s, I p.p, I p.g, I p.e] 3), (bx, blk (piC p) 58), (b, blk ((W.take (12 + i) ++ List.replicate (24 - (12 + i)) 0).map U) 5)] w') (fun i => 8 - i) 0 ?e4 ?r4
     ·(obtain rfl : j = 4 := (by omega); exact ⟨by omega, rfl, H⟩)
     ·(clear H; rintro m E w1 ⟨hm, h0, H⟩; refine Ur h0 ?_; by_cases hlm : m < 8)
      ·refine Js (Jr (J (Za rfl rfl (by omega)) (Jn (Js (Jd rfl (Jk (Js (Jb (Js ?_)))))))))
       ((obtain ⟨z, hz1, hz2, hz0⟩ := pickF hok hlm; rw [hW] at hz2)) <;> refine Qk ?_
       refine Jm (J (R_index (v := I z) (cs := p.f.map fun x => I x) underlying56 isAgg3 sizeOf3 rfl rfl (by omega) (by omega) (by rw [Int.toNat_natCast, Nat.mul_one]; exact hz1)) (Ja (Ja (Jn (Jr (Jm (Jm (J (Xg (r := ((12 + m : Nat) : Int)) rfl rfl (by rw [Xc (by omega)]; omega)) (Jm (J (Xe underlying3 underlying5 rfl (Dg (n := z) hz0)) (J (Qj underlying36 sizeOf5 rfl rfl (by omega) (by omega) Bz) ?_)))))))))))
       (have _g := hb43; refine Qd rfl (Qz (v := U (b8 z)) H sizeOf5 rfl rfl rfl (.there (.there (.there .here))) (by simp; omega)) ?_; clear H; intro w160 H; rw [fillW hWl hz2] at H)
       refine Jn (Jr (J (Xg rfl rfl (Xc (by omega))) (Jm (Jn ?_))))
       exact ⟨kS, m + 1, by omega, by omega, rfl, H⟩
      ·refine Js (Jr (J (Xp rfl rfl (by omega)) (Jn (Js (Jc rfl (Xr ?_))))))
       refine (if_pos rfl).mpr ?_
       refine Js ?_
       ((obtain rfl : m = 8 := (by omega))) <;> refine Qk ?_
       (refine Jm (J (Qj (off' := 20) underlying36 sizeOf5 rfl rfl (by omega) (by omega) rfl) (Qd rfl (Qz (v := U 167) H sizeOf5 rfl rfl rfl (.there (.there (.there .here))) (by simp; omega)) ?_)); clear H; intro w179 H; rw [fillW hWl (by rw [← hW]; exact bytes_20 p)] at H)
       (refine Jn (Js (Jr (Jm (Jm (J (R_to (i := 21) underlying36 sizeOf5 rfl rfl (by decide) (by decide)) (Jz rfl call125 rfl (sum_ret (xs := hbs p) (RdS.blk (H.get (.there (.there (.there .here)))) (by rw [List.drop_zero, ← List.map_take, List.take_left' (by simp; omega), ← hW, bytes_t21]) (by simp; omega) (by decide)) (by rw [My]; decide)) H ?_)))))); intro w186 H)
       (refine J (Qj (off' := 21) underlying36 sizeOf5 rfl rfl (by omega) (by omega) rfl) (Qd rfl (Qz (v := U (Nh (hbs p))) H sizeOf5 rfl rfl rfl (.there (.there (.there .here))) (by simp; omega)) ?_); clear H; intro w188 H; rw [fillW hWl (by rw [← hW]; exact bytes_21 p), ← hW, bytes_t22] at H)
       refine Jn (Js (Jr (Ja (Jn (Je ?_)))))
       exact ⟨_, rfl, rfl, Hp.Ub (M := [_, _, _]) H (Qu hb43 (Qu hb22 (Qu hbx Xu)))⟩
end Go.Proofs.YtlpmfldijgdcoaaGreatDoor.Slot
namespace Go.Proofs.YtlpmfldijgdcoaaGreatDoor.Slot
open Go Go.Proofs Fx Codec Tryz
/-- the codec -/
abbrev cod : Obj := blk [I 24, .func (.func 168) #[] #[], .func (.func 169) #[] #[]] 270
theorem Vr (w : World) : Ret Tryz.prog 128 #[] w fun v w' => ∃ q, v = ptr q 0 ∧ w.heap.size ≤ q ∧ Hp w [(q, cod)] w' := by
 refine Qi (args := []) func128 rfl ntmps128 results128 (by simp) ?_
 have H := Hp.refl w
 have hnew : Ret Tryz.prog 167 #[I 24, .func (.func 168) #[] #[], .func (.func 169) #[] #[]] w fun v w' => ∃ q, v = ptr q 0 ∧ w.heap.size ≤ q ∧ Hp w [(q, cod)] w' := by
  refine Qi (args := [_, _, _]) func167 rfl ntmps167 results167 (by simp) ?_
  refine Js (Jr (Ja (Jn (Js (Jr (Jm (J (Mz (r := 24) rfl rfl (by decide)) (Ym rfl (Nn (r := 24) rfl rfl (by decide)) ?_))))))))
  (refine Jm (Jm (J (Qm (places := [(0, 1), (1, 1), (2, 1)]) (vs := [(.int _ _), (.func _ _ _), (.func _ _ _)]) underlying270 typeInfo270 rfl rfl (by kernel_rfl) rfl rfl rfl) (Qb rfl (Xl (v := (.agg (List.toArray [(.int _ _), (.func _ _ _), (.func _ _ _)]))) H rfl rfl) ?_))); clear H; intro b13 w13 hb13 H)
  refine Ja (Jn (Je ?_))
  exact ⟨_, rfl, _, rfl, by assumption, H⟩
 (refine Js (Jr (Ja (Jn (Js (Jr (Jy rfl call167 rfl hnew ?_)))))); rintro _ w7 ⟨q, rfl, hq, H1⟩; replace H := H.Zo H1 (Qu hq Xu); clear H1)
 refine Ja (Jn (Je ?_))
 exact ⟨_, rfl, _, rfl, hq, H⟩
theorem encM_ret {q : Nat} {w : World} (f : Pi) (hq : w.heap[q]? = some cod) :
  Ret Tryz.prog 129 #[ptr q 0, vP f] w fun v w' => (okP f ∧ ∃ b, v = .tuple #[sl b 0 24 24, .bool true] ∧ w.heap.size ≤ b ∧ Hp w [(b, blk ((Xm f).map U) 5)] w') ∨ (¬ okP f ∧ v = .tuple #[nilS, .bool false] ∧ Hp w [] w') := by
 refine Qi (args := [_, _]) func129 rfl ntmps129 results129 (by simp) ?_
 have H := Hp.focus0 hq
 by_cases hok : okP f
 ·(refine Js (Jr (Qb rfl (Ys H rfl) ?_)); clear H; intro bx w3 hbx H)
  (refine Ja (Ja (Jn (Js (Jr (Jm (Ji rfl (Jf 0 underlying270 rfl sizeOf3 rfl rfl (Jl isAgg3 rfl (H.get (.there .here)) rfl (Qb rfl (Vf H underlying36 sizeOf5 typeInfo5 zeroValue5 rfl rfl rfl (by decide) (by decide) (by decide) (by decide)) ?_))))))))); clear H; intro b w13 hb H; replace H : Hp w [(b, blk ((List.replicate 24 0).map U) 5), (bx, blk (piC f) 58), (q, cod)] _ := H)
  refine Ja (Jn (Js (Js ?_)))
  (refine Xi (Kp [(bx, blk (piC f) 58), (q, cod)]) (fun _ => false) (by kernel_rfl) H ?_; clear H; intro w18 H)
  (refine Am 0 rfl (H.kp.sub (by simp)) (Az 1 rfl rfl (H.kp.sub (by simp)) (fun _ hC => Qf rfl) (Az 2 rfl rfl (H.kp.sub (by simp)) (fun _ hC => Qa (off' := 1) underlying270 rfl sizeOf268 (by decide) rfl rfl) (Az 3 rfl rfl (H.kp.sub (by simp)) (fun _ hC => Qe isAgg268 rfl (hC.get (.there .here)) rfl) (Az 4 rfl rfl (H.kp.sub (by simp)) (fun _ hC => Vy underlying268 rfl rfl) (Am 5 rfl (H.kp.sub (by simp)) (Ai 6 rfl rfl rfl (H.kp.sub (by simp)) (fun _ hC => Va) (Ag 7 rfl rfl rfl (H.kp.sub (by simp)) (fun _ hC => Qf rfl) (Ag 8 rfl rfl rfl (H.kp.sub (by simp)) (fun _ hC => Qa (off' := 1) underlying270 rfl sizeOf268 (by decide) rfl rfl) (Ag 9 rfl rfl rfl (H.kp.sub (by simp)) (fun _ hC => Qe isAgg268 rfl (hC.get (.there .here)) rfl) (Ag 10 rfl rfl rfl (H.kp.sub (by simp)) (fun _ hC => Xa rfl (hC.get .here)) (Ai 11 rfl rfl rfl (H.kp.sub (by simp)) (fun _ hC => Va) (Ao 12 (Qv rfl (.inr ⟨_, _, rfl, rfl⟩) (Qw rfl call168 rfl) (Nr f hok (H.get .here)) (fun _ _ hR _ => (H.seq hR.2 (Yh .here Yi)).kp.sub (by simp)) ?_))))))))))))); rintro _ w32 ⟨rfl, H1⟩; replace H := H.seq H1 (Yh .here Yi); clear H1)
  refine Ag 13 rfl rfl rfl (H.kp.sub (by simp)) (fun _ hC => Xj rfl) (Ah 14 rfl rfl (H.kp.sub (by simp)) (fun _ hC => Zg rfl) (Ad (Jc rfl (Jk (Js (Jr (Jm (Ja (Ja (Jn (Je ?_)))))))))))
  exact ⟨_, rfl, .inl ⟨hok, b, rfl, hb, (H.pop2 hbx).swap2.back hq⟩⟩
 ·(refine Js (Jr (Qb rfl (Ys H rfl) ?_)); clear H; intro bx w3 hbx H)
  (refine Ja (Ja (Jn (Js (Jr (Jm (Ji rfl (Jf 0 underlying270 rfl sizeOf3 rfl rfl (Jl isAgg3 rfl (H.get (.there .here)) rfl (Qb rfl (Vf H underlying36 sizeOf5 typeInfo5 zeroValue5 rfl rfl rfl (by decide) (by decide) (by decide) (by decide)) ?_))))))))); clear H; intro b w13 hb H; replace H : Hp w [(b, blk ((List.replicate 24 0).map U) 5), (bx, blk (piC f) 58), (q, cod)] _ := H)
  refine Ja (Jn (Js (Js ?_)))
  (refine Xi (Kp [(bx, blk (piC f) 58), (q, cod)]) (fun _ => false) (by kernel_rfl) H ?_; clear H; intro w18 H)
  (refine Am 0 rfl (H.kp.sub (by simp)) (Az 1 rfl rfl (H.kp.sub (by simp)) (fun _ hC => Qf rfl) (Az 2 rfl rfl (H.kp.sub (by simp)) (fun _ hC => Qa (off' := 1) underlying270 rfl sizeOf268 (by decide) rfl rfl) (Az 3 rfl rfl (H.kp.sub (by simp)) (fun _ hC => Qe isAgg268 rfl (hC.get (.there .here)) rfl) (Az 4 rfl rfl (H.kp.sub (by simp)) (fun _ hC => Vy underlying268 rfl rfl) (Am 5 rfl (H.kp.sub (by simp)) (Ai 6 rfl rfl rfl (H.kp.sub (by simp)) (fun _ hC => Va) (Ag 7 rfl rfl rfl (H.kp.sub (by simp)) (fun _ hC => Qf rfl) (Ag 8 rfl rfl rfl (H.kp.sub (by simp)) (fun _ hC => Qa (off' := 1) underlying270 rfl sizeOf268 (by decide) rfl rfl) (Ag 9 rfl rfl rfl (H.kp.sub (by simp)) (fun _ hC => Qe isAgg268 rfl (hC.get (.there .here)) rfl) (Ag 10 rfl rfl rfl (H.kp.sub (by simp)) (fun _ hC => Xa rfl (hC.get .here)) (Ai 11 rfl rfl rfl (H.kp.sub (by simp)) (fun _ hC => Va) (Ao 12 (Qv rfl (.inr ⟨_, _, rfl, rfl⟩) (Qw rfl call168 rfl) (put_no f hok _) (fun _ _ hR _ => (H.seq0 hR.2).kp.sub (by simp)) ?_))))))))))))); rintro _ w32 ⟨rfl, H1⟩; replace H := H.seq0 H1; clear H1)
  refine Ag 13 rfl rfl rfl (H.kp.sub (by simp)) (fun _ hC => Xx rfl) (Ah 14 rfl rfl (H.kp.sub (by simp)) (fun _ hC => Zg rfl) (Ad (Jd rfl (Js (Jr (Ja (Ja (Jn (Je ?_)))))))))
  exact ⟨_, rfl, .inr ⟨hok, rfl, ((H.pop hb).pop hbx).back hq⟩⟩
theorem Bl (f : Pi) (w : World) :
  Ret Tryz.prog 91 #[vP f] w fun v w' => (okP f ∧ ∃ b, v = .tuple #[sl b 0 24 24, .bool true] ∧ w.heap.size ≤ b ∧ Hp w [(b, blk ((Xm f).map U) 5)] w') ∨ (¬ okP f ∧ v = .tuple #[nilS, .bool false] ∧ Hp w [] w') := by
 refine Qi (args := [_]) func91 rfl ntmps91 results91 (by simp) ?_
 have H := Hp.refl w
 (refine Js (Jr (Qb rfl (Ys H rfl) ?_)); clear H; intro bx w3 hbx H)
 refine Ja (Ja (Jn (Js ?_)))
 (refine Xi (Kp [(bx, blk (piC f) 58)]) (fun _ => false) (by kernel_rfl) H ?_; clear H; intro w8 H)
 (refine Az 1 rfl rfl H.kp (fun _ hC => Xa rfl (hC.get .here)) (Ao 0 (Qv rfl (.inl rfl) (Qw rfl call128 rfl) (Vr _) (fun _ _ ⟨q, _, hq, H1⟩ _ => (H.Zo H1 (Qu hq Xu)).kp.sub (by simp)) ?_)); rintro _ w11 ⟨q, rfl, hq, H1⟩; have hsz := H.size; replace H := H.Zo H1 (Qu hq Xu); replace hq := Nat.le_trans hsz hq; clear H1 hsz)
 (refine Ao 2 (Qv rfl (.inl rfl) (Qw rfl call129 rfl) (encM_ret f (H.get .here)) (fun _ _ hR _ => by rcases hR with ⟨_, b, _, hb, H1⟩ | ⟨_, _, H1⟩; exact (H.Zo H1 (Qu hb Xu)).kp.sub (by simp); exact (H.seq0 H1).kp.sub (by simp)) ?_); rintro _ w13 (⟨hok, b, rfl, hb, H1⟩ | ⟨hok, rfl, H1⟩); (have hsz := H.size; replace H := H.Zo H1 (Qu hb Xu); replace hb := Nat.le_trans hsz hb; clear H1 hsz); rotate_left; (replace H := H.seq0 H1; clear H1))
 ·refine Az 3 rfl rfl (H.kp.sub (by simp)) (fun _ hC => Qs rfl rfl) (Az 4 rfl rfl (H.kp.sub (by simp)) (fun _ hC => Qs rfl rfl) (Aa 5 rfl (H.kp.sub (by simp)) (Aa 6 rfl (H.kp.sub (by simp)) (Ad (Je ?_)))))
  exact ⟨_, rfl, .inr ⟨hok, rfl, H.none kYs⟩⟩
 ·refine Az 3 rfl rfl (H.kp.sub (by simp)) (fun _ hC => Qs rfl rfl) (Az 4 rfl rfl (H.kp.sub (by simp)) (fun _ hC => Qs rfl rfl) (Aa 5 rfl (H.kp.sub (by simp)) (Aa 6 rfl (H.kp.sub (by simp)) (Ad (Je ?_)))))
  exact ⟨_, rfl, .inl ⟨hok, b, rfl, hb, Hp.cut (L := [_]) H kYs⟩⟩
theorem Db (f : Pi) (hok : okP f) (w : World) :
  Ret Tryz.prog 91 #[vP f] w fun v w' => ∃ b, v = .tuple #[sl b 0 24 24, .bool true] ∧ w.heap.size ≤ b ∧ Hp w [(b, blk ((Xm f).map U) 5)] w' :=
 (Bl f w).mono fun v w' h => by
  rcases h with ⟨_, h⟩ | ⟨h, _⟩
  ·exact h
  ·exact (h hok).elim
theorem enc_no (f : Pi) (hok : ¬ okP f) (w : World) :
  Ret Tryz.prog 91 #[vP f] w fun v w' => v = .tuple #[nilS, .bool false] ∧ Hp w [] w' :=
 (Bl f w).mono fun v w' h => by
  rcases h with ⟨h, _⟩ | ⟨_, h⟩
  ·exact (hok h).elim
  ·exact h
theorem ok_to {f : Pi} {b : Bool} (h : decide (okP f) = b) (w : World) : Ret Tryz.prog 199 #[vP f] w fun v w' => v = .bool b ∧ Hp w [] w' := by
 subst h; exact Dm f w
theorem refOk_to {f : Pi} {b : Bool} (h : decide (okP f) = b) (w : World) : Ret Tryz.prog 38 #[vP f] w fun v w' => v = .bool b ∧ Hp w [] w' := by
 subst h; exact refOk_ret f w
end Go.Proofs.YtlpmfldijgdcoaaGreatDoor.Slot
namespace Go.Proofs.YtlpmfldijgdcoaaGreatDoor.Slot
open Go Go.Proofs Fx Codec Tryz
/-- a byte, as a number -/
def nb (xs : List UInt8) (i : Nat) : Nat := (xs[i]?.getD 0).toNat
theorem nb_lt (xs : List UInt8) (i : Nat) : nb xs i < 256 := (xs[i]?.getD 0).toNat_lt
theorem Me {xs : List UInt8} {i : Nat} (h : i < xs.length) : nb xs i = xs[i].toNat := by unfold nb; rw [List.getElem?_eq_getElem h]; rfl
/-- the slot that bytes would be -/
def ofB (xs : List UInt8) : Pi := ⟨nb xs 0, nb xs 1, nb xs 2, nb xs 3, BitVec.ofNat 64 (nb xs 4 * 256 + nb xs 5), BitVec.ofNat 64 (nb xs 6 * 256 + nb xs 7), BitVec.ofNat 64 (nb xs 8 * 256 + nb xs 9), BitVec.ofNat 64 (nb xs 10 * 256 + nb xs 11), (List.range 8).map fun i => (nb xs (12 + i) : Int), by simp⟩
theorem ofB_f {xs : List UInt8} {i : Nat} (h : i < (ofB xs).f.length) : (ofB xs).f[i] = (nb xs (12 + i) : Int) := by
 have h8 : i < 8 := by rw [(ofB xs).hf] at h; exact h
 have e : (ofB xs).f[i]? = some (nb xs (12 + i) : Int) := by
  show ((List.range 8).map fun i => (nb xs (12 + i) : Int))[i]? = _
  rw [List.getElem?_map, List.getElem?_range h8]
  rfl
 exact (List.getElem?_eq_some_iff.1 e).2
def good (xs : List UInt8) : Prop := xs.length = 24 ∧ okP (ofB xs) ∧ Xm (ofB xs) = xs
instance (xs : List UInt8) : Decidable (good xs) := by unfold good; infer_instance
/-- what bytes are -/
def Xy (xs : List UInt8) : Pi × Int := if xs.length = 24 ∧ ∀ x ∈ xs, x = 0 then (Xn, 0) else if good xs then (ofB xs, 1) else (Xn, 2)
theorem Uk {xs : List UInt8} (h8 : xs.length = 24) (hz : ∀ x ∈ xs, x = 0) : Xy xs = (Xn, 0) := if_pos ⟨h8, hz⟩
theorem Uo {xs : List UInt8} (h : good xs) : ¬ (xs.length = 24 ∧ ∀ x ∈ xs, x = 0) := by
 rintro ⟨h8, hz⟩
 have h1 := h.2.2
 have : (167 : UInt8) ∈ xs := by rw [← h1]; exact List.mem_of_getElem? (bytes_20 _)
 exact absurd (hz 167 this) (by decide)
theorem Vj {xs : List UInt8} (h : good xs) : Xy xs = (ofB xs, 1) := by
 unfold Xy; rw [if_neg (Uo h), if_pos h]
theorem Ue {xs : List UInt8} (h : ¬ good xs) (hf : ¬ (xs.length = 24 ∧ ∀ x ∈ xs, x = 0)) : Xy xs = (Xn, 2) := by
 unfold Xy; rw [if_neg hf, if_neg h]
theorem b8_n (k : Int) (h0 : 0 ≤ k) (h1 : k ≤ 255) : (((b8 k).toNat : Nat) : Int) = k := by
 unfold b8
 rw [UInt8.toNat_ofNat']
 omega
theorem two_n (x : BitVec 64) (h : okB x) : BitVec.ofNat 64 ((UInt8.ofNat (x.toNat / 256)).toNat * 256 + (UInt8.ofNat x.toNat).toNat) = x := by
 have := okB_lt h
 apply BitVec.eq_of_toNat_eq
 rw [BitVec.toNat_ofNat, UInt8.toNat_ofNat', UInt8.toNat_ofNat']
 omega
theorem Vq {f : Pi} (h : okP f) : ofB (Xm f) = f := by
 have hf := f.hf
 have h0 := h
 obtain ⟨hr, ⟨⟨ha, hb, hc, hd⟩, _, _⟩, hz, _⟩ := h
 refine pi_ext ?_ ?_ ?_ ?_ ?_ ?_ ?_ ?_ ?_
 ·exact b8_n f.s (by omega) (by omega)
 ·exact b8_n f.p (by omega) (by omega)
 ·exact b8_n f.g (by omega) (by omega)
 ·exact b8_n f.e (by omega) (by omega)
 ·exact two_n f.a ha
 ·exact two_n f.b hb
 ·exact two_n f.c hc
 ·exact two_n f.d hd
 ·apply List.ext_getElem
  ·show ((List.range 8).map _).length = _; simp [hf]
  ·intro i h1 h2
   have hi : i < 8 := by omega
   obtain ⟨z, hz1, hz2, hz0⟩ := pickF h0 hi
   rw [ofB_f]
   unfold nb
   rw [hz2]
   rw [List.getElem?_map, List.getElem?_eq_getElem h2] at hz1
   simp only [Option.map_some, Option.some.injEq, Value.int.injEq, true_and] at hz1
   subst hz1
   have := hz _ (List.getElem_mem h2)
   exact b8_n _ (by omega) (by omega)
theorem Mf {f : Pi} (h : okP f) : good (Xm f) := ⟨Yu f, by rw [Vq h]; exact h, by rw [Vq h]⟩
theorem Ud {f : Pi} (h : okP f) : Xy (Xm f) = (f, 1) := by rw [Vj (Mf h), Vq h]
/-- one cell more of those that come -/
theorem fillV {V : List Value} {k n : Nat} {v z : Value} (hV : V.length = n) (hx : V[k]? = some v) : (V.take k ++ List.replicate (n - k) z).set k v = V.take (k + 1) ++ List.replicate (n - (k + 1)) z := by
 obtain ⟨hk, rfl⟩ := List.getElem?_eq_some_iff.1 hx
 have hl : (V.take k).length = k := by simp; omega
 rw [List.set_append_right _ _ (by omega), hl, Nat.sub_self, show n - k = (n - (k + 1)) + 1 by omega, List.replicate_succ, List.set_cons_zero, List.take_succ_eq_append_getElem hk, List.append_assoc]
 rfl
theorem bv_16 {n : Nat} (h : n < 65536) : (BitVec.ofNat 64 n).toInt = (n : Int) := by
 have e : (BitVec.ofNat 64 n).toNat = n := by rw [BitVec.toNat_ofNat]; omega
 rw [bv_small (by omega), e]
theorem pickV {xs : List UInt8} (h : xs.length = 24) {i : Nat} (hi : i < 4) : (piC (ofB xs))[4 + i]? = some (I ((xs[4 + 2 * i]'(by omega)).toNat * 256 + (xs[4 + 2 * i + 1]'(by omega)).toNat)) := by
 have key : ∀ k (hk : k + 1 < 24), (BitVec.ofNat 64 (nb xs k * 256 + nb xs (k + 1))).toInt = ((xs[k]'(by omega)).toNat * 256 + (xs[k + 1]'(by omega)).toNat : Int) := fun k hk => by
  have h1 := nb_lt xs k
  have h2 := nb_lt xs (k + 1)
  rw [bv_16 (by omega), Me (by omega), Me (by omega)]
  omega
 match i, hi with
 | 0, _ => exact congrArg (fun v => some (I v)) (key 4 (by decide))
 | 1, _ => exact congrArg (fun v => some (I v)) (key 6 (by decide))
 | 2, _ => exact congrArg (fun v => some (I v)) (key 8 (by decide))
 | 3, _ => exact congrArg (fun v => some (I v)) (key 10 (by decide))
theorem pickW {xs : List UInt8} (h : xs.length = 24) {i : Nat} (hi : i < 8) : (piC (ofB xs))[8 + i]? = some (I (xs[12 + i]'(by omega)).toNat) := by
 rw [pi_fd hi, ofB_f, Me (by omega)]
theorem pickB {b i : Nat} (hi : i < 4) : [ptr b 4, ptr b 5, ptr b 6, ptr b 7][i]? = some (ptr b (4 + i)) := by
 match i, hi with
 | 0, _ => rfl
 | 1, _ => rfl
 | 2, _ => rfl
 | 3, _ => rfl
theorem first4 {xs : List UInt8} (h : xs.length = 24) : (piC (ofB xs)).take 4 = [I (xs[0]'(by omega)).toNat, I (xs[1]'(by omega)).toNat, I (xs[2]'(by omega)).toNat, I (xs[3]'(by omega)).toNat] := by
 rw [← Me, ← Me, ← Me, ← Me]
 rfl
theorem Zw {xs : List UInt8} {w : World} {l : Value} (hl : RdS w l (xs.map U)) (h8 : xs.length = 24) :
  Ret Tryz.prog 169 #[l] w fun v w' => v = .tuple #[vP (ofB xs), .bool (decide (okP (ofB xs) ∧ Xm (ofB xs) = xs))] ∧ Hp w [] w' := by
 refine Qy (args := [_]) func169 rfl ntmps169 results169 (by simp) ?_
 have H := Hp.refl w
 have hl0 := hl
 obtain ⟨ao, ca, hlca, hra, rfl⟩ : ∃ ao ca, xs.length ≤ ca ∧ (xs.map U = [] ∨ ∃ b off, ao = some ⟨b, off, none⟩ ∧ ∀ j u, (xs.map U)[j]? = some u → w.cell? ⟨b, off + j, none⟩ = some u) ∧ l = .slice ao xs.length ca := by
  obtain ⟨ao, ca, h1, h2, h3⟩ := hl
  rw [List.length_map] at h1 h2
  exact ⟨ao, ca, h2, h3, h1⟩
 obtain ⟨bz, oz, rfl, hcell⟩ : ∃ b off, ao = some ⟨b, off, none⟩ ∧ ∀ j u, (xs.map U)[j]? = some u → w.cell? ⟨b, off + j, none⟩ = some u := by
  rcases hra with h | h
  ·have := congrArg List.length h; rw [List.length_map, List.length_nil] at this; omega
  ·exact h
 have hm : ∀ {i : Nat} (hi : i < xs.length), w.cell? ⟨bz, oz + i, none⟩ = some (U xs[i]) := fun {i} hi => hcell i _ (by rw [List.getElem?_map, List.getElem?_eq_getElem hi]; rfl)
 have h0 := hm (i := 0) (by omega)
 have h1 := hm (i := 1) (by omega)
 have h2 := hm (i := 2) (by omega)
 have h3 := hm (i := 3) (by omega)
 rw [h8] at hl0 hlca ⊢
 have hVl := Ya (ofB xs)
 have hV4 := first4 h8
 obtain ⟨ff, hff⟩ : ∃ ff : Pi, ff = ofB xs := ⟨_, rfl⟩
 rw [← hff]
 rw [← hff] at hVl hV4
 obtain ⟨p0, hp0⟩ : ∃ p0 : Pi, p0 = ⟨(xs[0]'(by omega)).toNat, (xs[1]'(by omega)).toNat, (xs[2]'(by omega)).toNat, (xs[3]'(by omega)).toNat, 0, 0, 0, 0, List.replicate 8 0, rfl⟩ := ⟨_, rfl⟩
 have hp0v : piC p0 = [I (xs[0]'(by omega)).toNat, I (xs[1]'(by omega)).toNat, I (xs[2]'(by omega)).toNat, I (xs[3]'(by omega)).toNat] ++ List.replicate 12 (I 0) := by rw [hp0]; rfl
 have hp04 : piC p0 = (piC ff).take (4 + 0) ++ List.replicate (16 - (4 + 0)) (I 0) := by rw [hp0v, hV4]
 (refine Js (Jr (Qb rfl (Qt H) ?_)); clear H; intro b2 w3 hb2 H)
 refine Ja (Jn (Js ?_))
 (refine Xi (KH w [(b2, blk (piC Xn) 58)]) (fun _ => false) (by kernel_rfl) H ?_; clear H; intro w7 H)
 (refine Am 0 rfl H.kK (Az 1 rfl rfl H.kK (fun _ hC => Qj underlying36 sizeOf5 rfl rfl (by omega) (by omega) Xt) (Az 2 rfl rfl H.kK (fun _ hC => Qx isAgg5 rfl (hC.old.cell h0 (by simp))) (Az 3 rfl rfl H.kK (fun _ hC => Xe underlying5 underlying3 rfl Yf) (Am 4 rfl H.kK (Az 5 rfl rfl H.kK (fun _ hC => Qj underlying36 sizeOf5 rfl rfl (by omega) (by omega) Xt) (Az 6 rfl rfl H.kK (fun _ hC => Qx isAgg5 rfl (hC.old.cell h1 (by simp))) (Az 7 rfl rfl H.kK (fun _ hC => Xe underlying5 underlying3 rfl Yf) (Am 8 rfl H.kK (Az 9 rfl rfl H.kK (fun _ hC => Qj underlying36 sizeOf5 rfl rfl (by omega) (by omega) Xt) (Az 10 rfl rfl H.kK (fun _ hC => Qx isAgg5 rfl (hC.old.cell h2 (by simp))) (Az 11 rfl rfl H.kK (fun _ hC => Xe underlying5 underlying3 rfl Yf) (Am 12 rfl H.kK (Az 13 rfl rfl H.kK (fun _ hC => Qj underlying36 sizeOf5 rfl rfl (by omega) (by omega) Xt) (Az 14 rfl rfl H.kK (fun _ hC => Qx isAgg5 rfl (hC.old.cell h3 (by simp))) (Az 15 rfl rfl H.kK (fun _ hC => Xe underlying5 underlying3 rfl Yf) (Az 16 rfl rfl H.kK (fun _ hC => Qm (places := [(0, 1), (1, 1), (2, 1), (3, 1), (4, 1), (5, 1), (6, 1), (7, 1), (8, 8)]) (vs := [I (xs[0]'(by omega)).toNat, I (xs[1]'(by omega)).toNat, I (xs[2]'(by omega)).toNat, I (xs[3]'(by omega)).toNat] ++ List.replicate 12 (I 0)) underlying58 typeInfo58 rfl rfl (by kernel_rfl) rfl rfl rfl) (Ao 17 (Xd rfl (.inl rfl) (Qt H) (fun _ _ _ H => kC) ?_)))))))))))))))))); clear H; intro b4 w26 hb4 H)
 (refine Ao 18 (Xb rfl (.inl rfl) (Qn (q := p0) H rfl (congrArg (fun l => Value.agg (List.toArray l)) hp0v.symm) .here) (fun _ H => kC) ?_); clear H; intro w28 H)
 (refine Ad (Js (Js (Jr (Jf 4 underlying58 rfl sizeOf3 rfl rfl (Jf 5 underlying58 rfl sizeOf3 rfl rfl (Jf 6 underlying58 rfl sizeOf3 rfl rfl (Jf 7 underlying58 rfl sizeOf3 rfl rfl (Qb rfl (Xk (vs := [ptr b4 4, ptr b4 5, ptr b4 6, ptr b4 7]) H underlying308 sizeOf307 zeroValue307 rfl rfl (by decide) rfl rfl (by simp [Value.oneCell'])) ?_)))))))); clear H; intro b31 w37 hb31 H)
 refine J (Qh underlying308 rfl) (Jm (Jn (Jb ?_)))
 refine Yg [(5, 6), (33, 48)] (fun (i : Nat) E w' => i ≤ 4 ∧ E 33 = I i ∧ Hp w [(b31, blk [ptr b4 4, ptr b4 5, ptr b4 6, ptr b4 7] 307), (b4, blk ((piC ff).take (4 + i) ++ List.replicate (16 - (4 + i)) (I 0)) 58), (b2, blk (piC Xn) 58)] w') (fun i => 4 - i) 0 ?e0 ?r0
 ·exact ⟨by omega, rfl, by rw [← hp04]; exact H⟩
 ·(clear H; rintro i E w1 ⟨hi, h9, H⟩; refine Ur h9 ?_; by_cases hlt : i < 4)
  ·(refine Js (Jr (J (Za rfl rfl (by omega)) (Jn (Js (Jd rfl (Jk (Js (Jb (Js (Jr (Jm (J (Qj underlying308 sizeOf307 rfl rfl (by omega) (by omega) Bz) (J (Qe (v := ptr b4 (4 + i)) isAgg307 rfl (H.get .here) (pickB hlt)) (Ja (Ja (Jn (Jr (Jm (Jm (Jm (J (Bs (r := ((2 * i : Nat) : Int)) rfl rfl (by rw [Xc (by omega)]; omega)) (J (Xg (r := ((4 + 2 * i : Nat) : Int)) rfl rfl (by rw [Xc (by omega)]; omega)) (Jz rfl call201 rfl (get2_yes (xs := xs) (k := 4 + 2 * i) (hl0.Yd H kYs) (by omega) (by omega)) H ?_))))))))))))))))))))))); intro w67 H)
   refine Jm (Jx rfl rfl (Jx rfl rfl (Ji rfl ?_)))
   (have _g := hlt; refine Qd rfl (Qz (v := I (xs[4 + 2 * i].toNat * 256 + xs[4 + 2 * i + 1].toNat)) H sizeOf3 rfl rfl rfl (.there .here) (by simp [hVl]; omega)) ?_; clear H; intro w72 H; rw [fillV hVl (by rw [hff]; exact pickV h8 hlt)] at H)
   refine Jn (Jr (J (Xg rfl rfl (Xc (by omega))) (Jm (Jn ?_))))
   exact ⟨kS, i + 1, by omega, by omega, rfl, H⟩
  ·refine Js (Jr (J (Xp rfl rfl (by omega)) (Jn (Js (Jc rfl (Xr ?_))))))
   refine (if_pos rfl).mpr ?_
   refine Js (Js (Jr (Jm (Jn (Jb ?_)))))
   refine Yg [(7, 7), (49, 61)] (fun (m : Nat) E w' => m ≤ 8 ∧ E 49 = I m ∧ Hp w [(b31, blk [ptr b4 4, ptr b4 5, ptr b4 6, ptr b4 7] 307), (b4, blk ((piC ff).take (8 + m) ++ List.replicate (16 - (8 + m)) (I 0)) 58), (b2, blk (piC Xn) 58)] w') (fun m => 8 - m) 0 ?e2 ?r2
   ·(obtain rfl : i = 4 := (by omega); exact ⟨by omega, rfl, H⟩)
   ·(clear H; rintro m E w1 ⟨hmm, h9, H⟩; refine Ur h9 ?_; by_cases hlm : m < 8)
    ·refine Js (Jr (J (Za rfl rfl (by omega)) (Jn (Js (Jd rfl (Jk (Js (Jb (Js (Jr (Jm (Ja (Jn (Jr (Jm (Jm (Jm (J (Xg (r := ((12 + m : Nat) : Int)) rfl rfl (by rw [Xc (by omega)]; omega)) (J (Qj underlying36 sizeOf5 rfl rfl (by omega) (by omega) Xt) (J (Qx (v := U xs[12 + m]) isAgg5 rfl (H.Zx (hm (i := 12 + m) (by omega)) kYs)) (J (Xe underlying5 underlying3 rfl Yf) (Jf 8 underlying58 rfl sizeOf56 rfl rfl (J (Yq (off' := 8 + m) underlying56 sizeOf3 rfl rfl (by omega) (by omega) (by omega)) ?_)))))))))))))))))))))))
     (have _g := hlm; refine Qd rfl (Qz (v := I xs[12 + m].toNat) H sizeOf3 rfl rfl rfl (.there .here) (by simp [hVl]; omega)) ?_; clear H; intro w119 H; rw [fillV hVl (by rw [hff]; exact pickW h8 hlm)] at H)
     refine Jn (Jr (J (Xg rfl rfl (Xc (by omega))) (Jm (Jn ?_))))
     exact ⟨kS, m + 1, by omega, by omega, rfl, H⟩
    ·refine Js (Jr (J (Xp rfl rfl (by omega)) (Jn (Js (Jc rfl (Xr ?_))))))
     refine (if_pos rfl).mpr ?_
     refine Js ?_
     ((obtain rfl : m = 8 := (by omega); replace H := H.pop hb31; rw [List.take_of_length_le (l := piC ff) (i := 8 + 8) (by omega), show 16 - (8 + 8) = 0 from rfl, List.replicate_zero, List.append_nil] at H)) <;> refine Qk ?_
     (refine J (Xa rfl (H.get .here)) (Jy rfl call91 rfl (Bl ff _) ?_); rintro _ w137 (⟨hok, b9, rfl, hb9, H1⟩ | ⟨hok, rfl, H1⟩); (have hsz := H.size; replace H := H.Zo H1 (Qu hb9 Xu); replace hb9 := Nat.le_trans hsz hb9; clear H1 hsz); rotate_left; (replace H := H.seq0 H1; clear H1))
     ·refine Jm (Jx rfl rfl (Jx rfl rfl (Ja (Ja (Jn (Js ?_))))))
      (refine Xi (KH w [(b4, blk (piC ff) 58)]) (fun _ => false) (by kernel_rfl) H ?_; clear H; intro w145 H)
      (refine Az 0 rfl rfl H.kK (fun _ hC => Xa rfl (hC.get .here)) (Am 1 rfl H.kK (Am 2 rfl H.kK (Aq 3 rfl rfl (fun h => nomatch h) H.kK (Aq 4 rfl rfl (fun h => nomatch h) H.kK (Aq 5 rfl rfl (fun h => nomatch h) H.kK (Ah 6 rfl rfl H.kK (fun _ hC => Zg rfl) (Ao 7 (Xb rfl (.inl rfl) (Qn (q := ff) H rfl rfl (.there .here)) (fun _ H => kC) ?_)))))))); clear H; intro w154 H)
      refine Aa 8 rfl H.kK (Ad (Je ?_))
      exact ⟨_, ⟨_, _, rfl, ldP (p := ff) (H.get (.there .here)), rfl⟩, congrArg (fun b => Value.tuple #[vP ff, .bool b]) (decide_eq_false (fun h => hok h.1)).symm, H.none kYs⟩
     ·refine Jm (Jx rfl rfl (Jx rfl rfl (Ja (Ja (Jn (Js ?_))))))
      (refine Xi (KH w [(b9, blk ((Xm ff).map U) 5), (b4, blk (piC ff) 58)]) (fun _ => false) (by kernel_rfl) H ?_; clear H; intro w166 H)
      (refine Az 0 rfl rfl H.kK (fun _ hC => Xa rfl (hC.get (.there .here))) (Am 1 rfl H.kK (Am 2 rfl H.kK (Ai 3 rfl rfl rfl H.kK (fun _ hC => Va) (Ai 4 rfl rfl rfl H.kK (fun _ hC => Va) (Ao 5 (Qv rfl (.inr ⟨_, _, rfl, rfl⟩) (Qw rfl call197 rfl) (equal_ret (xs := Xm ff) (ys := xs) (RdS.blk (c := (Xm ff).map U) (off := 0) (H.get .here) (by rw [List.drop_zero, List.take_of_length_le (by rw [List.length_map, Yu]; decide)]) (by rw [List.length_map, Yu]; decide) (by decide)) (hl0.Yd H kYs) (by rw [Yu]; decide) (by omega)) (fun _ _ hR _ => (H.seq0 hR.2).kh (by simp) kYs) ?_)))))); rintro _ w173 ⟨rfl, H1⟩; replace H := H.seq0 H1; clear H1)
      (refine Ah 6 rfl rfl H.kK (fun _ hC => Ug rfl) (Ao 7 (Xb rfl (.inl rfl) (Qn (q := ff) H rfl rfl (.there (.there .here))) (fun _ H => kC) ?_)); clear H; intro w176 H)
      refine Aa 8 rfl H.kK (Ad (Je ?_))
      exact ⟨_, ⟨_, _, rfl, ldP (p := ff) (H.get (.there (.there .here))), rfl⟩, congrArg (fun b => Value.tuple #[vP ff, .bool b]) (decide_eq_decide.2 ⟨fun h => ⟨hok, h⟩, fun h => h.2⟩), H.none kYs⟩
end Go.Proofs.YtlpmfldijgdcoaaGreatDoor.Slot
namespace Go.Proofs.YtlpmfldijgdcoaaGreatDoor.Slot
open Go Go.Proofs Fx Codec Tryz
/-- what a call yields, as two ways -/
theorem Dj {xs : List UInt8} {q : Nat} {w : World} {l : Value} (hq : w.heap[q]? = some cod) (hl : RdS w l (xs.map U)) (hb : xs.length ≤ 9223372036854775807) :
  Ret Tryz.prog 147 #[ptr q 0, l] w fun v w' => ((good xs ∧ v = .tuple #[vP (ofB xs), .bool true]) ∨ (¬ good xs ∧ v = .tuple #[vP Xn, .bool false])) ∧ Hp w [] w' := by
 refine Qy (args := [_, _]) func147 rfl ntmps147 results147 (by simp) ?_
 have H := Hp.refl w
 obtain ⟨ao, ca, rfl⟩ := hl.form
 simp only [List.length_map] at hl ⊢
 by_cases h8 : xs.length = 24
 ·by_cases hg : good xs
  ·(refine Js (Jr (Qb rfl (Qt H) ?_)); clear H; intro b4 w3 hb4 H)
   (refine Ja (Jn (Js (Jr (Qb rfl (Qt H) ?_)))); clear H; intro b6 w8 hb6 H)
   refine Jn (Js (Js (Jr (Jm (Ji rfl (Jf 2 underlying270 rfl sizeOf245 rfl rfl (Jl isAgg245 rfl (H.Qc hq kYs) rfl (J (Vy underlying245 rfl rfl) (Jm (Jt rfl rfl (Jm (Jt rfl rfl (J (Qh underlying36 rfl) (Jt rfl rfl (Jm (Jt rfl rfl (Ji rfl (Jt rfl rfl (Jf 0 underlying270 rfl sizeOf3 rfl rfl (Jt rfl rfl (Jl isAgg3 rfl (H.Qc hq kYs) rfl (Jt rfl rfl (J (Yl rfl rfl (by omega)) (Jp rfl (Jn (Jc rfl (Jk (Js ?_))))))))))))))))))))))))))))
   (refine Xi (KH w []) (fun _ => false) (by kernel_rfl) H ?_; clear H; intro w38 H)
   refine Am 0 rfl H.kK (Az 1 rfl rfl H.kK (fun _ hC => Qf rfl) (Az 2 rfl rfl H.kK (fun _ hC => Qa (off' := 2) underlying270 rfl sizeOf245 (by decide) rfl rfl) (Az 3 rfl rfl H.kK (fun _ hC => Qe isAgg245 rfl (hC.old.block hq (by simp)) rfl) (Am 4 rfl H.kK (Zf (i := 5) (j := 10) (by kernel_rfl) ?_ ?_)))))
   ·(refine Qv rfl (.inl rfl) (Qw rfl call65 rfl) (Ze (xs := xs) (hl.Yd H kYs) (by omega)) (fun _ _ ⟨M, hO, H1⟩ _ => ((H.Yn hO H1).2).kh (by simp) (Yv (H.Yn hO H1).1.keys kYs)) ?_; rintro u w45 ⟨M, hO, H1⟩; have h45 := H.Yn hO H1; clear H H1 hO; obtain ⟨hO, H⟩ := h45; have hMk := hO.keys; obtain ⟨a5, c5, rfl⟩ := hO.form)
    refine Zf (i := 6) (j := 10) (by kernel_rfl) ?_ ?_
    ·(refine Qv rfl (.inl rfl) (Qw rfl call169 rfl) (Zw (xs := xs) (RdS.own hO (fun p hp => H.held p (by simp [hp]))) h8) (fun _ _ hR _ => (H.seq0 hR.2).kh (by simp) kYs) ?_; rintro v w47 ⟨hv, H1⟩; rw [decide_eq_true hg.2] at hv; subst hv; replace H := H.seq0 H1; clear H1)
     (refine Am 7 rfl H.kK (Az 8 rfl rfl H.kK (fun _ hC => Qs rfl rfl) (Az 9 rfl rfl H.kK (fun _ hC => Qs rfl rfl) (Ao 10 (Xd rfl (.inl rfl) (Qt H) (fun _ _ _ H => kC) ?_)))); clear H; intro b7 w52 hb7 H)
     (refine Ao 11 (Xb rfl (.inl rfl) (Qn (q := (ofB xs)) H rfl rfl .here) (fun _ H => kC) ?_); clear H; intro w54 H; replace H := Hp.Uv (A := [_]) H hMk)
     (refine Aa 12 rfl H.kK (Ad (Js (Js (Jr (Jm (J (Xj rfl) (Jn (Jc rfl (Jk (Js (Jr (J (Xa rfl (H.get .here)) (Qd rfl (Qn (q := (ofB xs)) H rfl rfl (.there (.there .here))) ?_))))))))))))); clear H; intro w68 H)
     refine Ja (Jn (Je ?_))
     exact ⟨_, ⟨_, _, rfl, ldP (p := (ofB xs)) (H.get (.there (.there .here))), rfl⟩, .inl ⟨hg, rfl⟩, H.none kYs⟩
    ·(refine Xd rfl (.inl rfl) (Qt H) (fun _ _ _ H => kC) ?_; clear H; intro b7 w73 hb7 H)
     (refine Ao 6 (Qv rfl (.inl rfl) (Qw rfl call169 rfl) (Zw (xs := xs) (RdS.own hO (fun p hp => H.held p (by simp [hp]))) h8) (fun _ _ hR _ => (H.seq0 hR.2).kh (by simp) kYs) ?_); rintro v w75 ⟨hv, H1⟩; rw [decide_eq_true hg.2] at hv; subst hv; replace H := H.seq0 H1; clear H1)
     (refine Am 7 rfl H.kK (Az 8 rfl rfl H.kK (fun _ hC => Qs rfl rfl) (Az 9 rfl rfl H.kK (fun _ hC => Qs rfl rfl) (Ao 11 (Xb rfl (.inl rfl) (Qn (q := (ofB xs)) H rfl rfl .here) (fun _ H => kC) ?_)))); clear H; intro w80 H; replace H := Hp.Uv (A := [_]) H hMk)
     (refine Aa 12 rfl H.kK (Ad (Js (Js (Jr (Jm (J (Xj rfl) (Jn (Jc rfl (Jk (Js (Jr (J (Xa rfl (H.get .here)) (Qd rfl (Qn (q := (ofB xs)) H rfl rfl (.there (.there .here))) ?_))))))))))))); clear H; intro w94 H)
     refine Ja (Jn (Je ?_))
     exact ⟨_, ⟨_, _, rfl, ldP (p := (ofB xs)) (H.get (.there (.there .here))), rfl⟩, .inl ⟨hg, rfl⟩, H.none kYs⟩
   ·(refine Xd rfl (.inl rfl) (Qt H) (fun _ _ _ H => kC) ?_; clear H; intro b7 w99 hb7 H)
    (refine Ao 5 (Qv rfl (.inl rfl) (Qw rfl call65 rfl) (Ze (xs := xs) (hl.Yd H kYs) (by omega)) (fun _ _ ⟨M, hO, H1⟩ _ => ((H.Yn hO H1).2).kh (by simp) (Yv (H.Yn hO H1).1.keys kYs)) ?_); rintro u w101 ⟨M, hO, H1⟩; have h101 := H.Yn hO H1; clear H H1 hO; obtain ⟨hO, H⟩ := h101; have hMk := hO.keys; obtain ⟨a5, c5, rfl⟩ := hO.form)
    (refine Ao 6 (Qv rfl (.inl rfl) (Qw rfl call169 rfl) (Zw (xs := xs) (RdS.own hO (fun p hp => H.held p (by simp [hp]))) h8) (fun _ _ hR _ => (H.seq0 hR.2).kh (by simp) kYs) ?_); rintro v w103 ⟨hv, H1⟩; rw [decide_eq_true hg.2] at hv; subst hv; replace H := H.seq0 H1; clear H1)
    (refine Am 7 rfl H.kK (Az 8 rfl rfl H.kK (fun _ hC => Qs rfl rfl) (Az 9 rfl rfl H.kK (fun _ hC => Qs rfl rfl) (Ao 11 (Xb rfl (.inl rfl) (Qn (q := (ofB xs)) H rfl rfl (.app _ .here)) (fun _ H => kC) ?_)))); clear H; intro w108 H; replace H := Hp.Ub H hMk)
    (refine Aa 12 rfl H.kK (Ad (Js (Js (Jr (Jm (J (Xj rfl) (Jn (Jc rfl (Jk (Js (Jr (J (Xa rfl (H.get .here)) (Qd rfl (Qn (q := (ofB xs)) H rfl rfl (.there (.there .here))) ?_))))))))))))); clear H; intro w122 H)
    refine Ja (Jn (Je ?_))
    exact ⟨_, ⟨_, _, rfl, ldP (p := (ofB xs)) (H.get (.there (.there .here))), rfl⟩, .inl ⟨hg, rfl⟩, H.none kYs⟩
  ·(refine Js (Jr (Qb rfl (Qt H) ?_)); clear H; intro b4 w3 hb4 H)
   (refine Ja (Jn (Js (Jr (Qb rfl (Qt H) ?_)))); clear H; intro b6 w8 hb6 H)
   refine Jn (Js (Js (Jr (Jm (Ji rfl (Jf 2 underlying270 rfl sizeOf245 rfl rfl (Jl isAgg245 rfl (H.Qc hq kYs) rfl (J (Vy underlying245 rfl rfl) (Jm (Jt rfl rfl (Jm (Jt rfl rfl (J (Qh underlying36 rfl) (Jt rfl rfl (Jm (Jt rfl rfl (Ji rfl (Jt rfl rfl (Jf 0 underlying270 rfl sizeOf3 rfl rfl (Jt rfl rfl (Jl isAgg3 rfl (H.Qc hq kYs) rfl (Jt rfl rfl (J (Yl rfl rfl (by omega)) (Jp rfl (Jn (Jc rfl (Jk (Js ?_))))))))))))))))))))))))))))
   (refine Xi (KH w []) (fun _ => false) (by kernel_rfl) H ?_; clear H; intro w38 H)
   refine Am 0 rfl H.kK (Az 1 rfl rfl H.kK (fun _ hC => Qf rfl) (Az 2 rfl rfl H.kK (fun _ hC => Qa (off' := 2) underlying270 rfl sizeOf245 (by decide) rfl rfl) (Az 3 rfl rfl H.kK (fun _ hC => Qe isAgg245 rfl (hC.old.block hq (by simp)) rfl) (Am 4 rfl H.kK (Zf (i := 5) (j := 10) (by kernel_rfl) ?_ ?_)))))
   ·(refine Qv rfl (.inl rfl) (Qw rfl call65 rfl) (Ze (xs := xs) (hl.Yd H kYs) (by omega)) (fun _ _ ⟨M, hO, H1⟩ _ => ((H.Yn hO H1).2).kh (by simp) (Yv (H.Yn hO H1).1.keys kYs)) ?_; rintro u w45 ⟨M, hO, H1⟩; have h45 := H.Yn hO H1; clear H H1 hO; obtain ⟨hO, H⟩ := h45; have hMk := hO.keys; obtain ⟨a5, c5, rfl⟩ := hO.form)
    refine Zf (i := 6) (j := 10) (by kernel_rfl) ?_ ?_
    ·(refine Qv rfl (.inl rfl) (Qw rfl call169 rfl) (Zw (xs := xs) (RdS.own hO (fun p hp => H.held p (by simp [hp]))) h8) (fun _ _ hR _ => (H.seq0 hR.2).kh (by simp) kYs) ?_; rintro v w47 ⟨hv, H1⟩; rw [decide_eq_false (fun h => hg ⟨h8, h⟩)] at hv; subst hv; replace H := H.seq0 H1; clear H1)
     (refine Am 7 rfl H.kK (Az 8 rfl rfl H.kK (fun _ hC => Qs rfl rfl) (Az 9 rfl rfl H.kK (fun _ hC => Qs rfl rfl) (Ao 10 (Xd rfl (.inl rfl) (Qt H) (fun _ _ _ H => kC) ?_)))); clear H; intro b7 w52 hb7 H)
     (refine Ao 11 (Xb rfl (.inl rfl) (Qn (q := (ofB xs)) H rfl rfl .here) (fun _ H => kC) ?_); clear H; intro w54 H; replace H := Hp.Uv (A := [_]) H hMk)
     (refine Aa 12 rfl H.kK (Ad (Js (Js (Jr (Jm (J (Xx rfl) (Jn (Jd rfl (Js (Jr (J (Xa rfl (H.get (.there .here))) (Qd rfl (Qn (q := Xn) H rfl rfl (.there (.there .here))) ?_)))))))))))); clear H; intro w67 H)
     refine Ja (Jn (Je ?_))
     exact ⟨_, ⟨_, _, rfl, ldP (p := Xn) (H.get (.there (.there .here))), rfl⟩, .inr ⟨hg, rfl⟩, H.none kYs⟩
    ·(refine Xd rfl (.inl rfl) (Qt H) (fun _ _ _ H => kC) ?_; clear H; intro b7 w72 hb7 H)
     (refine Ao 6 (Qv rfl (.inl rfl) (Qw rfl call169 rfl) (Zw (xs := xs) (RdS.own hO (fun p hp => H.held p (by simp [hp]))) h8) (fun _ _ hR _ => (H.seq0 hR.2).kh (by simp) kYs) ?_); rintro v w74 ⟨hv, H1⟩; rw [decide_eq_false (fun h => hg ⟨h8, h⟩)] at hv; subst hv; replace H := H.seq0 H1; clear H1)
     (refine Am 7 rfl H.kK (Az 8 rfl rfl H.kK (fun _ hC => Qs rfl rfl) (Az 9 rfl rfl H.kK (fun _ hC => Qs rfl rfl) (Ao 11 (Xb rfl (.inl rfl) (Qn (q := (ofB xs)) H rfl rfl .here) (fun _ H => kC) ?_)))); clear H; intro w79 H; replace H := Hp.Uv (A := [_]) H hMk)
     (refine Aa 12 rfl H.kK (Ad (Js (Js (Jr (Jm (J (Xx rfl) (Jn (Jd rfl (Js (Jr (J (Xa rfl (H.get (.there .here))) (Qd rfl (Qn (q := Xn) H rfl rfl (.there (.there .here))) ?_)))))))))))); clear H; intro w92 H)
     refine Ja (Jn (Je ?_))
     exact ⟨_, ⟨_, _, rfl, ldP (p := Xn) (H.get (.there (.there .here))), rfl⟩, .inr ⟨hg, rfl⟩, H.none kYs⟩
   ·(refine Xd rfl (.inl rfl) (Qt H) (fun _ _ _ H => kC) ?_; clear H; intro b7 w97 hb7 H)
    (refine Ao 5 (Qv rfl (.inl rfl) (Qw rfl call65 rfl) (Ze (xs := xs) (hl.Yd H kYs) (by omega)) (fun _ _ ⟨M, hO, H1⟩ _ => ((H.Yn hO H1).2).kh (by simp) (Yv (H.Yn hO H1).1.keys kYs)) ?_); rintro u w99 ⟨M, hO, H1⟩; have h99 := H.Yn hO H1; clear H H1 hO; obtain ⟨hO, H⟩ := h99; have hMk := hO.keys; obtain ⟨a5, c5, rfl⟩ := hO.form)
    (refine Ao 6 (Qv rfl (.inl rfl) (Qw rfl call169 rfl) (Zw (xs := xs) (RdS.own hO (fun p hp => H.held p (by simp [hp]))) h8) (fun _ _ hR _ => (H.seq0 hR.2).kh (by simp) kYs) ?_); rintro v w101 ⟨hv, H1⟩; rw [decide_eq_false (fun h => hg ⟨h8, h⟩)] at hv; subst hv; replace H := H.seq0 H1; clear H1)
    (refine Am 7 rfl H.kK (Az 8 rfl rfl H.kK (fun _ hC => Qs rfl rfl) (Az 9 rfl rfl H.kK (fun _ hC => Qs rfl rfl) (Ao 11 (Xb rfl (.inl rfl) (Qn (q := (ofB xs)) H rfl rfl (.app _ .here)) (fun _ H => kC) ?_)))); clear H; intro w106 H; replace H := Hp.Ub H hMk)
    (refine Aa 12 rfl H.kK (Ad (Js (Js (Jr (Jm (J (Xx rfl) (Jn (Jd rfl (Js (Jr (J (Xa rfl (H.get (.there .here))) (Qd rfl (Qn (q := Xn) H rfl rfl (.there (.there .here))) ?_)))))))))))); clear H; intro w119 H)
    refine Ja (Jn (Je ?_))
    exact ⟨_, ⟨_, _, rfl, ldP (p := Xn) (H.get (.there (.there .here))), rfl⟩, .inr ⟨hg, rfl⟩, H.none kYs⟩
 ·(refine Js (Jr (Qb rfl (Qt H) ?_)); clear H; intro b4 w3 hb4 H)
  (refine Ja (Jn (Js (Jr (Qb rfl (Qt H) ?_)))); clear H; intro b6 w8 hb6 H)
  (refine Jn (Js (Js (Jr (Jm (Ji rfl (Jf 2 underlying270 rfl sizeOf245 rfl rfl (Jl isAgg245 rfl (H.Qc hq kYs) rfl (J (Vy underlying245 rfl rfl) (Jm (Jt rfl rfl (Jm (Jt rfl rfl (J (Qh underlying36 rfl) (Jt rfl rfl (Jm (Jt rfl rfl (Ji rfl (Jt rfl rfl (Jf 0 underlying270 rfl sizeOf3 rfl rfl (Jt rfl rfl (Jl isAgg3 rfl (H.Qc hq kYs) rfl (Jt rfl rfl (J (Dq rfl rfl (by omega)) (Jp rfl (Jn (Jd rfl (Js (Jr (J (Xa rfl (H.get .here)) (Qd rfl (Qn (q := Xn) H rfl rfl (.there .here)) ?_)))))))))))))))))))))))))))))); clear H; intro w39 H)
  refine Ja (Jn (Je ?_))
  exact ⟨_, ⟨_, _, rfl, ldP (p := Xn) (H.get (.there .here)), rfl⟩, .inr ⟨fun hg => h8 hg.1, rfl⟩, H.none kYs⟩
theorem dec_ret {xs : List UInt8} {w : World} {l : Value} (hl : RdS w l (xs.map U)) (hb : xs.length ≤ 9223372036854775807) :
  Ret Tryz.prog 106 #[l] w fun v w' => v = .tuple #[vP (Xy xs).1, I (Xy xs).2] ∧ Hp w [] w' := by
 refine Qy (args := [_]) func106 rfl ntmps106 results106 (by simp) ?_
 have H := Hp.refl w
 obtain ⟨ao, ca, rfl⟩ := hl.form
 simp only [List.length_map] at hl ⊢
 by_cases hf : xs.length = 24 ∧ ∀ x ∈ xs, x = 0
 ·have h8 := hf.1
  rw [Uk hf.1 hf.2]
  (refine Js (Jr (Qb rfl (Qt H) ?_)); clear H; intro b2 w3 hb2 H)
  (refine Ja (Jn (Js (Js (Jr (Jm (J (Qh underlying36 rfl) (J (Yr rfl rfl (by omega)) (Jm (Jt rfl rfl (Jm (Jt rfl rfl (Jy rfl call146 rfl (Dx (hl.Yd H kYs) (by omega)) ?_)))))))))))); rintro v w16 ⟨hv, H1⟩; rw [decide_eq_true hf.2] at hv; subst hv; replace H := H.seq0 H1; clear H1)
  refine Jq rfl (Jn (Jd rfl (Js (Jr (Ym rfl Uw ?_)))))
  (refine Qd rfl (Qn (q := Xn) H rfl rfl .here) ?_; clear H; intro w23 H)
  refine Ja (Jn (Je ?_))
  exact ⟨_, ⟨_, _, rfl, ldP (p := Xn) (H.get .here), rfl⟩, rfl, H.none kYs⟩
 ·by_cases h8 : xs.length = 24
  ·(refine Js (Jr (Qb rfl (Qt H) ?_)); clear H; intro b2 w3 hb2 H)
   (refine Ja (Jn (Js (Js (Jr (Jm (J (Qh underlying36 rfl) (J (Yr rfl rfl (by omega)) (Jm (Jt rfl rfl (Jm (Jt rfl rfl (Jy rfl call146 rfl (Dx (hl.Yd H kYs) (by omega)) ?_)))))))))))); rintro v w16 ⟨hv, H1⟩; rw [decide_eq_false (fun h => hf ⟨h8, h⟩)] at hv; subst hv; replace H := H.seq0 H1; clear H1)
   (refine Jq rfl (Jn (Jc rfl (Jk (Js (Jr (Jy rfl call128 rfl (Vr _) ?_)))))); rintro _ w23 ⟨q, rfl, hq, H1⟩; have hsz := H.size; replace H := H.Zo H1 (Qu hq Xu); replace hq := Nat.le_trans hsz hq; clear H1 hsz)
   (refine Jm (Jy rfl call147 rfl (Dj (xs := xs) (H.get .here) (hl.Yd H kYs) hb) ?_); rintro _ w25 ⟨(⟨hg, rfl⟩ | ⟨hg, rfl⟩), H1⟩ <;> (replace H := H.seq0 H1; clear H1))
   ·(refine Jm (Jx rfl rfl (Jx rfl rfl (Qb rfl (Qt H) ?_))); clear H; intro b4 w29 hb4 H)
    (have _g := hg.1; refine Qd rfl (Qn (q := (ofB xs)) H rfl rfl .here) ?_; clear H; intro w30 H)
    refine Ja (Jn (Js (Js (Jr (Jm (J (Xj rfl) (Jn (Jc rfl (Jk (Js (Jr (J (Xa rfl (H.get .here)) ?_))))))))))))
    (have _g := hg.1; refine Qd rfl (Qn (q := (ofB xs)) H rfl rfl (.there (.there .here))) ?_; clear H; intro w44 H)
    refine Ja (Jn (Je ?_))
    exact ⟨_, ⟨_, _, rfl, ldP (p := (ofB xs)) (H.get (.there (.there .here))), rfl⟩, (by rw [Vj hg]; rfl), H.none kYs⟩
   ·(refine Jm (Jx rfl rfl (Jx rfl rfl (Qb rfl (Qt H) ?_))); clear H; intro b4 w52 hb4 H)
    (refine Qd rfl (Qn (q := Xn) H rfl rfl .here) ?_; clear H; intro w53 H)
    refine Ja (Jn (Js (Js (Jr (Jm (J (Xx rfl) (Jn (Jd rfl (Js (Jr (Ym rfl Uw ?_)))))))))))
    (refine Qd rfl (Qn (q := Xn) H rfl rfl (.there (.there .here))) ?_; clear H; intro w66 H)
    refine Ja (Jn (Je ?_))
    exact ⟨_, ⟨_, _, rfl, ldP (p := Xn) (H.get (.there (.there .here))), rfl⟩, (by rw [Ue hg hf]; rfl), H.none kYs⟩
  ·(refine Js (Jr (Qb rfl (Qt H) ?_)); clear H; intro b2 w3 hb2 H)
   (refine Ja (Jn (Js (Js (Jr (Jm (J (Qh underlying36 rfl) (J (Xf rfl rfl (by omega)) (Jm (Jg rfl rfl (Jg rfl rfl (Jp rfl (Jn (Jc rfl (Jk (Js (Jr (Jy rfl call128 rfl (Vr _) ?_))))))))))))))))); rintro _ w21 ⟨q, rfl, hq, H1⟩; have hsz := H.size; replace H := H.Zo H1 (Qu hq Xu); replace hq := Nat.le_trans hsz hq; clear H1 hsz)
   (refine Jm (Jy rfl call147 rfl (Dj (xs := xs) (H.get .here) (hl.Yd H kYs) hb) ?_); rintro _ w23 ⟨(⟨hg, rfl⟩ | ⟨hg, rfl⟩), H1⟩ <;> (replace H := H.seq0 H1; clear H1))
   ·(refine Jm (Jx rfl rfl (Jx rfl rfl (Qb rfl (Qt H) ?_))); clear H; intro b4 w27 hb4 H)
    (have _g := hg.1; refine Qd rfl (Qn (q := (ofB xs)) H rfl rfl .here) ?_; clear H; intro w28 H)
    refine Ja (Jn (Js (Js (Jr (Jm (J (Xj rfl) (Jn (Jc rfl (Jk (Js (Jr (J (Xa rfl (H.get .here)) ?_))))))))))))
    (have _g := hg.1; refine Qd rfl (Qn (q := (ofB xs)) H rfl rfl (.there (.there .here))) ?_; clear H; intro w42 H)
    refine Ja (Jn (Je ?_))
    exact ⟨_, ⟨_, _, rfl, ldP (p := (ofB xs)) (H.get (.there (.there .here))), rfl⟩, (by rw [Vj hg]; rfl), H.none kYs⟩
   ·(refine Jm (Jx rfl rfl (Jx rfl rfl (Qb rfl (Qt H) ?_))); clear H; intro b4 w50 hb4 H)
    (refine Qd rfl (Qn (q := Xn) H rfl rfl .here) ?_; clear H; intro w51 H)
    refine Ja (Jn (Js (Js (Jr (Jm (J (Xx rfl) (Jn (Jd rfl (Js (Jr (Ym rfl Uw ?_)))))))))))
    (refine Qd rfl (Qn (q := Xn) H rfl rfl (.there (.there .here))) ?_; clear H; intro w64 H)
    refine Ja (Jn (Je ?_))
    exact ⟨_, ⟨_, _, rfl, ldP (p := Xn) (H.get (.there (.there .here))), rfl⟩, (by rw [Ue hg hf]; rfl), H.none kYs⟩
end Go.Proofs.YtlpmfldijgdcoaaGreatDoor.Slot
namespace Go.Proofs.YtlpmfldijgdcoaaGreatDoor.File
open Go Go.Proofs Fx Codec Tryz
/-- a file -/
structure Fl where
 k : Int
 p : Int
 r : Int
 g : Int
def flC (f : Fl) : List Value := [I f.k, I f.p, I f.r, I f.g]
def Yz (f : Fl) : Prop := (1 ≤ f.k ∧ f.k ≤ 3) ∧ (0 ≤ f.p ∧ f.p ≤ 7) ∧ (f.k ≠ 3 ∨ f.p = 0) ∧ (1 ≤ f.r ∧ f.r ≤ 64) ∧ (f.g = 0 ∨ f.g = 1)
instance (f : Fl) : Decidable (Yz f) := by unfold Yz; infer_instance
def b8 (n : Int) : UInt8 := UInt8.ofNat n.toNat
theorem Dg {n : Int} (h : 0 ≤ n) : IntKind.u8.wrap n = ((b8 n).toNat : Int) := by
 obtain ⟨m, rfl⟩ : ∃ m : Nat, n = (m : Int) := ⟨n.toNat, by omega⟩
 exact Un
def fb5 (f : Fl) : List UInt8 := [b8 f.k, b8 f.p, b8 f.r, b8 f.g, 179]
/-- a file's bytes -/
def Yj (f : Fl) : List UInt8 := fb5 f ++ [Nh (fb5 f), 0, 0]
theorem Ux (n lo hi : Int) (w : World) : Ret Tryz.prog 70 #[I n, I lo, I hi] w fun v w' => v = .bool (decide (lo ≤ n ∧ n ≤ hi)) ∧ Hp w [] w' := by
 refine Qi (args := [_, _, _]) func70 rfl ntmps70 results70 (by simp) ?_
 have H := Hp.refl w
 refine Js (Jr (Ja (Jn (Js (Jr (Jm (Jm (J (Mi rfl rfl) (Jm ?_)))))))))
 apply Xs 4 10 14 [(11, 14)] H
 case hc => rfl
 case h1 =>
  intro h11
  refine Jt rfl rfl (Jm (Jt rfl rfl (Jm (Jt rfl rfl (J (R_le rfl rfl) (Jq rfl (Jn ?_)))))))
  exact ⟨kS, rfl, H⟩
 case h0 =>
  intro h11
  refine Jg rfl rfl (Jg rfl rfl (Jg rfl rfl (Jp rfl (Jn ?_))))
  exact ⟨kS, rfl, H⟩
 case h2 =>
  (clear H; intro E11 w11 H)
  refine Ja (Jn (Je ?_))
  exact ⟨_, rfl, congrArg Value.bool (decide_eq_decide.2 (by omega)), H⟩
theorem Dm (f : Fl) (w : World) : Ret Tryz.prog 198 #[.agg (flC f).toArray] w fun v w' => v = .bool (decide (Yz f)) ∧ Hp w [] w' := by
 obtain ⟨k, p, r, g⟩ := f
 rw [show flC ⟨k, p, r, g⟩ = [I k, I p, I r, I g] from rfl]
 refine Qi (args := [_]) func198 rfl ntmps198 results198 (by simp) ?_
 have H := Hp.refl w
 (refine Js (Jr (Qb rfl (Xl (v := (.agg (List.toArray [(.int _ _), (.int _ _), (.int _ _), (.int _ _)]))) H rfl rfl) ?_)); clear H; intro b3 w3 hb3 H)
 refine Ja (Jn (Js (Jr (Jf 0 underlying135 rfl sizeOf3 rfl rfl (Jl isAgg3 rfl (H.get .here) rfl (J (Mi rfl rfl) (Jm ?_)))))))
 apply Xs 4 6 10 [(7, 10)] H
 case hc => rfl
 case h1 =>
  intro h12
  refine Jt rfl rfl (Jf 0 underlying135 rfl sizeOf3 rfl rfl (Jt rfl rfl (Jl isAgg3 rfl (H.get .here) rfl (Jt rfl rfl (J (R_le rfl rfl) (Jq rfl (Jn ?_)))))))
  exact ⟨kS, rfl, H⟩
 case h0 =>
  intro h12
  refine Jg rfl rfl (Jg rfl rfl (Jg rfl rfl (Jp rfl (Jn ?_))))
  exact ⟨kS, rfl, H⟩
 case h2 =>
  (clear H; intro E12 w12 H)
  refine Jm ?_
  apply Xs 4 11 15 [(12, 15)] H
  case hc => rfl
  case h1 =>
   intro h29
   refine Jt rfl rfl (Jf 1 underlying135 rfl sizeOf3 rfl rfl (Jt rfl rfl (Jl isAgg3 rfl (H.get .here) rfl (Jt rfl rfl (J (Mi rfl rfl) (Jq rfl (Jn ?_)))))))
   exact ⟨kS, rfl, H⟩
  case h0 =>
   intro h29
   refine Jg rfl rfl (Jg rfl rfl (Jg rfl rfl (Jp rfl (Jn ?_))))
   exact ⟨kS, rfl, H⟩
  case h2 =>
   (clear H; intro E29 w29 H)
   refine Jm ?_
   apply Xs 4 16 20 [(17, 20)] H
   case hc => rfl
   case h1 =>
    intro h46
    refine Jt rfl rfl (Jf 1 underlying135 rfl sizeOf3 rfl rfl (Jt rfl rfl (Jl isAgg3 rfl (H.get .here) rfl (Jt rfl rfl (J (R_le rfl rfl) (Jq rfl (Jn ?_)))))))
    exact ⟨kS, rfl, H⟩
   case h0 =>
    intro h46
    refine Jg rfl rfl (Jg rfl rfl (Jg rfl rfl (Jp rfl (Jn ?_))))
    exact ⟨kS, rfl, H⟩
   case h2 =>
    (clear H; intro E46 w46 H)
    refine Jm ?_
    apply Xs 9 21 30 [(22, 30)] H
    case hc => rfl
    case h1 =>
     intro h63
     refine Jt rfl rfl (Jf 0 underlying135 rfl sizeOf3 rfl rfl (Jt rfl rfl (Jl isAgg3 rfl (H.get .here) rfl (Jt rfl rfl (J (Zu rfl rfl) (Jt rfl rfl (Jm ?_)))))))
     apply Xz 4 25 29 [(26, 29)] H
     case hc => rfl
     case h1 =>
      intro h72
      refine Jt rfl rfl (Jf 1 underlying135 rfl sizeOf3 rfl rfl (Jt rfl rfl (Jl isAgg3 rfl (H.get .here) rfl (Jt rfl rfl (J (Yk rfl rfl) (Jt rfl rfl (Jp rfl (Jn ?_))))))))
      exact ⟨kS, rfl, H⟩
     case h0 =>
      intro h72
      refine Jg rfl rfl (Jg rfl rfl (Jg rfl rfl (Jt rfl rfl (Jq rfl (Jn ?_)))))
      exact ⟨kS, rfl, H⟩
     case h2 =>
      intro E72 w72 H
      refine Jq rfl (Jn ?_)
      exact ⟨kS, rfl, H⟩
    case h0 =>
     intro h63
     refine Jg rfl rfl (Jg rfl rfl (Jg rfl rfl (Jg rfl rfl (Jo rfl rfl (Jo rfl rfl (Jo rfl rfl (Jg rfl rfl (Jp rfl (Jn ?_)))))))))
     exact ⟨kS, rfl, H⟩
    case h2 =>
     (clear H; intro E63 w63 H)
     refine Jm ?_
     apply Xs 4 31 35 [(32, 35)] H
     case hc => rfl
     case h1 =>
      intro h105
      refine Jt rfl rfl (Jf 2 underlying135 rfl sizeOf3 rfl rfl (Jt rfl rfl (Jl isAgg3 rfl (H.get .here) rfl (Jt rfl rfl (J (Mi rfl rfl) (Jq rfl (Jn ?_)))))))
      exact ⟨kS, rfl, H⟩
     case h0 =>
      intro h105
      refine Jg rfl rfl (Jg rfl rfl (Jg rfl rfl (Jp rfl (Jn ?_))))
      exact ⟨kS, rfl, H⟩
     case h2 =>
      (clear H; intro E105 w105 H)
      refine Jm ?_
      apply Xs 4 36 40 [(37, 40)] H
      case hc => rfl
      case h1 =>
       intro h122
       refine Jt rfl rfl (Jf 2 underlying135 rfl sizeOf3 rfl rfl (Jt rfl rfl (Jl isAgg3 rfl (H.get .here) rfl (Jt rfl rfl (J (R_le rfl rfl) (Jq rfl (Jn ?_)))))))
       exact ⟨kS, rfl, H⟩
      case h0 =>
       intro h122
       refine Jg rfl rfl (Jg rfl rfl (Jg rfl rfl (Jp rfl (Jn ?_))))
       exact ⟨kS, rfl, H⟩
      case h2 =>
       (clear H; intro E122 w122 H)
       refine Jm ?_
       apply Xs 9 41 50 [(42, 50)] H
       case hc => rfl
       case h1 =>
        intro h139
        refine Jt rfl rfl (Jf 3 underlying135 rfl sizeOf3 rfl rfl (Jt rfl rfl (Jl isAgg3 rfl (H.get .here) rfl (Jt rfl rfl (J (Yk rfl rfl) (Jt rfl rfl (Jm ?_)))))))
        apply Xz 4 45 49 [(46, 49)] H
        case hc => rfl
        case h1 =>
         intro h148
         refine Jt rfl rfl (Jf 3 underlying135 rfl sizeOf3 rfl rfl (Jt rfl rfl (Jl isAgg3 rfl (H.get .here) rfl (Jt rfl rfl (J (Yk rfl rfl) (Jt rfl rfl (Jp rfl (Jn ?_))))))))
         exact ⟨kS, rfl, H⟩
        case h0 =>
         intro h148
         refine Jg rfl rfl (Jg rfl rfl (Jg rfl rfl (Jt rfl rfl (Jq rfl (Jn ?_)))))
         exact ⟨kS, rfl, H⟩
        case h2 =>
         intro E148 w148 H
         refine Jq rfl (Jn ?_)
         exact ⟨kS, rfl, H⟩
       case h0 =>
        intro h139
        refine Jg rfl rfl (Jg rfl rfl (Jg rfl rfl (Jg rfl rfl (Jo rfl rfl (Jo rfl rfl (Jo rfl rfl (Jg rfl rfl (Jp rfl (Jn ?_)))))))))
        exact ⟨kS, rfl, H⟩
       case h2 =>
        (clear H; intro E139 w139 H)
        refine Ja (Jn (Je ?_))
        exact ⟨_, rfl, congrArg Value.bool (decide_eq_decide.2 (by simp only [Yz]; omega)), H.pop (by assumption)⟩
theorem put_no {l : Value} (f : Fl) (hok : ¬ Yz f) (w : World) : Ret Tryz.prog 165 #[.agg (flC f).toArray, l] w fun v w' => v = .bool false ∧ Hp w [] w' := by
 refine Qi (args := [_, _]) func165 rfl ntmps165 results165 (by simp) ?_
 have H := Hp.refl w
 (refine Js (Jr (Qb rfl (Xl (v := (.agg (List.toArray [(.int _ _), (.int _ _), (.int _ _), (.int _ _)]))) H rfl rfl) ?_)); clear H; intro b3 w3 hb3 H)
 (refine Ja (Jn (Js (Js (Jr (J (Qo isAgg135 sizeOf135 rfl (H.get .here) rfl (by simp)) (Jy rfl call198 rfl (Dm f _) ?_)))))); rintro v w10 ⟨hv, H1⟩; rw [decide_eq_false hok] at hv; subst hv; replace H := H.seq0 H1; clear H1)
 refine J (Xx rfl) (Jn (Jd rfl (Js (Jr (Ja (Jn (Je ?_)))))))
 exact ⟨_, rfl, rfl, H.none kYs⟩
theorem Nr {b : Nat} {w : World} (f : Fl) (hok : Yz f) (hb : w.heap[b]? = some (blk ((List.replicate 8 0).map U) 5)) :
  Ret Tryz.prog 165 #[.agg (flC f).toArray, sl b 0 8 8] w fun v w' => v = .bool true ∧ Hp w [(b, blk ((Yj f).map U) 5)] w' := by
 have hok0 := hok
 obtain ⟨k, p, r, g⟩ := f
 rw [show flC ⟨k, p, r, g⟩ = [I k, I p, I r, I g] from rfl]
 simp only [Yz] at hok
 refine Qi (args := [_, _]) func165 rfl ntmps165 results165 (by simp) ?_
 have H := Hp.focus0 hb
 (refine Js (Jr (Qb rfl (Xl (v := (.agg (List.toArray [(.int _ _), (.int _ _), (.int _ _), (.int _ _)]))) H rfl rfl) ?_)); clear H; intro b3 w3 hb3 H)
 (refine Ja (Jn (Js (Js (Jr (J (Qo isAgg135 sizeOf135 rfl (H.get .here) rfl (by simp)) (Jy rfl call198 rfl (Dm ⟨k, p, r, g⟩ _) ?_)))))); rintro v w10 ⟨hv, H1⟩; rw [decide_eq_true hok0] at hv; subst hv; replace H := H.seq0 H1; clear H1)
 (refine J (Xj rfl) (Jn (Jc rfl (Jk (Js (Jr (Jm (Jf 0 underlying135 rfl sizeOf3 rfl rfl (Jl isAgg3 rfl (H.get .here) rfl (J (Xe underlying3 underlying5 rfl (Dg (by omega))) (Jf 1 underlying135 rfl sizeOf3 rfl rfl (Jl isAgg3 rfl (H.get .here) rfl (J (Xe underlying3 underlying5 rfl (Dg (by omega))) (Jf 2 underlying135 rfl sizeOf3 rfl rfl (Jl isAgg3 rfl (H.get .here) rfl (J (Xe underlying3 underlying5 rfl (Dg (by omega))) (Jf 3 underlying135 rfl sizeOf3 rfl rfl (Jl isAgg3 rfl (H.get .here) rfl (J (Xe underlying3 underlying5 rfl (Dg (by omega))) (Qb rfl (Xk (vs := [(.int _ _), (.int _ _), (.int _ _), (.int _ _), (.int _ _)]) H underlying36 sizeOf5 zeroValue5 rfl rfl (by decide) rfl rfl (by simp [Value.oneCell'])) ?_))))))))))))))))))); clear H; intro b30 w30 hb30 H)
 (refine Ve rfl (E_copy (xs := (fb5 ⟨k, p, r, g⟩).map U) H (.there (.there .here)) underlying36 sizeOf5 rfl rfl (RdS.blk (H.get .here) rfl (by simp) (by simp)).csrc (by simp) (by simp [Value.oneCell'])) ?_; clear H; rintro _ _ w31 rfl H; replace H := (H.pop (by assumption)).pop (by assumption); replace H : Hp w [(b, blk ((fb5 ⟨k, p, r, g⟩ ++ [0, 0, 0]).map U) 5)] _ := H)
 (refine Jn (Js (Jr (Jm (Jm (J (Bq underlying36 sizeOf5 rfl .none (.some rfl) (by omega) (by omega) (by omega) (by omega) (by omega) rfl) (Jz rfl call125 rfl (sum_ret (xs := fb5 ⟨k, p, r, g⟩) (RdS.blk (H.get .here) rfl (by simp [fb5]) (by simp)) (by simp [fb5])) H ?_)))))); intro w38 H)
 (refine J (Qj (off' := 5) underlying36 sizeOf5 rfl rfl (by omega) (by omega) rfl) (Qd rfl (Qz (v := U (Nh (fb5 ⟨k, p, r, g⟩))) H sizeOf5 rfl rfl rfl .here (by simp [fb5])) ?_); clear H; intro w40 H)
 refine Jn (Js (Jr (Ja (Jn (Je ?_)))))
 exact ⟨_, rfl, rfl, H⟩
end Go.Proofs.YtlpmfldijgdcoaaGreatDoor.File
namespace Go.Proofs.YtlpmfldijgdcoaaGreatDoor.File
open Go Go.Proofs Fx Codec Tryz
/-- the codec of files -/
abbrev cod : Obj := blk [I 8, .func (.func 165) #[] #[], .func (.func 166) #[] #[]] 266
abbrev vF (f : Fl) : Value := .agg (flC f).toArray
theorem Vr (w : World) : Ret Tryz.prog 126 #[] w fun v w' => ∃ q, v = ptr q 0 ∧ w.heap.size ≤ q ∧ Hp w [(q, cod)] w' := by
 refine Qi (args := []) func126 rfl ntmps126 results126 (by simp) ?_
 have H := Hp.refl w
 have hnew : Ret Tryz.prog 164 #[I 8, .func (.func 165) #[] #[], .func (.func 166) #[] #[]] w fun v w' => ∃ q, v = ptr q 0 ∧ w.heap.size ≤ q ∧ Hp w [(q, cod)] w' := by
  refine Qi (args := [_, _, _]) func164 rfl ntmps164 results164 (by simp) ?_
  refine Js (Jr (Ja (Jn (Js (Jr (Jm (J (Mz (r := 8) rfl rfl (by decide)) (Ym rfl (Nn (r := 8) rfl rfl (by decide)) ?_))))))))
  (refine Jm (Jm (J (Qm (places := [(0, 1), (1, 1), (2, 1)]) (vs := [(.int _ _), (.func _ _ _), (.func _ _ _)]) underlying266 typeInfo266 rfl rfl (by kernel_rfl) rfl rfl rfl) (Qb rfl (Xl (v := (.agg (List.toArray [(.int _ _), (.func _ _ _), (.func _ _ _)]))) H rfl rfl) ?_))); clear H; intro b13 w13 hb13 H)
  refine Ja (Jn (Je ?_))
  exact ⟨_, rfl, _, rfl, by assumption, H⟩
 (refine Js (Jr (Ja (Jn (Js (Jr (Jy rfl call164 rfl hnew ?_)))))); rintro _ w7 ⟨q, rfl, hq, H1⟩; replace H := H.Zo H1 (Qu hq Xu); clear H1)
 refine Ja (Jn (Je ?_))
 exact ⟨_, rfl, _, rfl, hq, H⟩
theorem encM_ret {q : Nat} {w : World} (f : Fl) (hq : w.heap[q]? = some cod) :
  Ret Tryz.prog 127 #[ptr q 0, vF f] w fun v w' => (Yz f ∧ ∃ b, v = .tuple #[sl b 0 8 8, .bool true] ∧ w.heap.size ≤ b ∧ Hp w [(b, blk ((Yj f).map U) 5)] w') ∨ (¬ Yz f ∧ v = .tuple #[nilS, .bool false] ∧ Hp w [] w') := by
 refine Qi (args := [_, _]) func127 rfl ntmps127 results127 (by simp) ?_
 have H := Hp.focus0 hq
 by_cases hok : Yz f
 ·(refine Js (Jr (Qb rfl (Xl (v := vF f) (vs := flC f) H rfl rfl) ?_)); clear H; intro bx w3 hbx H)
  (refine Ja (Ja (Jn (Js (Jr (Jm (Ji rfl (Jf 0 underlying266 rfl sizeOf3 rfl rfl (Jl isAgg3 rfl (H.get (.there .here)) rfl (Qb rfl (Vf H underlying36 sizeOf5 typeInfo5 zeroValue5 rfl rfl rfl (by decide) (by decide) (by decide) (by decide)) ?_))))))))); clear H; intro b w13 hb H; replace H : Hp w [(b, blk ((List.replicate 8 0).map U) 5), (bx, blk (flC f) 135), (q, cod)] _ := H)
  refine Ja (Jn (Js (Js ?_)))
  (refine Xi (Kp [(bx, blk (flC f) 135), (q, cod)]) (fun _ => false) (by kernel_rfl) H ?_; clear H; intro w18 H)
  (refine Am 0 rfl (H.kp.sub (by simp)) (Az 1 rfl rfl (H.kp.sub (by simp)) (fun _ hC => Qf rfl) (Az 2 rfl rfl (H.kp.sub (by simp)) (fun _ hC => Qa (off' := 1) underlying266 rfl sizeOf263 (by decide) rfl rfl) (Az 3 rfl rfl (H.kp.sub (by simp)) (fun _ hC => Qe isAgg263 rfl (hC.get (.there .here)) rfl) (Az 4 rfl rfl (H.kp.sub (by simp)) (fun _ hC => Vy underlying263 rfl rfl) (Am 5 rfl (H.kp.sub (by simp)) (Ai 6 rfl rfl rfl (H.kp.sub (by simp)) (fun _ hC => Va) (Ag 7 rfl rfl rfl (H.kp.sub (by simp)) (fun _ hC => Qf rfl) (Ag 8 rfl rfl rfl (H.kp.sub (by simp)) (fun _ hC => Qa (off' := 1) underlying266 rfl sizeOf263 (by decide) rfl rfl) (Ag 9 rfl rfl rfl (H.kp.sub (by simp)) (fun _ hC => Qe isAgg263 rfl (hC.get (.there .here)) rfl) (Ag 10 rfl rfl rfl (H.kp.sub (by simp)) (fun _ hC => Qo (vs := flC f) isAgg135 sizeOf135 rfl (hC.get .here) rfl (by simp [flC])) (Ai 11 rfl rfl rfl (H.kp.sub (by simp)) (fun _ hC => Va) (Ao 12 (Qv rfl (.inr ⟨_, _, rfl, rfl⟩) (Qw rfl call165 rfl) (Nr f hok (H.get .here)) (fun _ _ hR _ => (H.seq hR.2 (Yh .here Yi)).kp.sub (by simp)) ?_))))))))))))); rintro _ w32 ⟨rfl, H1⟩; replace H := H.seq H1 (Yh .here Yi); clear H1)
  refine Ag 13 rfl rfl rfl (H.kp.sub (by simp)) (fun _ hC => Xj rfl) (Ah 14 rfl rfl (H.kp.sub (by simp)) (fun _ hC => Zg rfl) (Ad (Jc rfl (Jk (Js (Jr (Jm (Ja (Ja (Jn (Je ?_)))))))))))
  exact ⟨_, rfl, .inl ⟨hok, b, rfl, hb, (H.pop2 hbx).swap2.back hq⟩⟩
 ·(refine Js (Jr (Qb rfl (Xl (v := vF f) (vs := flC f) H rfl rfl) ?_)); clear H; intro bx w3 hbx H)
  (refine Ja (Ja (Jn (Js (Jr (Jm (Ji rfl (Jf 0 underlying266 rfl sizeOf3 rfl rfl (Jl isAgg3 rfl (H.get (.there .here)) rfl (Qb rfl (Vf H underlying36 sizeOf5 typeInfo5 zeroValue5 rfl rfl rfl (by decide) (by decide) (by decide) (by decide)) ?_))))))))); clear H; intro b w13 hb H; replace H : Hp w [(b, blk ((List.replicate 8 0).map U) 5), (bx, blk (flC f) 135), (q, cod)] _ := H)
  refine Ja (Jn (Js (Js ?_)))
  (refine Xi (Kp [(bx, blk (flC f) 135), (q, cod)]) (fun _ => false) (by kernel_rfl) H ?_; clear H; intro w18 H)
  (refine Am 0 rfl (H.kp.sub (by simp)) (Az 1 rfl rfl (H.kp.sub (by simp)) (fun _ hC => Qf rfl) (Az 2 rfl rfl (H.kp.sub (by simp)) (fun _ hC => Qa (off' := 1) underlying266 rfl sizeOf263 (by decide) rfl rfl) (Az 3 rfl rfl (H.kp.sub (by simp)) (fun _ hC => Qe isAgg263 rfl (hC.get (.there .here)) rfl) (Az 4 rfl rfl (H.kp.sub (by simp)) (fun _ hC => Vy underlying263 rfl rfl) (Am 5 rfl (H.kp.sub (by simp)) (Ai 6 rfl rfl rfl (H.kp.sub (by simp)) (fun _ hC => Va) (Ag 7 rfl rfl rfl (H.kp.sub (by simp)) (fun _ hC => Qf rfl) (Ag 8 rfl rfl rfl (H.kp.sub (by simp)) (fun _ hC => Qa (off' := 1) underlying266 rfl sizeOf263 (by decide) rfl rfl) (Ag 9 rfl rfl rfl (H.kp.sub (by simp)) (fun _ hC => Qe isAgg263 rfl (hC.get (.there .here)) rfl) (Ag 10 rfl rfl rfl (H.kp.sub (by simp)) (fun _ hC => Qo (vs := flC f) isAgg135 sizeOf135 rfl (hC.get .here) rfl (by simp [flC])) (Ai 11 rfl rfl rfl (H.kp.sub (by simp)) (fun _ hC => Va) (Ao 12 (Qv rfl (.inr ⟨_, _, rfl, rfl⟩) (Qw rfl call165 rfl) (put_no f hok _) (fun _ _ hR _ => (H.seq0 hR.2).kp.sub (by simp)) ?_))))))))))))); rintro _ w32 ⟨rfl, H1⟩; replace H := H.seq0 H1; clear H1)
  refine Ag 13 rfl rfl rfl (H.kp.sub (by simp)) (fun _ hC => Xx rfl) (Ah 14 rfl rfl (H.kp.sub (by simp)) (fun _ hC => Zg rfl) (Ad (Jd rfl (Js (Jr (Ja (Ja (Jn (Je ?_)))))))))
  exact ⟨_, rfl, .inr ⟨hok, rfl, ((H.pop hb).pop hbx).back hq⟩⟩
theorem Bl (f : Fl) (w : World) :
  Ret Tryz.prog 88 #[vF f] w fun v w' => (Yz f ∧ ∃ b, v = .tuple #[sl b 0 8 8, .bool true] ∧ w.heap.size ≤ b ∧ Hp w [(b, blk ((Yj f).map U) 5)] w') ∨ (¬ Yz f ∧ v = .tuple #[nilS, .bool false] ∧ Hp w [] w') := by
 refine Qi (args := [_]) func88 rfl ntmps88 results88 (by simp) ?_
 have H := Hp.refl w
 (refine Js (Jr (Qb rfl (Xl (v := vF f) (vs := flC f) H rfl rfl) ?_)); clear H; intro bx w3 hbx H)
 refine Ja (Ja (Jn (Js ?_)))
 (refine Xi (Kp [(bx, blk (flC f) 135)]) (fun _ => false) (by kernel_rfl) H ?_; clear H; intro w8 H)
 (refine Az 1 rfl rfl H.kp (fun _ hC => Qo (vs := flC f) isAgg135 sizeOf135 rfl (hC.get .here) rfl (by simp [flC])) (Ao 0 (Qv rfl (.inl rfl) (Qw rfl call126 rfl) (Vr _) (fun _ _ ⟨q, _, hq, H1⟩ _ => (H.Zo H1 (Qu hq Xu)).kp.sub (by simp)) ?_)); rintro _ w11 ⟨q, rfl, hq, H1⟩; have hsz := H.size; replace H := H.Zo H1 (Qu hq Xu); replace hq := Nat.le_trans hsz hq; clear H1 hsz)
 (refine Ao 2 (Qv rfl (.inl rfl) (Qw rfl call127 rfl) (encM_ret f (H.get .here)) (fun _ _ hR _ => by rcases hR with ⟨_, b, _, hb, H1⟩ | ⟨_, _, H1⟩; exact (H.Zo H1 (Qu hb Xu)).kp.sub (by simp); exact (H.seq0 H1).kp.sub (by simp)) ?_); rintro _ w13 (⟨hok, b, rfl, hb, H1⟩ | ⟨hok, rfl, H1⟩); (have hsz := H.size; replace H := H.Zo H1 (Qu hb Xu); replace hb := Nat.le_trans hsz hb; clear H1 hsz); rotate_left; (replace H := H.seq0 H1; clear H1))
 ·refine Az 3 rfl rfl (H.kp.sub (by simp)) (fun _ hC => Qs rfl rfl) (Az 4 rfl rfl (H.kp.sub (by simp)) (fun _ hC => Qs rfl rfl) (Aa 5 rfl (H.kp.sub (by simp)) (Aa 6 rfl (H.kp.sub (by simp)) (Ad (Je ?_)))))
  exact ⟨_, rfl, .inr ⟨hok, rfl, H.none kYs⟩⟩
 ·refine Az 3 rfl rfl (H.kp.sub (by simp)) (fun _ hC => Qs rfl rfl) (Az 4 rfl rfl (H.kp.sub (by simp)) (fun _ hC => Qs rfl rfl) (Aa 5 rfl (H.kp.sub (by simp)) (Aa 6 rfl (H.kp.sub (by simp)) (Ad (Je ?_)))))
  exact ⟨_, rfl, .inl ⟨hok, b, rfl, hb, Hp.cut (L := [_]) H kYs⟩⟩
end Go.Proofs.YtlpmfldijgdcoaaGreatDoor.File
namespace Go.Proofs.YtlpmfldijgdcoaaGreatDoor.File
open Go Go.Proofs Fx Codec Tryz
def Yt : Fl := ⟨0, 0, 0, 0⟩
/-- the file that bytes would be -/
def ofB (xs : List UInt8) : Fl := ⟨(xs[0]?.getD 0).toNat, (xs[1]?.getD 0).toNat, (xs[2]?.getD 0).toNat, (xs[3]?.getD 0).toNat⟩
def good (xs : List UInt8) : Prop := xs.length = 8 ∧ Yz (ofB xs) ∧ Yj (ofB xs) = xs
instance (xs : List UInt8) : Decidable (good xs) := by unfold good; infer_instance
/-- what bytes are -/
def Xy (xs : List UInt8) : Fl × Int := if xs.length = 8 ∧ ∀ x ∈ xs, x = 0 then (Yt, 0) else if good xs then (ofB xs, 1) else (Yt, 2)
theorem len8 {xs : List UInt8} (h : xs.length = 8) : ∃ a b c d e f g i, xs = [a, b, c, d, e, f, g, i] := by
 match xs, h with
 | [a, b, c, d, e, f, g, i], _ => exact ⟨a, b, c, d, e, f, g, i, rfl⟩
theorem Zw {xs : List UInt8} {w : World} {l : Value} (hl : RdS w l (xs.map U)) (h8 : xs.length = 8) :
  Ret Tryz.prog 166 #[l] w fun v w' => v = .tuple #[vF (ofB xs), .bool (decide (Yz (ofB xs) ∧ Yj (ofB xs) = xs))] ∧ Hp w [] w' := by
 refine Qy (args := [_]) func166 rfl ntmps166 results166 (by simp) ?_
 have H := Hp.refl w
 have hl0 := hl
 obtain ⟨a, b, c, d, e, f, g, i, rfl⟩ := len8 h8
 obtain ⟨ao, ca, rfl⟩ := hl.form
 obtain ⟨bz, oz, rfl, h0⟩ := hl.cell (i := 0) (u := U a) rfl
 obtain ⟨_, _, e1, h1⟩ := hl.cell (i := 1) (u := U b) rfl
 cases e1
 obtain ⟨_, _, e1, h2⟩ := hl.cell (i := 2) (u := U c) rfl
 cases e1
 obtain ⟨_, _, e1, h3⟩ := hl.cell (i := 3) (u := U d) rfl
 cases e1
 have ha := a.toNat_lt
 have hb := b.toNat_lt
 have hc := c.toNat_lt
 have hd := d.toNat_lt
 simp only [List.length_map] at hl hl0 ⊢
 obtain ⟨ff, hff⟩ : ∃ ff : Fl, ff = ofB [a, b, c, d, e, f, g, i] := ⟨_, rfl⟩
 rw [← hff]
 (refine Js (Jr (Qb rfl (Qp (vs := flC Yt) H zeroValue135 rfl) ?_)); clear H; intro b2 w3 hb2 H)
 refine Ja (Jn (Js ?_))
 (refine Xi (KH w [(b2, blk (flC Yt) 135)]) (fun _ => false) (by kernel_rfl) H ?_; clear H; intro w7 H)
 (refine Am 0 rfl H.kK (Az 1 rfl rfl H.kK (fun _ hC => Qj underlying36 sizeOf5 rfl rfl (by omega) (by omega) Xt) (Az 2 rfl rfl H.kK (fun _ hC => Qx isAgg5 rfl (hC.old.cell h0 (by simp))) (Az 3 rfl rfl H.kK (fun _ hC => Xe underlying5 underlying3 rfl Yf) (Am 4 rfl H.kK (Az 5 rfl rfl H.kK (fun _ hC => Qj underlying36 sizeOf5 rfl rfl (by omega) (by omega) Xt) (Az 6 rfl rfl H.kK (fun _ hC => Qx isAgg5 rfl (hC.old.cell h1 (by simp))) (Az 7 rfl rfl H.kK (fun _ hC => Xe underlying5 underlying3 rfl Yf) (Am 8 rfl H.kK (Az 9 rfl rfl H.kK (fun _ hC => Qj underlying36 sizeOf5 rfl rfl (by omega) (by omega) Xt) (Az 10 rfl rfl H.kK (fun _ hC => Qx isAgg5 rfl (hC.old.cell h2 (by simp))) (Az 11 rfl rfl H.kK (fun _ hC => Xe underlying5 underlying3 rfl Yf) (Am 12 rfl H.kK (Az 13 rfl rfl H.kK (fun _ hC => Qj underlying36 sizeOf5 rfl rfl (by omega) (by omega) Xt) (Az 14 rfl rfl H.kK (fun _ hC => Qx isAgg5 rfl (hC.old.cell h3 (by simp))) (Az 15 rfl rfl H.kK (fun _ hC => Xe underlying5 underlying3 rfl Yf) (Az 16 rfl rfl H.kK (fun _ hC => Qm (places := [(0, 1), (1, 1), (2, 1), (3, 1)]) (vs := [(.int _ _), (.int _ _), (.int _ _), (.int _ _)]) underlying135 typeInfo135 rfl rfl (by kernel_rfl) rfl rfl rfl) (Ao 17 (Xd rfl (.inl rfl) (Qp (vs := flC Yt) H zeroValue135 rfl) (fun _ _ _ H => kC) ?_)))))))))))))))))); clear H; intro b4 w26 hb4 H)
 (refine Ao 18 (Xb rfl (.inl rfl) (Qg (vs := flC (ofB [a, b, c, d, e, f, g, i])) H sizeOf135 rfl rfl (by simp [flC, Value.oneCell']) .here (by simp [flC])) (fun _ H => kC) ?_); clear H; intro w28 H; rw [← hff] at H; replace H : Hp w [(b4, blk (flC ff) 135), (b2, blk (flC Yt) 135)] w28 := H)
 (refine Ad (Js (Jr (J (Qo (vs := flC ff) isAgg135 sizeOf135 rfl (H.get .here) rfl (by simp [flC])) (Jy rfl call88 rfl (Bl ff _) ?_)))); rintro _ w33 (⟨hok, b9, rfl, hb9, H1⟩ | ⟨hok, rfl, H1⟩); (have hsz := H.size; replace H := H.Zo H1 (Qu hb9 Xu); replace hb9 := Nat.le_trans hsz hb9; clear H1 hsz); rotate_left; (replace H := H.seq0 H1; clear H1))
 ·refine Jm (Jx rfl rfl (Jx rfl rfl (Ja (Ja (Jn (Js ?_))))))
  (refine Xi (KH w [(b4, blk (flC ff) 135)]) (fun _ => false) (by kernel_rfl) H ?_; clear H; intro w41 H)
  (refine Az 0 rfl rfl H.kK (fun _ hC => Qo (vs := flC ff) isAgg135 sizeOf135 rfl (hC.get .here) rfl (by simp [flC])) (Am 1 rfl H.kK (Am 2 rfl H.kK (Aq 3 rfl rfl (fun h => nomatch h) H.kK (Aq 4 rfl rfl (fun h => nomatch h) H.kK (Aq 5 rfl rfl (fun h => nomatch h) H.kK (Ah 6 rfl rfl H.kK (fun _ hC => Zg rfl) (Ao 7 (Xb rfl (.inl rfl) (Qg (vs := flC ff) H sizeOf135 rfl rfl (by simp [flC, Value.oneCell']) (.there .here) (by simp [flC])) (fun _ H => kC) ?_)))))))); clear H; intro w50 H)
  refine Aa 8 rfl H.kK (Ad (Je ?_))
  exact ⟨_, ⟨_, _, rfl, ldA (vs := flC ff) isAgg135 sizeOf135 (H.get (.there .here)) rfl (by simp [flC]), rfl⟩, congrArg (fun b => Value.tuple #[vF ff, .bool b]) (decide_eq_false (fun h => hok h.1)).symm, H.none kYs⟩
 ·refine Jm (Jx rfl rfl (Jx rfl rfl (Ja (Ja (Jn (Js ?_))))))
  (refine Xi (KH w [(b9, blk ((Yj ff).map U) 5), (b4, blk (flC ff) 135)]) (fun _ => false) (by kernel_rfl) H ?_; clear H; intro w62 H)
  (refine Az 0 rfl rfl H.kK (fun _ hC => Qo (vs := flC ff) isAgg135 sizeOf135 rfl (hC.get (.there .here)) rfl (by simp [flC])) (Am 1 rfl H.kK (Am 2 rfl H.kK (Ai 3 rfl rfl rfl H.kK (fun _ hC => Va) (Ai 4 rfl rfl rfl H.kK (fun _ hC => Va) (Ao 5 (Qv rfl (.inr ⟨_, _, rfl, rfl⟩) (Qw rfl call197 rfl) (equal_ret (xs := Yj ff) (ys := [a, b, c, d, e, f, g, i]) (RdS.blk (c := (Yj ff).map U) (off := 0) (H.get .here) rfl (by simp [Yj, fb5]) (by simp)) (hl0.Yd H kYs) (by simp [Yj, fb5]) (by simp)) (fun _ _ hR _ => (H.seq0 hR.2).kh (by simp) kYs) ?_)))))); rintro _ w69 ⟨rfl, H1⟩; replace H := H.seq0 H1; clear H1)
  (refine Ah 6 rfl rfl H.kK (fun _ hC => Ug rfl) (Ao 7 (Xb rfl (.inl rfl) (Qg (vs := flC ff) H sizeOf135 rfl rfl (by simp [flC, Value.oneCell']) (.there (.there .here)) (by simp [flC])) (fun _ H => kC) ?_)); clear H; intro w72 H)
  refine Aa 8 rfl H.kK (Ad (Je ?_))
  exact ⟨_, ⟨_, _, rfl, ldA (vs := flC ff) isAgg135 sizeOf135 (H.get (.there (.there .here))) rfl (by simp [flC]), rfl⟩, congrArg (fun b => Value.tuple #[vF ff, .bool b]) (decide_eq_decide.2 ⟨fun h => ⟨hok, h⟩, fun h => h.2⟩), H.none kYs⟩
/-- what a call yields, as two ways -/
theorem Dj {xs : List UInt8} {q : Nat} {w : World} {l : Value} (hq : w.heap[q]? = some cod) (hl : RdS w l (xs.map U)) (hb : xs.length ≤ 100000) :
  Ret Tryz.prog 190 #[ptr q 0, l] w fun v w' => ((good xs ∧ v = .tuple #[vF (ofB xs), .bool true]) ∨ (¬ good xs ∧ v = .tuple #[vF Yt, .bool false])) ∧ Hp w [] w' := by
 refine Qy (args := [_, _]) func190 rfl ntmps190 results190 (by simp) ?_
 have H := Hp.refl w
 obtain ⟨ao, ca, rfl⟩ := hl.form
 simp only [List.length_map] at hl ⊢
 by_cases h8 : xs.length = 8
 ·by_cases hg : good xs
  ·(refine Js (Jr (Qb rfl (Qp (vs := flC Yt) H zeroValue135 rfl) ?_)); clear H; intro b4 w3 hb4 H)
   (refine Ja (Jn (Js (Jr (Qb rfl (Qp (vs := flC Yt) H zeroValue135 rfl) ?_)))); clear H; intro b6 w8 hb6 H)
   refine Jn (Js (Js (Jr (Jm (Ji rfl (Jf 2 underlying266 rfl sizeOf264 rfl rfl (Jl isAgg264 rfl (H.Qc hq kYs) rfl (J (Vy underlying264 rfl rfl) (Jm (Jt rfl rfl (Jm (Jt rfl rfl (J (Qh underlying36 rfl) (Jt rfl rfl (Jm (Jt rfl rfl (Ji rfl (Jt rfl rfl (Jf 0 underlying266 rfl sizeOf3 rfl rfl (Jt rfl rfl (Jl isAgg3 rfl (H.Qc hq kYs) rfl (Jt rfl rfl (J (Yl rfl rfl (by omega)) (Jp rfl (Jn (Jc rfl (Jk (Js ?_))))))))))))))))))))))))))))
   (refine Xi (KH w []) (fun _ => false) (by kernel_rfl) H ?_; clear H; intro w38 H)
   refine Am 0 rfl H.kK (Az 1 rfl rfl H.kK (fun _ hC => Qf rfl) (Az 2 rfl rfl H.kK (fun _ hC => Qa (off' := 2) underlying266 rfl sizeOf264 (by decide) rfl rfl) (Az 3 rfl rfl H.kK (fun _ hC => Qe isAgg264 rfl (hC.old.block hq (by simp)) rfl) (Am 4 rfl H.kK (Zf (i := 5) (j := 10) (by kernel_rfl) ?_ ?_)))))
   ·(refine Qv rfl (.inl rfl) (Qw rfl call65 rfl) (Ze (xs := xs) (hl.Yd H kYs) (by omega)) (fun _ _ ⟨M, hO, H1⟩ _ => ((H.Yn hO H1).2).kh (by simp) (Yv (H.Yn hO H1).1.keys kYs)) ?_; rintro u w45 ⟨M, hO, H1⟩; have h45 := H.Yn hO H1; clear H H1 hO; obtain ⟨hO, H⟩ := h45; have hMk := hO.keys; obtain ⟨a5, c5, rfl⟩ := hO.form)
    refine Zf (i := 6) (j := 10) (by kernel_rfl) ?_ ?_
    ·(refine Qv rfl (.inl rfl) (Qw rfl call166 rfl) (Zw (xs := xs) (RdS.own hO (fun p hp => H.held p (by simp [hp]))) h8) (fun _ _ hR _ => (H.seq0 hR.2).kh (by simp) kYs) ?_; rintro v w47 ⟨hv, H1⟩; rw [decide_eq_true hg.2] at hv; subst hv; replace H := H.seq0 H1; clear H1)
     (refine Am 7 rfl H.kK (Az 8 rfl rfl H.kK (fun _ hC => Qs rfl rfl) (Az 9 rfl rfl H.kK (fun _ hC => Qs rfl rfl) (Ao 10 (Xd rfl (.inl rfl) (Qp (vs := flC Yt) H zeroValue135 rfl) (fun _ _ _ H => kC) ?_)))); clear H; intro b7 w52 hb7 H)
     (refine Ao 11 (Xb rfl (.inl rfl) (Qg (vs := flC (ofB xs)) H sizeOf135 rfl rfl (by simp [flC, Value.oneCell']) .here (by simp [flC])) (fun _ H => kC) ?_); clear H; intro w54 H; replace H := Hp.Uv (A := [_]) H hMk)
     (refine Aa 12 rfl H.kK (Ad (Js (Js (Jr (Jm (J (Xj rfl) (Jn (Jc rfl (Jk (Js (Jr (J (Qo (vs := flC (ofB xs)) isAgg135 sizeOf135 rfl (H.get .here) rfl (by simp [flC])) (Qd rfl (Qg (vs := flC (ofB xs)) H sizeOf135 rfl rfl (by simp [flC, Value.oneCell']) (.there (.there .here)) (by simp [flC])) ?_))))))))))))); clear H; intro w68 H)
     refine Ja (Jn (Je ?_))
     exact ⟨_, ⟨_, _, rfl, ldA (vs := flC (ofB xs)) isAgg135 sizeOf135 (H.get (.there (.there .here))) rfl (by simp [flC]), rfl⟩, .inl ⟨hg, rfl⟩, H.none kYs⟩
    ·(refine Xd rfl (.inl rfl) (Qp (vs := flC Yt) H zeroValue135 rfl) (fun _ _ _ H => kC) ?_; clear H; intro b7 w73 hb7 H)
     (refine Ao 6 (Qv rfl (.inl rfl) (Qw rfl call166 rfl) (Zw (xs := xs) (RdS.own hO (fun p hp => H.held p (by simp [hp]))) h8) (fun _ _ hR _ => (H.seq0 hR.2).kh (by simp) kYs) ?_); rintro v w75 ⟨hv, H1⟩; rw [decide_eq_true hg.2] at hv; subst hv; replace H := H.seq0 H1; clear H1)
     (refine Am 7 rfl H.kK (Az 8 rfl rfl H.kK (fun _ hC => Qs rfl rfl) (Az 9 rfl rfl H.kK (fun _ hC => Qs rfl rfl) (Ao 11 (Xb rfl (.inl rfl) (Qg (vs := flC (ofB xs)) H sizeOf135 rfl rfl (by simp [flC, Value.oneCell']) .here (by simp [flC])) (fun _ H => kC) ?_)))); clear H; intro w80 H; replace H := Hp.Uv (A := [_]) H hMk)
     (refine Aa 12 rfl H.kK (Ad (Js (Js (Jr (Jm (J (Xj rfl) (Jn (Jc rfl (Jk (Js (Jr (J (Qo (vs := flC (ofB xs)) isAgg135 sizeOf135 rfl (H.get .here) rfl (by simp [flC])) (Qd rfl (Qg (vs := flC (ofB xs)) H sizeOf135 rfl rfl (by simp [flC, Value.oneCell']) (.there (.there .here)) (by simp [flC])) ?_))))))))))))); clear H; intro w94 H)
     refine Ja (Jn (Je ?_))
     exact ⟨_, ⟨_, _, rfl, ldA (vs := flC (ofB xs)) isAgg135 sizeOf135 (H.get (.there (.there .here))) rfl (by simp [flC]), rfl⟩, .inl ⟨hg, rfl⟩, H.none kYs⟩
   ·(refine Xd rfl (.inl rfl) (Qp (vs := flC Yt) H zeroValue135 rfl) (fun _ _ _ H => kC) ?_; clear H; intro b7 w99 hb7 H)
    (refine Ao 5 (Qv rfl (.inl rfl) (Qw rfl call65 rfl) (Ze (xs := xs) (hl.Yd H kYs) (by omega)) (fun _ _ ⟨M, hO, H1⟩ _ => ((H.Yn hO H1).2).kh (by simp) (Yv (H.Yn hO H1).1.keys kYs)) ?_); rintro u w101 ⟨M, hO, H1⟩; have h101 := H.Yn hO H1; clear H H1 hO; obtain ⟨hO, H⟩ := h101; have hMk := hO.keys; obtain ⟨a5, c5, rfl⟩ := hO.form)
    (refine Ao 6 (Qv rfl (.inl rfl) (Qw rfl call166 rfl) (Zw (xs := xs) (RdS.own hO (fun p hp => H.held p (by simp [hp]))) h8) (fun _ _ hR _ => (H.seq0 hR.2).kh (by simp) kYs) ?_); rintro v w103 ⟨hv, H1⟩; rw [decide_eq_true hg.2] at hv; subst hv; replace H := H.seq0 H1; clear H1)
    (refine Am 7 rfl H.kK (Az 8 rfl rfl H.kK (fun _ hC => Qs rfl rfl) (Az 9 rfl rfl H.kK (fun _ hC => Qs rfl rfl) (Ao 11 (Xb rfl (.inl rfl) (Qg (vs := flC (ofB xs)) H sizeOf135 rfl rfl (by simp [flC, Value.oneCell']) (.app _ .here) (by simp [flC])) (fun _ H => kC) ?_)))); clear H; intro w108 H; replace H := Hp.Ub H hMk)
    (refine Aa 12 rfl H.kK (Ad (Js (Js (Jr (Jm (J (Xj rfl) (Jn (Jc rfl (Jk (Js (Jr (J (Qo (vs := flC (ofB xs)) isAgg135 sizeOf135 rfl (H.get .here) rfl (by simp [flC])) (Qd rfl (Qg (vs := flC (ofB xs)) H sizeOf135 rfl rfl (by simp [flC, Value.oneCell']) (.there (.there .here)) (by simp [flC])) ?_))))))))))))); clear H; intro w122 H)
    refine Ja (Jn (Je ?_))
    exact ⟨_, ⟨_, _, rfl, ldA (vs := flC (ofB xs)) isAgg135 sizeOf135 (H.get (.there (.there .here))) rfl (by simp [flC]), rfl⟩, .inl ⟨hg, rfl⟩, H.none kYs⟩
  ·(refine Js (Jr (Qb rfl (Qp (vs := flC Yt) H zeroValue135 rfl) ?_)); clear H; intro b4 w3 hb4 H)
   (refine Ja (Jn (Js (Jr (Qb rfl (Qp (vs := flC Yt) H zeroValue135 rfl) ?_)))); clear H; intro b6 w8 hb6 H)
   refine Jn (Js (Js (Jr (Jm (Ji rfl (Jf 2 underlying266 rfl sizeOf264 rfl rfl (Jl isAgg264 rfl (H.Qc hq kYs) rfl (J (Vy underlying264 rfl rfl) (Jm (Jt rfl rfl (Jm (Jt rfl rfl (J (Qh underlying36 rfl) (Jt rfl rfl (Jm (Jt rfl rfl (Ji rfl (Jt rfl rfl (Jf 0 underlying266 rfl sizeOf3 rfl rfl (Jt rfl rfl (Jl isAgg3 rfl (H.Qc hq kYs) rfl (Jt rfl rfl (J (Yl rfl rfl (by omega)) (Jp rfl (Jn (Jc rfl (Jk (Js ?_))))))))))))))))))))))))))))
   (refine Xi (KH w []) (fun _ => false) (by kernel_rfl) H ?_; clear H; intro w38 H)
   refine Am 0 rfl H.kK (Az 1 rfl rfl H.kK (fun _ hC => Qf rfl) (Az 2 rfl rfl H.kK (fun _ hC => Qa (off' := 2) underlying266 rfl sizeOf264 (by decide) rfl rfl) (Az 3 rfl rfl H.kK (fun _ hC => Qe isAgg264 rfl (hC.old.block hq (by simp)) rfl) (Am 4 rfl H.kK (Zf (i := 5) (j := 10) (by kernel_rfl) ?_ ?_)))))
   ·(refine Qv rfl (.inl rfl) (Qw rfl call65 rfl) (Ze (xs := xs) (hl.Yd H kYs) (by omega)) (fun _ _ ⟨M, hO, H1⟩ _ => ((H.Yn hO H1).2).kh (by simp) (Yv (H.Yn hO H1).1.keys kYs)) ?_; rintro u w45 ⟨M, hO, H1⟩; have h45 := H.Yn hO H1; clear H H1 hO; obtain ⟨hO, H⟩ := h45; have hMk := hO.keys; obtain ⟨a5, c5, rfl⟩ := hO.form)
    refine Zf (i := 6) (j := 10) (by kernel_rfl) ?_ ?_
    ·(refine Qv rfl (.inl rfl) (Qw rfl call166 rfl) (Zw (xs := xs) (RdS.own hO (fun p hp => H.held p (by simp [hp]))) h8) (fun _ _ hR _ => (H.seq0 hR.2).kh (by simp) kYs) ?_; rintro v w47 ⟨hv, H1⟩; rw [decide_eq_false (fun h => hg ⟨h8, h⟩)] at hv; subst hv; replace H := H.seq0 H1; clear H1)
     (refine Am 7 rfl H.kK (Az 8 rfl rfl H.kK (fun _ hC => Qs rfl rfl) (Az 9 rfl rfl H.kK (fun _ hC => Qs rfl rfl) (Ao 10 (Xd rfl (.inl rfl) (Qp (vs := flC Yt) H zeroValue135 rfl) (fun _ _ _ H => kC) ?_)))); clear H; intro b7 w52 hb7 H)
     (refine Ao 11 (Xb rfl (.inl rfl) (Qg (vs := flC (ofB xs)) H sizeOf135 rfl rfl (by simp [flC, Value.oneCell']) .here (by simp [flC])) (fun _ H => kC) ?_); clear H; intro w54 H; replace H := Hp.Uv (A := [_]) H hMk)
     (refine Aa 12 rfl H.kK (Ad (Js (Js (Jr (Jm (J (Xx rfl) (Jn (Jd rfl (Js (Jr (J (Qo (vs := flC Yt) isAgg135 sizeOf135 rfl (H.get (.there .here)) rfl (by simp [flC])) (Qd rfl (Qg (vs := flC Yt) H sizeOf135 rfl rfl (by simp [flC, Value.oneCell']) (.there (.there .here)) (by simp [flC])) ?_)))))))))))); clear H; intro w67 H)
     refine Ja (Jn (Je ?_))
     exact ⟨_, ⟨_, _, rfl, ldA (vs := flC Yt) isAgg135 sizeOf135 (H.get (.there (.there .here))) rfl (by simp [flC]), rfl⟩, .inr ⟨hg, rfl⟩, H.none kYs⟩
    ·(refine Xd rfl (.inl rfl) (Qp (vs := flC Yt) H zeroValue135 rfl) (fun _ _ _ H => kC) ?_; clear H; intro b7 w72 hb7 H)
     (refine Ao 6 (Qv rfl (.inl rfl) (Qw rfl call166 rfl) (Zw (xs := xs) (RdS.own hO (fun p hp => H.held p (by simp [hp]))) h8) (fun _ _ hR _ => (H.seq0 hR.2).kh (by simp) kYs) ?_); rintro v w74 ⟨hv, H1⟩; rw [decide_eq_false (fun h => hg ⟨h8, h⟩)] at hv; subst hv; replace H := H.seq0 H1; clear H1)
     (refine Am 7 rfl H.kK (Az 8 rfl rfl H.kK (fun _ hC => Qs rfl rfl) (Az 9 rfl rfl H.kK (fun _ hC => Qs rfl rfl) (Ao 11 (Xb rfl (.inl rfl) (Qg (vs := flC (ofB xs)) H sizeOf135 rfl rfl (by simp [flC, Value.oneCell']) .here (by simp [flC])) (fun _ H => kC) ?_)))); clear H; intro w79 H; replace H := Hp.Uv (A := [_]) H hMk)
     (refine Aa 12 rfl H.kK (Ad (Js (Js (Jr (Jm (J (Xx rfl) (Jn (Jd rfl (Js (Jr (J (Qo (vs := flC Yt) isAgg135 sizeOf135 rfl (H.get (.there .here)) rfl (by simp [flC])) (Qd rfl (Qg (vs := flC Yt) H sizeOf135 rfl rfl (by simp [flC, Value.oneCell']) (.there (.there .here)) (by simp [flC])) ?_)))))))))))); clear H; intro w92 H)
     refine Ja (Jn (Je ?_))
     exact ⟨_, ⟨_, _, rfl, ldA (vs := flC Yt) isAgg135 sizeOf135 (H.get (.there (.there .here))) rfl (by simp [flC]), rfl⟩, .inr ⟨hg, rfl⟩, H.none kYs⟩
   ·(refine Xd rfl (.inl rfl) (Qp (vs := flC Yt) H zeroValue135 rfl) (fun _ _ _ H => kC) ?_; clear H; intro b7 w97 hb7 H)
    (refine Ao 5 (Qv rfl (.inl rfl) (Qw rfl call65 rfl) (Ze (xs := xs) (hl.Yd H kYs) (by omega)) (fun _ _ ⟨M, hO, H1⟩ _ => ((H.Yn hO H1).2).kh (by simp) (Yv (H.Yn hO H1).1.keys kYs)) ?_); rintro u w99 ⟨M, hO, H1⟩; have h99 := H.Yn hO H1; clear H H1 hO; obtain ⟨hO, H⟩ := h99; have hMk := hO.keys; obtain ⟨a5, c5, rfl⟩ := hO.form)
    (refine Ao 6 (Qv rfl (.inl rfl) (Qw rfl call166 rfl) (Zw (xs := xs) (RdS.own hO (fun p hp => H.held p (by simp [hp]))) h8) (fun _ _ hR _ => (H.seq0 hR.2).kh (by simp) kYs) ?_); rintro v w101 ⟨hv, H1⟩; rw [decide_eq_false (fun h => hg ⟨h8, h⟩)] at hv; subst hv; replace H := H.seq0 H1; clear H1)
    (refine Am 7 rfl H.kK (Az 8 rfl rfl H.kK (fun _ hC => Qs rfl rfl) (Az 9 rfl rfl H.kK (fun _ hC => Qs rfl rfl) (Ao 11 (Xb rfl (.inl rfl) (Qg (vs := flC (ofB xs)) H sizeOf135 rfl rfl (by simp [flC, Value.oneCell']) (.app _ .here) (by simp [flC])) (fun _ H => kC) ?_)))); clear H; intro w106 H; replace H := Hp.Ub H hMk)
    (refine Aa 12 rfl H.kK (Ad (Js (Js (Jr (Jm (J (Xx rfl) (Jn (Jd rfl (Js (Jr (J (Qo (vs := flC Yt) isAgg135 sizeOf135 rfl (H.get (.there .here)) rfl (by simp [flC])) (Qd rfl (Qg (vs := flC Yt) H sizeOf135 rfl rfl (by simp [flC, Value.oneCell']) (.there (.there .here)) (by simp [flC])) ?_)))))))))))); clear H; intro w119 H)
    refine Ja (Jn (Je ?_))
    exact ⟨_, ⟨_, _, rfl, ldA (vs := flC Yt) isAgg135 sizeOf135 (H.get (.there (.there .here))) rfl (by simp [flC]), rfl⟩, .inr ⟨hg, rfl⟩, H.none kYs⟩
 ·(refine Js (Jr (Qb rfl (Qp (vs := flC Yt) H zeroValue135 rfl) ?_)); clear H; intro b4 w3 hb4 H)
  (refine Ja (Jn (Js (Jr (Qb rfl (Qp (vs := flC Yt) H zeroValue135 rfl) ?_)))); clear H; intro b6 w8 hb6 H)
  (refine Jn (Js (Js (Jr (Jm (Ji rfl (Jf 2 underlying266 rfl sizeOf264 rfl rfl (Jl isAgg264 rfl (H.Qc hq kYs) rfl (J (Vy underlying264 rfl rfl) (Jm (Jt rfl rfl (Jm (Jt rfl rfl (J (Qh underlying36 rfl) (Jt rfl rfl (Jm (Jt rfl rfl (Ji rfl (Jt rfl rfl (Jf 0 underlying266 rfl sizeOf3 rfl rfl (Jt rfl rfl (Jl isAgg3 rfl (H.Qc hq kYs) rfl (Jt rfl rfl (J (Dq rfl rfl (by omega)) (Jp rfl (Jn (Jd rfl (Js (Jr (J (Qo (vs := flC Yt) isAgg135 sizeOf135 rfl (H.get .here) rfl (by simp [flC])) (Qd rfl (Qg (vs := flC Yt) H sizeOf135 rfl rfl (by simp [flC, Value.oneCell']) (.there .here) (by simp [flC])) ?_)))))))))))))))))))))))))))))); clear H; intro w39 H)
  refine Ja (Jn (Je ?_))
  exact ⟨_, ⟨_, _, rfl, ldA (vs := flC Yt) isAgg135 sizeOf135 (H.get (.there .here)) rfl (by simp [flC]), rfl⟩, .inr ⟨fun hg => h8 hg.1, rfl⟩, H.none kYs⟩
end Go.Proofs.YtlpmfldijgdcoaaGreatDoor.File
namespace Go.Proofs.YtlpmfldijgdcoaaGreatDoor.File
open Go Go.Proofs Fx Codec Tryz
theorem Uk {xs : List UInt8} (h8 : xs.length = 8) (hz : ∀ x ∈ xs, x = 0) : Xy xs = (Yt, 0) := if_pos ⟨h8, hz⟩
theorem Uo {xs : List UInt8} (h : good xs) : ¬ (xs.length = 8 ∧ ∀ x ∈ xs, x = 0) := by
 rintro ⟨h8, hz⟩
 obtain ⟨a, b, c, d, e, f, g, i, rfl⟩ := len8 h8
 have ha := hz a (.head _)
 have hk := h.2.1.1.1
 subst ha
 simp [ofB] at hk
theorem Vj {xs : List UInt8} (h : good xs) : Xy xs = (ofB xs, 1) := by
 unfold Xy; rw [if_neg (Uo h), if_pos h]
theorem Ue {xs : List UInt8} (h : ¬ good xs) (hf : ¬ (xs.length = 8 ∧ ∀ x ∈ xs, x = 0)) : Xy xs = (Yt, 2) := by
 unfold Xy; rw [if_neg hf, if_neg h]
theorem b8_n (k : Int) (h0 : 0 ≤ k) (h1 : k ≤ 255) : (((b8 k).toNat : Nat) : Int) = k := by
 unfold b8
 rw [UInt8.toNat_ofNat']
 omega
theorem Vq {f : Fl} (h : Yz f) : ofB (Yj f) = f := by
 obtain ⟨k, p, r, g⟩ := f
 simp only [Yz] at h
 simp only [ofB, Yj, fb5, List.cons_append, List.getElem?_cons_zero, List.getElem?_cons_succ, Option.getD_some]
 rw [b8_n k (by omega) (by omega), b8_n p (by omega) (by omega), b8_n r (by omega) (by omega), b8_n g (by omega) (by omega)]
theorem Yu (f : Fl) : (Yj f).length = 8 := rfl
theorem Mf {f : Fl} (h : Yz f) : good (Yj f) := ⟨rfl, by rw [Vq h]; exact h, by rw [Vq h]⟩
theorem Ud {f : Fl} (h : Yz f) : Xy (Yj f) = (f, 1) := by rw [Vj (Mf h), Vq h]
theorem dec_ret {xs : List UInt8} {w : World} {l : Value} (hl : RdS w l (xs.map U)) (hb : xs.length ≤ 100000) :
  Ret Tryz.prog 142 #[l] w fun v w' => v = .tuple #[vF (Xy xs).1, I (Xy xs).2] ∧ Hp w [] w' := by
 refine Qy (args := [_]) func142 rfl ntmps142 results142 (by simp) ?_
 have H := Hp.refl w
 obtain ⟨ao, ca, rfl⟩ := hl.form
 simp only [List.length_map] at hl ⊢
 by_cases hf : xs.length = 8 ∧ ∀ x ∈ xs, x = 0
 ·have h8 := hf.1
  rw [Uk hf.1 hf.2]
  (refine Js (Jr (Qb rfl (Qp (vs := flC Yt) H zeroValue135 rfl) ?_)); clear H; intro b2 w3 hb2 H)
  (refine Ja (Jn (Js (Js (Jr (Jm (J (Qh underlying36 rfl) (J (Yr rfl rfl (by omega)) (Jm (Jt rfl rfl (Jm (Jt rfl rfl (Jy rfl call146 rfl (Dx (hl.Yd H kYs) (by omega)) ?_)))))))))))); rintro v w16 ⟨hv, H1⟩; rw [decide_eq_true hf.2] at hv; subst hv; replace H := H.seq0 H1; clear H1)
  (refine Jq rfl (Jn (Jd rfl (Js (Jr (J (Qm (places := [(0, 1), (1, 1), (2, 1), (3, 1)]) (vs := [(.int _ _), (.int _ _), (.int _ _), (.int _ _)]) underlying135 typeInfo135 rfl rfl (by kernel_rfl) rfl rfl rfl) (Qd rfl (Qg (vs := [(.int _ _), (.int _ _), (.int _ _), (.int _ _)]) H sizeOf135 rfl rfl (by simp [Value.oneCell']) .here (Nat.le_of_ble_eq_true rfl)) ?_)))))); clear H; intro w23 H)
  refine Ja (Jn (Je ?_))
  exact ⟨_, ⟨_, _, rfl, ldA (vs := flC Yt) isAgg135 sizeOf135 (H.get .here) rfl (by simp [flC]), rfl⟩, rfl, H.none kYs⟩
 ·by_cases h8 : xs.length = 8
  ·(refine Js (Jr (Qb rfl (Qp (vs := flC Yt) H zeroValue135 rfl) ?_)); clear H; intro b2 w3 hb2 H)
   (refine Ja (Jn (Js (Js (Jr (Jm (J (Qh underlying36 rfl) (J (Yr rfl rfl (by omega)) (Jm (Jt rfl rfl (Jm (Jt rfl rfl (Jy rfl call146 rfl (Dx (hl.Yd H kYs) (by omega)) ?_)))))))))))); rintro v w16 ⟨hv, H1⟩; rw [decide_eq_false (fun h => hf ⟨h8, h⟩)] at hv; subst hv; replace H := H.seq0 H1; clear H1)
   (refine Jq rfl (Jn (Jc rfl (Jk (Js (Jr (Jy rfl call126 rfl (Vr _) ?_)))))); rintro _ w23 ⟨q, rfl, hq, H1⟩; have hsz := H.size; replace H := H.Zo H1 (Qu hq Xu); replace hq := Nat.le_trans hsz hq; clear H1 hsz)
   (refine Jm (Jy rfl call190 rfl (Dj (xs := xs) (H.get .here) (hl.Yd H kYs) hb) ?_); rintro _ w25 ⟨(⟨hg, rfl⟩ | ⟨hg, rfl⟩), H1⟩ <;> (replace H := H.seq0 H1; clear H1))
   ·(refine Jm (Jx rfl rfl (Jx rfl rfl (Qb rfl (Qp (vs := flC Yt) H zeroValue135 rfl) ?_))); clear H; intro b4 w29 hb4 H)
    (have _g := hg.1; refine Qd rfl (Qg (vs := flC (ofB xs)) H sizeOf135 rfl rfl (by simp [flC, Value.oneCell']) .here (by simp [flC])) ?_; clear H; intro w30 H; replace H : Hp w [(b4, blk (flC (ofB xs)) 135), (q, cod), (b2, blk (flC Yt) 135)] _ := H)
    refine Ja (Jn (Js (Js (Jr (Jm (J (Xj rfl) (Jn (Jc rfl (Jk (Js (Jr (J (Qo (vs := flC (ofB xs)) isAgg135 sizeOf135 rfl (H.get .here) rfl (by simp [flC])) ?_))))))))))))
    (have _g := hg.1; refine Qd rfl (Qg (vs := flC (ofB xs)) H sizeOf135 rfl rfl (by simp [flC, Value.oneCell']) (.there (.there .here)) (by simp [flC])) ?_; clear H; intro w44 H)
    refine Ja (Jn (Je ?_))
    exact ⟨_, ⟨_, _, rfl, ldA (vs := flC (ofB xs)) isAgg135 sizeOf135 (H.get (.there (.there .here))) rfl (by simp [flC]), rfl⟩, (by rw [Vj hg]; rfl), H.none kYs⟩
   ·(refine Jm (Jx rfl rfl (Jx rfl rfl (Qb rfl (Qp (vs := flC Yt) H zeroValue135 rfl) ?_))); clear H; intro b4 w52 hb4 H)
    (refine Qd rfl (Qg (vs := [(.int _ _), (.int _ _), (.int _ _), (.int _ _)]) H sizeOf135 rfl rfl (by simp [Value.oneCell']) .here (Nat.le_of_ble_eq_true rfl)) ?_; clear H; intro w53 H)
    (refine Ja (Jn (Js (Js (Jr (Jm (J (Xx rfl) (Jn (Jd rfl (Js (Jr (J (Qm (places := [(0, 1), (1, 1), (2, 1), (3, 1)]) (vs := [(.int _ _), (.int _ _), (.int _ _), (.int _ _)]) underlying135 typeInfo135 rfl rfl (by kernel_rfl) rfl rfl rfl) (Qd rfl (Qg (vs := [(.int _ _), (.int _ _), (.int _ _), (.int _ _)]) H sizeOf135 rfl rfl (by simp [Value.oneCell']) (.there (.there .here)) (Nat.le_of_ble_eq_true rfl)) ?_)))))))))))); clear H; intro w66 H)
    refine Ja (Jn (Je ?_))
    exact ⟨_, ⟨_, _, rfl, ldA (vs := flC Yt) isAgg135 sizeOf135 (H.get (.there (.there .here))) rfl (by simp [flC]), rfl⟩, (by rw [Ue hg hf]; rfl), H.none kYs⟩
  ·(refine Js (Jr (Qb rfl (Qp (vs := flC Yt) H zeroValue135 rfl) ?_)); clear H; intro b2 w3 hb2 H)
   (refine Ja (Jn (Js (Js (Jr (Jm (J (Qh underlying36 rfl) (J (Xf rfl rfl (by omega)) (Jm (Jg rfl rfl (Jg rfl rfl (Jp rfl (Jn (Jc rfl (Jk (Js (Jr (Jy rfl call126 rfl (Vr _) ?_))))))))))))))))); rintro _ w21 ⟨q, rfl, hq, H1⟩; have hsz := H.size; replace H := H.Zo H1 (Qu hq Xu); replace hq := Nat.le_trans hsz hq; clear H1 hsz)
   (refine Jm (Jy rfl call190 rfl (Dj (xs := xs) (H.get .here) (hl.Yd H kYs) hb) ?_); rintro _ w23 ⟨(⟨hg, rfl⟩ | ⟨hg, rfl⟩), H1⟩ <;> (replace H := H.seq0 H1; clear H1))
   ·(refine Jm (Jx rfl rfl (Jx rfl rfl (Qb rfl (Qp (vs := flC Yt) H zeroValue135 rfl) ?_))); clear H; intro b4 w27 hb4 H)
    (have _g := hg.1; refine Qd rfl (Qg (vs := flC (ofB xs)) H sizeOf135 rfl rfl (by simp [flC, Value.oneCell']) .here (by simp [flC])) ?_; clear H; intro w28 H; replace H : Hp w [(b4, blk (flC (ofB xs)) 135), (q, cod), (b2, blk (flC Yt) 135)] _ := H)
    refine Ja (Jn (Js (Js (Jr (Jm (J (Xj rfl) (Jn (Jc rfl (Jk (Js (Jr (J (Qo (vs := flC (ofB xs)) isAgg135 sizeOf135 rfl (H.get .here) rfl (by simp [flC])) ?_))))))))))))
    (have _g := hg.1; refine Qd rfl (Qg (vs := flC (ofB xs)) H sizeOf135 rfl rfl (by simp [flC, Value.oneCell']) (.there (.there .here)) (by simp [flC])) ?_; clear H; intro w42 H)
    refine Ja (Jn (Je ?_))
    exact ⟨_, ⟨_, _, rfl, ldA (vs := flC (ofB xs)) isAgg135 sizeOf135 (H.get (.there (.there .here))) rfl (by simp [flC]), rfl⟩, (by rw [Vj hg]; rfl), H.none kYs⟩
   ·(refine Jm (Jx rfl rfl (Jx rfl rfl (Qb rfl (Qp (vs := flC Yt) H zeroValue135 rfl) ?_))); clear H; intro b4 w50 hb4 H)
    (refine Qd rfl (Qg (vs := [(.int _ _), (.int _ _), (.int _ _), (.int _ _)]) H sizeOf135 rfl rfl (by simp [Value.oneCell']) .here (Nat.le_of_ble_eq_true rfl)) ?_; clear H; intro w51 H)
    (refine Ja (Jn (Js (Js (Jr (Jm (J (Xx rfl) (Jn (Jd rfl (Js (Jr (J (Qm (places := [(0, 1), (1, 1), (2, 1), (3, 1)]) (vs := [(.int _ _), (.int _ _), (.int _ _), (.int _ _)]) underlying135 typeInfo135 rfl rfl (by kernel_rfl) rfl rfl rfl) (Qd rfl (Qg (vs := [(.int _ _), (.int _ _), (.int _ _), (.int _ _)]) H sizeOf135 rfl rfl (by simp [Value.oneCell']) (.there (.there .here)) (Nat.le_of_ble_eq_true rfl)) ?_)))))))))))); clear H; intro w64 H)
    refine Ja (Jn (Je ?_))
    exact ⟨_, ⟨_, _, rfl, ldA (vs := flC Yt) isAgg135 sizeOf135 (H.get (.there (.there .here))) rfl (by simp [flC]), rfl⟩, (by rw [Ue hg hf]; rfl), H.none kYs⟩
/-- a file made of a number -/
def fileN (a : Int) : Fl := ⟨a % 16777216 % 3 + 1, if a % 16777216 % 3 = 2 then 0 else a % 16777216 / 16 % 8, a % 16777216 / 256 % 64 + 1, a % 16777216 / 32768 % 2⟩
end Go.Proofs.YtlpmfldijgdcoaaGreatDoor.File
namespace Go.Proofs.YtlpmfldijgdcoaaGreatDoor.File
open Go Go.Proofs Fx Codec Tryz
theorem fl_len (f : Fl) : (flC f).length = 4 := rfl
theorem fl_one (f : Fl) : ∀ v ∈ flC f, v.oneCell' = true := by
 intro v hv
 simp only [flC, List.mem_cons, List.not_mem_nil, or_false] at hv
 rcases hv with rfl | rfl | rfl | rfl <;> rfl
section
variable {E : Env} {w0 w : World} {L : List (Nat × Obj)} {d : Option Nat} {ty e : TypeId} {pos : String} {after : Array Edge} {x y : Operand} {b : Nat} {p q : Fl} {f : Obj → List (Nat × Obj)}
theorem ldL (hb : w.heap[b]? = some (blk (flC p) e)) : (loadVar 135 ⟨b, 0, none⟩).run Tryz.prog w = .ok (vF p) w :=
 ldA isAgg135 sizeOf135 hb rfl (by rw [fl_len]; decide)
theorem Df (hx : ev E x = ptr b 0) (hb : w.heap[b]? = some (blk (flC p) e)) : (execOp (ev E) (mk d (.load 135 x) ty pos after)).run Tryz.prog w = .ok (.value (vF p)) w :=
 Qo isAgg135 sizeOf135 hx hb rfl (by rw [fl_len]; decide)
theorem Bu (H : Hp w0 L w) (hx : ev E x = ptr b 0) (hy : ev E y = vF q) (hL : At L b (blk (flC p) e) f) :
  ∃ w', Hp w0 (f (blk (flC q) e)) w' ∧ (execOp (ev E) (mk d (.store 135 x y) ty pos after)).run Tryz.prog w = .ok .skip w' :=
 Qg (vs := flC q) H sizeOf135 hx hy (fl_one q) hL (by rw [fl_len, fl_len]; decide)
theorem Us (H : Hp w0 L w) : ∃ b w', w0.heap.size ≤ b ∧ Hp w0 ((b, blk (flC Yt) 135) :: L) w' ∧ (execOp (ev E) (mk d (.alloc 135) ty pos after)).run Tryz.prog w = .ok (.value (ptr b 0)) w' :=
 Qp (vs := flC Yt) H zeroValue135 rfl
theorem E_boxL (H : Hp w0 L w) (hx : ev E x = vF q) : ∃ b w', w0.heap.size ≤ b ∧ Hp w0 ((b, blk (flC q) 135) :: L) w' ∧ (execOp (ev E) (mk d (.box 135 x) ty pos after)).run Tryz.prog w = .ok (.value (ptr b 0)) w' :=
 Xl (v := vF q) (vs := flC q) H hx rfl
end
end Go.Proofs.YtlpmfldijgdcoaaGreatDoor.File
namespace Go.Proofs.YtlpmfldijgdcoaaGreatDoor.Ring
open Go Go.Proofs Fx Codec Tryz
/-- a pipe -/
structure Pi where
 h : Int
 c : Int
 r : Int
 w : Int
 d : List UInt8
 hd : d.length = 32
def piC (p : Pi) : List Value := [I p.h, I p.c, I p.r, I p.w] ++ p.d.map U
abbrev vP (p : Pi) : Value := .agg (piC p).toArray
def Xn : Pi := ⟨0, 0, 0, 0, List.replicate 32 0, rfl⟩
theorem Ya (p : Pi) : (piC p).length = 36 := by simp [piC, p.hd]
theorem piC_all (p : Pi) : ((piC p).drop 0).take 36 = piC p := by rw [List.drop_zero, List.take_of_length_le (by rw [Ya]; decide)]
theorem piC_one (p : Pi) : ∀ v ∈ piC p, v.oneCell' = true := by
 intro v hv
 simp only [piC, List.mem_append, List.mem_cons, List.mem_map, List.not_mem_nil, or_false] at hv
 rcases hv with (rfl | rfl | rfl | rfl) | ⟨x, _, rfl⟩ <;> rfl
section
variable {E : Env} {w0 w : World} {L : List (Nat × Obj)} {d : Option Nat} {ty e : TypeId} {pos : String} {after : Array Edge} {x y : Operand} {b : Nat} {p q : Pi} {f : Obj → List (Nat × Obj)}
theorem ldP (hb : w.heap[b]? = some (blk (piC p) e)) : (loadVar 131 ⟨b, 0, none⟩).run Tryz.prog w = .ok (vP p) w :=
 ldA isAgg131 sizeOf131 hb (piC_all p) (by rw [Ya]; decide)
theorem Xa (hx : ev E x = ptr b 0) (hb : w.heap[b]? = some (blk (piC p) e)) : (execOp (ev E) (mk d (.load 131 x) ty pos after)).run Tryz.prog w = .ok (.value (vP p)) w :=
 Qo isAgg131 sizeOf131 hx hb (piC_all p) (by rw [Ya]; decide)
theorem Qn (H : Hp w0 L w) (hx : ev E x = ptr b 0) (hy : ev E y = vP q) (hL : At L b (blk (piC p) e) f) :
  ∃ w', Hp w0 (f (blk (piC q) e)) w' ∧ (execOp (ev E) (mk d (.store 131 x y) ty pos after)).run Tryz.prog w = .ok .skip w' := by
 have h := Qg (d := d) (ty := ty) (pos := pos) (after := after) (vs := piC q) H (fun w => by rw [Ya]; exact sizeOf131 w) hx hy (piC_one q) hL (by rw [Ya, Ya]; decide)
 rw [List.take_zero, List.nil_append, Ya, List.drop_of_length_le (by rw [Ya]; decide), List.append_nil] at h
 exact h
theorem Qt (H : Hp w0 L w) : ∃ b w', w0.heap.size ≤ b ∧ Hp w0 ((b, blk (piC Xn) 131) :: L) w' ∧ (execOp (ev E) (mk d (.alloc 131) ty pos after)).run Tryz.prog w = .ok (.value (ptr b 0)) w' :=
 Qp (vs := piC Xn) H zeroValue131 rfl
theorem Ys (H : Hp w0 L w) (hx : ev E x = vP q) : ∃ b w', w0.heap.size ≤ b ∧ Hp w0 ((b, blk (piC q) 131) :: L) w' ∧ (execOp (ev E) (mk d (.box 131 x) ty pos after)).run Tryz.prog w = .ok (.value (ptr b 0)) w' :=
 Xl (v := vP q) (vs := piC q) H hx rfl
end
def okP (p : Pi) : Prop := (0 ≤ p.h ∧ p.h ≤ 31) ∧ (0 ≤ p.c ∧ p.c ≤ 32) ∧ (0 ≤ p.r ∧ p.r ≤ 8) ∧ (0 ≤ p.w ∧ p.w ≤ 8)
instance (p : Pi) : Decidable (okP p) := by unfold okP; infer_instance
def b8 (n : Int) : UInt8 := UInt8.ofNat n.toNat
theorem Dg {n : Int} (h : 0 ≤ n) : IntKind.u8.wrap n = ((b8 n).toNat : Int) := by
 obtain ⟨m, rfl⟩ : ∃ m : Nat, n = (m : Int) := ⟨n.toNat, by omega⟩
 exact Un
def hb6 (p : Pi) : List UInt8 := [1, b8 p.h, b8 p.c, b8 p.r, b8 p.w, 197]
/-- a pipe's bytes -/
def Xm (p : Pi) : List UInt8 := (hb6 p ++ [Nh (hb6 p), 0]) ++ p.d
theorem Yu (p : Pi) : (Xm p).length = 40 := by simp [Xm, hb6, p.hd]
theorem Ux (n lo hi : Int) (w : World) : Ret Tryz.prog 70 #[I n, I lo, I hi] w fun v w' => v = .bool (decide (lo ≤ n ∧ n ≤ hi)) ∧ Hp w [] w' := by
 refine Qi (args := [_, _, _]) func70 rfl ntmps70 results70 (by simp) ?_
 have H := Hp.refl w
 refine Js (Jr (Ja (Jn (Js (Jr (Jm (Jm (J (Mi rfl rfl) (Jm ?_)))))))))
 apply Xs 4 10 14 [(11, 14)] H
 case hc => rfl
 case h1 =>
  intro h11
  refine Jt rfl rfl (Jm (Jt rfl rfl (Jm (Jt rfl rfl (J (R_le rfl rfl) (Jq rfl (Jn ?_)))))))
  exact ⟨kS, rfl, H⟩
 case h0 =>
  intro h11
  refine Jg rfl rfl (Jg rfl rfl (Jg rfl rfl (Jp rfl (Jn ?_))))
  exact ⟨kS, rfl, H⟩
 case h2 =>
  (clear H; intro E11 w11 H)
  refine Ja (Jn (Je ?_))
  exact ⟨_, rfl, congrArg Value.bool (decide_eq_decide.2 (by omega)), H⟩
theorem in1_ret (n hi : Int) (w : World) : Ret Tryz.prog 149 #[I n, I hi] w fun v w' => v = .bool (decide (0 ≤ n ∧ n ≤ hi)) ∧ Hp w [] w' := by
 refine Qi (args := [_, _]) func149 rfl ntmps149 results149 (by simp) ?_
 have H := Hp.refl w
 refine Js (Jr (Ja (Jn (Js (Jr (Jm (J (Mi rfl rfl) (Jm ?_))))))))
 apply Xs 4 7 11 [(8, 11)] H
 case hc => rfl
 case h1 =>
  intro h10
  refine Jt rfl rfl (Jm (Jt rfl rfl (Jm (Jt rfl rfl (J (R_le rfl rfl) (Jq rfl (Jn ?_)))))))
  exact ⟨kS, rfl, H⟩
 case h0 =>
  intro h10
  refine Jg rfl rfl (Jg rfl rfl (Jg rfl rfl (Jp rfl (Jn ?_))))
  exact ⟨kS, rfl, H⟩
 case h2 =>
  (clear H; intro E10 w10 H)
  refine Ja (Jn (Je ?_))
  exact ⟨_, rfl, congrArg Value.bool (decide_eq_decide.2 (by omega)), H⟩
theorem Dm (p : Pi) (w : World) : Ret Tryz.prog 109 #[vP p] w fun v w' => v = .bool (decide (okP p)) ∧ Hp w [] w' := by
 refine Qi (args := [_]) func109 rfl ntmps109 results109 (by simp) ?_
 have H := Hp.refl w
 (refine Js (Jr (Qb rfl (Ys H rfl) ?_)); clear H; intro bx w3 hbx H)
 (refine Ja (Jn (Js (Jr (Ja (Jn (Js (Jr (Jm (Jf 0 underlying131 rfl sizeOf3 rfl rfl (Jl isAgg3 rfl (H.get .here) rfl (Jz rfl call149 rfl (in1_ret _ _ _) H ?_))))))))))); intro w15 H)
 refine Jm ?_
 apply Xs 5 8 13 [(9, 13)] H
 case hc => rfl
 case h1 =>
  intro h17
  (refine Jt rfl rfl (Jm (Jt rfl rfl (Jf 1 underlying131 rfl sizeOf3 rfl rfl (Jt rfl rfl (Jl isAgg3 rfl (H.get .here) rfl (Jt rfl rfl (Jz rfl call149 rfl (in1_ret _ _ _) H ?_))))))); intro w25 H)
  refine Jq rfl (Jn ?_)
  exact ⟨kS, rfl, H⟩
 case h0 =>
  intro h17
  refine Jg rfl rfl (Jg rfl rfl (Jg rfl rfl (Jg rfl rfl (Jp rfl (Jn ?_)))))
  exact ⟨kS, rfl, H⟩
 case h2 =>
  (clear H; intro E17 w17 H)
  refine Jm ?_
  apply Xs 5 14 19 [(15, 19)] H
  case hc => rfl
  case h1 =>
   intro h37
   (refine Jt rfl rfl (Jm (Jt rfl rfl (Jf 2 underlying131 rfl sizeOf3 rfl rfl (Jt rfl rfl (Jl isAgg3 rfl (H.get .here) rfl (Jt rfl rfl (Jz rfl call149 rfl (in1_ret _ _ _) H ?_))))))); intro w45 H)
   refine Jq rfl (Jn ?_)
   exact ⟨kS, rfl, H⟩
  case h0 =>
   intro h37
   refine Jg rfl rfl (Jg rfl rfl (Jg rfl rfl (Jg rfl rfl (Jp rfl (Jn ?_)))))
   exact ⟨kS, rfl, H⟩
  case h2 =>
   (clear H; intro E37 w37 H)
   refine Jm ?_
   apply Xs 5 20 25 [(21, 25)] H
   case hc => rfl
   case h1 =>
    intro h57
    (refine Jt rfl rfl (Jm (Jt rfl rfl (Jf 3 underlying131 rfl sizeOf3 rfl rfl (Jt rfl rfl (Jl isAgg3 rfl (H.get .here) rfl (Jt rfl rfl (Jz rfl call149 rfl (in1_ret _ _ _) H ?_))))))); intro w65 H)
    refine Jq rfl (Jn ?_)
    exact ⟨kS, rfl, H⟩
   case h0 =>
    intro h57
    refine Jg rfl rfl (Jg rfl rfl (Jg rfl rfl (Jg rfl rfl (Jp rfl (Jn ?_)))))
    exact ⟨kS, rfl, H⟩
   case h2 =>
    (clear H; intro E57 w57 H)
    refine Ja (Jn (Je ?_))
    exact ⟨_, rfl, congrArg Value.bool (decide_eq_decide.2 (by simp only [okP]; omega)), H.none kYs⟩
end Go.Proofs.YtlpmfldijgdcoaaGreatDoor.Ring
namespace Go.Proofs.YtlpmfldijgdcoaaGreatDoor.Ring
open Go Go.Proofs Fx Codec Tryz
theorem take_snoc_u {xs : List UInt8} {i : Nat} (h : i < xs.length) : xs.take i ++ [xs[i]] = xs.take (i + 1) := (List.take_succ_eq_append_getElem h).symm
theorem cat_snoc {A xs : List UInt8} {i : Nat} (h : i < xs.length) : (A ++ xs.take i) ++ [xs[i]] = A ++ xs.take (i + 1) := by
 rw [List.append_assoc, take_snoc_u h]
theorem put_no {l : Value} (p : Pi) (hok : ¬ okP p) (w : World) : Ret Tryz.prog 162 #[vP p, l] w fun v w' => v = .bool false ∧ Hp w [] w' := by
 refine Qi (args := [_, _]) func162 rfl ntmps162 results162 (by simp) ?_
 have H := Hp.refl w
 (refine Js (Jr (Qb rfl (Ys H rfl) ?_)); clear H; intro bx w3 hbx H)
 (refine Ja (Jn (Js (Js (Jr (J (Xa rfl (H.get .here)) (Jy rfl call109 rfl (Dm p _) ?_)))))); rintro v w10 ⟨hv, H1⟩; rw [decide_eq_false hok] at hv; subst hv; replace H := H.seq0 H1; clear H1)
 refine J (Xx rfl) (Jn (Jd rfl (Js (Jr (Ja (Jn (Je ?_)))))))
 exact ⟨_, rfl, rfl, H.none kYs⟩
theorem pi_dat (p : Pi) : ((piC p).drop 4).take 32 = p.d.map U := by
 have hd := p.hd
 unfold piC
 rw [List.drop_left' (by simp), List.take_of_length_le (by simp; omega)]
theorem put_cells (p : Pi) (s : UInt8) : (((hb6 p ++ [s, 0]) ++ List.replicate 32 0).map U).take 8 ++ (p.d.map U).take 32 ++ (((hb6 p ++ [s, 0]) ++ List.replicate 32 0).map U).drop (8 + min (p.d.map U).length 32) = ((hb6 p ++ [s, 0]) ++ p.d).map U := by
 have hd := p.hd
 rw [List.take_of_length_le (l := p.d.map U) (by simp; omega), List.length_map, hd, List.drop_of_length_le (by simp [hb6]), List.append_nil, List.map_append, List.take_left' (by simp [hb6]), List.map_append, List.map_append, List.map_append]
theorem Nr {b : Nat} {w : World} (p : Pi) (hok : okP p) (hb : w.heap[b]? = some (blk ((List.replicate 40 0).map U) 5)) :
  Ret Tryz.prog 162 #[vP p, sl b 0 40 40] w fun v w' => v = .bool true ∧ Hp w [(b, blk ((Xm p).map U) 5)] w' := by
 refine Qi (args := [_, _]) func162 rfl ntmps162 results162 (by simp) ?_
 have H := Hp.focus0 hb
 have hd := p.hd
 have hok0 := hok
 unfold okP at hok
 (refine Js (Jr (Qb rfl (Ys H rfl) ?_)); clear H; intro bx w3 hbx H)
 (refine Ja (Jn (Js (Js (Jr (J (Xa rfl (H.get .here)) (Jy rfl call109 rfl (Dm p _) ?_)))))); rintro v w10 ⟨hv, H1⟩; rw [decide_eq_true hok0] at hv; subst hv; replace H := H.seq0 H1; clear H1)
 (refine J (Xj rfl) (Jn (Jc rfl (Jk (Js (Jr (Jm (Jf 0 underlying131 rfl sizeOf3 rfl rfl (Jl isAgg3 rfl (H.get .here) rfl (J (Xe underlying3 underlying5 rfl (Dg (n := p.h) (by omega))) (Jf 1 underlying131 rfl sizeOf3 rfl rfl (Jl isAgg3 rfl (H.get .here) rfl (J (Xe underlying3 underlying5 rfl (Dg (n := p.c) (by omega))) (Jf 2 underlying131 rfl sizeOf3 rfl rfl (Jl isAgg3 rfl (H.get .here) rfl (J (Xe underlying3 underlying5 rfl (Dg (n := p.r) (by omega))) (Jf 3 underlying131 rfl sizeOf3 rfl rfl (Jl isAgg3 rfl (H.get .here) rfl (J (Xe underlying3 underlying5 rfl (Dg (n := p.w) (by omega))) (Qb rfl (Xk (vs := [(.int _ _), (.int _ _), (.int _ _), (.int _ _), (.int _ _), (.int _ _)]) H underlying36 sizeOf5 zeroValue5 rfl rfl (by decide) rfl rfl (by simp [Value.oneCell'])) ?_))))))))))))))))))); clear H; intro b30 w30 hb30 H)
 (refine Ve rfl (E_copy (xs := (hb6 p).map U) H (.there (.there .here)) underlying36 sizeOf5 rfl rfl (RdS.blk (H.get .here) rfl (by simp) (by simp)).csrc (by simp) (by simp [Value.oneCell'])) ?_; clear H; rintro _ _ w31 rfl H; replace H := H.pop (by assumption); replace H : Hp w [(bx, blk (piC p) 131), (b, blk ((hb6 p ++ List.replicate 34 0).map U) 5)] _ := H)
 (refine Jn (Js (Jr (Jm (Jm (J (Bq underlying36 sizeOf5 rfl .none (.some rfl) (by omega) (by omega) (by omega) (by omega) (by omega) rfl) (Jz rfl call125 rfl (sum_ret (xs := hb6 p) (RdS.blk (H.get (.there .here)) rfl (by simp [hb6]) (by simp)) (by simp [hb6])) H ?_)))))); intro w38 H)
 (refine J (Qj (off' := 6) underlying36 sizeOf5 rfl rfl (by omega) (by omega) rfl) (Qd rfl (Qz (v := U (Nh (hb6 p))) H sizeOf5 rfl rfl rfl (.there .here) (by simp [hb6])) ?_); clear H; intro w40 H; replace H : Hp w [(bx, blk (piC p) 131), (b, blk (((hb6 p ++ [Nh (hb6 p), 0]) ++ List.replicate 32 0).map U) 5)] _ := H)
 refine Jn (Js ?_)
 (refine Xi (Kp []) (fun _ => false) (by kernel_rfl) H ?_; clear H; intro w43 H)
 (refine Am 0 rfl (H.kp.sub (by simp)) (Az 1 rfl rfl (H.kp.sub (by simp)) (fun _ hC => R_from (k := 8) (m := 32) (k' := 8) underlying36 sizeOf5 rfl rfl rfl (by decide) rfl (by decide)) (Az 2 rfl rfl (H.kp.sub (by simp)) (fun _ hC => Qa (off' := 4) underlying131 rfl sizeOf129 (by decide) rfl rfl) (Az 3 rfl rfl (H.kp.sub (by simp)) (fun _ hC => R_all underlying129 sizeOf5 rfl (by decide)) (Ao 4 (WI_effm rfl (.inl rfl) (E_copy (xs := p.d.map U) (off := 8) H (.there .here) underlying36 sizeOf5 rfl rfl (RdS.blk (off := 4) (H.get .here) (pi_dat p) (by rw [Ya]; decide) (by decide)).csrc (by simp [hb6]) (by simp [Value.oneCell'])) (fun _ _ H => kC) ?_))))); clear H; rintro _ _ w49 rfl H; rw [put_cells p] at H)
 refine Ad (Js (Jr (Ja (Jn (Je ?_)))))
 exact ⟨_, rfl, rfl, H.pop (by assumption)⟩
end Go.Proofs.YtlpmfldijgdcoaaGreatDoor.Ring
namespace Go.Proofs.YtlpmfldijgdcoaaGreatDoor.Ring
open Go Go.Proofs Fx Codec Tryz
/-- the codec -/
abbrev cod : Obj := blk [I 40, .func (.func 162) #[] #[], .func (.func 163) #[] #[]] 261
theorem Vr (w : World) : Ret Tryz.prog 122 #[] w fun v w' => ∃ q, v = ptr q 0 ∧ w.heap.size ≤ q ∧ Hp w [(q, cod)] w' := by
 refine Qi (args := []) func122 rfl ntmps122 results122 (by simp) ?_
 have H := Hp.refl w
 have hnew : Ret Tryz.prog 161 #[I 40, .func (.func 162) #[] #[], .func (.func 163) #[] #[]] w fun v w' => ∃ q, v = ptr q 0 ∧ w.heap.size ≤ q ∧ Hp w [(q, cod)] w' := by
  refine Qi (args := [_, _, _]) func161 rfl ntmps161 results161 (by simp) ?_
  refine Js (Jr (Ja (Jn (Js (Jr (Jm (J (Mz (r := 40) rfl rfl (by decide)) (Ym rfl (Nn (r := 40) rfl rfl (by decide)) ?_))))))))
  (refine Jm (Jm (J (Qm (places := [(0, 1), (1, 1), (2, 1)]) (vs := [(.int _ _), (.func _ _ _), (.func _ _ _)]) underlying261 typeInfo261 rfl rfl (by kernel_rfl) rfl rfl rfl) (Qb rfl (Xl (v := (.agg (List.toArray [(.int _ _), (.func _ _ _), (.func _ _ _)]))) H rfl rfl) ?_))); clear H; intro b13 w13 hb13 H)
  refine Ja (Jn (Je ?_))
  exact ⟨_, rfl, _, rfl, by assumption, H⟩
 (refine Js (Jr (Ja (Jn (Js (Jr (Jy rfl call161 rfl hnew ?_)))))); rintro _ w7 ⟨q, rfl, hq, H1⟩; replace H := H.Zo H1 (Qu hq Xu); clear H1)
 refine Ja (Jn (Je ?_))
 exact ⟨_, rfl, _, rfl, hq, H⟩
theorem encM_ret {q : Nat} {w : World} (f : Pi) (hq : w.heap[q]? = some cod) :
  Ret Tryz.prog 123 #[ptr q 0, vP f] w fun v w' => (okP f ∧ ∃ b, v = .tuple #[sl b 0 40 40, .bool true] ∧ w.heap.size ≤ b ∧ Hp w [(b, blk ((Xm f).map U) 5)] w') ∨ (¬ okP f ∧ v = .tuple #[nilS, .bool false] ∧ Hp w [] w') := by
 refine Qi (args := [_, _]) func123 rfl ntmps123 results123 (by simp) ?_
 have H := Hp.focus0 hq
 by_cases hok : okP f
 ·(refine Js (Jr (Qb rfl (Ys H rfl) ?_)); clear H; intro bx w3 hbx H)
  (refine Ja (Ja (Jn (Js (Jr (Jm (Ji rfl (Jf 0 underlying261 rfl sizeOf3 rfl rfl (Jl isAgg3 rfl (H.get (.there .here)) rfl (Qb rfl (Vf H underlying36 sizeOf5 typeInfo5 zeroValue5 rfl rfl rfl (by decide) (by decide) (by decide) (by decide)) ?_))))))))); clear H; intro b w13 hb H; replace H : Hp w [(b, blk ((List.replicate 40 0).map U) 5), (bx, blk (piC f) 131), (q, cod)] _ := H)
  refine Ja (Jn (Js (Js ?_)))
  (refine Xi (Kp [(bx, blk (piC f) 131), (q, cod)]) (fun _ => false) (by kernel_rfl) H ?_; clear H; intro w18 H)
  (refine Am 0 rfl (H.kp.sub (by simp)) (Az 1 rfl rfl (H.kp.sub (by simp)) (fun _ hC => Qf rfl) (Az 2 rfl rfl (H.kp.sub (by simp)) (fun _ hC => Qa (off' := 1) underlying261 rfl sizeOf259 (by decide) rfl rfl) (Az 3 rfl rfl (H.kp.sub (by simp)) (fun _ hC => Qe isAgg259 rfl (hC.get (.there .here)) rfl) (Az 4 rfl rfl (H.kp.sub (by simp)) (fun _ hC => Vy underlying259 rfl rfl) (Am 5 rfl (H.kp.sub (by simp)) (Ai 6 rfl rfl rfl (H.kp.sub (by simp)) (fun _ hC => Va) (Ag 7 rfl rfl rfl (H.kp.sub (by simp)) (fun _ hC => Qf rfl) (Ag 8 rfl rfl rfl (H.kp.sub (by simp)) (fun _ hC => Qa (off' := 1) underlying261 rfl sizeOf259 (by decide) rfl rfl) (Ag 9 rfl rfl rfl (H.kp.sub (by simp)) (fun _ hC => Qe isAgg259 rfl (hC.get (.there .here)) rfl) (Ag 10 rfl rfl rfl (H.kp.sub (by simp)) (fun _ hC => Xa rfl (hC.get .here)) (Ai 11 rfl rfl rfl (H.kp.sub (by simp)) (fun _ hC => Va) (Ao 12 (Qv rfl (.inr ⟨_, _, rfl, rfl⟩) (Qw rfl call162 rfl) (Nr f hok (H.get .here)) (fun _ _ hR _ => (H.seq hR.2 (Yh .here Yi)).kp.sub (by simp)) ?_))))))))))))); rintro _ w32 ⟨rfl, H1⟩; replace H := H.seq H1 (Yh .here Yi); clear H1)
  refine Ag 13 rfl rfl rfl (H.kp.sub (by simp)) (fun _ hC => Xj rfl) (Ah 14 rfl rfl (H.kp.sub (by simp)) (fun _ hC => Zg rfl) (Ad (Jc rfl (Jk (Js (Jr (Jm (Ja (Ja (Jn (Je ?_)))))))))))
  exact ⟨_, rfl, .inl ⟨hok, b, rfl, hb, (H.pop2 hbx).swap2.back hq⟩⟩
 ·(refine Js (Jr (Qb rfl (Ys H rfl) ?_)); clear H; intro bx w3 hbx H)
  (refine Ja (Ja (Jn (Js (Jr (Jm (Ji rfl (Jf 0 underlying261 rfl sizeOf3 rfl rfl (Jl isAgg3 rfl (H.get (.there .here)) rfl (Qb rfl (Vf H underlying36 sizeOf5 typeInfo5 zeroValue5 rfl rfl rfl (by decide) (by decide) (by decide) (by decide)) ?_))))))))); clear H; intro b w13 hb H; replace H : Hp w [(b, blk ((List.replicate 40 0).map U) 5), (bx, blk (piC f) 131), (q, cod)] _ := H)
  refine Ja (Jn (Js (Js ?_)))
  (refine Xi (Kp [(bx, blk (piC f) 131), (q, cod)]) (fun _ => false) (by kernel_rfl) H ?_; clear H; intro w18 H)
  (refine Am 0 rfl (H.kp.sub (by simp)) (Az 1 rfl rfl (H.kp.sub (by simp)) (fun _ hC => Qf rfl) (Az 2 rfl rfl (H.kp.sub (by simp)) (fun _ hC => Qa (off' := 1) underlying261 rfl sizeOf259 (by decide) rfl rfl) (Az 3 rfl rfl (H.kp.sub (by simp)) (fun _ hC => Qe isAgg259 rfl (hC.get (.there .here)) rfl) (Az 4 rfl rfl (H.kp.sub (by simp)) (fun _ hC => Vy underlying259 rfl rfl) (Am 5 rfl (H.kp.sub (by simp)) (Ai 6 rfl rfl rfl (H.kp.sub (by simp)) (fun _ hC => Va) (Ag 7 rfl rfl rfl (H.kp.sub (by simp)) (fun _ hC => Qf rfl) (Ag 8 rfl rfl rfl (H.kp.sub (by simp)) (fun _ hC => Qa (off' := 1) underlying261 rfl sizeOf259 (by decide) rfl rfl) (Ag 9 rfl rfl rfl (H.kp.sub (by simp)) (fun _ hC => Qe isAgg259 rfl (hC.get (.there .here)) rfl) (Ag 10 rfl rfl rfl (H.kp.sub (by simp)) (fun _ hC => Xa rfl (hC.get .here)) (Ai 11 rfl rfl rfl (H.kp.sub (by simp)) (fun _ hC => Va) (Ao 12 (Qv rfl (.inr ⟨_, _, rfl, rfl⟩) (Qw rfl call162 rfl) (put_no f hok _) (fun _ _ hR _ => (H.seq0 hR.2).kp.sub (by simp)) ?_))))))))))))); rintro _ w32 ⟨rfl, H1⟩; replace H := H.seq0 H1; clear H1)
  refine Ag 13 rfl rfl rfl (H.kp.sub (by simp)) (fun _ hC => Xx rfl) (Ah 14 rfl rfl (H.kp.sub (by simp)) (fun _ hC => Zg rfl) (Ad (Jd rfl (Js (Jr (Ja (Ja (Jn (Je ?_)))))))))
  exact ⟨_, rfl, .inr ⟨hok, rfl, ((H.pop hb).pop hbx).back hq⟩⟩
theorem Bl (f : Pi) (w : World) :
  Ret Tryz.prog 85 #[vP f] w fun v w' => (okP f ∧ ∃ b, v = .tuple #[sl b 0 40 40, .bool true] ∧ w.heap.size ≤ b ∧ Hp w [(b, blk ((Xm f).map U) 5)] w') ∨ (¬ okP f ∧ v = .tuple #[nilS, .bool false] ∧ Hp w [] w') := by
 refine Qi (args := [_]) func85 rfl ntmps85 results85 (by simp) ?_
 have H := Hp.refl w
 (refine Js (Jr (Qb rfl (Ys H rfl) ?_)); clear H; intro bx w3 hbx H)
 refine Ja (Ja (Jn (Js ?_)))
 (refine Xi (Kp [(bx, blk (piC f) 131)]) (fun _ => false) (by kernel_rfl) H ?_; clear H; intro w8 H)
 (refine Az 1 rfl rfl H.kp (fun _ hC => Xa rfl (hC.get .here)) (Ao 0 (Qv rfl (.inl rfl) (Qw rfl call122 rfl) (Vr _) (fun _ _ ⟨q, _, hq, H1⟩ _ => (H.Zo H1 (Qu hq Xu)).kp.sub (by simp)) ?_)); rintro _ w11 ⟨q, rfl, hq, H1⟩; have hsz := H.size; replace H := H.Zo H1 (Qu hq Xu); replace hq := Nat.le_trans hsz hq; clear H1 hsz)
 (refine Ao 2 (Qv rfl (.inl rfl) (Qw rfl call123 rfl) (encM_ret f (H.get .here)) (fun _ _ hR _ => by rcases hR with ⟨_, b, _, hb, H1⟩ | ⟨_, _, H1⟩; exact (H.Zo H1 (Qu hb Xu)).kp.sub (by simp); exact (H.seq0 H1).kp.sub (by simp)) ?_); rintro _ w13 (⟨hok, b, rfl, hb, H1⟩ | ⟨hok, rfl, H1⟩); (have hsz := H.size; replace H := H.Zo H1 (Qu hb Xu); replace hb := Nat.le_trans hsz hb; clear H1 hsz); rotate_left; (replace H := H.seq0 H1; clear H1))
 ·refine Az 3 rfl rfl (H.kp.sub (by simp)) (fun _ hC => Qs rfl rfl) (Az 4 rfl rfl (H.kp.sub (by simp)) (fun _ hC => Qs rfl rfl) (Aa 5 rfl (H.kp.sub (by simp)) (Aa 6 rfl (H.kp.sub (by simp)) (Ad (Je ?_)))))
  exact ⟨_, rfl, .inr ⟨hok, rfl, H.none kYs⟩⟩
 ·refine Az 3 rfl rfl (H.kp.sub (by simp)) (fun _ hC => Qs rfl rfl) (Az 4 rfl rfl (H.kp.sub (by simp)) (fun _ hC => Qs rfl rfl) (Aa 5 rfl (H.kp.sub (by simp)) (Aa 6 rfl (H.kp.sub (by simp)) (Ad (Je ?_)))))
  exact ⟨_, rfl, .inl ⟨hok, b, rfl, hb, Hp.cut (L := [_]) H kYs⟩⟩
theorem Db (f : Pi) (hok : okP f) (w : World) :
  Ret Tryz.prog 85 #[vP f] w fun v w' => ∃ b, v = .tuple #[sl b 0 40 40, .bool true] ∧ w.heap.size ≤ b ∧ Hp w [(b, blk ((Xm f).map U) 5)] w' :=
 (Bl f w).mono fun v w' h => by
  rcases h with ⟨_, h⟩ | ⟨h, _⟩
  ·exact h
  ·exact (h hok).elim
theorem enc_no (f : Pi) (hok : ¬ okP f) (w : World) :
  Ret Tryz.prog 85 #[vP f] w fun v w' => v = .tuple #[nilS, .bool false] ∧ Hp w [] w' :=
 (Bl f w).mono fun v w' h => by
  rcases h with ⟨h, _⟩ | ⟨_, h⟩
  ·exact (hok h).elim
  ·exact h
theorem ok_to {f : Pi} {b : Bool} (h : decide (okP f) = b) (w : World) : Ret Tryz.prog 109 #[vP f] w fun v w' => v = .bool b ∧ Hp w [] w' := by
 subst h; exact Dm f w
end Go.Proofs.YtlpmfldijgdcoaaGreatDoor.Ring
namespace Go.Proofs.YtlpmfldijgdcoaaGreatDoor.Ring
open Go Go.Proofs Fx Codec Tryz
theorem pi_ext {p q : Pi} (h1 : p.h = q.h) (h2 : p.c = q.c) (h3 : p.r = q.r) (h4 : p.w = q.w) (h5 : p.d = q.d) : p = q := by
 obtain ⟨a, b, c, d, e, _⟩ := p
 obtain ⟨a', b', c', d', e', _⟩ := q
 simp only at h1 h2 h3 h4 h5
 subst h1 h2 h3 h4 h5
 rfl
/-- thirty-two bytes -/
def data32 (l : List UInt8) : List UInt8 := (l ++ List.replicate 32 0).take 32
theorem data32_len (l : List UInt8) : (data32 l).length = 32 := by simp [data32]
theorem data32_of {l : List UInt8} (h : l.length = 32) : data32 l = l := by unfold data32; rw [List.take_left' h]
/-- the pipe that bytes would be -/
def ofB (xs : List UInt8) : Pi := ⟨(xs[1]?.getD 0).toNat, (xs[2]?.getD 0).toNat, (xs[3]?.getD 0).toNat, (xs[4]?.getD 0).toNat, data32 (xs.drop 8), data32_len _⟩
def good (xs : List UInt8) : Prop := xs.length = 40 ∧ okP (ofB xs) ∧ Xm (ofB xs) = xs
instance (xs : List UInt8) : Decidable (good xs) := by unfold good; infer_instance
/-- what bytes are -/
def Xy (xs : List UInt8) : Pi × Int := if xs.length = 40 ∧ ∀ x ∈ xs, x = 0 then (Xn, 0) else if good xs then (ofB xs, 1) else (Xn, 2)
theorem Uk {xs : List UInt8} (h8 : xs.length = 40) (hz : ∀ x ∈ xs, x = 0) : Xy xs = (Xn, 0) := if_pos ⟨h8, hz⟩
theorem Uo {xs : List UInt8} (h : good xs) : ¬ (xs.length = 40 ∧ ∀ x ∈ xs, x = 0) := by
 rintro ⟨h8, hz⟩
 have h1 := h.2.2
 have : (1 : UInt8) ∈ xs := by rw [← h1]; simp [Xm, hb6]
 exact absurd (hz 1 this) (by decide)
theorem Vj {xs : List UInt8} (h : good xs) : Xy xs = (ofB xs, 1) := by
 unfold Xy; rw [if_neg (Uo h), if_pos h]
theorem Ue {xs : List UInt8} (h : ¬ good xs) (hf : ¬ (xs.length = 40 ∧ ∀ x ∈ xs, x = 0)) : Xy xs = (Xn, 2) := by
 unfold Xy; rw [if_neg hf, if_neg h]
theorem b8_n (k : Int) (h0 : 0 ≤ k) (h1 : k ≤ 255) : (((b8 k).toNat : Nat) : Int) = k := by
 unfold b8
 rw [UInt8.toNat_ofNat']
 omega
theorem Vq {f : Pi} (h : okP f) : ofB (Xm f) = f := by
 unfold okP at h
 have hd := f.hd
 refine pi_ext ?_ ?_ ?_ ?_ ?_
 ·exact b8_n f.h (by omega) (by omega)
 ·exact b8_n f.c (by omega) (by omega)
 ·exact b8_n f.r (by omega) (by omega)
 ·exact b8_n f.w (by omega) (by omega)
 ·show data32 ((Xm f).drop 8) = f.d
  rw [show (Xm f).drop 8 = f.d by unfold Xm; rw [List.drop_left' (by simp [hb6])], data32_of hd]
theorem Mf {f : Pi} (h : okP f) : good (Xm f) := ⟨Yu f, by rw [Vq h]; exact h, by rw [Vq h]⟩
theorem Ud {f : Pi} (h : okP f) : Xy (Xm f) = (f, 1) := by rw [Vj (Mf h), Vq h]
theorem get_cells (xs : List UInt8) (h : xs.length = 40) (p : Pi) (h1 : p.h = (xs[1]?.getD 0).toNat) (h2 : p.c = (xs[2]?.getD 0).toNat) (h3 : p.r = (xs[3]?.getD 0).toNat) (h4 : p.w = (xs[4]?.getD 0).toNat) :
  (piC p).take 4 ++ ((xs.drop 8).map U).take 32 ++ (piC p).drop (4 + min ((xs.drop 8).map U).length 32) = piC (ofB xs) := by
 have hl : (xs.drop 8).length = 32 := by simp; omega
 have hp := Ya p
 rw [List.take_of_length_le (l := (xs.drop 8).map U) (by simp; omega), List.length_map, hl, List.drop_of_length_le (l := piC p) (by omega), List.append_nil]
 unfold piC
 rw [show ([I p.h, I p.c, I p.r, I p.w] ++ p.d.map U).take 4 = [I p.h, I p.c, I p.r, I p.w] from List.take_left' rfl]
 show _ = [I (ofB xs).h, I (ofB xs).c, I (ofB xs).r, I (ofB xs).w] ++ (data32 (xs.drop 8)).map U
 rw [data32_of hl, h1, h2, h3, h4]
 rfl
theorem Uw {E : Env} {w : World} {d : Option Nat} {ty : TypeId} {pos : String} {after : Array Edge} : (execOp (ev E) (mk d (.build 131 #[]) ty pos after)).run Tryz.prog w = .ok (.value (vP Xn)) w :=
 Qm (places := [(0, 1), (1, 1), (2, 1), (3, 1), (4, 32)]) (vs := piC Xn) underlying131 typeInfo131 rfl rfl (by kernel_rfl) rfl rfl rfl
theorem u_one (l : List UInt8) : ∀ v ∈ l.map U, v.oneCell' = true := by
 intro v hv
 obtain ⟨x, _, rfl⟩ := List.mem_map.1 hv
 rfl
theorem Zw {xs : List UInt8} {w : World} {l : Value} (hl : RdS w l (xs.map U)) (h8 : xs.length = 40) :
  Ret Tryz.prog 163 #[l] w fun v w' => v = .tuple #[vP (ofB xs), .bool (decide (okP (ofB xs) ∧ Xm (ofB xs) = xs))] ∧ Hp w [] w' := by
 refine Qy (args := [_]) func163 rfl ntmps163 results163 (by simp) ?_
 have H := Hp.refl w
 obtain ⟨a, ha⟩ : ∃ a, xs[1]? = some a := ⟨_, List.getElem?_eq_getElem (by omega)⟩
 obtain ⟨b, hb⟩ : ∃ a, xs[2]? = some a := ⟨_, List.getElem?_eq_getElem (by omega)⟩
 obtain ⟨c, hc⟩ : ∃ a, xs[3]? = some a := ⟨_, List.getElem?_eq_getElem (by omega)⟩
 obtain ⟨d, hd⟩ : ∃ a, xs[4]? = some a := ⟨_, List.getElem?_eq_getElem (by omega)⟩
 have hl0 := hl
 obtain ⟨ao, ca, hlca, hra, rfl⟩ : ∃ ao ca, xs.length ≤ ca ∧ (xs.map U = [] ∨ ∃ b off, ao = some ⟨b, off, none⟩ ∧ ∀ j u, (xs.map U)[j]? = some u → w.cell? ⟨b, off + j, none⟩ = some u) ∧ l = .slice ao xs.length ca := by
  obtain ⟨ao, ca, h1, h2, h3⟩ := hl
  rw [List.length_map] at h1 h2
  exact ⟨ao, ca, h2, h3, h1⟩
 obtain ⟨bz, oz, rfl, hcell⟩ : ∃ b off, ao = some ⟨b, off, none⟩ ∧ ∀ j u, (xs.map U)[j]? = some u → w.cell? ⟨b, off + j, none⟩ = some u := by
  rcases hra with h | h
  ·have := congrArg List.length h; rw [List.length_map, List.length_nil] at this; omega
  ·exact h
 have hm : ∀ {i : Nat} {u : UInt8}, xs[i]? = some u → (xs.map U)[i]? = some (U u) := fun h => by rw [List.getElem?_map, h]; rfl
 have h1 := hcell 1 _ (hm ha)
 have h2 := hcell 2 _ (hm hb)
 have h3 := hcell 3 _ (hm hc)
 have h4 := hcell 4 _ (hm hd)
 have hr8 : RdS w (sl bz (oz + 8) 32 (ca - 8)) ((xs.drop 8).map U) := by
  refine ⟨some ⟨bz, oz + 8, none⟩, ca - 8, by rw [List.length_map, List.length_drop, h8], by rw [List.length_map, List.length_drop, h8]; omega, .inr ⟨bz, oz + 8, rfl, fun j u hj => ?_⟩⟩
  rw [Nat.add_assoc]
  refine hcell (8 + j) u ?_
  rw [List.map_drop, List.getElem?_drop] at hj
  exact hj
 have ha8 := a.toNat_lt
 have hb8 := b.toNat_lt
 have hc8 := c.toNat_lt
 have hd8 := d.toNat_lt
 rw [h8] at hl0 ⊢
 rw [h8] at hlca
 obtain ⟨p0, hp0⟩ : ∃ p0 : Pi, p0 = ⟨a.toNat, b.toNat, c.toNat, d.toNat, List.replicate 32 0, rfl⟩ := ⟨_, rfl⟩
 have hcells := get_cells xs h8 p0 (by rw [hp0, ha]; rfl) (by rw [hp0, hb]; rfl) (by rw [hp0, hc]; rfl) (by rw [hp0, hd]; rfl)
 have hp0v : (piC p0) = [I a.toNat, I b.toNat, I c.toNat, I d.toNat] ++ (List.replicate 32 0).map U := by rw [hp0]; rfl
 obtain ⟨ff, hff⟩ : ∃ ff : Pi, ff = ofB xs := ⟨_, rfl⟩
 rw [← hff]
 rw [← hff] at hcells
 (refine Js (Jr (Qb rfl (Qt H) ?_)); clear H; intro b2 w3 hb2 H)
 refine Ja (Jn (Js ?_))
 (refine Xi (KH w [(b2, blk (piC Xn) 131)]) (fun _ => false) (by kernel_rfl) H ?_; clear H; intro w7 H)
 (refine Am 0 rfl H.kK (Az 1 rfl rfl H.kK (fun _ hC => Qj underlying36 sizeOf5 rfl rfl (by omega) (by omega) Xt) (Az 2 rfl rfl H.kK (fun _ hC => Qx isAgg5 rfl (hC.old.cell h1 (by simp))) (Az 3 rfl rfl H.kK (fun _ hC => Xe underlying5 underlying3 rfl Yf) (Am 4 rfl H.kK (Az 5 rfl rfl H.kK (fun _ hC => Qj underlying36 sizeOf5 rfl rfl (by omega) (by omega) Xt) (Az 6 rfl rfl H.kK (fun _ hC => Qx isAgg5 rfl (hC.old.cell h2 (by simp))) (Az 7 rfl rfl H.kK (fun _ hC => Xe underlying5 underlying3 rfl Yf) (Am 8 rfl H.kK (Az 9 rfl rfl H.kK (fun _ hC => Qj underlying36 sizeOf5 rfl rfl (by omega) (by omega) Xt) (Az 10 rfl rfl H.kK (fun _ hC => Qx isAgg5 rfl (hC.old.cell h3 (by simp))) (Az 11 rfl rfl H.kK (fun _ hC => Xe underlying5 underlying3 rfl Yf) (Am 12 rfl H.kK (Az 13 rfl rfl H.kK (fun _ hC => Qj underlying36 sizeOf5 rfl rfl (by omega) (by omega) Xt) (Az 14 rfl rfl H.kK (fun _ hC => Qx isAgg5 rfl (hC.old.cell h4 (by simp))) (Az 15 rfl rfl H.kK (fun _ hC => Xe underlying5 underlying3 rfl Yf) (Az 16 rfl rfl H.kK (fun _ hC => Qm (places := [(0, 1), (1, 1), (2, 1), (3, 1), (4, 32)]) (vs := [I a.toNat, I b.toNat, I c.toNat, I d.toNat] ++ (List.replicate 32 0).map U) underlying131 typeInfo131 rfl rfl (by kernel_rfl) rfl rfl rfl) (Ao 17 (Xd rfl (.inl rfl) (Qt H) (fun _ _ _ H => kC) ?_)))))))))))))))))); clear H; intro b4 w26 hb4 H)
 (refine Ao 18 (Xb rfl (.inl rfl) (Qn (q := p0) H rfl (congrArg (fun l => Value.agg (List.toArray l)) hp0v.symm) .here) (fun _ H => kC) ?_); clear H; intro w28 H)
 refine Ad (Js ?_)
 (refine Xi (Kp []) (fun _ => false) (by kernel_rfl) H ?_; clear H; intro w31 H)
 (refine Az 0 rfl rfl (H.kp.sub (by simp)) (fun _ hC => Qa (off' := 4) underlying131 rfl sizeOf129 (by decide) rfl rfl) (Az 1 rfl rfl (H.kp.sub (by simp)) (fun _ hC => R_all underlying129 sizeOf5 rfl (by decide)) (Am 2 rfl (H.kp.sub (by simp)) (Az 3 rfl rfl (H.kp.sub (by simp)) (fun _ hC => R_from (k := 8) (m := 32) (k' := 8) underlying36 sizeOf5 rfl rfl rfl hlca rfl (by omega)) (Ao 4 (WI_effm rfl (.inl rfl) (E_copy (xs := (xs.drop 8).map U) (off := 4) (c := piC p0) H .here underlying36 sizeOf5 rfl rfl (hr8.Yd H kYs).csrc (by rw [Ya]; decide) (u_one _)) (fun _ _ H => kC) ?_))))); clear H; rintro _ _ w37 rfl H; rw [hcells] at H)
 (refine Ad (Js (Jr (J (Xa rfl (H.get .here)) (Jy rfl call85 rfl (Bl ff _) ?_)))); rintro _ w42 (⟨hok, b9, rfl, hb9, H1⟩ | ⟨hok, rfl, H1⟩); (have hsz := H.size; replace H := H.Zo H1 (Qu hb9 Xu); replace hb9 := Nat.le_trans hsz hb9; clear H1 hsz); rotate_left; (replace H := H.seq0 H1; clear H1))
 ·refine Jm (Jx rfl rfl (Jx rfl rfl (Ja (Ja (Jn (Js ?_))))))
  (refine Xi (KH w [(b4, blk (piC ff) 131)]) (fun _ => false) (by kernel_rfl) H ?_; clear H; intro w50 H)
  (refine Az 0 rfl rfl H.kK (fun _ hC => Xa rfl (hC.get .here)) (Am 1 rfl H.kK (Am 2 rfl H.kK (Aq 3 rfl rfl (fun h => nomatch h) H.kK (Aq 4 rfl rfl (fun h => nomatch h) H.kK (Aq 5 rfl rfl (fun h => nomatch h) H.kK (Ah 6 rfl rfl H.kK (fun _ hC => Zg rfl) (Ao 7 (Xb rfl (.inl rfl) (Qn (q := ff) H rfl rfl (.there .here)) (fun _ H => kC) ?_)))))))); clear H; intro w59 H)
  refine Aa 8 rfl H.kK (Ad (Je ?_))
  exact ⟨_, ⟨_, _, rfl, ldP (p := ff) (H.get (.there .here)), rfl⟩, congrArg (fun b => Value.tuple #[vP ff, .bool b]) (decide_eq_false (fun h => hok h.1)).symm, H.none kYs⟩
 ·refine Jm (Jx rfl rfl (Jx rfl rfl (Ja (Ja (Jn (Js ?_))))))
  (refine Xi (KH w [(b9, blk ((Xm ff).map U) 5), (b4, blk (piC ff) 131)]) (fun _ => false) (by kernel_rfl) H ?_; clear H; intro w71 H)
  (refine Az 0 rfl rfl H.kK (fun _ hC => Xa rfl (hC.get (.there .here))) (Am 1 rfl H.kK (Am 2 rfl H.kK (Ai 3 rfl rfl rfl H.kK (fun _ hC => Va) (Ai 4 rfl rfl rfl H.kK (fun _ hC => Va) (Ao 5 (Qv rfl (.inr ⟨_, _, rfl, rfl⟩) (Qw rfl call197 rfl) (equal_ret (xs := Xm ff) (ys := xs) (RdS.blk (c := (Xm ff).map U) (off := 0) (H.get .here) (by rw [List.drop_zero, List.take_of_length_le (by rw [List.length_map, Yu]; decide)]) (by rw [List.length_map, Yu]; decide) (by decide)) (hl0.Yd H kYs) (by rw [Yu]; decide) (by omega)) (fun _ _ hR _ => (H.seq0 hR.2).kh (by simp) kYs) ?_)))))); rintro _ w78 ⟨rfl, H1⟩; replace H := H.seq0 H1; clear H1)
  (refine Ah 6 rfl rfl H.kK (fun _ hC => Ug rfl) (Ao 7 (Xb rfl (.inl rfl) (Qn (q := ff) H rfl rfl (.there (.there .here))) (fun _ H => kC) ?_)); clear H; intro w81 H)
  refine Aa 8 rfl H.kK (Ad (Je ?_))
  exact ⟨_, ⟨_, _, rfl, ldP (p := ff) (H.get (.there (.there .here))), rfl⟩, congrArg (fun b => Value.tuple #[vP ff, .bool b]) (decide_eq_decide.2 ⟨fun h => ⟨hok, h⟩, fun h => h.2⟩), H.none kYs⟩
end Go.Proofs.YtlpmfldijgdcoaaGreatDoor.Ring
