/-
Put and Take, of both. Hosts: a call is begun, or not; one begins anew; what is typed. Hosts: one begins anew. What a kernel of one session begins with; that it may be. What a Quota holds in memory; the calls that only read. Frames taken and given back. Frames given back, numbered, counted. Which frame of all it is; a new Quota. A new Quota. A kernel of one session is made. A part of a row that is only read. The plan that a law of the top makes out of its arguments. What the world checks of a plan. What a plan of one session boots. A session begins: its first bytes. The first bytes are sound: what is in them. A world of one session is made. A world of one session in which nobody is bad, whatever befell it.
-/
import Derived.Test.YtlpmfldijgdcoaaGreatDoorK7
import Derived.Test.YtlpmfldijgdcoaaGreatDoorProg
set_option maxRecDepth 100000
set_option maxHeartbeats 16000000
namespace Go.Proofs.YtlpmfldijgdcoaaGreatDoor.Ring
open Go Go.Proofs Fx Codec Tryz
theorem take_min {bs : List UInt8} {k : Nat} : bs.take (min bs.length k) = bs.take k := by
 rcases Nat.le_total bs.length k with h | h
 ·rw [Nat.min_eq_left h, List.take_length, List.take_of_length_le h]
 ·rw [Nat.min_eq_right h]
theorem putN_step {p : Pi} {bs : List UInt8} {i : Nat} (h : i < bs.length) : putN p (bs.take (i + 1)) = put1 (putN p (bs.take i)) bs[i] := by
 rw [List.take_succ_eq_append_getElem h, putN_snoc]
theorem put_ret {bs : List UInt8} (p : Pi) {w : World} {l : Value} (hl : RdS w l (bs.map U)) (hb : bs.length ≤ 9223372036854775807) :
  Ret Tryz.prog 67 #[vP p, l] w fun v w' => v = .tuple #[vP (putP p bs).1, I (putP p bs).2] ∧ Hp w [] w' := by
 refine Qy (args := [_, _]) func67 rfl ntmps67 results67 (by simp) ?_
 have H := Hp.refl w
 obtain ⟨ao, ca, rfl⟩ := hl.form
 simp only [List.length_map] at hl ⊢
 by_cases hok : okP p
 ·have hok0 := hok
  unfold okP at hok
  obtain ⟨m, hm⟩ : ∃ m, m = min bs.length (32 - p.c.toNat) := ⟨_, rfl⟩
  have hpp : putP p bs = (putN p (bs.take m), m) := by unfold putP; rw [if_pos hok0, hm, take_min]
  rw [hpp]
  (refine Js (Jr (Qb rfl (Ys H rfl) ?_)); clear H; intro bx w3 hbx H)
  (refine Qb rfl (Qt H) ?_; clear H; intro b4 w4 hb4 H)
  (refine Ja (Jn (Js (Js (Jr (J (Xa rfl (H.get (.there .here))) (Jz rfl call109 rfl (ok_to (decide_eq_true hok0) _) H ?_)))))); intro w11 H)
  refine J (Xj rfl) (Jn (Jc rfl (Jk (Js (Jr (Ja (Jn (Js (Js (Jr (Jm (J (Qh underlying36 rfl) (Jm (Jn (Jb ?_)))))))))))))))
  refine Yg [(6, 6), (8, 8), (15, 37)] (fun (i : Nat) E w' => i ≤ m ∧ E 6 = I i ∧ E 15 = I i ∧ Hp w [(b4, blk (piC Xn) 131), (bx, blk (piC (putN p (bs.take i))) 131)] w') (fun i => m - i) 0 ?e0 ?r0
  ·exact ⟨by omega, rfl, rfl, H⟩
  ·(clear H; rintro i E w1 ⟨hi, h6, h15, H⟩; refine W_kn2 h6 h15 ?_; have hq := putN_h (bs.take i) p; rw [List.length_take, Nat.min_eq_left (by omega)] at hq; obtain ⟨q, hqd⟩ : ∃ q, putN p (bs.take i) = q := ⟨_, rfl⟩; rw [hqd] at hq H; obtain ⟨hqh, hqc, _, _⟩ := hq; by_cases hlt : i < bs.length)
   ·refine Js (Jr (J (Za rfl rfl (by omega)) (Jn (Js (Jd rfl (Jk (Js (Jb (Js ?_)))))))))
    ((obtain ⟨bz, oz, rfl, hcz⟩ := hl.cell (i := i) (u := U bs[i]) (by rw [List.getElem?_map, List.getElem?_eq_getElem hlt]; rfl); by_cases hfull : i < 32 - p.c.toNat)) <;> refine Qk ?_
    ·(refine J (Qj underlying36 sizeOf5 rfl rfl (by omega) (by omega) Xt) (J (Qx isAgg5 rfl (H.Zx hcz kYs)) (Ja (Jn (Js (Js (Jr (Jf 1 underlying131 rfl sizeOf3 rfl rfl (Jl isAgg3 rfl (H.get (.there .here)) rfl (J (Xf rfl rfl (by omega)) (Jn (Jc rfl (Jk (Js (Jr (Jf 0 underlying131 rfl sizeOf3 rfl rfl (Jl isAgg3 rfl (H.get (.there .here)) rfl (Jf 1 underlying131 rfl sizeOf3 rfl rfl (Jl isAgg3 rfl (H.get (.there .here)) rfl (J (Xg rfl rfl (Xc (by omega))) (J (R_rem (r := (((q.h.toNat + q.c.toNat) % 32 : Nat) : Int)) rfl rfl (by omega) ((rem_pos (by omega)).trans (by omega))) (Jm (Jf 4 underlying131 rfl sizeOf129 rfl rfl (J (Yq (off' := 4 + (q.h.toNat + q.c.toNat) % 32) underlying129 sizeOf5 rfl rfl (by omega) (by omega) (by omega)) (Qd rfl (Qz (v := U bs[i]) H sizeOf5 rfl rfl rfl (.there .here) (by rw [Ya]; omega)) ?_)))))))))))))))))))))))); clear H; intro w65 H; rw [set_pi] at H)
     (refine Jn (Js (Jr (Jf 1 underlying131 rfl sizeOf3 rfl rfl (J (Qe (v := I q.c) isAgg3 rfl (H.get (.there .here)) rfl) (J (Xg rfl rfl (Xc (by omega))) (Jf 1 underlying131 rfl sizeOf3 rfl rfl (Qd rfl (Qz (v := I (q.c + 1)) H sizeOf3 rfl rfl rfl (.there .here) (by rw [Ya]; decide)) ?_))))))); clear H; intro w73 H; replace H : Hp w [(b4, blk (piC Xn) 131), (bx, blk (piC (put1 q bs[i])) 131)] _ := H)
     refine Jn (Jr (Jm (J (Xg rfl rfl (Xc (by omega))) (Ja (Jn (Jr (J (Xg rfl rfl (Xc (by omega))) (Jm (Jn ?_)))))))))
     exact ⟨kS, i + 1, by omega, by omega, rfl, rfl, by rw [putN_step hlt, hqd]; exact H⟩
    ·refine J (Qj underlying36 sizeOf5 rfl rfl (by omega) (by omega) Xt) (J (Qx isAgg5 rfl (H.Zx hcz kYs)) (Ja (Jn (Js (Js (Jr (Jf 1 underlying131 rfl sizeOf3 rfl rfl (Jl isAgg3 rfl (H.get (.there .here)) rfl (J (Yr rfl rfl (by omega)) (Jn (Jd rfl (Xr ?_))))))))))))
     refine (if_neg (by decide)).mpr ?_
     refine (if_pos rfl).mpr ?_
     refine Js ?_
     ((obtain rfl : i = m := (by omega))) <;> refine Qk ?_
     (refine J (Xa rfl (H.get (.there .here))) (Jm (Qd rfl (Qn (q := q) H rfl rfl .here) ?_)); clear H; intro w104 H)
     refine Ja (Jn (Je ?_))
     exact ⟨_, ⟨_, _, rfl, ldP (p := q) (H.get .here), rfl⟩, by rw [hqd]; rfl, H.none kYs⟩
   ·refine Js (Jr (J (Xp rfl rfl (by omega)) (Jn (Js (Jc rfl (Xr ?_))))))
    refine (if_pos rfl).mpr ?_
    refine Js ?_
    ((obtain rfl : i = m := (by omega))) <;> refine Qk ?_
    (refine J (Xa rfl (H.get (.there .here))) (Jm (Qd rfl (Qn (q := q) H rfl rfl .here) ?_)); clear H; intro w121 H)
    refine Ja (Jn (Je ?_))
    exact ⟨_, ⟨_, _, rfl, ldP (p := q) (H.get .here), rfl⟩, by rw [hqd]; rfl, H.none kYs⟩
 ·have hpp : putP p bs = (p, 0) := if_neg hok
  rw [hpp]
  (refine Js (Jr (Qb rfl (Ys H rfl) ?_)); clear H; intro bx w3 hbx H)
  (refine Qb rfl (Qt H) ?_; clear H; intro b4 w4 hb4 H)
  (refine Ja (Jn (Js (Js (Jr (J (Xa rfl (H.get (.there .here))) (Jz rfl call109 rfl (ok_to (decide_eq_false hok) _) H ?_)))))); intro w11 H)
  (refine J (Xx rfl) (Jn (Jd rfl (Js (Jr (J (Xa rfl (H.get (.there .here))) (Qd rfl (Qn (q := p) H rfl rfl .here) ?_)))))); clear H; intro w18 H)
  refine Ja (Jn (Je ?_))
  exact ⟨_, ⟨_, _, rfl, ldP (p := p) (H.get .here), rfl⟩, rfl, H.none kYs⟩
/-- p with the data of q -/
def withD (p q : Pi) : Pi := { p with d := q.d, hd := q.hd }
/-- a pipe that is p but for its data -/
def hasP (p : Pi) (b : Nat) (w : World) : Prop := ∃ q, w.heap[b]? = some (blk (piC (withD p q)) 131)
end Go.Proofs.YtlpmfldijgdcoaaGreatDoor.Ring
namespace Go.Proofs.YtlpmfldijgdcoaaGreatDoor.Ho
open Go Go.Proofs Fx Kn Cm TabC Caps Tryz
section
variable {w : World} {h e n sp c : Nat} {C : Cs} {i : Nat} {ph st op a b op' a' b' : Int} {da : Option Addr} {dl dc : Nat} {xa : Option Addr} {xl xc : Nat}
theorem StartG {ds : List UInt8} (hh : w.heap[h]? = some (blk (hC C.κ e i n c ph st op' a' b' (.slice da dl dc)) 139)) (g : Gd w c C) (hi : i < 8) (hl : RdS w (.slice xa xl xc) (ds.map U)) (hb : ds.length ≤ 1000000) :
  Ret Tryz.prog 33 #[ptr h 0, .agg (sysC op a b (.slice xa xl xc)).toArray] w fun v w' => ∃ ok ph2 op2 a2 b2 da2 dl2 dc2 M, v = .bool ok ∧ ((ph2 = ph ∧ op2 = op') ∨ (ph2 = 1 ∧ op2 = op)) ∧ (∀ p ∈ M, w.heap.size ≤ p.1) ∧
   Hp w ((h, blk (hC C.κ e i n c ph2 st op2 a2 b2 (.slice da2 dl2 dc2)) 139) :: M) w' := by
 refine Qi (args := [_, _]) func33 rfl ntmps33 results33 (by simp) ?_
 have H := Hp.refl w
 have hlh := Qr hh
 have hP : ∀ {w1 : World}, Gd w1 c C → Ret Tryz.prog 64 #[ptr c 0, I i] w1 fun v w' => v = .tuple #[Slot.vP (C.pR i).1, I (C.pR i).2] ∧ Hp w1 [] w' := fun g => Mj g.hM g.hL hi
 generalize C.pR i = r at *
 obtain ⟨p, z⟩ := r
 simp only at hP
 have hsame : ∀ {w1 : World} {L : List (Nat × Obj)}, Hp w L w1 → (∀ p ∈ L, w.heap.size ≤ p.1) → ∃ ok ph2 op2 a2 b2 da2 dl2 dc2 M, Value.bool false = .bool ok ∧ ((ph2 = ph ∧ op2 = op') ∨ (ph2 = 1 ∧ op2 = op)) ∧ (∀ p ∈ M, w.heap.size ≤ p.1) ∧
   Hp w ((h, blk (hC C.κ e i n c ph2 st op2 a2 b2 (.slice da2 dl2 dc2)) 139) :: M) w1 := fun H1 hL => ⟨false, ph, op', a', b', da, dl, dc, _, rfl, .inl ⟨rfl, rfl⟩, hL, H1.foc hh hL⟩
 (refine Js (Jr (Qb rfl (Xl (vs := sysC op a b (.slice xa xl xc)) H rfl rfl) ?_)); clear H; intro c3 w3 hc3 H)
 (refine Ja (Jn (Js (Jr (Jm (Ji rfl (Jf 4 underlying139 rfl sizeOf93 rfl rfl (Jl isAgg93 rfl (H.Qc hh kYs) rfl (Jz rfl call63 rfl (Look_L (g.Ql H kYs).hM g.hL) H ?_)))))))); intro w12 H)
 refine Jn (Js (Js (Jr (Jm (Ji rfl (Jf 5 underlying139 rfl sizeOf3 rfl rfl (J (Qe (v := I ph) isAgg3 rfl (H.Qc hh kYs) rfl) (J (Zu rfl rfl) (Jn (Xo rfl (fun h23 => ?_) (fun h23 => ?_)))))))))))
 ·refine Js (Jr (Ja (Jn (Je ?_))))
  exact ⟨_, rfl, hsame H kYs⟩
 ·refine Jk (Js (Js ?_))
  (refine Xi (KH w [(c3, blk (sysC op a b (.slice xa xl xc)) 38)]) (fun _ => false) (by kernel_rfl) H ?_; clear H; intro w33 H)
  refine Am 0 rfl H.kK (Az 1 rfl rfl H.kK (fun _ hC => Qf rfl) (Az 2 rfl rfl H.kK (fun _ hC => Qa (off' := 4) underlying139 rfl sizeOf93 (by decide) rfl rfl) (Az 3 rfl rfl H.kK (fun _ hC => Qe isAgg93 rfl (hC.Qc hh kYs) rfl) (Am 4 rfl H.kK (Az 5 rfl rfl H.kK (fun _ hC => Qf rfl) (Az 6 rfl rfl H.kK (fun _ hC => Qa (off' := 2) underlying139 rfl sizeOf3 (by decide) rfl rfl) (Az 7 rfl rfl H.kK (fun _ hC => Qe isAgg3 rfl (hC.Qc hh kYs) rfl) (Zf (i := 8) (j := 12) (by kernel_rfl) ?_ ?_))))))))
  ·(refine Qv rfl (.inl rfl) (Qw rfl call64 rfl) (hP (g.Ql H kYs)) (fun _ _ hR _ => (H.seq0 hR.2).kh (by simp) kYs) ?_; rintro _ w43 ⟨rfl, H1⟩; replace H := H.seq0 H1; clear H1)
   (refine Am 9 rfl H.kK (Az 10 rfl rfl H.kK (fun _ hC => Qs rfl rfl) (Az 11 rfl rfl H.kK (fun _ hC => Qs rfl rfl) (Ao 12 (Xd rfl (.inl rfl) (Slot.Qt H) (fun _ _ _ H _ => H.kh (by simp) kYs) ?_)))); clear H; intro c5 w48 hc5 H)
   (refine Ao 13 (Xb rfl (.inl rfl) (Slot.Qn H rfl rfl .here) (fun _ H _ => H.kh (by simp) kYs) ?_); clear H; intro w50 H)
   refine Aa 14 rfl H.kK (Ad (Js (Jr (Jm (J (Zu rfl rfl) (Jm ?_))))))
   apply Xz 4 31 35 [(32, 35)] H
   case hc => rfl
   case h1 =>
    intro h58
    refine Jt rfl rfl (Jf 0 underlying58 rfl sizeOf3 rfl rfl (Jt rfl rfl (J (Qe (v := I p.s) isAgg3 rfl (H.get .here) rfl) (Jt rfl rfl (J (Yk rfl rfl) (Jp rfl (Jn ?_)))))))
    exact ⟨kS, rfl, H⟩
   case h0 =>
    intro h58
    refine Jg rfl rfl (Jg rfl rfl (Jg rfl rfl (Jq rfl (Jn ?_))))
    exact ⟨kS, rfl, H⟩
   case h2 =>
    (clear H; intro E58 w58 H)
    refine Jn (Xo rfl (fun h75 => ?_) (fun h75 => ?_))
    ·refine Js (Jr (Ja (Jn (Je ?_))))
     exact ⟨_, rfl, hsame H kYs⟩
    ·(refine Jk (Js (Jr (Jf 3 underlying38 rfl sizeOf36 rfl rfl (J (Qe (v := .slice xa xl xc) isAgg36 rfl (H.get (.there .here)) rfl) (Jy rfl call65 rfl (Codec.Ze (hl.Yd H kYs) hb) ?_))))); rintro u w87 ⟨M, hO, H1⟩; have h87 := H.Yn hO H1; clear H H1 hO; obtain ⟨hO, H⟩ := h87; obtain ⟨ua, uc, rfl⟩ := hO.form)
     (refine Jf 3 underlying38 rfl sizeOf36 rfl rfl (Qd rfl (Qz (v := .slice ua ds.length uc) H sizeOf36 rfl rfl rfl (.app _ (.there .here)) (by simp)) ?_); clear H; intro w89 H; replace H : Hp w (M ++ [(c5, blk (Slot.piC p) 58), (c3, blk (sysC op a b (.slice ua ds.length uc)) 38)]) w89 := H)
     refine Jn (Js ?_)
     (replace H := H.foc hh kYs; refine Xi (fun w2 => w2.heap[c3]? = some (blk (sysC op a b (.slice ua ds.length uc)) 38)) (fun _ => false) (by kernel_rfl) H ?_; clear H; intro w92 H)
     (refine Am 0 rfl (H.get (.there (.app _ (.there .here)))) (Am 1 rfl (H.get (.there (.app _ (.there .here)))) (Az 2 rfl rfl (H.get (.there (.app _ (.there .here)))) (fun _ hC => Qo (vs := sysC op a b (.slice ua ds.length uc)) isAgg38 sizeOf38 rfl hC rfl (by simp)) (Az 3 rfl rfl (H.get (.there (.app _ (.there .here)))) (fun _ hC => Qf rfl) (Az 4 rfl rfl (H.get (.there (.app _ (.there .here)))) (fun _ hC => Qa (off' := 5) underlying139 rfl sizeOf3 (by decide) rfl rfl) (Ao 5 (Xb rfl (.inl rfl) (Qz (v := I 1) H sizeOf3 rfl rfl rfl .here (by simp)) (fun _ H _ => H.get (.there (.app _ (.there .here)))) ?_)))))); clear H; intro w99 H; replace H : Hp w ((h, blk (hC C.κ e i n c 1 st op' a' b' (.slice da dl dc)) 139) :: (M ++ [(c5, blk (Slot.piC p) 58), (c3, blk (sysC op a b (.slice ua ds.length uc)) 38)])) w99 := H)
     (refine Az 6 rfl rfl (H.get (.there (.app _ (.there .here)))) (fun _ hC => Qf rfl) (Az 7 rfl rfl (H.get (.there (.app _ (.there .here)))) (fun _ hC => Qa (off' := 7) underlying139 rfl sizeOf38 (by decide) rfl rfl) (Ao 8 (Xb rfl (.inl rfl) (Qg (vs := sysC op a b (.slice ua ds.length uc)) H sizeOf38 rfl rfl (by simp [Value.oneCell']) .here (by simp)) (fun _ H _ => H.get (.there (.app _ (.there .here)))) ?_))); clear H; intro w103 H; replace H : Hp w ((h, blk (hC C.κ e i n c 1 st op a b (.slice ua ds.length uc)) 139) :: (M ++ [(c5, blk (Slot.piC p) 58), (c3, blk (sysC op a b (.slice ua ds.length uc)) 38)])) w103 := H)
     refine Ad (Js (Jr (Ja (Jn (Je ?_)))))
     exact ⟨_, rfl, true, 1, op, a, b, ua, ds.length, uc, _, rfl, .inr ⟨rfl, rfl⟩, kYs, H⟩
  ·(refine Xd rfl (.inl rfl) (Slot.Qt H) (fun _ _ _ H _ => H.kh (by simp) kYs) ?_; clear H; intro c5 w111 hc5 H)
   (refine Ao 8 (Qv rfl (.inl rfl) (Qw rfl call64 rfl) (hP (g.Ql H kYs)) (fun _ _ hR _ => (H.seq0 hR.2).kh (by simp) kYs) ?_); rintro _ w113 ⟨rfl, H1⟩; replace H := H.seq0 H1; clear H1)
   (refine Am 9 rfl H.kK (Az 10 rfl rfl H.kK (fun _ hC => Qs rfl rfl) (Az 11 rfl rfl H.kK (fun _ hC => Qs rfl rfl) (Ao 13 (Xb rfl (.inl rfl) (Slot.Qn H rfl rfl .here) (fun _ H _ => H.kh (by simp) kYs) ?_)))); clear H; intro w118 H)
   refine Aa 14 rfl H.kK (Ad (Js (Jr (Jm (J (Zu rfl rfl) (Jm ?_))))))
   apply Xz 4 31 35 [(32, 35)] H
   case hc => rfl
   case h1 =>
    intro h126
    refine Jt rfl rfl (Jf 0 underlying58 rfl sizeOf3 rfl rfl (Jt rfl rfl (J (Qe (v := I p.s) isAgg3 rfl (H.get .here) rfl) (Jt rfl rfl (J (Yk rfl rfl) (Jp rfl (Jn ?_)))))))
    exact ⟨kS, rfl, H⟩
   case h0 =>
    intro h126
    refine Jg rfl rfl (Jg rfl rfl (Jg rfl rfl (Jq rfl (Jn ?_))))
    exact ⟨kS, rfl, H⟩
   case h2 =>
    (clear H; intro E126 w126 H)
    refine Jn (Xo rfl (fun h143 => ?_) (fun h143 => ?_))
    ·refine Js (Jr (Ja (Jn (Je ?_))))
     exact ⟨_, rfl, hsame H kYs⟩
    ·(refine Jk (Js (Jr (Jf 3 underlying38 rfl sizeOf36 rfl rfl (J (Qe (v := .slice xa xl xc) isAgg36 rfl (H.get (.there .here)) rfl) (Jy rfl call65 rfl (Codec.Ze (hl.Yd H kYs) hb) ?_))))); rintro u w155 ⟨M, hO, H1⟩; have h155 := H.Yn hO H1; clear H H1 hO; obtain ⟨hO, H⟩ := h155; obtain ⟨ua, uc, rfl⟩ := hO.form)
     (refine Jf 3 underlying38 rfl sizeOf36 rfl rfl (Qd rfl (Qz (v := .slice ua ds.length uc) H sizeOf36 rfl rfl rfl (.app _ (.there .here)) (by simp)) ?_); clear H; intro w157 H; replace H : Hp w (M ++ [(c5, blk (Slot.piC p) 58), (c3, blk (sysC op a b (.slice ua ds.length uc)) 38)]) w157 := H)
     refine Jn (Js ?_)
     (replace H := H.foc hh kYs; refine Xi (fun w2 => w2.heap[c3]? = some (blk (sysC op a b (.slice ua ds.length uc)) 38)) (fun _ => false) (by kernel_rfl) H ?_; clear H; intro w160 H)
     (refine Am 0 rfl (H.get (.there (.app _ (.there .here)))) (Am 1 rfl (H.get (.there (.app _ (.there .here)))) (Az 2 rfl rfl (H.get (.there (.app _ (.there .here)))) (fun _ hC => Qo (vs := sysC op a b (.slice ua ds.length uc)) isAgg38 sizeOf38 rfl hC rfl (by simp)) (Az 3 rfl rfl (H.get (.there (.app _ (.there .here)))) (fun _ hC => Qf rfl) (Az 4 rfl rfl (H.get (.there (.app _ (.there .here)))) (fun _ hC => Qa (off' := 5) underlying139 rfl sizeOf3 (by decide) rfl rfl) (Ao 5 (Xb rfl (.inl rfl) (Qz (v := I 1) H sizeOf3 rfl rfl rfl .here (by simp)) (fun _ H _ => H.get (.there (.app _ (.there .here)))) ?_)))))); clear H; intro w167 H; replace H : Hp w ((h, blk (hC C.κ e i n c 1 st op' a' b' (.slice da dl dc)) 139) :: (M ++ [(c5, blk (Slot.piC p) 58), (c3, blk (sysC op a b (.slice ua ds.length uc)) 38)])) w167 := H)
     (refine Az 6 rfl rfl (H.get (.there (.app _ (.there .here)))) (fun _ hC => Qf rfl) (Az 7 rfl rfl (H.get (.there (.app _ (.there .here)))) (fun _ hC => Qa (off' := 7) underlying139 rfl sizeOf38 (by decide) rfl rfl) (Ao 8 (Xb rfl (.inl rfl) (Qg (vs := sysC op a b (.slice ua ds.length uc)) H sizeOf38 rfl rfl (by simp [Value.oneCell']) .here (by simp)) (fun _ H _ => H.get (.there (.app _ (.there .here)))) ?_))); clear H; intro w171 H; replace H : Hp w ((h, blk (hC C.κ e i n c 1 st op a b (.slice ua ds.length uc)) 139) :: (M ++ [(c5, blk (Slot.piC p) 58), (c3, blk (sysC op a b (.slice ua ds.length uc)) 38)])) w171 := H)
     refine Ad (Js (Jr (Ja (Jn (Je ?_)))))
     exact ⟨_, rfl, true, 1, op, a, b, ua, ds.length, uc, _, rfl, .inr ⟨rfl, rfl⟩, kYs, H⟩
/-- what is typed -/
def typeX (C : Cs) (bs : List UInt8) : List UInt8 := if C.tR.2 ≠ 1 then C.κ.xs else upTX C (Ring.putP C.tR.1 bs).1
theorem TypeG {bs : List UInt8} {l : Value} (g : Gd w c C) (hl : RdS w l (bs.map U)) (hb : bs.length ≤ 1000000) :
  Ret Tryz.prog 34 #[ptr c 0, l] w fun v w' => Gp C (typeX C bs) ∧ Hp w [(C.κ.mb, blk ((typeX C bs).map U) 5)] w' := by
 refine Qi (args := [_, _]) func34 rfl ntmps34 results34 (by simp) ?_
 have H := Hp.refl w
 have hT : ∀ {w1 : World}, Gd w1 c C → Ret Tryz.prog 66 #[ptr c 0] w1 fun v w' => v = .tuple #[Ring.vP C.tR.1, I C.tR.2] ∧ Hp w1 [] w' := fun g => Term_L g.hM g.hL
 have e0 : typeX C bs = if C.tR.2 ≠ 1 then C.κ.xs else upTX C (Ring.putP C.tR.1 bs).1 := rfl
 generalize C.tR = r at *
 obtain ⟨p, z⟩ := r
 simp only at hT e0
 obtain ⟨la, lc, rfl⟩ := hl.form
 (refine Js (Jr (Ja (Jn (Js (Jr (Jm (Jz rfl call63 rfl (Look_L (g.Ql H kYs).hM g.hL) H ?_))))))); intro w8 H)
 (refine Jn (Js (Jr (Jm (Jz rfl call66 rfl (hT (g.Ql H kYs)) H ?_)))); intro w13 H)
 (refine Jm (Jx rfl rfl (Jx rfl rfl (Qb rfl (Ring.Qt H) ?_))); clear H; intro c5 w17 hc5 H)
 (refine Qd rfl (Ring.Qn H rfl rfl .here) ?_; clear H; intro w18 H)
 refine Ja (Jn (Js (Js (Jr (Jm (J (Zu rfl rfl) (Jn (Xo rfl (fun h27 => ?_) (fun h27 => ?_)))))))))
 ·refine Js (Jr (Ja (Jn (Je ?_))))
  (rw [e0, if_pos (by omega)]; exact ⟨_, rfl, g.gp, g.hM.same0 (H.none kYs)⟩)
 ·(refine Jk (Js (Jr (J (Ring.Xa rfl (H.get .here)) (Jm (Jz rfl call67 rfl (Ring.put_ret p (hl.Yd H kYs) (by omega)) H ?_))))); intro w39 H)
  (refine Jm (Jx rfl rfl (Jx rfl rfl (Qb rfl (Ring.Qt H) ?_))); clear H; intro c7 w43 hc7 H)
  (refine Qd rfl (Ring.Qn H rfl rfl .here) ?_; clear H; intro w44 H)
  (refine Ja (Jn (Js (Js (Jr (Jm (J (Ring.Xa rfl (H.get .here)) (Jy rfl call54 rfl (SetTerm_G (g.Ql H kYs) (Ring.putP p bs).1) ?_))))))); rintro _ w52 ⟨rfl, hgp, H1⟩; replace H := g.seq0 H kYs H1; clear H1; generalize upTb C (Ring.putP p bs).1 = tb; cases tb)
  ·refine J (Xx rfl) (Jn (Jd rfl (Js (Jr (Ja (Jn (Je ?_)))))))
   (rw [e0, if_neg (by omega)]; exact ⟨_, rfl, hgp, Hp.cut (L := [_]) (M := [_, _]) H kYs⟩)
  ·refine J (Xj rfl) (Jn (Jc rfl (Jk (Js (Jr (Jm (Ja (Jn (Je ?_)))))))))
   (rw [e0, if_neg (by omega)]; exact ⟨_, rfl, hgp, Hp.cut (L := [_]) (M := [_, _]) H kYs⟩)
end
end Go.Proofs.YtlpmfldijgdcoaaGreatDoor.Ho
namespace Go.Proofs.YtlpmfldijgdcoaaGreatDoor.Ho
open Go Go.Proofs Fx Kn Cm Sect TabC Caps Tryz
section
variable {w : World} {κ : KS} {h e n sp c : Nat} {S : Sx} {qs : List Nat} {sl : Int} {ph st op a b : Int} {da : Option Addr} {dl dc : Nat} {q : Nat × Nat} {t : List Pl} {nms : List Int}
theorem FreshG (hh : w.heap[h]? = some (blk (hC κ e sl n c ph st op a b (.slice da dl dc)) 139)) (hs : Ks w κ e n sp) (hq : Sq w sp S qs) (hl : ∀ b ∈ qs, b + 1 < w.heap.size) (hb : S.q.length ≤ 1000000)
  (hK : Kr w κ) (hpb : κ.PB[e]? = some q) (ht : κ.ts[e]? = some t) (hnm : Zi 0 t = nms) (h0 : nms ≠ []) :
  Ret Tryz.prog 62 #[ptr h 0] w fun v w' => ∃ S' c' u mp M Q qs', (S' = S ∨ S' = Bf S e) ∧ Kq w.heap.size sp qs Q ∧ SqL sp S' qs' Q ∧ (∀ b ∈ qs', b ∈ qs ∨ w.heap.size ≤ b) ∧ w.heap.size ≤ c' ∧ w.heap.size ≤ mp ∧ Yo w.heap.size 3 1 u nms.length (nms.map I) M ∧
   Hp w (((c', blk [ptr κ.k 0, I e, u, .map (some mp)] 177) :: (mp, .map #[] 0) :: M) ++ ((h, blk (hC κ e sl n c' 0 st op a b (.slice da dl dc)) 139) :: Q)) w' := by
 refine Qi (args := [_]) func62 rfl ntmps62 results62 (by simp) ?_
 have H := Hp.refl w
 have hlh := Qr hh
 (refine Js (Jr (Jm (Jy rfl call95 rfl (idleQ (H.Qc hh kYs) (hs.Ql H kYs) (hq.Ql H kYs) (fun b hb => Nat.lt_of_lt_of_le (hl b hb) H.size) hb) ?_))); rintro _ w4 ⟨rfl, S', hS', h9⟩; have h8 := SqP.own3 hq H kYs (fun p hp => .inl (by rw [List.mem_singleton.1 hp]; exact hlh)) h9; clear H h9; obtain ⟨Q, qs', k1, k2, k3, H⟩ := h8; simp only [List.cons_append, List.nil_append] at H; have hKat : ∀ {w1 : World} {N : List (Nat × Obj)} {o : Obj}, Hp w (N ++ ((h, o) :: Q)) w1 → (∀ p ∈ N, w.heap.size ≤ p.1) → Kr w1 κ := (fun H1 hN => hK.keep0 H1 ((Out.ofN hN).app (Out.cons hh (by simp [kT, elT]) (Kq.out hq k1 (by simp [kT]) (by simp [kT]))))))
 refine Jn ?_
 (refine Xi (fun w2 => (∃ cc, w2.heap[h]? = some (blk (hC κ e sl n cc 0 st op a b (.slice da dl dc)) 139)) ∧ Kr w2 κ) (fun _ => false) (by kernel_rfl) H ?_; clear H; intro w6 H; replace H : Hp w ([] ++ ((h, blk (hC κ e sl n c 0 st op a b (.slice da dl dc)) 139) :: Q)) w6 := H)
 (refine Am 0 rfl ⟨⟨_, H.get (.app _ .here)⟩, hKat H kYs⟩ (Am 1 rfl ⟨⟨_, H.get (.app _ .here)⟩, hKat H kYs⟩ (Az 2 rfl rfl ⟨⟨_, H.get (.app _ .here)⟩, hKat H kYs⟩ (fun _ hC => Qf rfl) (Az 3 rfl rfl ⟨⟨_, H.get (.app _ .here)⟩, hKat H kYs⟩ (fun _ hC => Qa (off' := 0) underlying139 rfl sizeOf71 (by decide) rfl rfl) (Az 4 rfl rfl ⟨⟨_, H.get (.app _ .here)⟩, hKat H kYs⟩ (fun _ hC => (by obtain ⟨⟨cc, hcc⟩, _⟩ := hC; exact Qe (v := ptr κ.k 0) isAgg71 rfl hcc rfl)) (Am 5 rfl ⟨⟨_, H.get (.app _ .here)⟩, hKat H kYs⟩ (Az 6 rfl rfl ⟨⟨_, H.get (.app _ .here)⟩, hKat H kYs⟩ (fun _ hC => Qf rfl) (Az 7 rfl rfl ⟨⟨_, H.get (.app _ .here)⟩, hKat H kYs⟩ (fun _ hC => Qa (off' := 1) underlying139 rfl sizeOf3 (by decide) rfl rfl) (Az 8 rfl rfl ⟨⟨_, H.get (.app _ .here)⟩, hKat H kYs⟩ (fun _ hC => (by obtain ⟨⟨cc, hcc⟩, _⟩ := hC; exact Qe (v := I e) isAgg3 rfl hcc rfl)) (Ao 9 (Qv rfl (.inl rfl) (Qw rfl call53 rfl) (cnew_ret (hKat H kYs) hpb ht hnm h0) (by rintro _ w2 ⟨c', u, mp, M, _, hc9, hm9, hO9, H1⟩ _; exact ⟨⟨_, H1.Qc (H.get (.app _ .here)) (Qu hc9 (Qu hm9 hO9.keys))⟩, (hKat H kYs).Ql H1 (Qu hc9 (Qu hm9 hO9.keys))⟩) ?_)))))))))); rintro _ w17 ⟨c', u, mp, M, rfl, hc9, hm9, hO9, H1⟩; have hk9 := hO9.keys; have H2 := olds2 H H1 (fun p hp hm => by obtain ⟨p', hp', e'⟩ := List.mem_map.1 hm; have h1 := Qr (H.held p hp); have h2 := (Qu hc9 (Qu hm9 hk9)) p' hp'; omega); have hsz := H.size; clear H H1; have H := H2; clear H2; have hN9 : ∀ p ∈ (c', blk [ptr κ.k 0, I e, u, .map (some mp)] 177) :: (mp, .map #[] 0) :: M, w.heap.size ≤ p.1 := (fun p hp => Nat.le_trans hsz (Qu hc9 (Qu hm9 hk9) p hp)))
 (refine Am 10 rfl ⟨⟨_, H.get (.app _ .here)⟩, hKat H hN9⟩ (Az 11 rfl rfl ⟨⟨_, H.get (.app _ .here)⟩, hKat H hN9⟩ (fun _ hC => Qs rfl rfl) (Az 12 rfl rfl ⟨⟨_, H.get (.app _ .here)⟩, hKat H hN9⟩ (fun _ hC => Qs rfl rfl) (Az 13 rfl rfl ⟨⟨_, H.get (.app _ .here)⟩, hKat H hN9⟩ (fun _ hC => Qf rfl) (Az 14 rfl rfl ⟨⟨_, H.get (.app _ .here)⟩, hKat H hN9⟩ (fun _ hC => Qa (off' := 4) underlying139 rfl sizeOf93 (by decide) rfl rfl) (Ao 15 (Xb rfl (.inl rfl) (Qz (v := ptr c' 0) H sizeOf93 rfl rfl rfl (.app _ .here) (by simp)) (fun _ H _ => ⟨⟨_, H.get (.app _ .here)⟩, hKat H hN9⟩) ?_)))))); clear H; intro w24 H; replace H : Hp w (((c', blk [ptr κ.k 0, I e, u, .map (some mp)] 177) :: (mp, .map #[] 0) :: M) ++ ((h, blk (hC κ e sl n c' 0 st op a b (.slice da dl dc)) 139) :: Q)) w24 := H)
 refine Ad ?_
 exact ⟨_, rfl, S', c', u, mp, M, Q, qs', hS', k1, k2, k3, Nat.le_trans hsz hc9, Nat.le_trans hsz hm9, hO9.mono hsz, H⟩
end
end Go.Proofs.YtlpmfldijgdcoaaGreatDoor.Ho
namespace Go.Proofs.YtlpmfldijgdcoaaGreatDoor.Ke
open Go Go.Proofs Fx Kn Tryz
structure BV where
 fb : Nat
 fc : Nat
 eb : Nat
 ec : Nat
 sb : Nat
 sc : Nat
 lb : Nat
 lc : Nat
 hb : Nat
 hc : Nat
 tb : Nat
 tc : Nat
 fl : List Value
 el : List Value
 sl' : List Value
 ll : List Value
 hl : List Value
 tl : List Value
def BV.c (B : BV) : List Value := [sl B.fb 0 1 B.fc, sl B.eb 0 9 B.ec, sl B.sb 0 1 B.sc, I 3, sl B.hb 0 1 B.hc]
def BV.x (B : BV) : List Value := [I 0, I 0, I 0, I 492, sl B.tb 0 1 B.tc]
structure Bt (w : World) (B : BV) : Prop where
 f : w.heap[B.fb]? = some (blk ([I 20] ++ B.fl) 3)
 e : w.heap[B.eb]? = some (blk (List.replicate 9 (I 0) ++ B.el) 3)
 s : w.heap[B.sb]? = some (blk ([sl B.lb 0 1 B.lc] ++ B.sl') 22)
 l : w.heap[B.lb]? = some (blk ([I 0] ++ B.ll) 3)
 h : w.heap[B.hb]? = some (blk (B.x ++ B.hl) 118)
 t : w.heap[B.tb]? = some (blk ([I 0] ++ B.tl) 3)
 ec : 9 ≤ B.ec
 lc : 1 ≤ B.lc
 tc : 1 ≤ B.tc
 fc : 1 ≤ B.fc
theorem Bt.Ql {w w' : World} {B : BV} {L : List (Nat × Obj)} (h : Bt w B) (H : Hp w L w') (hn : ∀ p ∈ L, w.heap.size ≤ p.1) : Bt w' B :=
 ⟨H.Qc h.f hn, H.Qc h.e hn, H.Qc h.s hn, H.Qc h.l hn, H.Qc h.h hn, H.Qc h.t hn, h.ec, h.lc, h.tc, h.fc⟩
theorem frames_ret (n : Int) (w : World) : Ret Tryz.prog 42 #[I n] w fun v w' => v = I (min (max n 0) 64) ∧ Hp w [] w' := by
 refine Qi (args := [_]) func42 rfl ntmps42 results42 (by simp) ?_
 have H := Hp.refl w
 refine Js (Jr (Ja (Jn (Js (Jr (Jm (J (Mz rfl rfl rfl) (Ym rfl (Nn rfl rfl rfl) ?_))))))))
 refine Ja (Jn (Je ?_))
 exact ⟨_, rfl, rfl, H⟩
section
variable {w : World} {B : BV} {c1 : Nat}
theorem none_ret (hc : w.heap[c1]? = some (blk B.c 77)) : Ret Tryz.prog 74 #[I 0, ptr c1 0] w fun v w' => v = .bool false ∧ Hp w [] w' := by
 refine Qi (args := [_, _]) func74 rfl ntmps74 results74 (by simp) ?_
 have H := Hp.refl w
 unfold BV.c at hc
 refine Js (Jr (Ja (Jn (Js (Jr (Jm (J (Xp rfl rfl (by omega)) (Jm (Jt rfl rfl (Jm (Jt rfl rfl (Jf 0 underlying77 rfl sizeOf22 rfl rfl (Jt rfl rfl (Jl isAgg22 rfl (H.block hc (by simp)) rfl (Jt rfl rfl (J (Qh underlying22 rfl) (Jt rfl rfl (J (Zn rfl rfl (by omega)) (Jp rfl (Ja (Jn (Je ?_))))))))))))))))))))))
 exact ⟨_, rfl, rfl, H⟩
theorem index_none {v : Value} {n : Nat} (hl : RdS w v (List.replicate n (I 0))) (hn : n ≤ 1000) (hc : w.heap[c1]? = some (blk B.c 77)) :
  Ret Tryz.prog 119 #[v, .func (.func 74) #[] #[ptr c1 0]] w fun r w' => r = I (-1) ∧ Hp w [] w' := by
 refine Qi (args := [_, _]) func119 rfl ntmps119 results119 (by simp) ?_
 have H := Hp.refl w
 obtain ⟨a, ca, rfl⟩ := hl.form
 rw [List.length_replicate] at *
 refine Js (Jr (Ja (Jn (Js (Js (Jr (Jm (J (Qh underlying22 rfl) (Jm (Jn (Jb ?_)))))))))))
 refine Yg [(4, 5), (8, 18)] (fun (i : Nat) E w' => i ≤ n ∧ E 8 = I i ∧ Hp w [] w') (fun i => n - i) 0 ?e0 ?r0
 ·exact ⟨by omega, rfl, H⟩
 ·(clear H; rintro i E w1 ⟨hi, h8, H⟩; refine Ur h8 ?_)
  refine Js (Jr (J (Vb rfl rfl) (Jn (Js (Xo rfl (fun h20 => ?_) (fun h20 => ?_))))))
  ·refine Jk (Js (Jb (Js ?_)))
   ((obtain ⟨b, off, rfl, hcell⟩ := hl.cell (i := i) (u := I 0) (by rw [List.getElem?_replicate, if_pos (by omega)]))) <;> refine Qk ?_
   (refine Jm (Ja (Jn (Js (Jr (Jm (Jm (Jm (J (Qj (off' := off + i) underlying22 sizeOf3 rfl rfl (by omega) (by omega) (by omega)) (J (Qx isAgg3 rfl (H.Zx hcell kYs)) (Jz rfl call74 rfl (none_ret (H.Qc hc kYs)) H ?_)))))))))); intro w36 H)
   refine Jn (Jc rfl (Jk (Jr (J (Xg rfl rfl (Xc (by omega))) (Jm (Jn ?_))))))
   exact ⟨kS, i + 1, by omega, by omega, rfl, H⟩
  ·refine Xr ?_
   refine (if_pos rfl).mpr ?_
   refine Js (Jr (Ja (Jn (Je ?_))))
   exact ⟨_, rfl, rfl, H⟩
theorem Ng {v : Value} {n : Nat} (hl : RdS w v (List.replicate n (I 0))) (hn : n ≤ 1000) (hc : w.heap[c1]? = some (blk B.c 77)) :
  Ret Tryz.prog 75 #[v, .func (.func 74) #[] #[ptr c1 0]] w fun r w' => r = .bool false ∧ Hp w [] w' := by
 refine Qi (args := [_, _]) func75 rfl ntmps75 results75 (by simp) ?_
 have H := Hp.refl w
 (refine Js (Jr (Ja (Jn (Js (Jr (Jm (Jm (Jz rfl call119 rfl (index_none hl hn hc) H ?_)))))))); intro w9 H)
 refine J (Zn rfl rfl (by omega)) (Ja (Jn (Je ?_)))
 exact ⟨_, rfl, rfl, H⟩
theorem share_ret (hB : Bt w B) : Ret Tryz.prog 76 #[.agg B.c.toArray, .agg B.x.toArray] w fun v w' => v = .bool true ∧ Hp w [] w' := by
 refine Qi (args := [_, _]) func76 rfl ntmps76 results76 (by simp) ?_
 have H := Hp.refl w
 have hf := hB.f
 unfold BV.c BV.x
 (refine Js (Jr (Qb rfl (Xl (vs := [sl B.fb 0 1 B.fc, sl B.eb 0 9 B.ec, sl B.sb 0 1 B.sc, I 3, sl B.hb 0 1 B.hc]) H rfl rfl) ?_)); clear H; intro c2 w3 hc2 H)
 (refine Qb rfl (Xl (vs := [I 0, I 0, I 0, I 492, sl B.tb 0 1 B.tc]) H rfl rfl) ?_; clear H; intro c3 w4 hc3 H)
 (refine Ja (Jn (Js (Js (Jr (Jf 0 underlying118 rfl sizeOf3 rfl rfl (Jl isAgg3 rfl (H.get .here) rfl (J (Xp rfl rfl (by omega)) (Jm (Jt rfl rfl (Jf 0 underlying118 rfl sizeOf3 rfl rfl (Jt rfl rfl (Jl isAgg3 rfl (H.get .here) rfl (Jt rfl rfl (Jf 0 underlying77 rfl sizeOf22 rfl rfl (Jt rfl rfl (Jl isAgg22 rfl (H.get (.there .here)) rfl (Jt rfl rfl (J (Qh underlying22 rfl) (Jt rfl rfl (J (Zn rfl rfl (by omega)) (Jp rfl (Jm (Jt rfl rfl (Jf 1 underlying118 rfl sizeOf3 rfl rfl (Jt rfl rfl (Jl isAgg3 rfl (H.get .here) rfl (Jt rfl rfl (J (Xp rfl rfl (by omega)) (Jp rfl (Jm (Jt rfl rfl (Jf 2 underlying118 rfl sizeOf3 rfl rfl (Jt rfl rfl (Jl isAgg3 rfl (H.get .here) rfl (Jt rfl rfl (J (Xp rfl rfl (by omega)) (Jp rfl (Jm (Jt rfl rfl (Jf 3 underlying118 rfl sizeOf3 rfl rfl (Jt rfl rfl (Jl isAgg3 rfl (H.get .here) rfl (Jt rfl rfl (J (Xp rfl rfl (by omega)) (Jp rfl (Jn (Jc rfl (Jk (Js (Jr (Jf 0 underlying77 rfl sizeOf22 rfl rfl (Jl isAgg22 rfl (H.get (.there .here)) rfl (Jf 0 underlying118 rfl sizeOf3 rfl rfl (Jl isAgg3 rfl (H.get .here) rfl (J (Qj (off' := 0) underlying22 sizeOf3 rfl rfl (by decide) (by decide) (by decide)) (J (Qe (v := I 20) isAgg3 rfl (H.Qc hf kYs) rfl) (Jy rfl call42 rfl (frames_ret 20 _) ?_))))))))))))))))))))))))))))))))))))))))))))))))))))))))); rintro v w62 ⟨hv, H1⟩; rw [show min (max (20 : Int) 0) 64 = 20 from by decide] at hv; subst hv; replace H := H.seq0 H1; clear H1)
 refine Ja (Jn (Js (Js (Jr (Jf 1 underlying118 rfl sizeOf3 rfl rfl (Jl isAgg3 rfl (H.get .here) rfl (Jm (J (Zm rfl rfl (by omega)) (Jn (Jc rfl (Jk (Js (Jr (Jm (Jf 1 underlying118 rfl sizeOf3 rfl rfl (Jl isAgg3 rfl (H.get .here) rfl (J (Vt (r := 20) rfl rfl (by decide)) (J (Bs (r := 1280) rfl rfl (by decide)) (Ja (Jn (Js (Jr (Jf 2 underlying118 rfl sizeOf3 rfl rfl (Jl isAgg3 rfl (H.get .here) rfl (Jm (J (R_le_t rfl rfl (by omega)) (Jm (Jt rfl rfl (Jf 3 underlying118 rfl sizeOf3 rfl rfl (Jt rfl rfl (Jl isAgg3 rfl (H.get .here) rfl (Jt rfl rfl (Jm (Jt rfl rfl (Jf 2 underlying118 rfl sizeOf3 rfl rfl (Jt rfl rfl (Jl isAgg3 rfl (H.get .here) rfl (Jt rfl rfl (J (Vt (r := 1280) rfl rfl (by decide)) (Jt rfl rfl (J (R_le_t rfl rfl (by omega)) (Jq rfl (Ja (Jn (Je ?_)))))))))))))))))))))))))))))))))))))))))))))
 exact ⟨_, rfl, rfl, H.none kYs⟩
theorem Dw (hB : Bt w B) : Ret Tryz.prog 41 #[.agg B.c.toArray] w fun v w' => v = .bool true ∧ Hp w [] w' := by
 refine Qi (args := [_]) func41 rfl ntmps41 results41 (by simp) ?_
 have H := Hp.refl w
 have hlen : (BV.c B).length = 5 := rfl
 (refine Js (Jr (Qb rfl (Xl (vs := BV.c B) H rfl rfl) ?_)); clear H; intro c1 w3 hc1 H)
 refine Ja (Jn (Js (Js (Jr (Jf 0 underlying77 rfl sizeOf22 rfl rfl (J (Qe (v := sl B.fb 0 1 B.fc) isAgg22 rfl (H.get .here) rfl) (J (Qh underlying22 rfl) (J (Xp rfl rfl (by omega)) (Jm (Jt rfl rfl (Jf 0 underlying77 rfl sizeOf22 rfl rfl (Jt rfl rfl (J (Qe (v := sl B.fb 0 1 B.fc) isAgg22 rfl (H.get .here) rfl) (Jt rfl rfl (J (Qh underlying22 rfl) (Jt rfl rfl (J (Zm rfl rfl (by omega)) (Jp rfl (Jm (Jt rfl rfl (Jf 1 underlying77 rfl sizeOf22 rfl rfl (Jt rfl rfl (J (Qe (v := sl B.eb 0 9 B.ec) isAgg22 rfl (H.get .here) rfl) (Jt rfl rfl (J (Qh underlying22 rfl) (Jt rfl rfl (J (Zm rfl rfl (by omega)) (Jp rfl (Jm (Jt rfl rfl (Jf 2 underlying77 rfl sizeOf74 rfl rfl (Jt rfl rfl (J (Qe (v := sl B.sb 0 1 B.sc) isAgg74 rfl (H.get .here) rfl) (Jt rfl rfl (J (Qh underlying74 rfl) (Jt rfl rfl (J (Zm rfl rfl (by omega)) (Jp rfl (Jm (Jt rfl rfl (Jf 4 underlying77 rfl sizeOf75 rfl rfl (Jt rfl rfl (J (Qe (v := sl B.hb 0 1 B.hc) isAgg75 rfl (H.get .here) rfl) (Jt rfl rfl (J (Qh underlying75 rfl) (Jt rfl rfl (J (Zm rfl rfl (by omega)) (Jp rfl (Jm (Jt rfl rfl (Jf 3 underlying77 rfl sizeOf3 rfl rfl (Jt rfl rfl (J (Qe (v := I 3) isAgg3 rfl (H.get .here) rfl) (Jt rfl rfl (J (Xp rfl rfl (by omega)) (Jp rfl (Jm (Jt rfl rfl (Jf 3 underlying77 rfl sizeOf3 rfl rfl (Jt rfl rfl (J (Qe (v := I 3) isAgg3 rfl (H.get .here) rfl) (Jt rfl rfl (J (Zm rfl rfl (by omega)) (Jp rfl (Jn (Jc rfl (Jk (Js (Jr (J (R_fn1 rfl) (Ja (Jn (Js (Js ?_))))))))))))))))))))))))))))))))))))))))))))))))))))))))))))))))))))))))))
 ((have m4 : True := trivial)) <;> refine Qk ?_
 refine Jf 1 underlying77 rfl sizeOf22 rfl rfl (J (Qe (v := sl B.eb 0 9 B.ec) isAgg22 rfl (H.get .here) rfl) (Jm ?_))
 (have _g := m4; refine Vl rfl (Qw rfl call75 rfl) (Ng (n := 9) (RdS.blk (c := List.replicate 9 (I 0) ++ B.el) (off := 0) (H.Qc hB.e kYs) (by simp) (by simp) hB.ec) (by decide) (H.get .here)) ?_; rintro _ w83 ⟨rfl, H1⟩; replace H := H.seq0 H1; clear H1)
 refine Jn (Jc rfl (Jk (Js (Js (Jr (Jf 2 underlying77 rfl sizeOf74 rfl rfl (J (Qe (v := sl B.sb 0 1 B.sc) isAgg74 rfl (H.get .here) rfl) (J (Qh underlying74 rfl) (Jm (Jn (Jb (Vs 1 ?_))))))))))))
 refine Js (Jr (J (Za rfl rfl (by omega)) (Jn (Js (Jd rfl (Jk (Js (Jb (Js ?_)))))))))
 ((have m8 : True := trivial; clear m4)) <;> refine Qk ?_
 refine J (Qj (off' := 0) underlying74 sizeOf22 rfl rfl (by decide) (by decide) (by decide)) (J (Qe (v := sl B.lb 0 1 B.lc) isAgg22 rfl (H.Qc hB.s kYs) rfl) (Ja (Jn (Js (Jr (Jm (Jm ?_)))))))
 (have _g := m8; refine Vl rfl (Qw rfl call75 rfl) (Ng (n := 1) (RdS.blk (c := [I 0] ++ B.ll) (off := 0) (H.Qc hB.l kYs) rfl (by simp) hB.lc) (by decide) (H.get .here)) ?_; rintro _ w116 ⟨rfl, H1⟩; replace H := H.seq0 H1; clear H1)
 refine Jn (Jc rfl (Jk (Jr (J (Xg (r := 1) rfl rfl (by decide)) (Jm (Jn ?_))))))
 refine Bp ?_
 refine Js (Jr (J (Xp rfl rfl (by omega)) (Jn (Js (Jc rfl (Xr ?_))))))
 refine (if_pos rfl).mpr ?_
 refine Js (Js (Jr (Jf 4 underlying77 rfl sizeOf75 rfl rfl (J (Qe (v := sl B.hb 0 1 B.hc) isAgg75 rfl (H.get .here) rfl) (J (Qh underlying75 rfl) (Jm (Jn (Jb (Vs 1 ?_)))))))))
 refine Js (Jr (J (Za rfl rfl (by omega)) (Jn (Js (Jd rfl (Jk (Js (Jb (Js ?_)))))))))
 ((clear m8)) <;> refine Qk ?_
 (refine J (Qj (off' := 0) underlying75 sizeOf118 rfl rfl (by decide) (by decide) (by decide)) (J (Qo (vs := BV.x B) isAgg118 sizeOf118 rfl (H.Qc hB.h kYs) rfl (by simp [BV.x])) (Qb rfl (Qp (vs := [I 0, I 0, I 0, I 0, nilS]) H zeroValue118 rfl) ?_)); clear H; intro c7 w156 hc7 H)
 (refine Qd rfl (Qg (vs := BV.x B) H sizeOf118 rfl rfl (by simp [BV.x, Value.oneCell']) .here (by simp [BV.x])) ?_; clear H; intro w157 H; replace H : Hp w [(c7, blk (BV.x B) 118), (c1, blk (BV.c B) 77)] w157 := H)
 (refine Jn (Js (Jr (J (Qo (vs := BV.c B) isAgg77 sizeOf77 rfl (H.get (.there .here)) rfl (by simp [BV.c])) (J (Qo (vs := BV.x B) isAgg118 sizeOf118 rfl (H.get .here) rfl (by simp [BV.x])) (Jz rfl call76 rfl (share_ret (hB.Ql H kYs)) H ?_))))); intro w163 H)
 (refine J (Xj rfl) (Jm (Jt rfl rfl (Jf 4 underlying118 rfl sizeOf22 rfl rfl (Jt rfl rfl (J (Qe (v := sl B.tb 0 1 B.tc) isAgg22 rfl (H.get .here) rfl) (Jt rfl rfl (Jm (Jt rfl rfl (Jz rfl call75 rfl (Ng (n := 1) (RdS.blk (c := [I 0] ++ B.tl) (off := 0) (H.Qc hB.t kYs) rfl (by simp) hB.tc) (by decide) (H.get (.there .here))) H ?_))))))))); intro w173 H)
 refine Jp rfl (Jn (Jc rfl (Jk (Jr (J (Xg (r := 1) rfl rfl (by decide)) (Jm (Jn ?_)))))))
 refine Bp ?_
 refine Js (Jr (J (Xp rfl rfl (by omega)) (Jn (Js (Jc rfl (Xr ?_))))))
 refine (if_pos rfl).mpr ?_
 refine Js (Jr (Ja (Jn (Je ?_))))
 exact ⟨_, rfl, rfl, H.none kYs⟩
end
end Go.Proofs.YtlpmfldijgdcoaaGreatDoor.Ke
namespace Go.Proofs.YtlpmfldijgdcoaaGreatDoor.Quota
open Go Go.Proofs Fx Tryz
/-- the sessions' rows, each in its block -/
def Md (ins : List (Nat × List Int)) : List Value := ins.map fun x => sl x.1 0 x.2.length x.2.length
def qBlks (ins : List (Nat × List Int)) : List (Nat × Obj) := ins.map fun x => (x.1, blk (x.2.map I) 3)
def Be (ins : List (Nat × List Int)) (s : Int) : Nat × List Int := ins.getD s.toNat (0, [])
theorem rowD_get {ins : List (Nat × List Int)} {s : Int} (h : 0 ≤ s ∧ s < ins.length) : ins[s.toNat]? = some (Be ins s) := by
 unfold Be
 rw [List.getD_eq_getElem?_getD, List.getElem?_eq_getElem (by omega)]; rfl
/-- what is to be seen of a Quota -/
structure Sees (w : World) (p : Nat) (uv : Value) (ins : List (Nat × List Int)) : Prop where
 obj : w.heap[p]? = some (blk [uv] 168)
 outer : RdS w uv (Md ins)
 rows : ∀ x ∈ ins, w.heap[x.1]? = some (blk (x.2.map I) 3)
 len : ins.length ≤ 4
 small : ∀ x ∈ ins, x.2.length ≤ 64
 bits : ∀ x ∈ ins, ∀ y ∈ x.2, y = 0 ∨ y = 1
theorem Sees.cell {w : World} {p : Nat} {ao : Option Addr} {m c : Nat} {ins : List (Nat × List Int)} (h : Sees w p (.slice ao m c) ins) {s : Int} (hs : 0 ≤ s ∧ s < ins.length) :
  ∃ b o, ao = some ⟨b, o, none⟩ ∧ w.cell? ⟨b, o + s.toNat, none⟩ = some (sl (Be ins s).1 0 (Be ins s).2.length (Be ins s).2.length) := by
 obtain ⟨b, o, e, hc⟩ := h.outer.cell (i := s.toNat) (u := sl (Be ins s).1 0 (Be ins s).2.length (Be ins s).2.length) (by unfold Md; rw [List.getElem?_map, rowD_get hs]; rfl)
 exact ⟨b, o, e, hc⟩
theorem Sees.row {w : World} {p : Nat} {uv : Value} {ins : List (Nat × List Int)} (h : Sees w p uv ins) {s : Int} (hs : 0 ≤ s ∧ s < ins.length) {k : Int} (hk : 0 ≤ k ∧ k < (Be ins s).2.length) :
  w.cell? ⟨(Be ins s).1, k.toNat, none⟩ = some (I ((Be ins s).2.getD k.toNat 0)) := by
 rw [Uf (h.rows _ (List.mem_of_getElem? (rowD_get hs))), List.getElem?_map, List.getD_eq_getElem?_getD, List.getElem?_eq_getElem (by omega)]; rfl
theorem Sees.at_ {w w' : World} {p : Nat} {uv : Value} {ins : List (Nat × List Int)} (h : Sees w p uv ins) (H : Hp w [] w') : Sees w' p uv ins :=
 ⟨H.Qc h.obj Xu, h.outer.Yd H Xu, fun x hx => H.Qc (h.rows x hx) Xu, h.len, h.small, h.bits⟩
theorem Sees.form {w : World} {p : Nat} {uv : Value} {ins : List (Nat × List Int)} (h : Sees w p uv ins) : ∃ ao c, uv = .slice ao ins.length c := by
 obtain ⟨ao, ca, e⟩ := h.outer.form
 rw [show (Md ins).length = ins.length by simp [Md]] at e
 exact ⟨ao, ca, e⟩
theorem rowD_mem {ins : List (Nat × List Int)} {s : Int} (h : 0 ≤ s ∧ s < ins.length) : Be ins s ∈ ins := List.mem_of_getElem? (rowD_get h)
section
variable {w : World} {p : Nat} {uv : Value} {ins : List (Nat × List Int)}
theorem is_ret (s : Int) (hS : Sees w p uv ins) :
  Ret Tryz.prog 155 #[ptr p 0, I s] w fun v w' => v = .bool (decide (0 ≤ s ∧ s < ins.length)) ∧ Hp w [] w' := by
 refine Qi (args := [_, _]) func155 rfl ntmps155 results155 (by simp) ?_
 have hl4 := hS.len
 obtain ⟨ao, ca, rfl⟩ := hS.form
 have H := Hp.focus0 hS.obj
 refine Js (Jr (Ja (Jn (Js (Jr (Jm (J (Mi rfl rfl) (Jm ?_))))))))
 apply Xs 8 7 15 [(8, 15)] H
 case hc => rfl
 case h1 =>
  intro h10
  refine Jt rfl rfl (Jm (Jt rfl rfl (Jm (Jt rfl rfl (Ji rfl (Jt rfl rfl (Jf 0 underlying168 rfl sizeOf74 rfl rfl (Jt rfl rfl (Jl isAgg74 rfl (H.get .here) rfl (Jt rfl rfl (J (Qh underlying74 rfl) (Jt rfl rfl (J (Vb rfl rfl) (Jq rfl (Jn ?_)))))))))))))))
  exact ⟨kS, rfl, H⟩
 case h0 =>
  intro h10
  refine Jg rfl rfl (Jg rfl rfl (Jg rfl rfl (Jg rfl rfl (Jg rfl rfl (Jg rfl rfl (Jg rfl rfl (Jp rfl (Jn ?_))))))))
  exact ⟨kS, rfl, H⟩
 case h2 =>
  (clear H; intro E10 w10 H)
  refine Ja (Jn (Je ?_))
  exact ⟨_, rfl, rfl, H.back hS.obj⟩
/-- whose frame it is -/
def ownP (ins : List (Nat × List Int)) (s k : Int) : Prop := (((0 ≤ s ∧ s < ins.length) ∧ 0 ≤ k) ∧ k < (Be ins s).2.length) ∧ 0 < (Be ins s).2.getD k.toNat 0
instance (ins : List (Nat × List Int)) (s k : Int) : Decidable (ownP ins s k) := by unfold ownP; infer_instance
end
end Go.Proofs.YtlpmfldijgdcoaaGreatDoor.Quota
namespace Go.Proofs.YtlpmfldijgdcoaaGreatDoor.Quota
open Go Go.Proofs Fx Tryz
/-- where a number stands in a row; below 0: nowhere -/
def idx (xs : List Int) (x : Int) : Int := match xs with
 | [] => -1
 | y :: ys => if x = y then 0 else if idx ys x < 0 then -1 else idx ys x + 1
theorem idx_ge (xs : List Int) (x : Int) : -1 ≤ idx xs x := by
 induction xs with
 | nil => simp [idx]
 | cons y ys ih => unfold idx; split <;> (try split) <;> omega
theorem idx_mem {xs : List Int} {x : Int} : 0 ≤ idx xs x ↔ x ∈ xs := by
 induction xs with
 | nil => simp [idx]
 | cons y ys ih =>
  unfold idx
  rw [List.mem_cons, ← ih]
  split
  ·simp_all
  ·split <;> omega
/-- the first of the numbers behind place k, if none ahead of it is it -/
theorem idx_drop {xs : List Int} {x : Int} {k : Nat} (hk : k < xs.length) (h : ∀ j (hj : j < k), xs[j]'(by omega) ≠ x) (hx : x = xs[k]) : idx xs x = k := by
 induction xs generalizing k with
 | nil => simp at hk
 | cons y ys ih =>
  unfold idx
  cases k with
  | zero => rw [if_pos (by simpa using hx)]; rfl
  | succ k =>
   have h0 := h 0 (by omega)
   rw [if_neg (fun e => h0 e.symm)]
   simp only [List.length_cons] at hk
   have := ih (k := k) (by omega) (fun j hj => by have := h (j + 1) (by omega); simpa using this) (by simpa using hx)
   rw [this]
   rw [if_neg (by omega)]
   omega
theorem idx_none {xs : List Int} {x : Int} (h : ∀ j (hj : j < xs.length), xs[j] ≠ x) : idx xs x = -1 := by
 have h1 := idx_ge xs x
 have h2 : ¬ 0 ≤ idx xs x := fun h3 => by
  obtain ⟨j, hj, he⟩ := List.getElem_of_mem (idx_mem.1 h3)
  exact h j hj he
 omega
theorem index_ret {xs : List Int} {w : World} {v : Value} (x : Int) (hv : RdS w v (xs.map I)) (hb : xs.length ≤ 9223372036854775807) :
  Ret Tryz.prog 79 #[v, I x] w fun r w' => r = I (idx xs x) ∧ Hp w [] w' := by
 refine Qi (args := [_, _]) func79 rfl ntmps79 results79 (by simp) ?_
 obtain ⟨ao, ca, rfl⟩ := hv.form
 simp only [List.length_map] at hv ⊢
 have H := Hp.refl w
 refine Js (Jr (Ja (Jn (Js (Js (Jr (Jm (J (Qh underlying22 rfl) (Jm (Jn (Jb ?_)))))))))))
 refine Yg [(4, 5), (8, 18)] (fun (k : Nat) E w' => k ≤ xs.length ∧ E 8 = I k ∧ (∀ j (hj : j < k) (hl : j < xs.length), xs[j] ≠ x) ∧ Hp w [] w') (fun k => xs.length - k) 0 ?e0 ?r0
 ·exact ⟨by omega, rfl, fun j hj => by omega, H⟩
 ·(clear H; rintro k E w1 ⟨hk, h0, hn, H⟩; refine Ur h0 ?_)
  refine Js (Jr (J (Vb rfl rfl) (Jn (Js (Xo rfl (fun h20 => ?_) (fun h20 => ?_))))))
  ·refine Jk (Js (Jb (Js (Jr (Jm (Ja (Jn (Js ?_))))))))
   (obtain ⟨b1, o1, rfl, hc1⟩ := hv.cell (i := k) (u := I xs[k]) (by rw [List.getElem?_map, List.getElem?_eq_getElem (by omega)]; rfl)) <;> refine Qk ?_
   refine Jm (Jm (Jm (J (Qj underlying22 sizeOf3 rfl rfl (by omega) (by omega) Xt) (J (Qx isAgg3 rfl (H.Zx hc1 kYs)) (J (Yk rfl rfl) (Jn (Xo rfl (fun h38 => ?_) (fun h38 => ?_))))))))
   ·refine Js (Jr (Jm (Ja (Jn (Je ?_)))))
    exact ⟨_, rfl, congrArg I (idx_drop (by omega) (fun j hj => hn j hj (by omega)) (by assumption)).symm, H⟩
   ·refine Jk (Jr (J (Xg rfl rfl (Xc (by omega))) (Jm (Jn ?_))))
    exact ⟨kS, k + 1, by omega, by omega, rfl, (fun j hj hl => by rcases Nat.lt_or_ge j k with h' | h'; exact hn j h' hl; obtain rfl : j = k := (by omega); exact fun e => absurd e.symm (by assumption)), H⟩
  ·refine Xr ?_
   refine (if_pos rfl).mpr ?_
   refine Js (Jr (Ja (Jn (Je ?_))))
   exact ⟨_, rfl, congrArg I (idx_none (fun j hj => hn j (by omega) hj)).symm, H⟩
/-- a frame of a session turned -/
def setQ (ins : List (Nat × List Int)) (s k v : Int) : List (Nat × List Int) := ins.set s.toNat ((Be ins s).1, (Be ins s).2.set k.toNat v)
section
variable {w0 w : World} {p : Nat} {uv : Value} {ins : List (Nat × List Int)} {Mo R : List (Nat × Obj)}
/-- a Quota that one holds -/
structure Has (w0 w : World) (p : Nat) (uv : Value) (ins : List (Nat × List Int)) (Mo R : List (Nat × Obj)) : Prop where
 hO : Zv w0.heap.size 22 uv (Md ins) Mo
 H : Hp w0 (qBlks ins ++ (Mo ++ ((p, blk [uv] 168) :: R))) w
 len : ins.length ≤ 4
 small : ∀ x ∈ ins, x.2.length ≤ 64
 bits : ∀ x ∈ ins, ∀ y ∈ x.2, y = 0 ∨ y = 1
theorem Has.sees (h : Has w0 w p uv ins Mo R) : Sees w p uv ins :=
 ⟨h.H.held (p, blk [uv] 168) (by simp), h.hO.rds fun q hq => h.H.held q (by simp [hq]), fun x hx => h.H.held (x.1, blk (x.2.map I) 3) (List.mem_append.2 (.inl (List.mem_map.2 ⟨x, hx, rfl⟩))), h.len, h.small, h.bits⟩
theorem Has.next {w' : World} (h : Has w0 w p uv ins Mo R) (H' : Hp w [] w') : Has w0 w' p uv ins Mo R := ⟨h.hO, h.H.seq0 H', h.len, h.small, h.bits⟩
theorem Has.set {w' : World} (h : Has w0 w p uv ins Mo R) {s k v : Int} (hs : 0 ≤ s ∧ s < ins.length) (hk : 0 ≤ k) (hv : v = 0 ∨ v = 1) {A C : List (Nat × List Int)} (hA : ∀ x, ins.set s.toNat x = A ++ x :: C) (he : ins = A ++ Be ins s :: C)
  (H' : Hp w0 (qBlks A ++ (((Be ins s).1, blk (((Be ins s).2.map I).set k.toNat (I v)) 3) :: (qBlks C ++ (Mo ++ ((p, blk [uv] 168) :: R))))) w') : Has w0 w' p uv (setQ ins s k v) Mo R := by
 have hq : setQ ins s k v = A ++ ((Be ins s).1, (Be ins s).2.set k.toNat v) :: C := hA _
 have hv2 : Md (setQ ins s k v) = Md ins := by
  rw [hq]
  conv => rhs; rw [he]
  simp [Md]
 have hin : ∀ x ∈ setQ ins s k v, x ∈ ins ∨ x = ((Be ins s).1, (Be ins s).2.set k.toNat v) := by
  intro x hx
  unfold setQ at hx
  rcases List.mem_or_eq_of_mem_set hx with h1 | h1
  ·exact .inl h1
  ·exact .inr h1
 refine ⟨by rw [hv2]; exact h.hO, ?_, ?_, ?_, ?_⟩
 ·rw [hq]
  rw [List.map_set.symm] at H'
  simpa [qBlks, List.append_assoc] using H'
 ·unfold setQ; rw [List.length_set]; exact h.len
 ·intro x hx
  rcases hin x hx with h1 | rfl
  ·exact h.small x h1
  ·show ((Be ins s).2.set k.toNat v).length ≤ 64
   rw [List.length_set]; exact h.small _ (rowD_mem hs)
 ·intro x hx y hy
  rcases hin x hx with h1 | rfl
  ·exact h.bits x h1 y hy
  ·rcases List.mem_or_eq_of_mem_set hy with h2 | h2
   ·exact h.bits _ (rowD_mem hs) y h2
   ·rw [h2]; exact hv
/-- the least free frame is taken -/
def allocQ (ins : List (Nat × List Int)) (s : Int) : List (Nat × List Int) × Int × Int :=
 if 0 ≤ s ∧ s < ins.length then (if (0 : Int) ∈ (Be ins s).2 then (setQ ins s (idx (Be ins s).2 0) 1, idx (Be ins s).2 0, 0) else (ins, 0, 4)) else (ins, 0, 1)
end
end Go.Proofs.YtlpmfldijgdcoaaGreatDoor.Quota
namespace Go.Proofs.YtlpmfldijgdcoaaGreatDoor.Quota
open Go Go.Proofs Fx Tryz
/-- a frame is given back -/
def freeQ (ins : List (Nat × List Int)) (s k : Int) : List (Nat × List Int) × Int :=
 if 0 ≤ s ∧ s < ins.length then (if ownP ins s k then (setQ ins s k 0, 0) else (ins, 5)) else (ins, 1)
def usedQ (ins : List (Nat × List Int)) (s : Int) : Int := if 0 ≤ s ∧ s < ins.length then (Be ins s).2.sum else 0
def firstQ (ins : List (Nat × List Int)) (s : Int) : Nat := ((ins.take s.toNat).map fun x => x.2.length).sum
def lens (ins : List (Nat × List Int)) (i : Nat) : Nat := ((ins.take i).map fun x => x.2.length).sum
theorem lens_next {ins : List (Nat × List Int)} {i : Nat} (hi : i < ins.length) : lens ins (i + 1) = lens ins i + (Be ins i).2.length := by
 have hr := rowD_get (ins := ins) (s := (i : Int)) ⟨by omega, by omega⟩
 rw [Int.toNat_natCast, List.getElem?_eq_getElem hi] at hr
 unfold lens
 rw [List.take_succ_eq_append_getElem hi, List.map_append, List.sum_append, Option.some.inj hr]
 simp
theorem lens_le {ins : List (Nat × List Int)} (h : ∀ x ∈ ins, x.2.length ≤ 64) (i : Nat) (hi : i ≤ ins.length) : lens ins i ≤ 64 * i := by
 induction i with
 | zero => simp [lens]
 | succ i ih =>
  have h1 := ih (by omega)
  have h2 := h _ (rowD_mem (ins := ins) (s := (i : Int)) ⟨by omega, by omega⟩)
  rw [lens_next (by omega)]; omega
section
variable {w0 w : World} {p : Nat} {uv : Value} {ins : List (Nat × List Int)} {Mo R : List (Nat × Obj)}
end
end Go.Proofs.YtlpmfldijgdcoaaGreatDoor.Quota
namespace Go.Proofs.YtlpmfldijgdcoaaGreatDoor.Quota
open Go Go.Proofs Fx Tryz
def nrow (x : Int) : List Int := List.replicate (min (max x 0) 64).toNat 0
def frameQ (ins : List (Nat × List Int)) (s k : Int) : Int × Bool := if ownP ins s k then ((firstQ ins s : Int) + k, true) else (0, false)
section
variable {w0 w : World} {p : Nat} {uv : Value} {ins : List (Nat × List Int)} {Mo R : List (Nat × Obj)}
theorem first_ret (s : Int) (hS : Sees w p uv ins) (hs : 0 ≤ s ∧ s < ins.length) :
  Ret Tryz.prog 50 #[ptr p 0, I s] w fun v w' => v = I (firstQ ins s) ∧ Hp w [] w' := by
 refine Qi (args := [_, _]) func50 rfl ntmps50 results50 (by simp) ?_
 have H := Hp.refl w
 have hl4 := hS.len
 obtain ⟨ao, ca, rfl⟩ := hS.form
 obtain ⟨b1, o1, rfl, hc1⟩ := hS.cell hs
 have hca : ins.length ≤ ca := by
  obtain ⟨a', c', e, h1, _⟩ := hS.outer
  rw [(Value.slice.inj e).2.2]
  simpa [Md] using h1
 obtain ⟨m, hm, hm2⟩ : ∃ m : Nat, s = m ∧ m < ins.length := ⟨s.toNat, by omega, by omega⟩
 subst hm
 have hmx : max (m : Int) 0 = m := by omega
 have hmn : min (m : Int) (ins.length : Int) = m := by omega
 refine Js (Jr (Ja (Jn (Js (Jr (Ja (Jn (Js (Js ?_)))))))))
 (refine Zc (fun _ => false) (by kernel_rfl) H ?_; clear H; intro w11 H)
 refine Am 0 rfl H (Az 1 rfl rfl H (fun _ hC => Qf rfl) (Az 2 rfl rfl H (fun _ hC => Qa (off' := 0) underlying168 rfl sizeOf74 (by decide) rfl rfl) (Az 3 rfl rfl H (fun _ hC => Qe isAgg74 rfl (hS.at_ hC).obj rfl) (Am 4 rfl H (Az 5 rfl rfl H (fun _ hC => Mz rfl rfl hmx) ?_)))))
 refine Am 6 rfl H (Az 7 rfl rfl H (fun _ hC => Qf rfl) (Az 8 rfl rfl H (fun _ hC => Qa (off' := 0) underlying168 rfl sizeOf74 (by decide) rfl rfl) (Az 9 rfl rfl H (fun _ hC => Qe isAgg74 rfl (hS.at_ hC).obj rfl) (Az 10 rfl rfl H (fun _ hC => Qh underlying74 rfl) (Az 11 rfl rfl H (fun _ hC => Nn rfl rfl hmn) ?_)))))
 refine Az 12 rfl rfl H (fun _ hC => R_to underlying74 sizeOf22 rfl rfl hca (by omega)) (Az 13 rfl rfl H (fun _ hC => Qh underlying74 rfl) (Am 14 rfl H (Ad (Jb ?_))))
 refine Yg [(5, 5), (7, 7), (22, 30)] (fun (i : Nat) E w' => i ≤ m ∧ E 5 = I (lens ins i) ∧ E 22 = I i ∧ Hp w [] w') (fun i => m - i) 0 ?e0 ?r0
 ·exact ⟨by omega, rfl, rfl, H⟩
 ·(clear H; rintro i E w1 ⟨hi, h0, h1, H⟩; refine W_kn2 h0 h1 ?_; have hll := lens_le hS.small i (by omega))
  refine Js (Jr (J (Vb rfl rfl) (Jn (Js (Xo rfl (fun h36 => ?_) (fun h36 => ?_))))))
  ·refine Jk (Js (Jb (Js (Jr ?_))))
   (obtain ⟨b2, o2, e2, hc2⟩ := (hS.at_ H).cell (s := (i : Int)) ⟨by omega, by omega⟩; cases e2; have h64 := hS.small _ (rowD_mem (ins := ins) (s := (i : Int)) ⟨by omega, by omega⟩); rw [Int.toNat_natCast] at hc2; refine Ym rfl (Qj (off' := o1 + i) underlying74 sizeOf22 rfl rfl (by omega) (by omega) (by simp)) ?_)
   refine J (Qx isAgg22 rfl hc2) (Ja (Jn (Jr (Jm (Jm (J (Qh underlying22 rfl) (J (Xg rfl rfl (Xc (by omega))) (Ja (Jn (Jr (J (Xg rfl rfl (Xc (by omega))) (Jm (Jn ?_)))))))))))))
   exact ⟨kS, i + 1, by omega, by omega, congrArg I (by rw [lens_next (by omega)]; push_cast; rfl), rfl, H⟩
  ·refine Xr ?_
   refine (if_pos rfl).mpr ?_
   refine Js (Jr (Jm (Ja (Jn (Je ?_)))))
   (obtain rfl : i = m := (by omega); exact ⟨_, rfl, rfl, H⟩)
end
end Go.Proofs.YtlpmfldijgdcoaaGreatDoor.Quota
namespace Go.Proofs.YtlpmfldijgdcoaaGreatDoor.Quota
open Go Go.Proofs Fx Tryz
theorem atm_app {A M B : List (Nat × Obj)} : AtM (A ++ (M ++ B)) M (fun M' => A ++ (M' ++ B)) := by
 induction A with
 | nil => simpa using AtM.here (M := M) (B := B)
 | cons a A ih => exact .there ih
theorem qBlks_keys {n : Nat} {ins : List (Nat × List Int)} (h : ∀ x ∈ ins, n ≤ x.1) : ∀ q ∈ qBlks ins, n ≤ q.1 := by
 intro q hq
 obtain ⟨x, hx, rfl⟩ := List.mem_map.1 hq
 exact h x hx
theorem rows_small {ins : List (Nat × List Int)} {ys : List Int} (h : ins.map (·.2) = ys.map nrow) : ∀ x ∈ ins, x.2.length ≤ 64 := by
 intro x hx
 have : x.2 ∈ ys.map nrow := h ▸ List.mem_map.2 ⟨x, hx, rfl⟩
 obtain ⟨y, _, e⟩ := List.mem_map.1 this
 rw [← e, nrow, List.length_replicate]; omega
theorem rows_bits {ins : List (Nat × List Int)} {ys : List Int} (h : ins.map (·.2) = ys.map nrow) : ∀ x ∈ ins, ∀ y ∈ x.2, y = 0 ∨ y = 1 := by
 intro x hx z hz
 have : x.2 ∈ ys.map nrow := h ▸ List.mem_map.2 ⟨x, hx, rfl⟩
 obtain ⟨y, _, e⟩ := List.mem_map.1 this
 rw [← e] at hz
 exact .inl (List.eq_of_mem_replicate hz)
theorem nrow_length {x : Int} {n : Nat} (h : min (max x 0) 64 = (n : Int)) : nrow x = List.replicate n 0 := by unfold nrow; rw [h, Int.toNat_natCast]
theorem rows_snoc {ins : List (Nat × List Int)} {xs : List Int} {i b : Nat} (h : ins.map (·.2) = (xs.take i).map nrow) (hi : i < xs.length) : (ins ++ [(b, nrow xs[i])]).map (·.2) = (xs.take (i + 1)).map nrow := by
 rw [List.map_append, h, List.take_succ_eq_append_getElem hi, List.map_append]; rfl
theorem qVals_snoc {ins : List (Nat × List Int)} {r : List Int} {b n : Nat} (h : r = List.replicate n 0) : Md (ins ++ [(b, r)]) = Md ins ++ [sl b 0 n n] := by
 subst h; simp [Md]
theorem qBlks_snoc {ins : List (Nat × List Int)} {r : List Int} {b n : Nat} (h : r = List.replicate n 0) : qBlks (ins ++ [(b, r)]) = qBlks ins ++ [(b, blk (List.replicate n (I 0)) 3)] := by
 subst h; simp [qBlks]
theorem keys_snoc {ins : List (Nat × List Int)} {r : List Int} {b n : Nat} (h : ∀ x ∈ ins, n ≤ x.1) (hb : n ≤ b) : ∀ x ∈ ins ++ [(b, r)], n ≤ x.1 := by
 intro x hx
 rcases List.mem_append.1 hx with hx | hx
 ·exact h x hx
 ·rw [List.mem_singleton.1 hx]; exact hb
theorem new_perm {w0 w : World} {A B : List (Nat × Obj)} {a : Nat × Obj} (H : Hp w0 (a :: (A ++ B)) w) : Hp w0 ((A ++ [a]) ++ B) w :=
 H.perm (by rw [List.append_assoc]; exact List.perm_middle.symm)
section
variable {w : World} {p : Nat}
theorem Bg {xs : List Int} {v : Value} (hl : RdS w v (xs.map I)) (hx : 0 < xs.length) (hb : xs.length ≤ 1000000) :
  Ret Tryz.prog 46 #[v] w fun r w' => ∃ p uv ins Mo, r = ptr p 0 ∧ ins.map (·.2) = (xs.take 4).map nrow ∧ Has w w' p uv ins Mo [] ∧ (∀ x ∈ ins, w.heap.size ≤ x.1) ∧ w.heap.size ≤ p := by
 refine Qi (args := [_]) func46 rfl ntmps46 results46 (by simp) ?_
 have H := Hp.refl w
 obtain ⟨ao, ca, rfl⟩ := hl.form
 obtain ⟨b1, o1, rfl, _⟩ := hl.cell (i := 0) (u := I xs[0]) (by rw [List.getElem?_map, List.getElem?_eq_getElem hx]; rfl)
 have hca : xs.length ≤ ca := by
  obtain ⟨a', c', e, h1, _⟩ := id hl
  rw [(Value.slice.inj e).2.2]
  simpa using h1
 simp only [List.length_map] at hl ⊢
 obtain ⟨m, hm, hm1, hm4, hm2⟩ : ∃ m : Nat, min (xs.length : Int) 4 = m ∧ m ≤ xs.length ∧ m ≤ 4 ∧ xs.take 4 = xs.take m := by
  refine ⟨min xs.length 4, by omega, by omega, by omega, ?_⟩
  rcases Nat.le_total xs.length 4 with h | h
  ·rw [Nat.min_eq_left h, List.take_of_length_le h, List.take_of_length_le (Nat.le_refl _)]
  ·rw [Nat.min_eq_right h]
 rw [hm2]
 (refine Js (Jr (Ja (Jn (Js (Jr (J (Nb (vs := [(.slice _ _ _)]) rfl rfl) (Qb rfl (Xl (vs := [nilS]) H rfl rfl) ?_))))))); clear H; intro p w8 hp H)
 refine Ja (Jn (Js (Js (Jr (Jm (Jm (J (Qh underlying22 rfl) (J (Nn rfl rfl hm) (Ym rfl (R_to underlying22 sizeOf3 rfl rfl hca (by omega)) ?_)))))))))
 refine J (Qh underlying22 rfl) (Jm (Jn (Jb ?_)))
 refine Yg [(5, 5), (14, 31)] (fun (i : Nat) E w' => ∃ uv ins Mo, i ≤ m ∧ E 14 = I i ∧ ins.map (·.2) = (xs.take i).map nrow ∧ Zv w.heap.size 22 uv (Md ins) Mo ∧ (∀ x ∈ ins, w.heap.size ≤ x.1) ∧ Hp w (qBlks ins ++ (Mo ++ [(p, blk [uv] 168)])) w') (fun i => m - i) 0 ?e0 ?r0
 ·exact ⟨nilS, [], [], by omega, rfl, rfl, Zv.nil _ _, (fun _ h => by cases h), H⟩
 ·(clear H; rintro i E w1 ⟨uv, ins, Mo, hi, h0, hrows, hQ, hk, H⟩; refine Ur h0 ?_; have hil : ins.length = i := (by have := congrArg List.length hrows; simp at this; omega); have hsm := rows_small hrows; have hbt := rows_bits hrows)
  refine Js (Jr (J (Vb rfl rfl) (Jn (Js (Xo rfl (fun h30 => ?_) (fun h30 => ?_))))))
  ·refine Jk (Js (Jb (Js ?_)))
   (obtain ⟨b2, o2, e2, hc1⟩ := hl.cell (i := i) (u := I xs[i]) (by rw [List.getElem?_map, List.getElem?_eq_getElem (by omega)]; rfl); cases e2) <;> refine Qk ?_
   refine J (Qj underlying22 sizeOf3 rfl rfl (by omega) (by omega) Xt) (J (Qx isAgg3 rfl (H.Zx hc1 (Yv (qBlks_keys hk) (Yv hQ.keys (Qu hp Xu))))) (Ja (Jn ?_)))
   (obtain ⟨mx, hmx⟩ : ∃ mx, max xs[i] 0 = mx := ⟨_, rfl⟩; obtain ⟨n, hn, hn1⟩ : ∃ n : Nat, min mx 64 = (n : Int) ∧ n ≤ 64 := ⟨(min mx 64).toNat, by omega, by omega⟩; refine Xi (Kp [(p, blk [uv] 168)]) (fun i => Nat.ble 11 i) (by kernel_rfl) H ?_; clear H; intro w40 H)
   refine Am 0 rfl (H.kp.sub (by simp)) (Am 1 rfl (H.kp.sub (by simp)) (Az 2 rfl rfl (H.kp.sub (by simp)) (fun _ hC => Qf rfl) (Az 3 rfl rfl (H.kp.sub (by simp)) (fun _ hC => Qa (off' := 0) underlying168 rfl sizeOf74 (by decide) rfl rfl) (Az 4 rfl rfl (H.kp.sub (by simp)) (fun _ hC => Qe isAgg74 rfl (hC (p, _) (.head _)) rfl) (Am 5 rfl (H.kp.sub (by simp)) (Az 6 rfl rfl (H.kp.sub (by simp)) (fun _ hC => Mz rfl rfl hmx) ?_))))))
   refine Az 7 rfl rfl (H.kp.sub (by simp)) (fun _ hC => Nn rfl rfl hn) ?_
   (refine Ao 8 (WI_effn rfl (.inl rfl) (Vf H underlying22 sizeOf3 typeInfo3 zeroValue3 rfl rfl rfl (by omega) (by omega) (by omega) (by simp only [Tryz.t3]; omega)) (fun _ _ H => kC) ?_); clear H; intro b50 w50 hb50 H)
   (refine Ao 9 (WI_effn rfl (.inl rfl) (Xk (vs := [(.slice _ _ _)]) H underlying74 sizeOf22 zeroValue22 rfl rfl (by decide) rfl rfl (by simp [Value.oneCell'])) (fun _ _ H => kC) ?_); clear H; intro b52 w52 hb52 H)
   (refine Ao 10 (WI_effm rfl (.inl rfl) (E_appendQ (m := 1) H (.there (.there atm_app)) hQ underlying74 typeInfo22 rfl rfl rfl rfl rfl rfl (Ut underlying74 (H.get .here) rfl) (by simp [Md]; omega) (by simp [Md, Tryz.t22]; omega)) (fun _ _ H => kC) ?_); clear H; intro v5 M5 w54 hQ5 H; obtain ⟨a5, c5, rfl⟩ := hQ5.form; replace H := new_perm (H.pop hb52))
   refine Ao 11 ?_
   refine Xv rfl (.inl rfl) (Qf rfl) kC ?_
   refine Ao 12 ?_
   refine Xv rfl (.inl rfl) (Qa (off' := 0) underlying168 rfl sizeOf74 (by decide) rfl rfl) kC ?_
   (refine Ao 13 (Xb rfl (.inl rfl) (Qz (v := (.slice _ _ _)) H sizeOf74 rfl rfl rfl (.app _ (.app _ .here)) (by simp)) (fun _ H => kC) ?_); clear H; intro w60 H)
   refine Ad (Jr (J (Xg rfl rfl (Xc (by omega))) (Jm (Jn ?_))))
   exact ⟨kS, i + 1, by omega, _, ins ++ [(b50, nrow xs[i])], M5, by omega, rfl, rows_snoc hrows (by omega), (by rw [qVals_snoc (nrow_length (by rw [hmx]; exact hn))]; exact hQ5), keys_snoc hk hb50, (by rw [qBlks_snoc (nrow_length (by rw [hmx]; exact hn))]; exact H)⟩
  ·refine Xr ?_
   refine (if_pos rfl).mpr ?_
   refine Js (Jr (Jm (Ja (Jn (Je ?_)))))
   (obtain rfl : i = m := (by omega); exact ⟨_, rfl, p, uv, ins, Mo, rfl, hrows, ⟨hQ, H, by omega, hsm, hbt⟩, hk, hp⟩)
end
end Go.Proofs.YtlpmfldijgdcoaaGreatDoor.Quota
namespace Go.Proofs.YtlpmfldijgdcoaaGreatDoor.Ke
open Go Go.Proofs Fx Kn Caps TabC
open _root_.Go.Proofs.Tryz hiding t0
/-- the cap of a session's commons -/
def pl1 : Pl := ⟨cp 0 3 0 492 0 0, 1, true⟩
def tab1 : List Pl := t0.set 0 pl1
def tsI (i : Nat) : List (List Pl) := List.replicate i tab1 ++ List.replicate (9 - i) t0
theorem tsI_len {i : Nat} (h : i ≤ 9) : (tsI i).length = 9 := by simp [tsI]; omega
theorem tsI_get {i : Nat} (h : i < 9) : (tsI i)[i]? = some t0 := by
 unfold tsI; rw [List.getElem?_append_right (by simp), List.length_replicate, Nat.sub_self, List.getElem?_replicate, if_pos (by omega)]
theorem tsI_set {i : Nat} (h : i < 9) : (tsI i).set i tab1 = tsI (i + 1) := by
 unfold tsI
 rw [List.set_append, if_neg (by simp), List.length_replicate, Nat.sub_self, show 9 - i = (9 - (i + 1)) + 1 from by omega, List.replicate_succ, List.set_cons_zero, List.replicate_succ' (n := i), List.append_assoc]; rfl
theorem tsI_inv {PB : List (Nat × Nat)} (h9 : PB.length = 9) {i : Nat} (h : i ≤ 9) : Inv PB (tsI i) := by
 have h1 : ∀ t ∈ tsI i, t = tab1 ∨ t = t0 := fun t ht => by
  rcases List.mem_append.1 ht with ht | ht
  ·exact .inl (List.eq_of_mem_replicate ht)
  ·exact .inr (List.eq_of_mem_replicate ht)
 have hg0 : ∀ a ∈ t0, a.g ≤ 1000001 := fun a ha => by rw [List.eq_of_mem_replicate ha]; decide
 refine ⟨by rw [tsI_len h, h9], fun t ht => ?_, fun t ht a ha => ?_⟩
 ·rcases h1 t ht with rfl | rfl
  ·simp [tab1, t0]
  ·simp [t0]
 ·rcases h1 t ht with rfl | rfl
  ·rcases List.mem_or_eq_of_mem_set ha with h | rfl
   ·exact hg0 a h
   ·decide
  ·exact hg0 a ha
def N0 : Nat := 1280
theorem szN : Mem.szOf 20 = 1280 := by decide
/-- what is told of the blocks that stay as they are -/
structure RF (c1 : Nat) (B : BV) (m mb q : Nat) (uv : Value) (ins : List (Nat × List Int)) (ea : Option Addr) (ec : Nat) (w : World) : Prop where
 c1 : w.heap[c1]? = some (blk B.c 77)
 m : w.heap[m]? = some (blk [sl mb 0 1280 1280] 161)
 mb : w.heap[mb]? = some (blk ((List.replicate 1280 (0 : UInt8)).map U) 5)
 e : RdT 3 w (.slice ea 9 ec) ((List.replicate 9 (0 : Int)).map I)
 q : Quota.Sees w q uv ins
 il : ins.length = 1
def kb0 (ea : Option Addr) (ec m s q : Nat) (mayv rv sv : Value) : List Value := [.slice ea 9 ec, mayv, ptr m 0, ptr s 0, ptr q 0, rv, sv, I 0]
/-- what a kernel of one session is -/
structure Kw (w : World) (κ : KS) (sp : Nat) : Prop where
 kr : Kr w κ
 ks : ∀ e, e < 9 → Ks w κ e 0 sp
 sb : w.heap[sp]? = some (blk (Sect.sxC (Sect.Bh 3) nilS) 170)
 xs : κ.xs = List.replicate 1280 0
 n : κ.N = 1280
 now : κ.now = 0
 wn : ∀ e, e < 9 → Wn κ e 256 0 492
 tb : ∀ e, e < 9 → ∃ q, κ.PB[e]? = some q ∧ κ.ts[e]? = some tab1
theorem qkeys {w0 w : World} {p : Nat} {uv : Value} {ins : List (Nat × List Int)} {Mo : List (Nat × Obj)} (hH : Quota.Has w0 w p uv ins Mo []) (hi : ∀ x ∈ ins, w0.heap.size ≤ x.1) (hp : w0.heap.size ≤ p) :
  ∀ x ∈ Quota.qBlks ins ++ (Mo ++ [(p, blk [uv] 168)]), w0.heap.size ≤ x.1 := by
 intro x hx
 rcases List.mem_append.1 hx with hx | hx
 ·obtain ⟨y, hy, rfl⟩ := List.mem_map.1 hx
  exact hi y hy
 ·rcases List.mem_append.1 hx with hx | hx
  ·exact hH.hO.keys x hx
  ·rw [List.mem_singleton] at hx; subst hx; exact hp
theorem qkp {w0 w : World} {p : Nat} {uv : Value} {ins : List (Nat × List Int)} {Mo : List (Nat × Obj)} (hH : Quota.Has w0 w p uv ins Mo []) :
  ∀ w2, Kp (Quota.qBlks ins ++ (Mo ++ [(p, blk [uv] 168)])) w2 → Quota.Sees w2 p uv ins := fun w2 h =>
 ⟨h (p, blk [uv] 168) (by simp), hH.hO.rds fun q hq => h q (by simp [hq]), fun x hx => h (x.1, blk (x.2.map I) 3) (List.mem_append.2 (.inl (List.mem_map.2 ⟨x, hx, rfl⟩))), hH.len, hH.small, hH.bits⟩
theorem rf_of {c1 : Nat} {B : BV} {m mb q B0 : Nat} {uv : Value} {ins : List (Nat × List Int)} {ea : Option Addr} {ec : Nat} {M1 QL : List (Nat × Obj)} (hO : Yo B0 3 1 (.slice ea 9 ec) 9 ((List.replicate 9 (0 : Int)).map I) M1) (hi : ins.length = 1) (hq : ∀ w2, Kp QL w2 → Quota.Sees w2 q uv ins) {w2 : World}
  (h : Kp (QL ++ ([(m, blk [sl mb 0 1280 1280] 161), (mb, blk (List.replicate 1280 (.int .u8 0)) 5)] ++ (M1 ++ [(c1, blk B.c 77)]))) w2) : RF c1 B m mb q uv ins ea ec w2 := by
 refine ⟨h (c1, _) (by simp), h (m, _) (by simp), ?_, RdT.own hO (fun p hp => h p (by simp [hp])), hq w2 (fun p hp => h p (by simp only [List.mem_append]; exact .inl hp)), hi⟩
 have := h (mb, blk (List.replicate 1280 (.int .u8 0)) 5) (by simp)
 rw [List.map_replicate]; exact this
/-- what more is told of the blocks that stay as they are -/
structure RG (c1 : Nat) (B : BV) (m mb q : Nat) (uv : Value) (ins : List (Nat × List Int)) (ea : Option Addr) (ec : Nat) (ya la : Option Addr) (yc lc : Nat) (w : World) : Prop where
 f : RF c1 B m mb q uv ins ea ec w
 y : RdT 22 w (.slice ya 1 yc) [.slice la 1 lc]
 l : RdT 3 w (.slice la 1 lc) ([0].map I)
theorem perm1 {α : Type} (b r k : α) (Y M S R : List α) : (Y ++ b :: (M ++ r :: k :: (S ++ R))).Perm (b :: r :: k :: (S ++ (Y ++ (M ++ R)))) := by
 refine List.perm_middle.trans (.cons _ ?_)
 refine (List.Perm.append_left Y List.perm_middle).trans (List.perm_middle.trans (.cons _ ?_))
 refine (List.Perm.append_left Y List.perm_middle).trans (List.perm_middle.trans (.cons _ ?_))
 exact (List.Perm.append_left Y (List.perm_append_comm_assoc _ _ _)).trans (List.perm_append_comm_assoc _ _ _)
theorem perm2 {α : Type} (b p r k : α) (Y S R : List α) : (Y ++ b :: p :: r :: k :: (S ++ R)).Perm (b :: p :: r :: k :: (S ++ (Y ++ R))) := by
 refine List.perm_middle.trans (.cons _ (List.perm_middle.trans (.cons _ (List.perm_middle.trans (.cons _ (List.perm_middle.trans (.cons _ ?_)))))))
 exact List.perm_append_comm_assoc _ _ _
theorem kw_of {w0 w : World} {c1 : Nat} {B : BV} {m mb q : Nat} {uv : Value} {ins : List (Nat × List Int)} {ea ya la va : Option Addr} {ec yc lc vc a ca c11 p rr k s bs cap : Nat} {sp ts' : List Value} {PB : List (Nat × Nat)} {R : List (Nat × Obj)} {o11 : Obj}
  (H : Hp w0 ((a, blk ([I 0, I 492] ++ ts') 145) :: (c11, o11) :: (p, blk (Sect.sxC (Sect.Bh 3) nilS) 170) :: (rr, blk [ptr m 0, ptr s 0, sl a 0 1 ca] 142) :: (k, blk (kb0 ea ec m s q (.slice ya 1 yc) (ptr rr 0) (.slice va 1 vc)) 113) :: (spB s bs cap sp PB (tsI 9) ++ R)) w)
  (h9 : PB.length = 9) (hF : RG c1 B m mb q uv ins ea ec ya la yc lc w) (hV : RdT 115 w (.slice va 1 vc) [ptr p 0]) :
  Kw w ⟨k, m, mb, 1280, s, q, rr, a, ca, ea, 9, ec, .slice ya 1 yc, .slice va 1 vc, PB, tsI 9, [(0, 492)], ts', List.replicate 1280 0, 0⟩ p := by
 have hS : Sp w s PB (tsI 9) := Sp.of (bs := bs) (cap := cap) (sp := sp) (fun x hx => H.held x (by simp [hx])) (tsI_inv h9 (Nat.le_refl _))
 have hkb := H.get (.there (.there (.there (.there .here))))
 have htb : ∀ e, e < 9 → (tsI 9)[e]? = some tab1 := fun e he => by unfold tsI; rw [List.getElem?_append_left (by simp; omega), List.getElem?_replicate, if_pos he]
 have hPB : ∀ e, e < 9 → ∃ q, PB[e]? = some q := fun e he => ⟨_, List.getElem?_eq_getElem (by omega)⟩
 refine ⟨⟨hkb, hF.f.m, hF.f.mb, H.get (.there (.there (.there .here))), H.get .here, hS, List.length_replicate, show (1280 : Nat) ≤ 16384 by decide, show (1 : Nat) ≤ 32 by decide, show (9 : Nat) ≤ 40 by decide⟩, fun e he => ?_, H.get (.there (.there .here)), rfl, rfl, rfl, fun e he => ?_, fun e he => ?_⟩
 ·exact ⟨hkb, ⟨List.replicate 9 0, [.slice la 1 lc], [0], .slice la 1 lc, [ptr p 0], 0, hF.f.e, by rw [List.getElem?_replicate, if_pos he], hF.y, rfl, hF.l, by simp, hV, rfl, show (1 : Nat) ≤ 100 by decide, show (1 : Nat) ≤ 8 by decide⟩, he, show (9 : Nat) ≤ 40 by decide⟩
 ·obtain ⟨q, hq⟩ := hPB e he
  exact ⟨⟨q, tab1, 0, 1, 0, 0, 0, hq, htb e he, rfl, rfl, rfl⟩, show 0 + 492 ≤ (1280 : Nat) by decide, he⟩
 ·obtain ⟨q, hq⟩ := hPB e he
  exact ⟨q, hq, htb e he⟩
section
variable {w : World} {B : BV}
theorem knew_ret (hB : Bt w B) : Ret Tryz.prog 24 #[.agg B.c.toArray] w fun v w' => ∃ κ sp, v = .tuple #[ptr κ.k 0, I 0] ∧ Kw w' κ sp ∧ w.heap.size ≤ sp ∧ w.heap.size ≤ κ.mb ∧ w.heap.size ≤ κ.k ∧ Hp w [] w' := by
 refine Qi (args := [_]) func24 rfl ntmps24 results24 (by simp) ?_
 have H := Hp.refl w
 have hlen : (BV.c B).length = 5 := rfl
 (refine Js (Jr (Qb rfl (Xl (vs := BV.c B) H rfl rfl) ?_)); clear H; intro c1 w3 hc1 H)
 (refine Ja (Ja (Jn (Js (Js (Jr (J (Qo (vs := BV.c B) isAgg77 sizeOf77 rfl (H.get .here) rfl (by simp [BV.c])) (Jz rfl call41 rfl (Dw (hB.Ql H kYs)) H ?_))))))); intro w11 H)
 refine J (Xj rfl) (Jn (Jc rfl (Jk (Js (Jr (Ja (Jn (Js (Js (Jr (Jf 0 underlying77 rfl sizeOf22 rfl rfl (J (Qe (v := sl B.fb 0 1 B.fc) isAgg22 rfl (H.get .here) rfl) (J (Qh underlying22 rfl) (Jm (Jn (Jb (Vs 1 ?_)))))))))))))))))
 (refine Js (Jr (J (Za rfl rfl (by omega)) (Jn (Js (Jd rfl (Jk (Js (Jb (Js (Jr (J (Qj (off' := 0) underlying22 sizeOf3 rfl rfl (by decide) (by decide) (by decide)) (J (Qe (v := I 20) isAgg3 rfl (H.Qc hB.f kYs) rfl) (Ja (Jn (Jr (Jm (Jm (Jy rfl call42 rfl (frames_ret 20 _) ?_)))))))))))))))))); rintro v w48 ⟨hv, H1⟩; rw [show min (max (20 : Int) 0) 64 = 20 from by decide] at hv; subst hv; replace H := H.seq0 H1; clear H1)
 refine J (Xg (r := 20) rfl rfl (by decide)) (Ja (Jn (Jr (J (Xg (r := 1) rfl rfl (by decide)) (Jm (Jn ?_))))))
 refine Bp ?_
 refine Js (Jr (J (Xp rfl rfl (by omega)) (Jn (Js (Jc rfl (Xr ?_))))))
 refine (if_pos rfl).mpr ?_
 refine W_seqS [(7, 7), (31, 44)] (fun E w' => ∃ k s bs cap sp PB m mb q uv ins ea ec REST, E 7 = ptr k 0 ∧ PB.length = 9 ∧ w.heap.size ≤ k ∧ w.heap.size ≤ s ∧ w.heap.size ≤ bs ∧ w.heap.size ≤ mb ∧ (∀ q ∈ PB, w.heap.size ≤ q.1 ∧ w.heap.size ≤ q.2) ∧ (∀ p ∈ REST, w.heap.size ≤ p.1) ∧ (∀ w2, Kp REST w2 → RF c1 B m mb q uv ins ea ec w2) ∧ Hp w ((k, blk (kb0 ea ec m s q nilS (.pointer none) nilS) 113) :: (spB s bs cap sp PB (List.replicate 9 t0) ++ REST)) w') ?c9 ?k9
 ·(refine Xi (KH w [(c1, blk B.c 77)]) (fun _ => false) (by kernel_rfl) H ?_; clear H; intro w66 H)
  (refine Az 0 rfl rfl H.kK (fun _ hC => Qa (off' := 1) underlying77 rfl sizeOf22 (by decide) rfl rfl) (Az 1 rfl rfl H.kK (fun _ hC => Qe (v := sl B.eb 0 9 B.ec) isAgg22 rfl (hC.get .here) rfl) (Am 3 rfl H.kK (Az 5 rfl rfl H.kK (fun _ hC => Qa (off' := 1) underlying77 rfl sizeOf22 (by decide) rfl rfl) (Az 6 rfl rfl H.kK (fun _ hC => Qe (v := sl B.eb 0 9 B.ec) isAgg22 rfl (hC.get .here) rfl) (Az 7 rfl rfl H.kK (fun _ hC => Qh underlying22 rfl) (Az 9 rfl rfl H.kK (fun _ hC => Qa (off' := 0) underlying77 rfl sizeOf22 (by decide) rfl rfl) (Az 10 rfl rfl H.kK (fun _ hC => Qe (v := sl B.fb 0 1 B.fc) isAgg22 rfl (hC.get .here) rfl) (Ao 2 (Qv rfl (.inl rfl) (Qw rfl call43 rfl) (Sect.cloneI_ret (xs := List.replicate 9 0) (RdS.blk (c := List.replicate 9 (I 0) ++ B.el) (off := 0) (H.Qc hB.e kYs) (by simp) (by simp) hB.ec) (by simp)) (by exact fun _ _ ⟨M, hO, H1⟩ _ => ((H.Yn hO H1).2).kh (by simp) (Yv (H.Yn hO H1).1.keys kYs)) ?_))))))))); rintro u w76 ⟨M1, hO, H1⟩; have h76 := H.Yn hO H1; clear H H1 hO; obtain ⟨hO1, H⟩ := h76; obtain ⟨ea, ec, rfl⟩ := hO1.form; have hM1 := hO1.keys)
  (refine Ao 4 (Qv rfl (.inl rfl) (Qw rfl call44 rfl) (Mem.Bg 20 _) (by exact fun _ _ ⟨_, _, _, H1, h1, h2⟩ _ => (H.Zo H1 (Qu h1 (Qu h2 Xu))).kh (by simp) (Yv (Qu (Nat.le_trans H.size h1) (Qu (Nat.le_trans H.size h2) Xu)) kYs)) ?_); rintro _ w78 ⟨m, mb, rfl, H1, hm, hmb⟩; have hsz := H.size; replace H := H.Zo H1 (Qu hm (Qu hmb Xu)); replace hm := Nat.le_trans hsz hm; replace hmb := Nat.le_trans hsz hmb; clear H1 hsz; rw [szN] at H)
  (refine Ao 8 (Qv rfl (.inl rfl) (Qw rfl call45 rfl) (Caps.Bg (E := 9) (by decide) (by decide) _) (by exact fun _ _ ⟨_, _, _, _, _, _, _, h1, h2, h3, H1⟩ _ => (H.Zo H1 (spB_keys h1 h2 h3)).kh (by simp) (Yv (fun p hp => Nat.le_trans H.size (spB_keys h1 h2 h3 p hp)) kYs)) ?_); rintro _ w80 ⟨s, bs, cap, sp, PB, rfl, h9, h1, h2, h3, H1⟩; have hsz := H.size; replace H := H.Zo H1 (spB_keys h1 h2 h3); replace h1 := Nat.le_trans hsz h1; replace h2 := Nat.le_trans hsz h2; replace h3 : ∀ q ∈ PB, w.heap.size ≤ q.1 ∧ w.heap.size ≤ q.2 := (fun q hq => ⟨Nat.le_trans hsz (h3 q hq).1, Nat.le_trans hsz (h3 q hq).2⟩); clear H1 hsz; have hHK : ∀ p ∈ spB s bs cap sp PB (List.replicate 9 t0) ++ ([(m, blk [sl mb 0 1280 1280] 161), (mb, blk (List.replicate 1280 (.int .u8 0)) 5)] ++ (M1 ++ [(c1, blk B.c 77)])), w.heap.size ≤ p.1 := Yv (spB_keys (ts := List.replicate 9 t0) (cap := cap) (sp := sp) h1 h2 h3) (Yv (Qu hm (Qu hmb Xu)) (Yv hM1 (Qu hc1 Xu))))
  (refine Ao 11 (Qv rfl (.inl rfl) (Qw rfl call46 rfl) (Quota.Bg (xs := [20]) (RdS.blk (c := [I 20] ++ B.fl) (off := 0) (H.Qc hB.f hHK) rfl (by simp) hB.fc) (by decide) (by decide)) (by rintro _ w2 ⟨q, uv, ins, Mo, _, _, hH, hi, hq⟩ _; exact (H.Zo hH.H (qkeys hH hi hq)).kh (by simp) (Yv (fun p hp => Nat.le_trans H.size (qkeys hH hi hq p hp)) hHK)) ?_); rintro _ w82 ⟨q, uv, ins, Mo, rfl, hil, hH, hi, hq⟩; have hqk := qkeys hH hi hq; have hsz := H.size; have hSee := hH.sees; replace H := H.Zo hH.H hqk; replace hqk : ∀ p ∈ Quota.qBlks ins ++ (Mo ++ [(q, blk [uv] 168)]), w.heap.size ≤ p.1 := (fun p hp => Nat.le_trans hsz (hqk p hp)); replace hHK := Yv hqk hHK; have hkp := qkp hH; have hi1 : ins.length = 1 := (by have := congrArg List.length hil; simpa using this); clear hH hi hq hil hSee hsz)
  (refine Az 12 rfl rfl (H.kh (by simp) hHK) (fun _ hC => Qm (places := [(0, 1), (1, 1), (2, 1), (3, 1), (4, 1), (5, 1), (6, 1), (7, 1)]) (vs := kb0 ea ec m s q nilS (.pointer none) nilS) underlying113 typeInfo113 rfl rfl (by kernel_rfl) rfl rfl rfl) (Ao 13 (Xd rfl (.inl rfl) (Xl (vs := kb0 ea ec m s q nilS (.pointer none) nilS) H rfl rfl) (fun _ _ _ H _ => H.kh (by simp) (Qu (by assumption) hHK)) ?_)); clear H; intro k w85 hk H)
  refine Aa 14 rfl (H.kh (by simp) (Qu hk hHK)) (Ad ?_)
  (refine ⟨kS, k, s, bs, cap, sp, PB, m, mb, q, uv, ins, ea, ec, _, rfl, h9, hk, h1, h2, hmb, h3, ?_, ?_, H.perm (.cons _ (List.perm_append_comm_assoc _ _ _))⟩; (exact Yv hqk kYs); (intro w2 hw2; exact rf_of hO1 hi1 hkp hw2))
 ·(clear H; rintro E9 w9 ⟨k, s, bs, cap, sp, PB, m, mb, q, uv, ins, ea, ec, REST, h7, h9, hk, hs, hbs, hmb, hPB, hR, hRF, H⟩; refine Ur h7 ?_; have hsp : ∀ i, ∀ p ∈ spB s bs cap sp PB (tsI i), w.heap.size ≤ p.1 := (fun i => spB_keys hs hbs hPB); replace H : Hp w ((k, blk (kb0 ea ec m s q nilS (.pointer none) nilS) 113) :: (spB s bs cap sp PB (tsI 0) ++ REST)) w9 := H)
  refine Js ?_
  (refine Xi (fun w2 => w2.heap[k]? = some (blk (kb0 ea ec m s q nilS (.pointer none) nilS) 113)) (fun i => Nat.ble 10 i) (by kernel_rfl) H ?_; clear H; intro w91 H)
  (refine Am 0 rfl (H.get .here) (Am 1 rfl (H.get .here) (Az 2 rfl rfl (H.get .here) (fun _ hC => Qf rfl) (Az 3 rfl rfl (H.get .here) (fun _ hC => Qa (off' := 2) underlying113 rfl sizeOf105 (by decide) rfl rfl) (Az 4 rfl rfl (H.get .here) (fun _ hC => Qe (v := ptr m 0) isAgg105 rfl hC rfl) (Am 5 rfl (H.get .here) (Az 6 rfl rfl (H.get .here) (fun _ hC => Qf rfl) (Az 7 rfl rfl (H.get .here) (fun _ hC => Qa (off' := 3) underlying113 rfl sizeOf107 (by decide) rfl rfl) (Az 8 rfl rfl (H.get .here) (fun _ hC => Qe (v := ptr s 0) isAgg107 rfl hC rfl) (Ao 9 (Qv rfl (.inl rfl) (Qw rfl call47 rfl) (Reg.Bg m s _) (by exact fun _ _ ⟨_, _, h1, H1⟩ _ => (H.Zo H1 (Qu h1 Xu)).get (.there .here)) ?_)))))))))); rintro _ w102 ⟨rr, rfl, hrr, H1⟩; have hsz := H.size; replace H := H.Zo H1 (Qu hrr Xu); replace hrr := Nat.le_trans hsz hrr; clear H1 hsz)
  refine Ao 10 ?_
  refine Xv rfl (.inl rfl) (Qf rfl) kC ?_
  refine Ao 11 ?_
  refine Xv rfl (.inl rfl) (Qa (off' := 5) underlying113 rfl sizeOf87 (by decide) rfl rfl) kC ?_
  (refine Ao 12 (Xb rfl (.inl rfl) (Qz (v := ptr rr 0) H sizeOf87 rfl rfl rfl (.there .here) (by simp [kb0])) (fun _ _ h => Bool.noConfusion h) ?_); clear H; intro w108 H; replace H : Hp w ((rr, blk [ptr m 0, ptr s 0, nilS] 142) :: (k, blk (kb0 ea ec m s q nilS (ptr rr 0) nilS) 113) :: (spB s bs cap sp PB (tsI 0) ++ REST)) w108 := H)
  refine Ad (Js (Js (Jr (Jf 2 underlying77 rfl sizeOf74 rfl rfl (J (Qe (v := sl B.sb 0 1 B.sc) isAgg74 rfl (hRF _ (fun p hp => H.held p (by simp [hp]))).c1 rfl) (J (Qh underlying74 rfl) (Jm (Jn (Jb (Vs 1 ?_))))))))))
  refine Js (Jr (J (Za rfl rfl (by omega)) (Jn (Js (Jd rfl (Jk (Js (Jb (Js (Jr (J (Qj (off' := 0) underlying74 sizeOf22 rfl rfl (by decide) (by decide) (by decide)) (J (Qe (v := sl B.lb 0 1 B.lc) isAgg22 rfl (H.Qc hB.s (Qu hrr (Qu hk (Yv (hsp 0) hR)))) rfl) (Ja (Jn (Js ?_)))))))))))))))
  (refine Xi (fun w2 => w2.heap[k]? = some (blk (kb0 ea ec m s q nilS (ptr rr 0) nilS) 113)) (fun i => Nat.ble 9 i) (by kernel_rfl) H ?_; clear H; intro w136 H)
  (refine Am 0 rfl (H.get (.there .here)) (Am 1 rfl (H.get (.there .here)) (Az 2 rfl rfl (H.get (.there .here)) (fun _ hC => Qf rfl) (Az 3 rfl rfl (H.get (.there .here)) (fun _ hC => Qa (off' := 1) underlying113 rfl sizeOf74 (by decide) rfl rfl) (Az 4 rfl rfl (H.get (.there .here)) (fun _ hC => Qe (v := nilS) isAgg74 rfl hC rfl) (Am 5 rfl (H.get (.there .here)) (Ao 6 (Qv rfl (.inl rfl) (Qw rfl call43 rfl) (Sect.cloneI_ret (xs := [0]) (RdS.blk (c := [I 0] ++ B.ll) (off := 0) (H.Qc hB.l (Qu hrr (Qu hk (Yv (hsp 0) hR)))) rfl (by simp) hB.lc) (by decide)) (by exact fun _ _ ⟨M, hO, H1⟩ _ => (H.Yn hO H1).2.get (.app _ (.there .here))) ?_))))))); rintro u w144 ⟨M3, hO, H1⟩; have h144 := H.Yn hO H1; clear H H1 hO; obtain ⟨hO3, H⟩ := h144; obtain ⟨la, lc, rfl⟩ := hO3.form; have hM3 := hO3.keys)
  (refine Ao 7 (Xd rfl (.inl rfl) (Xk (vs := [.slice la 1 lc]) H underlying74 sizeOf22 zeroValue22 rfl rfl (by decide) rfl rfl (by simp [Value.oneCell'])) (fun _ _ _ H _ => H.get (.there (.app _ (.there .here)))) ?_); clear H; intro b71 w146 hb71 H)
  (refine Ao 8 (Bn rfl (.inl rfl) (Yx (news := [.slice la 1 lc]) (m := 1) H (AtM.here (M := []) (B := _)) (Yo.nil _ _ _) underlying74 typeInfo22 rfl rfl rfl rfl rfl rfl (Ut underlying74 (H.get .here) rfl) (by decide) (by simp only [Tryz.t22]; decide)) (fun _ _ _ _ H _ => H.get (.app _ (.there (.app _ (.there .here))))) ?_); clear H; intro mayv MY w148 hOY H; obtain ⟨ya, yc, rfl⟩ := hOY.form; have hMY := hOY.keys)
  refine Ao 9 ?_
  refine Xv rfl (.inl rfl) (Qf rfl) kC ?_
  refine Ao 10 ?_
  refine Xv rfl (.inl rfl) (Qa (off' := 1) underlying113 rfl sizeOf74 (by decide) rfl rfl) kC ?_
  (refine Ao 11 (Xb rfl (.inl rfl) (Qz (v := .slice ya 1 yc) H sizeOf74 rfl rfl rfl (.app _ (.there (.app _ (.there .here)))) (by simp [kb0])) (fun _ _ h => Bool.noConfusion h) ?_); clear H; intro w154 H; obtain ⟨R2, hR2, hF2, H⟩ : ∃ R2, (∀ p ∈ R2, w.heap.size ≤ p.1) ∧ (∀ w2, Kp R2 w2 → RG c1 B m mb q uv ins ea ec ya la yc lc w2) ∧ Hp w ((rr, blk [ptr m 0, ptr s 0, nilS] 142) :: (k, blk (kb0 ea ec m s q (.slice ya 1 yc) (ptr rr 0) nilS) 113) :: (spB s bs cap sp PB (tsI 0) ++ R2)) w154 := ⟨MY ++ (M3 ++ REST), Yv hMY (Yv hM3 hR), fun w2 h => ⟨hRF w2 (fun p hp => h p (by simp [hp])), RdT.own hOY (fun p hp => h p (by simp [hp])), RdT.own hO3 (fun p hp => h p (by simp [hp]))⟩, (H.perm (perm1 _ _ _ _ _ _ _)).pop hb71⟩)
  refine Ad ?_
  (refine Xi (fun w2 => w2.heap[k]? = some (blk (kb0 ea ec m s q (.slice ya 1 yc) (ptr rr 0) nilS) 113) ∧ w2.heap[c1]? = some (blk B.c 77)) (fun i => Nat.ble 10 i) (by kernel_rfl) H ?_; clear H; intro w156 H)
  (refine Am 0 rfl ⟨H.get (.there .here), (hF2 _ (fun p hp => H.held p (by simp [hp]))).f.c1⟩ (Am 1 rfl ⟨H.get (.there .here), (hF2 _ (fun p hp => H.held p (by simp [hp]))).f.c1⟩ (Az 2 rfl rfl ⟨H.get (.there .here), (hF2 _ (fun p hp => H.held p (by simp [hp]))).f.c1⟩ (fun _ hC => Qf rfl) (Az 3 rfl rfl ⟨H.get (.there .here), (hF2 _ (fun p hp => H.held p (by simp [hp]))).f.c1⟩ (fun _ hC => Qa (off' := 6) underlying113 rfl sizeOf111 (by decide) rfl rfl) (Az 4 rfl rfl ⟨H.get (.there .here), (hF2 _ (fun p hp => H.held p (by simp [hp]))).f.c1⟩ (fun _ hC => Qe (v := nilS) isAgg111 rfl hC.1 rfl) (Az 5 rfl rfl ⟨H.get (.there .here), (hF2 _ (fun p hp => H.held p (by simp [hp]))).f.c1⟩ (fun _ hC => Qa (off' := 3) underlying77 rfl sizeOf3 (by decide) rfl rfl) (Az 6 rfl rfl ⟨H.get (.there .here), (hF2 _ (fun p hp => H.held p (by simp [hp]))).f.c1⟩ (fun _ hC => Qe (v := I 3) isAgg3 rfl hC.2 rfl) (Ao 7 (Qv rfl (.inl rfl) (Qw rfl call48 rfl) (Sect.Bg 3 _) (by rintro _ w2 ⟨_, _, h1, H1⟩ _; have H := H.Zo H1 (Qu h1 Xu); exact ⟨H.get (.there (.there .here)), (hF2 _ (fun p hp => H.held p (by simp [hp]))).f.c1⟩) ?_)))))))); rintro _ w165 ⟨p, rfl, hp, H1⟩; have hsz := H.size; replace H := H.Zo H1 (Qu hp Xu); replace hp := Nat.le_trans hsz hp; clear H1 hsz)
  (refine Ao 8 (Xd rfl (.inl rfl) (Xk (vs := [ptr p 0]) H underlying111 sizeOf115 zeroValue115 rfl rfl (by decide) rfl rfl (by simp [Value.oneCell'])) (fun _ _ _ H _ => ⟨H.get (.there (.there (.there .here))), (hF2 _ (fun p hp => H.held p (by simp [hp]))).f.c1⟩) ?_); clear H; intro b83 w167 hb83 H)
  (refine Ao 9 (Bn rfl (.inl rfl) (Yx (news := [ptr p 0]) (m := 1) H (AtM.here (M := []) (B := _)) (Yo.nil _ _ _) underlying111 typeInfo115 rfl rfl rfl rfl rfl rfl (Ut underlying111 (H.get .here) rfl) (by decide) (by simp only [Tryz.t115]; decide)) (fun _ _ _ _ H _ => ⟨H.get (.app _ (.there (.there (.there .here)))), (hF2 _ (fun p hp => H.held p (by simp [hp]))).f.c1⟩) ?_); clear H; intro sv SV w169 hOV H; obtain ⟨va, vc, rfl⟩ := hOV.form; have hSV := hOV.keys)
  refine Ao 10 ?_
  refine Xv rfl (.inl rfl) (Qf rfl) kC ?_
  refine Ao 11 ?_
  refine Xv rfl (.inl rfl) (Qa (off' := 6) underlying113 rfl sizeOf111 (by decide) rfl rfl) kC ?_
  (refine Ao 12 (Xb rfl (.inl rfl) (Qz (v := .slice va 1 vc) H sizeOf111 rfl rfl rfl (.app _ (.there (.there (.there .here)))) (by simp [kb0])) (fun _ _ h => Bool.noConfusion h) ?_); clear H; intro w175 H; obtain ⟨R3, hR3, hF3, H⟩ : ∃ R3, (∀ p ∈ R3, w.heap.size ≤ p.1) ∧ (∀ w2, Kp R3 w2 → RG c1 B m mb q uv ins ea ec ya la yc lc w2 ∧ RdT 115 w2 (.slice va 1 vc) [ptr p 0]) ∧ Hp w ((p, blk (Sect.sxC (Sect.Bh 3) nilS) 170) :: (rr, blk [ptr m 0, ptr s 0, nilS] 142) :: (k, blk (kb0 ea ec m s q (.slice ya 1 yc) (ptr rr 0) (.slice va 1 vc)) 113) :: (spB s bs cap sp PB (tsI 0) ++ R3)) w175 := ⟨SV ++ R2, Yv hSV hR2, fun w2 h => ⟨hF2 w2 (fun p hp => h p (by simp [hp])), RdT.own hOV (fun p hp => h p (by simp [hp]))⟩, (H.perm (perm2 _ _ _ _ _ _ _)).pop hb83⟩)
  refine Ad (Jr (J (Xg (r := 1) rfl rfl (by decide)) (Jm (Jn ?_))))
  refine Bp ?_
  refine Js (Jr (J (Xp rfl rfl (by omega)) (Jn (Js (Jc rfl (Xr ?_))))))
  refine (if_pos rfl).mpr ?_
  refine Js (Js (Jr (Jf 4 underlying77 rfl sizeOf75 rfl rfl (J (Qe (v := sl B.hb 0 1 B.hc) isAgg75 rfl (hF3 _ (fun p hp => H.held p (by simp [hp]))).1.f.c1 rfl) (J (Qh underlying75 rfl) (Jm (Jn (Jb (Vs 1 ?_)))))))))
  (refine Js (Jr (J (Za rfl rfl (by omega)) (Jn (Js (Jd rfl (Jk (Js (Jb (Js (Jr (J (Qj (off' := 0) underlying75 sizeOf118 rfl rfl (by decide) (by decide) (by decide)) (J (Qo (vs := BV.x B) isAgg118 sizeOf118 rfl (H.Qc hB.h (Qu hp (Qu hrr (Qu hk (Yv (hsp 0) hR3))))) rfl (by simp [BV.x])) (Qb rfl (Qp (vs := [I 0, I 0, I 0, I 0, nilS]) H zeroValue118 rfl) ?_))))))))))))); clear H; intro c11 w213 hc11 H)
  (refine Qd rfl (Qg (vs := BV.x B) H sizeOf118 rfl rfl (by simp [BV.x, Value.oneCell']) .here (by simp [BV.x])) ?_; clear H; intro w214 H; replace H : Hp w ((c11, blk (BV.x B) 118) :: (p, blk (Sect.sxC (Sect.Bh 3) nilS) 170) :: (rr, blk [ptr m 0, ptr s 0, nilS] 142) :: (k, blk (kb0 ea ec m s q (.slice ya 1 yc) (ptr rr 0) (.slice va 1 vc)) 113) :: (spB s bs cap sp PB (tsI 0) ++ R3)) w214 := H)
  refine Jn (Js ?_)
  (refine Xi (fun w2 => w2.heap[k]? = some (blk (kb0 ea ec m s q (.slice ya 1 yc) (ptr rr 0) (.slice va 1 vc)) 113) ∧ w2.heap[c11]? = some (blk (BV.x B) 118)) (fun _ => false) (by kernel_rfl) H ?_; clear H; intro w217 H)
  (refine Am 0 rfl ⟨H.get (.there (.there (.there .here))), H.get .here⟩ (Az 1 rfl rfl ⟨H.get (.there (.there (.there .here))), H.get .here⟩ (fun _ hC => Qf rfl) (Az 2 rfl rfl ⟨H.get (.there (.there (.there .here))), H.get .here⟩ (fun _ hC => Qa (off' := 5) underlying113 rfl sizeOf87 (by decide) rfl rfl) (Az 3 rfl rfl ⟨H.get (.there (.there (.there .here))), H.get .here⟩ (fun _ hC => Qe (v := ptr rr 0) isAgg87 rfl hC.1 rfl) (Am 4 rfl ⟨H.get (.there (.there (.there .here))), H.get .here⟩ (Az 5 rfl rfl ⟨H.get (.there (.there (.there .here))), H.get .here⟩ (fun _ hC => Qf rfl) (Az 6 rfl rfl ⟨H.get (.there (.there (.there .here))), H.get .here⟩ (fun _ hC => Qa (off' := 4) underlying113 rfl sizeOf109 (by decide) rfl rfl) (Az 7 rfl rfl ⟨H.get (.there (.there (.there .here))), H.get .here⟩ (fun _ hC => Qe (v := ptr q 0) isAgg109 rfl hC.1 rfl) (Az 8 rfl rfl ⟨H.get (.there (.there (.there .here))), H.get .here⟩ (fun _ hC => Qa (off' := 0) underlying118 rfl sizeOf3 (by decide) rfl rfl) (Az 9 rfl rfl ⟨H.get (.there (.there (.there .here))), H.get .here⟩ (fun _ hC => Qe (v := I 0) isAgg3 rfl hC.2 rfl) (Az 11 rfl rfl ⟨H.get (.there (.there (.there .here))), H.get .here⟩ (fun _ hC => Qa (off' := 1) underlying118 rfl sizeOf3 (by decide) rfl rfl) (Az 12 rfl rfl ⟨H.get (.there (.there (.there .here))), H.get .here⟩ (fun _ hC => Qe (v := I 0) isAgg3 rfl hC.2 rfl) (Az 15 rfl rfl ⟨H.get (.there (.there (.there .here))), H.get .here⟩ (fun _ hC => Qa (off' := 2) underlying118 rfl sizeOf3 (by decide) rfl rfl) (Az 16 rfl rfl ⟨H.get (.there (.there (.there .here))), H.get .here⟩ (fun _ hC => Qe (v := I 0) isAgg3 rfl hC.2 rfl) (Az 18 rfl rfl ⟨H.get (.there (.there (.there .here))), H.get .here⟩ (fun _ hC => Qa (off' := 3) underlying118 rfl sizeOf3 (by decide) rfl rfl) (Az 19 rfl rfl ⟨H.get (.there (.there (.there .here))), H.get .here⟩ (fun _ hC => Qe (v := I 492) isAgg3 rfl hC.2 rfl) (Ao 10 (Qv rfl (.inl rfl) (Qw rfl call50 rfl) (Quota.first_ret 0 (hF3 _ (fun p hp => H.held p (by simp [hp]))).1.f.q (by rw [(hF3 _ (fun p hp => H.held p (by simp [hp]))).1.f.il]; decide)) (by rintro _ w2 ⟨_, H1⟩ _; have H := H.seq0 H1; exact ⟨H.get (.there (.there (.there .here))), H.get .here⟩) ?_))))))))))))))))); rintro v w235 ⟨hv, H1⟩; have e0 : I ((Quota.firstQ ins 0 : Nat) : Int) = I 0 := rfl; rw [e0] at hv; subst hv; replace H := H.seq0 H1; clear H1)
  (refine Az 13 rfl rfl ⟨H.get (.there (.there (.there .here))), H.get .here⟩ (fun _ hC => Xg (r := 0) rfl rfl (by decide)) (Az 14 rfl rfl ⟨H.get (.there (.there (.there .here))), H.get .here⟩ (fun _ hC => Bs (r := 0) rfl rfl (by decide)) (Az 17 rfl rfl ⟨H.get (.there (.there (.there .here))), H.get .here⟩ (fun _ hC => Xg (r := 0) rfl rfl (by decide)) (Ao 20 (Qv rfl (.inl rfl) (Qw rfl call49 rfl) (Reg.add_ret (xs := List.replicate 1280 0) (lo := 0) (n := 492) (H.get (.there (.there .here))) (hF3 _ (fun p hp => H.held p (by simp [hp]))).1.f.m List.length_replicate (by decide) (by decide) (by decide) (by decide)) (by rintro _ w2 ⟨_, _, _, _, h1, H1⟩ _; have H := H.seq H1 (Yh (.there (.there .here)) (okSeq_new h1 Yi)); exact ⟨H.get (.there (.there (.there (.there .here)))), H.get (.there .here)⟩) ?_)))); rintro _ w240 ⟨a, ca, ts', rfl, ha, H1⟩; have hsz := H.size; replace H := H.seq H1 (Yh (.there (.there .here)) (okSeq_new ha Yi)); replace ha := Nat.le_trans hsz ha; clear H1 hsz)
  refine Am 21 rfl ⟨H.get (.there (.there (.there (.there .here)))), H.get (.there .here)⟩ (Az 22 rfl rfl ⟨H.get (.there (.there (.there (.there .here)))), H.get (.there .here)⟩ (fun _ hC => Qs rfl rfl) (Az 23 rfl rfl ⟨H.get (.there (.there (.there (.there .here)))), H.get (.there .here)⟩ (fun _ hC => Qs rfl rfl) (Aa 24 rfl ⟨H.get (.there (.there (.there (.there .here)))), H.get (.there .here)⟩ (Aa 25 rfl ⟨H.get (.there (.there (.there (.there .here)))), H.get (.there .here)⟩ (Ad (Js (Jr (Jm (Ji rfl (Jf 0 underlying113 rfl sizeOf22 rfl rfl (Jl isAgg22 rfl (H.get (.there (.there (.there (.there .here))))) rfl (J (Qh underlying22 rfl) (Jm (Jn (Jb ?_)))))))))))))))
  refine Yg [(14, 15), (124, 143)] (fun (i : Nat) E w' => i ≤ 9 ∧ E 124 = I i ∧ Hp w ((a, blk ([I 0, I 492] ++ ts') 145) :: (c11, blk (BV.x B) 118) :: (p, blk (Sect.sxC (Sect.Bh 3) nilS) 170) :: (rr, blk [ptr m 0, ptr s 0, sl a 0 1 ca] 142) :: (k, blk (kb0 ea ec m s q (.slice ya 1 yc) (ptr rr 0) (.slice va 1 vc)) 113) :: (spB s bs cap sp PB (tsI i) ++ R3)) w') (fun i => 9 - i) 0 ?e6 ?r6
  ·exact ⟨by omega, rfl, H⟩
  ·(clear H; rintro i E w1 ⟨hi, h124, H⟩; refine Ur h124 ?_)
   refine Js (Jr (J (Vb rfl rfl) (Jn (Js (Xo rfl (fun h264 => ?_) (fun h264 => ?_))))))
   ·refine Jk (Js (Jb (Js ?_)))
    ((obtain ⟨q', hq'⟩ : ∃ q', PB[i]? = some q' := ⟨_, List.getElem?_eq_getElem (by omega)⟩; have ht' := tsI_get (i := i) (by omega); obtain ⟨eb, eo, hea, hcell⟩ := (hF3 _ (fun p hp => H.held p (by simp [hp]))).1.f.e.rd.cell (i := i) (u := I 0) (by rw [List.getElem?_map, List.getElem?_replicate, if_pos (by omega)]; rfl); subst hea)) <;> refine Qk ?_
    (refine Jm (J (Qj (off' := eo + i) underlying22 sizeOf3 rfl rfl (by omega) (by omega) (by omega)) (J (Qx isAgg3 rfl hcell) (Ja (Ja (Jn (Js (Jr (Jf 4 underlying118 rfl sizeOf22 rfl rfl (J (Qe (v := sl B.tb 0 1 B.tc) isAgg22 rfl (H.get (.there .here)) rfl) (Jm (Jy rfl call51 rfl (Sect.Nw (xs := [0]) 0 (RdS.blk (c := [I 0] ++ B.tl) (off := 0) (H.Qc hB.t (Qu ha (Qu hc11 (Qu hp (Qu hrr (Qu hk (Yv (hsp _) hR3))))))) rfl (by simp) hB.tc) (by decide)) ?_))))))))))); rintro v w281 ⟨hv, H1⟩; rw [decide_eq_true (show (0 : Int) ∈ [0] by simp)] at hv; subst hv; replace H := H.seq0 H1; clear H1)
    refine Jn (Jd rfl ?_)
    (refine Xi (fun w2 => w2.heap[k]? = some (blk (kb0 (some ⟨eb, eo, none⟩) ec m s q (.slice ya 1 yc) (ptr rr 0) (.slice va 1 vc)) 113) ∧ w2.heap[c11]? = some (blk (BV.x B) 118)) (fun _ => false) (by kernel_rfl) H ?_; clear H; intro w284 H)
    (refine Am 0 rfl ⟨H.get (.there (.there (.there (.there .here)))), H.get (.there .here)⟩ (Az 1 rfl rfl ⟨H.get (.there (.there (.there (.there .here)))), H.get (.there .here)⟩ (fun _ hC => Qf rfl) (Az 2 rfl rfl ⟨H.get (.there (.there (.there (.there .here)))), H.get (.there .here)⟩ (fun _ hC => Qa (off' := 3) underlying113 rfl sizeOf107 (by decide) rfl rfl) (Az 3 rfl rfl ⟨H.get (.there (.there (.there (.there .here)))), H.get (.there .here)⟩ (fun _ hC => Qe (v := ptr s 0) isAgg107 rfl hC.1 rfl) (Am 4 rfl ⟨H.get (.there (.there (.there (.there .here)))), H.get (.there .here)⟩ (Am 5 rfl ⟨H.get (.there (.there (.there (.there .here)))), H.get (.there .here)⟩ (Az 6 rfl rfl ⟨H.get (.there (.there (.there (.there .here)))), H.get (.there .here)⟩ (fun _ hC => Qa (off' := 3) underlying118 rfl sizeOf3 (by decide) rfl rfl) (Az 7 rfl rfl ⟨H.get (.there (.there (.there (.there .here)))), H.get (.there .here)⟩ (fun _ hC => Qe (v := I 492) isAgg3 rfl hC.2 rfl) (Az 8 rfl rfl ⟨H.get (.there (.there (.there (.there .here)))), H.get (.there .here)⟩ (fun _ hC => Qm (places := [(0, 1), (1, 1), (2, 1), (3, 1), (4, 2)]) (vs := (cp 0 3 0 492 0 0).c) underlying125 typeInfo125 rfl rfl (by kernel_rfl) rfl rfl rfl) (Ao 9 (Qv rfl (.inl rfl) (Qw rfl call52 rfl) (Nr (j := i) (i := 0) (r := 3) (a := newPl) (Sp.of (bs := bs) (cap := cap) (sp := sp) (fun p hp => H.held p (by simp [hp])) (tsI_inv h9 (by omega))) hq' ht' (by decide) (by decide) (by decide) rfl ⟨rfl, by decide⟩ (fun k a' hk => absurd hk (by omega))) (by rintro _ w2 ⟨_, H1⟩ _; have H := seqSp (A := [_, _, _, _, _]) H hq' ht' H1; exact ⟨H.get (.there (.there (.there (.there .here)))), H.get (.there .here)⟩) ?_)))))))))); rintro _ w295 ⟨rfl, H1⟩; have H9 := seqSp (A := [_, _, _, _, _]) H hq' ht' H1; clear H H1; have H : Hp w ((a, blk ([I 0, I 492] ++ ts') 145) :: (c11, blk (BV.x B) 118) :: (p, blk (Sect.sxC (Sect.Bh 3) nilS) 170) :: (rr, blk [ptr m 0, ptr s 0, sl a 0 1 ca] 142) :: (k, blk (kb0 (some ⟨eb, eo, none⟩) ec m s q (.slice ya 1 yc) (ptr rr 0) (.slice va 1 vc)) 113) :: (spB s bs cap sp PB (tsI (i + 1)) ++ R3)) w295 := (by rw [← tsI_set (i := i) (by omega)]; exact H9); clear H9)
    refine Ad (Jr (J (Xg rfl rfl (Xc (by omega))) (Jm (Jn ?_))))
    exact ⟨kS, i + 1, by omega, by omega, rfl, H⟩
   ·refine Xr ?_
    refine (if_pos rfl).mpr ?_
    ((obtain rfl : i = 9 := (by omega))) <;> refine Qk ?_
    refine J (Xg (r := 1) rfl rfl (by decide)) (Jm (Jn ?_))
    refine Bp ?_
    refine Js (Jr (J (Xp rfl rfl (by omega)) (Jn (Js (Jc rfl (Xr ?_))))))
    refine (if_pos rfl).mpr ?_
    refine Js (Jr (Jm (Ja (Ja (Jn (Je ?_))))))
    exact ⟨_, rfl, _, p, rfl, kw_of H h9 (hF3 _ (fun p hp => H.held p (by simp [hp]))).1 (hF3 _ (fun p hp => H.held p (by simp [hp]))).2, hp, hmb, hk, H.none (Qu ha (Qu hc11 (Qu hp (Qu hrr (Qu hk (Yv (hsp _) hR3))))))⟩
end
end Go.Proofs.YtlpmfldijgdcoaaGreatDoor.Ke
namespace Go.Proofs.YtlpmfldijgdcoaaGreatDoor.Fx
open Go Go.Proofs
/-- a part of a row -/
def subS : Value → Nat → Nat → Value
 | .slice ao _ cap, i, j => .slice (if cap = i then ao else ao.map (·.add (i * 1))) (j - i) (cap - i)
 | v, _, _ => v
section
variable {P : Program} {E : Env} {w w1 : World} {d : Option Nat} {ty : TypeId} {pos : String} {after : Array Edge}
theorem R_subS {t elem : TypeId} {x : Operand} {lo hi : Option Operand} {v : Value} {xs : List Value} {i j : Nat} (h : RdS w1 v xs) (ht : P.underlying t = some (.slice elem)) (hS : ∀ w, (sizeOf elem).run P w = .ok 1 w)
  (hx : ev E x = v) (hlo : Bd E lo 0 i) (hhi : Bd E hi xs.length j) (hij : i ≤ j) (hj : j ≤ xs.length)
  : (execOp (ev E) (mk d (.slice t x lo hi none) ty pos after)).run P w = .ok (.value (subS v i j)) w := by
 obtain ⟨ao, cap, rfl, hlc, _⟩ := h
 have hb : (Instr.sliceBounds true xs.length cap (lo.map (ev E)) (hi.map (ev E)) none).run P w = .ok (i, j, cap) w := by
  have h0 : (0 : Int) ≤ i := by omega
  have h1 : (i : Int) ≤ j := by omega
  have h2 : (j : Int) ≤ cap := by omega
  generalize hii : (i : Int) = i' at *
  generalize hjj : (j : Int) = j' at *
  have ei : i'.toNat = i := by omega
  have ej : j'.toNat = j := by omega
  cases hlo with
  | none =>
   cases hhi with
   | none => simp [Instr.sliceBounds]; omega
   | some hh => simp [Instr.sliceBounds, hh, Ye (P := P) (w := w) (code := .sliceAcap) (show 0 ≤ j' by omega) h2]; omega
  | some hl =>
   cases hhi with
   | none => simp [Instr.sliceBounds, hl, Ye (P := P) (w := w) (code := .sliceB) h0 h1]; omega
   | some hh => simp [Instr.sliceBounds, hl, hh, Ye (P := P) (w := w) (code := .sliceAcap) (show 0 ≤ j' by omega) h2, Ye (P := P) (w := w) (code := .sliceB) (y := j) h0 (by omega), ei, ej]
 simp [execOp, hx, Instr.sliceAt, Instr.slice, run_underlying ht, hb, hS, subS]
theorem R_subU {t elem : TypeId} {x : Operand} {lo hi : Option Operand} {v : Value} {bs : List UInt8} {i j : Nat} (h : RdS w1 v (bs.map U)) (ht : P.underlying t = some (.slice elem)) (hS : ∀ w, (sizeOf elem).run P w = .ok 1 w)
  (hx : ev E x = v) (hlo : Bd E lo 0 i) (hhi : Bd E hi bs.length j) (hij : i ≤ j) (hj : j ≤ bs.length)
  : (execOp (ev E) (mk d (.slice t x lo hi none) ty pos after)).run P w = .ok (.value (subS v i j)) w :=
 R_subS h ht hS hx hlo (by rw [List.length_map]; exact hhi) hij (by rw [List.length_map]; exact hj)
end
theorem RdS.sub {w : World} {v : Value} {xs : List Value} {i j : Nat} (h : RdS w v xs) (hij : i ≤ j) (hj : j ≤ xs.length) : RdS w (subS v i j) ((xs.take j).drop i) := by
 obtain ⟨ao, cap, rfl, hlc, h⟩ := h
 have hl : ((xs.take j).drop i).length = j - i := by simp; omega
 refine ⟨if cap = i then ao else ao.map (·.add (i * 1)), cap - i, by rw [hl]; rfl, by rw [hl]; omega, ?_⟩
 by_cases hc : j = i
 ·left
  exact List.length_eq_zero_iff.1 (by omega)
 ·right
  rw [if_neg (by omega)]
  rcases h with rfl | ⟨b, off, rfl, h⟩
  ·simp at hj; omega
  ·refine ⟨b, off + i, by simp [Zq], fun k u hk => ?_⟩
   rw [Nat.add_assoc]
   refine h (i + k) u ?_
   rw [List.getElem?_drop, List.getElem?_take] at hk
   split at hk
   ·exact hk
   ·cases hk
end Go.Proofs.YtlpmfldijgdcoaaGreatDoor.Fx
namespace Go.Proofs.YtlpmfldijgdcoaaGreatDoor.Top
open Go Go.Proofs Fx Tryz
/-- a bridge -/
def brC (b : Nat × Nat) : List Value := [I b.1, I b.2]
theorem brC_len (b : Nat × Nat) : (brC b).length = 2 := rfl
/-- a bridge between two of n members -/
def brOk (n : Nat) (b : Nat × Nat) : Prop := b.1 < n ∧ b.2 < n ∧ b.1 ≠ b.2
abbrev Bo (b : Bool) : Value := .bool b
end Go.Proofs.YtlpmfldijgdcoaaGreatDoor.Top
namespace Go.Proofs.YtlpmfldijgdcoaaGreatDoor.Top
open Go Go.Proofs Fx Tryz
/-- a plan that is read -/
structure PlanR (w : World) (v : Value) (ms : List Bool) (bs : List (Nat × Nat)) (ls : Nat) : Prop where
 ex : ∃ vm vb, v = .agg #[vm, vb, I ls] ∧ RdS w vm (ms.map Bo) ∧ RdR brC w vb bs
 m1 : 1 ≤ ms.length
 m4 : ms.length ≤ 4
 b4 : bs.length ≤ 4
 ok : ∀ b ∈ bs, brOk ms.length b
 l1 : 1 ≤ ls
 l8 : ls ≤ 8
theorem Dw {ms : List Bool} {bs : List (Nat × Nat)} {ls : Nat} {w : World} {v : Value} (hp : PlanR w v ms bs ls) :
  Ret Tryz.prog 23 #[v] w fun v w' => v = I 0 ∧ Hp w [] w' := by
 refine Qi (args := [_]) func23 rfl ntmps23 results23 (by simp) ?_
 have H := Hp.refl w
 obtain ⟨⟨vm, vb, rfl, hm, hb⟩, m1, m4, b4, hok, l1, l8⟩ := hp
 obtain ⟨ma, mc, rfl⟩ := hm.form
 obtain ⟨ba, bc, rfl⟩ := hb.form
 rw [List.length_map]
 (refine Js (Jr (Qb rfl (Xl (vs := [.slice ma ms.length mc, .slice ba bs.length bc, I ls]) H rfl rfl) ?_)); clear H; intro c1 w3 hc1 H)
 refine Ja (Jn (Js (Jr (Jf 0 underlying27 rfl sizeOf24 rfl rfl (Jl isAgg24 rfl (H.get .here) rfl (J (Qh underlying24 rfl) (Ja (Jn (Js (Js (Jr (Jm (J (Xp rfl rfl (by omega)) (Jm (Jt rfl rfl (Jm (Jt rfl rfl (J (Zm rfl rfl (by omega)) (Jp rfl (Jm (Jt rfl rfl (Jf 1 underlying27 rfl sizeOf25 rfl rfl (Jt rfl rfl (Jl isAgg25 rfl (H.get .here) rfl (Jt rfl rfl (J (Qh underlying25 rfl) (Jt rfl rfl (J (Zm rfl rfl (by omega)) (Jp rfl (Jm (Jt rfl rfl (Jf 2 underlying27 rfl sizeOf3 rfl rfl (Jt rfl rfl (Jl isAgg3 rfl (H.get .here) rfl (Jt rfl rfl (J (Xp rfl rfl (by omega)) (Jp rfl (Jm (Jt rfl rfl (Jf 2 underlying27 rfl sizeOf3 rfl rfl (Jt rfl rfl (Jl isAgg3 rfl (H.get .here) rfl (Jt rfl rfl (J (Zm rfl rfl (by omega)) (Jp rfl (Jn (Jc rfl (Jk (Js (Js (Jr (Jf 1 underlying27 rfl sizeOf25 rfl rfl (Jl isAgg25 rfl (H.get .here) rfl (J (Qh underlying25 rfl) (Jm (Jn (Jb ?_)))))))))))))))))))))))))))))))))))))))))))))))))))))))))
 refine Yg [(2, 2), (5, 5), (34, 65)] (fun (i : Nat) E w' => i ≤ bs.length ∧ E 34 = I i ∧ Hp w [(c1, blk [.slice ma ms.length mc, .slice ba bs.length bc, I ls] 27)] w') (fun i => bs.length - i) 0 ?e0 ?r0
 ·exact ⟨by omega, rfl, H⟩
 ·(clear H; rintro i E w1 ⟨hi, h34, H⟩; refine Ur h34 ?_)
  refine Js (Jr (J (Vb rfl rfl) (Jn (Js (Xo rfl (fun h69 => ?_) (fun h69 => ?_))))))
  ·refine Jk (Js (Jb (Js ?_)))
   ((obtain ⟨⟨A, B⟩, hr⟩ : ∃ r, bs[i]? = some r := ⟨_, List.getElem?_eq_getElem (by omega)⟩; obtain ⟨hA, hB, hAB⟩ := hok _ (List.mem_of_getElem? hr); simp only at hA hB hAB; obtain ⟨b1, o1, rfl, hc⟩ := hb.cell brC_len hr)) <;> refine Qk ?_
   (refine J (Qj (off' := o1 + i * 2) underlying25 sizeOf64 rfl rfl (by omega) (by omega) (by omega)) (J (Vm (vs := [I A, I B]) isAgg64 sizeOf64 rfl (fun j v hj => H.Zx (hc j v hj) kYs) rfl) (Qb rfl (Qp (vs := [I 0, I 0]) H zeroValue64 (by kernel_rfl)) ?_)); clear H; intro c5 w77 hc5 H)
   (refine Qd rfl (Qg (vs := [(.int _ _), (.int _ _)]) H sizeOf64 rfl rfl (by simp [Value.oneCell']) .here (by simp)) ?_; clear H; intro w78 H)
   refine Jn (Js (Jr (Jf 0 underlying64 rfl sizeOf3 rfl rfl (Jl isAgg3 rfl (H.get .here) rfl (J (Xp rfl rfl (by omega)) (Jm (Jt rfl rfl (Jf 0 underlying64 rfl sizeOf3 rfl rfl (Jt rfl rfl (Jl isAgg3 rfl (H.get .here) rfl (Jt rfl rfl (Jm (Jt rfl rfl (J (Zn rfl rfl (by omega)) (Jp rfl (Jm (Jt rfl rfl (Jf 1 underlying64 rfl sizeOf3 rfl rfl (Jt rfl rfl (Jl isAgg3 rfl (H.get .here) rfl (Jt rfl rfl (J (Xp rfl rfl (by omega)) (Jp rfl (Jm (Jt rfl rfl (Jf 1 underlying64 rfl sizeOf3 rfl rfl (Jt rfl rfl (Jl isAgg3 rfl (H.get .here) rfl (Jt rfl rfl (Jm (Jt rfl rfl (J (Zn rfl rfl (by omega)) (Jp rfl (Jm (Jt rfl rfl (Jf 0 underlying64 rfl sizeOf3 rfl rfl (Jt rfl rfl (Jl isAgg3 rfl (H.get .here) rfl (Jt rfl rfl (Jf 1 underlying64 rfl sizeOf3 rfl rfl (Jt rfl rfl (Jl isAgg3 rfl (H.get .here) rfl (Jt rfl rfl (J (Xf rfl rfl (by omega)) (Jp rfl (Jn (Jc rfl (Jk (Jr (J (Xg rfl rfl (Xc (by omega))) (Jm (Jn ?_))))))))))))))))))))))))))))))))))))))))))))))))))))
   exact ⟨kS, i + 1, by omega, by omega, rfl, H.pop (by assumption)⟩
  ·refine Xr ?_
   refine (if_pos rfl).mpr ?_
   refine Js (Jr (Ja (Jn (Je ?_))))
   exact ⟨_, rfl, rfl, H.none kYs⟩
end Go.Proofs.YtlpmfldijgdcoaaGreatDoor.Top
namespace Go.Proofs.YtlpmfldijgdcoaaGreatDoor.Wo
open Go Go.Proofs Fx Kn Ke Tryz
theorem perm4 {α : Type} (b k c : α) (Y R : List α) : (Y ++ b :: k :: c :: R).Perm (b :: k :: c :: (Y ++ R)) :=
 List.perm_middle.trans (.cons _ (List.perm_middle.trans (.cons _ List.perm_middle)))
theorem perm5 {α : Type} (b p k c : α) (Y R : List α) : (Y ++ b :: p :: k :: c :: R).Perm (b :: k :: c :: (Y ++ (p :: R))) := by
 refine List.perm_middle.trans (.cons _ ?_)
 have h : (Y ++ p :: k :: c :: R).Perm (Y ++ k :: c :: (p :: R)) := List.Perm.append_left Y ((List.Perm.swap _ _ _).trans (.cons _ (List.Perm.swap _ _ _)))
 exact h.trans (List.perm_middle.trans (.cons _ List.perm_middle))
/-- a plan of one session, joined to nobody -/
structure P1 (w : World) (bt : Bool) (pa : Option Addr) (pc : Nat) : Prop where
 bad : RdS w (.slice pa 1 pc) ([bt].map Top.Bo)
theorem P1.plan {w : World} {bt : Bool} {pa : Option Addr} {pc : Nat} (h : P1 w bt pa pc) : Top.PlanR w (.agg #[.slice pa 1 pc, nilS, I 3]) [bt] [] 3 :=
 ⟨⟨_, _, rfl, h.bad, RdR.nil⟩, by simp, by simp, by decide, (fun _ h => nomatch h), by decide, by decide⟩
theorem P1.Ql {w w' : World} {bt : Bool} {pa : Option Addr} {pc : Nat} {L : List (Nat × Obj)} (h : P1 w bt pa pc) (H : Hp w L w') (hn : ∀ p ∈ L, w.heap.size ≤ p.1) : P1 w' bt pa pc := ⟨h.bad.Yd H hn⟩
section
variable {w : World} {pa : Option Addr} {pc : Nat}
theorem boot_ret {bt : Bool} (hp : P1 w bt pa pc) : Ret Tryz.prog 25 #[.agg #[.slice pa 1 pc, nilS, I 3]] w fun v w' => ∃ B, v = .agg B.c.toArray ∧ Bt w' B ∧ Hp w [] w' := by
 refine Qy (args := [_]) func25 rfl ntmps25 results25 (by simp) ?_
 have H := Hp.refl w
 (refine Js (Jr (Qb rfl (Xl (vs := [.slice pa 1 pc, nilS, I 3]) H rfl rfl) ?_)); clear H; intro c1 w3 hc1 H)
 (refine Qb rfl (Qp (vs := [nilS, nilS, nilS, I 0, nilS]) H zeroValue77 rfl) ?_; clear H; intro c2 w4 hc2 H)
 (refine Jn (Js (Js (Jr (J (Qo (vs := [.slice pa 1 pc, nilS, I 3]) isAgg27 sizeOf27 rfl (H.get (.there .here)) rfl (by simp)) (Jz rfl call23 rfl (Top.Dw (hp.Ql H kYs).plan) H ?_))))); intro w10 H)
 (refine J (Yl rfl rfl (by omega)) (Jn (Jc rfl (Jk (Js (Jr (Jf 2 underlying27 rfl sizeOf3 rfl rfl (Jl isAgg3 rfl (H.get (.there .here)) rfl (J (Qm (places := [(0, 1), (1, 1), (2, 1), (3, 1), (4, 1)]) (vs := [nilS, nilS, nilS, I 3, nilS]) underlying77 typeInfo77 rfl rfl (by kernel_rfl) rfl rfl rfl) (Qb rfl (Qp (vs := [nilS, nilS, nilS, I 0, nilS]) H zeroValue77 rfl) ?_))))))))); clear H; intro c3 w20 hc3 H)
 (refine Qd rfl (Qg (vs := [nilS, nilS, nilS, I 3, nilS]) H sizeOf77 rfl rfl (by simp [Value.oneCell']) .here (by simp)) ?_; clear H; intro w21 H; replace H : Hp w ((c3, blk [nilS, nilS, nilS, I 3, nilS] 77) :: (c2, blk [nilS, nilS, nilS, I 0, nilS] 77) :: [(c1, blk [.slice pa 1 pc, nilS, I 3] 27)]) w21 := H)
 refine Jn (Js (Js (Jr (Jf 0 underlying27 rfl sizeOf24 rfl rfl (Jl isAgg24 rfl (H.get (.there (.there .here))) rfl (J (Qh underlying24 rfl) (Jm (Jn (Jb (Vs 1 ?_))))))))))
 (refine Js (Jr (J (Za rfl rfl (by omega)) (Jn (Js (Jd rfl (Jk (Js (Jb (Js (Jr (Jm (Ja (Jn (Js (Jr (Jf 0 underlying77 rfl sizeOf22 rfl rfl (Jl isAgg22 rfl (H.get .here) rfl (Qb rfl (Xk (vs := [I 20]) H underlying22 sizeOf3 zeroValue3 rfl rfl (by decide) rfl rfl (by simp [Value.oneCell'])) ?_)))))))))))))))))); clear H; intro b22 w51 hb22 H)
 (refine Ve rfl (Yx (news := [I 20]) (m := 1) H (AtM.here (M := []) (B := _)) (Yo.nil _ _ _) underlying22 typeInfo3 rfl rfl rfl rfl rfl rfl (Ut underlying22 (H.get .here) rfl) (by decide) (by simp only [Tryz.t3]; decide)) ?_; clear H; intro vF MF w52 hOF H; obtain ⟨fa, fc, rfl⟩ := hOF.form; have hMF := hOF.keys; obtain ⟨R, hR, hRF, H⟩ : ∃ R, (∀ p ∈ R, w.heap.size ≤ p.1) ∧ (∀ w2, Kp R w2 → Kp MF w2 ∧ w2.heap[c1]? = some (blk [.slice pa 1 pc, nilS, I 3] 27)) ∧ Hp w ((c3, blk [nilS, nilS, nilS, I 3, nilS] 77) :: (c2, blk [nilS, nilS, nilS, I 0, nilS] 77) :: R) w52 := ⟨MF ++ [(c1, blk [.slice pa 1 pc, nilS, I 3] 27)], Yv hMF (Qu hc1 Xu), fun w2 h => ⟨fun p hp => h p (by simp [hp]), h (c1, _) (by simp)⟩, (H.perm (perm4 _ _ _ _ _)).pop hb22⟩)
 refine Jf 0 underlying77 rfl sizeOf22 rfl rfl ?_
 (have _g := hOF; refine Qd rfl (Qz (v := .slice fa 1 fc) H sizeOf22 rfl rfl rfl .here (by simp)) ?_; clear H; intro w54 H; replace H : Hp w ((c3, blk [.slice fa 1 fc, nilS, nilS, I 3, nilS] 77) :: (c2, blk [nilS, nilS, nilS, I 0, nilS] 77) :: R) w54 := H)
 refine Jn (Js (Js (Jr (Jm (Jn (Jb ?_))))))
 refine Yg [(25, 33)] (fun (i : Nat) E w' => i ≤ 9 ∧ E 25 = I i ∧ ∃ ev M, Yo w.heap.size 3 1 ev i (List.replicate i (I 0)) M ∧ Hp w ((c3, blk [.slice fa 1 fc, ev, nilS, I 3, nilS] 77) :: (M ++ (c2, blk [nilS, nilS, nilS, I 0, nilS] 77) :: R)) w') (fun i => 9 - i) 0 ?e2 ?r2
 ·exact ⟨by omega, rfl, nilS, [], Yo.nil _ _ _, H⟩
 ·(clear H; rintro i E w1 ⟨hi, h25, ev, M, hO, H⟩; obtain ⟨ea, ec, rfl⟩ := hO.form; refine Ur h25 ?_)
  refine Js (Jr (J (Vb rfl rfl) (Jn (Js (Xo rfl (fun h69 => ?_) (fun h69 => ?_))))))
  ·(refine Jk (Js (Jb (Jr (Jf 1 underlying77 rfl sizeOf22 rfl rfl (Jl isAgg22 rfl (H.get .here) rfl (Jm (Qb rfl (Xk (vs := [I 0]) H underlying22 sizeOf3 zeroValue3 rfl rfl (by decide) rfl rfl (by simp [Value.oneCell'])) ?_))))))); clear H; intro b30 w77 hb30 H)
   (refine Ve rfl (Yx (news := [I 0]) (m := 1) H (.there (.there .here)) hO underlying22 typeInfo3 rfl rfl rfl rfl rfl rfl (Ut underlying22 (H.get .here) rfl) (by omega) (by simp only [Tryz.t3]; omega)) ?_; clear H hO; intro v5 M5 w78 hO H; obtain ⟨ea5, ec5, rfl⟩ := hO.form; replace H := H.pop hb30)
   (refine Jf 1 underlying77 rfl sizeOf22 rfl rfl (Qd rfl (Qz (v := (.slice _ _ _)) H sizeOf22 rfl rfl rfl .here (by simp)) ?_); clear H; intro w80 H)
   refine Jn (Jr (J (Xg rfl rfl (Xc (by omega))) (Jm (Jn ?_))))
   exact ⟨kS, i + 1, by omega, by omega, rfl, _, M5, (by rw [List.replicate_succ']; exact hO), H⟩
  ·refine Xr ?_
   refine (if_pos rfl).mpr ?_
   refine Js ?_
   ((obtain rfl : i = 9 := (by omega); have hME := hO.keys; obtain ⟨R2, hR2, hRE, H⟩ : ∃ R2, (∀ p ∈ R2, w.heap.size ≤ p.1) ∧ (∀ w2, Kp R2 w2 → (Kp MF w2 ∧ w2.heap[c1]? = some (blk [.slice pa 1 pc, nilS, I 3] 27)) ∧ Kp M w2) ∧ Hp w ((c3, blk [.slice fa 1 fc, .slice ea 9 ec, nilS, I 3, nilS] 77) :: (c2, blk [nilS, nilS, nilS, I 0, nilS] 77) :: R2) _ := ⟨M ++ R, Yv hME hR, fun w2 h => ⟨hRF w2 (fun p hp => h p (by simp [hp])), fun p hp => h p (by simp [hp])⟩, H.perm (.cons _ List.perm_middle)⟩)) <;> refine Qk ?_
   (refine Jf 2 underlying77 rfl sizeOf74 rfl rfl (Jl isAgg74 rfl (H.get .here) rfl (Jm (Qb rfl (Xk (vs := [I 0]) H underlying22 sizeOf3 zeroValue3 rfl rfl (by decide) rfl rfl (by simp [Value.oneCell'])) ?_))); clear H; intro b37 w94 hb37 H)
   (refine Qb rfl (Xk (vs := [sl b37 0 1 1]) H underlying74 sizeOf22 zeroValue22 rfl rfl (by decide) rfl rfl (by simp [Value.oneCell'])) ?_; clear H; intro b38 w95 hb38 H)
   (refine Ve rfl (Yx (news := [sl b37 0 1 1]) (m := 1) H (AtM.here (M := []) (B := _)) (Yo.nil _ _ _) underlying74 typeInfo22 rfl rfl rfl rfl rfl rfl (Ut underlying74 (H.get .here) rfl) (by decide) (by simp only [Tryz.t22]; decide)) ?_; clear H; intro vS MS w96 hOS H; obtain ⟨sa, sc, rfl⟩ := hOS.form; have hMS := hOS.keys; obtain ⟨R3, hR3, hRS, H⟩ : ∃ R3, (∀ p ∈ R3, w.heap.size ≤ p.1) ∧ (∀ w2, Kp R3 w2 → ((Kp MF w2 ∧ w2.heap[c1]? = some (blk [.slice pa 1 pc, nilS, I 3] 27)) ∧ Kp M w2) ∧ Kp MS w2 ∧ w2.heap[b37]? = some (blk [I 0] 3)) ∧ Hp w ((c3, blk [.slice fa 1 fc, .slice ea 9 ec, nilS, I 3, nilS] 77) :: (c2, blk [nilS, nilS, nilS, I 0, nilS] 77) :: R3) w96 := ⟨MS ++ ((b37, blk [I 0] 3) :: R2), Yv hMS (Qu hb37 hR2), fun w2 h => ⟨hRE w2 (fun p hp => h p (by simp [hp])), fun p hp => h p (by simp [hp]), h (b37, _) (by simp)⟩, (H.perm (perm5 _ _ _ _ _ _)).pop hb38⟩)
   refine Jf 2 underlying77 rfl sizeOf74 rfl rfl ?_
   (have _g := hOS; refine Qd rfl (Qz (v := .slice sa 1 sc) H sizeOf74 rfl rfl rfl .here (by simp)) ?_; clear H; intro w98 H; replace H : Hp w ((c3, blk [.slice fa 1 fc, .slice ea 9 ec, .slice sa 1 sc, I 3, nilS] 77) :: (c2, blk [nilS, nilS, nilS, I 0, nilS] 77) :: R3) w98 := H)
   (refine Jn (Jr (Jf 4 underlying77 rfl sizeOf75 rfl rfl (Jl isAgg75 rfl (H.get .here) rfl (Jm (Jm (Qb rfl (Xk (vs := [I 0]) H underlying22 sizeOf3 zeroValue3 rfl rfl (by decide) rfl rfl (by simp [Value.oneCell'])) ?_)))))); clear H; intro b45 w105 hb45 H)
   (refine J (Qm (places := [(0, 1), (1, 1), (2, 1), (3, 1), (4, 1)]) (vs := [I 0, I 0, I 0, I 492, sl b45 0 1 1]) underlying118 typeInfo118 rfl rfl (by kernel_rfl) rfl rfl rfl) (Qb rfl (Zt (vss := [[I 0, I 0, I 0, I 492, sl b45 0 1 1]]) H underlying75 sizeOf118 zeroValue118 rfl rfl (by decide) rfl rfl (by simp)) ?_); clear H; intro b47 w107 hb47 H)
   (refine Ve rfl (Yx (news := [I 0, I 0, I 0, I 492, sl b45 0 1 1]) (m := 1) H (AtM.here (M := []) (B := _)) (Yo.nil _ _ _) underlying75 typeInfo118 rfl rfl rfl rfl rfl rfl (Mn (m := 1) (sp := []) underlying75 (by rw [List.append_nil]; exact H.get .here) rfl (by simp [Value.oneCell'])) (by decide) (by simp only [Tryz.t118]; decide)) ?_; clear H; intro vH MH w108 hOH H; obtain ⟨ha, hc, rfl⟩ := hOH.form; have hMH := hOH.keys; obtain ⟨R4, hR4, hRH, H⟩ : ∃ R4, (∀ p ∈ R4, w.heap.size ≤ p.1) ∧ (∀ w2, Kp R4 w2 → (((Kp MF w2 ∧ w2.heap[c1]? = some (blk [.slice pa 1 pc, nilS, I 3] 27)) ∧ Kp M w2) ∧ Kp MS w2 ∧ w2.heap[b37]? = some (blk [I 0] 3)) ∧ Kp MH w2 ∧ w2.heap[b45]? = some (blk [I 0] 3)) ∧ Hp w ((c3, blk [.slice fa 1 fc, .slice ea 9 ec, .slice sa 1 sc, I 3, nilS] 77) :: (c2, blk [nilS, nilS, nilS, I 0, nilS] 77) :: R4) w108 := ⟨MH ++ ((b45, blk [I 0] 3) :: R3), Yv hMH (Qu hb45 hR3), fun w2 h => ⟨hRS w2 (fun p hp => h p (by simp [hp])), fun p hp => h p (by simp [hp]), h (b45, _) (by simp)⟩, (H.perm (perm5 _ _ _ _ _ _)).pop hb47⟩)
   refine Jf 4 underlying77 rfl sizeOf75 rfl rfl ?_
   (have _g := hOH; refine Qd rfl (Qz (v := .slice ha 1 hc) H sizeOf75 rfl rfl rfl .here (by simp)) ?_; clear H; intro w110 H; replace H : Hp w ((c3, blk [.slice fa 1 fc, .slice ea 9 ec, .slice sa 1 sc, I 3, .slice ha 1 hc] 77) :: (c2, blk [nilS, nilS, nilS, I 0, nilS] 77) :: R4) w110 := H)
   refine Jn (Jr (J (Xg (r := 1) rfl rfl (by decide)) (Jm (Jn ?_))))
   refine Bp ?_
   refine Js (Jr (J (Xp rfl rfl (by omega)) (Jn (Js (Jc rfl (Xr ?_))))))
   refine (if_pos rfl).mpr ?_
   refine Js (Js (Jr (Jf 1 underlying27 rfl sizeOf25 rfl rfl (J (Qe (v := nilS) isAgg25 rfl (hRH _ (fun p hp => H.held p (by simp [hp]))).1.1.1.2 rfl) (J (Qh underlying25 rfl) (Jm (Jn (Jb (Vs 0 ?_)))))))))
   refine Js (Jr (J (Xp rfl rfl (by omega)) (Jn (Js (Jc rfl (Xr ?_))))))
   refine (if_pos rfl).mpr ?_
   refine Js (Jr (J (Qo (vs := [.slice fa 1 fc, .slice ea 9 ec, .slice sa 1 sc, I 3, .slice ha 1 hc]) isAgg77 sizeOf77 rfl (H.get .here) rfl (by simp)) ?_))
   (have _g := R4; refine Qd rfl (Qg (vs := [.slice fa 1 fc, .slice ea 9 ec, .slice sa 1 sc, I 3, .slice ha 1 hc]) H sizeOf77 rfl rfl (by simp [Value.oneCell']) (.there .here) (by simp)) ?_; clear H; intro w146 H)
   refine Jn (Je ?_)
   (have hK := hRH _ (fun p hp => H.held p (by simp [hp])); obtain ⟨fb, fc1, fl, e1, _, rfl, _, hfc⟩ := hOF.pos (by decide); cases e1; obtain ⟨eb, ec1, el, e1, _, rfl, _, hec⟩ := hO.pos (by decide); cases e1; obtain ⟨sb, sc1, sl1, e1, _, rfl, _, hsc⟩ := hOS.pos (by decide); cases e1; obtain ⟨hb, hc1, hl, e1, _, rfl, _, hhc⟩ := hOH.pos (by decide); cases e1; exact ⟨_, ⟨_, rfl, ldA isAgg77 sizeOf77 (H.get (.there .here)) rfl (by simp)⟩, ⟨fb, fc, eb, ec, sb, sc, b37, 1, hb, hc, b45, 1, fl, el, sl1, [], hl, []⟩, rfl, ⟨hK.1.1.1.1 _ (.head _), hK.1.1.2 _ (.head _), hK.1.2.1 _ (.head _), hK.1.2.2, hK.2.1 _ (.head _), hK.2.2, hec, Nat.le_refl _, Nat.le_refl _, hfc⟩, H.none (Qu hc3 (Qu hc2 hR4))⟩)
end
end Go.Proofs.YtlpmfldijgdcoaaGreatDoor.Wo
namespace Go.Proofs.YtlpmfldijgdcoaaGreatDoor.Wo
open Go Go.Proofs Fx Kn Ke Cm Ho TabC Tryz
/-- the terminal, as it begins -/
def q0 : Ring.Pi := ⟨0, 0, 1, 1, List.replicate 32 0, by simp⟩
def f0 : File.Fl := ⟨3, 0, 1, 0⟩
def p00 : Slot.Pi := ⟨1, 0, 0, 0, 0, 0, 0, 0, [0, 0, 0, 0, 0, 0, 0, 0], rfl⟩
def X1 (xs : List UInt8) : List UInt8 := Mem.put xs (Ring.Xm q0) (0 + 448)
def X2 (xs : List UInt8) : List UInt8 := Mem.put (X1 xs) (Nv 0) (0 + 488)
def X3 (xs : List UInt8) : List UInt8 := Mem.put (X2 xs) (File.Yj f0) (0 + 192)
def X4 (xs : List UInt8) : List UInt8 := Mem.put (X3 xs) (Slot.Xm p0) (0 + 24 * 0)
theorem okq0 : Ring.okP q0 := by unfold Ring.okP q0; decide
theorem okf0 : File.Yz f0 := by decide
theorem lenq0 : (Ring.Xm q0).length = 40 := by decide
theorem lenf0 : (File.Yj f0).length = 8 := by decide
theorem x1_len {xs : List UInt8} (h : xs.length = 1280) : (X1 xs).length = 1280 := by unfold X1; rw [Ns (by rw [lenq0, h]; decide), h]
theorem x2_len {xs : List UInt8} (h : xs.length = 1280) : (X2 xs).length = 1280 := by unfold X2; rw [Ns (by rw [x1_len h]; decide), x1_len h]
theorem x3_len {xs : List UInt8} (h : xs.length = 1280) : (X3 xs).length = 1280 := by unfold X3; rw [Ns (by rw [lenf0, x2_len h]; decide), x2_len h]
theorem x4_len {xs : List UInt8} (h : xs.length = 1280) : (X4 xs).length = 1280 := by unfold X4; rw [Ns (by rw [lenp0, x3_len h]; decide), x3_len h]
/-- commons of one cap, just made -/
def c0 (κ : KS) (X : List UInt8) (e : Nat) (ua : Option Addr) (uc mp : Nat) : Cs := ⟨{ κ with xs := X }, e, ua, uc, [256], [(0, 492)], mp, #[], 0, []⟩
theorem cmi_at {w w1 : World} {κ : KS} {X : List UInt8} {L : List (Nat × Obj)} {c e uc mp : Nat} {ua : Option Addr} (hK : Kr w κ) (hW : Wn κ e 256 0 492) (H : Hp w ((κ.mb, blk (X.map U) 5) :: L) w1) (hL : Out kT w L) (hX : X.length = κ.N)
  (hc : w1.heap[c]? = some (blk [ptr κ.k 0, I e, .slice ua 1 uc, .map (some mp)] 177)) (hmp : w1.heap[mp]? = some (.map #[] 0)) (hO : RdT 3 w1 (.slice ua 1 uc) ([256].map I)) : CmI w1 c (c0 κ X e ua uc mp) := by
 refine ⟨hc, hO.rd, fun a ha => hO.ty a 1 uc (by subst ha; rfl), hmp, Mr.MapIs.nil, hK.keep H (Out.cons hK.hb (by simp [kT, elT]) hL) (H.get .here) hX, ?_, rfl, show 1 ≤ 1 ∧ 1 ≤ 5 by decide, ?_, ?_⟩
 ·intro j nm x h1 h2
  match j, h1, h2 with
  | 0, h1, h2 => cases h1; cases h2; exact ⟨hW.ex, hW.hin, hW.he⟩
  | j + 1, h1, _ => simp [c0] at h1
 ·intro x hx; cases hx; rfl
 ·intro j x hj hx
  match j, hj, hx with
  | j + 1, _, hx => simp [c0] at hx
section
variable {w : World} {κ : KS} {wd ba' bc : Nat} {ba bb : Option Addr} {bl bbc : Nat} {hv : Value} {q : Nat × Nat}
theorem begin_ret (hw : w.heap[wd]? = some (blk [.slice bb bl bbc, .slice ba 0 bc, I 3, ptr κ.k 0, hv] 81)) (hK : Kr w κ) (hN : κ.N = 1280) (hW : Wn κ 0 256 0 492) (hq : κ.PB[0]? = some q) (ht : κ.ts[0]? = some tab1) :
  Ret Tryz.prog 26 #[ptr wd 0, I 0] w fun v w' => v = .tuple #[] ∧ Hp w [(κ.mb, blk ((X4 κ.xs).map U) 5)] w' := by
 refine Qi (args := [_, _]) func26 rfl ntmps26 results26 (by simp) ?_
 have H := Hp.refl w
 have hxl : κ.xs.length = 1280 := by rw [hK.hx, hN]
 (refine Js (Jr (Jm (Ji rfl (Jf 3 underlying81 rfl sizeOf71 rfl rfl (Jl isAgg71 rfl (H.block hw (by simp)) rfl (Jm (J (Bs (r := 0) rfl rfl (by decide)) (Jy rfl call53 rfl (cnew_ret (e := 0) hK hq ht (nms := [256]) (by kernel_rfl) (by simp)) ?_)))))))); rintro _ w9 ⟨c, u, mp, M, rfl, hc, hmp, hO, H1⟩; clear H; obtain ⟨ua, uc, rfl⟩ := hO.form; have hMk := hO.keys; have H := H1.foc hK.hb (Qu hc (Qu hmp hMk)); clear H1; have hRd : ∀ w2, Kp M w2 → RdT 3 w2 (.slice ua 1 uc) ([256].map I) := fun w2 h => RdT.own hO h)
 (refine Jm (Jx rfl rfl (Jx rfl rfl (Ja (Ja (Jn (Js (Jr (Jm (J (Qm (places := [(0, 1), (1, 1), (2, 1), (3, 1), (4, 32)]) (vs := Ring.piC q0) underlying131 typeInfo131 rfl rfl (by kernel_rfl) rfl rfl rfl) (Jy rfl call54 rfl (SetTerm_ret (cmi_at (X := κ.xs) hK hW H (Out.ofN (Qu hc (Qu hmp hMk))) hK.hx (H.get (.there .here)) (H.get (.there (.there .here))) (hRd _ (fun p hp => H.held p (by simp [hp])))) q0 okq0 lenq0 (by simp [c0])) ?_)))))))))); rintro _ w20 ⟨rfl, _, H1⟩; have H9 : Hp w ((κ.mb, blk ((X1 κ.xs).map U) 5) :: (c, blk [ptr κ.k 0, I 0, .slice ua 1 uc, .map (some mp)] 177) :: (mp, .map #[] 0) :: M) w20 := H.seq H1 (Yh .here Yi); clear H H1; have H := H9; clear H9)
 (refine Jn (Js (Jr (Jm (Jy rfl call55 rfl (SetFront_ret (g := 0) (cmi_at (X := X1 κ.xs) hK hW H (Out.ofN (Qu hc (Qu hmp hMk))) (by rw [x1_len hxl, hN]) (H.get (.there .here)) (H.get (.there (.there .here))) (hRd _ (fun p hp => H.held p (by simp [hp])))) (by decide) (by decide) (by simp [c0])) ?_)))); rintro _ w25 ⟨rfl, _, H1⟩; have H9 : Hp w ((κ.mb, blk ((X2 κ.xs).map U) 5) :: (c, blk [ptr κ.k 0, I 0, .slice ua 1 uc, .map (some mp)] 177) :: (mp, .map #[] 0) :: M) w25 := H.seq H1 (Yh .here Yi); clear H H1; have H := H9; clear H9)
 (refine Jn (Js (Jr (Jm (J (Qm (places := [(0, 1), (1, 1), (2, 1), (3, 1)]) (vs := File.flC f0) underlying135 typeInfo135 rfl rfl (by kernel_rfl) rfl rfl rfl) (Jy rfl call56 rfl (SetFile_ret (i := 0) (cmi_at (X := X2 κ.xs) hK hW H (Out.ofN (Qu hc (Qu hmp hMk))) (by rw [x2_len hxl, hN]) (H.get (.there .here)) (H.get (.there (.there .here))) (hRd _ (fun p hp => H.held p (by simp [hp])))) (by decide) f0 okf0 lenf0 (by simp [c0])) ?_))))); rintro _ w31 ⟨rfl, _, H1⟩; have H9 : Hp w ((κ.mb, blk ((X3 κ.xs).map U) 5) :: (c, blk [ptr κ.k 0, I 0, .slice ua 1 uc, .map (some mp)] 177) :: (mp, .map #[] 0) :: M) w31 := H.seq H1 (Yh .here Yi); clear H H1; have H := H9; clear H9)
 (refine Jn (Js (Jr (J (Qm (places := [(0, 1), (1, 1), (2, 1), (3, 1), (4, 1), (5, 1), (6, 1), (7, 1), (8, 8)]) (vs := Slot.piC p00) underlying58 typeInfo58 rfl rfl (by kernel_rfl) rfl rfl rfl) (Qb rfl (Slot.Qt H) ?_)))); clear H; intro c6 w36 hc6 H; replace H := H.swap2)
 (refine Qd rfl (Slot.Qn (q := p00) H rfl rfl (.there .here)) ?_; clear H; intro w37 H)
 (refine Jn (Js (Jr (Jf 8 underlying58 rfl sizeOf56 rfl rfl (J (Yq (off' := 8) underlying56 sizeOf3 rfl rfl (by decide) (by decide) (by decide)) (Qd rfl (Qz (v := I 1) H sizeOf3 rfl rfl rfl (.there .here) (by simp [Slot.Ya])) ?_))))); clear H; intro w43 H; replace H : Hp w ((κ.mb, blk ((X3 κ.xs).map U) 5) :: (c6, blk (Slot.piC p0) 58) :: (c, blk [ptr κ.k 0, I 0, .slice ua 1 uc, .map (some mp)] 177) :: (mp, .map #[] 0) :: M) w43 := H)
 refine Jn (Js (Jr (Ja (Jn (Js (Js (Jr (Jm (Ji rfl (Jf 0 underlying81 rfl sizeOf27 rfl rfl (Jf 1 underlying27 rfl sizeOf25 rfl rfl (J (Qe (v := .slice ba 0 bc) isAgg25 rfl (H.Xw (T := [81]) hw (by simp [elT]) (Out.cons hK.hb (by simp [elT]) (Out.ofN (Qu hc6 (Qu hc (Qu hmp hMk)))))) rfl) (J (Qh underlying25 rfl) (Jm (Jn (Jb (Vs 0 ?_)))))))))))))))))
 refine Js (Jr (J (Xp rfl rfl (by omega)) (Jn (Js (Jc rfl (Xr ?_))))))
 refine (if_pos rfl).mpr ?_
 (refine Jr (Jm (J (Slot.Xa (p := p0) rfl (H.get (.there .here))) (Jy rfl call58 rfl (SetProc_ret (i := 0) (cmi_at (X := X3 κ.xs) hK hW H (Out.ofN (Qu hc6 (Qu hc (Qu hmp hMk)))) (by rw [x3_len hxl, hN]) (H.get (.there (.there .here))) (H.get (.there (.there (.there .here)))) (hRd _ (fun p hp => H.held p (by simp [hp])))) (by decide) p0 okp0 lenp0 (by simp [c0])) ?_))); rintro _ w73 ⟨rfl, _, H1⟩; have H9 : Hp w ((κ.mb, blk ((X4 κ.xs).map U) 5) :: (c6, blk (Slot.piC p0) 58) :: (c, blk [ptr κ.k 0, I 0, .slice ua 1 uc, .map (some mp)] 177) :: (mp, .map #[] 0) :: M) w73 := H.seq H1 (Yh .here Yi); clear H H1; have H := H9; clear H9)
 refine Jn ?_
 exact ⟨_, rfl, rfl, Hp.cut (L := [_]) (M := _ :: _ :: _ :: M) H (Qu hc6 (Qu hc (Qu hmp hMk)))⟩
end
end Go.Proofs.YtlpmfldijgdcoaaGreatDoor.Wo
namespace Go.Proofs.YtlpmfldijgdcoaaGreatDoor.Wo
open Go Go.Proofs Fx Kn Cm Ho Tryz
/-- the commons' bytes, as they begin -/
def W0 : List UInt8 := Slot.Xm p0 ++ (List.replicate 168 0 ++ (File.Yj f0 ++ (List.replicate 88 0 ++ (List.replicate 160 0 ++ (Ring.Xm q0 ++ Nv 0)))))
theorem win_x4 : win (X4 (List.replicate 1280 0)) 0 492 = W0 := by kernel_rfl
theorem win_in (X : List UInt8) (a n : Nat) (h : a + n ≤ 492) : win X (0 + a) n = win (win X 0 492) a n := by
 unfold win
 rw [List.drop_zero, List.drop_take, List.take_take, Nat.zero_add, Nat.min_eq_left (by omega)]
def okP0 (i : Nat) : Bool := decide ((Slot.Xy (win W0 (24 * i) 24)).2 ≠ 2)
def okF0 (i : Nat) : Bool := decide ((File.Xy (win W0 (192 + 8 * i) 8)).2 ≠ 2)
def okQ0 (i : Nat) : Bool := decide ((Ring.Xy (win W0 (288 + 40 * i) 40)).2 ≠ 2)
theorem allP : ((List.range 8).all okP0) = true := by kernel_rfl
theorem allF : ((List.range 12).all okF0) = true := by kernel_rfl
theorem allQ : ((List.range 4).all okQ0) = true := by kernel_rfl
theorem allT : decide ((Ring.Xy (win W0 448 40)).2 ≠ 2) = true := by kernel_rfl
theorem allG : decide ((Nf (win W0 488 4)).2 ≠ 2) = true := by kernel_rfl
theorem theP : Slot.Xy (win W0 (24 * 0) 24) = (p0, 1) := by kernel_rfl
theorem snd0 (κ : KS) (e : Nat) (ua : Option Addr) (uc mp : Nat) : Snd (c0 κ (X4 (List.replicate 1280 0)) e ua uc mp) := by
 have hr : ∀ a n, a + n ≤ 492 → (c0 κ (X4 (List.replicate 1280 0)) e ua uc mp).rc 0 a n = win W0 a n := fun a n h => by
  rw [← win_x4, ← win_in _ _ _ h]; rfl
 refine ⟨rfl, fun i hi => ?_, fun i hi => ?_, fun i hi => ?_, ?_, ?_⟩
 ·unfold Cs.pD; rw [hr _ _ (by omega)]
  exact of_decide_eq_true (List.all_eq_true.1 allP i (List.mem_range.2 hi))
 ·unfold Cs.fD; rw [hr _ _ (by omega)]
  exact of_decide_eq_true (List.all_eq_true.1 allF i (List.mem_range.2 hi))
 ·have hi4 : i < 4 := hi
  unfold Cs.qD; rw [if_pos hi4, hr _ _ (by omega)]
  exact of_decide_eq_true (List.all_eq_true.1 allQ i (List.mem_range.2 hi4))
 ·unfold Cs.tD; rw [hr _ _ (by omega)]; exact of_decide_eq_true allT
 ·unfold Cs.gD; rw [hr _ _ (by omega)]; exact of_decide_eq_true allG
theorem pD0 (κ : KS) (e : Nat) (ua : Option Addr) (uc mp : Nat) : (c0 κ (X4 (List.replicate 1280 0)) e ua uc mp).pD 0 = (p0, 1) := by
 unfold Cs.pD
 rw [show (c0 κ (X4 (List.replicate 1280 0)) e ua uc mp).rc 0 (24 * 0) 24 = win W0 (24 * 0) 24 by rw [← win_x4, ← win_in _ _ _ (by omega)]; rfl]
 exact theP
end Go.Proofs.YtlpmfldijgdcoaaGreatDoor.Wo
namespace Go.Proofs.YtlpmfldijgdcoaaGreatDoor.Wo
open Go Go.Proofs Fx Kn Ke Cm Ho TabC Tryz
theorem Zr {w0 w w' : World} {L : List (Nat × Obj)} (Hw : Hp w0 [] w) (H : Hp w L w') (hL : ∀ p ∈ L, w0.heap.size ≤ p.1) : Hp w0 [] w' := by
 refine ⟨H.os.trans Hw.os, H.tape.trans Hw.tape, H.output.trans Hw.output, Nat.le_trans Hw.size H.size, fun k hk _ => ?_, (fun _ h => nomatch h), List.nodup_nil⟩
 rw [H.old k (Nat.lt_of_lt_of_le hk Hw.size) (fun hm => by
  obtain ⟨p, hp, e⟩ := List.mem_map.1 hm
  have := hL p hp; omega)]
 exact Hw.old k hk (by simp)
theorem own0 {B b e sz : Nat} (hb : B ≤ b) : Yo B e sz (sl b 0 0 0) 0 [] [(b, blk [] e)] := Yo.new (sp := []) hb (by simp) (by simp) (Nat.le_refl _)
theorem permA {α : Type} (b d : α) (A N R : List α) : (A ++ b :: d :: (N ++ R)).Perm (b :: d :: (N ++ (A ++ R))) :=
 List.perm_middle.trans (.cons _ (List.perm_middle.trans (.cons _ (List.perm_append_comm_assoc _ _ _))))
theorem Ks_with {w : World} {κ : KS} {X : List UInt8} {e n sp : Nat} (h : Ks w κ e n sp) : Ks w { κ with xs := X } e n sp := ⟨h.hk, h.ex, h.he, h.he2⟩
/-- a host, and its commons -/
structure HF (κ : KS) (i h c mp uc : Nat) (ua : Option Addr) (w : World) : Prop where
 h : w.heap[h]? = some (blk [ptr κ.k 0, I i, I i, I 0, ptr c 0, I 0, I 0, I 0, I 0, I 0, nilS] 139)
 c : w.heap[c]? = some (blk [ptr κ.k 0, I i, .slice ua 1 uc, .map (some mp)] 177)
 m : w.heap[mp]? = some (.map #[] 0)
 u : RdT 3 w (.slice ua 1 uc) ([256].map I)
/-- what one sees of a world of one session -/
structure Wd (w : World) (C : Cs) (wd h c sp : Nat) : Prop where
 wb : ∃ bb bbc ba bc ha hc la lc l, w.heap[wd]? = some (blk [.slice bb 1 bbc, .slice ba 0 bc, I 3, ptr C.κ.k 0, .slice ha 1 hc] 81) ∧ RdT 83 w (.slice ha 1 hc) [.slice la 8 lc] ∧ RdT 84 w (.slice la 8 lc) l ∧ l[0]? = some (ptr h 0)
 cm : CmI w c C
 ks : Ks w C.κ 0 0 sp
/-- a world of one session, as it begins -/
structure W8 (w : World) (κ : KS) (bt : Bool) (wd sp : Nat) (hb : List Nat) : Prop where
 wb : ∃ bb bbc ba bc ha hc la lc, w.heap[wd]? = some (blk [.slice bb 1 bbc, .slice ba 0 bc, I 3, ptr κ.k 0, .slice ha 1 hc] 81) ∧ RdT 83 w (.slice ha 1 hc) [.slice la 8 lc] ∧ RdT 84 w (.slice la 8 lc) (hb.map fun h => ptr h 0) ∧ RdT 4 w (.slice bb 1 bbc) [.bool bt]
 hl : hb.length = 8
 hf : ∀ (j h : Nat), hb[j]? = some h → ∃ c mp uc ua, HF κ j h c mp uc ua w ∧ CmI w c (c0 κ κ.xs j ua uc mp)
 ks : ∀ e, e < 9 → Ks w κ e 0 sp
 kr : Kr w κ
 sb : w.heap[sp]? = some (blk (Sect.sxC (Sect.Bh 3) nilS) 170)
 n : κ.N = 1280
 now : κ.now = 0
 tb : ∀ e, e < 9 → ∃ q, κ.PB[e]? = some q ∧ κ.ts[e]? = some Ke.tab1
section
variable {w : World} {pa : Option Addr} {pc : Nat}
theorem wnew8_ret {bt : Bool} (hp : P1 w bt pa pc) : Ret Tryz.prog 13 #[.agg #[.slice pa 1 pc, nilS, I 3]] w fun v w' => ∃ κ wd sp hb, v = .tuple #[ptr wd 0, I 0] ∧ κ.xs = X4 (List.replicate 1280 0) ∧ W8 w' κ bt wd sp hb ∧ (∀ h ∈ hb, w.heap.size ≤ h) ∧ w.heap.size ≤ sp ∧ w.heap.size ≤ κ.mb ∧ w.heap.size ≤ wd ∧ w.heap.size ≤ κ.k ∧ Hp w [] w' := by
 refine Qi (args := [_]) func13 rfl ntmps13 results13 (by simp) ?_
 have H := Hp.refl w
 (refine Js (Jr (Qb rfl (Xl (vs := [.slice pa 1 pc, nilS, I 3]) H rfl rfl) ?_)); clear H; intro c1 w3 hc1 H)
 (refine Ja (Ja (Jn (Js (Js (Jr (J (Qo (vs := [.slice pa 1 pc, nilS, I 3]) isAgg27 sizeOf27 rfl (H.get .here) rfl (by simp)) (Jz rfl call23 rfl (Top.Dw (hp.Ql H kYs).plan) H ?_))))))); intro w11 H)
 (refine Ja (Jn (Js (Jr (Jm (J (Yl rfl rfl (by omega)) (Jn (Jc rfl (Jk (Js (Jr (J (Qo (vs := [.slice pa 1 pc, nilS, I 3]) isAgg27 sizeOf27 rfl (H.get .here) rfl (by simp)) (Jy rfl call25 rfl (boot_ret (hp.Ql H kYs)) ?_)))))))))))); rintro _ w24 ⟨B, rfl, hB, H1⟩; replace H := H.seq0 H1; clear H1)
 (refine Jy rfl call24 rfl (knew_ret hB) ?_; rintro _ w9 ⟨κ, sp, rfl, hKw, hsp, hmb, hkk, H1⟩; replace hsp := Nat.le_trans H.size hsp; replace hmb := Nat.le_trans H.size hmb; replace hkk := Nat.le_trans H.size hkk; replace H := H.seq0 H1; clear H1; have hc1b := H.get .here; have hp9 := hp.Ql H (Qu hc1 Xu); have Hw := H.none (Qu hc1 Xu); clear H; have H := Hp.refl w9)
 refine Jm (Jx rfl rfl (Jx rfl rfl (Ja (Ja (Jn (Js (Js (Jr (Jm (J (Yl rfl rfl (by omega)) (Jn (Jc rfl (Jk ?_)))))))))))))
 refine W_seqS [(7, 7), (27, 40)] (fun E w' => ∃ wd bb bbc ba bc R, E 7 = ptr wd 0 ∧ w9.heap.size ≤ wd ∧ (∀ p ∈ R, w9.heap.size ≤ p.1) ∧ (∀ w2, Kp R w2 → RdT 4 w2 (.slice bb 1 bbc) [.bool bt]) ∧ Hp w9 ((wd, blk [.slice bb 1 bbc, .slice ba 0 bc, I 3, ptr κ.k 0, nilS] 81) :: R) w') ?c7 ?k7
 ·(refine Xi (KH w9 []) (fun _ => false) (by kernel_rfl) H ?_; clear H; intro w41 H)
  refine Am 0 rfl H.kK (Az 2 rfl rfl H.kK (fun _ hC => Qa (off' := 0) underlying27 rfl sizeOf24 (by decide) rfl rfl) (Az 3 rfl rfl H.kK (fun _ hC => Qe (v := .slice pa 1 pc) isAgg24 rfl (hC.Qc hc1b kYs) rfl) (Az 6 rfl rfl H.kK (fun _ hC => Qa (off' := 1) underlying27 rfl sizeOf25 (by decide) rfl rfl) (Az 7 rfl rfl H.kK (fun _ hC => Qe (v := nilS) isAgg25 rfl (hC.Qc hc1b kYs) rfl) (Az 9 rfl rfl H.kK (fun _ hC => Qa (off' := 2) underlying27 rfl sizeOf3 (by decide) rfl rfl) (Az 10 rfl rfl H.kK (fun _ hC => Qe (v := I 3) isAgg3 rfl (hC.Qc hc1b kYs) rfl) (Zf (i := 1) (j := 5) (by kernel_rfl) ?_ ?_)))))))
  ·(refine Xd rfl (.inl rfl) (Xk (vs := []) H underlying24 sizeOf4 zeroValue4 rfl rfl (by decide) rfl rfl (by simp)) (fun _ _ _ H _ => H.kh (by simp) kYs) ?_; clear H; intro b28 w50 hb28 H)
   refine Zf (i := 4) (j := 5) (by kernel_rfl) ?_ ?_
   ·(refine Bn rfl (.inl rfl) (Yx (news := [.bool bt]) (m := 1) H (AtM.here (M := [(b28, blk [] 4)]) (B := _)) (own0 (e := 4) (sz := 1) hb28) underlying24 typeInfo4 rfl rfl rfl rfl rfl rfl ((hp9.bad.Yd H kYs).src underlying24 (by simp [Top.Bo, Value.oneCell'])) (by decide) (by simp only [Tryz.t4]; decide)) (fun _ _ _ hO H _ => H.kh (by simp) (by have hk9 := hO.keys; (repeat' first | exact Xu | apply Qu | apply Yv | assumption))) ?_; clear H; intro vB MB w52 hOB H; obtain ⟨bb, bbc, rfl⟩ := hOB.form; have hMB := hOB.keys)
    (refine Ao 5 (Xd rfl (.inl rfl) (Zt (vss := []) H underlying25 sizeOf64 zeroValue64 rfl rfl (by decide) rfl rfl (by simp)) (fun _ _ _ H _ => H.kh (by simp) kYs) ?_); clear H; intro b32 w54 hb32 H)
    (refine Ao 8 (Bn rfl (.inl rfl) (Yx (news := []) (m := 0) H (AtM.here (M := [(b32, blk [] 64)]) (B := _)) (own0 (e := 64) (sz := 2) hb32) underlying25 typeInfo64 rfl rfl rfl rfl rfl rfl ((RdR.nil (f := Top.brC)).src Top.brC_len underlying25 (by simp [rows])) (by decide) (by simp only [Tryz.t64]; decide)) (fun _ _ _ hO H _ => H.kh (by simp) (by have hk9 := hO.keys; (repeat' first | exact Xu | apply Qu | apply Yv | assumption))) ?_); clear H; intro vG MG w56 hOG H; obtain ⟨ba, bc, rfl⟩ := hOG.form; have hMG := hOG.keys)
    (refine Az 11 rfl rfl H.kK (fun _ hC => Qm (places := [(0, 1), (1, 1), (2, 1)]) (vs := [.slice bb 1 bbc, .slice ba 0 bc, I 3]) underlying27 typeInfo27 rfl rfl (by kernel_rfl) rfl rfl rfl) (Az 12 rfl rfl H.kK (fun _ hC => Qm (places := [(0, 3), (3, 1), (4, 1)]) (vs := [.slice bb 1 bbc, .slice ba 0 bc, I 3, ptr κ.k 0, nilS]) underlying81 typeInfo81 rfl rfl (by kernel_rfl) rfl rfl rfl) (Ao 13 (Xd rfl (.inl rfl) (Xl (vs := [.slice bb 1 bbc, .slice ba 0 bc, I 3, ptr κ.k 0, nilS]) H rfl rfl) (fun _ _ _ H _ => H.kh (by simp) kYs) ?_))); clear H; intro wd w60 hwd H)
    refine Aa 14 rfl H.kK (Ad ?_)
    exact ⟨kS, wd, bb, bbc, ba, bc, _, rfl, hwd, kYs, (fun w2 h => RdT.own hOB (fun p hp => h p (by simp [hp]))), H⟩
   ·(refine Xd rfl (.inl rfl) (Zt (vss := []) H underlying25 sizeOf64 zeroValue64 rfl rfl (by decide) rfl rfl (by simp)) (fun _ _ _ H _ => H.kh (by simp) kYs) ?_; clear H; intro b32 w64 hb32 H)
    (refine Ao 4 (Bn rfl (.inl rfl) (Yx (news := [.bool bt]) (m := 1) H (AtM.there (AtM.here (M := [(b28, blk [] 4)]) (B := _))) (own0 (e := 4) (sz := 1) hb28) underlying24 typeInfo4 rfl rfl rfl rfl rfl rfl ((hp9.bad.Yd H kYs).src underlying24 (by simp [Top.Bo, Value.oneCell'])) (by decide) (by simp only [Tryz.t4]; decide)) (fun _ _ _ hO H _ => H.kh (by simp) (by have hk9 := hO.keys; (repeat' first | exact Xu | apply Qu | apply Yv | assumption))) ?_); clear H; intro vB MB w66 hOB H; obtain ⟨bb, bbc, rfl⟩ := hOB.form; have hMB := hOB.keys)
    (refine Ao 8 (Bn rfl (.inl rfl) (Yx (news := []) (m := 0) H (AtM.here (M := [(b32, blk [] 64)]) (B := _)) (own0 (e := 64) (sz := 2) hb32) underlying25 typeInfo64 rfl rfl rfl rfl rfl rfl ((RdR.nil (f := Top.brC)).src Top.brC_len underlying25 (by simp [rows])) (by decide) (by simp only [Tryz.t64]; decide)) (fun _ _ _ hO H _ => H.kh (by simp) (by have hk9 := hO.keys; (repeat' first | exact Xu | apply Qu | apply Yv | assumption))) ?_); clear H; intro vG MG w68 hOG H; obtain ⟨ba, bc, rfl⟩ := hOG.form; have hMG := hOG.keys)
    (refine Az 11 rfl rfl H.kK (fun _ hC => Qm (places := [(0, 1), (1, 1), (2, 1)]) (vs := [.slice bb 1 bbc, .slice ba 0 bc, I 3]) underlying27 typeInfo27 rfl rfl (by kernel_rfl) rfl rfl rfl) (Az 12 rfl rfl H.kK (fun _ hC => Qm (places := [(0, 3), (3, 1), (4, 1)]) (vs := [.slice bb 1 bbc, .slice ba 0 bc, I 3, ptr κ.k 0, nilS]) underlying81 typeInfo81 rfl rfl (by kernel_rfl) rfl rfl rfl) (Ao 13 (Xd rfl (.inl rfl) (Xl (vs := [.slice bb 1 bbc, .slice ba 0 bc, I 3, ptr κ.k 0, nilS]) H rfl rfl) (fun _ _ _ H _ => H.kh (by simp) kYs) ?_))); clear H; intro wd w72 hwd H)
    refine Aa 14 rfl H.kK (Ad ?_)
    exact ⟨kS, wd, bb, bbc, ba, bc, _, rfl, hwd, kYs, (fun w2 h => RdT.own hOB (fun p hp => h p (by simp [hp]))), H⟩
  ·(refine Xd rfl (.inl rfl) (Zt (vss := []) H underlying25 sizeOf64 zeroValue64 rfl rfl (by decide) rfl rfl (by simp)) (fun _ _ _ H _ => H.kh (by simp) kYs) ?_; clear H; intro b32 w76 hb32 H)
   (refine Ao 1 (Xd rfl (.inl rfl) (Xk (vs := []) H underlying24 sizeOf4 zeroValue4 rfl rfl (by decide) rfl rfl (by simp)) (fun _ _ _ H _ => H.kh (by simp) kYs) ?_); clear H; intro b28 w78 hb28 H)
   (refine Ao 4 (Bn rfl (.inl rfl) (Yx (news := [.bool bt]) (m := 1) H (AtM.here (M := [(b28, blk [] 4)]) (B := _)) (own0 (e := 4) (sz := 1) hb28) underlying24 typeInfo4 rfl rfl rfl rfl rfl rfl ((hp9.bad.Yd H kYs).src underlying24 (by simp [Top.Bo, Value.oneCell'])) (by decide) (by simp only [Tryz.t4]; decide)) (fun _ _ _ hO H _ => H.kh (by simp) (by have hk9 := hO.keys; (repeat' first | exact Xu | apply Qu | apply Yv | assumption))) ?_); clear H; intro vB MB w80 hOB H; obtain ⟨bb, bbc, rfl⟩ := hOB.form; have hMB := hOB.keys)
   (refine Ao 8 (Bn rfl (.inl rfl) (Yx (news := []) (m := 0) H (AtM.app MB (AtM.here (M := [(b32, blk [] 64)]) (B := _))) (own0 (e := 64) (sz := 2) hb32) underlying25 typeInfo64 rfl rfl rfl rfl rfl rfl ((RdR.nil (f := Top.brC)).src Top.brC_len underlying25 (by simp [rows])) (by decide) (by simp only [Tryz.t64]; decide)) (fun _ _ _ hO H _ => H.kh (by simp) (by have hk9 := hO.keys; (repeat' first | exact Xu | apply Qu | apply Yv | assumption))) ?_); clear H; intro vG MG w82 hOG H; obtain ⟨ba, bc, rfl⟩ := hOG.form; have hMG := hOG.keys)
   (refine Az 11 rfl rfl H.kK (fun _ hC => Qm (places := [(0, 1), (1, 1), (2, 1)]) (vs := [.slice bb 1 bbc, .slice ba 0 bc, I 3]) underlying27 typeInfo27 rfl rfl (by kernel_rfl) rfl rfl rfl) (Az 12 rfl rfl H.kK (fun _ hC => Qm (places := [(0, 3), (3, 1), (4, 1)]) (vs := [.slice bb 1 bbc, .slice ba 0 bc, I 3, ptr κ.k 0, nilS]) underlying81 typeInfo81 rfl rfl (by kernel_rfl) rfl rfl rfl) (Ao 13 (Xd rfl (.inl rfl) (Xl (vs := [.slice bb 1 bbc, .slice ba 0 bc, I 3, ptr κ.k 0, nilS]) H rfl rfl) (fun _ _ _ H _ => H.kh (by simp) kYs) ?_))); clear H; intro wd w86 hwd H)
   refine Aa 14 rfl H.kK (Ad ?_)
   exact ⟨kS, wd, bb, bbc, ba, bc, _, rfl, hwd, kYs, (fun w2 h => RdT.own hOB (fun p hp => h p (by simp [hp]))), H⟩
 ·(clear H; rintro E9 w10 ⟨wd, bb, bbc, ba, bc, R, h7, hwd, hR, hRb, H⟩; refine Ur h7 ?_; have hlt3 := Qr hKw.kr.hb; obtain ⟨q0', hq0, ht0⟩ := hKw.tb 0 (by decide); have hxl : κ.xs.length = 1280 := (by rw [hKw.xs]; simp))
  refine Js (Js (Jr (Jf 0 underlying27 rfl sizeOf24 rfl rfl (J (Qe (v := .slice pa 1 pc) isAgg24 rfl (H.Qc hc1b (Qu hwd hR)) rfl) (J (Qh underlying24 rfl) (Jm (Jn (Jb (Vs 1 ?_)))))))))
  (refine Js (Jr (J (Za rfl rfl (by omega)) (Jn (Js (Jd rfl (Jk (Js (Jb (Js (Jr (Jm (Ja (Jn (Js (Jr (Jm (Jm (Jy rfl call26 rfl (begin_ret (H.get .here) (hKw.kr.Ql H (Qu hwd hR)) hKw.n (hKw.wn 0 (by decide)) hq0 ht0) ?_)))))))))))))))))); rintro _ w119 ⟨rfl, H1⟩; have H9 : Hp w9 ((κ.mb, blk ((X4 κ.xs).map U) 5) :: (wd, blk [.slice bb 1 bbc, .slice ba 0 bc, I 3, ptr κ.k 0, nilS] 81) :: R) w119 := Uj H (Qu hwd hR) H1 (by intro p hp; rw [List.mem_singleton] at hp; subst hp; exact .inl hlt3); clear H H1; have H := H9; clear H9)
  refine Jn (Js (Jr (Ja (Jn (Js (Js (Jr (Jm (Jn (Jb ?_))))))))))
  refine Yg [(9, 12), (50, 68)] (fun (i : Nat) E w' => i ≤ 8 ∧ E 50 = I i ∧ ∃ (lv : Value) (hb : List Nat) (M R2 : List (Nat × Obj)), E 9 = lv ∧ hb.length = i ∧ Yo w9.heap.size 84 1 lv i (hb.map fun h => ptr h 0) M ∧ (∀ p ∈ R2, w9.heap.size ≤ p.1) ∧ (∀ w2, Kp R2 w2 → RdT 4 w2 (.slice bb 1 bbc) [.bool bt]) ∧ (∀ h ∈ hb, w9.heap.size ≤ h) ∧ (∀ (j h : Nat), hb[j]? = some h → ∃ c mp uc ua, ∀ w2, Kp R2 w2 → HF κ j h c mp uc ua w2) ∧ Hp w9 ((κ.mb, blk ((X4 κ.xs).map U) 5) :: (wd, blk [.slice bb 1 bbc, .slice ba 0 bc, I 3, ptr κ.k 0, nilS] 81) :: (M ++ R2)) w') (fun i => 8 - i) 0 ?e2 ?r2
  ·exact ⟨by omega, rfl, nilS, [], [], R, rfl, rfl, Yo.nil _ _ _, hR, hRb, (fun _ h => nomatch h), (fun _ _ h => nomatch h), H⟩
  ·(clear H; rintro i E w1 ⟨hi, h50, lv, hb, M, R2, hlv, hll, hO, hR2, hRb2, hge, hF, H⟩; obtain ⟨la, lc, rfl⟩ := hO.form; refine W_kn2 h50 hlv ?_; have hM := hO.keys)
   refine Js (Jr (J (Vb rfl rfl) (Jn (Js (Xo rfl (fun h138 => ?_) (fun h138 => ?_))))))
   ·refine Jk (Js (Jb (Js (Jr (Jm (Ja (Jn (Js (Jr (Jm (Jm (J (Bs (r := 0) rfl rfl (by decide)) (Jm (J (Xg (r := (i : Int)) rfl rfl (by rw [Xc (by omega)]; omega)) (Jm (Jm ?_))))))))))))))))
    (have hKO : Out kT w9 ((κ.mb, blk ((X4 κ.xs).map U) 5) :: (wd, blk [.slice bb 1 bbc, .slice ba 0 bc, I 3, ptr κ.k 0, nilS] 81) :: (M ++ R2)) := Out.cons hKw.kr.hb (by simp [kT, elT]) (Out.new hwd (Out.ofN (Yv hM hR2))); have hSO : Out sT w9 ((κ.mb, blk ((X4 κ.xs).map U) 5) :: (wd, blk [.slice bb 1 bbc, .slice ba 0 bc, I 3, ptr κ.k 0, nilS] 81) :: (M ++ R2)) := Out.cons hKw.kr.hb (by simp [sT, elT]) (Out.new hwd (Out.ofN (Yv hM hR2))); obtain ⟨q', hq', ht'⟩ := hKw.tb i (by omega); refine Vl rfl (Qw rfl call27 rfl) (hnew_ret (κ := { κ with xs := X4 κ.xs }) (e := i) (n := 0) (sl := i) (nms := [256]) (Ks_with ((hKw.ks i (by omega)).keep H hSO)) (hKw.kr.keep H hKO (H.get .here) (by rw [x4_len hxl, hKw.n])) hq' ht' (by kernel_rfl) (by simp) (by omega)) ?_; rintro _ w156 ⟨h', c', u', mp', M', rfl, hh', hc', hmp', hO', H1⟩; obtain ⟨ua', uc', rfl⟩ := hO'.form; have hRd' : ∀ w2, Kp M' w2 → RdT 3 w2 (.slice ua' 1 uc') ([256].map I) := (fun w2 h => RdT.own hO' h); have hM' : ∀ p ∈ M', w9.heap.size ≤ p.1 := (fun p hp => Nat.le_trans H.size (hO'.keys p hp)); have hA : ∀ p ∈ (h', blk [ptr κ.k 0, I i, I i, I 0, ptr c' 0, I 0, I 0, I 0, I 0, I 0, nilS] 139) :: (c', blk [ptr κ.k 0, I i, .slice ua' 1 uc', .map (some mp')] 177) :: (mp', .map #[] 0) :: M', w9.heap.size ≤ p.1 := Qu (Nat.le_trans H.size hh') (Qu (Nat.le_trans H.size hc') (Qu (Nat.le_trans H.size hmp') hM')); have H9 : Hp w9 (((h', blk [ptr κ.k 0, I i, I i, I 0, ptr c' 0, I 0, I 0, I 0, I 0, I 0, nilS] 139) :: (c', blk [ptr κ.k 0, I i, .slice ua' 1 uc', .map (some mp')] 177) :: (mp', .map #[] 0) :: M') ++ ((κ.mb, blk ((X4 κ.xs).map U) 5) :: (wd, blk [.slice bb 1 bbc, .slice ba 0 bc, I 3, ptr κ.k 0, nilS] 81) :: (M ++ R2))) w156 := H.Zo H1 (Qu hh' (Qu hc' (Qu hmp' hO'.keys))); clear H H1; have H := H9.perm (permA _ _ _ _ _); clear H9 hO')
    (refine Jm (Jx rfl rfl (Jx rfl rfl (Ja (Ja (Jn (Jr (Jm (Jm (Qb rfl (Xk (vs := [ptr h' 0]) H underlying83 sizeOf84 zeroValue84 rfl rfl (by decide) rfl rfl (by simp [Value.oneCell'])) ?_))))))))); clear H; intro b66 w166 hb66 H)
    (refine Ve rfl (Yx (news := [ptr h' 0]) (m := 1) H (.there (.there (.there .here))) hO underlying83 typeInfo84 rfl rfl rfl rfl rfl rfl (Ut underlying83 (H.get .here) rfl) (by omega) (by simp only [Tryz.t84]; omega)) ?_; clear H hO; intro v5 M5 w167 hO H; obtain ⟨la5, lc5, rfl⟩ := hO.form; replace H := H.pop hb66)
    refine Ja (Jn (Jr (J (Xg rfl rfl (Xc (by omega))) (Jm (Jn ?_)))))
    exact ⟨kS, i + 1, by omega, by omega, rfl, _, hb ++ [h'], M5, ((h', blk [ptr κ.k 0, I i, I i, I 0, ptr c' 0, I 0, I 0, I 0, I 0, I 0, nilS] 139) :: (c', blk [ptr κ.k 0, I i, .slice ua' 1 uc', .map (some mp')] 177) :: (mp', .map #[] 0) :: M') ++ R2, rfl, (by simp [hll]), (by rw [List.map_append]; exact hO), Yv hA hR2, (fun w2 hw2 => hRb2 w2 (fun p hp => hw2 p (by simp [hp]))), (by intro x hx; rcases List.mem_append.1 hx with hx | hx; exact hge x hx; rw [List.mem_singleton.1 hx]; exact hA _ (.head _)), (by intro j x hx; rcases Nat.lt_or_ge j i with hj | hj; (rw [List.getElem?_append_left (by omega)] at hx; obtain ⟨c, mp, uc, ua, hf⟩ := hF j x hx; exact ⟨c, mp, uc, ua, fun w2 hw2 => hf w2 (fun p hp => hw2 p (by simp [hp]))⟩); (rw [List.getElem?_append_right (by omega)] at hx; have hj9 : j = i := (by have := (List.getElem?_eq_some_iff.1 hx).1; rw [List.length_singleton] at this; omega); subst hj9; rw [hll, Nat.sub_self] at hx; cases hx; exact ⟨c', mp', uc', ua', fun w2 hw2 => ⟨hw2 (h', _) (by simp), hw2 (c', _) (by simp), hw2 (mp', _) (by simp), hRd' w2 (fun p hp => hw2 p (by simp [hp]))⟩⟩)), H⟩
   ·refine Xr ?_
    refine (if_pos rfl).mpr ?_
    ((obtain rfl : i = 8 := (by omega))) <;> refine Qk ?_
    (refine Jm (Jm (Ji rfl (Jf 4 underlying81 rfl sizeOf79 rfl rfl (Jl isAgg79 rfl (H.get (.there .here)) rfl (Jm (Qb rfl (Xk (vs := [.slice la 8 lc]) H underlying79 sizeOf83 zeroValue83 rfl rfl (by decide) rfl rfl (by simp [Value.oneCell'])) ?_)))))); clear H; intro b75 w184 hb75 H)
    (refine Ve rfl (Yx (news := [.slice la 8 lc]) (m := 1) H (AtM.here (M := []) (B := _)) (Yo.nil _ _ _) underlying79 typeInfo83 rfl rfl rfl rfl rfl rfl (Ut underlying79 (H.get .here) rfl) (by decide) (by simp only [Tryz.t83]; decide)) ?_; clear H; intro hv HS w185 hOH H; obtain ⟨ha, hc, rfl⟩ := hOH.form; have hHS := hOH.keys; replace H := (H.perm (perm4 _ _ _ _ _)).pop hb75)
    (refine Ji rfl (Jf 4 underlying81 rfl sizeOf79 rfl rfl (Qd rfl (Qz (v := .slice ha 1 hc) H sizeOf79 rfl rfl rfl (.there .here) (by simp)) ?_)); clear H; intro w188 H; replace H : Hp w9 ((κ.mb, blk ((X4 κ.xs).map U) 5) :: (wd, blk [.slice bb 1 bbc, .slice ba 0 bc, I 3, ptr κ.k 0, .slice ha 1 hc] 81) :: (HS ++ (M ++ R2))) w188 := H)
    refine Jn (Jr (J (Xg (r := 1) rfl rfl (by decide)) (Jm (Jn ?_))))
    refine Bp ?_
    refine Js (Jr (J (Xp rfl rfl (by omega)) (Jn (Js (Jc rfl (Xr ?_))))))
    refine (if_pos rfl).mpr ?_
    refine Js (Jr (Jm (Ja (Ja (Jn (Je ?_))))))
    (have hL9 : ∀ p ∈ (wd, blk [.slice bb 1 bbc, .slice ba 0 bc, I 3, ptr κ.k 0, .slice ha 1 hc] 81) :: (HS ++ (M ++ R2)), w9.heap.size ≤ p.1 := Qu hwd (Yv hHS (Yv hM hR2)); have hsz := Hw.size; have hxs := hKw.xs; have hlx : (X4 κ.xs).length = κ.N := (by rw [x4_len hxl, hKw.n]); have hO1 : ∀ {T : List Nat}, 5 ∉ T → Out T w9 ((κ.mb, blk ((X4 κ.xs).map U) 5) :: (wd, blk [.slice bb 1 bbc, .slice ba 0 bc, I 3, ptr κ.k 0, .slice ha 1 hc] 81) :: (HS ++ (M ++ R2))) := (fun hT => Out.cons hKw.kr.hb (by simpa [elT] using hT) (Out.ofN hL9)); have hkp : Kp R2 _ := (fun p hp => H.held p (by simp [hp])); exact ⟨_, rfl, { κ with xs := X4 κ.xs }, wd, sp, hb, rfl, (by rw [hxs]), ⟨⟨bb, bbc, ba, bc, ha, hc, la, lc, H.get (.there .here), RdT.own hOH (fun p hp => H.held p (by simp [hp])), RdT.own hO (fun p hp => H.held p (by simp [hp])), hRb2 _ hkp⟩, hll, (fun j x hx => by obtain ⟨c, mp, uc, ua, hf⟩ := hF j x hx; have hK := hf _ hkp; have hj := (List.getElem?_eq_some_iff.1 hx).1; have h9 := cmi_at hKw.kr (hKw.wn j (by omega)) H (Out.ofN hL9) hlx hK.c hK.m hK.u; exact ⟨c, mp, uc, ua, ⟨hK.h, hK.c, hK.m, hK.u⟩, h9⟩), (fun e he => Ks_with ((hKw.ks e he).keep H (hO1 (by simp [sT])))), hKw.kr.keep H (hO1 (by simp [kT])) (H.get .here) hlx, H.Xw (T := [170]) hKw.sb (by simp [elT]) (hO1 (by simp)), hKw.n, hKw.now, hKw.tb⟩, (fun x hx => Nat.le_trans hsz (hge x hx)), hsp, hmb, Nat.le_trans hsz hwd, hkk, Zr Hw H (Qu hmb (fun p hp => Nat.le_trans hsz (hL9 p hp)))⟩)
theorem wnew_ret {bt : Bool} (hp : P1 w bt pa pc) : Ret Tryz.prog 13 #[.agg #[.slice pa 1 pc, nilS, I 3]] w fun v w' => ∃ κ ua uc mp wd h c sp, v = .tuple #[ptr wd 0, I 0] ∧ Wd w' (c0 κ (X4 (List.replicate 1280 0)) 0 ua uc mp) wd h c sp ∧ κ.now = 0 ∧
  w'.heap[h]? = some (blk [ptr κ.k 0, I 0, I 0, I 0, ptr c 0, I 0, I 0, I 0, I 0, I 0, nilS] 139) ∧ w'.heap[sp]? = some (blk (Sect.sxC (Sect.Bh 3) nilS) 170) ∧ w.heap.size ≤ h ∧ w.heap.size ≤ sp ∧ w.heap.size ≤ κ.mb ∧ Hp w [] w' := by
 refine (wnew8_ret hp).mono ?_
 rintro v w' ⟨κ, wd, sp, hb, rfl, hx, hW, hge, hsp, hmb, hwd, hkk, H⟩
 obtain ⟨bb, bbc, ba, bc, ha, hc, la, lc, h1, h2, h3, h4⟩ := hW.wb
 obtain ⟨h, hh⟩ : ∃ h, hb[0]? = some h := ⟨_, List.getElem?_eq_getElem (by have := hW.hl; omega)⟩
 obtain ⟨c, mp, uc, ua, hf, hcm⟩ := hW.hf 0 h hh
 rw [← hx]
 exact ⟨κ, ua, uc, mp, wd, h, c, sp, rfl, ⟨⟨bb, bbc, ba, bc, ha, hc, la, lc, _, h1, h2, h3, by rw [List.getElem?_map, hh]; rfl⟩, hcm, hW.ks 0 (by decide)⟩, hW.now, hf.h, hW.sb, hge h (List.mem_of_getElem? hh), hsp, hmb, H⟩
end
end Go.Proofs.YtlpmfldijgdcoaaGreatDoor.Wo
namespace Go.Proofs.YtlpmfldijgdcoaaGreatDoor.Wp
open Go Go.Proofs Fx Kn Cm Ho TabC Tryz
/-- a slice lies ahead of a bound -/
def Lo (B : Nat) (v : Value) : Prop := ∀ a m c, v = .slice (some a) m c → a.block < B
/-- what of a section's rights stays as it is -/
def KsI (w : World) (κ : KS) (e n sp B : Nat) : Prop :=
 ∃ (envs : List Int) (mays : List Value) (l : List Int) (mv : Value) (ss : List Value) (x : Int), (RdT 3 w (.slice κ.ea κ.en κ.ec) (envs.map I) ∧ Lo B (.slice κ.ea κ.en κ.ec)) ∧ envs[e]? = some x ∧ RdT 22 w κ.mayv mays ∧ mays[n]? = some mv ∧
  (RdT 3 w mv (l.map I) ∧ Lo B mv) ∧ x ∈ l ∧ RdT 115 w κ.sv ss ∧ ss[n]? = some (ptr sp 0) ∧ l.length ≤ 100 ∧ ss.length ≤ 8 ∧ e < κ.en ∧ κ.en ≤ 40
theorem lo_of {w : World} {T : Nat} {v : Value} {xs : List Value} (h : RdT T w v xs) : Lo w.heap.size v := fun a m c e => by
 obtain ⟨o, h1, _⟩ := h.ty a m c e; exact Qr h1
theorem KsI.of {w : World} {κ : KS} {e n sp : Nat} (h : Ks w κ e n sp) : KsI w κ e n sp w.heap.size := by
 obtain ⟨envs, mays, l, mv, ss, x, h1, h2, h3, h4, h5, h6, h7, h8, h9, h10⟩ := h.ex
 exact ⟨envs, mays, l, mv, ss, x, ⟨h1, lo_of h1⟩, h2, h3, h4, ⟨h5, lo_of h5⟩, h6, h7, h8, h9, h10, h.he, h.he2⟩
theorem KsI.ks {w : World} {κ : KS} {e n sp B : Nat} (h : KsI w κ e n sp B) (hk : w.heap[κ.k]? = some κ.kb) : Ks w κ e n sp := by
 obtain ⟨envs, mays, l, mv, ss, x, h1, h2, h3, h4, h5, h6, h7, h8, h9, h10, h11, h12⟩ := h
 exact ⟨hk, ⟨envs, mays, l, mv, ss, x, h1.1, h2, h3, h4, h5.1, h6, h7, h8, h9, h10⟩, h11, h12⟩
section
variable {w w' : World} {sp : Nat} {S : Sect.Sx} {qs : List Nat} {L : List (Nat × Obj)} {B : Nat} {v : Value} {xs : List Value}
theorem rdI (h : RdT 3 w v xs) (hl : Lo B v) (H : Hp w L w') (hU : Ou qs w L) (hB : ∀ b ∈ qs, B ≤ b) : RdT 3 w' v xs := by
 have hn : ∀ a m c, v = .slice (some a) m c → a.block ∉ L.map (·.1) := fun a m c e => by
  obtain ⟨o, h1, h2⟩ := h.ty a m c e
  exact hU.int h1 h2 (fun hm => by have := hB _ hm; have := hl a m c e; omega)
 refine ⟨h.rd.mono H hn, fun a m c e => ?_⟩
 obtain ⟨o, h1, h2⟩ := h.ty a m c e
 exact ⟨o, H.block h1 (hn a m c e), h2⟩
theorem rdO {T : Nat} (h : RdT T w v xs) (hq : Sq w sp S qs) (H : Hp w L w') (hU : Ou qs w L) (hT : T ∉ DT ∧ T ≠ 3) : RdT T w' v xs :=
 h.keep H (hU.out hq (fun t ht => by rw [List.mem_singleton.1 ht]; exact hT))
theorem KsI.keep {κ : KS} {e n : Nat} (h : KsI w κ e n sp B) (hq : Sq w sp S qs) (H : Hp w L w') (hU : Ou qs w L) (hB : ∀ b ∈ qs, B ≤ b) : KsI w' κ e n sp B := by
 obtain ⟨envs, mays, l, mv, ss, x, h1, h2, h3, h4, h5, h6, h7, h8, h9⟩ := h
 exact ⟨envs, mays, l, mv, ss, x, ⟨rdI h1.1 h1.2 H hU hB, h1.2⟩, h2, rdO h3 hq H hU (by simp [DT]), h4, ⟨rdI h5.1 h5.2 H hU hB, h5.2⟩, h6, rdO h7 hq H hU (by simp [DT]), h8, h9⟩
end
/-- commons of a host -/
def cw (κ : KS) (i : Nat) (ca : Option Addr) (cc mp : Nat) : Cs := ⟨κ, i, ca, cc, [256], [(0, 492)], mp, #[], 0, []⟩
/-- as one sees the bytes -/
def cv (κ : KS) : Cs := cw κ 0 none 0 0
def HostOk (w : World) (κ : KS) (qs : List Nat) (i h : Nat) : Prop :=
 ∃ (c : Nat) (ua : Option Addr) (uc mp : Nat) (ph st op a b : Int) (da : Option Addr) (dl dc : Nat), w.heap[h]? = some (blk (hC κ i i 0 c ph st op a b (.slice da dl dc)) 139) ∧ Gd w c (cw κ i ua uc mp) ∧ (∀ a, ua = some a → a.block ∉ qs) ∧ (ph = 0 ∨ ((ph = 1 ∨ ph = 2 ∨ ph = 3) ∧ FOp op))
def WbOk (w : World) (κ : KS) (bt : Bool) (wd : Nat) (hb : List Nat) : Prop :=
 ∃ bb bbc ba bc ha hc la lc, w.heap[wd]? = some (blk [.slice bb 1 bbc, .slice ba 0 bc, I 3, ptr κ.k 0, .slice ha 1 hc] 81) ∧ RdT 83 w (.slice ha 1 hc) [.slice la 8 lc] ∧ RdT 84 w (.slice la 8 lc) (hb.map fun h => ptr h 0) ∧ RdT 4 w (.slice bb 1 bbc) [.bool bt]
/-- a world -/
structure Wst (w : World) (κ : KS) (bt : Bool) (wd sp : Nat) (hb : List Nat) (B : Nat) (T : Int) (k : Nat) (S : Sect.Sx) (qs : List Nat) : Prop where
 wb : WbOk w κ bt wd hb
 hl : hb.length = 8
 host : ∀ (j h : Nat), hb[j]? = some h → HostOk w κ qs j h
 ks : ∀ e, e < 9 → KsI w κ e 0 sp B
 kr : Kr w κ
 sq : Sq w sp S qs
 qB : ∀ b ∈ qs, B ≤ b
 n : κ.N = 1280
 tb : ∀ e, e < 9 → ∃ q, κ.PB[e]? = some q ∧ κ.ts[e]? = some Ke.tab1
 bk : Sect.Bk S T k
 now : 0 ≤ κ.now ∧ κ.now ≤ T
 hB : B ≤ w.heap.size
 gp : Gp (cv κ) κ.xs
/-- what turns -/
def Dy (κ : KS) (sp : Nat) (hb qs : List Nat) : List Nat := κ.mb :: sp :: κ.k :: (hb ++ qs)
theorem gp_cw {κ : KS} {xs : List UInt8} (h : Gp (cv κ) xs) (i : Nat) (ca : Option Addr) (cc mp : Nat) : Gp (cw κ i ca cc mp) xs := ⟨⟨h.1.p, h.1.f, h.1.q, h.1.t, h.1.g⟩, h.2⟩
theorem gp_cv {κ : KS} {xs : List UInt8} {i : Nat} {ca : Option Addr} {cc mp : Nat} (h : Gp (cw κ i ca cc mp) xs) : Gp (cv κ) xs := ⟨⟨h.1.p, h.1.f, h.1.q, h.1.t, h.1.g⟩, h.2⟩
theorem wj1 (C : Cs) (h : C.wins = [(0, 492)]) : Wj C := by
 intro j j' x y hne h1 h2
 rw [h] at h1 h2
 have a1 := (List.getElem?_eq_some_iff.1 h1).1
 have a2 := (List.getElem?_eq_some_iff.1 h2).1
 simp only [List.length_singleton] at a1 a2
 omega
section
variable {w w' : World} {κ : KS} {bt : Bool} {wd sp : Nat} {hb : List Nat} {B : Nat} {T : Int} {k : Nat} {S : Sect.Sx} {qs : List Nat} {L : List (Nat × Obj)}
theorem HostOk.upd {i h : Nat} (W : HostOk w κ qs i h) (hq : Sq w sp S qs) (H : Hp w L w') (hU : Ou qs w L) {xs : List UInt8} (hmb : w'.heap[κ.mb]? = some (blk (xs.map U) 5)) (hgp : Gp (cv κ) xs) {qs' : List Nat} (hqs : ∀ b ∈ qs', b ∈ qs ∨ w.heap.size ≤ b) (hk : h ∉ L.map (·.1)) : HostOk w' { κ with xs := xs } qs' i h := by
 obtain ⟨c, ua, uc, mp, ph, st, op, a, b, da, dl, dc, h1, h2, h3, h4⟩ := W
 refine ⟨c, ua, uc, mp, ph, st, op, a, b, da, dl, dc, H.block h1 hk, h2.atU hq h3 H hU hmb (gp_cw hgp i ua uc mp), fun a ha hm => ?_, h4⟩
 rcases hqs _ hm with h5 | h5
 ·exact h3 a ha h5
 ·obtain ⟨o, h6, _⟩ := h2.hM.hct a ha
  have := Qr h6; omega
/-- what one host did -/
theorem Wst.upd (W : Wst w κ bt wd sp hb B T k S qs) (H : Hp w L w') (hU : Ou qs w L) {xs : List UInt8} (hmb : w'.heap[κ.mb]? = some (blk (xs.map U) 5)) (hgp : Gp (cv κ) xs) {S' : Sect.Sx} {qs' : List Nat} (hsq : Sq w' sp S' qs') (hqs : ∀ b ∈ qs', b ∈ qs ∨ w.heap.size ≤ b)
  {k' : Nat} (hbk : Sect.Bk S' T k') {i : Nat} (hkeep : ∀ j h, hb[j]? = some h → j ≠ i → h ∉ L.map (·.1)) (hnew : ∀ h, hb[i]? = some h → HostOk w' { κ with xs := xs } qs' i h) : Wst w' { κ with xs := xs } bt wd sp hb B T k' S' qs' := by
 obtain ⟨bb, bbc, ba, bc, ha, hc, la, lc, h1, h2, h3, h4⟩ := W.wb
 have hO : Out [81] w L := hU.out W.sq (by simp [DT])
 have hO2 : Out kT w L := hU.out W.sq (by simp [DT, kT])
 refine ⟨⟨bb, bbc, ba, bc, ha, hc, la, lc, H.Xw h1 (by simp [elT]) hO, rdO h2 W.sq H hU (by simp [DT]), rdO h3 W.sq H hU (by simp [DT]), rdO h4 W.sq H hU (by simp [DT])⟩, W.hl, fun j h hj => ?_, fun e he => (W.ks e he).keep W.sq H hU W.qB, W.kr.keep H hO2 hmb hgp.2, hsq, fun b hb => ?_, W.n, W.tb, hbk, W.now, Nat.le_trans W.hB H.size, ⟨⟨hgp.1.p, hgp.1.f, hgp.1.q, hgp.1.t, hgp.1.g⟩, hgp.2⟩⟩
 ·by_cases hji : j = i
  ·subst hji; exact hnew h hj
  ·exact (W.host j h hj).upd W.sq H hU hmb hgp hqs (hkeep j h hj hji)
 ·rcases hqs b hb with h5 | h5
  ·exact W.qB b h5
  ·exact Nat.le_trans W.hB h5
theorem Wst.Ql (W : Wst w κ bt wd sp hb B T k S qs) (H : Hp w L w') (hn : ∀ p ∈ L, w.heap.size ≤ p.1) : Wst w' κ bt wd sp hb B T k S qs := by
 have hk : ∀ j h, hb[j]? = some h → h ∉ L.map (·.1) := fun j h hj hm => by
  obtain ⟨c, ua, uc, mp, ph, st, op, a, b, da, dl, dc, h1, _⟩ := W.host j h hj
  obtain ⟨p, hp, e⟩ := List.mem_map.1 hm
  have := Qr h1; have := hn p hp; omega
 exact W.upd H (Ou.new hn) (H.Qc W.kr.hb hn) W.gp (W.sq.Ql H hn) (fun b hb => .inl hb) W.bk (i := 100) (fun j h hj _ => hk j h hj) (fun h hh => by
  have := (List.getElem?_eq_some_iff.1 hh).1; rw [W.hl] at this; omega)
theorem Wst.host_get (W : Wst w κ bt wd sp hb B T k S qs) {i : Nat} (hi : i < 8) : ∃ h, hb[i]? = some h := ⟨_, List.getElem?_eq_getElem (by rw [W.hl]; exact hi)⟩
/-- hosts are apart -/
theorem Wst.host_ne (W : Wst w κ bt wd sp hb B T k S qs) {i j h h' : Nat} (hi : hb[i]? = some h) (hj : hb[j]? = some h') (hne : j ≠ i) : h' ≠ h := by
 rintro rfl
 obtain ⟨c, ua, uc, mp, ph, st, op, a, b, da, dl, dc, h1, _⟩ := W.host i h' hi
 obtain ⟨c', ua', uc', mp', ph', st', op', a', b', da', dl', dc', h2, _⟩ := W.host j h' hj
 rw [h1] at h2
 have h3 := Option.some.inj h2
 have h4 : (#[ptr κ.k 0, I (i : Int), I (i : Int), I ((0 : Nat) : Int), ptr c 0, I ph, I st, I op, I a, I b, Value.slice da dl dc] : Array Value) = #[ptr κ.k 0, I (j : Int), I (j : Int), I ((0 : Nat) : Int), ptr c' 0, I ph', I st', I op', I a', I b', Value.slice da' dl' dc'] := by
  injection h3
 have h5 := congrArg (fun (x : Array Value) => x[1]?) h4
 simp [I] at h5
 omega
theorem Wst.dy_lt (W : Wst w κ bt wd sp hb B T k S qs) {d : Nat} (hd : d ∈ Dy κ sp hb qs) : d < w.heap.size := by
 simp only [Dy, List.mem_cons, List.mem_append] at hd
 rcases hd with rfl | rfl | rfl | hd | hd
 ·exact Qr W.kr.hb
 ·exact W.sq.slt
 ·exact Qr W.kr.hk
 ·obtain ⟨j, hj, e⟩ := List.getElem_of_mem hd
  obtain ⟨c, ua, uc, mp, ph, st, op, a, b, da, dl, dc, h1, _⟩ := W.host j d (by rw [List.getElem?_eq_getElem hj, e])
  exact Qr h1
 ·exact W.sq.lt hd
end
end Go.Proofs.YtlpmfldijgdcoaaGreatDoor.Wp
