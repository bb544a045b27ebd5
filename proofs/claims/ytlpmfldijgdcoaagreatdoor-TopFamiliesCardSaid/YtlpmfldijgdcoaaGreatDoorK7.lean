/-
Calls of forks, ends and waits are done; signals that nobody sent are taken. Which instructions and which programs may be. What a machine does with an instruction; which programs may be. What a program answers, and behind how many steps. Hosts: one that waits looks whether it may go on. Hosts: one that waits goes on; one that is in does its call. What may turn: the section, its queue, the hosts, the bytes; commons and sections stay as they are. Hosts: one that is in does its call. Hosts: a pick. Hosts: a call is begun; the section is asked for; the call is done. Hosts: picks; a call is begun. Commons and hosts are made. What bytes are, as the document has it; pipes made of numbers; equality of pipes. What goes into a pipe, and what comes out of it.
-/
import Derived.Test.YtlpmfldijgdcoaaGreatDoorK6
import Derived.Test.YtlpmfldijgdcoaaGreatDoorProg
set_option maxRecDepth 100000
set_option maxHeartbeats 16000000
namespace Go.Proofs.YtlpmfldijgdcoaaGreatDoor.Ho
open Go Go.Proofs Fx Kn Cm Sect Tryz
section
variable {w : World} {c : Nat} {C : Cs}
theorem DoF (h : Gd w c C) {i : Nat} (hi : i < 8) {op a b : Int} {da : Option Addr} {dl dc : Nat} (hop : FOp op) :
  Ret Tryz.prog 133 #[ptr c 0, I i, .agg (sysC op a b (.slice da dl dc)).toArray] w fun v w' => v = Pr.rtb (doX C i op a).2 ∧ Gp C (doX C i op a).1 ∧ Hp w [(C.κ.mb, blk ((doX C i op a).1.map U) 5)] w' := by
 refine Qy (args := [_, _, _]) func133 rfl ntmps133 results133 (by simp) ?_
 have H := Hp.refl w
 have hop0 := hop
 unfold FOp at hop
 (refine Js (Jr (Qb rfl (Xl (vs := sysC op a b (.slice da dl dc)) H rfl rfl) ?_)); clear H; intro c5 w3 hc5 H)
 (refine Qb rfl (Qp (vs := rtC 0 0 nilS false) H zeroValue227 rfl) ?_; clear H; intro c6 w4 hc6 H)
 (refine Jn (Js (Jr (Jm (Jz rfl call63 rfl (Look_L (h.Ql H kYs).hM h.hL) H ?_)))); intro w9 H)
 (refine Jn (Js (Js (Jr (Jm (Jm (J (Qo (vs := sysC op a b (.slice da dl dc)) isAgg38 sizeOf38 rfl (H.get (.there .here)) rfl (by simp)) (Jz rfl call171 rfl (filesF hop0 _ _ _) H ?_))))))); intro w17 H)
 (refine Jm (Jx rfl rfl (Jx rfl rfl (Qb rfl (Qp (vs := rtC 0 0 nilS false) H zeroValue227 rfl) ?_))); clear H; intro c7 w21 hc7 H)
 (refine Qd rfl (Qg (vs := rtC 0 0 nilS false) H sizeOf227 rfl rfl (by simp [rtC, Value.oneCell']) .here (by simp [rtC])) ?_; clear H; intro w22 H; replace H : Hp w [(c7, blk (rtC 0 0 nilS false) 227), (c6, blk (rtC 0 0 nilS false) 227), (c5, blk (sysC op a b (.slice da dl dc)) 38)] w22 := H)
 refine Ja (Jn (Js (Jr (Jm (Jn (Jc rfl (Jk (Js (Js (Jr (Jf 0 underlying38 rfl sizeOf3 rfl rfl (J (Qe (v := I op) isAgg3 rfl (H.get (.there (.there .here))) rfl) (Jn (Jb (Js (Jr (J (Yk rfl rfl) (Ja (Jn (Xo rfl (fun h43 => ?_) (fun h43 => ?_)))))))))))))))))))))
 ·refine Js ?_
  ((have ms : True := trivial)) <;> refine Qk ?_
  (refine Jm (Jm (Jy rfl call172 rfl (Pr.Fork_ret (h.Ql H kYs) hi) ?_)); rintro _ w48 ⟨rfl, hgp, H1⟩; replace H := h.seq0 H kYs H1; clear H1)
  (have _g := ms; refine Qd rfl (Qg (vs := Pr.rtC _ _ nilS _) H sizeOf227 rfl rfl (by simp [Pr.rtC, Value.oneCell']) (.there (.there .here)) (by simp [rtC, Pr.rtC])) ?_; clear H; intro w49 H)
  refine Jn (Je ?_)
  (have e : doX C i op a = ((Pr.Um C i).1, (Pr.Um C i).2.1, (Pr.Um C i).2.2, false) := (by unfold doX; exact if_pos (by omega)); rw [e]; exact ⟨_, ⟨_, rfl, ldA isAgg227 sizeOf227 (H.get (.there (.there .here))) rfl (by simp [rtC, Pr.rtC])⟩, rfl, hgp, Hp.cut (L := [_]) (M := [_, _, _]) H kYs⟩)
 ·refine Js (Jr (J (Yk rfl rfl) (Ja (Jn (Xo rfl (fun h58 => ?_) (fun h58 => ?_))))))
  ·refine Js ?_
   ((have ms : True := trivial)) <;> refine Qk ?_
   (refine Jm (Jm (Jf 1 underlying38 rfl sizeOf3 rfl rfl (J (Qe (v := I a) isAgg3 rfl (H.get (.there (.there .here))) rfl) (Jy rfl call140 rfl (Pr.Exit_ret (h.Ql H kYs) hi a) ?_)))); rintro _ w65 ⟨rfl, hgp, H1⟩; replace H := h.seq0 H kYs H1; clear H1)
   (have _g := ms; refine Qd rfl (Qg (vs := Pr.rtC _ _ nilS _) H sizeOf227 rfl rfl (by simp [Pr.rtC, Value.oneCell']) (.there (.there .here)) (by simp [rtC, Pr.rtC])) ?_; clear H; intro w66 H)
   refine Jn (Je ?_)
   (have e : doX C i op a = ((Pr.Bv C i a).1, (Pr.Bv C i a).2.1, (Pr.Bv C i a).2.2, false) := (by unfold doX; rw [if_neg (by omega)]; exact if_pos (by omega)); rw [e]; exact ⟨_, ⟨_, rfl, ldA isAgg227 sizeOf227 (H.get (.there (.there .here))) rfl (by simp [rtC, Pr.rtC])⟩, rfl, hgp, Hp.cut (L := [_]) (M := [_, _, _]) H kYs⟩)
  ·refine Js (Jr (J (Yk rfl rfl) (Ja (Jn (Xo rfl (fun h75 => ?_) (fun h75 => ?_))))))
   ·refine Js ?_
    ((have ms : True := trivial)) <;> refine Qk ?_
    (refine Jm (Jm (Jy rfl call173 rfl (Pr.Wait_ret (h.Ql H kYs) hi) ?_)); rintro _ w80 ⟨rfl, hgp, H1⟩; replace H := h.seq0 H kYs H1; clear H1)
    (have _g := ms; refine Qd rfl (Qg (vs := Pr.rtC _ _ nilS _) H sizeOf227 rfl rfl (by simp [Pr.rtC, Value.oneCell']) (.there (.there .here)) (by simp [rtC, Pr.rtC])) ?_; clear H; intro w81 H)
    refine Jn (Je ?_)
    (have e : doX C i op a = Pr.Ml C i := (by unfold doX; rw [if_neg (by omega), if_neg (by omega)]; exact if_pos (by omega)); rw [e]; exact ⟨_, ⟨_, rfl, ldA isAgg227 sizeOf227 (H.get (.there (.there .here))) rfl (by simp [rtC, Pr.rtC])⟩, rfl, hgp, Hp.cut (L := [_]) (M := [_, _, _]) H kYs⟩)
   ·refine Js (Jr (J (Xf rfl rfl (by omega)) (Ja (Jn (Jc rfl (Js (Jr (J (Xf rfl rfl (by omega)) (Ja (Jn (Jc rfl (Js (Js (Jr (J (Yk rfl rfl) (Ja (Jn (Xo rfl (fun h103 => ?_) (fun h103 => ?_)))))))))))))))))))
    ·refine Jk (Jd rfl (Js ?_))
     ((have mo : True := trivial)) <;> refine Qk ?_
     (refine Jm (Jm (J (Qo (vs := sysC op a b (.slice da dl dc)) isAgg38 sizeOf38 rfl (H.get (.there (.there .here))) rfl (by simp)) (Jz rfl call176 rfl (ownF (h.Ql H kYs) hi (by omega)) H ?_))); intro w111 H)
     (have _g := mo; refine Qd rfl (Qg (vs := Pr.rtC _ _ nilS _) H sizeOf227 rfl rfl (by simp [Pr.rtC, Value.oneCell']) (.there .here) (by simp [rtC, Pr.rtC])) ?_; clear H; intro w112 H)
     refine Jn (Je ?_)
     (have e : doX C i op a = (C.κ.xs, (ownX C i op).1, (ownX C i op).2, false) := (by unfold doX; rw [if_neg (by omega), if_neg (by omega)]; exact if_neg (by omega)); rw [e]; exact ⟨_, ⟨_, rfl, ldA isAgg227 sizeOf227 (H.get (.there .here)) rfl (by simp [rtC, Pr.rtC])⟩, rfl, h.gp, h.hM.same0 (H.none kYs)⟩)
    ·refine Js (Jr (J (Yr rfl rfl (by omega)) (Ja (Jn (Jd rfl (Jk (Jd rfl (Js ?_))))))))
     ((have mo : True := trivial)) <;> refine Qk ?_
     (refine Jm (Jm (J (Qo (vs := sysC op a b (.slice da dl dc)) isAgg38 sizeOf38 rfl (H.get (.there (.there .here))) rfl (by simp)) (Jz rfl call176 rfl (ownF (h.Ql H kYs) hi (by omega)) H ?_))); intro w129 H)
     (have _g := mo; refine Qd rfl (Qg (vs := Pr.rtC _ _ nilS _) H sizeOf227 rfl rfl (by simp [Pr.rtC, Value.oneCell']) (.there .here) (by simp [rtC, Pr.rtC])) ?_; clear H; intro w130 H)
     refine Jn (Je ?_)
     (have e : doX C i op a = (C.κ.xs, (ownX C i op).1, (ownX C i op).2, false) := (by unfold doX; rw [if_neg (by omega), if_neg (by omega)]; exact if_neg (by omega)); rw [e]; exact ⟨_, ⟨_, rfl, ldA isAgg227 sizeOf227 (H.get (.there .here)) rfl (by simp [rtC, Pr.rtC])⟩, rfl, h.gp, h.hM.same0 (H.none kYs)⟩)
theorem nextZ {p : Slot.Pi} (hz : Zs p) (w : World) : Ret Tryz.prog 178 #[Slot.vP p] w fun v w' => v = .tuple #[I 0, I 0] ∧ Hp w [] w' := by
 refine Qi (args := [_]) func178 rfl ntmps178 results178 (by simp) ?_
 have H := Hp.refl w
 obtain ⟨ha, hb⟩ := hz
 (refine Js (Jr (Qb rfl (Slot.Ys H rfl) ?_)); clear H; intro c1 w3 hc1 H)
 refine Ja (Ja (Jn (Js (Jr (Jf 4 underlying58 rfl sizeOf3 rfl rfl (J (Qe (v := I 0) isAgg3 rfl (H.get .here) (by show some (I p.a.toInt) = _; rw [ha]; rfl)) (Jf 5 underlying58 rfl sizeOf3 rfl rfl (J (Qe (v := I 0) isAgg3 rfl (H.get .here) (by show some (I p.b.toInt) = _; rw [hb]; rfl)) (J (Zb (r := 0) rfl rfl (by simp) (by decide)) (J (Zb (r := 0) rfl rfl (by simp) (by decide)) (Ja (Jn (Js (Jb (Js (Jr (Jf 0 underlying58 rfl sizeOf3 rfl rfl (J (Qe (v := I p.s) isAgg3 rfl (H.get .here) rfl) (J (Zu rfl rfl) (Jm ?_))))))))))))))))))))
 apply Xz 3 19 22 [(20, 22)] H
 case hc => rfl
 case h1 =>
  intro h25
  refine Jt rfl rfl (Jm (Jt rfl rfl (J (Yr rfl rfl (by omega)) (Jp rfl (Jn ?_)))))
  exact ⟨kS, decV rfl, H⟩
 case h0 =>
  intro h25
  refine Jg rfl rfl (Jg rfl rfl (Jq rfl (Jn ?_)))
  exact ⟨kS, rfl, H⟩
 case h2 =>
  (clear H; intro E25 w25 H)
  refine Ja (Jn (Xo rfl (fun h40 => ?_) (fun h40 => ?_)))
  ·refine Js (Jr (Ja (Ja (Jn (Je ?_)))))
   exact ⟨_, rfl, rfl, H.none kYs⟩
  ·refine Js (Jr ?_)
   exact (by simp_all : False).elim
theorem wakesZ {p : Slot.Pi} (hz : Zs p) (w : World) : Ret Tryz.prog 134 #[Slot.vP p] w fun v w' => v = .bool false ∧ Hp w [] w' := by
 refine Qi (args := [_]) func134 rfl ntmps134 results134 (by simp) ?_
 have H := Hp.refl w
 (refine Js (Jr (Qb rfl (Slot.Ys H rfl) ?_)); clear H; intro c1 w3 hc1 H)
 (refine Ja (Jn (Js (Jr (J (Slot.Xa rfl (H.get .here)) (Jz rfl call178 rfl (nextZ hz _) H ?_))))); intro w9 H)
 refine Jm (Jx rfl rfl (Jx rfl rfl (Ja (Ja (Jn (Js (Jr (Jm (J (Zm rfl rfl (by omega)) (Ja (Jn (Je ?_))))))))))))
 exact ⟨_, rfl, rfl, H.none kYs⟩
theorem deliverZ {p : Slot.Pi} (hz : Zs p) (w : World) : Ret Tryz.prog 139 #[Slot.vP p] w fun v w' => v = .tuple #[Slot.vP p, nilS, I 0] ∧ Hp w [] w' := by
 refine Ret_of_WG (args := [_]) func139 rfl ntmps139 results139 (by simp) ?_
 have H := Hp.refl w
 (refine Js (Jr (Qb rfl (Slot.Ys H rfl) ?_)); clear H; intro c1 w3 hc1 H)
 (refine Qb rfl (Slot.Qt H) ?_; clear H; intro c2 w4 hc2 H)
 refine Ja (Ja (Jn (Jb (Vs 1 ?_))))
 (refine Jb (Js (Jr (J (Slot.Xa (p := p) rfl (H.get (.there .here))) (Jz rfl call178 rfl (nextZ hz _) H ?_)))); intro w14 H)
 (refine Jm (Jx rfl rfl (Jx rfl rfl (Ja (Ja (Jn (Js (Js (Jr (Jm (J (Yr rfl rfl (by omega)) (Jn (Jd rfl (Js (Jr (J (Slot.Xa (p := p) rfl (H.get (.there .here))) (Jm (Qd rfl (Slot.Qn H rfl rfl .here) ?_))))))))))))))))); clear H; intro w32 H)
 refine Ja (Ja (Jn (Je ?_)))
 exact ⟨[Slot.vP p, nilS, I 0], .cell rfl (Slot.ldP (H.get .here)) (.tmp rfl (.tmp rfl .nil)), by simp, rfl, H.none kYs⟩
theorem endF {h : Nat} {κ : KS} {e n : Nat} {ph st op a b : Int} {da : Option Addr} {dl dc : Nat} {n1 e1 : Int} {B : Value} {bk : Bool} {xa : Option Addr} {xl xc : Nat} {op' a' b' : Int} {i : Nat} (hB : B.oneCell' = true)
  (hh : w.heap[h]? = some (blk (hC κ e i n c ph st op a b (.slice da dl dc)) 139)) (g : Gd w c C) (hi : i < 8) (hz : (C.pR i).2 = 1 → Zs (C.pR i).1) :
  Ret Tryz.prog 100 #[ptr h 0, .agg (oC 0 i op' a' b' (.slice xa xl xc) n1 e1 B bk nilS 0).toArray] w fun v w' => v = .agg (oC 0 i op' a' b' (.slice xa xl xc) n1 e1 B bk nilS 0).toArray ∧ Gp C (endX C i) ∧ Hp w [(C.κ.mb, blk ((endX C i).map U) 5)] w' := by
 refine Qy (args := [_, _]) func100 rfl ntmps100 results100 (by simp) ?_
 have H := Hp.refl w
 have hbk := g.hM.hK.hb
 have hgpX : Gp C (endX C i) := by unfold endX; split; exact gp_upP g hi _; exact g.gp
 have hP : ∀ {w1 : World}, Gd w1 c C → Ret Tryz.prog 64 #[ptr c 0, I i] w1 fun v w' => v = .tuple #[Slot.vP (C.pR i).1, I (C.pR i).2] ∧ Hp w1 [] w' := fun g => Mj g.hM g.hL hi
 have e0 : endX C i = if (C.pR i).2 = 1 ∧ (C.pR i).1.s = 1 then Ds C i (C.pR i).1 else C.κ.xs := rfl
 generalize C.pR i = r at *
 obtain ⟨p, z⟩ := r
 simp only at hP e0 hz
 (refine Js (Jr (Qb rfl (Xl (vs := oC 0 i op' a' b' (.slice xa xl xc) n1 e1 B bk nilS 0) H rfl rfl) ?_)); clear H; intro c3 w3 hc3 H)
 (refine Qb rfl (Qp (vs := z0) H zeroValue40 rfl) ?_; clear H; intro c4 w4 hc4 H)
 refine Jn (Js ?_)
 (refine Xi (KH w [(c4, blk z0 40), (c3, blk (oC 0 i op' a' b' (.slice xa xl xc) n1 e1 B bk nilS 0) 40)]) (fun _ => false) (by kernel_rfl) H ?_; clear H; intro w7 H)
 refine Am 0 rfl H.kK (Az 1 rfl rfl H.kK (fun _ hC => Qf rfl) (Az 2 rfl rfl H.kK (fun _ hC => Qa (off' := 4) underlying139 rfl sizeOf93 (by decide) rfl rfl) (Az 3 rfl rfl H.kK (fun _ hC => Qe isAgg93 rfl (hC.Qc hh kYs) rfl) (Am 4 rfl H.kK (Az 5 rfl rfl H.kK (fun _ hC => Qf rfl) (Az 6 rfl rfl H.kK (fun _ hC => Qa (off' := 2) underlying139 rfl sizeOf3 (by decide) rfl rfl) (Az 7 rfl rfl H.kK (fun _ hC => Qe isAgg3 rfl (hC.Qc hh kYs) rfl) (Zf (i := 8) (j := 12) (by kernel_rfl) ?_ ?_))))))))
 ·(refine Qv rfl (.inl rfl) (Qw rfl call64 rfl) (hP (g.Ql H kYs)) (fun _ _ hR _ => (H.seq0 hR.2).kh (by simp) kYs) ?_; rintro _ w17 ⟨rfl, H1⟩; replace H := H.seq0 H1; clear H1)
  (refine Am 9 rfl H.kK (Az 10 rfl rfl H.kK (fun _ hC => Qs rfl rfl) (Az 11 rfl rfl H.kK (fun _ hC => Qs rfl rfl) (Ao 12 (Xd rfl (.inl rfl) (Slot.Qt H) (fun _ _ _ H _ => H.kh (by simp) kYs) ?_)))); clear H; intro c5 w22 hc5 H)
  (refine Ao 13 (Xb rfl (.inl rfl) (Slot.Qn H rfl rfl .here) (fun _ H _ => H.kh (by simp) kYs) ?_); clear H; intro w24 H)
  refine Aa 14 rfl H.kK (Ad (Js (Js (Jr (Jm (J (Zu rfl rfl) (Jm ?_)))))))
  apply Xz 4 21 25 [(22, 25)] H
  case hc => rfl
  case h1 =>
   intro h33
   refine Jt rfl rfl (Jf 0 underlying58 rfl sizeOf3 rfl rfl (Jt rfl rfl (J (Qe (v := I p.s) isAgg3 rfl (H.get .here) rfl) (Jt rfl rfl (J (Zu rfl rfl) (Jp rfl (Jn ?_)))))))
   exact ⟨kS, rfl, H⟩
  case h0 =>
   intro h33
   refine Jg rfl rfl (Jg rfl rfl (Jg rfl rfl (Jq rfl (Jn ?_))))
   exact ⟨kS, rfl, H⟩
  case h2 =>
   (clear H; intro E33 w33 H)
   refine Jn (Xo rfl (fun h50 => ?_) (fun h50 => ?_))
   ·refine Js ?_
    ((have m3 : True := trivial)) <;> refine Qk ?_
    refine J (Qo (vs := oC 0 i op' a' b' (.slice xa xl xc) n1 e1 B bk nilS 0) isAgg40 sizeOf40 rfl (H.get (.there (.there .here))) rfl (by simp [oC])) ?_
    (have _g := m3; refine Qd rfl (Qg (vs := oC 0 i op' a' b' (.slice xa xl xc) n1 e1 B bk nilS 0) H sizeOf40 rfl rfl (Xq rfl hB rfl) (.there .here) (by simp [oC, z0])) ?_; clear H; intro w54 H)
    refine Jn (Je ?_)
    (have _g := m3; rw [e0, if_neg (by omega)]; exact ⟨_, ⟨_, rfl, ldA isAgg40 sizeOf40 (H.get (.there .here)) rfl (by simp [oC])⟩, rfl, g.gp, g.hM.same0 (H.none kYs)⟩)
   ·(refine Jk (Js (Jr (J (Slot.Xa (p := p) rfl (H.get .here)) (Jz rfl call139 rfl (deliverZ (hz (by omega)) _) H ?_)))); intro w62 H)
    (refine Jm (Jx rfl rfl (Jx rfl rfl (Jx rfl rfl (Qd rfl (Slot.Qn H rfl rfl .here) ?_)))); clear H; intro w67 H)
    (refine Jf 10 underlying40 rfl sizeOf22 rfl rfl (Qd rfl (Qz (v := nilS) H sizeOf22 rfl rfl rfl (.there (.there .here)) (by simp [oC])) ?_); clear H; intro w69 H; replace H : Hp w [(c5, blk (Slot.piC p) 58), (c4, blk z0 40), (c3, blk (oC 0 i op' a' b' (.slice xa xl xc) n1 e1 B bk nilS 0) 40)] w69 := H)
    (refine Jf 11 underlying40 rfl sizeOf3 rfl rfl (Qd rfl (Qz (v := I 0) H sizeOf3 rfl rfl rfl (.there (.there .here)) (by simp [oC])) ?_); clear H; intro w71 H; replace H : Hp w [(c5, blk (Slot.piC p) 58), (c4, blk z0 40), (c3, blk (oC 0 i op' a' b' (.slice xa xl xc) n1 e1 B bk nilS 0) 40)] w71 := H)
    refine Jn (Js ?_)
    (refine Xi (fun w2 => w2.heap[h]? = some (blk (hC κ e i n c ph st op a b (.slice da dl dc)) 139) ∧ w2.heap[c5]? = some (blk (Slot.piC p) 58)) (fun _ => false) (by kernel_rfl) H ?_; clear H; intro w74 H)
    (refine Am 0 rfl ⟨H.Qc hh kYs, H.get .here⟩ (Az 1 rfl rfl ⟨H.Qc hh kYs, H.get .here⟩ (fun _ hC => Qf rfl) (Az 2 rfl rfl ⟨H.Qc hh kYs, H.get .here⟩ (fun _ hC => Qa (off' := 4) underlying139 rfl sizeOf93 (by decide) rfl rfl) (Az 3 rfl rfl ⟨H.Qc hh kYs, H.get .here⟩ (fun _ hC => Qe (v := ptr c 0) isAgg93 rfl hC.1 rfl) (Am 4 rfl ⟨H.Qc hh kYs, H.get .here⟩ (Az 5 rfl rfl ⟨H.Qc hh kYs, H.get .here⟩ (fun _ hC => Qf rfl) (Az 6 rfl rfl ⟨H.Qc hh kYs, H.get .here⟩ (fun _ hC => Qa (off' := 2) underlying139 rfl sizeOf3 (by decide) rfl rfl) (Az 7 rfl rfl ⟨H.Qc hh kYs, H.get .here⟩ (fun _ hC => Qe (v := I i) isAgg3 rfl hC.1 rfl) (Az 8 rfl rfl ⟨H.Qc hh kYs, H.get .here⟩ (fun _ hC => Slot.Xa (p := p) rfl hC.2) (Ao 9 (Qv rfl (.inl rfl) (Qw rfl call58 rfl) (Dz (g.Ql H kYs) hi p) (by rintro _ w2 ⟨_, _, H1⟩ _; exact ⟨H1.Xw (T := [139]) (H.Qc hh kYs) (by simp [elT]) (Out.cons (H.Qc hbk kYs) (by simp [elT]) Out.nil), (g.seq0 H kYs H1).get (.there .here)⟩) ?_)))))))))); rintro _ w85 ⟨rfl, hgp, H1⟩; replace H := g.seq0 H kYs H1; clear H1)
    (refine Ad (Js (Js (Jr (Jf 11 underlying40 rfl sizeOf3 rfl rfl (J (Qe (v := I 0) isAgg3 rfl (H.get (.there (.there (.there .here)))) rfl) (J (Zm rfl rfl (by omega)) (Jn (Jc rfl (Jk (Js (Jr (J (Qo (vs := oC 0 i op' a' b' (.slice xa xl xc) n1 e1 B bk nilS 0) isAgg40 sizeOf40 rfl (H.get (.there (.there (.there .here)))) rfl (by simp [oC])) (Qd rfl (Qg (vs := oC 0 i op' a' b' (.slice xa xl xc) n1 e1 B bk nilS 0) H sizeOf40 rfl rfl (Xq rfl hB rfl) (.there (.there .here)) (by simp [oC, z0])) ?_))))))))))))); clear H; intro w99 H)
    refine Jn (Je ?_)
    (rw [e0, if_pos (by omega)]; exact ⟨_, ⟨_, rfl, ldA isAgg40 sizeOf40 (H.get (.there (.there .here))) rfl (by simp [oC])⟩, rfl, hgp, Hp.cut (L := [_]) (M := [_, _, _]) H kYs⟩)
 ·(refine Xd rfl (.inl rfl) (Slot.Qt H) (fun _ _ _ H _ => H.kh (by simp) kYs) ?_; clear H; intro c5 w103 hc5 H)
  (refine Ao 8 (Qv rfl (.inl rfl) (Qw rfl call64 rfl) (hP (g.Ql H kYs)) (fun _ _ hR _ => (H.seq0 hR.2).kh (by simp) kYs) ?_); rintro _ w105 ⟨rfl, H1⟩; replace H := H.seq0 H1; clear H1)
  (refine Am 9 rfl H.kK (Az 10 rfl rfl H.kK (fun _ hC => Qs rfl rfl) (Az 11 rfl rfl H.kK (fun _ hC => Qs rfl rfl) (Ao 13 (Xb rfl (.inl rfl) (Slot.Qn H rfl rfl .here) (fun _ H _ => H.kh (by simp) kYs) ?_)))); clear H; intro w110 H)
  refine Aa 14 rfl H.kK (Ad (Js (Js (Jr (Jm (J (Zu rfl rfl) (Jm ?_)))))))
  apply Xz 4 21 25 [(22, 25)] H
  case hc => rfl
  case h1 =>
   intro h119
   refine Jt rfl rfl (Jf 0 underlying58 rfl sizeOf3 rfl rfl (Jt rfl rfl (J (Qe (v := I p.s) isAgg3 rfl (H.get .here) rfl) (Jt rfl rfl (J (Zu rfl rfl) (Jp rfl (Jn ?_)))))))
   exact ⟨kS, rfl, H⟩
  case h0 =>
   intro h119
   refine Jg rfl rfl (Jg rfl rfl (Jg rfl rfl (Jq rfl (Jn ?_))))
   exact ⟨kS, rfl, H⟩
  case h2 =>
   (clear H; intro E119 w119 H)
   refine Jn (Xo rfl (fun h136 => ?_) (fun h136 => ?_))
   ·refine Js ?_
    ((have m3 : True := trivial)) <;> refine Qk ?_
    refine J (Qo (vs := oC 0 i op' a' b' (.slice xa xl xc) n1 e1 B bk nilS 0) isAgg40 sizeOf40 rfl (H.get (.there (.there .here))) rfl (by simp [oC])) ?_
    (have _g := m3; refine Qd rfl (Qg (vs := oC 0 i op' a' b' (.slice xa xl xc) n1 e1 B bk nilS 0) H sizeOf40 rfl rfl (Xq rfl hB rfl) (.there .here) (by simp [oC, z0])) ?_; clear H; intro w140 H)
    refine Jn (Je ?_)
    (have _g := m3; rw [e0, if_neg (by omega)]; exact ⟨_, ⟨_, rfl, ldA isAgg40 sizeOf40 (H.get (.there .here)) rfl (by simp [oC])⟩, rfl, g.gp, g.hM.same0 (H.none kYs)⟩)
   ·(refine Jk (Js (Jr (J (Slot.Xa (p := p) rfl (H.get .here)) (Jz rfl call139 rfl (deliverZ (hz (by omega)) _) H ?_)))); intro w148 H)
    (refine Jm (Jx rfl rfl (Jx rfl rfl (Jx rfl rfl (Qd rfl (Slot.Qn H rfl rfl .here) ?_)))); clear H; intro w153 H)
    (refine Jf 10 underlying40 rfl sizeOf22 rfl rfl (Qd rfl (Qz (v := nilS) H sizeOf22 rfl rfl rfl (.there (.there .here)) (by simp [oC])) ?_); clear H; intro w155 H; replace H : Hp w [(c5, blk (Slot.piC p) 58), (c4, blk z0 40), (c3, blk (oC 0 i op' a' b' (.slice xa xl xc) n1 e1 B bk nilS 0) 40)] w155 := H)
    (refine Jf 11 underlying40 rfl sizeOf3 rfl rfl (Qd rfl (Qz (v := I 0) H sizeOf3 rfl rfl rfl (.there (.there .here)) (by simp [oC])) ?_); clear H; intro w157 H; replace H : Hp w [(c5, blk (Slot.piC p) 58), (c4, blk z0 40), (c3, blk (oC 0 i op' a' b' (.slice xa xl xc) n1 e1 B bk nilS 0) 40)] w157 := H)
    refine Jn (Js ?_)
    (refine Xi (fun w2 => w2.heap[h]? = some (blk (hC κ e i n c ph st op a b (.slice da dl dc)) 139) ∧ w2.heap[c5]? = some (blk (Slot.piC p) 58)) (fun _ => false) (by kernel_rfl) H ?_; clear H; intro w160 H)
    (refine Am 0 rfl ⟨H.Qc hh kYs, H.get .here⟩ (Az 1 rfl rfl ⟨H.Qc hh kYs, H.get .here⟩ (fun _ hC => Qf rfl) (Az 2 rfl rfl ⟨H.Qc hh kYs, H.get .here⟩ (fun _ hC => Qa (off' := 4) underlying139 rfl sizeOf93 (by decide) rfl rfl) (Az 3 rfl rfl ⟨H.Qc hh kYs, H.get .here⟩ (fun _ hC => Qe (v := ptr c 0) isAgg93 rfl hC.1 rfl) (Am 4 rfl ⟨H.Qc hh kYs, H.get .here⟩ (Az 5 rfl rfl ⟨H.Qc hh kYs, H.get .here⟩ (fun _ hC => Qf rfl) (Az 6 rfl rfl ⟨H.Qc hh kYs, H.get .here⟩ (fun _ hC => Qa (off' := 2) underlying139 rfl sizeOf3 (by decide) rfl rfl) (Az 7 rfl rfl ⟨H.Qc hh kYs, H.get .here⟩ (fun _ hC => Qe (v := I i) isAgg3 rfl hC.1 rfl) (Az 8 rfl rfl ⟨H.Qc hh kYs, H.get .here⟩ (fun _ hC => Slot.Xa (p := p) rfl hC.2) (Ao 9 (Qv rfl (.inl rfl) (Qw rfl call58 rfl) (Dz (g.Ql H kYs) hi p) (by rintro _ w2 ⟨_, _, H1⟩ _; exact ⟨H1.Xw (T := [139]) (H.Qc hh kYs) (by simp [elT]) (Out.cons (H.Qc hbk kYs) (by simp [elT]) Out.nil), (g.seq0 H kYs H1).get (.there .here)⟩) ?_)))))))))); rintro _ w171 ⟨rfl, hgp, H1⟩; replace H := g.seq0 H kYs H1; clear H1)
    (refine Ad (Js (Js (Jr (Jf 11 underlying40 rfl sizeOf3 rfl rfl (J (Qe (v := I 0) isAgg3 rfl (H.get (.there (.there (.there .here)))) rfl) (J (Zm rfl rfl (by omega)) (Jn (Jc rfl (Jk (Js (Jr (J (Qo (vs := oC 0 i op' a' b' (.slice xa xl xc) n1 e1 B bk nilS 0) isAgg40 sizeOf40 rfl (H.get (.there (.there (.there .here)))) rfl (by simp [oC])) (Qd rfl (Qg (vs := oC 0 i op' a' b' (.slice xa xl xc) n1 e1 B bk nilS 0) H sizeOf40 rfl rfl (Xq rfl hB rfl) (.there (.there .here)) (by simp [oC, z0])) ?_))))))))))))); clear H; intro w185 H)
    refine Jn (Je ?_)
    (rw [e0, if_pos (by omega)]; exact ⟨_, ⟨_, rfl, ldA isAgg40 sizeOf40 (H.get (.there (.there .here))) rfl (by simp [oC])⟩, rfl, hgp, Hp.cut (L := [_]) (M := [_, _, _]) H kYs⟩)
end
end Go.Proofs.YtlpmfldijgdcoaaGreatDoor.Ho
namespace Go.Proofs.YtlpmfldijgdcoaaGreatDoor.Pred
open Go Go.Proofs Fx Tryz
/-- an instruction -/
structure In where
 op : Int
 a : Int
 b : Int
deriving DecidableEq
def insC (i : In) : List Value := [I i.op, I i.a, I i.b]
theorem Nm (i : In) : (insC i).length = 3 := rfl
def okP (i : In) (bh : Int) : Prop :=
 (1 ≤ i.op ∧ i.op ≤ 7 ∧ 0 ≤ i.a ∧ i.a ≤ 65535 ∧ (i.op = 1 ∨ i.op = 3 ∨ i.op = 4 ∨ i.op = 5 ∨ i.a = 0) ∧ i.b = 0) ∧ (i.op ≠ 5 ∨ i.a ≤ bh)
instance (i : In) (bh : Int) : Decidable (okP i bh) := by unfold okP; infer_instance
theorem Dm (i : In) (bh : Int) (w : World) :
  Ret Tryz.prog 223 #[.agg (insC i).toArray, I bh] w fun v w' => v = .bool (decide (okP i bh)) ∧ Hp w [] w' := by
 refine Qi (args := [_, _]) func223 rfl ntmps223 results223 (by simp) ?_
 have H := Hp.refl w
 obtain ⟨op, a, b⟩ := i
 (refine Js (Jr (Qb rfl (Xl (vs := [I op, I a, I b]) H rfl rfl) ?_)); clear H; intro b3 w3 hb3 H)
 refine Ja (Jn (Js (Jr (Jf 0 underlying283 rfl sizeOf3 rfl rfl (Jl isAgg3 rfl (H.get .here) rfl (J (Yk rfl rfl) (Jm ?_)))))))
 apply Xz 4 9 13 [(10, 13)] H
 case hc => rfl
 case h1 =>
  intro h12
  refine Jt rfl rfl (Jf 0 underlying283 rfl sizeOf3 rfl rfl (Jt rfl rfl (Jl isAgg3 rfl (H.get .here) rfl (Jt rfl rfl (J (Yk rfl rfl) (Jp rfl (Jn ?_)))))))
  exact ⟨kS, rfl, H⟩
 case h0 =>
  intro h12
  refine Jg rfl rfl (Jg rfl rfl (Jg rfl rfl (Jq rfl (Jn ?_))))
  exact ⟨kS, rfl, H⟩
 case h2 =>
  (clear H; intro E12 w12 H)
  refine Jm ?_
  apply Xz 4 14 18 [(15, 18)] H
  case hc => rfl
  case h1 =>
   intro h29
   refine Jt rfl rfl (Jf 0 underlying283 rfl sizeOf3 rfl rfl (Jt rfl rfl (Jl isAgg3 rfl (H.get .here) rfl (Jt rfl rfl (J (Yk rfl rfl) (Jp rfl (Jn ?_)))))))
   exact ⟨kS, rfl, H⟩
  case h0 =>
   intro h29
   refine Jg rfl rfl (Jg rfl rfl (Jg rfl rfl (Jq rfl (Jn ?_))))
   exact ⟨kS, rfl, H⟩
  case h2 =>
   (clear H; intro E29 w29 H)
   refine Jm ?_
   apply Xz 4 19 23 [(20, 23)] H
   case hc => rfl
   case h1 =>
    intro h46
    refine Jt rfl rfl (Jf 0 underlying283 rfl sizeOf3 rfl rfl (Jt rfl rfl (Jl isAgg3 rfl (H.get .here) rfl (Jt rfl rfl (J (Yk rfl rfl) (Jp rfl (Jn ?_)))))))
    exact ⟨kS, rfl, H⟩
   case h0 =>
    intro h46
    refine Jg rfl rfl (Jg rfl rfl (Jg rfl rfl (Jq rfl (Jn ?_))))
    exact ⟨kS, rfl, H⟩
   case h2 =>
    (clear H; intro E46 w46 H)
    refine Ja (Jn (Js (Js (Jr (Jf 0 underlying283 rfl sizeOf3 rfl rfl (Jl isAgg3 rfl (H.get .here) rfl (J (Vb rfl rfl) (Jm ?_))))))))
    apply Xz 4 27 31 [(28, 31)] H
    case hc => rfl
    case h1 =>
     intro h71
     refine Jt rfl rfl (Jf 0 underlying283 rfl sizeOf3 rfl rfl (Jt rfl rfl (Jl isAgg3 rfl (H.get .here) rfl (Jt rfl rfl (J (R_gt rfl rfl) (Jp rfl (Jn ?_)))))))
     exact ⟨kS, rfl, H⟩
    case h0 =>
     intro h71
     refine Jg rfl rfl (Jg rfl rfl (Jg rfl rfl (Jq rfl (Jn ?_))))
     exact ⟨kS, rfl, H⟩
    case h2 =>
     (clear H; intro E71 w71 H)
     refine Jm ?_
     apply Xz 4 32 36 [(33, 36)] H
     case hc => rfl
     case h1 =>
      intro h88
      refine Jt rfl rfl (Jf 1 underlying283 rfl sizeOf3 rfl rfl (Jt rfl rfl (Jl isAgg3 rfl (H.get .here) rfl (Jt rfl rfl (J (Vb rfl rfl) (Jp rfl (Jn ?_)))))))
      exact ⟨kS, rfl, H⟩
     case h0 =>
      intro h88
      refine Jg rfl rfl (Jg rfl rfl (Jg rfl rfl (Jq rfl (Jn ?_))))
      exact ⟨kS, rfl, H⟩
     case h2 =>
      (clear H; intro E88 w88 H)
      refine Jm ?_
      apply Xz 4 37 41 [(38, 41)] H
      case hc => rfl
      case h1 =>
       intro h105
       refine Jt rfl rfl (Jf 1 underlying283 rfl sizeOf3 rfl rfl (Jt rfl rfl (Jl isAgg3 rfl (H.get .here) rfl (Jt rfl rfl (J (R_gt rfl rfl) (Jp rfl (Jn ?_)))))))
       exact ⟨kS, rfl, H⟩
      case h0 =>
       intro h105
       refine Jg rfl rfl (Jg rfl rfl (Jg rfl rfl (Jq rfl (Jn ?_))))
       exact ⟨kS, rfl, H⟩
      case h2 =>
       (clear H; intro E105 w105 H)
       refine Jm ?_
       apply Xz 8 42 50 [(43, 50)] H
       case hc => rfl
       case h1 =>
        intro h122
        refine Jt rfl rfl (Jm (Jt rfl rfl (J (Zd rfl) (Jt rfl rfl (Jm ?_)))))
        apply Xs 4 45 49 [(46, 49)] H
        case hc => rfl
        case h1 =>
         intro h129
         refine Jt rfl rfl (Jf 1 underlying283 rfl sizeOf3 rfl rfl (Jt rfl rfl (Jl isAgg3 rfl (H.get .here) rfl (Jt rfl rfl (J (Zu rfl rfl) (Jt rfl rfl (Jq rfl (Jn ?_))))))))
         exact ⟨kS, rfl, H⟩
        case h0 =>
         intro h129
         refine Jg rfl rfl (Jg rfl rfl (Jg rfl rfl (Jt rfl rfl (Jp rfl (Jn ?_)))))
         exact ⟨kS, rfl, H⟩
        case h2 =>
         intro E129 w129 H
         refine Jp rfl (Jn ?_)
         exact ⟨kS, rfl, H⟩
       case h0 =>
        intro h122
        refine Jg rfl rfl (Jg rfl rfl (Jg rfl rfl (Jo rfl rfl (Jo rfl rfl (Jo rfl rfl (Jg rfl rfl (Jq rfl (Jn ?_))))))))
        exact ⟨kS, rfl, H⟩
       case h2 =>
        (clear H; intro E122 w122 H)
        refine Jm ?_
        apply Xz 4 51 55 [(52, 55)] H
        case hc => rfl
        case h1 =>
         intro h161
         refine Jt rfl rfl (Jf 2 underlying283 rfl sizeOf3 rfl rfl (Jt rfl rfl (Jl isAgg3 rfl (H.get .here) rfl (Jt rfl rfl (J (Zu rfl rfl) (Jp rfl (Jn ?_)))))))
         exact ⟨kS, rfl, H⟩
        case h0 =>
         intro h161
         refine Jg rfl rfl (Jg rfl rfl (Jg rfl rfl (Jq rfl (Jn ?_))))
         exact ⟨kS, rfl, H⟩
        case h2 =>
         (clear H; intro E161 w161 H)
         refine Jn (Xo rfl (fun h178 => ?_) (fun h178 => ?_))
         ·refine Js (Jr (Ja (Jn (Je ?_))))
          exact ⟨_, rfl, congrArg Value.bool (decide_eq_false (by unfold okP; simp only; omega)).symm, H.none kYs⟩
         ·refine Jk (Js (Jr (Jf 0 underlying283 rfl sizeOf3 rfl rfl (Jl isAgg3 rfl (H.get .here) rfl (J (Zu rfl rfl) (Jm ?_))))))
          apply Xz 5 59 64 [(60, 64)] H
          case hc => rfl
          case h1 =>
           intro h192
           refine Jt rfl rfl (Jf 1 underlying283 rfl sizeOf3 rfl rfl (Jt rfl rfl (Jl isAgg3 rfl (H.get .here) rfl (Jt rfl rfl (Jm (Jt rfl rfl (J (R_le rfl rfl) (Jp rfl (Jn ?_)))))))))
           exact ⟨kS, rfl, H⟩
          case h0 =>
           intro h192
           refine Jg rfl rfl (Jg rfl rfl (Jg rfl rfl (Jg rfl rfl (Jq rfl (Jn ?_)))))
           exact ⟨kS, rfl, H⟩
          case h2 =>
           (clear H; intro E192 w192 H)
           refine Ja (Jn (Je ?_))
           exact ⟨_, rfl, congrArg Value.bool (decide_eq_decide.2 (by unfold okP; simp only; omega)), H.none kYs⟩
theorem Ux (n : Int) (w : World) :
  Ret Tryz.prog 226 #[I n] w fun v w' => v = .bool (decide (0 ≤ n ∧ n ≤ 65535)) ∧ Hp w [] w' := by
 refine Qi (args := [_]) func226 rfl ntmps226 results226 (by simp) ?_
 have H := Hp.refl w
 refine Js (Jr (Ja (Jn (Js (Jr (Jm (J (Mi rfl rfl) (Jm ?_))))))))
 apply Xs 3 5 8 [(6, 8)] H
 case hc => rfl
 case h1 =>
  intro h10
  refine Jt rfl rfl (Jm (Jt rfl rfl (J (R_le rfl rfl) (Jq rfl (Jn ?_)))))
  exact ⟨kS, rfl, H⟩
 case h0 =>
  intro h10
  refine Jg rfl rfl (Jg rfl rfl (Jp rfl (Jn ?_)))
  exact ⟨kS, rfl, H⟩
 case h2 =>
  (clear H; intro E10 w10 H)
  refine Ja (Jn (Je ?_))
  exact ⟨_, rfl, congrArg Value.bool (decide_eq_decide.2 (by omega)), H⟩
theorem one_ret (p : Prop) [Decidable p] (w : World) :
  Ret Tryz.prog 224 #[.bool (decide p)] w fun v w' => v = I (if p then 1 else 0) ∧ Hp w [] w' := by
 refine Qi (args := [_]) func224 rfl ntmps224 results224 (by simp) ?_
 have H := Hp.refl w
 refine Js (Jr (Ja (Jn (Js (Js (Jr (Jm (Jn (Xo rfl (fun h10 => ?_) (fun h10 => ?_))))))))))
 ·refine Js (Jr (Ja (Jn (Je ?_))))
  exact ⟨_, rfl, congrArg I (by rw [if_pos (by assumption)]), H⟩
 ·refine Jk (Js (Jr (Ja (Jn (Je ?_)))))
  exact ⟨_, rfl, congrArg I (by rw [if_neg (by assumption)]), H⟩
end Go.Proofs.YtlpmfldijgdcoaaGreatDoor.Pred
namespace Go.Proofs.YtlpmfldijgdcoaaGreatDoor.Pred
open Go Go.Proofs Fx Tryz
/-- whether all instructions may be, so many being behind each -/
def allOk : List In → Bool
 | [] => true
 | i :: l => decide (okP i l.length) && allOk l
def chk (l : List In) : Int := if 32 < l.length then 6 else if allOk l = true then 0 else 1
theorem allOk_drop {l : List In} {k : Nat} {i : In} (h : l[k]? = some i) : allOk (l.drop k) = (decide (okP i ((l.length : Int) - 1 - k)) && allOk (l.drop (k + 1))) := by
 obtain ⟨hk, rfl⟩ := List.getElem?_eq_some_iff.1 h
 rw [List.drop_eq_getElem_cons hk]
 show (decide (okP l[k] ((l.drop (k + 1)).length : Nat)) && _) = _
 rw [List.length_drop, show ((l.length - (k + 1) : Nat) : Int) = (l.length : Int) - 1 - k from by omega]
section
variable {w : World} {l : List In} {v : Value}
theorem Dw (hl : RdR insC w v l) (hb : l.length ≤ 9223372036854775807) :
  Ret Tryz.prog 179 #[v] w fun v w' => v = I (chk l) ∧ Hp w [] w' := by
 refine Qi (args := [_]) func179 rfl ntmps179 results179 (by simp) ?_
 have H := Hp.refl w
 obtain ⟨ao, ca, rfl⟩ := hl.form
 refine Js (Jr (Ja (Jn (Js (Js (Jr (Jm (J (Qh underlying232 rfl) (J (R_gt rfl rfl) (Jn (Xo rfl (fun h12 => ?_) (fun h12 => ?_))))))))))))
 ·refine Js (Jr (Ja (Jn (Je ?_))))
  exact ⟨_, rfl, congrArg I (by unfold chk; rw [if_pos (by omega)]), H⟩
 ·refine Jk (Js (Js (Jr (Jm (J (Qh underlying232 rfl) (Jm (Jn (Jb ?_))))))))
  refine Yg [(2, 4), (10, 23)] (fun (k : Nat) E w' => k ≤ l.length ∧ E 10 = I k ∧ allOk (l.drop k) = allOk l ∧ Hp w [] w') (fun k => l.length - k) 0 ?e0 ?r0
  ·exact ⟨by omega, rfl, rfl, H⟩
  ·(clear H; rintro k E w1 ⟨hk, h0, ha, H⟩; refine Ur h0 ?_)
   refine Js (Jr (J (Vb rfl rfl) (Jn (Js (Xo rfl (fun h35 => ?_) (fun h35 => ?_))))))
   ·refine Jk (Js (Jb (Js ?_)))
    ((obtain ⟨i, hi⟩ : ∃ i, l[k]? = some i := ⟨_, List.getElem?_eq_getElem (by omega)⟩; obtain ⟨b, off, rfl, hc⟩ := hl.cell Nm hi; rw [allOk_drop hi] at ha)) <;> refine Qk ?_
    (refine Jm (J (Qj underlying232 sizeOf283 rfl rfl (by omega) (by omega) idx_castn) (J (Vm (vs := insC i) isAgg283 sizeOf283 rfl (fun j v hj => H.Zx (hc j v hj) kYs) rfl) (Qb rfl (Qp H zeroValue283 rfl) ?_))); clear H; intro b44 w44 hb44 H)
    (refine Ja (Qd rfl (Qg (vs := insC i) H sizeOf283 rfl rfl (by simp [insC, Value.oneCell']) .here (by simp [Nm])) ?_); clear H; intro w46 H; rw [show List.take 0 [I 0, I 0, I 0] ++ insC i ++ List.drop (0 + (insC i).length) [I 0, I 0, I 0] = insC i from by simp [Nm]] at H)
    (refine Jn (Js (Jr (J (Qo (vs := insC i) isAgg283 sizeOf283 rfl (H.get .here) rfl (by simp [Nm])) (Jm (J (Qh underlying232 rfl) (J (Vt rfl rfl (Xc (by omega))) (Jm (J (Vt rfl rfl (Xc (by omega))) (Jz rfl call223 rfl (Dm i _ _) H ?_))))))))); intro w56 H)
    refine J (Zd rfl) (Jn (Xo rfl (fun h59 => ?_) (fun h59 => ?_)))
    ·refine Js (Jr (Ja (Jn (Je ?_))))
     exact ⟨_, rfl, congrArg I (by unfold chk; rw [if_neg (by omega), if_neg (by rw [← ha, decide_eq_false (by assumption), Bool.false_and]; decide)]), H.none kYs⟩
    ·refine Jk (Jr (J (Xg rfl rfl (Xc (by omega))) (Jm (Jn ?_))))
     exact ⟨kS, k + 1, by omega, by omega, rfl, (by rw [← ha, decide_eq_true (Decidable.of_not_not (by assumption)), Bool.true_and]), H.none kYs⟩
   ·refine Xr ?_
    refine (if_pos rfl).mpr ?_
    refine Js (Jr (Ja (Jn (Je ?_))))
    exact ⟨_, rfl, congrArg I (by unfold chk; rw [if_neg (by omega), if_pos (by rw [← ha, List.drop_of_length_le (by omega)]; rfl)]), H⟩
/-- what becomes of the machine's number -/
def doN (view : List UInt8) (now n : Int) (i : In) : Int :=
 if i.op = 1 then ((view[i.a.toNat]?).elim 0 fun x => (x.toNat : Int))
 else if i.op = 2 then now
 else if i.op = 3 then Dn .and .i64 n i.a
 else if i.op = 4 then (if n < i.a then 1 else 0)
 else if i.op = 7 then (if n = 0 then 1 else 0)
 else n
/-- how many instructions are passed over -/
def doS (n : Int) (i : In) : Int := if i.op = 5 ∧ n ≠ 0 then i.a else 0
theorem do_ret {p : Nat} {view : List UInt8} {n now : Int} {i : In} (hp : w.heap[p]? = some (blk [I n, v, I now] 281)) (hv : RdS w v (view.map U)) (hne : ∀ a m c, v = .slice (some a) m c → view ≠ [] → a.block ≠ p) (ha : 0 ≤ i.a ∧ i.a ≤ 65535) (hb : view.length ≤ 9223372036854775807) :
  Ret Tryz.prog 180 #[ptr p 0, .agg (insC i).toArray] w fun r w' => r = I (doS n i) ∧ Hp w [(p, blk [I (doN view now n i), v, I now] 281)] w' := by
 refine Qi (args := [_, _]) func180 rfl ntmps180 results180 (by simp) ?_
 obtain ⟨op, a, b⟩ := i
 obtain ⟨ao, ca, rfl⟩ := hv.form
 simp only [List.length_map] at hv hp ha ⊢
 have H := Hp.focus0 hp
 (refine Js (Jr (Qb rfl (Xl (vs := [I op, I a, I b]) H rfl rfl) ?_)); clear H; intro b3 w3 hb3 H)
 refine Ja (Jn (Js (Js (Jr (Jf 0 underlying283 rfl sizeOf3 rfl rfl (Jl isAgg3 rfl (H.get .here) rfl (Jn (Jb (Js (Jr (J (Yk rfl rfl) (Ja (Jn (Xo rfl (fun h18 => ?_) (fun h18 => ?_)))))))))))))))
 ·(refine Js (Jr (Jm (Ji rfl (Jf 0 underlying281 rfl sizeOf3 rfl rfl (Qd rfl (Qz (v := (.int _ _)) H sizeOf3 rfl rfl rfl (.there .here) (by simp)) ?_))))); clear H; intro w24 H)
  refine Jn (Js ?_)
  (refine Zc (fun _ => false) (by kernel_rfl) H ?_; clear H; intro w27 H)
  refine Az 0 rfl rfl H (fun _ hC => Qa (off' := 1) underlying283 rfl sizeOf3 (by decide) rfl rfl) (Az 1 rfl rfl H (fun _ hC => Qe isAgg3 rfl (hC.get .here) rfl) (Am 2 rfl H (Az 3 rfl rfl H (fun _ hC => Qf rfl) (Az 4 rfl rfl H (fun _ hC => Qa (off' := 1) underlying281 rfl sizeOf36 (by decide) rfl rfl) (Az 5 rfl rfl H (fun _ hC => Qe isAgg36 rfl (hC.get (.there .here)) rfl) (Az 6 rfl rfl H (fun _ hC => Qh underlying36 rfl) (Az 7 rfl rfl H (fun _ hC => Vb rfl rfl) (Ad (Xo rfl (fun h37 => ?_) (fun h37 => ?_))))))))))
  ·(obtain ⟨u, hu⟩ : ∃ u, view[a.toNat]? = some u := ⟨_, List.getElem?_eq_getElem (by omega)⟩; obtain ⟨b1, o1, rfl, hc1⟩ := hv.cell (i := a.toNat) (u := U u) (by rw [List.getElem?_map, hu]; rfl); have hb1 := lt_of_cell hc1; have hbp := hne _ _ _ rfl (by rintro rfl; cases hu); simp only at hb1 hbp) <;> (refine Zc (fun i => Nat.ble 10 i) (by kernel_rfl) H ?_; clear H; intro w38 H)
   refine Am 0 rfl H (Am 1 rfl H (Az 2 rfl rfl H (fun _ hC => Qf rfl) (Az 3 rfl rfl H (fun _ hC => Qa (off' := 1) underlying281 rfl sizeOf36 (by decide) rfl rfl) (Az 4 rfl rfl H (fun _ hC => Qe isAgg36 rfl (hC.get (.there .here)) rfl) (Az 5 rfl rfl H (fun _ hC => Qa (off' := 1) underlying283 rfl sizeOf3 (by decide) rfl rfl) (Az 6 rfl rfl H (fun _ hC => Qe isAgg3 rfl (hC.get .here) rfl) (Az 7 rfl rfl H (fun _ hC => Qj underlying36 sizeOf5 rfl rfl (by omega) (by omega) Xt) (Az 8 rfl rfl H (fun _ hC => Qx isAgg5 rfl (hC.cell hc1 (by simp only [List.map_cons, List.map_nil, List.mem_cons, List.not_mem_nil, or_false]; omega))) (Az 9 rfl rfl H (fun _ hC => Xe underlying5 underlying3 rfl Yf) (Ao 10 ?_))))))))))
   refine Xv rfl (.inl rfl) (Qf rfl) kC ?_
   refine Ao 11 ?_
   refine Xv rfl (.inl rfl) (Qa (off' := 0) underlying281 rfl sizeOf3 (by decide) rfl rfl) kC ?_
   (refine Ao 12 (Xb rfl (.inl rfl) (Qz (v := (.int _ _)) H sizeOf3 rfl rfl rfl (.there .here) (by simp)) (fun _ H => kC) ?_); clear H; intro w54 H)
   refine Ad (Js (Jr (Ja (Jn (Je ?_)))))
   exact ⟨_, rfl, congrArg I (by unfold doS; simp only; rw [if_neg (by omega)]), (by unfold doN; simp only [hu, Option.elim]; rw [if_pos (by omega)]; exact H.pop hb3)⟩
  ·refine Jk (Js (Jr (Ja (Jn (Je ?_)))))
   exact ⟨_, rfl, congrArg I (by unfold doS; simp only; rw [if_neg (by omega)]), (by unfold doN; simp only; rw [if_pos (by omega), List.getElem?_eq_none (by omega)]; exact H.pop hb3)⟩
 ·refine Js (Jr (J (Yk rfl rfl) (Ja (Jn (Xo rfl (fun h74 => ?_) (fun h74 => ?_))))))
  ·(refine Jr (Jm (Jm (Ji rfl (Jf 2 underlying281 rfl sizeOf3 rfl rfl (Jl isAgg3 rfl (H.get (.there .here)) rfl (Ji rfl (Jf 0 underlying281 rfl sizeOf3 rfl rfl (Qd rfl (Qz (v := (.int _ _)) H sizeOf3 rfl rfl rfl (.there .here) (by simp)) ?_)))))))); clear H; intro w83 H)
   refine Jn (Js (Jr (Ja (Jn (Je ?_)))))
   exact ⟨_, rfl, congrArg I (by unfold doS; simp only; first | rw [if_pos (by omega)] | rw [if_neg (by omega)]), (by unfold doN; simp only; (repeat' first | rw [if_pos (by omega)] | rw [if_neg (by omega)] | fail); exact H.pop hb3)⟩
  ·refine Js (Jr (J (Yk rfl rfl) (Ja (Jn (Xo rfl (fun h96 => ?_) (fun h96 => ?_))))))
   ·(refine Zc (fun i => Nat.ble 7 i) (by kernel_rfl) H ?_; clear H; intro w97 H)
    refine Am 0 rfl H (Az 1 rfl rfl H (fun _ hC => Qf rfl) (Az 2 rfl rfl H (fun _ hC => Qa (off' := 0) underlying281 rfl sizeOf3 (by decide) rfl rfl) (Az 3 rfl rfl H (fun _ hC => Qe isAgg3 rfl (hC.get (.there .here)) rfl) (Az 4 rfl rfl H (fun _ hC => Qa (off' := 1) underlying283 rfl sizeOf3 (by decide) rfl rfl) (Az 5 rfl rfl H (fun _ hC => Qe isAgg3 rfl (hC.get .here) rfl) (Az 6 rfl rfl H (fun _ hC => Zb rfl rfl (by simp) rfl) (Ao 7 ?_)))))))
    refine Xv rfl (.inl rfl) (Qf rfl) kC ?_
    refine Ao 8 ?_
    refine Xv rfl (.inl rfl) (Qa (off' := 0) underlying281 rfl sizeOf3 (by decide) rfl rfl) kC ?_
    (refine Ao 9 (Xb rfl (.inl rfl) (Qz (v := (.int _ _)) H sizeOf3 rfl rfl rfl (.there .here) (by simp)) (fun _ H => kC) ?_); clear H; intro w110 H)
    refine Ad (Js (Jr (Ja (Jn (Je ?_)))))
    exact ⟨_, rfl, congrArg I (by unfold doS; simp only; first | rw [if_pos (by omega)] | rw [if_neg (by omega)]), (by unfold doN; simp only; (repeat' first | rw [if_pos (by omega)] | rw [if_neg (by omega)] | fail); exact H.pop hb3)⟩
   ·refine Js (Jr (J (Yk rfl rfl) (Ja (Jn (Xo rfl (fun h123 => ?_) (fun h123 => ?_))))))
    ·(refine Zc (fun i => Nat.ble 9 i) (by kernel_rfl) H ?_; clear H; intro w124 H)
     (refine Am 0 rfl H (Am 1 rfl H (Az 2 rfl rfl H (fun _ hC => Qf rfl) (Az 3 rfl rfl H (fun _ hC => Qa (off' := 0) underlying281 rfl sizeOf3 (by decide) rfl rfl) (Az 4 rfl rfl H (fun _ hC => Qe isAgg3 rfl (hC.get (.there .here)) rfl) (Az 5 rfl rfl H (fun _ hC => Qa (off' := 1) underlying283 rfl sizeOf3 (by decide) rfl rfl) (Az 6 rfl rfl H (fun _ hC => Qe isAgg3 rfl (hC.get .here) rfl) (Az 7 rfl rfl H (fun _ hC => Vb rfl rfl) (Ao 8 (Qv rfl (.inl rfl) (Qw rfl call224 rfl) (by exact one_ret _ _) (by first | exact fun _ _ hR _ => H.seq0 hR.2 | exact fun _ _ hR h => Bool.noConfusion h | exact fun _ _ hR _ => (H.seq0 hR.2).none kYs | exact fun _ _ hR _ => (H.seq0 hR.2).Ub kYs) ?_))))))))); rintro _ w134 ⟨rfl, H1⟩; replace H := H.seq0 H1; clear H1)
     refine Ao 9 ?_
     refine Xv rfl (.inl rfl) (Qf rfl) kC ?_
     refine Ao 10 ?_
     refine Xv rfl (.inl rfl) (Qa (off' := 0) underlying281 rfl sizeOf3 (by decide) rfl rfl) kC ?_
     (refine Ao 11 (Xb rfl (.inl rfl) (Qz (v := (.int _ _)) H sizeOf3 rfl rfl rfl (.there .here) (by simp)) (fun _ H => kC) ?_); clear H; intro w140 H)
     refine Ad (Js (Jr (Ja (Jn (Je ?_)))))
     exact ⟨_, rfl, congrArg I (by unfold doS; simp only; first | rw [if_pos (by omega)] | rw [if_neg (by omega)]), (by unfold doN; simp only; (repeat' first | rw [if_pos (by omega)] | rw [if_neg (by omega)] | fail); exact H.pop hb3)⟩
    ·refine Js (Jr (J (Yk rfl rfl) (Ja (Jn (Xo rfl (fun h153 => ?_) (fun h153 => ?_))))))
     ·(refine Jr (Jm (Jm (Ji rfl (Jf 0 underlying281 rfl sizeOf3 rfl rfl (Jl isAgg3 rfl (H.get (.there .here)) rfl (J (Yk rfl rfl) (Jz rfl call224 rfl (one_ret _ _) H ?_))))))); intro w161 H)
      (refine Ji rfl (Jf 0 underlying281 rfl sizeOf3 rfl rfl (Qd rfl (Qz (v := (.int _ _)) H sizeOf3 rfl rfl rfl (.there .here) (by simp)) ?_)); clear H; intro w164 H)
      refine Jn (Js (Jr (Ja (Jn (Je ?_)))))
      exact ⟨_, rfl, congrArg I (by unfold doS; simp only; first | rw [if_pos (by omega)] | rw [if_neg (by omega)]), (by unfold doN; simp only; (repeat' first | rw [if_pos (by omega)] | rw [if_neg (by omega)] | fail); exact H.pop hb3)⟩
     ·refine Js (Jr (J (Yk rfl rfl) (Ja (Jn (Xo rfl (fun h177 => ?_) (fun h177 => ?_))))))
      ·refine Js (Jr (Jm (Ji rfl (Jf 0 underlying281 rfl sizeOf3 rfl rfl (Jl isAgg3 rfl (H.get (.there .here)) rfl (J (Zu rfl rfl) (Jn (Xo rfl (fun h186 => ?_) (fun h186 => ?_)))))))))
       ·refine Js (Jr (Jf 1 underlying283 rfl sizeOf3 rfl rfl (Jl isAgg3 rfl (H.get .here) rfl (Ja (Jn (Je ?_))))))
        exact ⟨_, rfl, congrArg I (by unfold doS; simp only; first | rw [if_pos (by omega)] | rw [if_neg (by omega)]), (by unfold doN; simp only; (repeat' first | rw [if_pos (by omega)] | rw [if_neg (by omega)] | fail); exact H.pop hb3)⟩
       ·refine Jk (Js (Jr (Ja (Jn (Je ?_)))))
        exact ⟨_, rfl, congrArg I (by unfold doS; simp only; first | rw [if_pos (by omega)] | rw [if_neg (by omega)]), (by unfold doN; simp only; (repeat' first | rw [if_pos (by omega)] | rw [if_neg (by omega)] | fail); exact H.pop hb3)⟩
      ·refine Jk (Js (Jr (Ja (Jn (Je ?_)))))
       exact ⟨_, rfl, congrArg I (by unfold doS; simp only; first | rw [if_pos (by omega)] | rw [if_neg (by omega)]), (by unfold doN; simp only; (repeat' first | rw [if_pos (by omega)] | rw [if_neg (by omega)] | fail); exact H.pop hb3)⟩
end
end Go.Proofs.YtlpmfldijgdcoaaGreatDoor.Pred
namespace Go.Proofs.YtlpmfldijgdcoaaGreatDoor.Pred
open Go Go.Proofs Fx Tryz
/-- the answer and the steps, from some instructions on, with a number -/
def evS (view : List UInt8) (now : Int) : Nat → List In → Int → Bool × Nat
 | 0, _, _ => (false, 0)
 | _ + 1, [], _ => (false, 0)
 | f + 1, i :: l, n =>
  if i.op = 6 then (true, 1)
  else ((evS view now f (l.drop (doS n i).toNat) (doN view now n i)).1, (evS view now f (l.drop (doS n i).toNat) (doN view now n i)).2 + 1)
def evP (view : List UInt8) (now : Int) (l : List In) : Bool × Nat := if chk l = 0 then evS view now l.length l 0 else (false, 0)
theorem allOk_get : ∀ {l : List In} {k : Nat} {i : In}, allOk l = true → l[k]? = some i → okP i ((l.length : Int) - 1 - k)
 | [], _, _, _, h => by simp at h
 | a :: l, 0, i, h, hi => by
  simp only [List.getElem?_cons_zero, Option.some.injEq] at hi
  subst hi
  simp only [allOk, Bool.and_eq_true, decide_eq_true_eq] at h
  have h1 := h.1
  rw [List.length_cons]
  have e : (((l.length + 1 : Nat) : Int) - 1 - ((0 : Nat) : Int)) = (l.length : Int) := by omega
  rw [e]; exact h1
 | a :: l, k + 1, i, h, hi => by
  simp only [List.getElem?_cons_succ] at hi
  simp only [allOk, Bool.and_eq_true] at h
  have := allOk_get h.2 hi
  rw [List.length_cons]
  have e : (((l.length + 1 : Nat) : Int) - 1 - ((k + 1 : Nat) : Int)) = (l.length : Int) - 1 - k := by omega
  rw [e]; exact this
theorem chk_zero {l : List In} (h : chk l = 0) : l.length ≤ 32 ∧ allOk l = true := by
 unfold chk at h
 split at h
 ·omega
 ·split at h
  ·rename_i h1 h2; exact ⟨by omega, h2⟩
  ·omega
theorem evS_step {view now} {f : Nat} {l : List In} {n : Int} {k : Nat} {i : In} (h : l[k]? = some i) :
  evS view now (f + 1) (l.drop k) n = if i.op = 6 then (true, 1)
   else ((evS view now f (l.drop (k + 1 + (doS n i).toNat)) (doN view now n i)).1, (evS view now f (l.drop (k + 1 + (doS n i).toNat)) (doN view now n i)).2 + 1) := by
 obtain ⟨hk, rfl⟩ := List.getElem?_eq_some_iff.1 h
 rw [List.drop_eq_getElem_cons hk]
 simp only [evS, List.drop_drop]
theorem evS_nil {view now} (f : Nat) (n : Int) : evS view now f [] n = (false, 0) := by cases f <;> rfl
theorem doS_bd {n : Int} {i : In} {bh : Int} (h : okP i bh) (h0 : 0 ≤ bh) : 0 ≤ doS n i ∧ doS n i ≤ bh := by
 unfold okP at h
 unfold doS
 split <;> omega
section
variable {w : World} {l : List In} {v lv : Value}
theorem eval_ret {view : List UInt8} (now : Int) (hv : RdS w v (view.map U)) (hl : RdR insC w lv l) (hb : view.length ≤ 9223372036854775807) (hb2 : l.length ≤ 9223372036854775807) :
  Ret Tryz.prog 135 #[v, I now, lv] w fun r w' => r = .tuple #[.bool (evP view now l).1, I (evP view now l).2] ∧ Hp w [] w' := by
 refine Qi (args := [_, _, _]) func135 rfl ntmps135 results135 (by simp) ?_
 obtain ⟨ao, ca, rfl⟩ := hl.form
 obtain ⟨av, cv, rfl⟩ := hv.form
 simp only [List.length_map] at hv ⊢
 have H := Hp.refl w
 (refine Js (Jr (Ja (Ja (Jn (Js (Js (Jr (Jm (Jz rfl call179 rfl (Dw hl hb2) H ?_))))))))); intro w10 H)
 refine J (Zu rfl rfl) (Jn (Xo rfl (fun h13 => ?_) (fun h13 => ?_)))
 ·refine Js (Jr (Ja (Ja (Jn (Je ?_)))))
  exact ⟨_, rfl, (by unfold evP; rw [if_neg (by assumption)]; rfl), H⟩
 ·refine Jk (Js ?_)
  (obtain ⟨hl32, hall⟩ := chk_zero (l := l) (by omega)) <;> refine Qk ?_
  (refine Jm (Jm (J (Nb (vs := [(.int _ _), (.slice _ _ _), (.int _ _)]) rfl rfl) (Qb rfl (Xl (vs := [I 0, .slice av view.length cv, I now]) H rfl rfl) ?_))); clear H; intro p w27 hp H)
  refine Ja (Jn (Js (Jr (Ja (Jn (Js (Js (Jr (Ja (Jn (Jb ?_)))))))))))
  refine Yg [(6, 7), (9, 10), (18, 40)] (fun (k : Nat) E w' => ∃ (n : Int) (st f : Nat), k ≤ l.length ∧ E 9 = I st ∧ E 10 = I k ∧ l.length - k ≤ f ∧ st ≤ k ∧ (evS view now f (l.drop k) n).1 = (evP view now l).1 ∧ st + (evS view now f (l.drop k) n).2 = (evP view now l).2 ∧ Hp w [(p, blk [I n, .slice av view.length cv, I now] 281)] w') (fun k => l.length - k) 0 ?e0 ?r0
  ·exact ⟨0, 0, l.length, by omega, rfl, rfl, by omega, by omega, by unfold evP; rw [if_pos (by omega)]; rfl, by unfold evP; rw [if_pos (by omega)]; exact Nat.zero_add _, H⟩
  ·(clear H; rintro k E w1 ⟨n, st, f, hk, h0, h1, hf, hst, hev1, hev2, H⟩; refine W_kn2 h0 h1 ?_)
   refine Js (Js (Jr (Jm (Jm (J (Qh underlying232 rfl) (J (Vb rfl rfl) (Jn (Xo rfl (fun h50 => ?_) (fun h50 => ?_)))))))))
   ·refine Jk (Js (Jb (Js (Jr (Jm (J (Xg (r := ((st + 1 : Nat) : Int)) rfl rfl (by rw [Xc (by omega)]; omega)) (Ja (Jn (Js (Js ?_))))))))))
    (obtain ⟨i, hi⟩ : ∃ i, l[k]? = some i := ⟨_, List.getElem?_eq_getElem (by omega)⟩; obtain ⟨b, off, rfl, hc⟩ := hl.cell Nm hi; have hok := allOk_get hall hi; obtain ⟨f, rfl⟩ : ∃ g, f = g + 1 := ⟨f - 1, by omega⟩; rw [evS_step hi] at hev1 hev2) <;> refine Qk ?_
    refine Jm (Jm (J (Qj underlying232 sizeOf283 rfl rfl (by omega) (by omega) idx_castn) (J (Qa underlying283 rfl sizeOf3 (by decide) rfl rfl) (J (Qx isAgg3 rfl (H.Zx (hc 0 (I i.op) rfl) kYs)) (J (Yk rfl rfl) (Jn (Xo rfl (fun h70 => ?_) (fun h70 => ?_))))))))
    ·refine Js (Jr (Jm (Ja (Ja (Jn (Je ?_))))))
     (rw [if_pos (by assumption)] at hev1 hev2; exact ⟨_, rfl, (by rw [← hev1, ← hev2]; rfl), H.none kYs⟩)
    ·refine Jk ?_
     (rw [if_neg (by assumption)] at hev1 hev2; have hds := doS_bd (n := n) hok (by omega); obtain ⟨s, hs⟩ : ∃ s : Nat, doS n i = (s : Int) := ⟨(doS n i).toNat, by omega⟩; rw [hs, Int.toNat_natCast] at hev1 hev2; rw [hs] at hds) <;> refine Qk ?_
     (refine Jm (Jm (Jm (Jm (J (Qj underlying232 sizeOf283 rfl rfl (by omega) (by omega) idx_castn) (J (Vm (vs := insC i) isAgg283 sizeOf283 rfl (fun j v hj => H.Zx (hc j v hj) kYs) rfl) (Jy rfl call180 rfl (do_ret (H.get .here) (hv.Yd H kYs) (fun a m c he hne => by have h5 := hv.lt (by simpa using hne) a m c he; omega) (by unfold okP at hok; omega) hb) ?_)))))); rintro _ w87 ⟨rfl, H1⟩; rw [hs]; replace H := H.seq H1 (Yh .here Yi); clear H1)
     refine J (Xg (r := ((k + s : Nat) : Int)) rfl rfl (by rw [Xc (by omega)]; omega)) (Ja (Jn (Jr (Jm (J (Xg (r := ((k + 1 + s : Nat) : Int)) rfl rfl (by rw [Xc (by omega)]; omega)) (Ja (Jn ?_)))))))
     exact ⟨kS, k + 1 + s, by omega, _, st + 1, f, by omega, rfl, rfl, by omega, by omega, hev1, by omega, H⟩
   ·refine Xr ?_
    refine (if_pos rfl).mpr ?_
    refine Js (Jr (Jm (Ja (Ja (Jn (Je ?_))))))
    (rw [List.drop_of_length_le (by omega), evS_nil] at hev1 hev2; exact ⟨_, rfl, (by rw [← hev1, ← hev2]; rfl), H.none kYs⟩)
end
end Go.Proofs.YtlpmfldijgdcoaaGreatDoor.Pred
namespace Go.Proofs.YtlpmfldijgdcoaaGreatDoor.Ho
open Go Go.Proofs Fx Kn Cm Sect Tryz
section
variable {w : World} {c : Nat} {C : Cs}
theorem Now_ret {κ : KS} (hk : w.heap[κ.k]? = some κ.kb) : Ret Tryz.prog 137 #[ptr κ.k 0] w fun v w' => v = I κ.now ∧ Hp w [] w' := by
 refine Qi (args := [_]) func137 rfl ntmps137 results137 (by simp) ?_
 have H := Hp.refl w
 unfold KS.kb at hk
 refine Js (Jr (Ja (Jn (Js (Jr (Jm (Ji rfl (Jf 7 underlying113 rfl sizeOf3 rfl rfl (J (Qe (v := I κ.now) isAgg3 rfl (H.Qc hk kYs) rfl) (Ja (Jn (Je ?_))))))))))))
 exact ⟨_, rfl, rfl, H⟩
theorem View_ret (hM : CmI w c C) : Ret Tryz.prog 136 #[ptr c 0] w fun v w' => ∃ M, Yo w.heap.size 5 1 v 492 ((C.rc 0 0 492).map U) M ∧ Hp w M w' := by
 refine Qi (args := [_]) func136 rfl ntmps136 results136 (by simp) ?_
 have H := Hp.refl w
 have hcb := hM.hc
 have hcv := hM.hcv
 have hl := hM.hl
 have hl0 := hM.hl0
 obtain ⟨nm, hnm⟩ : ∃ nm, C.nms[0]? = some nm := ⟨_, List.getElem?_eq_getElem (by omega)⟩
 obtain ⟨x, hx⟩ : ∃ x, C.wins[0]? = some x := ⟨_, List.getElem?_eq_getElem (by omega)⟩
 have hx2 := hM.hz0 x hx
 have hrec : C.rc 0 0 492 = (C.κ.xs.drop (x.1 + 0)).take 492 := by unfold Cs.rc win; rw [List.getD_eq_getElem?_getD, hx]; rfl
 rw [hrec]
 obtain ⟨cb, co, hca, hcell⟩ := hcv.cell (i := 0) (u := I nm) (by rw [List.getElem?_map, hnm]; rfl)
 rw [hca] at hcb
 refine Js (Jr (Ja (Jn (Js ?_))))
 (refine Xi (KH w []) (fun _ => false) (by kernel_rfl) H ?_; clear H; intro w6 H)
 (refine Am 0 rfl H.kK (Az 1 rfl rfl H.kK (fun _ hC => Qf rfl) (Az 2 rfl rfl H.kK (fun _ hC => Qa (off' := 0) underlying177 rfl sizeOf71 (by decide) rfl rfl) (Az 3 rfl rfl H.kK (fun _ hC => Qe (v := ptr C.κ.k 0) isAgg71 rfl (hC.Qc hcb kYs) rfl) (Am 4 rfl H.kK (Az 5 rfl rfl H.kK (fun _ hC => Qf rfl) (Az 6 rfl rfl H.kK (fun _ hC => Qa (off' := 1) underlying177 rfl sizeOf3 (by decide) rfl rfl) (Az 7 rfl rfl H.kK (fun _ hC => Qe (v := I C.e) isAgg3 rfl (hC.Qc hcb kYs) rfl) (Am 8 rfl H.kK (Az 9 rfl rfl H.kK (fun _ hC => Qf rfl) (Az 10 rfl rfl H.kK (fun _ hC => Qa (off' := 2) underlying177 rfl sizeOf22 (by decide) rfl rfl) (Az 11 rfl rfl H.kK (fun _ hC => Qe (v := .slice (some ⟨cb, co, none⟩) C.nms.length C.cc) isAgg22 rfl (hC.Qc hcb kYs) rfl) (Az 12 rfl rfl H.kK (fun _ hC => Qj (off' := co) underlying22 sizeOf3 rfl rfl (by omega) (by omega) (by omega)) (Az 13 rfl rfl H.kK (fun _ hC => Qx (v := I nm) isAgg3 rfl (hC.old.Zx hcell kYs)) (Az 14 rfl rfl H.kK (fun _ hC => Qm (places := [(0, 1), (1, 1), (2, 1), (3, 1), (4, 1), (5, 1), (6, 1)]) (vs := [I 1, I nm, I (0 : Nat), I (492 : Nat), I 0, I 0, nilS]) underlying44 typeInfo44 rfl rfl (by kernel_rfl) rfl rfl rfl) (Ao 15 (Qv rfl (.inl rfl) (Qw rfl call36 rfl) (do_read (at_ := 0) (hM.hK.Ql H kYs) (hM.hw _ _ _ hnm hx) 492 (by omega)) (by exact fun _ _ ⟨u, M, _, hO, H1⟩ _ => ((H.Yn hO H1).2).kh (by simp) (Yv (H.Yn hO H1).1.keys kYs)) ?_)))))))))))))))); rintro _ w23 ⟨u, M, rfl, hO, H1⟩; have h23 := H.Yn hO H1; clear H H1 hO; obtain ⟨hO, H⟩ := h23; obtain ⟨ua, uc, rfl⟩ := hO.form)
 refine Az 16 rfl rfl H.kK (fun _ hC => R_field underlying96 rfl isAgg36 rfl rfl) (Aa 17 rfl H.kK (Ad (Je ?_)))
 exact ⟨_, rfl, M, hO, H.cut kYs⟩
theorem WakeF (g : Gd w c C) (i : Nat) {op a b : Int} {da : Option Addr} {dl dc : Nat} (hop : op ≠ 10) :
  Ret Tryz.prog 138 #[ptr c 0, I i, .agg (sysC op a b (.slice da dl dc)).toArray] w fun v w' => ∃ M, Yo w.heap.size 283 3 v 1 (rows Pred.insC [⟨6, 0, 0⟩]) M ∧ Hp w M w' := by
 refine Qi (args := [_, _, _]) func138 rfl ntmps138 results138 (by simp) ?_
 have H := Hp.refl w
 (refine Js (Jr (Qb rfl (Xl (vs := sysC op a b (.slice da dl dc)) H rfl rfl) ?_)); clear H; intro c5 w3 hc5 H)
 (refine Ja (Jn (Js (Jr (Jm (Jz rfl call63 rfl (Look_L (g.Ql H kYs).hM g.hL) H ?_))))); intro w9 H)
 (refine Jn (Js (Jr (J (Qm (places := [(0, 1), (1, 1), (2, 1)]) (vs := Pred.insC ⟨6, 0, 0⟩) underlying283 typeInfo283 rfl rfl (by kernel_rfl) rfl rfl rfl) (Qb rfl (Zt (vss := [Pred.insC ⟨6, 0, 0⟩]) H underlying232 sizeOf283 zeroValue283 rfl rfl (by decide) rfl rfl (by simp [Pred.insC])) ?_)))); clear H; intro b17 w14 hb17 H)
 refine Ja (Jn (Js (Js (Jr (Jf 0 underlying38 rfl sizeOf3 rfl rfl (J (Qe (v := I op) isAgg3 rfl (H.get (.there .here)) rfl) (J (Dq rfl rfl (by omega)) (Jn (Jd rfl (Js (Jr (Jm (Ja (Jn (Je ?_)))))))))))))))
 exact ⟨_, rfl, _, Yo.new (sp := []) hb17 rfl rfl (Nat.le_refl _), Hp.cut (L := [_]) (M := [_]) H kYs⟩
end
end Go.Proofs.YtlpmfldijgdcoaaGreatDoor.Ho
namespace Go.Proofs.YtlpmfldijgdcoaaGreatDoor.Ho
open Go Go.Proofs Fx Kn Cm Sect Tryz
theorem ev1 (view : List UInt8) (now : Int) : (Pred.evP view now [⟨6, 0, 0⟩]).1 = true := by rfl
section
variable {w : World} {h e n sp c : Nat} {C : Cs} {S : Sx} {qs : List Nat} {i : Nat} {ph st op a b : Int} {da : Option Addr} {dl dc : Nat}
theorem blockedF {p : Slot.Pi} (hh : w.heap[h]? = some (blk (hC C.κ e i n c ph st op a b (.slice da dl dc)) 139)) (g : Gd w c C) (hz : Zs p) (hop : op ≠ 10) :
  Ret Tryz.prog 99 #[ptr h 0, Slot.vP p] w fun v w' => v = .tuple #[.agg z0.toArray, .bool false] ∧ Hp w [(h, blk (hC C.κ e i n c 1 st op a b (.slice da dl dc)) 139)] w' := by
 refine Qy (args := [_, _]) func99 rfl ntmps99 results99 (by simp) ?_
 have H := Hp.refl w
 have hk := g.hM.hK.hk
 (refine Js (Jr (Qb rfl (Slot.Ys H rfl) ?_)); clear H; intro c3 w3 hc3 H)
 (refine Qb rfl (Qp (vs := z0) H zeroValue40 rfl) ?_; clear H; intro c4 w4 hc4 H)
 (refine Ja (Jn (Js (Js (Jr (J (Slot.Xa (p := p) rfl (H.get (.there .here))) (Jz rfl call134 rfl (wakesZ hz _) H ?_)))))); intro w11 H)
 refine Jn (Jc rfl (Jk (Js (Js ?_))))
 (refine Xi (KH w [(c4, blk z0 40), (c3, blk (Slot.piC p) 58)]) (fun _ => false) (by kernel_rfl) H ?_; clear H; intro w17 H)
 (refine Am 0 rfl H.kK (Az 1 rfl rfl H.kK (fun _ hC => Qf rfl) (Az 2 rfl rfl H.kK (fun _ hC => Qa (off' := 4) underlying139 rfl sizeOf93 (by decide) rfl rfl) (Az 3 rfl rfl H.kK (fun _ hC => Qe isAgg93 rfl (hC.Qc hh kYs) rfl) (Am 5 rfl H.kK (Az 6 rfl rfl H.kK (fun _ hC => Qf rfl) (Az 7 rfl rfl H.kK (fun _ hC => Qa (off' := 0) underlying139 rfl sizeOf71 (by decide) rfl rfl) (Az 8 rfl rfl H.kK (fun _ hC => Qe isAgg71 rfl (hC.Qc hh kYs) rfl) (Am 10 rfl H.kK (Az 11 rfl rfl H.kK (fun _ hC => Qf rfl) (Az 12 rfl rfl H.kK (fun _ hC => Qa (off' := 4) underlying139 rfl sizeOf93 (by decide) rfl rfl) (Az 13 rfl rfl H.kK (fun _ hC => Qe isAgg93 rfl (hC.Qc hh kYs) rfl) (Am 14 rfl H.kK (Az 15 rfl rfl H.kK (fun _ hC => Qf rfl) (Az 16 rfl rfl H.kK (fun _ hC => Qa (off' := 2) underlying139 rfl sizeOf3 (by decide) rfl rfl) (Az 17 rfl rfl H.kK (fun _ hC => Qe isAgg3 rfl (hC.Qc hh kYs) rfl) (Am 18 rfl H.kK (Az 19 rfl rfl H.kK (fun _ hC => Qf rfl) (Az 20 rfl rfl H.kK (fun _ hC => Qa (off' := 7) underlying139 rfl sizeOf38 (by decide) rfl rfl) (Az 21 rfl rfl H.kK (fun _ hC => Qo (vs := sysC op a b (.slice da dl dc)) isAgg38 sizeOf38 rfl (hC.Qc hh kYs) rfl (by simp)) (Ao 4 (Qv rfl (.inl rfl) (Qw rfl call136 rfl) (View_ret (g.Ql H kYs).hM) (by exact fun _ _ ⟨M, hO, H1⟩ _ => ((H.Yn hO H1).2).kh (by simp) (Yv (H.Yn hO H1).1.keys kYs)) ?_))))))))))))))))))))); rintro _ w39 ⟨Mv, hOv, H1⟩; have h39 := H.Yn hOv H1; clear H H1 hOv; obtain ⟨hOv, H⟩ := h39; obtain ⟨va, vc, rfl⟩ := hOv.form)
 (refine Ao 9 (Qv rfl (.inl rfl) (Qw rfl call137 rfl) (Now_ret (H.Qc hk kYs)) (fun _ _ hR _ => (H.seq0 hR.2).kh (by simp) kYs) ?_); rintro _ w41 ⟨rfl, H1⟩; replace H := H.seq0 H1; clear H1)
 (refine Ao 22 (Qv rfl (.inl rfl) (Qw rfl call138 rfl) (WakeF (g.Ql H kYs) i hop) (by exact fun _ _ ⟨M, hO, H1⟩ _ => ((H.Yn hO H1).2).kh (by simp) (Yv (H.Yn hO H1).1.keys kYs)) ?_); rintro _ w43 ⟨Mw, hOw, H1⟩; have h43 := H.Yn hOw H1; clear H H1 hOw; obtain ⟨hOw, H⟩ := h43; obtain ⟨wa, wc, rfl⟩ := hOw.form)
 (refine Ao 23 (Qv rfl (.inl rfl) (Qw rfl call135 rfl) (Pred.eval_ret C.κ.now (RdS.own hOv (fun p hp => H.held p (by simp [hp]))) (RdR.own Pred.Nm hOw rfl (fun p hp => H.held p (by simp [hp]))) (by have := hOv.1; simp at this; omega) (by decide)) (fun _ _ hR _ => (H.seq0 hR.2).kh (by simp) kYs) ?_); rintro _ w45 ⟨rfl, H1⟩; rw [ev1]; replace H := H.seq0 H1; clear H1)
 refine Am 24 rfl H.kK (Az 25 rfl rfl H.kK (fun _ hC => Qs rfl rfl) (Az 26 rfl rfl H.kK (fun _ hC => Qs rfl rfl) (Aa 27 rfl H.kK (Aa 28 rfl H.kK (Ad (Js (Jr (Jm (Jn (Jd rfl (Jr (Jm (Ji rfl (Jf 5 underlying139 rfl sizeOf3 rfl rfl ?_))))))))))))))
 (replace H := H.foc hh kYs; refine Qd rfl (Qz (v := I 1) H sizeOf3 rfl rfl rfl .here (by simp)) ?_; clear H; intro w61 H; replace H : Hp w ((h, blk (hC C.κ e i n c 1 st op a b (.slice da dl dc)) 139) :: (Mw ++ (Mv ++ [(c4, blk z0 40), (c3, blk (Slot.piC p) 58)]))) w61 := H)
 (refine Jn (Js (Jr (J (Qm (places := [(0, 1), (1, 1), (2, 4), (6, 1), (7, 1), (8, 1), (9, 1), (10, 1), (11, 1)]) (vs := z0) underlying40 typeInfo40 rfl rfl (by kernel_rfl) rfl rfl rfl) (Qd rfl (Qg (vs := z0) H sizeOf40 rfl rfl (Xq rfl rfl rfl) (.there (.app _ (.app _ .here))) (by simp [z0, oC])) ?_)))); clear H; intro w66 H; replace H : Hp w ((h, blk (hC C.κ e i n c 1 st op a b (.slice da dl dc)) 139) :: (Mw ++ (Mv ++ [(c4, blk z0 40), (c3, blk (Slot.piC p) 58)]))) w66 := H)
 refine Ja (Jn (Je ?_))
 exact ⟨_, ⟨_, _, rfl, ldA isAgg40 sizeOf40 (H.get (.there (.app _ (.app _ .here)))) rfl (by simp [z0, oC]), rfl⟩, rfl, Hp.cut (L := [_]) (M := Mw ++ (Mv ++ [_, _])) H kYs⟩
end
end Go.Proofs.YtlpmfldijgdcoaaGreatDoor.Ho
namespace Go.Proofs.YtlpmfldijgdcoaaGreatDoor.Ho
open Go Go.Proofs Fx Kn Cm Sect Tryz
theorem olds2 {w0 w w' : World} {L M : List (Nat × Obj)} (H : Hp w0 L w) (H1 : Hp w M w') (hdis : ∀ p ∈ L, p.1 ∉ M.map (·.1)) : Hp w0 (M ++ L) w' := by
 refine ⟨H1.os.trans H.os, H1.tape.trans H.tape, H1.output.trans H.output, Nat.le_trans H.size H1.size, fun k hk hn => ?_, fun p hp => ?_, ?_⟩
 ·rw [List.map_append, List.mem_append, not_or] at hn
  rw [H1.old k (Nat.lt_of_lt_of_le hk H.size) hn.1]
  exact H.old k hk hn.2
 ·rcases List.mem_append.1 hp with hp | hp
  ·exact H1.held p hp
  ·exact H1.block (H.held p hp) (hdis p hp)
 ·rw [List.map_append, List.nodup_append]
  refine ⟨H1.nodup, H.nodup, fun a ha b hb e => ?_⟩
  subst e
  obtain ⟨p, hp, rfl⟩ := List.mem_map.1 hb
  exact hdis p hp ha
/-- kinds of blocks that turn -/
def DT : List Nat := [170, 139, 5, 40]
def Ou (qs : List Nat) (w : World) (L : List (Nat × Obj)) : Prop := ∀ p ∈ L, w.heap.size ≤ p.1 ∨ p.1 ∈ qs ∨ ∃ o, w.heap[p.1]? = some o ∧ elT o ∈ DT
section
variable {w w1 w' : World} {sp : Nat} {S S' : Sx} {qs T : List Nat} {L Q X : List (Nat × Obj)}
theorem Ou.nil : Ou qs w [] := fun _ h => nomatch h
theorem Ou.kind {b : Nat} {o o' : Obj} (h : w.heap[b]? = some o) (ho : elT o ∈ DT) (hL : Ou qs w L) : Ou qs w ((b, o') :: L) := by
 intro p hp
 rcases List.mem_cons.1 hp with rfl | hp
 ·exact .inr (.inr ⟨o, h, ho⟩)
 ·exact hL p hp
theorem Ou.new (h : ∀ p ∈ L, w.heap.size ≤ p.1) : Ou qs w L := fun p hp => .inl (h p hp)
theorem Ou.cnew {b : Nat} {o : Obj} (h : w.heap.size ≤ b) (hL : Ou qs w L) : Ou qs w ((b, o) :: L) := by
 intro p hp
 rcases List.mem_cons.1 hp with rfl | hp
 ·exact .inl h
 ·exact hL p hp
theorem Ou.app (h : Ou qs w L) (h' : Ou qs w X) : Ou qs w (L ++ X) := fun p hp => (List.mem_append.1 hp).elim (h p) (h' p)
theorem Ou.q (hq : Sq w sp S qs) (h : Kq w.heap.size sp qs Q) : Ou qs w Q := by
 intro p hp
 rcases h p hp with h1 | h1 | h1
 ·obtain ⟨o, ho, e⟩ := hq.sect; exact .inr (.inr ⟨o, by rw [h1]; exact ho, by rw [e]; simp [DT]⟩)
 ·exact .inr (.inl h1)
 ·exact .inl h1
theorem Ou.out (hq : Sq w sp S qs) (h : Ou qs w L) (h1 : ∀ t ∈ T, t ∉ DT ∧ t ≠ 3) : Out T w L := by
 intro p hp
 rcases h p hp with h2 | h2 | ⟨o, h2, h3⟩
 ·exact .inl h2
 ·obtain ⟨o, ho, e⟩ := hq.int h2; exact .inr ⟨o, ho, fun hm => (h1 _ hm).2 e⟩
 ·exact .inr ⟨o, h2, fun hm => (h1 _ hm).1 h3⟩
/-- a block of whole numbers that is not the queue's stays -/
theorem Ou.int (h : Ou qs w L) {b : Nat} {o : Obj} (hb : w.heap[b]? = some o) (ho : elT o = 3) (hn : b ∉ qs) : b ∉ L.map (·.1) := by
 intro hm
 obtain ⟨p, hp, e⟩ := List.mem_map.1 hm
 have hlt := Qr hb
 rcases h p hp with h2 | h2 | ⟨o', h2, h3⟩
 ·omega
 ·exact hn (by rw [← e]; exact h2)
 ·rw [e, hb] at h2; cases h2; rw [ho] at h3; simp [DT] at h3
theorem _root_.Go.Proofs.YtlpmfldijgdcoaaGreatDoor.Cm.Gd.atU {c : Nat} {C : Cs} (g : Gd w c C) (hq : Sq w sp S qs) (hca : ∀ a, C.ca = some a → a.block ∉ qs) (H : Hp w L w') (hU : Ou qs w L) {xs : List UInt8} (hb : w'.heap[C.κ.mb]? = some (blk (xs.map U) 5)) (hp : Gp C xs) : Gd w' c (C.Xh xs) := by
 have h := g.hM
 have hn : Out (177 :: 1000000 :: kT) w L := hU.out hq (by simp [DT, kT])
 have hk : Kr w' { C.κ with xs := xs } := h.hK.keep H (hn.sub (fun x hx => .tail _ (.tail _ hx))) hb hp.2
 have hint : ∀ a, C.ca = some a → a.block ∉ L.map (·.1) := fun a ha => by
  obtain ⟨o, h1, h2⟩ := h.hct a ha
  exact hU.int h1 h2 (hca a ha)
 refine ⟨⟨H.Xw h.hc (by simp [elT]) hn, h.hcv.mono H fun a m c' e => hint a (by injection e), fun a ha => ?_, H.Xw h.hmp (by simp [elT]) hn, h.hbad, hk, fun j nm x h1 h2 => ?_, h.hl, h.hl0, h.hz0, h.hzj⟩, hp.1, g.hW⟩
 ·obtain ⟨o, h1, h2⟩ := h.hct a ha
  exact ⟨o, H.block h1 (hint a ha), h2⟩
 ·have := h.hw j nm x h1 h2
  exact ⟨this.ex, this.hin, this.he⟩
/-- a host, and its section, have turned, behind blocks of one's own -/
theorem SqP.own2 {h : Nat} {o : Obj} (hq : Sq w sp S qs) (H : Hp w L w1) (hd : ∀ p ∈ L, p.1 ≠ h ∧ p.1 ≠ sp ∧ p.1 ∉ qs) (h9 : SqP w1 sp S' qs [(h, o)] w') :
  ∃ Q qs', Kq w.heap.size sp qs Q ∧ SqL sp S' qs' Q ∧ (∀ b ∈ qs', b ∈ qs ∨ w.heap.size ≤ b) ∧ Hp w ((h, o) :: (Q ++ L)) w' := by
 obtain ⟨Q, qs', k1, k2, k3, H1⟩ := h9
 refine ⟨Q, qs', k1.le H.size, k2, fun b hb => (k3 b hb).imp id (Nat.le_trans H.size), ?_⟩
 refine olds2 H H1 fun p hp hm => ?_
 obtain ⟨h1, h2, h3⟩ := hd p hp
 have h4 := Qr (H.held p hp)
 obtain ⟨q, hq1, e⟩ := List.mem_map.1 hm
 rcases List.mem_cons.1 hq1 with rfl | hq1
 ·exact h1 e.symm
 ·rcases k1 q hq1 with h5 | h5 | h5
  ·exact h2 (by omega)
  ·exact h3 (by rw [← e]; exact h5)
  ·omega
theorem dis_new {h : Nat} {o : Obj} (hh : w.heap[h]? = some o) (hq : Sq w sp S qs) (hL : ∀ p ∈ L, w.heap.size ≤ p.1) : ∀ p ∈ L, p.1 ≠ h ∧ p.1 ≠ sp ∧ p.1 ∉ qs := by
 intro p hp
 have h1 := hL p hp
 have h2 := Qr hh
 have h3 := hq.slt
 exact ⟨by omega, by omega, fun hm => by have := hq.lt hm; omega⟩
theorem dis_cons {h b : Nat} {o : Obj} (hb : b ≠ h ∧ b ≠ sp ∧ b ∉ qs) (hL : ∀ p ∈ L, p.1 ≠ h ∧ p.1 ≠ sp ∧ p.1 ∉ qs) : ∀ p ∈ ((b, o) :: L), p.1 ≠ h ∧ p.1 ≠ sp ∧ p.1 ∉ qs := by
 intro p hp
 rcases List.mem_cons.1 hp with rfl | hp
 ·exact hb
 ·exact hL p hp
/-- the bytes' block is none of these -/
theorem mb_q {h b : Nat} {ho : List Value} {ys : List Value} (hh : w.heap[h]? = some (blk ho 139)) (hq : Sq w sp S qs) (hb : w.heap[b]? = some (blk ys 5)) : b ≠ h ∧ b ≠ sp ∧ b ∉ qs := by
 refine ⟨fun e => ?_, fun e => ?_, fun hm => ?_⟩
 ·subst e; rw [hh] at hb; cases hb
 ·obtain ⟨o, ho, e2⟩ := hq.sect; rw [← e, hb] at ho; cases ho; simp [elT] at e2
 ·obtain ⟨o, ho, e2⟩ := hq.int hm; rw [hb] at ho; cases ho; simp [elT] at e2
/-- blocks of one's own ahead, the bytes, the host, the section -/
theorem hp_tidy {h b : Nat} {o ob : Obj} (H : Hp w ((h, o) :: (Q ++ (b, ob) :: L)) w') : Hp w (L ++ ((b, ob) :: (h, o) :: Q)) w' := by
 refine H.perm ?_
 have e1 : List.Perm ((h, o) :: (Q ++ (b, ob) :: L)) ((h, o) :: (b, ob) :: (Q ++ L)) := List.Perm.cons _ List.perm_middle
 have e2 : List.Perm ((b, ob) :: (h, o) :: (Q ++ L)) (((b, ob) :: (h, o) :: Q) ++ L) := List.Perm.refl _
 exact (e1.trans (List.Perm.swap _ _ _)).trans (e2.trans List.perm_append_comm)
end
end Go.Proofs.YtlpmfldijgdcoaaGreatDoor.Ho
namespace Go.Proofs.YtlpmfldijgdcoaaGreatDoor.Ho
open Go Go.Proofs Fx Kn Cm Sect Tryz
def finX (C : Cs) (i : Nat) (op a : Int) : List UInt8 := if op = 3 then (doX C i op a).1 else endX (C.Xh (doX C i op a).1) i
def InR (C : Cs) (i : Nat) (op a b : Int) (D : Value) (xs : List UInt8) (out : List Value) (is : Bool) : Prop :=
 (is = false ∧ out = z0 ∧ xs = C.κ.xs) ∨ (is = true ∧ (doX C i op a).2.2.2 = false ∧ out = oC 0 i op a b D (doX C i op a).2.1 (doX C i op a).2.2.1 nilS true nilS 0 ∧ xs = finX C i op a)
theorem doX_block {C : Cs} {i : Nat} {op a : Int} (h : (doX C i op a).2.2.2 = true) : (doX C i op a).1 = C.κ.xs := by
 unfold doX at h ⊢
 split at h
 ·cases h
 ·rename_i h1; rw [if_neg h1]
  split at h
  ·cases h
  ·rename_i h2; rw [if_neg h2]
   split at h
   ·rename_i h3; rw [if_pos h3]
    unfold Pr.Ml at h ⊢
    split at h
    ·cases h
    ·rename_i h4; rw [if_neg h4]
     split at h
     ·cases h
     ·split <;> rfl
   ·cases h
section
variable {w : World} {h e n sp c : Nat} {C : Cs} {S : Sx} {qs : List Nat} {i : Nat} {ph st op a b : Int} {da : Option Addr} {dl dc : Nat}
theorem inF (hh : w.heap[h]? = some (blk (hC C.κ e i n c ph st op a b (.slice da dl dc)) 139)) (g : Gd w c C) (hi : i < 8) (hk : Ks w C.κ e n sp) (hq : Sq w sp S qs) (hca : ∀ a, C.ca = some a → a.block ∉ qs) (hop : FOp op)
  (hz : op ≠ 3 → ((C.Xh (doX C i op a).1).pR i).2 = 1 → Zs ((C.Xh (doX C i op a).1).pR i).1) :
  Ret Tryz.prog 98 #[ptr h 0] w fun v w' => ∃ out is xs ph2 S', v = .tuple #[.agg out.toArray, .bool is] ∧ InR C i op a b (.slice da dl dc) xs out is ∧ (ph2 = 0 ∨ ph2 = 1 ∨ ph2 = 3) ∧ (S' = S ∨ S' = Yy S e st) ∧ Gp C xs ∧
   SqP w sp S' qs [(C.κ.mb, blk (xs.map U) 5), (h, blk (hC C.κ e i n c ph2 st op a b (.slice da dl dc)) 139)] w' := by
 refine Qy (args := [_]) func98 rfl ntmps98 results98 (by simp) ?_
 have H := Hp.refl w
 have hbk := g.hM.hK.hb
 have hmq := mb_q hh hq hbk
 have hInR : ∀ xs out is, InR C i op a b (.slice da dl dc) xs out is ↔ ((is = false ∧ out = z0 ∧ xs = C.κ.xs) ∨ (is = true ∧ (doX C i op a).2.2.2 = false ∧ out = oC 0 i op a b (.slice da dl dc) (doX C i op a).2.1 (doX C i op a).2.2.1 nilS true nilS 0 ∧ xs = (if op = 3 then (doX C i op a).1 else endX (C.Xh (doX C i op a).1) i))) := fun _ _ _ => Iff.rfl
 have hDo : ∀ {w1 : World}, Gd w1 c C → Ret Tryz.prog 133 #[ptr c 0, I i, .agg (sysC op a b (.slice da dl dc)).toArray] w1 fun v w' => v = .agg (rtC (doX C i op a).2.1 (doX C i op a).2.2.1 nilS (doX C i op a).2.2.2).toArray ∧ Gp C (doX C i op a).1 ∧ Hp w1 [(C.κ.mb, blk ((doX C i op a).1.map U) 5)] w' := fun g => DoF g hi hop
 have hbl := @doX_block C i op a
 generalize doX C i op a = X at *
 obtain ⟨x1, n1, e1, bl⟩ := X
 simp only at hDo hbl hInR hz
 obtain ⟨qv, Mq, hsp, hq2, hq3, hq4⟩ := id hq
 have hst : ∀ {w1 : World} {xs : List UInt8} {L : List (Nat × Obj)}, Hp w ((C.κ.mb, blk (xs.map U) 5) :: L) w1 → (∀ p ∈ L, w.heap.size ≤ p.1) → w1.heap[h]? = some (blk (hC C.κ e i n c ph st op a b (.slice da dl dc)) 139) :=
  fun H1 hL => H1.Xw (T := [139]) hh (by simp [elT]) (Out.cons hbk (by simp [elT]) (Out.ofN hL))
 have hks : ∀ {w1 : World} {xs : List UInt8} {L : List (Nat × Obj)}, Hp w ((C.κ.mb, blk (xs.map U) 5) :: L) w1 → (∀ p ∈ L, w.heap.size ≤ p.1) → Ks w1 C.κ e n sp ∧ Sq w1 sp S qs :=
  fun H1 hL => ⟨hk.keep H1 (Out.cons hbk (by simp [elT, sT]) (Out.ofN hL)), hq.keep H1 (fun p hp => ((dis_cons hmq (dis_new hh hq hL)) p hp).2)⟩
 (refine Js (Jr (Qb rfl (Qp (vs := z0) H zeroValue40 rfl) ?_)); clear H; intro c2 w3 hc2 H)
 refine Ja (Jn (Js (Js ?_)))
 (refine Zc (fun _ => false) (by kernel_rfl) H ?_; clear H; intro w8 H)
 (refine Am 0 rfl H (Az 1 rfl rfl H (fun _ hC => Qf rfl) (Az 2 rfl rfl H (fun _ hC => Qa (off' := 0) underlying139 rfl sizeOf71 (by decide) rfl rfl) (Az 3 rfl rfl H (fun _ hC => Qe isAgg71 rfl (hC.Qc hh kYs) rfl) (Am 4 rfl H (Az 5 rfl rfl H (fun _ hC => Qf rfl) (Az 6 rfl rfl H (fun _ hC => Qa (off' := 3) underlying139 rfl sizeOf3 (by decide) rfl rfl) (Az 7 rfl rfl H (fun _ hC => Qe isAgg3 rfl (hC.Qc hh kYs) rfl) (Am 9 rfl H (Az 10 rfl rfl H (fun _ hC => Qf rfl) (Az 11 rfl rfl H (fun _ hC => Qa (off' := 1) underlying139 rfl sizeOf3 (by decide) rfl rfl) (Az 12 rfl rfl H (fun _ hC => Qe isAgg3 rfl (hC.Qc hh kYs) rfl) (Am 13 rfl H (Az 14 rfl rfl H (fun _ hC => Qf rfl) (Az 15 rfl rfl H (fun _ hC => Qa (off' := 6) underlying139 rfl sizeOf3 (by decide) rfl rfl) (Az 16 rfl rfl H (fun _ hC => Qe isAgg3 rfl (hC.Qc hh kYs) rfl) (Ao 8 (Qv rfl (.inl rfl) (Qw rfl call59 rfl) (by exact Sect_ret (hk.Ql H kYs)) (by first | exact fun _ _ hR _ => H.seq0 hR.2 | exact fun _ _ hR h => Bool.noConfusion h | exact fun _ _ hR _ => (H.seq0 hR.2).none kYs | exact fun _ _ hR _ => (H.seq0 hR.2).Ub kYs) ?_))))))))))))))))); rintro _ w26 ⟨rfl, H1⟩; replace H := H.seq0 H1; clear H1)
 (refine Ao 17 (Qv rfl (.inl rfl) (Qw rfl call132 rfl) (by exact holds0 (H.Qc hsp kYs) e st) (by first | exact fun _ _ hR _ => H.seq0 hR.2 | exact fun _ _ hR h => Bool.noConfusion h | exact fun _ _ hR _ => (H.seq0 hR.2).none kYs | exact fun _ _ hR _ => (H.seq0 hR.2).Ub kYs) ?_); rintro v w28 ⟨rfl, H1⟩; replace H := H.seq0 H1; clear H1; generalize decide (S.held = true ∧ S.who = (e : Int) ∧ S.stamp = st) = hb; cases hb)
 ·refine Az 18 rfl rfl H (fun _ hC => Xx rfl) (Ad (Jd rfl (Js ?_)))
  ((replace H := H.foc hh kYs; have m2 : True := trivial)) <;> refine Qk ?_
  refine Jm (Ji rfl (Jf 5 underlying139 rfl sizeOf3 rfl rfl ?_))
  (have _g := m2; refine Qd rfl (Qz (v := I 1) H sizeOf3 rfl rfl rfl .here (by simp)) ?_; clear H; intro w37 H; replace H : Hp w [(h, blk (hC C.κ e i n c 1 st op a b (.slice da dl dc)) 139), (c2, blk z0 40)] w37 := H)
  refine Jn (Js (Jr (J (Qm (places := [(0, 1), (1, 1), (2, 4), (6, 1), (7, 1), (8, 1), (9, 1), (10, 1), (11, 1)]) (vs := z0) underlying40 typeInfo40 rfl rfl (by kernel_rfl) rfl rfl rfl) ?_)))
  (have _g := m2; refine Qd rfl (Qg (vs := z0) H sizeOf40 rfl rfl (Xq rfl rfl rfl) (.there .here) (by simp [z0, oC])) ?_; clear H; intro w42 H; replace H : Hp w [(h, blk (hC C.κ e i n c 1 st op a b (.slice da dl dc)) 139), (c2, blk z0 40)] w42 := H)
  refine Ja (Jn (Je ?_))
  (have _g := m2; exact ⟨_, ⟨_, _, rfl, ldA isAgg40 sizeOf40 (H.get (.there .here)) rfl (by simp [z0, oC]), rfl⟩, z0, false, C.κ.xs, 1, S, rfl, (hInR _ _ _).2 (.inl ⟨rfl, rfl, rfl⟩), .inr (.inl rfl), .inl rfl, g.gp, SqP.same hq (Hp.cut (L := [_, _]) (M := [_]) (H.focus (b := C.κ.mb) (H.block hbk (by simp only [List.map_cons, List.map_nil, List.mem_cons, List.not_mem_nil, or_false, not_or]; exact ⟨hmq.1, by have := Qr hbk; omega⟩)) (by simp only [List.map_cons, List.map_nil, List.mem_cons, List.not_mem_nil, or_false, not_or]; exact ⟨hmq.1, by have := Qr hbk; omega⟩)) kYs) (by intro p hp; rcases List.mem_cons.1 hp with rfl | hp; exact hmq.2; rw [List.mem_singleton.1 hp]; exact Nd hh hq)⟩)
 ·refine Az 18 rfl rfl H (fun _ hC => Xj rfl) (Ad (Jc rfl (Jk (Js ?_))))
  (refine Xi (fun w2 => w2.heap[h]? = some (blk (hC C.κ e i n c ph st op a b (.slice da dl dc)) 139)) (fun _ => false) (by kernel_rfl) H ?_; clear H; intro w52 H)
  refine Am 0 rfl (H.Qc hh kYs) (Az 1 rfl rfl (H.Qc hh kYs) (fun _ hC => Qf rfl) (Az 2 rfl rfl (H.Qc hh kYs) (fun _ hC => Qa (off' := 4) underlying139 rfl sizeOf93 (by decide) rfl rfl) (Az 3 rfl rfl (H.Qc hh kYs) (fun _ hC => Qe (v := ptr c 0) isAgg93 rfl hC rfl) (Am 4 rfl (H.Qc hh kYs) (Az 5 rfl rfl (H.Qc hh kYs) (fun _ hC => Qf rfl) (Az 6 rfl rfl (H.Qc hh kYs) (fun _ hC => Qa (off' := 2) underlying139 rfl sizeOf3 (by decide) rfl rfl) (Az 7 rfl rfl (H.Qc hh kYs) (fun _ hC => Qe (v := I i) isAgg3 rfl hC rfl) (Am 8 rfl (H.Qc hh kYs) (Az 9 rfl rfl (H.Qc hh kYs) (fun _ hC => Qf rfl) (Az 10 rfl rfl (H.Qc hh kYs) (fun _ hC => Qa (off' := 7) underlying139 rfl sizeOf38 (by decide) rfl rfl) (Az 11 rfl rfl (H.Qc hh kYs) (fun _ hC => Qo (vs := sysC op a b (.slice da dl dc)) isAgg38 sizeOf38 rfl hC rfl (by simp)) (Zf (i := 12) (j := 13) (by kernel_rfl) ?_ ?_))))))))))))
  ·(refine Qv rfl (.inl rfl) (Qw rfl call133 rfl) (hDo (g.Ql H kYs)) (by rintro _ w2 ⟨_, _, H1⟩ _; exact hst (g.seq0 H kYs H1) kYs) ?_; rintro _ w66 ⟨rfl, hgp, H1⟩; replace H := g.seq0 H kYs H1; clear H1)
   (refine Ao 13 (Xd rfl (.inl rfl) (Qp (vs := rtC 0 0 nilS false) H zeroValue227 rfl) (fun _ _ hb9 H _ => hst H.swap2 kYs) ?_); clear H; intro c4 w68 hc4 H; replace H := H.swap2)
   (refine Ao 14 (Xb rfl (.inl rfl) (Qg (vs := rtC n1 e1 nilS bl) H sizeOf227 rfl rfl (by simp [rtC, Value.oneCell']) (.there .here) (by simp [rtC])) (fun _ H _ => hst H kYs) ?_); clear H; intro w70 H; replace H : Hp w [(C.κ.mb, blk (x1.map U) 5), (c4, blk (rtC n1 e1 nilS bl) 227), (c2, blk z0 40)] w70 := H)
   refine Ad (Js (Js ?_))
   ((cases bl)) <;> refine Qk ?_
   ·(refine Jf 3 underlying227 rfl sizeOf4 rfl rfl (J (Qe (v := .bool _) isAgg4 rfl (H.get (.there .here)) rfl) (Jn (Jc rfl (Jk (Js (Jr (Jm (Jy rfl call96 rfl (leaveQ (hst H kYs) (hks H kYs).1 (hks H kYs).2 _) ?_)))))))); rintro _ w83 ⟨rfl, h9⟩; have h8 := SqP.own2 hq H (dis_cons hmq (dis_new hh hq kYs)) h9; clear H h9; obtain ⟨Q, qs', k1, k2, k3, H⟩ := h8; have H9 := hp_tidy H; clear H; have H := H9; clear H9; simp only [List.cons_append, List.nil_append] at H)
    (refine Jn (Js (Jr (Jm (J (Qo (vs := rtC n1 e1 nilS false) isAgg227 sizeOf227 rfl (H.get .here) rfl (by simp [rtC])) (Jz rfl call130 rfl (back_ret (κ := C.κ) (H.get (.there (.there (.there .here))))) H ?_))))); intro w89 H)
    (refine Qb rfl (Qp (vs := z0) H zeroValue40 rfl) ?_; clear H; intro c5 w90 hc5 H)
    (refine Qd rfl (Qg (vs := oC 0 i op a b (.slice da dl dc) n1 e1 nilS true nilS 0) H sizeOf40 rfl rfl (Xq rfl rfl rfl) .here (by simp [z0, oC])) ?_; clear H; intro w91 H; replace H : Hp w ((c5, blk (oC 0 i op a b (.slice da dl dc) n1 e1 nilS true nilS 0) 40) :: _) w91 := H)
    refine Jn (Js (Js (Jr (Jm (Ji rfl (Jf 7 underlying139 rfl sizeOf38 rfl rfl (Jf 7 underlying38 rfl sizeOf3 rfl rfl (J (Qe (v := I op) isAgg3 rfl (H.get (.there (.there (.there (.there .here))))) rfl) (J (Zu rfl rfl) (Jn (Xo rfl (fun h103 => ?_) (fun h103 => ?_))))))))))))
    ·(refine Jr (Jm (J (Qo (vs := oC 0 i op a b (.slice da dl dc) n1 e1 nilS true nilS 0) isAgg40 sizeOf40 rfl (H.get .here) rfl (by simp [oC])) (Jy rfl call100 rfl (endF (C := C.Xh x1) (κ := C.κ) rfl (H.get (.there (.there (.there (.there .here))))) (g.atU hq hca H (Ou.cnew hc5 (Ou.cnew hc4 (Ou.cnew hc2 (Ou.kind hbk (by simp [DT, elT]) (Ou.kind hh (by simp [DT, elT]) (Ou.q hq k1)))))) (H.get (.there (.there (.there .here)))) hgp) hi (hz (by omega))) ?_))); rintro _ w107 ⟨rfl, hgp2, H1⟩; replace H := H.seq H1 (Yh (.there (.there (.there .here))) Yi); clear H1)
     (refine Qd rfl (Qg (vs := oC 0 i op a b (.slice da dl dc) n1 e1 nilS true nilS 0) H sizeOf40 rfl rfl (Xq rfl rfl rfl) .here (by simp [z0, oC])) ?_; clear H; intro w108 H; replace H : Hp w ((c5, blk (oC 0 i op a b (.slice da dl dc) n1 e1 nilS true nilS 0) 40) :: _) w108 := H)
     refine Jn (Js ?_)
     ((have m12 : True := trivial)) <;> refine Qk ?_
     refine J (Qo (vs := oC 0 i op a b (.slice da dl dc) n1 e1 nilS true nilS 0) isAgg40 sizeOf40 rfl (H.get .here) rfl (by simp [oC])) ?_
     (have _g := m12; refine Qd rfl (Qg (vs := oC 0 i op a b (.slice da dl dc) n1 e1 nilS true nilS 0) H sizeOf40 rfl rfl (Xq rfl rfl rfl) (.there (.there .here)) (by simp [z0, oC])) ?_; clear H; intro w113 H)
     refine Ja (Jn (Je ?_))
     exact ⟨_, ⟨_, _, rfl, ldA isAgg40 sizeOf40 (H.get (.there (.there .here))) rfl (by simp [oC]), rfl⟩, _, true, _, 0, _, rfl, (hInR _ _ _).2 (.inr ⟨rfl, rfl, rfl, (if_neg (by omega)).symm⟩), .inl rfl, .inr rfl, hgp2, Q, qs', k1, k2, k3, ((H.pop hc5).pop hc4).pop hc2⟩
    ·refine Jk (Js ?_)
     ((have m12 : True := trivial)) <;> refine Qk ?_
     refine J (Qo (vs := oC 0 i op a b (.slice da dl dc) n1 e1 nilS true nilS 0) isAgg40 sizeOf40 rfl (H.get .here) rfl (by simp [oC])) ?_
     (have _g := m12; refine Qd rfl (Qg (vs := oC 0 i op a b (.slice da dl dc) n1 e1 nilS true nilS 0) H sizeOf40 rfl rfl (Xq rfl rfl rfl) (.there (.there .here)) (by simp [z0, oC])) ?_; clear H; intro w122 H)
     refine Ja (Jn (Je ?_))
     exact ⟨_, ⟨_, _, rfl, ldA isAgg40 sizeOf40 (H.get (.there (.there .here))) rfl (by simp [oC]), rfl⟩, _, true, _, 0, _, rfl, (hInR _ _ _).2 (.inr ⟨rfl, rfl, rfl, (if_pos (by omega)).symm⟩), .inl rfl, .inr rfl, hgp, Q, qs', k1, k2, k3, ((H.pop hc5).pop hc4).pop hc2⟩
   ·(refine Jf 3 underlying227 rfl sizeOf4 rfl rfl (J (Qe (v := .bool _) isAgg4 rfl (H.get (.there .here)) rfl) (Jn (Jd rfl (Js (Jr (Jm (Jy rfl call96 rfl (leaveQ (hst H kYs) (hks H kYs).1 (hks H kYs).2 _) ?_))))))); rintro _ w134 ⟨rfl, h9⟩; have h8 := SqP.own2 hq H (dis_cons hmq (dis_new hh hq kYs)) h9; clear H h9; obtain ⟨Q, qs', k1, k2, k3, H⟩ := h8; have H9 := hp_tidy H; clear H; have H := H9; clear H9; simp only [List.cons_append, List.nil_append] at H)
    refine Jn (Js ?_)
    ((have m7 : True := trivial)) <;> refine Qk ?_
    refine J (Qm (places := [(0, 1), (1, 1), (2, 4), (6, 1), (7, 1), (8, 1), (9, 1), (10, 1), (11, 1)]) (vs := z0) underlying40 typeInfo40 rfl rfl (by kernel_rfl) rfl rfl rfl) ?_
    (have _g := m7; refine Qd rfl (Qg (vs := z0) H sizeOf40 rfl rfl (Xq rfl rfl rfl) (.there .here) (by simp [z0, oC])) ?_; clear H; intro w139 H)
    refine Ja (Jn (Je ?_))
    (have _g := m7; exact ⟨_, ⟨_, _, rfl, ldA isAgg40 sizeOf40 (H.get (.there .here)) rfl (by simp [z0, oC]), rfl⟩, z0, false, x1, 3, _, rfl, (hInR _ _ _).2 (.inl ⟨rfl, rfl, hbl rfl⟩), .inr (.inr rfl), .inr rfl, hgp, Q, qs', k1, k2, k3, (H.pop hc4).pop hc2⟩)
  ·(refine Xd rfl (.inl rfl) (Qp (vs := rtC 0 0 nilS false) H zeroValue227 rfl) (fun _ _ hb9 H _ => H.Qc hh kYs) ?_; clear H; intro c4 w144 hc4 H)
   (refine Ao 12 (Qv rfl (.inl rfl) (Qw rfl call133 rfl) (hDo (g.Ql H kYs)) (by rintro _ w2 ⟨_, _, H1⟩ _; exact hst (g.seq0 H kYs H1) kYs) ?_); rintro _ w146 ⟨rfl, hgp, H1⟩; replace H := g.seq0 H kYs H1; clear H1)
   (refine Ao 14 (Xb rfl (.inl rfl) (Qg (vs := rtC n1 e1 nilS bl) H sizeOf227 rfl rfl (by simp [rtC, Value.oneCell']) (.there .here) (by simp [rtC])) (fun _ H _ => hst H kYs) ?_); clear H; intro w148 H; replace H : Hp w [(C.κ.mb, blk (x1.map U) 5), (c4, blk (rtC n1 e1 nilS bl) 227), (c2, blk z0 40)] w148 := H)
   refine Ad (Js (Js ?_))
   ((cases bl)) <;> refine Qk ?_
   ·(refine Jf 3 underlying227 rfl sizeOf4 rfl rfl (J (Qe (v := .bool _) isAgg4 rfl (H.get (.there .here)) rfl) (Jn (Jc rfl (Jk (Js (Jr (Jm (Jy rfl call96 rfl (leaveQ (hst H kYs) (hks H kYs).1 (hks H kYs).2 _) ?_)))))))); rintro _ w161 ⟨rfl, h9⟩; have h8 := SqP.own2 hq H (dis_cons hmq (dis_new hh hq kYs)) h9; clear H h9; obtain ⟨Q, qs', k1, k2, k3, H⟩ := h8; have H9 := hp_tidy H; clear H; have H := H9; clear H9; simp only [List.cons_append, List.nil_append] at H)
    (refine Jn (Js (Jr (Jm (J (Qo (vs := rtC n1 e1 nilS false) isAgg227 sizeOf227 rfl (H.get .here) rfl (by simp [rtC])) (Jz rfl call130 rfl (back_ret (κ := C.κ) (H.get (.there (.there (.there .here))))) H ?_))))); intro w167 H)
    (refine Qb rfl (Qp (vs := z0) H zeroValue40 rfl) ?_; clear H; intro c5 w168 hc5 H)
    (refine Qd rfl (Qg (vs := oC 0 i op a b (.slice da dl dc) n1 e1 nilS true nilS 0) H sizeOf40 rfl rfl (Xq rfl rfl rfl) .here (by simp [z0, oC])) ?_; clear H; intro w169 H; replace H : Hp w ((c5, blk (oC 0 i op a b (.slice da dl dc) n1 e1 nilS true nilS 0) 40) :: _) w169 := H)
    refine Jn (Js (Js (Jr (Jm (Ji rfl (Jf 7 underlying139 rfl sizeOf38 rfl rfl (Jf 7 underlying38 rfl sizeOf3 rfl rfl (J (Qe (v := I op) isAgg3 rfl (H.get (.there (.there (.there (.there .here))))) rfl) (J (Zu rfl rfl) (Jn (Xo rfl (fun h181 => ?_) (fun h181 => ?_))))))))))))
    ·(refine Jr (Jm (J (Qo (vs := oC 0 i op a b (.slice da dl dc) n1 e1 nilS true nilS 0) isAgg40 sizeOf40 rfl (H.get .here) rfl (by simp [oC])) (Jy rfl call100 rfl (endF (C := C.Xh x1) (κ := C.κ) rfl (H.get (.there (.there (.there (.there .here))))) (g.atU hq hca H (Ou.cnew hc5 (Ou.cnew hc4 (Ou.cnew hc2 (Ou.kind hbk (by simp [DT, elT]) (Ou.kind hh (by simp [DT, elT]) (Ou.q hq k1)))))) (H.get (.there (.there (.there .here)))) hgp) hi (hz (by omega))) ?_))); rintro _ w185 ⟨rfl, hgp2, H1⟩; replace H := H.seq H1 (Yh (.there (.there (.there .here))) Yi); clear H1)
     (refine Qd rfl (Qg (vs := oC 0 i op a b (.slice da dl dc) n1 e1 nilS true nilS 0) H sizeOf40 rfl rfl (Xq rfl rfl rfl) .here (by simp [z0, oC])) ?_; clear H; intro w186 H; replace H : Hp w ((c5, blk (oC 0 i op a b (.slice da dl dc) n1 e1 nilS true nilS 0) 40) :: _) w186 := H)
     refine Jn (Js ?_)
     ((have m12 : True := trivial)) <;> refine Qk ?_
     refine J (Qo (vs := oC 0 i op a b (.slice da dl dc) n1 e1 nilS true nilS 0) isAgg40 sizeOf40 rfl (H.get .here) rfl (by simp [oC])) ?_
     (have _g := m12; refine Qd rfl (Qg (vs := oC 0 i op a b (.slice da dl dc) n1 e1 nilS true nilS 0) H sizeOf40 rfl rfl (Xq rfl rfl rfl) (.there (.there .here)) (by simp [z0, oC])) ?_; clear H; intro w191 H)
     refine Ja (Jn (Je ?_))
     exact ⟨_, ⟨_, _, rfl, ldA isAgg40 sizeOf40 (H.get (.there (.there .here))) rfl (by simp [oC]), rfl⟩, _, true, _, 0, _, rfl, (hInR _ _ _).2 (.inr ⟨rfl, rfl, rfl, (if_neg (by omega)).symm⟩), .inl rfl, .inr rfl, hgp2, Q, qs', k1, k2, k3, ((H.pop hc5).pop hc4).pop hc2⟩
    ·refine Jk (Js ?_)
     ((have m12 : True := trivial)) <;> refine Qk ?_
     refine J (Qo (vs := oC 0 i op a b (.slice da dl dc) n1 e1 nilS true nilS 0) isAgg40 sizeOf40 rfl (H.get .here) rfl (by simp [oC])) ?_
     (have _g := m12; refine Qd rfl (Qg (vs := oC 0 i op a b (.slice da dl dc) n1 e1 nilS true nilS 0) H sizeOf40 rfl rfl (Xq rfl rfl rfl) (.there (.there .here)) (by simp [z0, oC])) ?_; clear H; intro w200 H)
     refine Ja (Jn (Je ?_))
     exact ⟨_, ⟨_, _, rfl, ldA isAgg40 sizeOf40 (H.get (.there (.there .here))) rfl (by simp [oC]), rfl⟩, _, true, _, 0, _, rfl, (hInR _ _ _).2 (.inr ⟨rfl, rfl, rfl, (if_pos (by omega)).symm⟩), .inl rfl, .inr rfl, hgp, Q, qs', k1, k2, k3, ((H.pop hc5).pop hc4).pop hc2⟩
   ·(refine Jf 3 underlying227 rfl sizeOf4 rfl rfl (J (Qe (v := .bool _) isAgg4 rfl (H.get (.there .here)) rfl) (Jn (Jd rfl (Js (Jr (Jm (Jy rfl call96 rfl (leaveQ (hst H kYs) (hks H kYs).1 (hks H kYs).2 _) ?_))))))); rintro _ w212 ⟨rfl, h9⟩; have h8 := SqP.own2 hq H (dis_cons hmq (dis_new hh hq kYs)) h9; clear H h9; obtain ⟨Q, qs', k1, k2, k3, H⟩ := h8; have H9 := hp_tidy H; clear H; have H := H9; clear H9; simp only [List.cons_append, List.nil_append] at H)
    refine Jn (Js ?_)
    ((have m7 : True := trivial)) <;> refine Qk ?_
    refine J (Qm (places := [(0, 1), (1, 1), (2, 4), (6, 1), (7, 1), (8, 1), (9, 1), (10, 1), (11, 1)]) (vs := z0) underlying40 typeInfo40 rfl rfl (by kernel_rfl) rfl rfl rfl) ?_
    (have _g := m7; refine Qd rfl (Qg (vs := z0) H sizeOf40 rfl rfl (Xq rfl rfl rfl) (.there .here) (by simp [z0, oC])) ?_; clear H; intro w217 H)
    refine Ja (Jn (Je ?_))
    (have _g := m7; exact ⟨_, ⟨_, _, rfl, ldA isAgg40 sizeOf40 (H.get (.there .here)) rfl (by simp [z0, oC]), rfl⟩, z0, false, x1, 3, _, rfl, (hInR _ _ _).2 (.inl ⟨rfl, rfl, hbl rfl⟩), .inr (.inr rfl), .inr rfl, hgp, Q, qs', k1, k2, k3, (H.pop hc4).pop hc2⟩)
end
end Go.Proofs.YtlpmfldijgdcoaaGreatDoor.Ho
namespace Go.Proofs.YtlpmfldijgdcoaaGreatDoor.Ho
open Go Go.Proofs Fx Kn Cm Sect Tryz
theorem InR.len {C : Cs} {i : Nat} {op a b : Int} {D : Value} {xs : List UInt8} {out : List Value} {is : Bool} (h : InR C i op a b D xs out is) : out.length = 12 := by
 rcases h with ⟨_, rfl, _⟩ | ⟨_, _, rfl, _⟩ <;> rfl
theorem InR.one {C : Cs} {i : Nat} {op a b : Int} {D : Value} {xs : List UInt8} {out : List Value} {is : Bool} (hD : D.oneCell' = true) (h : InR C i op a b D xs out is) : ∀ u ∈ out, u.oneCell' = true := by
 rcases h with ⟨_, rfl, _⟩ | ⟨_, _, rfl, _⟩
 ·exact Xq rfl rfl rfl
 ·exact Xq hD rfl rfl
theorem pR_012 (C : Cs) (i : Nat) : (C.pR i).2 = 0 ∨ (C.pR i).2 = 1 ∨ (C.pR i).2 = 2 := by
 unfold Cs.pR
 split
 ·exact .inr (.inr rfl)
 ·unfold Cs.pD Slot.Xy
  split
  ·exact .inl rfl
  ·split
   ·exact .inr (.inl rfl)
   ·exact .inr (.inr rfl)
theorem pR_n2 {C : Cs} (hL : Lk C) (hb : C.bad = []) {i : Nat} (hi : i < 8) : (C.pR i).2 ≠ 2 := by
 have hn : ((1 : Int), (i : Int)) ∉ C.bad := by rw [hb]; simp
 unfold Cs.pR; rw [if_neg hn]; exact hL.p i hi hn
section
variable {w w1 w' : World} {sp : Nat} {S S' : Sx} {qs : List Nat} {X L Q : List (Nat × Obj)}
theorem SqP.add {b : Nat} {o : Obj} (h : SqP w sp S' qs X w') (hb : w.heap[b]? = some o) (h1 : b ≠ sp) (h2 : b ∉ qs) (h3 : b ∉ X.map (·.1)) : SqP w sp S' qs ((b, o) :: X) w' := by
 obtain ⟨Q, qs', k1, k2, k3, H⟩ := h
 have hn : b ∉ (X ++ Q).map (·.1) := by
  rw [List.map_append, List.mem_append, not_or]
  refine ⟨h3, fun hm => ?_⟩
  obtain ⟨p, hp, e⟩ := List.mem_map.1 hm
  have := Qr hb
  rcases k1 p hp with h5 | h5 | h5
  ·exact h1 (by omega)
  ·exact h2 (by rw [← e]; exact h5)
  ·omega
 exact ⟨Q, qs', k1, k2, k3, H.focus (H.block hb hn) hn⟩
theorem SqP.perm {Y : List (Nat × Obj)} (h : SqP w sp S' qs X w') (hp : X.Perm Y) : SqP w sp S' qs Y w' := by
 obtain ⟨Q, qs', k1, k2, k3, H⟩ := h
 exact ⟨Q, qs', k1, k2, k3, H.perm (hp.append_right _)⟩
theorem hp_front (H : Hp w (X ++ (Q ++ L)) w') : Hp w (L ++ (X ++ Q)) w' := by
 rw [← List.append_assoc] at H
 exact H.perm List.perm_append_comm
/-- behind blocks of one's own, these ahead -/
theorem SqP.own3 (hq : Sq w sp S qs) (H : Hp w L w1) (hL : ∀ p ∈ L, w.heap.size ≤ p.1) (hX : ∀ p ∈ X, p.1 < w.heap.size ∨ w1.heap.size ≤ p.1) (h : SqP w1 sp S' qs X w') :
  ∃ Q qs', Kq w.heap.size sp qs Q ∧ SqL sp S' qs' Q ∧ (∀ b ∈ qs', b ∈ qs ∨ w.heap.size ≤ b) ∧ Hp w (L ++ (X ++ Q)) w' := by
 obtain ⟨Q, qs', k1, k2, k3, H1⟩ := SqP.own hq H hL hX h
 exact ⟨Q, qs', k1, k2, k3, hp_front H1⟩
end
theorem out_same {out : List Value} (h : out.length = 12) : z0.take 0 ++ out ++ z0.drop (0 + out.length) = out := by rw [h]; simp [z0, oC]
def PickR (C : Cs) (i : Nat) (op a b : Int) (D : Value) (xs : List UInt8) (out : List Value) (is : Bool) : Prop :=
 (is = false ∧ out = z0 ∧ (xs = C.κ.xs ∨ xs = endX C i)) ∨ (is = true ∧ FOp op ∧ InR C i op a b D xs out is)
theorem InR.pick {C : Cs} {i : Nat} {op a b : Int} {D : Value} {xs : List UInt8} {out : List Value} {is : Bool} (hop : FOp op) (h : InR C i op a b D xs out is) : PickR C i op a b D xs out is := by
 rcases id h with ⟨h1, h2, h3⟩ | ⟨h1, _⟩
 ·exact .inl ⟨h1, h2, .inl h3⟩
 ·exact .inr ⟨h1, hop, h⟩
section
variable {w : World} {h e n sp c : Nat} {C : Cs} {S : Sx} {qs : List Nat} {i : Nat} {ph st op a b : Int} {da : Option Addr} {dl dc : Nat}
theorem PickF (hh : w.heap[h]? = some (blk (hC C.κ e i n c ph st op a b (.slice da dl dc)) 139)) (g : Gd w c C) (hi : i < 8) (hk : Ks w C.κ e n sp) (hq : Sq w sp S qs) (hca : ∀ a, C.ca = some a → a.block ∉ qs) (hbad : C.bad = [])
  {T : Int} {k : Nat} (hB : Bk S T k) (hk9 : k ≤ 1000000) (hT : T ≤ 1000000) (hn : 0 ≤ C.κ.now ∧ C.κ.now ≤ T) (hph : ph = 0 ∨ ((ph = 1 ∨ ph = 2 ∨ ph = 3) ∧ FOp op))
  (hz : (C.pR i).2 = 1 → Zs (C.pR i).1 ∧ (C.pR i).1.s ≠ 3) (hz2 : FOp op → op ≠ 3 → ((C.Xh (doX C i op a).1).pR i).2 = 1 → Zs ((C.Xh (doX C i op a).1).pR i).1) :
  Ret Tryz.prog 61 #[ptr h 0] w fun v w' => ∃ out is xs ph2 st2 S', v = .tuple #[.agg out.toArray, .bool is] ∧ PickR C i op a b (.slice da dl dc) xs out is ∧ (ph2 = 0 ∨ ((ph2 = 1 ∨ ph2 = 2 ∨ ph2 = 3) ∧ FOp op)) ∧ Bk S' T (k + 1) ∧ Gp C xs ∧
   SqP w sp S' qs [(C.κ.mb, blk (xs.map U) 5), (h, blk (hC C.κ e i n c ph2 st2 op a b (.slice da dl dc)) 139)] w' := by
 refine Qy (args := [_]) func61 rfl ntmps61 results61 (by simp) ?_
 have H := Hp.refl w
 have hbk := g.hM.hK.hb
 have hmq := mb_q hh hq hbk
 have hhq := Nd hh hq
 have hlh := Qr hh
 have hBd := hB.bd hk9
 have h012 := pR_012 C i
 have hn2 := pR_n2 g.hL hbad hi
 have addmb : ∀ {ph2 st2 : Int} {S' : Sx} {w' : World}, SqP w sp S' qs [(h, blk (hC C.κ e i n c ph2 st2 op a b (.slice da dl dc)) 139)] w' → SqP w sp S' qs [(C.κ.mb, blk (C.κ.xs.map U) 5), (h, blk (hC C.κ e i n c ph2 st2 op a b (.slice da dl dc)) 139)] w' :=
  fun h9 => SqP.add h9 hbk hmq.2.1 hmq.2.2 (fun hm => hmq.1 (List.mem_singleton.1 hm))
 have hP : ∀ {w1 : World}, Gd w1 c C → Ret Tryz.prog 64 #[ptr c 0, I i] w1 fun v w' => v = .tuple #[Slot.vP (C.pR i).1, I (C.pR i).2] ∧ Hp w1 [] w' := fun g => Mj g.hM g.hL hi
 have hE : ∀ {w1 : World}, w1.heap[h]? = some (blk (hC C.κ e i n c ph st op a b (.slice da dl dc)) 139) → Gd w1 c C → Ret Tryz.prog 100 #[ptr h 0, .agg (oC 0 i 0 0 0 nilS 0 0 nilS false nilS 0).toArray] w1 fun v w' => v = .agg (oC 0 i 0 0 0 nilS 0 0 nilS false nilS 0).toArray ∧ Gp C (endX C i) ∧ Hp w1 [(C.κ.mb, blk ((endX C i).map U) 5)] w' :=
  fun hh9 g9 => endF rfl hh9 g9 hi (fun h1 => (hz h1).1)
 generalize C.pR i = r at *
 obtain ⟨p, z⟩ := r
 simp only at hP hz h012 hn2
 (refine Js (Jr (Qb rfl (Qp (vs := z0) H zeroValue40 rfl) ?_)); clear H; intro c2 w3 hc2 H)
 (refine Ja (Jn (Js (Jr (Jm (Ji rfl (Jf 4 underlying139 rfl sizeOf93 rfl rfl (Jl isAgg93 rfl (H.Qc hh kYs) rfl (Jz rfl call63 rfl (Look_L (g.Ql H kYs).hM g.hL) H ?_)))))))); intro w12 H)
 refine Jn (Js ?_)
 (refine Xi (KH w [(c2, blk z0 40)]) (fun _ => false) (by kernel_rfl) H ?_; clear H; intro w15 H)
 refine Am 0 rfl H.kK (Az 1 rfl rfl H.kK (fun _ hC => Qf rfl) (Az 2 rfl rfl H.kK (fun _ hC => Qa (off' := 4) underlying139 rfl sizeOf93 (by decide) rfl rfl) (Az 3 rfl rfl H.kK (fun _ hC => Qe isAgg93 rfl (hC.Qc hh kYs) rfl) (Am 4 rfl H.kK (Az 5 rfl rfl H.kK (fun _ hC => Qf rfl) (Az 6 rfl rfl H.kK (fun _ hC => Qa (off' := 2) underlying139 rfl sizeOf3 (by decide) rfl rfl) (Az 7 rfl rfl H.kK (fun _ hC => Qe isAgg3 rfl (hC.Qc hh kYs) rfl) (Zf (i := 8) (j := 12) (by kernel_rfl) ?_ ?_))))))))
 ·(refine Qv rfl (.inl rfl) (Qw rfl call64 rfl) (hP (g.Ql H kYs)) (fun _ _ hR _ => (H.seq0 hR.2).kh (by simp) kYs) ?_; rintro _ w25 ⟨rfl, H1⟩; replace H := H.seq0 H1; clear H1)
  (refine Am 9 rfl H.kK (Az 10 rfl rfl H.kK (fun _ hC => Qs rfl rfl) (Az 11 rfl rfl H.kK (fun _ hC => Qs rfl rfl) (Ao 12 (Xd rfl (.inl rfl) (Slot.Qt H) (fun _ _ _ H _ => H.kh (by simp) kYs) ?_)))); clear H; intro c4 w30 hc4 H)
  (refine Ao 13 (Xb rfl (.inl rfl) (Slot.Qn H rfl rfl .here) (fun _ H _ => H.kh (by simp) kYs) ?_); clear H; intro w32 H)
  refine Aa 14 rfl H.kK (Ad (Js (Jb (Js (Jr (Jm (J (Xf rfl rfl (by omega)) (Ja (Jn (Jc rfl (Js (Jr (Jm (J (Yk rfl rfl) (Jm ?_)))))))))))))))
  apply Xz 4 34 38 [(35, 38)] H
  case hc => rfl
  case h1 =>
   intro h49
   refine Jt rfl rfl (Jf 0 underlying58 rfl sizeOf3 rfl rfl (Jt rfl rfl (J (Qe (v := I p.s) isAgg3 rfl (H.get .here) rfl) (Jt rfl rfl (J (Yk rfl rfl) (Jp rfl (Jn ?_)))))))
   exact ⟨kS, rfl, H⟩
  case h0 =>
   intro h49
   refine Jg rfl rfl (Jg rfl rfl (Jg rfl rfl (Jq rfl (Jn ?_))))
   exact ⟨kS, rfl, H⟩
  case h2 =>
   (clear H; intro E49 w49 H)
   refine Ja (Jn (Xo rfl (fun h67 => ?_) (fun h67 => ?_)))
   ·(refine Js (Jr (Jm (Jy rfl call95 rfl (idleQ (H.Qc hh kYs) (hk.Ql H kYs) (hq.Ql H kYs) (lastN hq H.swap2 hc2) hBd.q1) ?_))); rintro _ w71 ⟨rfl, S', hS', h9⟩; have h8 := SqP.own3 hq H kYs (fun p hp => .inl (by rw [List.mem_singleton.1 hp]; exact hlh)) h9; clear H h9; obtain ⟨Q, qs', k1, k2, k3, H⟩ := h8; simp only [List.cons_append, List.nil_append] at H; have hS9 : Bk S' T (k + 1) := (by rcases hS' with rfl | rfl; exact hB.mono (Int.le_refl _) (by omega); exact (Bk.quit hB).mono (Int.le_refl _) (by omega)); have hp9 : (0 : Int) = 0 ∨ (((0 : Int) = 1 ∨ (0 : Int) = 2 ∨ (0 : Int) = 3) ∧ FOp op) := .inl rfl)
    (refine Jn (Js (Jr (J (Qm (places := [(0, 1), (1, 1), (2, 4), (6, 1), (7, 1), (8, 1), (9, 1), (10, 1), (11, 1)]) (vs := z0) underlying40 typeInfo40 rfl rfl (by kernel_rfl) rfl rfl rfl) (Qd rfl (Qg (vs := z0) H sizeOf40 rfl rfl (Xq rfl rfl rfl) (.there .here) (by simp [z0, oC])) ?_)))); clear H; intro w76 H)
    refine Ja (Jn (Je ?_))
    exact ⟨_, ⟨_, _, rfl, ldA isAgg40 sizeOf40 (H.get (.there .here)) rfl (by simp [z0, oC]), rfl⟩, z0, false, C.κ.xs, _, _, _, rfl, .inl ⟨rfl, rfl, .inl rfl⟩, hp9, hS9, g.gp, addmb ⟨Q, qs', k1, k2, k3, (H.pop hc4).pop hc2⟩⟩
   ·refine Js (Jr (Jf 0 underlying58 rfl sizeOf3 rfl rfl (J (Qe (v := I p.s) isAgg3 rfl (H.get .here) rfl) (J (Xf rfl rfl (by omega)) (Ja (Jn (Jc rfl (Jk (Js (Js (Jr (Jm (Ji rfl (Jf 5 underlying139 rfl sizeOf3 rfl rfl (J (Qe (v := I ph) isAgg3 rfl (H.Qc hh kYs) rfl) (Jn (Jb (Js (Jr (J (Yk rfl rfl) (Ja (Jn (Xo rfl (fun h104 => ?_) (fun h104 => ?_))))))))))))))))))))))))
    ·(refine Jr (Jm (Jy rfl call97 rfl (wantQ (H.Qc hh kYs) (hk.Ql H kYs) (hq.Ql H kYs) hBd hT hn) ?_)); rintro _ w107 ⟨rfl, ph2, st2, hp2, h9⟩; have h8 := SqP.own3 hq H kYs (fun p hp => .inl (by rw [List.mem_singleton.1 hp]; exact hlh)) h9; clear H h9; obtain ⟨Q, qs', k1, k2, k3, H⟩ := h8; simp only [List.cons_append, List.nil_append] at H; have hS9 := hB.enter (who := (e : Int)) hn.1 hn.2; have hp9 : ph2 = 0 ∨ ((ph2 = 1 ∨ ph2 = 2 ∨ ph2 = 3) ∧ FOp op) := (by rcases hph with h0 | h0; omega; exact .inr ⟨by omega, h0.2⟩))
     (refine Jn (Js (Jr (J (Qm (places := [(0, 1), (1, 1), (2, 4), (6, 1), (7, 1), (8, 1), (9, 1), (10, 1), (11, 1)]) (vs := z0) underlying40 typeInfo40 rfl rfl (by kernel_rfl) rfl rfl rfl) (Qd rfl (Qg (vs := z0) H sizeOf40 rfl rfl (Xq rfl rfl rfl) (.there .here) (by simp [z0, oC])) ?_)))); clear H; intro w112 H)
     refine Ja (Jn (Je ?_))
     exact ⟨_, ⟨_, _, rfl, ldA isAgg40 sizeOf40 (H.get (.there .here)) rfl (by simp [z0, oC]), rfl⟩, z0, false, C.κ.xs, _, _, _, rfl, .inl ⟨rfl, rfl, .inl rfl⟩, hp9, hS9, g.gp, addmb ⟨Q, qs', k1, k2, k3, (H.pop hc4).pop hc2⟩⟩
    ·refine Js (Jr (J (Yk rfl rfl) (Ja (Jn (Xo rfl (fun h122 => ?_) (fun h122 => ?_))))))
     ·refine Js ?_
      ((have hop9 : FOp op := (by rcases hph with h0 | h0; omega; exact h0.2))) <;> refine Qk ?_
      (refine Jm (Jy rfl call98 rfl (inF (H.Qc hh kYs) (g.Ql H kYs) hi (hk.Ql H kYs) (hq.Ql H kYs) hca hop9 (fun h3 => hz2 hop9 h3)) ?_); rintro _ w126 ⟨out, is, xs, ph2, S', rfl, hR, hp2, hS', hgp, h9⟩; have h8 := SqP.own3 hq H kYs (fun p hp => .inl (by rcases List.mem_cons.1 hp with rfl | hp; exact Qr hbk; rw [List.mem_singleton.1 hp]; exact hlh)) h9; clear H h9; obtain ⟨Q, qs', k1, k2, k3, H⟩ := h8; simp only [List.cons_append, List.nil_append] at H; have hS9 : Bk S' T (k + 1) := (by rcases hS' with rfl | rfl; exact hB.mono (Int.le_refl _) (by omega); exact hB.leave.mono (Int.le_refl _) (by omega)); have hp9 : ph2 = 0 ∨ ((ph2 = 1 ∨ ph2 = 2 ∨ ph2 = 3) ∧ FOp op) := (by rcases hp2 with h0 | h0 | h0; exact .inl h0; exact .inr ⟨.inl h0, hop9⟩; exact .inr ⟨.inr (.inr h0), hop9⟩))
      refine Jx rfl rfl (Jx rfl rfl ?_)
      (have _g := hR; refine Qd rfl (Qg (vs := out) H (fun w => by rw [hR.len]; exact sizeOf40 w) rfl rfl (hR.one rfl) (.there .here) (by rw [hR.len]; simp [z0, oC])) ?_; clear H; intro w129 H; simp only [out_same hR.len] at H)
      refine Ja (Jn (Je ?_))
      exact ⟨_, ⟨_, _, rfl, ldA (vs := out) isAgg40 sizeOf40 (H.get (.there .here)) (by rw [List.drop_zero, List.take_of_length_le (by rw [hR.len]; decide)]) (by rw [hR.len]; decide), rfl⟩, out, is, xs, ph2, st, S', rfl, hR.pick hop9, hp9, hS9, hgp, Q, qs', k1, k2, k3, (H.pop hc4).pop hc2⟩
     ·refine Js (Jr (J (Yk rfl rfl) (Ja (Jn (Xo rfl (fun h139 => ?_) (fun h139 => ?_))))))
      ·(refine Js (Jr (Jm (J (Slot.Xa (p := p) rfl (H.get .here)) (Jy rfl call99 rfl (blockedF (H.Qc hh kYs) (g.Ql H kYs) (hz (by omega)).1 (by rcases hph with h0 | h0; omega; have h1 := h0.2; unfold FOp at h1; omega)) ?_)))); rintro _ w144 ⟨rfl, H1⟩; have h9 := SqP.same (hq.Ql H kYs) H1 (fun p hp => by rw [List.mem_singleton.1 hp]; exact hhq); have h8 := SqP.own3 hq H kYs (fun p hp => .inl (by rw [List.mem_singleton.1 hp]; exact hlh)) h9; clear H h9 H1; obtain ⟨Q, qs', k1, k2, k3, H⟩ := h8; simp only [List.cons_append, List.nil_append] at H; have hS9 : Bk S T (k + 1) := hB.mono (Int.le_refl _) (by omega); have hp9 : (1 : Int) = 0 ∨ (((1 : Int) = 1 ∨ (1 : Int) = 2 ∨ (1 : Int) = 3) ∧ FOp op) := (by rcases hph with h0 | h0; omega; exact .inr ⟨.inl rfl, h0.2⟩))
       (refine Jx rfl rfl (Jx rfl rfl (Qd rfl (Qg (vs := z0) H sizeOf40 rfl rfl (Xq rfl rfl rfl) (.there .here) (by simp [z0, oC])) ?_)); clear H; intro w147 H)
       refine Ja (Jn (Je ?_))
       exact ⟨_, ⟨_, _, rfl, ldA isAgg40 sizeOf40 (H.get (.there .here)) rfl (by simp [z0, oC]), rfl⟩, z0, false, C.κ.xs, _, _, _, rfl, .inl ⟨rfl, rfl, .inl rfl⟩, hp9, hS9, g.gp, addmb ⟨Q, qs', k1, k2, k3, (H.pop hc4).pop hc2⟩⟩
      ·refine Js ?_
       ((have m13 : True := trivial)) <;> refine Qk ?_
       (refine Jm (Jm (Ji rfl (Jf 2 underlying139 rfl sizeOf3 rfl rfl (J (Qe (v := I i) isAgg3 rfl (H.Qc hh kYs) rfl) (J (Qm (places := [(0, 1), (1, 1), (2, 4), (6, 1), (7, 1), (8, 1), (9, 1), (10, 1), (11, 1)]) (vs := oC 0 i 0 0 0 nilS 0 0 nilS false nilS 0) underlying40 typeInfo40 rfl rfl (by kernel_rfl) rfl rfl rfl) (Jy rfl call100 rfl (hE (H.Qc hh kYs) (g.Ql H kYs)) ?_)))))); rintro _ w160 ⟨rfl, hgp, H1⟩; replace H := g.seq0 H kYs H1; clear H1)
       (refine Qb rfl (Qp (vs := z0) H zeroValue40 rfl) ?_; clear H; intro c6 w161 hc6 H)
       (have _g := m13; refine Qd rfl (Qg (vs := oC 0 i 0 0 0 nilS 0 0 nilS false nilS 0) H sizeOf40 rfl rfl (Xq rfl rfl rfl) .here (by simp [z0, oC])) ?_; clear H; intro w162 H)
       refine Jn (Js (Jr (Jf 10 underlying40 rfl sizeOf22 rfl rfl (J (Qe (v := nilS) isAgg22 rfl (H.get .here) rfl) (J (Qh underlying22 rfl) (J (Zm rfl rfl (by omega)) (Jm (Jt rfl rfl (Jf 11 underlying40 rfl sizeOf3 rfl rfl (Jt rfl rfl (J (Qe (v := I 0) isAgg3 rfl (H.get .here) rfl) (Jt rfl rfl (J (Zm rfl rfl (by omega)) (Jp rfl (Jn (Jc rfl (Jk (Js (Jr (J (Qm (places := [(0, 1), (1, 1), (2, 4), (6, 1), (7, 1), (8, 1), (9, 1), (10, 1), (11, 1)]) (vs := z0) underlying40 typeInfo40 rfl rfl (by kernel_rfl) rfl rfl rfl) ?_))))))))))))))))))))
       (have _g := m13; refine Qd rfl (Qg (vs := z0) H sizeOf40 rfl rfl (Xq rfl rfl rfl) (.there (.there (.there .here))) (by simp [z0, oC])) ?_; clear H; intro w184 H)
       refine Ja (Jn (Je ?_))
       (have _g := m13; exact ⟨_, ⟨_, _, rfl, ldA isAgg40 sizeOf40 (H.get (.there (.there (.there .here)))) rfl (by simp [z0, oC]), rfl⟩, z0, false, endX C i, ph, st, S, rfl, .inl ⟨rfl, rfl, .inr rfl⟩, hph, hB.mono (Int.le_refl _) (by omega), hgp, SqP.perm (SqP.add (SqP.same hq (Hp.cut (L := [_]) (M := [_, _]) (H.pop hc6) kYs) (fun p hp => by rw [List.mem_singleton.1 hp]; exact hmq.2)) hh hhq.1 hhq.2 (fun hm => hmq.1 (List.mem_singleton.1 hm).symm)) (List.Perm.swap _ _ _)⟩)
 ·(refine Xd rfl (.inl rfl) (Slot.Qt H) (fun _ _ _ H _ => H.kh (by simp) kYs) ?_; clear H; intro c4 w189 hc4 H)
  (refine Ao 8 (Qv rfl (.inl rfl) (Qw rfl call64 rfl) (hP (g.Ql H kYs)) (fun _ _ hR _ => (H.seq0 hR.2).kh (by simp) kYs) ?_); rintro _ w191 ⟨rfl, H1⟩; replace H := H.seq0 H1; clear H1)
  (refine Am 9 rfl H.kK (Az 10 rfl rfl H.kK (fun _ hC => Qs rfl rfl) (Az 11 rfl rfl H.kK (fun _ hC => Qs rfl rfl) (Ao 13 (Xb rfl (.inl rfl) (Slot.Qn H rfl rfl .here) (fun _ H _ => H.kh (by simp) kYs) ?_)))); clear H; intro w196 H)
  refine Aa 14 rfl H.kK (Ad (Js (Jb (Js (Jr (Jm (J (Xf rfl rfl (by omega)) (Ja (Jn (Jc rfl (Js (Jr (Jm (J (Yk rfl rfl) (Jm ?_)))))))))))))))
  apply Xz 4 34 38 [(35, 38)] H
  case hc => rfl
  case h1 =>
   intro h213
   refine Jt rfl rfl (Jf 0 underlying58 rfl sizeOf3 rfl rfl (Jt rfl rfl (J (Qe (v := I p.s) isAgg3 rfl (H.get .here) rfl) (Jt rfl rfl (J (Yk rfl rfl) (Jp rfl (Jn ?_)))))))
   exact ⟨kS, rfl, H⟩
  case h0 =>
   intro h213
   refine Jg rfl rfl (Jg rfl rfl (Jg rfl rfl (Jq rfl (Jn ?_))))
   exact ⟨kS, rfl, H⟩
  case h2 =>
   (clear H; intro E213 w213 H)
   refine Ja (Jn (Xo rfl (fun h231 => ?_) (fun h231 => ?_)))
   ·(refine Js (Jr (Jm (Jy rfl call95 rfl (idleQ (H.Qc hh kYs) (hk.Ql H kYs) (hq.Ql H kYs) (lastN hq H.swap2 hc2) hBd.q1) ?_))); rintro _ w235 ⟨rfl, S', hS', h9⟩; have h8 := SqP.own3 hq H kYs (fun p hp => .inl (by rw [List.mem_singleton.1 hp]; exact hlh)) h9; clear H h9; obtain ⟨Q, qs', k1, k2, k3, H⟩ := h8; simp only [List.cons_append, List.nil_append] at H; have hS9 : Bk S' T (k + 1) := (by rcases hS' with rfl | rfl; exact hB.mono (Int.le_refl _) (by omega); exact (Bk.quit hB).mono (Int.le_refl _) (by omega)); have hp9 : (0 : Int) = 0 ∨ (((0 : Int) = 1 ∨ (0 : Int) = 2 ∨ (0 : Int) = 3) ∧ FOp op) := .inl rfl)
    (refine Jn (Js (Jr (J (Qm (places := [(0, 1), (1, 1), (2, 4), (6, 1), (7, 1), (8, 1), (9, 1), (10, 1), (11, 1)]) (vs := z0) underlying40 typeInfo40 rfl rfl (by kernel_rfl) rfl rfl rfl) (Qd rfl (Qg (vs := z0) H sizeOf40 rfl rfl (Xq rfl rfl rfl) (.there .here) (by simp [z0, oC])) ?_)))); clear H; intro w240 H)
    refine Ja (Jn (Je ?_))
    exact ⟨_, ⟨_, _, rfl, ldA isAgg40 sizeOf40 (H.get (.there .here)) rfl (by simp [z0, oC]), rfl⟩, z0, false, C.κ.xs, _, _, _, rfl, .inl ⟨rfl, rfl, .inl rfl⟩, hp9, hS9, g.gp, addmb ⟨Q, qs', k1, k2, k3, (H.pop hc4).pop hc2⟩⟩
   ·refine Js (Jr (Jf 0 underlying58 rfl sizeOf3 rfl rfl (J (Qe (v := I p.s) isAgg3 rfl (H.get .here) rfl) (J (Xf rfl rfl (by omega)) (Ja (Jn (Jc rfl (Jk (Js (Js (Jr (Jm (Ji rfl (Jf 5 underlying139 rfl sizeOf3 rfl rfl (J (Qe (v := I ph) isAgg3 rfl (H.Qc hh kYs) rfl) (Jn (Jb (Js (Jr (J (Yk rfl rfl) (Ja (Jn (Xo rfl (fun h268 => ?_) (fun h268 => ?_))))))))))))))))))))))))
    ·(refine Jr (Jm (Jy rfl call97 rfl (wantQ (H.Qc hh kYs) (hk.Ql H kYs) (hq.Ql H kYs) hBd hT hn) ?_)); rintro _ w271 ⟨rfl, ph2, st2, hp2, h9⟩; have h8 := SqP.own3 hq H kYs (fun p hp => .inl (by rw [List.mem_singleton.1 hp]; exact hlh)) h9; clear H h9; obtain ⟨Q, qs', k1, k2, k3, H⟩ := h8; simp only [List.cons_append, List.nil_append] at H; have hS9 := hB.enter (who := (e : Int)) hn.1 hn.2; have hp9 : ph2 = 0 ∨ ((ph2 = 1 ∨ ph2 = 2 ∨ ph2 = 3) ∧ FOp op) := (by rcases hph with h0 | h0; omega; exact .inr ⟨by omega, h0.2⟩))
     (refine Jn (Js (Jr (J (Qm (places := [(0, 1), (1, 1), (2, 4), (6, 1), (7, 1), (8, 1), (9, 1), (10, 1), (11, 1)]) (vs := z0) underlying40 typeInfo40 rfl rfl (by kernel_rfl) rfl rfl rfl) (Qd rfl (Qg (vs := z0) H sizeOf40 rfl rfl (Xq rfl rfl rfl) (.there .here) (by simp [z0, oC])) ?_)))); clear H; intro w276 H)
     refine Ja (Jn (Je ?_))
     exact ⟨_, ⟨_, _, rfl, ldA isAgg40 sizeOf40 (H.get (.there .here)) rfl (by simp [z0, oC]), rfl⟩, z0, false, C.κ.xs, _, _, _, rfl, .inl ⟨rfl, rfl, .inl rfl⟩, hp9, hS9, g.gp, addmb ⟨Q, qs', k1, k2, k3, (H.pop hc4).pop hc2⟩⟩
    ·refine Js (Jr (J (Yk rfl rfl) (Ja (Jn (Xo rfl (fun h286 => ?_) (fun h286 => ?_))))))
     ·refine Js ?_
      ((have hop9 : FOp op := (by rcases hph with h0 | h0; omega; exact h0.2))) <;> refine Qk ?_
      (refine Jm (Jy rfl call98 rfl (inF (H.Qc hh kYs) (g.Ql H kYs) hi (hk.Ql H kYs) (hq.Ql H kYs) hca hop9 (fun h3 => hz2 hop9 h3)) ?_); rintro _ w290 ⟨out, is, xs, ph2, S', rfl, hR, hp2, hS', hgp, h9⟩; have h8 := SqP.own3 hq H kYs (fun p hp => .inl (by rcases List.mem_cons.1 hp with rfl | hp; exact Qr hbk; rw [List.mem_singleton.1 hp]; exact hlh)) h9; clear H h9; obtain ⟨Q, qs', k1, k2, k3, H⟩ := h8; simp only [List.cons_append, List.nil_append] at H; have hS9 : Bk S' T (k + 1) := (by rcases hS' with rfl | rfl; exact hB.mono (Int.le_refl _) (by omega); exact hB.leave.mono (Int.le_refl _) (by omega)); have hp9 : ph2 = 0 ∨ ((ph2 = 1 ∨ ph2 = 2 ∨ ph2 = 3) ∧ FOp op) := (by rcases hp2 with h0 | h0 | h0; exact .inl h0; exact .inr ⟨.inl h0, hop9⟩; exact .inr ⟨.inr (.inr h0), hop9⟩))
      refine Jx rfl rfl (Jx rfl rfl ?_)
      (have _g := hR; refine Qd rfl (Qg (vs := out) H (fun w => by rw [hR.len]; exact sizeOf40 w) rfl rfl (hR.one rfl) (.there .here) (by rw [hR.len]; simp [z0, oC])) ?_; clear H; intro w293 H; simp only [out_same hR.len] at H)
      refine Ja (Jn (Je ?_))
      exact ⟨_, ⟨_, _, rfl, ldA (vs := out) isAgg40 sizeOf40 (H.get (.there .here)) (by rw [List.drop_zero, List.take_of_length_le (by rw [hR.len]; decide)]) (by rw [hR.len]; decide), rfl⟩, out, is, xs, ph2, st, S', rfl, hR.pick hop9, hp9, hS9, hgp, Q, qs', k1, k2, k3, (H.pop hc4).pop hc2⟩
     ·refine Js (Jr (J (Yk rfl rfl) (Ja (Jn (Xo rfl (fun h303 => ?_) (fun h303 => ?_))))))
      ·(refine Js (Jr (Jm (J (Slot.Xa (p := p) rfl (H.get .here)) (Jy rfl call99 rfl (blockedF (H.Qc hh kYs) (g.Ql H kYs) (hz (by omega)).1 (by rcases hph with h0 | h0; omega; have h1 := h0.2; unfold FOp at h1; omega)) ?_)))); rintro _ w308 ⟨rfl, H1⟩; have h9 := SqP.same (hq.Ql H kYs) H1 (fun p hp => by rw [List.mem_singleton.1 hp]; exact hhq); have h8 := SqP.own3 hq H kYs (fun p hp => .inl (by rw [List.mem_singleton.1 hp]; exact hlh)) h9; clear H h9 H1; obtain ⟨Q, qs', k1, k2, k3, H⟩ := h8; simp only [List.cons_append, List.nil_append] at H; have hS9 : Bk S T (k + 1) := hB.mono (Int.le_refl _) (by omega); have hp9 : (1 : Int) = 0 ∨ (((1 : Int) = 1 ∨ (1 : Int) = 2 ∨ (1 : Int) = 3) ∧ FOp op) := (by rcases hph with h0 | h0; omega; exact .inr ⟨.inl rfl, h0.2⟩))
       (refine Jx rfl rfl (Jx rfl rfl (Qd rfl (Qg (vs := z0) H sizeOf40 rfl rfl (Xq rfl rfl rfl) (.there .here) (by simp [z0, oC])) ?_)); clear H; intro w311 H)
       refine Ja (Jn (Je ?_))
       exact ⟨_, ⟨_, _, rfl, ldA isAgg40 sizeOf40 (H.get (.there .here)) rfl (by simp [z0, oC]), rfl⟩, z0, false, C.κ.xs, _, _, _, rfl, .inl ⟨rfl, rfl, .inl rfl⟩, hp9, hS9, g.gp, addmb ⟨Q, qs', k1, k2, k3, (H.pop hc4).pop hc2⟩⟩
      ·refine Js ?_
       ((have m13 : True := trivial)) <;> refine Qk ?_
       (refine Jm (Jm (Ji rfl (Jf 2 underlying139 rfl sizeOf3 rfl rfl (J (Qe (v := I i) isAgg3 rfl (H.Qc hh kYs) rfl) (J (Qm (places := [(0, 1), (1, 1), (2, 4), (6, 1), (7, 1), (8, 1), (9, 1), (10, 1), (11, 1)]) (vs := oC 0 i 0 0 0 nilS 0 0 nilS false nilS 0) underlying40 typeInfo40 rfl rfl (by kernel_rfl) rfl rfl rfl) (Jy rfl call100 rfl (hE (H.Qc hh kYs) (g.Ql H kYs)) ?_)))))); rintro _ w324 ⟨rfl, hgp, H1⟩; replace H := g.seq0 H kYs H1; clear H1)
       (refine Qb rfl (Qp (vs := z0) H zeroValue40 rfl) ?_; clear H; intro c6 w325 hc6 H)
       (have _g := m13; refine Qd rfl (Qg (vs := oC 0 i 0 0 0 nilS 0 0 nilS false nilS 0) H sizeOf40 rfl rfl (Xq rfl rfl rfl) .here (by simp [z0, oC])) ?_; clear H; intro w326 H)
       refine Jn (Js (Jr (Jf 10 underlying40 rfl sizeOf22 rfl rfl (J (Qe (v := nilS) isAgg22 rfl (H.get .here) rfl) (J (Qh underlying22 rfl) (J (Zm rfl rfl (by omega)) (Jm (Jt rfl rfl (Jf 11 underlying40 rfl sizeOf3 rfl rfl (Jt rfl rfl (J (Qe (v := I 0) isAgg3 rfl (H.get .here) rfl) (Jt rfl rfl (J (Zm rfl rfl (by omega)) (Jp rfl (Jn (Jc rfl (Jk (Js (Jr (J (Qm (places := [(0, 1), (1, 1), (2, 4), (6, 1), (7, 1), (8, 1), (9, 1), (10, 1), (11, 1)]) (vs := z0) underlying40 typeInfo40 rfl rfl (by kernel_rfl) rfl rfl rfl) ?_))))))))))))))))))))
       (have _g := m13; refine Qd rfl (Qg (vs := z0) H sizeOf40 rfl rfl (Xq rfl rfl rfl) (.there (.there (.there .here))) (by simp [z0, oC])) ?_; clear H; intro w348 H)
       refine Ja (Jn (Je ?_))
       (have _g := m13; exact ⟨_, ⟨_, _, rfl, ldA isAgg40 sizeOf40 (H.get (.there (.there (.there .here)))) rfl (by simp [z0, oC]), rfl⟩, z0, false, endX C i, ph, st, S, rfl, .inl ⟨rfl, rfl, .inr rfl⟩, hph, hB.mono (Int.le_refl _) (by omega), hgp, SqP.perm (SqP.add (SqP.same hq (Hp.cut (L := [_]) (M := [_, _]) (H.pop hc6) kYs) (fun p hp => by rw [List.mem_singleton.1 hp]; exact hmq.2)) hh hhq.1 hhq.2 (fun hm => hmq.1 (List.mem_singleton.1 hm).symm)) (List.Perm.swap _ _ _)⟩)
end
end Go.Proofs.YtlpmfldijgdcoaaGreatDoor.Ho
namespace Go.Proofs.YtlpmfldijgdcoaaGreatDoor.Ho
open Go Go.Proofs Fx Kn Cm Sect Tryz
/-- blocks of the outset, and new ones, turn beside blocks of one's own -/
theorem Uj {w0 w w' : World} {L M : List (Nat × Obj)} (H : Hp w0 L w) (hL : ∀ p ∈ L, w0.heap.size ≤ p.1) (H1 : Hp w M w') (hM : ∀ p ∈ M, p.1 < w0.heap.size ∨ w.heap.size ≤ p.1) : Hp w0 (M ++ L) w' := by
 have hd : ∀ p ∈ L, p.1 ∉ M.map (·.1) := fun p hp hm => by
  obtain ⟨q, hq, e⟩ := List.mem_map.1 hm
  have h1 := hL p hp
  have h2 := Qr (H.held p hp)
  rcases hM q hq with h | h <;> omega
 refine ⟨H1.os.trans H.os, H1.tape.trans H.tape, H1.output.trans H.output, Nat.le_trans H.size H1.size, ?_, ?_, ?_⟩
 ·intro k hk hn
  rw [List.map_append, List.mem_append, not_or] at hn
  rw [H1.old k (Nat.lt_of_lt_of_le hk H.size) hn.1]
  exact H.old k hk hn.2
 ·intro p hp
  rcases List.mem_append.1 hp with hp | hp
  ·exact H1.held p hp
  ·rw [H1.old p.1 (Qr (H.held p hp)) (hd p hp)]
   exact H.held p hp
 ·rw [List.map_append, List.nodup_append]
  refine ⟨H1.nodup, H.nodup, ?_⟩
  intro a ha b hb e
  subst e
  obtain ⟨p, hp, rfl⟩ := List.mem_map.1 hb
  exact hd p hp ha
section
variable {w : World} {h e n sp c : Nat} {C : Cs} {S : Sx} {qv : Value} {sl : Nat} {ph st op a b : Int} {da : Option Addr} {dl dc : Nat}
/-- what the call for the parent tells -/
def Zk (sl : Nat) (a b : Int) (D : Value) : List Value := oC 0 sl 17 a b D (-1) 0 nilS true nilS 0
theorem Ux (hh : w.heap[h]? = some (blk [ptr C.κ.k 0, I e, I sl, I n, ptr c 0, I ph, I st, I 17, I a, I b, .slice da dl dc] 139)) (hM : CmI w c C) (hs : Snd C) (hi : sl < 8) (hp : C.pD sl = (p0, 1)) (hk : Ks w C.κ e n sp)
  (hsp : w.heap[sp]? = some (blk (sxC S qv) 170)) (hold : S.held = true ∧ S.who = e ∧ S.stamp = st) :
  Ret Tryz.prog 98 #[ptr h 0] w fun v w' => v = .tuple #[.agg (Zk sl a b (.slice da dl dc)).toArray, .bool true] ∧
   Hp w ((endB C sl).mB ++ [(h, blk [ptr C.κ.k 0, I e, I sl, I n, ptr c 0, I 0, I st, I 17, I a, I b, .slice da dl dc] 139), (sp, blk (sxC (Yy S e st) qv) 170)]) w' := by
 refine Qy (args := [_]) func98 rfl ntmps98 results98 (by simp) ?_
 have H := Hp.refl w
 have hlt := Qr hh
 have hlt2 := Qr hsp
 (refine Js (Jr (Qb rfl (Qp (vs := z0) H zeroValue40 rfl) ?_)); clear H; intro c2 w3 hc2 H)
 refine Ja (Jn (Js (Js ?_)))
 (refine Zc (fun _ => false) (by kernel_rfl) H ?_; clear H; intro w8 H)
 (refine Am 0 rfl H (Az 1 rfl rfl H (fun _ hC => Qf rfl) (Az 2 rfl rfl H (fun _ hC => Qa (off' := 0) underlying139 rfl sizeOf71 (by decide) rfl rfl) (Az 3 rfl rfl H (fun _ hC => Qe isAgg71 rfl (hC.Qc hh kYs) rfl) (Am 4 rfl H (Az 5 rfl rfl H (fun _ hC => Qf rfl) (Az 6 rfl rfl H (fun _ hC => Qa (off' := 3) underlying139 rfl sizeOf3 (by decide) rfl rfl) (Az 7 rfl rfl H (fun _ hC => Qe isAgg3 rfl (hC.Qc hh kYs) rfl) (Am 9 rfl H (Az 10 rfl rfl H (fun _ hC => Qf rfl) (Az 11 rfl rfl H (fun _ hC => Qa (off' := 1) underlying139 rfl sizeOf3 (by decide) rfl rfl) (Az 12 rfl rfl H (fun _ hC => Qe isAgg3 rfl (hC.Qc hh kYs) rfl) (Am 13 rfl H (Az 14 rfl rfl H (fun _ hC => Qf rfl) (Az 15 rfl rfl H (fun _ hC => Qa (off' := 6) underlying139 rfl sizeOf3 (by decide) rfl rfl) (Az 16 rfl rfl H (fun _ hC => Qe isAgg3 rfl (hC.Qc hh kYs) rfl) (Ao 8 (Qv rfl (.inl rfl) (Qw rfl call59 rfl) (by exact Sect_ret (hk.Ql H kYs)) (by first | exact fun _ _ hR _ => H.seq0 hR.2 | exact fun _ _ hR h => Bool.noConfusion h | exact fun _ _ hR _ => (H.seq0 hR.2).none kYs | exact fun _ _ hR _ => (H.seq0 hR.2).Ub kYs) ?_))))))))))))))))); rintro _ w26 ⟨rfl, H1⟩; replace H := H.seq0 H1; clear H1)
 (refine Ao 17 (Qv rfl (.inl rfl) (Qw rfl call132 rfl) (by exact holds0 (H.Qc hsp kYs) e st) (by first | exact fun _ _ hR _ => H.seq0 hR.2 | exact fun _ _ hR h => Bool.noConfusion h | exact fun _ _ hR _ => (H.seq0 hR.2).none kYs | exact fun _ _ hR _ => (H.seq0 hR.2).Ub kYs) ?_); rintro v w28 ⟨hv, H1⟩; rw [decide_eq_true hold] at hv; subst hv; replace H := H.seq0 H1; clear H1)
 refine Az 18 rfl rfl H (fun _ hC => Xj rfl) (Ad (Jc rfl (Jk (Js ?_))))
 (refine Xi (KH w [(c2, blk z0 40)]) (fun _ => false) (by kernel_rfl) H ?_; clear H; intro w34 H)
 refine Am 0 rfl H.kK (Az 1 rfl rfl H.kK (fun _ hC => Qf rfl) (Az 2 rfl rfl H.kK (fun _ hC => Qa (off' := 4) underlying139 rfl sizeOf93 (by decide) rfl rfl) (Az 3 rfl rfl H.kK (fun _ hC => Qe isAgg93 rfl (hC.Qc hh kYs) rfl) (Am 4 rfl H.kK (Az 5 rfl rfl H.kK (fun _ hC => Qf rfl) (Az 6 rfl rfl H.kK (fun _ hC => Qa (off' := 2) underlying139 rfl sizeOf3 (by decide) rfl rfl) (Az 7 rfl rfl H.kK (fun _ hC => Qe isAgg3 rfl (hC.Qc hh kYs) rfl) (Am 8 rfl H.kK (Az 9 rfl rfl H.kK (fun _ hC => Qf rfl) (Az 10 rfl rfl H.kK (fun _ hC => Qa (off' := 7) underlying139 rfl sizeOf38 (by decide) rfl rfl) (Az 11 rfl rfl H.kK (fun _ hC => Qo (vs := [I 17, I a, I b, .slice da dl dc]) isAgg38 sizeOf38 rfl (hC.Qc hh kYs) rfl (by simp)) (Zf (i := 12) (j := 13) (by kernel_rfl) ?_ ?_))))))))))))
 ·(refine Qv rfl (.inl rfl) (Qw rfl call133 rfl) (Do_parent (hM.Ql H kYs) hs hi hp rfl (by decide)) (fun _ _ hR _ => (H.seq0 hR.2).kh (by simp) kYs) ?_; rintro _ w48 ⟨rfl, H1⟩; replace H := H.seq0 H1; clear H1)
  (refine Ao 13 (Xd rfl (.inl rfl) (Qp (vs := rtC 0 0 nilS false) H zeroValue227 rfl) (fun _ _ _ H _ => H.kh (by simp) kYs) ?_); clear H; intro c4 w50 hc4 H)
  (refine Ao 14 (Xb rfl (.inl rfl) (Qg (vs := rtC (-1) 0 nilS false) H sizeOf227 rfl rfl (by simp [rtC, Value.oneCell']) .here (by simp [rtC])) (fun _ H _ => H.kh (by simp) kYs) ?_); clear H; intro w52 H; replace H : Hp w [(c4, blk (rtC (-1) 0 nilS false) 227), (c2, blk z0 40)] w52 := H)
  (refine Ad (Js (Js (Jr (Jf 3 underlying227 rfl sizeOf4 rfl rfl (J (Qe (v := .bool false) isAgg4 rfl (H.get .here) rfl) (Jn (Jc rfl (Jk (Js (Jr (Jm (Jy rfl call96 rfl (By (H.Qc hh kYs) (hk.Ql H kYs) (H.Qc hsp kYs) 0) ?_)))))))))))); rintro _ w65 ⟨rfl, H1⟩; replace H := Uj H kYs H1 (by intro p hp; simp only [List.mem_cons, List.not_mem_nil, or_false] at hp; rcases hp with rfl | rfl; exact .inl hlt; exact .inl hlt2); clear H1; replace H : Hp w [(h, blk [ptr C.κ.k 0, I e, I sl, I n, ptr c 0, I 0, I st, I 17, I a, I b, .slice da dl dc] 139), (sp, blk (sxC (Yy S e st) qv) 170), (c4, blk (rtC (-1) 0 nilS false) 227), (c2, blk z0 40)] w65 := H)
  refine Jn (Js ?_)
  ((have m9 : True := trivial)) <;> refine Qk ?_
  (refine Jm (J (Qo (vs := rtC (-1) 0 nilS false) isAgg227 sizeOf227 rfl (H.get (.there (.there .here))) rfl (by simp [rtC])) (Jz rfl call130 rfl (back_ret (H.get .here)) H ?_)); intro w71 H)
  (refine Qb rfl (Qp (vs := z0) H zeroValue40 rfl) ?_; clear H; intro c5 w72 hc5 H)
  (have _g := m9; refine Qd rfl (Qg (vs := Zk sl a b (.slice da dl dc)) H sizeOf40 rfl rfl (Xq rfl rfl rfl) .here (by simp [Zk, oC, z0])) ?_; clear H; intro w73 H; replace H : Hp w [(c5, blk (Zk sl a b (.slice da dl dc)) 40), (h, blk [ptr C.κ.k 0, I e, I sl, I n, ptr c 0, I 0, I st, I 17, I a, I b, .slice da dl dc] 139), (sp, blk (sxC (Yy S e st) qv) 170), (c4, blk (rtC (-1) 0 nilS false) 227), (c2, blk z0 40)] w73 := H)
  refine Jn (Js (Js (Jr (Jm (Ji rfl (Jf 7 underlying139 rfl sizeOf38 rfl rfl (Jf 7 underlying38 rfl sizeOf3 rfl rfl (J (Qe (v := I 17) isAgg3 rfl (H.get (.there .here)) rfl) (J (Dq rfl rfl (by omega)) (Jn (Jd rfl ?_)))))))))))
  ((have m11 : True := trivial; clear m9)) <;> refine Qk ?_
  refine Jm (J (Qo (vs := Zk sl a b (.slice da dl dc)) isAgg40 sizeOf40 rfl (H.get .here) rfl (by simp [Zk, oC])) ?_)
  (have hM9 := hM.keep0 H (Out.new hc5 (Out.cons hh (by simp [cT, kT, elT]) (Out.cons hsp (by simp [cT, kT, elT]) (Out.new hc4 (Out.new hc2 Out.nil))))); refine Vl rfl (Qw rfl call100 rfl) (end_ret rfl rfl (H.get (.there .here)) hM9 hs hi hp) ?_; rintro _ w89 ⟨rfl, H1⟩; replace H := hp_addT H hM9.hK.hb (by simp [elT]) H1; clear H1)
  (have _g := m11; refine Qd rfl (Qg (vs := Zk sl a b (.slice da dl dc)) H sizeOf40 rfl rfl (Xq rfl rfl rfl) (.there .here) (by simp [Zk, oC, z0])) ?_; clear H; intro w90 H; replace H : Hp w ((endB C sl).mB ++ [(c5, blk (Zk sl a b (.slice da dl dc)) 40), (h, blk [ptr C.κ.k 0, I e, I sl, I n, ptr c 0, I 0, I st, I 17, I a, I b, .slice da dl dc] 139), (sp, blk (sxC (Yy S e st) qv) 170), (c4, blk (rtC (-1) 0 nilS false) 227), (c2, blk z0 40)]) w90 := H)
  refine Jn (Js ?_)
  ((have m12 : True := trivial; clear m11)) <;> refine Qk ?_
  refine J (Qo (vs := Zk sl a b (.slice da dl dc)) isAgg40 sizeOf40 rfl (H.get (.there .here)) rfl (by simp [Zk, oC])) ?_
  (have _g := m12; refine Qd rfl (Qg (vs := Zk sl a b (.slice da dl dc)) H sizeOf40 rfl rfl (Xq rfl rfl rfl) (.there (.there (.there (.there (.there .here))))) (by simp [Zk, oC, z0])) ?_; clear H; intro w95 H; replace H : Hp w ((endB C sl).mB ++ [(c5, blk (Zk sl a b (.slice da dl dc)) 40), (h, blk [ptr C.κ.k 0, I e, I sl, I n, ptr c 0, I 0, I st, I 17, I a, I b, .slice da dl dc] 139), (sp, blk (sxC (Yy S e st) qv) 170), (c4, blk (rtC (-1) 0 nilS false) 227), (c2, blk (Zk sl a b (.slice da dl dc)) 40)]) w95 := H)
  refine Ja (Jn (Je ?_))
  exact ⟨_, ⟨_, _, rfl, ldA isAgg40 sizeOf40 (H.get (.there (.there (.there (.there (.there .here)))))) rfl (by simp [Zk, oC]), rfl⟩, rfl, Hp.cut (L := [_, _, _]) (M := [_, _]) (H.pop2 hc5) kYs⟩
 ·(refine Xd rfl (.inl rfl) (Qp (vs := rtC 0 0 nilS false) H zeroValue227 rfl) (fun _ _ _ H _ => H.kh (by simp) kYs) ?_; clear H; intro c4 w100 hc4 H)
  (refine Ao 12 (Qv rfl (.inl rfl) (Qw rfl call133 rfl) (Do_parent (hM.Ql H kYs) hs hi hp rfl (by decide)) (fun _ _ hR _ => (H.seq0 hR.2).kh (by simp) kYs) ?_); rintro _ w102 ⟨rfl, H1⟩; replace H := H.seq0 H1; clear H1)
  (refine Ao 14 (Xb rfl (.inl rfl) (Qg (vs := rtC (-1) 0 nilS false) H sizeOf227 rfl rfl (by simp [rtC, Value.oneCell']) .here (by simp [rtC])) (fun _ H _ => H.kh (by simp) kYs) ?_); clear H; intro w104 H; replace H : Hp w [(c4, blk (rtC (-1) 0 nilS false) 227), (c2, blk z0 40)] w104 := H)
  (refine Ad (Js (Js (Jr (Jf 3 underlying227 rfl sizeOf4 rfl rfl (J (Qe (v := .bool false) isAgg4 rfl (H.get .here) rfl) (Jn (Jc rfl (Jk (Js (Jr (Jm (Jy rfl call96 rfl (By (H.Qc hh kYs) (hk.Ql H kYs) (H.Qc hsp kYs) 0) ?_)))))))))))); rintro _ w117 ⟨rfl, H1⟩; replace H := Uj H kYs H1 (by intro p hp; simp only [List.mem_cons, List.not_mem_nil, or_false] at hp; rcases hp with rfl | rfl; exact .inl hlt; exact .inl hlt2); clear H1; replace H : Hp w [(h, blk [ptr C.κ.k 0, I e, I sl, I n, ptr c 0, I 0, I st, I 17, I a, I b, .slice da dl dc] 139), (sp, blk (sxC (Yy S e st) qv) 170), (c4, blk (rtC (-1) 0 nilS false) 227), (c2, blk z0 40)] w117 := H)
  refine Jn (Js ?_)
  ((have m9 : True := trivial)) <;> refine Qk ?_
  (refine Jm (J (Qo (vs := rtC (-1) 0 nilS false) isAgg227 sizeOf227 rfl (H.get (.there (.there .here))) rfl (by simp [rtC])) (Jz rfl call130 rfl (back_ret (H.get .here)) H ?_)); intro w123 H)
  (refine Qb rfl (Qp (vs := z0) H zeroValue40 rfl) ?_; clear H; intro c5 w124 hc5 H)
  (have _g := m9; refine Qd rfl (Qg (vs := Zk sl a b (.slice da dl dc)) H sizeOf40 rfl rfl (Xq rfl rfl rfl) .here (by simp [Zk, oC, z0])) ?_; clear H; intro w125 H; replace H : Hp w [(c5, blk (Zk sl a b (.slice da dl dc)) 40), (h, blk [ptr C.κ.k 0, I e, I sl, I n, ptr c 0, I 0, I st, I 17, I a, I b, .slice da dl dc] 139), (sp, blk (sxC (Yy S e st) qv) 170), (c4, blk (rtC (-1) 0 nilS false) 227), (c2, blk z0 40)] w125 := H)
  refine Jn (Js (Js (Jr (Jm (Ji rfl (Jf 7 underlying139 rfl sizeOf38 rfl rfl (Jf 7 underlying38 rfl sizeOf3 rfl rfl (J (Qe (v := I 17) isAgg3 rfl (H.get (.there .here)) rfl) (J (Dq rfl rfl (by omega)) (Jn (Jd rfl ?_)))))))))))
  ((have m11 : True := trivial; clear m9)) <;> refine Qk ?_
  refine Jm (J (Qo (vs := Zk sl a b (.slice da dl dc)) isAgg40 sizeOf40 rfl (H.get .here) rfl (by simp [Zk, oC])) ?_)
  (have hM9 := hM.keep0 H (Out.new hc5 (Out.cons hh (by simp [cT, kT, elT]) (Out.cons hsp (by simp [cT, kT, elT]) (Out.new hc4 (Out.new hc2 Out.nil))))); refine Vl rfl (Qw rfl call100 rfl) (end_ret rfl rfl (H.get (.there .here)) hM9 hs hi hp) ?_; rintro _ w141 ⟨rfl, H1⟩; replace H := hp_addT H hM9.hK.hb (by simp [elT]) H1; clear H1)
  (have _g := m11; refine Qd rfl (Qg (vs := Zk sl a b (.slice da dl dc)) H sizeOf40 rfl rfl (Xq rfl rfl rfl) (.there .here) (by simp [Zk, oC, z0])) ?_; clear H; intro w142 H; replace H : Hp w ((endB C sl).mB ++ [(c5, blk (Zk sl a b (.slice da dl dc)) 40), (h, blk [ptr C.κ.k 0, I e, I sl, I n, ptr c 0, I 0, I st, I 17, I a, I b, .slice da dl dc] 139), (sp, blk (sxC (Yy S e st) qv) 170), (c4, blk (rtC (-1) 0 nilS false) 227), (c2, blk z0 40)]) w142 := H)
  refine Jn (Js ?_)
  ((have m12 : True := trivial; clear m11)) <;> refine Qk ?_
  refine J (Qo (vs := Zk sl a b (.slice da dl dc)) isAgg40 sizeOf40 rfl (H.get (.there .here)) rfl (by simp [Zk, oC])) ?_
  (have _g := m12; refine Qd rfl (Qg (vs := Zk sl a b (.slice da dl dc)) H sizeOf40 rfl rfl (Xq rfl rfl rfl) (.there (.there (.there (.there (.there .here))))) (by simp [Zk, oC, z0])) ?_; clear H; intro w147 H; replace H : Hp w ((endB C sl).mB ++ [(c5, blk (Zk sl a b (.slice da dl dc)) 40), (h, blk [ptr C.κ.k 0, I e, I sl, I n, ptr c 0, I 0, I st, I 17, I a, I b, .slice da dl dc] 139), (sp, blk (sxC (Yy S e st) qv) 170), (c4, blk (rtC (-1) 0 nilS false) 227), (c2, blk (Zk sl a b (.slice da dl dc)) 40)]) w147 := H)
  refine Ja (Jn (Je ?_))
  exact ⟨_, ⟨_, _, rfl, ldA isAgg40 sizeOf40 (H.get (.there (.there (.there (.there (.there .here)))))) rfl (by simp [Zk, oC]), rfl⟩, rfl, Hp.cut (L := [_, _, _]) (M := [_, _]) (H.pop2 hc5) kYs⟩
end
end Go.Proofs.YtlpmfldijgdcoaaGreatDoor.Ho
namespace Go.Proofs.YtlpmfldijgdcoaaGreatDoor.Ho
open Go Go.Proofs Fx Kn Cm Sect Tryz
section
variable {w : World} {h e n sp c : Nat} {C : Cs} {S : Sx} {qv : Value} {sl : Nat} {ph st op a b : Int} {da : Option Addr} {dl dc : Nat}
theorem pick_in (hh : w.heap[h]? = some (blk [ptr C.κ.k 0, I e, I sl, I n, ptr c 0, I 2, I st, I 17, I a, I b, .slice da dl dc] 139)) (hM : CmI w c C) (hs : Snd C) (hi : sl < 8) (hp : C.pD sl = (p0, 1)) (hk : Ks w C.κ e n sp)
  (hsp : w.heap[sp]? = some (blk (sxC S qv) 170)) (hold : S.held = true ∧ S.who = e ∧ S.stamp = st) :
  Ret Tryz.prog 61 #[ptr h 0] w fun v w' => v = .tuple #[.agg (Zk sl a b (.slice da dl dc)).toArray, .bool true] ∧
   Hp w ((endB C sl).mB ++ [(h, blk [ptr C.κ.k 0, I e, I sl, I n, ptr c 0, I 0, I st, I 17, I a, I b, .slice da dl dc] 139), (sp, blk (sxC (Yy S e st) qv) 170)]) w' := by
 refine Qy (args := [_]) func61 rfl ntmps61 results61 (by simp) ?_
 have H := Hp.refl w
 have hlt := Qr hh
 have hlt2 := Qr hsp
 have hlt3 := Qr hM.hK.hb
 (refine Js (Jr (Qb rfl (Qp (vs := z0) H zeroValue40 rfl) ?_)); clear H; intro c2 w3 hc2 H)
 (refine Ja (Jn (Js (Jr (Jm (Ji rfl (Jf 4 underlying139 rfl sizeOf93 rfl rfl (Jl isAgg93 rfl (H.Qc hh kYs) rfl (Jz rfl call63 rfl (Look_ret (hM.Ql H kYs) hs) H ?_)))))))); intro w12 H)
 refine Jn (Js ?_)
 (refine Xi (KH w [(c2, blk z0 40)]) (fun _ => false) (by kernel_rfl) H ?_; clear H; intro w15 H)
 refine Am 0 rfl H.kK (Az 1 rfl rfl H.kK (fun _ hC => Qf rfl) (Az 2 rfl rfl H.kK (fun _ hC => Qa (off' := 4) underlying139 rfl sizeOf93 (by decide) rfl rfl) (Az 3 rfl rfl H.kK (fun _ hC => Qe isAgg93 rfl (hC.Qc hh kYs) rfl) (Am 4 rfl H.kK (Az 5 rfl rfl H.kK (fun _ hC => Qf rfl) (Az 6 rfl rfl H.kK (fun _ hC => Qa (off' := 2) underlying139 rfl sizeOf3 (by decide) rfl rfl) (Az 7 rfl rfl H.kK (fun _ hC => Qe isAgg3 rfl (hC.Qc hh kYs) rfl) (Zf (i := 8) (j := 12) (by kernel_rfl) ?_ ?_))))))))
 ·(refine Qv rfl (.inl rfl) (Qw rfl call64 rfl) (Dt (hM.Ql H kYs) hs hi hp) (fun _ _ hR _ => (H.seq0 hR.2).kh (by simp) kYs) ?_; rintro _ w25 ⟨rfl, H1⟩; replace H := H.seq0 H1; clear H1)
  (refine Am 9 rfl H.kK (Az 10 rfl rfl H.kK (fun _ hC => Qs rfl rfl) (Az 11 rfl rfl H.kK (fun _ hC => Qs rfl rfl) (Ao 12 (Xd rfl (.inl rfl) (Slot.Qt H) (fun _ _ _ H _ => H.kh (by simp) kYs) ?_)))); clear H; intro c4 w30 hc4 H)
  (refine Ao 13 (Xb rfl (.inl rfl) (Slot.Qn H rfl rfl .here) (fun _ H _ => H.kh (by simp) kYs) ?_); clear H; intro w32 H)
  (refine Aa 14 rfl H.kK (Ad (Js (Jb (Js (Jr (Jm (J (Xf rfl rfl (by omega)) (Ja (Jn (Jc rfl (Js (Jr (Jm (J (Xf rfl rfl (by omega)) (Jm (Jt rfl rfl (Jf 0 underlying58 rfl sizeOf3 rfl rfl (Jt rfl rfl (J (Qe (v := I 1) isAgg3 rfl (H.get .here) rfl) (Jt rfl rfl (J (Xf rfl rfl (by omega)) (Jp rfl (Ja (Jn (Jc rfl (Js (Jr (Jf 0 underlying58 rfl sizeOf3 rfl rfl (J (Qe (v := I 1) isAgg3 rfl (H.get .here) rfl) (J (Xf rfl rfl (by omega)) (Ja (Jn (Jc rfl (Jk (Js (Js (Jr (Jm (Ji rfl (Jf 5 underlying139 rfl sizeOf3 rfl rfl (J (Qe (v := I 2) isAgg3 rfl (H.Qc hh kYs) rfl) (Jn (Jb (Js (Jr (J (Xf rfl rfl (by omega)) (Ja (Jn (Jc rfl (Js (Jr (J (Yr rfl rfl (by omega)) (Ja (Jn (Jd rfl (Js (Jr (Jm (Jy rfl call98 rfl (Ux (H.Qc hh kYs) (hM.Ql H kYs) hs hi hp (hk.Ql H kYs) (H.Qc hsp kYs) hold) ?_))))))))))))))))))))))))))))))))))))))))))))))))))))))))))); rintro _ w92 ⟨rfl, H1⟩; replace H := Uj H kYs H1 (by intro p hp; simp only [Cs.mB, List.cons_append, List.nil_append, List.mem_cons, List.not_mem_nil, or_false] at hp; rcases hp with rfl | rfl | rfl; exact .inl hlt3; exact .inl hlt; exact .inl hlt2); clear H1)
  (refine Jx rfl rfl (Jx rfl rfl (Qd rfl (Qg (vs := Zk sl a b (.slice da dl dc)) H sizeOf40 rfl rfl (Xq rfl rfl rfl) (.there (.there (.there (.there .here)))) (by simp [Zk, oC, z0])) ?_)); clear H; intro w95 H; replace H : Hp w ((endB C sl).mB ++ [(h, blk [ptr C.κ.k 0, I e, I sl, I n, ptr c 0, I 0, I st, I 17, I a, I b, .slice da dl dc] 139), (sp, blk (sxC (Yy S e st) qv) 170), (c4, blk (Slot.piC p0) 58), (c2, blk (Zk sl a b (.slice da dl dc)) 40)]) w95 := H)
  refine Ja (Jn (Je ?_))
  exact ⟨_, ⟨_, _, rfl, ldA isAgg40 sizeOf40 (H.get (.there (.there (.there (.there .here))))) rfl (by simp [Zk, oC]), rfl⟩, rfl, Hp.cut (L := [_, _, _]) (M := [_, _]) H kYs⟩
 ·(refine Xd rfl (.inl rfl) (Slot.Qt H) (fun _ _ _ H _ => H.kh (by simp) kYs) ?_; clear H; intro c4 w100 hc4 H)
  (refine Ao 8 (Qv rfl (.inl rfl) (Qw rfl call64 rfl) (Dt (hM.Ql H kYs) hs hi hp) (fun _ _ hR _ => (H.seq0 hR.2).kh (by simp) kYs) ?_); rintro _ w102 ⟨rfl, H1⟩; replace H := H.seq0 H1; clear H1)
  (refine Am 9 rfl H.kK (Az 10 rfl rfl H.kK (fun _ hC => Qs rfl rfl) (Az 11 rfl rfl H.kK (fun _ hC => Qs rfl rfl) (Ao 13 (Xb rfl (.inl rfl) (Slot.Qn H rfl rfl .here) (fun _ H _ => H.kh (by simp) kYs) ?_)))); clear H; intro w107 H)
  (refine Aa 14 rfl H.kK (Ad (Js (Jb (Js (Jr (Jm (J (Xf rfl rfl (by omega)) (Ja (Jn (Jc rfl (Js (Jr (Jm (J (Xf rfl rfl (by omega)) (Jm (Jt rfl rfl (Jf 0 underlying58 rfl sizeOf3 rfl rfl (Jt rfl rfl (J (Qe (v := I 1) isAgg3 rfl (H.get .here) rfl) (Jt rfl rfl (J (Xf rfl rfl (by omega)) (Jp rfl (Ja (Jn (Jc rfl (Js (Jr (Jf 0 underlying58 rfl sizeOf3 rfl rfl (J (Qe (v := I 1) isAgg3 rfl (H.get .here) rfl) (J (Xf rfl rfl (by omega)) (Ja (Jn (Jc rfl (Jk (Js (Js (Jr (Jm (Ji rfl (Jf 5 underlying139 rfl sizeOf3 rfl rfl (J (Qe (v := I 2) isAgg3 rfl (H.Qc hh kYs) rfl) (Jn (Jb (Js (Jr (J (Xf rfl rfl (by omega)) (Ja (Jn (Jc rfl (Js (Jr (J (Yr rfl rfl (by omega)) (Ja (Jn (Jd rfl (Js (Jr (Jm (Jy rfl call98 rfl (Ux (H.Qc hh kYs) (hM.Ql H kYs) hs hi hp (hk.Ql H kYs) (H.Qc hsp kYs) hold) ?_))))))))))))))))))))))))))))))))))))))))))))))))))))))))))); rintro _ w167 ⟨rfl, H1⟩; replace H := Uj H kYs H1 (by intro p hp; simp only [Cs.mB, List.cons_append, List.nil_append, List.mem_cons, List.not_mem_nil, or_false] at hp; rcases hp with rfl | rfl | rfl; exact .inl hlt3; exact .inl hlt; exact .inl hlt2); clear H1)
  (refine Jx rfl rfl (Jx rfl rfl (Qd rfl (Qg (vs := Zk sl a b (.slice da dl dc)) H sizeOf40 rfl rfl (Xq rfl rfl rfl) (.there (.there (.there (.there .here)))) (by simp [Zk, oC, z0])) ?_)); clear H; intro w170 H; replace H : Hp w ((endB C sl).mB ++ [(h, blk [ptr C.κ.k 0, I e, I sl, I n, ptr c 0, I 0, I st, I 17, I a, I b, .slice da dl dc] 139), (sp, blk (sxC (Yy S e st) qv) 170), (c4, blk (Slot.piC p0) 58), (c2, blk (Zk sl a b (.slice da dl dc)) 40)]) w170 := H)
  refine Ja (Jn (Je ?_))
  exact ⟨_, ⟨_, _, rfl, ldA isAgg40 sizeOf40 (H.get (.there (.there (.there (.there .here))))) rfl (by simp [Zk, oC]), rfl⟩, rfl, Hp.cut (L := [_, _, _]) (M := [_, _]) H kYs⟩
theorem pick_want {T st2 : Int} (hh : w.heap[h]? = some (blk [ptr C.κ.k 0, I e, I sl, I n, ptr c 0, I 1, I st, I op, I a, I b, .slice da dl dc] 139)) (hM : CmI w c C) (hs : Snd C) (hi : sl < 8) (hp : C.pD sl = (p0, 1)) (hk : Ks w C.κ e n sp)
  (hsp : w.heap[sp]? = some (blk (sxC S nilS) 170)) (hq : S.q = []) (hB : Bd S T) (hT : T ≤ 1000000) (hn : 0 ≤ C.κ.now ∧ C.κ.now ≤ T) (hst : (enter S e C.κ.now).2.1 = st2) (hst0 : 0 < st2) :
  Ret Tryz.prog 61 #[ptr h 0] w fun v w' => ∃ qv M, v = .tuple #[.agg z0.toArray, .bool false] ∧ (∀ p ∈ M, w.heap.size ≤ p.1) ∧
   Hp w ((h, blk [ptr C.κ.k 0, I e, I sl, I n, ptr c 0, I 2, I st2, I op, I a, I b, .slice da dl dc] 139) :: (M ++ [(sp, blk (sxC (enter S e C.κ.now).1 qv) 170)])) w' := by
 refine Qy (args := [_]) func61 rfl ntmps61 results61 (by simp) ?_
 have H := Hp.refl w
 have hlt := Qr hh
 have hlt2 := Qr hsp
 (refine Js (Jr (Qb rfl (Qp (vs := z0) H zeroValue40 rfl) ?_)); clear H; intro c2 w3 hc2 H)
 (refine Ja (Jn (Js (Jr (Jm (Ji rfl (Jf 4 underlying139 rfl sizeOf93 rfl rfl (Jl isAgg93 rfl (H.Qc hh kYs) rfl (Jz rfl call63 rfl (Look_ret (hM.Ql H kYs) hs) H ?_)))))))); intro w12 H)
 refine Jn (Js ?_)
 (refine Xi (KH w [(c2, blk z0 40)]) (fun _ => false) (by kernel_rfl) H ?_; clear H; intro w15 H)
 refine Am 0 rfl H.kK (Az 1 rfl rfl H.kK (fun _ hC => Qf rfl) (Az 2 rfl rfl H.kK (fun _ hC => Qa (off' := 4) underlying139 rfl sizeOf93 (by decide) rfl rfl) (Az 3 rfl rfl H.kK (fun _ hC => Qe isAgg93 rfl (hC.Qc hh kYs) rfl) (Am 4 rfl H.kK (Az 5 rfl rfl H.kK (fun _ hC => Qf rfl) (Az 6 rfl rfl H.kK (fun _ hC => Qa (off' := 2) underlying139 rfl sizeOf3 (by decide) rfl rfl) (Az 7 rfl rfl H.kK (fun _ hC => Qe isAgg3 rfl (hC.Qc hh kYs) rfl) (Zf (i := 8) (j := 12) (by kernel_rfl) ?_ ?_))))))))
 ·(refine Qv rfl (.inl rfl) (Qw rfl call64 rfl) (Dt (hM.Ql H kYs) hs hi hp) (fun _ _ hR _ => (H.seq0 hR.2).kh (by simp) kYs) ?_; rintro _ w25 ⟨rfl, H1⟩; replace H := H.seq0 H1; clear H1)
  (refine Am 9 rfl H.kK (Az 10 rfl rfl H.kK (fun _ hC => Qs rfl rfl) (Az 11 rfl rfl H.kK (fun _ hC => Qs rfl rfl) (Ao 12 (Xd rfl (.inl rfl) (Slot.Qt H) (fun _ _ _ H _ => H.kh (by simp) kYs) ?_)))); clear H; intro c4 w30 hc4 H)
  (refine Ao 13 (Xb rfl (.inl rfl) (Slot.Qn H rfl rfl .here) (fun _ H _ => H.kh (by simp) kYs) ?_); clear H; intro w32 H)
  (refine Aa 14 rfl H.kK (Ad (Js (Jb (Js (Jr (Jm (J (Xf rfl rfl (by omega)) (Ja (Jn (Jc rfl (Js (Jr (Jm (J (Xf rfl rfl (by omega)) (Jm (Jt rfl rfl (Jf 0 underlying58 rfl sizeOf3 rfl rfl (Jt rfl rfl (J (Qe (v := I 1) isAgg3 rfl (H.get .here) rfl) (Jt rfl rfl (J (Xf rfl rfl (by omega)) (Jp rfl (Ja (Jn (Jc rfl (Js (Jr (Jf 0 underlying58 rfl sizeOf3 rfl rfl (J (Qe (v := I 1) isAgg3 rfl (H.get .here) rfl) (J (Xf rfl rfl (by omega)) (Ja (Jn (Jc rfl (Jk (Js (Js (Jr (Jm (Ji rfl (Jf 5 underlying139 rfl sizeOf3 rfl rfl (J (Qe (v := I 1) isAgg3 rfl (H.Qc hh kYs) rfl) (Jn (Jb (Js (Jr (J (Yr rfl rfl (by omega)) (Ja (Jn (Jd rfl (Jr (Jm (Jy rfl call97 rfl (want_ret (H.Qc hh kYs) (hk.Ql H kYs) (H.Qc hsp kYs) hq hB hT hn hst hst0) ?_)))))))))))))))))))))))))))))))))))))))))))))))))))); rintro _ w85 ⟨qv, M, rfl, hM2, H1⟩; have h9 : ∀ p ∈ M, w.heap.size ≤ p.1 := fun p hp => Nat.le_trans H.size (hM2 p hp); replace H := Uj H kYs H1 (by intro p hp; rcases List.mem_cons.1 hp with rfl | hp; exact .inl hlt; rcases List.mem_append.1 hp with hp | hp; exact .inr (hM2 p hp); rw [List.mem_singleton] at hp; subst hp; exact .inl hlt2); clear H1; replace H : Hp w ((h, blk [ptr C.κ.k 0, I e, I sl, I n, ptr c 0, I 2, I st2, I op, I a, I b, .slice da dl dc] 139) :: (M ++ (sp, blk (sxC (enter S e C.κ.now).1 qv) 170) :: [(c4, blk (Slot.piC p0) 58), (c2, blk z0 40)])) w85 := by simpa using H)
  (refine Jn (Js (Jr (J (Qm (places := [(0, 1), (1, 1), (2, 4), (6, 1), (7, 1), (8, 1), (9, 1), (10, 1), (11, 1)]) (vs := z0) underlying40 typeInfo40 rfl rfl (by kernel_rfl) rfl rfl rfl) (Qd rfl (Qg (vs := z0) H sizeOf40 rfl rfl (Xq rfl rfl rfl) (.there (.app _ (.there (.there .here)))) (by simp [z0, oC])) ?_)))); clear H; intro w90 H; replace H : Hp w ((h, blk [ptr C.κ.k 0, I e, I sl, I n, ptr c 0, I 2, I st2, I op, I a, I b, .slice da dl dc] 139) :: (M ++ (sp, blk (sxC (enter S e C.κ.now).1 qv) 170) :: [(c4, blk (Slot.piC p0) 58), (c2, blk z0 40)])) w90 := H)
  refine Ja (Jn (Je ?_))
  exact ⟨_, ⟨_, _, rfl, ldA isAgg40 sizeOf40 (H.get (.there (.app _ (.there (.there .here))))) rfl (by simp [z0, oC]), rfl⟩, qv, M, rfl, h9, Hp.cut (L := (h, _) :: (M ++ [(sp, _)])) (M := [_, _]) (by simpa using H) kYs⟩
 ·(refine Xd rfl (.inl rfl) (Slot.Qt H) (fun _ _ _ H _ => H.kh (by simp) kYs) ?_; clear H; intro c4 w95 hc4 H)
  (refine Ao 8 (Qv rfl (.inl rfl) (Qw rfl call64 rfl) (Dt (hM.Ql H kYs) hs hi hp) (fun _ _ hR _ => (H.seq0 hR.2).kh (by simp) kYs) ?_); rintro _ w97 ⟨rfl, H1⟩; replace H := H.seq0 H1; clear H1)
  (refine Am 9 rfl H.kK (Az 10 rfl rfl H.kK (fun _ hC => Qs rfl rfl) (Az 11 rfl rfl H.kK (fun _ hC => Qs rfl rfl) (Ao 13 (Xb rfl (.inl rfl) (Slot.Qn H rfl rfl .here) (fun _ H _ => H.kh (by simp) kYs) ?_)))); clear H; intro w102 H)
  (refine Aa 14 rfl H.kK (Ad (Js (Jb (Js (Jr (Jm (J (Xf rfl rfl (by omega)) (Ja (Jn (Jc rfl (Js (Jr (Jm (J (Xf rfl rfl (by omega)) (Jm (Jt rfl rfl (Jf 0 underlying58 rfl sizeOf3 rfl rfl (Jt rfl rfl (J (Qe (v := I 1) isAgg3 rfl (H.get .here) rfl) (Jt rfl rfl (J (Xf rfl rfl (by omega)) (Jp rfl (Ja (Jn (Jc rfl (Js (Jr (Jf 0 underlying58 rfl sizeOf3 rfl rfl (J (Qe (v := I 1) isAgg3 rfl (H.get .here) rfl) (J (Xf rfl rfl (by omega)) (Ja (Jn (Jc rfl (Jk (Js (Js (Jr (Jm (Ji rfl (Jf 5 underlying139 rfl sizeOf3 rfl rfl (J (Qe (v := I 1) isAgg3 rfl (H.Qc hh kYs) rfl) (Jn (Jb (Js (Jr (J (Yr rfl rfl (by omega)) (Ja (Jn (Jd rfl (Jr (Jm (Jy rfl call97 rfl (want_ret (H.Qc hh kYs) (hk.Ql H kYs) (H.Qc hsp kYs) hq hB hT hn hst hst0) ?_)))))))))))))))))))))))))))))))))))))))))))))))))))); rintro _ w155 ⟨qv, M, rfl, hM2, H1⟩; have h9 : ∀ p ∈ M, w.heap.size ≤ p.1 := fun p hp => Nat.le_trans H.size (hM2 p hp); replace H := Uj H kYs H1 (by intro p hp; rcases List.mem_cons.1 hp with rfl | hp; exact .inl hlt; rcases List.mem_append.1 hp with hp | hp; exact .inr (hM2 p hp); rw [List.mem_singleton] at hp; subst hp; exact .inl hlt2); clear H1; replace H : Hp w ((h, blk [ptr C.κ.k 0, I e, I sl, I n, ptr c 0, I 2, I st2, I op, I a, I b, .slice da dl dc] 139) :: (M ++ (sp, blk (sxC (enter S e C.κ.now).1 qv) 170) :: [(c4, blk (Slot.piC p0) 58), (c2, blk z0 40)])) w155 := by simpa using H)
  (refine Jn (Js (Jr (J (Qm (places := [(0, 1), (1, 1), (2, 4), (6, 1), (7, 1), (8, 1), (9, 1), (10, 1), (11, 1)]) (vs := z0) underlying40 typeInfo40 rfl rfl (by kernel_rfl) rfl rfl rfl) (Qd rfl (Qg (vs := z0) H sizeOf40 rfl rfl (Xq rfl rfl rfl) (.there (.app _ (.there (.there .here)))) (by simp [z0, oC])) ?_)))); clear H; intro w160 H; replace H : Hp w ((h, blk [ptr C.κ.k 0, I e, I sl, I n, ptr c 0, I 2, I st2, I op, I a, I b, .slice da dl dc] 139) :: (M ++ (sp, blk (sxC (enter S e C.κ.now).1 qv) 170) :: [(c4, blk (Slot.piC p0) 58), (c2, blk z0 40)])) w160 := H)
  refine Ja (Jn (Je ?_))
  exact ⟨_, ⟨_, _, rfl, ldA isAgg40 sizeOf40 (H.get (.there (.app _ (.there (.there .here))))) rfl (by simp [z0, oC]), rfl⟩, qv, M, rfl, h9, Hp.cut (L := (h, _) :: (M ++ [(sp, _)])) (M := [_, _]) (by simpa using H) kYs⟩
theorem start_ret {ds : List UInt8} {op' a' b' : Int} {D' : Value} {xa : Option Addr} {xl xc : Nat} (hD' : D'.oneCell' = true) (hh : w.heap[h]? = some (blk [ptr C.κ.k 0, I e, I sl, I n, ptr c 0, I 0, I st, I op', I a', I b', D'] 139)) (hM : CmI w c C) (hs : Snd C) (hi : sl < 8) (hp : C.pD sl = (p0, 1))
  (hl : RdS w (.slice xa xl xc) (ds.map U)) (hb : ds.length ≤ 1000000) :
  Ret Tryz.prog 33 #[ptr h 0, .agg #[I op, I a, I b, .slice xa xl xc]] w fun v w' => ∃ u M, v = .bool true ∧ Yo w.heap.size 5 1 u ds.length (ds.map U) M ∧
   Hp w ((h, blk [ptr C.κ.k 0, I e, I sl, I n, ptr c 0, I 1, I st, I op, I a, I b, u] 139) :: M) w' := by
 refine Qi (args := [_, _]) func33 rfl ntmps33 results33 (by simp) ?_
 have H := Hp.refl w
 (refine Js (Jr (Qb rfl (Xl (vs := [I op, I a, I b, .slice xa xl xc]) H rfl rfl) ?_)); clear H; intro c3 w3 hc3 H)
 (refine Ja (Jn (Js (Jr (Jm (Ji rfl (Jf 4 underlying139 rfl sizeOf93 rfl rfl (Jl isAgg93 rfl (H.Qc hh kYs) rfl (Jz rfl call63 rfl (Look_ret (hM.Ql H kYs) hs) H ?_)))))))); intro w12 H)
 refine Jn (Js (Js (Jr (Jm (Ji rfl (Jf 5 underlying139 rfl sizeOf3 rfl rfl (J (Qe (v := I 0) isAgg3 rfl (H.Qc hh kYs) rfl) (J (Yl rfl rfl (by omega)) (Jn (Jc rfl (Jk (Js (Js ?_)))))))))))))
 (refine Xi (KH w [(c3, blk [I op, I a, I b, .slice xa xl xc] 38)]) (fun _ => false) (by kernel_rfl) H ?_; clear H; intro w27 H)
 refine Am 0 rfl H.kK (Az 1 rfl rfl H.kK (fun _ hC => Qf rfl) (Az 2 rfl rfl H.kK (fun _ hC => Qa (off' := 4) underlying139 rfl sizeOf93 (by decide) rfl rfl) (Az 3 rfl rfl H.kK (fun _ hC => Qe isAgg93 rfl (hC.Qc hh kYs) rfl) (Am 4 rfl H.kK (Az 5 rfl rfl H.kK (fun _ hC => Qf rfl) (Az 6 rfl rfl H.kK (fun _ hC => Qa (off' := 2) underlying139 rfl sizeOf3 (by decide) rfl rfl) (Az 7 rfl rfl H.kK (fun _ hC => Qe isAgg3 rfl (hC.Qc hh kYs) rfl) (Zf (i := 8) (j := 12) (by kernel_rfl) ?_ ?_))))))))
 ·(refine Qv rfl (.inl rfl) (Qw rfl call64 rfl) (Dt (hM.Ql H kYs) hs hi hp) (fun _ _ hR _ => (H.seq0 hR.2).kh (by simp) kYs) ?_; rintro _ w37 ⟨rfl, H1⟩; replace H := H.seq0 H1; clear H1)
  (refine Am 9 rfl H.kK (Az 10 rfl rfl H.kK (fun _ hC => Qs rfl rfl) (Az 11 rfl rfl H.kK (fun _ hC => Qs rfl rfl) (Ao 12 (Xd rfl (.inl rfl) (Slot.Qt H) (fun _ _ _ H _ => H.kh (by simp) kYs) ?_)))); clear H; intro c5 w42 hc5 H)
  (refine Ao 13 (Xb rfl (.inl rfl) (Slot.Qn H rfl rfl .here) (fun _ H _ => H.kh (by simp) kYs) ?_); clear H; intro w44 H)
  (refine Aa 14 rfl H.kK (Ad (Js (Jr (Jm (J (Yl rfl rfl (by omega)) (Jm (Jt rfl rfl (Jf 0 underlying58 rfl sizeOf3 rfl rfl (Jt rfl rfl (J (Qe (v := I 1) isAgg3 rfl (H.get .here) rfl) (Jt rfl rfl (J (Xf rfl rfl (by omega)) (Jp rfl (Jn (Jc rfl (Jk (Js (Jr (Jf 3 underlying38 rfl sizeOf36 rfl rfl (J (Qe (v := .slice xa xl xc) isAgg36 rfl (H.get (.there .here)) rfl) (Jy rfl call65 rfl (Codec.Ze (hl.Yd H kYs) hb) ?_))))))))))))))))))))); rintro u w66 ⟨M, hO, H1⟩; have h66 := H.Yn hO H1; clear H H1 hO; obtain ⟨hO, H⟩ := h66; obtain ⟨ua, uc, rfl⟩ := hO.form)
  (refine Jf 3 underlying38 rfl sizeOf36 rfl rfl (Qd rfl (Qz (v := .slice ua ds.length uc) H sizeOf36 rfl rfl rfl (.app _ (.there .here)) (by simp)) ?_); clear H; intro w68 H; replace H : Hp w (M ++ [(c5, blk (Slot.piC p0) 58), (c3, blk [I op, I a, I b, .slice ua ds.length uc] 38)]) w68 := H)
  refine Jn (Js ?_)
  (replace H := H.foc hh kYs; refine Xi (fun w2 => w2.heap[c3]? = some (blk [I op, I a, I b, .slice ua ds.length uc] 38)) (fun _ => false) (by kernel_rfl) H ?_; clear H; intro w71 H)
  (refine Am 0 rfl (H.get (.there (.app _ (.there .here)))) (Am 1 rfl (H.get (.there (.app _ (.there .here)))) (Az 2 rfl rfl (H.get (.there (.app _ (.there .here)))) (fun _ hC => Qo (vs := [I op, I a, I b, .slice ua ds.length uc]) isAgg38 sizeOf38 rfl hC rfl (by simp)) (Az 3 rfl rfl (H.get (.there (.app _ (.there .here)))) (fun _ hC => Qf rfl) (Az 4 rfl rfl (H.get (.there (.app _ (.there .here)))) (fun _ hC => Qa (off' := 5) underlying139 rfl sizeOf3 (by decide) rfl rfl) (Ao 5 (Xb rfl (.inl rfl) (Qz (v := I 1) H sizeOf3 rfl rfl rfl .here (by simp)) (fun _ H _ => H.get (.there (.app _ (.there .here)))) ?_)))))); clear H; intro w78 H; replace H : Hp w ((h, blk [ptr C.κ.k 0, I e, I sl, I n, ptr c 0, I 1, I st, I op', I a', I b', D'] 139) :: (M ++ [(c5, blk (Slot.piC p0) 58), (c3, blk [I op, I a, I b, .slice ua ds.length uc] 38)])) w78 := H)
  (refine Az 6 rfl rfl (H.get (.there (.app _ (.there .here)))) (fun _ hC => Qf rfl) (Az 7 rfl rfl (H.get (.there (.app _ (.there .here)))) (fun _ hC => Qa (off' := 7) underlying139 rfl sizeOf38 (by decide) rfl rfl) (Ao 8 (Xb rfl (.inl rfl) (Qg (vs := [I op, I a, I b, .slice ua ds.length uc]) H sizeOf38 rfl rfl (by simp [Value.oneCell']) .here (by simp)) (fun _ H _ => H.get (.there (.app _ (.there .here)))) ?_))); clear H; intro w82 H; replace H : Hp w ((h, blk [ptr C.κ.k 0, I e, I sl, I n, ptr c 0, I 1, I st, I op, I a, I b, .slice ua ds.length uc] 139) :: (M ++ [(c5, blk (Slot.piC p0) 58), (c3, blk [I op, I a, I b, .slice ua ds.length uc] 38)])) w82 := H)
  refine Ad (Js (Jr (Ja (Jn (Je ?_)))))
  exact ⟨_, rfl, _, M, rfl, hO, Hp.cut (L := (h, _) :: M) (M := [_, _]) H kYs⟩
 ·(refine Xd rfl (.inl rfl) (Slot.Qt H) (fun _ _ _ H _ => H.kh (by simp) kYs) ?_; clear H; intro c5 w90 hc5 H)
  (refine Ao 8 (Qv rfl (.inl rfl) (Qw rfl call64 rfl) (Dt (hM.Ql H kYs) hs hi hp) (fun _ _ hR _ => (H.seq0 hR.2).kh (by simp) kYs) ?_); rintro _ w92 ⟨rfl, H1⟩; replace H := H.seq0 H1; clear H1)
  (refine Am 9 rfl H.kK (Az 10 rfl rfl H.kK (fun _ hC => Qs rfl rfl) (Az 11 rfl rfl H.kK (fun _ hC => Qs rfl rfl) (Ao 13 (Xb rfl (.inl rfl) (Slot.Qn H rfl rfl .here) (fun _ H _ => H.kh (by simp) kYs) ?_)))); clear H; intro w97 H)
  (refine Aa 14 rfl H.kK (Ad (Js (Jr (Jm (J (Yl rfl rfl (by omega)) (Jm (Jt rfl rfl (Jf 0 underlying58 rfl sizeOf3 rfl rfl (Jt rfl rfl (J (Qe (v := I 1) isAgg3 rfl (H.get .here) rfl) (Jt rfl rfl (J (Xf rfl rfl (by omega)) (Jp rfl (Jn (Jc rfl (Jk (Js (Jr (Jf 3 underlying38 rfl sizeOf36 rfl rfl (J (Qe (v := .slice xa xl xc) isAgg36 rfl (H.get (.there .here)) rfl) (Jy rfl call65 rfl (Codec.Ze (hl.Yd H kYs) hb) ?_))))))))))))))))))))); rintro u w119 ⟨M, hO, H1⟩; have h119 := H.Yn hO H1; clear H H1 hO; obtain ⟨hO, H⟩ := h119; obtain ⟨ua, uc, rfl⟩ := hO.form)
  (refine Jf 3 underlying38 rfl sizeOf36 rfl rfl (Qd rfl (Qz (v := .slice ua ds.length uc) H sizeOf36 rfl rfl rfl (.app _ (.there .here)) (by simp)) ?_); clear H; intro w121 H; replace H : Hp w (M ++ [(c5, blk (Slot.piC p0) 58), (c3, blk [I op, I a, I b, .slice ua ds.length uc] 38)]) w121 := H)
  refine Jn (Js ?_)
  (replace H := H.foc hh kYs; refine Xi (fun w2 => w2.heap[c3]? = some (blk [I op, I a, I b, .slice ua ds.length uc] 38)) (fun _ => false) (by kernel_rfl) H ?_; clear H; intro w124 H)
  (refine Am 0 rfl (H.get (.there (.app _ (.there .here)))) (Am 1 rfl (H.get (.there (.app _ (.there .here)))) (Az 2 rfl rfl (H.get (.there (.app _ (.there .here)))) (fun _ hC => Qo (vs := [I op, I a, I b, .slice ua ds.length uc]) isAgg38 sizeOf38 rfl hC rfl (by simp)) (Az 3 rfl rfl (H.get (.there (.app _ (.there .here)))) (fun _ hC => Qf rfl) (Az 4 rfl rfl (H.get (.there (.app _ (.there .here)))) (fun _ hC => Qa (off' := 5) underlying139 rfl sizeOf3 (by decide) rfl rfl) (Ao 5 (Xb rfl (.inl rfl) (Qz (v := I 1) H sizeOf3 rfl rfl rfl .here (by simp)) (fun _ H _ => H.get (.there (.app _ (.there .here)))) ?_)))))); clear H; intro w131 H; replace H : Hp w ((h, blk [ptr C.κ.k 0, I e, I sl, I n, ptr c 0, I 1, I st, I op', I a', I b', D'] 139) :: (M ++ [(c5, blk (Slot.piC p0) 58), (c3, blk [I op, I a, I b, .slice ua ds.length uc] 38)])) w131 := H)
  (refine Az 6 rfl rfl (H.get (.there (.app _ (.there .here)))) (fun _ hC => Qf rfl) (Az 7 rfl rfl (H.get (.there (.app _ (.there .here)))) (fun _ hC => Qa (off' := 7) underlying139 rfl sizeOf38 (by decide) rfl rfl) (Ao 8 (Xb rfl (.inl rfl) (Qg (vs := [I op, I a, I b, .slice ua ds.length uc]) H sizeOf38 rfl rfl (by simp [Value.oneCell']) .here (by simp)) (fun _ H _ => H.get (.there (.app _ (.there .here)))) ?_))); clear H; intro w135 H; replace H : Hp w ((h, blk [ptr C.κ.k 0, I e, I sl, I n, ptr c 0, I 1, I st, I op, I a, I b, .slice ua ds.length uc] 139) :: (M ++ [(c5, blk (Slot.piC p0) 58), (c3, blk [I op, I a, I b, .slice ua ds.length uc] 38)])) w135 := H)
  refine Ad (Js (Jr (Ja (Jn (Je ?_)))))
  exact ⟨_, rfl, _, M, rfl, hO, Hp.cut (L := (h, _) :: M) (M := [_, _]) H kYs⟩
end
end Go.Proofs.YtlpmfldijgdcoaaGreatDoor.Ho
namespace Go.Proofs.YtlpmfldijgdcoaaGreatDoor.Ho
open Go Go.Proofs Fx Kn Cm TabC Caps Tryz
section
variable {w : World} {s : Nat} {PB : List (Nat × Nat)} {ts : List (List Pl)}
theorem spnames_yes {j : Nat} {q : Nat × Nat} {t : List Pl} (hS : Sp w s PB ts) (hq : PB[j]? = some q) (ht : ts[j]? = some t) :
  Ret Tryz.prog 84 #[ptr s 0, I j] w fun v w' => ∃ M, Yo w.heap.size 3 1 v (Zi 0 t).length ((Zi 0 t).map I) M ∧ Hp w M w' := by
 obtain ⟨bs, cap, sp, hs, hbs⟩ := hS.ex
 have htp := hS.tp j q hq
 have htb := hS.tb j q t hq ht
 have hj := (List.getElem?_eq_some_iff.1 hq).1
 have hsz := hS.inv.sz t (List.mem_of_getElem? ht)
 have hgn := hS.inv.gn t (List.mem_of_getElem? ht)
 refine Qi (args := [_, _]) func84 rfl ntmps84 results84 (by simp) ?_
 have H := Hp.refl w
 (refine Js (Jr (Ja (Jn (Js (Js (Jr (Jm (Jm (Jy rfl call81 rfl (is_ret (hS.Yd H kYs) _) ?_))))))))); rintro _ w10 ⟨rfl, H1⟩; rw [decide_eq_true (show 0 ≤ (j : Int) ∧ (j : Int) < PB.length by omega)]; replace H := H.seq0 H1; clear H1)
 (refine J (Xj rfl) (Jn (Jc rfl (Jk (Js (Jr (Jm (Ji rfl (Jf 0 underlying164 rfl sizeOf162 rfl rfl (J (Qe (v := sl bs 0 PB.length cap) isAgg162 rfl (H.Qc hs kYs) rfl) (Jm (J (Qj underlying162 sizeOf165 rfl rfl (by omega) (by omega) Bz) (J (Qe (v := ptr q.1 0) isAgg165 rfl (H.Qc hbs kYs) (ptrs_get hq)) (Jy rfl call121 rfl (TabC.names_ret (H.Qc htp kYs) (H.Qc htb kYs) hsz (by decide) hgn) ?_))))))))))))); rintro u w24 ⟨M, hO, H1⟩; have h24 := H.Yn hO H1; clear H H1 hO; obtain ⟨hO, H⟩ := h24; rw [List.append_nil] at H)
 refine Ja (Jn (Je ?_))
 exact ⟨_, rfl, M, hO, H⟩
end
section
variable {w : World} {κ : KS} {e n sp : Nat} {q : Nat × Nat} {t : List Pl} {nms : List Int}
theorem Space_ret (hK : Kr w κ) : Ret Tryz.prog 83 #[ptr κ.k 0] w fun v w' => v = ptr κ.s 0 ∧ Hp w [] w' := by
 refine Qi (args := [_]) func83 rfl ntmps83 results83 (by simp) ?_
 have H := Hp.refl w
 have hk := hK.hk
 unfold KS.kb at hk
 refine Js (Jr (Ja (Jn (Js (Jr (Jm (Ji rfl (Jf 3 underlying113 rfl sizeOf107 rfl rfl (Jl isAgg107 rfl (H.block hk (by simp)) rfl (Ja (Jn (Je ?_))))))))))))
 exact ⟨_, rfl, rfl, H⟩
theorem cnew_ret (hK : Kr w κ) (hq : κ.PB[e]? = some q) (ht : κ.ts[e]? = some t) (hn : Zi 0 t = nms) (h0 : nms ≠ []) :
  Ret Tryz.prog 53 #[ptr κ.k 0, I e] w fun v w' => ∃ c u mp M, v = .tuple #[ptr c 0, I 0] ∧ w.heap.size ≤ c ∧ w.heap.size ≤ mp ∧ Yo w.heap.size 3 1 u nms.length (nms.map I) M ∧
   Hp w ((c, blk [ptr κ.k 0, I e, u, .map (some mp)] 177) :: (mp, .map #[] 0) :: M) w' := by
 refine Qi (args := [_, _]) func53 rfl ntmps53 results53 (by simp) ?_
 have H := Hp.refl w
 have hlen : nms.length ≠ 0 := fun h => h0 (List.length_eq_zero_iff.1 h)
 have hnames : ∀ {w1 : World}, Kr w1 κ → Ret Tryz.prog 84 #[ptr κ.s 0, I e] w1 fun v w' => ∃ M, Yo w1.heap.size 3 1 v nms.length (nms.map I) M ∧ Hp w1 M w' := by
  intro w1 h1
  have := spnames_yes h1.hS hq ht
  rw [hn] at this
  exact this
 (refine Js (Jr (Ja (Ja (Jn (Js (Js (Jr (Jm (J (Vx underlying71 rfl rfl) (Jm (Jt rfl rfl (Jm (Jt rfl rfl (Jz rfl call83 rfl (Space_ret (hK.Ql H kYs)) H ?_)))))))))))))); intro w15 H)
 (refine Jt rfl rfl (Jm (Jt rfl rfl (Jy rfl call84 rfl (hnames (hK.Ql H kYs)) ?_))); rintro u w19 ⟨M, hO, H1⟩; have h19 := H.Yn hO H1; clear H H1 hO; obtain ⟨hO, H⟩ := h19; obtain ⟨ua, uc, rfl⟩ := hO.form)
 (refine Jt rfl rfl (J (Qh underlying22 rfl) (Jt rfl rfl (J (Xf rfl rfl (by omega)) (Jp rfl (Jn (Jc rfl (Jk (Js (Jr (Jm (Jm (Jm (Jz rfl call83 rfl (Space_ret (hK.Ql H kYs)) H ?_))))))))))))); intro w33 H)
 (refine Jm (Jy rfl call84 rfl (hnames (hK.Ql H kYs)) ?_); rintro u w35 ⟨M, hO, H1⟩; have h35 := H.Yn hO H1; clear H H1 hO; obtain ⟨hO, H⟩ := h35; obtain ⟨ua, uc, rfl⟩ := hO.form)
 (refine Qb rfl (Mr.E_makeMap H) ?_; clear H; intro mp w36 hmp H)
 (refine J (Qm (places := [(0, 1), (1, 1), (2, 1), (3, 1)]) (vs := [ptr κ.k 0, I e, .slice ua nms.length uc, .map (some mp)]) underlying177 typeInfo177 rfl rfl (by kernel_rfl) rfl rfl rfl) (Qb rfl (Xl (vs := [ptr κ.k 0, I e, .slice ua nms.length uc, .map (some mp)]) H rfl rfl) ?_); clear H; intro c w38 hc H)
 refine Ja (Ja (Jn (Je ?_)))
 exact ⟨_, rfl, c, _, mp, M, rfl, hc, hmp, hO, Hp.cut (L := (c, _) :: (mp, _) :: M) (M := _) (by simpa using H) kYs⟩
theorem hnew_ret {sl : Nat} (hs : Ks w κ e n sp) (hK : Kr w κ) (hq : κ.PB[e]? = some q) (ht : κ.ts[e]? = some t) (hn : Zi 0 t = nms) (h0 : nms ≠ []) (h8 : sl < 8) :
  Ret Tryz.prog 27 #[ptr κ.k 0, I e, I sl, I n] w fun v w' => ∃ h c u mp M, v = .tuple #[ptr h 0, I 0] ∧ w.heap.size ≤ h ∧ w.heap.size ≤ c ∧ w.heap.size ≤ mp ∧ Yo w.heap.size 3 1 u nms.length (nms.map I) M ∧
   Hp w ((h, blk [ptr κ.k 0, I e, I sl, I n, ptr c 0, I 0, I 0, I 0, I 0, I 0, nilS] 139) :: (c, blk [ptr κ.k 0, I e, u, .map (some mp)] 177) :: (mp, .map #[] 0) :: M) w' := by
 refine Qi (args := [_, _, _, _]) func27 rfl ntmps27 results27 (by simp) ?_
 have H := Hp.refl w
 (refine Js (Jr (Ja (Ja (Jn (Js (Jr (Jm (Jm (Jy rfl call53 rfl (cnew_ret hK hq ht hn h0) ?_))))))))); rintro _ w10 ⟨c, u, mp, M, rfl, hc, hmp, hO, H1⟩; clear H; have H := H1; clear H1)
 (refine Jm (Jx rfl rfl (Jx rfl rfl (Ja (Ja (Jn (Js (Jb (Js (Jr (Jm (J (Yl rfl rfl (by omega)) (Ja (Jn (Jc rfl (Js (Jr (Jm (J (Xp rfl rfl (by omega)) (Jm (Jt rfl rfl (Jm (Jt rfl rfl (J (Zn rfl rfl (by omega)) (Jp rfl (Ja (Jn (Jc rfl (Js (Jr (Jm (Jm (Jz rfl call59 rfl (Sect_ret (hs.Ql H kYs)) H ?_)))))))))))))))))))))))))))))))); intro w43 H)
 (refine J (Vx underlying115 rfl rfl) (Ja (Jn (Jc rfl (Jk (Js (Jr (Jm (Jm (Jm (Jm (Jm (J (Qm (places := [(0, 1), (1, 1), (2, 1), (3, 1), (4, 1), (5, 1), (6, 1), (7, 4)]) (vs := [ptr κ.k 0, I e, I sl, I n, ptr c 0, I 0, I 0, I 0, I 0, I 0, nilS]) underlying139 typeInfo139 rfl rfl (by kernel_rfl) rfl rfl rfl) (Qb rfl (Xl (vs := [ptr κ.k 0, I e, I sl, I n, ptr c 0, I 0, I 0, I 0, I 0, I 0, nilS]) H rfl rfl) ?_))))))))))))); clear H; intro h w57 hh H)
 refine Ja (Ja (Jn (Je ?_)))
 exact ⟨_, rfl, h, c, u, mp, M, rfl, hh, hc, hmp, hO, H⟩
end
end Go.Proofs.YtlpmfldijgdcoaaGreatDoor.Ho
namespace Go.Proofs.YtlpmfldijgdcoaaGreatDoor.Ring
open Go Go.Proofs Fx Codec Tryz
def setD (p : Pi) (i : Nat) (x : UInt8) : Pi := { p with d := p.d.set i x, hd := by rw [List.length_set]; exact p.hd }
theorem set_pi (p : Pi) (i : Nat) (x : UInt8) : (piC p).set (4 + i) (U x) = piC (setD p i x) := by
 unfold piC setD
 rw [List.set_append_right _ _ (by simp)]
 simp only [List.length_cons, List.length_nil, Nat.zero_add]
 rw [show 4 + i - 4 = i from by omega, List.map_set]
/-- the pipe of bytes, so many of its data in -/
def ofI (xs : List UInt8) (i : Nat) : Pi := { ofB xs with d := data32 ((xs.drop 8).take i), hd := data32_len _ }
/-- a pipe made of numbers -/
def pipeN (a : Int) (b : List UInt8) : Pi := ⟨a % 16777216 % 32, a % 16777216 / 32 % 64 % 33, a % 16777216 / 2048 % 16 % 9, a % 16777216 / 32768 % 16 % 9, data32 b, data32_len b⟩
theorem zip_rep {k : IntKind} : ∀ (n : Nat) (l : List Int), l.length = n → List.zipWith Value.int (List.replicate n k) l = l.map (Value.int k)
 | 0, [], _ => rfl
 | n + 1, a :: l, h => by rw [List.replicate_succ, List.zipWith_cons_cons, List.map_cons, zip_rep n l (by simpa using h)]
def piK : List IntKind := [.i64] ++ ([.i64] ++ ([.i64] ++ ([.i64] ++ (List.replicate 32 .u8 ++ []))))
def piN (p : Pi) : List Int := [p.h, p.c, p.r, p.w] ++ p.d.map fun x => (x.toNat : Int)
theorem piN_inj {p q : Pi} : piN p = piN q ↔ p = q := by
 refine ⟨fun h => ?_, fun h => by rw [h]⟩
 unfold piN at h
 have h2 := List.append_inj h rfl
 have h3 := h2.1
 simp only [List.cons.injEq, and_true] at h3
 refine pi_ext h3.1 h3.2.1 h3.2.2.1 h3.2.2.2 ?_
 have h4 := h2.2
 refine List.map_inj_right (f := fun x : UInt8 => (x.toNat : Int)) (fun x y he => ?_) |>.1 h4
 exact UInt8.toNat_inj.1 (Int.ofNat_inj.1 he)
instance : DecidableEq Pi := fun _ _ => decidable_of_iff _ piN_inj
section
variable {E : Env} {w : World} {d : Option Nat} {ty : TypeId} {pos : String} {after : Array Edge} {t' : TypeId} {x y : Operand} {f g : Pi}
end
end Go.Proofs.YtlpmfldijgdcoaaGreatDoor.Ring
namespace Go.Proofs.YtlpmfldijgdcoaaGreatDoor.Ring
open Go Go.Proofs Fx Codec Tryz
/-- the byte so many places behind the head -/
def at_ (p : Pi) (i : Nat) : UInt8 := p.d[(p.h.toNat + i) % 32]?.getD 0
/-- the first bytes of what there is -/
def firstQ (p : Pi) (n : Nat) : List UInt8 := (List.range n).map (at_ p)
/-- all of them -/
def queue (p : Pi) : List UInt8 := if okP p then firstQ p p.c.toNat else []
/-- one byte more -/
def put1 (p : Pi) (x : UInt8) : Pi := { p with d := p.d.set ((p.h.toNat + p.c.toNat) % 32) x, hd := by rw [List.length_set]; exact p.hd, c := p.c + 1 }
/-- bytes put in, as many as they are -/
def putN (p : Pi) : List UInt8 → Pi
 | [] => p
 | x :: l => putN (put1 p x) l
theorem putN_h : ∀ (l : List UInt8) (p : Pi), (putN p l).h = p.h ∧ (putN p l).c = p.c + l.length ∧ (putN p l).r = p.r ∧ (putN p l).w = p.w
 | [], p => ⟨rfl, by simp [putN], rfl, rfl⟩
 | x :: l, p => by
  obtain ⟨h1, h2, h3, h4⟩ := putN_h l (put1 p x)
  refine ⟨h1, ?_, h3, h4⟩
  show (putN (put1 p x) l).c = _
  rw [h2, List.length_cons]
  show p.c + 1 + (l.length : Int) = p.c + ((l.length + 1 : Nat) : Int)
  omega
theorem putN_append : ∀ (l m : List UInt8) (p : Pi), putN p (l ++ m) = putN (putN p l) m
 | [], _, _ => rfl
 | x :: l, m, p => putN_append l m (put1 p x)
theorem putN_snoc (p : Pi) (l : List UInt8) (x : UInt8) : putN p (l ++ [x]) = put1 (putN p l) x := putN_append l [x] p
/-- bytes put in, as there is room; how many -/
def putP (p : Pi) (l : List UInt8) : Pi × Nat := if okP p then (putN p (l.take (32 - p.c.toNat)), min l.length (32 - p.c.toNat)) else (p, 0)
/-- how many are taken -/
def takes (p : Pi) (n : Int) : Nat := (min (max n 0) p.c).toNat
/-- bytes taken out -/
def takeP (p : Pi) (n : Int) : Pi × List UInt8 := if okP p then ({ p with h := (p.h + takes p n) % 32, c := p.c - takes p n }, firstQ p (takes p n)) else (p, [])
end Go.Proofs.YtlpmfldijgdcoaaGreatDoor.Ring
