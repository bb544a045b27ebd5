/-
The world that begins, and one call that returns. The closure that the program makes of a plan. The closure that the document makes of a plan. The closure that the document makes of a plan, walked. What a closure reaches; one more member. Who is reached: one that was, or one that a bridge joins with one that is. TopReached, up to what awake does. TopReached, walked up to what awake does. The tops' awake is true; TopReached. The law TopFamilies, walked. The law TopFamilies, walked.
-/
import Derived.Test.YtlpmfldijgdcoaaGreatDoorK9
set_option maxRecDepth 100000
set_option maxHeartbeats 16000000
namespace Go.Proofs.YtlpmfldijgdcoaaGreatDoor.Wo
open Go Go.Proofs Fx Kn Ke Cm Ho Tryz
section
variable {w : World} {C : Cs} {wd h c sp : Nat}
variable {S : Sect.Sx} {qv : Value} {st : Int} {da : Option Addr} {dc : Nat}
theorem do_want {T st2 : Int} (hd : Wd w C wd h c sp) (hh : w.heap[h]? = some (blk [ptr C.κ.k 0, I 0, I 0, I 0, ptr c 0, I 1, I st, I 17, I 0, I 0, .slice da 0 dc] 139)) (hs : Snd C) (hp : C.pD 0 = (p0, 1))
  (hsp : w.heap[sp]? = some (blk (Sect.sxC S nilS) 170)) (hq : S.q = []) (hB : Sect.Bd S T) (hT : T ≤ 1000000) (hn : 0 ≤ C.κ.now ∧ C.κ.now ≤ T) (hst : (Sect.enter S (0 : Nat) C.κ.now).2.1 = st2) (hst0 : 0 < st2) :
  Ret Tryz.prog 15 #[ptr wd 0, .agg (stC 2 0).toArray] w fun v w' => ∃ qv M, v = .tuple #[.agg z0.toArray, .bool false] ∧ (∀ p ∈ M, w.heap.size ≤ p.1) ∧
   Hp w ((h, blk [ptr C.κ.k 0, I 0, I 0, I 0, ptr c 0, I 2, I st2, I 17, I 0, I 0, .slice da 0 dc] 139) :: (M ++ [(sp, blk (Sect.sxC (Sect.enter S (0 : Nat) C.κ.now).1 qv) 170)])) w' := by
 refine Qy (args := [_, _]) func15 rfl ntmps15 results15 (by simp) ?_
 have H := Hp.refl w
 have hlt := Qr hh
 have hlt2 := Qr hsp
 (refine Js (Jr (Qb rfl (Xl (vs := stC 2 0) H rfl rfl) ?_)); clear H; intro c3 w3 hc3 H)
 (refine Qb rfl (Qp (vs := z0) H zeroValue40 rfl) ?_; clear H; intro c4 w4 hc4 H)
 (refine Ja (Jn (Js (Jr (Jm (Jf 1 underlying46 rfl sizeOf3 rfl rfl (J (Qe (v := I 0) isAgg3 rfl (H.get (.there .here)) rfl) (Jf 2 underlying46 rfl sizeOf3 rfl rfl (J (Qe (v := I 0) isAgg3 rfl (H.get (.there .here)) rfl) (Jz rfl call30 rfl (Host_ret (hd.keep H (Out.ofN kYs))) H ?_))))))))); intro w14 H)
 (refine Ja (Jn (Js (Js (Jr (Jf 0 underlying46 rfl sizeOf3 rfl rfl (J (Qe (v := I 2) isAgg3 rfl (H.get (.there .here)) rfl) (Jn (Jb (Js (Jr (J (Yr rfl rfl (by omega)) (Ja (Jn (Jd rfl (Js (Jr (Jm (J (Qo (vs := stC 2 0) isAgg46 sizeOf46 rfl (H.get (.there .here)) rfl (by simp [stC])) (Jy rfl call31 rfl (wpick_want (hd.keep H (Out.ofN kYs)) (H.Qc hh kYs) hs hp (H.Qc hsp kYs) hq hB hT hn hst hst0) ?_))))))))))))))))))); rintro _ w34 ⟨qv, M, rfl, hM2, H1⟩; have hM : ∀ p ∈ M, w.heap.size ≤ p.1 := (fun p hp => Nat.le_trans H.size (hM2 p hp)); have H9 := Uj H kYs H1 (by intro p hp; rcases List.mem_cons.1 hp with rfl | hp; exact .inl hlt; rcases List.mem_append.1 hp with hp | hp; exact .inr (hM2 p hp); rw [List.mem_singleton] at hp; subst hp; exact .inl hlt2); clear H H1; have H : Hp w ((h, blk [ptr C.κ.k 0, I 0, I 0, I 0, ptr c 0, I 2, I st2, I 17, I 0, I 0, .slice da 0 dc] 139) :: (M ++ (sp, blk (Sect.sxC (Sect.enter S (0 : Nat) C.κ.now).1 qv) 170) :: [(c4, blk z0 40), (c3, blk (stC 2 0) 46)])) w34 := (by simpa using H9); clear H9)
 (refine Jx rfl rfl (Jx rfl rfl (Qd rfl (Qg (vs := z0) H sizeOf40 rfl rfl (Xq rfl rfl rfl) (.there (.app _ (.there .here))) (by simp [z0, oC])) ?_)); clear H; intro w37 H; replace H : Hp w ((h, blk [ptr C.κ.k 0, I 0, I 0, I 0, ptr c 0, I 2, I st2, I 17, I 0, I 0, .slice da 0 dc] 139) :: (M ++ (sp, blk (Sect.sxC (Sect.enter S (0 : Nat) C.κ.now).1 qv) 170) :: [(c4, blk z0 40), (c3, blk (stC 2 0) 46)])) w37 := H)
 refine Ja (Jn (Je ?_))
 exact ⟨_, ⟨_, _, rfl, ldA isAgg40 sizeOf40 (H.get (.there (.app _ (.there .here)))) rfl (by simp [z0, oC]), rfl⟩, qv, M, rfl, hM, Hp.cut (L := (h, _) :: (M ++ [(sp, _)])) (M := [_, _]) (by simpa using H) kYs⟩
theorem do_in (hd : Wd w C wd h c sp) (hh : w.heap[h]? = some (blk [ptr C.κ.k 0, I 0, I 0, I 0, ptr c 0, I 2, I st, I 17, I 0, I 0, .slice da 0 dc] 139)) (hs : Snd C) (hp : C.pD 0 = (p0, 1))
  (hsp : w.heap[sp]? = some (blk (Sect.sxC S qv) 170)) (hold : S.held = true ∧ S.who = (0 : Nat) ∧ S.stamp = st) :
  Ret Tryz.prog 15 #[ptr wd 0, .agg (stC 2 0).toArray] w fun v w' => v = .tuple #[.agg (Zk 0 0 0 (.slice da 0 dc)).toArray, .bool true] ∧
   Hp w ((endB C 0).mB ++ [(h, blk [ptr C.κ.k 0, I 0, I 0, I 0, ptr c 0, I 0, I st, I 17, I 0, I 0, .slice da 0 dc] 139), (sp, blk (Sect.sxC (Sect.Yy S (0 : Nat) st) qv) 170)]) w' := by
 refine Qy (args := [_, _]) func15 rfl ntmps15 results15 (by simp) ?_
 have H := Hp.refl w
 have hlt := Qr hh
 have hlt2 := Qr hsp
 have hlt3 := Qr hd.cm.hK.hb
 (refine Js (Jr (Qb rfl (Xl (vs := stC 2 0) H rfl rfl) ?_)); clear H; intro c3 w3 hc3 H)
 (refine Qb rfl (Qp (vs := z0) H zeroValue40 rfl) ?_; clear H; intro c4 w4 hc4 H)
 (refine Ja (Jn (Js (Jr (Jm (Jf 1 underlying46 rfl sizeOf3 rfl rfl (J (Qe (v := I 0) isAgg3 rfl (H.get (.there .here)) rfl) (Jf 2 underlying46 rfl sizeOf3 rfl rfl (J (Qe (v := I 0) isAgg3 rfl (H.get (.there .here)) rfl) (Jz rfl call30 rfl (Host_ret (hd.keep H (Out.ofN kYs))) H ?_))))))))); intro w14 H)
 (refine Ja (Jn (Js (Js (Jr (Jf 0 underlying46 rfl sizeOf3 rfl rfl (J (Qe (v := I 2) isAgg3 rfl (H.get (.there .here)) rfl) (Jn (Jb (Js (Jr (J (Yr rfl rfl (by omega)) (Ja (Jn (Jd rfl (Js (Jr (Jm (J (Qo (vs := stC 2 0) isAgg46 sizeOf46 rfl (H.get (.there .here)) rfl (by simp [stC])) (Jy rfl call31 rfl (wpick_in (hd.keep H (Out.ofN kYs)) (H.Qc hh kYs) hs hp (H.Qc hsp kYs) hold) ?_))))))))))))))))))); rintro _ w34 ⟨rfl, H1⟩; have H9 := Uj H kYs H1 (by intro p hp; simp only [Cs.mB, List.cons_append, List.nil_append, List.mem_cons, List.not_mem_nil, or_false] at hp; rcases hp with rfl | rfl | rfl; exact .inl hlt3; exact .inl hlt; exact .inl hlt2); clear H H1; have H := H9; clear H9)
 (refine Jx rfl rfl (Jx rfl rfl (Qd rfl (Qg (vs := Zk 0 0 0 (.slice da 0 dc)) H sizeOf40 rfl rfl (Xq rfl rfl rfl) (.there (.there (.there .here))) (by simp [Zk, z0, oC])) ?_)); clear H; intro w37 H)
 refine Ja (Jn (Je ?_))
 exact ⟨_, ⟨_, _, rfl, ldA isAgg40 sizeOf40 (H.get (.there (.there (.there .here)))) rfl (by simp [Zk, oC]), rfl⟩, rfl, Hp.cut (L := [_, _, _]) (M := [_, _]) H kYs⟩
end
theorem bd3 : Sect.Bd (Sect.Bh 3) 0 := ⟨by decide, by decide, by decide, by decide, by decide, by decide, by decide, by decide, by decide, by decide⟩
theorem en_st {n : Int} (h : n = 0) : (Sect.enter (Sect.Bh 3) (0 : Nat) n).2.1 = 1 := by rw [h]; decide
theorem en_hold {n : Int} (h : n = 0) : (Sect.enter (Sect.Bh 3) (0 : Nat) n).1.held = true ∧ (Sect.enter (Sect.Bh 3) (0 : Nat) n).1.who = (0 : Nat) ∧ (Sect.enter (Sect.Bh 3) (0 : Nat) n).1.stamp = 1 := by rw [h]; decide
/-- the script -/
def scr : List Value := stC 1 17 ++ (stC 2 0 ++ stC 2 0)
section
variable {w : World} {pa : Option Addr} {pc sb : Nat}
theorem run_ret {bt : Bool} (hp : P1 w bt pa pc) (hsb : w.heap[sb]? = some (blk scr 46)) :
  Ret Tryz.prog 11 #[.agg #[.slice pa 1 pc, nilS, I 3], sl sb 0 3 3] w fun v w' => ∃ ob oc ol da dc, v = .tuple #[sl ob 0 1 oc, I 0] ∧ w.heap.size ≤ ob ∧ Hp w [(ob, blk (Zk 0 0 0 (.slice da 0 dc) ++ ol) 40)] w' := by
 refine Qi (args := [_, _]) func11 rfl ntmps11 results11 (by simp) ?_
 have H := Hp.refl w
 (refine Js (Jr (Qb rfl (Xl (vs := [.slice pa 1 pc, nilS, I 3]) H rfl rfl) ?_)); clear H; intro c2 w3 hc2 H)
 (refine Ja (Ja (Jn (Js (Jr (J (Qo (vs := [.slice pa 1 pc, nilS, I 3]) isAgg27 sizeOf27 rfl (H.get .here) rfl (by simp)) (Jy rfl call13 rfl (wnew_ret (hp.Ql H kYs)) ?_)))))); rintro _ w9 ⟨κ, ua, uc, mp, wd, h, c, sp, rfl, hWd0, hnow, hh0, hsb0, e1, e2, e3, H1⟩; have hz := H.size; replace e1 := Nat.le_trans hz e1; replace e2 := Nat.le_trans hz e2; replace e3 := Nat.le_trans hz e3; have Hw0 := Zr (H.none kYs) H1 (fun _ h => nomatch h); have hst0 := Hw0.Qc hsb Xu; have hSn := snd0 κ 0 ua uc mp; have hPd := pD0 κ 0 ua uc mp; clear H H1 hz; have H := Hp.refl w9)
 refine Jm (Jx rfl rfl (Jx rfl rfl (Ja (Ja (Jn (Js (Js (Jr (Jm (J (Yl rfl rfl (by omega)) (Jn (Jc rfl (Jk (Js (Jr (Ja (Jn (Js (Js (Jr (Jm (J (Qh underlying23 rfl) (Jm (Jn (Jb (Vs 3 ?_))))))))))))))))))))))))))
 (refine Js (Jr (J (Za rfl rfl (by omega)) (Jn (Js (Jd rfl (Jk (Js (Jb (Js (Jr (J (Qj (off' := 0) underlying23 sizeOf46 rfl rfl (by decide) (by decide) (by decide)) (J (Qo (vs := stC 1 17) isAgg46 sizeOf46 rfl (H.Qc hst0 kYs) rfl (by decide)) (Qb rfl (Qp (vs := stC 0 0) H zeroValue46 rfl) ?_))))))))))))); clear H; intro c10 w51 hc10 H)
 (have _g := hh0; refine Qd rfl (Qg (vs := stC 1 17) H sizeOf46 rfl rfl (by simp [stC, Value.oneCell']) .here (by decide)) ?_; clear H; intro w52 H; replace H : Hp w9 [(c10, blk (stC 1 17) 46)] w52 := H)
 refine Jn (Js (Jr (Jm (J (Qo (vs := stC 1 17) isAgg46 sizeOf46 rfl (H.get .here) rfl (by decide)) ?_))))
 (have hWd1 := hWd0.keep H (Out.ofN kYs); have hn1 := H.size; have Hx := Zr Hw0 H (by intro p hp; rw [List.mem_singleton] at hp; subst hp; exact Nat.le_trans Hw0.size hc10); have hhx := H.Qc hh0 kYs; have hsx := H.Qc hsb0 kYs; have hstx := H.Qc hst0 kYs; refine Vl rfl (Qw rfl call15 rfl) (do_call hWd1 hhx hSn hPd) ?_; rintro _ w10 ⟨xa, xc, M, rfl, hM, H1⟩; have hWd2 := hWd1.keep H1 (Out.cons hhx (by simp [wT, cT, kT, elT]) (Out.ofN hM)); have hh1 := H1.get .here; have hsb1 := H1.Xw (T := [170]) hsx (by simp [elT]) (Out.cons hhx (by simp [elT]) (Out.ofN hM)); have hst1 := H1.Xw (T := [46]) hstx (by simp [elT]) (Out.cons hhx (by simp [elT]) (Out.ofN hM)); have Hw1 := Zr Hx H1 (Qu e1 (fun p hp => Nat.le_trans Hx.size (hM p hp))); clear H H1 hh0 hsb0 hst0 hWd0 hWd1 Hx Hw0 hhx hsx hstx; have H := Hp.refl w10)
 (refine Jm (Jx rfl rfl (Jx rfl rfl (Qb rfl (Qp (vs := z0) H zeroValue40 rfl) ?_))); clear H; intro c11 w62 hc11 H)
 (refine Qd rfl (Qg (vs := z0) H sizeOf40 rfl rfl (Xq rfl rfl rfl) .here (by decide)) ?_; clear H; intro w63 H; replace H : Hp _ [(c11, blk z0 40)] w63 := H)
 refine Ja (Jn (Js (Jr (Jm (Jn (Jc rfl (Jk (Jr (J (Xg (r := 1) rfl rfl (by decide)) (Jm (Jn ?_)))))))))))
 refine Bp ?_
 (refine Js (Jr (J (Za rfl rfl (by omega)) (Jn (Js (Jd rfl (Jk (Js (Jb (Js (Jr (J (Qj (off' := 16) underlying23 sizeOf46 rfl rfl (by decide) (by decide) (by decide)) (J (Qo (vs := stC 2 0) isAgg46 sizeOf46 rfl (H.Qc hst1 kYs) rfl (by decide)) (Qb rfl (Qp (vs := stC 0 0) H zeroValue46 rfl) ?_))))))))))))); clear H; intro c10 w90 hc10 H)
 (have _g := hst1; refine Qd rfl (Qg (vs := stC 2 0) H sizeOf46 rfl rfl (by simp [stC, Value.oneCell']) .here (by decide)) ?_; clear H; intro w91 H; replace H : Hp w10 [(c10, blk (stC 2 0) 46), (c11, blk z0 40)] w91 := H)
 refine Jn (Js (Jr (Jm (J (Qo (vs := stC 2 0) isAgg46 sizeOf46 rfl (H.get .here) rfl (by decide)) ?_))))
 (have hWd1 := hWd2.keep H (Out.ofN kYs); have Hx := Zr Hw1 H (fun p hp => Nat.le_trans Hw1.size ((Qu hc10 (Qu hc11 Xu)) p hp)); have hhx := H.Qc hh1 kYs; have hsx := H.Qc hsb1 kYs; have hstx := H.Qc hst1 kYs; refine Vl rfl (Qw rfl call15 rfl) (do_want (T := 0) hWd1 hhx hSn hPd hsx rfl bd3 (by decide) (by rw [show (c0 κ (X4 (List.replicate 1280 0)) 0 ua uc mp).κ.now = 0 from hnow]; decide) (en_st hnow) (by decide)) ?_; rintro _ w11 ⟨qv, M, rfl, hM, H1⟩; have hWd3 := hWd1.keep H1 (Out.cons hhx (by simp [wT, cT, kT, elT]) ((Out.ofN hM).app (Out.cons hsx (by simp [wT, cT, kT, elT]) Out.nil))); have hh2 := H1.get .here; have hsb2 := H1.get (.there (.app _ .here)); have hst2 := H1.Xw (T := [46]) hstx (by simp [elT]) (Out.cons hhx (by simp [elT]) ((Out.ofN hM).app (Out.cons hsx (by simp [elT]) Out.nil))); have Hw2 := Zr Hx H1 (Qu e1 (Yv (fun p hp => Nat.le_trans Hx.size (hM p hp)) (Qu e2 Xu))); clear H H1 hh1 hsb1 hst1 hWd2 hWd1 Hx Hw1 hhx hsx hstx; have H := Hp.refl w11)
 (refine Jm (Jx rfl rfl (Jx rfl rfl (Qb rfl (Qp (vs := z0) H zeroValue40 rfl) ?_))); clear H; intro c11 w101 hc11 H)
 (refine Qd rfl (Qg (vs := z0) H sizeOf40 rfl rfl (Xq rfl rfl rfl) .here (by decide)) ?_; clear H; intro w102 H; replace H : Hp _ [(c11, blk z0 40)] w102 := H)
 refine Ja (Jn (Js (Jr (Jm (Jn (Jc rfl (Jk (Jr (J (Xg (r := 2) rfl rfl (by decide)) (Jm (Jn ?_)))))))))))
 refine Bp ?_
 (refine Js (Jr (J (Za rfl rfl (by omega)) (Jn (Js (Jd rfl (Jk (Js (Jb (Js (Jr (J (Qj (off' := 32) underlying23 sizeOf46 rfl rfl (by decide) (by decide) (by decide)) (J (Qo (vs := stC 2 0) isAgg46 sizeOf46 rfl (H.Qc hst2 kYs) rfl (by decide)) (Qb rfl (Qp (vs := stC 0 0) H zeroValue46 rfl) ?_))))))))))))); clear H; intro c10 w129 hc10 H)
 (have _g := hst2; refine Qd rfl (Qg (vs := stC 2 0) H sizeOf46 rfl rfl (by simp [stC, Value.oneCell']) .here (by decide)) ?_; clear H; intro w130 H; replace H : Hp w11 [(c10, blk (stC 2 0) 46), (c11, blk z0 40)] w130 := H)
 refine Jn (Js (Jr (Jm (J (Qo (vs := stC 2 0) isAgg46 sizeOf46 rfl (H.get .here) rfl (by decide)) ?_))))
 (have hWd1 := hWd3.keep H (Out.ofN kYs); have Hx := Zr Hw2 H (fun p hp => Nat.le_trans Hw2.size ((Qu hc10 (Qu hc11 Xu)) p hp)); have hhx := H.Qc hh2 kYs; have hsx := H.Qc hsb2 kYs; refine Vl rfl (Qw rfl call15 rfl) (do_in hWd1 hhx hSn hPd hsx (en_hold hnow)) ?_; rintro _ w12 ⟨rfl, H1⟩; have Hw3 := Zr Hx H1 (Qu e3 (Qu e1 (Qu e2 Xu))); clear H H1 hh2 hsb2 hst2 hWd3 hWd1 Hx Hw2 hhx hsx; have H := Hp.refl w12)
 (refine Jm (Jx rfl rfl (Jx rfl rfl (Qb rfl (Qp (vs := z0) H zeroValue40 rfl) ?_))); clear H; intro c11 w140 hc11 H)
 (refine Qd rfl (Qg (vs := [(.int _ _), (.int _ _), (.int _ _), (.int _ _), (.int _ _), (.slice _ _ _), (.int _ _), (.int _ _), (.slice _ _ _), (.bool _), (.slice _ _ _), (.int _ _)]) H sizeOf40 rfl rfl (by simp [Value.oneCell']) .here (Nat.le_of_ble_eq_true rfl)) ?_; clear H; intro w141 H)
 (refine Ja (Jn (Js (Jr (Jm (Jn (Jd rfl (Jr (Jm (J (Qo (vs := Zk 0 0 0 (.slice xa 0 xc)) isAgg40 sizeOf40 rfl (H.get .here) rfl (by simp [Zk, oC])) (Qb rfl (Zt (vss := [Zk 0 0 0 (.slice xa 0 xc)]) H underlying32 sizeOf40 zeroValue40 rfl rfl (by decide) rfl rfl (by simp [Zk, oC])) ?_)))))))))); clear H; intro b36 w152 hb36 H)
 (refine Ve rfl (Yx (news := Zk 0 0 0 (.slice xa 0 xc)) (m := 1) H (AtM.here (M := []) (B := _)) (Yo.nil _ _ _) underlying32 typeInfo40 rfl rfl rfl rfl rfl rfl (Mn (m := 1) (sp := []) underlying32 (by rw [List.append_nil]; exact H.get .here) rfl (Xq rfl rfl rfl)) (by decide) (by simp only [Tryz.t40]; decide)) ?_; clear H; intro vO MO w153 hOO H; obtain ⟨ob, oc, ol, rfl, hob, rfl, _, _⟩ := hOO.pos (by decide))
 refine Ja (Jn (Jr (J (Xg (r := 3) rfl rfl (by decide)) (Jm (Jn ?_)))))
 refine Bp ?_
 refine Js (Jr (J (Xp rfl rfl (by omega)) (Jn (Js (Jc rfl (Xr ?_))))))
 refine (if_pos rfl).mpr ?_
 refine Js (Jr (Jm (Ja (Ja (Jn (Je ?_))))))
 (have Hz := Hp.cut (L := [(ob, _)]) (M := _) H (by intro p hp; simp only [List.mem_cons, List.not_mem_nil, or_false] at hp; rcases hp with rfl | rfl; exact hb36; exact hc11); exact ⟨_, rfl, ob, oc, ol, xa, xc, rfl, Nat.le_trans Hw3.size hob, Hw3.Zo Hz (Qu hob Xu)⟩)
end
end Go.Proofs.YtlpmfldijgdcoaaGreatDoor.Wo
namespace Go.Proofs.YtlpmfldijgdcoaaGreatDoor.Top
open Go Go.Proofs Fx Tryz
theorem PlanR.Yd {w w' : World} {L : List (Nat × Obj)} {v : Value} {ms : List Bool} {bs : List (Nat × Nat)} {ls : Nat} (h : PlanR w v ms bs ls) (H : Hp w L w') (hn : ∀ p ∈ L, w.heap.size ≤ p.1) : PlanR w' v ms bs ls := by
 obtain ⟨⟨vm, vb, e, hm, hb⟩, h1, h2, h3, h4, h5, h6⟩ := h
 exact ⟨⟨vm, vb, e, hm.Yd H hn, hb.Yd H hn⟩, h1, h2, h3, h4, h5, h6⟩
/-- one bridge drawn -/
def stepB (R : List Bool) (b : Nat × Nat) : List Bool := if (R.getD b.1 false || R.getD b.2 false) = true then (R.set b.1 true).set b.2 true else R
def passTo (R : List Bool) (bs : List (Nat × Nat)) (k : Nat) : List Bool := (bs.take k).foldl stepB R
/-- some rounds over all bridges -/
def cloTo (ms : List Bool) (bs : List (Nat × Nat)) : Nat → List Bool
 | 0 => ms
 | i + 1 => passTo (cloTo ms bs i) bs bs.length
end Go.Proofs.YtlpmfldijgdcoaaGreatDoor.Top
namespace Go.Proofs.YtlpmfldijgdcoaaGreatDoor.Top
open Go Go.Proofs Fx Tryz
/-- how many are not reached -/
def lacks : List Bool → Nat
 | [] => 0
 | b :: R => (if b then 0 else 1) + lacks R
/-- nothing more to draw -/
def fixed (R : List Bool) (bs : List (Nat × Nat)) : Prop := passTo R bs bs.length = R
end Go.Proofs.YtlpmfldijgdcoaaGreatDoor.Top
namespace Go.Proofs.YtlpmfldijgdcoaaGreatDoor.Top
open Go Go.Proofs Fx Tryz
end Go.Proofs.YtlpmfldijgdcoaaGreatDoor.Top
namespace Go.Proofs.YtlpmfldijgdcoaaGreatDoor.Top
open Go Go.Proofs Fx Tryz
end Go.Proofs.YtlpmfldijgdcoaaGreatDoor.Top
namespace Go.Proofs.YtlpmfldijgdcoaaGreatDoor.Top
open Go Go.Proofs Fx Tryz
/-- is reached -/
def On (R : List Bool) (x : Nat) : Prop := R[x]? = some true
/-- each that is reached was a member's own, or a bridge joins it with one that is -/
def Why (ms R : List Bool) (bs : List (Nat × Nat)) (x : Nat) : Prop := On ms x ∨ ∃ b ∈ bs, (b.1 = x ∧ On R b.2) ∨ (b.2 = x ∧ On R b.1)
end Go.Proofs.YtlpmfldijgdcoaaGreatDoor.Top
namespace Go.Proofs.YtlpmfldijgdcoaaGreatDoor.Top
open Go Go.Proofs Fx Tryz
/-- whether i is wanted, as far as the bridges were looked at -/
def wantOf (C : List Bool) (i : Nat) (b : Nat × Nat) : Bool := (decide (b.1 = i) && C.getD b.2 false) || (decide (b.2 = i) && C.getD b.1 false)
def wantTo (ms C : List Bool) (bs : List (Nat × Nat)) (i k : Nat) : Bool := ms.getD i false || (bs.take k).any (wantOf C i)
end Go.Proofs.YtlpmfldijgdcoaaGreatDoor.Top
namespace Go.Proofs.YtlpmfldijgdcoaaGreatDoor.Top
open Go Go.Proofs Fx Tryz
end Go.Proofs.YtlpmfldijgdcoaaGreatDoor.Top
namespace Go.Proofs.YtlpmfldijgdcoaaGreatDoor.Wo
open Go Go.Proofs Fx Ho Tryz
theorem awake_ret (w : World) : Ret Tryz.prog 10 #[] w fun v w' => v = .bool true ∧ Hp w [] w' := by
 refine Qi (args := []) func10 rfl ntmps10 results10 (by simp) ?_
 have H := Hp.refl w
 (refine Js (Jr (Ja (Jn (Js (Jr (Qb rfl (Xk (vs := [.bool true]) H underlying24 sizeOf4 zeroValue4 rfl rfl (by decide) rfl rfl (by simp [Value.oneCell'])) ?_)))))); clear H; intro b4 w7 hb4 H)
 (refine J (Qm (places := [(0, 1), (1, 1), (2, 1)]) (vs := [sl b4 0 1 1, nilS, I 3]) underlying27 typeInfo27 rfl rfl (by kernel_rfl) rfl rfl rfl) (J (Qm (places := [(0, 1), (1, 1), (2, 1), (3, 1)]) (vs := [I 17, I 0, I 0, nilS]) underlying38 typeInfo38 rfl rfl (by kernel_rfl) rfl rfl rfl) (J (Qm (places := [(0, 1), (1, 1), (2, 1), (3, 1), (4, 1), (5, 4), (9, 7)]) (vs := stC 1 17) underlying46 typeInfo46 rfl rfl (by kernel_rfl) rfl rfl rfl) (J (Qm (places := [(0, 1), (1, 1), (2, 1), (3, 1), (4, 1), (5, 4), (9, 7)]) (vs := stC 2 0) underlying46 typeInfo46 rfl rfl (by kernel_rfl) rfl rfl rfl) (J (Qm (places := [(0, 1), (1, 1), (2, 1), (3, 1), (4, 1), (5, 4), (9, 7)]) (vs := stC 2 0) underlying46 typeInfo46 rfl rfl (by kernel_rfl) rfl rfl rfl) (Qb rfl (Zt (vss := [stC 1 17, stC 2 0, stC 2 0]) H underlying23 sizeOf46 zeroValue46 rfl rfl (by decide) rfl rfl (by simp [stC])) ?_))))); clear H; intro b10 w13 hb10 H; replace H : Hp w [(b10, blk scr 46), (b4, blk [.bool true] 4)] w13 := H)
 (refine Jy rfl call11 rfl (run_ret ⟨RdS.blk (c := [.bool true]) (off := 0) (H.get (.there .here)) rfl (by decide) (by decide)⟩ (H.get .here)) ?_; rintro _ w14 ⟨ob, oc, ol, da, dc, rfl, hob, H1⟩; have hsz := H.size; replace H := H.Zo H1 (Qu hob Xu); replace hob := Nat.le_trans hsz hob; clear H1 hsz)
 refine Jm (Jx rfl rfl (Jx rfl rfl (Ja (Ja (Jn (Js (Jr (Jm (J (Yr rfl rfl (by omega)) (Jm (Jt rfl rfl (Jm (Jt rfl rfl (J (Qh underlying32 rfl) (Jt rfl rfl (J (Yr rfl rfl (by omega)) (Jq rfl (Jm (Jt rfl rfl (Jm (Jt rfl rfl (J (Qj (off' := 0) underlying32 sizeOf40 rfl rfl (by decide) (by decide) (by decide)) (Jt rfl rfl (Jf 9 underlying40 rfl sizeOf4 rfl rfl (Jt rfl rfl (J (Qe (v := .bool true) isAgg4 rfl (H.get .here) rfl) (Jq rfl (Jm (Jt rfl rfl (Jm (Jt rfl rfl (J (Qj (off' := 0) underlying32 sizeOf40 rfl rfl (by decide) (by decide) (by decide)) (Jt rfl rfl (Jf 6 underlying40 rfl sizeOf3 rfl rfl (Jt rfl rfl (J (Qe (v := I (-1)) isAgg3 rfl (H.get .here) rfl) (Jt rfl rfl (J (Yr rfl rfl (by omega)) (Jq rfl (Ja (Jn (Je ?_))))))))))))))))))))))))))))))))))))))))))
 exact ⟨_, rfl, rfl, H.none (Qu hob (Qu hb10 (Qu hb4 Xu)))⟩
end Go.Proofs.YtlpmfldijgdcoaaGreatDoor.Wo
namespace Go.Proofs.YtlpmfldijgdcoaaGreatDoor.Wp
open Go Go.Proofs Fx Kn Cm Ho TabC Fam Wo Tryz
/-- a saying, as something that is so or not -/
theorem as_dec (b : Bool) : ∃ (p : Prop) (d : Decidable p), b = @decide p d := ⟨b = true, inferInstance, by simp⟩
section
variable {w w1 w' : World} {κ : KS} {bt : Bool} {wd sp : Nat} {hb : List Nat} {B : Nat} {T : Int} {k : Nat} {S : Sect.Sx} {qs : List Nat} {L : List (Nat × Obj)}
/-- of which kinds is what turns -/
theorem Wst.dy_kind (W : Wst w κ bt wd sp hb B T k S qs) {d : Nat} (hd : d ∈ Dy κ sp hb qs) : ∃ o, w.heap[d]? = some o ∧ elT o ∈ [5, 170, 113, 139, 3] := by
 simp only [Dy, List.mem_cons, List.mem_append] at hd
 rcases hd with rfl | rfl | rfl | hd | hd
 ·exact ⟨_, W.kr.hb, by simp [elT]⟩
 ·obtain ⟨o, h1, h2⟩ := W.sq.sect; exact ⟨o, h1, by rw [h2]; simp⟩
 ·exact ⟨_, W.kr.hk, by simp [elT, KS.kb]⟩
 ·obtain ⟨j, hj, e⟩ := List.getElem_of_mem hd
  obtain ⟨c, ua, uc, mp, ph, st, op, a, b, da, dl, dc, h1, _⟩ := W.host j d (by rw [List.getElem?_eq_getElem hj, e])
  exact ⟨_, h1, by simp [elT]⟩
 ·obtain ⟨o, h1, h2⟩ := W.sq.int hd; exact ⟨o, h1, by rw [h2]; simp⟩
theorem Wst.dk_block (W : Wst w κ bt wd sp hb B T k S qs) (hD : Dk w κ sp hb qs L) {b : Nat} {o : Obj} (h : w.heap[b]? = some o) (ho : elT o ∉ [5, 170, 113, 139, 3]) : b ∉ L.map (·.1) := by
 intro hm
 obtain ⟨p, hp, e⟩ := List.mem_map.1 hm
 rcases hD p hp with h1 | h1
 ·obtain ⟨o', h2, h3⟩ := W.dy_kind h1
  rw [e, h] at h2; cases h2; exact ho h3
 ·have := Qr h; omega
/-- steps that lie in memory -/
structure Rdx (w : World) (sv : Value) (ys : List Stp) : Prop where
 rd : RdR Zy w sv ys
 ty : ∀ a m c, sv = .slice (some a) m c → ∃ o, w.heap[a.block]? = some o ∧ elT o = 46
theorem Rdx.keep {sv : Value} {ys : List Stp} (h : Rdx w sv ys) (H : Hp w L w') (hn : ∀ a m c o, sv = .slice (some a) m c → w.heap[a.block]? = some o → elT o = 46 → a.block ∉ L.map (·.1)) : Rdx w' sv ys := by
 refine ⟨h.rd.mono H fun a m c e => ?_, fun a m c e => ?_⟩
 ·obtain ⟨o, h1, h2⟩ := h.ty a m c e; exact hn a m c o e h1 h2
 ·obtain ⟨o, h1, h2⟩ := h.ty a m c e; exact ⟨o, H.block h1 (hn a m c o e h1 h2), h2⟩
theorem Rdx.Ql {sv : Value} {ys : List Stp} (h : Rdx w sv ys) (H : Hp w L w') (hn : ∀ p ∈ L, w.heap.size ≤ p.1) : Rdx w' sv ys :=
 h.keep H fun a m c o _ h1 _ hm => by obtain ⟨p, hp, e⟩ := List.mem_map.1 hm; have := hn p hp; have := Qr h1; omega
theorem Rdx.keepD {sv : Value} {ys : List Stp} (h : Rdx w sv ys) (W : Wst w κ bt wd sp hb B T k S qs) (hD : Dk w κ sp hb qs L) (H : Hp w L w') : Rdx w' sv ys :=
 h.keep H fun a m c o _ h1 h2 => W.dk_block hD h1 (by rw [h2]; decide)
theorem Rdx.own {n : Nat} {sv : Value} {ys : List Stp} {M : List (Nat × Obj)} (h : Yo n 46 16 sv ys.length (rows Zy ys) M) (hM : ∀ p ∈ M, w.heap[p.1]? = some p.2) : Rdx w sv ys := by
 refine ⟨RdR.own stpC_len h rfl hM, fun a m c e => ?_⟩
 rcases h.2 with ⟨h1, _⟩ | ⟨b, cap, sp, h1, _, h2, _⟩
 ·subst e; cases h1
 ·rw [h1] at e
  have e2 : (⟨b, 0, none⟩ : Addr) = a := by injection e with e3; injection e3
  subst e2
  exact ⟨_, hM (b, _) (by rw [h2]; exact .head _), rfl⟩
/-- all that turns is new since then -/
def DyN (n : Nat) (κ : KS) (sp : Nat) (hb qs : List Nat) : Prop := ∀ d ∈ Dy κ sp hb qs, n ≤ d
theorem dk_new {n : Nat} (h : DyN n κ sp hb qs) (hD : Dk w κ sp hb qs L) (hn : n ≤ w.heap.size) : ∀ p ∈ L, n ≤ p.1 := fun p hp => (hD p hp).elim (h p.1) (Nat.le_trans hn)
theorem DyN.next {n : Nat} {κ' : KS} {qs' : List Nat} (h : DyN n κ sp hb qs) (hmb : κ'.mb = κ.mb) (hk : κ'.k = κ.k) (hqs : ∀ b ∈ qs', b ∈ qs ∨ n ≤ b) : DyN n κ' sp hb qs' := by
 intro d hd
 simp only [Dy, List.mem_cons, List.mem_append, hmb, hk] at hd
 rcases hd with h1 | h1 | h1 | h1 | h1
 ·exact h d (by simp [Dy, h1])
 ·exact h d (by simp [Dy, h1])
 ·exact h d (by simp [Dy, h1])
 ·exact h d (by simp [Dy, h1])
 ·rcases hqs d h1 with h2 | h2
  ·exact h d (by simp [Dy, h2])
  ·exact h2
end
/-- which call it is made to be -/
def fOp (n : Int) : Int := ([2, 2, 4, 3, 17, 1] : List Int).getD (n % 256 % 6).toNat 0
theorem fOp_ok (n : Int) : FOp (fOp n) ∧ ∃ j : Nat, j < 6 ∧ n % 256 % 6 = j ∧ ([2, 2, 4, 3, 17, 1].map I)[j]? = some (I (fOp n)) := by
 obtain ⟨j, hj⟩ : ∃ j : Nat, n % 256 % 6 = j := ⟨(n % 256 % 6).toNat, by omega⟩
 have h6 : j < 6 := by omega
 unfold fOp
 rw [hj, Int.toNat_natCast]
 have : ∀ j : Fin 6, (([2, 2, 4, 3, 17, 1] : List Int).getD j.val 0 = 1 ∨ ([2, 2, 4, 3, 17, 1] : List Int).getD j.val 0 = 2 ∨ ([2, 2, 4, 3, 17, 1] : List Int).getD j.val 0 = 3 ∨ ([2, 2, 4, 3, 17, 1] : List Int).getD j.val 0 = 4 ∨ ([2, 2, 4, 3, 17, 1] : List Int).getD j.val 0 = 17) := by decide
 refine ⟨this ⟨j, h6⟩, j, h6, rfl, ?_⟩
 match j, h6 with
 | 0, _ => rfl
 | 1, _ => rfl
 | 2, _ => rfl
 | 3, _ => rfl
 | 4, _ => rfl
 | 5, _ => rfl
end Go.Proofs.YtlpmfldijgdcoaaGreatDoor.Wp
namespace Go.Proofs.YtlpmfldijgdcoaaGreatDoor.Wp
open Go Go.Proofs Fx Kn Cm Ho TabC Fam Wo Tryz
theorem subw {w : World} {v : Value} {xs : List UInt8} {a : Nat} (h : RdS w v ((xs.take 492).map U)) (hl : 492 ≤ xs.length) (ha : a + 24 ≤ 492) : RdS w (subS v a (a + 24)) ((win xs a 24).map U) := by
 have h1 := RdS.sub (i := a) (j := a + 24) h (by omega) (by simp; omega)
 have e : (((xs.take 492).map U).take (a + 24)).drop a = (win xs a 24).map U := by
  unfold win
  rw [← List.map_take, ← List.map_drop, List.take_take, Nat.min_eq_left (by omega), List.drop_take, Nat.add_sub_cancel_left]
 rw [e] at h1; exact h1
theorem win_len {xs : List UInt8} {a : Nat} : (win xs a 24).length ≤ 100000 := by unfold win; simp; omega
section
variable {xp yp : Slot.Pi} {xd yd : Int} {j sl : Nat} {pI pB : Prop} [Decidable pI] [Decidable pB] {op n e : Int}
theorem bad24 (hK : TellK (xp, xd) (yp, yd) j (decide pI) (decide pB) sl op n e) (hsl : sl < 8) (h : decide ((((pI ∧ pB) ∧ e = 0) ∧ op = 2) ∧ n = (j : Int)) ≠ decide (xd = 0 ∧ yd = 1) ∨ ((((pI ∧ pB) ∧ e = 0) ∧ op = 2) ∧ n = (j : Int)) ∧ (yp.p ≠ (sl : Int) + 1 ∨ yp.s ≠ 1)) : False := by
 have hm := hK.m
 have hb := hK.b
 simp only [decide_eq_true_eq] at hm hb
 rcases h with h | ⟨⟨⟨⟨⟨h1, h2⟩, h3⟩, h4⟩, h5⟩, h⟩
 ·exact h (decide_eq_decide.2 ⟨fun g => hm.1 ⟨g.1.1.1.1, g.1.1.1.2, g.1.1.2, g.1.2, g.2⟩, fun g => by have := hm.2 g; exact ⟨⟨⟨⟨this.1, this.2.1⟩, this.2.2.1⟩, this.2.2.2.1⟩, this.2.2.2.2⟩⟩)
 ·have := hb h1 h2 h3 h4 h5
  rcases h with h | h
  ·exact h this.1
  ·exact h this.2
theorem dec_e {xs : List UInt8} (h : Slot.Xy xs = (xp, xd)) (h1 : xd = 1) : 0 ≤ xp.e ∧ xp.e ≤ 255 := by
 unfold Slot.Xy at h
 split at h
 ·cases h; cases h1
 ·split at h
  ·rename_i hg; cases h; exact hg.2.1.1.2.2.2
  ·cases h; cases h1
theorem bad28 {xs : List UInt8} (hx : Slot.Xy xs = (xp, xd)) (hj : j < 8) (hK : TellK (xp, xd) (yp, yd) j (decide pI) (decide pB) sl op n e) (h1 : (xd = 1 ∧ xp.s = 2) ∧ yd = 0)
  (h : ¬(((pI ∧ pB) ∧ ((op = 4 ∧ e = 0) ∧ n = IntKind.i64.wrap (256 * (j : Int) + xp.e) ∨ op = 3)) ∧ xp.p = (sl : Int) + 1)) : False := by
 have he := dec_e hx h1.1.1
 have hg := hK.g h1.1.1 h1.1.2 h1.2
 simp only [decide_eq_true_eq] at hg
 rw [Xc (by omega)] at h
 refine h ⟨⟨⟨hg.1, hg.2.1⟩, ?_⟩, hg.2.2.2⟩
 rcases hg.2.2.1 with g | g
 ·exact .inl ⟨⟨g.1, g.2.1⟩, g.2.2⟩
 ·exact .inr g
theorem bad30 (hK : TellK (xp, xd) (yp, yd) j (decide pI) (decide pB) sl op n e) (h : ((xd = 1 ∧ yd = 1) ∧ xp.p ≠ yp.p) ∧ (((yp.p ≠ 0 ∨ ¬pI) ∨ op ≠ 3) ∨ xp.p ≠ (sl : Int) + 1)) : False := by
 have hp := hK.p h.1.1.1 h.1.1.2 h.1.2
 simp only [decide_eq_true_eq] at hp
 rcases h.2 with ((g | g) | g) | g
 ·exact g hp.1
 ·exact g hp.2.1
 ·exact g hp.2.2.1
 ·exact g hp.2.2.2
end
theorem families_ret {xs : List Stp} {l : Value} {w : World} (hl : RdR Zy w l xs) (hxb : xs.length ≤ 9223372036854775807) (hg : ∀ x ∈ xs, x.ok w) :
  Ret Tryz.prog 5 #[l] w fun v w' => v = .bool true ∧ Hp w [] w' := by
 refine Qi (args := [_]) func5 rfl ntmps5 results5 (by simp) ?_
 have H := Hp.refl w
 (refine Js (Jr (Ja (Jn (Js (Jr (Qb rfl (Xk (vs := [.bool false]) H underlying24 sizeOf4 zeroValue4 rfl rfl (by decide) rfl rfl (by simp [Value.oneCell'])) ?_)))))); clear H; intro b23 w7 hb23 H)
 (refine J (Qm (places := [(0, 1), (1, 1), (2, 1)]) (vs := [sl b23 0 1 1, nilS, I 3]) underlying27 typeInfo27 rfl rfl (by kernel_rfl) rfl rfl rfl) (Qb rfl (Qp (vs := [nilS, nilS, I 0]) H zeroValue27 rfl) ?_); clear H; intro c3 w9 hc3 H)
 (refine Qd rfl (Qg (vs := [sl b23 0 1 1, nilS, I 3]) H sizeOf27 rfl rfl (by simp [Value.oneCell']) .here (by simp)) ?_; clear H; intro w10 H; have H : Hp w [(c3, blk [sl b23 0 1 1, nilS, I 3] 27), (b23, blk [.bool false] 4)] w10 := H)
 (refine Jn (Js (Jr (J (Qo (vs := [sl b23 0 1 1, nilS, I 3]) isAgg27 sizeOf27 rfl (H.get .here) rfl (by simp)) (Jm (Jy rfl call9 rfl (steps_ret (nb := 1) (most := 120) (hl.Yd H kYs) hxb (fun x hx => (hg x hx).Ql H kYs) (by decide) (by decide) (by decide)) ?_))))); rintro _ w5 ⟨sv, ok, ys, M, rfl, hTd, hO, H1⟩; have hok5 : ∀ y ∈ ys, y.ok w5 := (fun y hy => (hTd.ok y hy).1.Ql H1 hO.keys); have hR5 := Rdx.own hO (fun p hp => H1.held p hp); have hc3b := H1.Qc (H.get .here) hO.keys; have hb23b := H1.Qc (H.get (.there .here)) hO.keys; have Hw5 : Hp w [] w5 := Zr (H.none kYs) H1 (fun p hp => Nat.le_trans H.size (hO.keys p hp)); obtain ⟨sa, sc, rfl⟩ := hR5.rd.form; obtain ⟨pO, dO, rfl⟩ := as_dec ok; clear H H1 hO; have H := Hp.refl w5; have hP5 : P1 w5 false (some ⟨b23, 0, none⟩) 1 := ⟨RdS.blk hb23b (by simp [Top.Bo]) (by simp) (by decide)⟩)
 (refine Jm (Jx rfl rfl (Jx rfl rfl (Ja (Ja (Jn (Js (Jr (J (Qo (vs := [sl b23 0 1 1, nilS, I 3]) isAgg27 sizeOf27 rfl (H.Qc hc3b kYs) rfl (by simp)) (Jy rfl call13 rfl (wnew8_ret (hP5.Ql H kYs)) ?_))))))))); rintro _ w6 ⟨κ, wd, sp, hb, rfl, hx, hW8, g1, g2, g3, g4, g5, H1⟩; obtain ⟨W0, Q0⟩ := wst0 hW8 hx; have hN0 : DyN w5.heap.size κ sp hb [] := (by intro d hd; simp only [Dy, List.mem_cons, List.mem_append, List.not_mem_nil, or_false] at hd; have hs := H.size; rcases hd with rfl | rfl | rfl | hd; omega; omega; omega; have := g1 d hd; omega); have Hw6 := H.seq0 H1; clear H H1; have H := Hp.refl w6)
 refine Jm (Jx rfl rfl (Jx rfl rfl (Ja (Ja (Jn (Js (Js (Jr (Jm (J (Zd rfl) (Jm ?_)))))))))))
 apply Xz 3 38 41 [(39, 41)] H
 case hc => rfl
 case h1 =>
  intro h39
  refine Jt rfl rfl (Jm (Jt rfl rfl (J (Vx underlying49 rfl rfl) (Jp rfl (Jn ?_)))))
  exact ⟨kS, decV rfl, H⟩
 case h0 =>
  intro h39
  refine Jg rfl rfl (Jg rfl rfl (Jq rfl (Jn ?_)))
  exact ⟨kS, rfl, H⟩
 case h2 =>
  (clear H; intro E39 w39 H)
  refine Jm ?_
  apply Xz 3 42 45 [(43, 45)] H
  case hc => rfl
  case h1 =>
   intro h53
   refine Jt rfl rfl (Jm (Jt rfl rfl (J (Yl rfl rfl (by omega)) (Jp rfl (Jn ?_)))))
   exact ⟨kS, decV rfl, H⟩
  case h0 =>
   intro h53
   refine Jg rfl rfl (Jg rfl rfl (Jq rfl (Jn ?_)))
   exact ⟨kS, rfl, H⟩
  case h2 =>
   (clear H; intro E53 w53 H)
   refine Jn (Xo rfl (fun h67 => ?_) (fun h67 => ?_))
   ·(refine Js (Jr (Jm (J (Br underlying49 rfl rfl) (Jm (Jt rfl rfl (Jz rfl call10 rfl (awake_ret _) H ?_)))))); intro w74 H)
    refine Jq rfl (Ja (Jn (Je ?_)))
    exact ⟨_, rfl, rfl, Zr (Zr Hw5 Hw6 (fun _ h => nomatch h)) H (fun _ h => nomatch h)⟩
   ·refine Jk (Js (Js (Jr (Ja (Jn (Jb ?_))))))
    refine Yg [(2, 2), (8, 22), (51, 272)] (fun (i : Nat) E w' => i ≤ ys.length ∧ E 8 = I i ∧ ∃ κ T k S qs, Hp w5 [] w' ∧ Wst w' κ false wd sp hb w6.heap.size T k S qs ∧ FamQ (cv κ) ∧ T ≤ 1000 * i ∧ k ≤ 2 * i ∧ DyN w5.heap.size κ sp hb qs ∧ Rdx w' (.slice sa ys.length sc) ys ∧ ∀ y ∈ ys, y.ok w') (fun i => ys.length - i) 0 ?e0 ?r0
    ·(have H9 := Zr Hw6 H (fun _ h => nomatch h); exact ⟨Nat.zero_le _, rfl, κ, 0, 0, Sect.Bh 3, [], H9, W0.Ql H Xu, Q0, by decide, by decide, hN0, hR5.Ql H9 Xu, fun y hy => (hok5 y hy).Ql H9 Xu⟩)
    ·(clear H; rintro i E w1 ⟨hi, h8, κ1, T1, k1, S1, qs1, Hw1, W1, Q1, hT1, hk1, hN1, hR1, hok1⟩; refine Ur h8 ?_; have hlen := hTd.len; have H := Hp.refl w1)
     refine Js (Js (Jr (Jm (Jm (J (Qh underlying23 rfl) (J (Vb rfl rfl) (Jn (Xo rfl (fun h97 => ?_) (fun h97 => ?_)))))))))
     ·refine Jk (Js (Jb (Js ?_)))
      ((obtain ⟨y, b, off, hy, e9, hc⟩ : ∃ y b off, ys[i]? = some y ∧ sa = some ⟨b, off, none⟩ ∧ ∀ j u, (Zy y)[j]? = some u → w1.cell? ⟨b, off + i * 16 + j, none⟩ = some u := (by obtain ⟨b, off, e, hc⟩ := hR1.rd.cell stpC_len (List.getElem?_eq_getElem (show i < ys.length by omega)); exact ⟨_, b, off, List.getElem?_eq_getElem _, e, hc⟩); subst e9; have hyo := hok1 y (List.mem_of_getElem? hy); have hys := (hTd.ok y (List.mem_of_getElem? hy)).2.1; have hone := stpC_one hyo; obtain ⟨hfop, j0, hj6, hje, hjv⟩ := fOp_ok y.op)) <;> refine Qk ?_
      (refine Jm (Jm (J (Qj (off' := off + i * 16) underlying23 sizeOf46 rfl rfl (by omega) (by omega) (by omega)) (J (Vm (vs := Zy y) isAgg46 sizeOf46 rfl (fun j u hj => H.Zx (hc j u hj) kYs) (by simp [Zy])) (Qb rfl (Qp (vs := stz) H zeroValue46 rfl) ?_)))); clear H; intro c9 w107 hc9 H)
      (have _g := hone; refine Qd rfl (Qg (vs := Zy y) H sizeOf46 rfl rfl hone .here (by simp [Zy, stz])) ?_; clear H; intro w108 H; have H : Hp w1 [(c9, blk (Zy y) 46)] w108 := H)
      refine Jn ?_
      refine W_seqS [(61, 77)] (fun E w' => ∃ (op9 a9 b9 : Int) (dv9 : Value) (ds9 : List UInt8), (y.kd = 1 → FOp op9) ∧ RdS w1 dv9 (ds9.map U) ∧ ds9.length ≤ 1000000 ∧ Hp w1 [(c9, blk (sC y.kd y.s y.p y.n y.bv op9 a9 b9 dv9 y.c1 y.c2 y.c3 y.c4 y.c5 y.c6 y.cv) 46)] w') ?c10 ?k10
      ·refine Js (Jr (Jf 0 underlying46 rfl sizeOf3 rfl rfl (J (Qe (v := I y.kd) isAgg3 rfl (H.get .here) rfl) (J (Yk rfl rfl) (Jn (Xo rfl (fun h117 => ?_) (fun h117 => ?_)))))))
       ·(refine Xi (fun _ => True) (fun _ => false) (by kernel_rfl) H ?_; clear H; intro w118 H)
        refine Az 1 rfl rfl trivial (fun _ hC => Qa (off' := 5) underlying46 rfl sizeOf38 (by decide) rfl rfl) (Az 2 rfl rfl trivial (fun _ hC => Qa (off' := 5) underlying38 rfl sizeOf3 (by decide) rfl rfl) (Az 8 rfl rfl trivial (fun _ hC => Qa (off' := 5) underlying46 rfl sizeOf38 (by decide) rfl rfl) (Az 9 rfl rfl trivial (fun _ hC => Qa (off' := 6) underlying38 rfl sizeOf3 (by decide) rfl rfl) (WA_three (i := 0) (j := 3) (l := 10) (by kernel_rfl) ?_ ?_ ?_))))
        ·(refine Xd rfl (.inl rfl) (Xk (vs := [I 2, I 2, I 4, I 3, I 17, I 1]) H underlying22 sizeOf3 zeroValue3 rfl rfl (by decide) rfl rfl (by simp [Value.oneCell'])) (fun _ _ _ _ _ => trivial) ?_; clear H; intro b64 w124 hb64 H)
         refine Zf (i := 3) (j := 10) (by kernel_rfl) ?_ ?_
         ·refine Xv rfl (.inl rfl) (Qe (v := I y.op) isAgg3 rfl (H.get (.there .here)) rfl) (fun _ => trivial) ?_
          refine Az 4 rfl rfl trivial (fun _ hC => Zb (r := y.op % 256) rfl rfl (by simp) (Yp 8 256 (by decide) rfl (by decide))) (Az 5 rfl rfl trivial (fun _ hC => R_rem (r := (j0 : Int)) rfl rfl (by decide) ((Int.tmod_eq_emod_of_nonneg (by omega)).trans hje)) (Az 6 rfl rfl trivial (fun _ hC => Qj (off' := j0) underlying22 sizeOf3 rfl rfl (by omega) (by omega) (by omega)) (Zf (i := 7) (j := 10) (by kernel_rfl) ?_ ?_)))
          ·refine Xv rfl (.inl rfl) (Qe (v := I (fOp y.op)) isAgg3 rfl (H.get .here) hjv) (fun _ => trivial) ?_
           refine Ao 10 ?_
           refine Xv rfl (.inl rfl) (Qe (v := I y.a) isAgg3 rfl (H.get (.there .here)) rfl) (fun _ => trivial) ?_
           (refine Az 11 rfl rfl trivial (fun _ hC => Zb (r := y.a % 256) rfl rfl (by simp) (Yp 8 256 (by decide) rfl (by decide))) (Az 12 rfl rfl trivial (fun _ hC => Qm (places := [(0, 1), (1, 1), (2, 1), (3, 1)]) (vs := [I (fOp y.op), I (y.a % 256), I 0, nilS]) underlying38 typeInfo38 rfl rfl (by kernel_rfl) rfl rfl rfl) (Az 13 rfl rfl trivial (fun _ hC => Qa (off' := 5) underlying46 rfl sizeOf38 (by decide) rfl rfl) (Ao 14 (Xb rfl (.inl rfl) (Qg (vs := [I (fOp y.op), I (y.a % 256), I 0, nilS]) H sizeOf38 rfl rfl (by simp [Value.oneCell']) (.there .here) (by simp [Zy])) (fun _ _ _ => trivial) ?_)))); clear H; intro w138 H)
           refine Ad ?_
           exact ⟨kS, fOp y.op, y.a % 256, 0, nilS, [], (fun _ => hfop), RdS.nil, by decide, H.pop hb64⟩
          ·refine Xv rfl (.inl rfl) (Qe (v := I y.a) isAgg3 rfl (H.get (.there .here)) rfl) (fun _ => trivial) ?_
           refine Az 11 rfl rfl trivial (fun _ hC => Zb (r := y.a % 256) rfl rfl (by simp) (Yp 8 256 (by decide) rfl (by decide))) (Ao 7 ?_)
           refine Xv rfl (.inl rfl) (Qe (v := I (fOp y.op)) isAgg3 rfl (H.get .here) hjv) (fun _ => trivial) ?_
           (refine Az 12 rfl rfl trivial (fun _ hC => Qm (places := [(0, 1), (1, 1), (2, 1), (3, 1)]) (vs := [I (fOp y.op), I (y.a % 256), I 0, nilS]) underlying38 typeInfo38 rfl rfl (by kernel_rfl) rfl rfl rfl) (Az 13 rfl rfl trivial (fun _ hC => Qa (off' := 5) underlying46 rfl sizeOf38 (by decide) rfl rfl) (Ao 14 (Xb rfl (.inl rfl) (Qg (vs := [I (fOp y.op), I (y.a % 256), I 0, nilS]) H sizeOf38 rfl rfl (by simp [Value.oneCell']) (.there .here) (by simp [Zy])) (fun _ _ _ => trivial) ?_))); clear H; intro w148 H)
           refine Ad ?_
           exact ⟨kS, fOp y.op, y.a % 256, 0, nilS, [], (fun _ => hfop), RdS.nil, by decide, H.pop hb64⟩
         ·refine Xv rfl (.inl rfl) (Qe (v := I y.a) isAgg3 rfl (H.get (.there .here)) rfl) (fun _ => trivial) ?_
          refine Az 11 rfl rfl trivial (fun _ hC => Zb (r := y.a % 256) rfl rfl (by simp) (Yp 8 256 (by decide) rfl (by decide))) (Ao 3 ?_)
          refine Xv rfl (.inl rfl) (Qe (v := I y.op) isAgg3 rfl (H.get (.there .here)) rfl) (fun _ => trivial) ?_
          refine Az 4 rfl rfl trivial (fun _ hC => Zb (r := y.op % 256) rfl rfl (by simp) (Yp 8 256 (by decide) rfl (by decide))) (Az 5 rfl rfl trivial (fun _ hC => R_rem (r := (j0 : Int)) rfl rfl (by decide) ((Int.tmod_eq_emod_of_nonneg (by omega)).trans hje)) (Az 6 rfl rfl trivial (fun _ hC => Qj (off' := j0) underlying22 sizeOf3 rfl rfl (by omega) (by omega) (by omega)) (Ao 7 ?_)))
          refine Xv rfl (.inl rfl) (Qe (v := I (fOp y.op)) isAgg3 rfl (H.get .here) hjv) (fun _ => trivial) ?_
          (refine Az 12 rfl rfl trivial (fun _ hC => Qm (places := [(0, 1), (1, 1), (2, 1), (3, 1)]) (vs := [I (fOp y.op), I (y.a % 256), I 0, nilS]) underlying38 typeInfo38 rfl rfl (by kernel_rfl) rfl rfl rfl) (Az 13 rfl rfl trivial (fun _ hC => Qa (off' := 5) underlying46 rfl sizeOf38 (by decide) rfl rfl) (Ao 14 (Xb rfl (.inl rfl) (Qg (vs := [I (fOp y.op), I (y.a % 256), I 0, nilS]) H sizeOf38 rfl rfl (by simp [Value.oneCell']) (.there .here) (by simp [Zy])) (fun _ _ _ => trivial) ?_))); clear H; intro w163 H)
          refine Ad ?_
          exact ⟨kS, fOp y.op, y.a % 256, 0, nilS, [], (fun _ => hfop), RdS.nil, by decide, H.pop hb64⟩
        ·refine Xv rfl (.inl rfl) (Qe (v := I y.op) isAgg3 rfl (H.get .here) rfl) (fun _ => trivial) ?_
         refine Az 4 rfl rfl trivial (fun _ hC => Zb (r := y.op % 256) rfl rfl (by simp) (Yp 8 256 (by decide) rfl (by decide))) (Az 5 rfl rfl trivial (fun _ hC => R_rem (r := (j0 : Int)) rfl rfl (by decide) ((Int.tmod_eq_emod_of_nonneg (by omega)).trans hje)) (Zf (i := 0) (j := 10) (by kernel_rfl) ?_ ?_))
         ·(refine Xd rfl (.inl rfl) (Xk (vs := [I 2, I 2, I 4, I 3, I 17, I 1]) H underlying22 sizeOf3 zeroValue3 rfl rfl (by decide) rfl rfl (by simp [Value.oneCell'])) (fun _ _ _ _ _ => trivial) ?_; clear H; intro b64 w170 hb64 H)
          refine Az 6 rfl rfl trivial (fun _ hC => Qj (off' := j0) underlying22 sizeOf3 rfl rfl (by omega) (by omega) (by omega)) (Zf (i := 7) (j := 10) (by kernel_rfl) ?_ ?_)
          ·refine Xv rfl (.inl rfl) (Qe (v := I (fOp y.op)) isAgg3 rfl (H.get .here) hjv) (fun _ => trivial) ?_
           refine Ao 10 ?_
           refine Xv rfl (.inl rfl) (Qe (v := I y.a) isAgg3 rfl (H.get (.there .here)) rfl) (fun _ => trivial) ?_
           (refine Az 11 rfl rfl trivial (fun _ hC => Zb (r := y.a % 256) rfl rfl (by simp) (Yp 8 256 (by decide) rfl (by decide))) (Az 12 rfl rfl trivial (fun _ hC => Qm (places := [(0, 1), (1, 1), (2, 1), (3, 1)]) (vs := [I (fOp y.op), I (y.a % 256), I 0, nilS]) underlying38 typeInfo38 rfl rfl (by kernel_rfl) rfl rfl rfl) (Az 13 rfl rfl trivial (fun _ hC => Qa (off' := 5) underlying46 rfl sizeOf38 (by decide) rfl rfl) (Ao 14 (Xb rfl (.inl rfl) (Qg (vs := [I (fOp y.op), I (y.a % 256), I 0, nilS]) H sizeOf38 rfl rfl (by simp [Value.oneCell']) (.there .here) (by simp [Zy])) (fun _ _ _ => trivial) ?_)))); clear H; intro w180 H)
           refine Ad ?_
           exact ⟨kS, fOp y.op, y.a % 256, 0, nilS, [], (fun _ => hfop), RdS.nil, by decide, H.pop hb64⟩
          ·refine Xv rfl (.inl rfl) (Qe (v := I y.a) isAgg3 rfl (H.get (.there .here)) rfl) (fun _ => trivial) ?_
           refine Az 11 rfl rfl trivial (fun _ hC => Zb (r := y.a % 256) rfl rfl (by simp) (Yp 8 256 (by decide) rfl (by decide))) (Ao 7 ?_)
           refine Xv rfl (.inl rfl) (Qe (v := I (fOp y.op)) isAgg3 rfl (H.get .here) hjv) (fun _ => trivial) ?_
           (refine Az 12 rfl rfl trivial (fun _ hC => Qm (places := [(0, 1), (1, 1), (2, 1), (3, 1)]) (vs := [I (fOp y.op), I (y.a % 256), I 0, nilS]) underlying38 typeInfo38 rfl rfl (by kernel_rfl) rfl rfl rfl) (Az 13 rfl rfl trivial (fun _ hC => Qa (off' := 5) underlying46 rfl sizeOf38 (by decide) rfl rfl) (Ao 14 (Xb rfl (.inl rfl) (Qg (vs := [I (fOp y.op), I (y.a % 256), I 0, nilS]) H sizeOf38 rfl rfl (by simp [Value.oneCell']) (.there .here) (by simp [Zy])) (fun _ _ _ => trivial) ?_))); clear H; intro w190 H)
           refine Ad ?_
           exact ⟨kS, fOp y.op, y.a % 256, 0, nilS, [], (fun _ => hfop), RdS.nil, by decide, H.pop hb64⟩
         ·refine Xv rfl (.inl rfl) (Qe (v := I y.a) isAgg3 rfl (H.get .here) rfl) (fun _ => trivial) ?_
          (refine Az 11 rfl rfl trivial (fun _ hC => Zb (r := y.a % 256) rfl rfl (by simp) (Yp 8 256 (by decide) rfl (by decide))) (Ao 0 (Xd rfl (.inl rfl) (Xk (vs := [I 2, I 2, I 4, I 3, I 17, I 1]) H underlying22 sizeOf3 zeroValue3 rfl rfl (by decide) rfl rfl (by simp [Value.oneCell'])) (fun _ _ _ _ _ => trivial) ?_)); clear H; intro b64 w196 hb64 H)
          refine Az 6 rfl rfl trivial (fun _ hC => Qj (off' := j0) underlying22 sizeOf3 rfl rfl (by omega) (by omega) (by omega)) (Ao 7 ?_)
          refine Xv rfl (.inl rfl) (Qe (v := I (fOp y.op)) isAgg3 rfl (H.get .here) hjv) (fun _ => trivial) ?_
          (refine Az 12 rfl rfl trivial (fun _ hC => Qm (places := [(0, 1), (1, 1), (2, 1), (3, 1)]) (vs := [I (fOp y.op), I (y.a % 256), I 0, nilS]) underlying38 typeInfo38 rfl rfl (by kernel_rfl) rfl rfl rfl) (Az 13 rfl rfl trivial (fun _ hC => Qa (off' := 5) underlying46 rfl sizeOf38 (by decide) rfl rfl) (Ao 14 (Xb rfl (.inl rfl) (Qg (vs := [I (fOp y.op), I (y.a % 256), I 0, nilS]) H sizeOf38 rfl rfl (by simp [Value.oneCell']) (.there .here) (by simp [Zy])) (fun _ _ _ => trivial) ?_))); clear H; intro w203 H)
          refine Ad ?_
          exact ⟨kS, fOp y.op, y.a % 256, 0, nilS, [], (fun _ => hfop), RdS.nil, by decide, H.pop hb64⟩
        ·refine Xv rfl (.inl rfl) (Qe (v := I y.a) isAgg3 rfl (H.get .here) rfl) (fun _ => trivial) ?_
         refine Az 11 rfl rfl trivial (fun _ hC => Zb (r := y.a % 256) rfl rfl (by simp) (Yp 8 256 (by decide) rfl (by decide))) (Zf (i := 0) (j := 3) (by kernel_rfl) ?_ ?_)
         ·(refine Xd rfl (.inl rfl) (Xk (vs := [I 2, I 2, I 4, I 3, I 17, I 1]) H underlying22 sizeOf3 zeroValue3 rfl rfl (by decide) rfl rfl (by simp [Value.oneCell'])) (fun _ _ _ _ _ => trivial) ?_; clear H; intro b64 w209 hb64 H)
          refine Ao 3 ?_
          refine Xv rfl (.inl rfl) (Qe (v := I y.op) isAgg3 rfl (H.get (.there .here)) rfl) (fun _ => trivial) ?_
          refine Az 4 rfl rfl trivial (fun _ hC => Zb (r := y.op % 256) rfl rfl (by simp) (Yp 8 256 (by decide) rfl (by decide))) (Az 5 rfl rfl trivial (fun _ hC => R_rem (r := (j0 : Int)) rfl rfl (by decide) ((Int.tmod_eq_emod_of_nonneg (by omega)).trans hje)) (Az 6 rfl rfl trivial (fun _ hC => Qj (off' := j0) underlying22 sizeOf3 rfl rfl (by omega) (by omega) (by omega)) (Ao 7 ?_)))
          refine Xv rfl (.inl rfl) (Qe (v := I (fOp y.op)) isAgg3 rfl (H.get .here) hjv) (fun _ => trivial) ?_
          (refine Az 12 rfl rfl trivial (fun _ hC => Qm (places := [(0, 1), (1, 1), (2, 1), (3, 1)]) (vs := [I (fOp y.op), I (y.a % 256), I 0, nilS]) underlying38 typeInfo38 rfl rfl (by kernel_rfl) rfl rfl rfl) (Az 13 rfl rfl trivial (fun _ hC => Qa (off' := 5) underlying46 rfl sizeOf38 (by decide) rfl rfl) (Ao 14 (Xb rfl (.inl rfl) (Qg (vs := [I (fOp y.op), I (y.a % 256), I 0, nilS]) H sizeOf38 rfl rfl (by simp [Value.oneCell']) (.there .here) (by simp [Zy])) (fun _ _ _ => trivial) ?_))); clear H; intro w220 H)
          refine Ad ?_
          exact ⟨kS, fOp y.op, y.a % 256, 0, nilS, [], (fun _ => hfop), RdS.nil, by decide, H.pop hb64⟩
         ·refine Xv rfl (.inl rfl) (Qe (v := I y.op) isAgg3 rfl (H.get .here) rfl) (fun _ => trivial) ?_
          (refine Az 4 rfl rfl trivial (fun _ hC => Zb (r := y.op % 256) rfl rfl (by simp) (Yp 8 256 (by decide) rfl (by decide))) (Az 5 rfl rfl trivial (fun _ hC => R_rem (r := (j0 : Int)) rfl rfl (by decide) ((Int.tmod_eq_emod_of_nonneg (by omega)).trans hje)) (Ao 0 (Xd rfl (.inl rfl) (Xk (vs := [I 2, I 2, I 4, I 3, I 17, I 1]) H underlying22 sizeOf3 zeroValue3 rfl rfl (by decide) rfl rfl (by simp [Value.oneCell'])) (fun _ _ _ _ _ => trivial) ?_))); clear H; intro b64 w227 hb64 H)
          refine Az 6 rfl rfl trivial (fun _ hC => Qj (off' := j0) underlying22 sizeOf3 rfl rfl (by omega) (by omega) (by omega)) (Ao 7 ?_)
          refine Xv rfl (.inl rfl) (Qe (v := I (fOp y.op)) isAgg3 rfl (H.get .here) hjv) (fun _ => trivial) ?_
          (refine Az 12 rfl rfl trivial (fun _ hC => Qm (places := [(0, 1), (1, 1), (2, 1), (3, 1)]) (vs := [I (fOp y.op), I (y.a % 256), I 0, nilS]) underlying38 typeInfo38 rfl rfl (by kernel_rfl) rfl rfl rfl) (Az 13 rfl rfl trivial (fun _ hC => Qa (off' := 5) underlying46 rfl sizeOf38 (by decide) rfl rfl) (Ao 14 (Xb rfl (.inl rfl) (Qg (vs := [I (fOp y.op), I (y.a % 256), I 0, nilS]) H sizeOf38 rfl rfl (by simp [Value.oneCell']) (.there .here) (by simp [Zy])) (fun _ _ _ => trivial) ?_))); clear H; intro w234 H)
          refine Ad ?_
          exact ⟨kS, fOp y.op, y.a % 256, 0, nilS, [], (fun _ => hfop), RdS.nil, by decide, H.pop hb64⟩
       ·refine Jk ?_
        exact ⟨kS, y.op, y.a, y.c, y.dv, y.d, (fun h => absurd h (by assumption)), hyo.d, by have := hys.2.1; omega, H⟩
      ·(clear H; rintro E9 w2 ⟨op9, a9, b9, dv9, ds9, hop9, hd9, hdl9, H⟩)
       (refine Js (Jr (Jm (Jy rfl call14 rfl (wRaw (W1.Ql H kYs)) ?_))); rintro _ w243 ⟨ub, M1, rfl, hO1, H1⟩; have h243 := H.Yn hO1 H1; clear H H1 hO1; obtain ⟨hO1, H⟩ := h243; have hM1 := hO1.keys; obtain ⟨uba, ubc, rfl⟩ := hO1.form)
       refine Jm (Jx rfl rfl (Jx rfl rfl (Ja (Ja (Jn (Js (Jr (Jm (J (Qo (vs := sC y.kd y.s y.p y.n y.bv op9 a9 b9 dv9 y.c1 y.c2 y.c3 y.c4 y.c5 y.c6 y.cv) isAgg46 sizeOf46 rfl (H.get (.app _ .here)) rfl (by simp [sC])) ?_)))))))))
       (have hcv9 : y.cv.oneCell' = true := (by obtain ⟨a, c, e⟩ := Stp.fc hyo; rw [e]; rfl); refine Vl rfl (Qw rfl call15 rfl) (wDo (W1.Ql H kYs) Q1 (by omega) (by omega) hyo.w3 hop9 (hd9.Yd H kYs) hdl9 (hyo.b.Yd H kYs) (by have := hys.1; omega) hcv9) ?_; rintro _ w3 ⟨out, is, rfl, xs', now', T', k', S', qs', L, hTl, W2, e1, e2, hD, H1, hqs⟩; obtain ⟨hD2, H2⟩ := W1.own H kYs hD H1; have hB : RdS w3 (.slice uba 492 ubc) ((κ1.xs.take 492).map U) := RdS.own hO1 (fun p hp => H2.held p (by simp [hp])); have hD3 := Dk.app (L2 := M1 ++ [(c9, blk (sC y.kd y.s y.p y.n y.bv op9 a9 b9 dv9 y.c1 y.c2 y.c3 y.c4 y.c5 y.c6 y.cv) 46)]) hD2 (Yv hM1 (Qu hc9 Xu)); have hw1 := Hw1.size; have Hw3 := Zr Hw1 H2 (dk_new hN1 hD3 hw1); have hR3 := hR1.keepD W1 hD3 H2; have hN3 : DyN w5.heap.size { κ1 with xs := xs', now := now' } sp hb qs' := hN1.next rfl rfl (fun b hb => (hqs b hb).imp id (fun h => Nat.le_trans hw1 (Nat.le_trans H.size h))); have hF1 := fi_cv W1; have hl1 : 492 ≤ κ1.xs.length := hF1.len; have hF2 := fi_cv W2; have hl2 : 492 ≤ xs'.length := hF2.len; have Q2 : FamQ (cv { κ1 with xs := xs', now := now' }) := ⟨(hTl.fam Q1).p, (hTl.fam Q1).f⟩; obtain ⟨sl8, op8, a8, b8, D8, n8, e8, bk8, rfl, hD8, hsl8, hK⟩ := hTl.law hF1; obtain ⟨pI, dI, rfl⟩ := as_dec is; obtain ⟨pB, dB, rfl⟩ := as_dec bk8; clear H H1 H2 hO1; have H := Hp.refl w3)
       (refine Jm (Jx rfl rfl (Jx rfl rfl (Qb rfl (Qp (vs := z0) H zeroValue40 rfl) ?_))); clear H; intro c12 w258 hc12 H)
       (have _g := hD8; refine Qd rfl (Qg (vs := oC 0 sl8 op8 a8 b8 D8 n8 e8 nilS (decide pB) nilS 0) H sizeOf40 rfl rfl (Xq hD8 rfl rfl) .here (by simp [z0, oC])) ?_; clear H; intro w259 H; have H : Hp w3 [(c12, blk (oC 0 sl8 op8 a8 b8 D8 n8 e8 nilS (decide pB) nilS 0) 40)] w259 := H)
       (refine Ja (Jn (Js (Jr (Jm (Jy rfl call14 rfl (wRaw (W2.Ql H kYs)) ?_))))); rintro _ w4 ⟨ua, M2, rfl, hO2, H1⟩; have h265 := H.Yn hO2 H1; clear H H1 hO2; obtain ⟨hO2, H⟩ := h265; have hM2 := hO2.keys; obtain ⟨uaa, uac, rfl⟩ := hO2.form; have hA : RdS w4 (.slice uaa 492 uac) ((xs'.take 492).map U) := RdS.own hO2 (fun p hp => H.held p (by simp [hp])); have hB4 := hB.Yd H kYs; have hc12b := H.get (.app M2 .here); have W4 := W2.Ql H kYs; have Hw4 := Zr Hw3 H (by have hk9 : ∀ p ∈ M2 ++ [(c12, blk (oC 0 sl8 op8 a8 b8 D8 n8 e8 nilS (decide pB) nilS 0) 40)], w3.heap.size ≤ p.1 := Yv hM2 (Qu hc12 Xu); exact fun p hp => Nat.le_trans Hw3.size (hk9 p hp)); have hR4 := hR3.Ql H kYs; clear H hO2; have H := Hp.refl w4)
       refine Jm (Jx rfl rfl (Jx rfl rfl (Ja (Ja (Jn (Js (Js (Jr (Jm (J (Yl rfl rfl (by omega)) (Jm (Jt rfl rfl (Jm (Jt rfl rfl (J (Yl rfl rfl (by omega)) (Jp rfl (Jm (Jt rfl rfl (Jm (Jt rfl rfl (J (Qh underlying36 rfl) (Jt rfl rfl (J (Yl rfl rfl (by omega)) (Jp rfl (Jm (Jt rfl rfl (Jm (Jt rfl rfl (J (Qh underlying36 rfl) (Jt rfl rfl (J (Yl rfl rfl (by omega)) (Jp rfl (Jn (Jc rfl (Jk (Js (Jr (Ja (Jn (Jb ?_))))))))))))))))))))))))))))))))))))))))
       refine Yg [(2, 2), (16, 22), (110, 272)] (fun (j : Nat) E w' => j ≤ 8 ∧ E 16 = I j ∧ Hp w4 [] w') (fun j => 8 - j) 0 ?e2 ?r2
       ·exact ⟨by decide, rfl, H⟩
       ·(clear H; rintro j E w7 ⟨hj, h16, H⟩; refine Ur h16 ?_)
        refine Js (Js (Jr (Jm (J (Vb rfl rfl) (Jn (Xo rfl (fun h315 => ?_) (fun h315 => ?_)))))))
        ·refine Jk (Js (Jb (Js ?_)))
         ((have hKj := hK j (by omega); obtain ⟨⟨xp, xd⟩, hx9⟩ : ∃ z, Slot.Xy (win κ1.xs (24 * j) 24) = z := ⟨_, rfl⟩; obtain ⟨⟨yp, yd⟩, hy9⟩ : ∃ z, Slot.Xy (win xs' (24 * j) 24) = z := ⟨_, rfl⟩; rw [hx9, hy9] at hKj)) <;> refine Qk ?_
         (refine Jm (Jm (J (Bs (r := ((24 * j : Nat) : Int)) rfl rfl (by rw [Xc (by omega)]; omega)) (Jm (J (Bs (r := ((24 * j : Nat) : Int)) rfl rfl (by rw [Xc (by omega)]; omega)) (J (Xg (r := ((24 * j + 24 : Nat) : Int)) rfl rfl (by rw [Xc (by omega)]; omega)) (J (R_subU (i := 24 * j) (j := 24 * j + 24) hB4 underlying36 sizeOf5 rfl (.some rfl) (.some rfl) (by omega) (by simp; omega)) (J (Ua (xs := win κ1.xs (24 * j) 24) underlying36 underlying5 underlying9 rfl (subw (hB4.Yd H kYs) hl1 (by omega))) (Jz rfl call16 rfl (Slot.refOf_to hx9 win_len) H ?_)))))))); intro w329 H)
         (refine Jm (Jx rfl rfl (Jx rfl rfl (Qb rfl (Slot.Qt H) ?_))); clear H; intro c17 w333 hc17 H)
         (refine Qd rfl (Slot.Qn H rfl rfl .here) ?_; clear H; intro w334 H)
         (refine Ja (Jn (Js (Jr (Jm (Jm (J (Bs (r := ((24 * j : Nat) : Int)) rfl rfl (by rw [Xc (by omega)]; omega)) (Jm (J (Bs (r := ((24 * j : Nat) : Int)) rfl rfl (by rw [Xc (by omega)]; omega)) (J (Xg (r := ((24 * j + 24 : Nat) : Int)) rfl rfl (by rw [Xc (by omega)]; omega)) (J (R_subU (i := 24 * j) (j := 24 * j + 24) hA underlying36 sizeOf5 rfl (.some rfl) (.some rfl) (by omega) (by simp; omega)) (J (Ua (xs := win xs' (24 * j) 24) underlying36 underlying5 underlying9 rfl (subw (hA.Yd H kYs) hl2 (by omega))) (Jz rfl call16 rfl (Slot.refOf_to hy9 win_len) H ?_)))))))))))); intro w347 H)
         (refine Jm (Jx rfl rfl (Jx rfl rfl (Qb rfl (Slot.Qt H) ?_))); clear H; intro c19 w351 hc19 H)
         (refine Qd rfl (Slot.Qn H rfl rfl .here) ?_; clear H; intro w352 H)
         refine Ja (Jn (Js (Jr (Jm (Jm ?_)))))
         apply Xs 3 139 142 [(140, 142)] H
         case hc => rfl
         case h1 =>
          intro h359
          refine Jt rfl rfl (Jf 9 underlying40 rfl sizeOf4 rfl rfl (Jt rfl rfl (J (Qe (v := .bool (decide pB)) isAgg4 rfl (H.Qc hc12b kYs) rfl) (Jq rfl (Jn ?_)))))
          exact ⟨kS, rfl, H⟩
         case h0 =>
          intro h359
          refine Jg rfl rfl (Jg rfl rfl (Jp rfl (Jn ?_)))
          exact ⟨kS, rfl, H⟩
         case h2 =>
          (clear H; intro E359 w359 H)
          refine Jm ?_
          apply Xs 4 143 147 [(144, 147)] H
          case hc => rfl
          case h1 =>
           intro h373
           refine Jt rfl rfl (Jf 7 underlying40 rfl sizeOf33 rfl rfl (Jt rfl rfl (J (Qe (v := I e8) isAgg33 rfl (H.Qc hc12b kYs) rfl) (Jt rfl rfl (J (Yk rfl rfl) (Jq rfl (Jn ?_)))))))
           exact ⟨kS, rfl, H⟩
          case h0 =>
           intro h373
           refine Jg rfl rfl (Jg rfl rfl (Jg rfl rfl (Jp rfl (Jn ?_))))
           exact ⟨kS, rfl, H⟩
          case h2 =>
           (clear H; intro E373 w373 H)
           refine Jm ?_
           apply Xs 5 148 153 [(149, 153)] H
           case hc => rfl
           case h1 =>
            intro h390
            refine Jt rfl rfl (Jf 2 underlying40 rfl sizeOf38 rfl rfl (Jt rfl rfl (Jf 2 underlying38 rfl sizeOf3 rfl rfl (Jt rfl rfl (J (Qe (v := I op8) isAgg3 rfl (H.Qc hc12b kYs) rfl) (Jt rfl rfl (J (Yk rfl rfl) (Jq rfl (Jn ?_)))))))))
            exact ⟨kS, rfl, H⟩
           case h0 =>
            intro h390
            refine Jg rfl rfl (Jg rfl rfl (Jg rfl rfl (Jg rfl rfl (Jp rfl (Jn ?_)))))
            exact ⟨kS, rfl, H⟩
           case h2 =>
            (clear H; intro E390 w390 H)
            refine Jm ?_
            apply Xs 5 154 159 [(155, 159)] H
            case hc => rfl
            case h1 =>
             intro h410
             refine Jt rfl rfl (Jf 6 underlying40 rfl sizeOf3 rfl rfl (Jt rfl rfl (J (Qe (v := I n8) isAgg3 rfl (H.Qc hc12b kYs) rfl) (Jt rfl rfl (Jm (Jt rfl rfl (J (Yk rfl rfl) (Jq rfl (Jn ?_)))))))))
             exact ⟨kS, rfl, H⟩
            case h0 =>
             intro h410
             refine Jg rfl rfl (Jg rfl rfl (Jg rfl rfl (Jg rfl rfl (Jp rfl (Jn ?_)))))
             exact ⟨kS, rfl, H⟩
            case h2 =>
             (clear H; intro E410 w410 H)
             refine Ja (Jn ?_)
             refine W_seqS [(2, 2), (160, 183)] (fun E w' => Hp w4 [(c19, blk (Slot.piC yp) 58), (c17, blk (Slot.piC xp) 58)] w') ?c23 ?k23
             ·refine Js (Jr (Jm (Jm (J (Yk rfl rfl) (Jm ?_)))))
              apply Xs 3 163 166 [(164, 166)] H
              case hc => rfl
              case h1 =>
               intro h438
               refine Jt rfl rfl (Jm (Jt rfl rfl (J (Yk rfl rfl) (Jq rfl (Jn ?_)))))
               exact ⟨kS, rfl, H⟩
              case h0 =>
               intro h438
               refine Jg rfl rfl (Jg rfl rfl (Jp rfl (Jn ?_)))
               exact ⟨kS, rfl, H⟩
              case h2 =>
               (clear H; intro E438 w438 H)
               refine J (R_ne_bool underlying4 rfl rfl) (Jm ?_)
               apply Xz 15 168 183 [(169, 183)] H
               case hc => rfl
               case h1 =>
                intro h453
                refine Jt rfl rfl (Jm (Jt rfl rfl (Jm ?_)))
                apply Xs 12 170 182 [(171, 182)] H
                case hc => rfl
                case h1 =>
                 intro h458
                 refine Jt rfl rfl (Jf 1 underlying58 rfl sizeOf3 rfl rfl (Jt rfl rfl (Jl isAgg3 rfl (H.get .here) rfl (Jt rfl rfl (Jf 1 underlying40 rfl sizeOf3 rfl rfl (Jt rfl rfl (Jl isAgg3 rfl (H.Qc hc12b kYs) rfl (Jt rfl rfl (J (Xg rfl rfl (Xc (by omega))) (Jt rfl rfl (J (Zu rfl rfl) (Jt rfl rfl (Jm ?_)))))))))))))
                 apply Xz 4 177 181 [(178, 181)] H
                 case hc => rfl
                 case h1 =>
                  intro h473
                  refine Jt rfl rfl (Jf 0 underlying58 rfl sizeOf3 rfl rfl (Jt rfl rfl (Jl isAgg3 rfl (H.get .here) rfl (Jt rfl rfl (J (Zu rfl rfl) (Jt rfl rfl (Jp rfl (Jn ?_))))))))
                  exact ⟨kS, rfl, H⟩
                 case h0 =>
                  intro h473
                  refine Jg rfl rfl (Jg rfl rfl (Jg rfl rfl (Jt rfl rfl (Jq rfl (Jn ?_)))))
                  exact ⟨kS, rfl, H⟩
                 case h2 =>
                  intro E473 w473 H
                  refine Jt rfl rfl (Jq rfl (Jn ?_))
                  exact ⟨kS, rfl, H⟩
                case h0 =>
                 intro h458
                 refine Jg rfl rfl (Jg rfl rfl (Jg rfl rfl (Jg rfl rfl (Jg rfl rfl (Jg rfl rfl (Jg rfl rfl (Jo rfl rfl (Jo rfl rfl (Jo rfl rfl (Jg rfl rfl (Jt rfl rfl (Jp rfl (Jn ?_)))))))))))))
                 exact ⟨kS, rfl, H⟩
                case h2 =>
                 intro E458 w458 H
                 refine Jp rfl (Jn ?_)
                 exact ⟨kS, rfl, H⟩
               case h0 =>
                intro h453
                refine Jg rfl rfl (Jg rfl rfl (Jo rfl rfl (Jo rfl rfl (Jo rfl rfl (Jo rfl rfl (Jo rfl rfl (Jo rfl rfl (Jo rfl rfl (Jo rfl rfl (Jo rfl rfl (Jo rfl rfl (Jo rfl rfl (Jg rfl rfl (Jq rfl (Jn ?_)))))))))))))))
                exact ⟨kS, rfl, H⟩
               case h2 =>
                (clear H; intro E453 w453 H)
                refine Jn (Xo rfl (fun h531 => ?_) (fun h531 => ?_))
                ·refine Js ?_
                 (exact (bad24 hKj hsl8 (by assumption)).elim) <;> refine Qk ?_
                ·refine Jk ?_
                 exact ⟨kS, H⟩
             ·(clear H; rintro E23 w23 H)
              refine W_seqS [(2, 2), (22, 22), (184, 236)] (fun E w' => Hp w4 [(c19, blk (Slot.piC yp) 58), (c17, blk (Slot.piC xp) 58)] w') ?c25 ?k25
              ·refine Js (Jr (Jm (J (Yk rfl rfl) (Jm ?_))))
               apply Xs 4 186 190 [(187, 190)] H
               case hc => rfl
               case h1 =>
                intro h543
                refine Jt rfl rfl (Jf 0 underlying58 rfl sizeOf3 rfl rfl (Jt rfl rfl (Jl isAgg3 rfl (H.get (.there .here)) rfl (Jt rfl rfl (J (Yk rfl rfl) (Jq rfl (Jn ?_)))))))
                exact ⟨kS, rfl, H⟩
               case h0 =>
                intro h543
                refine Jg rfl rfl (Jg rfl rfl (Jg rfl rfl (Jp rfl (Jn ?_))))
                exact ⟨kS, rfl, H⟩
               case h2 =>
                (clear H; intro E543 w543 H)
                refine Jm ?_
                apply Xs 3 191 194 [(192, 194)] H
                case hc => rfl
                case h1 =>
                 intro h560
                 refine Jt rfl rfl (Jm (Jt rfl rfl (J (Yk rfl rfl) (Jq rfl (Jn ?_)))))
                 exact ⟨kS, rfl, H⟩
                case h0 =>
                 intro h560
                 refine Jg rfl rfl (Jg rfl rfl (Jp rfl (Jn ?_)))
                 exact ⟨kS, rfl, H⟩
                case h2 =>
                 (clear H; intro E560 w560 H)
                 refine Jn (Xo rfl (fun h574 => ?_) (fun h574 => ?_))
                 ·refine Js (Jr (Jm (Jm ?_)))
                  apply Xs 3 196 199 [(197, 199)] H
                  case hc => rfl
                  case h1 =>
                   intro h579
                   refine Jt rfl rfl (Jf 9 underlying40 rfl sizeOf4 rfl rfl (Jt rfl rfl (Jl isAgg4 rfl (H.Qc hc12b kYs) rfl (Jq rfl (Jn ?_)))))
                   exact ⟨kS, rfl, H⟩
                  case h0 =>
                   intro h579
                   refine Jg rfl rfl (Jg rfl rfl (Jp rfl (Jn ?_)))
                   exact ⟨kS, rfl, H⟩
                  case h2 =>
                   (clear H; intro E579 w579 H)
                   refine Jm ?_
                   apply Xs 26 200 226 [(201, 226)] H
                   case hc => rfl
                   case h1 =>
                    intro h593
                    refine Jt rfl rfl (Jf 2 underlying40 rfl sizeOf38 rfl rfl (Jt rfl rfl (Jf 2 underlying38 rfl sizeOf3 rfl rfl (Jt rfl rfl (Jl isAgg3 rfl (H.Qc hc12b kYs) rfl (Jt rfl rfl (J (Yk rfl rfl) (Jt rfl rfl (Jm ?_)))))))))
                    apply Xs 4 205 209 [(206, 209)] H
                    case hc => rfl
                    case h1 =>
                     intro h604
                     refine Jt rfl rfl (Jf 7 underlying40 rfl sizeOf33 rfl rfl (Jt rfl rfl (Jl isAgg33 rfl (H.Qc hc12b kYs) rfl (Jt rfl rfl (J (Yk rfl rfl) (Jt rfl rfl (Jq rfl (Jn ?_))))))))
                     exact ⟨kS, rfl, H⟩
                    case h0 =>
                     intro h604
                     refine Jg rfl rfl (Jg rfl rfl (Jg rfl rfl (Jt rfl rfl (Jp rfl (Jn ?_)))))
                     exact ⟨kS, rfl, H⟩
                    case h2 =>
                     intro E604 w604 H
                     refine Jt rfl rfl (Jm ?_)
                     apply Xs 9 210 219 [(211, 219)] H
                     case hc => rfl
                     case h1 =>
                      intro h624
                      refine Jt rfl rfl (Jf 6 underlying40 rfl sizeOf3 rfl rfl (Jt rfl rfl (Jl isAgg3 rfl (H.Qc hc12b kYs) rfl (Jt rfl rfl (Jm (Jt rfl rfl (J (Bs rfl rfl (Xc (by omega))) (Jt rfl rfl (Jf 3 underlying58 rfl sizeOf3 rfl rfl (Jt rfl rfl (Jl isAgg3 rfl (H.get (.there .here)) rfl (Jt rfl rfl (J (Xg rfl rfl rfl) (Jt rfl rfl (J (Yk rfl rfl) (Jt rfl rfl (Jq rfl (Jn ?_))))))))))))))))))
                      exact ⟨kS, rfl, H⟩
                     case h0 =>
                      intro h624
                      refine Jg rfl rfl (Jg rfl rfl (Jg rfl rfl (Jg rfl rfl (Jg rfl rfl (Jg rfl rfl (Jg rfl rfl (Jg rfl rfl (Jt rfl rfl (Jp rfl (Jn ?_))))))))))
                      exact ⟨kS, rfl, H⟩
                     case h2 =>
                      (clear H; intro E624 w624 H)
                      refine Jt rfl rfl (Jm ?_)
                      apply Xz 5 220 225 [(221, 225)] H
                      case hc => rfl
                      case h1 =>
                       intro h659
                       refine Jt rfl rfl (Jf 2 underlying40 rfl sizeOf38 rfl rfl (Jt rfl rfl (Jf 2 underlying38 rfl sizeOf3 rfl rfl (Jt rfl rfl (Jl isAgg3 rfl (H.Qc hc12b kYs) rfl (Jt rfl rfl (J (Yk rfl rfl) (Jt rfl rfl (Jp rfl (Jn ?_))))))))))
                       exact ⟨kS, rfl, H⟩
                      case h0 =>
                       intro h659
                       refine Jg rfl rfl (Jg rfl rfl (Jg rfl rfl (Jg rfl rfl (Jt rfl rfl (Jq rfl (Jn ?_))))))
                       exact ⟨kS, rfl, H⟩
                      case h2 =>
                       (clear H; intro E659 w659 H)
                       refine Jq rfl (Jn ?_)
                       exact ⟨kS, rfl, H⟩
                   case h0 =>
                    intro h593
                    refine Jg rfl rfl (Jg rfl rfl (Jg rfl rfl (Jg rfl rfl (Jg rfl rfl (Jo rfl rfl (Jo rfl rfl (Jo rfl rfl (Jg rfl rfl (Jg rfl rfl (Jo rfl rfl (Jo rfl rfl (Jo rfl rfl (Jo rfl rfl (Jo rfl rfl (Jo rfl rfl (Jo rfl rfl (Jo rfl rfl (Jg rfl rfl (Jg rfl rfl (Jo rfl rfl (Jo rfl rfl (Jo rfl rfl (Jo rfl rfl (Jg rfl rfl (Jp rfl (Jn ?_))))))))))))))))))))))))))
                    exact ⟨kS, rfl, H⟩
                   case h2 =>
                    (clear H; intro E593 w593 H)
                    refine Jm ?_
                    apply Xs 7 227 234 [(228, 234)] H
                    case hc => rfl
                    case h1 =>
                     intro h712
                     refine Jt rfl rfl (Jf 1 underlying58 rfl sizeOf3 rfl rfl (Jt rfl rfl (Jl isAgg3 rfl (H.get (.there .here)) rfl (Jt rfl rfl (Jf 1 underlying40 rfl sizeOf3 rfl rfl (Jt rfl rfl (Jl isAgg3 rfl (H.Qc hc12b kYs) rfl (Jt rfl rfl (J (Xg rfl rfl (Xc (by omega))) (Jt rfl rfl (J (Yk rfl rfl) (Jq rfl (Jn ?_)))))))))))))
                     exact ⟨kS, rfl, H⟩
                    case h0 =>
                     intro h712
                     refine Jg rfl rfl (Jg rfl rfl (Jg rfl rfl (Jg rfl rfl (Jg rfl rfl (Jg rfl rfl (Jp rfl (Jn ?_)))))))
                     exact ⟨kS, rfl, H⟩
                    case h2 =>
                     (clear H; intro E712 w712 H)
                     refine Ja (Jn (Js (Jr (Jm (J (Zd rfl) (Jn (Xo rfl (fun h744 => ?_) (fun h744 => ?_))))))))
                     ·refine Js ?_
                      (exact (bad28 hx9 (by omega) hKj (by assumption) (by assumption)).elim) <;> refine Qk ?_
                     ·refine Jk ?_
                      exact ⟨kS, H⟩
                 ·refine Jk ?_
                  exact ⟨kS, H⟩
              ·(clear H; rintro E25 w25 H)
               refine Js (Jr (Jm (J (Yk rfl rfl) (Jm ?_))))
               apply Xs 3 239 242 [(240, 242)] H
               case hc => rfl
               case h1 =>
                intro h757
                refine Jt rfl rfl (Jm (Jt rfl rfl (J (Yk rfl rfl) (Jq rfl (Jn ?_)))))
                exact ⟨kS, rfl, H⟩
               case h0 =>
                intro h757
                refine Jg rfl rfl (Jg rfl rfl (Jp rfl (Jn ?_)))
                exact ⟨kS, rfl, H⟩
               case h2 =>
                (clear H; intro E757 w757 H)
                refine Jm ?_
                apply Xs 6 243 249 [(244, 249)] H
                case hc => rfl
                case h1 =>
                 intro h771
                 refine Jt rfl rfl (Jf 1 underlying58 rfl sizeOf3 rfl rfl (Jt rfl rfl (Jl isAgg3 rfl (H.get (.there .here)) rfl (Jt rfl rfl (Jf 1 underlying58 rfl sizeOf3 rfl rfl (Jt rfl rfl (Jl isAgg3 rfl (H.get .here) rfl (Jt rfl rfl (J (Zu rfl rfl) (Jq rfl (Jn ?_)))))))))))
                 exact ⟨kS, rfl, H⟩
                case h0 =>
                 intro h771
                 refine Jg rfl rfl (Jg rfl rfl (Jg rfl rfl (Jg rfl rfl (Jg rfl rfl (Jp rfl (Jn ?_))))))
                 exact ⟨kS, rfl, H⟩
                case h2 =>
                 (clear H; intro E771 w771 H)
                 refine Jm ?_
                 apply Xs 22 250 272 [(251, 272)] H
                 case hc => rfl
                 case h1 =>
                  intro h794
                  refine Jt rfl rfl (Jf 1 underlying58 rfl sizeOf3 rfl rfl (Jt rfl rfl (Jl isAgg3 rfl (H.get .here) rfl (Jt rfl rfl (J (Zu rfl rfl) (Jt rfl rfl (Jm ?_)))))))
                  apply Xz 3 254 257 [(255, 257)] H
                  case hc => rfl
                  case h1 =>
                   intro h803
                   refine Jt rfl rfl (Jm (Jt rfl rfl (J (Zd rfl) (Jt rfl rfl (Jp rfl (Jn ?_))))))
                   exact ⟨kS, rfl, H⟩
                  case h0 =>
                   intro h803
                   refine Jg rfl rfl (Jg rfl rfl (Jt rfl rfl (Jq rfl (Jn ?_))))
                   exact ⟨kS, rfl, H⟩
                  case h2 =>
                   intro E803 w803 H
                   refine Jt rfl rfl (Jm ?_)
                   apply Xz 5 258 263 [(259, 263)] H
                   case hc => rfl
                   case h1 =>
                    intro h820
                    refine Jt rfl rfl (Jf 2 underlying40 rfl sizeOf38 rfl rfl (Jt rfl rfl (Jf 2 underlying38 rfl sizeOf3 rfl rfl (Jt rfl rfl (Jl isAgg3 rfl (H.Qc hc12b kYs) rfl (Jt rfl rfl (J (Zu rfl rfl) (Jt rfl rfl (Jp rfl (Jn ?_))))))))))
                    exact ⟨kS, rfl, H⟩
                   case h0 =>
                    intro h820
                    refine Jg rfl rfl (Jg rfl rfl (Jg rfl rfl (Jg rfl rfl (Jt rfl rfl (Jq rfl (Jn ?_))))))
                    exact ⟨kS, rfl, H⟩
                   case h2 =>
                    (clear H; intro E820 w820 H)
                    refine Jt rfl rfl (Jm ?_)
                    apply Xz 7 264 271 [(265, 271)] H
                    case hc => rfl
                    case h1 =>
                     intro h843
                     refine Jt rfl rfl (Jf 1 underlying58 rfl sizeOf3 rfl rfl (Jt rfl rfl (Jl isAgg3 rfl (H.get (.there .here)) rfl (Jt rfl rfl (Jf 1 underlying40 rfl sizeOf3 rfl rfl (Jt rfl rfl (Jl isAgg3 rfl (H.Qc hc12b kYs) rfl (Jt rfl rfl (J (Xg rfl rfl (Xc (by omega))) (Jt rfl rfl (J (Zu rfl rfl) (Jt rfl rfl (Jp rfl (Jn ?_))))))))))))))
                     exact ⟨kS, rfl, H⟩
                    case h0 =>
                     intro h843
                     refine Jg rfl rfl (Jg rfl rfl (Jg rfl rfl (Jg rfl rfl (Jg rfl rfl (Jg rfl rfl (Jt rfl rfl (Jq rfl (Jn ?_))))))))
                     exact ⟨kS, rfl, H⟩
                    case h2 =>
                     (clear H; intro E843 w843 H)
                     refine Jq rfl (Jn ?_)
                     exact ⟨kS, rfl, H⟩
                 case h0 =>
                  intro h794
                  refine Jg rfl rfl (Jg rfl rfl (Jg rfl rfl (Jg rfl rfl (Jo rfl rfl (Jo rfl rfl (Jg rfl rfl (Jg rfl rfl (Jo rfl rfl (Jo rfl rfl (Jo rfl rfl (Jo rfl rfl (Jg rfl rfl (Jg rfl rfl (Jo rfl rfl (Jo rfl rfl (Jo rfl rfl (Jo rfl rfl (Jo rfl rfl (Jo rfl rfl (Jg rfl rfl (Jp rfl (Jn ?_))))))))))))))))))))))
                  exact ⟨kS, rfl, H⟩
                 case h2 =>
                  (clear H; intro E794 w794 H)
                  refine Jn (Xo rfl (fun h898 => ?_) (fun h898 => ?_))
                  ·refine Js ?_
                   (exact (bad30 hKj (by assumption)).elim) <;> refine Qk ?_
                  ·refine Jk (Jr (Jm (J (Xg rfl rfl (Xc (by omega))) (Ja (Jn ?_)))))
                   exact ⟨kS, j + 1, by omega, by omega, rfl, H.none kYs⟩
        ·refine Xr ?_
         refine (if_pos rfl).mpr ?_
         refine Jr (Jm (J (Xg rfl rfl (Xc (by omega))) (Ja (Jn ?_))))
         (have H9 := Zr Hw4 H (fun _ h => nomatch h); exact ⟨kS, i + 1, by omega, by omega, rfl, { κ1 with xs := xs', now := now' }, T', k', S', qs', H9, W4.Ql H Xu, Q2, by omega, by omega, hN3, hR4.Ql H Xu, fun y hy => (hok5 y hy).Ql H9 Xu⟩)
     ·refine Xr ?_
      refine (if_pos rfl).mpr ?_
      (refine Js (Jr (Jz rfl call10 rfl (awake_ret _) H ?_)); intro w920 H)
      refine Ja (Jn (Je ?_))
      exact ⟨_, rfl, rfl, Zr (Zr Hw5 Hw1 (fun _ h => nomatch h)) H (fun _ h => nomatch h)⟩
end Go.Proofs.YtlpmfldijgdcoaaGreatDoor.Wp
