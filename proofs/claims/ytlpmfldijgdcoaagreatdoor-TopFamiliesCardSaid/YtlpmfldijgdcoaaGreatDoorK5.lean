/-
What bytes are: one of these, free, or bad. Front groups as bytes. Commons: what lies in the world; where a record is; its bytes are read. Commons: records are read. Commons: records are written. Processes' calls: who one is; a call that asks for the parent. Hosts: the section is asked for, and left; what a call returned; signals that nobody sent. Hosts: what is told at the end of a call; the call itself; a pick. Commons that were looked at: what is told of each record, whether it is bad or not.
-/
import Derived.Test.YtlpmfldijgdcoaaGreatDoorK4
set_option maxRecDepth 100000
set_option maxHeartbeats 16000000
namespace Go.Proofs.YtlpmfldijgdcoaaGreatDoor.Ring
open Go Go.Proofs Fx Codec Tryz
/-- what a call yields, as two ways -/
theorem Dj {xs : List UInt8} {q : Nat} {w : World} {l : Value} (hq : w.heap[q]? = some cod) (hl : RdS w l (xs.map U)) (hb : xs.length ≤ 100000) :
  Ret Tryz.prog 148 #[ptr q 0, l] w fun v w' => ((good xs ∧ v = .tuple #[vP (ofB xs), .bool true]) ∨ (¬ good xs ∧ v = .tuple #[vP Xn, .bool false])) ∧ Hp w [] w' := by
 refine Qy (args := [_, _]) func148 rfl ntmps148 results148 (by simp) ?_
 have H := Hp.refl w
 obtain ⟨ao, ca, rfl⟩ := hl.form
 simp only [List.length_map] at hl ⊢
 by_cases h8 : xs.length = 40
 ·by_cases hg : good xs
  ·(refine Js (Jr (Qb rfl (Qt H) ?_)); clear H; intro b4 w3 hb4 H)
   (refine Ja (Jn (Js (Jr (Qb rfl (Qt H) ?_)))); clear H; intro b6 w8 hb6 H)
   refine Jn (Js (Js (Jr (Jm (Ji rfl (Jf 2 underlying261 rfl sizeOf247 rfl rfl (Jl isAgg247 rfl (H.Qc hq kYs) rfl (J (Vy underlying247 rfl rfl) (Jm (Jt rfl rfl (Jm (Jt rfl rfl (J (Qh underlying36 rfl) (Jt rfl rfl (Jm (Jt rfl rfl (Ji rfl (Jt rfl rfl (Jf 0 underlying261 rfl sizeOf3 rfl rfl (Jt rfl rfl (Jl isAgg3 rfl (H.Qc hq kYs) rfl (Jt rfl rfl (J (Yl rfl rfl (by omega)) (Jp rfl (Jn (Jc rfl (Jk (Js ?_))))))))))))))))))))))))))))
   (refine Xi (KH w []) (fun _ => false) (by kernel_rfl) H ?_; clear H; intro w38 H)
   refine Am 0 rfl H.kK (Az 1 rfl rfl H.kK (fun _ hC => Qf rfl) (Az 2 rfl rfl H.kK (fun _ hC => Qa (off' := 2) underlying261 rfl sizeOf247 (by decide) rfl rfl) (Az 3 rfl rfl H.kK (fun _ hC => Qe isAgg247 rfl (hC.old.block hq (by simp)) rfl) (Am 4 rfl H.kK (Zf (i := 5) (j := 10) (by kernel_rfl) ?_ ?_)))))
   ·(refine Qv rfl (.inl rfl) (Qw rfl call65 rfl) (Ze (xs := xs) (hl.Yd H kYs) (by omega)) (fun _ _ ⟨M, hO, H1⟩ _ => ((H.Yn hO H1).2).kh (by simp) (Yv (H.Yn hO H1).1.keys kYs)) ?_; rintro u w45 ⟨M, hO, H1⟩; have h45 := H.Yn hO H1; clear H H1 hO; obtain ⟨hO, H⟩ := h45; have hMk := hO.keys; obtain ⟨a5, c5, rfl⟩ := hO.form)
    refine Zf (i := 6) (j := 10) (by kernel_rfl) ?_ ?_
    ·(refine Qv rfl (.inl rfl) (Qw rfl call163 rfl) (Zw (xs := xs) (RdS.own hO (fun p hp => H.held p (by simp [hp]))) h8) (fun _ _ hR _ => (H.seq0 hR.2).kh (by simp) kYs) ?_; rintro v w47 ⟨hv, H1⟩; rw [decide_eq_true hg.2] at hv; subst hv; replace H := H.seq0 H1; clear H1)
     (refine Am 7 rfl H.kK (Az 8 rfl rfl H.kK (fun _ hC => Qs rfl rfl) (Az 9 rfl rfl H.kK (fun _ hC => Qs rfl rfl) (Ao 10 (Xd rfl (.inl rfl) (Qt H) (fun _ _ _ H => kC) ?_)))); clear H; intro b7 w52 hb7 H)
     (refine Ao 11 (Xb rfl (.inl rfl) (Qn (q := (ofB xs)) H rfl rfl .here) (fun _ H => kC) ?_); clear H; intro w54 H; replace H := Hp.Uv (A := [_]) H hMk)
     (refine Aa 12 rfl H.kK (Ad (Js (Js (Jr (Jm (J (Xj rfl) (Jn (Jc rfl (Jk (Js (Jr (J (Xa rfl (H.get .here)) (Qd rfl (Qn (q := (ofB xs)) H rfl rfl (.there (.there .here))) ?_))))))))))))); clear H; intro w68 H)
     refine Ja (Jn (Je ?_))
     exact ⟨_, ⟨_, _, rfl, ldP (p := (ofB xs)) (H.get (.there (.there .here))), rfl⟩, .inl ⟨hg, rfl⟩, H.none kYs⟩
    ·(refine Xd rfl (.inl rfl) (Qt H) (fun _ _ _ H => kC) ?_; clear H; intro b7 w73 hb7 H)
     (refine Ao 6 (Qv rfl (.inl rfl) (Qw rfl call163 rfl) (Zw (xs := xs) (RdS.own hO (fun p hp => H.held p (by simp [hp]))) h8) (fun _ _ hR _ => (H.seq0 hR.2).kh (by simp) kYs) ?_); rintro v w75 ⟨hv, H1⟩; rw [decide_eq_true hg.2] at hv; subst hv; replace H := H.seq0 H1; clear H1)
     (refine Am 7 rfl H.kK (Az 8 rfl rfl H.kK (fun _ hC => Qs rfl rfl) (Az 9 rfl rfl H.kK (fun _ hC => Qs rfl rfl) (Ao 11 (Xb rfl (.inl rfl) (Qn (q := (ofB xs)) H rfl rfl .here) (fun _ H => kC) ?_)))); clear H; intro w80 H; replace H := Hp.Uv (A := [_]) H hMk)
     (refine Aa 12 rfl H.kK (Ad (Js (Js (Jr (Jm (J (Xj rfl) (Jn (Jc rfl (Jk (Js (Jr (J (Xa rfl (H.get .here)) (Qd rfl (Qn (q := (ofB xs)) H rfl rfl (.there (.there .here))) ?_))))))))))))); clear H; intro w94 H)
     refine Ja (Jn (Je ?_))
     exact ⟨_, ⟨_, _, rfl, ldP (p := (ofB xs)) (H.get (.there (.there .here))), rfl⟩, .inl ⟨hg, rfl⟩, H.none kYs⟩
   ·(refine Xd rfl (.inl rfl) (Qt H) (fun _ _ _ H => kC) ?_; clear H; intro b7 w99 hb7 H)
    (refine Ao 5 (Qv rfl (.inl rfl) (Qw rfl call65 rfl) (Ze (xs := xs) (hl.Yd H kYs) (by omega)) (fun _ _ ⟨M, hO, H1⟩ _ => ((H.Yn hO H1).2).kh (by simp) (Yv (H.Yn hO H1).1.keys kYs)) ?_); rintro u w101 ⟨M, hO, H1⟩; have h101 := H.Yn hO H1; clear H H1 hO; obtain ⟨hO, H⟩ := h101; have hMk := hO.keys; obtain ⟨a5, c5, rfl⟩ := hO.form)
    (refine Ao 6 (Qv rfl (.inl rfl) (Qw rfl call163 rfl) (Zw (xs := xs) (RdS.own hO (fun p hp => H.held p (by simp [hp]))) h8) (fun _ _ hR _ => (H.seq0 hR.2).kh (by simp) kYs) ?_); rintro v w103 ⟨hv, H1⟩; rw [decide_eq_true hg.2] at hv; subst hv; replace H := H.seq0 H1; clear H1)
    (refine Am 7 rfl H.kK (Az 8 rfl rfl H.kK (fun _ hC => Qs rfl rfl) (Az 9 rfl rfl H.kK (fun _ hC => Qs rfl rfl) (Ao 11 (Xb rfl (.inl rfl) (Qn (q := (ofB xs)) H rfl rfl (.app _ .here)) (fun _ H => kC) ?_)))); clear H; intro w108 H; replace H := Hp.Ub H hMk)
    (refine Aa 12 rfl H.kK (Ad (Js (Js (Jr (Jm (J (Xj rfl) (Jn (Jc rfl (Jk (Js (Jr (J (Xa rfl (H.get .here)) (Qd rfl (Qn (q := (ofB xs)) H rfl rfl (.there (.there .here))) ?_))))))))))))); clear H; intro w122 H)
    refine Ja (Jn (Je ?_))
    exact ⟨_, ⟨_, _, rfl, ldP (p := (ofB xs)) (H.get (.there (.there .here))), rfl⟩, .inl ⟨hg, rfl⟩, H.none kYs⟩
  ·(refine Js (Jr (Qb rfl (Qt H) ?_)); clear H; intro b4 w3 hb4 H)
   (refine Ja (Jn (Js (Jr (Qb rfl (Qt H) ?_)))); clear H; intro b6 w8 hb6 H)
   refine Jn (Js (Js (Jr (Jm (Ji rfl (Jf 2 underlying261 rfl sizeOf247 rfl rfl (Jl isAgg247 rfl (H.Qc hq kYs) rfl (J (Vy underlying247 rfl rfl) (Jm (Jt rfl rfl (Jm (Jt rfl rfl (J (Qh underlying36 rfl) (Jt rfl rfl (Jm (Jt rfl rfl (Ji rfl (Jt rfl rfl (Jf 0 underlying261 rfl sizeOf3 rfl rfl (Jt rfl rfl (Jl isAgg3 rfl (H.Qc hq kYs) rfl (Jt rfl rfl (J (Yl rfl rfl (by omega)) (Jp rfl (Jn (Jc rfl (Jk (Js ?_))))))))))))))))))))))))))))
   (refine Xi (KH w []) (fun _ => false) (by kernel_rfl) H ?_; clear H; intro w38 H)
   refine Am 0 rfl H.kK (Az 1 rfl rfl H.kK (fun _ hC => Qf rfl) (Az 2 rfl rfl H.kK (fun _ hC => Qa (off' := 2) underlying261 rfl sizeOf247 (by decide) rfl rfl) (Az 3 rfl rfl H.kK (fun _ hC => Qe isAgg247 rfl (hC.old.block hq (by simp)) rfl) (Am 4 rfl H.kK (Zf (i := 5) (j := 10) (by kernel_rfl) ?_ ?_)))))
   ·(refine Qv rfl (.inl rfl) (Qw rfl call65 rfl) (Ze (xs := xs) (hl.Yd H kYs) (by omega)) (fun _ _ ⟨M, hO, H1⟩ _ => ((H.Yn hO H1).2).kh (by simp) (Yv (H.Yn hO H1).1.keys kYs)) ?_; rintro u w45 ⟨M, hO, H1⟩; have h45 := H.Yn hO H1; clear H H1 hO; obtain ⟨hO, H⟩ := h45; have hMk := hO.keys; obtain ⟨a5, c5, rfl⟩ := hO.form)
    refine Zf (i := 6) (j := 10) (by kernel_rfl) ?_ ?_
    ·(refine Qv rfl (.inl rfl) (Qw rfl call163 rfl) (Zw (xs := xs) (RdS.own hO (fun p hp => H.held p (by simp [hp]))) h8) (fun _ _ hR _ => (H.seq0 hR.2).kh (by simp) kYs) ?_; rintro v w47 ⟨hv, H1⟩; rw [decide_eq_false (fun h => hg ⟨h8, h⟩)] at hv; subst hv; replace H := H.seq0 H1; clear H1)
     (refine Am 7 rfl H.kK (Az 8 rfl rfl H.kK (fun _ hC => Qs rfl rfl) (Az 9 rfl rfl H.kK (fun _ hC => Qs rfl rfl) (Ao 10 (Xd rfl (.inl rfl) (Qt H) (fun _ _ _ H => kC) ?_)))); clear H; intro b7 w52 hb7 H)
     (refine Ao 11 (Xb rfl (.inl rfl) (Qn (q := (ofB xs)) H rfl rfl .here) (fun _ H => kC) ?_); clear H; intro w54 H; replace H := Hp.Uv (A := [_]) H hMk)
     (refine Aa 12 rfl H.kK (Ad (Js (Js (Jr (Jm (J (Xx rfl) (Jn (Jd rfl (Js (Jr (J (Xa rfl (H.get (.there .here))) (Qd rfl (Qn (q := Xn) H rfl rfl (.there (.there .here))) ?_)))))))))))); clear H; intro w67 H)
     refine Ja (Jn (Je ?_))
     exact ⟨_, ⟨_, _, rfl, ldP (p := Xn) (H.get (.there (.there .here))), rfl⟩, .inr ⟨hg, rfl⟩, H.none kYs⟩
    ·(refine Xd rfl (.inl rfl) (Qt H) (fun _ _ _ H => kC) ?_; clear H; intro b7 w72 hb7 H)
     (refine Ao 6 (Qv rfl (.inl rfl) (Qw rfl call163 rfl) (Zw (xs := xs) (RdS.own hO (fun p hp => H.held p (by simp [hp]))) h8) (fun _ _ hR _ => (H.seq0 hR.2).kh (by simp) kYs) ?_); rintro v w74 ⟨hv, H1⟩; rw [decide_eq_false (fun h => hg ⟨h8, h⟩)] at hv; subst hv; replace H := H.seq0 H1; clear H1)
     (refine Am 7 rfl H.kK (Az 8 rfl rfl H.kK (fun _ hC => Qs rfl rfl) (Az 9 rfl rfl H.kK (fun _ hC => Qs rfl rfl) (Ao 11 (Xb rfl (.inl rfl) (Qn (q := (ofB xs)) H rfl rfl .here) (fun _ H => kC) ?_)))); clear H; intro w79 H; replace H := Hp.Uv (A := [_]) H hMk)
     (refine Aa 12 rfl H.kK (Ad (Js (Js (Jr (Jm (J (Xx rfl) (Jn (Jd rfl (Js (Jr (J (Xa rfl (H.get (.there .here))) (Qd rfl (Qn (q := Xn) H rfl rfl (.there (.there .here))) ?_)))))))))))); clear H; intro w92 H)
     refine Ja (Jn (Je ?_))
     exact ⟨_, ⟨_, _, rfl, ldP (p := Xn) (H.get (.there (.there .here))), rfl⟩, .inr ⟨hg, rfl⟩, H.none kYs⟩
   ·(refine Xd rfl (.inl rfl) (Qt H) (fun _ _ _ H => kC) ?_; clear H; intro b7 w97 hb7 H)
    (refine Ao 5 (Qv rfl (.inl rfl) (Qw rfl call65 rfl) (Ze (xs := xs) (hl.Yd H kYs) (by omega)) (fun _ _ ⟨M, hO, H1⟩ _ => ((H.Yn hO H1).2).kh (by simp) (Yv (H.Yn hO H1).1.keys kYs)) ?_); rintro u w99 ⟨M, hO, H1⟩; have h99 := H.Yn hO H1; clear H H1 hO; obtain ⟨hO, H⟩ := h99; have hMk := hO.keys; obtain ⟨a5, c5, rfl⟩ := hO.form)
    (refine Ao 6 (Qv rfl (.inl rfl) (Qw rfl call163 rfl) (Zw (xs := xs) (RdS.own hO (fun p hp => H.held p (by simp [hp]))) h8) (fun _ _ hR _ => (H.seq0 hR.2).kh (by simp) kYs) ?_); rintro v w101 ⟨hv, H1⟩; rw [decide_eq_false (fun h => hg ⟨h8, h⟩)] at hv; subst hv; replace H := H.seq0 H1; clear H1)
    (refine Am 7 rfl H.kK (Az 8 rfl rfl H.kK (fun _ hC => Qs rfl rfl) (Az 9 rfl rfl H.kK (fun _ hC => Qs rfl rfl) (Ao 11 (Xb rfl (.inl rfl) (Qn (q := (ofB xs)) H rfl rfl (.app _ .here)) (fun _ H => kC) ?_)))); clear H; intro w106 H; replace H := Hp.Ub H hMk)
    (refine Aa 12 rfl H.kK (Ad (Js (Js (Jr (Jm (J (Xx rfl) (Jn (Jd rfl (Js (Jr (J (Xa rfl (H.get (.there .here))) (Qd rfl (Qn (q := Xn) H rfl rfl (.there (.there .here))) ?_)))))))))))); clear H; intro w119 H)
    refine Ja (Jn (Je ?_))
    exact ⟨_, ⟨_, _, rfl, ldP (p := Xn) (H.get (.there (.there .here))), rfl⟩, .inr ⟨hg, rfl⟩, H.none kYs⟩
 ·(refine Js (Jr (Qb rfl (Qt H) ?_)); clear H; intro b4 w3 hb4 H)
  (refine Ja (Jn (Js (Jr (Qb rfl (Qt H) ?_)))); clear H; intro b6 w8 hb6 H)
  (refine Jn (Js (Js (Jr (Jm (Ji rfl (Jf 2 underlying261 rfl sizeOf247 rfl rfl (Jl isAgg247 rfl (H.Qc hq kYs) rfl (J (Vy underlying247 rfl rfl) (Jm (Jt rfl rfl (Jm (Jt rfl rfl (J (Qh underlying36 rfl) (Jt rfl rfl (Jm (Jt rfl rfl (Ji rfl (Jt rfl rfl (Jf 0 underlying261 rfl sizeOf3 rfl rfl (Jt rfl rfl (Jl isAgg3 rfl (H.Qc hq kYs) rfl (Jt rfl rfl (J (Dq rfl rfl (by omega)) (Jp rfl (Jn (Jd rfl (Js (Jr (J (Xa rfl (H.get .here)) (Qd rfl (Qn (q := Xn) H rfl rfl (.there .here)) ?_)))))))))))))))))))))))))))))); clear H; intro w39 H)
  refine Ja (Jn (Je ?_))
  exact ⟨_, ⟨_, _, rfl, ldP (p := Xn) (H.get (.there .here)), rfl⟩, .inr ⟨fun hg => h8 hg.1, rfl⟩, H.none kYs⟩
theorem dec_ret {xs : List UInt8} {w : World} {l : Value} (hl : RdS w l (xs.map U)) (hb : xs.length ≤ 100000) :
  Ret Tryz.prog 108 #[l] w fun v w' => v = .tuple #[vP (Xy xs).1, I (Xy xs).2] ∧ Hp w [] w' := by
 refine Qy (args := [_]) func108 rfl ntmps108 results108 (by simp) ?_
 have H := Hp.refl w
 obtain ⟨ao, ca, rfl⟩ := hl.form
 simp only [List.length_map] at hl ⊢
 by_cases hf : xs.length = 40 ∧ ∀ x ∈ xs, x = 0
 ·have h8 := hf.1
  rw [Uk hf.1 hf.2]
  (refine Js (Jr (Qb rfl (Qt H) ?_)); clear H; intro b2 w3 hb2 H)
  (refine Ja (Jn (Js (Js (Jr (Jm (J (Qh underlying36 rfl) (J (Yr rfl rfl (by omega)) (Jm (Jt rfl rfl (Jm (Jt rfl rfl (Jy rfl call146 rfl (Dx (hl.Yd H kYs) (by omega)) ?_)))))))))))); rintro v w16 ⟨hv, H1⟩; rw [decide_eq_true hf.2] at hv; subst hv; replace H := H.seq0 H1; clear H1)
  refine Jq rfl (Jn (Jd rfl (Js (Jr (Ym rfl Uw ?_)))))
  (refine Qd rfl (Qn (q := Xn) H rfl rfl .here) ?_; clear H; intro w23 H)
  refine Ja (Jn (Je ?_))
  exact ⟨_, ⟨_, _, rfl, ldP (p := Xn) (H.get .here), rfl⟩, rfl, H.none kYs⟩
 ·by_cases h8 : xs.length = 40
  ·(refine Js (Jr (Qb rfl (Qt H) ?_)); clear H; intro b2 w3 hb2 H)
   (refine Ja (Jn (Js (Js (Jr (Jm (J (Qh underlying36 rfl) (J (Yr rfl rfl (by omega)) (Jm (Jt rfl rfl (Jm (Jt rfl rfl (Jy rfl call146 rfl (Dx (hl.Yd H kYs) (by omega)) ?_)))))))))))); rintro v w16 ⟨hv, H1⟩; rw [decide_eq_false (fun h => hf ⟨h8, h⟩)] at hv; subst hv; replace H := H.seq0 H1; clear H1)
   (refine Jq rfl (Jn (Jc rfl (Jk (Js (Jr (Jy rfl call122 rfl (Vr _) ?_)))))); rintro _ w23 ⟨q, rfl, hq, H1⟩; have hsz := H.size; replace H := H.Zo H1 (Qu hq Xu); replace hq := Nat.le_trans hsz hq; clear H1 hsz)
   (refine Jm (Jy rfl call148 rfl (Dj (xs := xs) (H.get .here) (hl.Yd H kYs) hb) ?_); rintro _ w25 ⟨(⟨hg, rfl⟩ | ⟨hg, rfl⟩), H1⟩ <;> (replace H := H.seq0 H1; clear H1))
   ·(refine Jm (Jx rfl rfl (Jx rfl rfl (Qb rfl (Qt H) ?_))); clear H; intro b4 w29 hb4 H)
    (have _g := hg.1; refine Qd rfl (Qn (q := (ofB xs)) H rfl rfl .here) ?_; clear H; intro w30 H)
    refine Ja (Jn (Js (Js (Jr (Jm (J (Xj rfl) (Jn (Jc rfl (Jk (Js (Jr (J (Xa rfl (H.get .here)) ?_))))))))))))
    (have _g := hg.1; refine Qd rfl (Qn (q := (ofB xs)) H rfl rfl (.there (.there .here))) ?_; clear H; intro w44 H)
    refine Ja (Jn (Je ?_))
    exact ⟨_, ⟨_, _, rfl, ldP (p := (ofB xs)) (H.get (.there (.there .here))), rfl⟩, (by rw [Vj hg]; rfl), H.none kYs⟩
   ·(refine Jm (Jx rfl rfl (Jx rfl rfl (Qb rfl (Qt H) ?_))); clear H; intro b4 w52 hb4 H)
    (refine Qd rfl (Qn (q := Xn) H rfl rfl .here) ?_; clear H; intro w53 H)
    refine Ja (Jn (Js (Js (Jr (Jm (J (Xx rfl) (Jn (Jd rfl (Js (Jr (Ym rfl Uw ?_)))))))))))
    (refine Qd rfl (Qn (q := Xn) H rfl rfl (.there (.there .here))) ?_; clear H; intro w66 H)
    refine Ja (Jn (Je ?_))
    exact ⟨_, ⟨_, _, rfl, ldP (p := Xn) (H.get (.there (.there .here))), rfl⟩, (by rw [Ue hg hf]; rfl), H.none kYs⟩
  ·(refine Js (Jr (Qb rfl (Qt H) ?_)); clear H; intro b2 w3 hb2 H)
   (refine Ja (Jn (Js (Js (Jr (Jm (J (Qh underlying36 rfl) (J (Xf rfl rfl (by omega)) (Jm (Jg rfl rfl (Jg rfl rfl (Jp rfl (Jn (Jc rfl (Jk (Js (Jr (Jy rfl call122 rfl (Vr _) ?_))))))))))))))))); rintro _ w21 ⟨q, rfl, hq, H1⟩; have hsz := H.size; replace H := H.Zo H1 (Qu hq Xu); replace hq := Nat.le_trans hsz hq; clear H1 hsz)
   (refine Jm (Jy rfl call148 rfl (Dj (xs := xs) (H.get .here) (hl.Yd H kYs) hb) ?_); rintro _ w23 ⟨(⟨hg, rfl⟩ | ⟨hg, rfl⟩), H1⟩ <;> (replace H := H.seq0 H1; clear H1))
   ·(refine Jm (Jx rfl rfl (Jx rfl rfl (Qb rfl (Qt H) ?_))); clear H; intro b4 w27 hb4 H)
    (have _g := hg.1; refine Qd rfl (Qn (q := (ofB xs)) H rfl rfl .here) ?_; clear H; intro w28 H)
    refine Ja (Jn (Js (Js (Jr (Jm (J (Xj rfl) (Jn (Jc rfl (Jk (Js (Jr (J (Xa rfl (H.get .here)) ?_))))))))))))
    (have _g := hg.1; refine Qd rfl (Qn (q := (ofB xs)) H rfl rfl (.there (.there .here))) ?_; clear H; intro w42 H)
    refine Ja (Jn (Je ?_))
    exact ⟨_, ⟨_, _, rfl, ldP (p := (ofB xs)) (H.get (.there (.there .here))), rfl⟩, (by rw [Vj hg]; rfl), H.none kYs⟩
   ·(refine Jm (Jx rfl rfl (Jx rfl rfl (Qb rfl (Qt H) ?_))); clear H; intro b4 w50 hb4 H)
    (refine Qd rfl (Qn (q := Xn) H rfl rfl .here) ?_; clear H; intro w51 H)
    refine Ja (Jn (Js (Js (Jr (Jm (J (Xx rfl) (Jn (Jd rfl (Js (Jr (Ym rfl Uw ?_)))))))))))
    (refine Qd rfl (Qn (q := Xn) H rfl rfl (.there (.there .here))) ?_; clear H; intro w64 H)
    refine Ja (Jn (Je ?_))
    exact ⟨_, ⟨_, _, rfl, ldP (p := Xn) (H.get (.there (.there .here))), rfl⟩, (by rw [Ue hg hf]; rfl), H.none kYs⟩
end Go.Proofs.YtlpmfldijgdcoaaGreatDoor.Ring
namespace Go.Proofs.YtlpmfldijgdcoaaGreatDoor.Cm
open Go Go.Proofs Fx Tryz
abbrev Nh := Codec.Nh
/-- a front group's bytes -/
def Nv (g : Int) : List UInt8 := [UInt8.ofNat g.toNat, 211, Nh [UInt8.ofNat g.toNat, 211], 0]
/-- bytes' front group -/
def Nf (ys : List UInt8) : Int × Int := if ys.length = 4 ∧ (ys.headD 0).toNat < 8 ∧ Nv (ys.headD 0).toNat = ys then ((ys.headD 0).toNat, 1) else (0, 2)
theorem frontBytes_no {g : Int} (h : g < 0 ∨ 8 ≤ g) (w : World) : Ret Tryz.prog 87 #[I g] w fun v w' => v = .tuple #[nilS, .bool false] ∧ Hp w [] w' := by
 refine Qi (args := [_]) func87 rfl ntmps87 results87 (by simp) ?_
 have H := Hp.refl w
 refine Js (Jr (Ja (Ja (Jn (Js (Js (Jr (Jm (J (Vb rfl rfl) (Jm ?_))))))))))
 apply Xz 3 7 10 [(8, 10)] H
 case hc => rfl
 case h1 =>
  intro h12
  refine Jt rfl rfl (Jm (Jt rfl rfl (J (Mi rfl rfl) (Jp rfl (Jn ?_)))))
  exact ⟨kS, rfl, H⟩
 case h0 =>
  intro h12
  refine Jg rfl rfl (Jg rfl rfl (Jq rfl (Jn ?_)))
  exact ⟨kS, rfl, H⟩
 case h2 =>
  (clear H; intro E12 w12 H)
  refine Jn (Xo rfl (fun h26 => ?_) (fun h26 => ?_))
  ·refine Js (Jr (Ja (Ja (Jn (Je ?_)))))
   exact ⟨_, rfl, rfl, H⟩
  ·refine Jk (Js ?_)
   (exact (by omega : False).elim) <;> refine Qk ?_
theorem Mg {g : Int} (h0 : 0 ≤ g) (h8 : g < 8) (w : World) : Ret Tryz.prog 87 #[I g] w fun v w' => ∃ u M, v = .tuple #[u, .bool true] ∧ Yo w.heap.size 5 1 u 4 ((Nv g).map U) M ∧ Hp w M w' := by
 refine Qi (args := [_]) func87 rfl ntmps87 results87 (by simp) ?_
 have H := Hp.refl w
 have hw : IntKind.u8.wrap g = ((UInt8.ofNat g.toNat).toNat : Int) := by
  obtain ⟨m, rfl⟩ : ∃ m : Nat, g = (m : Int) := ⟨g.toNat, by omega⟩
  exact Un
 (refine Js (Jr (Ja (Ja (Jn (Js (Js (Jr (Jm (J (Xp rfl rfl (by omega)) (Jm (Jt rfl rfl (Jm (Jt rfl rfl (J (Zn rfl rfl (by omega)) (Jp rfl (Jn (Jc rfl (Jk (Js (Jr (Jm (J (Xe underlying3 underlying5 rfl hw) (Qb rfl (Xk (vs := [U (UInt8.ofNat g.toNat), U 211]) H underlying36 sizeOf5 zeroValue5 rfl rfl (by decide) rfl rfl (by simp [Value.oneCell'])) ?_))))))))))))))))))))))); clear H; intro b13 w24 hb13 H)
 (refine Ja (Jn (Js (Jr (Jm (Jm (Jz rfl call125 rfl (Codec.sum_ret (xs := [UInt8.ofNat g.toNat, 211]) (RdS.blk (c := [U (UInt8.ofNat g.toNat), U 211]) (off := 0) (m := 2) (cap := 2) (H.get .here) (by rfl) (by simp) (by simp)) (by simp)) H ?_)))))); intro w31 H)
 (refine Qb rfl (Xk (vs := [U (Nh [UInt8.ofNat g.toNat, 211]), U 0]) H underlying36 sizeOf5 zeroValue5 rfl rfl (by decide) rfl rfl (by simp [Value.oneCell'])) ?_; clear H; intro b17 w32 hb17 H)
 (refine Ve rfl (Yx (news := [U (Nh [UInt8.ofNat g.toNat, 211]), U 0]) (m := 2) (xs := [U (UInt8.ofNat g.toNat), U 211]) H (.there .last) (Yo.new (sp := []) hb13 rfl rfl (by decide)) underlying36 typeInfo5 rfl rfl rfl rfl rfl rfl (Mn (m := 2) (sp := []) underlying36 (H.get .here) rfl (by simp [Value.oneCell'])) (by omega) (by simp only [Tryz.t5]; omega)) ?_; clear H; intro v1 N1 w33 hN1 H)
 refine Ja (Ja (Jn (Je ?_)))
 exact ⟨_, rfl, _, _, rfl, hN1, H.pop (by assumption)⟩
theorem frontOf_ret {xs : List UInt8} {w : World} {l : Value} (hl : RdS w l (xs.map U)) (hb : xs.length ≤ 100000) :
  Ret Tryz.prog 144 #[l] w fun v w' => v = .tuple #[I (Nf xs).1, I (Nf xs).2] ∧ Hp w [] w' := by
 refine Qi (args := [_]) func144 rfl ntmps144 results144 (by simp) ?_
 have H := Hp.refl w
 obtain ⟨ao, ca, rfl, hca, hra⟩ := id hl
 simp only [List.length_map] at hl ⊢
 by_cases h4 : xs.length = 4
 ·match xs, h4 with
  | [a, b, c, d], _ =>
   obtain ⟨b1, o1, rfl, hc1⟩ := hl.cell (i := 0) (u := U a) rfl
   have ha := a.toNat_lt
   by_cases h8 : a.toNat < 8
   ·by_cases he : Nv a.toNat = [a, b, c, d]
    ·have hd : Nf [a, b, c, d] = (((a.toNat : Nat) : Int), (1 : Int)) := by unfold Nf; exact if_pos ⟨rfl, h8, he⟩
     rw [hd]
     (refine Js (Jr (Ja (Ja (Jn (Js (Js (Jr (Jm (J (Qh underlying36 rfl) (J (Yl rfl rfl (by omega)) (Jn (Jc rfl (Jk (Js (Jr (Jm (J (Qj underlying36 sizeOf5 rfl rfl (by omega) (by omega) Xt) (J (Qx isAgg5 rfl (H.cell hc1 (by simp))) (J (Xe underlying5 underlying3 rfl Yf) (Jy rfl call87 rfl (Mg (g := (a.toNat : Int)) (by omega) (by omega) _) ?_)))))))))))))))))))); rintro _ w21 ⟨u, M, rfl, hO, H1⟩; have h21 := H.Yn hO H1; clear H H1 hO; obtain ⟨hO, H⟩ := h21; obtain ⟨ua, uc, rfl⟩ := hO.form; rw [List.append_nil] at H; have hMk := hO.keys)
     refine Jm (Jx rfl rfl (Jx rfl rfl (Ja (Ja (Jn (Js (Js (Jr (Jm (J (Xj rfl) (Jm (Jt rfl rfl (Jm (Jt rfl rfl (J (Ua (xs := Nv a.toNat) underlying36 underlying5 underlying9 rfl (RdS.own hO H.held)) (Jt rfl rfl (Jm (Jt rfl rfl (J (Ua (xs := [a, b, c, d]) underlying36 underlying5 underlying9 rfl (hl.Yd H hMk)) (Jt rfl rfl (J (R_ne_S_f rfl rfl he) (Jp rfl (Jn (Jc rfl (Jk (Js (Jr (Jm (J (Qj underlying36 sizeOf5 rfl rfl (by omega) (by omega) Xt) (J (Qx isAgg5 rfl (H.Zx hc1 (by assumption))) (J (Xe underlying5 underlying3 rfl Yf) (Ja (Ja (Jn (Je ?_)))))))))))))))))))))))))))))))))))
     exact ⟨_, rfl, rfl, H.none hMk⟩
    ·have hd : Nf [a, b, c, d] = (0, 2) := by unfold Nf; exact if_neg (fun h => he h.2.2)
     rw [hd]
     (refine Js (Jr (Ja (Ja (Jn (Js (Js (Jr (Jm (J (Qh underlying36 rfl) (J (Yl rfl rfl (by omega)) (Jn (Jc rfl (Jk (Js (Jr (Jm (J (Qj underlying36 sizeOf5 rfl rfl (by omega) (by omega) Xt) (J (Qx isAgg5 rfl (H.cell hc1 (by simp))) (J (Xe underlying5 underlying3 rfl Yf) (Jy rfl call87 rfl (Mg (g := (a.toNat : Int)) (by omega) (by omega) _) ?_)))))))))))))))))))); rintro _ w21 ⟨u, M, rfl, hO, H1⟩; have h21 := H.Yn hO H1; clear H H1 hO; obtain ⟨hO, H⟩ := h21; obtain ⟨ua, uc, rfl⟩ := hO.form; rw [List.append_nil] at H; have hMk := hO.keys)
     refine Jm (Jx rfl rfl (Jx rfl rfl (Ja (Ja (Jn (Js (Js (Jr (Jm (J (Xj rfl) (Jm (Jt rfl rfl (Jm (Jt rfl rfl (J (Ua (xs := Nv a.toNat) underlying36 underlying5 underlying9 rfl (RdS.own hO H.held)) (Jt rfl rfl (Jm (Jt rfl rfl (J (Ua (xs := [a, b, c, d]) underlying36 underlying5 underlying9 rfl (hl.Yd H hMk)) (Jt rfl rfl (J (R_ne_S_t rfl rfl he) (Jp rfl (Jn (Jd rfl (Js (Jr (Ja (Ja (Jn (Je ?_))))))))))))))))))))))))))))))
     exact ⟨_, rfl, rfl, H.none hMk⟩
   ·have hd : Nf [a, b, c, d] = (0, 2) := by unfold Nf; exact if_neg (fun h => h8 h.2.1)
    rw [hd]
    (refine Js (Jr (Ja (Ja (Jn (Js (Js (Jr (Jm (J (Qh underlying36 rfl) (J (Yl rfl rfl (by omega)) (Jn (Jc rfl (Jk (Js (Jr (Jm (J (Qj underlying36 sizeOf5 rfl rfl (by omega) (by omega) Xt) (J (Qx isAgg5 rfl (H.cell hc1 (by simp))) (J (Xe underlying5 underlying3 rfl Yf) (Jz rfl call87 rfl (frontBytes_no (g := (a.toNat : Int)) (by omega) _) H ?_)))))))))))))))))))); intro w21 H)
    refine Jm (Jx rfl rfl (Jx rfl rfl (Ja (Ja (Jn (Js (Js (Jr (Jm (J (Xx rfl) (Jm (Jg rfl rfl (Jg rfl rfl (Jg rfl rfl (Jg rfl rfl (Jg rfl rfl (Jq rfl (Jn (Jd rfl (Js (Jr (Ja (Ja (Jn (Je ?_)))))))))))))))))))))))))
    exact ⟨_, rfl, rfl, H⟩
 ·have hd : Nf xs = (0, 2) := by unfold Nf; exact if_neg (fun h => h4 h.1)
  rw [hd]
  refine Js (Jr (Ja (Ja (Jn (Js (Js (Jr (Jm (J (Qh underlying36 rfl) (J (Dq rfl rfl (by omega)) (Jn (Jd rfl (Js (Jr (Ja (Ja (Jn (Je ?_))))))))))))))))))
  exact ⟨_, rfl, rfl, H⟩
end Go.Proofs.YtlpmfldijgdcoaaGreatDoor.Cm
namespace Go.Proofs.YtlpmfldijgdcoaaGreatDoor.Cm
open Go Go.Proofs Fx Kn Tryz
def win (bs : List UInt8) (a n : Nat) : List UInt8 := (bs.drop a).take n
theorem _root_.Go.Proofs.YtlpmfldijgdcoaaGreatDoor.Fx.KH.Qc {w0 w : World} {K : List (Nat × Obj)} (H : KH w0 K w) {b : Nat} {o : Obj} (h : w0.heap[b]? = some o) (hn : ∀ p ∈ ([] : List (Nat × Obj)), w0.heap.size ≤ p.1) : w.heap[b]? = some o := H.old.Qc h hn
structure Cs where
 κ : KS
 e : Nat
 ca : Option Addr
 cc : Nat
 nms : List Int
 wins : List (Nat × Nat)
 mp : Nat
 es : Array MapEntry
 clk : Nat
 bad : List (Int × Int)
def cT : List Nat := 177 :: 3 :: 1000000 :: kT
/-- what one sees of the commons -/
structure CmI (w : World) (c : Nat) (C : Cs) : Prop where
 hc : w.heap[c]? = some (blk [ptr C.κ.k 0, I C.e, .slice C.ca C.nms.length C.cc, .map (some C.mp)] 177)
 hcv : RdS w (.slice C.ca C.nms.length C.cc) (C.nms.map I)
 hct : ∀ a, C.ca = some a → ∃ o, w.heap[a.block]? = some o ∧ elT o = 3
 hmp : w.heap[C.mp]? = some (.map C.es C.clk)
 hbad : Mr.MapIs C.es C.bad
 hK : Kr w C.κ
 hw : ∀ (j : Nat) (nm : Int) (x : Nat × Nat), C.nms[j]? = some nm → C.wins[j]? = some x → Wn C.κ C.e nm x.1 x.2
 hl : C.nms.length = C.wins.length
 hl0 : 1 ≤ C.wins.length ∧ C.wins.length ≤ 5
 hz0 : ∀ x, C.wins[0]? = some x → x.2 = 492
 hzj : ∀ (j : Nat) (x : Nat × Nat), 0 < j → C.wins[j]? = some x → x.2 = 40
section
variable {w w' : World} {c : Nat} {C : Cs} {L : List (Nat × Obj)}
theorem CmI.keepK (h : CmI w c C) (H : Hp w L w') (hn : Out cT w L) {κ' : KS} (hK : Kr w' κ') (hk : κ'.k = C.κ.k) (hw : ∀ (nm : Int) (x : Nat × Nat), Wn C.κ C.e nm x.1 x.2 → Wn κ' C.e nm x.1 x.2) : CmI w' c { C with κ := κ' } := by
 refine ⟨?_, ?_, ?_, H.Xw h.hmp (by simp [cT, elT]) hn, h.hbad, hK, fun j nm x h1 h2 => hw _ _ (h.hw j nm x h1 h2), h.hl, h.hl0, h.hz0, h.hzj⟩
 ·have := H.Xw h.hc (by simp [cT, elT]) hn
  simp only [hk]; exact this
 ·refine h.hcv.mono H fun a m c' e hm => ?_
  have ha : C.ca = some a := by injection e
  obtain ⟨o, h1, h2⟩ := h.hct a ha
  obtain ⟨p, hp, e2⟩ := List.mem_map.1 hm
  rcases hn p hp with h3 | ⟨o', h3, h4⟩
  ·have := Qr h1; omega
  ·rw [e2, h1] at h3
   cases h3
   exact h4 (by rw [h2]; simp [cT])
 ·intro a ha
  obtain ⟨o, h1, h2⟩ := h.hct a ha
  exact ⟨o, H.Xw h1 (by rw [h2]; simp [cT]) hn, h2⟩
theorem CmI.keep0 (h : CmI w c C) (H : Hp w L w') (hn : Out (5 :: cT) w L) : CmI w' c C :=
 h.keepK H (hn.sub (List.subset_cons_self _ _)) (h.hK.keep0 H (hn.sub (List.cons_subset_cons _ (fun x hx => .tail _ (.tail _ (.tail _ hx)))))) rfl (fun _ _ h => h)
theorem CmI.Ql (h : CmI w c C) (H : Hp w L w') (hn : ∀ p ∈ L, w.heap.size ≤ p.1) : CmI w' c C := h.keep0 H (Out.ofN hn)
theorem CmI.same (h : CmI w c C) (H : Hp w [] w') : CmI w' c C := h.keep0 H Out.nil
/-- the memory's bytes -/
def Cs.Xh (C : Cs) (ys : List UInt8) : Cs := { C with κ := { C.κ with xs := ys } }
theorem CmI.keepB (h : CmI w c C) {ys : List UInt8} (H : Hp w [(C.κ.mb, blk (ys.map U) 5)] w') (hl : ys.length = C.κ.N) : CmI w' c (C.Xh ys) :=
 h.keepK H (Out.cons h.hK.hb (by simp [cT, kT, elT]) Out.nil) (h.hK.keepB H hl) rfl (fun _ _ h => ⟨h.ex, h.hin, h.he⟩)
/-- where a record lies: in which window, from where on, how many bytes -/
def Rc (L : Nat) (kind idx j at_ n : Nat) : Prop :=
 (kind = 1 ∧ idx < 8 ∧ j = 0 ∧ at_ = 24 * idx ∧ n = 24) ∨ (kind = 2 ∧ idx < 12 ∧ j = 0 ∧ at_ = 192 + 8 * idx ∧ n = 8) ∨ (kind = 3 ∧ idx < 4 ∧ j = 0 ∧ at_ = 288 + 40 * idx ∧ n = 40) ∨
  (kind = 3 ∧ 4 ≤ idx ∧ idx < 3 + L ∧ j = idx - 3 ∧ at_ = 0 ∧ n = 40) ∨ (kind = 4 ∧ idx = 0 ∧ j = 0 ∧ at_ = 448 ∧ n = 40) ∨ (kind = 5 ∧ idx = 0 ∧ j = 0 ∧ at_ = 488 ∧ n = 4)
theorem Rc.fit {kind idx j at_ n : Nat} (h : Rc C.nms.length kind idx j at_ n) (hM : CmI w c C) : ∃ nm x, C.nms[j]? = some nm ∧ C.wins[j]? = some x ∧ at_ + n ≤ x.2 ∧ n ≤ 40 ∧ at_ ≤ 500 := by
 have h1 := hM.hl
 have h2 := hM.hl0
 have hj : j < C.wins.length := by unfold Rc at h; omega
 refine ⟨C.nms[j]'(by omega), C.wins[j], List.getElem?_eq_getElem _, List.getElem?_eq_getElem hj, ?_⟩
 by_cases h0 : j = 0
 ·subst h0
  have := hM.hz0 C.wins[0] (List.getElem?_eq_getElem hj)
  unfold Rc at h; omega
 ·have := hM.hzj j C.wins[j] (by omega) (List.getElem?_eq_getElem hj)
  unfold Rc at h; omega
end
section
variable {w : World} {c : Nat} {C : Cs}
theorem Bi (hM : CmI w c C) (k : Int) (m : Nat) (h : (k = 1 ∧ m = 8) ∨ (k = 2 ∧ m = 12) ∨ (k = 3 ∧ m = 3 + C.nms.length) ∨ (3 < k ∧ m = 1)) :
  Ret Tryz.prog 102 #[ptr c 0, I k] w fun v w' => v = I m ∧ Hp w [] w' := by
 refine Qi (args := [_, _]) func102 rfl ntmps102 results102 (by simp) ?_
 have H := Hp.refl w
 have hc := hM.hc
 have h1 := hM.hl
 have h2 := hM.hl0
 obtain ⟨κ, e, ca, cc, nms, wins, mp, es, clk, bad⟩ := C
 simp only at h h1 h2 hc
 rcases h with ⟨rfl, rfl⟩ | ⟨rfl, rfl⟩ | ⟨rfl, rfl⟩ | ⟨h, rfl⟩
 ·refine Js (Jr (Ja (Jn (Js (Js (Jr (Jm (Jn (Jb (Js (Jr (J (Yr rfl rfl (by omega)) (Ja (Jn (Jd rfl (Js (Jr (Ja (Jn (Je ?_))))))))))))))))))))
  exact ⟨_, rfl, rfl, H⟩
 ·refine Js (Jr (Ja (Jn (Js (Js (Jr (Jm (Jn (Jb (Js (Jr (J (Xf rfl rfl (by omega)) (Ja (Jn (Jc rfl (Js (Jr (J (Yr rfl rfl (by omega)) (Ja (Jn (Jd rfl (Js (Jr (Ja (Jn (Je ?_))))))))))))))))))))))))))
  exact ⟨_, rfl, rfl, H⟩
 ·refine Js (Jr (Ja (Jn (Js (Js (Jr (Jm (Jn (Jb (Js (Jr (J (Xf rfl rfl (by omega)) (Ja (Jn (Jc rfl (Js (Jr (J (Xf rfl rfl (by omega)) (Ja (Jn (Jc rfl (Js (Jr (J (Yr rfl rfl (by omega)) (Ja (Jn (Jd rfl (Js (Jr (Jm (Ji rfl (Jf 2 underlying177 rfl sizeOf22 rfl rfl (Jl isAgg22 rfl (H.block hc (by simp)) rfl (J (Qh underlying22 rfl) (J (Xg rfl rfl (Xc (by omega))) (J (Vt (r := ((3 + nms.length : Nat) : Int)) rfl rfl (by rw [Xc (by omega)]; omega)) (Ja (Jn (Je ?_)))))))))))))))))))))))))))))))))))))))
  exact ⟨_, rfl, rfl, H⟩
 ·refine Js (Jr (Ja (Jn (Js (Js (Jr (Jm (Jn (Jb (Js (Jr (J (Xf rfl rfl (by omega)) (Ja (Jn (Jc rfl (Js (Jr (J (Xf rfl rfl (by omega)) (Ja (Jn (Jc rfl (Js (Jr (J (Xf rfl rfl (by omega)) (Ja (Jn (Jc rfl (Jk (Js (Jr (Ja (Jn (Je ?_)))))))))))))))))))))))))))))))))
  exact ⟨_, rfl, rfl, H⟩
theorem place1 (hM : CmI w c C) {nm : Int} {i : Nat} (h : C.nms[0]? = some nm) (hi : i < 8) :
  Ret Tryz.prog 124 #[ptr c 0, .agg #[I 1, I ((i : Nat) : Int)]] w fun v w' => v = .tuple #[.agg #[I nm, I ((24 * i : Nat) : Int), I 24], .bool true] ∧ Hp w [] w' := by
 refine Qy (args := [_, _]) func124 rfl ntmps124 results124 (by simp) ?_
 have H := Hp.refl w
 have hc := hM.hc
 have h1 := hM.hl
 have h2 := hM.hl0
 have hcv := hM.hcv
 obtain ⟨κ, e, ca, cc, nms, wins, mp, es, clk, bad⟩ := C
 simp only at h h1 h2 hc hcv 
 obtain ⟨cb, co, rfl, hcell⟩ := hcv.cell (i := 0) (u := I nm) (by rw [List.getElem?_map, h]; rfl)
 (refine Js (Jr (Qb rfl (Xl (vs := [I 1, I ((i : Nat) : Int)]) H rfl rfl) ?_)); clear H; intro c3 w3 hc3 H)
 (refine Qb rfl (Qp (vs := [I 0, I 0, I 0]) H zeroValue217 rfl) ?_; clear H; intro c4 w4 hc4 H)
 (refine Ja (Jn (Js (Jr (Jf 1 underlying182 rfl sizeOf3 rfl rfl (Jl isAgg3 rfl (H.get (.there .here)) rfl (Ja (Jn (Js (Js (Jr (Jm (J (Xp rfl rfl (by omega)) (Jm (Jt rfl rfl (Jm (Jt rfl rfl (Jm (Jt rfl rfl (Jf 0 underlying182 rfl sizeOf3 rfl rfl (Jt rfl rfl (Jl isAgg3 rfl (H.get (.there .here)) rfl (Jt rfl rfl (Jz rfl call102 rfl (Bi (hM.Ql H kYs) 1 (8) (.inl ⟨rfl, rfl⟩)) H ?_))))))))))))))))))))))); intro w28 H)
 (refine Jt rfl rfl (J (Zn rfl rfl (by omega)) (Jp rfl (Jn (Jc rfl (Jk (Js (Jr (Jm (Ji rfl (Jf 2 underlying177 rfl sizeOf22 rfl rfl (Jl isAgg22 rfl (H.Qc hc kYs) rfl (J (Qj (off' := co) underlying22 sizeOf3 rfl rfl (by omega) (by omega) (by omega)) (J (Qx isAgg3 rfl (H.Zx hcell kYs)) (Ja (Jn (Js (Jb (Js (Jr (Jf 0 underlying182 rfl sizeOf3 rfl rfl (Jl isAgg3 rfl (H.get (.there .here)) rfl (J (Yr rfl rfl (by omega)) (Ja (Jn (Jd rfl (Js (Jr (Jm (Jm (J (Bs (r := ((24 * i : Nat) : Int)) rfl rfl (by rw [Xc (by omega)]; omega)) (J (Qm (places := [(0, 1), (1, 1), (2, 1)]) (vs := [I nm, I ((24 * i : Nat) : Int), I 24]) underlying217 typeInfo217 rfl rfl (by kernel_rfl) rfl rfl rfl) (Qd rfl (Qg (vs := [I nm, I ((24 * i : Nat) : Int), I 24]) H sizeOf217 rfl rfl (by simp [Value.oneCell']) .here (by simp)) ?_)))))))))))))))))))))))))))))))); clear H; intro w61 H; replace H : Hp w [(c4, blk [I nm, I ((24 * i : Nat) : Int), I 24] 217), (c3, blk [I 1, I ((i : Nat) : Int)] 182)] w61 := H)
 refine Ja (Jn (Je ?_))
 exact ⟨_, ⟨_, _, rfl, ldA isAgg217 sizeOf217 (H.get .here) rfl (by simp), rfl⟩, rfl, H.none kYs⟩
theorem place2 (hM : CmI w c C) {nm : Int} {i : Nat} (h : C.nms[0]? = some nm) (hi : i < 12) :
  Ret Tryz.prog 124 #[ptr c 0, .agg #[I 2, I ((i : Nat) : Int)]] w fun v w' => v = .tuple #[.agg #[I nm, I ((192 + 8 * i : Nat) : Int), I 8], .bool true] ∧ Hp w [] w' := by
 refine Qy (args := [_, _]) func124 rfl ntmps124 results124 (by simp) ?_
 have H := Hp.refl w
 have hc := hM.hc
 have h1 := hM.hl
 have h2 := hM.hl0
 have hcv := hM.hcv
 obtain ⟨κ, e, ca, cc, nms, wins, mp, es, clk, bad⟩ := C
 simp only at h h1 h2 hc hcv 
 obtain ⟨cb, co, rfl, hcell⟩ := hcv.cell (i := 0) (u := I nm) (by rw [List.getElem?_map, h]; rfl)
 (refine Js (Jr (Qb rfl (Xl (vs := [I 2, I ((i : Nat) : Int)]) H rfl rfl) ?_)); clear H; intro c3 w3 hc3 H)
 (refine Qb rfl (Qp (vs := [I 0, I 0, I 0]) H zeroValue217 rfl) ?_; clear H; intro c4 w4 hc4 H)
 (refine Ja (Jn (Js (Jr (Jf 1 underlying182 rfl sizeOf3 rfl rfl (Jl isAgg3 rfl (H.get (.there .here)) rfl (Ja (Jn (Js (Js (Jr (Jm (J (Xp rfl rfl (by omega)) (Jm (Jt rfl rfl (Jm (Jt rfl rfl (Jm (Jt rfl rfl (Jf 0 underlying182 rfl sizeOf3 rfl rfl (Jt rfl rfl (Jl isAgg3 rfl (H.get (.there .here)) rfl (Jt rfl rfl (Jz rfl call102 rfl (Bi (hM.Ql H kYs) 2 (12) (.inr (.inl ⟨rfl, rfl⟩))) H ?_))))))))))))))))))))))); intro w28 H)
 (refine Jt rfl rfl (J (Zn rfl rfl (by omega)) (Jp rfl (Jn (Jc rfl (Jk (Js (Jr (Jm (Ji rfl (Jf 2 underlying177 rfl sizeOf22 rfl rfl (Jl isAgg22 rfl (H.Qc hc kYs) rfl (J (Qj (off' := co) underlying22 sizeOf3 rfl rfl (by omega) (by omega) (by omega)) (J (Qx isAgg3 rfl (H.Zx hcell kYs)) (Ja (Jn (Js (Jb (Js (Jr (Jf 0 underlying182 rfl sizeOf3 rfl rfl (Jl isAgg3 rfl (H.get (.there .here)) rfl (J (Xf rfl rfl (by omega)) (Ja (Jn (Jc rfl (Js (Jr (Jf 0 underlying182 rfl sizeOf3 rfl rfl (Jl isAgg3 rfl (H.get (.there .here)) rfl (J (Yr rfl rfl (by omega)) (Ja (Jn (Jd rfl (Js (Jr (Jm (Jm (J (Bs (r := ((8 * i : Nat) : Int)) rfl rfl (by rw [Xc (by omega)]; omega)) (J (Xg (r := ((192 + 8 * i : Nat) : Int)) rfl rfl (by rw [Xc (by omega)]; omega)) (J (Qm (places := [(0, 1), (1, 1), (2, 1)]) (vs := [I nm, I ((192 + 8 * i : Nat) : Int), I 8]) underlying217 typeInfo217 rfl rfl (by kernel_rfl) rfl rfl rfl) (Qd rfl (Qg (vs := [I nm, I ((192 + 8 * i : Nat) : Int), I 8]) H sizeOf217 rfl rfl (by simp [Value.oneCell']) .here (by simp)) ?_))))))))))))))))))))))))))))))))))))))))); clear H; intro w70 H; replace H : Hp w [(c4, blk [I nm, I ((192 + 8 * i : Nat) : Int), I 8] 217), (c3, blk [I 2, I ((i : Nat) : Int)] 182)] w70 := H)
 refine Ja (Jn (Je ?_))
 exact ⟨_, ⟨_, _, rfl, ldA isAgg217 sizeOf217 (H.get .here) rfl (by simp), rfl⟩, rfl, H.none kYs⟩
theorem place3 (hM : CmI w c C) {nm : Int} {i : Nat} (h : C.nms[0]? = some nm) (hi : i < 4) :
  Ret Tryz.prog 124 #[ptr c 0, .agg #[I 3, I ((i : Nat) : Int)]] w fun v w' => v = .tuple #[.agg #[I nm, I ((288 + 40 * i : Nat) : Int), I 40], .bool true] ∧ Hp w [] w' := by
 refine Qy (args := [_, _]) func124 rfl ntmps124 results124 (by simp) ?_
 have H := Hp.refl w
 have hc := hM.hc
 have h1 := hM.hl
 have h2 := hM.hl0
 have hcv := hM.hcv
 obtain ⟨κ, e, ca, cc, nms, wins, mp, es, clk, bad⟩ := C
 simp only at h h1 h2 hc hcv 
 obtain ⟨cb, co, rfl, hcell⟩ := hcv.cell (i := 0) (u := I nm) (by rw [List.getElem?_map, h]; rfl)
 (refine Js (Jr (Qb rfl (Xl (vs := [I 3, I ((i : Nat) : Int)]) H rfl rfl) ?_)); clear H; intro c3 w3 hc3 H)
 (refine Qb rfl (Qp (vs := [I 0, I 0, I 0]) H zeroValue217 rfl) ?_; clear H; intro c4 w4 hc4 H)
 (refine Ja (Jn (Js (Jr (Jf 1 underlying182 rfl sizeOf3 rfl rfl (Jl isAgg3 rfl (H.get (.there .here)) rfl (Ja (Jn (Js (Js (Jr (Jm (J (Xp rfl rfl (by omega)) (Jm (Jt rfl rfl (Jm (Jt rfl rfl (Jm (Jt rfl rfl (Jf 0 underlying182 rfl sizeOf3 rfl rfl (Jt rfl rfl (Jl isAgg3 rfl (H.get (.there .here)) rfl (Jt rfl rfl (Jz rfl call102 rfl (Bi (hM.Ql H kYs) 3 (3 + nms.length) (.inr (.inr (.inl ⟨rfl, rfl⟩)))) H ?_))))))))))))))))))))))); intro w28 H)
 (refine Jt rfl rfl (J (Zn rfl rfl (by omega)) (Jp rfl (Jn (Jc rfl (Jk (Js (Jr (Jm (Ji rfl (Jf 2 underlying177 rfl sizeOf22 rfl rfl (Jl isAgg22 rfl (H.Qc hc kYs) rfl (J (Qj (off' := co) underlying22 sizeOf3 rfl rfl (by omega) (by omega) (by omega)) (J (Qx isAgg3 rfl (H.Zx hcell kYs)) (Ja (Jn (Js (Jb (Js (Jr (Jf 0 underlying182 rfl sizeOf3 rfl rfl (Jl isAgg3 rfl (H.get (.there .here)) rfl (J (Xf rfl rfl (by omega)) (Ja (Jn (Jc rfl (Js (Jr (Jf 0 underlying182 rfl sizeOf3 rfl rfl (Jl isAgg3 rfl (H.get (.there .here)) rfl (J (Xf rfl rfl (by omega)) (Ja (Jn (Jc rfl (Js (Jr (Jf 0 underlying182 rfl sizeOf3 rfl rfl (Jl isAgg3 rfl (H.get (.there .here)) rfl (J (Yr rfl rfl (by omega)) (Jm (Jt rfl rfl (Jm (Jt rfl rfl (J (Za rfl rfl (by omega)) (Jq rfl (Ja (Jn (Jd rfl (Js (Jr (Jm (Jm (J (Bs (r := ((40 * i : Nat) : Int)) rfl rfl (by rw [Xc (by omega)]; omega)) (J (Xg (r := ((288 + 40 * i : Nat) : Int)) rfl rfl (by rw [Xc (by omega)]; omega)) (J (Qm (places := [(0, 1), (1, 1), (2, 1)]) (vs := [I nm, I ((288 + 40 * i : Nat) : Int), I 40]) underlying217 typeInfo217 rfl rfl (by kernel_rfl) rfl rfl rfl) (Qd rfl (Qg (vs := [I nm, I ((288 + 40 * i : Nat) : Int), I 40]) H sizeOf217 rfl rfl (by simp [Value.oneCell']) .here (by simp)) ?_))))))))))))))))))))))))))))))))))))))))))))))))))))))); clear H; intro w84 H; replace H : Hp w [(c4, blk [I nm, I ((288 + 40 * i : Nat) : Int), I 40] 217), (c3, blk [I 3, I ((i : Nat) : Int)] 182)] w84 := H)
 refine Ja (Jn (Je ?_))
 exact ⟨_, ⟨_, _, rfl, ldA isAgg217 sizeOf217 (H.get .here) rfl (by simp), rfl⟩, rfl, H.none kYs⟩
theorem place4 (hM : CmI w c C) {nm : Int} {i : Nat} (h : C.nms[i - 3]? = some nm) (hi : 4 ≤ i) (hi2 : i < 3 + C.nms.length) :
  Ret Tryz.prog 124 #[ptr c 0, .agg #[I 3, I ((i : Nat) : Int)]] w fun v w' => v = .tuple #[.agg #[I nm, I ((0 : Nat) : Int), I 40], .bool true] ∧ Hp w [] w' := by
 refine Qy (args := [_, _]) func124 rfl ntmps124 results124 (by simp) ?_
 have H := Hp.refl w
 obtain ⟨nm0, h0⟩ : ∃ nm0, C.nms[0]? = some nm0 := ⟨_, List.getElem?_eq_getElem (by have := hM.hl; have := hM.hl0; omega)⟩
 have hc := hM.hc
 have h1 := hM.hl
 have h2 := hM.hl0
 have hcv := hM.hcv
 obtain ⟨κ, e, ca, cc, nms, wins, mp, es, clk, bad⟩ := C
 simp only at h h1 h2 hc hcv hi2 h0
 obtain ⟨cb, co, rfl, hcell⟩ := hcv.cell (i := 0) (u := I nm0) (by rw [List.getElem?_map, h0]; rfl)
 obtain ⟨cb2, co2, hca2, hcell2⟩ := hcv.cell (i := i - 3) (u := I nm) (by rw [List.getElem?_map, h]; rfl)
 cases hca2
 (refine Js (Jr (Qb rfl (Xl (vs := [I 3, I ((i : Nat) : Int)]) H rfl rfl) ?_)); clear H; intro c3 w3 hc3 H)
 (refine Qb rfl (Qp (vs := [I 0, I 0, I 0]) H zeroValue217 rfl) ?_; clear H; intro c4 w4 hc4 H)
 (refine Ja (Jn (Js (Jr (Jf 1 underlying182 rfl sizeOf3 rfl rfl (Jl isAgg3 rfl (H.get (.there .here)) rfl (Ja (Jn (Js (Js (Jr (Jm (J (Xp rfl rfl (by omega)) (Jm (Jt rfl rfl (Jm (Jt rfl rfl (Jm (Jt rfl rfl (Jf 0 underlying182 rfl sizeOf3 rfl rfl (Jt rfl rfl (Jl isAgg3 rfl (H.get (.there .here)) rfl (Jt rfl rfl (Jz rfl call102 rfl (Bi (hM.Ql H kYs) 3 (3 + nms.length) (.inr (.inr (.inl ⟨rfl, rfl⟩)))) H ?_))))))))))))))))))))))); intro w28 H)
 (refine Jt rfl rfl (J (Zn rfl rfl (by omega)) (Jp rfl (Jn (Jc rfl (Jk (Js (Jr (Jm (Ji rfl (Jf 2 underlying177 rfl sizeOf22 rfl rfl (Jl isAgg22 rfl (H.Qc hc kYs) rfl (J (Qj (off' := co) underlying22 sizeOf3 rfl rfl (by omega) (by omega) (by omega)) (J (Qx isAgg3 rfl (H.Zx hcell kYs)) (Ja (Jn (Js (Jb (Js (Jr (Jf 0 underlying182 rfl sizeOf3 rfl rfl (Jl isAgg3 rfl (H.get (.there .here)) rfl (J (Xf rfl rfl (by omega)) (Ja (Jn (Jc rfl (Js (Jr (Jf 0 underlying182 rfl sizeOf3 rfl rfl (Jl isAgg3 rfl (H.get (.there .here)) rfl (J (Xf rfl rfl (by omega)) (Ja (Jn (Jc rfl (Js (Jr (Jf 0 underlying182 rfl sizeOf3 rfl rfl (Jl isAgg3 rfl (H.get (.there .here)) rfl (J (Yr rfl rfl (by omega)) (Jm (Jt rfl rfl (Jm (Jt rfl rfl (J (Xp rfl rfl (by omega)) (Jq rfl (Ja (Jn (Jc rfl (Js (Jr (Jf 0 underlying182 rfl sizeOf3 rfl rfl (Jl isAgg3 rfl (H.get (.there .here)) rfl (J (Yr rfl rfl (by omega)) (Ja (Jn (Jd rfl (Js (Jr (Jm (Ji rfl (Jf 2 underlying177 rfl sizeOf22 rfl rfl (Jl isAgg22 rfl (H.Qc hc kYs) rfl (Jm (J (Vt rfl rfl (Xc (by omega))) (J (Xg (r := ((i - 3 : Nat) : Int)) rfl rfl (by rw [Xc (by omega)]; omega)) (J (Qj (off' := co + (i - 3)) underlying22 sizeOf3 rfl rfl (by omega) (by omega) (by omega)) (J (Qx isAgg3 rfl (H.Zx hcell2 kYs)) (J (Qm (places := [(0, 1), (1, 1), (2, 1)]) (vs := [I nm, I ((0 : Nat) : Int), I 40]) underlying217 typeInfo217 rfl rfl (by kernel_rfl) rfl rfl rfl) (Qd rfl (Qg (vs := [I nm, I ((0 : Nat) : Int), I 40]) H sizeOf217 rfl rfl (by simp [Value.oneCell']) .here (by simp)) ?_)))))))))))))))))))))))))))))))))))))))))))))))))))))))))))))))))))); clear H; intro w97 H; replace H : Hp w [(c4, blk [I nm, I ((0 : Nat) : Int), I 40] 217), (c3, blk [I 3, I ((i : Nat) : Int)] 182)] w97 := H)
 refine Ja (Jn (Je ?_))
 exact ⟨_, ⟨_, _, rfl, ldA isAgg217 sizeOf217 (H.get .here) rfl (by simp), rfl⟩, rfl, H.none kYs⟩
theorem place5 (hM : CmI w c C) {nm : Int}  (h : C.nms[0]? = some nm)  :
  Ret Tryz.prog 124 #[ptr c 0, .agg #[I 4, I ((0 : Nat) : Int)]] w fun v w' => v = .tuple #[.agg #[I nm, I ((448 : Nat) : Int), I 40], .bool true] ∧ Hp w [] w' := by
 refine Qy (args := [_, _]) func124 rfl ntmps124 results124 (by simp) ?_
 have H := Hp.refl w
 have hc := hM.hc
 have h1 := hM.hl
 have h2 := hM.hl0
 have hcv := hM.hcv
 obtain ⟨κ, e, ca, cc, nms, wins, mp, es, clk, bad⟩ := C
 simp only at h h1 h2 hc hcv 
 obtain ⟨cb, co, rfl, hcell⟩ := hcv.cell (i := 0) (u := I nm) (by rw [List.getElem?_map, h]; rfl)
 (refine Js (Jr (Qb rfl (Xl (vs := [I 4, I ((0 : Nat) : Int)]) H rfl rfl) ?_)); clear H; intro c3 w3 hc3 H)
 (refine Qb rfl (Qp (vs := [I 0, I 0, I 0]) H zeroValue217 rfl) ?_; clear H; intro c4 w4 hc4 H)
 (refine Ja (Jn (Js (Jr (Jf 1 underlying182 rfl sizeOf3 rfl rfl (Jl isAgg3 rfl (H.get (.there .here)) rfl (Ja (Jn (Js (Js (Jr (Jm (J (Xp rfl rfl (by omega)) (Jm (Jt rfl rfl (Jm (Jt rfl rfl (Jm (Jt rfl rfl (Jf 0 underlying182 rfl sizeOf3 rfl rfl (Jt rfl rfl (Jl isAgg3 rfl (H.get (.there .here)) rfl (Jt rfl rfl (Jz rfl call102 rfl (Bi (hM.Ql H kYs) 4 (1) (.inr (.inr (.inr ⟨by decide, rfl⟩)))) H ?_))))))))))))))))))))))); intro w28 H)
 (refine Jt rfl rfl (J (Zn rfl rfl (by omega)) (Jp rfl (Jn (Jc rfl (Jk (Js (Jr (Jm (Ji rfl (Jf 2 underlying177 rfl sizeOf22 rfl rfl (Jl isAgg22 rfl (H.Qc hc kYs) rfl (J (Qj (off' := co) underlying22 sizeOf3 rfl rfl (by omega) (by omega) (by omega)) (J (Qx isAgg3 rfl (H.Zx hcell kYs)) (Ja (Jn (Js (Jb (Js (Jr (Jf 0 underlying182 rfl sizeOf3 rfl rfl (Jl isAgg3 rfl (H.get (.there .here)) rfl (J (Xf rfl rfl (by omega)) (Ja (Jn (Jc rfl (Js (Jr (Jf 0 underlying182 rfl sizeOf3 rfl rfl (Jl isAgg3 rfl (H.get (.there .here)) rfl (J (Xf rfl rfl (by omega)) (Ja (Jn (Jc rfl (Js (Jr (Jf 0 underlying182 rfl sizeOf3 rfl rfl (Jl isAgg3 rfl (H.get (.there .here)) rfl (J (Xf rfl rfl (by omega)) (Jm (Jg rfl rfl (Jg rfl rfl (Jp rfl (Ja (Jn (Jc rfl (Js (Jr (Jf 0 underlying182 rfl sizeOf3 rfl rfl (Jl isAgg3 rfl (H.get (.there .here)) rfl (J (Xf rfl rfl (by omega)) (Ja (Jn (Jc rfl (Js (Jr (Jf 0 underlying182 rfl sizeOf3 rfl rfl (Jl isAgg3 rfl (H.get (.there .here)) rfl (J (Yr rfl rfl (by omega)) (Ja (Jn (Jd rfl (Js (Jr (Jm (J (Qm (places := [(0, 1), (1, 1), (2, 1)]) (vs := [I nm, I ((448 : Nat) : Int), I 40]) underlying217 typeInfo217 rfl rfl (by kernel_rfl) rfl rfl rfl) (Qd rfl (Qg (vs := [I nm, I ((448 : Nat) : Int), I 40]) H sizeOf217 rfl rfl (by simp [Value.oneCell']) .here (by simp)) ?_)))))))))))))))))))))))))))))))))))))))))))))))))))))))))))))))))); clear H; intro w95 H; replace H : Hp w [(c4, blk [I nm, I ((448 : Nat) : Int), I 40] 217), (c3, blk [I 4, I ((0 : Nat) : Int)] 182)] w95 := H)
 refine Ja (Jn (Je ?_))
 exact ⟨_, ⟨_, _, rfl, ldA isAgg217 sizeOf217 (H.get .here) rfl (by simp), rfl⟩, rfl, H.none kYs⟩
theorem place6 (hM : CmI w c C) {nm : Int}  (h : C.nms[0]? = some nm)  :
  Ret Tryz.prog 124 #[ptr c 0, .agg #[I 5, I ((0 : Nat) : Int)]] w fun v w' => v = .tuple #[.agg #[I nm, I ((488 : Nat) : Int), I 4], .bool true] ∧ Hp w [] w' := by
 refine Qy (args := [_, _]) func124 rfl ntmps124 results124 (by simp) ?_
 have H := Hp.refl w
 have hc := hM.hc
 have h1 := hM.hl
 have h2 := hM.hl0
 have hcv := hM.hcv
 obtain ⟨κ, e, ca, cc, nms, wins, mp, es, clk, bad⟩ := C
 simp only at h h1 h2 hc hcv 
 obtain ⟨cb, co, rfl, hcell⟩ := hcv.cell (i := 0) (u := I nm) (by rw [List.getElem?_map, h]; rfl)
 (refine Js (Jr (Qb rfl (Xl (vs := [I 5, I ((0 : Nat) : Int)]) H rfl rfl) ?_)); clear H; intro c3 w3 hc3 H)
 (refine Qb rfl (Qp (vs := [I 0, I 0, I 0]) H zeroValue217 rfl) ?_; clear H; intro c4 w4 hc4 H)
 (refine Ja (Jn (Js (Jr (Jf 1 underlying182 rfl sizeOf3 rfl rfl (Jl isAgg3 rfl (H.get (.there .here)) rfl (Ja (Jn (Js (Js (Jr (Jm (J (Xp rfl rfl (by omega)) (Jm (Jt rfl rfl (Jm (Jt rfl rfl (Jm (Jt rfl rfl (Jf 0 underlying182 rfl sizeOf3 rfl rfl (Jt rfl rfl (Jl isAgg3 rfl (H.get (.there .here)) rfl (Jt rfl rfl (Jz rfl call102 rfl (Bi (hM.Ql H kYs) 5 (1) (.inr (.inr (.inr ⟨by decide, rfl⟩)))) H ?_))))))))))))))))))))))); intro w28 H)
 (refine Jt rfl rfl (J (Zn rfl rfl (by omega)) (Jp rfl (Jn (Jc rfl (Jk (Js (Jr (Jm (Ji rfl (Jf 2 underlying177 rfl sizeOf22 rfl rfl (Jl isAgg22 rfl (H.Qc hc kYs) rfl (J (Qj (off' := co) underlying22 sizeOf3 rfl rfl (by omega) (by omega) (by omega)) (J (Qx isAgg3 rfl (H.Zx hcell kYs)) (Ja (Jn (Js (Jb (Js (Jr (Jf 0 underlying182 rfl sizeOf3 rfl rfl (Jl isAgg3 rfl (H.get (.there .here)) rfl (J (Xf rfl rfl (by omega)) (Ja (Jn (Jc rfl (Js (Jr (Jf 0 underlying182 rfl sizeOf3 rfl rfl (Jl isAgg3 rfl (H.get (.there .here)) rfl (J (Xf rfl rfl (by omega)) (Ja (Jn (Jc rfl (Js (Jr (Jf 0 underlying182 rfl sizeOf3 rfl rfl (Jl isAgg3 rfl (H.get (.there .here)) rfl (J (Xf rfl rfl (by omega)) (Jm (Jg rfl rfl (Jg rfl rfl (Jp rfl (Ja (Jn (Jc rfl (Js (Jr (Jf 0 underlying182 rfl sizeOf3 rfl rfl (Jl isAgg3 rfl (H.get (.there .here)) rfl (J (Xf rfl rfl (by omega)) (Ja (Jn (Jc rfl (Js (Jr (Jf 0 underlying182 rfl sizeOf3 rfl rfl (Jl isAgg3 rfl (H.get (.there .here)) rfl (J (Xf rfl rfl (by omega)) (Ja (Jn (Jc rfl (Jk (Js (Jr (Jm (J (Qm (places := [(0, 1), (1, 1), (2, 1)]) (vs := [I nm, I ((488 : Nat) : Int), I 4]) underlying217 typeInfo217 rfl rfl (by kernel_rfl) rfl rfl rfl) (Qd rfl (Qg (vs := [I nm, I ((488 : Nat) : Int), I 4]) H sizeOf217 rfl rfl (by simp [Value.oneCell']) .here (by simp)) ?_))))))))))))))))))))))))))))))))))))))))))))))))))))))))))))))))))); clear H; intro w96 H; replace H : Hp w [(c4, blk [I nm, I ((488 : Nat) : Int), I 4] 217), (c3, blk [I 5, I ((0 : Nat) : Int)] 182)] w96 := H)
 refine Ja (Jn (Je ?_))
 exact ⟨_, ⟨_, _, rfl, ldA isAgg217 sizeOf217 (H.get .here) rfl (by simp), rfl⟩, rfl, H.none kYs⟩
theorem Vp (hM : CmI w c C) {kind idx j at_ n : Nat} {nm : Int} (h : Rc C.nms.length kind idx j at_ n) (hn : C.nms[j]? = some nm) :
  Ret Tryz.prog 124 #[ptr c 0, .agg #[I kind, I idx]] w fun v w' => v = .tuple #[.agg #[I nm, I at_, I n], .bool true] ∧ Hp w [] w' := by
 rcases h with ⟨rfl, h, rfl, rfl, rfl⟩ | ⟨rfl, h, rfl, rfl, rfl⟩ | ⟨rfl, h, rfl, rfl, rfl⟩ | ⟨rfl, h, h', rfl, rfl, rfl⟩ | ⟨rfl, rfl, rfl, rfl, rfl⟩ | ⟨rfl, rfl, rfl, rfl, rfl⟩
 ·exact place1 hM hn h
 ·exact place2 hM hn h
 ·exact place3 hM hn h
 ·exact place4 hM hn h h'
 ·exact place5 hM hn
 ·exact place6 hM hn
/-- a record's bytes -/
def Cs.rc (C : Cs) (j at_ n : Nat) : List UInt8 := win C.κ.xs ((C.wins.getD j (0, 0)).1 + at_) n
theorem read_ret (hM : CmI w c C) {kind idx j at_ n : Nat} (h : Rc C.nms.length kind idx j at_ n) (hnb : (((kind : Nat) : Int), ((idx : Nat) : Int)) ∉ C.bad) :
  Ret Tryz.prog 145 #[ptr c 0, .agg #[I kind, I idx]] w fun v w' => ∃ u M, v = .tuple #[u, .bool true] ∧ Yo w.heap.size 5 1 u n ((C.rc j at_ n).map U) M ∧ Hp w M w' := by
 refine Qi (args := [_, _]) func145 rfl ntmps145 results145 (by simp) ?_
 have H := Hp.refl w
 have hcb := hM.hc
 obtain ⟨nm, x, hnm, hx, hfit, hn40, ha5⟩ := h.fit hM
 have hrec : C.rc j at_ n = (C.κ.xs.drop (x.1 + at_)).take n := by unfold Cs.rc win; rw [List.getD_eq_getElem?_getD, hx]; rfl
 rw [hrec]
 (refine Js (Jr (Qb rfl (Xl (vs := [I kind, I idx]) H rfl rfl) ?_)); clear H; intro c3 w3 hc3 H)
 (refine Ja (Ja (Jn (Js (Jr (Jm (J (Qo (vs := [I kind, I idx]) isAgg182 sizeOf182 rfl (H.get .here) rfl (by simp)) (Jz rfl call124 rfl (Vp (hM.Ql H kYs) h hnm) H ?_))))))); intro w11 H)
 (refine Jm (Jx rfl rfl (Jx rfl rfl (Qb rfl (Qp (vs := [I 0, I 0, I 0]) H zeroValue217 rfl) ?_))); clear H; intro c6 w15 hc6 H)
 (refine Qd rfl (Qg (vs := [I nm, I at_, I n]) H sizeOf217 rfl rfl (by simp [Value.oneCell']) .here (by simp)) ?_; clear H; intro w16 H; replace H : Hp w [(c6, blk [I nm, I at_, I n] 217), (c3, blk [I kind, I idx] 182)] w16 := H)
 refine Ja (Jn (Js (Js ?_)))
 (refine Zc (fun _ => false) (by kernel_rfl) H ?_; clear H; intro w21 H)
 refine Am 0 rfl H (Az 1 rfl rfl H (fun _ hC => Xj rfl) (Am 2 rfl H (Ai 3 rfl rfl rfl H (fun _ hC => Va) (Ag 4 rfl rfl rfl H (fun _ hC => Qf rfl) (Ag 5 rfl rfl rfl H (fun _ hC => Qa (off' := 3) underlying177 rfl sizeOf175 (by decide) rfl rfl) (Ag 6 rfl rfl rfl H (fun _ hC => Qe isAgg175 rfl (hC.Qc hcb kYs) rfl) (Ag 7 rfl rfl rfl H (fun _ hC => Qo (vs := [I kind, I idx]) isAgg182 sizeOf182 rfl (hC.get (.there .here)) rfl (by simp)) (Ag 8 rfl rfl rfl H (fun _ hC => Mr.R_lookup_no (hC.Qc hM.hmp kYs) hM.hbad rfl rfl hnb) (Ag 9 rfl rfl rfl H (fun _ hC => Zm rfl rfl (by omega)) (Ah 10 rfl rfl H (fun _ hC => Zg rfl) (Ad (Jc rfl (Jk (Js ?_))))))))))))))
 (refine Xi (KH w [(c6, blk [I nm, I at_, I n] 217), (c3, blk [I kind, I idx] 182)]) (fun i => i == 17) (by kernel_rfl) H ?_; clear H; intro w37 H)
 refine Am 0 rfl H.kK (Az 1 rfl rfl H.kK (fun _ hC => Qf rfl) (Az 2 rfl rfl H.kK (fun _ hC => Qa (off' := 0) underlying177 rfl sizeOf71 (by decide) rfl rfl) (Az 3 rfl rfl H.kK (fun _ hC => Qe isAgg71 rfl (hC.Qc hcb kYs) rfl) (Am 4 rfl H.kK (Az 5 rfl rfl H.kK (fun _ hC => Qf rfl) (Az 6 rfl rfl H.kK (fun _ hC => Qa (off' := 1) underlying177 rfl sizeOf3 (by decide) rfl rfl) (Az 7 rfl rfl H.kK (fun _ hC => Qe isAgg3 rfl (hC.Qc hcb kYs) rfl) (Az 8 rfl rfl H.kK (fun _ hC => Qa (off' := 0) underlying217 rfl sizeOf3 (by decide) rfl rfl) (Az 9 rfl rfl H.kK (fun _ hC => Qe isAgg3 rfl (hC.get .here) rfl) (Az 10 rfl rfl H.kK (fun _ hC => Qa (off' := 1) underlying217 rfl sizeOf3 (by decide) rfl rfl) (Az 11 rfl rfl H.kK (fun _ hC => Qe isAgg3 rfl (hC.get .here) rfl) (Az 12 rfl rfl H.kK (fun _ hC => Qa (off' := 2) underlying217 rfl sizeOf3 (by decide) rfl rfl) (Az 13 rfl rfl H.kK (fun _ hC => Qe isAgg3 rfl (hC.get .here) rfl) (Az 14 rfl rfl H.kK (fun _ hC => Qm (places := [(0, 1), (1, 1), (2, 1), (3, 1), (4, 1), (5, 1), (6, 1)]) (vs := [I 1, I nm, I at_, I n, I 0, I 0, nilS]) underlying44 typeInfo44 rfl rfl (by kernel_rfl) rfl rfl rfl) (Zf (i := 15) (j := 16) (by kernel_rfl) ?_ ?_)))))))))))))))
 ·(refine Qv rfl (.inl rfl) (Qw rfl call36 rfl) (do_read (hM.hK.Ql H kYs) (hM.hw _ _ _ hnm hx) n hfit) (by exact fun _ _ ⟨u, M, _, hO, H1⟩ _ => ((H.Yn hO H1).2).kh (by simp) (Yv (H.Yn hO H1).1.keys kYs)) ?_; rintro _ w54 ⟨u, M, rfl, hO, H1⟩; have h54 := H.Yn hO H1; clear H H1 hO; obtain ⟨hO, H⟩ := h54; obtain ⟨ua, uc, rfl⟩ := hO.form)
  (refine Ao 16 (Xd rfl (.inl rfl) (Qp (vs := [I 0, I 0, nilS]) H zeroValue96 rfl) (fun _ _ _ H _ => H.kh (by simp) kYs) ?_); clear H; intro c8 w56 hc8 H)
  (refine Ao 17 (Xb rfl (.inl rfl) (Qg (vs := [I 0, I 0, .slice ua n uc]) H sizeOf96 rfl rfl (by simp [Value.oneCell']) .here (by simp)) (fun _ _ h => Bool.noConfusion h) ?_); clear H; intro w58 H; replace H : Hp w ((c8, blk [I 0, I 0, .slice ua n uc] 96) :: (M ++ [(c6, blk [I nm, I at_, I n] 217), (c3, blk [I kind, I idx] 182)])) w58 := H)
  refine Ad (Js (Js (Jr (Jf 0 underlying96 rfl sizeOf33 rfl rfl (Jl isAgg33 rfl (H.get .here) rfl (J (Yl rfl rfl (by omega)) (Jn (Jc rfl (Jk (Js (Jr (Jf 2 underlying96 rfl sizeOf36 rfl rfl (Jl isAgg36 rfl (H.get .here) rfl (Ja (Ja (Jn (Je ?_)))))))))))))))))
  exact ⟨_, rfl, _, M, rfl, hO, (H.pop (by assumption)).cut kYs⟩
 ·(refine Xd rfl (.inl rfl) (Qp (vs := [I 0, I 0, nilS]) H zeroValue96 rfl) (fun _ _ _ H _ => H.kh (by simp) kYs) ?_; clear H; intro c8 w78 hc8 H)
  (refine Ao 15 (Qv rfl (.inl rfl) (Qw rfl call36 rfl) (do_read (hM.hK.Ql H kYs) (hM.hw _ _ _ hnm hx) n hfit) (by exact fun _ _ ⟨u, M, _, hO, H1⟩ _ => ((H.Yn hO H1).2).kh (by simp) (Yv (H.Yn hO H1).1.keys kYs)) ?_); rintro _ w80 ⟨u, M, rfl, hO, H1⟩; have h80 := H.Yn hO H1; clear H H1 hO; obtain ⟨hO, H⟩ := h80; obtain ⟨ua, uc, rfl⟩ := hO.form)
  (refine Ao 17 (Xb rfl (.inl rfl) (Qg (vs := [I 0, I 0, .slice ua n uc]) H sizeOf96 rfl rfl (by simp [Value.oneCell']) (.app _ .here) (by simp)) (fun _ _ h => Bool.noConfusion h) ?_); clear H; intro w82 H; replace H : Hp w (M ++ (c8, blk [I 0, I 0, .slice ua n uc] 96) :: [(c6, blk [I nm, I at_, I n] 217), (c3, blk [I kind, I idx] 182)]) w82 := H)
  refine Ad (Js (Js (Jr (Jf 0 underlying96 rfl sizeOf33 rfl rfl (Jl isAgg33 rfl (H.get (.app _ .here)) rfl (J (Yl rfl rfl (by omega)) (Jn (Jc rfl (Jk (Js (Jr (Jf 2 underlying96 rfl sizeOf36 rfl rfl (Jl isAgg36 rfl (H.get (.app _ .here)) rfl (Ja (Ja (Jn (Je ?_)))))))))))))))))
  exact ⟨_, rfl, _, M, rfl, hO, H.cut kYs⟩
end
end Go.Proofs.YtlpmfldijgdcoaaGreatDoor.Cm
namespace Go.Proofs.YtlpmfldijgdcoaaGreatDoor.Cm
open Go Go.Proofs Fx Kn Tryz
section
variable {P : Program} {E : Env} {w : World} {d : Option Nat} {ty : TypeId} {pos : String} {after : Array Edge}
theorem R_eq_no {t t' : TypeId} {x y : Operand} {k : IntKind} {a b : Int} (hx : ev E x = .int k a) (hy : ev E y = .int k b) (hne : a ≠ b) :
  (execOp (ev E) (mk d (.binOp .eql t x y t') ty pos after)).run P w = .ok (.value (.bool false)) w := by
 have h := Yk (P := P) (E := E) (w := w) (d := d) (ty := ty) (pos := pos) (after := after) (t := t) (t' := t') hx hy
 rw [decide_eq_false hne] at h
 exact h
end
theorem slot_none (xs : List UInt8) (h : (Slot.Xy xs).2 ≠ 1) : (Slot.Xy xs).1 = Slot.Xn := by
 unfold Slot.Xy at h ⊢; split
 ·rfl
 ·split
  ·rename_i h1 h2; rw [if_neg h1, if_pos h2] at h; exact absurd rfl h
  ·rfl
theorem file_none (xs : List UInt8) (h : (File.Xy xs).2 ≠ 1) : (File.Xy xs).1 = File.Yt := by
 unfold File.Xy at h ⊢; split
 ·rfl
 ·split
  ·rename_i h1 h2; rw [if_neg h1, if_pos h2] at h; exact absurd rfl h
  ·rfl
theorem ring_none (xs : List UInt8) (h : (Ring.Xy xs).2 ≠ 1) : (Ring.Xy xs).1 = Ring.Xn := by
 unfold Ring.Xy at h ⊢; split
 ·rfl
 ·split
  ·rename_i h1 h2; rw [if_neg h1, if_pos h2] at h; exact absurd rfl h
  ·rfl
theorem front_none (xs : List UInt8) (h : (Nf xs).2 ≠ 1) : (Nf xs).1 = 0 := by
 unfold Nf at h ⊢; split
 ·rename_i h1; rw [if_pos h1] at h; exact absurd rfl h
 ·rfl
theorem rec_len {w : World} {c : Nat} {C : Cs} {kind idx j at_ n : Nat} (h : Rc C.nms.length kind idx j at_ n) (hM : CmI w c C) : (C.rc j at_ n).length ≤ 40 := by
 obtain ⟨nm, x, h1, h2, h3, h4, h5⟩ := h.fit hM
 unfold Cs.rc win; rw [List.length_take]; omega
theorem C_proc (i : Int) (w : World) : Ret Tryz.prog 92 #[I i] w fun v w' => v = .agg #[I 1, I i] ∧ Hp w [] w' := by
 refine Qy (args := [_]) func92 rfl ntmps92 results92 (by simp) ?_
 have H := Hp.refl w
 (refine Js (Jr (Qb rfl (Qp H zeroValue182 rfl) ?_)); clear H; intro b3 w3 hb3 H)
 (refine Jn (Js (Jr (Jm (J (Qm (places := [(0, 1), (1, 1)]) (vs := [(.int _ _), (.int _ _)]) underlying182 typeInfo182 rfl rfl (by kernel_rfl) rfl rfl rfl) (Qd rfl (Qg (vs := [(.int _ _), (.int _ _)]) H sizeOf182 rfl rfl (by simp [Value.oneCell']) .here (by simp)) ?_))))); clear H; intro w9 H)
 refine Jn (Je ?_)
 exact ⟨_, ⟨_, rfl, ldA isAgg182 sizeOf182 (H.get .here) rfl (by simp)⟩, rfl, H.none kYs⟩
theorem C_file (i : Int) (w : World) : Ret Tryz.prog 89 #[I i] w fun v w' => v = .agg #[I 2, I i] ∧ Hp w [] w' := by
 refine Qy (args := [_]) func89 rfl ntmps89 results89 (by simp) ?_
 have H := Hp.refl w
 (refine Js (Jr (Qb rfl (Qp H zeroValue182 rfl) ?_)); clear H; intro b3 w3 hb3 H)
 (refine Jn (Js (Jr (Jm (J (Qm (places := [(0, 1), (1, 1)]) (vs := [(.int _ _), (.int _ _)]) underlying182 typeInfo182 rfl rfl (by kernel_rfl) rfl rfl rfl) (Qd rfl (Qg (vs := [(.int _ _), (.int _ _)]) H sizeOf182 rfl rfl (by simp [Value.oneCell']) .here (by simp)) ?_))))); clear H; intro w9 H)
 refine Jn (Je ?_)
 exact ⟨_, ⟨_, rfl, ldA isAgg182 sizeOf182 (H.get .here) rfl (by simp)⟩, rfl, H.none kYs⟩
theorem C_pipe (i : Int) (w : World) : Ret Tryz.prog 90 #[I i] w fun v w' => v = .agg #[I 3, I i] ∧ Hp w [] w' := by
 refine Qy (args := [_]) func90 rfl ntmps90 results90 (by simp) ?_
 have H := Hp.refl w
 (refine Js (Jr (Qb rfl (Qp H zeroValue182 rfl) ?_)); clear H; intro b3 w3 hb3 H)
 (refine Jn (Js (Jr (Jm (J (Qm (places := [(0, 1), (1, 1)]) (vs := [(.int _ _), (.int _ _)]) underlying182 typeInfo182 rfl rfl (by kernel_rfl) rfl rfl rfl) (Qd rfl (Qg (vs := [(.int _ _), (.int _ _)]) H sizeOf182 rfl rfl (by simp [Value.oneCell']) .here (by simp)) ?_))))); clear H; intro w9 H)
 refine Jn (Je ?_)
 exact ⟨_, ⟨_, rfl, ldA isAgg182 sizeOf182 (H.get .here) rfl (by simp)⟩, rfl, H.none kYs⟩
section
variable {w : World} {c : Nat} {C : Cs}
theorem recP_ret (hM : CmI w c C) {kind idx j at_ n : Nat} (h : Rc C.nms.length kind idx j at_ n) (hnb : (((kind : Nat) : Int), ((idx : Nat) : Int)) ∉ C.bad) (hd : (Slot.Xy (C.rc j at_ n)).2 ≠ 2) :
  Ret Tryz.prog 105 #[ptr c 0, .agg #[I kind, I idx], .func (.func 106) #[] #[]] w fun v w' => v = .tuple #[Slot.vP (Slot.Xy (C.rc j at_ n)).1, I (Slot.Xy (C.rc j at_ n)).2] ∧ Hp w [] w' := by
 refine Qy (args := [_, _, _]) func105 rfl ntmps105 results105 (by simp) ?_
 have H := Hp.refl w
 have hl := rec_len h hM
 have hnone := slot_none (C.rc j at_ n)
 have hdec : ∀ {w1 : World} {l : Value}, RdS w1 l ((C.rc j at_ n).map U) → Ret Tryz.prog 106 #[l] w1 fun v w' => v = .tuple #[Slot.vP (Slot.Xy (C.rc j at_ n)).1, I (Slot.Xy (C.rc j at_ n)).2] ∧ Hp w1 [] w' := fun h => Slot.dec_ret h (by omega)
 generalize Slot.Xy (C.rc j at_ n) = dd at *
 obtain ⟨p, z⟩ := dd
 simp only at hd hnone hdec ⊢
 (refine Js (Jr (Qb rfl (Xl (vs := [I kind, I idx]) H rfl rfl) ?_)); clear H; intro c4 w3 hc4 H)
 (refine Qb rfl (Slot.Qt H) ?_; clear H; intro c6 w4 hc6 H)
 (refine Ja (Jn (Js (Jr (Qb rfl (Slot.Qt H) ?_)))); clear H; intro c8 w9 hc8 H)
 (refine Jn (Js (Jr (Jm (J (Qo (vs := [I kind, I idx]) isAgg182 sizeOf182 rfl (H.get (.there (.there .here))) rfl (by simp)) (Jy rfl call145 rfl (read_ret (hM.Ql H kYs) h hnb) ?_))))); rintro _ w15 ⟨u, M, rfl, hO, H1⟩; have h15 := H.Yn hO H1; clear H H1 hO; obtain ⟨hO, H⟩ := h15; obtain ⟨ua, uc, rfl⟩ := hO.form)
 (refine Jm (Jx rfl rfl (Jx rfl rfl (Ja (Ja (Jn (Js (Js (Jr (Jm (J (Xj rfl) (Jn (Jc rfl (Jk (Js (Jr (Jm (Jm (Jz rfl call106 rfl (hdec (RdS.own hO (fun p hp => H.held p (by simp [hp])))) H ?_)))))))))))))))))); intro w34 H)
 (refine Jm (Jx rfl rfl (Jx rfl rfl (Qb rfl (Slot.Qt H) ?_))); clear H; intro c11 w38 hc11 H)
 (refine Qd rfl (Slot.Qn H rfl rfl .here) ?_; clear H; intro w39 H)
 refine Ja (Jn (Js (Js (Jr (Jm (J (R_eq_no rfl rfl hd) (Jn (Jc rfl (Jk (Js (Js (Jr (Jm (J (Zu rfl rfl) (Jn (Xo rfl (fun h56 => ?_) (fun h56 => ?_)))))))))))))))))
 ·(refine Js (Jr (J (Slot.Xa rfl (H.get (.there (.app _ .here)))) (Jm (Qd rfl (Slot.Qn H rfl rfl (.there (.app _ (.there .here)))) ?_)))); clear H; intro w61 H)
  refine Ja (Jn (Je ?_))
  (refine ⟨_, ⟨_, _, rfl, Slot.ldP (H.get (.there (.app _ (.there .here)))), rfl⟩, (by rw [hnone (by assumption)]; rfl), ?_⟩; exact (((H.pop (by assumption)).Ub kYs).none kYs))
 ·(refine Jk (Js (Jr (J (Slot.Xa rfl (H.get .here)) (Jm (Qd rfl (Slot.Qn H rfl rfl (.there (.app _ (.there .here)))) ?_))))); clear H; intro w71 H)
  refine Ja (Jn (Je ?_))
  (obtain rfl : z = 1 := (by omega); exact ⟨_, ⟨_, _, rfl, Slot.ldP (H.get (.there (.app _ (.there .here)))), rfl⟩, rfl, ((H.pop (by assumption)).Ub kYs).none kYs⟩)
theorem recF_ret (hM : CmI w c C) {kind idx j at_ n : Nat} (h : Rc C.nms.length kind idx j at_ n) (hnb : (((kind : Nat) : Int), ((idx : Nat) : Int)) ∉ C.bad) (hd : (File.Xy (C.rc j at_ n)).2 ≠ 2) :
  Ret Tryz.prog 141 #[ptr c 0, .agg #[I kind, I idx], .func (.func 142) #[] #[]] w fun v w' => v = .tuple #[File.vF (File.Xy (C.rc j at_ n)).1, I (File.Xy (C.rc j at_ n)).2] ∧ Hp w [] w' := by
 refine Qy (args := [_, _, _]) func141 rfl ntmps141 results141 (by simp) ?_
 have H := Hp.refl w
 have hl := rec_len h hM
 have hnone := file_none (C.rc j at_ n)
 have hdec : ∀ {w1 : World} {l : Value}, RdS w1 l ((C.rc j at_ n).map U) → Ret Tryz.prog 142 #[l] w1 fun v w' => v = .tuple #[File.vF (File.Xy (C.rc j at_ n)).1, I (File.Xy (C.rc j at_ n)).2] ∧ Hp w1 [] w' := fun h => File.dec_ret h (by omega)
 generalize File.Xy (C.rc j at_ n) = dd at *
 obtain ⟨p, z⟩ := dd
 simp only at hd hnone hdec ⊢
 (refine Js (Jr (Qb rfl (Xl (vs := [I kind, I idx]) H rfl rfl) ?_)); clear H; intro c4 w3 hc4 H)
 (refine Qb rfl (File.Us H) ?_; clear H; intro c6 w4 hc6 H)
 (refine Ja (Jn (Js (Jr (Qb rfl (File.Us H) ?_)))); clear H; intro c8 w9 hc8 H)
 (refine Jn (Js (Jr (Jm (J (Qo (vs := [I kind, I idx]) isAgg182 sizeOf182 rfl (H.get (.there (.there .here))) rfl (by simp)) (Jy rfl call145 rfl (read_ret (hM.Ql H kYs) h hnb) ?_))))); rintro _ w15 ⟨u, M, rfl, hO, H1⟩; have h15 := H.Yn hO H1; clear H H1 hO; obtain ⟨hO, H⟩ := h15; obtain ⟨ua, uc, rfl⟩ := hO.form)
 (refine Jm (Jx rfl rfl (Jx rfl rfl (Ja (Ja (Jn (Js (Js (Jr (Jm (J (Xj rfl) (Jn (Jc rfl (Jk (Js (Jr (Jm (Jm (Jz rfl call142 rfl (hdec (RdS.own hO (fun p hp => H.held p (by simp [hp])))) H ?_)))))))))))))))))); intro w34 H)
 (refine Jm (Jx rfl rfl (Jx rfl rfl (Qb rfl (File.Us H) ?_))); clear H; intro c11 w38 hc11 H)
 (refine Qd rfl (File.Bu H rfl rfl .here) ?_; clear H; intro w39 H)
 refine Ja (Jn (Js (Js (Jr (Jm (J (R_eq_no rfl rfl hd) (Jn (Jc rfl (Jk (Js (Js (Jr (Jm (J (Zu rfl rfl) (Jn (Xo rfl (fun h56 => ?_) (fun h56 => ?_)))))))))))))))))
 ·(refine Js (Jr (J (File.Df rfl (H.get (.there (.app _ .here)))) (Jm (Qd rfl (File.Bu H rfl rfl (.there (.app _ (.there .here)))) ?_)))); clear H; intro w61 H)
  refine Ja (Jn (Je ?_))
  (refine ⟨_, ⟨_, _, rfl, File.ldL (H.get (.there (.app _ (.there .here)))), rfl⟩, (by rw [hnone (by assumption)]; rfl), ?_⟩; exact (((H.pop (by assumption)).Ub kYs).none kYs))
 ·(refine Jk (Js (Jr (J (File.Df rfl (H.get .here)) (Jm (Qd rfl (File.Bu H rfl rfl (.there (.app _ (.there .here)))) ?_))))); clear H; intro w71 H)
  refine Ja (Jn (Je ?_))
  (obtain rfl : z = 1 := (by omega); exact ⟨_, ⟨_, _, rfl, File.ldL (H.get (.there (.app _ (.there .here)))), rfl⟩, rfl, ((H.pop (by assumption)).Ub kYs).none kYs⟩)
theorem recQ_ret (hM : CmI w c C) {kind idx j at_ n : Nat} (h : Rc C.nms.length kind idx j at_ n) (hnb : (((kind : Nat) : Int), ((idx : Nat) : Int)) ∉ C.bad) (hd : (Ring.Xy (C.rc j at_ n)).2 ≠ 2) :
  Ret Tryz.prog 107 #[ptr c 0, .agg #[I kind, I idx], .func (.func 108) #[] #[]] w fun v w' => v = .tuple #[Ring.vP (Ring.Xy (C.rc j at_ n)).1, I (Ring.Xy (C.rc j at_ n)).2] ∧ Hp w [] w' := by
 refine Qy (args := [_, _, _]) func107 rfl ntmps107 results107 (by simp) ?_
 have H := Hp.refl w
 have hl := rec_len h hM
 have hnone := ring_none (C.rc j at_ n)
 have hdec : ∀ {w1 : World} {l : Value}, RdS w1 l ((C.rc j at_ n).map U) → Ret Tryz.prog 108 #[l] w1 fun v w' => v = .tuple #[Ring.vP (Ring.Xy (C.rc j at_ n)).1, I (Ring.Xy (C.rc j at_ n)).2] ∧ Hp w1 [] w' := fun h => Ring.dec_ret h (by omega)
 generalize Ring.Xy (C.rc j at_ n) = dd at *
 obtain ⟨p, z⟩ := dd
 simp only at hd hnone hdec ⊢
 (refine Js (Jr (Qb rfl (Xl (vs := [I kind, I idx]) H rfl rfl) ?_)); clear H; intro c4 w3 hc4 H)
 (refine Qb rfl (Ring.Qt H) ?_; clear H; intro c6 w4 hc6 H)
 (refine Ja (Jn (Js (Jr (Qb rfl (Ring.Qt H) ?_)))); clear H; intro c8 w9 hc8 H)
 (refine Jn (Js (Jr (Jm (J (Qo (vs := [I kind, I idx]) isAgg182 sizeOf182 rfl (H.get (.there (.there .here))) rfl (by simp)) (Jy rfl call145 rfl (read_ret (hM.Ql H kYs) h hnb) ?_))))); rintro _ w15 ⟨u, M, rfl, hO, H1⟩; have h15 := H.Yn hO H1; clear H H1 hO; obtain ⟨hO, H⟩ := h15; obtain ⟨ua, uc, rfl⟩ := hO.form)
 (refine Jm (Jx rfl rfl (Jx rfl rfl (Ja (Ja (Jn (Js (Js (Jr (Jm (J (Xj rfl) (Jn (Jc rfl (Jk (Js (Jr (Jm (Jm (Jz rfl call108 rfl (hdec (RdS.own hO (fun p hp => H.held p (by simp [hp])))) H ?_)))))))))))))))))); intro w34 H)
 (refine Jm (Jx rfl rfl (Jx rfl rfl (Qb rfl (Ring.Qt H) ?_))); clear H; intro c11 w38 hc11 H)
 (refine Qd rfl (Ring.Qn H rfl rfl .here) ?_; clear H; intro w39 H)
 refine Ja (Jn (Js (Js (Jr (Jm (J (R_eq_no rfl rfl hd) (Jn (Jc rfl (Jk (Js (Js (Jr (Jm (J (Zu rfl rfl) (Jn (Xo rfl (fun h56 => ?_) (fun h56 => ?_)))))))))))))))))
 ·(refine Js (Jr (J (Ring.Xa rfl (H.get (.there (.app _ .here)))) (Jm (Qd rfl (Ring.Qn H rfl rfl (.there (.app _ (.there .here)))) ?_)))); clear H; intro w61 H)
  refine Ja (Jn (Je ?_))
  (refine ⟨_, ⟨_, _, rfl, Ring.ldP (H.get (.there (.app _ (.there .here)))), rfl⟩, (by rw [hnone (by assumption)]; rfl), ?_⟩; exact (((H.pop (by assumption)).Ub kYs).none kYs))
 ·(refine Jk (Js (Jr (J (Ring.Xa rfl (H.get .here)) (Jm (Qd rfl (Ring.Qn H rfl rfl (.there (.app _ (.there .here)))) ?_))))); clear H; intro w71 H)
  refine Ja (Jn (Je ?_))
  (obtain rfl : z = 1 := (by omega); exact ⟨_, ⟨_, _, rfl, Ring.ldP (H.get (.there (.app _ (.there .here)))), rfl⟩, rfl, ((H.pop (by assumption)).Ub kYs).none kYs⟩)
theorem recG_ret (hM : CmI w c C) {kind idx j at_ n : Nat} (h : Rc C.nms.length kind idx j at_ n) (hnb : (((kind : Nat) : Int), ((idx : Nat) : Int)) ∉ C.bad) (hd : (Nf (C.rc j at_ n)).2 ≠ 2) :
  Ret Tryz.prog 143 #[ptr c 0, .agg #[I kind, I idx], .func (.func 144) #[] #[]] w fun v w' => v = .tuple #[I (Nf (C.rc j at_ n)).1, I (Nf (C.rc j at_ n)).2] ∧ Hp w [] w' := by
 refine Qi (args := [_, _, _]) func143 rfl ntmps143 results143 (by simp) ?_
 have H := Hp.refl w
 have hl := rec_len h hM
 have hnone := front_none (C.rc j at_ n)
 have hdec : ∀ {w1 : World} {l : Value}, RdS w1 l ((C.rc j at_ n).map U) → Ret Tryz.prog 144 #[l] w1 fun v w' => v = .tuple #[I (Nf (C.rc j at_ n)).1, I (Nf (C.rc j at_ n)).2] ∧ Hp w1 [] w' := fun h => frontOf_ret h (by omega)
 generalize Nf (C.rc j at_ n) = dd at *
 obtain ⟨p, z⟩ := dd
 simp only at hd hnone hdec ⊢
 (refine Js (Jr (Qb rfl (Xl (vs := [I kind, I idx]) H rfl rfl) ?_)); clear H; intro c4 w3 hc4 H)
 (refine Ja (Ja (Jn (Js (Jr (Ja (Jn (Js (Jr (Jm (J (Qo (vs := [I kind, I idx]) isAgg182 sizeOf182 rfl (H.get .here) rfl (by simp)) (Jy rfl call145 rfl (read_ret (hM.Ql H kYs) h hnb) ?_))))))))))); rintro _ w15 ⟨u, M, rfl, hO, H1⟩; have h15 := H.Yn hO H1; clear H H1 hO; obtain ⟨hO, H⟩ := h15; obtain ⟨ua, uc, rfl⟩ := hO.form)
 (refine Jm (Jx rfl rfl (Jx rfl rfl (Ja (Ja (Jn (Js (Js (Jr (Jm (J (Xj rfl) (Jn (Jc rfl (Jk (Js (Jr (Jm (Jm (Jz rfl call144 rfl (hdec (RdS.own hO (fun p hp => H.held p (by simp [hp])))) H ?_)))))))))))))))))); intro w34 H)
 refine Jm (Jx rfl rfl (Jx rfl rfl (Ja (Ja (Jn (Js (Js (Jr (Jm (J (R_eq_no rfl rfl hd) (Jn (Jc rfl (Jk (Js (Js (Jr (Jm (J (Zu rfl rfl) (Jn (Xo rfl (fun h55 => ?_) (fun h55 => ?_)))))))))))))))))))))
 ·refine Js (Jr (Jm (Jm (Ja (Ja (Jn (Je ?_)))))))
  (refine ⟨_, rfl, (by rw [hnone (by assumption)]; rfl), (H.Ub kYs).none kYs⟩)
 ·refine Jk (Js (Jr (Jm (Jm (Ja (Ja (Jn (Je ?_))))))))
  (obtain rfl : z = 1 := (by omega); exact ⟨_, rfl, rfl, (H.Ub kYs).none kYs⟩)
def Cs.pD (C : Cs) (i : Nat) : Slot.Pi × Int := Slot.Xy (C.rc 0 (24 * i) 24)
def Cs.fD (C : Cs) (i : Nat) : File.Fl × Int := File.Xy (C.rc 0 (192 + 8 * i) 8)
def Cs.qD (C : Cs) (i : Nat) : Ring.Pi × Int := Ring.Xy (if i < 4 then C.rc 0 (288 + 40 * i) 40 else C.rc (i - 3) 0 40)
def Cs.tD (C : Cs) : Ring.Pi × Int := Ring.Xy (C.rc 0 448 40)
def Cs.gD (C : Cs) : Int × Int := Nf (C.rc 0 488 4)
theorem Proc_ret (hM : CmI w c C) {i : Nat} (hi : i < 8) (hnb : ((1 : Int), (i : Int)) ∉ C.bad) (hd : (C.pD i).2 ≠ 2) :
  Ret Tryz.prog 64 #[ptr c 0, I i] w fun v w' => v = .tuple #[Slot.vP (C.pD i).1, I (C.pD i).2] ∧ Hp w [] w' := by
 refine Qy (args := [_, _]) func64 rfl ntmps64 results64 (by simp) ?_
 have H := Hp.refl w
 (refine Js (Jr (Qb rfl (Slot.Qt H) ?_)); clear H; intro c4 w3 hc4 H)
 (refine Ja (Jn (Js (Jr (Jm (Jm (Jz rfl call92 rfl (C_proc _ _) H ?_)))))); intro w10 H)
 (refine Jz rfl call105 rfl (recP_ret (kind := 1) (idx := i) (j := 0) (at_ := 24 * i) (n := 24) (hM.Ql H kYs) (.inl ⟨rfl, hi, rfl, rfl, rfl⟩) hnb hd) H ?_; intro w11 H)
 (refine Jx rfl rfl (Jx rfl rfl (Qd rfl (Slot.Qn H rfl rfl .here) ?_)); clear H; intro w14 H)
 refine Ja (Jn (Je ?_))
 exact ⟨_, ⟨_, _, rfl, Slot.ldP (H.get .here), rfl⟩, rfl, H.none kYs⟩
theorem File_ret (hM : CmI w c C) {i : Nat} (hi : i < 12) (hnb : ((2 : Int), (i : Int)) ∉ C.bad) (hd : (C.fD i).2 ≠ 2) :
  Ret Tryz.prog 101 #[ptr c 0, I i] w fun v w' => v = .tuple #[File.vF (C.fD i).1, I (C.fD i).2] ∧ Hp w [] w' := by
 refine Qy (args := [_, _]) func101 rfl ntmps101 results101 (by simp) ?_
 have H := Hp.refl w
 (refine Js (Jr (Qb rfl (File.Us H) ?_)); clear H; intro c4 w3 hc4 H)
 (refine Ja (Jn (Js (Jr (Jm (Jm (Jz rfl call89 rfl (C_file _ _) H ?_)))))); intro w10 H)
 (refine Jz rfl call141 rfl (recF_ret (kind := 2) (idx := i) (j := 0) (at_ := 192 + 8 * i) (n := 8) (hM.Ql H kYs) (.inr (.inl ⟨rfl, hi, rfl, rfl, rfl⟩)) hnb hd) H ?_; intro w11 H)
 (refine Jx rfl rfl (Jx rfl rfl (Qd rfl (File.Bu H rfl rfl .here) ?_)); clear H; intro w14 H)
 refine Ja (Jn (Je ?_))
 exact ⟨_, ⟨_, _, rfl, File.ldL (H.get .here), rfl⟩, rfl, H.none kYs⟩
theorem Pipe_ret (hM : CmI w c C) {i : Nat} (hi : i < 3 + C.nms.length) (hnb : ((3 : Int), (i : Int)) ∉ C.bad) (hd : (C.qD i).2 ≠ 2) :
  Ret Tryz.prog 103 #[ptr c 0, I i] w fun v w' => v = .tuple #[Ring.vP (C.qD i).1, I (C.qD i).2] ∧ Hp w [] w' := by
 refine Qy (args := [_, _]) func103 rfl ntmps103 results103 (by simp) ?_
 have H := Hp.refl w
 have hR : ∀ {w1 : World}, CmI w1 c C → Ret Tryz.prog 107 #[ptr c 0, .agg #[I 3, I i], .func (.func 108) #[] #[]] w1 fun v w' => v = .tuple #[Ring.vP (C.qD i).1, I (C.qD i).2] ∧ Hp w1 [] w' := by
  intro w1 h1
  unfold Cs.qD at hd ⊢
  by_cases h4 : i < 4
  ·rw [if_pos h4] at hd ⊢
   exact recQ_ret (kind := 3) (idx := i) (j := 0) (at_ := 288 + 40 * i) (n := 40) h1 (.inr (.inr (.inl ⟨rfl, h4, rfl, rfl, rfl⟩))) hnb hd
  ·rw [if_neg h4] at hd ⊢
   exact recQ_ret (kind := 3) (idx := i) (j := i - 3) (at_ := 0) (n := 40) h1 (.inr (.inr (.inr (.inl ⟨rfl, by omega, hi, rfl, rfl, rfl⟩)))) hnb hd
 (refine Js (Jr (Qb rfl (Ring.Qt H) ?_)); clear H; intro c4 w3 hc4 H)
 (refine Ja (Jn (Js (Jr (Jm (Jm (Jz rfl call90 rfl (C_pipe _ _) H ?_)))))); intro w10 H)
 (refine Jz rfl call107 rfl (hR (hM.Ql H kYs)) H ?_; intro w11 H)
 (refine Jx rfl rfl (Jx rfl rfl (Qd rfl (Ring.Qn H rfl rfl .here) ?_)); clear H; intro w14 H)
 refine Ja (Jn (Je ?_))
 exact ⟨_, ⟨_, _, rfl, Ring.ldP (H.get .here), rfl⟩, rfl, H.none kYs⟩
theorem Term_ret (hM : CmI w c C) (hnb : ((4 : Int), (0 : Int)) ∉ C.bad) (hd : C.tD.2 ≠ 2) :
  Ret Tryz.prog 66 #[ptr c 0] w fun v w' => v = .tuple #[Ring.vP C.tD.1, I C.tD.2] ∧ Hp w [] w' := by
 refine Qy (args := [_]) func66 rfl ntmps66 results66 (by simp) ?_
 have H := Hp.refl w
 (refine Js (Jr (Qb rfl (Ring.Qt H) ?_)); clear H; intro c2 w3 hc2 H)
 (refine Ja (Jn (Js (Jr (Jm (J (Qm (places := [(0, 1), (1, 1)]) (vs := [I (4 : Nat), I (0 : Nat)]) underlying182 typeInfo182 rfl rfl (by kernel_rfl) rfl rfl rfl) (Jz rfl call107 rfl (recQ_ret (kind := 4) (idx := 0) (j := 0) (at_ := 448) (n := 40) (hM.Ql H kYs) (.inr (.inr (.inr (.inr (.inl ⟨rfl, rfl, rfl, rfl, rfl⟩))))) hnb hd) H ?_)))))); intro w10 H)
 (refine Jx rfl rfl (Jx rfl rfl (Qd rfl (Ring.Qn H rfl rfl .here) ?_)); clear H; intro w13 H)
 refine Ja (Jn (Je ?_))
 exact ⟨_, ⟨_, _, rfl, Ring.ldP (H.get .here), rfl⟩, rfl, H.none kYs⟩
theorem Front_ret (hM : CmI w c C) (hnb : ((5 : Int), (0 : Int)) ∉ C.bad) (hd : C.gD.2 ≠ 2) :
  Ret Tryz.prog 104 #[ptr c 0] w fun v w' => v = .tuple #[I C.gD.1, .bool (decide (C.gD.2 = 1))] ∧ Hp w [] w' := by
 refine Qi (args := [_]) func104 rfl ntmps104 results104 (by simp) ?_
 have H := Hp.refl w
 (refine Js (Jr (Ja (Ja (Jn (Js (Jr (Jm (J (Qm (places := [(0, 1), (1, 1)]) (vs := [I (5 : Nat), I (0 : Nat)]) underlying182 typeInfo182 rfl rfl (by kernel_rfl) rfl rfl rfl) (Jz rfl call143 rfl (recG_ret (kind := 5) (idx := 0) (j := 0) (at_ := 488) (n := 4) (hM.Ql H kYs) (.inr (.inr (.inr (.inr (.inr ⟨rfl, rfl, rfl, rfl, rfl⟩))))) hnb hd) H ?_))))))))); intro w10 H)
 refine Jm (Jx rfl rfl (Jx rfl rfl (Ja (Ja (Jn (Js (Jr (Jm (Jm (J (Yk rfl rfl) (Ja (Ja (Jn (Je ?_))))))))))))))
 exact ⟨_, rfl, rfl, H⟩
/-- no record is bad, and none becomes so -/
structure Snd (C : Cs) : Prop where
 nb : C.bad = []
 p : ∀ i, i < 8 → (C.pD i).2 ≠ 2
 f : ∀ i, i < 12 → (C.fD i).2 ≠ 2
 q : ∀ i, i < 3 + C.nms.length → (C.qD i).2 ≠ 2
 t : C.tD.2 ≠ 2
 g : C.gD.2 ≠ 2
theorem Look_ret (hM : CmI w c C) (hs : Snd C) : Ret Tryz.prog 63 #[ptr c 0] w fun v w' => v = .tuple #[] ∧ Hp w [] w' := by
 refine Qi (args := [_]) func63 rfl ntmps63 results63 (by simp) ?_
 have H := Hp.refl w
 have hnb : ∀ r, r ∉ C.bad := fun r => by rw [hs.nb]; simp
 have h1 := hM.hl
 have h2 := hM.hl0
 refine Js (Js (Jr (Jm (Jn (Jb ?_)))))
 refine Yg [(2, 2), (5, 11)] (fun (i : Nat) E w' => i ≤ 8 ∧ E 5 = I i ∧ Hp w [] w') (fun i => 8 - i) 0 ?e0 ?r0
 ·exact ⟨by omega, rfl, H⟩
 ·(clear H; rintro i E w1 ⟨hi, h5, H⟩; refine Ur h5 ?_)
  refine Js (Jr (J (Vb rfl rfl) (Jn (Js (Xo rfl (fun h14 => ?_) (fun h14 => ?_))))))
  ·(refine Jk (Js (Jb (Js (Jr (Jm (Ja (Jn (Jr (Jm (Jm (Jz rfl call64 rfl (Proc_ret (i := i) (hM.same H) (by omega) (hnb _) (hs.p i (by omega))) H ?_))))))))))); intro w26 H)
   refine Jn (Jr (J (Xg rfl rfl (Xc (by omega))) (Jm (Jn ?_))))
   exact ⟨kS, i + 1, by omega, by omega, rfl, H⟩
  ·refine Xr ?_
   refine (if_pos rfl).mpr ?_
   refine Js (Js (Jr (Jm (Jn (Jb ?_)))))
   refine Yg [(3, 3), (12, 18)] (fun (i : Nat) E w' => i ≤ 12 ∧ E 12 = I i ∧ Hp w [] w') (fun i => 12 - i) 0 ?e2 ?r2
   ·exact ⟨by omega, rfl, H⟩
   ·(clear H; rintro i2 E2 w2 ⟨hi2, h12, H⟩; refine Ur h12 ?_)
    refine Js (Jr (J (Vb rfl rfl) (Jn (Js (Xo rfl (fun h48 => ?_) (fun h48 => ?_))))))
    ·(refine Jk (Js (Jb (Js (Jr (Jm (Ja (Jn (Jr (Jm (Jm (Jz rfl call101 rfl (File_ret (i := i2) (hM.same H) (by omega) (hnb _) (hs.f i2 (by omega))) H ?_))))))))))); intro w60 H)
     refine Jn (Jr (J (Xg rfl rfl (Xc (by omega))) (Jm (Jn ?_))))
     exact ⟨kS, i2 + 1, by omega, by omega, rfl, H⟩
    ·refine Xr ?_
     refine (if_pos rfl).mpr ?_
     (refine Js (Js (Jr (Jm (Jz rfl call102 rfl (Bi (hM.same H) 3 (3 + C.nms.length) (.inr (.inr (.inl ⟨rfl, rfl⟩)))) H ?_)))); intro w73 H)
     refine Jm (Jn (Jb ?_))
     refine Yg [(4, 4), (21, 27)] (fun (i : Nat) E w' => i ≤ 3 + C.nms.length ∧ E 21 = I i ∧ Hp w [] w') (fun i => 3 + C.nms.length - i) 0 ?e4 ?r4
     ·exact ⟨by omega, rfl, H⟩
     ·(clear H; rintro i4 E4 w4 ⟨hi4, h21, H⟩; refine Ur h21 ?_)
      refine Js (Jr (J (Vb rfl rfl) (Jn (Js (Xo rfl (fun h84 => ?_) (fun h84 => ?_))))))
      ·(refine Jk (Js (Jb (Js (Jr (Jm (Ja (Jn (Jr (Jm (Jm (Jz rfl call103 rfl (Pipe_ret (i := i4) (hM.same H) (by omega) (hnb _) (hs.q i4 (by omega))) H ?_))))))))))); intro w96 H)
       refine Jn (Jr (J (Xg rfl rfl (Xc (by omega))) (Jm (Jn ?_))))
       exact ⟨kS, i4 + 1, by omega, by omega, rfl, H⟩
      ·refine Xr ?_
       refine (if_pos rfl).mpr ?_
       (refine Js (Jr (Jm (Jz rfl call66 rfl (Term_ret (hM.same H) (hnb _) hs.t) H ?_))); intro w108 H)
       (refine Jn (Jr (Jm (Jz rfl call104 rfl (Front_ret (hM.same H) (hnb _) hs.g) H ?_))); intro w112 H)
       refine Jn ?_
       exact ⟨_, rfl, rfl, H⟩
end
end Go.Proofs.YtlpmfldijgdcoaaGreatDoor.Cm
namespace Go.Proofs.YtlpmfldijgdcoaaGreatDoor.Cm
open Go Go.Proofs Fx Kn Tryz
theorem fenc_yes (f : File.Fl) (hok : File.Yz f) (w : World) :
  Ret Tryz.prog 88 #[File.vF f] w fun v w' => ∃ b, v = .tuple #[sl b 0 8 8, .bool true] ∧ w.heap.size ≤ b ∧ Hp w [(b, blk ((File.Yj f).map U) 5)] w' :=
 (File.Bl f w).mono fun v w' h => by
  rcases h with ⟨_, h⟩ | ⟨h, _⟩
  ·exact h
  ·exact (h hok).elim
section
variable {w : World} {c : Nat} {C : Cs}
/-- bytes are put into a record -/
def Cs.put (C : Cs) (j at_ : Nat) (ys : List UInt8) : Cs := C.Xh (Mem.put C.κ.xs ys ((C.wins.getD j (0, 0)).1 + at_))
theorem Ns {xs ys : List UInt8} {p : Nat} (h : p + ys.length ≤ xs.length) : (Mem.put xs ys p).length = xs.length := by
 unfold Mem.put; simp only [List.length_append, List.length_take, List.length_drop]; omega
/-- the memory's block -/
def Cs.mB (C : Cs) : List (Nat × Obj) := [(C.κ.mb, blk (C.κ.xs.map U) 5)]
theorem Uh (hM : CmI w c C) {kind idx j at_ n : Nat} {bv : Value} {ys : List UInt8} (h : Rc C.nms.length kind idx j at_ n) (hnb : (((kind : Nat) : Int), ((idx : Nat) : Int)) ∉ C.bad) (hl : RdS w bv (ys.map U)) (hy : ys.length = n) :
  Ret Tryz.prog 86 #[ptr c 0, .agg #[I kind, I idx], bv, .bool true] w fun v w' => v = .bool true ∧ CmI w' c (C.put j at_ ys) ∧ Hp w (C.put j at_ ys).mB w' := by
 obtain ⟨nm, x, hnm, hx, hfit, hn40, ha5⟩ := h.fit hM
 have hlo : (C.wins.getD j (0, 0)).1 = x.1 := by rw [List.getD_eq_getElem?_getD, hx]; rfl
 have hin := (hM.hw _ _ _ hnm hx).hin
 have hxl := hM.hK.hx
 have key : Ret Tryz.prog 86 #[ptr c 0, .agg #[I kind, I idx], bv, .bool true] w fun v w' => v = .bool true ∧ Hp w [(C.κ.mb, blk ((Mem.put C.κ.xs ys (x.1 + at_)).map U) 5)] w' := by
  refine Qi (args := [_, _, _, _]) func86 rfl ntmps86 results86 (by simp) ?_
  have H := Hp.refl w
  have hcb := hM.hc
  obtain ⟨ba, bc, rfl⟩ := hl.form
  (refine Js (Jr (Qb rfl (Xl (vs := [I kind, I idx]) H rfl rfl) ?_)); clear H; intro c5 w3 hc5 H)
  (refine Ja (Jn (Js (Jr (Jm (J (Qo (vs := [I kind, I idx]) isAgg182 sizeOf182 rfl (H.get .here) rfl (by simp)) (Jz rfl call124 rfl (Vp (hM.Ql H kYs) h hnm) H ?_)))))); intro w10 H)
  (refine Jm (Jx rfl rfl (Jx rfl rfl (Qb rfl (Qp (vs := [I 0, I 0, I 0]) H zeroValue217 rfl) ?_))); clear H; intro c9 w14 hc9 H)
  (refine Qd rfl (Qg (vs := [I nm, I at_, I n]) H sizeOf217 rfl rfl (by simp [Value.oneCell']) .here (by simp)) ?_; clear H; intro w15 H; replace H : Hp w [(c9, blk [I nm, I at_, I n] 217), (c5, blk [I kind, I idx] 182)] w15 := H)
  refine Ja (Jn (Js (Js ?_)))
  (refine Zc (fun _ => false) (by kernel_rfl) H ?_; clear H; intro w20 H)
  refine Am 0 rfl H (Az 1 rfl rfl H (fun _ hC => Xj rfl) (Am 2 rfl H (Ai 3 rfl rfl rfl H (fun _ hC => Va) (Ag 4 rfl rfl rfl H (fun _ hC => Xj rfl) (Ah 5 rfl rfl H (fun _ hC => Zg rfl) (Am 6 rfl H (Ai 7 rfl rfl rfl H (fun _ hC => Va) (Ag 8 rfl rfl rfl H (fun _ hC => Qf rfl) (Ag 9 rfl rfl rfl H (fun _ hC => Qa (off' := 3) underlying177 rfl sizeOf175 (by decide) rfl rfl) (Ag 10 rfl rfl rfl H (fun _ hC => Qe isAgg175 rfl (hC.Qc hcb kYs) rfl) (Ag 11 rfl rfl rfl H (fun _ hC => Qo (vs := [I kind, I idx]) isAgg182 sizeOf182 rfl (hC.get (.there .here)) rfl (by simp)) (Ag 12 rfl rfl rfl H (fun _ hC => Mr.R_lookup_no (hC.Qc hM.hmp kYs) hM.hbad rfl rfl hnb) (Ag 13 rfl rfl rfl H (fun _ hC => Zm rfl rfl (by omega)) (Ah 14 rfl rfl H (fun _ hC => Zg rfl) (Ad (Jc rfl (Jk (Js ?_))))))))))))))))))
  (refine Xi (fun w2 => w2.heap[c]? = some (blk [ptr C.κ.k 0, I C.e, .slice C.ca C.nms.length C.cc, .map (some C.mp)] 177) ∧ w2.heap[c9]? = some (blk [I nm, I at_, I n] 217)) (fun _ => false) (by kernel_rfl) H ?_; clear H; intro w40 H)
  (refine Am 0 rfl ⟨H.Qc hcb kYs, H.get .here⟩ (Az 1 rfl rfl ⟨H.Qc hcb kYs, H.get .here⟩ (fun _ hC => Qf rfl) (Az 2 rfl rfl ⟨H.Qc hcb kYs, H.get .here⟩ (fun _ hC => Qa (off' := 0) underlying177 rfl sizeOf71 (by decide) rfl rfl) (Az 3 rfl rfl ⟨H.Qc hcb kYs, H.get .here⟩ (fun _ hC => Qe (v := ptr C.κ.k 0) isAgg71 rfl hC.1 rfl) (Am 4 rfl ⟨H.Qc hcb kYs, H.get .here⟩ (Az 5 rfl rfl ⟨H.Qc hcb kYs, H.get .here⟩ (fun _ hC => Qf rfl) (Az 6 rfl rfl ⟨H.Qc hcb kYs, H.get .here⟩ (fun _ hC => Qa (off' := 1) underlying177 rfl sizeOf3 (by decide) rfl rfl) (Az 7 rfl rfl ⟨H.Qc hcb kYs, H.get .here⟩ (fun _ hC => Qe (v := I C.e) isAgg3 rfl hC.1 rfl) (Az 8 rfl rfl ⟨H.Qc hcb kYs, H.get .here⟩ (fun _ hC => Qa (off' := 0) underlying217 rfl sizeOf3 (by decide) rfl rfl) (Az 9 rfl rfl ⟨H.Qc hcb kYs, H.get .here⟩ (fun _ hC => Qe (v := I nm) isAgg3 rfl hC.2 rfl) (Az 10 rfl rfl ⟨H.Qc hcb kYs, H.get .here⟩ (fun _ hC => Qa (off' := 1) underlying217 rfl sizeOf3 (by decide) rfl rfl) (Az 11 rfl rfl ⟨H.Qc hcb kYs, H.get .here⟩ (fun _ hC => Qe (v := I at_) isAgg3 rfl hC.2 rfl) (Am 12 rfl ⟨H.Qc hcb kYs, H.get .here⟩ (Az 13 rfl rfl ⟨H.Qc hcb kYs, H.get .here⟩ (fun _ hC => Qm (places := [(0, 1), (1, 1), (2, 1), (3, 1), (4, 1), (5, 1), (6, 1)]) (vs := [I 2, I nm, I at_, I 0, I 0, I 0, .slice ba (ys.map U).length bc]) underlying44 typeInfo44 rfl rfl (by kernel_rfl) rfl rfl rfl) (Ao 14 (Qv rfl (.inl rfl) (Qw rfl call36 rfl) (do_write (hl.Yd H kYs) (hM.hK.Ql H kYs) (hM.hw _ _ _ hnm hx) (by omega)) (by rintro _ w2 ⟨rfl, H1⟩ _; exact ⟨H1.Xw (T := [177]) (H.Qc hcb kYs) (by simp [elT]) (Out.cons (H.Qc hM.hK.hb kYs) (by simp [elT]) Out.nil), (H.Bx hM.hK.hb kYs H1).get (.there .here)⟩) ?_))))))))))))))); rintro _ w56 ⟨rfl, H1⟩; have hk9 := H1.Xw (T := [177]) (H.Qc hcb kYs) (by simp [elT]) (Out.cons (H.Qc hM.hK.hb kYs) (by simp [elT]) Out.nil); replace H := H.Bx hM.hK.hb kYs H1; clear H1)
  refine Az 15 rfl rfl ⟨hk9, H.get (.there .here)⟩ (fun _ hC => R_field underlying96 rfl isAgg33 rfl rfl) (Az 16 rfl rfl ⟨hk9, H.get (.there .here)⟩ (fun _ hC => Yr rfl rfl (by omega)) (Aa 17 rfl ⟨hk9, H.get (.there .here)⟩ (Ad (Je ?_))))
  exact ⟨_, rfl, rfl, (H.pop2 (by assumption)).pop2 (by assumption)⟩
 refine key.mono ?_
 rintro v w' ⟨rfl, H⟩
 refine ⟨rfl, ?_, ?_⟩
 ·unfold Cs.put; rw [hlo]
  exact hM.keepB H (by rw [Ns (by omega)]; exact hxl)
 ·unfold Cs.put Cs.mB Cs.Xh; rw [hlo]; exact H
theorem No (hM : CmI w c C) {kind idx j at_ n : Nat} (h : Rc C.nms.length kind idx j at_ n) :
  Ret Tryz.prog 86 #[ptr c 0, .agg #[I kind, I idx], nilS, .bool false] w fun v w' => v = .bool false ∧ Hp w [] w' := by
 obtain ⟨nm, x, hnm, hx, hfit, hn40, ha5⟩ := h.fit hM
 refine Qi (args := [_, _, _, _]) func86 rfl ntmps86 results86 (by simp) ?_
 have H := Hp.refl w
 have hcb := hM.hc
 (refine Js (Jr (Qb rfl (Xl (vs := [I kind, I idx]) H rfl rfl) ?_)); clear H; intro c5 w3 hc5 H)
 (refine Ja (Jn (Js (Jr (Jm (J (Qo (vs := [I kind, I idx]) isAgg182 sizeOf182 rfl (H.get .here) rfl (by simp)) (Jz rfl call124 rfl (Vp (hM.Ql H kYs) h hnm) H ?_)))))); intro w10 H)
 (refine Jm (Jx rfl rfl (Jx rfl rfl (Qb rfl (Qp (vs := [I 0, I 0, I 0]) H zeroValue217 rfl) ?_))); clear H; intro c9 w14 hc9 H)
 (refine Qd rfl (Qg (vs := [I nm, I at_, I n]) H sizeOf217 rfl rfl (by simp [Value.oneCell']) .here (by simp)) ?_; clear H; intro w15 H; replace H : Hp w [(c9, blk [I nm, I at_, I n] 217), (c5, blk [I kind, I idx] 182)] w15 := H)
 refine Ja (Jn (Js (Js ?_)))
 (refine Zc (fun _ => false) (by kernel_rfl) H ?_; clear H; intro w20 H)
 refine Am 0 rfl H (Az 1 rfl rfl H (fun _ hC => Xj rfl) (Am 2 rfl H (Ai 3 rfl rfl rfl H (fun _ hC => Va) (Ag 4 rfl rfl rfl H (fun _ hC => Xx rfl) (Ah 5 rfl rfl H (fun _ hC => Zg rfl) (Am 6 rfl H (Aq 7 rfl rfl (fun h => nomatch h) H (Aq 8 rfl rfl (fun h => nomatch h) H (Aq 9 rfl rfl (fun h => nomatch h) H (Aq 10 rfl rfl (fun h => nomatch h) H (Aq 11 rfl rfl (fun h => nomatch h) H (Aq 12 rfl rfl (fun h => nomatch h) H (Aq 13 rfl rfl (fun h => nomatch h) H (Ah 14 rfl rfl H (fun _ hC => Ug rfl) (Ad (Jd rfl (Js (Jr (Ja (Jn (Je ?_)))))))))))))))))))))
 exact ⟨_, rfl, rfl, H.none kYs⟩
theorem SetProc_ret (hM : CmI w c C) {i : Nat} (hi : i < 8) (p : Slot.Pi) (hok : Slot.okP p) (hlen : (Slot.Xm p).length = 24) (hnb : ((1 : Int), ((i : Nat) : Int)) ∉ C.bad) :
  Ret Tryz.prog 58 #[ptr c 0, I i, Slot.vP p] w fun v w' => v = .bool true ∧ CmI w' c (C.put 0 (24 * i) (Slot.Xm p)) ∧ Hp w (C.put 0 (24 * i) (Slot.Xm p)).mB w' := by
 refine Qi (args := [_, _, _]) func58 rfl ntmps58 results58 (by simp) ?_
 have H := Hp.refl w
 have hbk := hM.hK.hb
 (refine Js (Jr (Qb rfl (Slot.Ys H rfl) ?_)); clear H; intro cb w3 hcb H)
 (refine Ja (Jn (Js (Jr (J (Slot.Xa rfl (H.get .here)) (Jy rfl call91 rfl (Slot.Db p hok _) ?_))))); rintro _ w9 ⟨b, rfl, hb, H1⟩; have hsz := H.size; replace H := H.Zo H1 (Qu hb Xu); replace hb := Nat.le_trans hsz hb; clear H1 hsz)
 (refine Jm (Jx rfl rfl (Jx rfl rfl (Ja (Ja (Jn (Js (Jr (Jm (Jm (Jz rfl call92 rfl (C_proc _ _) H ?_)))))))))); intro w20 H)
 (refine Jm (Jm (Jy rfl call86 rfl (Uh (kind := 1) (idx := i) (j := 0) (at_ := 24 * i) (n := 24) (hM.Ql H kYs) (.inl ⟨rfl, hi, rfl, rfl, rfl⟩) hnb (RdS.blk (H.get .here) (by rw [List.drop_zero, List.take_of_length_le (by rw [List.length_map, hlen]; exact Nat.le_refl _)]) (by rw [List.length_map, hlen]; exact Nat.le_refl _) (Nat.le_refl _)) hlen) ?_)); rintro _ w23 ⟨rfl, hM2, H1⟩; replace H := H.Bx hbk kYs H1; clear H1)
 refine Ja (Jn (Je ?_))
 exact ⟨_, rfl, rfl, hM2, (H.pop2 (by assumption)).pop2 (by assumption)⟩
theorem SetFile_ret (hM : CmI w c C) {i : Nat} (hi : i < 12) (p : File.Fl) (hok : File.Yz p) (hlen : (File.Yj p).length = 8) (hnb : ((2 : Int), ((i : Nat) : Int)) ∉ C.bad) :
  Ret Tryz.prog 56 #[ptr c 0, I i, File.vF p] w fun v w' => v = .bool true ∧ CmI w' c (C.put 0 (192 + 8 * i) (File.Yj p)) ∧ Hp w (C.put 0 (192 + 8 * i) (File.Yj p)).mB w' := by
 refine Qi (args := [_, _, _]) func56 rfl ntmps56 results56 (by simp) ?_
 have H := Hp.refl w
 have hbk := hM.hK.hb
 (refine Js (Jr (Qb rfl (File.E_boxL H rfl) ?_)); clear H; intro cb w3 hcb H)
 (refine Ja (Jn (Js (Jr (J (File.Df rfl (H.get .here)) (Jy rfl call88 rfl (fenc_yes p hok _) ?_))))); rintro _ w9 ⟨b, rfl, hb, H1⟩; have hsz := H.size; replace H := H.Zo H1 (Qu hb Xu); replace hb := Nat.le_trans hsz hb; clear H1 hsz)
 (refine Jm (Jx rfl rfl (Jx rfl rfl (Ja (Ja (Jn (Js (Jr (Jm (Jm (Jz rfl call89 rfl (C_file _ _) H ?_)))))))))); intro w20 H)
 (refine Jm (Jm (Jy rfl call86 rfl (Uh (kind := 2) (idx := i) (j := 0) (at_ := 192 + 8 * i) (n := 8) (hM.Ql H kYs) (.inr (.inl ⟨rfl, hi, rfl, rfl, rfl⟩)) hnb (RdS.blk (H.get .here) (by rw [List.drop_zero, List.take_of_length_le (by rw [List.length_map, hlen]; exact Nat.le_refl _)]) (by rw [List.length_map, hlen]; exact Nat.le_refl _) (Nat.le_refl _)) hlen) ?_)); rintro _ w23 ⟨rfl, hM2, H1⟩; replace H := H.Bx hbk kYs H1; clear H1)
 refine Ja (Jn (Je ?_))
 exact ⟨_, rfl, rfl, hM2, (H.pop2 (by assumption)).pop2 (by assumption)⟩
theorem SetTerm_ret (hM : CmI w c C) (p : Ring.Pi) (hok : Ring.okP p) (hlen : (Ring.Xm p).length = 40) (hnb : ((4 : Int), ((0 : Nat) : Int)) ∉ C.bad) :
  Ret Tryz.prog 54 #[ptr c 0, Ring.vP p] w fun v w' => v = .bool true ∧ CmI w' c (C.put 0 (448) (Ring.Xm p)) ∧ Hp w (C.put 0 (448) (Ring.Xm p)).mB w' := by
 refine Qi (args := [_, _]) func54 rfl ntmps54 results54 (by simp) ?_
 have H := Hp.refl w
 have hbk := hM.hK.hb
 (refine Js (Jr (Qb rfl (Ring.Ys H rfl) ?_)); clear H; intro cb w3 hcb H)
 (refine Ja (Jn (Js (Jr (J (Ring.Xa rfl (H.get .here)) (Jy rfl call85 rfl (Ring.Db p hok _) ?_))))); rintro _ w9 ⟨b, rfl, hb, H1⟩; have hsz := H.size; replace H := H.Zo H1 (Qu hb Xu); replace hb := Nat.le_trans hsz hb; clear H1 hsz)
 (refine Jm (Jx rfl rfl (Jx rfl rfl (Ja (Ja (Jn (Js (Jr (Jm (J (Qm (places := [(0, 1), (1, 1)]) (vs := [I (4 : Nat), I (0 : Nat)]) underlying182 typeInfo182 rfl rfl (by kernel_rfl) rfl rfl rfl) (Jm (Jm (Jy rfl call86 rfl (Uh (kind := 4) (idx := 0) (j := 0) (at_ := 448) (n := 40) (hM.Ql H kYs) (.inr (.inr (.inr (.inr (.inl ⟨rfl, rfl, rfl, rfl, rfl⟩))))) hnb (RdS.blk (H.get .here) (by rw [List.drop_zero, List.take_of_length_le (by rw [List.length_map, hlen]; exact Nat.le_refl _)]) (by rw [List.length_map, hlen]; exact Nat.le_refl _) (Nat.le_refl _)) hlen) ?_)))))))))))); rintro _ w22 ⟨rfl, hM2, H1⟩; replace H := H.Bx hbk kYs H1; clear H1)
 refine Ja (Jn (Je ?_))
 exact ⟨_, rfl, rfl, hM2, (H.pop2 (by assumption)).pop2 (by assumption)⟩
theorem SetFront_ret (hM : CmI w c C) {g : Int} (h0 : 0 ≤ g) (h8 : g < 8) (hnb : ((5 : Int), ((0 : Nat) : Int)) ∉ C.bad) :
  Ret Tryz.prog 55 #[ptr c 0, I g] w fun v w' => v = .bool true ∧ CmI w' c (C.put 0 488 (Nv g)) ∧ Hp w (C.put 0 488 (Nv g)).mB w' := by
 refine Qi (args := [_, _]) func55 rfl ntmps55 results55 (by simp) ?_
 have H := Hp.refl w
 have hbk := hM.hK.hb
 (refine Js (Jr (Ja (Jn (Js (Jr (Jm (Jy rfl call87 rfl (Mg h0 h8 _) ?_))))))); rintro _ w8 ⟨u, M, rfl, hO, H1⟩; have h8 := H.Yn hO H1; clear H H1 hO; obtain ⟨hO, H⟩ := h8; obtain ⟨ua, uc, rfl⟩ := hO.form)
 (refine Jm (Jx rfl rfl (Jx rfl rfl (Ja (Ja (Jn (Js (Jr (Jm (J (Qm (places := [(0, 1), (1, 1)]) (vs := [I (5 : Nat), I (0 : Nat)]) underlying182 typeInfo182 rfl rfl (by kernel_rfl) rfl rfl rfl) (Jm (Jm (Jy rfl call86 rfl (Uh (kind := 5) (idx := 0) (j := 0) (at_ := 488) (n := 4) (hM.Ql H kYs) (.inr (.inr (.inr (.inr (.inr ⟨rfl, rfl, rfl, rfl, rfl⟩))))) hnb (RdS.own hO (fun p hp => H.held p (by simp [hp]))) rfl) ?_)))))))))))); rintro _ w21 ⟨rfl, hM2, H1⟩; replace H := H.Bx hbk kYs H1; clear H1)
 refine Ja (Jn (Je ?_))
 exact ⟨_, rfl, rfl, hM2, (H.perm (List.perm_append_comm (l₁ := [_]) (l₂ := M ++ []) |>.symm.symm)).Ub kYs⟩
end
end Go.Proofs.YtlpmfldijgdcoaaGreatDoor.Cm
namespace Go.Proofs.YtlpmfldijgdcoaaGreatDoor.Ho
open Go Go.Proofs Fx Kn Cm Tryz
section
variable {w : World} {c : Nat} {C : Cs} {i : Nat} {p : Slot.Pi}
theorem snd_nb (hs : Snd C) (r : Int × Int) : r ∉ C.bad := by rw [hs.nb]; simp
theorem Dt (hM : CmI w c C) (hs : Snd C) (hi : i < 8) (hp : C.pD i = (p, 1)) :
  Ret Tryz.prog 64 #[ptr c 0, I i] w fun v w' => v = .tuple #[Slot.vP p, I 1] ∧ Hp w [] w' := by
 have h := Proc_ret hM hi (snd_nb hs _) (hs.p i hi)
 rw [hp] at h
 exact h
theorem Self_ret (hM : CmI w c C) (hs : Snd C) (hi : i < 8) (hp : C.pD i = (p, 1)) (h1 : p.s = 1) :
  Ret Tryz.prog 184 #[ptr c 0, I i] w fun v w' => v = .tuple #[Slot.vP p, I 0] ∧ Hp w [] w' := by
 refine Qy (args := [_, _]) func184 rfl ntmps184 results184 (by simp) ?_
 have H := Hp.refl w
 (refine Js (Jr (Qb rfl (Slot.Qt H) ?_)); clear H; intro c4 w3 hc4 H)
 (refine Ja (Jn (Js (Jr (Jm (Jz rfl call63 rfl (Look_ret (hM.Ql H kYs) hs) H ?_))))); intro w9 H)
 (refine Jn (Js (Jr (Jm (Jm (Jz rfl call64 rfl (Dt (hM.Ql H kYs) hs hi hp) H ?_))))); intro w15 H)
 (refine Jm (Jx rfl rfl (Jx rfl rfl (Qb rfl (Slot.Qt H) ?_))); clear H; intro c6 w19 hc6 H)
 (refine Qd rfl (Slot.Qn H rfl rfl .here) ?_; clear H; intro w20 H)
 (refine Ja (Jn (Js (Js (Jr (Jm (J (Yl rfl rfl (by omega)) (Jm (Jt rfl rfl (Jf 0 underlying58 rfl sizeOf3 rfl rfl (Jt rfl rfl (J (Qe (v := I 1) isAgg3 rfl (H.get .here) (by rw [← h1]; rfl)) (Jt rfl rfl (J (Yl rfl rfl (by omega)) (Jp rfl (Jn (Jc rfl (Jk (Js (Jr (J (Slot.Xa rfl (H.get .here)) (Qd rfl (Slot.Qn H rfl rfl (.there .here)) ?_))))))))))))))))))))); clear H; intro w42 H)
 refine Ja (Jn (Je ?_))
 exact ⟨_, ⟨_, _, rfl, Slot.ldP (H.get (.there .here)), rfl⟩, rfl, H.none kYs⟩
/-- what a call tells -/
def rtC (n e : Int) (b : Value) (bl : Bool) : List Value := [I n, I e, b, .bool bl]
theorem own_parent (hM : CmI w c C) (hs : Snd C) (hi : i < 8) (hp : C.pD i = (p, 1)) (h1 : p.s = 1) (h2 : 0 ≤ p.p ∧ p.p ≤ 8) {a b : Int} {da : Option Addr} {dl dc : Nat} :
  Ret Tryz.prog 176 #[ptr c 0, I i, .agg #[I 17, I a, I b, .slice da dl dc]] w fun v w' => v = .agg (rtC (p.p - 1) 0 nilS false).toArray ∧ Hp w [] w' := by
 refine Qy (args := [_, _, _]) func176 rfl ntmps176 results176 (by simp) ?_
 have H := Hp.refl w
 (refine Js (Jr (Qb rfl (Xl (vs := [I 17, I a, I b, .slice da dl dc]) H rfl rfl) ?_)); clear H; intro c5 w3 hc5 H)
 (refine Qb rfl (Qp (vs := rtC 0 0 nilS false) H zeroValue227 rfl) ?_; clear H; intro c6 w4 hc6 H)
 (refine Jn (Js (Jr (Jm (Jm (Jz rfl call184 rfl (Self_ret (hM.Ql H kYs) hs hi hp h1) H ?_))))); intro w10 H)
 (refine Jm (Jx rfl rfl (Jx rfl rfl (Qb rfl (Slot.Qt H) ?_))); clear H; intro c7 w14 hc7 H)
 (refine Qd rfl (Slot.Qn H rfl rfl .here) ?_; clear H; intro w15 H)
 refine Ja (Jn (Js (Jr (Ja (Jn (Js (Jb (Js (Jr (Jm (J (Yl rfl rfl (by omega)) (Ja (Jn (Jc rfl (Js (Jr (Jf 0 underlying38 rfl sizeOf3 rfl rfl (Jl isAgg3 rfl (H.get (.there (.there .here))) rfl (J (Xf rfl rfl (by omega)) (Ja (Jn (Jc rfl (Js (Jr (Jf 0 underlying38 rfl sizeOf3 rfl rfl (Jl isAgg3 rfl (H.get (.there (.there .here))) rfl (J (Yr rfl rfl (by omega)) (Ja (Jn (Jd rfl (Js ?_)))))))))))))))))))))))))))))))
 ((have ms : True := trivial)) <;> refine Qk ?_
 refine Jf 1 underlying58 rfl sizeOf3 rfl rfl (J (Qe (v := I p.p) isAgg3 rfl (H.get .here) rfl) (J (Vt rfl rfl (Xc (by omega))) (J (Qm (places := [(0, 1), (1, 1), (2, 1), (3, 1)]) (vs := rtC (p.p - 1) 0 nilS false) underlying227 typeInfo227 rfl rfl (by kernel_rfl) rfl rfl rfl) ?_)))
 (have _g := ms; refine Qd rfl (Qg (vs := rtC (p.p - 1) 0 nilS false) H sizeOf227 rfl rfl (by simp [rtC, Value.oneCell']) (.there .here) (by simp [rtC])) ?_; clear H; intro w53 H; replace H : Hp w [(c7, blk (Slot.piC p) 58), (c6, blk (rtC (p.p - 1) 0 nilS false) 227), (c5, blk [I 17, I a, I b, .slice da dl dc] 38)] w53 := H)
 refine Jn (Je ?_)
 exact ⟨_, ⟨_, rfl, ldA isAgg227 sizeOf227 (H.get (.there .here)) rfl (by simp [rtC])⟩, rfl, H.none kYs⟩
theorem files_none {a b : Int} {da : Option Addr} {dl dc : Nat} (cv : Value) (i : Int) (w : World) :
  Ret Tryz.prog 171 #[cv, I i, .agg #[I 17, I a, I b, .slice da dl dc]] w fun v w' => v = .tuple #[.agg (rtC 0 0 nilS false).toArray, .bool false] ∧ Hp w [] w' := by
 refine Qy (args := [_, _, _]) func171 rfl ntmps171 results171 (by simp) ?_
 have H := Hp.refl w
 (refine Js (Jr (Qb rfl (Xl (vs := [I 17, I a, I b, .slice da dl dc]) H rfl rfl) ?_)); clear H; intro c5 w3 hc5 H)
 (refine Qb rfl (Qp (vs := rtC 0 0 nilS false) H zeroValue227 rfl) ?_; clear H; intro c6 w4 hc6 H)
 (refine Ja (Jn (Js (Js (Jr (Jf 0 underlying38 rfl sizeOf3 rfl rfl (Jl isAgg3 rfl (H.get (.there .here)) rfl (Jn (Jb (Js (Jr (J (Xf rfl rfl (by omega)) (Ja (Jn (Jc rfl (Js (Jr (J (Xf rfl rfl (by omega)) (Ja (Jn (Jc rfl (Js (Jr (J (Xf rfl rfl (by omega)) (Ja (Jn (Jc rfl (Js (Jr (J (Xf rfl rfl (by omega)) (Ja (Jn (Jc rfl (Js (Jr (J (Xf rfl rfl (by omega)) (Ja (Jn (Jc rfl (Js (Jr (J (Xf rfl rfl (by omega)) (Ja (Jn (Jc rfl (Js (Jr (J (Xf rfl rfl (by omega)) (Ja (Jn (Jc rfl (Js (Jr (J (Xf rfl rfl (by omega)) (Ja (Jn (Jc rfl (Jk (Js (Jr (J (Qm (places := [(0, 1), (1, 1), (2, 1), (3, 1)]) (vs := rtC 0 0 nilS false) underlying227 typeInfo227 rfl rfl (by kernel_rfl) rfl rfl rfl) (Qd rfl (Qg (vs := rtC 0 0 nilS false) H sizeOf227 rfl rfl (by simp [rtC, Value.oneCell']) .here (by simp [rtC])) ?_))))))))))))))))))))))))))))))))))))))))))))))))))))))))))))); clear H; intro w66 H; replace H : Hp w [(c6, blk (rtC 0 0 nilS false) 227), (c5, blk [I 17, I a, I b, .slice da dl dc] 38)] w66 := H)
 refine Ja (Jn (Je ?_))
 exact ⟨_, ⟨_, _, rfl, ldA isAgg227 sizeOf227 (H.get .here) rfl (by simp [rtC]), rfl⟩, rfl, H.none kYs⟩
theorem Do_parent (hM : CmI w c C) (hs : Snd C) (hi : i < 8) (hp : C.pD i = (p, 1)) (h1 : p.s = 1) (h2 : 0 ≤ p.p ∧ p.p ≤ 8) {a b : Int} {da : Option Addr} {dl dc : Nat} :
  Ret Tryz.prog 133 #[ptr c 0, I i, .agg #[I 17, I a, I b, .slice da dl dc]] w fun v w' => v = .agg (rtC (p.p - 1) 0 nilS false).toArray ∧ Hp w [] w' := by
 refine Qy (args := [_, _, _]) func133 rfl ntmps133 results133 (by simp) ?_
 have H := Hp.refl w
 (refine Js (Jr (Qb rfl (Xl (vs := [I 17, I a, I b, .slice da dl dc]) H rfl rfl) ?_)); clear H; intro c5 w3 hc5 H)
 (refine Qb rfl (Qp (vs := rtC 0 0 nilS false) H zeroValue227 rfl) ?_; clear H; intro c6 w4 hc6 H)
 (refine Jn (Js (Jr (Jm (Jz rfl call63 rfl (Look_ret (hM.Ql H kYs) hs) H ?_)))); intro w9 H)
 (refine Jn (Js (Js (Jr (Jm (Jm (J (Qo (vs := [I 17, I a, I b, .slice da dl dc]) isAgg38 sizeOf38 rfl (H.get (.there .here)) rfl (by simp)) (Jz rfl call171 rfl (files_none _ _ _) H ?_))))))); intro w17 H)
 (refine Jm (Jx rfl rfl (Jx rfl rfl (Qb rfl (Qp (vs := rtC 0 0 nilS false) H zeroValue227 rfl) ?_))); clear H; intro c7 w21 hc7 H)
 (refine Qd rfl (Qg (vs := rtC 0 0 nilS false) H sizeOf227 rfl rfl (by simp [rtC, Value.oneCell']) .here (by simp [rtC])) ?_; clear H; intro w22 H; replace H : Hp w [(c7, blk (rtC 0 0 nilS false) 227), (c6, blk (rtC 0 0 nilS false) 227), (c5, blk [I 17, I a, I b, .slice da dl dc] 38)] w22 := H)
 refine Ja (Jn (Js (Jr (Jm (Jn (Jc rfl (Jk (Js (Js (Jr (Jf 0 underlying38 rfl sizeOf3 rfl rfl (Jl isAgg3 rfl (H.get (.there (.there .here))) rfl (Jn (Jb (Js (Jr (J (Xf rfl rfl (by omega)) (Ja (Jn (Jc rfl (Js (Jr (J (Xf rfl rfl (by omega)) (Ja (Jn (Jc rfl (Js (Jr (J (Xf rfl rfl (by omega)) (Ja (Jn (Jc rfl (Js (Jr (J (Xf rfl rfl (by omega)) (Ja (Jn (Jc rfl (Js (Jr (J (Xf rfl rfl (by omega)) (Ja (Jn (Jc rfl (Js (Js (Jr (J (Xf rfl rfl (by omega)) (Ja (Jn (Jc rfl (Js (Jr (J (Yr rfl rfl (by omega)) (Ja (Jn (Jd rfl (Jk (Jd rfl (Js ?_))))))))))))))))))))))))))))))))))))))))))))))))))))))))))))
 ((have ms : True := trivial)) <;> refine Qk ?_
 (refine Jm (Jm (J (Qo (vs := [I 17, I a, I b, .slice da dl dc]) isAgg38 sizeOf38 rfl (H.get (.there (.there .here))) rfl (by simp)) (Jz rfl call176 rfl (own_parent (hM.Ql H kYs) hs hi hp h1 h2) H ?_))); intro w88 H)
 (have _g := ms; refine Qd rfl (Qg (vs := rtC (p.p - 1) 0 nilS false) H sizeOf227 rfl rfl (by simp [rtC, Value.oneCell']) (.there .here) (by simp [rtC])) ?_; clear H; intro w89 H; replace H : Hp w [(c7, blk (rtC 0 0 nilS false) 227), (c6, blk (rtC (p.p - 1) 0 nilS false) 227), (c5, blk [I 17, I a, I b, .slice da dl dc] 38)] w89 := H)
 refine Jn (Je ?_)
 exact ⟨_, ⟨_, rfl, ldA isAgg227 sizeOf227 (H.get (.there .here)) rfl (by simp [rtC])⟩, rfl, H.none kYs⟩
end
end Go.Proofs.YtlpmfldijgdcoaaGreatDoor.Ho
namespace Go.Proofs.YtlpmfldijgdcoaaGreatDoor.Ho
open Go Go.Proofs Fx Kn Cm Sect Tryz
theorem hp_rot {w0 w : World} {M : List (Nat × Obj)} {p q : Nat × Obj} (H : Hp w0 (M ++ p :: [q]) w) : Hp w0 (q :: (M ++ [p])) w := by
 rw [List.append_cons] at H
 exact H.perm List.perm_append_comm
/-- the first process, as it begins -/
def p0 : Slot.Pi := ⟨1, 0, 0, 0, 0, 0, 0, 0, [1, 0, 0, 0, 0, 0, 0, 0], rfl⟩
theorem next0 (w : World) : Ret Tryz.prog 178 #[Slot.vP p0] w fun v w' => v = .tuple #[I 0, I 0] ∧ Hp w [] w' := by
 refine Qi (args := [_]) func178 rfl ntmps178 results178 (by simp) ?_
 have H := Hp.refl w
 (refine Js (Jr (Qb rfl (Slot.Ys H rfl) ?_)); clear H; intro c1 w3 hc1 H)
 refine Ja (Ja (Jn (Js (Jr (Jf 4 underlying58 rfl sizeOf3 rfl rfl (J (Qe (v := I 0) isAgg3 rfl (H.get .here) rfl) (Jf 5 underlying58 rfl sizeOf3 rfl rfl (J (Qe (v := I 0) isAgg3 rfl (H.get .here) rfl) (J (Zb (r := 0) rfl rfl (by simp) (by decide)) (J (Zb (r := 0) rfl rfl (by simp) (by decide)) (Ja (Jn (Js (Jb (Js (Jr (Jf 0 underlying58 rfl sizeOf3 rfl rfl (J (Qe (v := I 1) isAgg3 rfl (H.get .here) rfl) (J (Yl rfl rfl (by omega)) (Jm (Jt rfl rfl (Jm (Jt rfl rfl (J (Yr rfl rfl (by omega)) (Jp rfl (Ja (Jn (Jd rfl (Js (Jr (Ja (Ja (Jn (Je ?_))))))))))))))))))))))))))))))))))
 exact ⟨_, rfl, rfl, H.none kYs⟩
theorem deliver0 (w : World) : Ret Tryz.prog 139 #[Slot.vP p0] w fun v w' => v = .tuple #[Slot.vP p0, nilS, I 0] ∧ Hp w [] w' := by
 refine Ret_of_WG (args := [_]) func139 rfl ntmps139 results139 (by simp) ?_
 have H := Hp.refl w
 (refine Js (Jr (Qb rfl (Slot.Ys H rfl) ?_)); clear H; intro c1 w3 hc1 H)
 (refine Qb rfl (Slot.Qt H) ?_; clear H; intro c2 w4 hc2 H)
 refine Ja (Ja (Jn (Jb (Vs 1 ?_))))
 (refine Jb (Js (Jr (J (Slot.Xa (p := p0) rfl (H.get (.there .here))) (Jz rfl call178 rfl (next0 _) H ?_)))); intro w14 H)
 (refine Jm (Jx rfl rfl (Jx rfl rfl (Ja (Ja (Jn (Js (Js (Jr (Jm (J (Yr rfl rfl (by omega)) (Jn (Jd rfl (Js (Jr (J (Slot.Xa (p := p0) rfl (H.get (.there .here))) (Jm (Qd rfl (Slot.Qn H rfl rfl .here) ?_))))))))))))))))); clear H; intro w32 H)
 refine Ja (Ja (Jn (Je ?_)))
 exact ⟨[Slot.vP p0, nilS, I 0], .cell rfl (Slot.ldP (H.get .here)) (.tmp rfl (.tmp rfl .nil)), by simp, rfl, H.none kYs⟩
section
variable {w : World} {κ : KS} {h e n sp c : Nat} {S : Sx} {qv : Value} {sl : Int} {ph st op a b : Int} {da : Option Addr} {dl dc : Nat}
theorem holds0 (hsp : w.heap[sp]? = some (blk (sxC S qv) 170)) (who stamp : Int) :
  Ret Tryz.prog 132 #[ptr sp 0, I who, I stamp] w fun v w' => v = .bool (decide (S.held = true ∧ S.who = who ∧ S.stamp = stamp)) ∧ Hp w [] w' :=
 (Sect.holds_ret (w0 := w) (Mq := []) (R := []) who stamp (Hp.focus0 hsp)).mono fun v w' ⟨h1, h2⟩ => ⟨h1, h2.back hsp⟩
theorem By (hh : w.heap[h]? = some (blk [ptr κ.k 0, I e, I sl, I n, ptr c 0, I ph, I st, I op, I a, I b, .slice da dl dc] 139)) (hs : Ks w κ e n sp) (hsp : w.heap[sp]? = some (blk (sxC S qv) 170)) (ph2 : Int) :
  Ret Tryz.prog 96 #[ptr h 0, I ph2] w fun v w' => v = .tuple #[] ∧ Hp w [(h, blk [ptr κ.k 0, I e, I sl, I n, ptr c 0, I ph2, I st, I op, I a, I b, .slice da dl dc] 139), (sp, blk (sxC (Yy S e st) qv) 170)] w' := by
 refine Qi (args := [_, _]) func96 rfl ntmps96 results96 (by simp) ?_
 have hhs : h ≠ sp := Vg hh hsp (by simp)
 have H := (Hp.focus0 hsp).focus hh (by simpa using hhs)
 refine Js ?_
 (refine Xi (fun w2 => w2.heap[h]? = some (blk [ptr κ.k 0, I e, I sl, I n, ptr c 0, I ph, I st, I op, I a, I b, .slice da dl dc] 139)) (fun _ => false) (by kernel_rfl) H ?_; clear H; intro w2 H)
 (refine Am 0 rfl (H.get .here) (Az 1 rfl rfl (H.get .here) (fun _ hC => Qf rfl) (Az 2 rfl rfl (H.get .here) (fun _ hC => Qa (off' := 0) underlying139 rfl sizeOf71 (by decide) rfl rfl) (Az 3 rfl rfl (H.get .here) (fun _ hC => Qe (v := ptr κ.k 0) isAgg71 rfl hC rfl) (Am 4 rfl (H.get .here) (Az 5 rfl rfl (H.get .here) (fun _ hC => Qf rfl) (Az 6 rfl rfl (H.get .here) (fun _ hC => Qa (off' := 1) underlying139 rfl sizeOf3 (by decide) rfl rfl) (Az 7 rfl rfl (H.get .here) (fun _ hC => Qe (v := I e) isAgg3 rfl hC rfl) (Am 8 rfl (H.get .here) (Az 9 rfl rfl (H.get .here) (fun _ hC => Qf rfl) (Az 10 rfl rfl (H.get .here) (fun _ hC => Qa (off' := 3) underlying139 rfl sizeOf3 (by decide) rfl rfl) (Az 11 rfl rfl (H.get .here) (fun _ hC => Qe (v := I n) isAgg3 rfl hC rfl) (Am 12 rfl (H.get .here) (Az 13 rfl rfl (H.get .here) (fun _ hC => Qf rfl) (Az 14 rfl rfl (H.get .here) (fun _ hC => Qa (off' := 6) underlying139 rfl sizeOf3 (by decide) rfl rfl) (Az 15 rfl rfl (H.get .here) (fun _ hC => Qe (v := I st) isAgg3 rfl hC rfl) (Az 16 rfl rfl (H.get .here) (fun _ hC => Qm (places := [(0, 1), (1, 1), (2, 1), (3, 1), (4, 1), (5, 1), (6, 1)]) (vs := [I 9, I 0, I st, I n, I 0, I 0, nilS]) underlying44 typeInfo44 rfl rfl (by kernel_rfl) rfl rfl rfl) (Ao 17 (Qv rfl (.inl rfl) (Qw rfl call36 rfl) (do_leave (hs.keep H (Out.cons hh (by simp [sT, elT]) (Out.cons hsp (by simp [sT, elT]) Out.nil))) (H.get (.there .here))) (by rintro _ w2 ⟨_, H1⟩ _; exact (H.seq H1 (Yh (.there .here) Yi)).get .here) ?_)))))))))))))))))); rintro _ w21 ⟨rfl, H1⟩; replace H := H.seq H1 (Yh (.there .here) Yi); clear H1)
 (refine Ad (Jr (Jm (Jm (Ji rfl (Jf 5 underlying139 rfl sizeOf3 rfl rfl (Qd rfl (Qz (v := I ph2) H sizeOf3 rfl rfl rfl .here (by simp)) ?_)))))); clear H; intro w28 H; replace H : Hp w [(h, blk [ptr κ.k 0, I e, I sl, I n, ptr c 0, I ph2, I st, I op, I a, I b, .slice da dl dc] 139), (sp, blk (sxC (Yy S e st) qv) 170)] w28 := H)
 refine Jn ?_
 exact ⟨_, rfl, rfl, H⟩
/-- what is told of a process -/
def oC (ss sl op a b : Int) (D : Value) (n e : Int) (B : Value) (bk : Bool) (sg : Value) (d : Int) : List Value := [I ss, I sl, I op, I a, I b, D, I n, I e, B, .bool bk, sg, I d]
def z0 : List Value := oC 0 0 0 0 0 nilS 0 0 nilS false nilS 0
theorem back_ret {n1 e1 : Int} (hh : w.heap[h]? = some (blk [ptr κ.k 0, I e, I sl, I n, ptr c 0, I ph, I st, I op, I a, I b, .slice da dl dc] 139)) :
  Ret Tryz.prog 130 #[ptr h 0, .agg (rtC n1 e1 nilS false).toArray] w fun v w' => v = .agg (oC 0 sl op a b (.slice da dl dc) n1 e1 nilS true nilS 0).toArray ∧ Hp w [] w' := by
 refine Qy (args := [_, _]) func130 rfl ntmps130 results130 (by simp) ?_
 have H := Hp.refl w
 (refine Js (Jr (Qb rfl (Xl (vs := rtC n1 e1 nilS false) H rfl rfl) ?_)); clear H; intro c3 w3 hc3 H)
 (refine Qb rfl (Qp (vs := z0) H zeroValue40 rfl) ?_; clear H; intro c4 w4 hc4 H)
 refine Jn (Js ?_)
 (refine Zc (fun i => i == 15) (by kernel_rfl) H ?_; clear H; intro w7 H)
 (refine Am 0 rfl H (Az 1 rfl rfl H (fun _ hC => Qf rfl) (Az 2 rfl rfl H (fun _ hC => Qa (off' := 2) underlying139 rfl sizeOf3 (by decide) rfl rfl) (Az 3 rfl rfl H (fun _ hC => Qe isAgg3 rfl (hC.Qc hh kYs) rfl) (Am 4 rfl H (Az 5 rfl rfl H (fun _ hC => Qf rfl) (Az 6 rfl rfl H (fun _ hC => Qa (off' := 7) underlying139 rfl sizeOf38 (by decide) rfl rfl) (Az 7 rfl rfl H (fun _ hC => Qo (vs := [I op, I a, I b, .slice da dl dc]) isAgg38 sizeOf38 rfl (hC.Qc hh kYs) rfl (by simp)) (Az 8 rfl rfl H (fun _ hC => Qa (off' := 0) underlying227 rfl sizeOf3 (by decide) rfl rfl) (Az 9 rfl rfl H (fun _ hC => Qe (v := I n1) isAgg3 rfl (hC.get (.there .here)) rfl) (Az 10 rfl rfl H (fun _ hC => Qa (off' := 1) underlying227 rfl sizeOf33 (by decide) rfl rfl) (Az 11 rfl rfl H (fun _ hC => Qe (v := I e1) isAgg33 rfl (hC.get (.there .here)) rfl) (Az 12 rfl rfl H (fun _ hC => Qa (off' := 2) underlying227 rfl sizeOf36 (by decide) rfl rfl) (Az 13 rfl rfl H (fun _ hC => Qe (v := nilS) isAgg36 rfl (hC.get (.there .here)) rfl) (Az 14 rfl rfl H (fun _ hC => Qm (places := [(0, 1), (1, 1), (2, 4), (6, 1), (7, 1), (8, 1), (9, 1), (10, 1), (11, 1)]) (vs := oC 0 sl op a b (.slice da dl dc) n1 e1 nilS true nilS 0) underlying40 typeInfo40 rfl rfl (by kernel_rfl) rfl rfl rfl) (Ao 15 (Xb rfl (.inl rfl) (Qg (vs := oC 0 sl op a b (.slice da dl dc) n1 e1 nilS true nilS 0) H sizeOf40 rfl rfl (by simp [oC, Value.oneCell']) .here (by simp [oC, z0])) (fun _ _ h => Bool.noConfusion h) ?_)))))))))))))))); clear H; intro w24 H; replace H : Hp w [(c4, blk (oC 0 sl op a b (.slice da dl dc) n1 e1 nilS true nilS 0) 40), (c3, blk (rtC n1 e1 nilS false) 227)] w24 := H)
 refine Ad (Je ?_)
 exact ⟨_, ⟨_, rfl, ldA isAgg40 sizeOf40 (H.get .here) rfl (by simp [oC])⟩, rfl, H.none kYs⟩
/-- one asks to be let in, and is -/
theorem want_ret {T st2 : Int} (hh : w.heap[h]? = some (blk [ptr κ.k 0, I e, I sl, I n, ptr c 0, I ph, I st, I op, I a, I b, .slice da dl dc] 139)) (hs : Ks w κ e n sp) (hsp : w.heap[sp]? = some (blk (sxC S nilS) 170)) (hq : S.q = []) (hB : Bd S T) (hT : T ≤ 1000000) (hn : 0 ≤ κ.now ∧ κ.now ≤ T)
  (hst : (enter S e κ.now).2.1 = st2) (hst0 : 0 < st2) :
  Ret Tryz.prog 97 #[ptr h 0] w fun v w' => ∃ qv M, v = .tuple #[] ∧ (∀ p ∈ M, w.heap.size ≤ p.1) ∧
   Hp w ((h, blk [ptr κ.k 0, I e, I sl, I n, ptr c 0, I 2, I st2, I op, I a, I b, .slice da dl dc] 139) :: (M ++ [(sp, blk (sxC (enter S e κ.now).1 qv) 170)])) w' := by
 refine Qi (args := [_]) func97 rfl ntmps97 results97 (by simp) ?_
 have hhs : h ≠ sp := Vg hh hsp (by simp)
 have H := Hp.refl w
 have hd : ∀ {w1 : World} {L : List (Nat × Obj)}, Hp w L w1 → (∀ p ∈ L, w.heap.size ≤ p.1) → Ret Tryz.prog 36 #[ptr κ.k 0, I e, .agg #[I 8, I 0, I 0, I n, I 0, I 0, nilS]] w1 fun v w' => ∃ qv M, v = .agg #[I 0, I st2, nilS] ∧ (∀ p ∈ M, w.heap.size ≤ p.1) ∧ Hp w (M ++ (sp, blk (sxC (enter S e κ.now).1 qv) 170) :: L) w' := by
  intro w1 L H1 hL
  refine (do_enter (hs.Ql H1 hL) (H1.Qc hsp hL) hq hB hT hn).mono ?_
  rintro v w' ⟨qv, M, rfl, hM, H2⟩
  rw [hst]
  exact ⟨qv, M, rfl, fun p hp => Nat.le_trans H1.size (hM p hp), hp_over2 H1 hsp hM H2 hL⟩
 have hout : ∀ {w1 : World} {qv : Value} {M L : List (Nat × Obj)}, (∀ p ∈ M, w.heap.size ≤ p.1) → (∀ p ∈ L, w.heap.size ≤ p.1) → Hp w (M ++ (sp, blk (sxC (enter S e κ.now).1 qv) 170) :: L) w1 → w1.heap[h]? = some (blk [ptr κ.k 0, I e, I sl, I n, ptr c 0, I ph, I st, I op, I a, I b, .slice da dl dc] 139) := by
  intro w1 qv M L hM hL H1
  exact H1.Xw (T := [139]) hh (by simp [elT]) ((Out.ofN hM).app (Out.cons hsp (by simp [elT]) (Out.ofN hL)))
 refine Js ?_
 (refine Xi (fun w2 => w2.heap[h]? = some (blk [ptr κ.k 0, I e, I sl, I n, ptr c 0, I ph, I st, I op, I a, I b, .slice da dl dc] 139)) (fun _ => false) (by kernel_rfl) H ?_; clear H; intro w2 H)
 refine Am 0 rfl (H.Qc hh kYs) (Az 1 rfl rfl (H.Qc hh kYs) (fun _ hC => Qf rfl) (Az 2 rfl rfl (H.Qc hh kYs) (fun _ hC => Qa (off' := 0) underlying139 rfl sizeOf71 (by decide) rfl rfl) (Az 3 rfl rfl (H.Qc hh kYs) (fun _ hC => Qe (v := ptr κ.k 0) isAgg71 rfl hC rfl) (Am 4 rfl (H.Qc hh kYs) (Az 5 rfl rfl (H.Qc hh kYs) (fun _ hC => Qf rfl) (Az 6 rfl rfl (H.Qc hh kYs) (fun _ hC => Qa (off' := 1) underlying139 rfl sizeOf3 (by decide) rfl rfl) (Az 7 rfl rfl (H.Qc hh kYs) (fun _ hC => Qe (v := I e) isAgg3 rfl hC rfl) (Am 8 rfl (H.Qc hh kYs) (Az 9 rfl rfl (H.Qc hh kYs) (fun _ hC => Qf rfl) (Az 10 rfl rfl (H.Qc hh kYs) (fun _ hC => Qa (off' := 3) underlying139 rfl sizeOf3 (by decide) rfl rfl) (Az 11 rfl rfl (H.Qc hh kYs) (fun _ hC => Qe (v := I n) isAgg3 rfl hC rfl) (Az 12 rfl rfl (H.Qc hh kYs) (fun _ hC => Qm (places := [(0, 1), (1, 1), (2, 1), (3, 1), (4, 1), (5, 1), (6, 1)]) (vs := [I 8, I 0, I 0, I n, I 0, I 0, nilS]) underlying44 typeInfo44 rfl rfl (by kernel_rfl) rfl rfl rfl) (Zf (i := 13) (j := 14) (by kernel_rfl) ?_ ?_)))))))))))))
 ·(refine Qv rfl (.inl rfl) (Qw rfl call36 rfl) (hd H kYs) (fun _ _ ⟨_, _, _, hM, H1⟩ _ => hout hM kYs H1) ?_; rintro _ w17 ⟨qv, M, rfl, hM, H1⟩; have hhx := hout hM kYs H1; clear H; have H := H1; clear H1)
  (refine Ao 14 (Xd rfl (.inl rfl) (Qp (vs := [I 0, I 0, nilS]) H zeroValue96 rfl) (fun _ _ _ H _ => H.Xw (T := [139]) hh (by simp [elT]) (Out.new (by assumption) ((Out.ofN hM).app (Out.cons hsp (by simp [elT]) Out.nil)))) ?_); clear H; intro c2 w19 hc2 H; clear hhx; have hhx := H.Xw (T := [139]) hh (by simp [elT]) (Out.new hc2 ((Out.ofN hM).app (Out.cons hsp (by simp [elT]) Out.nil))))
  (refine Ao 15 (Xb rfl (.inl rfl) (Qg (vs := [I 0, I st2, nilS]) H sizeOf96 rfl rfl (by simp [Value.oneCell']) .here (by simp)) (fun _ H _ => H.Xw (T := [139]) hh (by simp [elT]) (Out.new hc2 ((Out.ofN hM).app (Out.cons hsp (by simp [elT]) Out.nil)))) ?_); clear H; intro w21 H; clear hhx; have hhx := H.Xw (T := [139]) hh (by simp [elT]) (Out.new hc2 ((Out.ofN hM).app (Out.cons hsp (by simp [elT]) Out.nil))); replace H : Hp w ((c2, blk [I 0, I st2, nilS] 96) :: (M ++ [(sp, blk (sxC (enter S e κ.now).1 qv) 170)])) w21 := H)
  refine Ad (Js (Jr (Jf 1 underlying96 rfl sizeOf3 rfl rfl (Jl isAgg3 rfl (H.get .here) rfl (J (R_gt_t rfl rfl (by omega)) (Jn (Jd rfl ?_)))))))
  (have hh2 : Hp w ((h, blk [ptr κ.k 0, I e, I sl, I n, ptr c 0, I ph, I st, I op, I a, I b, .slice da dl dc] 139) :: (c2, blk [I 0, I st2, nilS] 96) :: (M ++ [(sp, blk (sxC (enter S e κ.now).1 qv) 170)])) _ := H.focus hhx (by intro hm; obtain ⟨p, hp, ep⟩ := List.mem_map.1 hm; rcases List.mem_cons.1 hp with rfl | hp; exact absurd (Qr hh) (by simp only at ep; omega); rcases List.mem_append.1 hp with hp | hp; exact absurd (Qr hh) (by have := hM p hp; omega); rw [List.mem_singleton] at hp; subst hp; exact hhs ep.symm); clear H; have H := hh2; clear hh2; refine Xi (fun w2 => w2.heap[c2]? = some (blk [I 0, I st2, nilS] 96)) (fun _ => false) (by kernel_rfl) H ?_; clear H; intro w30 H)
  (refine Am 0 rfl (H.get (.there .here)) (Am 1 rfl (H.get (.there .here)) (Az 2 rfl rfl (H.get (.there .here)) (fun _ hC => Qa (off' := 1) underlying96 rfl sizeOf3 (by decide) rfl rfl) (Az 3 rfl rfl (H.get (.there .here)) (fun _ hC => Qe (v := I st2) isAgg3 rfl hC rfl) (Az 4 rfl rfl (H.get (.there .here)) (fun _ hC => Qf rfl) (Az 5 rfl rfl (H.get (.there .here)) (fun _ hC => Qa (off' := 5) underlying139 rfl sizeOf3 (by decide) rfl rfl) (Ao 6 (Xb rfl (.inl rfl) (Qz (v := I 2) H sizeOf3 rfl rfl rfl .here (by simp)) (fun _ H _ => H.get (.there .here)) ?_))))))); clear H; intro w38 H; replace H : Hp w ((h, blk [ptr κ.k 0, I e, I sl, I n, ptr c 0, I 2, I st, I op, I a, I b, .slice da dl dc] 139) :: (c2, blk [I 0, I st2, nilS] 96) :: (M ++ [(sp, blk (sxC (enter S e κ.now).1 qv) 170)])) w38 := H)
  (refine Az 7 rfl rfl (H.get (.there .here)) (fun _ hC => Qf rfl) (Az 8 rfl rfl (H.get (.there .here)) (fun _ hC => Qa (off' := 6) underlying139 rfl sizeOf3 (by decide) rfl rfl) (Ao 9 (Xb rfl (.inl rfl) (Qz (v := I st2) H sizeOf3 rfl rfl rfl .here (by simp)) (fun _ H _ => H.get (.there .here)) ?_))); clear H; intro w42 H; replace H : Hp w ((h, blk [ptr κ.k 0, I e, I sl, I n, ptr c 0, I 2, I st2, I op, I a, I b, .slice da dl dc] 139) :: (c2, blk [I 0, I st2, nilS] 96) :: (M ++ [(sp, blk (sxC (enter S e κ.now).1 qv) 170)])) w42 := H)
  refine Ad ?_
  exact ⟨_, rfl, qv, M, rfl, hM, H.pop2 hc2⟩
 ·(refine Xd rfl (.inl rfl) (Qp (vs := [I 0, I 0, nilS]) H zeroValue96 rfl) (fun _ _ _ H _ => H.Qc hh kYs) ?_; clear H; intro c2 w45 hc2 H)
  (refine Ao 13 (Qv rfl (.inl rfl) (Qw rfl call36 rfl) (hd H kYs) (fun _ _ ⟨_, _, _, hM, H1⟩ _ => hout hM kYs H1) ?_); rintro _ w47 ⟨qv, M, rfl, hM, H1⟩; have hhx := hout hM kYs H1; clear H; have H := H1; clear H1)
  (refine Ao 15 (Xb rfl (.inl rfl) (Qg (vs := [I 0, I st2, nilS]) H sizeOf96 rfl rfl (by simp [Value.oneCell']) (.app _ (.there .here)) (by simp)) (fun _ H _ => H.Xw (T := [139]) hh (by simp [elT]) ((Out.ofN hM).app (Out.cons hsp (by simp [elT]) (Out.new hc2 Out.nil)))) ?_); clear H; intro w49 H; replace H : Hp w ((c2, blk [I 0, I st2, nilS] 96) :: (M ++ [(sp, blk (sxC (enter S e κ.now).1 qv) 170)])) w49 := hp_rot H; clear hhx; have hhx := H.Xw (T := [139]) hh (by simp [elT]) (Out.new hc2 ((Out.ofN hM).app (Out.cons hsp (by simp [elT]) Out.nil))))
  refine Ad (Js (Jr (Jf 1 underlying96 rfl sizeOf3 rfl rfl (Jl isAgg3 rfl (H.get .here) rfl (J (R_gt_t rfl rfl (by omega)) (Jn (Jd rfl ?_)))))))
  (have hh2 : Hp w ((h, blk [ptr κ.k 0, I e, I sl, I n, ptr c 0, I ph, I st, I op, I a, I b, .slice da dl dc] 139) :: (c2, blk [I 0, I st2, nilS] 96) :: (M ++ [(sp, blk (sxC (enter S e κ.now).1 qv) 170)])) _ := H.focus hhx (by intro hm; obtain ⟨p, hp, ep⟩ := List.mem_map.1 hm; rcases List.mem_cons.1 hp with rfl | hp; exact absurd (Qr hh) (by simp only at ep; omega); rcases List.mem_append.1 hp with hp | hp; exact absurd (Qr hh) (by have := hM p hp; omega); rw [List.mem_singleton] at hp; subst hp; exact hhs ep.symm); clear H; have H := hh2; clear hh2; refine Xi (fun w2 => w2.heap[c2]? = some (blk [I 0, I st2, nilS] 96)) (fun _ => false) (by kernel_rfl) H ?_; clear H; intro w58 H)
  (refine Am 0 rfl (H.get (.there .here)) (Am 1 rfl (H.get (.there .here)) (Az 2 rfl rfl (H.get (.there .here)) (fun _ hC => Qa (off' := 1) underlying96 rfl sizeOf3 (by decide) rfl rfl) (Az 3 rfl rfl (H.get (.there .here)) (fun _ hC => Qe (v := I st2) isAgg3 rfl hC rfl) (Az 4 rfl rfl (H.get (.there .here)) (fun _ hC => Qf rfl) (Az 5 rfl rfl (H.get (.there .here)) (fun _ hC => Qa (off' := 5) underlying139 rfl sizeOf3 (by decide) rfl rfl) (Ao 6 (Xb rfl (.inl rfl) (Qz (v := I 2) H sizeOf3 rfl rfl rfl .here (by simp)) (fun _ H _ => H.get (.there .here)) ?_))))))); clear H; intro w66 H; replace H : Hp w ((h, blk [ptr κ.k 0, I e, I sl, I n, ptr c 0, I 2, I st, I op, I a, I b, .slice da dl dc] 139) :: (c2, blk [I 0, I st2, nilS] 96) :: (M ++ [(sp, blk (sxC (enter S e κ.now).1 qv) 170)])) w66 := H)
  (refine Az 7 rfl rfl (H.get (.there .here)) (fun _ hC => Qf rfl) (Az 8 rfl rfl (H.get (.there .here)) (fun _ hC => Qa (off' := 6) underlying139 rfl sizeOf3 (by decide) rfl rfl) (Ao 9 (Xb rfl (.inl rfl) (Qz (v := I st2) H sizeOf3 rfl rfl rfl .here (by simp)) (fun _ H _ => H.get (.there .here)) ?_))); clear H; intro w70 H; replace H : Hp w ((h, blk [ptr κ.k 0, I e, I sl, I n, ptr c 0, I 2, I st2, I op, I a, I b, .slice da dl dc] 139) :: (c2, blk [I 0, I st2, nilS] 96) :: (M ++ [(sp, blk (sxC (enter S e κ.now).1 qv) 170)])) w70 := H)
  refine Ad ?_
  exact ⟨_, rfl, qv, M, rfl, hM, H.pop2 hc2⟩
end
end Go.Proofs.YtlpmfldijgdcoaaGreatDoor.Ho
namespace Go.Proofs.YtlpmfldijgdcoaaGreatDoor.Ho
open Go Go.Proofs Fx Kn Cm Sect Tryz
/-- a block of another kind turns -/
theorem hp_addT {w0 w w' : World} {L : List (Nat × Obj)} {b : Nat} {o o' : Obj} (H : Hp w0 L w) (hb : w.heap[b]? = some o) (hn : ∀ p ∈ L, elT p.2 ≠ elT o) (H1 : Hp w [(b, o')] w') : Hp w0 ((b, o') :: L) w' :=
 (H.focus hb (fun hm => by
  obtain ⟨p, hp, e⟩ := List.mem_map.1 hm
  have h1 := H.held p hp
  rw [e, hb] at h1
  cases h1
  exact hn p hp rfl)).seq H1 (Yh .here Yi)
/-- two blocks of other kinds turn -/
theorem hp_two {w0 w w' : World} {L : List (Nat × Obj)} {a b : Nat} {oa ob oa' ob' : Obj} (H : Hp w0 L w) (ha : w.heap[a]? = some oa) (hb : w.heap[b]? = some ob) (hna : ∀ p ∈ L, elT p.2 ≠ elT oa) (hnb : ∀ p ∈ L, elT p.2 ≠ elT ob) (hab : elT oa ≠ elT ob)
  (H1 : Hp w [(a, oa'), (b, ob')] w') : Hp w0 ((a, oa') :: (b, ob') :: L) w' := by
 have e : ∀ {c : Nat} {oc : Obj} {K : List (Nat × Obj)}, Hp w0 K w → w.heap[c]? = some oc → (∀ p ∈ K, elT p.2 ≠ elT oc) → c ∉ K.map (·.1) := fun {c oc K} HK hc hn hm => by
  obtain ⟨p, hp, e⟩ := List.mem_map.1 hm
  have h1 := HK.held p hp
  rw [e, hc] at h1
  cases h1
  exact hn p hp rfl
 have h1 := H.focus hb (e H hb hnb)
 have h2 := h1.focus ha (e h1 ha (fun p hp => by
  rcases List.mem_cons.1 hp with rfl | hp
  ·exact fun q => hab q.symm
  ·exact hna p hp))
 exact h2.seq H1 (Yh .here (Yh (.there .here) Yi))
section
variable {w : World} {κ : KS} {h e n sp c : Nat} {C : Cs} {S : Sx} {qv : Value} {sl : Nat} {ph st op a b : Int} {da : Option Addr} {dl dc : Nat}
theorem Xq {ss sl op a b n e d : Int} {D B sg : Value} {bk : Bool} (hD : D.oneCell' = true) (hB : B.oneCell' = true) (hsg : sg.oneCell' = true) : ∀ u ∈ oC ss sl op a b D n e B bk sg d, u.oneCell' = true := by
 intro u hu
 simp only [oC, List.mem_cons, List.not_mem_nil, or_false] at hu
 rcases hu with rfl | rfl | rfl | rfl | rfl | rfl | rfl | rfl | rfl | rfl | rfl | rfl <;> first | rfl | assumption
/-- the bytes with the first process put where it is -/
def endB (C : Cs) (sl : Nat) : Cs := C.put 0 (24 * sl) (Slot.Xm p0)
theorem okp0 : Slot.okP p0 := by unfold Slot.okP Slot.okB p0; decide
theorem lenp0 : (Slot.Xm p0).length = 24 := by decide
theorem end_ret {ss n1 e1 d1 : Int} {B sg : Value} {bk : Bool} {xa : Option Addr} {xl xc : Nat} (hB : B.oneCell' = true) (hsg : sg.oneCell' = true) (hh : w.heap[h]? = some (blk [ptr κ.k 0, I e, I sl, I n, ptr c 0, I ph, I st, I op, I a, I b, .slice da dl dc] 139)) (hM : CmI w c C) (hs : Snd C) (hi : sl < 8) (hp : C.pD sl = (p0, 1)) {op' a' b' : Int} :
  Ret Tryz.prog 100 #[ptr h 0, .agg (oC ss sl op' a' b' (.slice xa xl xc) n1 e1 B bk sg d1).toArray] w fun v w' => v = .agg (oC ss sl op' a' b' (.slice xa xl xc) n1 e1 B bk nilS 0).toArray ∧ Hp w (endB C sl).mB w' := by
 refine Qy (args := [_, _]) func100 rfl ntmps100 results100 (by simp) ?_
 have H := Hp.refl w
 have hbk := hM.hK.hb
 (refine Js (Jr (Qb rfl (Xl (vs := oC ss sl op' a' b' (.slice xa xl xc) n1 e1 B bk sg d1) H rfl rfl) ?_)); clear H; intro c3 w3 hc3 H)
 (refine Qb rfl (Qp (vs := z0) H zeroValue40 rfl) ?_; clear H; intro c4 w4 hc4 H)
 refine Jn (Js ?_)
 (refine Xi (KH w [(c4, blk z0 40), (c3, blk (oC ss sl op' a' b' (.slice xa xl xc) n1 e1 B bk sg d1) 40)]) (fun _ => false) (by kernel_rfl) H ?_; clear H; intro w7 H)
 refine Am 0 rfl H.kK (Az 1 rfl rfl H.kK (fun _ hC => Qf rfl) (Az 2 rfl rfl H.kK (fun _ hC => Qa (off' := 4) underlying139 rfl sizeOf93 (by decide) rfl rfl) (Az 3 rfl rfl H.kK (fun _ hC => Qe isAgg93 rfl (hC.Qc hh kYs) rfl) (Am 4 rfl H.kK (Az 5 rfl rfl H.kK (fun _ hC => Qf rfl) (Az 6 rfl rfl H.kK (fun _ hC => Qa (off' := 2) underlying139 rfl sizeOf3 (by decide) rfl rfl) (Az 7 rfl rfl H.kK (fun _ hC => Qe isAgg3 rfl (hC.Qc hh kYs) rfl) (Zf (i := 8) (j := 12) (by kernel_rfl) ?_ ?_))))))))
 ·(refine Qv rfl (.inl rfl) (Qw rfl call64 rfl) (Dt (hM.Ql H kYs) hs hi hp) (fun _ _ hR _ => (H.seq0 hR.2).kh (by simp) kYs) ?_; rintro _ w17 ⟨rfl, H1⟩; replace H := H.seq0 H1; clear H1)
  (refine Am 9 rfl H.kK (Az 10 rfl rfl H.kK (fun _ hC => Qs rfl rfl) (Az 11 rfl rfl H.kK (fun _ hC => Qs rfl rfl) (Ao 12 (Xd rfl (.inl rfl) (Slot.Qt H) (fun _ _ _ H _ => H.kh (by simp) kYs) ?_)))); clear H; intro c5 w22 hc5 H)
  (refine Ao 13 (Xb rfl (.inl rfl) (Slot.Qn H rfl rfl .here) (fun _ H _ => H.kh (by simp) kYs) ?_); clear H; intro w24 H)
  (refine Aa 14 rfl H.kK (Ad (Js (Js (Jr (Jm (J (Yl rfl rfl (by omega)) (Jm (Jt rfl rfl (Jf 0 underlying58 rfl sizeOf3 rfl rfl (Jt rfl rfl (J (Qe (v := I 1) isAgg3 rfl (H.get .here) rfl) (Jt rfl rfl (J (Yl rfl rfl (by omega)) (Jp rfl (Jn (Jc rfl (Jk (Js (Jr (J (Slot.Xa (p := p0) rfl (H.get .here)) (Jz rfl call139 rfl (deliver0 _) H ?_))))))))))))))))))))); intro w46 H)
  (refine Jm (Jx rfl rfl (Jx rfl rfl (Jx rfl rfl (Qd rfl (Slot.Qn H rfl rfl .here) ?_)))); clear H; intro w51 H)
  (refine Jf 10 underlying40 rfl sizeOf22 rfl rfl (Qd rfl (Qz (v := nilS) H sizeOf22 rfl rfl rfl (.there (.there .here)) (by simp [oC])) ?_); clear H; intro w53 H; replace H : Hp w [(c5, blk (Slot.piC p0) 58), (c4, blk z0 40), (c3, blk (oC ss sl op' a' b' (.slice xa xl xc) n1 e1 B bk nilS d1) 40)] w53 := H)
  (refine Jf 11 underlying40 rfl sizeOf3 rfl rfl (Qd rfl (Qz (v := I 0) H sizeOf3 rfl rfl rfl (.there (.there .here)) (by simp [oC])) ?_); clear H; intro w55 H; replace H : Hp w [(c5, blk (Slot.piC p0) 58), (c4, blk z0 40), (c3, blk (oC ss sl op' a' b' (.slice xa xl xc) n1 e1 B bk nilS 0) 40)] w55 := H)
  refine Jn (Js ?_)
  (refine Xi (fun w2 => w2.heap[h]? = some (blk [ptr κ.k 0, I e, I sl, I n, ptr c 0, I ph, I st, I op, I a, I b, .slice da dl dc] 139) ∧ w2.heap[c5]? = some (blk (Slot.piC p0) 58)) (fun _ => false) (by kernel_rfl) H ?_; clear H; intro w58 H)
  (refine Am 0 rfl ⟨H.Qc hh kYs, H.get .here⟩ (Az 1 rfl rfl ⟨H.Qc hh kYs, H.get .here⟩ (fun _ hC => Qf rfl) (Az 2 rfl rfl ⟨H.Qc hh kYs, H.get .here⟩ (fun _ hC => Qa (off' := 4) underlying139 rfl sizeOf93 (by decide) rfl rfl) (Az 3 rfl rfl ⟨H.Qc hh kYs, H.get .here⟩ (fun _ hC => Qe (v := ptr c 0) isAgg93 rfl hC.1 rfl) (Am 4 rfl ⟨H.Qc hh kYs, H.get .here⟩ (Az 5 rfl rfl ⟨H.Qc hh kYs, H.get .here⟩ (fun _ hC => Qf rfl) (Az 6 rfl rfl ⟨H.Qc hh kYs, H.get .here⟩ (fun _ hC => Qa (off' := 2) underlying139 rfl sizeOf3 (by decide) rfl rfl) (Az 7 rfl rfl ⟨H.Qc hh kYs, H.get .here⟩ (fun _ hC => Qe (v := I sl) isAgg3 rfl hC.1 rfl) (Az 8 rfl rfl ⟨H.Qc hh kYs, H.get .here⟩ (fun _ hC => Slot.Xa (p := p0) rfl hC.2) (Ao 9 (Qv rfl (.inl rfl) (Qw rfl call58 rfl) (SetProc_ret (hM.Ql H kYs) hi p0 okp0 lenp0 (snd_nb hs _)) (by rintro _ w2 ⟨_, _, H1⟩ _; exact ⟨H1.Xw (T := [139]) (H.Qc hh kYs) (by simp [elT]) (Out.cons (H.Qc hbk kYs) (by simp [elT]) Out.nil), (H.Bx hbk kYs H1).get (.there .here)⟩) ?_)))))))))); rintro _ w69 ⟨rfl, _, H1⟩; replace H := H.Bx hbk kYs H1; clear H1)
  (refine Ad (Js (Js (Jr (Jf 11 underlying40 rfl sizeOf3 rfl rfl (J (Qe (v := I 0) isAgg3 rfl (H.get (.there (.there (.there .here)))) rfl) (J (Zm rfl rfl (by omega)) (Jn (Jc rfl (Jk (Js (Jr (J (Qo (vs := oC ss sl op' a' b' (.slice xa xl xc) n1 e1 B bk nilS 0) isAgg40 sizeOf40 rfl (H.get (.there (.there (.there .here)))) rfl (by simp [oC])) (Qd rfl (Qg (vs := oC ss sl op' a' b' (.slice xa xl xc) n1 e1 B bk nilS 0) H sizeOf40 rfl rfl (Xq rfl hB rfl) (.there (.there .here)) (by simp [oC, z0])) ?_))))))))))))); clear H; intro w83 H; replace H : Hp w ((endB C sl).mB ++ [(c5, blk (Slot.piC p0) 58), (c4, blk (oC ss sl op' a' b' (.slice xa xl xc) n1 e1 B bk nilS 0) 40), (c3, blk (oC ss sl op' a' b' (.slice xa xl xc) n1 e1 B bk nilS 0) 40)]) w83 := H)
  refine Jn (Je ?_)
  exact ⟨_, ⟨_, rfl, ldA isAgg40 sizeOf40 (H.get (.there (.there .here))) rfl (by simp [oC])⟩, rfl, H.cut kYs⟩
 ·(refine Xd rfl (.inl rfl) (Slot.Qt H) (fun _ _ _ H _ => H.kh (by simp) kYs) ?_; clear H; intro c5 w87 hc5 H)
  (refine Ao 8 (Qv rfl (.inl rfl) (Qw rfl call64 rfl) (Dt (hM.Ql H kYs) hs hi hp) (fun _ _ hR _ => (H.seq0 hR.2).kh (by simp) kYs) ?_); rintro _ w89 ⟨rfl, H1⟩; replace H := H.seq0 H1; clear H1)
  (refine Am 9 rfl H.kK (Az 10 rfl rfl H.kK (fun _ hC => Qs rfl rfl) (Az 11 rfl rfl H.kK (fun _ hC => Qs rfl rfl) (Ao 13 (Xb rfl (.inl rfl) (Slot.Qn H rfl rfl .here) (fun _ H _ => H.kh (by simp) kYs) ?_)))); clear H; intro w94 H)
  (refine Aa 14 rfl H.kK (Ad (Js (Js (Jr (Jm (J (Yl rfl rfl (by omega)) (Jm (Jt rfl rfl (Jf 0 underlying58 rfl sizeOf3 rfl rfl (Jt rfl rfl (J (Qe (v := I 1) isAgg3 rfl (H.get .here) rfl) (Jt rfl rfl (J (Yl rfl rfl (by omega)) (Jp rfl (Jn (Jc rfl (Jk (Js (Jr (J (Slot.Xa (p := p0) rfl (H.get .here)) (Jz rfl call139 rfl (deliver0 _) H ?_))))))))))))))))))))); intro w116 H)
  (refine Jm (Jx rfl rfl (Jx rfl rfl (Jx rfl rfl (Qd rfl (Slot.Qn H rfl rfl .here) ?_)))); clear H; intro w121 H)
  (refine Jf 10 underlying40 rfl sizeOf22 rfl rfl (Qd rfl (Qz (v := nilS) H sizeOf22 rfl rfl rfl (.there (.there .here)) (by simp [oC])) ?_); clear H; intro w123 H; replace H : Hp w [(c5, blk (Slot.piC p0) 58), (c4, blk z0 40), (c3, blk (oC ss sl op' a' b' (.slice xa xl xc) n1 e1 B bk nilS d1) 40)] w123 := H)
  (refine Jf 11 underlying40 rfl sizeOf3 rfl rfl (Qd rfl (Qz (v := I 0) H sizeOf3 rfl rfl rfl (.there (.there .here)) (by simp [oC])) ?_); clear H; intro w125 H; replace H : Hp w [(c5, blk (Slot.piC p0) 58), (c4, blk z0 40), (c3, blk (oC ss sl op' a' b' (.slice xa xl xc) n1 e1 B bk nilS 0) 40)] w125 := H)
  refine Jn (Js ?_)
  (refine Xi (fun w2 => w2.heap[h]? = some (blk [ptr κ.k 0, I e, I sl, I n, ptr c 0, I ph, I st, I op, I a, I b, .slice da dl dc] 139) ∧ w2.heap[c5]? = some (blk (Slot.piC p0) 58)) (fun _ => false) (by kernel_rfl) H ?_; clear H; intro w128 H)
  (refine Am 0 rfl ⟨H.Qc hh kYs, H.get .here⟩ (Az 1 rfl rfl ⟨H.Qc hh kYs, H.get .here⟩ (fun _ hC => Qf rfl) (Az 2 rfl rfl ⟨H.Qc hh kYs, H.get .here⟩ (fun _ hC => Qa (off' := 4) underlying139 rfl sizeOf93 (by decide) rfl rfl) (Az 3 rfl rfl ⟨H.Qc hh kYs, H.get .here⟩ (fun _ hC => Qe (v := ptr c 0) isAgg93 rfl hC.1 rfl) (Am 4 rfl ⟨H.Qc hh kYs, H.get .here⟩ (Az 5 rfl rfl ⟨H.Qc hh kYs, H.get .here⟩ (fun _ hC => Qf rfl) (Az 6 rfl rfl ⟨H.Qc hh kYs, H.get .here⟩ (fun _ hC => Qa (off' := 2) underlying139 rfl sizeOf3 (by decide) rfl rfl) (Az 7 rfl rfl ⟨H.Qc hh kYs, H.get .here⟩ (fun _ hC => Qe (v := I sl) isAgg3 rfl hC.1 rfl) (Az 8 rfl rfl ⟨H.Qc hh kYs, H.get .here⟩ (fun _ hC => Slot.Xa (p := p0) rfl hC.2) (Ao 9 (Qv rfl (.inl rfl) (Qw rfl call58 rfl) (SetProc_ret (hM.Ql H kYs) hi p0 okp0 lenp0 (snd_nb hs _)) (by rintro _ w2 ⟨_, _, H1⟩ _; exact ⟨H1.Xw (T := [139]) (H.Qc hh kYs) (by simp [elT]) (Out.cons (H.Qc hbk kYs) (by simp [elT]) Out.nil), (H.Bx hbk kYs H1).get (.there .here)⟩) ?_)))))))))); rintro _ w139 ⟨rfl, _, H1⟩; replace H := H.Bx hbk kYs H1; clear H1)
  (refine Ad (Js (Js (Jr (Jf 11 underlying40 rfl sizeOf3 rfl rfl (J (Qe (v := I 0) isAgg3 rfl (H.get (.there (.there (.there .here)))) rfl) (J (Zm rfl rfl (by omega)) (Jn (Jc rfl (Jk (Js (Jr (J (Qo (vs := oC ss sl op' a' b' (.slice xa xl xc) n1 e1 B bk nilS 0) isAgg40 sizeOf40 rfl (H.get (.there (.there (.there .here)))) rfl (by simp [oC])) (Qd rfl (Qg (vs := oC ss sl op' a' b' (.slice xa xl xc) n1 e1 B bk nilS 0) H sizeOf40 rfl rfl (Xq rfl hB rfl) (.there (.there .here)) (by simp [oC, z0])) ?_))))))))))))); clear H; intro w153 H; replace H : Hp w ((endB C sl).mB ++ [(c5, blk (Slot.piC p0) 58), (c4, blk (oC ss sl op' a' b' (.slice xa xl xc) n1 e1 B bk nilS 0) 40), (c3, blk (oC ss sl op' a' b' (.slice xa xl xc) n1 e1 B bk nilS 0) 40)]) w153 := H)
  refine Jn (Je ?_)
  exact ⟨_, ⟨_, rfl, ldA isAgg40 sizeOf40 (H.get (.there (.there .here))) rfl (by simp [oC])⟩, rfl, H.cut kYs⟩
end
end Go.Proofs.YtlpmfldijgdcoaaGreatDoor.Ho
namespace Go.Proofs.YtlpmfldijgdcoaaGreatDoor.Cm
open Go Go.Proofs Fx Kn Tryz
section
variable {w : World} {c : Nat} {C : Cs}
theorem place_none (hM : CmI w c C) {i : Nat} (hi : 3 + C.nms.length ≤ i) (hb : i ≤ 1000) :
  Ret Tryz.prog 124 #[ptr c 0, .agg #[I 3, I i]] w fun v w' => v = .tuple #[.agg #[I 0, I 0, I 0], .bool false] ∧ Hp w [] w' := by
 refine Qy (args := [_, _]) func124 rfl ntmps124 results124 (by simp) ?_
 have H := Hp.refl w
 (refine Js (Jr (Qb rfl (Xl (vs := [I 3, I i]) H rfl rfl) ?_)); clear H; intro c3 w3 hc3 H)
 (refine Qb rfl (Qp (vs := [I 0, I 0, I 0]) H zeroValue217 rfl) ?_; clear H; intro c4 w4 hc4 H)
 (refine Ja (Jn (Js (Jr (Jf 1 underlying182 rfl sizeOf3 rfl rfl (Jl isAgg3 rfl (H.get (.there .here)) rfl (Ja (Jn (Js (Js (Jr (Jm (J (Xp rfl rfl (by omega)) (Jm (Jt rfl rfl (Jm (Jt rfl rfl (Jm (Jt rfl rfl (Jf 0 underlying182 rfl sizeOf3 rfl rfl (Jt rfl rfl (Jl isAgg3 rfl (H.get (.there .here)) rfl (Jt rfl rfl (Jz rfl call102 rfl (Bi (hM.Ql H kYs) 3 (3 + C.nms.length) (.inr (.inr (.inl ⟨rfl, rfl⟩)))) H ?_))))))))))))))))))))))); intro w28 H)
 (refine Jt rfl rfl (J (R_ge_t rfl rfl (by omega)) (Jp rfl (Jn (Jd rfl (Js (Jr (J (Qm (places := [(0, 1), (1, 1), (2, 1)]) (vs := [I 0, I 0, I 0]) underlying217 typeInfo217 rfl rfl (by kernel_rfl) rfl rfl rfl) (Qd rfl (Qg (vs := [I 0, I 0, I 0]) H sizeOf217 rfl rfl (by simp [Value.oneCell']) .here (by simp)) ?_)))))))); clear H; intro w37 H; replace H : Hp w [(c4, blk [I 0, I 0, I 0] 217), (c3, blk [I 3, I i] 182)] w37 := H)
 refine Ja (Jn (Je ?_))
 exact ⟨_, ⟨_, _, rfl, ldA isAgg217 sizeOf217 (H.get .here) rfl (by simp), rfl⟩, rfl, H.none kYs⟩
theorem Nk (hM : CmI w c C) {kind idx j at_ n : Nat} (h : Rc C.nms.length kind idx j at_ n) (hnb : (((kind : Nat) : Int), ((idx : Nat) : Int)) ∈ C.bad) :
  Ret Tryz.prog 145 #[ptr c 0, .agg #[I kind, I idx]] w fun v w' => v = .tuple #[nilS, .bool false] ∧ Hp w [] w' := by
 refine Qi (args := [_, _]) func145 rfl ntmps145 results145 (by simp) ?_
 have H := Hp.refl w
 have hcb := hM.hc
 obtain ⟨nm, x, hnm, hx, hfit, hn40, ha5⟩ := h.fit hM
 (refine Js (Jr (Qb rfl (Xl (vs := [I kind, I idx]) H rfl rfl) ?_)); clear H; intro c3 w3 hc3 H)
 (refine Ja (Ja (Jn (Js (Jr (Jm (J (Qo (vs := [I kind, I idx]) isAgg182 sizeOf182 rfl (H.get .here) rfl (by simp)) (Jz rfl call124 rfl (Vp (hM.Ql H kYs) h hnm) H ?_))))))); intro w11 H)
 (refine Jm (Jx rfl rfl (Jx rfl rfl (Qb rfl (Qp (vs := [I 0, I 0, I 0]) H zeroValue217 rfl) ?_))); clear H; intro c6 w15 hc6 H)
 (refine Qd rfl (Qg (vs := [I nm, I at_, I n]) H sizeOf217 rfl rfl (by simp [Value.oneCell']) .here (by simp)) ?_; clear H; intro w16 H; replace H : Hp w [(c6, blk [I nm, I at_, I n] 217), (c3, blk [I kind, I idx] 182)] w16 := H)
 refine Ja (Jn (Js (Js ?_)))
 (refine Zc (fun _ => false) (by kernel_rfl) H ?_; clear H; intro w21 H)
 refine Am 0 rfl H (Az 1 rfl rfl H (fun _ hC => Xj rfl) (Am 2 rfl H (Ai 3 rfl rfl rfl H (fun _ hC => Va) (Ag 4 rfl rfl rfl H (fun _ hC => Qf rfl) (Ag 5 rfl rfl rfl H (fun _ hC => Qa (off' := 3) underlying177 rfl sizeOf175 (by decide) rfl rfl) (Ag 6 rfl rfl rfl H (fun _ hC => Qe isAgg175 rfl (hC.Qc hcb kYs) rfl) (Ag 7 rfl rfl rfl H (fun _ hC => Qo (vs := [I kind, I idx]) isAgg182 sizeOf182 rfl (hC.get (.there .here)) rfl (by simp)) (Ag 8 rfl rfl rfl H (fun _ hC => Mr.R_lookup_yes (hC.Qc hM.hmp kYs) hM.hbad rfl rfl hnb) (Ag 9 rfl rfl rfl H (fun _ hC => R_gt_t rfl rfl (by omega)) (Ah 10 rfl rfl H (fun _ hC => Zg rfl) (Ad (Jd rfl (Js (Jr (Ja (Ja (Jn (Je ?_))))))))))))))))))
 exact ⟨_, rfl, rfl, H.none kYs⟩
theorem read_out (hM : CmI w c C) {kind idx : Nat} (hk : kind = 3) (hi : 3 + C.nms.length ≤ idx) (hb : idx ≤ 1000) :
  Ret Tryz.prog 145 #[ptr c 0, .agg #[I (kind : Nat), I idx]] w fun v w' => v = .tuple #[nilS, .bool false] ∧ Hp w [] w' := by
 refine Qi (args := [_, _]) func145 rfl ntmps145 results145 (by simp) ?_
 have H := Hp.refl w
 have hcb := hM.hc
 subst hk
 (refine Js (Jr (Qb rfl (Xl (vs := [I (3 : Nat), I idx]) H rfl rfl) ?_)); clear H; intro c3 w3 hc3 H)
 (refine Ja (Ja (Jn (Js (Jr (Jm (J (Qo (vs := [I (3 : Nat), I idx]) isAgg182 sizeOf182 rfl (H.get .here) rfl (by simp)) (Jz rfl call124 rfl (place_none (hM.Ql H kYs) hi hb) H ?_))))))); intro w11 H)
 (refine Jm (Jx rfl rfl (Jx rfl rfl (Qb rfl (Qp (vs := [I 0, I 0, I 0]) H zeroValue217 rfl) ?_))); clear H; intro c6 w15 hc6 H)
 (refine Qd rfl (Qg (vs := [I 0, I 0, I 0]) H sizeOf217 rfl rfl (by simp [Value.oneCell']) .here (by simp)) ?_; clear H; intro w16 H; replace H : Hp w [(c6, blk [I 0, I 0, I 0] 217), (c3, blk [I (3 : Nat), I idx] 182)] w16 := H)
 refine Ja (Jn (Js (Js ?_)))
 (refine Zc (fun _ => false) (by kernel_rfl) H ?_; clear H; intro w21 H)
 refine Am 0 rfl H (Az 1 rfl rfl H (fun _ hC => Xx rfl) (Am 2 rfl H (Aq 3 rfl rfl (fun h => nomatch h) H (Aq 4 rfl rfl (fun h => nomatch h) H (Aq 5 rfl rfl (fun h => nomatch h) H (Aq 6 rfl rfl (fun h => nomatch h) H (Aq 7 rfl rfl (fun h => nomatch h) H (Aq 8 rfl rfl (fun h => nomatch h) H (Aq 9 rfl rfl (fun h => nomatch h) H (Ah 10 rfl rfl H (fun _ hC => Ug rfl) (Ad (Jd rfl (Js (Jr (Ja (Ja (Jn (Je ?_))))))))))))))))))
 exact ⟨_, rfl, rfl, H.none kYs⟩
theorem Ui (hM : CmI w c C) {kind idx j at_ n : Nat} (h : Rc C.nms.length kind idx j at_ n) (hnb : (((kind : Nat) : Int), ((idx : Nat) : Int)) ∈ C.bad) {ba : Option Addr} {bl bc : Nat} (ok : Bool) :
  Ret Tryz.prog 86 #[ptr c 0, .agg #[I kind, I idx], .slice ba bl bc, .bool ok] w fun v w' => v = .bool false ∧ Hp w [] w' := by
 refine Qi (args := [_, _, _, _]) func86 rfl ntmps86 results86 (by simp) ?_
 have H := Hp.refl w
 have hcb := hM.hc
 obtain ⟨nm, x, hnm, hx, hfit, hn40, ha5⟩ := h.fit hM
 cases ok
 ·(refine Js (Jr (Qb rfl (Xl (vs := [I kind, I idx]) H rfl rfl) ?_)); clear H; intro c5 w3 hc5 H)
  (refine Ja (Jn (Js (Jr (Jm (J (Qo (vs := [I kind, I idx]) isAgg182 sizeOf182 rfl (H.get .here) rfl (by simp)) (Jz rfl call124 rfl (Vp (hM.Ql H kYs) h hnm) H ?_)))))); intro w10 H)
  (refine Jm (Jx rfl rfl (Jx rfl rfl (Qb rfl (Qp (vs := [I 0, I 0, I 0]) H zeroValue217 rfl) ?_))); clear H; intro c9 w14 hc9 H)
  (refine Qd rfl (Qg (vs := [I nm, I at_, I n]) H sizeOf217 rfl rfl (by simp [Value.oneCell']) .here (by simp)) ?_; clear H; intro w15 H; replace H : Hp w [(c9, blk [I nm, I at_, I n] 217), (c5, blk [I kind, I idx] 182)] w15 := H)
  refine Ja (Jn (Js (Js ?_)))
  (refine Zc (fun _ => false) (by kernel_rfl) H ?_; clear H; intro w20 H)
  refine Am 0 rfl H (Az 1 rfl rfl H (fun _ hC => Xj rfl) (Am 2 rfl H (Ai 3 rfl rfl rfl H (fun _ hC => Va) (Ag 4 rfl rfl rfl H (fun _ hC => Xx rfl) (Ah 5 rfl rfl H (fun _ hC => Zg rfl) (Am 6 rfl H (Aq 7 rfl rfl (fun h => nomatch h) H (Aq 8 rfl rfl (fun h => nomatch h) H (Aq 9 rfl rfl (fun h => nomatch h) H (Aq 10 rfl rfl (fun h => nomatch h) H (Aq 11 rfl rfl (fun h => nomatch h) H (Aq 12 rfl rfl (fun h => nomatch h) H (Aq 13 rfl rfl (fun h => nomatch h) H (Ah 14 rfl rfl H (fun _ hC => Ug rfl) (Ad (Jd rfl (Js (Jr (Ja (Jn (Je ?_)))))))))))))))))))))
  exact ⟨_, rfl, rfl, H.none kYs⟩
 ·(refine Js (Jr (Qb rfl (Xl (vs := [I kind, I idx]) H rfl rfl) ?_)); clear H; intro c5 w3 hc5 H)
  (refine Ja (Jn (Js (Jr (Jm (J (Qo (vs := [I kind, I idx]) isAgg182 sizeOf182 rfl (H.get .here) rfl (by simp)) (Jz rfl call124 rfl (Vp (hM.Ql H kYs) h hnm) H ?_)))))); intro w10 H)
  (refine Jm (Jx rfl rfl (Jx rfl rfl (Qb rfl (Qp (vs := [I 0, I 0, I 0]) H zeroValue217 rfl) ?_))); clear H; intro c9 w14 hc9 H)
  (refine Qd rfl (Qg (vs := [I nm, I at_, I n]) H sizeOf217 rfl rfl (by simp [Value.oneCell']) .here (by simp)) ?_; clear H; intro w15 H; replace H : Hp w [(c9, blk [I nm, I at_, I n] 217), (c5, blk [I kind, I idx] 182)] w15 := H)
  refine Ja (Jn (Js (Js ?_)))
  (refine Zc (fun _ => false) (by kernel_rfl) H ?_; clear H; intro w20 H)
  refine Am 0 rfl H (Az 1 rfl rfl H (fun _ hC => Xj rfl) (Am 2 rfl H (Ai 3 rfl rfl rfl H (fun _ hC => Va) (Ag 4 rfl rfl rfl H (fun _ hC => Xj rfl) (Ah 5 rfl rfl H (fun _ hC => Zg rfl) (Am 6 rfl H (Ai 7 rfl rfl rfl H (fun _ hC => Va) (Ag 8 rfl rfl rfl H (fun _ hC => Qf rfl) (Ag 9 rfl rfl rfl H (fun _ hC => Qa (off' := 3) underlying177 rfl sizeOf175 (by decide) rfl rfl) (Ag 10 rfl rfl rfl H (fun _ hC => Qe isAgg175 rfl (hC.Qc hcb kYs) rfl) (Ag 11 rfl rfl rfl H (fun _ hC => Qo (vs := [I kind, I idx]) isAgg182 sizeOf182 rfl (hC.get (.there .here)) rfl (by simp)) (Ag 12 rfl rfl rfl H (fun _ hC => Mr.R_lookup_yes (hC.Qc hM.hmp kYs) hM.hbad rfl rfl hnb) (Ag 13 rfl rfl rfl H (fun _ hC => R_gt_t rfl rfl (by omega)) (Ah 14 rfl rfl H (fun _ hC => Zg rfl) (Ad (Jd rfl (Js (Jr (Ja (Jn (Je ?_)))))))))))))))))))))
  exact ⟨_, rfl, rfl, H.none kYs⟩
theorem write_out (hM : CmI w c C) {kind idx : Nat} (hk : kind = 3) (hi : 3 + C.nms.length ≤ idx) (hb : idx ≤ 1000) {ba : Option Addr} {bl bc : Nat} (ok : Bool) :
  Ret Tryz.prog 86 #[ptr c 0, .agg #[I (kind : Nat), I idx], .slice ba bl bc, .bool ok] w fun v w' => v = .bool false ∧ Hp w [] w' := by
 refine Qi (args := [_, _, _, _]) func86 rfl ntmps86 results86 (by simp) ?_
 have H := Hp.refl w
 have hcb := hM.hc
 subst hk
 cases ok
 ·(refine Js (Jr (Qb rfl (Xl (vs := [I (3 : Nat), I idx]) H rfl rfl) ?_)); clear H; intro c5 w3 hc5 H)
  (refine Ja (Jn (Js (Jr (Jm (J (Qo (vs := [I (3 : Nat), I idx]) isAgg182 sizeOf182 rfl (H.get .here) rfl (by simp)) (Jz rfl call124 rfl (place_none (hM.Ql H kYs) hi hb) H ?_)))))); intro w10 H)
  (refine Jm (Jx rfl rfl (Jx rfl rfl (Qb rfl (Qp (vs := [I 0, I 0, I 0]) H zeroValue217 rfl) ?_))); clear H; intro c9 w14 hc9 H)
  (refine Qd rfl (Qg (vs := [I 0, I 0, I 0]) H sizeOf217 rfl rfl (by simp [Value.oneCell']) .here (by simp)) ?_; clear H; intro w15 H; replace H : Hp w [(c9, blk [I 0, I 0, I 0] 217), (c5, blk [I (3 : Nat), I idx] 182)] w15 := H)
  refine Ja (Jn (Js (Js ?_)))
  (refine Zc (fun _ => false) (by kernel_rfl) H ?_; clear H; intro w20 H)
  refine Am 0 rfl H (Az 1 rfl rfl H (fun _ hC => Xx rfl) (Am 2 rfl H (Aq 3 rfl rfl (fun h => nomatch h) H (Aq 4 rfl rfl (fun h => nomatch h) H (Ah 5 rfl rfl H (fun _ hC => Ug rfl) (Am 6 rfl H (Aq 7 rfl rfl (fun h => nomatch h) H (Aq 8 rfl rfl (fun h => nomatch h) H (Aq 9 rfl rfl (fun h => nomatch h) H (Aq 10 rfl rfl (fun h => nomatch h) H (Aq 11 rfl rfl (fun h => nomatch h) H (Aq 12 rfl rfl (fun h => nomatch h) H (Aq 13 rfl rfl (fun h => nomatch h) H (Ah 14 rfl rfl H (fun _ hC => Ug rfl) (Ad (Jd rfl (Js (Jr (Ja (Jn (Je ?_)))))))))))))))))))))
  exact ⟨_, rfl, rfl, H.none kYs⟩
 ·(refine Js (Jr (Qb rfl (Xl (vs := [I (3 : Nat), I idx]) H rfl rfl) ?_)); clear H; intro c5 w3 hc5 H)
  (refine Ja (Jn (Js (Jr (Jm (J (Qo (vs := [I (3 : Nat), I idx]) isAgg182 sizeOf182 rfl (H.get .here) rfl (by simp)) (Jz rfl call124 rfl (place_none (hM.Ql H kYs) hi hb) H ?_)))))); intro w10 H)
  (refine Jm (Jx rfl rfl (Jx rfl rfl (Qb rfl (Qp (vs := [I 0, I 0, I 0]) H zeroValue217 rfl) ?_))); clear H; intro c9 w14 hc9 H)
  (refine Qd rfl (Qg (vs := [I 0, I 0, I 0]) H sizeOf217 rfl rfl (by simp [Value.oneCell']) .here (by simp)) ?_; clear H; intro w15 H; replace H : Hp w [(c9, blk [I 0, I 0, I 0] 217), (c5, blk [I (3 : Nat), I idx] 182)] w15 := H)
  refine Ja (Jn (Js (Js ?_)))
  (refine Zc (fun _ => false) (by kernel_rfl) H ?_; clear H; intro w20 H)
  refine Am 0 rfl H (Az 1 rfl rfl H (fun _ hC => Xx rfl) (Am 2 rfl H (Aq 3 rfl rfl (fun h => nomatch h) H (Aq 4 rfl rfl (fun h => nomatch h) H (Ah 5 rfl rfl H (fun _ hC => Ug rfl) (Am 6 rfl H (Aq 7 rfl rfl (fun h => nomatch h) H (Aq 8 rfl rfl (fun h => nomatch h) H (Aq 9 rfl rfl (fun h => nomatch h) H (Aq 10 rfl rfl (fun h => nomatch h) H (Aq 11 rfl rfl (fun h => nomatch h) H (Aq 12 rfl rfl (fun h => nomatch h) H (Aq 13 rfl rfl (fun h => nomatch h) H (Ah 14 rfl rfl H (fun _ hC => Ug rfl) (Ad (Jd rfl (Js (Jr (Ja (Jn (Je ?_)))))))))))))))))))))
  exact ⟨_, rfl, rfl, H.none kYs⟩
theorem recP_no {kind idx : Int} (hR : ∀ w1, Hp w [] w1 → Ret Tryz.prog 145 #[ptr c 0, .agg #[I kind, I idx]] w1 fun v w' => v = .tuple #[nilS, .bool false] ∧ Hp w1 [] w') (hR' : ∀ (w1 : World) (L : List (Nat × Obj)), Hp w L w1 → (∀ p ∈ L, w.heap.size ≤ p.1) → Ret Tryz.prog 145 #[ptr c 0, .agg #[I kind, I idx]] w1 fun v w' => v = .tuple #[nilS, .bool false] ∧ Hp w1 [] w') :
  Ret Tryz.prog 105 #[ptr c 0, .agg #[I kind, I idx], .func (.func 106) #[] #[]] w fun v w' => v = .tuple #[Slot.vP Slot.Xn, I 2] ∧ Hp w [] w' := by
 refine Qy (args := [_, _, _]) func105 rfl ntmps105 results105 (by simp) ?_
 have H := Hp.refl w
 (refine Js (Jr (Qb rfl (Xl (vs := [I kind, I idx]) H rfl rfl) ?_)); clear H; intro c4 w3 hc4 H)
 (refine Qb rfl (Slot.Qt H) ?_; clear H; intro c6 w4 hc6 H)
 (refine Ja (Jn (Js (Jr (Qb rfl (Slot.Qt H) ?_)))); clear H; intro c8 w9 hc8 H)
 (refine Jn (Js (Jr (Jm (J (Qo (vs := [I kind, I idx]) isAgg182 sizeOf182 rfl (H.get (.there (.there .here))) rfl (by simp)) (Jz rfl call145 rfl (hR' _ _ H kYs) H ?_))))); intro w15 H)
 (refine Jm (Jx rfl rfl (Jx rfl rfl (Ja (Ja (Jn (Js (Js (Jr (Jm (J (Xx rfl) (Jn (Jd rfl (Js (Jr (J (Slot.Xa rfl (H.get .here)) (Qd rfl (Slot.Qn H rfl rfl (.there .here)) ?_)))))))))))))))); clear H; intro w32 H)
 refine Ja (Jn (Je ?_))
 exact ⟨_, ⟨_, _, rfl, Slot.ldP (H.get (.there .here)), rfl⟩, rfl, H.none kYs⟩
theorem recF_no {kind idx : Int} (hR : ∀ w1, Hp w [] w1 → Ret Tryz.prog 145 #[ptr c 0, .agg #[I kind, I idx]] w1 fun v w' => v = .tuple #[nilS, .bool false] ∧ Hp w1 [] w') (hR' : ∀ (w1 : World) (L : List (Nat × Obj)), Hp w L w1 → (∀ p ∈ L, w.heap.size ≤ p.1) → Ret Tryz.prog 145 #[ptr c 0, .agg #[I kind, I idx]] w1 fun v w' => v = .tuple #[nilS, .bool false] ∧ Hp w1 [] w') :
  Ret Tryz.prog 141 #[ptr c 0, .agg #[I kind, I idx], .func (.func 142) #[] #[]] w fun v w' => v = .tuple #[File.vF File.Yt, I 2] ∧ Hp w [] w' := by
 refine Qy (args := [_, _, _]) func141 rfl ntmps141 results141 (by simp) ?_
 have H := Hp.refl w
 (refine Js (Jr (Qb rfl (Xl (vs := [I kind, I idx]) H rfl rfl) ?_)); clear H; intro c4 w3 hc4 H)
 (refine Qb rfl (File.Us H) ?_; clear H; intro c6 w4 hc6 H)
 (refine Ja (Jn (Js (Jr (Qb rfl (File.Us H) ?_)))); clear H; intro c8 w9 hc8 H)
 (refine Jn (Js (Jr (Jm (J (Qo (vs := [I kind, I idx]) isAgg182 sizeOf182 rfl (H.get (.there (.there .here))) rfl (by simp)) (Jz rfl call145 rfl (hR' _ _ H kYs) H ?_))))); intro w15 H)
 (refine Jm (Jx rfl rfl (Jx rfl rfl (Ja (Ja (Jn (Js (Js (Jr (Jm (J (Xx rfl) (Jn (Jd rfl (Js (Jr (J (File.Df rfl (H.get .here)) (Qd rfl (File.Bu H rfl rfl (.there .here)) ?_)))))))))))))))); clear H; intro w32 H)
 refine Ja (Jn (Je ?_))
 exact ⟨_, ⟨_, _, rfl, File.ldL (H.get (.there .here)), rfl⟩, rfl, H.none kYs⟩
theorem recQ_no {kind idx : Int} (hR : ∀ w1, Hp w [] w1 → Ret Tryz.prog 145 #[ptr c 0, .agg #[I kind, I idx]] w1 fun v w' => v = .tuple #[nilS, .bool false] ∧ Hp w1 [] w') (hR' : ∀ (w1 : World) (L : List (Nat × Obj)), Hp w L w1 → (∀ p ∈ L, w.heap.size ≤ p.1) → Ret Tryz.prog 145 #[ptr c 0, .agg #[I kind, I idx]] w1 fun v w' => v = .tuple #[nilS, .bool false] ∧ Hp w1 [] w') :
  Ret Tryz.prog 107 #[ptr c 0, .agg #[I kind, I idx], .func (.func 108) #[] #[]] w fun v w' => v = .tuple #[Ring.vP Ring.Xn, I 2] ∧ Hp w [] w' := by
 refine Qy (args := [_, _, _]) func107 rfl ntmps107 results107 (by simp) ?_
 have H := Hp.refl w
 (refine Js (Jr (Qb rfl (Xl (vs := [I kind, I idx]) H rfl rfl) ?_)); clear H; intro c4 w3 hc4 H)
 (refine Qb rfl (Ring.Qt H) ?_; clear H; intro c6 w4 hc6 H)
 (refine Ja (Jn (Js (Jr (Qb rfl (Ring.Qt H) ?_)))); clear H; intro c8 w9 hc8 H)
 (refine Jn (Js (Jr (Jm (J (Qo (vs := [I kind, I idx]) isAgg182 sizeOf182 rfl (H.get (.there (.there .here))) rfl (by simp)) (Jz rfl call145 rfl (hR' _ _ H kYs) H ?_))))); intro w15 H)
 (refine Jm (Jx rfl rfl (Jx rfl rfl (Ja (Ja (Jn (Js (Js (Jr (Jm (J (Xx rfl) (Jn (Jd rfl (Js (Jr (J (Ring.Xa rfl (H.get .here)) (Qd rfl (Ring.Qn H rfl rfl (.there .here)) ?_)))))))))))))))); clear H; intro w32 H)
 refine Ja (Jn (Je ?_))
 exact ⟨_, ⟨_, _, rfl, Ring.ldP (H.get (.there .here)), rfl⟩, rfl, H.none kYs⟩
theorem recG_no {kind idx : Int} (hR' : ∀ (w1 : World) (L : List (Nat × Obj)), Hp w L w1 → (∀ p ∈ L, w.heap.size ≤ p.1) → Ret Tryz.prog 145 #[ptr c 0, .agg #[I kind, I idx]] w1 fun v w' => v = .tuple #[nilS, .bool false] ∧ Hp w1 [] w') :
  Ret Tryz.prog 143 #[ptr c 0, .agg #[I kind, I idx], .func (.func 144) #[] #[]] w fun v w' => v = .tuple #[I 0, I 2] ∧ Hp w [] w' := by
 refine Qi (args := [_, _, _]) func143 rfl ntmps143 results143 (by simp) ?_
 have H := Hp.refl w
 (refine Js (Jr (Qb rfl (Xl (vs := [I kind, I idx]) H rfl rfl) ?_)); clear H; intro c4 w3 hc4 H)
 (refine Ja (Ja (Jn (Js (Jr (Ja (Jn (Js (Jr (Jm (J (Qo (vs := [I kind, I idx]) isAgg182 sizeOf182 rfl (H.get .here) rfl (by simp)) (Jz rfl call145 rfl (hR' _ _ H kYs) H ?_))))))))))); intro w15 H)
 refine Jm (Jx rfl rfl (Jx rfl rfl (Ja (Ja (Jn (Js (Js (Jr (Jm (J (Xx rfl) (Jn (Jd rfl (Js (Jr (Jm (Ja (Ja (Jn (Je ?_)))))))))))))))))))
 exact ⟨_, rfl, rfl, H.none kYs⟩
/-- what is told of a record -/
def Cs.pR (C : Cs) (i : Nat) : Slot.Pi × Int := if ((1 : Int), (i : Int)) ∈ C.bad then (Slot.Xn, 2) else C.pD i
def Cs.fR (C : Cs) (i : Nat) : File.Fl × Int := if ((2 : Int), (i : Int)) ∈ C.bad then (File.Yt, 2) else C.fD i
def Cs.qR (C : Cs) (i : Nat) : Ring.Pi × Int := if 3 + C.nms.length ≤ i ∨ ((3 : Int), (i : Int)) ∈ C.bad then (Ring.Xn, 2) else C.qD i
def Cs.tR (C : Cs) : Ring.Pi × Int := if ((4 : Int), (0 : Int)) ∈ C.bad then (Ring.Xn, 2) else C.tD
def Cs.gR (C : Cs) : Int × Int := if ((5 : Int), (0 : Int)) ∈ C.bad then (0, 2) else C.gD
/-- all that is bad is known to be so -/
structure Lk (C : Cs) : Prop where
 p : ∀ i, i < 8 → ((1 : Int), ((i : Nat) : Int)) ∉ C.bad → (C.pD i).2 ≠ 2
 f : ∀ i, i < 12 → ((2 : Int), ((i : Nat) : Int)) ∉ C.bad → (C.fD i).2 ≠ 2
 q : ∀ i, i < 3 + C.nms.length → ((3 : Int), ((i : Nat) : Int)) ∉ C.bad → (C.qD i).2 ≠ 2
 t : ((4 : Int), (0 : Int)) ∉ C.bad → C.tD.2 ≠ 2
 g : ((5 : Int), (0 : Int)) ∉ C.bad → C.gD.2 ≠ 2
theorem Mj (hM : CmI w c C) (hL : Lk C) {i : Nat} (hi : i < 8) :
  Ret Tryz.prog 64 #[ptr c 0, I i] w fun v w' => v = .tuple #[Slot.vP (C.pR i).1, I (C.pR i).2] ∧ Hp w [] w' := by
 by_cases hb : ((1 : Int), (i : Int)) ∈ C.bad
 ·unfold Cs.pR; rw [if_pos hb]
  have hR : ∀ (w1 : World) (L : List (Nat × Obj)), Hp w L w1 → (∀ p ∈ L, w.heap.size ≤ p.1) → Ret Tryz.prog 145 #[ptr c 0, .agg #[I 1, I i]] w1 fun v w' => v = .tuple #[nilS, .bool false] ∧ Hp w1 [] w' :=
   fun w1 L H hK => Nk (kind := 1) (idx := i) (j := 0) (at_ := 24 * i) (n := 24) (hM.Ql H hK) (.inl ⟨rfl, hi, rfl, rfl, rfl⟩) hb
  refine Qy (args := [_, _]) func64 rfl ntmps64 results64 (by simp) ?_
  have H := Hp.refl w
  (refine Js (Jr (Qb rfl (Slot.Qt H) ?_)); clear H; intro c4 w3 hc4 H)
  (refine Ja (Jn (Js (Jr (Jm (Jm (Jz rfl call92 rfl (C_proc _ _) H ?_)))))); intro w10 H)
  (refine Jz rfl call105 rfl (recP_no (fun w1 h1 => hR w1 _ (H.seq0 h1) kYs) (fun w1 L h1 hK => hR w1 _ (H.Zo h1 hK) (Yv (fun p hp => Nat.le_trans H.size (hK p hp)) kYs))) H ?_; intro w11 H)
  (refine Jx rfl rfl (Jx rfl rfl (Qd rfl (Slot.Qn H rfl rfl .here) ?_)); clear H; intro w14 H)
  refine Ja (Jn (Je ?_))
  exact ⟨_, ⟨_, _, rfl, Slot.ldP (H.get .here), rfl⟩, rfl, H.none kYs⟩
 ·unfold Cs.pR; rw [if_neg hb]
  exact Proc_ret hM hi hb (hL.p i hi hb)
theorem File_L (hM : CmI w c C) (hL : Lk C) {i : Nat} (hi : i < 12) :
  Ret Tryz.prog 101 #[ptr c 0, I i] w fun v w' => v = .tuple #[File.vF (C.fR i).1, I (C.fR i).2] ∧ Hp w [] w' := by
 by_cases hb : ((2 : Int), (i : Int)) ∈ C.bad
 ·unfold Cs.fR; rw [if_pos hb]
  have hR : ∀ (w1 : World) (L : List (Nat × Obj)), Hp w L w1 → (∀ p ∈ L, w.heap.size ≤ p.1) → Ret Tryz.prog 145 #[ptr c 0, .agg #[I 2, I i]] w1 fun v w' => v = .tuple #[nilS, .bool false] ∧ Hp w1 [] w' :=
   fun w1 L H hK => Nk (kind := 2) (idx := i) (j := 0) (at_ := 192 + 8 * i) (n := 8) (hM.Ql H hK) (.inr (.inl ⟨rfl, hi, rfl, rfl, rfl⟩)) hb
  refine Qy (args := [_, _]) func101 rfl ntmps101 results101 (by simp) ?_
  have H := Hp.refl w
  (refine Js (Jr (Qb rfl (File.Us H) ?_)); clear H; intro c4 w3 hc4 H)
  (refine Ja (Jn (Js (Jr (Jm (Jm (Jz rfl call89 rfl (C_file _ _) H ?_)))))); intro w10 H)
  (refine Jz rfl call141 rfl (recF_no (fun w1 h1 => hR w1 _ (H.seq0 h1) kYs) (fun w1 L h1 hK => hR w1 _ (H.Zo h1 hK) (Yv (fun p hp => Nat.le_trans H.size (hK p hp)) kYs))) H ?_; intro w11 H)
  (refine Jx rfl rfl (Jx rfl rfl (Qd rfl (File.Bu H rfl rfl .here) ?_)); clear H; intro w14 H)
  refine Ja (Jn (Je ?_))
  exact ⟨_, ⟨_, _, rfl, File.ldL (H.get .here), rfl⟩, rfl, H.none kYs⟩
 ·unfold Cs.fR; rw [if_neg hb]
  exact File_ret hM hi hb (hL.f i hi hb)
theorem Pipe_L (hM : CmI w c C) (hL : Lk C) {i : Nat} (hi : i ≤ 1000) :
  Ret Tryz.prog 103 #[ptr c 0, I i] w fun v w' => v = .tuple #[Ring.vP (C.qR i).1, I (C.qR i).2] ∧ Hp w [] w' := by
 by_cases hb : 3 + C.nms.length ≤ i ∨ ((3 : Int), (i : Int)) ∈ C.bad
 ·unfold Cs.qR; rw [if_pos hb]
  have hR : ∀ (w1 : World) (L : List (Nat × Obj)), Hp w L w1 → (∀ p ∈ L, w.heap.size ≤ p.1) → Ret Tryz.prog 145 #[ptr c 0, .agg #[I 3, I i]] w1 fun v w' => v = .tuple #[nilS, .bool false] ∧ Hp w1 [] w' := by
   intro w1 L H hK
   by_cases ho : 3 + C.nms.length ≤ i
   ·exact read_out (kind := 3) (hM.Ql H hK) rfl ho hi
   ·have hb' := hb.resolve_left ho
    by_cases h4 : i < 4
    ·exact Nk (kind := 3) (idx := i) (j := 0) (at_ := 288 + 40 * i) (n := 40) (hM.Ql H hK) (.inr (.inr (.inl ⟨rfl, h4, rfl, rfl, rfl⟩))) hb'
    ·exact Nk (kind := 3) (idx := i) (j := i - 3) (at_ := 0) (n := 40) (hM.Ql H hK) (.inr (.inr (.inr (.inl ⟨rfl, by omega, by omega, rfl, rfl, rfl⟩)))) hb'
  refine Qy (args := [_, _]) func103 rfl ntmps103 results103 (by simp) ?_
  have H := Hp.refl w
  (refine Js (Jr (Qb rfl (Ring.Qt H) ?_)); clear H; intro c4 w3 hc4 H)
  (refine Ja (Jn (Js (Jr (Jm (Jm (Jz rfl call90 rfl (C_pipe _ _) H ?_)))))); intro w10 H)
  (refine Jz rfl call107 rfl (recQ_no (fun w1 h1 => hR w1 _ (H.seq0 h1) kYs) (fun w1 L h1 hK => hR w1 _ (H.Zo h1 hK) (Yv (fun p hp => Nat.le_trans H.size (hK p hp)) kYs))) H ?_; intro w11 H)
  (refine Jx rfl rfl (Jx rfl rfl (Qd rfl (Ring.Qn H rfl rfl .here) ?_)); clear H; intro w14 H)
  refine Ja (Jn (Je ?_))
  exact ⟨_, ⟨_, _, rfl, Ring.ldP (H.get .here), rfl⟩, rfl, H.none kYs⟩
 ·unfold Cs.qR; rw [if_neg hb]
  rw [not_or] at hb
  exact Pipe_ret hM (by omega) hb.2 (hL.q i (by omega) hb.2)
theorem Term_L (hM : CmI w c C) (hL : Lk C) :
  Ret Tryz.prog 66 #[ptr c 0] w fun v w' => v = .tuple #[Ring.vP C.tR.1, I C.tR.2] ∧ Hp w [] w' := by
 by_cases hb : ((4 : Int), (0 : Int)) ∈ C.bad
 ·unfold Cs.tR; rw [if_pos hb]
  have hR : ∀ (w1 : World) (L : List (Nat × Obj)), Hp w L w1 → (∀ p ∈ L, w.heap.size ≤ p.1) → Ret Tryz.prog 145 #[ptr c 0, .agg #[I ((4 : Nat) : Int), I ((0 : Nat) : Int)]] w1 fun v w' => v = .tuple #[nilS, .bool false] ∧ Hp w1 [] w' :=
   fun w1 L H hK => Nk (kind := 4) (idx := 0) (j := 0) (at_ := 448) (n := 40) (hM.Ql H hK) (.inr (.inr (.inr (.inr (.inl ⟨rfl, rfl, rfl, rfl, rfl⟩))))) hb
  refine Qy (args := [_]) func66 rfl ntmps66 results66 (by simp) ?_
  have H := Hp.refl w
  (refine Js (Jr (Qb rfl (Ring.Qt H) ?_)); clear H; intro c2 w3 hc2 H)
  (refine Ja (Jn (Js (Jr (Jm (J (Qm (places := [(0, 1), (1, 1)]) (vs := [I ((4 : Nat) : Int), I ((0 : Nat) : Int)]) underlying182 typeInfo182 rfl rfl (by kernel_rfl) rfl rfl rfl) (Jz rfl call107 rfl (recQ_no (fun w1 h1 => hR w1 _ (H.seq0 h1) kYs) (fun w1 L h1 hK => hR w1 _ (H.Zo h1 hK) (Yv (fun p hp => Nat.le_trans H.size (hK p hp)) kYs))) H ?_)))))); intro w10 H)
  (refine Jx rfl rfl (Jx rfl rfl (Qd rfl (Ring.Qn H rfl rfl .here) ?_)); clear H; intro w13 H)
  refine Ja (Jn (Je ?_))
  exact ⟨_, ⟨_, _, rfl, Ring.ldP (H.get .here), rfl⟩, rfl, H.none kYs⟩
 ·unfold Cs.tR; rw [if_neg hb]
  exact Term_ret hM hb (hL.t hb)
theorem Front_L (hM : CmI w c C) (hL : Lk C) :
  Ret Tryz.prog 104 #[ptr c 0] w fun v w' => v = .tuple #[I C.gR.1, .bool (decide (C.gR.2 = 1))] ∧ Hp w [] w' := by
 by_cases hb : ((5 : Int), (0 : Int)) ∈ C.bad
 ·unfold Cs.gR; rw [if_pos hb]
  have hR : ∀ (w1 : World) (L : List (Nat × Obj)), Hp w L w1 → (∀ p ∈ L, w.heap.size ≤ p.1) → Ret Tryz.prog 145 #[ptr c 0, .agg #[I ((5 : Nat) : Int), I ((0 : Nat) : Int)]] w1 fun v w' => v = .tuple #[nilS, .bool false] ∧ Hp w1 [] w' :=
   fun w1 L H hK => Nk (kind := 5) (idx := 0) (j := 0) (at_ := 488) (n := 4) (hM.Ql H hK) (.inr (.inr (.inr (.inr (.inr ⟨rfl, rfl, rfl, rfl, rfl⟩))))) hb
  refine Qi (args := [_]) func104 rfl ntmps104 results104 (by simp) ?_
  have H := Hp.refl w
  (refine Js (Jr (Ja (Ja (Jn (Js (Jr (Jm (J (Qm (places := [(0, 1), (1, 1)]) (vs := [I ((5 : Nat) : Int), I ((0 : Nat) : Int)]) underlying182 typeInfo182 rfl rfl (by kernel_rfl) rfl rfl rfl) (Jz rfl call143 rfl (recG_no (fun w1 L h1 hK => hR w1 _ (H.Zo h1 hK) (Yv (fun p hp => Nat.le_trans H.size (hK p hp)) kYs))) H ?_))))))))); intro w10 H)
  refine Jm (Jx rfl rfl (Jx rfl rfl (Ja (Ja (Jn (Js (Jr (Jm (Jm (J (Xf rfl rfl (by omega)) (Ja (Ja (Jn (Je ?_))))))))))))))
  exact ⟨_, rfl, rfl, H⟩
 ·unfold Cs.gR; rw [if_neg hb]
  exact Front_ret hM hb (hL.g hb)
theorem Look_L (hM : CmI w c C) (hL : Lk C) : Ret Tryz.prog 63 #[ptr c 0] w fun v w' => v = .tuple #[] ∧ Hp w [] w' := by
 refine Qi (args := [_]) func63 rfl ntmps63 results63 (by simp) ?_
 have H := Hp.refl w
 have h1 := hM.hl
 have h2 := hM.hl0
 refine Js (Js (Jr (Jm (Jn (Jb ?_)))))
 refine Yg [(2, 2), (5, 11)] (fun (i : Nat) E w' => i ≤ 8 ∧ E 5 = I i ∧ Hp w [] w') (fun i => 8 - i) 0 ?e0 ?r0
 ·exact ⟨by omega, rfl, H⟩
 ·(clear H; rintro i E w1 ⟨hi, h5, H⟩; refine Ur h5 ?_)
  refine Js (Jr (J (Vb rfl rfl) (Jn (Js (Xo rfl (fun h14 => ?_) (fun h14 => ?_))))))
  ·(refine Jk (Js (Jb (Js (Jr (Jm (Ja (Jn (Jr (Jm (Jm (Jz rfl call64 rfl (Mj (i := i) (hM.same H) hL (by omega)) H ?_))))))))))); intro w26 H)
   refine Jn (Jr (J (Xg rfl rfl (Xc (by omega))) (Jm (Jn ?_))))
   exact ⟨kS, i + 1, by omega, by omega, rfl, H⟩
  ·refine Xr ?_
   refine (if_pos rfl).mpr ?_
   refine Js (Js (Jr (Jm (Jn (Jb ?_)))))
   refine Yg [(3, 3), (12, 18)] (fun (i : Nat) E w' => i ≤ 12 ∧ E 12 = I i ∧ Hp w [] w') (fun i => 12 - i) 0 ?e2 ?r2
   ·exact ⟨by omega, rfl, H⟩
   ·(clear H; rintro i2 E2 w2 ⟨hi2, h12, H⟩; refine Ur h12 ?_)
    refine Js (Jr (J (Vb rfl rfl) (Jn (Js (Xo rfl (fun h48 => ?_) (fun h48 => ?_))))))
    ·(refine Jk (Js (Jb (Js (Jr (Jm (Ja (Jn (Jr (Jm (Jm (Jz rfl call101 rfl (File_L (i := i2) (hM.same H) hL (by omega)) H ?_))))))))))); intro w60 H)
     refine Jn (Jr (J (Xg rfl rfl (Xc (by omega))) (Jm (Jn ?_))))
     exact ⟨kS, i2 + 1, by omega, by omega, rfl, H⟩
    ·refine Xr ?_
     refine (if_pos rfl).mpr ?_
     (refine Js (Js (Jr (Jm (Jz rfl call102 rfl (Bi (hM.same H) 3 (3 + C.nms.length) (.inr (.inr (.inl ⟨rfl, rfl⟩)))) H ?_)))); intro w73 H)
     refine Jm (Jn (Jb ?_))
     refine Yg [(4, 4), (21, 27)] (fun (i : Nat) E w' => i ≤ 3 + C.nms.length ∧ E 21 = I i ∧ Hp w [] w') (fun i => 3 + C.nms.length - i) 0 ?e4 ?r4
     ·exact ⟨by omega, rfl, H⟩
     ·(clear H; rintro i4 E4 w4 ⟨hi4, h21, H⟩; refine Ur h21 ?_)
      refine Js (Jr (J (Vb rfl rfl) (Jn (Js (Xo rfl (fun h84 => ?_) (fun h84 => ?_))))))
      ·(refine Jk (Js (Jb (Js (Jr (Jm (Ja (Jn (Jr (Jm (Jm (Jz rfl call103 rfl (Pipe_L (i := i4) (hM.same H) hL (by omega)) H ?_))))))))))); intro w96 H)
       refine Jn (Jr (J (Xg rfl rfl (Xc (by omega))) (Jm (Jn ?_))))
       exact ⟨kS, i4 + 1, by omega, by omega, rfl, H⟩
      ·refine Xr ?_
       refine (if_pos rfl).mpr ?_
       (refine Js (Jr (Jm (Jz rfl call66 rfl (Term_L (hM.same H) hL) H ?_))); intro w108 H)
       (refine Jn (Jr (Jm (Jz rfl call104 rfl (Front_L (hM.same H) hL) H ?_))); intro w112 H)
       refine Jn ?_
       exact ⟨_, rfl, rfl, H⟩
end
end Go.Proofs.YtlpmfldijgdcoaaGreatDoor.Cm
