/- The texts Vw4, Vw5, Vw7 of this claim, put together in their order. No condition of their own. -/
import Derived.Test.YtklhdalppmjnaaaGreatDoorQ11
import Derived.Test.YtklhdalppmjnaaaGreatDoorQ4
import Derived.Test.YtklhdalppmjnaaaGreatDoorQ7
set_option linter.unusedVariables false
set_option linter.unusedSimpArgs false
set_option linter.unusedSectionVars false
set_option maxHeartbeats 1000000
set_option maxRecDepth 20000
namespace Go.Proofs.YtklhdalppmjnaaaGreatDoor
open Go Go.Gw Go.So Go.Tu Go.Jn
open Go.Dr hiding Pr

/-- (*rhizome/view.Standing).Read -/
theorem Qcc (o : SO) (v : Vw) (s : KS) (al : List (Ed × Bool)) (A : List Ed) (h : KOk o.k v s A) (hl : A.length ≤ 60) : Ct Tryz.prog 13 [IsV (pt o.g 0)] (StI o s al) Unit (fun _ => SlT kT (Yi v A)) (fun _ => StI o s al) (fun _ => True) := by
 refine Qn Tryz.func13 rfl rfl ?_
 intro H w
 exact Q4 (List.Perm.refl (Qb o.g 74 kSt (stV o) :: Qg o.ga Kg Xd.T al :: KI o.k s)) (sq (rg (ak rfl (tn (nn (sq (rg (mv rfl rfl (oP (Qe oz) rfl (oP (pf oz y7w) rfl (oP (Ql oz (mA 0 rfl) lt1 y72) rfl (Wo [_, _] rfl (Qcz (Q5a o.k v s A h hl) oz oN (Zp (X := [_, _]))) rfl rfl fun _ _ => (av rfl rfl (tn (nn (tR (Qi .ret (.inl rfl) rfl () oz trivial pl)))))))))))))))))
/-- (*rhizome/view.Standing).Do -/
theorem Qf0 (o : SO) (v : Vw) (s : KS) (al : List (Ed × Bool)) (A gone come : List Ed) (hok : VOk o v s al A) (hgi : ∀ e ∈ gone, Y8 e.1 ∧ Y8 e.2.2) (hci : ∀ e ∈ come, Y8 e.1 ∧ Y8 e.2.2) (hA : A.length ≤ 45) (hg : gone.length ≤ 45) (hc : come.length ≤ 45) (hEl : A.length + come.length ≤ 45 + gone.length) : Ct Tryz.prog 11 [IsV (pt o.g 0), SlT kE gone, SlT kE come] (StI o s al) (KS × List (Ed × Bool) × Dl × Int) (fun r => Y1 [kD.T r.2.2.1, I64 r.2.2.2]) (fun r => StI o r.1 r.2.1) (fun r => Qgh o v al A gone come r) := by
 refine Qn Tryz.func11 rfl rfl ?_
 intro H w
 refine sq (rg (oA (Qz (z44)) pR rfl rfl (fun g0_0 _ => ?_)))
 refine ak rfl (tn (nn (sq (sq (rg (mv rfl rfl (mv rfl rfl (mv rfl rfl (Wo [_] rfl (aC (Qyw o s al gone come (by omega) (by omega)) y4n (oc oz (oc oz (oc oz oN))) (Zp (X := [_]))) rfl rfl fun _ _ => (av rfl rfl (tn (nn (sq (rg (mv rfl rfl (oP (Yj oz ot) rfl (tn (nn (tc oz (fun c23 => ?_) (fun c23 => ?_))))))))))))))))))))
 · have hl0 : ¬ Yn al gone come = 0 := of_decide_eq_true c23
   refine sq (rg (oP (Zb (d := kD) (v0 := ([], [])) (ps := [(0, 1), (1, 1)]) z44 (by kernel_rfl) rfl Qc) rfl (mv rfl rfl (oA (asv oz oz (pA 0 rfl) yh2) (pA 0 rfl) rfl rfl (fun _ _ => ?_)))))
   refine av rfl rfl (tn (nn (tR (tt ?_))))
   exact Zl .ret (.inl rfl) rfl (s, al, ([], []), Yn al gone come) oz (mA 0 rfl) yh2 oz (fun _ _ h => h) (.inl ⟨hl0, hok, rfl, (if_neg hl0).symm, fun h => absurd h hl0⟩) (pd pl)
 have hl0 : Yn al gone come = 0 := Classical.byContradiction fun h => by rw [decide_eq_true (p := Yn al gone come ≠ 0) h] at c23; cases c23
 have hgn := (Vv hok.a hl0).2.1
 have hcn := (Vv hok.a hl0).2.2.1
 have hgl := Qnt hok hl0
 have hf0 := Uz hok.k (by omega)
 refine Q4 (List.Perm.refl (Qb g0_0 38 kD ([], []) :: Qb o.g 74 kSt (stV o) :: Qg o.ga Kg Xd.T al :: KI o.k s)) (sk (nn (sq (rg (mv rfl rfl (oP (Qe oz) rfl (oP (pf oz y7w) rfl (oP (Ql oz (mA 1 rfl) lt1 y72) rfl (mv rfl rfl (Wo [_, _, _] rfl (Qcz (kdo o.k v s A gone false hok.k hgi (by omega) (by omega) (fun q => by cases q) (Qs9 hok hl0) hgn) oz (oc oz (oc ot oN)) (Zp (X := [_, _, _]))) rfl rfl fun q hq => ?_))))))))))
 refine mv rfl rfl (oP (Qd oz rfl) rfl (oP (Qd oz rfl) rfl (oA (Qz (z44)) pR rfl rfl (fun g4_9 _ => ?_))))
 refine oA (asv oz oz (pA 0 rfl) yh2) (pA 0 rfl) rfl rfl (fun _ _ => ?_)
 refine av rfl rfl (tn (nn (sq (sq ?_))))
 obtain ⟨hq0, hqk, hqd⟩ := hq.resolve_right fun h => by cases h.2.2.1
 rw [hq0, hqd]
 have hf1 := Uz hqk (by omega)
 refine rg (mv rfl rfl (oP (Yj oz ot) rfl (tn (nn (tc oz (fun c36 => ?_) (fun c36 => ?_))))))
 · exfalso
   exact absurd (of_decide_eq_true c36) (fun h => h rfl) --done
 refine Q4 (List.Perm.refl (Qb g4_9 38 kD (dif v A (goE A gone false)) :: Qb g0_0 38 kD ([], []) :: Qb o.g 74 kSt (stV o) :: Qg o.ga Kg Xd.T al :: KI o.k q.1)) (sk (nn (sq (rg (mv rfl rfl (oP (Qe oz) rfl (oP (pf oz y7w) rfl (oP (Ql oz (mA 2 rfl) lt1 y72) rfl (mv rfl rfl (Wo [_, _, _, _] rfl (Qcz (kdo o.k v q.1 (goE A gone false) come true hqk hci (by omega) (by omega) (fun _ => by omega) (Qta hok hl0) hcn) oz (oc oz (oc ot oN)) (Zp (X := [_, _, _, _]))) rfl rfl fun p hp => (mv rfl rfl (oP (Qd oz rfl) rfl (oP (Qd oz rfl) rfl (oA (Qz (z44)) pR rfl rfl (fun g7_9 _ => ?_)))))))))))))))
 refine oA (asv oz oz (pA 0 rfl) yh2) (pA 0 rfl) rfl rfl (fun _ _ => ?_)
 refine av rfl rfl (tn (nn (sq (sq (rg (mv rfl rfl (oP (Yj oz ot) rfl (tn (nn (tc oz (fun c49 => ?_) (fun c49 => ?_)))))))))))
 · obtain ⟨hp0, hpn, _, hpm, hpk, hpd⟩ := hp.resolve_left fun h => of_decide_eq_true c49 h.1
   obtain ⟨hb1, hb2⟩ := Qtb hok hl0
   refine sq (rg (mv rfl rfl (oP (Qe oz) rfl (oP (pf oz y7w) rfl (oP (Ql oz (mA 3 rfl) lt1 y72) rfl (mv rfl rfl (Wo [_, _, _, _, _] rfl (Qcz (kdo o.k v p.1 (goE A gone false) gone true hpk hgi (by omega) (by omega) (fun _ => by omega) hb1 hgn) oz (oc oz (oc ot oN)) (Zp (X := [_, _, _, _, _]))) rfl rfl fun u hu => (tn (nn (sq ?_))))))))))
   have huk : KOk o.k v u.1 A := by
    rcases hu with h | h
    · exact Qs8 h.2.1 hb2 hok.nd
    have h9 := Qe7 hok.k hpn
    rw [← Qa7 hb2] at h9
    exact absurd h.2.2.2.1 (by show ¬ Z4 v (goE (goE A gone false) gone true) = true; rw [h9]; decide)
   have hsay5 : Qgh o v al A gone come (u.1, al, ([], []), 5) := .inl ⟨(show ¬ (5 : Int) = 0 by decide), ⟨hok.ov, hok.nd, huk, hok.a⟩, rfl, (if_pos hl0).symm, fun _ => ⟨hpn, hpm⟩⟩
   rw [hp0]
   refine rg (oP (Zb (d := kD) (v0 := ([], [])) (ps := [(0, 1), (1, 1)]) z44 (by kernel_rfl) rfl Qc) rfl (mv rfl rfl (oA (asv oz oz (pA 2 rfl) yh2) (pA 2 rfl) rfl rfl (fun _ _ => ?_))))
   refine av rfl rfl (tn (nn (tR (tt ?_))))
   exact Zl .ret (.inl rfl) rfl (u.1, al, ([], []), 5) oz (mA 0 rfl) yh2 oz (fun _ _ h => h) hsay5 (pd (pd (pd pl)))
 have hp0 : p.2.2 = 0 := Classical.byContradiction fun h => by rw [decide_eq_true (p := p.2.2 ≠ 0) h] at c49; cases c49
 obtain ⟨_, hpk, hpd⟩ := hp.resolve_right fun h => by rw [hp0] at h; cases h.1
 have hpk : KOk o.k v p.1 (Jb A gone come) := hpk
 have hA2 : (Jb A gone come).length ≤ 60 := by have h9 : (Jb A gone come).length = (goE A gone false).length + come.length := List.length_append; omega
 have hf2 := Uz hpk hA2
 have hpd : p.2.1 = (dif v (goE A gone false) (Jb A gone come)) := hpd
 rw [hpd]
 refine Q4 (List.Perm.refl (Qb g7_9 38 kD (dif v (goE A gone false) (Jb A gone come)) :: Qb g4_9 38 kD (dif v A (goE A gone false)) :: Qb g0_0 38 kD ([], []) :: Qb o.g 74 kSt (stV o) :: Qg o.ga Kg Xd.T al :: KI o.k p.1)) (sk (nn (sq (sq (rg (mv rfl rfl (oP (pls oz Tryz.underlying26) rfl (oP (Qm ot) rfl (tn (nn (tb (Qt (σ := Nat × List (Ed × Bool)) (e4 0 2 6 9 rfl (e2 11 58 rfl (ec 59 rfl en))) (fun y => [(60, I64 (y.1 : Int))]) (fun y => Qb g7_9 38 kD (dif v (goE A gone false) (Jb A gone come)) :: Qb g4_9 38 kD (dif v A (goE A gone false)) :: Qb g0_0 38 kD ([], []) :: Qb o.g 74 kSt (stV o) :: Qg o.ga Kg Xd.T y.2 :: KI o.k p.1) (fun y => y.1 ≤ gone.length ∧ ∀ x, J9 y.2 x = (J9 al x && !decide (x ∈ gone.take y.1))) (fun y => gone.length - y.1) (0, al) ⟨Nat.zero_le _, fun x => by simp⟩ ?_ (op pl) ?_))))))))))))
 · exact (ec 60 rfl en)
 rintro ⟨k, al2⟩ ⟨hk, hal⟩
 dsimp only at hk hal ⊢
 refine sq (rg (oP (Q5 oz oz) rfl (tn (nn (sq (tc oz (fun c61 => ?_) (fun c61 => ?_)))))))
 · refine sk (nn (sq (tb (sq ?_))))
   have hkl : k < gone.length := by simp only [decide_eq_true_eq] at c61; omega
   obtain ⟨e, he⟩ : ∃ e, at' gone (k : Int) = e := ⟨_, rfl⟩
   refine rg (oP (Qj oz oz Tryz.underlying26 y16 (by omega) (by omega)) rfl (oP (pL oz y16) rfl (oA (Qz (zE)) pR rfl rfl (fun g13_2 _ => ?_))))
   refine oA (asv oz oz (pA 0 rfl) y16) (pA 0 rfl) rfl rfl (fun _ _ => ?_)
   refine tn ?_
   rw [he]
   refine nn (Vr (Zz 5 rfl) Quy fun hnd => ?_)
   have hst := Qxs hkl he hnd hal
   apply Xs (m := 5) (ns := [[(0, none)], [(64, some 0)], [(65, some 1)], [(66, some 2)], [(13, none)]]) (by kernel_rfl) (by kernel_rfl) (Ts := [_, _, _, _, _]) rfl
   case hops =>
    exact ⟨rmv rfl, rP (Qe oz), rP (pf oz yn6), rP (Ql oz (mA 4 rfl) lt2 y4l), rP (plv oz (mA 0 rfl) y16), trivial⟩
   case h =>
    refine oA (Ve mkE Tryz.underlying70 rfl oz (pA 5 rfl) oz) (pA 5 rfl) rfl rfl (fun _ _ => ?_)
    refine tn (bn (nn (rg (oP (pad oz ot (by omega)) rfl (mv rfl rfl (tn (nn ?_)))))))
    exact tg (k + 1, dlk e al2) ⟨hkl, hst⟩ (by show gone.length - (k + 1) < gone.length - k; omega) ef (op (pc 2 rfl (pc 2 rfl (pc 2 rfl (pc 2 rfl (pc 0 rfl (pd pl)))))))
 refine Qx (tx (tx (bh (nn (sq (sq ?_))))))
 obtain rfl : k = gone.length := by simp only [decide_eq_false_iff_not] at c61; omega
 rw [List.take_length] at hal
 refine rg (mv rfl rfl (oP (pls oz Tryz.underlying26) rfl (oP (Qm ot) rfl (tn (nn (tb (Qt (σ := Nat × List (Ed × Bool)) (e4 0 6 9 11 rfl (e2 70 71 rfl en)) (fun y => [(72, I64 (y.1 : Int))]) (fun y => Qb g7_9 38 kD (dif v (goE A gone false) (Jb A gone come)) :: Qb g4_9 38 kD (dif v A (goE A gone false)) :: Qb g0_0 38 kD ([], []) :: Qb o.g 74 kSt (stV o) :: Qg o.ga Kg Xd.T y.2 :: KI o.k p.1) (fun y => y.1 ≤ come.length ∧ ∀ x, J9 y.2 x = ((J9 al x && !decide (x ∈ gone)) || decide (x ∈ come.take y.1))) (fun y => come.length - y.1) (0, al2) ⟨Nat.zero_le _, fun x => by rw [hal]; simp⟩ ?_ (op pl) ?_)))))))
 · exact (ec 72 rfl en)
 rintro ⟨k, al3⟩ ⟨hk, hcm⟩
 dsimp only at hk hcm ⊢
 refine sq (rg (oP (Q5 oz oz) rfl (tn (nn (sq (tc oz (fun c73 => ?_) (fun c73 => ?_)))))))
 · refine sk (nn (sq (tb (sq ?_))))
   have hkl : k < come.length := by simp only [decide_eq_true_eq] at c73; omega
   obtain ⟨e, he⟩ : ∃ e, at' come (k : Int) = e := ⟨_, rfl⟩
   have hst := Qte hkl he hcm
   refine rg (oP (Qj oz oz Tryz.underlying26 y16 (by omega) (by omega)) rfl (oP (pL oz y16) rfl (oA (Qz (zE)) pR rfl rfl (fun g18_2 _ => ?_))))
   refine oA (asv oz oz (pA 0 rfl) y16) (pA 0 rfl) rfl rfl (fun _ _ => ?_)
   refine tn ?_
   rw [he]
   refine nn ?_
   apply Xs (m := 5) (ns := [[(0, none)], [(76, some 0)], [(77, some 1)], [(78, some 2)], [(15, none)]]) (by kernel_rfl) (by kernel_rfl) (Ts := [_, _, _, _, _]) rfl
   case hops =>
    exact ⟨rmv rfl, rP (Qe oz), rP (pf oz yn6), rP (Ql oz (mA 4 rfl) lt2 y4l), rP (plv oz (mA 0 rfl) y16), trivial⟩
   case h =>
    refine oA (X4 (V := Xd.T) (v := true) mkE Tryz.underlying70 oz (pA 5 rfl) oz ot) (pA 5 rfl) rfl rfl (fun _ _ => ?_)
    refine tn (bn (nn (rg (oP (pad oz ot (by omega)) rfl (mv rfl rfl (tn (nn ?_)))))))
    exact tg (k + 1, ptk e true al3) ⟨hkl, hst⟩ (by show come.length - (k + 1) < come.length - k; omega) ef (op (pc 2 rfl (pc 2 rfl (pc 2 rfl (pc 2 rfl (pc 0 rfl (pd pl)))))))
 refine Qx (tx (tx (bh (nn (sq ?_)))))
 obtain rfl : k = come.length := by simp only [decide_eq_false_iff_not] at c73; omega
 rw [List.take_length] at hcm
 have haft := Qtd hok hl0 hpk hcm
 refine rg (oP (plv oz (mA 1 rfl) yh2) rfl (oP (plv oz (mA 0 rfl) yh2) rfl (oA (aC (Q1m (dif v A (goE A gone false)) (dif v (goE A gone false) (Jb A gone come)) (hf1.without _) (hf0.without _) (hf2.without _) (hf1.without _)) y1s (oc oz (oc oz oN)) pR) pR rfl rfl (fun _ _ => ?_))))
 refine mv rfl rfl (oP (Qd oz rfl) rfl (oP (Qd oz rfl) rfl (oA (Qz (z44)) pR rfl rfl (fun g21_6 _ => ?_))))
 refine oA (asv oz oz (pA 0 rfl) yh2) (pA 0 rfl) rfl rfl (fun _ _ => ?_)
 refine av rfl rfl (tn (nn (sq (rg (oP (plv oz (mA 0 rfl) yh2) rfl (oA (asv oz oz (pA 3 rfl) yh2) (pA 3 rfl) rfl rfl (fun _ _ => ?_)))))))
 refine ak rfl (tn (nn (tR ?_)))
 exact Zl .ret (.inl rfl) rfl (p.1, al3, (Qbh (dif v A (goE A gone false)) (dif v (goE A gone false) (Jb A gone come))).1, 0) oz (mA 0 rfl) yh2 oz (fun _ _ h => h) (.inr ⟨rfl, hl0, haft, Qxr⟩) (pd (pd (pd (pd pl))))
abbrev vR : Vw := ([114], 2, [], [], [97])
abbrev eR1 : List Ed := [(1, [97], 2)]
abbrev eR2 : List Ed := [(1, [97], 3)]
theorem Qke {E : List Pr} {p : Pr} (h : ∀ x, x ∈ E ↔ x = p) (hne : p.1 ≠ p.2) (a b : Int) : TC E a b ↔ (a, b) = p := by
 constructor
 · intro ht
   cases ht with
   | one q => exact (h _).1 q
   | cons q t =>
    have h1 := (h _).1 q
    obtain ⟨⟨c, hc⟩, _⟩ := t.ends
    have h2 := (h _).1 hc
    exact absurd ((congrArg Prod.fst h2).symm.trans (congrArg Prod.snd h1)) hne
 intro q; exact .one ((h _).2 q)
theorem Qn8 {P : List Pr} {p : Pr} (h : ∀ x, x ∈ P ↔ x = p) (hne : p.1 ≠ p.2) : Wk P [tpl p] := ⟨List.pairwise_singleton _ _, fun t => by
 rw [List.mem_singleton]
 constructor
 · rintro rfl; exact ⟨p.1, p.2, rfl, (Qke h hne _ _).2 rfl⟩
 rintro ⟨a, b, rfl, q⟩
 have := (Qke h hne _ _).1 q
 rw [← this]⟩
theorem Q5j : Yi vR eR1 = [[1, 2]] := by
 unfold Yi
 rw [if_pos rfl]
 exact Un (Qn8 (p := (1, 2)) (fun x => by rw [J8]; simp [Prod.ext_iff]) (by decide))
theorem Q2u : Yi vR (Jb eR1 eR1 eR2) = [[1, 3]] := by
 unfold Yi
 rw [if_pos rfl]
 exact Un (Qn8 (p := (1, 3)) (fun x => by rw [J8, Vu]; simp [Prod.ext_iff]; intro a b c; exact absurd c (by simp [a, b])) (by decide))
theorem Q4i {r : Qjd} (h : Qfb vR eR1 r) : ∃ o s al, r = (some (o, s, al), 0) ∧ VOk o vR s al eR1 := by
 have h0 : Qao vR eR1 = 0 := by decide
 obtain ⟨h1, ⟨_, h2⟩ | ⟨o, s, al, h2, h3, h4⟩⟩ := h
 · exact absurd (h1.trans h0) h2
 exact ⟨o, s, al, Prod.ext h2 h3, h4⟩
theorem Q18 {o : SO} {s : KS} {al : List (Ed × Bool)} {r : KS × List (Ed × Bool) × Dl × Int} (h : VOk o vR s al eR1) (hr : Qgh o vR al eR1 eR1 eR2 r) : r.2.2.2 = 0 ∧ r.2.2.1 = ([[1, 3]], [[1, 2]]) ∧ VOk o vR r.1 r.2.1 (Jb eR1 eR1 eR2) := by
 have hl : Yn al eR1 eR2 = 0 := Qlg h.a (fun _ q => q) (by decide) (by decide) (by decide)
 rcases hr with ⟨_, _, _, _, h5⟩ | ⟨h1, _, h3, h4⟩
 · exact absurd rfl (h5 hl).1
 · refine ⟨h1, ?_, h3⟩
   rw [h4]
   unfold dif
   rw [Q5j, Q2u]
   decide

/-- rhizome/rhizomelaw18.awake -/
theorem Qbe  : Ct Tryz.prog 8 [] ([]) Unit (fun _ => Xe true) (fun _ => []) (fun _ => True) := by
 refine Qn Tryz.func8 rfl rfl ?_
 intro H w
 refine sq (rg (ak rfl (tn (nn (sq (rg (oP (Zb (d := kV) (v0 := ([], 0, [], [], [])) (ps := [(0, 1), (1, 1), (2, 1), (3, 1), (4, 1)]) zV (by kernel_rfl) rfl (Qk rfl lv0 ot (Qk rfl lv1 ot (Qk rfl lv4 ot Qc)))) rfl (oP (Zb (d := kE) (v0 := (0, [], 0)) (ps := [(0, 1), (1, 1), (2, 1)]) zE (by kernel_rfl) rfl (Qk rfl le0 ot (Qk rfl le1 ot (Qk rfl le2 ot Qc)))) rfl (oA (Q7 (d := kE) (v0 := (0, [], 0)) yru y16 zE (show 1 * 3 ≤ 16777216 from by decide) (by decide) (Qv rfl rfl (by decide) oz Qc)) pR rfl rfl (fun _ _ => ?_))))))))))
 refine Zt 5 (T := kV.T vR) oz (Zt 7 (T := SlT kE eR1) oz (oA (aC (Qg3 vR eR1 (by decide) (by decide) (by decide) (by decide)) y4i (oc oz (oc oz oN)) pR) pR rfl rfl fun q hq => (mv rfl rfl (oP (Qd oz rfl) rfl (oP (Qd oz rfl) rfl (av rfl rfl (av rfl rfl (tn (nn (sq (sq ?_)))))))))))
 obtain ⟨o, s, al, rfl, hok⟩ := Q4i hq
 refine Q4 (show (StI o s al ++ []).Perm (StI o s al) from by rw [List.append_nil]) ?_
 refine rg (mv rfl rfl (oP (Yj oz ot) rfl (mv rfl rfl (oG rfl rfl rfl (gm oz) (fun hg => by (have hg1 := hg.2; (try simp only [cq2] at hg1); exact Qm oz)) rfl ?_))))
 refine oG rfl rfl rfl (gm oz) (fun hg => by (have hg1 := hg.2; (try simp only [cq2] at hg1); exact Y6 U4 (gu oz hg) Tryz.underlying32)) rfl ?_
 refine oP (Zx oz oz) rfl (tn (nn (tc oz (fun c16 => ?_) (fun c16 => ?_))))
 · exfalso
   simp at c16 --done
 refine sk (nn (sq (rg (mv rfl rfl (oP (Zb (d := kE) (v0 := (0, [], 0)) (ps := [(0, 1), (1, 1), (2, 1)]) zE (by kernel_rfl) rfl (Qk rfl le0 ot (Qk rfl le1 ot (Qk rfl le2 ot Qc)))) rfl (oA (Q7 (d := kE) (v0 := (0, [], 0)) yru y16 zE (show 1 * 3 ≤ 16777216 from by decide) (by decide) (Qv rfl rfl (by decide) oz Qc)) pR rfl rfl (fun _ _ => ?_)))))))
 refine oP (Zb (d := kE) (v0 := (0, [], 0)) (ps := [(0, 1), (1, 1), (2, 1)]) zE (by kernel_rfl) rfl (Qk rfl le0 ot (Qk rfl le1 ot (Qk rfl le2 ot Qc)))) rfl (oA (Q7 (d := kE) (v0 := (0, [], 0)) yru y16 zE (show 1 * 3 ≤ 16777216 from by decide) (by decide) (Qv rfl rfl (by decide) oz Qc)) pR rfl rfl (fun _ _ => ?_))
 refine Zt 20 (T := SlT kE eR1) oz (Zt 22 (T := SlT kE eR2) oz (Wo [] rfl (aC (Qf0 o vR s al eR1 eR1 eR2 hok (by decide) (by decide) (by decide) (by decide) (by decide) (by decide)) yr8 (oc oz (oc oz (oc oz oN))) (Zp (X := []))) rfl rfl fun r hr => (mv rfl rfl (oP (Qd oz rfl) rfl (oP (Qd oz rfl) rfl (oA (Qz (z44)) pR rfl rfl (fun g4_9 _ => ?_)))))))
 refine oA (asv oz oz (pA 0 rfl) yh2) (pA 0 rfl) rfl rfl (fun _ _ => ?_)
 refine av rfl rfl (tn (nn (sq ?_)))
 obtain ⟨hr0, hrd, hrk⟩ := Q18 hok hr
 rw [hr0, hrd]
 refine rg (mv rfl rfl (oP (Zs oz ot) rfl (mv rfl rfl (oG rfl rfl rfl (gm oz) (fun hg => by (have hg1 := hg.2; (try simp only [cq2] at hg1); exact pf oz ygo)) rfl ?_))))
 refine oG rfl rfl rfl (gm oz) (fun hg => by (have hg1 := hg.2; (try simp only [cq2] at hg1); exact plb (gu oz hg) (mA 0 rfl) (Qf.fst (a := kL) (b := kL)) y1z)) rfl ?_
 refine oG rfl rfl rfl (gm oz) (fun hg => by (have hg1 := hg.2; (try simp only [cq2] at hg1); exact pls (gu oz hg) Tryz.underlying36)) rfl ?_
 refine oG rfl rfl rfl (gm oz) (fun hg => by (have hg1 := hg.2; (try simp only [cq2] at hg1); exact Zs (gu oz hg) ot)) rfl ?_
 refine oP (Q2 oz oz) rfl (mv rfl rfl (oG rfl rfl rfl (gm oz) (fun hg => by (have hg1 := hg.2; (try simp only [cq2] at hg1); exact pf oz yan)) rfl ?_))
 refine oG rfl rfl rfl (gm oz) (fun hg => by (have hg1 := hg.2; (try simp only [cq2] at hg1); exact plb (gu oz hg) (mA 0 rfl) (Qf.snd (a := kL) (b := kL)) y1z)) rfl ?_
 refine oG rfl rfl rfl (gm oz) (fun hg => by (have hg1 := hg.2; (try simp only [cq2] at hg1); exact pls (gu oz hg) Tryz.underlying36)) rfl ?_
 refine oG rfl rfl rfl (gm oz) (fun hg => by (have hg1 := hg.2; (try simp only [cq2] at hg1); exact Zs (gu oz hg) ot)) rfl ?_
 refine oP (Q2 oz oz) rfl (mv rfl rfl (oG rfl rfl rfl (gm oz) (fun hg => by (have hg1 := hg.2; (try simp only [cq2] at hg1); exact pf oz ygo)) rfl ?_))
 refine oG rfl rfl rfl (gm oz) (fun hg => by (have hg1 := hg.2; (try simp only [cq2] at hg1); exact plb (gu oz hg) (mA 0 rfl) (Qf.fst (a := kL) (b := kL)) y1z)) rfl ?_
 refine oG rfl rfl rfl (gm oz) (fun hg => by (have hg1 := hg.2; (try simp only [cq2] at hg1); exact Qj (gu oz hg) ot Tryz.underlying36 yko (by omega) (by (simp; done)))) rfl ?_
 refine oG rfl rfl rfl (gm oz) (fun hg => by (have hg1 := hg.2; (try simp only [cq2] at hg1); exact pL (gu oz hg) yko)) rfl ?_
 refine oG rfl rfl rfl (gm oz) (fun hg => by (have hg1 := hg.2; (try simp only [cq2] at hg1); exact Qj (gu oz hg) ot Tryz.underlying51 ynm (by omega) (by decide))) rfl ?_
 refine oG rfl rfl rfl (gm oz) (fun hg => by (have hg1 := hg.2; (try simp only [cq2] at hg1); exact pL (gu oz hg) ynm)) rfl ?_
 refine oG rfl rfl rfl (gm oz) (fun hg => by (have hg1 := hg.2; (try simp only [cq2] at hg1); exact Zs (gu oz hg) ot)) rfl ?_
 refine oP (Q2 oz oz) rfl (mv rfl rfl (oG rfl rfl rfl (gm oz) (fun hg => by (have hg1 := hg.2; (try simp only [cq2] at hg1); exact Qm oz)) rfl ?_))
 refine Ug rfl rfl rfl (gm oz) (Zp (X := [_])) (fun hg => aC (Qcc o vR r.1 r.2.1 (Jb eR1 eR1 eR2) hrk.k (by decide)) ybh (oc (gu oz hg) oN) (Zp (X := [_]))) rfl (oG rfl rfl rfl (gm oz) (fun hg => by (have hg1 := hg.2; (try simp only [cq2] at hg1); exact pls (gu oz hg) Tryz.underlying36)) rfl ?_)
 refine oG rfl rfl rfl (gm oz) (fun hg => by (have hg1 := hg.2; (try simp only [cq2] at hg1); exact Zs (gu oz hg) ot)) rfl ?_
 refine oP (Q2 oz oz) rfl (av rfl rfl (tn (nn (tR ?_))))
 exact Qi .ret (.inl rfl) rfl () (OT.val oz (congrArg Value.bool (by rw [Q2u]; decide))) trivial pn
/-- Edges that go, edges that come. -/
abbrev Stp := List Ed × List Ed
abbrev kSp : Kd Stp := Xo (ksl kE) (ksl kE)
theorem Qt7 {t : Stp} : Qf kSp (ksl kE) 0 t t.1 (fun y => (y, t.2)) := Qf.fst
theorem Qt8 {t : Stp} : Qf kSp (ksl kE) 1 t t.2 (fun y => (t.1, y)) := Qf.snd (a := ksl kE)
theorem zSp : Xw Tryz.prog 28 kSp ([], []) := ⟨.agg #[Qo, Qo], by kernel_rfl, fun H => ⟨[Qo, Qo], ⟨[_], [_], ⟨Qo, rfl, Uj⟩, ⟨Qo, rfl, Uj⟩, rfl⟩, rfl⟩⟩
def Ur (es : List Ed) (sc : List Stp) (k : Nat) : Int := (es.length : Int) + ((sc.take k).map fun o => (o.1.length : Int) + (o.2.length : Int)).sum
theorem Qc2 {es : List Ed} {sc : List Stp} {k : Nat} (h : k < sc.length) : Ur es sc (k + 1) = Ur es sc k + (((at' sc (k : Int)).1.length : Int) + ((at' sc (k : Int)).2.length : Int)) := by
 unfold Ur
 rw [List.take_succ_eq_append_getElem h, List.map_append, List.sum_append, Q1 h]
 simp [Int.add_assoc]
theorem Qyx (es : List Ed) (sc : List Stp) : ∀ k, 0 ≤ Ur es sc k := fun k => by
 have : ∀ l : List Stp, 0 ≤ (l.map fun o => (o.1.length : Int) + (o.2.length : Int)).sum := fun l => by
  induction l with
  | nil => simp
  | cons a l ih => simp; omega
 have := this (sc.take k)
 unfold Ur; omega
def Qn9 (v : Vw) (es : List Ed) (sc : List Stp) : Bool := Qqm v es && decide ((es.length : Int) ≤ 20) && decide ((sc.length : Int) ≤ 10) && decide (Ur es sc sc.length ≤ 40) && decide ((v.1.length : Int) + (v.2.2.2.2.length : Int) ≤ 200)
theorem Qoa {v : Vw} {es : List Ed} {sc : List Stp} (h : Qn9 v es sc = true) : es.length ≤ 20 ∧ v.2.2.2.1.length ≤ 12 ∧ v.2.2.1.length ≤ 12 ∧ Ur es sc sc.length ≤ 40 ∧ sc.length ≤ 10 := by
 unfold Qn9 Qqm at h
 simp only [Bool.and_eq_true, decide_eq_true_eq] at h
 omega
theorem Qyy {v : Vw} {es : List Ed} {x : Stp} (h : Qn9 v es [x] = true) : es.length ≤ 20 ∧ v.2.2.2.1.length ≤ 12 ∧ v.2.2.1.length ≤ 12 ∧ es.length + x.1.length + x.2.length ≤ 40 := by
 obtain ⟨h1, h2, h3, h4, _⟩ := Qoa h
 unfold Ur at h4
 simp at h4
 omega
def Qt9 (es : List Ed) (sc : List Stp) : Nat → Int
 | 0 => (es.length : Int)
 | k + 1 => IntKind.i64.wrap (Qt9 es sc k + (((at' sc (k : Int)).1.length : Int) + ((at' sc (k : Int)).2.length : Int)))
section
variable {v : Vw} {es : List Ed} {sc : List Stp} (hl : es.length ≤ 1000000000000000) (hs : ∀ o ∈ sc, o.1.length ≤ 1000000000000000 ∧ o.2.length ≤ 1000000000000000)
include hl hs
theorem Qrh : ∀ k, k ≤ sc.length → Ur es sc k ≤ ((k : Int) + 1) * 2000000000000000
 | 0, _ => by unfold Ur; simp; omega
 | k + 1, hk => by
  have h1 := Qrh k (by omega)
  have h2 := hs _ (at_mem (l := sc) (k := k) (by omega))
  rw [Qc2 (show k < sc.length by omega)]
  have h3 : (((k + 1 : Nat) : Int) + 1) * 2000000000000000 = ((k : Int) + 1) * 2000000000000000 + 2000000000000000 := by rw [Int.natCast_add]; omega
  omega
theorem Qri (h10 : sc.length ≤ 10) : ∀ k, k ≤ sc.length → Qt9 es sc k = Ur es sc k
 | 0, _ => by unfold Qt9 Ur; simp
 | k + 1, hk => by
  have h1 := Qri h10 k (by omega)
  have h2 := Qrh hl hs (k + 1) hk
  have h3 := Qyx es sc (k + 1)
  have h4 := Qc2 (es := es) (sc := sc) (k := k) (by omega)
  have h6 : (((k + 1 : Nat) : Int) + 1) * 2000000000000000 ≤ 11 * 2000000000000000 := by omega
  rw [Qt9, h1, ← h4, i64_in (by omega)]
theorem Q5k : (Qqm v es && decide ((es.length : Int) ≤ 20) && decide ((sc.length : Int) ≤ 10) && decide (Qt9 es sc sc.length ≤ 40) && decide ((v.1.length : Int) + (v.2.2.2.2.length : Int) ≤ 200)) = Qn9 v es sc := by
 unfold Qn9
 by_cases h : sc.length ≤ 10
 · rw [Qri hl hs h _ (Nat.le_refl _)]
 have e : decide ((sc.length : Int) ≤ 10) = false := decide_eq_false (by omega)
 rw [e]; simp
end

/-- rhizome/rhizomelaw11.Fits -/
theorem Qua (v : Vw) (l : List Ed) : Ct Tryz.prog 27 [kV.T v, SlT kE l] ([]) Unit (fun _ => Xe (Qqm v l)) (fun _ => []) (fun _ => True) := by
 refine Qn Tryz.func27 rfl rfl ?_
 intro H w
 refine sq (rg (oA (Xf (d := kV) oz) pR rfl rfl (fun g0_0 _ => ?_)))
 refine ak rfl (tn (nn (sq (rg (mv rfl rfl (oP (pls oz Tryz.underlying26) rfl (oP (V8 oz ot) rfl (mv rfl rfl (oG rfl rfl rfl (gm oz) (fun hg => by (have hg1 := hg.2; (try simp only [cq2] at hg1); exact pf oz y46)) rfl ?_)))))))))
 refine oG rfl rfl rfl (gm oz) (fun hg => by (have hg1 := hg.2; (try simp only [cq2] at hg1); exact plb (gu oz hg) (mA 0 rfl) lv3 y2r)) rfl ?_
 refine oG rfl rfl rfl (gm oz) (fun hg => by (have hg1 := hg.2; (try simp only [cq2] at hg1); exact pls (gu oz hg) Tryz.underlying23)) rfl ?_
 refine oG rfl rfl rfl (gm oz) (fun hg => by (have hg1 := hg.2; (try simp only [cq2] at hg1); exact V8 (gu oz hg) ot)) rfl ?_
 refine oP (Q2 oz oz) rfl (mv rfl rfl (oG rfl rfl rfl (gm oz) (fun hg => by (have hg1 := hg.2; (try simp only [cq2] at hg1); exact pf oz yss)) rfl ?_))
 refine oG rfl rfl rfl (gm oz) (fun hg => by (have hg1 := hg.2; (try simp only [cq2] at hg1); exact plb (gu oz hg) (mA 0 rfl) lv2 ye4)) rfl ?_
 refine oG rfl rfl rfl (gm oz) (fun hg => by (have hg1 := hg.2; (try simp only [cq2] at hg1); exact pls (gu oz hg) Tryz.underlying22)) rfl ?_
 refine oG rfl rfl rfl (gm oz) (fun hg => by (have hg1 := hg.2; (try simp only [cq2] at hg1); exact V8 (gu oz hg) ot)) rfl ?_
 refine oP (Q2 oz oz) rfl (av rfl rfl (tn (nn (tR ?_))))
 exact Qi .ret (.inl rfl) rfl () (OT.val oz (congrArg Value.bool (rfl))) trivial (by exact pn)
/-- rhizome/rhizomelaw18.few -/
theorem Qob (v : Vw) (es : List Ed) (sc : List Stp) (hl : es.length ≤ 1000000000000000) (hs : ∀ o ∈ sc, o.1.length ≤ 1000000000000000 ∧ o.2.length ≤ 1000000000000000) (hsm : sc.length ≤ 1000000000000000) (hv1 : v.1.length ≤ 1000000000000000) (hv2 : v.2.2.2.2.length ≤ 1000000000000000) : Ct Tryz.prog 9 [kV.T v, SlT kE es, SlT kSp sc] ([]) Unit (fun _ => Xe (Qn9 v es sc)) (fun _ => []) (fun _ => True) := by
 refine Qn Tryz.func9 rfl rfl ?_
 intro H w
 refine sq (rg (oA (Xf (d := kV) oz) pR rfl rfl (fun g0_0 _ => ?_)))
 refine ak rfl (tn (nn (sq (rg (mv rfl rfl (oP (pls oz Tryz.underlying26) rfl (av rfl rfl (tn (nn (sq (sq (rg (mv rfl rfl (oP (pls oz Tryz.underlying31) rfl (oP (Qm ot) rfl (tn (nn (tb (Qt (σ := Nat) (e4 1 2 3 12 rfl en) (fun k => [(13, I64 (k : Int)), (7, I64 (Qt9 es sc k))]) (fun k => [Qb g0_0 25 kV v]) (fun k => k ≤ sc.length) (fun k => sc.length - k) 0 (Nat.zero_le _) ?_ (op (by repeat first | exact pn | refine pc 0 rfl ?_)) ?_)))))))))))))))))))
 · exact (e2 13 7 rfl en)
 rintro k hk
 refine sq (rg (oP (Q5 oz oz) rfl (tn (nn (sq (tc oz (fun c14 => ?_) (fun c14 => ?_)))))))
 · refine sk (nn (sq (tb (sq ?_))))
   have hkl : k < sc.length := by simpa using c14
   have hh := hs _ (at_mem hkl)
   refine rg (mv rfl rfl (av rfl rfl (tn (nn ?_))))
   apply Xs (m := 14) (ns := [[(7, none)], [(2, none)], [(8, none)], [(17, some 1), (18, some 2)], [(19, some 3)], [(20, some 4)], [(21, some 5)], [(2, none)], [(8, none)], [(23, some 7), (24, some 8)], [(25, some 9)], [(26, some 10)], [(27, some 11)], [(22, some 6), (28, some 12)]]) (by kernel_rfl) (by kernel_rfl) (Ts := [_, _, _, _, _, _, _, _, _, _, _, _, _, _]) rfl
   case hops =>
    exact ⟨rmv rfl, rmv rfl, rmv rfl, rP (Qj oz oz Tryz.underlying31 yb3 (by omega) (by omega)), rP (Qr oz Qt7 yfr), rP (pL oz y53), rP (pls oz Tryz.underlying26), rmv rfl, rmv rfl, rP (Qj oz oz Tryz.underlying31 yb3 (by omega) (by omega)), rP (Qr oz Qt8 y2i), rP (pL oz y53), rP (pls oz Tryz.underlying26), rP (pad oz oz (by omega)), trivial⟩
   case h =>
    refine oP (Quk oz oz) rfl (av rfl rfl (tn (bn (nn (rg (oP (pad oz ot (by omega)) rfl (mv rfl rfl (tn (nn ?_)))))))))
    exact tg (k + 1) (by omega) (by omega) ef (op (by repeat first | exact pn | refine pc 0 rfl ?_))
 refine Qx (tx (tx (bh (nn (sq ?_)))))
 obtain rfl : k = sc.length := by simp only [decide_eq_false_iff_not] at c14; omega
 refine rg (oP (plv oz (mA 0 rfl) y4q) rfl (mv rfl rfl (oA (aC (Qua _ _) yxa (oc oz (oc oz oN)) pR) pR rfl rfl (fun _ _ => ?_))))
 refine mv rfl rfl (oG rfl rfl rfl (gm oz) (fun hg => by (have hg1 := hg.2; (try simp only [cq2] at hg1); exact Qm oz)) rfl ?_)
 refine oG rfl rfl rfl (gm oz) (fun hg => by (have hg1 := hg.2; (try simp only [cq2] at hg1); exact pls (gu oz hg) Tryz.underlying26)) rfl ?_
 refine oG rfl rfl rfl (gm oz) (fun hg => by (have hg1 := hg.2; (try simp only [cq2] at hg1); exact V8 (gu oz hg) ot)) rfl ?_
 refine oP (Q2 oz oz) rfl (mv rfl rfl (oG rfl rfl rfl (gm oz) (fun hg => by (have hg1 := hg.2; (try simp only [cq2] at hg1); exact Qm oz)) rfl ?_))
 refine oG rfl rfl rfl (gm oz) (fun hg => by (have hg1 := hg.2; (try simp only [cq2] at hg1); exact pls (gu oz hg) Tryz.underlying31)) rfl ?_
 refine oG rfl rfl rfl (gm oz) (fun hg => by (have hg1 := hg.2; (try simp only [cq2] at hg1); exact V8 (gu oz hg) ot)) rfl ?_
 refine oP (Q2 oz oz) rfl (mv rfl rfl (oG rfl rfl rfl (gm oz) (fun hg => by (have hg1 := hg.2; (try simp only [cq2] at hg1); exact Qm oz)) rfl ?_))
 refine oG rfl rfl rfl (gm oz) (fun hg => by (have hg1 := hg.2; (try simp only [cq2] at hg1); exact V8 (gu oz hg) ot)) rfl ?_
 refine oP (Q2 oz oz) rfl (mv rfl rfl (oG rfl rfl rfl (gm oz) (fun hg => by (have hg1 := hg.2; (try simp only [cq2] at hg1); exact pf oz yd0)) rfl ?_))
 refine oG rfl rfl rfl (gm oz) (fun hg => by (have hg1 := hg.2; (try simp only [cq2] at hg1); exact plb (gu oz hg) (mA 0 rfl) lv0 ylw)) rfl ?_
 refine oG rfl rfl rfl (gm oz) (fun hg => by (have hg1 := hg.2; (try simp only [cq2] at hg1); exact Wt Tryz.underlying9 (gu oz hg))) rfl ?_
 refine oG rfl rfl rfl (gm oz) (fun hg => by (have hg1 := hg.2; (try simp only [cq2] at hg1); exact pf oz yys)) rfl ?_
 refine oG rfl rfl rfl (gm oz) (fun hg => by (have hg1 := hg.2; (try simp only [cq2] at hg1); exact plb (gu oz hg) (mA 0 rfl) lv4 ylw)) rfl ?_
 refine oG rfl rfl rfl (gm oz) (fun hg => by (have hg1 := hg.2; (try simp only [cq2] at hg1); exact Wt Tryz.underlying9 (gu oz hg))) rfl ?_
 refine oG rfl rfl rfl (gm oz) (fun hg => by (have hg1 := hg.2; (try simp only [cq2] at hg1); exact pad (gu oz hg) (gu oz hg) (by omega))) rfl ?_
 refine oG rfl rfl rfl (gm oz) (fun hg => by (have hg1 := hg.2; (try simp only [cq2] at hg1); exact V8 (gu oz hg) ot)) rfl ?_
 refine oP (Q2 oz oz) rfl (av rfl rfl (tn (nn (tR ?_))))
 exact Qi .ret (.inl rfl) rfl () (OT.val oz (congrArg Value.bool ((Q5k hl hs)))) trivial (by exact pn)
end Go.Proofs.YtklhdalppmjnaaaGreatDoor
