/- The texts Vw4, Vw5, Vw7, Vw8, JnP, NtV, NtW of this claim, put together in their order. No condition of their own. -/
import Derived.Test.YtklhdalppmjnaaaGreatDoorQ11
import Derived.Test.YtklhdalppmjnaaaGreatDoorQ4
import Derived.Test.YtklhdalppmjnaaaGreatDoorQ7
import Derived.Test.YtklhdalppmjnaaaGreatDoorQ8
import Derived.Test.YtklhdalppmjnaaaGreatDoorQ1
import Derived.Test.YtklhdalppmjnaaaGreatDoorProg
import Derived.Test.YtklhdalppmjnaaaGreatDoorRows
import Derived.Lay
import Derived.MakeChecks
import Derived.RowKitTokens
set_option linter.unusedVariables false
set_option linter.unusedSimpArgs false
set_option linter.unusedSectionVars false
set_option maxHeartbeats 1000000
set_option maxRecDepth 20000
namespace Go.Proofs.YtklhdalppmjnaaaGreatDoor
open Go Go.Gw Go.So Go.Tu Go.Jn
open Go.Dr hiding Pr

/-- (*rhizome/view.Standing).Read -/
theorem Qey (o : SO) (v : Vw) (s : KS) (al : List (Ed × Bool)) (A : List Ed) (h : KOk o.k v s A) (hl : A.length ≤ 60) : Ct Tryz.prog 13 [IsV (pt o.g 0)] (StI o s al) Unit (fun _ => SlT kT (Jl v A)) (fun _ => StI o s al) (fun _ => True) := by
 refine Qm Tryz.func13 rfl rfl ?_
 intro H w
 exact Q5 (List.Perm.refl (Qb o.g 74 kSt (stV o) :: Qf o.ga Kc Xc.T al :: KI o.k s)) (sq (rg (ak rfl (tn (nn (sq (rg (mv rfl rfl (oP (Qc oz) rfl (oP (pf oz y7w) rfl (oP (Qj oz (mA 0 rfl) lt1 y72) rfl (Kr [_, _] rfl (Qcq (Q4t o.k v s A h hl) oz oN (Zs (X := [_, _]))) rfl rfl fun _ _ => (av rfl rfl (tn (nn (tR (Qh .ret (.inl rfl) rfl () oz trivial pl)))))))))))))))))
/-- (*rhizome/view.Standing).Do -/
theorem Qpm (o : SO) (v : Vw) (s : KS) (al : List (Ed × Bool)) (A gone come : List Ed) (hok : VOk o v s al A) (hgi : ∀ e ∈ gone, J4 e.1 ∧ J4 e.2.2) (hci : ∀ e ∈ come, J4 e.1 ∧ J4 e.2.2) (hA : A.length ≤ 45) (hg : gone.length ≤ 45) (hc : come.length ≤ 45) (hEl : A.length + come.length ≤ 45 + gone.length) : Ct Tryz.prog 11 [IsV (pt o.g 0), SlT kE gone, SlT kE come] (StI o s al) (KS × List (Ed × Bool) × Dl × Int) (fun r => J7 [kD.T r.2.2.1, I64 r.2.2.2]) (fun r => StI o r.1 r.2.1) (fun r => Qqv o v al A gone come r) := by
 refine Qm Tryz.func11 rfl rfl ?_
 intro H w
 refine sq (rg (oA (Q1 (z44)) pR rfl rfl (fun g0_0 _ => ?_)))
 refine ak rfl (tn (nn (sq (sq (rg (mv rfl rfl (mv rfl rfl (mv rfl rfl (Kr [_] rfl (aC (Qye o s al gone come (by omega) (by omega)) y4n (oc oz (oc oz (oc oz oN))) (Zs (X := [_]))) rfl rfl fun _ _ => (av rfl rfl (tn (nn (sq (rg (mv rfl rfl (oP (Ja oz ot) rfl (tn (nn (tc oz (fun c23 => ?_) (fun c23 => ?_))))))))))))))))))))
 · have hl0 : ¬ Yp al gone come = 0 := of_decide_eq_true c23
   refine sq (rg (oP (Zc (d := kD) (v0 := ([], [])) (ps := [(0, 1), (1, 1)]) z44 (by kernel_rfl) rfl Qd) rfl (mv rfl rfl (oA (asv oz oz (pA 0 rfl) yh2) (pA 0 rfl) rfl rfl (fun _ _ => ?_)))))
   refine av rfl rfl (tn (nn (tR (tt ?_))))
   exact Zk .ret (.inl rfl) rfl (s, al, ([], []), Yp al gone come) oz (mA 0 rfl) yh2 oz (fun _ _ h => h) (.inl ⟨hl0, hok, rfl, (if_neg hl0).symm, fun h => absurd h hl0⟩) (pd pl)
 have hl0 : Yp al gone come = 0 := Classical.byContradiction fun h => by rw [decide_eq_true (p := Yp al gone come ≠ 0) h] at c23; cases c23
 have hgn := (Ur hok.a hl0).2.1
 have hcn := (Ur hok.a hl0).2.2.1
 have hgl := Qnd hok hl0
 have hf0 := Qeu hok.k (by omega)
 refine Q5 (List.Perm.refl (Qb g0_0 38 kD ([], []) :: Qb o.g 74 kSt (stV o) :: Qf o.ga Kc Xc.T al :: KI o.k s)) (sk (nn (sq (rg (mv rfl rfl (oP (Qc oz) rfl (oP (pf oz y7w) rfl (oP (Qj oz (mA 1 rfl) lt1 y72) rfl (mv rfl rfl (Kr [_, _, _] rfl (Qcq (kdo o.k v s A gone false hok.k hgi (by omega) (by omega) (fun q => by cases q) (Qsv hok hl0) hgn) oz (oc oz (oc ot oN)) (Zs (X := [_, _, _]))) rfl rfl fun q hq => ?_))))))))))
 refine mv rfl rfl (oP (Ql oz rfl) rfl (oP (Ql oz rfl) rfl (oA (Q1 (z44)) pR rfl rfl (fun g4_9 _ => ?_))))
 refine oA (asv oz oz (pA 0 rfl) yh2) (pA 0 rfl) rfl rfl (fun _ _ => ?_)
 refine av rfl rfl (tn (nn (sq (sq ?_))))
 obtain ⟨hq0, hqk, hqd⟩ := hq.resolve_right fun h => by cases h.2.2.1
 rw [hq0, hqd]
 have hf1 := Qeu hqk (by omega)
 refine rg (mv rfl rfl (oP (Ja oz ot) rfl (tn (nn (tc oz (fun c36 => ?_) (fun c36 => ?_))))))
 · exfalso
   exact absurd (of_decide_eq_true c36) (fun h => h rfl) --done
 refine Q5 (List.Perm.refl (Qb g4_9 38 kD (dif v A (goE A gone false)) :: Qb g0_0 38 kD ([], []) :: Qb o.g 74 kSt (stV o) :: Qf o.ga Kc Xc.T al :: KI o.k q.1)) (sk (nn (sq (rg (mv rfl rfl (oP (Qc oz) rfl (oP (pf oz y7w) rfl (oP (Qj oz (mA 2 rfl) lt1 y72) rfl (mv rfl rfl (Kr [_, _, _, _] rfl (Qcq (kdo o.k v q.1 (goE A gone false) come true hqk hci (by omega) (by omega) (fun _ => by omega) (Qsw hok hl0) hcn) oz (oc oz (oc ot oN)) (Zs (X := [_, _, _, _]))) rfl rfl fun p hp => (mv rfl rfl (oP (Ql oz rfl) rfl (oP (Ql oz rfl) rfl (oA (Q1 (z44)) pR rfl rfl (fun g7_9 _ => ?_)))))))))))))))
 refine oA (asv oz oz (pA 0 rfl) yh2) (pA 0 rfl) rfl rfl (fun _ _ => ?_)
 refine av rfl rfl (tn (nn (sq (sq (rg (mv rfl rfl (oP (Ja oz ot) rfl (tn (nn (tc oz (fun c49 => ?_) (fun c49 => ?_)))))))))))
 · obtain ⟨hp0, hpn, _, hpm, hpk, hpd⟩ := hp.resolve_left fun h => of_decide_eq_true c49 h.1
   obtain ⟨hb1, hb2⟩ := Qsx hok hl0
   refine sq (rg (mv rfl rfl (oP (Qc oz) rfl (oP (pf oz y7w) rfl (oP (Qj oz (mA 3 rfl) lt1 y72) rfl (mv rfl rfl (Kr [_, _, _, _, _] rfl (Qcq (kdo o.k v p.1 (goE A gone false) gone true hpk hgi (by omega) (by omega) (fun _ => by omega) hb1 hgn) oz (oc oz (oc ot oN)) (Zs (X := [_, _, _, _, _]))) rfl rfl fun u hu => (tn (nn (sq ?_))))))))))
   have huk : KOk o.k v u.1 A := by
    rcases hu with h | h
    · exact Qjq h.2.1 hb2 hok.nd
    have h9 := Qnc hok.k hpn
    rw [← Qa0 hb2] at h9
    exact absurd h.2.2.2.1 (by show ¬ Yc v (goE (goE A gone false) gone true) = true; rw [h9]; decide)
   have hsay5 : Qqv o v al A gone come (u.1, al, ([], []), 5) := .inl ⟨(show ¬ (5 : Int) = 0 by decide), ⟨hok.ov, hok.nd, huk, hok.a⟩, rfl, (if_pos hl0).symm, fun _ => ⟨hpn, hpm⟩⟩
   rw [hp0]
   refine rg (oP (Zc (d := kD) (v0 := ([], [])) (ps := [(0, 1), (1, 1)]) z44 (by kernel_rfl) rfl Qd) rfl (mv rfl rfl (oA (asv oz oz (pA 2 rfl) yh2) (pA 2 rfl) rfl rfl (fun _ _ => ?_))))
   refine av rfl rfl (tn (nn (tR (tt ?_))))
   exact Zk .ret (.inl rfl) rfl (u.1, al, ([], []), 5) oz (mA 0 rfl) yh2 oz (fun _ _ h => h) hsay5 (pd (pd (pd pl)))
 have hp0 : p.2.2 = 0 := Classical.byContradiction fun h => by rw [decide_eq_true (p := p.2.2 ≠ 0) h] at c49; cases c49
 obtain ⟨_, hpk, hpd⟩ := hp.resolve_right fun h => by rw [hp0] at h; cases h.1
 have hpk : KOk o.k v p.1 (J8 A gone come) := hpk
 have hA2 : (J8 A gone come).length ≤ 60 := by have h9 : (J8 A gone come).length = (goE A gone false).length + come.length := List.length_append; omega
 have hf2 := Qeu hpk hA2
 have hpd : p.2.1 = (dif v (goE A gone false) (J8 A gone come)) := hpd
 rw [hpd]
 refine Q5 (List.Perm.refl (Qb g7_9 38 kD (dif v (goE A gone false) (J8 A gone come)) :: Qb g4_9 38 kD (dif v A (goE A gone false)) :: Qb g0_0 38 kD ([], []) :: Qb o.g 74 kSt (stV o) :: Qf o.ga Kc Xc.T al :: KI o.k p.1)) (sk (nn (sq (sq (rg (mv rfl rfl (oP (pls oz Tryz.underlying26) rfl (oP (Qp ot) rfl (tn (nn (tb (Qr (σ := Nat × List (Ed × Bool)) (e4 0 2 6 9 rfl (e2 11 58 rfl (ec 59 rfl en))) (fun y => [(60, I64 (y.1 : Int))]) (fun y => Qb g7_9 38 kD (dif v (goE A gone false) (J8 A gone come)) :: Qb g4_9 38 kD (dif v A (goE A gone false)) :: Qb g0_0 38 kD ([], []) :: Qb o.g 74 kSt (stV o) :: Qf o.ga Kc Xc.T y.2 :: KI o.k p.1) (fun y => y.1 ≤ gone.length ∧ ∀ x, J2 y.2 x = (J2 al x && !decide (x ∈ gone.take y.1))) (fun y => gone.length - y.1) (0, al) ⟨Nat.zero_le _, fun x => by simp⟩ ?_ (op pl) ?_))))))))))))
 · exact (ec 60 rfl en)
 rintro ⟨k, al2⟩ ⟨hk, hal⟩
 dsimp only at hk hal ⊢
 refine sq (rg (oP (Q6 oz oz) rfl (tn (nn (sq (tc oz (fun c61 => ?_) (fun c61 => ?_)))))))
 · refine sk (nn (sq (tb (sq ?_))))
   have hkl : k < gone.length := by simp only [decide_eq_true_eq] at c61; omega
   obtain ⟨e, he⟩ : ∃ e, at' gone (k : Int) = e := ⟨_, rfl⟩
   refine rg (oP (Qk oz oz Tryz.underlying26 y16 (by omega) (by omega)) rfl (oP (pL oz y16) rfl (oA (Q1 (zE)) pR rfl rfl (fun g13_2 _ => ?_))))
   refine oA (asv oz oz (pA 0 rfl) y16) (pA 0 rfl) rfl rfl (fun _ _ => ?_)
   refine tn ?_
   rw [he]
   refine nn (Vq (Zv 5 rfl) Qug fun hnd => ?_)
   have hst := Qxa hkl he hnd hal
   apply Xs (m := 5) (ns := [[(0, none)], [(64, some 0)], [(65, some 1)], [(66, some 2)], [(13, none)]]) (by kernel_rfl) (by kernel_rfl) (Ts := [_, _, _, _, _]) rfl
   case hops =>
    exact ⟨rmv rfl, rP (Qc oz), rP (pf oz yn6), rP (Qj oz (mA 4 rfl) lt2 y4l), rP (plv oz (mA 0 rfl) y16), trivial⟩
   case h =>
    refine oA (Vd mkE Tryz.underlying70 rfl oz (pA 5 rfl) oz) (pA 5 rfl) rfl rfl (fun _ _ => ?_)
    refine tn (bn (nn (rg (oP (pad oz ot (by omega)) rfl (mv rfl rfl (tn (nn ?_)))))))
    exact tg (k + 1, dlk e al2) ⟨hkl, hst⟩ (by show gone.length - (k + 1) < gone.length - k; omega) ef (op (pc 2 rfl (pc 2 rfl (pc 2 rfl (pc 2 rfl (pc 0 rfl (pd pl)))))))
 refine Qy (tx (tx (bh (nn (sq (sq ?_))))))
 obtain rfl : k = gone.length := by simp only [decide_eq_false_iff_not] at c61; omega
 rw [List.take_length] at hal
 refine rg (mv rfl rfl (oP (pls oz Tryz.underlying26) rfl (oP (Qp ot) rfl (tn (nn (tb (Qr (σ := Nat × List (Ed × Bool)) (e4 0 6 9 11 rfl (e2 70 71 rfl en)) (fun y => [(72, I64 (y.1 : Int))]) (fun y => Qb g7_9 38 kD (dif v (goE A gone false) (J8 A gone come)) :: Qb g4_9 38 kD (dif v A (goE A gone false)) :: Qb g0_0 38 kD ([], []) :: Qb o.g 74 kSt (stV o) :: Qf o.ga Kc Xc.T y.2 :: KI o.k p.1) (fun y => y.1 ≤ come.length ∧ ∀ x, J2 y.2 x = ((J2 al x && !decide (x ∈ gone)) || decide (x ∈ come.take y.1))) (fun y => come.length - y.1) (0, al2) ⟨Nat.zero_le _, fun x => by rw [hal]; simp⟩ ?_ (op pl) ?_)))))))
 · exact (ec 72 rfl en)
 rintro ⟨k, al3⟩ ⟨hk, hcm⟩
 dsimp only at hk hcm ⊢
 refine sq (rg (oP (Q6 oz oz) rfl (tn (nn (sq (tc oz (fun c73 => ?_) (fun c73 => ?_)))))))
 · refine sk (nn (sq (tb (sq ?_))))
   have hkl : k < come.length := by simp only [decide_eq_true_eq] at c73; omega
   obtain ⟨e, he⟩ : ∃ e, at' come (k : Int) = e := ⟨_, rfl⟩
   have hst := Qs0 hkl he hcm
   refine rg (oP (Qk oz oz Tryz.underlying26 y16 (by omega) (by omega)) rfl (oP (pL oz y16) rfl (oA (Q1 (zE)) pR rfl rfl (fun g18_2 _ => ?_))))
   refine oA (asv oz oz (pA 0 rfl) y16) (pA 0 rfl) rfl rfl (fun _ _ => ?_)
   refine tn ?_
   rw [he]
   refine nn ?_
   apply Xs (m := 5) (ns := [[(0, none)], [(76, some 0)], [(77, some 1)], [(78, some 2)], [(15, none)]]) (by kernel_rfl) (by kernel_rfl) (Ts := [_, _, _, _, _]) rfl
   case hops =>
    exact ⟨rmv rfl, rP (Qc oz), rP (pf oz yn6), rP (Qj oz (mA 4 rfl) lt2 y4l), rP (plv oz (mA 0 rfl) y16), trivial⟩
   case h =>
    refine oA (X4 (V := Xc.T) (v := true) mkE Tryz.underlying70 oz (pA 5 rfl) oz ot) (pA 5 rfl) rfl rfl (fun _ _ => ?_)
    refine tn (bn (nn (rg (oP (pad oz ot (by omega)) rfl (mv rfl rfl (tn (nn ?_)))))))
    exact tg (k + 1, ptk e true al3) ⟨hkl, hst⟩ (by show come.length - (k + 1) < come.length - k; omega) ef (op (pc 2 rfl (pc 2 rfl (pc 2 rfl (pc 2 rfl (pc 0 rfl (pd pl)))))))
 refine Qy (tx (tx (bh (nn (sq ?_)))))
 obtain rfl : k = come.length := by simp only [decide_eq_false_iff_not] at c73; omega
 rw [List.take_length] at hcm
 have haft := Qsz hok hl0 hpk hcm
 refine rg (oP (plv oz (mA 1 rfl) yh2) rfl (oP (plv oz (mA 0 rfl) yh2) rfl (oA (aC (Q03 (dif v A (goE A gone false)) (dif v (goE A gone false) (J8 A gone come)) (hf1.without _) (hf0.without _) (hf2.without _) (hf1.without _)) y1s (oc oz (oc oz oN)) pR) pR rfl rfl (fun _ _ => ?_))))
 refine mv rfl rfl (oP (Ql oz rfl) rfl (oP (Ql oz rfl) rfl (oA (Q1 (z44)) pR rfl rfl (fun g21_6 _ => ?_))))
 refine oA (asv oz oz (pA 0 rfl) yh2) (pA 0 rfl) rfl rfl (fun _ _ => ?_)
 refine av rfl rfl (tn (nn (sq (rg (oP (plv oz (mA 0 rfl) yh2) rfl (oA (asv oz oz (pA 3 rfl) yh2) (pA 3 rfl) rfl rfl (fun _ _ => ?_)))))))
 refine ak rfl (tn (nn (tR ?_)))
 exact Zk .ret (.inl rfl) rfl (p.1, al3, (Qa9 (dif v A (goE A gone false)) (dif v (goE A gone false) (J8 A gone come))).1, 0) oz (mA 0 rfl) yh2 oz (fun _ _ h => h) (.inr ⟨rfl, hl0, haft, Qw9⟩) (pd (pd (pd (pd pl))))
abbrev vR : Vw := ([114], 2, [], [], [97])
abbrev eR1 : List Ed := [(1, [97], 2)]
abbrev eR2 : List Ed := [(1, [97], 3)]
theorem Qj1 {E : List Pr} {p : Pr} (h : ∀ x, x ∈ E ↔ x = p) (hne : p.1 ≠ p.2) (a b : Int) : TC E a b ↔ (a, b) = p := by
 constructor
 · intro ht
   cases ht with
   | one q => exact (h _).1 q
   | cons q t =>
    have h1 := (h _).1 q
    obtain ⟨⟨c, hc⟩, _⟩ := t.ends
    have h2 := (h _).1 hc
    exact absurd ((congrArg Prod.fst h2).symm.trans (congrArg Prod.snd h1)) hne
 intro q; exact .one ((h _).2 q)
theorem Qnv {P : List Pr} {p : Pr} (h : ∀ x, x ∈ P ↔ x = p) (hne : p.1 ≠ p.2) : Wl P [tpl p] := ⟨List.pairwise_singleton _ _, fun t => by
 rw [List.mem_singleton]
 constructor
 · rintro rfl; exact ⟨p.1, p.2, rfl, (Qj1 h hne _ _).2 rfl⟩
 rintro ⟨a, b, rfl, q⟩
 have := (Qj1 h hne _ _).1 q
 rw [← this]⟩
theorem Q41 : Jl vR eR1 = [[1, 2]] := by
 unfold Jl
 rw [if_pos rfl]
 exact Ui (Qnv (p := (1, 2)) (fun x => by rw [J1]; simp [Prod.ext_iff]) (by decide))
theorem Q2a : Jl vR (J8 eR1 eR1 eR2) = [[1, 3]] := by
 unfold Jl
 rw [if_pos rfl]
 exact Ui (Qnv (p := (1, 3)) (fun x => by rw [J1, Qcr]; simp [Prod.ext_iff]; intro a b c; exact absurd c (by simp [a, b])) (by decide))
theorem Q3z {r : Qnr} (h : Qns vR eR1 r) : ∃ o s al, r = (some (o, s, al), 0) ∧ VOk o vR s al eR1 := by
 have h0 : Qjo vR eR1 = 0 := by decide
 obtain ⟨h1, ⟨_, h2⟩ | ⟨o, s, al, h2, h3, h4⟩⟩ := h
 · exact absurd (h1.trans h0) h2
 exact ⟨o, s, al, Prod.ext h2 h3, h4⟩
theorem Q1q {o : SO} {s : KS} {al : List (Ed × Bool)} {r : KS × List (Ed × Bool) × Dl × Int} (h : VOk o vR s al eR1) (hr : Qqv o vR al eR1 eR1 eR2 r) : r.2.2.2 = 0 ∧ r.2.2.1 = ([[1, 3]], [[1, 2]]) ∧ VOk o vR r.1 r.2.1 (J8 eR1 eR1 eR2) := by
 have hl : Yp al eR1 eR2 = 0 := Qqw h.a (fun _ q => q) (by decide) (by decide) (by decide)
 rcases hr with ⟨_, _, _, _, h5⟩ | ⟨h1, _, h3, h4⟩
 · exact absurd rfl (h5 hl).1
 · refine ⟨h1, ?_, h3⟩
   rw [h4]
   unfold dif
   rw [Q41, Q2a]
   decide

/-- rhizome/rhizomelaw18.awake -/
theorem Qip  : Ct Tryz.prog 8 [] ([]) Unit (fun _ => Xd true) (fun _ => []) (fun _ => True) := by
 refine Qm Tryz.func8 rfl rfl ?_
 intro H w
 refine sq (rg (ak rfl (tn (nn (sq (rg (oP (Zc (d := kV) (v0 := ([], 0, [], [], [])) (ps := [(0, 1), (1, 1), (2, 1), (3, 1), (4, 1)]) zV (by kernel_rfl) rfl (Qi rfl lv0 ot (Qi rfl lv1 ot (Qi rfl lv4 ot Qd)))) rfl (oP (Zc (d := kE) (v0 := (0, [], 0)) (ps := [(0, 1), (1, 1), (2, 1)]) zE (by kernel_rfl) rfl (Qi rfl le0 ot (Qi rfl le1 ot (Qi rfl le2 ot Qd)))) rfl (oA (Q9 (d := kE) (v0 := (0, [], 0)) yru y16 zE (show 1 * 3 ≤ 16777216 from by decide) (by decide) (Qx rfl rfl (by decide) oz Qd)) pR rfl rfl (fun _ _ => ?_))))))))))
 refine Z6 5 (T := kV.T vR) oz (Z6 7 (T := SlT kE eR1) oz (oA (aC (Qq2 vR eR1 (by decide) (by decide) (by decide) (by decide)) y4i (oc oz (oc oz oN)) pR) pR rfl rfl fun q hq => (mv rfl rfl (oP (Ql oz rfl) rfl (oP (Ql oz rfl) rfl (av rfl rfl (av rfl rfl (tn (nn (sq (sq ?_)))))))))))
 obtain ⟨o, s, al, rfl, hok⟩ := Q3z hq
 refine Q5 (show (StI o s al ++ []).Perm (StI o s al) from by rw [List.append_nil]) ?_
 refine rg (mv rfl rfl (oP (Ja oz ot) rfl (mv rfl rfl (oG rfl rfl rfl (gm oz) (fun hg => by (have hg1 := hg.2; (try simp only [cq2] at hg1); exact Qp oz)) rfl ?_))))
 refine oG rfl rfl rfl (gm oz) (fun hg => by (have hg1 := hg.2; (try simp only [cq2] at hg1); exact K1 Qe9 (gu oz hg) Tryz.underlying32)) rfl ?_
 refine oP (Yq oz oz) rfl (tn (nn (tc oz (fun c16 => ?_) (fun c16 => ?_))))
 · exfalso
   simp at c16 --done
 refine sk (nn (sq (rg (mv rfl rfl (oP (Zc (d := kE) (v0 := (0, [], 0)) (ps := [(0, 1), (1, 1), (2, 1)]) zE (by kernel_rfl) rfl (Qi rfl le0 ot (Qi rfl le1 ot (Qi rfl le2 ot Qd)))) rfl (oA (Q9 (d := kE) (v0 := (0, [], 0)) yru y16 zE (show 1 * 3 ≤ 16777216 from by decide) (by decide) (Qx rfl rfl (by decide) oz Qd)) pR rfl rfl (fun _ _ => ?_)))))))
 refine oP (Zc (d := kE) (v0 := (0, [], 0)) (ps := [(0, 1), (1, 1), (2, 1)]) zE (by kernel_rfl) rfl (Qi rfl le0 ot (Qi rfl le1 ot (Qi rfl le2 ot Qd)))) rfl (oA (Q9 (d := kE) (v0 := (0, [], 0)) yru y16 zE (show 1 * 3 ≤ 16777216 from by decide) (by decide) (Qx rfl rfl (by decide) oz Qd)) pR rfl rfl (fun _ _ => ?_))
 refine Z6 20 (T := SlT kE eR1) oz (Z6 22 (T := SlT kE eR2) oz (Kr [] rfl (aC (Qpm o vR s al eR1 eR1 eR2 hok (by decide) (by decide) (by decide) (by decide) (by decide) (by decide)) yr8 (oc oz (oc oz (oc oz oN))) (Zs (X := []))) rfl rfl fun r hr => (mv rfl rfl (oP (Ql oz rfl) rfl (oP (Ql oz rfl) rfl (oA (Q1 (z44)) pR rfl rfl (fun g4_9 _ => ?_)))))))
 refine oA (asv oz oz (pA 0 rfl) yh2) (pA 0 rfl) rfl rfl (fun _ _ => ?_)
 refine av rfl rfl (tn (nn (sq ?_)))
 obtain ⟨hr0, hrd, hrk⟩ := Q1q hok hr
 rw [hr0, hrd]
 refine rg (mv rfl rfl (oP (Zu oz ot) rfl (mv rfl rfl (oG rfl rfl rfl (gm oz) (fun hg => by (have hg1 := hg.2; (try simp only [cq2] at hg1); exact pf oz ygo)) rfl ?_))))
 refine oG rfl rfl rfl (gm oz) (fun hg => by (have hg1 := hg.2; (try simp only [cq2] at hg1); exact plb (gu oz hg) (mA 0 rfl) (Qe.fst (a := kL) (b := kL)) y1z)) rfl ?_
 refine oG rfl rfl rfl (gm oz) (fun hg => by (have hg1 := hg.2; (try simp only [cq2] at hg1); exact pls (gu oz hg) Tryz.underlying36)) rfl ?_
 refine oG rfl rfl rfl (gm oz) (fun hg => by (have hg1 := hg.2; (try simp only [cq2] at hg1); exact Zu (gu oz hg) ot)) rfl ?_
 refine oP (Q3 oz oz) rfl (mv rfl rfl (oG rfl rfl rfl (gm oz) (fun hg => by (have hg1 := hg.2; (try simp only [cq2] at hg1); exact pf oz yan)) rfl ?_))
 refine oG rfl rfl rfl (gm oz) (fun hg => by (have hg1 := hg.2; (try simp only [cq2] at hg1); exact plb (gu oz hg) (mA 0 rfl) (Qe.snd (a := kL) (b := kL)) y1z)) rfl ?_
 refine oG rfl rfl rfl (gm oz) (fun hg => by (have hg1 := hg.2; (try simp only [cq2] at hg1); exact pls (gu oz hg) Tryz.underlying36)) rfl ?_
 refine oG rfl rfl rfl (gm oz) (fun hg => by (have hg1 := hg.2; (try simp only [cq2] at hg1); exact Zu (gu oz hg) ot)) rfl ?_
 refine oP (Q3 oz oz) rfl (mv rfl rfl (oG rfl rfl rfl (gm oz) (fun hg => by (have hg1 := hg.2; (try simp only [cq2] at hg1); exact pf oz ygo)) rfl ?_))
 refine oG rfl rfl rfl (gm oz) (fun hg => by (have hg1 := hg.2; (try simp only [cq2] at hg1); exact plb (gu oz hg) (mA 0 rfl) (Qe.fst (a := kL) (b := kL)) y1z)) rfl ?_
 refine oG rfl rfl rfl (gm oz) (fun hg => by (have hg1 := hg.2; (try simp only [cq2] at hg1); exact Qk (gu oz hg) ot Tryz.underlying36 yko (by omega) (by (simp; done)))) rfl ?_
 refine oG rfl rfl rfl (gm oz) (fun hg => by (have hg1 := hg.2; (try simp only [cq2] at hg1); exact pL (gu oz hg) yko)) rfl ?_
 refine oG rfl rfl rfl (gm oz) (fun hg => by (have hg1 := hg.2; (try simp only [cq2] at hg1); exact Qk (gu oz hg) ot Tryz.underlying51 ynm (by omega) (by decide))) rfl ?_
 refine oG rfl rfl rfl (gm oz) (fun hg => by (have hg1 := hg.2; (try simp only [cq2] at hg1); exact pL (gu oz hg) ynm)) rfl ?_
 refine oG rfl rfl rfl (gm oz) (fun hg => by (have hg1 := hg.2; (try simp only [cq2] at hg1); exact Zu (gu oz hg) ot)) rfl ?_
 refine oP (Q3 oz oz) rfl (mv rfl rfl (oG rfl rfl rfl (gm oz) (fun hg => by (have hg1 := hg.2; (try simp only [cq2] at hg1); exact Qp oz)) rfl ?_))
 refine Qax rfl rfl rfl (gm oz) (Zs (X := [_])) (fun hg => aC (Qey o vR r.1 r.2.1 (J8 eR1 eR1 eR2) hrk.k (by decide)) ybh (oc (gu oz hg) oN) (Zs (X := [_]))) rfl (oG rfl rfl rfl (gm oz) (fun hg => by (have hg1 := hg.2; (try simp only [cq2] at hg1); exact pls (gu oz hg) Tryz.underlying36)) rfl ?_)
 refine oG rfl rfl rfl (gm oz) (fun hg => by (have hg1 := hg.2; (try simp only [cq2] at hg1); exact Zu (gu oz hg) ot)) rfl ?_
 refine oP (Q3 oz oz) rfl (av rfl rfl (tn (nn (tR ?_))))
 exact Qh .ret (.inl rfl) rfl () (OT.val oz (congrArg Value.bool (by rw [Q2a]; decide))) trivial pn
/-- Edges that go, edges that come. -/
abbrev Stp := List Ed × List Ed
abbrev kSp : Kd Stp := Xm (ksl kE) (ksl kE)
theorem Q30 {t : Stp} : Qe kSp (ksl kE) 0 t t.1 (fun y => (y, t.2)) := Qe.fst
theorem Q31 {t : Stp} : Qe kSp (ksl kE) 1 t t.2 (fun y => (t.1, y)) := Qe.snd (a := ksl kE)
theorem zSp : Xv Tryz.prog 28 kSp ([], []) := ⟨.agg #[Qn, Qn], by kernel_rfl, fun H => ⟨[Qn, Qn], ⟨[_], [_], ⟨Qn, rfl, Ue⟩, ⟨Qn, rfl, Ue⟩, rfl⟩, rfl⟩⟩
def Qf6 (es : List Ed) (sc : List Stp) (k : Nat) : Int := (es.length : Int) + ((sc.take k).map fun o => (o.1.length : Int) + (o.2.length : Int)).sum
theorem Qj2 {es : List Ed} {sc : List Stp} {k : Nat} (h : k < sc.length) : Qf6 es sc (k + 1) = Qf6 es sc k + (((at' sc (k : Int)).1.length : Int) + ((at' sc (k : Int)).2.length : Int)) := by
 unfold Qf6
 rw [List.take_succ_eq_append_getElem h, List.map_append, List.sum_append, Qz h]
 simp [Int.add_assoc]
theorem Qyf (es : List Ed) (sc : List Stp) : ∀ k, 0 ≤ Qf6 es sc k := fun k => by
 have : ∀ l : List Stp, 0 ≤ (l.map fun o => (o.1.length : Int) + (o.2.length : Int)).sum := fun l => by
  induction l with
  | nil => simp
  | cons a l ih => simp; omega
 have := this (sc.take k)
 unfold Qf6; omega
def Qpn (v : Vw) (es : List Ed) (sc : List Stp) : Bool := Qp5 v es && decide ((es.length : Int) ≤ 20) && decide ((sc.length : Int) ≤ 10) && decide (Qf6 es sc sc.length ≤ 40) && decide ((v.1.length : Int) + (v.2.2.2.2.length : Int) ≤ 200)
theorem Qyg {v : Vw} {es : List Ed} {sc : List Stp} (h : Qpn v es sc = true) : es.length ≤ 20 ∧ v.2.2.2.1.length ≤ 12 ∧ v.2.2.1.length ≤ 12 ∧ Qf6 es sc sc.length ≤ 40 ∧ sc.length ≤ 10 := by
 unfold Qpn Qp5 at h
 simp only [Bool.and_eq_true, decide_eq_true_eq] at h
 omega
theorem Qyh {v : Vw} {es : List Ed} {x : Stp} (h : Qpn v es [x] = true) : es.length ≤ 20 ∧ v.2.2.2.1.length ≤ 12 ∧ v.2.2.1.length ≤ 12 ∧ es.length + x.1.length + x.2.length ≤ 40 := by
 obtain ⟨h1, h2, h3, h4, _⟩ := Qyg h
 unfold Qf6 at h4
 simp at h4
 omega
def Qtt (es : List Ed) (sc : List Stp) : Nat → Int
 | 0 => (es.length : Int)
 | k + 1 => IntKind.i64.wrap (Qtt es sc k + (((at' sc (k : Int)).1.length : Int) + ((at' sc (k : Int)).2.length : Int)))
section
variable {v : Vw} {es : List Ed} {sc : List Stp} (hl : es.length ≤ 1000000000000000) (hs : ∀ o ∈ sc, o.1.length ≤ 1000000000000000 ∧ o.2.length ≤ 1000000000000000)
include hl hs
theorem Qq5 : ∀ k, k ≤ sc.length → Qf6 es sc k ≤ ((k : Int) + 1) * 2000000000000000
 | 0, _ => by unfold Qf6; simp; omega
 | k + 1, hk => by
  have h1 := Qq5 k (by omega)
  have h2 := hs _ (at_mem (l := sc) (k := k) (by omega))
  rw [Qj2 (show k < sc.length by omega)]
  have h3 : (((k + 1 : Nat) : Int) + 1) * 2000000000000000 = ((k : Int) + 1) * 2000000000000000 + 2000000000000000 := by rw [Int.natCast_add]; omega
  omega
theorem Qq6 (h10 : sc.length ≤ 10) : ∀ k, k ≤ sc.length → Qtt es sc k = Qf6 es sc k
 | 0, _ => by unfold Qtt Qf6; simp
 | k + 1, hk => by
  have h1 := Qq6 h10 k (by omega)
  have h2 := Qq5 hl hs (k + 1) hk
  have h3 := Qyf es sc (k + 1)
  have h4 := Qj2 (es := es) (sc := sc) (k := k) (by omega)
  have h6 : (((k + 1 : Nat) : Int) + 1) * 2000000000000000 ≤ 11 * 2000000000000000 := by omega
  rw [Qtt, h1, ← h4, i64_in (by omega)]
theorem Q42 : (Qp5 v es && decide ((es.length : Int) ≤ 20) && decide ((sc.length : Int) ≤ 10) && decide (Qtt es sc sc.length ≤ 40) && decide ((v.1.length : Int) + (v.2.2.2.2.length : Int) ≤ 200)) = Qpn v es sc := by
 unfold Qpn
 by_cases h : sc.length ≤ 10
 · rw [Qq6 hl hs h _ (Nat.le_refl _)]
 have e : decide ((sc.length : Int) ≤ 10) = false := decide_eq_false (by omega)
 rw [e]; simp
end

/-- rhizome/rhizomelaw11.Fits -/
theorem Qtu (v : Vw) (l : List Ed) : Ct Tryz.prog 27 [kV.T v, SlT kE l] ([]) Unit (fun _ => Xd (Qp5 v l)) (fun _ => []) (fun _ => True) := by
 refine Qm Tryz.func27 rfl rfl ?_
 intro H w
 refine sq (rg (oA (Xe (d := kV) oz) pR rfl rfl (fun g0_0 _ => ?_)))
 refine ak rfl (tn (nn (sq (rg (mv rfl rfl (oP (pls oz Tryz.underlying26) rfl (oP (V4 oz ot) rfl (mv rfl rfl (oG rfl rfl rfl (gm oz) (fun hg => by (have hg1 := hg.2; (try simp only [cq2] at hg1); exact pf oz y46)) rfl ?_)))))))))
 refine oG rfl rfl rfl (gm oz) (fun hg => by (have hg1 := hg.2; (try simp only [cq2] at hg1); exact plb (gu oz hg) (mA 0 rfl) lv3 y2r)) rfl ?_
 refine oG rfl rfl rfl (gm oz) (fun hg => by (have hg1 := hg.2; (try simp only [cq2] at hg1); exact pls (gu oz hg) Tryz.underlying23)) rfl ?_
 refine oG rfl rfl rfl (gm oz) (fun hg => by (have hg1 := hg.2; (try simp only [cq2] at hg1); exact V4 (gu oz hg) ot)) rfl ?_
 refine oP (Q3 oz oz) rfl (mv rfl rfl (oG rfl rfl rfl (gm oz) (fun hg => by (have hg1 := hg.2; (try simp only [cq2] at hg1); exact pf oz yss)) rfl ?_))
 refine oG rfl rfl rfl (gm oz) (fun hg => by (have hg1 := hg.2; (try simp only [cq2] at hg1); exact plb (gu oz hg) (mA 0 rfl) lv2 ye4)) rfl ?_
 refine oG rfl rfl rfl (gm oz) (fun hg => by (have hg1 := hg.2; (try simp only [cq2] at hg1); exact pls (gu oz hg) Tryz.underlying22)) rfl ?_
 refine oG rfl rfl rfl (gm oz) (fun hg => by (have hg1 := hg.2; (try simp only [cq2] at hg1); exact V4 (gu oz hg) ot)) rfl ?_
 refine oP (Q3 oz oz) rfl (av rfl rfl (tn (nn (tR ?_))))
 exact Qh .ret (.inl rfl) rfl () (OT.val oz (congrArg Value.bool (rfl))) trivial (by exact pn)
/-- rhizome/rhizomelaw18.few -/
theorem Qyi (v : Vw) (es : List Ed) (sc : List Stp) (hl : es.length ≤ 1000000000000000) (hs : ∀ o ∈ sc, o.1.length ≤ 1000000000000000 ∧ o.2.length ≤ 1000000000000000) (hsm : sc.length ≤ 1000000000000000) (hv1 : v.1.length ≤ 1000000000000000) (hv2 : v.2.2.2.2.length ≤ 1000000000000000) : Ct Tryz.prog 9 [kV.T v, SlT kE es, SlT kSp sc] ([]) Unit (fun _ => Xd (Qpn v es sc)) (fun _ => []) (fun _ => True) := by
 refine Qm Tryz.func9 rfl rfl ?_
 intro H w
 refine sq (rg (oA (Xe (d := kV) oz) pR rfl rfl (fun g0_0 _ => ?_)))
 refine ak rfl (tn (nn (sq (rg (mv rfl rfl (oP (pls oz Tryz.underlying26) rfl (av rfl rfl (tn (nn (sq (sq (rg (mv rfl rfl (oP (pls oz Tryz.underlying31) rfl (oP (Qp ot) rfl (tn (nn (tb (Qr (σ := Nat) (e4 1 2 3 12 rfl en) (fun k => [(13, I64 (k : Int)), (7, I64 (Qtt es sc k))]) (fun k => [Qb g0_0 25 kV v]) (fun k => k ≤ sc.length) (fun k => sc.length - k) 0 (Nat.zero_le _) ?_ (op (by repeat first | exact pn | refine pc 0 rfl ?_)) ?_)))))))))))))))))))
 · exact (e2 13 7 rfl en)
 rintro k hk
 refine sq (rg (oP (Q6 oz oz) rfl (tn (nn (sq (tc oz (fun c14 => ?_) (fun c14 => ?_)))))))
 · refine sk (nn (sq (tb (sq ?_))))
   have hkl : k < sc.length := by simpa using c14
   have hh := hs _ (at_mem hkl)
   refine rg (mv rfl rfl (av rfl rfl (tn (nn ?_))))
   apply Xs (m := 14) (ns := [[(7, none)], [(2, none)], [(8, none)], [(17, some 1), (18, some 2)], [(19, some 3)], [(20, some 4)], [(21, some 5)], [(2, none)], [(8, none)], [(23, some 7), (24, some 8)], [(25, some 9)], [(26, some 10)], [(27, some 11)], [(22, some 6), (28, some 12)]]) (by kernel_rfl) (by kernel_rfl) (Ts := [_, _, _, _, _, _, _, _, _, _, _, _, _, _]) rfl
   case hops =>
    exact ⟨rmv rfl, rmv rfl, rmv rfl, rP (Qk oz oz Tryz.underlying31 yb3 (by omega) (by omega)), rP (Qs oz Q30 yfr), rP (pL oz y53), rP (pls oz Tryz.underlying26), rmv rfl, rmv rfl, rP (Qk oz oz Tryz.underlying31 yb3 (by omega) (by omega)), rP (Qs oz Q31 y2i), rP (pL oz y53), rP (pls oz Tryz.underlying26), rP (pad oz oz (by omega)), trivial⟩
   case h =>
    refine oP (Qt3 oz oz) rfl (av rfl rfl (tn (bn (nn (rg (oP (pad oz ot (by omega)) rfl (mv rfl rfl (tn (nn ?_)))))))))
    exact tg (k + 1) (by omega) (by omega) ef (op (by repeat first | exact pn | refine pc 0 rfl ?_))
 refine Qy (tx (tx (bh (nn (sq ?_)))))
 obtain rfl : k = sc.length := by simp only [decide_eq_false_iff_not] at c14; omega
 refine rg (oP (plv oz (mA 0 rfl) y4q) rfl (mv rfl rfl (oA (aC (Qtu _ _) yxa (oc oz (oc oz oN)) pR) pR rfl rfl (fun _ _ => ?_))))
 refine mv rfl rfl (oG rfl rfl rfl (gm oz) (fun hg => by (have hg1 := hg.2; (try simp only [cq2] at hg1); exact Qp oz)) rfl ?_)
 refine oG rfl rfl rfl (gm oz) (fun hg => by (have hg1 := hg.2; (try simp only [cq2] at hg1); exact pls (gu oz hg) Tryz.underlying26)) rfl ?_
 refine oG rfl rfl rfl (gm oz) (fun hg => by (have hg1 := hg.2; (try simp only [cq2] at hg1); exact V4 (gu oz hg) ot)) rfl ?_
 refine oP (Q3 oz oz) rfl (mv rfl rfl (oG rfl rfl rfl (gm oz) (fun hg => by (have hg1 := hg.2; (try simp only [cq2] at hg1); exact Qp oz)) rfl ?_))
 refine oG rfl rfl rfl (gm oz) (fun hg => by (have hg1 := hg.2; (try simp only [cq2] at hg1); exact pls (gu oz hg) Tryz.underlying31)) rfl ?_
 refine oG rfl rfl rfl (gm oz) (fun hg => by (have hg1 := hg.2; (try simp only [cq2] at hg1); exact V4 (gu oz hg) ot)) rfl ?_
 refine oP (Q3 oz oz) rfl (mv rfl rfl (oG rfl rfl rfl (gm oz) (fun hg => by (have hg1 := hg.2; (try simp only [cq2] at hg1); exact Qp oz)) rfl ?_))
 refine oG rfl rfl rfl (gm oz) (fun hg => by (have hg1 := hg.2; (try simp only [cq2] at hg1); exact V4 (gu oz hg) ot)) rfl ?_
 refine oP (Q3 oz oz) rfl (mv rfl rfl (oG rfl rfl rfl (gm oz) (fun hg => by (have hg1 := hg.2; (try simp only [cq2] at hg1); exact pf oz yd0)) rfl ?_))
 refine oG rfl rfl rfl (gm oz) (fun hg => by (have hg1 := hg.2; (try simp only [cq2] at hg1); exact plb (gu oz hg) (mA 0 rfl) lv0 ylw)) rfl ?_
 refine oG rfl rfl rfl (gm oz) (fun hg => by (have hg1 := hg.2; (try simp only [cq2] at hg1); exact Wt Tryz.underlying9 (gu oz hg))) rfl ?_
 refine oG rfl rfl rfl (gm oz) (fun hg => by (have hg1 := hg.2; (try simp only [cq2] at hg1); exact pf oz yys)) rfl ?_
 refine oG rfl rfl rfl (gm oz) (fun hg => by (have hg1 := hg.2; (try simp only [cq2] at hg1); exact plb (gu oz hg) (mA 0 rfl) lv4 ylw)) rfl ?_
 refine oG rfl rfl rfl (gm oz) (fun hg => by (have hg1 := hg.2; (try simp only [cq2] at hg1); exact Wt Tryz.underlying9 (gu oz hg))) rfl ?_
 refine oG rfl rfl rfl (gm oz) (fun hg => by (have hg1 := hg.2; (try simp only [cq2] at hg1); exact pad (gu oz hg) (gu oz hg) (by omega))) rfl ?_
 refine oG rfl rfl rfl (gm oz) (fun hg => by (have hg1 := hg.2; (try simp only [cq2] at hg1); exact V4 (gu oz hg) ot)) rfl ?_
 refine oP (Q3 oz oz) rfl (av rfl rfl (tn (nn (tR ?_))))
 exact Qh .ret (.inl rfl) rfl () (OT.val oz (congrArg Value.bool ((Q42 hl hs)))) trivial (by exact pn)
end Go.Proofs.YtklhdalppmjnaaaGreatDoor
namespace Go.Proofs.YtklhdalppmjnaaaGreatDoor
open Go Go.Gw Go.So Go.Tu Go.Jn
open Go.Dr hiding Pr
theorem Q1r {v : Vw} {es : List Ed} {r : Qnr} (h : Qns v es r) (hc : (decide (r.2 ≠ 0) || (stA r).isNone) = true) : r.1 = none ∧ ¬ r.2 = 0 := by
 obtain ⟨_, h | ⟨o, s, al, h2, h3, _⟩⟩ := h
 · exact h
 unfold stA at hc; rw [h2, h3] at hc; simp at hc
theorem Qtv {v : Vw} {es : List Ed} {r : Qnr} (h : Qns v es r) (hc : (decide (r.2 ≠ 0) || (stA r).isNone) = true) : (decide (r.2 ≠ 0) && (stA r).isNone) = true := by
 obtain ⟨h1, h2⟩ := Q1r h hc
 unfold stA; rw [h1]; simp [h2]
theorem Qtw {v : Vw} {es : List Ed} {r : Qnr} (h : Qns v es r) (hc : (decide (r.2 ≠ 0) || (stA r).isNone) = false) : ∃ o s al, r = (some (o, s, al), 0) ∧ VOk o v s al (Zy es) := by
 obtain ⟨_, ⟨h1, h2⟩ | ⟨o, s, al, h2, h3, h4⟩⟩ := h
 · unfold stA at hc; rw [h1] at hc; simp at hc
 exact ⟨o, s, al, Prod.ext h2 h3, h4⟩
theorem Q32 (x y : Dl) (h1 : Small x.1) (h2 : Small x.2) (h3 : Small y.1) (h4 : Small y.2) : Ct Tryz.prog 17 [kD.T x, (kDF noK 0).T y] [] Unit (fun _ => Xd (decide (x.1 = y.1) && decide (x.2 = y.2))) (fun _ => []) (fun _ => True) := Gw.Ct.args (As := [kD.T x, kD.T y]) (fun H vs h => match vs, h with
 | [_, _], ⟨a, b, c⟩ => ⟨a, Q19 b, c⟩) (Qk3 x y h1 h2 h3 h4)
section
variable {o : SO} {v : Vw} {s s' : KS} {al al' : List (Ed × Bool)} {A gone come : List Ed}
theorem Q1s (h : VOk o v s al A) (hl : Yp al gone come = 0) : (J8 A gone come).length + gone.length = A.length + come.length := by
 have h1 := Qnd h hl
 have h2 : (J8 A gone come).length = (goE A gone false).length + come.length := List.length_append
 omega
theorem Qtx (h : VOk o v s al A) (hl : Yp al gone come = 0) (h' : VOk o v s' al' (J8 A gone come)) : Yp al' come gone = 0 ∧ ∀ x, x ∈ J8 (J8 A gone come) come gone ↔ x ∈ A := by
 obtain ⟨h1, h2, h3, h4⟩ := Ur h.a hl
 refine ⟨Qqw h'.a (fun e he => Qcr.2 (.inr he)) h3 h2 fun e he q => (Qcr.1 q).resolve_left fun q => q.2 he, fun x => ?_⟩
 rw [Qcr, Qcr]
 have q1 := h1 x
 have q4 := h4 x
 by_cases c1 : x ∈ A <;> by_cases c2 : x ∈ gone <;> by_cases c3 : x ∈ come <;> simp_all
theorem Qty {B D : List Ed} (h : ∀ x, x ∈ B ↔ x ∈ D) : dif v A B = dif v A D := by unfold dif; rw [Qo3 h]
theorem Qtz {r : KS × List (Ed × Bool) × Dl × Int} (h : VOk o v s al A) (hl : Yp al gone come = 0) (h' : VOk o v s' al' (J8 A gone come)) (hr : Qqv o v al' (J8 A gone come) come gone r) : r.2.2.2 = 0 ∧ r.2.2.1 = dif v (J8 A gone come) A ∧ VOk o v r.1 r.2.1 A := by
 obtain ⟨h1, h2⟩ := Qtx h hl h'
 rcases hr with ⟨_, _, _, _, h5⟩ | ⟨h3, _, h4, h5⟩
 · obtain ⟨h6, h7⟩ := h5 h1
   rw [Qa0 h2, Qnc h.k h6] at h7; cases h7
 exact ⟨h3, h5.trans (Qty h2), h4.ov, h.nd, Qjq h4.k h2 h.nd, fun e => (h4.a e).trans (decide_eq_decide.2 (h2 e))⟩
end

/-- rhizome/rhizomelaw18.ViewBack -/
theorem Q2b (v : Vw) (es : List Ed) (x : Stp) (hl0 : es.length ≤ 1000000000000000) (hl1 : x.1.length ≤ 1000000000000000) (hl2 : x.2.length ≤ 1000000000000000) (hv1 : v.1.length ≤ 1000000000000000) (hv2 : v.2.2.2.2.length ≤ 1000000000000000) (hei : ∀ e ∈ es, J4 e.1 ∧ J4 e.2.2) (hgi : ∀ e ∈ x.1, J4 e.1 ∧ J4 e.2.2) (hci : ∀ e ∈ x.2, J4 e.1 ∧ J4 e.2.2) : Ct Tryz.prog 5 [kV.T v, SlT kE es, kSp.T x] ([]) Unit (fun _ => Xd true) (fun _ => []) (fun _ => True) := by
 refine Qm Tryz.func5 rfl rfl ?_
 intro H w
 refine sq (rg (oA (Xe (d := kV) oz) pR rfl rfl (fun g0_0 _ => ?_)))
 refine oA (Xe (d := kSp) oz) pR rfl rfl (fun g0_1 _ => ?_)
 refine ak rfl (tn (nn (sq (sq (rg (oA (aC Qip y8s oN pR) pR rfl rfl (fun _ _ => ?_)))))))
 refine oP (Zn oz) rfl (mv rfl rfl (oG rfl rfl rfl (gm oz) (fun hg => by (have hg1 := hg.2; (try simp only [cq2] at hg1); exact plv oz (mA 1 rfl) y4q)) rfl ?_))
 refine oG rfl rfl rfl (gm oz) (fun hg => by (have hg1 := hg.2; (try simp only [cq2] at hg1); exact Qp oz)) rfl ?_
 refine oG rfl rfl rfl (gm oz) (fun hg => by (have hg1 := hg.2; (try simp only [cq2] at hg1); exact plv oz (mA 0 rfl) yb3)) rfl ?_
 refine Z0 () rfl rfl rfl (gm oz) (fun hg => by (have hg1 := hg.2; (try simp only [cq2] at hg1); exact Q9 (d := kSp) (v0 := ([], [])) yma yb3 zSp (show 1 * 2 ≤ 16777216 from by decide) (by decide) (Qx rfl rfl (by decide) (gu oz hg) Qd))) rfl (fun _ _ => ?_)
 refine Z0 () rfl rfl rfl (gm oz) (fun hg => by (have hg1 := hg.2; (try simp only [cq2] at hg1); exact aC (Qyi v es [x] hl0 (fun o ho => by rw [List.mem_singleton.1 ho]; exact ⟨hl1, hl2⟩) (by simp) hv1 hv2) ymy (oc (gu oz hg) (oc (gu oz hg) (oc (gu oz hg) oN))) pR)) rfl (fun _ _ => ?_)
 refine oG rfl rfl rfl (gm oz) (fun hg => by (have hg1 := hg.2; (try simp only [cq2] at hg1); exact Zn (gu oz hg))) rfl ?_
 refine oP (Yq oz oz) rfl (tn (nn (tc oz (fun c21 => ?_) (fun c21 => ?_))))
 · refine sq (rg (oA (aC Qip y8s oN pR) pR rfl rfl (fun _ _ => ?_)))
   refine av rfl rfl (tn (nn (tR (tt ?_))))
   exact Qh .ret (.inl rfl) rfl () (OT.val oz (congrArg Value.bool (rfl))) trivial (by exact pn)
 have hf : Qpn v es [x] = true := by simp only [Bool.or_eq_false_iff, Bool.not_eq_false'] at c21; exact c21.2
 obtain ⟨h20, ha12, ho12, h40⟩ := Qyh hf
 have hol := Qmj es
 refine sk (nn (sq (rg (oP (plv oz (mA 1 rfl) y4q) rfl (mv rfl rfl (oA (aC (Qq2 v es (by omega) (by omega) (by omega) hei) y4i (oc oz (oc oz oN)) pR) pR rfl rfl fun r hr => (Q5 List.perm_append_comm (mv rfl rfl (oP (Ql oz rfl) rfl (oP (Ql oz rfl) rfl (av rfl rfl (av rfl rfl (tn (nn (sq (sq (rg (mv rfl rfl (oP (Ja oz ot) rfl (mv rfl rfl (oG rfl rfl rfl (gm oz) (fun hg => by (have hg1 := hg.2; (try simp only [cq2] at hg1); exact Qp oz)) rfl ?_)))))))))))))))))))))
 refine oG rfl rfl rfl (gm oz) (fun hg => by (have hg1 := hg.2; (try simp only [cq2] at hg1); exact K1 Qe9 (gu oz hg) Tryz.underlying32)) rfl ?_
 refine oP (Yq oz oz) rfl (tn (nn (tc oz (fun c34 => ?_) (fun c34 => ?_))))
 · refine sq (rg (mv rfl rfl (oP (Ja oz ot) rfl (mv rfl rfl (oG rfl rfl rfl (gm oz) (fun hg => by (have hg1 := hg.2; (try simp only [cq2] at hg1); exact Qp oz)) rfl ?_)))))
   refine oG rfl rfl rfl (gm oz) (fun hg => by (have hg1 := hg.2; (try simp only [cq2] at hg1); exact K1 Qe9 (gu oz hg) Tryz.underlying32)) rfl ?_
   refine oP (Q3 oz oz) rfl (av rfl rfl (tn (nn (tR (tt ?_)))))
   exact Qh .ret (.inl rfl) rfl () (OT.val oz (congrArg Value.bool ((Qtv hr c34)))) trivial (by exact pn)
 obtain ⟨o, s, al, rfl, hok⟩ := Qtw hr c34
 have hf1 := Qeu hok.k (by omega)
 refine Z6 7 (T := IsV (pt o.g 0)) oz (Q5 (List.Perm.refl (Qb g0_1 28 kSp x :: Qb g0_0 25 kV v :: StI o s al)) (sk (nn (sq (rg (mv rfl rfl (Kr [_, _] rfl (aC (Qey o v s al (Zy es) hok.k (by omega)) ybh (oc oz oN) (Zs (X := [_, _]))) rfl rfl fun _ _ => (av rfl rfl (tn (nn (sq (rg (mv rfl rfl (oP (pf oz yfr) rfl (oP (plb oz (mA 0 rfl) Q30 y53) rfl (oP (pf oz y2i) rfl (oP (plb oz (mA 0 rfl) Q31 y53) rfl (Kr [_, _] rfl (aC (Qpm o v s al (Zy es) x.1 x.2 hok hgi hci (by omega) (by omega) (by omega) (by omega)) yr8 (oc oz (oc oz (oc oz oN))) (Zs (X := [_, _]))) rfl rfl fun q hq => (mv rfl rfl (oP (Ql oz rfl) rfl (oP (Ql oz rfl) rfl (oA (Q1 (z44)) pR rfl rfl (fun g7_9 _ => ?_)))))))))))))))))))))))
 refine oA (asv oz oz (pA 0 rfl) yh2) (pA 0 rfl) rfl rfl (fun _ _ => ?_)
 refine av rfl rfl (tn (nn (sq (sq (rg (mv rfl rfl (oP (Ja oz ot) rfl (tn (nn (tc oz (fun c53 => ?_) (fun c53 => ?_)))))))))))
 · obtain ⟨_, hk2, _⟩ : ¬ q.2.2.2 = 0 ∧ VOk o v q.1 q.2.1 (Zy es) ∧ True := by
    rcases hq with h | h
    · exact ⟨h.1, h.2.1, trivial⟩
    rw [h.1] at c53; exact absurd c53 (by decide)
   refine sq (rg (mv rfl rfl (Kr [_, _, _] rfl (aC (Qey o v q.1 q.2.1 (Zy es) hk2.k (by omega)) ybh (oc oz oN) (Zs (X := [_, _, _]))) rfl rfl fun _ _ => (mv rfl rfl (oA (aC (Qgr (Jl v (Zy es)) (Jl v (Zy es)) hf1.small hf1.small) yai (oc oz (oc oz oN)) pR) pR rfl rfl (fun _ _ => ?_))))))
   refine av rfl rfl (tn (nn (tR (tt ?_))))
   exact Qh .ret (.inl rfl) rfl () (OT.val oz (congrArg Value.bool ((by simp)))) trivial (by exact pn)
 obtain ⟨hq0, hql, hqk, hqd⟩ := hq.resolve_left fun h => by rw [decide_eq_true (p := q.2.2.2 ≠ 0) h.1] at c53; cases c53
 have hal := Q1s hok hql
 have hf2 := Qeu hqk.k (by omega)
 rw [hqd]
 refine sk (nn (sq (rg (mv rfl rfl (oP (pf oz y2i) rfl (oP (plb oz (mA 1 rfl) Q31 y53) rfl (oP (pf oz yfr) rfl (oP (plb oz (mA 1 rfl) Q30 y53) rfl (Kr [_, _, _] rfl (aC (Qpm o v q.1 q.2.1 (J8 (Zy es) x.1 x.2) x.2 x.1 hqk hci hgi (by omega) (by omega) (by omega) (by omega)) yr8 (oc oz (oc oz (oc oz oN))) (Zs (X := [_, _, _]))) rfl rfl fun u hu => ?_)))))))))
 obtain ⟨hu0, hud, huk⟩ := Qtz hok hql hqk hu
 rw [hu0, hud]
 refine mv rfl rfl (oP (Ql oz rfl) rfl (oP (Ql oz rfl) rfl (oA (Q1 (z44)) pR rfl rfl (fun g10_9 _ => ?_))))
 refine oA (asv oz oz (pA 0 rfl) yh2) (pA 0 rfl) rfl rfl (fun _ _ => ?_)
 refine av rfl rfl (tn (nn (sq ?_)))
 apply Qga (p := 10) (Lf := fun c => cond c ((Qb g10_9 38 kD (dif v (J8 (Zy es) x.1 x.2) (Zy es)) :: Qb g7_9 38 kD (dif v (Zy es) (J8 (Zy es) x.1 x.2)) :: Qb g0_1 28 kSp x :: Qb g0_0 25 kV v :: StI o u.1 u.2.1)) ((Qb g10_9 38 kD (dif v (J8 (Zy es) x.1 x.2) (Zy es)) :: Qb g7_9 38 kD (dif v (Zy es) (J8 (Zy es) x.1 x.2)) :: Qb g0_1 28 kSp x :: Qb g0_0 25 kV v :: StI o u.1 u.2.1))) (by kernel_rfl) (m := 12) (ns := [[(8, none)], [(67, some 0)], [(68, some 1)], [(11, none), (69, some 2)], [(10, none), (69, some 2)], [(69, some 2), (71, some 4)], [(69, some 2), (70, some 3), (72, some 5)], [(69, some 2), (73, some 6)], [(74, some 7)], [(7, none), (75, some 8)], [(75, some 8), (76, some 9)], [(9, none), (75, some 8)]]) (by kernel_rfl) (by kernel_rfl) (Ts := [_, _, _, _, _, _, _, _, _, _, _, _]) rfl
 case hops =>
  refine ⟨?_, ?_, ?_, ?_, ?_, ?_, ?_, ?_, ?_, ?_, ?_, ?_, trivial⟩
  · exact cAf (by kernel_rfl) fun _ => rw_ (rmv rfl)
  · exact cAf (by kernel_rfl) fun _ => rw_ (rP (Zu oz ot))
  · exact cAf (by kernel_rfl) fun _ => rw_ (rmv rfl)
  · exact cAf (by kernel_rfl) fun _ => rw_ (rJ rfl fun hg hg1 => rP (plv oz (mA 0 rfl) yh2))
  · exact cAf (by kernel_rfl) fun _ => rw_ (rJ rfl fun hg hg1 => rP (plv oz (mA 1 rfl) yh2))
  · exact cAf (by kernel_rfl) fun _ => rw_ (rJ rfl fun hg hg1 => X8 rfl (Zj (Q1h (K0 := noK) (n0 := 0) (dif v (Zy es) (J8 (Zy es) x.1 x.2)) (hf2.without _).small (hf1.without _).small) Ju yij (oc (gu oz hg) oN) pR) (fun _ _ _ _ h => h))
  · exact cAf (by kernel_rfl) fun _ => rw_ (rJ rfl fun hg hg1 => X8 rfl (aC (Q32 (dif v (J8 (Zy es) x.1 x.2) (Zy es)) (dif v (J8 (Zy es) x.1 x.2) (Zy es)) (hf1.without _).small (hf2.without _).small (hf1.without _).small (hf2.without _).small) y94 (oc (gu oz hg) (oc (gu oz hg) oN)) pR) (fun _ _ _ _ h => h))
  · exact cAf (by kernel_rfl) fun _ => rw_ (rP (Q3 oz oz))
  · exact cAf (by kernel_rfl) fun _ => rw_ (rmv rfl)
  · exact cAf (by kernel_rfl) fun _ => rw_ (rJ rfl fun hg hg1 => rmv rfl)
  · exact cAf (by kernel_rfl) fun _ => Qkn rfl rfl rfl (gm oz) (fun hg => by (have hg1 := hg.2; exact Qcb rfl (aC (Qey o v u.1 u.2.1 (Zy es) huk.k (by omega)) ybh (oc (gu oz hg) oN) (Zs (X := [_, _, _, _]))) (Zs (X := [_, _, _, _])) (fun _ => ((Zs (X := [_, _, _, _]))).symm) (fun _ _ _ _ h => h)))
  intro c hc; cases c <;> exact rw_ (rJ rfl fun hg hg1 => rmv rfl)
 case h =>
  refine Z0 () rfl rfl rfl (gm oz) (fun hg => by (have hg1 := hg.2; (try simp only [cq2] at hg1); exact aC (Qgr (Jl v (Zy es)) (Jl v (Zy es)) hf1.small hf1.small) yai (oc (gu oz hg) (oc (gu oz hg) oN)) pR)) rfl (fun _ _ => ?_)
  refine oP (Q3 oz oz) rfl (av rfl rfl (tn (nn (tR ?_))))
  exact Qh .ret (.inl rfl) rfl () (OT.val oz (congrArg Value.bool ((by simp)))) trivial (by exact pn)
end Go.Proofs.YtklhdalppmjnaaaGreatDoor
namespace Go.Gw
open Go
theorem Q5k {P : Program} {t : TypeId} (ht : P.underlying t = some .string) : Opn P t kS (fun _ => True) := fun Hh enc w fuel cs x h => by
 obtain ⟨n, rfl, _, _⟩ := DataW.trod_string ht h
 refine ⟨n.data.toList, ?_, trivial⟩
 show _ = [Value.string (bs n.data.toList)]
 rw [Q1t]
theorem Q14 {P : Program} {α β γ : Type} {a : Kd α} {b : Kd β} {c : Kd γ} {g0 : α → Prop} {g1 : β → Prop} {g2 : γ → Prop} {t : TypeId} {f0 f1 f2 : Field} (ht : P.underlying t = some (.struct #[f0, f1, f2])) (h0 : Opn P f0.type a g0) (h1 : Opn P f1.type b g1) (h2 : Opn P f2.type c g2)
 (o0 : f0.offset = 0) (o1 : f1.offset = a.sz) (o2 : f2.offset = a.sz + b.sz) (s0 : P.cellsOf f0.type = a.sz) (s1 : P.cellsOf f1.type = b.sz) (s2 : P.cellsOf f2.type = c.sz) (s : P.cellsOf t = a.sz + b.sz + c.sz) : Opn P t (Xm a (Xm b c)) (fun _ => True) := fun Hh enc w fuel cs x h => by
 obtain ⟨xs, n, _, rfl, hl, hlen, hf⟩ := DataW.trod_struct ht h
 match xs, hlen with
 | [y0, y1, y2], _ =>
  have e0 := hf 0 f0 rfl
  have e1 := hf 1 f1 rfl
  have e2 := hf 2 f2 rfl
  simp only [List.getElem?_cons_zero, List.getElem?_cons_succ] at e0 e1 e2
  rw [o0, s0, List.drop_zero] at e0
  rw [o1, s1] at e1
  rw [o2, s2] at e2
  obtain ⟨u, hu, gu⟩ := h0 Hh enc w n _ _ e0
  obtain ⟨v, hv, gv⟩ := h1 Hh enc w n _ _ e1
  obtain ⟨z, hz, gz⟩ := h2 Hh enc w n _ _ e2
  refine ⟨(u, v, z), ⟨_, _, hu, ⟨_, _, hv, hz, rfl⟩, ?_⟩, trivial⟩
  rw [List.take_of_length_le (l := cs.drop (a.sz + b.sz)) (by rw [List.length_drop]; omega)]
  rw [← List.drop_drop, List.take_append_drop, List.take_append_drop]
end Go.Gw
namespace Go.Proofs.YtklhdalppmjnaaaGreatDoor
open Go Go.Gw Go.Tu Go.Jn
end Go.Proofs.YtklhdalppmjnaaaGreatDoor
namespace Go.Proofs.YtklhdalppmjnaaaGreatDoor
open Go Go.Gw Go.RowKit
theorem Q0r {P : Program} {α β γ : Type} {a : Kd α} {b : Kd β} {c : Kd γ} {g0 : α → Prop} {g1 : β → Prop} {g2 : γ → Prop} {t : TypeId} {f0 f1 f2 : Field} (ht : P.underlying t = some (.struct #[f0, f1, f2])) (h0 : Opn P f0.type a g0) (h1 : Opn P f1.type b g1) (h2 : Opn P f2.type c g2)
 (o0 : f0.offset = 0) (o1 : f1.offset = a.sz) (o2 : f2.offset = a.sz + b.sz) (s0 : P.cellsOf f0.type = a.sz) (s1 : P.cellsOf f1.type = b.sz) (s2 : P.cellsOf f2.type = c.sz) (s : P.cellsOf t = a.sz + b.sz + c.sz) : Opn P t (Xm a (Xm b c)) (fun x => g0 x.1 ∧ g1 x.2.1 ∧ g2 x.2.2) := fun Hh enc w fuel cs x h => by
 obtain ⟨xs, n, _, rfl, hl, hlen, hf⟩ := DataW.trod_struct ht h
 match xs, hlen with
 | [y0, y1, y2], _ =>
  have e0 := hf 0 f0 rfl
  have e1 := hf 1 f1 rfl
  have e2 := hf 2 f2 rfl
  simp only [List.getElem?_cons_zero, List.getElem?_cons_succ] at e0 e1 e2
  rw [o0, s0, List.drop_zero] at e0
  rw [o1, s1] at e1
  rw [o2, s2] at e2
  obtain ⟨u, hu, gu⟩ := h0 Hh enc w n _ _ e0
  obtain ⟨v, hv, gv⟩ := h1 Hh enc w n _ _ e1
  obtain ⟨z, hz, gz⟩ := h2 Hh enc w n _ _ e2
  refine ⟨(u, v, z), ⟨_, _, hu, ⟨_, _, hv, hz, rfl⟩, ?_⟩, gu, gv, gz⟩
  rw [List.take_of_length_le (l := cs.drop (a.sz + b.sz)) (by rw [List.length_drop]; omega)]
  rw [← List.drop_drop, List.take_append_drop, List.take_append_drop]
abbrev Qjr : List (String × DataW Unit) := Rows.viewPartsRow.laid
theorem Q46 {W : World} (hS : W.ShapedOpen Tryz.prog) (hL : laidMet Tryz.prog Qjr W) : True := trivial
theorem Q35 (w : World) : laidMetH Tryz.prog Qjr w = laidMet Tryz.prog Qjr w := MakeChecks.laidMetH_plain _ _ _ (by kernel_rfl)
theorem shp (os : Os) : (World.laidAll Tryz.prog os Qjr).Shaped Tryz.prog := World.shaped_of_ZipB (by kernel_rfl) (by kernel_rfl)
theorem met (os : Os) (args : Array Value) : laidMet Tryz.prog Qjr ((World.laidAll Tryz.prog os Qjr).forCall (fun _ _ => 0) ⟨#[], args, []⟩).memory := laidMet_laidAll _ (by kernel_rfl) (by kernel_rfl)
end Go.Proofs.YtklhdalppmjnaaaGreatDoor
namespace Go.Gw
open Go Go.ChangeShapes Go.WideShapes Go.RowKit
theorem Q3f {P : Program} {α : Type} {d : Kd α} {good : α → Prop} {t el : TypeId} (B : Nat) (hd : Qfc P el d good) (ht : P.underlying t = some (.slice el)) (hB : P.bytesOf el = B) (hs : P.cellsOf el = d.sz) (h0 : 0 < d.sz) : Qfc P t (ksl d) (fun xs => (∀ x ∈ xs, good x) ∧ xs.length * B ≤ reachBytes) := fun Hh enc w fuel cs x h hw => by
 rcases DataW.trod_slice ht h with ⟨rfl, _⟩ | ⟨a, len, cap, elems, rest, m, _, rfl, hx0, _, hlc, hcm, hel, hi, _, _⟩
 · exact ⟨[], ⟨_, rfl, none, 0, rfl, by simp, by simp, fun h => by simp at h⟩, by simp, by simp⟩
 have hall : ∀ (l : List (DataW Hh × List MemPlace)) (i : Nat) (hi : i < l.length) (n : Nat), n ∈ (l[i]).1.weights P el → n ∈ DataW.weightsAll P el (l.map (·.1)) := by
  intro l
  induction l with
  | nil => intro i hi; simp at hi
  | cons y l ih =>
   intro i hi n hn
   rw [List.map_cons, DataW.weightsAll]
   cases i with
   | zero => exact List.mem_append_left _ hn
   | succ i => exact List.mem_append_right _ (ih i (by simpa using hi) n hn)
 have hx1 : x.1 = .slice (elems.map (·.1)) (rest.map (·.1)) := by rw [hx0]
 rw [hx1] at hw
 have hwe : ∀ i (hi : i < elems.length), ∀ n ∈ (elems[i]).1.weights P el, n ≤ reachBytes := fun i hi n hn => hw n (by
  simp only [DataW.weights, ht]
  exact List.mem_cons_of_mem _ (List.mem_append_left _ (hall elems i hi n hn)))
 have hlen : len * B ≤ reachBytes := by
  have h1 := hw ((elems.length + rest.length) * B) (by
   simp only [DataW.weights, ht, hB, List.length_map]
   exact List.mem_cons_self)
  rw [hel] at h1
  exact Nat.le_trans (Nat.mul_le_mul_right _ (by omega)) h1
 obtain ⟨xs, h1, h2⟩ := Qgb (p := fun i v => ∃ cs', d.K (Uv w) v cs' ∧ cs'.length = d.sz ∧ (∀ j, j < d.sz → w.cell? ((a.add (i * d.sz)).add j) = cs'[j]?) ∧ good v) len fun i hin => by
  have h3 := hi i hin
  rw [hs, List.getElem?_eq_getElem (by omega), Option.bind_eq_some_iff] at h3
  obtain ⟨cs', hc, ht'⟩ := h3
  obtain ⟨v, hv, hg⟩ := hd Hh enc w m _ _ ht' (hwe i (by omega))
  obtain ⟨_, hl, hat⟩ := World.cells?_some hc
  exact ⟨v, cs', hv, hl, hat, hg⟩
 refine ⟨xs, ⟨_, rfl, some a, cap, by rw [h1], by rw [h1]; exact hlc, by rw [h1]; exact Nat.le_trans hlc hcm, fun hpos => ?_⟩, fun x hx => ?_, by rw [h1]; exact hlen⟩
 · obtain ⟨cs0, _, hl0, hat0, _⟩ := h2 0 _ (List.getElem?_eq_getElem (by omega : 0 < xs.length))
   have hc0 : w.cell? ((a.add (0 * d.sz)).add 0) = some cs0[0] := by rw [hat0 0 h0, List.getElem?_eq_getElem (by omega)]
   obtain ⟨b, off, spot⟩ := a
   have hspot : spot = none := by
    cases spot with
    | none => rfl
    | some q => simpa [Addr.add] using World.cell?_spot hc0
   subst hspot
   have hblk : ∃ cells e fr, w.heap[b]? = some (.cells cells e fr) := by
    unfold World.cell? at hc0
    simp only [add_plain] at hc0
    split at hc0
    · rename_i c e fr hb; exact ⟨c, e, fr, hb⟩
    cases hc0
   obtain ⟨cells, e, fr, hb⟩ := hblk
   have hcell : ∀ k, w.cell? ⟨b, k, none⟩ = cells[k]? := fun k => by unfold World.cell?; rw [hb]; simp
   have hat : ∀ i x, xs[i]? = some x → ∃ cs', d.K (Uv w) x cs' ∧ cs'.length = d.sz ∧ ∀ j, j < d.sz → cells[off + i * d.sz + j]? = cs'[j]? := fun i x e' => by
    obtain ⟨cs', k1, k2, k3, _⟩ := h2 i x e'
    exact ⟨cs', k1, k2, fun j hj => by rw [← hcell, ← k3 j hj, add_plain, add_plain]⟩
   have hfit : off + xs.length * d.sz ≤ cells.size := by
    have hlt : xs.length - 1 < xs.length := by omega
    obtain ⟨cs', k1, k2, k3⟩ := hat (xs.length - 1) _ (List.getElem?_eq_getElem hlt)
    have h5 := k3 (d.sz - 1) (by omega)
    rw [List.getElem?_eq_getElem (by omega)] at h5
    have h6 := (Array.getElem?_eq_some_iff.1 h5).1
    have h7 : (xs.length - 1) * d.sz + d.sz = xs.length * d.sz := by rw [← Nat.succ_mul]; congr 1; omega
    omega
   refine ⟨⟨b, off, none⟩, cells, e, fr, (cells.toList.drop off).take (xs.length * d.sz), rfl, rfl, hb, ⟨?_, fun j x e' => ?_⟩, fun i u e' => ?_⟩
   · have e9 : cells.toList.length = cells.size := Array.length_toList
     rw [List.length_take, List.length_drop, e9]; omega
   · obtain ⟨cs', k1, k2, k3⟩ := hat j x e'
     have hj := (List.getElem?_eq_some_iff.1 e').1
     have hle : j * d.sz + d.sz ≤ xs.length * d.sz := by rw [← Nat.succ_mul]; exact Nat.mul_le_mul_right _ hj
     have : (((cells.toList.drop off).take (xs.length * d.sz)).drop (j * d.sz)).take d.sz = cs' := by
      apply List.ext_getElem?
      intro i
      rw [List.getElem?_take]
      by_cases hi' : i < d.sz
      · rw [if_pos hi', List.getElem?_drop, List.getElem?_take, if_pos (by omega), List.getElem?_drop, ← Nat.add_assoc, Array.getElem?_toList, k3 i hi']
      rw [if_neg hi', List.getElem?_eq_none (by omega)]
     rw [this]; exact k1
   rw [List.getElem?_take] at e'
   split at e'
   · rw [List.getElem?_drop, Array.getElem?_toList] at e'; exact e'
   cases e'
 obtain ⟨i, hi⟩ := List.getElem?_of_mem hx
 obtain ⟨_, _, _, _, hg⟩ := h2 i x hi
 exact hg
theorem Q0s {P : Program} {α β : Type} {a : Kd α} {b : Kd β} {g0 : α → Prop} {g1 : β → Prop} {t : TypeId} {f0 f1 : Field} (ht : P.underlying t = some (.struct #[f0, f1])) (h0 : Qfc P f0.type a g0) (h1 : Qfc P f1.type b g1)
 (o0 : f0.offset = 0) (o1 : f1.offset = a.sz) (s0 : P.cellsOf f0.type = a.sz) (s1 : P.cellsOf f1.type = b.sz) (s : P.cellsOf t = a.sz + b.sz) : Qfc P t (Xm a b) (fun x => g0 x.1 ∧ g1 x.2) := fun Hh enc w fuel cs x h hw => by
 obtain ⟨xs, n, _, rfl, hl, hlen, hf⟩ := DataW.trod_struct ht h
 match xs, hlen with
 | [y0, y1], _ =>
  have e0 := hf 0 f0 rfl
  have e1 := hf 1 f1 rfl
  simp only [List.getElem?_cons_zero, List.getElem?_cons_succ] at e0 e1
  have hwt : ∀ n, (n ∈ y0.1.weights P f0.type ∨ n ∈ y1.1.weights P f1.type) → n ≤ reachBytes := fun n hn => hw n (by
   simp only [DataW.weights, ht, List.map_cons, List.map_nil, DataW.weightsEach, List.mem_append, List.append_nil]
   exact hn)
  rw [o0, s0, List.drop_zero] at e0
  rw [o1, s1] at e1
  obtain ⟨u, hu, gu⟩ := h0 Hh enc w n _ _ e0 (fun n hn => hwt n (.inl hn))
  obtain ⟨v, hv, gv⟩ := h1 Hh enc w n _ _ e1 (fun n hn => hwt n (.inr hn))
  refine ⟨(u, v), ⟨_, _, hu, hv, ?_⟩, gu, gv⟩
  rw [List.take_of_length_le (l := cs.drop a.sz) (by rw [List.length_drop]; omega), List.take_append_drop]
theorem Q0t {P : Program} {α β γ δ ε : Type} {a : Kd α} {b : Kd β} {c : Kd γ} {d : Kd δ} {e : Kd ε} {g0 : α → Prop} {g1 : β → Prop} {g2 : γ → Prop} {g3 : δ → Prop} {g4 : ε → Prop} {t : TypeId} {f0 f1 f2 f3 f4 : Field} (ht : P.underlying t = some (.struct #[f0, f1, f2, f3, f4])) (h0 : Qfc P f0.type a g0) (h1 : Qfc P f1.type b g1) (h2 : Qfc P f2.type c g2) (h3 : Qfc P f3.type d g3) (h4 : Qfc P f4.type e g4)
 (o0 : f0.offset = 0) (o1 : f1.offset = a.sz) (o2 : f2.offset = a.sz + b.sz) (o3 : f3.offset = a.sz + b.sz + c.sz) (o4 : f4.offset = a.sz + b.sz + c.sz + d.sz) (s0 : P.cellsOf f0.type = a.sz) (s1 : P.cellsOf f1.type = b.sz) (s2 : P.cellsOf f2.type = c.sz) (s3 : P.cellsOf f3.type = d.sz) (s4 : P.cellsOf f4.type = e.sz) (s : P.cellsOf t = a.sz + b.sz + c.sz + d.sz + e.sz) : Qfc P t (Xm a (Xm b (Xm c (Xm d e)))) (fun x => g0 x.1 ∧ g1 x.2.1 ∧ g2 x.2.2.1 ∧ g3 x.2.2.2.1 ∧ g4 x.2.2.2.2) := fun Hh enc w fuel cs x h hw => by
 obtain ⟨xs, n, _, rfl, hl, hlen, hf⟩ := DataW.trod_struct ht h
 match xs, hlen with
 | [y0, y1, y2, y3, y4], _ =>
  have e0 := hf 0 f0 rfl
  have e1 := hf 1 f1 rfl
  have e2 := hf 2 f2 rfl
  have e3 := hf 3 f3 rfl
  have e4 := hf 4 f4 rfl
  simp only [List.getElem?_cons_zero, List.getElem?_cons_succ] at e0 e1 e2 e3 e4
  have hwt : ∀ n, (n ∈ y0.1.weights P f0.type ∨ n ∈ y1.1.weights P f1.type ∨ n ∈ y2.1.weights P f2.type ∨ n ∈ y3.1.weights P f3.type ∨ n ∈ y4.1.weights P f4.type) → n ≤ reachBytes := fun n hn => hw n (by
   simp only [DataW.weights, ht, List.map_cons, List.map_nil, DataW.weightsEach, List.mem_append, List.append_nil]
   exact hn)
  rw [o0, s0, List.drop_zero] at e0
  rw [o1, s1] at e1
  rw [o2, s2] at e2
  rw [o3, s3] at e3
  rw [o4, s4] at e4
  obtain ⟨u, hu, k0⟩ := h0 Hh enc w n _ _ e0 (fun n hn => hwt n (.inl hn))
  obtain ⟨v, hv, k1⟩ := h1 Hh enc w n _ _ e1 (fun n hn => hwt n (.inr (.inl hn)))
  obtain ⟨z, hz, k2⟩ := h2 Hh enc w n _ _ e2 (fun n hn => hwt n (.inr (.inr (.inl hn))))
  obtain ⟨y, hy, k3⟩ := h3 Hh enc w n _ _ e3 (fun n hn => hwt n (.inr (.inr (.inr (.inl hn)))))
  obtain ⟨r, hr, k4⟩ := h4 Hh enc w n _ _ e4 (fun n hn => hwt n (.inr (.inr (.inr (.inr hn)))))
  refine ⟨(u, v, z, y, r), ⟨_, _, hu, ⟨_, _, hv, ⟨_, _, hz, ⟨_, _, hy, hr, rfl⟩, rfl⟩, rfl⟩, ?_⟩, k0, k1, k2, k3, k4⟩
  have dd : ∀ i j, cs.drop (i + j) = (cs.drop i).drop j := fun i j => by rw [List.drop_drop]
  rw [List.take_of_length_le (l := cs.drop (a.sz + b.sz + c.sz + d.sz)) (by rw [List.length_drop]; omega)]
  rw [dd (a.sz + b.sz + c.sz) d.sz, List.take_append_drop, dd (a.sz + b.sz) c.sz, List.take_append_drop, dd a.sz b.sz, List.take_append_drop, List.take_append_drop]
end Go.Gw
