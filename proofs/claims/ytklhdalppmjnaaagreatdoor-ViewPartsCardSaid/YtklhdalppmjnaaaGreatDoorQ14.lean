/- The texts Vw9 of this claim, put together in their order. No condition of their own. -/
import Derived.Test.YtklhdalppmjnaaaGreatDoorQ13
import Derived.Test.YtklhdalppmjnaaaGreatDoorQ4
set_option linter.unusedVariables false
set_option linter.unusedSimpArgs false
set_option linter.unusedSectionVars false
set_option maxHeartbeats 1000000
set_option maxRecDepth 20000
namespace Go.Proofs.YtklhdalppmjnaaaGreatDoor
open Go Go.Gw Go.So Go.Tu Go.Jn
open Go.Dr hiding Pr
theorem Qrk {o : SO} {v : Vw} {s : KS} {al : List (Ed × Bool)} {B gone come : List Ed} {r : KS × List (Ed × Bool) × Dl × Int} (hB : VOk o v s al B) (hr : Qgh o v al B gone come r) (hl : Yn al gone come = 0) (hm : ¬ v.2.1 = 2 → Z4 v (Jb B gone come) = false) : r.2.2.2 = 0 ∧ VOk o v r.1 r.2.1 (Jb B gone come) := by
 rcases hr with ⟨_, _, _, _, h5⟩ | ⟨h3, _, h4, _⟩
 · obtain ⟨h6, h7⟩ := h5 hl
   rw [hm h6] at h7; cases h7
 exact ⟨h3, h4⟩
theorem Qoc {v : Vw} {A B : List Ed} (h : ∀ x ∈ B, x ∈ A) (hm : Z4 v A = false) : Z4 v B = false := by
 cases hb : Z4 v B with
 | false => rfl
 | true => rw [V3 h hb] at hm; cases hm
section
variable {oa o : SO} {v : Vw} {sa s2 s : KS} {ala al2 al : List (Ed × Bool)} {A B gone come : List Ed} {k : Nat} {e : Ed} {r : KS × List (Ed × Bool) × Dl × Int}
theorem Qyz {l : List Ed} (hn : l.Nodup) (hk : k < l.length) (he : at' l (k : Int) = e) : e ∈ l ∧ e ∉ l.take k := by
 rw [Q1 hk] at he
 refine ⟨he ▸ List.getElem_mem hk, fun q => ?_⟩
 obtain ⟨j, hj, h2⟩ := List.mem_take_iff_getElem.1 q
 have := (List.getElem_inj hn).1 (h2.trans he.symm)
 omega
theorem Qod {l : List Ed} (hk : k < l.length) (he : at' l (k : Int) = e) (x : Ed) : x ∈ l.take (k + 1) ↔ x ∈ l.take k ∨ x = e := by rw [Qe4 hk, he]
theorem Quc (h0 : VOk oa v sa ala A) (hl : Yn ala gone come = 0) (hB : VOk o v s al B) (hm : ∀ y, y ∈ B ↔ y ∈ A ∧ y ∉ gone.take k) (hk : k < gone.length) (he : at' gone (k : Int) = e) (hr : Qgh o v al B [e] [] r) : r.2.2.2 = 0 ∧ VOk o v r.1 r.2.1 (Jb B [e] []) ∧ ∀ y, y ∈ Jb B [e] [] ↔ y ∈ A ∧ y ∉ gone.take (k + 1) := by
 obtain ⟨h1, h2, _, _⟩ := Vv h0.a hl
 obtain ⟨q1, q2⟩ := Qyz h2 hk he
 have hx : ∀ y, y ∈ Jb B [e] [] ↔ y ∈ A ∧ y ∉ gone.take (k + 1) := fun y => by
  rw [Vu, hm, Qod hk he]
  simp [and_assoc]
 have hl1 : Yn al [e] [] = 0 := Qlg hB.a (fun y hy => by rw [List.mem_singleton.1 hy]; exact (hm e).2 ⟨h1 e q1, q2⟩) (by simp) (by simp) (by simp)
 have := Qrk hB hr hl1 fun h6 => Qoc (fun y hy => ((hx y).1 hy).1) (Qe7 h0.k h6)
 exact ⟨this.1, this.2, hx⟩
theorem Qud (h0 : VOk oa v sa ala A) (hl : Yn ala gone come = 0) (h2 : VOk oa v s2 al2 (Jb A gone come)) (hB : VOk o v s al B) (hm : ∀ y, y ∈ B ↔ (y ∈ A ∧ y ∉ gone) ∨ y ∈ come.take k) (hk : k < come.length) (he : at' come (k : Int) = e) (hr : Qgh o v al B [] [e] r) : r.2.2.2 = 0 ∧ VOk o v r.1 r.2.1 (Jb B [] [e]) ∧ ∀ y, y ∈ Jb B [] [e] ↔ (y ∈ A ∧ y ∉ gone) ∨ y ∈ come.take (k + 1) := by
 obtain ⟨_, _, h3, h4⟩ := Vv h0.a hl
 obtain ⟨q1, q2⟩ := Qyz h3 hk he
 have hx : ∀ y, y ∈ Jb B [] [e] ↔ (y ∈ A ∧ y ∉ gone) ∨ y ∈ come.take (k + 1) := fun y => by
  rw [Vu, hm, Qod hk he]
  simp [or_assoc]
 have hne : e ∉ B := fun q => ((hm e).1 q).elim (fun q => q.2 (h4 e q1 q.1)) q2
 have hl1 : Yn al [] [e] = 0 := Qlg hB.a (by simp) (by simp) (by simp) fun y hy q => absurd (List.mem_singleton.1 hy ▸ q) hne
 have := Qrk hB hr hl1 fun h6 => Qoc (fun y hy => by
  rw [Vu]
  exact ((hx y).1 hy).imp id fun q => List.mem_of_mem_take q) (Qe7 h2.k h6)
 exact ⟨this.1, this.2, hx⟩
theorem Qf2 (hn : B.Nodup) (h : ∀ y ∈ B, y ∈ A) : B.length ≤ A.length := Yw hn h
end
theorem Qy0 {v : Vw} {es : List Ed} {r q : Qjd} (h : Qfb v es r) (h' : Qfb v es q) (hc : (((decide (r.2 ≠ 0) || decide (q.2 ≠ 0)) || (stA r).isNone) || (stA q).isNone) = true) : ((decide (r.2 = q.2) && (stA r).isNone) && (stA q).isNone) = true := by
 obtain ⟨h1, h2⟩ := h
 obtain ⟨h3, h4⟩ := h'
 have he : r.2 = q.2 := h1.trans h3.symm
 rcases h2 with ⟨h5, h6⟩ | ⟨o, s, al, h5, h6, _⟩ <;> rcases h4 with ⟨h7, h8⟩ | ⟨o', s', al', h7, h8, _⟩
 · unfold stA; rw [h5, h7, he]; simp
 · exact absurd (he.trans h8) h6
 · exact absurd (he.symm.trans h6) h8
 unfold stA at hc; rw [h5, h6, h7, h8] at hc; simp at hc
theorem Que {v : Vw} {es : List Ed} {r q : Qjd} (h : Qfb v es r) (h' : Qfb v es q) (hc : (((decide (r.2 ≠ 0) || decide (q.2 ≠ 0)) || (stA r).isNone) || (stA q).isNone) = false) : (∃ o s al, r = (some (o, s, al), 0) ∧ VOk o v s al (Yv es)) ∧ ∃ o s al, q = (some (o, s, al), 0) ∧ VOk o v s al (Yv es) := by
 simp only [Bool.or_eq_false_iff] at hc
 exact ⟨Qf1 h (by rw [hc.1.1.1, hc.1.2]; rfl), Qf1 h' (by rw [hc.1.1.2, hc.2]; rfl)⟩

/-- rhizome/rhizomelaw18.ViewParts -/
theorem Q2a (v : Vw) (es : List Ed) (x : Stp) (hl0 : es.length ≤ 1000000000000000) (hl1 : x.1.length ≤ 1000000000000000) (hl2 : x.2.length ≤ 1000000000000000) (hv1 : v.1.length ≤ 1000000000000000) (hv2 : v.2.2.2.2.length ≤ 1000000000000000) (hei : ∀ e ∈ es, Y8 e.1 ∧ Y8 e.2.2) (hgi : ∀ e ∈ x.1, Y8 e.1 ∧ Y8 e.2.2) (hci : ∀ e ∈ x.2, Y8 e.1 ∧ Y8 e.2.2) : Ct Tryz.prog 3 [kV.T v, SlT kE es, kSp.T x] ([]) Unit (fun _ => Xe true) (fun _ => []) (fun _ => True) := by
 refine Qn Tryz.func3 rfl rfl ?_
 intro H w
 refine sq (rg (oA (Xf (d := kV) oz) pR rfl rfl (fun g0_0 _ => ?_)))
 refine oA (Xf (d := kSp) oz) pR rfl rfl (fun g0_1 _ => ?_)
 refine ak rfl (tn (nn (sq (sq (rg (oA (aC Qbe y8s oN pR) pR rfl rfl (fun _ _ => ?_)))))))
 refine oP (Zf oz) rfl (mv rfl rfl (oG rfl rfl rfl (gm oz) (fun hg => by (have hg1 := hg.2; (try simp only [cq2] at hg1); exact plv oz (mA 1 rfl) y4q)) rfl ?_))
 refine oG rfl rfl rfl (gm oz) (fun hg => by (have hg1 := hg.2; (try simp only [cq2] at hg1); exact Qm oz)) rfl ?_
 refine oG rfl rfl rfl (gm oz) (fun hg => by (have hg1 := hg.2; (try simp only [cq2] at hg1); exact plv oz (mA 0 rfl) yb3)) rfl ?_
 refine Zw () rfl rfl rfl (gm oz) (fun hg => by (have hg1 := hg.2; (try simp only [cq2] at hg1); exact Q7 (d := kSp) (v0 := ([], [])) yma yb3 zSp (show 1 * 2 ≤ 16777216 from by decide) (by decide) (Qv rfl rfl (by decide) (gu oz hg) Qc))) rfl (fun _ _ => ?_)
 refine Zw () rfl rfl rfl (gm oz) (fun hg => by (have hg1 := hg.2; (try simp only [cq2] at hg1); exact aC (Qob v es [x] hl0 (fun o ho => by rw [List.mem_singleton.1 ho]; exact ⟨hl1, hl2⟩) (by simp) hv1 hv2) ymy (oc (gu oz hg) (oc (gu oz hg) (oc (gu oz hg) oN))) pR)) rfl (fun _ _ => ?_)
 refine oG rfl rfl rfl (gm oz) (fun hg => by (have hg1 := hg.2; (try simp only [cq2] at hg1); exact Zf (gu oz hg))) rfl ?_
 refine oP (Zx oz oz) rfl (tn (nn (tc oz (fun c30 => ?_) (fun c30 => ?_))))
 · refine sq (rg (oA (aC Qbe y8s oN pR) pR rfl rfl (fun _ _ => ?_)))
   refine av rfl rfl (tn (nn (tR (tt ?_))))
   exact Qi .ret (.inl rfl) rfl () (OT.val oz (congrArg Value.bool (rfl))) trivial (by exact pn)
 have hf : Qn9 v es [x] = true := by simp only [Bool.or_eq_false_iff, Bool.not_eq_false'] at c30; exact c30.2
 obtain ⟨h20, ha12, ho12, h40⟩ := Qyy hf
 have hol := Qih es
 refine sk (nn (sq (rg (oP (plv oz (mA 1 rfl) y4q) rfl (mv rfl rfl (oA (aC (Qg3 v es (by omega) (by omega) (by omega) hei) y4i (oc oz (oc oz oN)) pR) pR rfl rfl fun r hr => (Q4 List.perm_append_comm (mv rfl rfl (oP (Qd oz rfl) rfl (oP (Qd oz rfl) rfl (av rfl rfl (av rfl rfl (tn (nn (sq (rg (oP (plv oz (mA 1 rfl) y4q) rfl (mv rfl rfl (oA (aC (Qg3 v es (by omega) (by omega) (by omega) hei) y4i (oc oz (oc oz oN)) pR) pR rfl rfl fun r2 hr2 => (Q4 List.perm_append_comm (mv rfl rfl (oP (Qd oz rfl) rfl (oP (Qd oz rfl) rfl ?_)))))))))))))))))))))))
 refine av rfl rfl (av rfl rfl (tn (nn (sq (sq (rg (mv rfl rfl (oP (Yj oz ot) rfl (mv rfl rfl (oG rfl rfl rfl (gm oz) (fun hg => by (have hg1 := hg.2; (try simp only [cq2] at hg1); exact Qm oz)) rfl ?_))))))))))
 refine oG rfl rfl rfl (gm oz) (fun hg => by (have hg1 := hg.2; (try simp only [cq2] at hg1); exact Yj (gu oz hg) ot)) rfl ?_
 refine oP (Zx oz oz) rfl (mv rfl rfl (oG rfl rfl rfl (gm oz) (fun hg => by (have hg1 := hg.2; (try simp only [cq2] at hg1); exact Qm oz)) rfl ?_))
 refine oG rfl rfl rfl (gm oz) (fun hg => by (have hg1 := hg.2; (try simp only [cq2] at hg1); exact Y6 U4 (gu oz hg) Tryz.underlying32)) rfl ?_
 refine oP (Zx oz oz) rfl (mv rfl rfl (oG rfl rfl rfl (gm oz) (fun hg => by (have hg1 := hg.2; (try simp only [cq2] at hg1); exact Qm oz)) rfl ?_))
 refine oG rfl rfl rfl (gm oz) (fun hg => by (have hg1 := hg.2; (try simp only [cq2] at hg1); exact Y6 U4 (gu oz hg) Tryz.underlying32)) rfl ?_
 refine oP (Zx oz oz) rfl (tn (nn (tc oz (fun c57 => ?_) (fun c57 => ?_))))
 · refine sq (rg (mv rfl rfl (mv rfl rfl (oP (Zs oz oz) rfl (mv rfl rfl (oG rfl rfl rfl (gm oz) (fun hg => by (have hg1 := hg.2; (try simp only [cq2] at hg1); exact Qm oz)) rfl ?_))))))
   refine oG rfl rfl rfl (gm oz) (fun hg => by (have hg1 := hg.2; (try simp only [cq2] at hg1); exact Y6 U4 (gu oz hg) Tryz.underlying32)) rfl ?_
   refine oP (Q2 oz oz) rfl (mv rfl rfl (oG rfl rfl rfl (gm oz) (fun hg => by (have hg1 := hg.2; (try simp only [cq2] at hg1); exact Qm oz)) rfl ?_))
   refine oG rfl rfl rfl (gm oz) (fun hg => by (have hg1 := hg.2; (try simp only [cq2] at hg1); exact Y6 U4 (gu oz hg) Tryz.underlying32)) rfl ?_
   refine oP (Q2 oz oz) rfl (av rfl rfl (tn (nn (tR (tt ?_)))))
   exact Qi .ret (.inl rfl) rfl () (OT.val oz (congrArg Value.bool ((Qy0 hr hr2 c57)))) trivial (by exact pn)
 obtain ⟨⟨oa, sa, ala, rfl, hoka⟩, ob, sb0, alb0, rfl, hokb⟩ := Que hr hr2 c57
 refine Zt 7 (T := IsV (pt oa.g 0)) oz (Zt 9 (T := IsV (pt ob.g 0)) oz (Q4 (List.Perm.refl (Qb g0_1 28 kSp x :: Qb g0_0 25 kV v :: (StI oa sa ala ++ StI ob sb0 alb0))) (sk (nn (sq (sq (rg (mv rfl rfl (oP (pf oz yfr) rfl (oP (plb oz (mA 0 rfl) Qt7 y53) rfl (oP (pf oz y2i) rfl (oP (plb oz (mA 0 rfl) Qt8 y53) rfl (Qcx [_, _] (StI ob sb0 alb0) rfl (aC (Qf0 oa v sa ala (Yv es) x.1 x.2 hoka hgi hci (by omega) (by omega) (by omega) (by omega)) yr8 (oc oz (oc oz (oc oz oN))) (Xp [_, _] (StI oa sa ala) (StI ob sb0 alb0))) rfl rfl fun q hq => (mv rfl rfl (oP (Qd oz rfl) rfl (oP (Qd oz rfl) rfl (oA (Qz (z44)) pR rfl rfl (fun g7_9 _ => ?_))))))))))))))))))
 refine oA (asv oz oz (pA 0 rfl) yh2) (pA 0 rfl) rfl rfl (fun _ _ => ?_)
 refine av rfl rfl (tn (nn (sq (rg (mv rfl rfl (oP (Yj oz ot) rfl (tn (nn (tc oz (fun c79 => ?_) (fun c79 => ?_))))))))))
 · refine sq (rg (ak rfl (tn (nn (tR (tt ?_))))))
   exact Qi .ret (.inl rfl) rfl () (OT.val oz (congrArg Value.bool (rfl))) trivial (by exact pn)
 obtain ⟨hq0, hql, hqk, hqd⟩ := hq.resolve_left fun h => by rw [decide_eq_true (p := q.2.2.2 ≠ 0) h.1] at c79; cases c79
 have hal := Qrj hoka hql
 have hf2 := Uz hqk.k (by omega)
 refine sk (nn (sq (sq (rg (oP (pf oz yfr) rfl (oP (plb oz (mA 1 rfl) Qt7 y53) rfl (oP (pls oz Tryz.underlying26) rfl (oP (Qm ot) rfl (tn (nn (tb (Qt (σ := Nat × KS × List (Ed × Bool) × List Ed) (e4 5 7 9 81 rfl (ec 82 rfl en)) (fun y => [(83, I64 (y.1 : Int))]) (fun y => (Qb g7_9 38 kD q.2.2.1 :: Qb g0_1 28 kSp x :: Qb g0_0 25 kV v :: (StI oa q.1 q.2.1 ++ StI ob y.2.1 y.2.2.1))) (fun y => y.1 ≤ x.1.length ∧ VOk ob v y.2.1 y.2.2.1 y.2.2.2 ∧ ∀ e, e ∈ y.2.2.2 ↔ e ∈ Yv es ∧ e ∉ x.1.take y.1) (fun y => x.1.length - y.1) (0, sb0, alb0, Yv es) ⟨Nat.zero_le _, hokb, fun e => by simp⟩ ?_ (op pl) ?_))))))))))))
 · exact (ec 83 rfl en)
 rintro ⟨k, sb, alb, B⟩ ⟨hk, hB, hm⟩
 dsimp only at hk hB hm ⊢
 refine sq (rg (oP (Q5 oz oz) rfl (tn (nn (sq (tc oz (fun c84 => ?_) (fun c84 => ?_)))))))
 · refine sk (nn (sq (tb (sq ?_))))
   have hkl : k < x.1.length := by simp only [decide_eq_true_eq] at c84; omega
   obtain ⟨e, he⟩ : ∃ e, at' x.1 (k : Int) = e := ⟨_, rfl⟩
   have hBl := Qf2 hB.nd fun a ha => ((hm a).1 ha).1
   refine rg (oP (Qj oz oz Tryz.underlying26 y16 (by omega) (by omega)) rfl (oP (pL oz y16) rfl (oA (Qz (zE)) pR rfl rfl (fun g12_2 _ => ?_))))
   refine oA (asv oz oz (pA 0 rfl) y16) (pA 0 rfl) rfl rfl (fun _ _ => ?_)
   refine tn ?_
   rw [he]
   refine nn (sq (rg (mv rfl rfl (oP (plv oz (mA 0 rfl) y16) rfl (oA (Q7 (d := kE) (v0 := (0, [], 0)) yru y16 zE (show 1 * 3 ≤ 16777216 from by decide) (by decide) (Qv rfl rfl (by decide) oz Qc)) pR rfl rfl (fun _ _ => ?_))))))
   refine Qdp [_, _, _, _] (StI oa q.1 q.2.1) rfl (aC (Qf0 ob v sb alb B [e] [] hB (fun a ha => by rw [List.mem_singleton.1 ha, ← he]; exact hgi _ (at_mem hkl)) (by simp) (by omega) (by simp) (by simp) (by simp; omega)) yr8 (oc oz (oc oz (oc (OT.conv ot (fun H u h => Jr h)) oN))) (Z2 (X := [_, _, _, _]) (Y := StI oa q.1 q.2.1))) rfl rfl fun u hu => ?_
   obtain ⟨hp0, hp1, hp2⟩ := Quc hoka hql hB hm hkl he hu
   refine mv rfl rfl (oP (Qd oz rfl) rfl (oP (Qd oz rfl) rfl (oA (Qz (z44)) pR rfl rfl (fun g13_7 _ => ?_))))
   refine oA (asv oz oz (pA 0 rfl) yh2) (pA 0 rfl) rfl rfl (fun _ _ => ?_)
   refine av rfl rfl (tn (nn (sq (rg (mv rfl rfl (oP (Yj oz ot) rfl (tn (nn (tc oz (fun c95 => ?_) (fun c95 => ?_))))))))))
   · exfalso
     rw [hp0] at c95
     exact absurd c95 (by decide) --done
   refine sk (bn (nn (rg (oP (pad oz ot (by omega)) rfl (mv rfl rfl (tn (nn ?_)))))))
   exact tg (k + 1, u.1, u.2.1, Jb B [e] []) ⟨hkl, hp1, hp2⟩ (by show x.1.length - (k + 1) < x.1.length - k; omega) ef (op (pd (pd pl)))
 refine Qx (tx (tx (bh (nn (sq (sq ?_))))))
 obtain rfl : k = x.1.length := by simp only [decide_eq_false_iff_not] at c84; omega
 rw [List.take_length] at hm
 refine rg (oP (pf oz y2i) rfl (oP (plb oz (mA 1 rfl) Qt8 y53) rfl (oP (pls oz Tryz.underlying26) rfl (oP (Qm ot) rfl (tn (nn (tb (Qt (σ := Nat × KS × List (Ed × Bool) × List Ed) (e4 7 9 98 99 rfl en) (fun y => [(100, I64 (y.1 : Int))]) (fun y => (Qb g7_9 38 kD q.2.2.1 :: Qb g0_1 28 kSp x :: Qb g0_0 25 kV v :: (StI oa q.1 q.2.1 ++ StI ob y.2.1 y.2.2.1))) (fun y => y.1 ≤ x.2.length ∧ VOk ob v y.2.1 y.2.2.1 y.2.2.2 ∧ ∀ e, e ∈ y.2.2.2 ↔ (e ∈ Yv es ∧ e ∉ x.1) ∨ e ∈ x.2.take y.1) (fun y => x.2.length - y.1) (0, sb, alb, B) ⟨Nat.zero_le _, hB, fun e => by rw [hm]; simp⟩ ?_ (op pl) ?_))))))))
 · exact (ec 100 rfl en)
 rintro ⟨k, sb, alb, B⟩ ⟨hk, hB, hm⟩
 dsimp only at hk hB hm ⊢
 refine sq (rg (oP (Q5 oz oz) rfl (tn (nn (sq (tc oz (fun c101 => ?_) (fun c101 => ?_)))))))
 · refine sk (nn (sq (tb (sq ?_))))
   have hkl : k < x.2.length := by simp only [decide_eq_true_eq] at c101; omega
   obtain ⟨e, he⟩ : ∃ e, at' x.2 (k : Int) = e := ⟨_, rfl⟩
   have hBl := Qf2 (A := Jb (Yv es) x.1 x.2) hB.nd fun a ha => Vu.2 (((hm a).1 ha).imp id fun q => List.mem_of_mem_take q)
   refine rg (oP (Qj oz oz Tryz.underlying26 y16 (by omega) (by omega)) rfl (oP (pL oz y16) rfl (oA (Qz (zE)) pR rfl rfl (fun g19_2 _ => ?_))))
   refine oA (asv oz oz (pA 0 rfl) y16) (pA 0 rfl) rfl rfl (fun _ _ => ?_)
   refine tn ?_
   rw [he]
   refine nn (sq (rg (mv rfl rfl (oP (plv oz (mA 0 rfl) y16) rfl (oA (Q7 (d := kE) (v0 := (0, [], 0)) yru y16 zE (show 1 * 3 ≤ 16777216 from by decide) (by decide) (Qv rfl rfl (by decide) oz Qc)) pR rfl rfl (fun _ _ => ?_))))))
   refine Qdp [_, _, _, _] (StI oa q.1 q.2.1) rfl (aC (Qf0 ob v sb alb B [] [e] hB (by simp) (fun a ha => by rw [List.mem_singleton.1 ha, ← he]; exact hci _ (at_mem hkl)) (by omega) (by simp) (by simp) (by simp; omega)) yr8 (oc oz (oc (OT.conv ot (fun H u h => Jr h)) (oc oz oN))) (Z2 (X := [_, _, _, _]) (Y := StI oa q.1 q.2.1))) rfl rfl fun u hu => ?_
   obtain ⟨hp0, hp1, hp2⟩ := Qud hoka hql hqk hB hm hkl he hu
   refine mv rfl rfl (oP (Qd oz rfl) rfl (oP (Qd oz rfl) rfl (oA (Qz (z44)) pR rfl rfl (fun g20_7 _ => ?_))))
   refine oA (asv oz oz (pA 0 rfl) yh2) (pA 0 rfl) rfl rfl (fun _ _ => ?_)
   refine av rfl rfl (tn (nn (sq (rg (mv rfl rfl (oP (Yj oz ot) rfl (tn (nn (tc oz (fun c112 => ?_) (fun c112 => ?_))))))))))
   · exfalso
     rw [hp0] at c112
     exact absurd c112 (by decide) --done
   refine sk (bn (nn (rg (oP (pad oz ot (by omega)) rfl (mv rfl rfl (tn (nn ?_)))))))
   exact tg (k + 1, u.1, u.2.1, Jb B [] [e]) ⟨hkl, hp1, hp2⟩ (by show x.2.length - (k + 1) < x.2.length - k; omega) ef (op (pd (pd pl)))
 refine Qx (tx (tx (bh (nn (sq ?_)))))
 obtain rfl : k = x.2.length := by simp only [decide_eq_false_iff_not] at c101; omega
 rw [List.take_length] at hm
 have hce : Yi v B = Yi v (Jb (Yv es) x.1 x.2) := Qix fun a => (hm a).trans Vu.symm
 have hBl := Qf2 (A := Jb (Yv es) x.1 x.2) hB.nd fun a ha => Vu.2 ((hm a).1 ha)
 refine rg (mv rfl rfl (Qcx [_, _, _] (StI ob sb alb) rfl (aC (Qcc oa v q.1 q.2.1 (Jb (Yv es) x.1 x.2) hqk.k (by omega)) ybh (oc oz oN) (Xp [_, _, _] (StI oa q.1 q.2.1) (StI ob sb alb))) rfl rfl fun _ _ => (mv rfl rfl (Qdp [_, _, _] (StI oa q.1 q.2.1) rfl (aC (Qcc ob v sb alb B hB.k (by omega)) ybh (oc oz oN) (Z2 (X := [_, _, _]) (Y := StI oa q.1 q.2.1))) rfl rfl fun _ _ => ?_))))
 rw [hce]
 refine oA (aC (Qli (Yi v (Jb (Yv es) x.1 x.2)) (Yi v (Jb (Yv es) x.1 x.2)) hf2.small hf2.small) yai (oc oz (oc oz oN)) pR) pR rfl rfl (fun _ _ => ?_)
 refine av rfl rfl (tn (nn (tR ?_)))
 exact Qi .ret (.inl rfl) rfl () (OT.val oz (congrArg Value.bool ((by simp)))) trivial (by exact pn)
end Go.Proofs.YtklhdalppmjnaaaGreatDoor
