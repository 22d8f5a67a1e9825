/- The texts Vw10 of this claim, put together in their order. No condition of their own. -/
import Derived.Test.YtklhdalppmjnaaaGreatDoorQ13
import Derived.Test.YtklhdalppmjnaaaGreatDoorQ7
import Derived.Test.YtklhdalppmjnaaaGreatDoorQ4
set_option linter.unusedVariables false
set_option linter.unusedSimpArgs false
set_option linter.unusedSectionVars false
set_option maxHeartbeats 1000000
set_option maxRecDepth 20000
namespace Go.Proofs.YtklhdalppmjnaaaGreatDoor
open Go Go.Gw Go.So Go.Tu Go.Jn
open Go.Dr hiding Pr
theorem Quf {e : Ed} {xs : List Ed} {k : Nat} (h : k < xs.length) (h0 : e ∉ xs.take k) (h1 : ¬ at' xs (k : Int) = e) : e ∉ xs.take (k + 1) := by
 rw [Q1 h] at h1
 rw [List.take_succ_eq_append_getElem h, List.mem_append, List.mem_singleton]
 rintro (h2 | h2)
 · exact h0 h2
 exact h1 h2.symm
theorem Qf3 (es : List Ed) (sc : List Stp) {j : Nat} : ∀ k, j ≤ k → k ≤ sc.length → Ur es sc j ≤ Ur es sc k
 | 0, h, _ => by obtain rfl : j = 0 := by omega
                 exact Int.le_refl _
 | k + 1, h, hk => by
  by_cases e : j = k + 1
  · subst e; exact Int.le_refl _
  have h1 := Qf3 es sc (j := j) k (by omega) (by omega)
  have h2 := Qc2 (es := es) (sc := sc) (k := k) (by omega)
  omega
theorem Qp3 {E es : List Ed} {k : Nat} {x : Ed} (h : k < E.length) (hx : at' E (k : Int) = x) : Ya (E.take (k + 1)) es = Ya (E.take k) es ++ if x ∈ es then [] else [x] := by
 unfold Ya
 rw [List.take_succ_eq_append_getElem h, List.filter_append, ← Q1 h, hx]
 by_cases e : x ∈ es
 · simp [e]
 simp [e]
theorem Qug {v : Vw} {A B : List Ed} : Wu (Yi v A) (dif v A B) = (Yi v B, 0) := Qo0 Uo Uo
theorem Qp4 {v : Vw} {es A : List Ed} {k : KO} {s : KS} (h : Qao v es = 0) (hk : KOk k v s A) : Qao v A = 0 := by
 have hm := Qe7 hk
 unfold Qao at h ⊢
 split
 · rename_i h1
   rw [if_pos h1] at h
   split
   · rename_i h2; rw [if_pos h2] at h; exact h
   rename_i h2
   rw [if_neg h2] at h
   rw [hm h2]
   split
   · rfl
   rename_i h3; rw [if_neg h3] at h; exact h
 rename_i h1
 rw [if_neg h1] at h; exact h
theorem Q2b {A E gone come : List Ed} (h : ∀ x, x ∈ E ↔ x ∈ A) (x : Ed) : x ∈ Ya E gone ++ come ↔ x ∈ Jb A gone come := by
 rw [List.mem_append, Xm, Vu, h]

/-- rhizome/rhizomeref18.Has -/
theorem Q2c (es : List Ed) (e : Ed) (hm : es.length ≤ 1000000) : Ct Tryz.prog 16 [SlT kE es, kE.T e] ([]) Unit (fun _ => Xe (decide (e ∈ es))) (fun _ => []) (fun _ => True) := by
 refine Qn Tryz.func16 rfl rfl ?_
 intro H w
 refine sq (rg (oA (Xf (d := kE) oz) pR rfl rfl (fun g0_0 _ => ?_)))
 refine ak rfl (tn (nn (sq (sq (rg (mv rfl rfl (oP (pls oz Tryz.underlying26) rfl (oP (Qm ot) rfl (tn (nn (tb (Qt (σ := Nat) (e2 0 3 rfl (ec 7 rfl en)) (fun k => [(8, I64 (k : Int))]) (fun k => [Qb g0_0 42 kE e]) (fun k => k ≤ es.length ∧ e ∉ es.take k) (fun k => es.length - k) 0 ⟨Nat.zero_le _, by simp⟩ ?_ (op (by repeat first | exact pn | refine pc 0 rfl ?_)) ?_))))))))))))
 · exact (ec 8 rfl en)
 · rintro k ⟨hk, hno⟩
   refine sq (rg (oP (Q5 oz oz) rfl (tn (nn (sq (tc oz (fun c9 => ?_) (fun c9 => ?_)))))))
   · refine sk (nn (sq (tb (sq ?_))))
     have hkl : k < es.length := by simp only [decide_eq_true_eq] at c9; omega
     refine rg (mv rfl rfl (av rfl rfl (tn (nn (sq ?_)))))
     apply Xs (m := 5) (ns := [[(0, none)], [(5, none)], [(11, some 0), (12, some 1)], [(13, some 2)], [(3, none)]]) (by kernel_rfl) (by kernel_rfl) (Ts := [_, _, _, _, _]) rfl
     case hops =>
      exact ⟨rmv rfl, rmv rfl, rP (Qj oz oz Tryz.underlying26 y16 (by omega) (by omega)), rP (pL oz y16), rP (plv oz (mA 0 rfl) y16), trivial⟩
     case h =>
      refine oP (Qg9 Q4t oz oz) rfl (tn (nn (tc oz (fun c16 => ?_) (fun c16 => ?_))))
      · have hin : e ∈ es := by have h := of_decide_eq_true c16; rw [← h]; exact at_mem hkl
        refine sq (rg (ak rfl (tn (nn (tR (Qw (tt (tt (Qw (tt ?_))))))))))
        exact Qi .ret (.inl rfl) rfl () (OT.val oz (congrArg Value.bool (by simp [hin]))) trivial (by exact pn)
      have hst := Quf hkl hno (of_decide_eq_false c16)
      refine sk (bn (nn (rg (oP (pad oz ot (by omega)) rfl (mv rfl rfl (tn (nn ?_)))))))
      exact tg (k + 1) ⟨hkl, hst⟩ (by omega) ef (op (by repeat first | exact pn | refine pc 0 rfl ?_))
   refine Qx (tx (tx (bh (nn (sq ?_)))))
   obtain rfl : k = es.length := by simp only [decide_eq_false_iff_not] at c9; omega
   rw [List.take_length] at hno
   refine rg (ak rfl (tn (nn (tR ?_))))
   exact Qi .ret (.inl rfl) rfl () (OT.val oz (congrArg Value.bool (by simp [hno]))) trivial (by exact pn)
/-- rhizome/rhizomelaw18.ViewDeltas -/
theorem Qy1 (v : Vw) (es : List Ed) (sc : List Stp) (hl : es.length ≤ 1000000000000000) (hs : ∀ o ∈ sc, o.1.length ≤ 1000000000000000 ∧ o.2.length ≤ 1000000000000000) (hsm : sc.length ≤ 1000000000000000) (hv1 : v.1.length ≤ 1000000000000000) (hv2 : v.2.2.2.2.length ≤ 1000000000000000) (hei : ∀ e ∈ es, Y8 e.1 ∧ Y8 e.2.2) (hsi : ∀ o ∈ sc, (∀ e ∈ o.1, Y8 e.1 ∧ Y8 e.2.2) ∧ ∀ e ∈ o.2, Y8 e.1 ∧ Y8 e.2.2) : Ct Tryz.prog 7 [kV.T v, SlT kE es, SlT kSp sc] ([]) Unit (fun _ => Xe true) (fun _ => []) (fun _ => True) := by
 refine Qn Tryz.func7 rfl rfl ?_
 intro H w
 refine sq (rg (oA (Xf (d := kV) oz) pR rfl rfl (fun g0_0 _ => ?_)))
 refine ak rfl (tn (nn (sq (sq (rg (oA (aC Qbe y8s oN pR) pR rfl rfl (fun _ _ => ?_)))))))
 refine oP (Zf oz) rfl (mv rfl rfl (oG rfl rfl rfl (gm oz) (fun hg => by (have hg1 := hg.2; (try simp only [cq2] at hg1); exact plv oz (mA 0 rfl) y4q)) rfl ?_))
 refine oG rfl rfl rfl (gm oz) (fun hg => by (have hg1 := hg.2; (try simp only [cq2] at hg1); exact Qm oz)) rfl ?_
 refine oG rfl rfl rfl (gm oz) (fun hg => by (have hg1 := hg.2; (try simp only [cq2] at hg1); exact Qm oz)) rfl ?_
 refine Zw () rfl rfl rfl (gm oz) (fun hg => by (have hg1 := hg.2; (try simp only [cq2] at hg1); exact aC (Qob v es sc hl hs (by omega) hv1 hv2) ymy (oc (gu oz hg) (oc (gu oz hg) (oc (gu oz hg) oN))) pR)) rfl (fun _ _ => ?_)
 refine oG rfl rfl rfl (gm oz) (fun hg => by (have hg1 := hg.2; (try simp only [cq2] at hg1); exact Zf (gu oz hg))) rfl ?_
 refine oP (Zx oz oz) rfl (tn (nn (tc oz (fun c28 => ?_) (fun c28 => ?_))))
 · refine sq (rg (oA (aC Qbe y8s oN pR) pR rfl rfl (fun _ _ => ?_)))
   refine av rfl rfl (tn (nn (tR (tt ?_))))
   exact Qi .ret (.inl rfl) rfl () (OT.val oz (congrArg Value.bool (rfl))) trivial (by exact pn)
 have hf : Qn9 v es sc = true := by simp only [Bool.or_eq_false_iff, Bool.not_eq_false'] at c28; exact c28.2
 obtain ⟨h20, ha12, ho12, h40, h10⟩ := Qoa hf
 have hol := Qih es
 refine sk (nn (sq (rg (oP (plv oz (mA 0 rfl) y4q) rfl (mv rfl rfl (oA (aC (Qg3 v es (by omega) (by omega) (by omega) hei) y4i (oc oz (oc oz oN)) pR) pR rfl rfl fun r hr => (Q4 List.perm_append_comm (mv rfl rfl (oP (Qd oz rfl) rfl (oP (Qd oz rfl) rfl (av rfl rfl (av rfl rfl (tn (nn (sq (sq (rg (mv rfl rfl (oP (Yj oz ot) rfl (mv rfl rfl (oG rfl rfl rfl (gm oz) (fun hg => by (have hg1 := hg.2; (try simp only [cq2] at hg1); exact Qm oz)) rfl ?_)))))))))))))))))))))
 refine oG rfl rfl rfl (gm oz) (fun hg => by (have hg1 := hg.2; (try simp only [cq2] at hg1); exact Y6 U4 (gu oz hg) Tryz.underlying32)) rfl ?_
 refine oP (Zx oz oz) rfl (tn (nn (tc oz (fun c41 => ?_) (fun c41 => ?_))))
 · refine sq (rg (mv rfl rfl (oP (Yj oz ot) rfl (mv rfl rfl (oG rfl rfl rfl (gm oz) (fun hg => by (have hg1 := hg.2; (try simp only [cq2] at hg1); exact Qm oz)) rfl ?_)))))
   refine oG rfl rfl rfl (gm oz) (fun hg => by (have hg1 := hg.2; (try simp only [cq2] at hg1); exact Y6 U4 (gu oz hg) Tryz.underlying32)) rfl ?_
   refine oP (Q2 oz oz) rfl (av rfl rfl (tn (nn (tR (tt ?_)))))
   exact Qi .ret (.inl rfl) rfl () (OT.val oz (congrArg Value.bool ((Qub hr c41)))) trivial (by exact pn)
 obtain ⟨o, s, al, rfl, hok⟩ := Qf1 hr c41
 have hc0 : Qao v es = 0 := hr.1.symm
 have hf1 := Uz hok.k (by omega)
 refine Zt 7 (T := IsV (pt o.g 0)) oz (Q4 (List.Perm.refl (Qb g0_0 25 kV v :: StI o s al)) (sk (nn (sq (rg (mv rfl rfl (Wo [_] rfl (aC (Qcc o v s al (Yv es) hok.k (by omega)) ybh (oc oz oN) (Zp (X := [_]))) rfl rfl fun _ _ => (av rfl rfl (tn (nn (sq (rg (oA (Jf (d := kE) (v0 := (0, [], 0)) yru y16 zE (show 0 * 3 ≤ 16777216 from by decide) (by decide) Qc) pR rfl rfl (fun v7_0 _ => ?_))))))))))))))
 refine mv rfl rfl (oA (Q0 oz (pA 0 rfl) oz yru (by (simp; omega)) (by (simp [maxLen]; omega))) (pA 0 rfl) rfl rfl (fun v7_2 _ => ?_))
 refine av rfl rfl (tn (nn (sq (sq (rg (mv rfl rfl (oP (pls oz Tryz.underlying31) rfl (oP (Qm ot) rfl (tn (nn (tb (Qt (σ := Nat × KS × List (Ed × Bool) × List Ed × Value × List Ed) (e4 2 3 7 54 rfl en) (fun s => [(55, I64 (s.1 : Int)), (9, SlT kT (Yi v s.2.2.2.1)), (10, IsV s.2.2.2.2.1)]) (fun s => (Qh 42 kE s.2.2.2.2.1 s.2.2.2.2.2 :: Qb g0_0 25 kV v :: StI o s.2.1 s.2.2.1)) (fun s => s.1 ≤ sc.length ∧ VOk o v s.2.1 s.2.2.1 s.2.2.2.1 ∧ (∀ x, x ∈ s.2.2.2.2.2 ↔ x ∈ s.2.2.2.1) ∧ (∀ e ∈ s.2.2.2.2.2, Y8 e.1 ∧ Y8 e.2.2) ∧ (s.2.2.2.1.length : Int) ≤ Ur es sc s.1 ∧ (s.2.2.2.2.2.length : Int) ≤ Ur es sc s.1) (fun s => sc.length - s.1) (0, s, al, Yv es, v7_2, es) ⟨Nat.zero_le _, hok, fun _ => Qb8.symm, hei, (by unfold Ur; simp; exact hol), (by unfold Ur; simp)⟩ ?_ (op (by (repeat (refine pc 0 rfl ?_)); exact pl)) ?_))))))))))))
 · exact (e2 55 9 rfl (ec 10 rfl en))
 rintro ⟨i, s, al, A, va, E⟩ ⟨hi, hA, hEA, hEi, hAl, hEl⟩
 dsimp only at hi hA hEA hEi hAl hEl ⊢
 refine sq (rg (oP (Q5 oz oz) rfl (tn (nn (sq (tc oz (fun c56 => ?_) (fun c56 => ?_)))))))
 · refine sk (nn (sq (tb (sq ?_))))
   have hil : i < sc.length := by have h9 := of_decide_eq_true c56; omega
   have hoi := at_mem (l := sc) hil
   have hts := Qc2 (es := es) hil
   have htm := Qf3 es sc (j := i + 1) sc.length (by omega) (Nat.le_refl _)
   have hsii := hsi _ hoi
   refine rg (mv rfl rfl (av rfl rfl (tn (nn (sq ?_)))))
   apply Qky (ρ := (KS × List (Ed × Bool) × Dl × Int) × Nat) (ψ := fun c rr => cond (c.getD 0 false) (Qgh o v al A (at' sc (i : Int)).1 (at' sc (i : Int)).2 rr.1) True) (ups := fun i r r' => cond (Nat.beq i 11) (r'.2 = r.2) (cond (Nat.beq i 15) (r'.1 = r.1) (cond (Nat.beq i 16) (r' = r) (True)))) (ps := [11, 15, 16]) (Lf := fun c rr => cond (c.getD 0 false) (cond (c.getD 1 false) (cond (c.getD 2 false) (Qb rr.2 38 kD rr.1.2.2.1 :: Qh 42 kE va E :: Qb g0_0 25 kV v :: StI o rr.1.1 rr.1.2.1) (Qb rr.2 38 kD ([], []) :: Qh 42 kE va E :: Qb g0_0 25 kV v :: StI o rr.1.1 rr.1.2.1)) (cond (c.getD 2 false) ([]) (Qh 42 kE va E :: Qb g0_0 25 kV v :: StI o rr.1.1 rr.1.2.1))) (cond (c.getD 1 false) (cond (c.getD 2 false) ([]) (Qb rr.2 38 kD ([], []) :: Qh 42 kE va E :: Qb g0_0 25 kV v :: StI o s al)) (cond (c.getD 2 false) ([]) (Qh 42 kE va E :: Qb g0_0 25 kV v :: StI o s al)))) ((s, al, ([], []), 0), 0) trivial (by kernel_rfl) (by kernel_rfl) (m := 17) (ns := [[(7, none)], [(2, none)], [(11, none)], [(60, some 1), (61, some 2)], [(62, some 3)], [(63, some 4)], [(2, none)], [(11, none)], [(65, some 6), (66, some 7)], [(67, some 8)], [(68, some 9)], [(59, some 0), (64, some 5), (69, some 10)], [(70, some 11)], [(58, some 12)], [(58, some 12)], [], [(12, some 15), (71, some 13)]]) (by kernel_rfl) (Ts := fun rr => [_, _, _, _, _, _, _, _, _, _, _, Y1 [kD.T rr.1.2.2.1, I64 rr.1.2.2.2], Y1 [kD.T rr.1.2.2.1, I64 rr.1.2.2.2], kD.T rr.1.2.2.1, I64 rr.1.2.2.2, IsV (pt rr.2 0), _]) (fun _ => rfl)
   case hops =>
    refine ⟨?_, ?_, ?_, ?_, ?_, ?_, ?_, ?_, ?_, ?_, ?_, ?_, ?_, ?_, ?_, ?_, ?_, trivial⟩
    · exact ⟨⟨[[false, false, false], [false, true, false]], by kernel_rfl, fun rr hrr => rgo rr rfl ⟨hrr, rfl⟩ (rmv rfl), fun rr hrr => rgo rr rfl ⟨hrr, rfl⟩ (rmv rfl), trivial⟩, ⟨fun _ _ _ _ => rfl, fun _ _ _ _ => rfl, fun _ _ _ _ => rfl, trivial⟩⟩
    · exact ⟨⟨[[false, false, false], [false, true, false]], by kernel_rfl, fun rr hrr => rgo rr rfl ⟨hrr, rfl⟩ (rmv rfl), fun rr hrr => rgo rr rfl ⟨hrr, rfl⟩ (rmv rfl), trivial⟩, ⟨fun _ _ _ _ => rfl, fun _ _ _ _ => rfl, fun _ _ _ _ => rfl, trivial⟩⟩
    · exact ⟨⟨[[false, false, false], [false, true, false]], by kernel_rfl, fun rr hrr => rgo rr rfl ⟨hrr, rfl⟩ (rmv rfl), fun rr hrr => rgo rr rfl ⟨hrr, rfl⟩ (rmv rfl), trivial⟩, ⟨fun _ _ _ _ => rfl, fun _ _ _ _ => rfl, fun _ _ _ _ => rfl, trivial⟩⟩
    · exact ⟨⟨[[false, false, false], [false, true, false]], by kernel_rfl, fun rr hrr => rgo rr rfl ⟨hrr, rfl⟩ (rP (Qj oz oz Tryz.underlying31 yb3 (by omega) (by omega))), fun rr hrr => rgo rr rfl ⟨hrr, rfl⟩ (rP (Qj oz oz Tryz.underlying31 yb3 (by omega) (by omega))), trivial⟩, ⟨fun _ _ _ _ => rfl, fun _ _ _ _ => rfl, fun _ _ _ _ => rfl, trivial⟩⟩
    · exact ⟨⟨[[false, false, false], [false, true, false]], by kernel_rfl, fun rr hrr => rgo rr rfl ⟨hrr, rfl⟩ (rP (Qr oz Qt7 yfr)), fun rr hrr => rgo rr rfl ⟨hrr, rfl⟩ (rP (Qr oz Qt7 yfr)), trivial⟩, ⟨fun _ _ _ _ => rfl, fun _ _ _ _ => rfl, fun _ _ _ _ => rfl, trivial⟩⟩
    · exact ⟨⟨[[false, false, false], [false, true, false]], by kernel_rfl, fun rr hrr => rgo rr rfl ⟨hrr, rfl⟩ (rP (pL oz y53)), fun rr hrr => rgo rr rfl ⟨hrr, rfl⟩ (rP (pL oz y53)), trivial⟩, ⟨fun _ _ _ _ => rfl, fun _ _ _ _ => rfl, fun _ _ _ _ => rfl, trivial⟩⟩
    · exact ⟨⟨[[false, false, false], [false, true, false]], by kernel_rfl, fun rr hrr => rgo rr rfl ⟨hrr, rfl⟩ (rmv rfl), fun rr hrr => rgo rr rfl ⟨hrr, rfl⟩ (rmv rfl), trivial⟩, ⟨fun _ _ _ _ => rfl, fun _ _ _ _ => rfl, fun _ _ _ _ => rfl, trivial⟩⟩
    · exact ⟨⟨[[false, false, false], [false, true, false]], by kernel_rfl, fun rr hrr => rgo rr rfl ⟨hrr, rfl⟩ (rmv rfl), fun rr hrr => rgo rr rfl ⟨hrr, rfl⟩ (rmv rfl), trivial⟩, ⟨fun _ _ _ _ => rfl, fun _ _ _ _ => rfl, fun _ _ _ _ => rfl, trivial⟩⟩
    · exact ⟨⟨[[false, false, false], [false, true, false]], by kernel_rfl, fun rr hrr => rgo rr rfl ⟨hrr, rfl⟩ (rP (Qj oz oz Tryz.underlying31 yb3 (by omega) (by omega))), fun rr hrr => rgo rr rfl ⟨hrr, rfl⟩ (rP (Qj oz oz Tryz.underlying31 yb3 (by omega) (by omega))), trivial⟩, ⟨fun _ _ _ _ => rfl, fun _ _ _ _ => rfl, fun _ _ _ _ => rfl, trivial⟩⟩
    · exact ⟨⟨[[false, false, false], [false, true, false]], by kernel_rfl, fun rr hrr => rgo rr rfl ⟨hrr, rfl⟩ (rP (Qr oz Qt8 y2i)), fun rr hrr => rgo rr rfl ⟨hrr, rfl⟩ (rP (Qr oz Qt8 y2i)), trivial⟩, ⟨fun _ _ _ _ => rfl, fun _ _ _ _ => rfl, fun _ _ _ _ => rfl, trivial⟩⟩
    · exact ⟨⟨[[false, false, false], [false, true, false]], by kernel_rfl, fun rr hrr => rgo rr rfl ⟨hrr, rfl⟩ (rP (pL oz y53)), fun rr hrr => rgo rr rfl ⟨hrr, rfl⟩ (rP (pL oz y53)), trivial⟩, ⟨fun _ _ _ _ => rfl, fun _ _ _ _ => rfl, fun _ _ _ _ => rfl, trivial⟩⟩
    · refine ⟨⟨[[false, false, false], [false, true, false]], by kernel_rfl, ⟨?_, ⟨?_, trivial⟩⟩⟩, ?_⟩
      · intro rr hrr; exact Zh (fun v => (v, rr.2)) rfl (aC (Qf0 o v s al A (at' sc (i : Int)).1 (at' sc (i : Int)).2 hA hsii.1 hsii.2 (by omega) (by omega) (by omega) (by omega)) yr8 (oc oz (oc oz (oc oz oN))) (by exact Zp (X := [_, _]))) (by exact Zp (X := [_, _])) (fun _ => (by exact (Zp (X := [_, _])).symm)) (fun r hr => ⟨hr, by first | exact rfl | exact ⟨rfl, rfl⟩ | exact ⟨rfl, rfl, rfl⟩⟩) (fun _ _ _ _ h => h)
      · intro rr hrr; exact Zh (fun v => (v, rr.2)) rfl (aC (Qf0 o v s al A (at' sc (i : Int)).1 (at' sc (i : Int)).2 hA hsii.1 hsii.2 (by omega) (by omega) (by omega) (by omega)) yr8 (oc oz (oc oz (oc oz oN))) (by exact Zp (X := [_, _, _]))) (by exact Zp (X := [_, _, _])) (fun _ => (by exact (Zp (X := [_, _, _])).symm)) (fun r hr => ⟨hr, by first | exact rfl | exact ⟨rfl, rfl⟩ | exact ⟨rfl, rfl, rfl⟩⟩) (fun _ _ _ _ h => h)
      exact ⟨fun h => Bool.noConfusion (h.symm.trans (by kernel_rfl : _ = true)), ⟨fun _ r r' h => by first | rfl | (have h : r'.1 = r.1 := h; show (fun rr => Y1 [kD.T rr.1.2.2.1, I64 rr.1.2.2.2]) r = (fun rr => Y1 [kD.T rr.1.2.2.1, I64 rr.1.2.2.2]) r'; simp only [h]), ⟨fun _ r r' h => by first | rfl | (have h : r' = r := h; show (fun rr => Y1 [kD.T rr.1.2.2.1, I64 rr.1.2.2.2]) r = (fun rr => Y1 [kD.T rr.1.2.2.1, I64 rr.1.2.2.2]) r'; simp only [h]), trivial⟩⟩⟩
    · refine ⟨⟨[[true, false, false], [true, true, false]], by kernel_rfl, ⟨?_, ⟨?_, trivial⟩⟩⟩, ?_⟩
      · intro rr hrr; exact rgo rr rfl ⟨hrr, rfl⟩ (rmv rfl)
      · intro rr hrr; exact rgo rr rfl ⟨hrr, rfl⟩ (rmv rfl)
      exact ⟨fun h => Bool.noConfusion (h.symm.trans (by kernel_rfl : _ = true)), ⟨fun _ r r' h => by first | rfl | (have h : r'.1 = r.1 := h; show (fun rr => Y1 [kD.T rr.1.2.2.1, I64 rr.1.2.2.2]) r = (fun rr => Y1 [kD.T rr.1.2.2.1, I64 rr.1.2.2.2]) r'; simp only [h]), ⟨fun _ r r' h => by first | rfl | (have h : r' = r := h; show (fun rr => Y1 [kD.T rr.1.2.2.1, I64 rr.1.2.2.2]) r = (fun rr => Y1 [kD.T rr.1.2.2.1, I64 rr.1.2.2.2]) r'; simp only [h]), trivial⟩⟩⟩
    · refine ⟨⟨[[true, false, false], [true, true, false]], by kernel_rfl, ⟨?_, ⟨?_, trivial⟩⟩⟩, ?_⟩
      · intro rr hrr; exact rgo rr rfl ⟨hrr, rfl⟩ (rP (Qd oz rfl))
      · intro rr hrr; exact rgo rr rfl ⟨hrr, rfl⟩ (rP (Qd oz rfl))
      exact ⟨fun h => Bool.noConfusion (h.symm.trans (by kernel_rfl : _ = true)), ⟨fun _ r r' h => by first | rfl | (have h : r'.1 = r.1 := h; show (fun rr => kD.T rr.1.2.2.1) r = (fun rr => kD.T rr.1.2.2.1) r'; simp only [h]), ⟨fun _ r r' h => by first | rfl | (have h : r' = r := h; show (fun rr => kD.T rr.1.2.2.1) r = (fun rr => kD.T rr.1.2.2.1) r'; simp only [h]), trivial⟩⟩⟩
    · refine ⟨⟨[[true, false, false], [true, true, false], [true, true, true]], by kernel_rfl, ⟨?_, ⟨?_, ⟨?_, trivial⟩⟩⟩⟩, ?_⟩
      · intro rr hrr; exact rgo rr rfl ⟨hrr, rfl⟩ (rP (Qd oz rfl))
      · intro rr hrr; exact rgo rr rfl ⟨hrr, rfl⟩ (rP (Qd oz rfl))
      · intro rr hrr; exact rgo rr rfl ⟨hrr, rfl⟩ (rP (Qd oz rfl))
      exact ⟨fun h => Bool.noConfusion (h.symm.trans (by kernel_rfl : _ = true)), ⟨fun _ r r' h => by first | rfl | (have h : r'.1 = r.1 := h; show (fun rr => I64 rr.1.2.2.2) r = (fun rr => I64 rr.1.2.2.2) r'; simp only [h]), ⟨fun _ r r' h => by first | rfl | (have h : r' = r := h; show (fun rr => I64 rr.1.2.2.2) r = (fun rr => I64 rr.1.2.2.2) r'; simp only [h]), trivial⟩⟩⟩
    · refine ⟨⟨[[false, false, false], [true, false, false]], by kernel_rfl, ⟨?_, ⟨?_, trivial⟩⟩⟩, ?_⟩
      · intro rr hrr; exact Zh (fun x => (rr.1, x)) rfl (Qz (z44)) pR (fun _ => pR) (fun r hr => ⟨hrr, by first | exact rfl | exact ⟨rfl, rfl⟩ | exact ⟨rfl, rfl, rfl⟩⟩) (fun _ _ _ _ h => h)
      · intro rr hrr; exact Zh (fun x => (rr.1, x)) rfl (Qz (z44)) pR (fun _ => pR) (fun r hr => ⟨hrr, by first | exact rfl | exact ⟨rfl, rfl⟩ | exact ⟨rfl, rfl, rfl⟩⟩) (fun _ _ _ _ h => h)
      exact ⟨fun _ r r' h => by first | rfl | (have h : r'.2 = r.2 := h; show (fun rr => IsV (pt rr.2 0)) r = (fun rr => IsV (pt rr.2 0)) r'; simp only [h]), ⟨fun h => Bool.noConfusion (h.symm.trans (by kernel_rfl : _ = true)), ⟨fun _ r r' h => by first | rfl | (have h : r' = r := h; show (fun rr => IsV (pt rr.2 0)) r = (fun rr => IsV (pt rr.2 0)) r'; simp only [h]), trivial⟩⟩⟩
    refine ⟨⟨[[true, true, false]], by kernel_rfl, ⟨?_, trivial⟩⟩, ?_⟩
    · intro rr hrr; exact Zh (fun _ => rr) rfl (asv oz oz (pA 0 rfl) yh2) (pA 0 rfl) (fun _ => pR) (fun r hr => ⟨hrr, by first | exact rfl | exact ⟨rfl, rfl⟩ | exact ⟨rfl, rfl, rfl⟩⟩) (fun _ _ _ _ h => h)
    exact ⟨fun h => Bool.noConfusion (h.symm.trans (by kernel_rfl : _ = true)), ⟨fun h => Bool.noConfusion (h.symm.trans (by kernel_rfl : _ = true)), ⟨fun h => Bool.noConfusion (h.symm.trans (by kernel_rfl : _ = true)), trivial⟩⟩⟩
   case h =>
    intro ⟨q2, g11_15⟩ hq2
    refine Q4 (List.Perm.of_eq (show _ = Qb g11_15 38 kD q2.2.2.1 :: Qh 42 kE va E :: Qb g0_0 25 kV v :: StI o q2.1 q2.2.1 from rfl)) (av rfl rfl (tn (nn (sq (sq ?_)))))
    replace hq2 : Qgh o v al A (at' sc (i : Int)).1 (at' sc (i : Int)).2 q2 := hq2
    refine rg (mv rfl rfl (oP (Yj oz ot) rfl (tn (nn (tc oz (fun c74 => ?_) (fun c74 => ?_))))))
    · have hz : ¬ q2.2.2.2 = 0 := of_decide_eq_true c74
      obtain ⟨_, hvk, hd, _, _⟩ := hq2.resolve_right fun h => hz h.1
      rw [hd]
      refine sq (sq (rg (oP (plv oz (mA 0 rfl) yh2) rfl (oA (aC (Qx0 ([], []) (by constructor <;> simp) (by constructor <;> simp)) y2c (oc oz oN) pR) pR rfl rfl (fun _ _ => ?_)))))
      refine oP (Zf oz) rfl (tn (nn (tc oz (fun c77 => ?_) (fun c77 => ?_))))
      · exact absurd c77 (by simp) --done
      refine sk (nn (Qx (tx (bh (nn (rg (oP (pad oz ot (by omega)) rfl (mv rfl rfl (tn (nn ?_))))))))))
      exact tg (i + 1, q2.1, q2.2.1, A, va, E) ⟨(by show i + 1 ≤ sc.length; omega), hvk, hEA, hEi, (by show (A.length : Int) ≤ Ur es sc (i + 1); omega), (by show (E.length : Int) ≤ Ur es sc (i + 1); omega)⟩ (by show sc.length - (i + 1) < sc.length - i; omega) ef (op (by (repeat (refine pc 1 rfl ?_)); exact pd (pl)))
    obtain ⟨hq0, hql, hqk, hqd⟩ := hq2.resolve_left fun h => by rw [decide_eq_true (p := q2.2.2.2 ≠ 0) h.1] at c74; cases c74
    have hFl := Qrj hA hql
    have hfE := Uz hA.k (by omega)
    have hfF := Uz hqk.k (by omega)
    rw [hqd]
    refine sk (nn (sq (rg (mv rfl rfl (oP (plv oz (mA 0 rfl) yh2) rfl (oA (Zo (Qx1 (K0 := noK) (n0 := 0) (Yi v A) (dif v A (Jb A (at' sc (i : Int)).1 (at' sc (i : Int)).2)) hfE (hfF.without _) (hfE.without _)) J1 y04 (oc oz (oc oz oN)) pR) pR rfl rfl (fun _ _ => ?_)))))))
    refine Zt 81 (T := Y1 [Yz noK 0 (kF noK 0) (Yi v (Jb A (at' sc (i : Int)).1 (at' sc (i : Int)).2)), I64 0]) (OT.eq oz (by rw [Qug])) ?_
    refine mv rfl rfl (oP (Qd (oT rfl) rfl) rfl (Zt 82 (T := SlT kT (Yi v (Jb A (at' sc (i : Int)).1 (at' sc (i : Int)).2))) (OT.unfr (oT rfl).fresh) (oP (Qd (oT rfl) rfl) rfl (av rfl rfl (av rfl rfl (tn (nn (sq (sq (rg (mv rfl rfl (oP (Yj (oT rfl) ot) rfl (tn (nn (tc (oT rfl) (fun c85 => ?_) (fun c85 => ?_))))))))))))))))
    · exact absurd c85 (by simp) --done
    refine sk (nn (sq (rg (mv rfl rfl (av rfl rfl (tn (nn (sq (rg (ak rfl (tn (Xg 42 kE (nn (sq (sq (rg (mv rfl rfl (oP (Xr oz (mA 2 rfl) Tryz.underlying26) rfl (oP (Qm ot) rfl (tn (nn (tb (Qt (σ := Nat × Value) (e8 2 3 7 9 11 54 55 87 rfl (ec 88 rfl en)) (fun z => [(89, I64 (z.1 : Int)), (16, IsV z.2)]) (fun z => (Qh 42 kE z.2 (Ya (E.take z.1) (at' sc (i : Int)).1) :: Qh 42 kE va E :: Qb g0_0 25 kV v :: StI o q2.1 q2.2.1)) (fun z => z.1 ≤ E.length) (fun z => E.length - z.1) (0, Qo) (Nat.zero_le _) ?_ (op (by (repeat (first | refine pc 0 rfl ?_ | refine pc 1 rfl ?_)); exact pd (pl))) ?_)))))))))))))))))))))))
    · exact (e2 89 16 rfl en)
    rintro ⟨k, vb⟩ hk
    dsimp only at hk ⊢
    refine sq (rg (oP (Q5 oz oz) rfl (tn (nn (sq (tc oz (fun c90 => ?_) (fun c90 => ?_)))))))
    · refine sk (nn (sq (tb (sq ?_))))
      have hk5 : k < E.length := by have h9 := of_decide_eq_true c90; omega
      obtain ⟨y, hy⟩ : ∃ y, at' E (k : Int) = y := ⟨_, rfl⟩
      have hfs := Qp3 (es := (at' sc (i : Int)).1) hk5 hy
      have hfl : (Ya (E.take k) (at' sc (i : Int)).1).length ≤ 40 := Nat.le_trans (List.length_filter_le _ _) (by rw [List.length_take]; omega)
      refine rg (oP (pio oz (mA 1 rfl) oz Tryz.underlying26 y16 (by omega) (by omega)) rfl (oP (plo oz (mA 1 rfl) (by omega) (by omega) y16) rfl ?_))
      rw [hy]
      refine oA (Qz (zE)) pR rfl rfl (fun g22_2 _ => ?_)
      refine oA (asv oz oz (pA 0 rfl) y16) (pA 0 rfl) rfl rfl (fun _ _ => ?_)
      refine tn (nn (sq ?_))
      apply Xs (m := 6) (ns := [[(2, none)], [(11, none)], [(93, some 0), (94, some 1)], [(95, some 2)], [(96, some 3)], [(18, none)]]) (by kernel_rfl) (by kernel_rfl) (Ts := [_, _, _, _, _, _]) rfl
      case hops =>
       exact ⟨rmv rfl, rmv rfl, rP (Qj oz oz Tryz.underlying31 yb3 (by omega) (by omega)), rP (Qr oz Qt7 yfr), rP (pL oz y53), rP (plv oz (mA 0 rfl) y16), trivial⟩
      case h =>
       refine oA (aC (Q2c (at' sc (i : Int)).1 y (by omega)) ylr (oc oz (oc oz oN)) pR) pR rfl rfl (fun _ _ => ?_)
       refine oP (Zf oz) rfl (tn (nn (tc oz (fun c100 => ?_) (fun c100 => ?_))))
       · have hne : y ∉ (at' sc (i : Int)).1 := by simpa using c100
         rw [if_neg hne] at hfs
         refine rg (mv rfl rfl (oP (plv oz (mA 0 rfl) y16) rfl (oA (Q7 (d := kE) (v0 := (0, [], 0)) yru y16 zE (show 1 * 3 ≤ 16777216 from by decide) (by decide) (Qv rfl rfl (by decide) oz Qc)) pR rfl rfl (fun _ _ => ?_))))
         refine oA (Q0 oz (pA 1 rfl) oz yru (by (simp; omega)) (by (simp [maxLen]; omega))) (pA 1 rfl) rfl rfl (fun v24_3 _ => ?_)
         refine av rfl rfl (tn (bn (nn (rg (oP (pad oz ot (by omega)) rfl (mv rfl rfl (tn (nn ?_))))))))
         exact tg (k + 1, v24_3) (by show k + 1 ≤ E.length; omega) (by show E.length - (k + 1) < E.length - k; omega) ef (by dsimp only; rw [hfs]; exact op (by (repeat (first | refine pc 0 rfl ?_ | refine pc 1 rfl ?_)); exact pd (pl)))
       have hne : y ∈ (at' sc (i : Int)).1 := by simpa using c100
       rw [if_pos hne, List.append_nil] at hfs
       refine sk (bn (nn (rg (oP (pad oz ot (by omega)) rfl (mv rfl rfl (tn (nn ?_)))))))
       exact tg (k + 1, vb) (by show k + 1 ≤ E.length; omega) (by show E.length - (k + 1) < E.length - k; omega) ef (by dsimp only; rw [hfs]; exact op (by (repeat (refine pc 1 rfl ?_)); exact pd (pl)))
    refine Qx (tx (tx (bh (nn ?_))))
    obtain rfl : k = E.length := by have h9 := of_decide_eq_false c90; omega
    rw [List.take_length]
    have hwl : (Ya E (at' sc (i : Int)).1).length ≤ E.length := List.length_filter_le _ _
    have hwi : ∀ e ∈ Ya E (at' sc (i : Int)).1 ++ (at' sc (i : Int)).2, Y8 e.1 ∧ Y8 e.2.2 := fun e he => (List.mem_append.1 he).elim (fun q => hEi e (Xm.1 q).1) (hsii.2 e)
    refine rg (mv rfl rfl (mv rfl rfl (mv rfl rfl (oP (Qj oz oz Tryz.underlying31 yb3 (by omega) (by omega)) rfl (oP (Qr oz Qt8 y2i) rfl (oP (pL oz y53) rfl (oA (Q0 oz (pA 0 rfl) oz yru (by omega) (by (simp [maxLen]; omega))) (pA 0 rfl) rfl rfl (fun v26_6 _ => ?_))))))))
    refine av rfl rfl (tn (bn (nn (rg (oP (pad oz ot (by omega)) rfl (mv rfl rfl (tn (nn ?_))))))))
    exact tg (i + 1, q2.1, q2.2.1, (Jb A (at' sc (i : Int)).1 (at' sc (i : Int)).2), v26_6, Ya E (at' sc (i : Int)).1 ++ (at' sc (i : Int)).2) ⟨(by show i + 1 ≤ sc.length; omega), hqk, Q2b hEA, hwi, (by show (((Jb A (at' sc (i : Int)).1 (at' sc (i : Int)).2)).length : Int) ≤ Ur es sc (i + 1); omega), (by show ((Ya E (at' sc (i : Int)).1 ++ (at' sc (i : Int)).2).length : Int) ≤ Ur es sc (i + 1); rw [List.length_append]; omega)⟩ (by show sc.length - (i + 1) < sc.length - i; omega) ef (op (by (repeat (first | refine pc 0 rfl ?_ | refine pc 1 rfl ?_)); exact pd (pl)))
 refine Qx (tx (tx (bh (nn (sq ?_)))))
 have hmt := Qf3 es sc (j := i) sc.length hi (Nat.le_refl _)
 have hfA := Uz hA.k (by omega)
 refine Xh (Qq 0 rfl) 10 oz (rg (oP (plv oz (mA 0 rfl) y4q) rfl (mv rfl rfl (oA (aC (Qi2 v E (by unfold maxLen; omega) (by unfold maxLen; omega) (by omega) hEi) ygk (oc oz (oc oz oN)) pR) pR rfl rfl (fun cq hcq => ?_)))))
 obtain ⟨hq1, hq2, _⟩ := Qj2 hcq
 rw [Qns hEA, Qp4 hc0 hA.k] at hq1
 have hq2 := (hq2 hq1).trans (Qix hEA)
 rw [hq1, hq2]
 refine mv rfl rfl (oP (Qd oz rfl) rfl (oP (Qd oz rfl) rfl (av rfl rfl (av rfl rfl (tn (nn (sq (rg (mv rfl rfl (oP (Zs oz ot) rfl (mv rfl rfl (oG rfl rfl rfl (gm oz) (fun hg => by (have hg1 := hg.2; (try simp only [cq2] at hg1); exact Qm oz)) rfl ?_))))))))))))
 refine oG rfl rfl rfl (gm oz) (fun hg => by (have hg1 := hg.2; (try simp only [cq2] at hg1); exact Qm oz)) rfl ?_
 refine Zw () rfl rfl rfl (gm oz) (fun hg => by (have hg1 := hg.2; (try simp only [cq2] at hg1); exact aC (Qli (Yi v A) (Yi v A) hfA.small hfA.small) yai (oc (gu oz hg) (oc (gu oz hg) oN)) pR)) rfl (fun _ _ => ?_)
 refine oP (Q2 oz oz) rfl (mv rfl rfl (oG rfl rfl rfl (gm oz) (fun hg => by (have hg1 := hg.2; (try simp only [cq2] at hg1); exact Qm oz)) rfl ?_))
 refine Ug rfl rfl rfl (gm oz) (Zp (X := [_])) (fun hg => aC (Qcc o v s al A hA.k (by omega)) ybh (oc (gu oz hg) oN) (Zp (X := [_]))) rfl (oG rfl rfl rfl (gm oz) (fun hg => by (have hg1 := hg.2; (try simp only [cq2] at hg1); exact Qm oz)) rfl ?_)
 refine Zw () rfl rfl rfl (gm oz) (fun hg => by (have hg1 := hg.2; (try simp only [cq2] at hg1); exact aC (Qli (Yi v A) (Yi v A) hfA.small hfA.small) yai (oc (gu oz hg) (oc (gu oz hg) oN)) pR)) rfl (fun _ _ => ?_)
 refine oP (Q2 oz oz) rfl (av rfl rfl (tn (nn (tR ?_))))
 exact Qi .ret (.inl rfl) rfl () (OT.val oz (congrArg Value.bool ((by simp)))) trivial (by exact pn)
end Go.Proofs.YtklhdalppmjnaaaGreatDoor
