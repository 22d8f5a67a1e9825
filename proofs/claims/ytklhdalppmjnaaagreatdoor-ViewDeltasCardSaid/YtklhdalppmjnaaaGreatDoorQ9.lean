/- The texts Nt13, NtJ, DrA, DrB, G48, G49, G50, DrC of this claim, put together in their order. No condition of their own. -/
import Derived.Test.YtklhdalppmjnaaaGreatDoorQ8
import Derived.Test.YtklhdalppmjnaaaGreatDoorQ4
import Derived.Test.YtklhdalppmjnaaaGreatDoorQ1
import Derived.Test.YtklhdalppmjnaaaGreatDoorQ2
import Derived.Shelf.SlIterI.Nil
import Derived.Shelf.Sort.Plain
import Derived.Shelf.Slices.In.SortNone
import Derived.Shelf.Slices.CompactI
import Derived.Lib.RowBridge
import Derived.Test.YtklhdalppmjnaaaGreatDoorQ7
import Derived.ArgAppend
set_option linter.unusedVariables false
set_option linter.unusedSimpArgs false
set_option linter.unusedSectionVars false
set_option maxHeartbeats 1000000
set_option maxRecDepth 20000
namespace Go.Proofs.YtklhdalppmjnaaaGreatDoor
open Go Go.Gw Go.So Go.Tu Go.Jn Go.Nt
/-- What New tells. -/
abbrev Q09 := Option (NO × AlM × List Rw × List (Lab × Int)) × Int
def Q53 (r : Q09) : List It := match r.1 with
 | none => []
 | some x => Qev x.1 x.2.1 x.2.2.1 x.2.2.2
def Qxp (v : Vw) (es : List Ed) (r : Q09) : Prop := (r.1 = none ∧ r.2 ≠ 0 ∧ Qdj v es ([], [], r.2)) ∨ ∃ n m lv ct, r = (some (n, m, lv, ct), 0) ∧ n.v = v ∧ okV v = true ∧ ¬ Kw es v.2.2.2.1 ∧ Jq n m lv ct (Yv es)
theorem Q38 {v : Vw} {l : List Ed} {r : List Tp × List Int × Int} (h : Qdj v l r) (h0 : r.2.2 = 0) : okV v = true ∧ ¬ Kw l v.2.2.2.1 := by
 rcases h with ⟨h1, rfl⟩ | ⟨h1, h2, rfl⟩ | ⟨h1, h2, rfl⟩
 · cases h0
 · cases h0
 exact ⟨h1, h2⟩
theorem Q39 {v : Vw} {l : List Ed} {r : List Tp × List Int × Int} (h : Qdj v l r) (h0 : ¬ r.2.2 = 0) : Qdj v l ([], [], r.2.2) := by
 rcases h with ⟨h1, rfl⟩ | ⟨h1, h2, rfl⟩ | ⟨h1, h2, rfl⟩
 · exact .inl ⟨h1, rfl⟩
 · exact .inr (.inl ⟨h1, h2, rfl⟩)
 · exact absurd rfl h0

/-- slices.Clone[[]rhizome/api.Atom,rhizome/api.Atom] -/
theorem Qtu (xs : List Atm) (hm : xs.length ≤ 1000000) : Ct Tryz.prog 46 [SlT kA xs] ([]) Unit (fun _ => SlT kA xs) (fun _ => []) (fun _ => True) := by
 refine Qn Tryz.func46 rfl rfl ?_
 intro H w
 refine sq (rg (ak rfl (tn (nn (sq (sq (rg (mv rfl rfl (oA (Wr oz Tryz.underlying23) pR rfl rfl (fun b1 hb1 => ?_))))))))))
 refine tn (nn (tc oz (fun c4 => ?_) (fun c4 => ?_)))
 · try simp only [cq] at c4
   obtain rfl := hb1 c4
   refine sq (rg (ak rfl (tn (nn (tR (tt ?_))))))
   exact Qi .ret (.inl rfl) rfl () (OT.conv oz (fun H u h => Jr h)) trivial (by exact pn)
 · try simp only [cq] at c4
   refine sk (nn (sq (rg (oA (Jf (d := kA) (v0 := ([], [], [])) ya1 y03 zA (show 0 * 3 ≤ 16777216 from by decide) (by decide) Qc) pR rfl rfl (fun v3_0 _ => ?_)))))
   refine mv rfl rfl (oA (Q0 oz (pA 0 rfl) oz ya1 (by (simp; omega)) (by (simp [maxLen]; omega))) (pA 0 rfl) rfl rfl (fun v3_2 _ => ?_))
   refine av rfl rfl (tn (Xh (Qq 0 rfl) 2 oz (nn (tR ?_))))
   exact Qi .ret (.inl rfl) rfl () oz trivial (by exact pn)
/-- rhizome/net.New -/
theorem Q4a (v : Vw) (es : List Ed) (ho0 : v.2.2.1.length ≤ maxLen) (ha0 : v.2.2.2.1.length ≤ maxLen) (hm : es.length ≤ 80) (hei : ∀ e ∈ es, inI e.1 ∧ inI e.2.2) : Ct Tryz.prog 30 [kV.T v, SlT kE es] ([]) Q09 (fun r => Y1 [Qlz J7 (r.1.map fun x => Y9 x.1), I64 r.2]) (fun r => Q53 r) (Qxp v es) := by
 refine Qn Tryz.func30 rfl rfl ?_
 intro H w
 have ho := ho0; have ha := ha0; unfold maxLen at ho ha
 refine sq (rg (oA (Xf (d := kV) oz) pR rfl rfl (fun g0_0 _ => ?_)))
 refine ak rfl (ak rfl (tn (nn (sq (sq (rg (oP (plv (oT rfl) (mA 0 rfl) y4q) rfl (mv rfl rfl (oA (aC (Qj6 _ _ ho0 ha0 (by omega)) yst (oc (oT rfl) (oc (oT rfl) oN)) pR) pR rfl rfl (fun r1_2 hr1_2 => ?_))))))))))
 refine mv rfl rfl (oP (Qd oz rfl) rfl (oP (Qd oz rfl) rfl (oP (Qd oz rfl) rfl (av rfl rfl (av rfl rfl (av rfl rfl (tn (nn (sq (rg (mv rfl rfl (oP (Yj oz ot) rfl (tn (nn (tc oz (fun c24 => ?_) (fun c24 => ?_))))))))))))))))
 · have hc : ¬ r1_2.2.2 = 0 := by simpa using c24
   refine sq (rg (mv rfl rfl (ak rfl (av rfl rfl (tn (nn (tR (tt ?_))))))))
   exact Yb .ret (.inl rfl) rfl (none, r1_2.2.2) oz oz (fun _ _ h => h) (.inl ⟨rfl, hc, Q39 hr1_2 hc⟩) pn
 obtain ⟨hv, hnm⟩ := Q38 hr1_2 (by simpa using c24)
 obtain ⟨ho6, ha1, hal8, hov⟩ := Qb7 hv
 have hvl := K8 v.2.2.2.1
 refine sk (nn (sq ?_))
 apply Qky (ρ := Nat × Nat) (ψ := fun _ _ => True) (ups := fun i r r' => cond (Nat.beq i 3) (r'.2 = r.2) (cond (Nat.beq i 4) (r'.1 = r.1) (True))) (ps := [3, 4]) (Lf := fun c rr => cond (c.getD 0 false) (cond (c.getD 1 false) (Qg rr.1 encS (kpt kAl).T [] :: Qg rr.2 encS kI.T [] :: Qb g0_0 25 kV v :: []) (Qg rr.1 encS (kpt kAl).T [] :: Qb g0_0 25 kV v :: [])) (cond (c.getD 1 false) (Qg rr.2 encS kI.T [] :: Qb g0_0 25 kV v :: []) (Qb g0_0 25 kV v :: []))) (0, 0) trivial (by kernel_rfl) (by kernel_rfl) (m := 5) (ns := [[(2, none)], [(2, none)], [(27, some 1)], [], []]) (by kernel_rfl) (Ts := fun rr => [_, _, _, IsV (mp rr.1), IsV (mp rr.2)]) (fun _ => rfl)
 case hops =>
  refine ⟨?_, ?_, ?_, ?_, ?_, trivial⟩
  · exact ⟨⟨[[false, false], [true, false], [false, true], [true, true]], by kernel_rfl, fun rr hrr => rgo rr rfl ⟨hrr, rfl⟩ (rP (plv oz (mA 0 rfl) y4q)), fun rr hrr => rgo rr rfl ⟨hrr, rfl⟩ (rP (plv oz (mA 1 rfl) y4q)), fun rr hrr => rgo rr rfl ⟨hrr, rfl⟩ (rP (plv oz (mA 1 rfl) y4q)), fun rr hrr => rgo rr rfl ⟨hrr, rfl⟩ (rP (plv oz (mA 2 rfl) y4q)), trivial⟩, ⟨fun _ _ _ _ => rfl, fun _ _ _ _ => rfl, trivial⟩⟩
  · exact ⟨⟨[[false, false], [true, false], [false, true], [true, true]], by kernel_rfl, fun rr hrr => rgo rr rfl ⟨hrr, rfl⟩ (rP (plv oz (mA 0 rfl) y4q)), fun rr hrr => rgo rr rfl ⟨hrr, rfl⟩ (rP (plv oz (mA 1 rfl) y4q)), fun rr hrr => rgo rr rfl ⟨hrr, rfl⟩ (rP (plv oz (mA 1 rfl) y4q)), fun rr hrr => rgo rr rfl ⟨hrr, rfl⟩ (rP (plv oz (mA 2 rfl) y4q)), trivial⟩, ⟨fun _ _ _ _ => rfl, fun _ _ _ _ => rfl, trivial⟩⟩
  · exact ⟨⟨[[false, false], [true, false], [false, true], [true, true]], by kernel_rfl, fun rr hrr => rgo rr rfl ⟨hrr, rfl⟩ (Zc rfl (aC (Qbb _ (by omega)) yew (oc (oT rfl) oN) pR) (fun _ _ _ _ h => h)), fun rr hrr => rgo rr rfl ⟨hrr, rfl⟩ (Zc rfl (aC (Qbb _ (by omega)) yew (oc (oT rfl) oN) pR) (fun _ _ _ _ h => h)), fun rr hrr => rgo rr rfl ⟨hrr, rfl⟩ (Zc rfl (aC (Qbb _ (by omega)) yew (oc (oT rfl) oN) pR) (fun _ _ _ _ h => h)), fun rr hrr => rgo rr rfl ⟨hrr, rfl⟩ (Zc rfl (aC (Qbb _ (by omega)) yew (oc (oT rfl) oN) pR) (fun _ _ _ _ h => h)), trivial⟩, ⟨fun _ _ _ _ => rfl, fun _ _ _ _ => rfl, trivial⟩⟩
  · refine ⟨⟨[[false, false], [false, true]], by kernel_rfl, ⟨?_, ⟨?_, trivial⟩⟩⟩, ?_⟩
    · intro rr hrr; exact Zh (fun x => (x, rr.2)) rfl (Q9 encS (kpt kAl).T) pR (fun _ => (by exact List.Perm.symm (Qq 0 rfl))) (fun r hr => ⟨trivial, by first | exact rfl | exact ⟨rfl, rfl⟩ | exact ⟨rfl, rfl, rfl⟩⟩) (fun _ _ _ _ h => h)
    · intro rr hrr; exact Zh (fun x => (x, rr.2)) rfl (Q9 encS (kpt kAl).T) pR (fun _ => (by exact List.Perm.symm (Qq 0 rfl))) (fun r hr => ⟨trivial, by first | exact rfl | exact ⟨rfl, rfl⟩ | exact ⟨rfl, rfl, rfl⟩⟩) (fun _ _ _ _ h => h)
    exact ⟨fun h => Bool.noConfusion (h.symm.trans (by kernel_rfl : _ = true)), ⟨fun _ r r' h => by first | rfl | (have h : r'.1 = r.1 := h; show (fun rr => IsV (mp rr.1)) r = (fun rr => IsV (mp rr.1)) r'; simp only [h]), trivial⟩⟩
  refine ⟨⟨[[false, false], [true, false]], by kernel_rfl, ⟨?_, ⟨?_, trivial⟩⟩⟩, ?_⟩
  · intro rr hrr; exact Zh (fun x => (rr.1, x)) rfl (Q9 encS kI.T) pR (fun _ => (by exact List.Perm.symm (Qq 0 rfl))) (fun r hr => ⟨trivial, by first | exact rfl | exact ⟨rfl, rfl⟩ | exact ⟨rfl, rfl, rfl⟩⟩) (fun _ _ _ _ h => h)
  · intro rr hrr; exact Zh (fun x => (rr.1, x)) rfl (Q9 encS kI.T) pR (fun _ => (by exact List.Perm.symm (Qq 1 rfl))) (fun r hr => ⟨trivial, by first | exact rfl | exact ⟨rfl, rfl⟩ | exact ⟨rfl, rfl, rfl⟩⟩) (fun _ _ _ _ h => h)
  exact ⟨fun _ r r' h => by first | rfl | (have h : r'.2 = r.2 := h; show (fun rr => IsV (mp rr.2)) r = (fun rr => IsV (mp rr.2)) r'; simp only [h]), ⟨fun h => Bool.noConfusion (h.symm.trans (by kernel_rfl : _ = true)), trivial⟩⟩
 case h =>
  intro rr4 hrr4
  refine oP (Zb (d := kR) (v0 := zRV) (ps := [(0, 5), (5, 1), (6, 1), (7, 1), (8, 1), (9, 1), (10, 1), (11, 1)]) Q44 (by kernel_rfl) rfl (Qk rfl lr0 oz (Qk rfl lr1 oz (Qk rfl lr5 (OT.raw oz rfl) (Qk rfl lr7 (OT.raw oz rfl) Qc))))) rfl (oA (Xf (d := kR) oz) pR rfl rfl (fun g4_6 _ => ?_))
  refine av rfl rfl (tn (Q4 (List.Perm.of_eq (show _ = Qb g4_6 115 kR (v, (Qa v.2.2.2.1), Qo, Qo, Qo, mp rr4.1, Qo, mp rr4.2) :: Qg rr4.1 encS (kpt kAl).T [] :: Qg rr4.2 encS kI.T [] :: Qb g0_0 25 kV v :: [] from rfl)) (nn (sq (rg (mv rfl rfl (oP (pf (oT rfl) y46) rfl (oP (plb (oT rfl) (mA 3 rfl) lv3 y2r) rfl (oA (aC (Qtu _ (by omega)) ynr (oc (oT rfl) oN) pR) pR rfl rfl (fun _ _ => ?_))))))))))
  refine oP (Qe oz) rfl (oP (pf oz yhd) rfl (oP (pf oz y46) rfl (oA (Yd oz oz (pA 0 rfl) Q43 y2r) (pA 0 rfl) rfl rfl (fun _ _ => ?_))))
  refine tn ?_
  skip
  refine nn (sq (rg (mv rfl rfl (oA (Q9 encS kT.T) pR rfl rfl (fun g6_1 _ => ?_)))))
  refine oA (Qmx (v := []) (V := kT.T) mkS Tryz.underlying117 oz (pA 0 rfl) (k := []) ot (OT.conv ot (fun H u h => Jr h))) (pA 0 rfl) rfl rfl (fun _ _ => ?_)
  refine mv rfl rfl (oA (Jf (d := Q3) (v0 := .map none) yvt y3m zRw (show 1 * 1 ≤ 16777216 from by decide) (by decide) (Qv rfl rfl (by decide) (OT.raw oz rfl) Qc)) pR rfl rfl (fun v6_4 _ => ?_))
  refine oP (Qe oz) rfl (oP (pf oz yn5) rfl (Vr (Zz 0 rfl) Vf fun hone6 => (oA (Zq oz oz (by assumption) (pA 2 rfl) lr6 y2a) (pA 2 rfl) rfl rfl (fun _ _ => ?_))))
  refine tn (Xg 3 kI (Xg 3 kI ?_))
  refine nn (sq (sq (rg (mv rfl rfl (oP (Qe oz) rfl (oP (pf oz yhd) rfl (oP (pf oz y46) rfl (oP (plb oz (mA 2 rfl) Q43 y2r) rfl (oP (pls oz Tryz.underlying23) rfl (oP (Qm ot) rfl (tn (nn (tb (Qt (σ := Nat × Value × Value × Value × List Nat × AlM) (e4 1 2 9 50 rfl (ec 51 rfl en)) (fun s => [(52, I64 (s.1 : Int))]) (fun s => (Qb g4_6 115 kR (v, (Qa v.2.2.2.1), s.2.1, s.2.2.1, Qo, mp rr4.1, s.2.2.2.1, mp rr4.2) :: Qh 3 kI s.2.1 ((Ym v.2.2.2.1).take s.1) :: Qh 3 kI s.2.2.1 ((toL v.2.2.2.1).take s.1) :: Qh 117 Q3 s.2.2.2.1 (List.map mp (g6_1 :: s.2.2.2.2.1)) :: Qg rr4.2 encS kI.T [] :: Qb g0_0 25 kV v :: Qg rr4.1 encS (kpt kAl).T (Zn s.2.2.2.2.2) :: (lvI (g6_1 :: s.2.2.2.2.1) (lvN s.1) ++ Yf s.2.2.2.2.2))) (fun s => s.1 ≤ v.2.2.2.1.length ∧ s.2.2.2.2.1.length = s.1 ∧ Kn [] (v.2.2.2.1.take s.1) s.2.2.2.2.2) (fun s => v.2.2.2.1.length - s.1) (0, Qo, Qo, v6_4, [], []) ⟨Nat.zero_le _, rfl, Q0t⟩ ?_ (op (by repeat first | exact pn | refine pc 0 rfl ?_ | refine pc 1 rfl ?_ | refine pc 2 rfl ?_)) ?_))))))))))))))
  · exact (ec 52 rfl en)
  rintro ⟨k, fv, tv, lvv, gs, m⟩ ⟨hkk, hgs, hals⟩
  dsimp only at hkk hgs hals ⊢
  refine sq (rg (oP (Q5 oz oz) rfl (tn (nn (sq (tc oz (fun c53 => ?_) (fun c53 => ?_)))))))
  · refine sk (nn (sq (tb (sq ?_))))
    have hk : k < v.2.2.2.1.length := by simpa using c53
    obtain ⟨a, ha2⟩ : ∃ a, at' v.2.2.2.1 (k : Int) = a := ⟨_, rfl⟩
    have hfl : ((Ym v.2.2.2.1).take k).length = k := by rw [List.length_take, Wy]; omega
    have htl : ((toL v.2.2.2.1).take k).length = k := by rw [List.length_take, Qa5]; omega
    refine rg (oP (Qj oz oz Tryz.underlying23 y03 (by omega) (by omega)) rfl (oP (pL oz y03) rfl (oA (Qz (zA)) pR rfl rfl (fun g9_2 _ => ?_))))
    refine oA (asv oz oz (pA 0 rfl) y03) (pA 0 rfl) rfl rfl (fun _ _ => ?_)
    refine tn ?_
    rw [ha2]
    refine nn (sq ?_)
    apply Yg (ρ := Value) (φ := fun rr => True) (p := 13) (Lf := fun c rr => cond c (Qh 3 kI rr (((Ym v.2.2.2.1).take k) ++ [ixI (Qa v.2.2.2.1) a.1]) :: Qb g9_2 49 kA a :: Qb g4_6 115 kR (v, (Qa v.2.2.2.1), fv, tv, Qo, mp rr4.1, lvv, mp rr4.2) :: Qh 3 kI tv ((toL v.2.2.2.1).take k) :: Qh 117 Q3 lvv (List.map mp (g6_1 :: gs)) :: Qg rr4.2 encS kI.T [] :: Qb g0_0 25 kV v :: Qg rr4.1 encS (kpt kAl).T (Zn m) :: (lvI (g6_1 :: gs) (lvN k) ++ Yf m)) (Qb g9_2 49 kA a :: Qb g4_6 115 kR (v, (Qa v.2.2.2.1), fv, tv, Qo, mp rr4.1, lvv, mp rr4.2) :: Qh 3 kI fv ((Ym v.2.2.2.1).take k) :: Qh 3 kI tv ((toL v.2.2.2.1).take k) :: Qh 117 Q3 lvv (List.map mp (g6_1 :: gs)) :: Qg rr4.2 encS kI.T [] :: Qb g0_0 25 kV v :: Qg rr4.1 encS (kpt kAl).T (Zn m) :: (lvI (g6_1 :: gs) (lvN k) ++ Yf m))) Qo (by kernel_rfl) (m := 14) (ns := [[(9, none)], [(9, none)], [(57, some 1)], [(58, some 2)], [(59, some 3)], [(9, none)], [(61, some 5)], [(62, some 6)], [(63, some 7)], [(11, none)], [(65, some 9)], [(64, some 8), (66, some 10)], [(67, some 11)], [(60, some 4), (68, some 12)]]) (by kernel_rfl) (by kernel_rfl) (Ts := fun rr => [_, _, _, _, _, _, _, _, _, _, _, _, _, IsV rr]) (fun _ => rfl)
    case hops =>
     refine ⟨?_, ?_, ?_, ?_, ?_, ?_, ?_, ?_, ?_, ?_, ?_, ?_, ?_, ?_, trivial⟩
     · exact ⟨by intro c r hc; cases c <;> exact rgo r rfl ⟨rfl, trivial⟩ (rmv rfl), fun _ _ _ _ => rfl⟩
     · exact ⟨cBf (by kernel_rfl) fun r _ => rgo r rfl ⟨rfl, trivial⟩ (rmv rfl), fun _ _ _ _ => rfl⟩
     · exact ⟨cBf (by kernel_rfl) fun r _ => rgo r rfl ⟨rfl, trivial⟩ (rP (Qe oz)), fun _ _ _ _ => rfl⟩
     · exact ⟨cBf (by kernel_rfl) fun r _ => rgo r rfl ⟨rfl, trivial⟩ (rP (pf oz y3c)), fun _ _ _ _ => rfl⟩
     · exact ⟨cBf (by kernel_rfl) fun r _ => rgo r rfl ⟨rfl, trivial⟩ (rP (Ql oz (mA 1 rfl) lr2 yo2)), fun _ _ _ _ => rfl⟩
     · exact ⟨cBf (by kernel_rfl) fun r _ => rgo r rfl ⟨rfl, trivial⟩ (rmv rfl), fun _ _ _ _ => rfl⟩
     · exact ⟨cBf (by kernel_rfl) fun r _ => rgo r rfl ⟨rfl, trivial⟩ (rP (Qe oz)), fun _ _ _ _ => rfl⟩
     · exact ⟨cBf (by kernel_rfl) fun r _ => rgo r rfl ⟨rfl, trivial⟩ (rP (pf oz ykt)), fun _ _ _ _ => rfl⟩
     · exact ⟨cBf (by kernel_rfl) fun r _ => rgo r rfl ⟨rfl, trivial⟩ (rP (plb oz (mA 1 rfl) lr1 ye4)), fun _ _ _ _ => rfl⟩
     · exact ⟨cBf (by kernel_rfl) fun r _ => rgo r rfl ⟨rfl, trivial⟩ (rP (pf oz ytp)), fun _ _ _ _ => rfl⟩
     · exact ⟨cBf (by kernel_rfl) fun r _ => rgo r rfl ⟨rfl, trivial⟩ (rP (plb oz (mA 0 rfl) la0 ylw)), fun _ _ _ _ => rfl⟩
     · exact ⟨cBf (by kernel_rfl) fun r _ => rgo r rfl ⟨rfl, trivial⟩ (Zc rfl (aC (W2 (Qa v.2.2.2.1) _ (by omega)) yd4 (oc oz (oc oz oN)) pR) (fun _ _ _ _ h => h)), fun _ _ _ _ => rfl⟩
     · exact ⟨cBf (by kernel_rfl) fun r _ => rgo r rfl ⟨rfl, trivial⟩ (Zc rfl (Q7 (d := kI) (v0 := 0) y9t ynm zI (show 1 * 1 ≤ 16777216 from by decide) (by decide) (Qv rfl rfl (by decide) oz Qc)) (fun _ _ _ _ h => h)), fun _ _ _ _ => rfl⟩
     refine ⟨?_, ?_⟩
     · exact cBf (by kernel_rfl) fun r _ => Zg rfl (Q0 oz (pA 2 rfl) oz y9t (by (simp; omega)) (by (simp; omega))) (pA 2 rfl) (fun r => pR) (fun _ _ _ => trivial) (fun _ _ _ _ h => h)
     exact fun _ h => absurd h (by decide)
    case h =>
     intro v10_13 _
     refine oP (Qe oz) rfl (oP (pf oz y3c) rfl (Vr (Zz 0 rfl) Vf fun hone10 => (oA (Zq oz oz (by assumption) (pA 2 rfl) lr2 yo2) (pA 2 rfl) rfl rfl (fun _ _ => ?_))))
     refine tn (Q4 (List.Perm.of_eq (show _ = Qb g4_6 115 kR (v, (Qa v.2.2.2.1), v10_13, tv, Qo, mp rr4.1, lvv, mp rr4.2) :: Qh 3 kI v10_13 (((Ym v.2.2.2.1).take k) ++ [ixI (Qa v.2.2.2.1) a.1]) :: Qb g9_2 49 kA a :: Qh 3 kI tv ((toL v.2.2.2.1).take k) :: Qh 117 Q3 lvv (List.map mp (g6_1 :: gs)) :: Qg rr4.2 encS kI.T [] :: Qb g0_0 25 kV v :: Qg rr4.1 encS (kpt kAl).T (Zn m) :: (lvI (g6_1 :: gs) (lvN k) ++ Yf m) from rfl)) (nn (sq ?_)))
     apply Yg (ρ := Value) (φ := fun rr => True) (p := 13) (Lf := fun c rr => cond c (Qh 3 kI rr (((toL v.2.2.2.1).take k) ++ [ixI (Qa v.2.2.2.1) a.2.2]) :: Qb g4_6 115 kR (v, (Qa v.2.2.2.1), v10_13, tv, Qo, mp rr4.1, lvv, mp rr4.2) :: Qh 3 kI v10_13 (((Ym v.2.2.2.1).take k) ++ [ixI (Qa v.2.2.2.1) a.1]) :: Qb g9_2 49 kA a :: Qh 117 Q3 lvv (List.map mp (g6_1 :: gs)) :: Qg rr4.2 encS kI.T [] :: Qb g0_0 25 kV v :: Qg rr4.1 encS (kpt kAl).T (Zn m) :: (lvI (g6_1 :: gs) (lvN k) ++ Yf m)) (Qb g4_6 115 kR (v, (Qa v.2.2.2.1), v10_13, tv, Qo, mp rr4.1, lvv, mp rr4.2) :: Qh 3 kI v10_13 (((Ym v.2.2.2.1).take k) ++ [ixI (Qa v.2.2.2.1) a.1]) :: Qb g9_2 49 kA a :: Qh 3 kI tv ((toL v.2.2.2.1).take k) :: Qh 117 Q3 lvv (List.map mp (g6_1 :: gs)) :: Qg rr4.2 encS kI.T [] :: Qb g0_0 25 kV v :: Qg rr4.1 encS (kpt kAl).T (Zn m) :: (lvI (g6_1 :: gs) (lvN k) ++ Yf m))) Qo (by kernel_rfl) (m := 14) (ns := [[(9, none)], [(9, none)], [(73, some 1)], [(74, some 2)], [(75, some 3)], [(9, none)], [(77, some 5)], [(78, some 6)], [(79, some 7)], [(11, none)], [(81, some 9)], [(80, some 8), (82, some 10)], [(83, some 11)], [(76, some 4), (84, some 12)]]) (by kernel_rfl) (by kernel_rfl) (Ts := fun rr => [_, _, _, _, _, _, _, _, _, _, _, _, _, IsV rr]) (fun _ => rfl)
     case hops =>
      refine ⟨?_, ?_, ?_, ?_, ?_, ?_, ?_, ?_, ?_, ?_, ?_, ?_, ?_, ?_, trivial⟩
      · exact ⟨by intro c r hc; cases c <;> exact rgo r rfl ⟨rfl, trivial⟩ (rmv rfl), fun _ _ _ _ => rfl⟩
      · exact ⟨cBf (by kernel_rfl) fun r _ => rgo r rfl ⟨rfl, trivial⟩ (rmv rfl), fun _ _ _ _ => rfl⟩
      · exact ⟨cBf (by kernel_rfl) fun r _ => rgo r rfl ⟨rfl, trivial⟩ (rP (Qe oz)), fun _ _ _ _ => rfl⟩
      · exact ⟨cBf (by kernel_rfl) fun r _ => rgo r rfl ⟨rfl, trivial⟩ (rP (pf oz yth)), fun _ _ _ _ => rfl⟩
      · exact ⟨cBf (by kernel_rfl) fun r _ => rgo r rfl ⟨rfl, trivial⟩ (rP (Ql oz (mA 0 rfl) lr3 yo2)), fun _ _ _ _ => rfl⟩
      · exact ⟨cBf (by kernel_rfl) fun r _ => rgo r rfl ⟨rfl, trivial⟩ (rmv rfl), fun _ _ _ _ => rfl⟩
      · exact ⟨cBf (by kernel_rfl) fun r _ => rgo r rfl ⟨rfl, trivial⟩ (rP (Qe oz)), fun _ _ _ _ => rfl⟩
      · exact ⟨cBf (by kernel_rfl) fun r _ => rgo r rfl ⟨rfl, trivial⟩ (rP (pf oz ykt)), fun _ _ _ _ => rfl⟩
      · exact ⟨cBf (by kernel_rfl) fun r _ => rgo r rfl ⟨rfl, trivial⟩ (rP (plb oz (mA 0 rfl) lr1 ye4)), fun _ _ _ _ => rfl⟩
      · exact ⟨cBf (by kernel_rfl) fun r _ => rgo r rfl ⟨rfl, trivial⟩ (rP (pf oz ypg)), fun _ _ _ _ => rfl⟩
      · exact ⟨cBf (by kernel_rfl) fun r _ => rgo r rfl ⟨rfl, trivial⟩ (rP (plb oz (mA 2 rfl) la2 ylw)), fun _ _ _ _ => rfl⟩
      · exact ⟨cBf (by kernel_rfl) fun r _ => rgo r rfl ⟨rfl, trivial⟩ (Zc rfl (aC (W2 (Qa v.2.2.2.1) _ (by omega)) yd4 (oc oz (oc oz oN)) pR) (fun _ _ _ _ h => h)), fun _ _ _ _ => rfl⟩
      · exact ⟨cBf (by kernel_rfl) fun r _ => rgo r rfl ⟨rfl, trivial⟩ (Zc rfl (Q7 (d := kI) (v0 := 0) y9t ynm zI (show 1 * 1 ≤ 16777216 from by decide) (by decide) (Qv rfl rfl (by decide) oz Qc)) (fun _ _ _ _ h => h)), fun _ _ _ _ => rfl⟩
      refine ⟨?_, ?_⟩
      · exact cBf (by kernel_rfl) fun r _ => Zg rfl (Q0 oz (pA 3 rfl) oz y9t (by (simp; omega)) (by (simp; omega))) (pA 3 rfl) (fun r => pR) (fun _ _ _ => trivial) (fun _ _ _ _ h => h)
      exact fun _ h => absurd h (by decide)
     case h =>
      intro v11_13 _
      refine oP (Qe oz) rfl (oP (pf oz yth) rfl (Vr (Zz 0 rfl) Vf fun hone11 => (oA (Zq oz oz (by assumption) (pA 1 rfl) lr3 yo2) (pA 1 rfl) rfl rfl (fun _ _ => ?_))))
      refine tn (Q4 (List.Perm.of_eq (show _ = Qb g4_6 115 kR (v, (Qa v.2.2.2.1), v10_13, v11_13, Qo, mp rr4.1, lvv, mp rr4.2) :: Qh 3 kI v11_13 (((toL v.2.2.2.1).take k) ++ [ixI (Qa v.2.2.2.1) a.2.2]) :: Qh 3 kI v10_13 (((Ym v.2.2.2.1).take k) ++ [ixI (Qa v.2.2.2.1) a.1]) :: Qb g9_2 49 kA a :: Qh 117 Q3 lvv (List.map mp (g6_1 :: gs)) :: Qg rr4.2 encS kI.T [] :: Qb g0_0 25 kV v :: Qg rr4.1 encS (kpt kAl).T (Zn m) :: (lvI (g6_1 :: gs) (lvN k) ++ Yf m) from rfl)) (nn (sq (rg (mv rfl rfl (mv rfl rfl (oP (Qe oz) rfl (oP (pf oz yn5) rfl (oP (Ql oz (mA 0 rfl) lr6 y2a) rfl (oA (Q9 encS kT.T) pR rfl rfl (fun g12_5 _ => ?_)))))))))))
      refine oA (Q7 (d := Q3) (v0 := .map none) yvt y3m zRw (show 1 * 1 ≤ 16777216 from by decide) (by decide) (Qv rfl rfl (by decide) (OT.raw oz rfl) Qc)) pR rfl rfl (fun _ _ => ?_)
      refine oA (Q0 oz (pA 5 rfl) oz yvt (by (simp; omega)) (by (simp [maxLen]; omega))) (pA 5 rfl) rfl rfl (fun v12_7 _ => ?_)
      refine oP (Qe oz) rfl (oP (pf oz yn5) rfl (Vr (Zz 0 rfl) Vf fun hone12 => (oA (Zq oz oz (by assumption) (pA 2 rfl) lr6 y2a) (pA 2 rfl) rfl rfl (fun _ _ => ?_))))
      refine tn (nn (sq ?_))
      have hgl0 : (g6_1 :: gs).length = (lvN k).length := by rw [Qq0, List.length_cons, hgs]
      refine Q4 (show List.Perm _ (Qb g4_6 115 kR (v, (Qa v.2.2.2.1), v10_13, v11_13, Qo, mp rr4.1, v12_7, mp rr4.2) :: Qh 3 kI v10_13 (((Ym v.2.2.2.1).take k) ++ [ixI (Qa v.2.2.2.1) a.1]) :: Qh 3 kI v11_13 (((toL v.2.2.2.1).take k) ++ [ixI (Qa v.2.2.2.1) a.2.2]) :: Qh 117 Q3 v12_7 (List.map mp (g6_1 :: (gs ++ [g12_5]))) :: Qb g9_2 49 kA a :: Qg rr4.2 encS kI.T [] :: Qb g0_0 25 kV v :: Qg rr4.1 encS (kpt kAl).T (Zn m) :: (lvI (g6_1 :: (gs ++ [g12_5])) (lvN (k + 1)) ++ Yf m)) from Qwi hgl0) ?_
      apply Xs (m := 6) (ns := [[(9, none)], [(98, some 0)], [(99, some 1)], [(100, some 2)], [(11, none)], [(102, some 4)]]) (by kernel_rfl) (by kernel_rfl) (Ts := [_, _, _, _, _, _]) rfl
      case hops =>
       exact ⟨rmv rfl, rP (Qe oz), rP (pf oz yha), rP (Ql oz (mA 0 rfl) lr5 y32), rP (pf oz yl2), rP (plb oz (mA 4 rfl) la1 ylw), trivial⟩
      case h =>
       refine oP (Xq mkS Tryz.underlying111 zPA oz (mA 7 rfl) oz) rfl (oP (Qdg oz Tryz.underlying119) rfl (tn ?_))
       rw [Qak]
       refine nn (tc oz (fun c105 => ?_) (fun c105 => ?_))
       · have hn : lkp a.2.1 m = none := by
          cases hx : lkp a.2.1 m with
          | none => rfl
          | some a => rw [hx] at c105; cases c105
         apply Qky (ρ := Nat × Nat × Nat × Nat) (ψ := fun _ _ => True) (ups := fun i r r' => cond (Nat.beq i 6) (r'.2 = r.2) (cond (Nat.beq i 7) (r'.1 = r.1 ∧ r'.2.2 = r.2.2) (cond (Nat.beq i 8) (r'.1 = r.1 ∧ r'.2.1 = r.2.1 ∧ r'.2.2.2 = r.2.2.2) (cond (Nat.beq i 10) (r'.1 = r.1 ∧ r'.2.1 = r.2.1 ∧ r'.2.2.1 = r.2.2.1) (True))))) (ps := [6, 7, 8, 10]) (Lf := fun c rr => cond (c.getD 0 false) (cond (c.getD 1 false) (cond (c.getD 2 false) (cond (c.getD 3 false) (Qg rr.1 encI IsV [] :: Qg rr.2.1 encI IsV [] :: Qg rr.2.2.1 Zu Xd.T [] :: Qb rr.2.2.2 123 kAl (mp rr.1, mp rr.2.1, mp rr.2.2.1) :: Qb g4_6 115 kR (v, (Qa v.2.2.2.1), v10_13, v11_13, Qo, mp rr4.1, v12_7, mp rr4.2) :: Qh 3 kI v10_13 (((Ym v.2.2.2.1).take k) ++ [ixI (Qa v.2.2.2.1) a.1]) :: Qh 3 kI v11_13 (((toL v.2.2.2.1).take k) ++ [ixI (Qa v.2.2.2.1) a.2.2]) :: Qh 117 Q3 v12_7 (List.map mp (g6_1 :: (gs ++ [g12_5]))) :: Qb g9_2 49 kA a :: Qg rr4.2 encS kI.T [] :: Qb g0_0 25 kV v :: Qg rr4.1 encS (kpt kAl).T (Zn m) :: (lvI (g6_1 :: (gs ++ [g12_5])) (lvN (k + 1)) ++ Yf m)) (Qg rr.1 encI IsV [] :: Qg rr.2.1 encI IsV [] :: Qg rr.2.2.1 Zu Xd.T [] :: Qb g4_6 115 kR (v, (Qa v.2.2.2.1), v10_13, v11_13, Qo, mp rr4.1, v12_7, mp rr4.2) :: Qh 3 kI v10_13 (((Ym v.2.2.2.1).take k) ++ [ixI (Qa v.2.2.2.1) a.1]) :: Qh 3 kI v11_13 (((toL v.2.2.2.1).take k) ++ [ixI (Qa v.2.2.2.1) a.2.2]) :: Qh 117 Q3 v12_7 (List.map mp (g6_1 :: (gs ++ [g12_5]))) :: Qb g9_2 49 kA a :: Qg rr4.2 encS kI.T [] :: Qb g0_0 25 kV v :: Qg rr4.1 encS (kpt kAl).T (Zn m) :: (lvI (g6_1 :: (gs ++ [g12_5])) (lvN (k + 1)) ++ Yf m))) (cond (c.getD 3 false) ([]) (Qg rr.1 encI IsV [] :: Qg rr.2.1 encI IsV [] :: Qb g4_6 115 kR (v, (Qa v.2.2.2.1), v10_13, v11_13, Qo, mp rr4.1, v12_7, mp rr4.2) :: Qh 3 kI v10_13 (((Ym v.2.2.2.1).take k) ++ [ixI (Qa v.2.2.2.1) a.1]) :: Qh 3 kI v11_13 (((toL v.2.2.2.1).take k) ++ [ixI (Qa v.2.2.2.1) a.2.2]) :: Qh 117 Q3 v12_7 (List.map mp (g6_1 :: (gs ++ [g12_5]))) :: Qb g9_2 49 kA a :: Qg rr4.2 encS kI.T [] :: Qb g0_0 25 kV v :: Qg rr4.1 encS (kpt kAl).T (Zn m) :: (lvI (g6_1 :: (gs ++ [g12_5])) (lvN (k + 1)) ++ Yf m)))) (cond (c.getD 2 false) (cond (c.getD 3 false) ([]) (Qg rr.1 encI IsV [] :: Qg rr.2.2.1 Zu Xd.T [] :: Qb g4_6 115 kR (v, (Qa v.2.2.2.1), v10_13, v11_13, Qo, mp rr4.1, v12_7, mp rr4.2) :: Qh 3 kI v10_13 (((Ym v.2.2.2.1).take k) ++ [ixI (Qa v.2.2.2.1) a.1]) :: Qh 3 kI v11_13 (((toL v.2.2.2.1).take k) ++ [ixI (Qa v.2.2.2.1) a.2.2]) :: Qh 117 Q3 v12_7 (List.map mp (g6_1 :: (gs ++ [g12_5]))) :: Qb g9_2 49 kA a :: Qg rr4.2 encS kI.T [] :: Qb g0_0 25 kV v :: Qg rr4.1 encS (kpt kAl).T (Zn m) :: (lvI (g6_1 :: (gs ++ [g12_5])) (lvN (k + 1)) ++ Yf m))) (cond (c.getD 3 false) ([]) (Qg rr.1 encI IsV [] :: Qb g4_6 115 kR (v, (Qa v.2.2.2.1), v10_13, v11_13, Qo, mp rr4.1, v12_7, mp rr4.2) :: Qh 3 kI v10_13 (((Ym v.2.2.2.1).take k) ++ [ixI (Qa v.2.2.2.1) a.1]) :: Qh 3 kI v11_13 (((toL v.2.2.2.1).take k) ++ [ixI (Qa v.2.2.2.1) a.2.2]) :: Qh 117 Q3 v12_7 (List.map mp (g6_1 :: (gs ++ [g12_5]))) :: Qb g9_2 49 kA a :: Qg rr4.2 encS kI.T [] :: Qb g0_0 25 kV v :: Qg rr4.1 encS (kpt kAl).T (Zn m) :: (lvI (g6_1 :: (gs ++ [g12_5])) (lvN (k + 1)) ++ Yf m))))) (cond (c.getD 1 false) (cond (c.getD 2 false) (cond (c.getD 3 false) ([]) (Qg rr.2.1 encI IsV [] :: Qg rr.2.2.1 Zu Xd.T [] :: Qb g4_6 115 kR (v, (Qa v.2.2.2.1), v10_13, v11_13, Qo, mp rr4.1, v12_7, mp rr4.2) :: Qh 3 kI v10_13 (((Ym v.2.2.2.1).take k) ++ [ixI (Qa v.2.2.2.1) a.1]) :: Qh 3 kI v11_13 (((toL v.2.2.2.1).take k) ++ [ixI (Qa v.2.2.2.1) a.2.2]) :: Qh 117 Q3 v12_7 (List.map mp (g6_1 :: (gs ++ [g12_5]))) :: Qb g9_2 49 kA a :: Qg rr4.2 encS kI.T [] :: Qb g0_0 25 kV v :: Qg rr4.1 encS (kpt kAl).T (Zn m) :: (lvI (g6_1 :: (gs ++ [g12_5])) (lvN (k + 1)) ++ Yf m))) (cond (c.getD 3 false) ([]) (Qg rr.2.1 encI IsV [] :: Qb g4_6 115 kR (v, (Qa v.2.2.2.1), v10_13, v11_13, Qo, mp rr4.1, v12_7, mp rr4.2) :: Qh 3 kI v10_13 (((Ym v.2.2.2.1).take k) ++ [ixI (Qa v.2.2.2.1) a.1]) :: Qh 3 kI v11_13 (((toL v.2.2.2.1).take k) ++ [ixI (Qa v.2.2.2.1) a.2.2]) :: Qh 117 Q3 v12_7 (List.map mp (g6_1 :: (gs ++ [g12_5]))) :: Qb g9_2 49 kA a :: Qg rr4.2 encS kI.T [] :: Qb g0_0 25 kV v :: Qg rr4.1 encS (kpt kAl).T (Zn m) :: (lvI (g6_1 :: (gs ++ [g12_5])) (lvN (k + 1)) ++ Yf m)))) (cond (c.getD 2 false) (cond (c.getD 3 false) ([]) (Qg rr.2.2.1 Zu Xd.T [] :: Qb g4_6 115 kR (v, (Qa v.2.2.2.1), v10_13, v11_13, Qo, mp rr4.1, v12_7, mp rr4.2) :: Qh 3 kI v10_13 (((Ym v.2.2.2.1).take k) ++ [ixI (Qa v.2.2.2.1) a.1]) :: Qh 3 kI v11_13 (((toL v.2.2.2.1).take k) ++ [ixI (Qa v.2.2.2.1) a.2.2]) :: Qh 117 Q3 v12_7 (List.map mp (g6_1 :: (gs ++ [g12_5]))) :: Qb g9_2 49 kA a :: Qg rr4.2 encS kI.T [] :: Qb g0_0 25 kV v :: Qg rr4.1 encS (kpt kAl).T (Zn m) :: (lvI (g6_1 :: (gs ++ [g12_5])) (lvN (k + 1)) ++ Yf m))) (cond (c.getD 3 false) ([]) (Qb g4_6 115 kR (v, (Qa v.2.2.2.1), v10_13, v11_13, Qo, mp rr4.1, v12_7, mp rr4.2) :: Qh 3 kI v10_13 (((Ym v.2.2.2.1).take k) ++ [ixI (Qa v.2.2.2.1) a.1]) :: Qh 3 kI v11_13 (((toL v.2.2.2.1).take k) ++ [ixI (Qa v.2.2.2.1) a.2.2]) :: Qh 117 Q3 v12_7 (List.map mp (g6_1 :: (gs ++ [g12_5]))) :: Qb g9_2 49 kA a :: Qg rr4.2 encS kI.T [] :: Qb g0_0 25 kV v :: Qg rr4.1 encS (kpt kAl).T (Zn m) :: (lvI (g6_1 :: (gs ++ [g12_5])) (lvN (k + 1)) ++ Yf m)))))) (0, 0, 0, 0) trivial (by kernel_rfl) (by kernel_rfl) (m := 11) (ns := [[(9, none)], [(106, some 0)], [(107, some 1)], [(108, some 2)], [(11, none)], [(110, some 4)], [], [], [], [(112, some 6), (113, some 7), (114, some 8)], [(115, some 9)]]) (by kernel_rfl) (Ts := fun rr => [_, _, _, _, _, _, IsV (mp rr.1), IsV (mp rr.2.1), IsV (mp rr.2.2.1), kAl.T (mp rr.1, mp rr.2.1, mp rr.2.2.1), IsV (pt rr.2.2.2 0)]) (fun _ => rfl)
         case hops =>
          refine ⟨?_, ?_, ?_, ?_, ?_, ?_, ?_, ?_, ?_, ?_, ?_, trivial⟩
          · exact ⟨⟨[[false, false, false, false], [true, false, false, false], [false, true, false, false], [true, true, false, false], [false, false, true, false], [true, false, true, false], [false, true, true, false], [true, true, true, false], [true, true, true, true]], by kernel_rfl, fun rr hrr => rgo rr rfl ⟨hrr, rfl⟩ (rmv rfl), fun rr hrr => rgo rr rfl ⟨hrr, rfl⟩ (rmv rfl), fun rr hrr => rgo rr rfl ⟨hrr, rfl⟩ (rmv rfl), fun rr hrr => rgo rr rfl ⟨hrr, rfl⟩ (rmv rfl), fun rr hrr => rgo rr rfl ⟨hrr, rfl⟩ (rmv rfl), fun rr hrr => rgo rr rfl ⟨hrr, rfl⟩ (rmv rfl), fun rr hrr => rgo rr rfl ⟨hrr, rfl⟩ (rmv rfl), fun rr hrr => rgo rr rfl ⟨hrr, rfl⟩ (rmv rfl), fun rr hrr => rgo rr rfl ⟨hrr, rfl⟩ (rmv rfl), trivial⟩, ⟨fun _ _ _ _ => rfl, fun _ _ _ _ => rfl, fun _ _ _ _ => rfl, fun _ _ _ _ => rfl, trivial⟩⟩
          · exact ⟨⟨[[false, false, false, false], [true, false, false, false], [false, true, false, false], [true, true, false, false], [false, false, true, false], [true, false, true, false], [false, true, true, false], [true, true, true, false], [true, true, true, true]], by kernel_rfl, fun rr hrr => rgo rr rfl ⟨hrr, rfl⟩ (rP (Qe oz)), fun rr hrr => rgo rr rfl ⟨hrr, rfl⟩ (rP (Qe oz)), fun rr hrr => rgo rr rfl ⟨hrr, rfl⟩ (rP (Qe oz)), fun rr hrr => rgo rr rfl ⟨hrr, rfl⟩ (rP (Qe oz)), fun rr hrr => rgo rr rfl ⟨hrr, rfl⟩ (rP (Qe oz)), fun rr hrr => rgo rr rfl ⟨hrr, rfl⟩ (rP (Qe oz)), fun rr hrr => rgo rr rfl ⟨hrr, rfl⟩ (rP (Qe oz)), fun rr hrr => rgo rr rfl ⟨hrr, rfl⟩ (rP (Qe oz)), fun rr hrr => rgo rr rfl ⟨hrr, rfl⟩ (rP (Qe oz)), trivial⟩, ⟨fun _ _ _ _ => rfl, fun _ _ _ _ => rfl, fun _ _ _ _ => rfl, fun _ _ _ _ => rfl, trivial⟩⟩
          · exact ⟨⟨[[false, false, false, false], [true, false, false, false], [false, true, false, false], [true, true, false, false], [false, false, true, false], [true, false, true, false], [false, true, true, false], [true, true, true, false], [true, true, true, true]], by kernel_rfl, fun rr hrr => rgo rr rfl ⟨hrr, rfl⟩ (rP (pf oz yha)), fun rr hrr => rgo rr rfl ⟨hrr, rfl⟩ (rP (pf oz yha)), fun rr hrr => rgo rr rfl ⟨hrr, rfl⟩ (rP (pf oz yha)), fun rr hrr => rgo rr rfl ⟨hrr, rfl⟩ (rP (pf oz yha)), fun rr hrr => rgo rr rfl ⟨hrr, rfl⟩ (rP (pf oz yha)), fun rr hrr => rgo rr rfl ⟨hrr, rfl⟩ (rP (pf oz yha)), fun rr hrr => rgo rr rfl ⟨hrr, rfl⟩ (rP (pf oz yha)), fun rr hrr => rgo rr rfl ⟨hrr, rfl⟩ (rP (pf oz yha)), fun rr hrr => rgo rr rfl ⟨hrr, rfl⟩ (rP (pf oz yha)), trivial⟩, ⟨fun _ _ _ _ => rfl, fun _ _ _ _ => rfl, fun _ _ _ _ => rfl, fun _ _ _ _ => rfl, trivial⟩⟩
          · exact ⟨⟨[[false, false, false, false], [true, false, false, false], [false, true, false, false], [true, true, false, false], [false, false, true, false], [true, false, true, false], [false, true, true, false], [true, true, true, false], [true, true, true, true]], by kernel_rfl, fun rr hrr => rgo rr rfl ⟨hrr, rfl⟩ (rP (Ql oz (mA 0 rfl) lr5 y32)), fun rr hrr => rgo rr rfl ⟨hrr, rfl⟩ (rP (Ql oz (mA 1 rfl) lr5 y32)), fun rr hrr => rgo rr rfl ⟨hrr, rfl⟩ (rP (Ql oz (mA 1 rfl) lr5 y32)), fun rr hrr => rgo rr rfl ⟨hrr, rfl⟩ (rP (Ql oz (mA 2 rfl) lr5 y32)), fun rr hrr => rgo rr rfl ⟨hrr, rfl⟩ (rP (Ql oz (mA 1 rfl) lr5 y32)), fun rr hrr => rgo rr rfl ⟨hrr, rfl⟩ (rP (Ql oz (mA 2 rfl) lr5 y32)), fun rr hrr => rgo rr rfl ⟨hrr, rfl⟩ (rP (Ql oz (mA 2 rfl) lr5 y32)), fun rr hrr => rgo rr rfl ⟨hrr, rfl⟩ (rP (Ql oz (mA 3 rfl) lr5 y32)), fun rr hrr => rgo rr rfl ⟨hrr, rfl⟩ (rP (Ql oz (mA 4 rfl) lr5 y32)), trivial⟩, ⟨fun _ _ _ _ => rfl, fun _ _ _ _ => rfl, fun _ _ _ _ => rfl, fun _ _ _ _ => rfl, trivial⟩⟩
          · exact ⟨⟨[[false, false, false, false], [true, false, false, false], [false, true, false, false], [true, true, false, false], [false, false, true, false], [true, false, true, false], [false, true, true, false], [true, true, true, false], [true, true, true, true]], by kernel_rfl, fun rr hrr => rgo rr rfl ⟨hrr, rfl⟩ (rP (pf oz yl2)), fun rr hrr => rgo rr rfl ⟨hrr, rfl⟩ (rP (pf oz yl2)), fun rr hrr => rgo rr rfl ⟨hrr, rfl⟩ (rP (pf oz yl2)), fun rr hrr => rgo rr rfl ⟨hrr, rfl⟩ (rP (pf oz yl2)), fun rr hrr => rgo rr rfl ⟨hrr, rfl⟩ (rP (pf oz yl2)), fun rr hrr => rgo rr rfl ⟨hrr, rfl⟩ (rP (pf oz yl2)), fun rr hrr => rgo rr rfl ⟨hrr, rfl⟩ (rP (pf oz yl2)), fun rr hrr => rgo rr rfl ⟨hrr, rfl⟩ (rP (pf oz yl2)), fun rr hrr => rgo rr rfl ⟨hrr, rfl⟩ (rP (pf oz yl2)), trivial⟩, ⟨fun _ _ _ _ => rfl, fun _ _ _ _ => rfl, fun _ _ _ _ => rfl, fun _ _ _ _ => rfl, trivial⟩⟩
          · exact ⟨⟨[[false, false, false, false], [true, false, false, false], [false, true, false, false], [true, true, false, false], [false, false, true, false], [true, false, true, false], [false, true, true, false], [true, true, true, false], [true, true, true, true]], by kernel_rfl, fun rr hrr => rgo rr rfl ⟨hrr, rfl⟩ (rP (plb oz (mA 4 rfl) la1 ylw)), fun rr hrr => rgo rr rfl ⟨hrr, rfl⟩ (rP (plb oz (mA 5 rfl) la1 ylw)), fun rr hrr => rgo rr rfl ⟨hrr, rfl⟩ (rP (plb oz (mA 5 rfl) la1 ylw)), fun rr hrr => rgo rr rfl ⟨hrr, rfl⟩ (rP (plb oz (mA 6 rfl) la1 ylw)), fun rr hrr => rgo rr rfl ⟨hrr, rfl⟩ (rP (plb oz (mA 5 rfl) la1 ylw)), fun rr hrr => rgo rr rfl ⟨hrr, rfl⟩ (rP (plb oz (mA 6 rfl) la1 ylw)), fun rr hrr => rgo rr rfl ⟨hrr, rfl⟩ (rP (plb oz (mA 6 rfl) la1 ylw)), fun rr hrr => rgo rr rfl ⟨hrr, rfl⟩ (rP (plb oz (mA 7 rfl) la1 ylw)), fun rr hrr => rgo rr rfl ⟨hrr, rfl⟩ (rP (plb oz (mA 8 rfl) la1 ylw)), trivial⟩, ⟨fun _ _ _ _ => rfl, fun _ _ _ _ => rfl, fun _ _ _ _ => rfl, fun _ _ _ _ => rfl, trivial⟩⟩
          · refine ⟨⟨[[false, false, false, false], [false, true, false, false], [false, false, true, false], [false, true, true, false]], by kernel_rfl, ⟨?_, ⟨?_, ⟨?_, ⟨?_, trivial⟩⟩⟩⟩⟩, ?_⟩
            · intro rr hrr; exact Zh (fun x => (x, rr.2)) rfl (Q9 encI IsV) pR (fun _ => (by exact List.Perm.symm (Qq 0 rfl))) (fun r hr => ⟨trivial, by first | exact rfl | exact ⟨rfl, rfl⟩ | exact ⟨rfl, rfl, rfl⟩⟩) (fun _ _ _ _ h => h)
            · intro rr hrr; exact Zh (fun x => (x, rr.2)) rfl (Q9 encI IsV) pR (fun _ => (by exact List.Perm.symm (Qq 0 rfl))) (fun r hr => ⟨trivial, by first | exact rfl | exact ⟨rfl, rfl⟩ | exact ⟨rfl, rfl, rfl⟩⟩) (fun _ _ _ _ h => h)
            · intro rr hrr; exact Zh (fun x => (x, rr.2)) rfl (Q9 encI IsV) pR (fun _ => (by exact List.Perm.symm (Qq 0 rfl))) (fun r hr => ⟨trivial, by first | exact rfl | exact ⟨rfl, rfl⟩ | exact ⟨rfl, rfl, rfl⟩⟩) (fun _ _ _ _ h => h)
            · intro rr hrr; exact Zh (fun x => (x, rr.2)) rfl (Q9 encI IsV) pR (fun _ => (by exact List.Perm.symm (Qq 0 rfl))) (fun r hr => ⟨trivial, by first | exact rfl | exact ⟨rfl, rfl⟩ | exact ⟨rfl, rfl, rfl⟩⟩) (fun _ _ _ _ h => h)
            exact ⟨fun h => Bool.noConfusion (h.symm.trans (by kernel_rfl : _ = true)), ⟨fun _ r r' h => by first | rfl | (have h : r'.1 = r.1 ∧ r'.2.2 = r.2.2 := h; show (fun rr => IsV (mp rr.1)) r = (fun rr => IsV (mp rr.1)) r'; simp only [h]), ⟨fun _ r r' h => by first | rfl | (have h : r'.1 = r.1 ∧ r'.2.1 = r.2.1 ∧ r'.2.2.2 = r.2.2.2 := h; show (fun rr => IsV (mp rr.1)) r = (fun rr => IsV (mp rr.1)) r'; simp only [h]), ⟨fun _ r r' h => by first | rfl | (have h : r'.1 = r.1 ∧ r'.2.1 = r.2.1 ∧ r'.2.2.1 = r.2.2.1 := h; show (fun rr => IsV (mp rr.1)) r = (fun rr => IsV (mp rr.1)) r'; simp only [h]), trivial⟩⟩⟩⟩
          · refine ⟨⟨[[false, false, false, false], [true, false, false, false], [false, false, true, false], [true, false, true, false]], by kernel_rfl, ⟨?_, ⟨?_, ⟨?_, ⟨?_, trivial⟩⟩⟩⟩⟩, ?_⟩
            · intro rr hrr; exact Zh (fun x => (rr.1, x, rr.2.2)) rfl (Q9 encI IsV) pR (fun _ => (by exact List.Perm.symm (Qq 0 rfl))) (fun r hr => ⟨trivial, by first | exact rfl | exact ⟨rfl, rfl⟩ | exact ⟨rfl, rfl, rfl⟩⟩) (fun _ _ _ _ h => h)
            · intro rr hrr; exact Zh (fun x => (rr.1, x, rr.2.2)) rfl (Q9 encI IsV) pR (fun _ => (by exact List.Perm.symm (Qq 1 rfl))) (fun r hr => ⟨trivial, by first | exact rfl | exact ⟨rfl, rfl⟩ | exact ⟨rfl, rfl, rfl⟩⟩) (fun _ _ _ _ h => h)
            · intro rr hrr; exact Zh (fun x => (rr.1, x, rr.2.2)) rfl (Q9 encI IsV) pR (fun _ => (by exact List.Perm.symm (Qq 0 rfl))) (fun r hr => ⟨trivial, by first | exact rfl | exact ⟨rfl, rfl⟩ | exact ⟨rfl, rfl, rfl⟩⟩) (fun _ _ _ _ h => h)
            · intro rr hrr; exact Zh (fun x => (rr.1, x, rr.2.2)) rfl (Q9 encI IsV) pR (fun _ => (by exact List.Perm.symm (Qq 1 rfl))) (fun r hr => ⟨trivial, by first | exact rfl | exact ⟨rfl, rfl⟩ | exact ⟨rfl, rfl, rfl⟩⟩) (fun _ _ _ _ h => h)
            exact ⟨fun _ r r' h => by first | rfl | (have h : r'.2 = r.2 := h; show (fun rr => IsV (mp rr.2.1)) r = (fun rr => IsV (mp rr.2.1)) r'; simp only [h]), ⟨fun h => Bool.noConfusion (h.symm.trans (by kernel_rfl : _ = true)), ⟨fun _ r r' h => by first | rfl | (have h : r'.1 = r.1 ∧ r'.2.1 = r.2.1 ∧ r'.2.2.2 = r.2.2.2 := h; show (fun rr => IsV (mp rr.2.1)) r = (fun rr => IsV (mp rr.2.1)) r'; simp only [h]), ⟨fun _ r r' h => by first | rfl | (have h : r'.1 = r.1 ∧ r'.2.1 = r.2.1 ∧ r'.2.2.1 = r.2.2.1 := h; show (fun rr => IsV (mp rr.2.1)) r = (fun rr => IsV (mp rr.2.1)) r'; simp only [h]), trivial⟩⟩⟩⟩
          · refine ⟨⟨[[false, false, false, false], [true, false, false, false], [false, true, false, false], [true, true, false, false]], by kernel_rfl, ⟨?_, ⟨?_, ⟨?_, ⟨?_, trivial⟩⟩⟩⟩⟩, ?_⟩
            · intro rr hrr; exact Zh (fun x => (rr.1, rr.2.1, x, rr.2.2.2)) rfl (Q9 Zu Xd.T) pR (fun _ => (by exact List.Perm.symm (Qq 0 rfl))) (fun r hr => ⟨trivial, by first | exact rfl | exact ⟨rfl, rfl⟩ | exact ⟨rfl, rfl, rfl⟩⟩) (fun _ _ _ _ h => h)
            · intro rr hrr; exact Zh (fun x => (rr.1, rr.2.1, x, rr.2.2.2)) rfl (Q9 Zu Xd.T) pR (fun _ => (by exact List.Perm.symm (Qq 1 rfl))) (fun r hr => ⟨trivial, by first | exact rfl | exact ⟨rfl, rfl⟩ | exact ⟨rfl, rfl, rfl⟩⟩) (fun _ _ _ _ h => h)
            · intro rr hrr; exact Zh (fun x => (rr.1, rr.2.1, x, rr.2.2.2)) rfl (Q9 Zu Xd.T) pR (fun _ => (by exact List.Perm.symm (Qq 1 rfl))) (fun r hr => ⟨trivial, by first | exact rfl | exact ⟨rfl, rfl⟩ | exact ⟨rfl, rfl, rfl⟩⟩) (fun _ _ _ _ h => h)
            · intro rr hrr; exact Zh (fun x => (rr.1, rr.2.1, x, rr.2.2.2)) rfl (Q9 Zu Xd.T) pR (fun _ => (by exact List.Perm.symm (Qq 2 rfl))) (fun r hr => ⟨trivial, by first | exact rfl | exact ⟨rfl, rfl⟩ | exact ⟨rfl, rfl, rfl⟩⟩) (fun _ _ _ _ h => h)
            exact ⟨fun _ r r' h => by first | rfl | (have h : r'.2 = r.2 := h; show (fun rr => IsV (mp rr.2.2.1)) r = (fun rr => IsV (mp rr.2.2.1)) r'; simp only [h]), ⟨fun _ r r' h => by first | rfl | (have h : r'.1 = r.1 ∧ r'.2.2 = r.2.2 := h; show (fun rr => IsV (mp rr.2.2.1)) r = (fun rr => IsV (mp rr.2.2.1)) r'; simp only [h]), ⟨fun h => Bool.noConfusion (h.symm.trans (by kernel_rfl : _ = true)), ⟨fun _ r r' h => by first | rfl | (have h : r'.1 = r.1 ∧ r'.2.1 = r.2.1 ∧ r'.2.2.1 = r.2.2.1 := h; show (fun rr => IsV (mp rr.2.2.1)) r = (fun rr => IsV (mp rr.2.2.1)) r'; simp only [h]), trivial⟩⟩⟩⟩
          · refine ⟨⟨[[true, true, true, false]], by kernel_rfl, ⟨?_, trivial⟩⟩, ?_⟩
            · intro rr hrr; exact rgo rr rfl ⟨hrr, rfl⟩ (rP (Zb (d := kAl) (v0 := (.map none, .map none, .map none)) (ps := [(0, 1), (1, 1), (2, 1)]) Q41 (by kernel_rfl) rfl (Qk rfl lx0 (by exact OT.raw oz rfl) (Qk rfl lx1 (by exact OT.raw oz rfl) (Qk rfl lx2 (by exact OT.raw oz rfl) Qc)))))
            exact ⟨fun h => Bool.noConfusion (h.symm.trans (by kernel_rfl : _ = true)), ⟨fun h => Bool.noConfusion (h.symm.trans (by kernel_rfl : _ = true)), ⟨fun h => Bool.noConfusion (h.symm.trans (by kernel_rfl : _ = true)), ⟨fun _ r r' h => by first | rfl | (have h : r'.1 = r.1 ∧ r'.2.1 = r.2.1 ∧ r'.2.2.1 = r.2.2.1 := h; show (fun rr => kAl.T (mp rr.1, mp rr.2.1, mp rr.2.2.1)) r = (fun rr => kAl.T (mp rr.1, mp rr.2.1, mp rr.2.2.1)) r'; simp only [h]), trivial⟩⟩⟩⟩
          refine ⟨⟨[[true, true, true, false]], by kernel_rfl, ⟨?_, trivial⟩⟩, ?_⟩
          · intro rr hrr; exact Zh (fun x => (rr.1, rr.2.1, rr.2.2.1, x)) rfl (Xf (d := kAl) oz) pR (fun _ => (by exact List.Perm.symm (Qq 3 rfl))) (fun r hr => ⟨trivial, by first | exact rfl | exact ⟨rfl, rfl⟩ | exact ⟨rfl, rfl, rfl⟩⟩) (fun _ _ _ _ h => h)
          exact ⟨fun h => Bool.noConfusion (h.symm.trans (by kernel_rfl : _ = true)), ⟨fun h => Bool.noConfusion (h.symm.trans (by kernel_rfl : _ = true)), ⟨fun h => Bool.noConfusion (h.symm.trans (by kernel_rfl : _ = true)), ⟨fun h => Bool.noConfusion (h.symm.trans (by kernel_rfl : _ = true)), trivial⟩⟩⟩⟩
         case h =>
          intro rr14 hrr14
          refine Qhs Frz.blk (Qq 3 rfl) 116 oz (fun H q => q) (oA (X4 (v := some (mp rr14.1, mp rr14.2.1, mp rr14.2.2.1)) mkS Tryz.underlying111 oz (pA 10 rfl) oz oz) (pA 10 rfl) rfl rfl (fun _ _ => ?_))
          refine tn (bn (nn ?_))
          have hst1 := Qjr hk ha2
          have hst2 := Qq2 hk ha2
          refine rg (oP (pad oz ot (by omega)) rfl (mv rfl rfl (tn (nn ?_))))
          exact tg (k + 1, v10_13, v11_13, v12_7, gs ++ [g12_5], ptk a.2.1 ⟨rr14.1, rr14.2.1, rr14.2.2.1, [], [], []⟩ m) ⟨(by show k + 1 ≤ v.2.2.2.1.length; omega), (by show (gs ++ [g12_5]).length = k + 1; rw [List.length_append, hgs]; rfl), Q0u hals hk ha2 hn⟩ (by show v.2.2.2.1.length - (k + 1) < v.2.2.2.1.length - k; omega) ef (op (Jz (Q0v [_, _, _, _, _, _, _] hn) (by rw [hst1, hst2]; exact (by (repeat (first | refine pc 0 rfl ?_ | refine pc 1 rfl ?_)); exact pd (pl)))))
       have hs : (lkp a.2.1 m).isSome = true := by
        cases hx : lkp a.2.1 m with
        | none => rw [hx] at c105; cases c105
        | some a => rfl
       refine sk (bn (nn ?_))
       have hst1 := Qjr hk ha2
       have hst2 := Qq2 hk ha2
       refine rg (oP (pad oz ot (by omega)) rfl (mv rfl rfl (tn (nn ?_))))
       exact tg (k + 1, v10_13, v11_13, v12_7, gs ++ [g12_5], m) ⟨(by show k + 1 ≤ v.2.2.2.1.length; omega), (by show (gs ++ [g12_5]).length = k + 1; rw [List.length_append, hgs]; rfl), Qmz hals hk ha2 hs⟩ (by show v.2.2.2.1.length - (k + 1) < v.2.2.2.1.length - k; omega) ef (op (by rw [hst1, hst2]; exact (by (repeat (first | refine pc 0 rfl ?_ | refine pc 1 rfl ?_)); exact pd (pl))))
  refine Qx (tx (tx (bh (nn (sq (sq ?_))))))
  obtain rfl : k = v.2.2.2.1.length := by simp only [decide_eq_false_iff_not] at c53; omega
  rw [List.take_of_length_le (show (Ym v.2.2.2.1).length ≤ v.2.2.2.1.length by rw [Wy]; exact Nat.le_refl _), List.take_of_length_le (show (toL v.2.2.2.1).length ≤ v.2.2.2.1.length by rw [Qa5]; exact Nat.le_refl _)]
  refine rg (oP (pf oz yss) rfl (oP (plb oz (mA 5 rfl) lv2 ye4) rfl (oP (pls oz Tryz.underlying22) rfl (oP (Qm ot) rfl (tn (Xg 3 kI (nn (tb (Qt (σ := Nat × Value) (e4 1 9 119 120 rfl en) (fun s => [(121, I64 (s.1 : Int))]) (fun s => (Qb g4_6 115 kR (v, (Qa v.2.2.2.1), fv, tv, s.2, mp rr4.1, lvv, mp rr4.2) :: Qh 3 kI s.2 ((Qdo v).take s.1) :: Qh 3 kI fv (Ym v.2.2.2.1) :: Qh 3 kI tv (toL v.2.2.2.1) :: Qh 117 Q3 lvv (List.map mp (g6_1 :: gs)) :: Qg rr4.2 encS kI.T [] :: Qb g0_0 25 kV v :: Qg rr4.1 encS (kpt kAl).T (Zn m) :: (lvI (g6_1 :: gs) (lvN v.2.2.2.1.length) ++ Yf m))) (fun s => s.1 ≤ v.2.2.1.length) (fun s => v.2.2.1.length - s.1) (0, Qo) (Nat.zero_le _) ?_ (op (by (repeat (first | refine pc 0 rfl ?_ | refine pc 1 rfl ?_)); exact pl)) ?_)))))))))
  · exact (ec 121 rfl en)
  rintro ⟨i, ov⟩ hi
  dsimp only at hi ⊢
  refine sq (rg (oP (Q5 oz oz) rfl (tn (nn (sq (tc oz (fun c122 => ?_) (fun c122 => ?_)))))))
  · refine sk (nn (sq (tb (sq ?_))))
    have hil : i < v.2.2.1.length := by simpa using c122
    obtain ⟨o, hoo⟩ : ∃ o, at' v.2.2.1 (i : Int) = o := ⟨_, rfl⟩
    have hoi : o ∈ (Qa v.2.2.2.1) := hov o (by rw [← hoo, Q1 hil]; exact List.getElem_mem hil)
    have hol : ((Qdo v).take i).length = i := by rw [List.length_take, Qb4]; omega
    have hst := Qsu hil hoo hoi
    refine rg (oP (Qj oz oz Tryz.underlying22 ylw (by omega) (by omega)) rfl (oP (pL oz ylw) rfl (av rfl rfl (tn ?_))))
    rw [hoo]
    refine nn ?_
    apply Yg (ρ := Value) (φ := fun rr => True) (p := 12) (Lf := fun c rr => cond c (Qh 3 kI rr (((Qdo v).take i) ++ [ixI (Qa v.2.2.2.1) o]) :: Qb g4_6 115 kR (v, (Qa v.2.2.2.1), fv, tv, ov, mp rr4.1, lvv, mp rr4.2) :: Qh 3 kI fv (Ym v.2.2.2.1) :: Qh 3 kI tv (toL v.2.2.2.1) :: Qh 117 Q3 lvv (List.map mp (g6_1 :: gs)) :: Qg rr4.2 encS kI.T [] :: Qb g0_0 25 kV v :: Qg rr4.1 encS (kpt kAl).T (Zn m) :: (lvI (g6_1 :: gs) (lvN v.2.2.2.1.length) ++ Yf m)) (Qb g4_6 115 kR (v, (Qa v.2.2.2.1), fv, tv, ov, mp rr4.1, lvv, mp rr4.2) :: Qh 3 kI ov ((Qdo v).take i) :: Qh 3 kI fv (Ym v.2.2.2.1) :: Qh 3 kI tv (toL v.2.2.2.1) :: Qh 117 Q3 lvv (List.map mp (g6_1 :: gs)) :: Qg rr4.2 encS kI.T [] :: Qb g0_0 25 kV v :: Qg rr4.1 encS (kpt kAl).T (Zn m) :: (lvI (g6_1 :: gs) (lvN v.2.2.2.1.length) ++ Yf m))) Qo (by kernel_rfl) (m := 13) (ns := [[(9, none)], [(9, none)], [(126, some 1)], [(127, some 2)], [(128, some 3)], [(9, none)], [(130, some 5)], [(131, some 6)], [(132, some 7)], [(13, none)], [(133, some 8), (134, some 9)], [(135, some 10)], [(129, some 4), (136, some 11)]]) (by kernel_rfl) (by kernel_rfl) (Ts := fun rr => [_, _, _, _, _, _, _, _, _, _, _, _, IsV rr]) (fun _ => rfl)
    case hops =>
     refine ⟨?_, ?_, ?_, ?_, ?_, ?_, ?_, ?_, ?_, ?_, ?_, ?_, ?_, trivial⟩
     · exact ⟨by intro c r hc; cases c <;> exact rgo r rfl ⟨rfl, trivial⟩ (rmv rfl), fun _ _ _ _ => rfl⟩
     · exact ⟨cBf (by kernel_rfl) fun r _ => rgo r rfl ⟨rfl, trivial⟩ (rmv rfl), fun _ _ _ _ => rfl⟩
     · exact ⟨cBf (by kernel_rfl) fun r _ => rgo r rfl ⟨rfl, trivial⟩ (rP (Qe oz)), fun _ _ _ _ => rfl⟩
     · exact ⟨cBf (by kernel_rfl) fun r _ => rgo r rfl ⟨rfl, trivial⟩ (rP (pf oz yc1)), fun _ _ _ _ => rfl⟩
     · exact ⟨cBf (by kernel_rfl) fun r _ => rgo r rfl ⟨rfl, trivial⟩ (rP (Ql oz (mA 0 rfl) lr4 yo2)), fun _ _ _ _ => rfl⟩
     · exact ⟨cBf (by kernel_rfl) fun r _ => rgo r rfl ⟨rfl, trivial⟩ (rmv rfl), fun _ _ _ _ => rfl⟩
     · exact ⟨cBf (by kernel_rfl) fun r _ => rgo r rfl ⟨rfl, trivial⟩ (rP (Qe oz)), fun _ _ _ _ => rfl⟩
     · exact ⟨cBf (by kernel_rfl) fun r _ => rgo r rfl ⟨rfl, trivial⟩ (rP (pf oz ykt)), fun _ _ _ _ => rfl⟩
     · exact ⟨cBf (by kernel_rfl) fun r _ => rgo r rfl ⟨rfl, trivial⟩ (rP (plb oz (mA 0 rfl) lr1 ye4)), fun _ _ _ _ => rfl⟩
     · exact ⟨cBf (by kernel_rfl) fun r _ => rgo r rfl ⟨rfl, trivial⟩ (rmv rfl), fun _ _ _ _ => rfl⟩
     · exact ⟨cBf (by kernel_rfl) fun r _ => rgo r rfl ⟨rfl, trivial⟩ (Zc rfl (aC (W2 (Qa v.2.2.2.1) _ (by omega)) yd4 (oc oz (oc oz oN)) pR) (fun _ _ _ _ h => h)), fun _ _ _ _ => rfl⟩
     · exact ⟨cBf (by kernel_rfl) fun r _ => rgo r rfl ⟨rfl, trivial⟩ (Zc rfl (Q7 (d := kI) (v0 := 0) y9t ynm zI (show 1 * 1 ≤ 16777216 from by decide) (by decide) (Qv rfl rfl (by decide) oz Qc)) (fun _ _ _ _ h => h)), fun _ _ _ _ => rfl⟩
     refine ⟨?_, ?_⟩
     · exact cBf (by kernel_rfl) fun r _ => Zg rfl (Q0 oz (pA 1 rfl) oz y9t (by (simp; omega)) (by (simp; omega))) (pA 1 rfl) (fun r => pR) (fun _ _ _ => trivial) (fun _ _ _ _ h => h)
     exact fun _ h => absurd h (by decide)
    case h =>
     intro v19_12 _
     refine oP (Qe oz) rfl (oP (pf oz yc1) rfl (Vr (Zz 0 rfl) Vf fun hone19 => (oA (Zq oz oz (by assumption) (pA 1 rfl) lr4 yo2) (pA 1 rfl) rfl rfl (fun _ _ => ?_))))
     refine tn (bn (nn (rg (oP (pad oz ot (by omega)) rfl (mv rfl rfl (tn (nn ?_)))))))
     exact tg (i + 1, v19_12) (by show i + 1 ≤ v.2.2.1.length; omega) (by show v.2.2.1.length - (i + 1) < v.2.2.1.length - i; omega) ef (op (by rw [hst]; exact (by (repeat (refine pc 0 rfl ?_)); exact pl)))
  refine Qx (tx (tx (bh (nn (sq (sq ?_))))))
  obtain rfl : i = v.2.2.1.length := by simp only [decide_eq_false_iff_not] at c122; omega
  rw [List.take_of_length_le (show (Qdo v).length ≤ v.2.2.1.length by rw [Qb4]; exact Nat.le_refl _)]
  obtain ⟨n, hn⟩ : ∃ n : NO, n = (⟨v, rr4.1, g6_1 :: gs, rr4.2⟩ : NO) := ⟨_, rfl⟩
  refine Qhs (Q0s g4_6 (⟨v, rr4.1, g6_1 :: gs, rr4.2⟩ : NO) fv tv ov lvv) (R := Qg rr4.2 encS kI.T [] :: Qb g0_0 25 kV v :: Qg rr4.1 encS (kpt kAl).T (Zn m) :: (lvI (g6_1 :: gs) (lvN v.2.2.2.1.length) ++ Yf m)) (by exact Qwj) 9 oz (fun H q => q) ?_
  refine Q4 (show List.Perm _ (Qb g0_0 25 kV v :: Qev (⟨v, rr4.1, g6_1 :: gs, rr4.2⟩ : NO) m (lvN v.2.2.2.1.length) []) from Qsv) ?_
  have hnl : (⟨v, rr4.1, g6_1 :: gs, rr4.2⟩ : NO).gl.length = (⟨v, rr4.1, g6_1 :: gs, rr4.2⟩ : NO).v.2.2.2.1.length + 1 := by show (g6_1 :: gs).length = _; rw [List.length_cons, hgs]
  have hst0 := Qst hnl ha1 (by have h9 := hals; rw [List.take_length] at h9; exact h9)
  rw [← hn] at hst0 ⊢
  have hnv : n.v = v := by rw [hn]
  have hvn : okV n.v = true := by rw [hnv]; exact hv
  refine rg (mv rfl rfl (oP (pls oz Tryz.underlying26) rfl (oP (Qm ot) rfl (tn (nn (tb (Qt (σ := Nat × AlM × List Rw × List (Lab × Int)) (e2 9 141 rfl (ec 142 rfl en)) (fun s => [(143, I64 (s.1 : Int))]) (fun s => (Qb g0_0 25 kV v :: Qev n s.2.1 s.2.2.1 s.2.2.2)) (fun s => s.1 ≤ es.length ∧ Jq n s.2.1 s.2.2.1 s.2.2.2 (Yv (es.take s.1))) (fun s => es.length - s.1) (0, m, lvN v.2.2.2.1.length, []) ⟨Nat.zero_le _, (by rw [← hnv]; exact hst0)⟩ ?_ (op pl) ?_)))))))
  · exact (ec 143 rfl en)
  rintro ⟨j, q⟩ ⟨hj, hok⟩
  dsimp only at hj hok ⊢
  refine sq (rg (oP (Q5 oz oz) rfl (tn (nn (sq (tc oz (fun c144 => ?_) (fun c144 => ?_)))))))
  · refine sk (nn (sq (tb (sq ?_))))
    have hjl : j < es.length := by simpa using c144
    obtain ⟨e, hee⟩ : ∃ e, at' es (j : Int) = e := ⟨_, rfl⟩
    have hst := Qq1 hjl
    rw [hee] at hst
    have hie : inI e.1 ∧ inI e.2.2 := hei e (by rw [← hee, Q1 hjl]; exact List.getElem_mem hjl)
    have hol := Qih (es.take j)
    rw [List.length_take] at hol
    refine rg (oP (Qj oz oz Tryz.underlying26 y16 (by omega) (by omega)) rfl (oP (pL oz y16) rfl (oA (Qz (zE)) pR rfl rfl (fun g23_2 _ => ?_))))
    refine oA (asv oz oz (pA 0 rfl) y16) (pA 0 rfl) rfl rfl (fun _ _ => ?_)
    refine tn ?_
    rw [hee]
    refine nn (sq (rg (mv rfl rfl (oP (plv oz (mA 0 rfl) y16) rfl (Qey [_, _, _] (lvI n.gl q.2.1) rfl (aC (Qpq n q.1 e) ybd (oc oz (oc oz oN)) (Wz (X := [_, _, _]) (Y := lvI n.gl q.2.1))) rfl rfl fun _ _ => (oP (Zf oz) rfl (tn (nn (tc oz (fun c150 => ?_) (fun c150 => ?_))))))))))
    · rw [hok.als.has] at c150
      have hne : e ∉ Yv (es.take j) := by simpa using c150
      rw [if_neg hne] at hst
      refine rg (mv rfl rfl (oP (plv oz (mA 0 rfl) y16) rfl (Qgv [_, _] rfl (aC (Qj9 n q.1 q.2.1 q.2.2 (Yv (es.take j)) e hvn hok hne hie (by omega)) ywr (oc oz (oc oz oN)) (Kl (X := [_, _]))) rfl rfl fun u hu => (tn (bn (nn (rg (oP (pad oz ot (by omega)) rfl (mv rfl rfl (tn (nn ?_)))))))))))
      exact tg (j + 1, u) ⟨(by show j + 1 ≤ es.length; omega), (by rw [hst]; exact hu)⟩ (by show es.length - (j + 1) < es.length - j; omega) ef (op (by (repeat (refine pc 1 rfl ?_)); exact pd (pl)))
    rw [hok.als.has] at c150
    have hne : e ∈ Yv (es.take j) := by simpa using c150
    rw [if_pos hne] at hst
    refine sk (bn (nn (rg (oP (pad oz ot (by omega)) rfl (mv rfl rfl (tn (nn ?_)))))))
    exact tg (j + 1, q) ⟨(by show j + 1 ≤ es.length; omega), (by rw [hst]; exact hok)⟩ (by show es.length - (j + 1) < es.length - j; omega) ef (op (by (repeat (refine pc 1 rfl ?_)); exact pd (pl)))
  refine Qx (tx (tx (bh (nn (sq ?_)))))
  obtain rfl : j = es.length := by simp only [decide_eq_false_iff_not] at c144; omega
  rw [List.take_length] at hok
  refine rg (mv rfl rfl (av rfl rfl (ak rfl (tn (nn (tR ?_))))))
  exact Yb .ret (.inl rfl) rfl (some (n, q), 0) oz oz (fun _ _ h => h) (.inr ⟨n, q.1, q.2.1, q.2.2, rfl, hnv, hv, hnm, hok⟩) (pd pl)
end Go.Proofs.YtklhdalppmjnaaaGreatDoor
namespace Go.Gw
open Go
theorem Ct.frame {P : Program} {f : FuncId} {As : List Ty} {J L R : List It} {ρ : Type} {T : ρ → Ty} {I I' : ρ → List It} {φ : ρ → Prop} (h : Ct P f As J ρ T I φ) (hL : List.Perm L (J ++ R)) (hI : ∀ r, List.Perm (I r ++ R) (I' r)) : Ct P f As L ρ T I' φ := by
 intro H w args hon hA hO
 have o' := hO.perm hL
 refine Calls.mono (h H w args hon hA o'.left) ?_
 rintro e w' ⟨r, v, H', he, hφ, s, hv, ho⟩
 have hsub : ∀ g, g ∈ X8 J → g ∈ X8 L := fun g hg => by
  have := (hL.filterMap It.blk).mem_iff (a := g)
  refine this.2 ?_
  rw [List.filterMap_append]
  exact List.mem_append_left _ hg
 have hR : ∀ g, g ∈ X8 R → g ∈ X8 L := fun g hg => by
  have := (hL.filterMap It.blk).mem_iff (a := g)
  refine this.2 ?_
  rw [List.filterMap_append]
  exact List.mem_append_right _ hg
 refine ⟨r, v, H', he, hφ, s.weaken hsub, hv, Xu.perm ?_ (hI r)⟩
 have hap := o'.apart
 refine Xu.append (ho.mono fun g _ hg => hg.imp (hsub g) id) ?_ fun g hg hr => ?_
 · have := o'.right.st s fun g hg hj => hap g hj hg
   refine ⟨this.all, this.nodup, fun g hg => ?_⟩
   obtain ⟨a, b, _⟩ := this.own g hg
   exact ⟨a, b, .inl (hR g hg)⟩
 rcases (ho.own g hg).2.2 with h1 | h1
 · exact hap g h1 hr
 have := (o'.right.own g hr).1; omega
end Go.Gw
namespace Go.Proofs.YtklhdalppmjnaaaGreatDoor
open Go Go.Gw Go.So Go.Tu Go.Jn Go.Nt
section
variable {n : NO} {al : AlM} {lv : List Rw} {ct : List (Lab × Int)} {E : List Ed}
theorem Qwk (hv : okV n.v = true) (h : Jq n al lv ct E) (hm : Z4 n.v E = false) : Ct Tryz.prog 208 [AtT J7 (Y9 n)] (Qev n al lv ct) Unit (fun _ => SlT kT (Vm n.v E)) (fun _ => Qev n al lv ct) (fun _ => True) :=
 (Qii n ct (Vg n.v E) h.keys_ (fun t ht => Qic hv h.als.inE ht) (h.ctlen hm)).frame (R := lvI n.gl lv ++ AlI n al) (List.Perm.refl _) fun _ => List.Perm.refl _
end
section
variable {v : Vw} {E E' es : List Ed} {add : Bool}
theorem Qpb (h : ∀ x, x ∈ E ↔ x ∈ E') : Vm v E = Vm v E' := by
 unfold Vm
 refine Ji (Xj _).1 (Xj _).1 fun t => ?_
 rw [(Xj _).2, (Xj _).2, Qe2, Qe2]
 exact ⟨fun ⟨r, h1, h2⟩ => ⟨r, (Qdm h).1 h1, h2⟩, fun ⟨r, h1, h2⟩ => ⟨r, (Qdm h).2 h1, h2⟩⟩
theorem Qjs : Xa (Vm v E) = true := Jt.2 (Xj _).1
theorem Qm0 : Qbg (Vm v E) (Vm v E') = ((Qs (Vm v E') (Vm v E), Qs (Vm v E) (Vm v E')), 0) := by
 unfold Qbg
 rw [Qjs, Qjs]; rfl
theorem Qwl (h : (doE v E es add).2.2 = 0) : Qam E es add = 0 ∧ (add = true → Z4 v (E ++ es) = false) ∧ doE v E es add = (goE E es add, Qbg (Vm v E) (Vm v (goE E es add))) := by
 unfold doE at h ⊢
 by_cases c : Qam E es add = 0
 · rw [if_pos c] at h ⊢
   by_cases c2 : (add && Z4 v (E ++ es)) = true
   · rw [if_pos c2] at h; cases h
   rw [if_neg c2]
   refine ⟨c, fun ha => ?_, rfl⟩
   subst ha
   simpa using c2
 rw [if_neg c] at h; exact absurd h c
theorem look_ok (h1 : ∀ e ∈ es, (e ∈ E ↔ add = false)) (h2 : es.Nodup) : Qam E es add = 0 := by
 unfold Qam
 have : ∀ (es pre : List Ed), (∀ e ∈ es, (e ∈ E ↔ add = false)) → es.Nodup → (∀ e ∈ es, e ∉ pre) → Ui (fun e => decide (e ∈ E)) add pre es = 0 := by
  intro es
  induction es with
  | nil => intro pre _ _ _; rfl
  | cons e es ih =>
   intro pre g1 g2 g3
   obtain ⟨g4, g5⟩ := List.nodup_cons.1 g2
   have he := g1 e List.mem_cons_self
   unfold Ui
   rw [if_neg, if_neg]
   · refine ih _ (fun x hx => g1 x (List.mem_cons_of_mem _ hx)) g5 fun x hx hm => ?_
     rcases List.mem_append.1 hm with h | h
     · exact g3 x (List.mem_cons_of_mem _ hx) h
     rw [List.mem_singleton] at h; subst h; exact g4 hx
   · have := g3 e List.mem_cons_self
     cases add with
     | false => simp [this]
     | true => have : e ∉ E := fun h => by have := he.1 h; cases this
               simp_all
   cases add with
   | false => have : e ∈ E := he.2 rfl
              simp [this]
   | true => simp
 exact this es [] h1 h2 fun _ _ => by simp
theorem Qa8 {x : Ed} : x ∈ goE E es add ↔ if add = true then x ∈ E ∨ x ∈ es else x ∈ E ∧ x ∉ es := by
 unfold goE
 cases add with
 | true => simp
 | false => simp [Xm]
end
end Go.Proofs.YtklhdalppmjnaaaGreatDoor
namespace Go.Dr
abbrev Pr := Int × Int
inductive TC (E : List Pr) : Int → Int → Prop
 | one {a b : Int} (h : (a, b) ∈ E) : TC E a b
 | cons {a c b : Int} (h : (a, c) ∈ E) (t : TC E c b) : TC E a b
theorem TC.trans {E : List Pr} {a b c : Int} (h : TC E a b) (g : TC E b c) : TC E a c := by
 induction h with
 | one h => exact .cons h g
 | cons h _ ih => exact .cons h (ih g)
theorem TC.mono {E F : List Pr} {a b : Int} (h : TC E a b) (hs : ∀ p ∈ E, p ∈ F) : TC F a b := by
 induction h with
 | one h => exact .one (hs _ h)
 | cons h _ ih => exact .cons (hs _ h) ih
theorem TC.congr {E F : List Pr} {a b : Int} (hs : ∀ p, p ∈ E ↔ p ∈ F) : TC E a b ↔ TC F a b := ⟨fun h => h.mono fun p hp => (hs p).1 hp, fun h => h.mono fun p hp => (hs p).2 hp⟩
def RT (E : List Pr) (a b : Int) : Prop := b = a ∨ TC E a b
theorem RT.tc {E : List Pr} {a b c : Int} (h : RT E a b) (g : TC E b c) : TC E a c := h.elim (fun e => e ▸ g) fun h => h.trans g
theorem TC.rt {E : List Pr} {a b c : Int} (h : TC E a b) (g : RT E b c) : TC E a c := g.elim (fun e => e ▸ h) fun g => h.trans g
theorem RT.mono {E F : List Pr} {a b : Int} (h : RT E a b) (hs : ∀ p ∈ E, p ∈ F) : RT F a b := h.imp id fun h => h.mono hs
theorem TC.ends {E : List Pr} {a b : Int} (h : TC E a b) : (∃ c, (a, c) ∈ E) ∧ ∃ c, (c, b) ∈ E := by
 induction h with
 | one h => exact ⟨⟨_, h⟩, ⟨_, h⟩⟩
 | cons h _ ih => exact ⟨⟨_, h⟩, ih.2⟩
theorem Qwm {E F l : List Pr} (hs : ∀ p ∈ E, p ∈ F ∨ p ∈ l) {a b : Int} (h : TC E a b) : TC F a b ∨ ∃ p ∈ l, RT E a p.1 ∧ RT E p.2 b := by
 induction h with
 | @one a b h =>
  rcases hs _ h with h1 | h1
  · exact .inl (.one h1)
  exact .inr ⟨_, h1, .inl rfl, .inl rfl⟩
 | @cons a c b h t ih =>
  rcases hs _ h with h1 | h1
  · rcases ih with ih | ⟨p, hp, h2, h3⟩
    · exact .inl (.cons h1 ih)
    exact .inr ⟨p, hp, .inr ((TC.one h).rt h2), h3⟩
  exact .inr ⟨_, h1, .inl rfl, .inr t⟩
theorem Qsw {E F : List Pr} {p : Pr} (hs : ∀ q, q ∈ F ↔ q ∈ E ∨ q = p) {a b : Int} : TC F a b ↔ TC E a b ∨ (RT E a p.1 ∧ RT E p.2 b) := by
 have hE : ∀ q ∈ E, q ∈ F := fun q hq => (hs q).2 (.inl hq)
 have hp : TC F p.1 p.2 := .one ((hs _).2 (.inr rfl))
 constructor
 · intro h
   induction h with
   | @one a b h =>
    rcases (hs _).1 h with h1 | h1
    · exact .inl (.one h1)
    subst h1; exact .inr ⟨.inl rfl, .inl rfl⟩
   | @cons a c b h t ih =>
    rcases (hs _).1 h with h1 | h1
    · rcases ih with ih | ⟨h2, h3⟩
      · exact .inl (.cons h1 ih)
      exact .inr ⟨.inr ((TC.one h1).rt h2), h3⟩
    subst h1
    rcases ih with ih | ⟨h2, h3⟩
    · exact .inr ⟨.inl rfl, .inr ih⟩
    exact .inr ⟨.inl rfl, h3⟩
 rintro (h | ⟨h1, h2⟩)
 · exact h.mono hE
 exact (h1.mono hE).tc (hp.rt (h2.mono hE))
def Drv (E : List Pr) (S : Int → Int → Prop) (a b : Int) : Prop := (a, b) ∈ E ∨ ∃ c, (a, c) ∈ E ∧ S c b
theorem Drv.tc {E : List Pr} {S : Int → Int → Prop} {a b : Int} (hS : ∀ a b, S a b → TC E a b) (h : Drv E S a b) : TC E a b := h.elim .one fun ⟨c, h1, h2⟩ => .cons h1 (hS _ _ h2)
theorem Q0w {E F l : List Pr} {S : Int → Int → Prop} (hF : ∀ p, p ∈ F ↔ p ∈ E ∧ p ∉ l) (hS : ∀ a b, S a b → TC F a b) (hg : ∀ a b, TC E a b → S a b ∨ ¬ Drv F S a b) {a b : Int} : S a b ↔ TC F a b := by
 refine ⟨hS a b, fun h => ?_⟩
 have hE : ∀ p ∈ F, p ∈ E := fun p hp => ((hF p).1 hp).1
 induction h with
 | one h => exact (hg _ _ (.one (hE _ h))).resolve_right fun hn => hn (.inl h)
 | cons h t ih => exact (hg _ _ (.cons (hE _ h) (t.mono hE))).resolve_right fun hn => hn (.inr ⟨_, h, ih⟩)
theorem Q0x {E F l : List Pr} (hF : ∀ p, p ∈ F ↔ p ∈ E ∧ p ∉ l) {a b : Int} (h : TC E a b) (hn : ¬ ∃ p ∈ l, RT E a p.1 ∧ RT E p.2 b) : TC F a b :=
 (Qwm (E := E) (F := F) (l := l) (fun p hp => (Classical.em (p ∈ l)).elim .inr fun hl => .inl ((hF p).2 ⟨hp, hl⟩)) h).resolve_right hn
end Go.Dr
namespace Go.Dr
open Go Go.Gw
abbrev Inn := Nat × List (Int × Bool)
abbrev Sd := List (Int × Inn)
def hdS (s : Sd) : List (Int × Value) := s.map fun p => (p.1, mp p.2.1)
def Uk (s : Sd) (u v : Int) : Bool := ((lkp u s).bind fun x => lkp v x.2).getD false
def ptS (s : Sd) (u : Int) : Value := (lkp u (hdS s)).getD (.map none)
def K5 (s : Sd) (u : Int) : List Int := ((lkp u s).map fun x => keys x.2).getD []
def Ks (u v : Int) (g : Nat) (s : Sd) : Sd := match lkp u s with
 | some x => ptk u (x.1, ptk v true x.2) s
 | none => ptk u (g, [(v, true)]) s
def Qge (u v : Int) (s : Sd) : Sd := match lkp u s with
 | some x => ptk u (x.1, dlk v x.2) s
 | none => s
structure Qc5 (s : Sd) : Prop where
 nd : (keys s).Nodup
 inn : ∀ u x, lkp u s = some x → (keys x.2).Nodup ∧ ∀ v b, lkp v x.2 = some b → b = true
theorem Qe5 (s : Sd) (u : Int) : lkp u (hdS s) = (lkp u s).map fun x => mp x.1 := W5 (fun x : Inn => mp x.1)
theorem Qq3 (u : Int) (x : Inn) (s : Sd) : hdS (ptk u x s) = ptk u (mp x.1) (hdS s) := Qay (fun x : Inn => mp x.1)
theorem Qwn {s : Sd} {u : Int} {x : Inn} (h : lkp u s = some x) : ptS s u = mp x.1 := by unfold ptS; rw [Qe5, h]; rfl
theorem Qwo {s : Sd} {u : Int} (h : lkp u s = none) : ptS s u = .map none := by unfold ptS; rw [Qe5, h]; rfl
theorem Qfw {s : Sd} {u v : Int} {x : Inn} (h : lkp u s = some x) : Uk s u v = (lkp v x.2).getD false := by unfold Uk; rw [h]; rfl
theorem Qcw {s : Sd} {u v : Int} (h : lkp u s = none) : Uk s u v = false := by unfold Uk; rw [h]; rfl
theorem Qm1 : Qc5 [] := ⟨List.nodup_nil, fun u x h => by cases h⟩
theorem Qm2 (u v : Int) : Uk [] u v = false := rfl
theorem Qij {s : Sd} {u a b : Int} {x : Inn} : Uk (ptk u x s) a b = if u = a then (lkp b x.2).getD false else Uk s a b := by
 unfold Uk
 rw [Xl]
 split <;> rfl
theorem Qm3 {s : Sd} {u v a b : Int} {g : Nat} : Uk (Ks u v g s) a b = (decide (a = u ∧ b = v) || Uk s a b) := by
 unfold Ks
 cases h : lkp u s with
 | some x =>
  show Uk (ptk u (x.1, ptk v true x.2) s) a b = _
  rw [Qij]
  by_cases e : u = a
  · subst e
    rw [if_pos rfl, Qfw h]
    show (lkp b (ptk v true x.2)).getD false = _
    rw [Xl]
    by_cases e2 : v = b
    · subst e2; simp
    rw [if_neg e2, decide_eq_false (fun h => e2 h.2.symm)]; rfl
  rw [if_neg e, decide_eq_false (fun h => e h.1.symm)]; rfl
 | none =>
  show Uk (ptk u (g, [(v, true)]) s) a b = _
  rw [Qij]
  by_cases e : u = a
  · subst e
    rw [if_pos rfl, Qcw h]
    by_cases e2 : v = b
    · subst e2; simp [lkp]
    have e3 : ¬ b = v := fun h => e2 h.symm
    simp [lkp, e2, e3]
  rw [if_neg e, decide_eq_false (fun h => e h.1.symm)]; rfl
theorem Qjt {s : Sd} (hs : Qc5 s) {u v a b : Int} : Uk (Qge u v s) a b = (!decide (a = u ∧ b = v) && Uk s a b) := by
 unfold Qge
 cases h : lkp u s with
 | some x =>
  show Uk (ptk u (x.1, dlk v x.2) s) a b = _
  rw [Qij]
  by_cases e : u = a
  · subst e
    rw [if_pos rfl, Qfw h]
    show (lkp b (dlk v x.2)).getD false = _
    rw [Ut (hs.inn _ _ h).1]
    by_cases e2 : v = b
    · subst e2; simp
    rw [if_neg e2, decide_eq_false (fun h => e2 h.2.symm)]; rfl
  rw [if_neg e, decide_eq_false (fun h => e h.1.symm)]; rfl
 | none =>
  show Uk s a b = _
  by_cases e : a = u ∧ b = v
  · obtain ⟨rfl, rfl⟩ := e
    rw [Qcw h]; simp
  rw [decide_eq_false e]; rfl
theorem Qc5.ptk {s : Sd} (hs : Qc5 s) {u : Int} {x : Inn} (h1 : (keys x.2).Nodup) (h2 : ∀ v b, lkp v x.2 = some b → b = true) : Qc5 (ptk u x s) := ⟨Yr hs.nd, fun a y h => by
 rw [Xl] at h
 by_cases e : u = a
 · rw [if_pos e] at h; cases h; exact ⟨h1, h2⟩
 rw [if_neg e] at h; exact hs.inn a y h⟩
theorem Qc5.put {s : Sd} (hs : Qc5 s) {u v : Int} {g : Nat} : Qc5 (Ks u v g s) := by
 unfold Ks
 cases h : lkp u s with
 | some x =>
  refine hs.ptk (Yr (hs.inn _ _ h).1) fun w b hb => ?_
  rw [show ((x.1, Go.Gw.ptk v true x.2) : Inn).2 = Go.Gw.ptk v true x.2 from rfl, Xl] at hb
  split at hb
  · cases hb; rfl
  exact (hs.inn _ _ h).2 _ _ hb
 | none =>
  refine hs.ptk (by simp [keys]) fun w b hb => ?_
  simp only [lkp] at hb
  split at hb
  · cases hb; rfl
  cases hb
theorem Qc5.drop {s : Sd} (hs : Qc5 s) {u v : Int} : Qc5 (Qge u v s) := by
 unfold Qge
 cases h : lkp u s with
 | some x =>
  refine hs.ptk (Qad (hs.inn _ _ h).1) fun w b hb => ?_
  rw [show ((x.1, dlk v x.2) : Inn).2 = dlk v x.2 from rfl, Ut (hs.inn _ _ h).1] at hb
  split at hb
  · cases hb
  exact (hs.inn _ _ h).2 _ _ hb
 | none => exact hs
theorem Qm4 {s : Sd} (hs : Qc5 s) {u v : Int} : v ∈ K5 s u ↔ Uk s u v = true := by
 unfold K5
 cases h : lkp u s with
 | some x =>
  rw [Qfw h]
  show v ∈ keys x.2 ↔ _
  cases hv : lkp v x.2 with
  | none => exact ⟨fun hk => absurd hk (Xx.1 hv), fun h => by cases h⟩
  | some b => rw [(hs.inn _ _ h).2 _ _ hv]; exact ⟨fun _ => rfl, fun _ => List.mem_map.2 ⟨_, Qd7 hv, rfl⟩⟩
 | none =>
  rw [Qcw h]
  exact Iff.intro (fun h => nomatch h) (fun h => nomatch h)
theorem Qik {s : Sd} (hs : Qc5 s) {u : Int} : (K5 s u).Nodup := by
 unfold K5
 cases h : lkp u s with
 | some x => exact (hs.inn _ _ h).1
 | none => exact List.nodup_nil
structure RS where
 f : Sd
 t : Sd
 n : Int
structure Ze (P : List Pr) (r : RS) : Prop where
 nd : P.Nodup
 fo : Qc5 r.f
 to : Qc5 r.t
 f : ∀ a b, Uk r.f a b = decide ((a, b) ∈ P)
 t : ∀ a b, Uk r.t b a = decide ((a, b) ∈ P)
 n : r.n = (P.length : Int)
theorem Qju : Ze [] ⟨[], [], 0⟩ := ⟨List.nodup_nil, Qm1, Qm1, fun a b => by simp [Qm2], fun a b => by simp [Qm2], rfl⟩
theorem Ze.put {P : List Pr} {r : RS} (h : Ze P r) {p : Pr} (hp : p ∉ P) {g g' : Nat} : Ze (P ++ [p]) ⟨Ks p.1 p.2 g r.f, Ks p.2 p.1 g' r.t, r.n + 1⟩ := ⟨List.nodup_append.2 ⟨h.nd, by simp, fun a ha b hb e => by
 have : b = p := by simpa using hb
 subst this; subst e; exact hp ha⟩, h.fo.put, h.to.put, fun a b => by
  rw [Qm3, h.f, Bool.eq_iff_iff]
  simp only [Bool.or_eq_true, decide_eq_true_eq, List.mem_append, List.mem_singleton]
  constructor
  · rintro (⟨rfl, rfl⟩ | h1)
    · exact .inr rfl
    exact .inl h1
  · rintro (h1 | rfl)
    · exact .inr h1
    exact .inl ⟨rfl, rfl⟩, fun a b => by
  rw [Qm3, h.t, Bool.eq_iff_iff]
  simp only [Bool.or_eq_true, decide_eq_true_eq, List.mem_append, List.mem_singleton]
  constructor
  · rintro (⟨rfl, rfl⟩ | h1)
    · exact .inr rfl
    exact .inl h1
  · rintro (h1 | rfl)
    · exact .inr h1
    exact .inl ⟨rfl, rfl⟩, by
  show r.n + 1 = _
  rw [h.n, List.length_append, List.length_singleton]; rfl⟩
theorem Ze.drop {P : List Pr} {r : RS} (h : Ze P r) {p : Pr} (hp : p ∈ P) : Ze (P.erase p) ⟨Qge p.1 p.2 r.f, Qge p.2 p.1 r.t, r.n - 1⟩ := ⟨h.nd.erase p, h.fo.drop, h.to.drop, fun a b => by
      rw [Qjt h.fo, h.f, Bool.eq_iff_iff]
      simp only [Bool.and_eq_true, Bool.not_eq_true', decide_eq_true_eq, decide_eq_false_iff_not, h.nd.mem_erase_iff]
      constructor
      · rintro ⟨h1, h2⟩
        exact ⟨fun e => h1 ⟨congrArg Prod.fst e, congrArg Prod.snd e⟩, h2⟩
      · rintro ⟨h1, h2⟩
        exact ⟨fun e => h1 (Prod.ext e.1 e.2), h2⟩, fun a b => by
      rw [Qjt h.to, h.t, Bool.eq_iff_iff]
      simp only [Bool.and_eq_true, Bool.not_eq_true', decide_eq_true_eq, decide_eq_false_iff_not, h.nd.mem_erase_iff]
      constructor
      · rintro ⟨h1, h2⟩
        exact ⟨fun e => h1 ⟨congrArg Prod.snd e, congrArg Prod.fst e⟩, h2⟩
      · rintro ⟨h1, h2⟩
        exact ⟨fun e => h1 (Prod.ext e.2 e.1), h2⟩, by
      show r.n - 1 = _
      have := List.length_erase_of_mem hp
      have h2 := List.length_pos_of_mem hp
      rw [h.n, this]; omega⟩
end Go.Dr
namespace Go.Gw
open Go Go.Maps Go.RowKit Go.Shelf Go.MapKept Go.Proofs
section
variable {P : Program} {ρ σ : Ren} {H : FH} {w w' : World}
theorem Qil {M : Nat → Prop} (hon : On H w) (hb : Below w.heap.size w w') : St M H w H w' :=
 ⟨Sub.refl _, fun k o h => by
  have h1 := hon k o h
  have hlt : k < w.heap.size := (Array.getElem?_eq_some_iff.1 h1).1
  rw [hb.block k hlt]; exact h1, hb.os, hb.tape, hb.output, hb.size, fun k hk _ => hb.block k hk, fun k o h => .inl h⟩
theorem Qim (H : FH) (xs : List Int) : Ja (Jw .i64) H xs (xs.map encZ) := by
 refine ⟨by simp [Jw, scalar], fun j x h => ?_⟩
 have hj : j < xs.length := (List.getElem?_eq_some_iff.1 h).1
 show ((xs.map encZ).drop (j * 1)).take 1 = [encZ x]
 rw [Nat.mul_one, List.drop_eq_getElem_cons (by simpa using hj), List.take_succ_cons, List.take_zero, List.getElem_map, (List.getElem?_eq_some_iff.1 h).2]
theorem Qwp {base : Nat} {e : TypeId} {v : Value} {n : Nat} {xs : List Value} (h : w.ownsRow base e 1 v n xs) : w.ownsRow 0 e 1 v n xs := ⟨h.1, h.2.imp id fun ⟨g, cap, cur, h1, _, h2⟩ => ⟨g, cap, cur, h1, Nat.zero_le _, h2⟩⟩
theorem Qm5 {e : TypeId} {v : Value} {ss : List Int} {J : List It} (hon : On H w) (hb : Below w.heap.size w w') (hr : w'.ownsRow w.heap.size e 1 v ss.length (ss.map encZ)) (ho : Xu (fun _ => True) w H J) :
 Xu (fun g => g ∈ X8 J ∨ w.heap.size ≤ g) w' H (Qh e (Jw .i64) v ss :: J) := by
 have hp : (Qh e (Jw .i64) v ss).p w' H := ⟨_, Qwp hr, Qim H ss⟩
 have hs : St noM H w H w' := Qil hon hb
 have hJ : Xu (fun g => g ∈ X8 J ∨ w.heap.size ≤ g) w' H J := by
  have h1 := ho.st hs fun g _ h => h
  exact ⟨h1.all, h1.nodup, fun g hg => ⟨(h1.own g hg).1, (h1.own g hg).2.1, .inl hg⟩⟩
 have hnew : ∀ g, v.ownBlock = some g → w.heap.size ≤ g ∧ g < w'.heap.size := by
  intro g hg
  rcases hr.2 with ⟨rfl, _⟩ | ⟨g', cap, cur, rfl, h1, h2, _⟩
  · cases hg
  cases hg
  exact ⟨h1, (Array.getElem?_eq_some_iff.1 h2).1⟩
 refine Xu.append (L := [Qh e (Jw .i64) v ss]) (J := J) ⟨fun i hi => by rw [List.mem_singleton.1 hi]; exact hp, ?_, fun g hg => ?_⟩ hJ fun g hg hj => ?_
 · unfold X8
   cases hv : v.ownBlock with
   | none => rw [List.filterMap_cons_none (show (Qh e (Jw .i64) v ss).blk = none from hv)]; exact List.nodup_nil
   | some g => rw [List.filterMap_cons_some (show (Qh e (Jw .i64) v ss).blk = some g from hv)]; simp
 · obtain ⟨i, hi, h1⟩ := List.mem_filterMap.1 hg
   rw [List.mem_singleton.1 hi] at h1
   obtain ⟨h2, h3⟩ := hnew g h1
   refine ⟨h3, ?_, .inr h2⟩
   cases hH : H g with
   | none => rfl
   | some o => have := (Array.getElem?_eq_some_iff.1 (hon g o hH)).1; omega
 obtain ⟨i, hi, h1⟩ := List.mem_filterMap.1 hg
 rw [List.mem_singleton.1 hi] at h1
 have h2 := (hnew g h1).1
 have h3 := (ho.own g hj).1
 omega
abbrev Y8 (n : Int) : Prop := -9223372036854775808 ≤ n ∧ n ≤ 9223372036854775807
def KeysOf (H : FH) (w : World) (v : Value) (l : List Int) : Prop := (v = .map none ∧ l = []) ∨ ∃ (α : Type) (g : Nat) (V : α → Ty) (m : List (Int × α)) (es : Array MapEntry) (clock : Nat), v = .map (some g) ∧ w.heap[g]? = some (.map es clock) ∧ J2 encZ V H m es clock ∧ l = keys m ∧ (∀ k ∈ l, Y8 k) ∧ m.length ≤ 1000000
def noR : Value → Option (DataW Unit × List MemPlace) := fun _ => some (.nil, [])
def kk : Value → Int | .int _ a => a | _ => 0
theorem Qwq {k : TypeId} (hk : P.underlying k = some (.int .i64)) {a : Int} (h : Y8 a) : keyOf P k (encZ a) = some (.int .i64 a) := by
 have hw : (Lit.int .i64 a).wf = true := by
  obtain ⟨h1, h2⟩ := h
  have e1 : IntKind.i64.min = -9223372036854775808 := by decide
  have e2 : IntKind.i64.max = 9223372036854775807 := by decide
  simp only [Lit.wf, e1, e2, Bool.and_eq_true, decide_eq_true_eq]; omega
 simp [keyOf, hk, mapKey, encZ, hw]
theorem Qvp (L : SlLaysZI.n10 P ρ) (n : Nat) (hn : 1 ≤ n) {b : Nat} {v : Value} {l : List Int} (hb : w.cell? ⟨b, 0, none⟩ = some v) (hlt : b < w.heap.size) (hk : KeysOf H w v l) :
 ∃ N, N ≤ 1000000 ∧ SeqGives Fence.wide n P (ρ.f 10) #[.pointer (some ⟨b, 0, none⟩)] encZ (fun ss => ss.Perm l) N w := by
 rcases hk with ⟨rfl, rfl⟩ | ⟨α, g, V, m, es, clock, rfl, hg, hR, rfl, hin, hm⟩
 · refine ⟨0, by omega, ?_⟩
   have := AnyZI.keys_gives_nil L Fence.wide n trivial rfl b w hlt hb
   simpa only [List.perm_nil] using this
 have hu := L.t26
 have hkey : ∀ e ∈ es.toList, ∃ a, e.key = encZ a ∧ Y8 a := fun e he => by
  have h1 : e.key ∈ es.toList.map (·.key) := List.mem_map.2 ⟨e, he, rfl⟩
  rw [hR.key] at h1
  obtain ⟨p, hp, h2⟩ := List.mem_map.1 h1
  exact ⟨p.1, h2.symm, hin _ (List.mem_map.2 ⟨p, hp, rfl⟩)⟩
 have hrd : ∀ e ∈ es.toList, WideElems.rd P (ρ.t 26) noR e = some (.int .i64 (kk e.key), .nil) := fun e he => by
  obtain ⟨a, h1, h2⟩ := hkey e he
  simp [WideElems.rd, h1, Qwq hu h2, noR, kk, encZ]
 have hsz : es.size = m.length := hR.len
 have hst : Stamped es clock := (stamped_iff es clock).2 ⟨hR.lt, hR.bn, by
  have h1 : (es.toList.map (·.key)).Nodup := by
   rw [hR.key]
   have h2 : (m.map fun p => encZ p.1) = (keys m).map encZ := by unfold keys; rw [List.map_map]; rfl
   rw [h2]
   exact List.Pairwise.map _ (fun a b hab e => hab (by simpa [encZ] using e)) hR.nd
  exact List.pairwise_map.1 h1⟩
 have hown : w.ownsMap P (ρ.t 26) noR g es.size (.map ((es.toList.map (WideElems.rg P (ρ.t 26) noR)).foldr DataW.insert [])) :=
  ⟨es, clock, hg, ⟨by rw [hsz]; unfold maxLen; omega, hst, fun x hx => ⟨_, hrd x hx⟩⟩, Nat.le_refl _, rfl⟩
 have hks : (es.toList.map (WideElems.rg P (ρ.t 26) noR)).map (fun p => intOf p.1) = keys m := by
  have h1 : es.toList.map (fun e => intOf (WideElems.rg P (ρ.t 26) noR e).1) = es.toList.map fun e => kk e.key := List.map_congr_left fun e he => by
   unfold WideElems.rg; rw [hrd e he]; rfl
  have h2 : (es.toList.map (·.key)).map kk = (m.map fun p => encZ p.1).map kk := congrArg _ hR.key
  rw [List.map_map] at h2 ⊢
  rw [List.map_map] at h2
  exact h1.trans (h2.trans rfl)
 refine ⟨m.length, hm, ?_⟩
 have := AnyZI.keys_gives L (H := Unit) Fence.wide n trivial rfl hn b g es.size _ w hlt hb hown
 have hN : Maps.size (DataW.map ((es.toList.map (WideElems.rg P (ρ.t 26) noR)).foldr DataW.insert [])) = m.length := by
  rw [← hsz]; exact length_read es
 rw [hN] at this
 have hp : (intKeys (DataW.map ((es.toList.map (WideElems.rg P (ρ.t 26) noR)).foldr DataW.insert []))).Perm (keys m) := by
  have h1 := (WideShapes.sorted_perm (es.toList.map (WideElems.rg P (ρ.t 26) noR))).map (fun p => intOf p.1)
  rw [hks] at h1
  exact h1
 refine fun l' J W hW hJ hY h0 => ?_
 refine (this l' J W hW hJ hY h0).mono ?_
 rintro e W' ⟨h1, xs, h2, h3⟩
 exact ⟨h1, xs, h2.trans hp, h3⟩
end
section
variable {P : Program} {ρ σ τ : Ren} {α : Type} {d : Kd α} {x : α} {t : TypeId} {b : Nat} {l : List Int} {J : List It}
def Uy (d : Kd α) (x : α) (J : List It) (l : List Int) : Prop := ∀ H w cs, On H w → d.K H x cs → Xu (fun _ => True) w H J → ∃ v, cs = [v] ∧ KeysOf H w v l
theorem Uy.world (h : Uy d x J l) {H : FH} {w : World} (hon : On H w) (ho : Xu (fun _ => True) w H (Qb b t d x :: J)) : b < w.heap.size ∧ ∃ v, w.cell? ⟨b, 0, none⟩ = some v ∧ KeysOf H w v l := by
 obtain ⟨cs, h1, h2⟩ := ho.all _ List.mem_cons_self
 have h3 := ho.own b (Xn (i := Qb b t d x) List.mem_cons_self rfl)
 obtain ⟨v, rfl, hk⟩ := h H w cs hon h1 (Xu.right (L := [Qb b t d x]) ho)
 exact ⟨h3.1, v, by simp [World.cell?, h2], hk⟩
theorem Qq4 (L : SlLaysZI.n7 P ρ) (hd : ∀ H v, (d.T x).p H v → ∃ o, v = .map o) : Ct P (ρ.f 7) [d.T x] [] Nat (fun b => IsV (.func (.func (ρ.f 10)) #[] #[pt b 0])) (fun b => [Qb b (ρ.t 23) d x]) (fun _ => True) := by
 intro H w args hon hA hO
 match args, hA with
 | [v], hA =>
  have hv := hA.1
  obtain ⟨o, rfl⟩ := hd H v hv
  obtain ⟨cs, hK, hc⟩ := d.ofT hv
  refine ((callsIn_wide.1 (AnyZI.keys_in L Fence.wide 0 trivial rfl o w)).mono fun e w' hp => ?_)
  obtain ⟨rfl, rfl⟩ := hp
  refine ⟨w.heap.size, _, H, rfl, trivial, Wc hon _, rfl, ?_⟩
  refine Kp (J := Qb w.heap.size (ρ.t 23) d x) ⟨cs, hK, ?_⟩ (.inr rfl) (by simp) hon
  rw [heap_alloc_new]
  have hcs : cs = [.map o] := by
   have hl := d.len hK
   by_cases ha : d.agg = true
   · rw [ha] at hc; exact absurd hc (by intro h; cases h)
   have ha : d.agg = false := by simpa using ha
   rw [ha] at hc
   rw [d.szone ha] at hl
   match cs, hl, hc with
   | [c], _, hc => exact congrArg (fun x => [x]) hc.symm
  rw [hcs]
theorem Qpc (L : SlLaysZI.n8 P ρ) (L2 : SlLaysZI.n10 P σ) (e10 : ∀ args w, (callFunc (σ.f 10) args).run P w = .ok (.enter (σ.f 10) args) w) (hk : Uy d x J l) :
 Ct P (ρ.f 8) [IsV (.func (.func (σ.f 10)) #[] #[pt b 0])] (Qb b t d x :: J) (Value × List Int) (fun r => IsV r.1) (fun r => Qh (ρ.t 26) (Jw .i64) r.1 r.2 :: Qb b t d x :: J) (fun r => r.2.Perm l) := by
 intro H w args hon hA hO
 match args, hA with
 | [v], hA =>
  obtain rfl : v = .func (.func (σ.f 10)) #[] #[pt b 0] := hA.1
  obtain ⟨hlt, u, hb, hu⟩ := hk.world hon hO
  obtain ⟨N, hN, hg⟩ := Qvp L2 1 (Nat.le_refl _) hb hlt hu
  refine (callsIn_wide.1 (AnyZI.collect_in L Fence.wide 3 trivial trivial rfl (by omega) (σ.f 10) #[pt b 0] trivial e10 _ N (by unfold maxLen; omega) (by omega) w hg)).mono fun e w' hp => ?_
  obtain ⟨v, ss, rfl, hS, hr, _, hB⟩ := hp
  exact ⟨(v, ss), v, H, rfl, hS, Qil hon hB, rfl, Qm5 hon hB hr hO⟩
theorem Qsx (L : SlLaysZI.n6 P ρ) (L9 : Lays.n189 P τ) (h9 : ρ.f 9 = τ.f 189) (L2 : SlLaysZI.n10 P σ) (e9 : ∀ args w, (callFunc (ρ.f 9) args).run P w = .ok (.enter (ρ.f 9) args) w) (e10 : ∀ args w, (callFunc (σ.f 10) args).run P w = .ok (.enter (σ.f 10) args) w) (hk : Uy d x J l) :
 Ct P (ρ.f 6) [IsV (.func (.func (σ.f 10)) #[] #[pt b 0])] (Qb b t d x :: J) (Value × List Int) (fun r => IsV r.1) (fun r => Qh (ρ.t 26) (Jw .i64) r.1 r.2 :: Qb b t d x :: J) (fun r => r.2.Perm l) := by
 intro H w args hon hA hO
 match args, hA with
 | [v], hA =>
  obtain rfl : v = .func (.func (σ.f 10)) #[] #[pt b 0] := hA.1
  obtain ⟨hlt, u, hb, hu⟩ := hk.world hon hO
  obtain ⟨N, hN, hg⟩ := Qvp L2 1 (Nat.le_refl _) hb hlt hu
  have hs : AnyZI.SortsIn P ρ Fence.wide 3 := by
   constructor
   · intro blk off cap ss W hH hblk hsz
     rw [h9]
     exact callsIn_wide.2 (Any.slices_Sort_int L9 blk off cap ss W hH hblk hsz)
   intro p cap W
   rw [h9]
   exact callsIn_wide.2 (Any.slices_Sort_int_none L9 p cap W)
  refine (callsIn_wide.1 (AnyZI.sorted_in L Fence.wide 4 trivial trivial trivial trivial rfl (by omega) hs e9 (σ.f 10) #[pt b 0] trivial e10 _ N (by unfold maxLen; omega) (by omega) w hg)).mono fun e w' hp => ?_
  obtain ⟨v, ss, rfl, hS, hr, _, hB⟩ := hp
  have hl : (ss.mergeSort fun x y => decide (x ≤ y)).length = ss.length := by simp
  rw [← hl] at hr
  exact ⟨(v, ss.mergeSort fun x y => decide (x ≤ y)), v, H, rfl, (List.mergeSort_perm _ _).trans hS, Qil hon hB, rfl, Qm5 hon hB hr hO⟩
end
section
variable {P : Program} {ρ : Ren} {H : FH} {w : World} {e : TypeId} {v : Value} {xs : List Int}
theorem Qm6 {cs : List Value} (h : Ja (Jw .i64) H xs cs) : cs = xs.map encZ := by
 obtain ⟨h1, h2⟩ := h
 have h1 : cs.length = xs.length := by rw [h1]; exact Nat.mul_one _
 refine List.ext_getElem (by rw [h1, List.length_map]) fun j hj _ => ?_
 have h3 := h2 j xs[j] (List.getElem?_eq_getElem (by omega))
 have h4 : (cs.drop (j * 1)).take 1 = [encZ xs[j]] := h3
 rw [Nat.mul_one, List.drop_eq_getElem_cons hj, List.take_succ_cons, List.take_zero] at h4
 rw [List.getElem_map]
 exact (List.cons.inj h4).1
theorem Qwr (h : (Qh e (Jw .i64) v xs).p w H) : (v = Qo ∧ xs = []) ∨ ∃ g cap cur, v = .slice (some ⟨g, 0, none⟩) xs.length cap ∧ w.heap[g]? = some (.cells cur e (0, 0)) ∧ xs.length ≤ cap ∧ cap ≤ maxLen ∧ cur.size = cap * 1 ∧ cur.toList.take xs.length = xs.map encZ := by
 obtain ⟨inner, hr, hp⟩ := h
 have he := Qm6 hp
 subst he
 rcases hr.2 with ⟨rfl, h0⟩ | ⟨g, cap, cur, rfl, _, h2, h3, h4, h5, h6⟩
 · exact .inl ⟨rfl, List.eq_nil_of_length_eq_zero h0⟩
 exact .inr ⟨g, cap, cur, rfl, h2, h3, h4, h5, by rw [← h6]; exact congrArg (fun n => List.take n cur.toList) (Nat.mul_one _).symm⟩
theorem Qws (L : Lays.n189 P ρ) (hx : xs.length ≤ 1000000000) : Ct P (ρ.f 189) [IsV v] [Qh e (Jw .i64) v xs] (List Int) (fun _ => Yu) (fun ys => [Qh e (Jw .i64) v ys]) (fun ys => ys.Perm xs) := by
 intro H w args hon hA hO
 match args, hA with
 | [u], hA =>
  obtain rfl : u = v := hA.1
  rcases Qwr (hO.all _ List.mem_cons_self) with ⟨rfl, rfl⟩ | ⟨g, cap, cur, rfl, hg, h1, h2, h3, h4⟩
  · refine (Any.slices_Sort_int_none L none 0 w).mono fun e' w' hp => ?_
    obtain ⟨rfl, rfl⟩ := hp
    exact ⟨[], _, H, rfl, List.Perm.refl _, St.refl hon, trivial, ⟨hO.all, hO.nodup, fun k hk => ⟨(hO.own k hk).1, (hO.own k hk).2.1, .inl hk⟩⟩⟩
  have hlt : g < w.heap.size := (Array.getElem?_eq_some_iff.1 hg).1
  refine (Any.slices_Sort_int L g 0 cap xs w (holds_of_block_i hg h4) hlt (by omega)).mono fun e' w' hp => ?_
  obtain ⟨rfl, n, os, rfl⟩ := hp
  have hl : (xs.mergeSort fun x y => decide (x ≤ y)).length = xs.length := by simp
  have hr := ownsRow_sorted_i (w := w) (base := 0) (n := n) (os := os) hl (Nat.zero_le _) hg h1 h2 h3
  have hown := hO.own g (Xn (i := Qh e (Jw .i64) (.slice (some ⟨g, 0, none⟩) xs.length cap) xs) List.mem_cons_self rfl)
  refine ⟨xs.mergeSort fun x y => decide (x ≤ y), _, H, rfl, List.mergeSort_perm _ _, Y4 (row := some g) hon (grownBy_sorted_i _) fun k hk => ?_, trivial, ?_⟩
  · cases hk; exact ⟨hown.2.1, Xn (i := Qh e (Jw .i64) (.slice (some ⟨g, 0, none⟩) xs.length cap) xs) List.mem_cons_self rfl⟩
  refine Js (I := Qh e (Jw .i64) (.slice (some ⟨g, 0, none⟩) xs.length cap) xs) (R := []) rfl rfl ⟨_, ?_, Qim H _⟩ hO (grownBy_sorted_i _).size
  rw [hl]; exact hr
theorem Qm7 (zs : List Int) (x : Int) : x ∈ Lib.compact zs ↔ x ∈ zs := by
 have h : ∀ (d : Array Int) (m : Nat), x ∈ Lib.compactUpTo d m ↔ ∃ j, j < m ∧ d[j]! = x := by
  intro d m
  induction m with
  | zero => simp [Lib.compactUpTo]
  | succ m ih =>
   rw [Lib.compactUpTo_succ, List.mem_append, ih]
   constructor
   · rintro (⟨j, hj, h⟩ | h)
     · exact ⟨j, by omega, h⟩
     split at h
     · exact ⟨m, by omega, (List.mem_singleton.1 h).symm⟩
     cases h
   rintro ⟨j, hj, h⟩
   by_cases hm : j < m
   · exact .inl ⟨j, hm, h⟩
   obtain rfl : j = m := by omega
   by_cases hk : Lib.keeps d j = true
   · rw [if_pos hk]; exact .inr (by simp [h])
   left
   have h1 : ¬ (j = 0 ∨ d[j]! ≠ d[j - 1]!) := by simpa [Lib.keeps] using hk
   rw [not_or, Classical.not_not] at h1
   exact ⟨j - 1, by omega, by rw [← h1.2]; exact h⟩
 unfold Lib.compact
 rw [h]
 constructor
 · rintro ⟨j, hj, rfl⟩
   have : zs.toArray[j]! = zs[j] := by simp [hj]
   rw [this]; exact List.getElem_mem hj
 intro hx
 obtain ⟨j, hj, rfl⟩ := List.getElem_of_mem hx
 exact ⟨j, hj, by simp [hj]⟩
theorem Qm8 (L : Lays2.n20 P ρ) (hx : xs.length ≤ 1000000000) : Ct P (ρ.f 20) [IsV v] [Qh e (Jw .i64) v xs] (Value × List Int) (fun r => IsV r.1) (fun r => [Qh e (Jw .i64) r.1 r.2]) (fun r => (∀ x, x ∈ r.2 ↔ x ∈ xs) ∧ r.2.length ≤ xs.length) := by
 intro H w args hon hA hO
 match args, hA with
 | [u], hA =>
  obtain rfl : u = v := hA.1
  rcases Qwr (hO.all _ List.mem_cons_self) with ⟨rfl, rfl⟩ | ⟨g, cap, cur, rfl, hg, h1, h2, h3, h4⟩
  · refine (Any.slices_Compact_int_empty L none 0 w).mono fun e' w' hp => ?_
    obtain ⟨rfl, rfl⟩ := hp
    exact ⟨(Qo, []), _, H, rfl, ⟨fun x => Iff.rfl, Nat.le_refl _⟩, St.refl hon, rfl, ⟨hO.all, hO.nodup, fun k hk => ⟨(hO.own k hk).1, (hO.own k hk).2.1, .inl hk⟩⟩⟩
  have hlt : g < w.heap.size := (Array.getElem?_eq_some_iff.1 hg).1
  refine (Any.slices_Compact_int L g 0 cap xs w (holds_of_block_i hg h4) (by omega) h1).mono fun e' w' hp => ?_
  obtain ⟨rfl, q, rfl⟩ := hp
  have hle : (Lib.compact xs).length ≤ xs.length := Lib.compact_length_le xs
  obtain ⟨ts, hts⟩ : ∃ ts, Lib.compact xs ++ List.replicate (xs.length - (Lib.compact xs).length) (0 : Int) = ts := ⟨_, rfl⟩
  have hl : ts.length = xs.length := by rw [← hts, List.length_append, List.length_replicate]; omega
  have hr := ownsRow_sorted_i (w := w) (base := 0) (n := q) (os := #[]) hl (Nat.zero_le _) hg h1 h2 h3
  have hgr := grownBy_sorted_i (w := w) (g := g) (n := q) (os := #[]) ts.toArray
  rw [Go.Sort.grow_empty] at hr hgr
  rw [hts]
  have hown := hO.own g (Xn (i := Qh e (Jw .i64) (.slice (some ⟨g, 0, none⟩) xs.length cap) xs) List.mem_cons_self rfl)
  refine ⟨(.slice (some ⟨g, 0, none⟩) (Lib.compact xs).length cap, Lib.compact xs), _, H, rfl, ⟨Qm7 xs, hle⟩, Y4 (row := some g) hon hgr fun k hk => ?_, rfl, ?_⟩
  · cases hk; exact ⟨hown.2.1, Xn (i := Qh e (Jw .i64) (.slice (some ⟨g, 0, none⟩) xs.length cap) xs) List.mem_cons_self rfl⟩
  refine Js (I := Qh e (Jw .i64) (.slice (some ⟨g, 0, none⟩) xs.length cap) xs) (R := []) rfl rfl ⟨(Lib.compact xs).map encZ, ?_, Qim H _⟩ hO hgr.size
  rcases hr.2 with ⟨hz, _⟩ | ⟨g', cap', cur', hz, _, q2, q3, q4, q5, q6⟩
  · cases hz
  cases hz
  refine ⟨by simp [Jw, scalar], .inr ⟨g, cap, cur', rfl, Nat.zero_le _, q2, Nat.le_trans hle h1, q4, q5, ?_⟩⟩
  rw [Nat.mul_one] at q6
  show cur'.toList.take ((Lib.compact xs).length * 1) = _
  have : cur'.toList.take (Lib.compact xs).length = (cur'.toList.take xs.length).take (Lib.compact xs).length := by rw [List.take_take, Nat.min_eq_left hle]
  rw [Nat.mul_one, this, q6, ← hts, List.map_append, List.take_left' (by rw [List.length_map])]
end
end Go.Gw
namespace Go.Gw
open Go Go.MapKept
open Go.ChangeMaps (setBlock)
section
variable {κ α : Type}
def Qan (o : Option Nat) (enc : κ → Value) (V : α → Ty) (m : List (κ × α)) (s : MS) : It where
 blk := o
 p := fun w H => (o = none ∧ m = [] ∧ s.es = #[]) ∨ ∃ g, o = some g ∧ w.heap[g]? = some (.map s.es s.clock) ∧ J2 enc V H m s.es s.clock
 st := fun hb hs h => h.imp id fun ⟨g, e, h1, h2⟩ => ⟨g, e, (hb g e).trans h1, h2.mono hs⟩
def Qfx (r : Nat) (o : Option Nat) (i : IS) : It where
 blk := some r
 p := fun w H => w.heap[r]? = some (.mapIter o i.since i.seen i.c0)
 st := fun hb hs h => (hb r rfl).trans h
end
section
variable {C : Cx} {Γ : Env} {L R : List It} {dst : Option Tmp} {ty : TypeId} {pos : String} {after : Array Edge} {guard : Option (Nat × Bool)} {x y z : Operand} {Q : Act → World → Prop}
variable {κ α : Type} [DecidableEq κ] {t kt et : TypeId} {K : Kd κ} {enc : κ → Value} {V : α → Ty} {m : List (κ × α)} {g r : Nat} {o : Option Nat} {k : κ} {s : MS} {i : IS} {todo : List κ} {cur : Option κ}
theorem Xp (X J Y : List It) : (X ++ (J ++ Y)).Perm (J ++ (X ++ Y)) := by
 have h : (X ++ J).Perm (J ++ X) := List.perm_append_comm
 have := h.append_right Y
 simpa only [List.append_assoc] using this
theorem Q2k {ok : Nat → Prop} {w : World} {H : FH} (hr : w.heap[r]? = some (.mapIter (some g) i.since i.seen i.c0)) (hb : w.heap[g]? = some (.map s.es s.clock)) (hR : J2 enc V H m s.es s.clock) (h1 : r < w.heap.size ∧ H r = none ∧ ok r) (h2 : g < w.heap.size ∧ H g = none ∧ ok g) : Xu ok w H [K4 r g i, Ju g enc V m s] where
 all := fun j hj => by
  rcases List.mem_cons.1 hj with rfl | hj
  · exact hr
  rw [List.mem_singleton.1 hj]; exact ⟨hb, hR⟩
 nodup := by
  show [r, g].Nodup
  have : r ≠ g := fun e => by subst e; rw [hr] at hb; cases hb
  simp [this]
 own := fun b hb => by
  have hb : b ∈ [r, g] := hb
  rcases List.mem_cons.1 hb with rfl | hb
  · exact h1
  rw [List.mem_singleton.1 hb]; exact h2
theorem Z2 {X Y J : List It} : (X ++ (Y ++ J)).Perm (J ++ (X ++ Y)) := by
 rw [← List.append_assoc]; exact List.perm_append_comm
theorem Zp {X J : List It} : (X ++ J).Perm (J ++ X) := List.perm_append_comm
theorem Q0y (hp : List.Perm L (Qg g enc V m :: R)) (h : ∀ s, Tr C Γ (Qan (some g) enc V m s :: R) Q) : Tr C Γ L Q := by
 intro a w H f st ow
 have o' := ow.perm hp
 obtain ⟨es, clock, hb, hR⟩ := o'.all _ List.mem_cons_self
 exact h ⟨es, clock⟩ a w H f st (o'.swap1 (J := Qan (some g) enc V m ⟨es, clock⟩) rfl (.inr ⟨g, rfl, hb, hR⟩))
theorem Qwt (h : Tr C Γ (Qan none enc V ([] : List (κ × α)) ⟨#[], 0⟩ :: L) Q) : Tr C Γ L Q := by
 intro a w H f st ow
 refine h a w H f st ⟨fun j hj => ?_, ?_, fun b hb => ?_⟩
 · rcases List.mem_cons.1 hj with rfl | hj
   · exact .inl ⟨rfl, rfl, rfl⟩
   exact ow.all j hj
 · unfold X8; rw [List.filterMap_cons_none (show (Qan none enc V ([] : List (κ × α)) ⟨#[], 0⟩).blk = none from rfl)]; exact ow.nodup
 unfold X8 at hb; rw [List.filterMap_cons_none (show (Qan none enc V ([] : List (κ × α)) ⟨#[], 0⟩).blk = none from rfl)] at hb; exact ow.own b hb
theorem Qwu (hp : List.Perm L (Qan (some g) enc V m s :: R)) (h : Tr C Γ (Qg g enc V m :: R) Q) : Tr C Γ L Q := by
 intro a w H f st ow
 have o' := ow.perm hp
 rcases o'.all _ List.mem_cons_self with ⟨hb, _⟩ | ⟨g', hg, hb, hR⟩
 · cases hb
 cases hg
 exact h a w H f st (o'.swap1 (J := Qg g enc V m) rfl ⟨s.es, s.clock, hb, hR⟩)
theorem Qbl (ht : C.P.underlying t = some (.map kt et)) (hx : OT C.N Γ x (IsV (.map o))) (hm : Qan o enc V m s ∈ L) :
 Yp C Γ L ⟨dst, .range t x, ty, pos, after, guard⟩ [] (Nat × IS) (fun r => IsV (pt r.1 0)) (fun r => [Qfx r.1 o r.2]) (fun r => Jk m s r.2 (keys m) none) := by
 cases o with
 | some g =>
  intro a w H f st ow Q K hK
  rcases ow.all _ hm with ⟨hb, _⟩ | ⟨g', hg, hb, hR⟩
  · cases hb
  cases hg
  have hv : a.eval x = .map (some g) := hx a H f
  have hrun : (execOp a.eval ⟨dst, .range t x, ty, pos, after, guard⟩).run C.P w = .ok (.value (pt w.heap.size 0)) (w.alloc (.mapIter (some g) s.clock #[] s.clock)) := by
   have := run_range_map (P := C.P) w t kt et g s.es s.clock ht hb
   simp only [execOp, hv, Sem.run_bind, this, Result.andThen]
   rfl
  simp only [Oper.wp, hrun, Oper.upon_value]
  refine hK (w.heap.size, ⟨s.clock, #[], s.clock⟩) _ _ H ?_ (Wc st.on _) rfl (Kp (J := Qfx w.heap.size (some g) ⟨s.clock, #[], s.clock⟩) (heap_alloc_new w _) (.inr rfl) (by simp) st.on)
  exact ⟨fun e he => hR.lt e he, Nat.le_refl _, Nat.le_refl _, hR.nd, fun k h => h, fun j e k h1 h2 => ⟨fun _ => List.mem_of_getElem? h2, fun _ => by simp⟩, fun k h => by cases h⟩
 | none =>
  intro a w H f st ow Q K hK
  rcases ow.all _ hm with ⟨_, rfl, he⟩ | ⟨g', hg, _⟩
  · have hv : a.eval x = .map none := hx a H f
    have hrun : (execOp a.eval ⟨dst, .range t x, ty, pos, after, guard⟩).run C.P w = .ok (.value (pt w.heap.size 0)) (w.alloc (.mapIter none 0 #[] 0)) := by
     have := run_range_nilMap (P := C.P) w t kt et ht
     simp only [execOp, hv, Sem.run_bind, this, Result.andThen]
     rfl
    simp only [Oper.wp, hrun, Oper.upon_value]
    refine hK (w.heap.size, ⟨0, #[], 0⟩) _ _ H ?_ (Wc st.on _) rfl (Kp (J := Qfx w.heap.size none ⟨0, #[], 0⟩) (heap_alloc_new w _) (.inr rfl) (by simp) st.on)
    exact ⟨fun e h => by rw [he] at h; simp at h, Nat.le_refl _, Nat.zero_le _, List.nodup_nil, fun k h => h, fun j e k h1 h2 => by rw [he] at h1; simp at h1, fun k h => by cases h⟩
  cases hg
theorem Qb9 (hx : OT C.N Γ x (IsV (pt r 0))) (hm : Qan o enc V m s ∈ L) (hp : List.Perm L (Qfx r o i :: R)) (ho : Jk m s i todo cur) :
 Yp C Γ L ⟨dst, .next x false, ty, pos, after, guard⟩ [Qfx r o i] (IS × Option κ) (fun q => Qvo q.2.isSome) (fun q => [Qfx r o q.1]) (fun q => match q.2 with
  | none => todo = [] ∧ Jk m s q.1 todo none
  | some k => k ∈ todo ∧ Jk m s q.1 (todo.erase k) (some k)) := by
 intro a w H f st ow Q K hK
 rcases ow.all _ hm with ⟨rfl, rfl, he⟩ | ⟨g, rfl, hb, hR⟩
 · have o' := ow.perm hp
   have hr : w.heap[r]? = some (.mapIter none i.since i.seen i.c0) := o'.all _ List.mem_cons_self
   have hxv : a.eval x = pt r 0 := hx a H f
   have hrun2 : (execOp a.eval ⟨dst, .next x false, ty, pos, after, guard⟩).run C.P w = .ok (.value (.tuple #[.bool false])) w := by
    simp only [execOp, hxv, Sem.run_bind, show (pt r 0) = Value.pointer (some ⟨r, 0, none⟩) from rfl, Instr.next, getObj, Sem.run, hr, Result.andThen]
    rfl
   simp only [Oper.wp, hrun2, Oper.upon_value]
   refine hK (i, none) _ _ H ⟨List.eq_nil_iff_forall_not_mem.2 fun k hk => ?_, ho.old, ho.le, ho.lc, ho.nd, ho.sub, ho.left, fun k h => by cases h⟩ (Y4 (row := none) st.on ⟨rfl, rfl, rfl, by simp, fun k hk hne => rfl⟩ fun k hk => by cases hk) ⟨[], rfl⟩ ?_
   · have := ho.sub k hk; simp [keys] at this
   exact Js (I := Qfx r none i) (J := Qfx r none i) rfl rfl hr o' (by simp)
 have o' := ow.perm hp
 have hr : w.heap[r]? = some (.mapIter (some g) i.since i.seen i.c0) := o'.all _ List.mem_cons_self
 have ow2 : Xu _ w H [K4 r g i, Ju g enc V m s] := Q2k hr hb hR (o'.own r (Xn (i := Qfx r (some g) i) List.mem_cons_self rfl)) (ow.own g (Xn (i := Qan (some g) enc V m s) hm rfl))
 exact Z1 (C := C) (Γ := Γ) (L := [K4 r g i, Ju g enc V m s]) (R := [Ju g enc V m s]) (dst := dst) (ty := ty) (pos := pos) (after := after) (guard := guard) (todo := todo) (cur := cur) hx (List.mem_cons_of_mem _ List.mem_cons_self) (List.Perm.refl _) ho a w H f st ow2 Q K hK
theorem Qda {D : Ty} {v : α} (hx : OT C.N Γ x (IsV (pt r 0))) (hr : Qfx r o i ∈ L) (hm : Qan o enc V m s ∈ L) (ho : Jk m s i todo (some k)) (hl : lkp k m = some v) (hD : ∀ H, D.p H (enc k)) :
 Pure C Γ L ⟨dst, .entry x, ty, pos, after, guard⟩ (Y1 [D, V v]) := fun a w H f st ow => by
 rcases ow.all _ hm with ⟨rfl, rfl, he⟩ | ⟨g, rfl, hb, hR⟩
 · cases hl
 have hr1 : w.heap[r]? = some (.mapIter (some g) i.since i.seen i.c0) := ow.all _ hr
 have ow2 : Xu _ w H [K4 r g i, Ju g enc V m s] := Q2k hr1 hb hR (ow.own r (Xn (i := Qfx r (some g) i) hr rfl)) (ow.own g (Xn (i := Qan (some g) enc V m s) hm rfl))
 exact Ye (C := C) (L := [K4 r g i, Ju g enc V m s]) hx List.mem_cons_self (List.mem_cons_of_mem _ List.mem_cons_self) ho hl hD a w H f st ow2
theorem Qin {v : α} {m : List (κ × α)} (hn : (keys m).Nodup) (hk : k ∈ keys m) : keys (ptk k v m) = keys m := by
 obtain ⟨j, hj, hjk⟩ := List.getElem_of_mem hk
 have hj2 : j < m.length := by simpa [keys] using hj
 have hm : m[j]? = some (k, m[j].2) := by
  rw [List.getElem?_eq_getElem hj2]
  have : m[j].1 = k := by simpa [keys] using hjk
  rw [← this]
 rw [Qd8 hn hm]
 unfold keys
 rw [List.map_set]
 refine List.ext_getElem (by simp) fun i h1 h2 => ?_
 rw [List.getElem_set]
 split
 · rename_i h3; subst h3; simpa [keys] using hjk.symm
 rfl
theorem Qgl {v : α} (mk : Ky C.P kt K enc) (ht : C.P.underlying t = some (.map kt et)) (hx : OT C.N Γ x (IsV (mp g))) (hp : List.Perm L (Ju g enc V m s :: R)) (hy : OT C.N Γ y (K.T k)) (hz : OT C.N Γ z (V v)) (hk : k ∈ keys m) :
 Yp C Γ L ⟨dst, .mapUpdate t x y z, ty, pos, after, guard⟩ [Ju g enc V m s] MS (fun _ => Yu) (fun s' => [Ju g enc V (ptk k v m) s']) (fun s' => ∀ i todo cur, Jk m s i todo cur → Jk (ptk k v m) s' i todo none) := by
 intro a w H f st ow Q K' hK
 have o' := ow.perm hp
 obtain ⟨hb, hR⟩ := o'.all _ List.mem_cons_self
 have hown := o'.own g (Xn (i := Ju g enc V m s) List.mem_cons_self rfl)
 have hxv : a.eval x = .map (some g) := hx a H f
 have hyv : a.eval y = enc k := mk.val (hy a H f)
 rcases Qae (k := k) mk hR w with ⟨h1, h2⟩ | ⟨j, e, u, h1, h2, h3, h4, h5⟩
 · exact absurd hk h2
 have hz' := hz a H f
 have h2' : s.es[j]? = some e := by simpa using h2
 have hr : (execOp a.eval ⟨dst, .mapUpdate t x y z, ty, pos, after, guard⟩).run C.P w = .ok .skip (K1 w g (s.es.modify j fun e => { e with key := enc k, val := a.eval z }) s.clock) := by
  simp [execOp, hxv, hyv, Instr.mapUpdate, run_underlying ht, MapKept.run_getObj_map hb, mk.chk, h1, h2', h4, mk.stay, MapKept.run_setObj_map _ hb, Result.andThen]
 simp only [Oper.wp, hr, Oper.upon_skip]
 have hl : (s.es.modify j fun e => { e with key := enc k, val := a.eval z }).toList = s.es.toList.set j { e with key := enc k, val := a.eval z } := by
  rw [Kf, Kz h2]
 have hnt : ∀ (j' : Nat) (e' : MapEntry), (s.es.modify j fun e => { e with key := enc k, val := a.eval z }).toList[j']? = some e' → ∃ e0, s.es.toList[j']? = some e0 ∧ e0.born = e'.born := by
  intro j' e' h
  rw [hl, List.getElem?_set] at h
  split at h
  · rename_i hjj
    split at h
    · cases h; subst hjj; exact ⟨e, h2, rfl⟩
    cases h
  exact ⟨e', h, rfl⟩
 refine hK ⟨s.es.modify j fun e => { e with key := enc k, val := a.eval z }, s.clock⟩ _ _ H (fun i todo cur ho => ⟨fun e' he => ?_, ho.le, ho.lc, ho.nd, fun k' h => by rw [Qin hR.nd hk]; exact ho.sub k' h, fun j' e' k' h6 h7 => ?_, fun k' h => by cases h⟩) (Qde st.on hown.2.1 (Xn (i := Ju g enc V m s) List.mem_cons_self rfl) _ _) trivial ?_
 · obtain ⟨j', hj'⟩ := List.getElem?_of_mem he
   obtain ⟨e0, h6, h7⟩ := hnt j' e' hj'
   rw [← h7]; exact ho.old e0 (List.mem_of_getElem? h6)
 · rw [Qin hR.nd hk] at h7
   obtain ⟨e0, h8, h9⟩ := hnt j' e' h6
   rw [← h9]; exact ho.left j' e0 k' h8 h7
 exact Js (I := Ju g enc V m s) (J := Ju g enc V (ptk k v m) ⟨s.es.modify j fun e => { e with key := enc k, val := a.eval z }, s.clock⟩) rfl rfl ⟨Ue hb, hR.set_ h2 h3 h4 hz'⟩ o' (by simp)
theorem Qi7 {d : Kd α} {z0 : α} (mk : Ky C.P kt K enc) (ht : C.P.underlying t = some (.map kt et)) (hz : Xw C.P et d z0) (hx : OT C.N Γ x (IsV (.map o))) (ho : o = none ∧ m = [] ∨ ∃ g, o = some g ∧ Qg g enc d.T m ∈ L) (hy : OT C.N Γ y (K.T k)) :
 Pure C Γ L ⟨dst, .lookup t x y false, ty, pos, after, guard⟩ (d.T ((lkp k m).getD z0)) := by
 rcases ho with ⟨rfl, rfl⟩ | ⟨g, rfl, hm⟩
 · exact V0 mk ht hz (fun a H f => .inl ⟨hx a H f, rfl⟩) hy
 exact Xq mk ht hz hx hm hy
theorem Qpd {t t2 kt et : TypeId} (ht : C.P.underlying t = some (.map kt et)) (hx : OT C.N Γ x (IsV (.map o))) : Pure C Γ L ⟨dst, .binOp .eql t x (.const (.map none)) t2, ty, pos, after, guard⟩ (Xe o.isNone) := fun ac w H f s ow => by
 have hv : ac.eval x = .map o := hx ac H f
 have hc : ac.eval (.const (.map none)) = .map none := rfl
 have hg : (eqGuard .eql t x (.const (.map none)) (.map o) (.map none)).run C.P w = .ok () w := by simp [eqGuard]
 have he : (Op.equalIn (9999 + 1) t (.map o) (.map none)).run C.P w = .ok o.isNone w := by
  rw [Op.equalIn]
  cases o <;> simp [run_underlying ht]
 have hb : (binOp .eql t (.map o) (.map none)).run C.P w = .ok (.bool o.isNone) w := by
  show ((Op.equal t (.map o) (.map none)) >>= fun r => pure (Value.bool r)).run C.P w = _
  rw [Sem.run_bind, show (Op.equal t (.map o) (.map none)).run C.P w = _ from he]; rfl
 exact ⟨.bool o.isNone, by simp only [execOp, hv, hc, Sem.run_bind, hg, hb, Result.andThen_ok, Sem.run_pure], rfl⟩
section
variable {op : Oper} {ops : Array Oper} {P' : Exit → Act → World → Prop} {rest : List Oper} {J : List It} {ρ : Type} {T : ρ → Ty} {I : ρ → List It} {φ : ρ → Prop}
theorem Qcx (X Y : List It) (hL : L = X ++ (J ++ Y)) (hp : Yp C Γ L op J ρ T I φ) (hg : op.guard = none) (hd : Wb C.N op.dst = true)
 (h : ∀ r, φ r → Tr C (upd op.dst (T r) Γ) (X ++ (I r ++ Y)) (wpList C.P ops P' rest)) : Tr C Γ L (wpList C.P ops P' (op :: rest)) := by
 subst hL
 refine Ku hp (Xp X J Y) hg hd fun r hr => Q4 (Xp X (I r) Y).symm (h r hr)
theorem Wo (X : List It) (hL : L = X ++ J) (hp : Yp C Γ L op J ρ T I φ) (hg : op.guard = none) (hd : Wb C.N op.dst = true)
 (h : ∀ r, φ r → Tr C (upd op.dst (T r) Γ) (X ++ I r) (wpList C.P ops P' rest)) : Tr C Γ L (wpList C.P ops P' (op :: rest)) := by
 subst hL
 exact Ku hp List.perm_append_comm hg hd fun r hr => Q4 List.perm_append_comm (h r hr)
theorem Qdp (X Z : List It) (hL : L = X ++ (Z ++ J)) (hp : Yp C Γ L op J ρ T I φ) (hg : op.guard = none) (hd : Wb C.N op.dst = true)
 (h : ∀ r, φ r → Tr C (upd op.dst (T r) Γ) (X ++ (Z ++ I r)) (wpList C.P ops P' rest)) : Tr C Γ L (wpList C.P ops P' (op :: rest)) := by
 subst hL
 exact Ku hp (Z2 (X := X) (Y := Z)) hg hd fun r hr => Q4 (Z2 (X := X) (Y := Z)).symm (h r hr)
end
end
end Go.Gw
namespace Go.Gw
open Go
def Ul (v : Value) (i : Nat) : Value := match v with
 | .slice a _ c => .slice a i c
 | v => v
def Q2l (v : Value) (j sz : Nat) : Ty := ⟨fun _ u => ∃ a g n c, v = .slice (some ⟨g, 0, none⟩) n c ∧ u = .slice (some a) (n - j) (c - j) ∧ (j < n → a = ⟨g, j * sz, none⟩), fun _ h => h⟩
section
variable {C : Cx} {Γ : Env} {L R : List It} {Q : Act → World → Prop}
variable {dst : Option Tmp} {ty : TypeId} {pos : String} {after : Array Edge} {guard : Option (Nat × Bool)} {x y z z' : Operand}
variable {α : Type} {d : Kd α} {t el t' : TypeId} {k1 k2 k3 : IntKind} {v : Value} {xs : List α} {i j n : Int}
theorem Q3i {cur : List Value} {A B N : Nat} (h1 : A ≤ B) (h2 : B ≤ N) (h3 : N ≤ cur.length) : (cur.take A ++ (cur.take N).drop B ++ cur.drop (A + (N - B))).take N = (cur.take N).take A ++ (cur.take N).drop B ++ (cur.take N).drop (A + (N - B)) := by
 have hl : (cur.take A ++ (cur.take N).drop B).length = A + (N - B) := by
  rw [List.length_append, List.length_take, List.length_drop, List.length_take]; omega
 rw [List.take_append, hl, List.take_of_length_le (by rw [hl]; omega), List.take_take, Nat.min_eq_left (by omega)]
 simp only [List.drop_take]
theorem Qsy (hx : OT C.N Γ x (IsV v)) (hm : Qh t' d v xs ∈ L) (hpos : 0 < xs.length) (hy : OT C.N Γ y (Zy k1 i)) (hz : OT C.N Γ z (Zy k2 j)) (hz' : OT C.N Γ z' (Zy k3 n)) (ht : C.P.underlying t = some (.slice el)) (he : Xy C.P el d.agg d.sz = true) (h0 : 0 ≤ i) (h1 : i ≤ j) (h2 : j ≤ n) (h3 : n ≤ xs.length) :
 Pure C Γ L ⟨dst, .slice t x (some y) (some z) (some z'), ty, pos, after, guard⟩ Yu := fun a w H f s ow => by
 have hv : a.eval x = v := hx a H f
 have hi : a.eval y = .int k1 i := hy a H f
 have hj : a.eval z = .int k2 j := hz a H f
 have hn : a.eval z' = .int k3 n := hz' a H f
 obtain ⟨g, cap, cur, cs, rfl, hb, hR, hS, hcs, hcap, hcm, hcc⟩ := Kh (ow.all _ hm) hpos
 have e1 : n ≤ (cap : Int) := by omega
 have e2 : 0 ≤ j := by omega
 have e3 : 0 ≤ n := by omega
 have e4 : j ≤ max n 0 := by omega
 have e5 : i ≤ max j 0 := by omega
 exact ⟨_, by simp [execOp, Instr.sliceAt, Instr.slice, Instr.sliceBounds, Instr.sliceBound, run_underlying ht, hv, hi, hj, hn, asIntOf, h0, run_sizeOf he, e1, e2, e3, h1, h2, e4, e5]; rfl, trivial⟩
theorem Qm9 (hx : OT C.N Γ x (IsV v)) (hm : Qh t' d v xs ∈ L) (hpos : 0 < xs.length) (hy : OT C.N Γ y (Zy k1 i)) (ht : C.P.underlying t = some (.slice el)) (he : Xy C.P el d.agg d.sz = true) (h0 : 0 ≤ i) (h1 : i ≤ xs.length) :
 Pure C Γ L ⟨dst, .slice t x none (some y) none, ty, pos, after, guard⟩ (IsV (Ul v i.toNat)) := fun a w H f s ow => by
 have hv : a.eval x = v := hx a H f
 have hi : a.eval y = .int k1 i := hy a H f
 obtain ⟨g, cap, cur, cs, rfl, hb, hR, hS, hcs, hcap, hcm, hcc⟩ := Kh (ow.all _ hm) hpos
 have e1 : i ≤ (cap : Int) := by omega
 have e0 : (if cap = 0 then some (⟨g, 0, none⟩ : Addr) else (some (⟨g, 0, none⟩ : Addr)).map (·.add (0 * d.sz))) = some ⟨g, 0, none⟩ := by split <;> simp [add_plain]
 refine ⟨.slice (some ⟨g, 0, none⟩) i.toNat cap, ?_, rfl⟩
 have : (execOp a.eval ⟨dst, .slice t x none (some y) none, ty, pos, after, guard⟩).run C.P w = .ok (.value (.slice (if cap = 0 then some ⟨g, 0, none⟩ else (some (⟨g, 0, none⟩ : Addr)).map (·.add (0 * d.sz))) i.toNat cap)) w := by
  simp [execOp, Instr.sliceAt, Instr.slice, Instr.sliceBounds, Instr.sliceBound, run_underlying ht, hv, hi, asIntOf, h0, run_sizeOf he, e1]
 rw [e0] at this; exact this
theorem Qna (hx : OT C.N Γ x (IsV v)) (hm : Qh t' d v xs ∈ L) (hpos : 0 < xs.length) (hy : OT C.N Γ y (Zy k1 i)) (ht : C.P.underlying t = some (.slice el)) (he : Xy C.P el d.agg d.sz = true) (h0 : 0 ≤ i) (h1 : i ≤ xs.length) :
 Pure C Γ L ⟨dst, .slice t x (some y) none none, ty, pos, after, guard⟩ (Q2l v i.toNat d.sz) := fun a w H f s ow => by
 have hv : a.eval x = v := hx a H f
 have hi : a.eval y = .int k1 i := hy a H f
 obtain ⟨g, cap, cur, cs, rfl, hb, hR, hS, hcs, hcap, hcm, hcc⟩ := Kh (ow.all _ hm) hpos
 by_cases hc : cap = i.toNat
 · exact ⟨.slice (some ⟨g, 0, none⟩) (xs.length - i.toNat) (cap - i.toNat), by simp [execOp, Instr.sliceAt, Instr.slice, Instr.sliceBounds, Instr.sliceBound, run_underlying ht, hv, hi, asIntOf, h0, run_sizeOf he, h1, hc], ⟨g, 0, none⟩, g, xs.length, cap, rfl, rfl, fun h => by omega⟩
 exact ⟨.slice (some ⟨g, i.toNat * d.sz, none⟩) (xs.length - i.toNat) (cap - i.toNat), by simp [execOp, Instr.sliceAt, Instr.slice, Instr.sliceBounds, Instr.sliceBound, run_underlying ht, hv, hi, asIntOf, h0, run_sizeOf he, h1, hc, add_plain], ⟨g, i.toNat * d.sz, none⟩, g, xs.length, cap, rfl, rfl, fun _ => rfl⟩
theorem Qnb {m : Nat} (hx : OT C.N Γ x (IsV (Ul v m))) (hm : Qh t' d v xs ∈ L) (hpos : 0 < xs.length) (hy : OT C.N Γ y (Zy k1 i)) (hz : OT C.N Γ z (Zy k2 j)) (ht : C.P.underlying t = some (.slice el)) (he : Xy C.P el d.agg d.sz = true) (h0 : 0 ≤ i) (h1 : i < j) (h2 : j = xs.length) :
 Pure C Γ L ⟨dst, .slice t x (some y) (some z) none, ty, pos, after, guard⟩ (IsV (Qfj v i.toNat d.sz)) := fun a w H f s ow => by
 have hv : a.eval x = Ul v m := hx a H f
 have hi : a.eval y = .int k1 i := hy a H f
 have hj : a.eval z = .int k2 j := hz a H f
 obtain ⟨g, cap, cur, cs, rfl, hb, hR, hS, hcs, hcap, hcm, hcc⟩ := Kh (ow.all _ hm) hpos
 have e1 : j ≤ (cap : Int) := by omega
 have e2 : 0 ≤ j := by omega
 have e3 : i ≤ j := by omega
 have e4 : ¬ cap = i.toNat := by omega
 have e5 : j.toNat = xs.length := by omega
 have e6 : i ≤ (xs.length : Int) := by omega
 have e7 : ¬ (xs.length : Int) < i := by omega
 exact ⟨_, by simp [execOp, Instr.sliceAt, Instr.slice, Instr.sliceBounds, Instr.sliceBound, run_underlying ht, hv, Ul, hi, hj, asIntOf, h0, run_sizeOf he, e1, e2, e3, e4, e5, e6, e7, Qfj, add_plain], rfl⟩
theorem Qnc {m : Nat} (hx : OT C.N Γ x (IsV (Ul v m))) (hm : Qh t' d v xs ∈ L) (hpos : 0 < xs.length) (ht : C.P.underlying t = some (.slice el)) : Pure C Γ L ⟨dst, .call ⟨.builtin .len, #[x], #[t]⟩, ty, pos, after, guard⟩ (I64 (m : Int)) := fun a w H f s ow => by
 have hv : a.eval x = Ul v m := hx a H f
 obtain ⟨g, cap, cur, cs, rfl, hb, hR, hS, hcs, hcap, hcm, hcc⟩ := Kh (ow.all _ hm) hpos
 exact ⟨.int .i64 (m : Int), by simp [execOp, resolve, invoke, builtin, Builtin.len_, hv, Ul, run_underlying ht, goInt], rfl⟩
theorem Qi8 {i j : Nat} (hx : OT C.N Γ x (IsV (Ul v i))) (hy : OT C.N Γ y (Q2l v j d.sz)) (hp : List.Perm L (Qh el d v xs :: R)) (ht : C.P.underlying t = some (.slice el)) (he : Xy C.P el d.agg d.sz = true) (hpos : 0 < xs.length) (hij : i ≤ j) (hj : j ≤ xs.length) :
 Yp C Γ L ⟨dst, .call ⟨.builtin .append, #[x, y], #[t, t]⟩, ty, pos, after, guard⟩ [Qh el d v xs] Unit (fun _ => IsV (Ul v (i + (xs.length - j)))) (fun _ => [Qh el d v (xs.take i ++ xs.drop j ++ xs.drop (i + (xs.length - j)))]) (fun _ => True) := by
 intro a w H f s ow Q' K hK
 have hv : a.eval x = Ul v i := hx a H f
 obtain ⟨ad, g', n', c', hv2, hyv, had⟩ := hy a H f
 have o' := ow.perm hp
 obtain ⟨g, cap, cur, cs, rfl, hb, hR, hS, hcs, hcap, hcm, hcc⟩ := Kh (o'.all _ List.mem_cons_self) hpos
 obtain ⟨rfl, rfl, rfl⟩ : g' = g ∧ n' = xs.length ∧ c' = cap := by cases hv2; exact ⟨rfl, rfl, rfl⟩
 have hown := o'.own g' (Xn (i := Qh el d (.slice (some ⟨g', 0, none⟩) xs.length c') xs) List.mem_cons_self rfl)
 obtain ⟨inf, hinf, hisz⟩ : ∃ inf, C.P.info? el = some inf ∧ inf.size = d.sz := by
  unfold Xy at he
  cases hu : C.P.underlying el with
  | none => rw [hu] at he; cases he
  | some dd =>
   cases hi : C.P.info? el with
   | none => rw [hu, hi] at he; cases he
   | some inf =>
    rw [hu, hi] at he
    exact ⟨inf, rfl, Nat.eq_of_beq_eq_true ((Bool.and_eq_true _ _).mp he).2⟩
 have hle : xs.length * d.sz ≤ c' * d.sz := Nat.mul_le_mul_right _ hcap
 have hjl : j * d.sz ≤ xs.length * d.sz := Nat.mul_le_mul_right _ hj
 have hil : i * d.sz ≤ j * d.sz := Nat.mul_le_mul_right _ hij
 have hsub : (xs.length - j) * d.sz = xs.length * d.sz - j * d.sz := Nat.sub_mul _ _ _
 have hcl : cur.toList.length = c' * d.sz := by simpa using hcs
 have hRd := hR.drop j hj
 have hnl : (cs.drop (j * d.sz)).length = (xs.length - j) * d.sz := by rw [hRd.1, List.length_drop]
 have hcell : ∀ k u, (cs.drop (j * d.sz))[k]? = some u → w.cell? (ad.add k) = some u := by
  intro k u hk
  have hkl := (List.getElem?_eq_some_iff.1 hk).1
  have hjn : j < xs.length := by
   rcases Nat.lt_or_ge j xs.length with h | h
   · exact h
   have : j = xs.length := by omega
   rw [hnl, this, Nat.sub_self, Nat.zero_mul] at hkl; omega
  rw [had hjn, Addr.add_lit]
  rw [List.getElem?_drop] at hk
  have := hS _ _ hk
  rw [Nat.zero_add] at this
  simp only [World.cell?, hb, Option.isSome_none, Bool.false_eq_true, if_false]
  exact this
 have hfc := run_firstCells_some (P := C.P) w inf.size (xs.length - j) ad (xs.length - j) (c' - j) (cs.drop (j * d.sz)) (by rw [hisz]; exact hnl) hcell
 have hst := run_storeCells_at (P := C.P) g' (i * d.sz) el (cs.drop (j * d.sz)) 0 cur w hb (by rw [hnl, hsub, hcs]; omega) (fun u hu => hR.cells u (List.mem_of_mem_drop hu))
 simp only [Nat.add_zero] at hst
 have hroom : i + (xs.length - j) ≤ c' := by omega
 have hrun : (execOp a.eval ⟨dst, .call ⟨.builtin .append, #[x, y], #[t, t]⟩, ty, pos, after, guard⟩).run C.P w = .ok (.value (.slice (some ⟨g', 0, none⟩) (i + (xs.length - j)) c')) (w.setRow g' (cur.toList.take (i * d.sz) ++ cs.drop (j * d.sz) ++ cur.toList.drop (i * d.sz + (cs.drop (j * d.sz)).length)).toArray) := by
  rw [← hisz] at hst hfc ⊢
  simp [execOp, resolve, invoke, builtin, hv, Ul, hyv, Builtin.append_, run_underlying ht, sizeOf, typeInfo, hinf, Builtin.lenOf, hroom, hfc, Addr.add_lit, hst]
 simp only [Oper.wp, hrun, Oper.upon_value]
 have hmem : g' ∈ X8 [Qh el d (.slice (some ⟨g', 0, none⟩) xs.length c') xs] := Xn (i := Qh el d (.slice (some ⟨g', 0, none⟩) xs.length c') xs) List.mem_cons_self rfl
 have hil2 : i ≤ xs.length := by omega
 have hl2 : (xs.take i ++ xs.drop j ++ xs.drop (i + (xs.length - j))).length = xs.length := by
  rw [List.length_append, List.length_append, List.length_take, List.length_drop, List.length_drop]; omega
 have hRn := ((hR.take i hil2).append hRd).append (hR.drop (i + (xs.length - j)) (by omega))
 have hmul : (i + (xs.length - j)) * d.sz = i * d.sz + (xs.length * d.sz - j * d.sz) := by rw [Nat.add_mul, hsub]
 refine hK () _ _ H trivial (Qci s.on hown.2.1 hmem _) rfl ⟨?_, by simp [X8, Qh, Value.ownBlock], ?_⟩
 · intro it hit
   rw [List.mem_singleton.1 hit]
   refine ⟨_, ⟨hRn.1, .inr ⟨g', c', _, by rw [hl2], Nat.zero_le _, setRow_heap w g' _ _ el _ hb, by rw [hl2]; exact hcap, hcm, ?_, ?_⟩⟩, hRn⟩
   · simp only [List.size_toArray, List.length_append, List.length_take, List.length_drop, hnl, hcl, hsub]
     omega
   rw [hl2, hnl, hsub, hmul, hcc]
   exact Q3i hil hjl (by rw [hcl]; exact hle)
 intro b hb2
 have : b = g' := by simpa [X8, Qh, Value.ownBlock] using hb2
 subst this
 exact ⟨by simpa using hown.1, hown.2.1, .inl hmem⟩
theorem Qwv {m : Nat} (hp : List.Perm L (Qh t d v xs :: R)) (hm : m ≤ xs.length) (hpos : 0 < xs.length) (h : Tr C Γ (Qh t d (Ul v m) (xs.take m) :: R) Q) : Tr C Γ L Q := by
 intro a w H f st ow
 have o' := ow.perm hp
 have hq : (Qh t d (Ul v m) (xs.take m)).blk = (Qh t d v xs).blk ∧ (Qh t d (Ul v m) (xs.take m)).p w H := by
  obtain ⟨inner, ⟨h2, h3⟩, h4⟩ := o'.all _ List.mem_cons_self
  rcases h3 with ⟨rfl, hl⟩ | ⟨g, cap, cur, rfl, hg0, hb, hc, hm2, hs, hin⟩
  · omega
  refine ⟨rfl, inner.take (m * d.sz), ⟨?_, .inr ⟨g, cap, cur, ?_, hg0, hb, ?_, hm2, hs, ?_⟩⟩, h4.take _ hm⟩
  · have : m * d.sz ≤ xs.length * d.sz := Nat.mul_le_mul_right _ hm
    rw [List.length_take, List.length_take, h4.1, Nat.min_eq_left this, Nat.min_eq_left hm]
  · show Value.slice _ m cap = _; rw [List.length_take, Nat.min_eq_left hm]
  · rw [List.length_take]; omega
  have : m * d.sz ≤ xs.length * d.sz := Nat.mul_le_mul_right _ hm
  rw [List.length_take, Nat.min_eq_left hm, ← hin, List.take_take, Nat.min_eq_left this]
 exact h a w H f st (o'.swap1 hq.1 hq.2)
end
end Go.Gw
namespace Go.Proofs.YtklhdalppmjnaaaGreatDoor
open Go Go.Gw Go.So Go.Tu Go.Jn Go.Dr Go.MapKept
abbrev Vn : Kd (Value × Value × Int) := Xo Q3 (Xo Q3 kI)
theorem Qnd {t : Value × Value × Int} : Qf Vn Q3 0 t t.1 (fun y => (y, t.2)) := Qf.fst
theorem Qww {t : Value × Value × Int} : Qf Vn Q3 1 t t.2.1 (fun y => (t.1, y, t.2.2)) := Qf.comp (Qf.snd (a := Q3) (b := Xo Q3 kI)) (Qf.fst (a := Q3) (b := kI))
theorem Qwx {t : Value × Value × Int} : Qf Vn kI 2 t t.2.2 (fun y => (t.1, t.2.1, y)) := Qf.comp (Qf.snd (a := Q3) (b := Xo Q3 kI)) (Qf.snd (a := Q3) (b := kI))
theorem Q5v : Xw Tryz.prog 151 Vn (.map none, .map none, 0) := ⟨.agg #[.map none, .map none, .int .i64 0], by kernel_rfl, fun H => ⟨[.map none, .map none, .int .i64 0], ⟨[_], [_, _], ⟨rfl, rfl⟩, ⟨[_], [_], ⟨rfl, rfl⟩, rfl, rfl⟩, rfl⟩, rfl⟩⟩
structure RO where
 g : Nat
 gf : Nat
 gt : Nat
abbrev Qa9 (o : RO) (n : Int) : Value × Value × Int := (mp o.gf, mp o.gt, n)
def Z9 (s : Sd) : List It := s.map fun p => Qg p.2.1 encI Xd.T p.2.2
def Xc (o : RO) (r : RS) : List It := Qb o.g 151 Vn (Qa9 o r.n) :: Qg o.gf encI IsV (hdS r.f) :: Qg o.gt encI IsV (hdS r.t) :: (Z9 r.f ++ Z9 r.t)
def osS (s : Sd) (u : Int) : Option Nat := (lkp u s).map (·.1)
def inS (s : Sd) (u : Int) : List (Int × Bool) := ((lkp u s).map (·.2)).getD []
theorem Q3j (s : Sd) (u : Int) : ptS s u = .map (osS s u) := by
 unfold osS
 cases h : lkp u s with
 | none => rw [Qwo h]; rfl
 | some x => rw [Qwn h]; rfl
theorem Qgx (s : Sd) (u : Int) : (lkp u (hdS s)).getD (.map none) = .map (osS s u) := Q3j s u
theorem Q0z (s : Sd) (u v : Int) : Uk s u v = (lkp v (inS s u)).getD false := by
 unfold Uk inS
 cases lkp u s <;> rfl
theorem Vt (s : Sd) (u : Int) : K5 s u = keys (inS s u) := by
 unfold K5 inS
 cases lkp u s <;> rfl
theorem V4 {s : Sd} {u : Int} {x : Inn} (h : lkp u s = some x) : (Z9 s).Perm (Qg x.1 encI Xd.T x.2 :: Z9 (dlk u s)) := (Uc h).map fun p : Int × Inn => Qg p.2.1 encI Xd.T p.2.2
theorem Qcy {s : Sd} {u : Int} {x : Inn} : (Qg x.1 encI Xd.T x.2 :: Z9 (dlk u s)).Perm (Z9 (ptk u x s)) := ((Vd (k := u) (x := x) (m := s)).map fun p : Int × Inn => Qg p.2.1 encI Xd.T p.2.2).symm
theorem Qne {s : Sd} {u : Int} {x : Inn} (h : lkp u s = some x) : Qg x.1 encI Xd.T x.2 ∈ Z9 s := (V4 h).mem_iff.2 List.mem_cons_self
theorem Q3k {s : Sd} {u : Int} {L : List It} (hs : ∀ i ∈ Z9 s, i ∈ L) : osS s u = none ∧ inS s u = [] ∨ ∃ g, osS s u = some g ∧ Qg g encI Xd.T (inS s u) ∈ L := by
 unfold osS inS
 cases h : lkp u s with
 | none => exact .inl ⟨rfl, rfl⟩
 | some x => exact .inr ⟨x.1, rfl, hs _ (Qne h)⟩
section
variable {C : Cx} {Γ : Env} {L R : List It} {φ : Act → World → Prop} {s : Sd} {u : Int}
theorem Qnf (u : Int) (hp : L.Perm (Z9 s ++ R)) (h : ∀ st, Tr C Γ (Qan (osS s u) encI Xd.T (inS s u) st :: (Z9 (dlk u s) ++ R)) φ) : Tr C Γ L φ := by
 refine Q4 hp ?_
 unfold osS inS at h
 cases hl : lkp u s with
 | none =>
  rw [hl, J5 (Xx.1 hl)] at h
  exact Qwt (h _)
 | some x =>
  rw [hl] at h
  exact Q0y (R := Z9 (dlk u s) ++ R) ((V4 hl).append_right R) h
theorem Qng (u : Int) {st : MS} (hp : L.Perm (Qan (osS s u) encI Xd.T (inS s u) st :: (Z9 (dlk u s) ++ R))) (h : Tr C Γ (Z9 s ++ R) φ) : Tr C Γ L φ := by
 refine Q4 hp ?_
 unfold osS inS
 cases hl : lkp u s with
 | none =>
  rw [J5 (Xx.1 hl)]
  exact fun a w H f st ow => h a w H f st (Xu.right (L := [Qan none encI Xd.T ([] : List (Int × Bool)) _]) ow)
 | some x => exact Qwu (List.Perm.refl _) (Q4 ((V4 hl).symm.append_right R) h)
end
theorem Q5w (H : FH) : kPP.K H (0, 0) [.int .i64 0, .int .i64 0] := ⟨rfl, rfl, fun j x e => by
 match j, e with
 | 0, e => cases e; rfl
 | 1, e => cases e; rfl
 | j + 2, e => simp at e⟩
theorem Q3l : Xw Tryz.prog 4 Xd false := ⟨.bool false, by kernel_rfl, fun H => rfl⟩
theorem zPr : Xw Tryz.prog 109 kPP (0, 0) := ⟨.agg #[.int .i64 0, .int .i64 0], by kernel_rfl, fun H => ⟨[.int .i64 0, .int .i64 0], Q5w H, rfl⟩⟩
abbrev kSd : Kd (Value × Int × Int) := Xo Q3 (Xo kI kI)
theorem ls0 {t : Value × Int × Int} : Qf kSd Q3 0 t t.1 (fun y => (y, t.2)) := Qf.fst
theorem ls1 {t : Value × Int × Int} : Qf kSd kI 1 t t.2.1 (fun y => (t.1, y, t.2.2)) := Qf.comp (Qf.snd (a := Q3) (b := Xo kI kI)) (Qf.fst (a := kI) (b := kI))
theorem ls2 {t : Value × Int × Int} : Qf kSd kI 2 t t.2.2 (fun y => (t.1, t.2.1, y)) := Qf.comp (Qf.snd (a := Q3) (b := Xo kI kI)) (Qf.snd (a := kI) (b := kI))
theorem zSd : Xw Tryz.prog 152 kSd (.map none, 0, 0) := ⟨.agg #[.map none, .int .i64 0, .int .i64 0], by kernel_rfl, fun H => ⟨[.map none, .int .i64 0, .int .i64 0], ⟨[_], [_, _], ⟨rfl, rfl⟩, ⟨[_], [_], rfl, rfl, rfl⟩, rfl⟩, rfl⟩⟩
def sdI (g : Nat) (s : Sd) : List It := Qg g encI IsV (hdS s) :: Z9 s
def Qi9 : List Nat → List Sd → List It
 | g :: gs, s :: ss => sdI g s ++ Qi9 gs ss
 | _, _ => []
theorem Qjv (o : RO) (r : RS) : (Xc o r).Perm (Qb o.g 151 Vn (Qa9 o r.n) :: Qi9 [o.gf, o.gt] [r.f, r.t]) := by
 unfold Xc Qi9 Qi9 Qi9 sdI
 refine List.Perm.cons _ ?_
 simp only [List.cons_append, List.append_nil]
 refine List.Perm.cons _ ?_
 exact (Xp [Qg o.gt encI IsV (hdS r.t)] (Z9 r.f) (Z9 r.t))
abbrev Qwy (o : RO) (r : RS) (u : Int) : List It := Qb o.g 151 Vn (Qa9 o r.n) :: Qg o.gf encI IsV (hdS r.f) :: Qg o.gt encI IsV (hdS r.t) :: (Z9 (dlk u r.f) ++ Z9 r.t)
abbrev Qwz (o : RO) (r : RS) (u : Int) : List It := Qb o.g 151 Vn (Qa9 o r.n) :: Qg o.gf encI IsV (hdS r.f) :: Qg o.gt encI IsV (hdS r.t) :: (Z9 r.f ++ Z9 (dlk u r.t))
theorem Qk7 {s : Sd} {u : Int} {x : Inn} {m : List (Int × Bool)} (h : lkp u s = some x) : hdS (ptk u (x.1, m) s) = hdS s := by
 rw [Qq3]
 exact Qem (by rw [Qe5, h]; rfl)
theorem Qsz {o : RO} {r : RS} {u : Int} {x : Inn} {X : List It} (h : lkp u r.f = some x) : (X ++ Xc o r).Perm (Qg x.1 encI Xd.T x.2 :: (X ++ Qwy o r u)) := by
 have h1 : (Xc o r).Perm (Qg x.1 encI Xd.T x.2 :: Qwy o r u) := by
  have h2 := (V4 h).append_right (Z9 r.t)
  exact ((((h2.cons _).cons _).cons _).trans (Xp [_, _, _] [Qg x.1 encI Xd.T x.2] _))
 exact (h1.append_left X).trans (Xp X [_] _)
theorem Qpe {o : RO} {r : RS} {u : Int} {x : Inn} {m : List (Int × Bool)} {X : List It} (h : lkp u r.f = some x) : (Qg x.1 encI Xd.T m :: (X ++ Qwy o r u)).Perm (X ++ Xc o ⟨ptk u (x.1, m) r.f, r.t, r.n⟩) := by
 have h1 : (Qg x.1 encI Xd.T m :: Qwy o r u).Perm (Xc o ⟨ptk u (x.1, m) r.f, r.t, r.n⟩) := by
  have h2 := (Qcy (s := r.f) (u := u) (x := (x.1, m))).append_right (Z9 r.t)
  unfold Xc Qwy
  rw [Qk7 h]
  exact (Xp [_, _, _] [Qg x.1 encI Xd.T m] _).symm.trans (((h2.cons _).cons _).cons _)
 exact (Xp X [_] _).symm.trans (h1.append_left X)
theorem Qs0 {o : RO} {r : RS} {u : Int} {x : Inn} {X : List It} (h : lkp u r.t = some x) : (X ++ Xc o r).Perm (Qg x.1 encI Xd.T x.2 :: (X ++ Qwz o r u)) := by
 have h1 : (Xc o r).Perm (Qg x.1 encI Xd.T x.2 :: Qwz o r u) := by
  have h2 := (V4 h).append_left (Z9 r.f)
  exact ((((h2.cons _).cons _).cons _).trans (Xp (_ :: _ :: _ :: Z9 r.f) [Qg x.1 encI Xd.T x.2] _))
 exact (h1.append_left X).trans (Xp X [_] _)
theorem Qpf {o : RO} {r : RS} {u : Int} {x : Inn} {m : List (Int × Bool)} {X : List It} (h : lkp u r.t = some x) : (Qg x.1 encI Xd.T m :: (X ++ Qwz o r u)).Perm (X ++ Xc o ⟨r.f, ptk u (x.1, m) r.t, r.n⟩) := by
 have h1 : (Qg x.1 encI Xd.T m :: Qwz o r u).Perm (Xc o ⟨r.f, ptk u (x.1, m) r.t, r.n⟩) := by
  have h2 := (Qcy (s := r.t) (u := u) (x := (x.1, m))).append_left (Z9 r.f)
  unfold Xc Qwz
  rw [Qk7 h]
  exact (Xp (_ :: _ :: _ :: Z9 r.f) [Qg x.1 encI Xd.T m] _).symm.trans (((h2.cons _).cons _).cons _)
 exact (Xp X [_] _).symm.trans (h1.append_left X)
theorem Qnh {s : Sd} {u v : Int} (h : Uk s u v = true) : ∃ x, lkp u s = some x := by
 cases hl : lkp u s with
 | none => rw [Qcw hl] at h; cases h
 | some x => exact ⟨x, rfl⟩
theorem Qio {s : Sd} {u v : Int} {x : Inn} (h : lkp u s = some x) : Qge u v s = ptk u (x.1, dlk v x.2) s := by unfold Qge; rw [h]
theorem Qs1 {s : Sd} {u v : Int} {g : Nat} {x : Inn} (h : lkp u s = some x) : Ks u v g s = ptk u (x.1, ptk v true x.2) s := by unfold Ks; rw [h]
theorem Qs2 {s : Sd} {u v : Int} {g : Nat} (h : lkp u s = none) : Ks u v g s = ptk u (g, [(v, true)]) s := by unfold Ks; rw [h]
theorem Qk8 {s : Sd} {u : Int} {x : Inn} (h : lkp u s = some x) : (lkp u (hdS s)).getD (.map none) = mp x.1 := by rw [Qe5, h]; rfl
def W1 (P : List Jn.Pr) (p : Jn.Pr) : List Jn.Pr := if p ∈ P then P else P ++ [p]
def Qk9 (r : RS) (p : Jn.Pr) (k g1 g2 : Nat) : List Sd := [if 0 < k then Ks p.1 p.2 g1 r.f else r.f, if 1 < k then Ks p.2 p.1 g2 r.t else r.t]
theorem Qw0 {o : RO} {r : RS} {p : Jn.Pr} {k : Nat} {ss : List Sd} (hk : k < 2) (hin : ∃ g1 g2, ss = Qk9 r p k g1 g2) :
 ∃ gK sK a b Rest, at' [(mp o.gf, p.1, p.2), (mp o.gt, p.2, p.1)] (k : Int) = (mp gK, a, b) ∧ (Qi9 [o.gf, o.gt] ss).Perm (sdI gK sK ++ Rest) ∧
  ∀ g', ∃ ss', (sdI gK (Ks a b g' sK) ++ Rest).Perm (Qi9 [o.gf, o.gt] ss') ∧ ∃ g1 g2, ss' = Qk9 r p (k + 1) g1 g2 := by
 obtain ⟨g1, g2, rfl⟩ := hin
 match k, hk with
 | 0, _ => exact ⟨o.gf, r.f, p.1, p.2, Qi9 [o.gt] [r.t], rfl, List.Perm.refl _, fun g' => ⟨[Ks p.1 p.2 g' r.f, r.t], List.Perm.refl _, g', 0, rfl⟩⟩
 | 1, _ => exact ⟨o.gt, r.t, p.2, p.1, Qi9 [o.gf] [Ks p.1 p.2 g1 r.f], rfl, by
  show (sdI o.gf (Ks p.1 p.2 g1 r.f) ++ (sdI o.gt r.t ++ [])).Perm (sdI o.gt r.t ++ (sdI o.gf (Ks p.1 p.2 g1 r.f) ++ []))
  simp only [List.append_nil]
  exact List.perm_append_comm, fun g' => ⟨[Ks p.1 p.2 g1 r.f, Ks p.2 p.1 g' r.t], by
  show (sdI o.gt (Ks p.2 p.1 g' r.t) ++ (sdI o.gf (Ks p.1 p.2 g1 r.f) ++ [])).Perm (sdI o.gf (Ks p.1 p.2 g1 r.f) ++ (sdI o.gt (Ks p.2 p.1 g' r.t) ++ []))
  simp only [List.append_nil]
  exact List.perm_append_comm, g1, g', rfl⟩⟩
theorem Qw1 {gK g : Nat} {s : Sd} {a b : Int} (hn : lkp a s = none) : (lkp a (ptk a (mp g) (hdS s))).getD (.map none) = mp g ∧ (Qg g encI Xd.T (ptk b true []) :: Qg gK encI IsV (ptk a (mp g) (hdS s)) :: Z9 s).Perm (sdI gK (Ks a b g s)) := by
 refine ⟨by rw [Xl, if_pos rfl]; rfl, ?_⟩
 rw [Qs2 hn]
 unfold sdI
 rw [Qq3]
 refine (List.Perm.swap _ _ _).trans (List.Perm.cons _ ?_)
 have := Qcy (s := s) (u := a) (x := (g, [(b, true)]))
 rwa [J5 (Xx.1 hn)] at this
theorem Qw2 {gK : Nat} {s : Sd} {a b : Int} {x : Inn} (h : lkp a s = some x) : (lkp a (hdS s)).getD (.map none) = mp x.1 ∧ (Qg x.1 encI Xd.T (ptk b true x.2) :: Qg gK encI IsV (hdS s) :: Z9 (dlk a s)).Perm (sdI gK (Ks a b 0 s)) := by
 refine ⟨Qk8 h, ?_⟩
 rw [Qs1 h]
 unfold sdI
 rw [Qk7 h]
 exact (List.Perm.swap _ _ _).trans (List.Perm.cons _ (Qcy (x := (x.1, ptk b true x.2))))
theorem Q00 {M1 X5 M2 B O : It} {Y R S D : List It} (h1 : (M1 :: M2 :: Y).Perm S) (h2 : (S ++ R).Perm D) : ∃ Z, List.Perm (M1 :: X5 :: M2 :: B :: O :: (Y ++ R)) (B :: O :: D ++ Z) := by
 refine ⟨[X5], ?_⟩
 have h3 : (M1 :: M2 :: (Y ++ R)).Perm D := (h1.append_right R).trans h2
 have h4 : (B :: O :: M1 :: M2 :: (Y ++ R)).Perm (B :: O :: D) := (h3.cons _).cons _
 refine (List.Perm.swap _ _ _).trans ?_
 refine List.Perm.trans (List.Perm.cons _ ((Xp [M1, M2] [B, O] (Y ++ R)).trans h4)) ?_
 exact (List.perm_append_singleton X5 _).symm
abbrev kDr : Kd (Lab × Value × Value × Int) := Xo kS (Xo Q3 (Xo Q3 kI))
theorem ld0 {t : Lab × Value × Value × Int} : Qf kDr kS 0 t t.1 (fun y => (y, t.2)) := Qf.fst
theorem ld1 {t : Lab × Value × Value × Int} : Qf kDr Q3 1 t t.2.1 (fun y => (t.1, y, t.2.2)) := Qf.comp (Qf.snd (a := kS) (b := Xo Q3 (Xo Q3 kI))) (Qf.fst (a := Q3) (b := Xo Q3 kI))
theorem ld2 {t : Lab × Value × Value × Int} : Qf kDr Q3 2 t t.2.2.1 (fun y => (t.1, t.2.1, y, t.2.2.2)) := Qf.comp (Qf.snd (a := kS) (b := Xo Q3 (Xo Q3 kI))) (Qf.comp (Qf.snd (a := Q3) (b := Xo Q3 kI)) (Qf.fst (a := Q3) (b := kI)))
theorem ld3 {t : Lab × Value × Value × Int} : Qf kDr kI 3 t t.2.2.2 (fun y => (t.1, t.2.1, t.2.2.1, y)) := Qf.comp (Qf.snd (a := kS) (b := Xo Q3 (Xo Q3 kI))) (Qf.comp (Qf.snd (a := Q3) (b := Xo Q3 kI)) (Qf.snd (a := Q3) (b := kI)))
theorem zDr : Xw Tryz.prog 106 kDr ([], .pointer none, .pointer none, 0) := ⟨.agg #[.string (bs []), .pointer none, .pointer none, .int .i64 0], by kernel_rfl, fun H => ⟨[.string (bs []), .pointer none, .pointer none, .int .i64 0], ⟨[_], [_, _, _], rfl, ⟨[_], [_, _], ⟨rfl, rfl⟩, ⟨[_], [_], ⟨rfl, rfl⟩, rfl, rfl⟩, rfl⟩, rfl⟩, rfl⟩⟩
structure DO where
 g : Nat
 lab : Lab
 e : RO
 s : RO
abbrev dV (o : DO) (n : Int) : Lab × Value × Value × Int := (o.lab, pt o.e.g 0, pt o.s.g 0, n)
def DrI (o : DO) (n : Int) (e s : RS) : List It := Qb o.g 106 kDr (dV o n) :: (Xc o.e e ++ Xc o.s s)
end Go.Proofs.YtklhdalppmjnaaaGreatDoor
