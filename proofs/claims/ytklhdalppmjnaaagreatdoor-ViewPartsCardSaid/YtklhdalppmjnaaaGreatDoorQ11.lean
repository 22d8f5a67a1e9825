/- The texts DrE, Dr1, Dr2, DrF, Dr3, Dr4, DrG, Dr5, DrH, Dr6, DrJ, Dr7, SpA, Sp1, Sp2, Sp3, Dr8, G51, VwA, Vw1, VwK, Vw2, Vw3, VwB of this claim, put together in their order. No condition of their own. -/
import Derived.Test.YtklhdalppmjnaaaGreatDoorQ10
import Derived.Test.YtklhdalppmjnaaaGreatDoorQ9
import Derived.Test.YtklhdalppmjnaaaGreatDoorQ7
import Derived.Test.YtklhdalppmjnaaaGreatDoorQ4
set_option linter.unusedVariables false
set_option linter.unusedSimpArgs false
set_option linter.unusedSectionVars false
set_option maxHeartbeats 1000000
set_option maxRecDepth 20000
namespace Go.Proofs.YtklhdalppmjnaaaGreatDoor
open Go Go.Gw Go.So Go.Tu Go.Jn Go.MapKept
open Go.Dr hiding Pr
theorem Qpg {J : List It} {s : Sd} {u : Int} (hJ : ∀ i ∈ Z9 s, i ∈ J) (hs : Qc5 s) (hin : ∀ v ∈ K5 s u, Y8 v) (hl : (inS s u).length ≤ 1000000) : Uy Q3 (.map (osS s u)) J (K5 s u) := by
 intro H w cs hon hK hO
 refine ⟨_, hK.1, ?_⟩
 unfold osS inS at *
 rw [Vt]
 rw [Vt] at hin
 unfold inS at *
 cases h : lkp u s with
 | none => exact .inl ⟨rfl, rfl⟩
 | some x =>
  rw [h] at hl hin
  obtain ⟨es, clock, h1, h2⟩ := hO.all _ (hJ _ (Qne h))
  exact .inr ⟨Bool, x.1, Xd.T, x.2, es, clock, rfl, h1, h2, rfl, hin, hl⟩
theorem Qw3 (o : Option Nat) : Ct Tryz.prog 204 [Q3.T (.map o)] [] Nat (fun b => IsV (.func (.func 206) #[] #[pt b 0])) (fun b => [Qb b 154 Q3 (.map o)]) (fun _ => True) :=
 Qq4 Tryz.lKeysB fun H v h => ⟨o, h.1⟩
theorem Qni {b : Nat} {x : Value} {J : List It} {l : List Int} (hk : Uy Q3 x J l) : Ct Tryz.prog 88 [IsV (.func (.func 206) #[] #[pt b 0])] (Qb b 154 Q3 x :: J) (Value × List Int) (fun r => IsV r.1) (fun r => Qh 3 kI r.1 r.2 :: Qb b 154 Q3 x :: J) (fun r => r.2.Perm l) :=
 Qpc Tryz.lCollect (σ := Tryz.lKeysB_ren) { Tryz.lKeysB with } (enters_of Tryz.func206 (by kernel_rfl) rfl) hk
theorem Qnj {v : Value} {xs : List Int} (hx : xs.length ≤ 1000000000) : Ct Tryz.prog 86 [IsV v] [Qh 3 kI v xs] (List Int) (fun _ => Yu) (fun ys => [Qh 3 kI v ys]) (fun ys => ys.Perm xs) := Qws Tryz.lSort hx
theorem Qip {v : Value} {xs : List Int} (hx : xs.length ≤ 1000000000) : Ct Tryz.prog 87 [IsV v] [Qh 3 kI v xs] (Value × List Int) (fun r => IsV r.1) (fun r => [Qh 3 kI r.1 r.2]) (fun r => (∀ x, x ∈ r.2 ↔ x ∈ xs) ∧ r.2.length ≤ xs.length) := Qm8 Tryz.lCompact hx
theorem Yw {α : Type} [DecidableEq α] : ∀ {l m : List α}, l.Nodup → (∀ x ∈ l, x ∈ m) → l.length ≤ m.length
 | [], _, _, _ => Nat.zero_le _
 | a :: l, m, hn, h => by
  have h1 := List.nodup_cons.1 hn
  have h2 : l.length ≤ (m.erase a).length := Yw h1.2 fun x hx => (List.mem_erase_of_ne (fun e : x = a => h1.1 (e ▸ hx))).2 (h x (List.mem_cons_of_mem _ hx))
  have h3 := List.length_erase_of_mem (h a List.mem_cons_self)
  have h4 := List.length_pos_of_mem (h a List.mem_cons_self)
  rw [List.length_cons]; omega
abbrev inP (p : Jn.Pr) : Prop := Y8 p.1 ∧ Y8 p.2
theorem Wj {P : List Jn.Pr} {r : RS} (h : Ze P r) {u v : Int} : v ∈ K5 r.f u ↔ (u, v) ∈ P := by rw [Qm4 h.fo, h.f]; simp
theorem Qiq {P : List Jn.Pr} {r : RS} (h : Ze P r) {u v : Int} : v ∈ K5 r.t u ↔ (v, u) ∈ P := by rw [Qm4 h.to, h.t]; simp
theorem Qw4 {P : List Jn.Pr} {r : RS} (h : Ze P r) {u : Int} : (K5 r.f u).length ≤ P.length := by
 have h1 : ((K5 r.f u).map fun v => (u, v)).Nodup := List.Pairwise.map _ (fun a b hab e => hab (congrArg Prod.snd e)) (Qik h.fo)
 have := Yw h1 fun x hx => by obtain ⟨v, hv, rfl⟩ := List.mem_map.1 hx; exact (Wj h).1 hv
 rwa [List.length_map] at this
theorem Qw5 {P : List Jn.Pr} {r : RS} (h : Ze P r) {u : Int} : (K5 r.t u).length ≤ P.length := by
 have h1 : ((K5 r.t u).map fun v => (v, u)).Nodup := List.Pairwise.map _ (fun a b hab e => hab (congrArg Prod.fst e)) (Qik h.to)
 have := Yw h1 fun x hx => by obtain ⟨v, hv, rfl⟩ := List.mem_map.1 hx; exact (Qiq h).1 hv
 rwa [List.length_map] at this
def sdB (b : Bool) (r : RS) : Sd := match b with | true => r.t | false => r.f
def gB (b : Bool) (o : RO) : Nat := match b with | true => o.gt | false => o.gf
def swB (b : Bool) (u v : Int) : Jn.Pr := match b with | true => (v, u) | false => (u, v)
theorem Q3m {b : Bool} {o : RO} {r : RS} : Qg (gB b o) encI IsV (hdS (sdB b r)) ∈ Xc o r := by
 cases b
 · exact List.mem_cons_of_mem _ List.mem_cons_self
 exact List.mem_cons_of_mem _ (List.mem_cons_of_mem _ List.mem_cons_self)
theorem Q01 {b : Bool} {o : RO} {r : RS} : ∀ i ∈ Z9 (sdB b r), i ∈ Xc o r := fun i hi => by
 refine List.mem_cons_of_mem _ (List.mem_cons_of_mem _ (List.mem_cons_of_mem _ ?_))
 cases b
 · exact List.mem_append_left _ hi
 exact List.mem_append_right _ hi
theorem Qw6 {P : List Jn.Pr} {r : RS} (h : Ze P r) {b : Bool} {u v : Int} : v ∈ K5 (sdB b r) u ↔ swB b u v ∈ P := by
 cases b
 · exact Wj h
 exact Qiq h
theorem Qir {P : List Jn.Pr} {r : RS} (h : Ze P r) {b : Bool} {u : Int} : (K5 (sdB b r) u).length ≤ P.length := by
 cases b
 · exact Qw4 h
 exact Qw5 h
theorem Qnk {o : RO} {P : List Jn.Pr} {r : RS} (h : Ze P r) (hi : ∀ p ∈ P, inP p) (hl : P.length ≤ 1000000) (b : Bool) (u : Int) : Uy Q3 (.map (osS (sdB b r) u)) (Xc o r) (K5 (sdB b r) u) := by
 have h1 : (K5 (sdB b r) u).length ≤ P.length := Qir h
 have h2 : (inS (sdB b r) u).length = (K5 (sdB b r) u).length := by rw [Vt]; simp [keys]
 refine Qpg Q01 (by cases b; exact h.fo; exact h.to) (fun v hv => ?_) (by omega)
 have := hi _ ((Qw6 h).1 hv)
 cases b
 · exact this.2
 exact this.1
inductive Kt {σ : Type} (stp : σ → Jn.Pr → σ → Bool → Prop) (s : σ) : List Jn.Pr → σ → List Jn.Pr → Prop
 | nil : Kt stp s [] s []
 | snoc {l ys : List Jn.Pr} {s1 s2 : σ} {q : Jn.Pr} {b : Bool} (h : Kt stp s l s1 ys) (h2 : stp s1 q s2 b) : Kt stp s (l ++ [q]) s2 (if b then ys else ys ++ [q])
theorem Kt.yes {σ : Type} {stp : σ → Jn.Pr → σ → Bool → Prop} {s : σ} {xs ys : List Jn.Pr} {k : Nat} {s1 s2 : σ} (hk : k < xs.length) (h : Kt stp s (xs.take k) s1 ys) (h2 : stp s1 (at' xs (k : Int)) s2 true) : Kt stp s (xs.take (k + 1)) s2 ys := by
 rw [List.take_succ_eq_append_getElem hk]
 rw [Q1 hk] at h2
 exact Kt.snoc h h2
theorem Kt.no {σ : Type} {stp : σ → Jn.Pr → σ → Bool → Prop} {s : σ} {xs ys : List Jn.Pr} {k : Nat} {s1 s2 : σ} (hk : k < xs.length) (h : Kt stp s (xs.take k) s1 ys) (h2 : stp s1 (at' xs (k : Int)) s2 false) : Kt stp s (xs.take (k + 1)) s2 (ys ++ [at' xs (k : Int)]) := by
 rw [List.take_succ_eq_append_getElem hk]
 rw [Q1 hk] at h2 ⊢
 exact Kt.snoc h h2
theorem Kt.no' {σ : Type} {stp : σ → Jn.Pr → σ → Bool → Prop} {s : σ} {xs : List Jn.Pr} {k : Nat} {s1 s2 : σ} (hk : k < xs.length) (h : Kt stp s (xs.take k) s1 (xs.take k)) (h2 : stp s1 (at' xs (k : Int)) s2 false) : Kt stp s (xs.take (k + 1)) s2 (xs.take (k + 1)) := by
 have := Kt.no hk h h2
 rwa [Q1 hk, ← List.take_succ_eq_append_getElem hk] at this
def IxD {σ : Type} (stp : σ → Jn.Pr → σ → Bool → Prop) (s : σ) (xs : List Jn.Pr) (r : Int) (s' : σ) : Prop := (r = -1 ∧ Kt stp s xs s' xs) ∨ ∃ (i : Nat) (s1 : σ), i < xs.length ∧ r = (i : Int) ∧ Kt stp s (xs.take i) s1 (xs.take i) ∧ stp s1 (at' xs (i : Int)) s' true
end Go.Proofs.YtklhdalppmjnaaaGreatDoor
namespace Go.Proofs.YtklhdalppmjnaaaGreatDoor
open Go Go.Gw Go.So Go.Tu Go.Jn
open Go.Dr hiding Pr

/-- (*rhizome/dred.relation).has -/
theorem Qbd (o : RO) (r : RS) (p : Pr) : Ct Tryz.prog 76 [IsV (pt o.g 0), kPP.T p] (Xc o r) Unit (fun _ => Xe (Uk r.f p.1 p.2)) (fun _ => Xc o r) (fun _ => True) := by
 refine Qn Tryz.func76 rfl rfl ?_
 intro H w
 refine Q4 (List.Perm.refl (Qb o.g 151 Vn (Qa9 o r.n) :: Qg o.gf encI IsV (hdS r.f) :: Qg o.gt encI IsV (hdS r.t) :: (Z9 r.f ++ Z9 r.t))) (sq (rg (oA (Xf (d := kPP) oz) pR rfl rfl (fun g0_0 _ => ?_))))
 refine ak rfl (tn (nn (sq ?_)))
 apply Xs (m := 9) (ns := [[(0, none)], [(5, some 0)], [(6, some 1)], [(7, some 2)], [(3, none)], [(9, some 4)], [(8, some 3), (10, some 5)], [(3, none)], [(12, some 7)]]) (by kernel_rfl) (by kernel_rfl) (Ts := [_, _, _, _, _, _, _, _, _]) rfl
 case hops =>
  exact ⟨rmv rfl, rP (Qe oz), rP (pf oz y1e), rP (Ql oz (mA 1 rfl) Qnd yue), rP (Zj oz (mA 0 rfl) Tryz.underlying109 ynm), rP (Z7 oz (mA 0 rfl) ynm), rP (X7 mkI Tryz.underlying149 (z0 := (.map none)) (by kernel_rfl) oz (mA 2 rfl) oz), rP (Zk oz (mA 0 rfl) Tryz.underlying109 ynm), rP (Z8 oz (mA 0 rfl) ynm), trivial⟩
 case h =>
  exact oP (Qi7 (o := osS r.f p.1) (m := inS r.f p.1) mkI Tryz.underlying154 Q3l (OT.eq oz (congrArg IsV (Qgx _ _))) (Q3k (fun i hi => List.mem_cons_of_mem _ (List.mem_cons_of_mem _ (List.mem_cons_of_mem _ (List.mem_cons_of_mem _ (List.mem_append_left _ hi)))))) oz) rfl (av rfl rfl (tn (nn (tR (Qi .ret (.inl rfl) rfl () (OT.val oz (congrArg Value.bool (Q0z _ _ _).symm)) trivial (pd pl))))))
/-- (*rhizome/dred.relation).put -/
theorem Qfa (o : RO) (r : RS) (P : List Pr) (p : Pr) (hr : Ze P r) (hP : P.length ≤ 100000000000) : Ct Tryz.prog 48 [IsV (pt o.g 0), kPP.T p] (Xc o r) RS (fun q => Xe (decide (p ∉ P))) (fun q => Xc o q) (fun q => Ze (W1 P p) q) := by
 refine Qn Tryz.func48 rfl rfl ?_
 intro H w
 have hn := hr.n
 have hf := hr.f p.1 p.2
 have ht := hr.t p.1 p.2
 have hpl := hP
 refine sq (rg (oA (Xf (d := kPP) oz) pR rfl rfl (fun g0_0 _ => ?_)))
 refine ak rfl (tn (nn (sq (sq (rg (mv rfl rfl (oP (plv oz (mA 0 rfl) y6q) rfl (Wo [_] rfl (aC (Qbd o r p) ylx (oc oz (oc oz oN)) (Zp (X := [_]))) rfl rfl fun _ _ => (tn (nn (tc oz (fun c9 => ?_) (fun c9 => ?_))))))))))))
 · have hin : p ∈ P := by rw [c9] at hf; exact of_decide_eq_true hf.symm
   refine sq (rg (ak rfl (tn (nn (tR (tt ?_))))))
   exact Qi .ret (.inl rfl) rfl r (OT.val oz (congrArg Value.bool (by simp [hin]))) (by rw [W1, if_pos hin]; exact hr) (pd pl)
 · have hin : p ∉ P := by rw [c9] at hf; exact of_decide_eq_false hf.symm
   refine Q4 ((Qjv o r).cons _) (sk (nn (sq (sq ?_))))
   apply Xs (m := 21) (ns := [[(0, none)], [(10, some 0)], [(11, some 1)], [(12, some 2)], [(3, none)], [(14, some 4)], [(3, none)], [(16, some 6)], [(13, some 3), (15, some 5), (17, some 7)], [(0, none)], [(19, some 9)], [(20, some 10)], [(21, some 11)], [(3, none)], [(23, some 13)], [(3, none)], [(25, some 15)], [(22, some 12), (24, some 14), (26, some 16)], [(18, some 8), (27, some 17)], [(28, some 18)], []]) (by kernel_rfl) (by kernel_rfl) (Ts := [_, _, _, _, _, _, _, _, _, _, _, _, _, _, _, _, _, _, _, _, _]) rfl
   case hops =>
    exact ⟨rmv rfl, rP (Qe oz), rP (pf oz y1e), rP (Ql oz (mA 1 rfl) Qnd yue), rP (Zj oz (mA 0 rfl) Tryz.underlying109 ynm), rP (Z7 oz (mA 0 rfl) ynm), rP (Zk oz (mA 0 rfl) Tryz.underlying109 ynm), rP (Z8 oz (mA 0 rfl) ynm), rP (Zb (d := kSd) (v0 := (.map none, 0, 0)) (ps := [(0, 1), (1, 1), (2, 1)]) zSd (by kernel_rfl) rfl (Qk rfl ls0 (OT.raw oz rfl) (Qk rfl ls1 oz (Qk rfl ls2 oz Qc)))), rmv rfl, rP (Qe oz), rP (pf oz ysc), rP (Ql oz (mA 1 rfl) Qww yue), rP (Zk oz (mA 0 rfl) Tryz.underlying109 ynm), rP (Z8 oz (mA 0 rfl) ynm), rP (Zj oz (mA 0 rfl) Tryz.underlying109 ynm), rP (Z7 oz (mA 0 rfl) ynm), rP (Zb (d := kSd) (v0 := (.map none, 0, 0)) (ps := [(0, 1), (1, 1), (2, 1)]) zSd (by kernel_rfl) rfl (Qk rfl ls0 (OT.raw oz rfl) (Qk rfl ls1 oz (Qk rfl ls2 oz Qc)))), Zc rfl (Q7 (d := kSd) (v0 := (.map none, 0, 0)) yef y5c zSd (show 2 * 3 ≤ 16777216 from by decide) (by decide) (Qv rfl rfl (by decide) oz (Qv rfl rfl (by decide) oz Qc))) (fun _ _ _ _ h => h), rP (pls oz Tryz.underlying153), rP (Qm ot), trivial⟩
   case h =>
    refine tn (nn (tb (Qt (σ := Nat × List Sd) (e2 0 28 rfl (ec 29 rfl en)) (fun s => [(30, I64 (s.1 : Int))]) (fun s => Qb g0_0 109 kPP p :: Qb o.g 151 Vn (Qa9 o r.n) :: Qi9 [o.gf, o.gt] s.2) (fun s => s.1 ≤ 2 ∧ ∃ g1 g2, s.2 = Qk9 r p s.1 g1 g2) (fun s => 2 - s.1) (0, [r.f, r.t]) ⟨Nat.zero_le _, 0, 0, rfl⟩ ?_ (op pl) ?_)))
    · exact (ec 30 rfl en)
    rintro ⟨k, ss⟩ ⟨hk, hin2⟩
    dsimp only at hk hin2 ⊢
    refine sq (rg (oP (Q5 oz oz) rfl (tn (nn (sq (tc oz (fun c31 => ?_) (fun c31 => ?_)))))))
    · refine sk (nn (sq (tb (sq ?_))))
      have hk2 : k < 2 := by have := c31; simp at this; omega
      obtain ⟨gK, sK, a, b, R, hx, hp, hs⟩ := Qw0 hk2 hin2
      have hx2 : at' (((List.replicate 2 (Value.map none, (0 : Int), (0 : Int))).set 0 (mp o.gf, p.1, p.2)).set 1 (mp o.gt, p.2, p.1)) (k : Int) = (mp gK, a, b) := hx
      refine Q4 ((hp.append_left [_, _]).trans (Xp [_, _] [Qg gK encI IsV (hdS sK)] (Z9 sK ++ R))) (rg (oP (Qj oz oz Tryz.underlying153 y5c (by omega) (by (simp; omega))) rfl (oP (pL oz y5c) rfl ?_)))
      rw [hx2]
      refine oA (Qz (zSd)) pR rfl rfl (fun g5_2 _ => ?_)
      refine oA (asv oz oz (pA 0 rfl) y5c) (pA 0 rfl) rfl rfl (fun _ _ => ?_)
      refine tn (nn (Qac (σ := List (Int × Value) × Inn × List It) (e4 0 6 28 29 rfl (ec 30 rfl en)) (fun q => []) (fun q => Qb g5_2 152 kSd (mp gK, a, b) :: Qg q.2.1.1 encI Xd.T q.2.1.2 :: Qg gK encI IsV q.1 :: Qb g0_0 109 kPP p :: Qb o.g 151 Vn (Qa9 o r.n) :: (q.2.2 ++ R)) (fun q => (lkp a q.1).getD (.map none) = mp q.2.1.1 ∧ ∃ g3, (Qg q.2.1.1 encI Xd.T (ptk b true q.2.1.2) :: Qg gK encI IsV q.1 :: q.2.2).Perm (sdI gK (Ks a b g3 sK))) ?_ ?_))
      · refine sq (rg (oP (pf oz yfh) rfl (oP (Ql oz (mA 0 rfl) ls0 yue) rfl (oP (pf oz yhk) rfl (oP (plb oz (mA 0 rfl) ls1 ynm) rfl (oP (X7 mkI Tryz.underlying149 (z0 := (.map none)) (by kernel_rfl) oz (mA 1 rfl) oz) rfl (oP (Qpd Tryz.underlying154 (OT.eq oz (congrArg IsV (Qgx _ _)))) rfl (tn (nn (tc oz (fun c39 => ?_) (fun c39 => ?_)))))))))))
        · have hn1 : lkp a sK = none := by
           unfold osS at c39
           cases hl : lkp a sK with
           | none => rfl
           | some x => rw [hl] at c39; cases c39
          refine rg (oP (pf oz yfh) rfl (oP (Ql oz (mA 0 rfl) ls0 yue) rfl (oP (pf oz yhk) rfl (oP (plb oz (mA 0 rfl) ls1 ynm) rfl (oA (Q9 encI Xd.T) pR rfl rfl (fun g7_4 _ => ?_))))))
          refine oA (X4 mkI Tryz.underlying149 oz (pA 2 rfl) oz oz) (pA 2 rfl) rfl rfl (fun _ _ => ?_)
          exact tn (nn (Y2 (ptk a (mp g7_4) (hdS sK), (g7_4, []), Z9 sK) (let h := Qw1 (gK := gK) (g := g7_4) (b := b) hn1; ⟨h.1, _, h.2⟩) ef (op (pc 2 rfl (pc 1 rfl (pc 0 rfl pl))))))
        have hn1 : ∃ x, lkp a sK = some x := by
         unfold osS at c39
         cases hl : lkp a sK with
         | none => rw [hl] at c39; cases c39
         | some x => exact ⟨x, rfl⟩
        obtain ⟨x, hn1⟩ := hn1
        exact sk (nn (Y2 (hdS sK, x, Z9 (dlk a sK)) (let h := Qw2 (gK := gK) (b := b) hn1; ⟨h.1, _, h.2⟩) ef (op (Yl (List.Perm.cons _ ((((V4 hn1).append_right R).append_left [_, _, _]).trans (Xp [_, _, _] [_] _)))))))
      rintro ⟨hh, x, Y⟩ hq
      refine rg (oP (pf oz yfh) rfl (oP (Ql oz (mA 0 rfl) ls0 yue) rfl (oP (pf oz yhk) rfl (oP (plb oz (mA 0 rfl) ls1 ynm) rfl (oP (X7 mkI Tryz.underlying149 (z0 := (.map none)) (by kernel_rfl) oz (mA 2 rfl) oz) rfl (oP (pf oz yvm) rfl (oP (plb oz (mA 0 rfl) ls2 ynm) rfl (oA (X4 (V := Xd.T) (v := true) mkI Tryz.underlying154 (OT.eq oz (congrArg IsV hq.1)) (pA 1 rfl) oz ot) (pA 1 rfl) rfl rfl (fun _ _ => ?_)))))))))
      refine tn (bn (nn ?_))
      obtain ⟨g3, hg3⟩ := hq.2
      obtain ⟨ss2, hp2, hs2⟩ := hs g3
      refine rg (oP (pad oz ot (by omega)) rfl (mv rfl rfl (tn (nn ?_))))
      exact tg (k + 1, ss2) ⟨(by show k + 1 ≤ 2; omega), hs2⟩ (by show 2 - (k + 1) < 2 - k; omega) ef (op (Q00 hg3 hp2))
    refine Qx (tx (tx (bh (nn (sq ?_)))))
    obtain rfl : k = 2 := by have := c31; simp at this; omega
    obtain ⟨g1, g2, rfl⟩ := hin2
    have hss : Qk9 r p 2 g1 g2 = [Ks p.1 p.2 g1 r.f, Ks p.2 p.1 g2 r.t] := rfl
    rw [hss]
    refine rg (mv rfl rfl (oP (Qe oz) rfl (oP (pf oz yw1) rfl (oP (plb oz (mA 1 rfl) Qwx ynm) rfl (oP (pad oz ot (by (simp; omega))) rfl (oP (Qe oz) rfl (oP (pf oz yw1) rfl (oA (Yd oz oz (pA 1 rfl) Qwx ynm) (pA 1 rfl) rfl rfl (fun _ _ => ?_)))))))))
    refine tn (nn (sq (rg (ak rfl (tn (nn (tR ?_)))))))
    exact Qi .ret (.inl rfl) rfl (⟨Ks p.1 p.2 g1 r.f, Ks p.2 p.1 g2 r.t, r.n + 1⟩) (OT.val oz (congrArg Value.bool (by simp [hin]))) (by rw [W1, if_neg hin]; exact hr.put hin) (Jz (pc 0 rfl (pd pl)) (Yl (Qjv o ⟨Ks p.1 p.2 g1 r.f, Ks p.2 p.1 g2 r.t, r.n + 1⟩).symm))
/-- (*rhizome/dred.relation).drop -/
theorem Qn3 (o : RO) (r : RS) (P : List Pr) (p : Pr) (hr : Ze P r) (hP : P.length ≤ 100000000000) : Ct Tryz.prog 196 [IsV (pt o.g 0), kPP.T p] (Xc o r) RS (fun q => Xe (decide (p ∈ P))) (fun q => Xc o q) (fun q => Ze (P.erase p) q) := by
 refine Qn Tryz.func196 rfl rfl ?_
 intro H w
 have hn := hr.n
 have hf := hr.f p.1 p.2
 have ht := hr.t p.1 p.2
 have hpl := hP
 refine sq (rg (oA (Xf (d := kPP) oz) pR rfl rfl (fun g0_0 _ => ?_)))
 refine ak rfl (tn (nn (sq (sq (rg (mv rfl rfl (oP (plv oz (mA 0 rfl) y6q) rfl (Wo [_] rfl (aC (Qbd o r p) ylx (oc oz (oc oz oN)) (Zp (X := [_]))) rfl rfl fun _ _ => (oP (Zf oz) rfl (tn (nn (tc oz (fun c8 => ?_) (fun c8 => ?_)))))))))))))
 · have hin : p ∉ P := fun h => by rw [hf, decide_eq_true h] at c8; cases c8
   refine sq (rg (ak rfl (tn (nn (tR (tt ?_))))))
   exact Qi .ret (.inl rfl) rfl r (OT.val oz (congrArg Value.bool (by simp [hin]))) (by rw [List.erase_of_not_mem hin]; exact hr) (pd pl)
 · have hin : p ∈ P := Classical.byContradiction fun h => by rw [hf, decide_eq_false h] at c8; cases c8
   have hpos := List.length_pos_of_mem hin
   obtain ⟨x, hl⟩ := Qnh (s := r.f) (by rw [hf, decide_eq_true hin])
   obtain ⟨x2, hl2⟩ := Qnh (s := r.t) (by rw [ht, decide_eq_true hin])
   refine sk (nn (sq (Q4 (Qsz (X := [_]) hl) ?_)))
   apply Xs (m := 9) (ns := [[(0, none)], [(9, some 0)], [(10, some 1)], [(11, some 2)], [(3, none)], [(13, some 4)], [(12, some 3), (14, some 5)], [(3, none)], [(16, some 7)]]) (by kernel_rfl) (by kernel_rfl) (Ts := [_, _, _, _, _, _, _, _, _]) rfl
   case hops =>
    exact ⟨rmv rfl, rP (Qe oz), rP (pf oz y1e), rP (Ql oz (mA 2 rfl) Qnd yue), rP (Zj oz (mA 1 rfl) Tryz.underlying109 ynm), rP (Z7 oz (mA 1 rfl) ynm), rP (X7 mkI Tryz.underlying149 (z0 := (.map none)) (by kernel_rfl) oz (mA 3 rfl) oz), rP (Zk oz (mA 1 rfl) Tryz.underlying109 ynm), rP (Z8 oz (mA 1 rfl) ynm), trivial⟩
   case h =>
    refine oA (Ve (m := x.2) (V := Xd.T) mkI Tryz.underlying154 rfl (OT.eq oz (congrArg IsV (Qk8 hl))) pR oz) pR rfl rfl (fun _ _ => ?_)
    refine tn (Q4 (Qpe (X := [_]) hl) (nn (sq (Q4 (Qs0 (X := [_]) (r := ⟨ptk p.1 (x.1, dlk p.2 x.2) r.f, r.t, r.n⟩) hl2) ?_))))
    apply Xs (m := 9) (ns := [[(0, none)], [(18, some 0)], [(19, some 1)], [(20, some 2)], [(3, none)], [(22, some 4)], [(21, some 3), (23, some 5)], [(3, none)], [(25, some 7)]]) (by kernel_rfl) (by kernel_rfl) (Ts := [_, _, _, _, _, _, _, _, _]) rfl
    case hops =>
     exact ⟨rmv rfl, rP (Qe oz), rP (pf oz ysc), rP (Ql oz (mA 2 rfl) Qww yue), rP (Zk oz (mA 1 rfl) Tryz.underlying109 ynm), rP (Z8 oz (mA 1 rfl) ynm), rP (X7 mkI Tryz.underlying149 (z0 := (.map none)) (by kernel_rfl) oz (mA 4 rfl) oz), rP (Zj oz (mA 1 rfl) Tryz.underlying109 ynm), rP (Z7 oz (mA 1 rfl) ynm), trivial⟩
    case h =>
     refine oA (Ve (m := x2.2) (V := Xd.T) mkI Tryz.underlying154 rfl (OT.eq oz (congrArg IsV (Qk8 hl2))) pR oz) pR rfl rfl (fun _ _ => ?_)
     refine tn (Q4 (Qpf (X := [_]) (r := ⟨ptk p.1 (x.1, dlk p.2 x.2) r.f, r.t, r.n⟩) hl2) (nn (sq (rg (mv rfl rfl (oP (Qe oz) rfl (oP (pf oz yw1) rfl (oP (plb oz (mA 1 rfl) Qwx ynm) rfl (oP (Kb oz ot (by (simp; omega))) rfl (oP (Qe oz) rfl (oP (pf oz yw1) rfl (oA (Yd oz oz (pA 1 rfl) Qwx ynm) (pA 1 rfl) rfl rfl (fun _ _ => ?_)))))))))))))
     refine tn (nn (sq (rg (ak rfl (tn (nn (tR ?_)))))))
     exact Qi .ret (.inl rfl) rfl (⟨ptk p.1 (x.1, dlk p.2 x.2) r.f, ptk p.2 (x2.1, dlk p.1 x2.2) r.t, r.n - 1⟩) (OT.val oz (congrArg Value.bool (by simp [hin]))) (by have := hr.drop hin; rw [Qio hl, Qio hl2] at this; exact this) (pc 0 rfl (pd pl))
/-- rhizome/dred.newRelation -/
theorem Qi0  : Ct Tryz.prog 47 [] ([]) RO (fun o => IsV (pt o.g 0)) (fun o => Xc o ⟨[], [], 0⟩) (fun _ => True) := by
 refine Qn Tryz.func47 rfl rfl ?_
 intro H w
 refine sq (rg (ak rfl (tn (nn (sq (rg (oA (Q9 encI IsV) pR rfl rfl (fun g1_0 _ => ?_))))))))
 refine oA (Q9 encI IsV) pR rfl rfl (fun g1_1 _ => ?_)
 refine oP (Zb (d := Vn) (v0 := (.map none, .map none, 0)) (ps := [(0, 1), (1, 1), (2, 1)]) Q5v (by kernel_rfl) rfl (Qk rfl Qnd (OT.raw oz rfl) (Qk rfl Qww (OT.raw oz rfl) Qc))) rfl (oA (Xf (d := Vn) oz) pR rfl rfl (fun g1_3 _ => ?_))
 exact av rfl rfl (tn (nn (tR (Qi .ret (.inl rfl) rfl (⟨g1_3, g1_0, g1_1⟩) oz trivial (Yl (Qq 0 rfl |>.trans (List.Perm.cons _ (List.Perm.swap _ _ _))))))))
end Go.Proofs.YtklhdalppmjnaaaGreatDoor
namespace Go.Proofs.YtklhdalppmjnaaaGreatDoor
open Go Go.Gw Go.So Go.Tu Go.Jn
open Go.Dr hiding Pr
theorem idx_eq {k i : Nat} (h : (k : Int) = (i : Int)) : k = i := by omega

/-- rhizome/dred.around -/
theorem Qc1 (o : RO) (r : RS) (P : List Pr) (b : Bool) (n : Int) (hr : Ze P r) (hi : ∀ p ∈ P, inP p) (hP : P.length ≤ 100000) : Ct Tryz.prog 198 [I64 n, IsV (mp (gB b o))] (Xc o r) (Value × List Int) (fun q => IsV q.1) (fun q => Qh 3 kI q.1 q.2 :: Xc o r) (fun q => q.2.Perm (K5 (sdB b r) n ++ [n])) := by
 refine Qn Tryz.func198 rfl rfl ?_
 intro H w
 have hlb := Qir hr (b := b) (u := n)
 refine sq (rg (ak rfl (tn (nn (sq (rg (mv rfl rfl (mv rfl rfl (oP (X7 mkI Tryz.underlying149 (z0 := (.map none)) (by kernel_rfl) oz Q3m oz) rfl (oA (aC (Qw3 _) y44 (oc (OT.raw (OT.eq oz (congrArg IsV (Qgx _ _))) rfl) oN) pR) pR rfl rfl fun bk _ => (Wo [] rfl (aC (Qni (Qnk hr hi (by omega) b n)) y37 (oc oz oN) (Zp (X := []))) rfl rfl fun q hq => (mv rfl rfl ?_))))))))))))
 have hql := hq.length_eq
 refine oA (Q7 (d := kI) (v0 := 0) y9t ynm zI (show 1 * 1 ≤ 16777216 from by decide) (by decide) (Qv rfl rfl (by decide) oz Qc)) pR rfl rfl (fun _ _ => ?_)
 refine oA (Q0 oz (pA 0 rfl) oz y9t (by (simp; omega)) (by (simp [maxLen]; omega))) (pA 0 rfl) rfl rfl (fun v1_7 _ => ?_)
 exact av rfl rfl (tn (nn (tR (Qi .ret (.inl rfl) rfl (v1_7, q.2 ++ [n]) oz (hq.append_right _) (pc 0 rfl (pd pl))))))
/-- (*rhizome/dred.Dred).insert$1 -/
theorem Q02 (d : DO) (n : Int) (b : Nat) (r : RS) (S : List Pr) (q : Pr) (hr : Ze S r) (hS : S.length ≤ 100000000000) : Ct Tryz.prog 203 [kPP.T q, IsV (pt b 0)] (Qb b 75 Q3 (pt d.g 0) :: Qb d.g 106 kDr (dV d n) :: Xc d.s r) RS (fun u => Xe (!decide (q ∉ S))) (fun u => Qb b 75 Q3 (pt d.g 0) :: Qb d.g 106 kDr (dV d n) :: Xc d.s u) (fun u => Ze (W1 S q) u) := by
 refine Qn Tryz.func203 rfl rfl ?_
 intro H w
 refine sq (rg (oA (Xf (d := kPP) oz) pR rfl rfl (fun g0_0 _ => ?_)))
 refine ak rfl (tn (nn (sq ?_)))
 apply Xs (m := 5) (ns := [[(1, none)], [(4, some 0)], [(5, some 1)], [(6, some 2)], [(2, none)]]) (by kernel_rfl) (by kernel_rfl) (Ts := [_, _, _, _, _]) rfl
 case hops =>
  exact ⟨rP (X9 oz (mA 1 rfl) ybp), rP (Qe oz), rP (pf oz yn3), rP (Ql oz (mA 2 rfl) ld2 ygw), rP (plv oz (mA 0 rfl) y6q), trivial⟩
 case h =>
  exact Wo [_, _, _] rfl (aC (Qfa d.s r S q hr hS) yrq (oc oz (oc oz oN)) (Zp (X := [_, _, _]))) rfl rfl fun u hu => (oP (Zf oz) rfl (av rfl rfl (tn (nn (tR (Qi .ret (.inl rfl) rfl u oz hu (pd pl)))))))
/-- (*rhizome/dred.Dred).remove$1 -/
theorem Q03 (d : DO) (n : Int) (b : Nat) (r : RS) (S : List Pr) (q : Pr) (hr : Ze S r) (hS : S.length ≤ 100000000000) : Ct Tryz.prog 200 [kPP.T q, IsV (pt b 0)] (Qb b 75 Q3 (pt d.g 0) :: Qb d.g 106 kDr (dV d n) :: Xc d.s r) RS (fun u => Xe (!decide (q ∈ S))) (fun u => Qb b 75 Q3 (pt d.g 0) :: Qb d.g 106 kDr (dV d n) :: Xc d.s u) (fun u => Ze (S.erase q) u) := by
 refine Qn Tryz.func200 rfl rfl ?_
 intro H w
 refine sq (rg (oA (Xf (d := kPP) oz) pR rfl rfl (fun g0_0 _ => ?_)))
 refine ak rfl (tn (nn (sq ?_)))
 apply Xs (m := 5) (ns := [[(1, none)], [(4, some 0)], [(5, some 1)], [(6, some 2)], [(2, none)]]) (by kernel_rfl) (by kernel_rfl) (Ts := [_, _, _, _, _]) rfl
 case hops =>
  exact ⟨rP (X9 oz (mA 1 rfl) ybp), rP (Qe oz), rP (pf oz yn3), rP (Ql oz (mA 2 rfl) ld2 ygw), rP (plv oz (mA 0 rfl) y6q), trivial⟩
 case h =>
  exact Wo [_, _, _] rfl (aC (Qn3 d.s r S q hr hS) yle (oc oz (oc oz oN)) (Zp (X := [_, _, _]))) rfl rfl fun u hu => (oP (Zf oz) rfl (av rfl rfl (tn (nn (tR (Qi .ret (.inl rfl) rfl u oz hu (pd pl)))))))
/-- slices.IndexFunc[[]rhizome/dred.pair,rhizome/dred.pair] -/
theorem Qtv {σ : Type} (J : σ → List It) (inv : Nat → σ → Prop) (stp : σ → Pr → σ → Bool → Prop) (fv v : Value) (xs : List Pr) (s0 : σ) (hm : xs.length ≤ 100000000000) (hv : inv xs.length s0) (hD : ∀ m s q, inv (m + 1) s → CtV Tryz.prog fv [kPP.T q] (J s) (σ × Bool) (fun u => Xe u.2) (fun u => J u.1) (fun u => inv m u.1 ∧ stp s q u.1 u.2)) : Ct Tryz.prog 205 [IsV v, IsV fv] (Qh 109 kPP v xs :: J s0) (Int × σ) (fun q => I64 q.1) (fun q => Qh 109 kPP v xs :: J q.2) (fun q => IxD stp s0 xs q.1 q.2 ∧ (∀ i : Nat, q.1 = (i : Int) → inv (xs.length - (i + 1)) q.2) ∧ (q.1 = -1 → inv 0 q.2)) := by
 refine Qn Tryz.func205 rfl rfl ?_
 intro H w
 refine sq (rg (ak rfl (tn (nn (sq (sq (rg (mv rfl rfl (oP (Xr oz (mA 0 rfl) Tryz.underlying273) rfl (oP (Qm ot) rfl (tn (nn (tb (Qt (σ := Nat × σ) (e2 0 1 rfl (ec 7 rfl en)) (fun s => [(8, I64 (s.1 : Int))]) (fun s => Qh 109 kPP v xs :: J s.2) (fun s => s.1 ≤ xs.length ∧ Kt stp s0 (xs.take s.1) s.2 (xs.take s.1) ∧ inv (xs.length - s.1) s.2) (fun s => xs.length - s.1) (0, s0) ⟨Nat.zero_le _, Kt.nil, hv⟩ ?_ (op pl) ?_))))))))))))))
 · exact (ec 8 rfl en)
 · rintro ⟨k, s1⟩ ⟨hk, hno, hv1⟩
   dsimp only at hk hno hv1 ⊢
   refine sq (rg (oP (Q5 oz oz) rfl (tn (nn (sq (tc oz (fun c9 => ?_) (fun c9 => ?_)))))))
   · refine sk (nn (sq (tb (sq ?_))))
     have hkl : k < xs.length := by simp only [decide_eq_true_eq] at c9; omega
     have hvk : inv (xs.length - (k + 1) + 1) s1 := by rw [show xs.length - (k + 1) + 1 = xs.length - k from by omega]; exact hv1
     refine rg (mv rfl rfl (av rfl rfl (tn (nn (sq (rg (mv rfl rfl (mv rfl rfl (mv rfl rfl (oP (pio oz (mA 0 rfl) oz Tryz.underlying273 y6q (by omega) (by omega)) rfl (oP (plo oz (mA 0 rfl) (by omega) (by omega) y6q) rfl (Wo [_] rfl (Z6 oz (hD _ _ _ hvk) (oc oz oN) (Zp (X := [_]))) rfl rfl fun u hu => (tn (nn (tc oz (fun c16 => ?_) (fun c16 => ?_))))))))))))))))
     · have hst := hu.2
       rw [c16] at hst
       refine sq (rg (mv rfl rfl (av rfl rfl (tn (nn (tR (Qw (tt (tt (Qw (tt ?_)))))))))))
       exact Qi .ret (.inl rfl) rfl ((k : Int), u.1) oz ⟨.inr ⟨k, s1, hkl, rfl, hno, hst⟩, fun i hi => (idx_eq hi ▸ hu.1), fun h => absurd h (by show ¬ (k : Int) = -1; omega)⟩ pl
     have hst := hu.2
     rw [c16] at hst
     have hst := Kt.no' hkl hno hst
     refine sk (bn (nn (rg (oP (pad oz ot (by omega)) rfl (mv rfl rfl (tn (nn ?_)))))))
     exact tg (k + 1, u.1) ⟨hkl, hst, hu.1⟩ (by show xs.length - (k + 1) < xs.length - k; omega) ef (op pl)
   refine Qx (tx (tx (bh (nn (sq ?_)))))
   obtain rfl : k = xs.length := by simp only [decide_eq_false_iff_not] at c9; omega
   rw [List.take_length] at hno
   rw [Nat.sub_self] at hv1
   refine rg (ak rfl (tn (nn (tR ?_))))
   exact Qi .ret (.inl rfl) rfl (-1, s1) oz ⟨.inl ⟨rfl, hno⟩, fun i hi => absurd hi (by show ¬ (-1 : Int) = (i : Int); omega), fun _ => hv1⟩ pl
/-- slices.DeleteFunc[[]rhizome/dred.pair,rhizome/dred.pair] -/
theorem Qi1 {σ : Type} (J : σ → List It) (inv : Nat → σ → Prop) (stp : σ → Pr → σ → Bool → Prop) (fv v : Value) (xs : List Pr) (s0 : σ) (hm : xs.length ≤ 100000000000) (hv : inv xs.length s0) (hD : ∀ m s q, inv (m + 1) s → CtV Tryz.prog fv [kPP.T q] (J s) (σ × Bool) (fun u => Xe u.2) (fun u => J u.1) (fun u => inv m u.1 ∧ stp s q u.1 u.2)) : Ct Tryz.prog 199 [IsV v, IsV fv] (Qh 109 kPP v xs :: J s0) (Value × List Pr × σ) (fun q => IsV q.1) (fun q => Qh 109 kPP q.1 q.2.1 :: J q.2.2) (fun q => Kt stp s0 xs q.2.2 q.2.1 ∧ inv 0 q.2.2 ∧ q.2.1.length ≤ xs.length) := by
 refine Qn Tryz.func199 rfl rfl ?_
 intro H w
 refine sq (rg (ak rfl (tn (nn (sq (rg (mv rfl rfl (mv rfl rfl (Wo [] rfl (aC (Qtv J inv stp fv v xs s0 hm hv hD) y69 (oc oz (oc oz oN)) (Zp (X := []))) rfl rfl fun qi hqi => (av rfl rfl (tn (nn (sq (sq (rg (mv rfl rfl (oP (Zs oz ot) rfl (tn (nn (tc oz (fun c12 => ?_) (fun c12 => ?_)))))))))))))))))))))
 · have hm1 : qi.1 = -1 := of_decide_eq_true c12
   have hall : Kt stp s0 xs qi.2 xs := by
    rcases hqi.1 with ⟨_, h⟩ | ⟨i, _, _, h, _⟩
    · exact h
    omega
   have hv0 := hqi.2.2 hm1
   exact sq (rg (mv rfl rfl (av rfl rfl (tn (nn (tR (tt (Qi .ret (.inl rfl) rfl (v, xs, qi.2) oz ⟨hall, hv0, Nat.le_refl _⟩ pl))))))))
 have hm1 : ¬ qi.1 = -1 := of_decide_eq_false c12
 obtain ⟨i0, s1, hi0, hqe, hdi, hst0⟩ : ∃ (i : Nat) (s1 : σ), i < xs.length ∧ qi.1 = (i : Int) ∧ Kt stp s0 (xs.take i) s1 (xs.take i) ∧ stp s1 (at' xs (i : Int)) qi.2 true := by
  rcases hqi.1 with ⟨h, _⟩ | h
  · exact absurd h hm1
  exact h
 have hvi := hqi.2.1 i0 hqe
 have hst1 := Kt.yes hi0 hdi hst0
 obtain ⟨qv, qs⟩ := qi
 dsimp only at hqe hvi hst1 ⊢
 subst hqe
 refine sk (nn (sq (sq (rg (mv rfl rfl (oP (pad oz ot (by omega)) rfl (av rfl rfl (tn (nn (tb (Qt (σ := Nat × Nat × List Pr × σ) (e2 0 1 rfl en) (fun s => [(6, I64 (s.1 : Int)), (5, I64 (s.2.1 : Int))]) (fun s => Qh 109 kPP v s.2.2.1 :: J s.2.2.2) (fun s => s.2.1 < s.1 ∧ s.1 ≤ xs.length ∧ s.2.2.1.length = xs.length ∧ Kt stp s0 (xs.take s.1) s.2.2.2 (s.2.2.1.take s.2.1) ∧ s.2.2.1.drop s.1 = xs.drop s.1 ∧ inv (xs.length - s.1) s.2.2.2) (fun s => xs.length - s.1) (i0 + 1, i0, xs, qs) ⟨Nat.lt_succ_self _, hi0, rfl, hst1, rfl, hvi⟩ ?_ (op pl) ?_)))))))))))
 · exact (e2 6 5 rfl en)
 rintro ⟨j, i, ys, s1⟩ ⟨hij, hj, hyl, hyt, hyd, hv1⟩
 dsimp only at hij hj hyl hyt hyd hv1 ⊢
 refine sq (sq (rg (mv rfl rfl (mv rfl rfl (oP (Xr oz (mA 0 rfl) Tryz.underlying273) rfl (oP (Q5 oz oz) rfl (tn (nn (tc oz (fun c19 => ?_) (fun c19 => ?_))))))))))
 · refine sk (nn (sq (tb (sq ?_))))
   have hjl : j < xs.length := by simp only [decide_eq_true_eq] at c19; omega
   have hy : at' ys (j : Int) = at' xs (j : Int) := Qef hyd (Nat.le_refl _) (by omega) hjl
   have hvk : inv (xs.length - (j + 1) + 1) s1 := by rw [show xs.length - (j + 1) + 1 = xs.length - j from by omega]; exact hv1
   refine rg (mv rfl rfl (mv rfl rfl (oP (pio oz (mA 0 rfl) oz Tryz.underlying273 y6q (by omega) (by omega)) rfl (oP (plo oz (mA 0 rfl) (by omega) (by omega) y6q) rfl (oA (Qz (zPr)) pR rfl rfl (fun g7_4 _ => ?_))))))
   refine oA (asv oz oz (pA 0 rfl) y6q) (pA 0 rfl) rfl rfl (fun _ _ => ?_)
   refine tn ?_
   rw [hy]
   refine nn (sq (rg (mv rfl rfl (oP (plv oz (mA 0 rfl) y6q) rfl (Wo [_, _] rfl (Z6 oz (hD _ _ _ hvk) (oc oz oN) (Zp (X := [_, _]))) rfl rfl fun u hu => (oP (Zf oz) rfl (tn (nn (tc oz (fun c29 => ?_) (fun c29 => ?_))))))))))
   · have hst := hu.2
     have hub : u.2 = false := by simpa using c29
     rw [hub] at hst
     have hst := Kt.no hjl hyt hst
     refine sq (rg (mv rfl rfl (mv rfl rfl (oP (plv oz (mA 0 rfl) y6q) rfl (oP (pio oz (mA 1 rfl) oz Tryz.underlying273 y6q (by omega) (by omega)) rfl (oA (Kv oz oz (pA 1 rfl) (by omega) (by omega) y6q) (pA 1 rfl) rfl rfl (fun _ _ => ?_)))))))
     refine tn (nn (rg (mv rfl rfl (oP (pad oz ot (by omega)) rfl (av rfl rfl (tn (bn (nn (rg (mv rfl rfl (oP (pad oz ot (by omega)) rfl (av rfl rfl (tn (nn ?_))))))))))))))
     exact tg (j + 1, i + 1, ys.set i (at' xs (j : Int)), u.1) ⟨(by show i + 1 < j + 1; omega), (by show j + 1 ≤ xs.length; omega), (by show (ys.set i _).length = _; rw [List.length_set]; exact hyl), (by show Kt stp s0 (xs.take (j + 1)) u.1 ((ys.set i _).take (i + 1)); rw [Qhp (by omega)]; exact hst), (by show (ys.set i _).drop (j + 1) = xs.drop (j + 1); rw [List.drop_set, if_pos (by omega)]; exact V1 hyd (by omega)), hu.1⟩ (by show xs.length - (j + 1) < xs.length - j; omega) ef (op (pc 0 rfl (pd pl)))
   have hst := hu.2
   have hub : u.2 = true := by simpa using c29
   rw [hub] at hst
   have hst := Kt.yes hjl hyt hst
   refine sk (bn (nn (rg (mv rfl rfl (oP (pad oz ot (by omega)) rfl (av rfl rfl (tn (nn ?_))))))))
   exact tg (j + 1, i, ys, u.1) ⟨(by show i < j + 1; omega), (by show j + 1 ≤ xs.length; omega), hyl, hst, (by show ys.drop (j + 1) = xs.drop (j + 1); exact V1 hyd (by omega)), hu.1⟩ (by show xs.length - (j + 1) < xs.length - j; omega) ef (op (pd pl))
 refine Qx (tx (tx (bh (nn (sq ?_)))))
 obtain rfl : j = xs.length := by simp only [decide_eq_false_iff_not] at c19; omega
 rw [List.take_length] at hyt
 rw [Nat.sub_self] at hv1
 refine rg (mv rfl rfl (mv rfl rfl (oP (Qaw oz (mA 0 rfl) oz Tryz.underlying273 y6q (by omega) (by omega)) rfl (oA (Wd (d := kPP) (v0 := (0, 0)) oz (pA 0 rfl) Tryz.underlying273 y6q zPr (show 0 < 2 from by decide) (by omega)) (pA 0 rfl) rfl rfl (fun _ _ => ?_)))))
 refine tn (nn (sq (rg (mv rfl rfl (mv rfl rfl (oA (Jh oz (pA 0 rfl) oz Tryz.underlying273 y6q (by omega) (by (simp; omega))) (pA 0 rfl) rfl rfl (fun v12_2 _ => ?_)))))))
 refine av rfl rfl (tn (nn (tR ?_)))
 exact Qi .ret (.inl rfl) rfl (_, ys.take i, s1) oz ⟨hyt, hv1, by rw [List.length_take]; omega⟩ (by simp only [Int.toNat_natCast]; rw [Qeg (by omega)]; exact pl)
end Go.Proofs.YtklhdalppmjnaaaGreatDoor
namespace Go.Proofs.YtklhdalppmjnaaaGreatDoor
open Go Go.Gw Go.So Go.Tu Go.Jn Go.MapKept
open Go.Dr hiding Pr
theorem Qgf (w : World) (d : Nat) (u v : Pr) : (Op.equalIn (d + 1 + 1) 109 (Zu u) (Zu v)).run Tryz.prog w = .ok (decide (u = v)) w := by
 have hu : Tryz.prog.underlying 109 = some (.array 2 3) := Tryz.underlying109
 have hk : Tryz.prog.plainKey 3 = true := by decide +kernel
 have h3 : Tryz.prog.underlying 3 = some (.int .i64) := Tryz.underlying3
 have hc : Tryz.prog.cellsOf 3 = 1 := by decide +kernel
 obtain ⟨i, hi⟩ : ∃ i, Tryz.prog.info? 3 = some i := Option.isSome_iff_exists.1 (by decide +kernel)
 rw [run_equalIn_array w (d + 1) _ _ hu hi, hc]
 have p : ∀ (xs : Array Value) (o : Nat) (q : Value), xs[o]? = some q → (part 3 xs o).run Tryz.prog w = .ok q w := fun xs o q h => run_part_plain w hk h
 have e : ∀ (a b : Int), (Op.equalIn (d + 1) 3 (.int .i64 a) (.int .i64 b)).run Tryz.prog w = .ok (a == b) w := fun a b => run_equalIn_int w d 3 .i64 .i64 a b h3
 have p0 : ∀ a b : Int, (part 3 #[.int .i64 a, .int .i64 b] 0).run Tryz.prog w = .ok (.int .i64 a) w := fun a b => p _ 0 _ rfl
 have p1 : ∀ a b : Int, (part 3 #[.int .i64 a, .int .i64 b] 1).run Tryz.prog w = .ok (.int .i64 b) w := fun a b => p _ 1 _ rfl
 obtain ⟨u1, u2⟩ := u
 obtain ⟨v1, v2⟩ := v
 simp only [show List.range 2 = [0, 1] from rfl, Op.eqItems, Sem.run_bind, Nat.mul_one, p0, p1, e, Result.andThen_ok]
 by_cases h1 : u1 = v1
 · by_cases h2 : u2 = v2
   · simp [h1, h2, p1, e]
   simp [h1, h2, p1, e]
 simp [h1]
theorem Q5x : Q2z Tryz.prog 109 kPP := fun H w u v a b x y ha hb => by
 rw [Q21 ha, Q21 hb]
 have hg : Tryz.prog.eqGuardType Tryz.prog.depth 109 = false := by decide +kernel
 refine ⟨run_eqGuard_agg w .eql 109 x y _ _ hg, run_eqGuard_agg w .neq 109 x y _ _ hg, ?_, ?_⟩
 · rw [run_eql_struct w 109, show (Op.equalIn 10000 109 (Zu u) (Zu v)).run Tryz.prog w = _ from Qgf w 9998 u v]; rfl
 rw [run_neq_struct w 109, show (Op.equalIn 10000 109 (Zu u) (Zu v)).run Tryz.prog w = _ from Qgf w 9998 u v]; rfl
section
variable {C : Cx} {Γ : Env} {L L' R : List It} {φ : Act → World → Prop}
theorem Qla (h : Jp L L') (ht : Tr C Γ L' φ) : Tr C Γ L φ := by
 obtain ⟨R, hp⟩ := h
 exact Q4 hp fun a w H f st ow => ht a w H f st (Xu.left ow)
variable {oe os : RO} {e s : RS} {b Bd : It}
theorem Qw7 (u : Int) (h : ∀ st, Tr C Γ (Qan (osS e.f u) encI Xd.T (inS e.f u) st :: b :: Bd :: Qb oe.g 151 Vn (Qa9 oe e.n) :: Qg oe.gf encI IsV (hdS e.f) :: Qg oe.gt encI IsV (hdS e.t) :: ((Z9 (dlk u e.f) ++ Z9 e.t) ++ Xc os s)) φ) : Tr C Γ (b :: Bd :: (Xc oe e ++ Xc os s)) φ := by
 refine Qnf (s := e.f) u (R := [b, Bd, Qb oe.g 151 Vn (Qa9 oe e.n), Qg oe.gf encI IsV (hdS e.f), Qg oe.gt encI IsV (hdS e.t)] ++ (Z9 e.t ++ Xc os s)) ?_ fun st => ?_
 · refine List.Perm.trans (List.Perm.of_eq ?_) (Xp [b, Bd, Qb oe.g 151 Vn (Qa9 oe e.n), Qg oe.gf encI IsV (hdS e.f), Qg oe.gt encI IsV (hdS e.t)] (Z9 e.f) _)
   simp [Xc]
 refine Q4 (List.Perm.cons _ ((Xp [b, Bd, Qb oe.g 151 Vn (Qa9 oe e.n), Qg oe.gf encI IsV (hdS e.f), Qg oe.gt encI IsV (hdS e.t)] (Z9 (dlk u e.f)) _).symm.trans (List.Perm.of_eq ?_))) (h st)
 simp
theorem Qjw (u : Int) {st : MS} (hp : L.Perm (Qan (osS e.f u) encI Xd.T (inS e.f u) st :: b :: Bd :: Qb oe.g 151 Vn (Qa9 oe e.n) :: Qg oe.gf encI IsV (hdS e.f) :: Qg oe.gt encI IsV (hdS e.t) :: ((Z9 (dlk u e.f) ++ Z9 e.t) ++ Xc os s))) (h : Tr C Γ (b :: Bd :: (Xc oe e ++ Xc os s)) φ) : Tr C Γ L φ := by
 refine Q4 hp ?_
 refine Qng (s := e.f) u (st := st) (R := [b, Bd, Qb oe.g 151 Vn (Qa9 oe e.n), Qg oe.gf encI IsV (hdS e.f), Qg oe.gt encI IsV (hdS e.t)] ++ (Z9 e.t ++ Xc os s)) (List.Perm.cons _ ?_) (Q4 ?_ h)
 · refine List.Perm.trans (List.Perm.of_eq ?_) (Xp [b, Bd, Qb oe.g 151 Vn (Qa9 oe e.n), Qg oe.gf encI IsV (hdS e.f), Qg oe.gt encI IsV (hdS e.t)] (Z9 (dlk u e.f)) _)
   simp
 refine (Xp [b, Bd, Qb oe.g 151 Vn (Qa9 oe e.n), Qg oe.gf encI IsV (hdS e.f), Qg oe.gt encI IsV (hdS e.t)] (Z9 e.f) _).symm.trans (List.Perm.of_eq ?_)
 simp [Xc]
end
def dvB (E S : List Pr) (q : Pr) : Bool := decide (q ∈ E) || E.any fun p => decide (p.1 = q.1) && decide ((p.2, q.2) ∈ S)
theorem Qgy {E S : List Pr} {q : Pr} : dvB E S q = true ↔ Drv E (fun a b => (a, b) ∈ S) q.1 q.2 := by
 unfold dvB Drv
 simp only [Bool.or_eq_true, decide_eq_true_eq, List.any_eq_true, Bool.and_eq_true]
 constructor
 · rintro (h | ⟨p, hp, h1, h2⟩)
   · exact .inl h
   exact .inr ⟨p.2, by rw [← h1]; exact hp, h2⟩
 rintro (h | ⟨c, h1, h2⟩)
 · exact .inl h
 exact .inr ⟨(q.1, c), h1, rfl, h2⟩
theorem Qw8 {E S : List Pr} {r : RS} (hr : Ze E r) {q : Pr} {c : Int} (h1 : c ∈ keys (inS r.f q.1)) (h2 : (c, q.2) ∈ S) : dvB E S q = true := by
 rw [← Vt, Wj hr] at h1
 exact Qgy.2 (.inr ⟨c, h1, h2⟩)
theorem Qw9 {E S : List Pr} {r : RS} (hr : Ze E r) {q : Pr} (h0 : q ∉ E) (h : ∀ c ∈ keys (inS r.f q.1), (c, q.2) ∉ S) : dvB E S q = false := by
 cases hb : dvB E S q with
 | false => rfl
 | true =>
  rcases Qgy.1 hb with h1 | ⟨c, h1, h2⟩
  · exact absurd h1 h0
  exact absurd h2 (h c (by rw [← Vt, Wj hr]; exact h1))
theorem Qca {κ α : Type} [DecidableEq κ] {k : κ} {m : List (κ × α)} (h : k ∈ keys m) : ∃ v, lkp k m = some v := by
 cases hl : lkp k m with
 | none => exact absurd h (Xx.1 hl)
 | some v => exact ⟨v, rfl⟩
abbrev tpl (p : Pr) : Tp := [p.1, p.2]
theorem Qq5 {p q : Pr} (h : tpl p = tpl q) : p = q := by
 have h1 : p.1 = q.1 ∧ p.2 = q.2 := by simpa [tpl] using h
 exact Prod.ext h1.1 h1.2
abbrev U6 (l : List Pr) : List Tp := l.map tpl
theorem Qph {l : List Pr} (h : l.length ≤ 100000) : Small (U6 l) := ⟨by rw [List.length_map]; omega, fun t ht => by obtain ⟨p, _, rfl⟩ := List.mem_map.1 ht; show (2 : Nat) ≤ _; omega⟩
end Go.Proofs.YtklhdalppmjnaaaGreatDoor
namespace Go.Proofs.YtklhdalppmjnaaaGreatDoor
open Go Go.Gw Go.So Go.Tu Go.Jn
open Go.Dr hiding Pr
theorem Qtw {e : Pr} {xs : List Pr} {k : Nat} (h : k < xs.length) (h0 : e ∉ xs.take k) (h1 : ¬ e = at' xs (k : Int)) : e ∉ xs.take (k + 1) := by
 rw [Q1 h] at h1
 rw [List.take_succ_eq_append_getElem h, List.mem_append, List.mem_singleton]
 rintro (h2 | h2)
 · exact h0 h2
 exact h1 h2
theorem Q4b {e : Pr} {xs : List Pr} {k : Nat} (h : k < xs.length) (h1 : e = at' xs (k : Int)) : e ∈ xs := by
 rw [h1]; exact at_mem h

/-- slices.Delete[[]rhizome/dred.pair,rhizome/dred.pair] -/
theorem Qpu (v : Value) (xs : List Pr) (i : Nat) (hm : xs.length ≤ 1000000) (hi : i < xs.length) : Ct Tryz.prog 202 [IsV v, I64 (i : Int), I64 ((i : Int) + 1)] ([Qh 109 kPP v xs]) Value (fun u => IsV u) (fun u => [Qh 109 kPP u (xs.take i ++ xs.drop (i + 1))]) (fun _ => True) := by
 refine Qn Tryz.func202 rfl rfl ?_
 intro H w
 refine sq (rg (ak rfl (tn (nn (sq (rg (mv rfl rfl (mv rfl rfl (mv rfl rfl (mv rfl rfl (oP (Xr oz (mA 0 rfl) Tryz.underlying273) rfl (oP (Qsy oz (Zz 0 rfl) (by omega) oz oz oz Tryz.underlying273 y6q (by omega) (by omega) (by omega) (by omega)) rfl (tn (nn (sq (sq (rg (mv rfl rfl (mv rfl rfl (oP (Zs oz oz) rfl (tn (nn (tc oz (fun c16 => ?_) (fun c16 => ?_))))))))))))))))))))))))
 · exfalso
   simp only [decide_eq_true_eq] at c16
   omega --done
 · refine sk (nn (sq (rg (mv rfl rfl (oP (Xr oz (mA 0 rfl) Tryz.underlying273) rfl (av rfl rfl (tn (nn (sq ?_)))))))))
   apply Xs (m := 6) (ns := [[(0, none)], [(1, none)], [(20, some 0), (21, some 1)], [(0, none)], [(2, none)], [(23, some 3), (24, some 4)]]) (by kernel_rfl) (by kernel_rfl) (Ts := [_, _, _, _, _, _]) rfl
   case hops =>
    exact ⟨rmv rfl, rmv rfl, rP (Qm9 oz (Zz 0 rfl) (by omega) oz Tryz.underlying273 y6q (by omega) (by omega)), rmv rfl, rmv rfl, rP (Qna oz (Zz 0 rfl) (by omega) oz Tryz.underlying273 y6q (by omega) (by omega)), trivial⟩
   case h =>
    refine oA (Qi8 (i := i) (j := i + 1) oz oz (Qq 0 rfl) Tryz.underlying273 y6q (by omega) (by omega) (by omega)) (Qq 0 rfl) rfl rfl (fun _ _ => ?_)
    refine av rfl rfl (tn (nn (sq ?_)))
    obtain ⟨ys, hys⟩ : ∃ ys, xs.take i ++ xs.drop (i + 1) ++ xs.drop (i + (xs.length - (i + 1))) = ys := ⟨_, rfl⟩
    have hm1 : i + (xs.length - (i + 1)) = xs.length - 1 := by omega
    have hyl : ys.length = xs.length := by rw [← hys]; simp only [List.length_append, List.length_take, List.length_drop]; omega
    have hyt : ys.take (xs.length - 1) = xs.take i ++ xs.drop (i + 1) := by
     rw [← hys, List.take_append_of_le_length (by simp only [List.length_append, List.length_take, List.length_drop]; omega), List.take_of_length_le (by simp only [List.length_append, List.length_take, List.length_drop]; omega)]
    rw [hys, hm1]
    refine rg (mv rfl rfl (mv rfl rfl (oP (Qnc oz (Zz 0 rfl) (by omega) Tryz.underlying273) rfl (mv rfl rfl (oP (Qnb oz (Zz 0 rfl) (by omega) oz oz Tryz.underlying273 y6q (by omega) (by omega) (by omega)) rfl (oA (Wd (j := xs.length - 1) oz (Qq 0 rfl) Tryz.underlying273 y6q zPr (by decide) (by omega)) (Qq 0 rfl) rfl rfl (fun _ _ => ?_)))))))
    refine tn (nn (sq (Qwv (m := xs.length - 1) pR (by simp only [List.length_append, List.length_take, List.length_replicate]; omega) (by simp only [List.length_append, List.length_take, List.length_replicate]; omega) ?_)))
    refine rg (mv rfl rfl (av rfl rfl (tn (nn (tR ?_)))))
    exact Qi .ret (.inl rfl) rfl (Ul v (xs.length - 1)) oz trivial (by rw [Qeg (by omega), hyt]; exact pl)
/-- slices.Index[[]rhizome/dred.pair,rhizome/dred.pair] -/
theorem Qtx (es : List Pr) (e : Pr) (hm : es.length ≤ 1000000) : Ct Tryz.prog 197 [SlT kPP es, kPP.T e] ([]) Int (fun r => I64 r) (fun _ => []) (fun r => decide (0 ≤ r) = decide (e ∈ es)) := by
 refine Qn Tryz.func197 rfl rfl ?_
 intro H w
 refine sq (rg (oA (Xf (d := kPP) oz) pR rfl rfl (fun g0_0 _ => ?_)))
 refine ak rfl (tn (nn (sq (sq (rg (mv rfl rfl (oP (pls oz Tryz.underlying273) rfl (oP (Qm ot) rfl (tn (nn (tb (Qt (σ := Nat) (e2 0 3 rfl (ec 7 rfl en)) (fun k => [(8, I64 (k : Int))]) (fun k => [Qb g0_0 109 kPP e]) (fun k => k ≤ es.length ∧ e ∉ es.take k) (fun k => es.length - k) 0 ⟨Nat.zero_le _, by simp⟩ ?_ (op (by repeat first | exact pn | refine pc 0 rfl ?_)) ?_))))))))))))
 · exact (ec 8 rfl en)
 · rintro k ⟨hk, hno⟩
   refine sq (rg (oP (Q5 oz oz) rfl (tn (nn (sq (tc oz (fun c9 => ?_) (fun c9 => ?_)))))))
   · try simp only [cq] at c9
     refine sk (nn (sq (tb (sq ?_))))
     have hkl : k < es.length := by omega
     refine rg (mv rfl rfl (av rfl rfl (tn (nn (sq ?_)))))
     apply Xs (m := 5) (ns := [[(3, none)], [(0, none)], [(5, none)], [(12, some 1), (13, some 2)], [(14, some 3)]]) (by kernel_rfl) (by kernel_rfl) (Ts := [_, _, _, _, _]) rfl
     case hops =>
      exact ⟨rP (plv oz (mA 0 rfl) y6q), rmv rfl, rmv rfl, rP (Qj oz oz Tryz.underlying273 y6q (by omega) (by omega)), rP (pL oz y6q), trivial⟩
     case h =>
      refine oP (Qg9 Q5x oz oz) rfl (tn (nn (tc oz (fun c16 => ?_) (fun c16 => ?_))))
      · try simp only [cq] at c16
        refine sq (rg (mv rfl rfl (av rfl rfl (tn (nn (tR (Qw (tt (tt (Qw (tt ?_)))))))))))
        exact Qi .ret (.inl rfl) rfl (k : Int) oz (by rw [decide_eq_true (Q4b hkl c16), decide_eq_true (by omega)]) (by exact pn)
      try simp only [cq] at c16
      have hst := Qtw hkl hno c16
      refine sk (bn (nn (rg (oP (pad oz ot (by omega)) rfl (mv rfl rfl (tn (nn ?_)))))))
      exact tg (k + 1) ⟨by omega, hst⟩ (by omega) ef (op (by repeat first | exact pn | refine pc 0 rfl ?_))
   try simp only [cq] at c9
   refine Qx (tx (tx (bh (nn (sq ?_)))))
   obtain rfl : k = es.length := by omega
   rw [List.take_length] at hno
   refine rg (ak rfl (tn (nn (tR ?_))))
   exact Qi .ret (.inl rfl) rfl (-1) oz (by rw [decide_eq_false hno]; rfl) (by exact pn)
/-- slices.Contains[[]rhizome/dred.pair,rhizome/dred.pair] -/
theorem Qlo (es : List Pr) (e : Pr) (hm : es.length ≤ 1000000) : Ct Tryz.prog 192 [SlT kPP es, kPP.T e] ([]) Unit (fun _ => Xe (decide (e ∈ es))) (fun _ => []) (fun _ => True) := by
 refine Qn Tryz.func192 rfl rfl ?_
 intro H w
 refine sq (rg (oA (Xf (d := kPP) oz) pR rfl rfl (fun g0_0 _ => ?_)))
 refine ak rfl (tn (nn (sq (rg (mv rfl rfl (oP (plv oz (mA 0 rfl) y6q) rfl (oA (aC (Qtx _ _ (by omega)) yea (oc oz (oc oz oN)) pR) pR rfl rfl (fun r1_2 hr1_2 => ?_))))))))
 refine oP (Vi oz ot) rfl (av rfl rfl (tn (nn (tR ?_))))
 exact Qi .ret (.inl rfl) rfl () (OT.val oz (congrArg Value.bool (hr1_2))) trivial (by exact pn)
/-- rhizome/dred.tuples -/
theorem Qkc (l : List Pr) (hl : l.length ≤ 100000) : Ct Tryz.prog 193 [SlT kPP l] ([]) Unit (fun _ => SlT kT (Jm (U6 l))) (fun _ => []) (fun _ => True) := by
 refine Qn Tryz.func193 rfl rfl ?_
 intro H w
 have hsm := Qph hl
 refine sq (rg (ak rfl (tn (nn (sq (rg (ak rfl (tn (nn (sq (sq (rg (mv rfl rfl (oP (pls oz Tryz.underlying273) rfl (oP (Qm ot) rfl (tn (Xg 51 kT (nn (tb (Qt (σ := Nat × Value) (e2 6 7 rfl en) (fun s => [(8, I64 (s.1 : Int)), (3, IsV s.2)]) (fun s => [Qh 51 kT s.2 (U6 (l.take s.1))]) (fun s => s.1 ≤ l.length) (fun s => l.length - s.1) (0, Qo) (Nat.zero_le _) ?_ (op (by repeat first | exact pn | refine pc 0 rfl ?_)) ?_))))))))))))))))))))
 · exact (e2 8 3 rfl en)
 · rintro ⟨k, u⟩ hk
   dsimp only at hk ⊢
   refine sq (rg (oP (Q5 oz oz) rfl (tn (nn (sq (tc oz (fun c9 => ?_) (fun c9 => ?_)))))))
   · refine sk (nn (sq (tb (sq ?_))))
     have hkl : k < l.length := by simp only [decide_eq_true_eq] at c9; omega
     obtain ⟨p, hp⟩ : ∃ p, at' l (k : Int) = p := ⟨_, rfl⟩
     have hst : U6 (l.take (k + 1)) = U6 (l.take k) ++ [[p.1, p.2]] := by rw [List.take_succ_eq_append_getElem hkl, U6, List.map_append, ← hp, Q1 hkl]; rfl
     have htl : (U6 (l.take k)).length = k := by rw [List.length_map, List.length_take]; omega
     refine rg (oP (Qj oz oz Tryz.underlying273 y6q (by omega) (by omega)) rfl (oP (pL oz y6q) rfl (oA (Qz (zPr)) pR rfl rfl (fun g4_2 _ => ?_))))
     refine oA (asv oz oz (pA 0 rfl) y6q) (pA 0 rfl) rfl rfl (fun _ _ => ?_)
     refine tn ?_
     rw [hp]
     refine nn (rg (mv rfl rfl (oP (Zj oz (mA 0 rfl) Tryz.underlying109 ynm) rfl (oP (Z7 oz (mA 0 rfl) ynm) rfl (oP (Zk oz (mA 0 rfl) Tryz.underlying109 ynm) rfl (oP (Z8 oz (mA 0 rfl) ynm) rfl (oA (Q7 (d := kI) (v0 := 0) ye1 ynm zI (show 2 * 1 ≤ 16777216 from by decide) (by decide) (Qv rfl rfl (by decide) oz (Qv rfl rfl (by decide) oz Qc))) pR rfl rfl (fun _ _ => ?_))))))))
     refine oA (Q7 (d := kT) (v0 := []) yiy yko zT (show 1 * 1 ≤ 16777216 from by decide) (by decide) (Qv rfl rfl (by decide) oz Qc)) pR rfl rfl (fun _ _ => ?_)
     refine oA (Q0 oz (pA 1 rfl) oz yiy (by (simp; omega)) (by (simp [maxLen]; omega))) (pA 1 rfl) rfl rfl (fun v5_7 _ => ?_)
     refine av rfl rfl (tn (bn (nn (rg (oP (pad oz ot (by omega)) rfl (mv rfl rfl (tn (nn ?_))))))))
     exact tg (k + 1, v5_7) (by show k + 1 ≤ l.length; omega) (by show l.length - (k + 1) < l.length - k; omega) ef (op (by rw [hst]; exact (by repeat first | exact pn | refine pc 0 rfl ?_)))
   refine Qx (tx (tx (bh (nn (sq ?_)))))
   obtain rfl : k = l.length := by simp only [decide_eq_false_iff_not] at c9; omega
   rw [List.take_length]
   refine Xh (Qq 0 rfl) 3 oz (rg (mv rfl rfl (oA (Zo (Qdt (K0 := noK) (n0 := 0) _ hsm) J1 y07 (oc oz oN) pR) pR rfl rfl (fun _ _ => ?_))))
   refine av rfl rfl (tn (nn (tR ?_)))
   exact Qi .ret (.inl rfl) rfl () (OT.unfr2 oz) trivial (by exact pn)
/-- (*rhizome/dred.Dred).derived -/
theorem Qpv (d : DO) (n : Int) (re rs : RS) (E S : List Pr) (q : Pr) (he : Ze E re) (hs : Ze S rs) : Ct Tryz.prog 201 [IsV (pt d.g 0), kPP.T q] (DrI d n re rs) Unit (fun _ => Xe (dvB E S q)) (fun _ => DrI d n re rs) (fun _ => True) := by
 refine Qn Tryz.func201 rfl rfl ?_
 intro H w
 have hq := he.f q.1 q.2
 refine Q4 (List.Perm.refl (Qb d.g 106 kDr (dV d n) :: (Xc d.e re ++ Xc d.s rs))) (sq (rg (oA (Xf (d := kPP) oz) pR rfl rfl (fun g0_0 _ => ?_))))
 refine ak rfl (tn (nn (sq (sq ?_))))
 apply Xs (m := 5) (ns := [[(0, none)], [(6, some 0)], [(7, some 1)], [(8, some 2)], [(3, none)]]) (by kernel_rfl) (by kernel_rfl) (Ts := [_, _, _, _, _]) rfl
 case hops =>
  exact ⟨rmv rfl, rP (Qe oz), rP (pf oz y8k), rP (Ql oz (mA 1 rfl) ld1 ygw), rP (plv oz (mA 0 rfl) y6q), trivial⟩
 case h =>
  refine Qcx [_, _] (Xc d.s rs) rfl (aC (Qbd d.e re q) ylx (oc oz (oc oz oN)) (Xp [_, _] (Xc d.e re) (Xc d.s rs))) rfl rfl fun _ _ => (tn (nn (tc oz (fun c11 => ?_) (fun c11 => ?_))))
  · have hqe : q ∈ E := by rw [c11] at hq; exact of_decide_eq_true hq.symm
    have hres : dvB E S q = true := by unfold dvB; rw [decide_eq_true hqe]; rfl
    exact sq (rg (ak rfl (tn (nn (tR (tt (Qi .ret (.inl rfl) rfl () (OT.val oz (congrArg Value.bool hres.symm)) trivial (pd pl))))))))
  have hqe : q ∉ E := by rw [c11] at hq; exact of_decide_eq_false hq.symm
  refine Qw7 q.1 fun st => (sk (nn (sq (sq ?_))))
  apply Xs (m := 9) (ns := [[(0, none)], [(12, some 0)], [(13, some 1)], [(14, some 2)], [(15, some 3)], [(16, some 4)], [(17, some 5)], [(3, none)], [(19, some 7)]]) (by kernel_rfl) (by kernel_rfl) (Ts := [_, _, _, _, _, _, _, _, _]) rfl
  case hops =>
   exact ⟨rmv rfl, rP (Qe oz), rP (pf oz y8k), rP (Ql oz (mA 2 rfl) ld1 ygw), rP (Qe oz), rP (pf oz y1e), rP (Ql oz (mA 3 rfl) Qnd yue), rP (Zj oz (mA 1 rfl) Tryz.underlying109 ynm), rP (Z7 oz (mA 1 rfl) ynm), trivial⟩
  case h =>
   refine oP (X7 mkI Tryz.underlying149 (z0 := (.map none)) (by kernel_rfl) oz (mA 4 rfl) oz) rfl (oA (Qbl Tryz.underlying154 (OT.eq oz (congrArg IsV (Qgx _ _))) (Zz 0 rfl)) pR rfl rfl (fun r3_10 hr3_10 => ?_))
   refine tn (nn (tb (Qt (σ := IS × List Int × Option Int) (e2 0 3 rfl (ec 22 rfl en)) (fun s => []) (fun s => Qfx r3_10.1 (osS re.f q.1) s.1 :: Qan (osS re.f q.1) encI Xd.T (inS re.f q.1) st :: Qb g0_0 109 kPP q :: Qb d.g 106 kDr (dV d n) :: Qb d.e.g 151 Vn (Qa9 d.e re.n) :: Qg d.e.gf encI IsV (hdS re.f) :: Qg d.e.gt encI IsV (hdS re.t) :: ((Z9 (dlk q.1 re.f) ++ Z9 re.t) ++ Xc d.s rs)) (fun s => Jk (inS re.f q.1) st s.1 s.2.1 s.2.2 ∧ ∀ c ∈ keys (inS re.f q.1), c ∉ s.2.1 → (c, q.2) ∉ S) (fun s => s.2.1.length) (r3_10.2, keys (inS re.f q.1), none) ⟨hr3_10, fun c h1 h2 => absurd h1 h2⟩ ?_ (op pl) ?_)))
   · exact en
   rintro ⟨i, todo, cur⟩ ⟨hok, hin⟩
   dsimp only at hok hin ⊢
   refine sq (rg (oA (Qb9 oz (Zz 1 rfl) (Qq 0 rfl) hok) (Qq 0 rfl) rfl rfl (fun q4_0 hq4_0 => ?_)))
   refine oP (J6 oz) rfl (tn (nn (sq (tc oz (fun c24 => ?_) (fun c24 => ?_)))))
   · obtain ⟨i2, o2⟩ := q4_0
     obtain ⟨key, rfl⟩ : ∃ k, o2 = some k := by
      cases o2 with
      | none => exact Bool.noConfusion c24
      | some k => exact ⟨k, rfl⟩
     dsimp only at hq4_0 c24 ⊢
     obtain ⟨hkt, hok2⟩ := hq4_0
     obtain ⟨bv, hbv⟩ := Qca (hok.sub _ hkt)
     refine sk (nn (tb (sq (rg (oP (Qda (D := IsV _) oz (Zz 0 rfl) (Zz 1 rfl) hok2 hbv (fun H => rfl)) rfl (oP (Qd oz rfl) rfl (av rfl rfl (tn (nn (sq ?_))))))))))
     apply Xs (m := 8) (ns := [[(0, none)], [(27, some 0)], [(28, some 1)], [(29, some 2)], [(5, none)], [(3, none)], [(32, some 5)], [(31, some 4), (33, some 6)]]) (by kernel_rfl) (by kernel_rfl) (Ts := [_, _, _, _, _, _, _, _]) rfl
     case hops =>
      exact ⟨rmv rfl, rP (Qe oz), rP (pf oz yn3), rP (Ql oz (mA 3 rfl) ld2 ygw), rmv rfl, rP (Zk oz (mA 2 rfl) Tryz.underlying109 ynm), rP (Z8 oz (mA 2 rfl) ynm), rP (Xt (d := kPP) (v0 := (0, 0)) (agg := false) Tryz.underlying109 ynm zPr rfl (Qk rfl Qf.p0 oz (Qk rfl Qf.p1 oz Qc))), trivial⟩
     case h =>
      refine Qdp [_, _, _, _, _, _, _] (Z9 (dlk q.1 re.f) ++ Z9 re.t) rfl (aC (Qbd d.s rs (key, q.2)) ylx (oc oz (oc oz oN)) (Z2 (X := [_, _, _, _, _, _, _]) (Y := (Z9 (dlk q.1 re.f) ++ Z9 re.t)))) rfl rfl fun _ _ => (tn (nn (tc oz (fun c35 => ?_) (fun c35 => ?_))))
      · have hres : dvB E S q = true := by
         rw [hs.f] at c35
         exact Qw8 he (hok.sub _ hkt) (of_decide_eq_true c35)
        exact sq (Qla (pd pl) (Qjw q.1 pR (rg (ak rfl (tn (nn (tR (Qw (tt (Qw (tt (Qi .ret (.inl rfl) rfl () (OT.val oz (congrArg Value.bool hres.symm)) trivial (pd pl)))))))))))))
      have hnS : (key, q.2) ∉ S := by
       rw [hs.f] at c35
       exact of_decide_eq_false c35
      have hle : (todo.erase key).length < todo.length := by
       have h1 := List.length_erase_of_mem hkt
       have h2 := List.length_pos_of_mem hkt
       omega
      refine sk (bn (nn ?_))
      exact tg (i2, todo.erase key, some key) ⟨hok2, fun c h1 h2 => by
                  by_cases hck : c = key
                  · subst hck; exact hnS
                  exact hin c h1 fun h3 => h2 ((List.mem_erase_of_ne hck).2 h3)⟩ hle (ea en (e2 0 3 rfl (ec 22 rfl en))) (op pl)
   obtain ⟨i2, o2⟩ := q4_0
   obtain rfl : o2 = none := by
    cases o2 with
    | none => rfl
    | some k => exact Bool.noConfusion c24
   dsimp only at hq4_0 ⊢
   obtain ⟨rfl, hok2⟩ := hq4_0
   have hres : dvB E S q = false := Qw9 he hqe fun c hc => hin c hc (by simp)
   exact Qla (pd pl) (Qjw q.1 pR (Qx (tx (tx (bh (nn (sq (rg (ak rfl (tn (nn (tR (Qi .ret (.inl rfl) rfl () (OT.val oz (congrArg Value.bool hres.symm)) trivial (pd pl))))))))))))))
section
variable {C : Cx} {Γ : Env} {L : List It} {φ : Act → World → Prop} {s : Sd}
theorem Qty (X R : List It) (u : Int) (hL : L = X ++ (Z9 s ++ R)) (h : ∀ st, Tr C Γ (Qan (osS s u) encI Xd.T (inS s u) st :: (X ++ (Z9 (dlk u s) ++ R))) φ) : Tr C Γ L φ := by
 subst hL
 exact Qnf (s := s) u (R := X ++ R) (Xp _ _ _) fun st => Q4 (List.Perm.cons _ (Xp _ _ _).symm) (h st)
theorem Qtz (X R : List It) (u : Int) {st : MS} (hL : L = Qan (osS s u) encI Xd.T (inS s u) st :: (X ++ (Z9 (dlk u s) ++ R))) (h : Tr C Γ (X ++ (Z9 s ++ R)) φ) : Tr C Γ L φ := by
 subst hL
 exact Qng (s := s) u (R := X ++ R) (List.Perm.cons _ (Xp _ _ _)) (Q4 (Xp _ _ _).symm h)
end
abbrev RdI (d : DO) (n : Int) (re rs : RS) : List It := Qb d.g 106 kDr (dV d n) :: Qb d.s.g 151 Vn (Qa9 d.s rs.n) :: Qg d.s.gf encI IsV (hdS rs.f) :: Qg d.s.gt encI IsV (hdS rs.t) :: (Z9 rs.f ++ (Z9 rs.t ++ Xc d.e re))
theorem Qre (d : DO) (n : Int) (re rs : RS) : (DrI d n re rs).Perm (RdI d n re rs) := by
 refine List.Perm.cons _ ((List.perm_append_comm).trans (List.Perm.of_eq ?_))
 simp [Xc]
theorem Qye {S : List Pr} {r : RS} (hr : Ze S r) (t : Tp) : t ∈ ([] : List Tp) ↔ ∃ a b : Int, t = [a, b] ∧ a ∉ keys (hdS r.f) ∧ (a, b) ∈ S := by
 refine ⟨fun h => (by cases h), ?_⟩
 rintro ⟨a, b, _, h1, h2⟩
 refine absurd ?_ h1
 have h3 := (Wj hr).2 h2
 cases hl : lkp a r.f with
 | none => rw [Vt] at h3; unfold inS at h3; rw [hl] at h3; cases h3
 | some x =>
  have : keys (hdS r.f) = keys r.f := keys_map (fun x : Inn => mp x.1)
  rw [this]
  exact Classical.byContradiction fun h => by rw [Xx.2 h] at hl; cases hl
theorem Qyf {S : List Pr} {M : List Tp} {p : Int → Prop} (hn : M.Nodup) (h : ∀ t, t ∈ M → ∃ a b : Int, t = [a, b] ∧ (a, b) ∈ S) : M.length ≤ S.length := by
 have := Yw (m := U6 S) hn fun t ht => by obtain ⟨a, b, rfl, h1⟩ := h t ht; exact List.mem_map.2 ⟨(a, b), h1, rfl⟩
 rwa [List.length_map] at this
theorem Q5g {S : List Pr} {r : RS} (hr : Ze S r) {todo : List Int} {M M1 : List Tp} {key : Int} {todo1 : List Int} (hM : ∀ t, t ∈ M ↔ ∃ a b : Int, t = [a, b] ∧ a ∉ todo ∧ (a, b) ∈ S) (h1 : ∀ t, t ∈ M1 ↔ t ∈ M ∨ ∃ b, t = [key, b] ∧ b ∈ keys (inS r.f key) ∧ b ∉ todo1) : ∀ t, t ∈ M1 → ∃ a b : Int, t = [a, b] ∧ (a, b) ∈ S := fun t ht => by
 rcases (h1 t).1 ht with h | ⟨b, h2, h3, _⟩
 · obtain ⟨a, b, h2, _, h3⟩ := (hM t).1 h; exact ⟨a, b, h2, h3⟩
 exact ⟨key, b, h2, (Wj hr).1 (by rw [Vt]; exact h3)⟩
theorem Q4c {S : List Pr} {todo : List Int} {M M1 : List Tp} {key b : Int} {ks todo1 : List Int} (hk : key ∈ todo) (hb : b ∈ todo1) (hM : ∀ t, t ∈ M ↔ ∃ a b : Int, t = [a, b] ∧ a ∉ todo ∧ (a, b) ∈ S) (h1 : ∀ t, t ∈ M1 ↔ t ∈ M ∨ ∃ b, t = [key, b] ∧ b ∈ ks ∧ b ∉ todo1) : [key, b] ∉ M1 := fun h => by
 rcases (h1 _).1 h with h | ⟨b2, h2, _, h3⟩
 · obtain ⟨a, b2, h2, h3, _⟩ := (hM _).1 h
   have : a = key := by have := List.cons.inj h2; exact this.1.symm
   exact h3 (this ▸ hk)
 have : b2 = b := by have := (List.cons.inj (List.cons.inj h2).2).1; exact this.symm
 exact h3 (this ▸ hb)
theorem Qn4 {M M1 : List Tp} {key b : Int} {ks todo1 : List Int} (hn : todo1.Nodup) (hb : b ∈ todo1) (hbk : b ∈ ks) (h1 : ∀ t, t ∈ M1 ↔ t ∈ M ∨ ∃ b, t = [key, b] ∧ b ∈ ks ∧ b ∉ todo1) (t : Tp) : t ∈ M1 ++ [[key, b]] ↔ t ∈ M ∨ ∃ b', t = [key, b'] ∧ b' ∈ ks ∧ b' ∉ todo1.erase b := by
 rw [List.mem_append, List.mem_singleton, h1]
 constructor
 · rintro ((h | ⟨b2, h2, h3, h4⟩) | h)
   · exact .inl h
   · exact .inr ⟨b2, h2, h3, fun h => h4 (List.mem_of_mem_erase h)⟩
   exact .inr ⟨b, h, hbk, fun h => (hn.mem_erase_iff.1 h).1 rfl⟩
 rintro (h | ⟨b2, h2, h3, h4⟩)
 · exact .inl (.inl h)
 by_cases e : b2 = b
 · subst e; exact .inr h2
 exact .inl (.inr ⟨b2, h2, h3, fun h => h4 (hn.mem_erase_iff.2 ⟨e, h⟩)⟩)
theorem Q10 {S : List Pr} {r : RS} (hr : Ze S r) {todo : List Int} {M M1 : List Tp} {key : Int} (hn : todo.Nodup) (hk : key ∈ todo) (hM : ∀ t, t ∈ M ↔ ∃ a b : Int, t = [a, b] ∧ a ∉ todo ∧ (a, b) ∈ S) (h1 : ∀ t, t ∈ M1 ↔ t ∈ M ∨ ∃ b, t = [key, b] ∧ b ∈ keys (inS r.f key) ∧ b ∉ ([] : List Int)) (t : Tp) : t ∈ M1 ↔ ∃ a b : Int, t = [a, b] ∧ a ∉ todo.erase key ∧ (a, b) ∈ S := by
 rw [h1, hM]
 constructor
 · rintro (⟨a, b, h2, h3, h4⟩ | ⟨b, h2, h3, _⟩)
   · exact ⟨a, b, h2, fun h => h3 (List.mem_of_mem_erase h), h4⟩
   exact ⟨key, b, h2, fun h => (hn.mem_erase_iff.1 h).1 rfl, (Wj hr).1 (by rw [Vt]; exact h3)⟩
 rintro ⟨a, b, h2, h3, h4⟩
 by_cases e : a = key
 · subst e
   have := (Wj hr).2 h4
   rw [Vt] at this
   exact .inr ⟨b, h2, this, by simp⟩
 exact .inl ⟨a, b, h2, fun h => h3 (hn.mem_erase_iff.2 ⟨e, h⟩), h4⟩
theorem Q11 {S : List Pr} {M : List Tp} (hM : ∀ t, t ∈ M ↔ ∃ a b : Int, t = [a, b] ∧ a ∉ ([] : List Int) ∧ (a, b) ∈ S) : Jm M = Jm (U6 S) := by
 refine Ji (Xj M).1 (Xj (U6 S)).1 fun x => ?_
 rw [(Xj M).2, (Xj (U6 S)).2, hM, List.mem_map]
 constructor
 · rintro ⟨a, b, rfl, _, h⟩; exact ⟨(a, b), h, rfl⟩
 rintro ⟨p, h, rfl⟩; exact ⟨p.1, p.2, rfl, by simp, h⟩
theorem Qyg {S : List Pr} {M : List Tp} (hn : M.Nodup) (hl : S.length ≤ 100000) (h : ∀ t, t ∈ M → ∃ a b : Int, t = [a, b] ∧ (a, b) ∈ S) : Small M := ⟨by have := Qyf (p := fun _ => True) hn h; omega, fun t ht => by obtain ⟨a, b, rfl, _⟩ := h t ht; show (2 : Nat) ≤ _; omega⟩

/-- (*rhizome/dred.Dred).Read -/
theorem Qxq (d : DO) (n : Int) (re rs : RS) (S : List Pr) (hs : Ze S rs) (hl : S.length ≤ 100000) : Ct Tryz.prog 191 [IsV (pt d.g 0)] (DrI d n re rs) Unit (fun _ => SlT kT (Jm (U6 S))) (fun _ => DrI d n re rs) (fun _ => True) := by
 refine Qn Tryz.func191 rfl rfl ?_
 intro H w
 refine Q4 (Qre d n re rs) (sq (rg (ak rfl (tn (nn (sq (rg (ak rfl (tn (nn (sq (sq (W7 (Qq 2 rfl) fun s0 => (rg (mv rfl rfl (oP (Qe oz) rfl (oP (pf oz yn3) rfl (oP (Ql oz (mA 1 rfl) ld2 ygw) rfl (oP (Qe oz) rfl (oP (pf oz y1e) rfl (oP (Ql oz (mA 2 rfl) Qnd yue) rfl (oA (Z0 Tryz.underlying149 oz (mA 0 rfl)) pR rfl rfl (fun r2_7 hr2_7 => ?_)))))))))))))))))))))))
 refine tn (Xg 51 kT (nn (tb (Qt (σ := IS × List Int × Option Int × Value × List Tp) (ec 14 rfl en) (fun s => [(3, IsV s.2.2.2.1)]) (fun s => K4 r2_7.1 d.s.gf s.1 :: Ju d.s.gf encI IsV (hdS rs.f) s0 :: Qb d.g 106 kDr (dV d n) :: Qb d.s.g 151 Vn (Qa9 d.s rs.n) :: Qg d.s.gt encI IsV (hdS rs.t) :: Qh 51 kT s.2.2.2.1 s.2.2.2.2 :: (Z9 rs.f ++ (Z9 rs.t ++ Xc d.e re))) (fun s => Jk (hdS rs.f) s0 s.1 s.2.1 s.2.2.1 ∧ s.2.2.2.2.Nodup ∧ ∀ t, t ∈ s.2.2.2.2 ↔ ∃ a b : Int, t = [a, b] ∧ a ∉ s.2.1 ∧ (a, b) ∈ S) (fun s => s.2.1.length) (r2_7.2, keys (hdS rs.f), none, Qo, []) ⟨hr2_7, List.nodup_nil, Qye hs⟩ ?_ (op (pc 1 rfl (pc 1 rfl (pc 1 rfl (pc 1 rfl (pc 1 rfl (pc 0 rfl pl))))))) ?_))))
 · exact (ec 3 rfl en)
 rintro ⟨i, todo, cur, u, M⟩ ⟨hok, hnd, hM⟩
 dsimp only at hok hnd hM ⊢
 refine sq (rg (oA (Z1 oz (Zz 1 rfl) (Qq 0 rfl) hok) (Qq 0 rfl) rfl rfl (fun q3_0 hq3_0 => ?_)))
 refine oP (J6 oz) rfl (tn (nn (sq (tc oz (fun c16 => ?_) (fun c16 => ?_)))))
 · obtain ⟨i2, o2⟩ := q3_0
   obtain ⟨key, rfl⟩ : ∃ k, o2 = some k := by
    cases o2 with
    | none => exact Bool.noConfusion c16
    | some k => exact ⟨k, rfl⟩
   dsimp only at hq3_0 c16 ⊢
   obtain ⟨hkt, hok2⟩ := hq3_0
   obtain ⟨x, hx⟩ : ∃ x, lkp key rs.f = some x := by
    have h1 := hok.sub _ hkt
    rw [show keys (hdS rs.f) = keys rs.f from keys_map (fun x : Inn => mp x.1)] at h1
    exact Qca h1
   have hbv : lkp key (hdS rs.f) = some (mp x.1) := by rw [Qe5, hx]; rfl
   have hmp : mp x.1 = .map (osS rs.f key) := by unfold osS; rw [hx]; rfl
   have hle : (todo.erase key).length < todo.length := by
    have h1 := List.length_erase_of_mem hkt
    have h2 := List.length_pos_of_mem hkt
    omega
   refine sk (nn (tb (sq (rg (oP (Ye (D := IsV _) oz (Zz 0 rfl) (Zz 1 rfl) hok2 hbv (fun H => rfl)) rfl (oP (Qd oz rfl) rfl (oP (Qd oz rfl) rfl (av rfl rfl (av rfl rfl (tn (nn (sq (Qty (s := rs.f) [_, _, _, _, _, _] (Z9 rs.t ++ Xc d.e re) key rfl fun st => (rg (mv rfl rfl (oA (Qbl Tryz.underlying154 (OT.eq oz (congrArg IsV hmp)) (Zz 0 rfl)) pR rfl rfl (fun r5_1 hr5_1 => ?_)))))))))))))))))
   refine tn (nn (tb (Qt (σ := IS × List Int × Option Int × Value × List Tp) (e2 4 14 rfl (ec 21 rfl en)) (fun s => [(3, IsV s.2.2.2.1)]) (fun s => Qfx r5_1.1 (osS rs.f key) s.1 :: Qan (osS rs.f key) encI Xd.T (inS rs.f key) st :: K4 r2_7.1 d.s.gf i2 :: Ju d.s.gf encI IsV (hdS rs.f) s0 :: Qb d.g 106 kDr (dV d n) :: Qb d.s.g 151 Vn (Qa9 d.s rs.n) :: Qg d.s.gt encI IsV (hdS rs.t) :: Qh 51 kT s.2.2.2.1 s.2.2.2.2 :: (Z9 (dlk key rs.f) ++ (Z9 rs.t ++ Xc d.e re))) (fun s => Jk (inS rs.f key) st s.1 s.2.1 s.2.2.1 ∧ s.2.2.2.2.Nodup ∧ ∀ t, t ∈ s.2.2.2.2 ↔ t ∈ M ∨ ∃ b, t = [key, b] ∧ b ∈ keys (inS rs.f key) ∧ b ∉ s.2.1) (fun s => s.2.1.length) (r5_1.2, keys (inS rs.f key), none, u, M) ⟨hr5_1, hnd, fun t => ⟨.inl, fun h => h.elim id fun ⟨b, _, h1, h2⟩ => absurd h1 h2⟩⟩ ?_ (op pl) ?_)))
   · exact (ec 3 rfl en)
   rintro ⟨i3, todo1, cur1, u1, M1⟩ ⟨hok3, hn1, hM1⟩
   dsimp only at hok3 hn1 hM1 ⊢
   refine sq (rg (oA (Qb9 oz (Zz 1 rfl) (Qq 0 rfl) hok3) (Qq 0 rfl) rfl rfl (fun q6_0 hq6_0 => ?_)))
   refine oP (J6 oz) rfl (tn (nn (sq (tc oz (fun c23 => ?_) (fun c23 => ?_)))))
   · obtain ⟨i4, o2⟩ := q6_0
     obtain ⟨kb, rfl⟩ : ∃ k, o2 = some k := by
      cases o2 with
      | none => exact Bool.noConfusion c23
      | some k => exact ⟨k, rfl⟩
     dsimp only at hq6_0 c23 ⊢
     obtain ⟨hkt1, hok4⟩ := hq6_0
     have hbk := hok3.sub _ hkt1
     obtain ⟨bv, hbv1⟩ := Qca hbk
     have hle1 : (todo1.erase kb).length < todo1.length := by
      have h1 := List.length_erase_of_mem hkt1
      have h2 := List.length_pos_of_mem hkt1
      omega
     have hlen := Qyf (p := fun _ => True) hn1 (Q5g hs hM hM1)
     have hnew := Q4c hkt hkt1 hM hM1
     refine sk (nn (tb (sq (rg (oP (Qda (D := IsV _) oz (Zz 0 rfl) (Zz 1 rfl) hok4 hbv1 (fun H => rfl)) rfl (oP (Qd oz rfl) rfl (av rfl rfl (tn (nn (rg (mv rfl rfl (mv rfl rfl (mv rfl rfl (oA (Q7 (d := kI) (v0 := 0) ye1 ynm zI (show 2 * 1 ≤ 16777216 from by decide) (by decide) (Qv rfl rfl (by decide) oz (Qv rfl rfl (by decide) oz Qc))) pR rfl rfl (fun _ _ => ?_)))))))))))))))
     refine oA (Q7 (d := kT) (v0 := []) yiy yko zT (show 1 * 1 ≤ 16777216 from by decide) (by decide) (Qv rfl rfl (by decide) oz Qc)) pR rfl rfl (fun _ _ => ?_)
     refine oA (Q0 oz (pA 7 rfl) oz yiy (by (simp; omega)) (by (simp [maxLen]; omega))) (pA 7 rfl) rfl rfl (fun v8_5 _ => ?_)
     refine av rfl rfl (tn (bn (nn ?_)))
     exact tg (i4, todo1.erase kb, some kb, v8_5, M1 ++ [[key, kb]]) ⟨hok4, List.nodup_append.2 ⟨hn1, by simp, fun a ha b hb e => hnew (by rw [← (by simpa using hb : b = [key, kb]), ← e]; exact ha)⟩, Qn4 hok3.nd hkt1 hbk hM1⟩ hle1 ef (op (pc 1 rfl (pc 1 rfl (pc 1 rfl (pc 1 rfl (pc 1 rfl (pc 1 rfl (pc 1 rfl (pc 0 rfl pl)))))))))
   obtain ⟨i4, o2⟩ := q6_0
   obtain rfl : o2 = none := by
    cases o2 with
    | none => rfl
    | some k => exact Bool.noConfusion c23
   dsimp only at hq6_0 ⊢
   obtain ⟨rfl, hok4⟩ := hq6_0
   exact Qla (pd pl) (Qtz (s := rs.f) [_, _, _, _, _, _] (Z9 rs.t ++ Xc d.e re) key rfl (Qx (tx (tx (bh (bn (nn (tg (i2, todo.erase key, some key, u1, M1) ⟨hok2, hn1, Q10 hs hok.nd hkt hM hM1⟩ hle ef (op pl)))))))))
 obtain ⟨i2, o2⟩ := q3_0
 obtain rfl : o2 = none := by
  cases o2 with
  | none => rfl
  | some k => exact Bool.noConfusion c16
 dsimp only at hq3_0 ⊢
 obtain ⟨rfl, hok2⟩ := hq3_0
 have hsm := Qyg hnd hl fun t ht => by obtain ⟨a, b, h1, _, h2⟩ := (hM t).1 ht; exact ⟨a, b, h1, h2⟩
 refine Uv (Qq 1 rfl) (Xh (Qq 5 rfl) 3 oz (Qx (tx (tx (bh (nn (sq (rg (mv rfl rfl (oA (Zo (Qdt (K0 := noK) (n0 := 0) _ hsm) J1 y07 (oc oz oN) pR) pR rfl rfl (fun _ _ => ?_)))))))))))
 exact av rfl rfl (tn (nn (tR (Qi .ret (.inl rfl) rfl () (OT.eq (OT.unfr2 oz) (congrArg (SlT kT) (Q11 hM))) trivial (Jz (pc 2 rfl (pc 2 rfl (pc 0 rfl (pc 1 rfl (pd pl))))) (Yl (Qre d n re rs).symm))))))
end Go.Proofs.YtklhdalppmjnaaaGreatDoor
namespace Go.Proofs.YtklhdalppmjnaaaGreatDoor
open Go Go.Gw Go.So Go.Tu Go.Jn Go.MapKept
open Go.Dr hiding Pr
theorem Ct.via {P : Program} {f : FuncId} {As : List Ty} {J : List It} {ρ ρ' : Type} {T : ρ → Ty} {I : ρ → List It} {φ : ρ → Prop} {T' : ρ' → Ty} {I' : ρ' → List It} {φ' : ρ' → Prop} (g : ρ → ρ') (h : Ct P f As J ρ T I φ) (hT : ∀ r, φ r → ∀ H v, (T r).p H v → (T' (g r)).p H v) (hI : ∀ r, φ r → I' (g r) = I r) (hφ : ∀ r, φ r → φ' (g r)) : Ct P f As J ρ' T' I' φ' := by
 intro H w args hon hA hO
 refine (h H w args hon hA hO).mono ?_
 rintro e w' ⟨r, v, H', rfl, h1, h2, h3, h4⟩
 exact ⟨g r, v, H', rfl, hφ r h1, h2, hT r h1 H' v h3, by rw [hI r h1]; exact h4⟩
def Qlb (s : RS × List Pr) (q : Pr) (s' : RS × List Pr) (b : Bool) : Prop := s'.2 = W1 s.2 q ∧ b = decide (q ∈ s.2)
def Qgz (s : RS × List Pr) (q : Pr) (s' : RS × List Pr) (b : Bool) : Prop := s'.2 = s.2.erase q ∧ b = !decide (q ∈ s.2)
def Qja (m : Nat) (s : RS × List Pr) : Prop := Ze s.2 s.1 ∧ s.2.length + m ≤ 100000000000
abbrev JdR (d : DO) (n : Int) (b : Nat) (s : RS × List Pr) : List It := Qb b 75 Q3 (pt d.g 0) :: Qb d.g 106 kDr (dV d n) :: Xc d.s s.1
theorem Qe6 (P : List Pr) (q : Pr) : (W1 P q).length ≤ P.length + 1 := by unfold W1; split <;> simp
theorem Qxa (d : DO) (n : Int) (b m : Nat) (s : RS × List Pr) (q : Pr) (h : Qja (m + 1) s) : CtV Tryz.prog (.func (.func 203) #[] #[pt b 0]) [kPP.T q] (JdR d n b s) ((RS × List Pr) × Bool) (fun u => Xe u.2) (fun u => JdR d n b u.1) (fun u => Qja m u.1 ∧ Qlb s q u.1 u.2) := by
 have hc := Q02 d n b s.1 s.2 q h.1 (by have := h.2; omega)
 refine CtV.of [pt b 0] ?_ (by kernel_rfl)
 refine Ct.via (fun r => ((r, W1 s.2 q), decide (q ∈ s.2))) hc (fun r hr H v hv => ?_) (fun r hr => rfl) fun r hr => ⟨⟨hr, ?_⟩, rfl, rfl⟩
 · have h1 : v = .bool (!decide (q ∉ s.2)) := hv
   rw [h1]; show Value.bool _ = Value.bool _; congr 1; by_cases hq : q ∈ s.2 <;> simp [hq]
 have h1 := h.2; have h2 := Qe6 s.2 q; show (W1 s.2 q).length + m ≤ _; omega
theorem Qs3 (d : DO) (n : Int) (b m : Nat) (s : RS × List Pr) (q : Pr) (h : Qja (m + 1) s) : CtV Tryz.prog (.func (.func 200) #[] #[pt b 0]) [kPP.T q] (JdR d n b s) ((RS × List Pr) × Bool) (fun u => Xe u.2) (fun u => JdR d n b u.1) (fun u => Qja m u.1 ∧ Qgz s q u.1 u.2) := by
 have hc := Q03 d n b s.1 s.2 q h.1 (by have := h.2; omega)
 refine CtV.of [pt b 0] ?_ (by kernel_rfl)
 refine Ct.via (fun r => ((r, s.2.erase q), !decide (q ∈ s.2))) hc (fun r hr H v hv => hv) (fun r hr => rfl) fun r hr => ⟨⟨hr, ?_⟩, rfl, rfl⟩
 have h1 := h.2; have h2 := List.length_erase_le (a := q) (l := s.2); show (s.2.erase q).length + m ≤ _; omega
theorem Qxb {s s' : RS × List Pr} {l ys : List Pr} (h : Kt Qlb s l s' ys) : s'.2 = s.2 ++ ys ∧ ∀ x, x ∈ s'.2 ↔ x ∈ s.2 ∨ x ∈ l := by
 induction h with
 | nil => exact ⟨by simp, fun x => by simp⟩
 | @snoc l ys s1 s2 q b h h2 ih =>
  obtain ⟨h3, rfl⟩ := h2
  unfold W1 at h3
  by_cases hq : q ∈ s1.2
  · rw [if_pos hq] at h3
    rw [h3]
    refine ⟨by simpa [hq] using ih.1, fun x => ?_⟩
    rw [ih.2, List.mem_append, List.mem_singleton]
    constructor
    · rintro (h | h); exact .inl h; exact .inr (.inl h)
    rintro (h | h | rfl)
    · exact .inl h
    · exact .inr h
    exact (ih.2 x).1 hq
  rw [if_neg hq] at h3
  rw [h3]
  refine ⟨by simp only [hq, decide_false, Bool.false_eq_true, if_false]; rw [ih.1, List.append_assoc], fun x => ?_⟩
  rw [List.mem_append, ih.2, List.mem_append, or_assoc]
theorem Qs4 {s s' : RS × List Pr} {l ys : List Pr} (h : Kt Qgz s l s' ys) (hn : s.2.Nodup) : s'.2.Nodup ∧ ys.Nodup ∧ (∀ x, x ∈ s'.2 ↔ x ∈ s.2 ∧ x ∉ l) ∧ ∀ x, x ∈ ys ↔ x ∈ s.2 ∧ x ∈ l := by
 induction h with
 | nil => exact ⟨hn, List.nodup_nil, fun x => by simp, fun x => by simp⟩
 | @snoc l ys s1 s2 q b h h2 ih =>
  obtain ⟨h3, rfl⟩ := h2
  obtain ⟨i1, i2, i3, i4⟩ := ih
  rw [h3]
  have hm : ∀ x, x ∈ s1.2.erase q ↔ x ∈ s.2 ∧ x ∉ l ++ [q] := fun x => by
   rw [i1.mem_erase_iff, i3, List.mem_append, List.mem_singleton, not_or]
   exact ⟨fun ⟨h, h1, h2⟩ => ⟨h1, h2, h⟩, fun ⟨h1, h2, h⟩ => ⟨h, h1, h2⟩⟩
  by_cases hq : q ∈ s1.2
  · have hql := (i3 q).1 hq
    have hqy : q ∉ ys := fun h => hql.2 ((i4 q).1 h).2
    simp only [hq, decide_true, Bool.not_true, Bool.false_eq_true, if_false]
    refine ⟨i1.erase q, List.nodup_append.2 ⟨i2, by simp, fun a ha b hb e => hqy (by rw [← (by simpa using hb : b = q), ← e]; exact ha)⟩, hm, fun x => ?_⟩
    rw [List.mem_append, List.mem_singleton, i4, List.mem_append, List.mem_singleton]
    constructor
    · rintro (⟨h1, h2⟩ | rfl)
      · exact ⟨h1, .inl h2⟩
      exact ⟨hql.1, .inr rfl⟩
    rintro ⟨h1, h2 | h2⟩
    · exact .inl ⟨h1, h2⟩
    exact .inr h2
  simp only [hq, decide_false, Bool.not_false, if_true]
  refine ⟨i1.erase q, i2, hm, fun x => ?_⟩
  rw [i4, List.mem_append, List.mem_singleton]
  constructor
  · rintro ⟨h1, h2⟩; exact ⟨h1, .inl h2⟩
  rintro ⟨h1, h2 | rfl⟩
  · exact ⟨h1, h2⟩
  exact ⟨h1, Classical.byContradiction fun hl => hq ((i3 x).2 ⟨h1, hl⟩)⟩
def arF (S : List Pr) (v b : Int) : Prop := b = v ∨ (v, b) ∈ S
def arT (S : List Pr) (v a : Int) : Prop := a = v ∨ (a, v) ∈ S
theorem Q45 {S : List Pr} {r : RS} (hr : Ze S r) {v : Int} {l : List Int} (h : l.Perm (K5 (sdB true r) v ++ [v])) (a : Int) : a ∈ l ↔ arT S v a := by
 rw [h.mem_iff, List.mem_append, List.mem_singleton, show (a ∈ K5 (sdB true r) v) = (a ∈ K5 r.t v) from rfl, Qiq hr]
 unfold arT
 exact ⟨fun h => h.elim .inr .inl, fun h => h.elim .inr .inl⟩
theorem Q46 {S : List Pr} {r : RS} (hr : Ze S r) {v : Int} {l : List Int} (h : l.Perm (K5 (sdB false r) v ++ [v])) (a : Int) : a ∈ l ↔ arF S v a := by
 rw [h.mem_iff, List.mem_append, List.mem_singleton, show (a ∈ K5 (sdB false r) v) = (a ∈ K5 r.f v) from rfl, Wj hr]
 unfold arF
 exact ⟨fun h => h.elim .inr .inl, fun h => h.elim .inr .inl⟩
theorem Qlc {S : List Pr} {r : RS} (hr : Ze S r) {b : Bool} {v : Int} {l : List Int} (h : l.Perm (K5 (sdB b r) v ++ [v])) : l.length ≤ S.length + 1 := by
 have h1 := h.length_eq
 have h2 := Qir hr (b := b) (u := v)
 rw [List.length_append, List.length_singleton] at h1; omega
theorem K9 {l : List Int} {k : Nat} (h : k < l.length) {x : Int} : x ∈ l.take (k + 1) ↔ x ∈ l.take k ∨ x = at' l (k : Int) := by
 rw [List.take_succ_eq_append_getElem h, List.mem_append, List.mem_singleton, Q1 h]
theorem Qq6 {O B1 B2 B3 : It} {X Y : List It} : (O :: B1 :: B2 :: B3 :: (X ++ Y)).Perm ((O :: B2 :: B3 :: Y) ++ (B1 :: X)) := by
 refine List.Perm.cons _ ?_
 refine List.Perm.trans ?_ List.perm_append_comm
 exact List.Perm.cons _ (Xp [B2, B3] X Y)
theorem Q3n {B1 B2 B3 : It} {X Y : List It} : Jp (B2 :: B3 :: (Y ++ (B1 :: X))) (B3 :: (X ++ Y)) := by
 refine Ww ⟨[B1], ?_⟩
 refine List.Perm.cons _ ?_
 have h : (Y ++ ([B1] ++ X)).Perm (([B1] ++ X) ++ Y) := List.perm_append_comm
 refine h.trans ?_
 rw [List.append_assoc]
 exact List.perm_append_comm
end Go.Proofs.YtklhdalppmjnaaaGreatDoor
namespace Go.Proofs.YtklhdalppmjnaaaGreatDoor
open Go Go.Gw Go.So Go.Tu Go.Jn
open Go.Dr hiding Pr
theorem Qyh {S F1 : List Pr} {F : List Pr} {a : Int} {l : List Int} {j : Nat} (hj : j < l.length) (h : ∀ x, x ∈ F1 ↔ x ∈ F ∨ (x ∉ S ∧ x.1 = a ∧ x.2 ∈ l.take j)) (hn : (a, at' l (j : Int)) ∉ S) (x : Pr) : x ∈ F1 ++ [(a, at' l (j : Int))] ↔ x ∈ F ∨ (x ∉ S ∧ x.1 = a ∧ x.2 ∈ l.take (j + 1)) := by
 rw [List.mem_append, List.mem_singleton, h, K9 hj]
 constructor
 · rintro ((h1 | ⟨h1, h2, h3⟩) | rfl)
   · exact .inl h1
   · exact .inr ⟨h1, h2, .inl h3⟩
   exact .inr ⟨hn, rfl, .inr rfl⟩
 rintro (h1 | ⟨h1, h2, h3 | h3⟩)
 · exact .inl (.inl h1)
 · exact .inl (.inr ⟨h1, h2, h3⟩)
 exact .inr (Prod.ext h2 h3)
theorem Qyi {S F1 : List Pr} {F : List Pr} {a : Int} {l : List Int} {j : Nat} (hj : j < l.length) (h : ∀ x, x ∈ F1 ↔ x ∈ F ∨ (x ∉ S ∧ x.1 = a ∧ x.2 ∈ l.take j)) (hn : (a, at' l (j : Int)) ∈ S) (x : Pr) : x ∈ F1 ↔ x ∈ F ∨ (x ∉ S ∧ x.1 = a ∧ x.2 ∈ l.take (j + 1)) := by
 rw [h, K9 hj]
 constructor
 · rintro (h1 | ⟨h1, h2, h3⟩)
   · exact .inl h1
   exact .inr ⟨h1, h2, .inl h3⟩
 rintro (h1 | ⟨h1, h2, h3 | h3⟩)
 · exact .inl h1
 · exact .inr ⟨h1, h2, h3⟩
 exact absurd (by rw [← h2, ← h3] at hn; exact hn) h1
theorem Qyj {S F F1 : List Pr} {p : Pr} {l l2 : List Int} {k : Nat} (hk : k < l.length) (h2 : ∀ b, b ∈ l2 ↔ arF S p.2 b) (h : ∀ x : Pr, x ∈ F ↔ x ∉ S ∧ x.1 ∈ l.take k ∧ arF S p.2 x.2) (h1 : ∀ x : Pr, x ∈ F1 ↔ x ∈ F ∨ (x ∉ S ∧ x.1 = at' l (k : Int) ∧ x.2 ∈ l2.take l2.length)) (x : Pr) : x ∈ F1 ↔ x ∉ S ∧ x.1 ∈ l.take (k + 1) ∧ arF S p.2 x.2 := by
 rw [h1, h, K9 hk, List.take_length, h2]
 constructor
 · rintro (⟨q1, q2, q3⟩ | ⟨q1, q2, q3⟩)
   · exact ⟨q1, .inl q2, q3⟩
   exact ⟨q1, .inr q2, q3⟩
 · rintro ⟨q1, q2 | q2, q3⟩
   · exact .inl ⟨q1, q2, q3⟩
   exact .inr ⟨q1, q2, q3⟩
/-- What insert says. -/
structure Qld (E S : List Pr) (p : Pr) (re rs : RS) (F : List Pr) : Prop where
 e : Ze (W1 E p) re
 s : Ze (S ++ F) rs
 m : ∀ x : Pr, x ∈ F ↔ x ∉ S ∧ arT S p.1 x.1 ∧ arF S p.2 x.2
theorem Qyk {E S F ys : List Pr} {p : Pr} {re : RS} {rs rs' : RS} {S' : List Pr} {l : List Int} (he : Ze (W1 E p) re) (hl : ∀ a, a ∈ l ↔ arT S p.1 a) (hF : ∀ x : Pr, x ∈ F ↔ x ∉ S ∧ x.1 ∈ l.take l.length ∧ arF S p.2 x.2) (hd : Kt Qlb (rs, S) F (rs', S') ys) (hi : Qja 0 (rs', S')) : Qld E S p re rs' ys := by
 obtain ⟨h1, h2⟩ := Qxb hd
 have h1 : S' = S ++ ys := h1
 subst h1
 refine ⟨he, hi.1, fun x => ?_⟩
 have hnd := (List.nodup_append.1 hi.1.nd)
 have h3 : x ∈ S ++ ys ↔ x ∈ S ∨ x ∈ F := h2 x
 rw [List.take_length] at hF
 constructor
 · intro hx
   have hxS : x ∉ S := fun h => hnd.2.2 x h x hx rfl
   have := ((h3.1 (List.mem_append_right _ hx)).resolve_left hxS)
   have := (hF x).1 this
   exact ⟨hxS, (hl _).1 this.2.1, this.2.2⟩
 · rintro ⟨hxS, ha, hb⟩
   have := h3.2 (.inr ((hF x).2 ⟨hxS, (hl _).2 ha, hb⟩))
   exact (List.mem_append.1 this).resolve_left hxS

/-- (*rhizome/dred.Dred).insert -/
theorem Qpw (d : DO) (n : Int) (re rs : RS) (E S : List Pr) (p : Pr) (he : Ze E re) (hs : Ze S rs) (hSi : ∀ x ∈ S, inP x) (hEl : E.length ≤ 100000) (hSl : S.length ≤ 10000) : Ct Tryz.prog 195 [IsV (pt d.g 0), kPP.T p] (DrI d n re rs) (RS × RS × List Pr) (fun q => SlT kPP q.2.2) (fun q => DrI d n q.1 q.2.1) (fun q => Qld E S p q.1 q.2.1 q.2.2) := by
 refine Qn Tryz.func195 rfl rfl ?_
 intro H w
 refine Q4 (List.Perm.refl (Qb d.g 106 kDr (dV d n) :: (Xc d.e re ++ Xc d.s rs))) (sq (rg (oA (Xf (d := Q3) (OT.raw oz rfl)) pR rfl rfl (fun g0_0 _ => ?_))))
 refine oA (Xf (d := kPP) oz) pR rfl rfl (fun g0_1 _ => ?_)
 refine ak rfl (tn (nn (sq ?_)))
 apply Xs (m := 5) (ns := [[(2, none)], [(10, some 0)], [(11, some 1)], [(12, some 2)], [(3, none)]]) (by kernel_rfl) (by kernel_rfl) (Ts := [_, _, _, _, _]) rfl
 case hops =>
  exact ⟨rP (X9 oz (mA 1 rfl) ybp), rP (Qe oz), rP (pf oz y8k), rP (Ql oz (mA 2 rfl) ld1 ygw), rP (plv oz (mA 0 rfl) y6q), trivial⟩
 case h =>
  refine Qcx [_, _, _] (Xc d.s rs) rfl (aC (Qfa d.e re E p he (by omega)) yrq (oc oz (oc oz oN)) (Xp [_, _, _] (Xc d.e re) (Xc d.s rs))) rfl rfl fun re2 hre2 => (tn (nn (sq (rg (ak rfl (tn (Xg 109 kPP (nn (sq (sq ?_))))))))))
  apply Yg (ρ := Value × List Int) (φ := fun rr => rr.2.Perm (K5 (sdB true rs) p.1 ++ [p.1])) (p := 9) (Lf := fun c rr => cond c (Qh 3 kI rr.1 rr.2 :: Qh 109 kPP Qo ([] : List Pr) :: Qb g0_1 109 kPP p :: Qb g0_0 75 Q3 (pt d.g 0) :: Qb d.g 106 kDr (dV d n) :: (Xc d.e re2 ++ Xc d.s rs)) (Qh 109 kPP Qo ([] : List Pr) :: Qb g0_1 109 kPP p :: Qb g0_0 75 Q3 (pt d.g 0) :: Qb d.g 106 kDr (dV d n) :: (Xc d.e re2 ++ Xc d.s rs))) (Qo, []) (by kernel_rfl) (m := 12) (ns := [[(3, none)], [(16, some 0)], [(2, none)], [(18, some 2)], [(19, some 3)], [(20, some 4)], [(21, some 5)], [(22, some 6)], [(23, some 7)], [(17, some 1), (24, some 8)], [(25, some 9)], []]) (by kernel_rfl) (by kernel_rfl) (Ts := fun rr => [_, _, _, _, _, _, _, _, _, IsV rr.1, I64 (rr.2.length : Int), _]) (fun _ => rfl)
  case hops =>
   refine ⟨?_, ?_, ?_, ?_, ?_, ?_, ?_, ?_, ?_, ?_, ?_, ?_, trivial⟩
   · exact ⟨cBf (by kernel_rfl) fun r _ => rgo r rfl ⟨rfl, trivial⟩ (rP (Zj oz (mA 1 rfl) Tryz.underlying109 ynm)), fun _ _ _ _ => rfl⟩
   · exact ⟨cBf (by kernel_rfl) fun r _ => rgo r rfl ⟨rfl, trivial⟩ (rP (Z7 oz (mA 1 rfl) ynm)), fun _ _ _ _ => rfl⟩
   · exact ⟨cBf (by kernel_rfl) fun r _ => rgo r rfl ⟨rfl, trivial⟩ (rP (X9 oz (mA 2 rfl) ybp)), fun _ _ _ _ => rfl⟩
   · exact ⟨cBf (by kernel_rfl) fun r _ => rgo r rfl ⟨rfl, trivial⟩ (rP (Qe oz)), fun _ _ _ _ => rfl⟩
   · exact ⟨cBf (by kernel_rfl) fun r _ => rgo r rfl ⟨rfl, trivial⟩ (rP (pf oz yn3)), fun _ _ _ _ => rfl⟩
   · exact ⟨cBf (by kernel_rfl) fun r _ => rgo r rfl ⟨rfl, trivial⟩ (rP (Ql oz (mA 3 rfl) ld2 ygw)), fun _ _ _ _ => rfl⟩
   · exact ⟨cBf (by kernel_rfl) fun r _ => rgo r rfl ⟨rfl, trivial⟩ (rP (Qe oz)), fun _ _ _ _ => rfl⟩
   · exact ⟨cBf (by kernel_rfl) fun r _ => rgo r rfl ⟨rfl, trivial⟩ (rP (pf oz ysc)), fun _ _ _ _ => rfl⟩
   · exact ⟨cBf (by kernel_rfl) fun r _ => rgo r rfl ⟨rfl, trivial⟩ (rP (Ql oz (List.mem_cons_of_mem _ (List.mem_cons_of_mem _ (List.mem_cons_of_mem _ (List.mem_cons_of_mem _ (List.mem_append_right _ List.mem_cons_self))))) Qww yue)), fun _ _ _ _ => rfl⟩
   · refine ⟨?_, ?_⟩
     · exact cBf (by kernel_rfl) fun r _ => Zg rfl (aC (Qc1 d.s rs S true p.1 hs hSi (by omega)) y0b (oc oz (oc oz oN)) (Z2 (X := [_, _, _, _]) (Y := Xc d.e re2))) (Z2 (X := [_, _, _, _]) (Y := Xc d.e re2)) (fun r => (List.Perm.cons _ (Z2 (X := [_, _, _, _]) (Y := Xc d.e re2)).symm)) (fun _ h _ => h) (fun _ _ _ _ h => h)
     exact fun _ h => absurd h (by decide)
   · refine ⟨?_, ?_⟩
     · exact cBt (by kernel_rfl) fun r _ => rgo r rfl ⟨rfl, trivial⟩ (rP (Xr oz (mA 0 rfl) Tryz.underlying50))
     exact fun h => Bool.noConfusion (h.symm.trans (by kernel_rfl : Jl _ _ _ _ = false))
   exact ⟨by intro c r hc; cases c <;> exact rgo r rfl ⟨rfl, trivial⟩ (rP (Qm ot)), fun _ _ _ _ => rfl⟩
  case h =>
   intro q hq
   refine tn ?_
   have hql := Qlc hs hq
   have hqm := Q45 hs hq
   refine Xh (Qq 0 rfl) 25 oz (nn (tb (Qt (σ := Nat × Value × List Pr) (e4 2 3 25 26 rfl en) (fun s => [(27, I64 (s.1 : Int)), (5, IsV s.2.1)]) (fun s => Qh 109 kPP s.2.1 s.2.2 :: Qb g0_1 109 kPP p :: Qb g0_0 75 Q3 (pt d.g 0) :: Qb d.g 106 kDr (dV d n) :: (Xc d.e re2 ++ Xc d.s rs)) (fun s => s.1 ≤ q.2.length ∧ (∀ x : Pr, x ∈ s.2.2 ↔ x ∉ S ∧ x.1 ∈ q.2.take s.1 ∧ arF S p.2 x.2) ∧ s.2.2.length ≤ s.1 * 10001) (fun s => q.2.length - s.1) (0, Qo, []) ⟨Nat.zero_le _, fun x => by simp, Nat.zero_le _⟩ ?_ (op pl) ?_)))
   · exact (e2 27 5 rfl en)
   rintro ⟨k, u, F⟩ ⟨hkl, hF, hFl⟩
   dsimp only at hkl hF hFl ⊢
   refine sq (rg (oP (Q5 oz oz) rfl (tn (nn (sq (tc oz (fun c28 => ?_) (fun c28 => ?_)))))))
   · refine sk (nn (sq (tb (sq ?_))))
     have hk : k < q.2.length := by simp only [decide_eq_true_eq] at c28; omega
     obtain ⟨a, ha⟩ : ∃ a, at' q.2 (k : Int) = a := ⟨_, rfl⟩
     refine rg (oP (Qj oz oz Tryz.underlying50 ynm (by omega) (by omega)) rfl (oP (pL oz ynm) rfl (av rfl rfl (tn ?_))))
     rw [ha]
     refine nn (sq ?_)
     apply Yg (ρ := Value × List Int) (φ := fun rr => rr.2.Perm (K5 (sdB false rs) p.2 ++ [p.2])) (p := 9) (Lf := fun c rr => cond c (Qh 3 kI rr.1 rr.2 :: Qh 109 kPP u F :: Qb g0_1 109 kPP p :: Qb g0_0 75 Q3 (pt d.g 0) :: Qb d.g 106 kDr (dV d n) :: (Xc d.e re2 ++ Xc d.s rs)) (Qh 109 kPP u F :: Qb g0_1 109 kPP p :: Qb g0_0 75 Q3 (pt d.g 0) :: Qb d.g 106 kDr (dV d n) :: (Xc d.e re2 ++ Xc d.s rs))) (Qo, []) (by kernel_rfl) (m := 12) (ns := [[(3, none)], [(31, some 0)], [(2, none)], [(33, some 2)], [(34, some 3)], [(35, some 4)], [(36, some 5)], [(37, some 6)], [(38, some 7)], [(32, some 1), (39, some 8)], [(40, some 9)], []]) (by kernel_rfl) (by kernel_rfl) (Ts := fun rr => [_, _, _, _, _, _, _, _, _, IsV rr.1, I64 (rr.2.length : Int), _]) (fun _ => rfl)
     case hops =>
      refine ⟨?_, ?_, ?_, ?_, ?_, ?_, ?_, ?_, ?_, ?_, ?_, ?_, trivial⟩
      · exact ⟨cBf (by kernel_rfl) fun r _ => rgo r rfl ⟨rfl, trivial⟩ (rP (Zk oz (mA 1 rfl) Tryz.underlying109 ynm)), fun _ _ _ _ => rfl⟩
      · exact ⟨cBf (by kernel_rfl) fun r _ => rgo r rfl ⟨rfl, trivial⟩ (rP (Z8 oz (mA 1 rfl) ynm)), fun _ _ _ _ => rfl⟩
      · exact ⟨cBf (by kernel_rfl) fun r _ => rgo r rfl ⟨rfl, trivial⟩ (rP (X9 oz (mA 2 rfl) ybp)), fun _ _ _ _ => rfl⟩
      · exact ⟨cBf (by kernel_rfl) fun r _ => rgo r rfl ⟨rfl, trivial⟩ (rP (Qe oz)), fun _ _ _ _ => rfl⟩
      · exact ⟨cBf (by kernel_rfl) fun r _ => rgo r rfl ⟨rfl, trivial⟩ (rP (pf oz yn3)), fun _ _ _ _ => rfl⟩
      · exact ⟨cBf (by kernel_rfl) fun r _ => rgo r rfl ⟨rfl, trivial⟩ (rP (Ql oz (mA 3 rfl) ld2 ygw)), fun _ _ _ _ => rfl⟩
      · exact ⟨cBf (by kernel_rfl) fun r _ => rgo r rfl ⟨rfl, trivial⟩ (rP (Qe oz)), fun _ _ _ _ => rfl⟩
      · exact ⟨cBf (by kernel_rfl) fun r _ => rgo r rfl ⟨rfl, trivial⟩ (rP (pf oz y1e)), fun _ _ _ _ => rfl⟩
      · exact ⟨cBf (by kernel_rfl) fun r _ => rgo r rfl ⟨rfl, trivial⟩ (rP (Ql oz (List.mem_cons_of_mem _ (List.mem_cons_of_mem _ (List.mem_cons_of_mem _ (List.mem_cons_of_mem _ (List.mem_append_right _ List.mem_cons_self))))) Qnd yue)), fun _ _ _ _ => rfl⟩
      · refine ⟨?_, ?_⟩
        · exact cBf (by kernel_rfl) fun r _ => Zg rfl (aC (Qc1 d.s rs S false p.2 hs hSi (by omega)) y0b (oc oz (oc oz oN)) (Z2 (X := [_, _, _, _]) (Y := Xc d.e re2))) (Z2 (X := [_, _, _, _]) (Y := Xc d.e re2)) (fun r => (List.Perm.cons _ (Z2 (X := [_, _, _, _]) (Y := Xc d.e re2)).symm)) (fun _ h _ => h) (fun _ _ _ _ h => h)
        exact fun _ h => absurd h (by decide)
      · refine ⟨?_, ?_⟩
        · exact cBt (by kernel_rfl) fun r _ => rgo r rfl ⟨rfl, trivial⟩ (rP (Xr oz (mA 0 rfl) Tryz.underlying50))
        exact fun h => Bool.noConfusion (h.symm.trans (by kernel_rfl : Jl _ _ _ _ = false))
      exact ⟨by intro c r hc; cases c <;> exact rgo r rfl ⟨rfl, trivial⟩ (rP (Qm ot)), fun _ _ _ _ => rfl⟩
     case h =>
      intro q2 hq2
      refine tn ?_
      have hql2 := Qlc hs hq2
      have hqm2 := Q46 hs hq2
      refine Xh (Qq 0 rfl) 40 oz (nn (tb (Qt (σ := Nat × Value × List Pr) (e8 2 3 7 25 26 27 40 41 rfl en) (fun s => [(42, I64 (s.1 : Int)), (5, IsV s.2.1)]) (fun s => Qh 109 kPP s.2.1 s.2.2 :: Qb g0_1 109 kPP p :: Qb g0_0 75 Q3 (pt d.g 0) :: Qb d.g 106 kDr (dV d n) :: (Xc d.e re2 ++ Xc d.s rs)) (fun s => s.1 ≤ q2.2.length ∧ (∀ x : Pr, x ∈ s.2.2 ↔ x ∈ F ∨ (x ∉ S ∧ x.1 = a ∧ x.2 ∈ q2.2.take s.1)) ∧ s.2.2.length ≤ F.length + s.1) (fun s => q2.2.length - s.1) (0, u, F) ⟨Nat.zero_le _, fun x => by simp, Nat.le_refl _⟩ ?_ (op pl) ?_)))
      · exact (e2 42 5 rfl en)
      rintro ⟨j, u1, F1⟩ ⟨hjl, hF1, hFl1⟩
      dsimp only at hjl hF1 hFl1 ⊢
      refine sq (rg (oP (Q5 oz oz) rfl (tn (nn (sq (tc oz (fun c43 => ?_) (fun c43 => ?_)))))))
      · refine sk (nn (sq (tb (sq ?_))))
        have hj : j < q2.2.length := by simp only [decide_eq_true_eq] at c43; omega
        obtain ⟨b, hb⟩ : ∃ b, at' q2.2 (j : Int) = b := ⟨_, rfl⟩
        have hmul : (k + 1) * 10001 ≤ 100020001 := by omega
        refine rg (oP (Qj oz oz Tryz.underlying50 ynm (by omega) (by omega)) rfl (oP (pL oz ynm) rfl (av rfl rfl (tn ?_))))
        rw [hb]
        refine nn (sq (rg (oP (X9 oz (mA 2 rfl) ybp) rfl (oP (Qe oz) rfl (oP (pf oz yn3) rfl (oP (Ql oz (mA 3 rfl) ld2 ygw) rfl (mv rfl rfl (mv rfl rfl (oP (Xt (d := kPP) (v0 := (0, 0)) (agg := false) Tryz.underlying109 ynm zPr rfl (Qk rfl Qf.p0 oz (Qk rfl Qf.p1 oz Qc))) rfl (Qdp [_, _, _, _] (Xc d.e re2) rfl (aC (Qbd d.s rs (a, b)) ylx (oc oz (oc oz oN)) (Z2 (X := [_, _, _, _]) (Y := (Xc d.e re2)))) rfl rfl fun _ _ => (oP (Zf oz) rfl (tn (nn (tc oz (fun c54 => ?_) (fun c54 => ?_)))))))))))))))
        · have hnS : (a, b) ∉ S := fun h => by rw [hs.f, decide_eq_true h] at c54; cases c54
          rw [← hb] at hnS
          have hst := Qyh hj hF1 hnS
          rw [hb] at hst
          refine rg (mv rfl rfl (mv rfl rfl (mv rfl rfl (oP (Xt (d := kPP) (v0 := (0, 0)) (agg := false) Tryz.underlying109 ynm zPr rfl (Qk rfl Qf.p0 oz (Qk rfl Qf.p1 oz Qc))) rfl (oA (Q7 (d := kPP) (v0 := (0, 0)) y3h y6q zPr (show 1 * 2 ≤ 16777216 from by decide) (by decide) (Qv rfl rfl (by decide) oz Qc)) pR rfl rfl (fun _ _ => ?_))))))
          refine oA (Q0 oz (pA 0 rfl) oz y3h (by (simp; omega)) (by (simp [maxLen]; omega))) (pA 0 rfl) rfl rfl (fun v10_5 _ => ?_)
          refine av rfl rfl (tn (bn (nn (rg (oP (pad oz ot (by omega)) rfl (mv rfl rfl (tn (nn ?_))))))))
          exact tg (j + 1, v10_5, F1 ++ [(a, b)]) ⟨hj, hst, (by show (F1 ++ [(a, b)]).length ≤ F.length + (j + 1); rw [List.length_append, List.length_singleton]; omega)⟩ (by show q2.2.length - (j + 1) < q2.2.length - j; omega) ef (op pl)
        have hnS : (a, b) ∈ S := Classical.byContradiction fun h => by rw [hs.f, decide_eq_false h] at c54; cases c54
        rw [← hb] at hnS
        have hst := Qyi hj hF1 hnS
        refine sk (bn (nn (rg (oP (pad oz ot (by omega)) rfl (mv rfl rfl (tn (nn ?_)))))))
        exact tg (j + 1, u1, F1) ⟨hj, hst, (by show F1.length ≤ F.length + (j + 1); omega)⟩ (by show q2.2.length - (j + 1) < q2.2.length - j; omega) ef (op pl)
      refine Qx (tx (tx (bh (bn (nn ?_)))))
      obtain rfl : j = q2.2.length := by simp only [decide_eq_false_iff_not] at c43; omega
      rw [← ha] at hF1
      have hst := Qyj hk hqm2 hF hF1
      refine rg (oP (pad oz ot (by omega)) rfl (mv rfl rfl (tn (nn ?_))))
      exact tg (k + 1, u1, F1) ⟨hk, hst, (by show F1.length ≤ (k + 1) * 10001; omega)⟩ (by show q.2.length - (k + 1) < q.2.length - k; omega) ef (op pl)
   refine Qx (tx (tx (bh (nn (sq ?_)))))
   obtain rfl : k = q.2.length := by simp only [decide_eq_false_iff_not] at c28; omega
   have hFl2 : F.length ≤ 100020001 := by omega
   have hF9 : F.length ≤ 100000000000 := by omega
   have hv0 : Qja F.length (rs, S) := ⟨hs, by show S.length + F.length ≤ _; omega⟩
   refine rg (mv rfl rfl (oP (Vc (Ws oz Qbv)) rfl (oA (aC (Qi1 (JdR d n g0_0) Qja Qlb _ u F (rs, S) hF9 hv0 (Qxa d n g0_0)) yzl (oc oz (oc oz oN)) Qq6) Qq6 rfl rfl fun q3 hq3 => (av rfl rfl (tn ?_)))))
   have hsay := Qyk hre2 hqm hF hq3.1 hq3.2.1
   exact Xh (Qq 0 rfl) 4 oz (nn (tR (Qi .ret (.inl rfl) rfl (re2, q3.2.2.1, q3.2.1) oz hsay Q3n)))
end Go.Proofs.YtklhdalppmjnaaaGreatDoor
namespace Go.Proofs.YtklhdalppmjnaaaGreatDoor
open Go Go.Gw Go.So Go.Tu Go.Jn Go.MapKept
open Go.Dr hiding Pr
theorem Q3o {X1 X2 : List Pr} {a : Int} {l : List Int} {j : Nat} (hj : j < l.length) (h : ∀ x : Pr, x ∈ X2 ↔ x ∈ X1 ∨ (x.1 = a ∧ x.2 ∈ l.take j)) (x : Pr) : x ∈ X2 ++ [(a, at' l (j : Int))] ↔ x ∈ X1 ∨ (x.1 = a ∧ x.2 ∈ l.take (j + 1)) := by
 rw [List.mem_append, List.mem_singleton, h, K9 hj]
 constructor
 · rintro ((h1 | ⟨h2, h3⟩) | rfl)
   · exact .inl h1
   · exact .inr ⟨h2, .inl h3⟩
   exact .inr ⟨rfl, .inr rfl⟩
 rintro (h1 | ⟨h2, h3 | h3⟩)
 · exact .inl (.inl h1)
 · exact .inl (.inr ⟨h2, h3⟩)
 exact .inr (Prod.ext h2 h3)
theorem Q3p {S X X1 X2 : List Pr} {p : Pr} {l l2 : List Int} {i : Nat} (hi : i < l.length) (h2 : ∀ b, b ∈ l2 ↔ arF S p.2 b) (h1 : ∀ x : Pr, x ∈ X1 ↔ x ∈ X ∨ (x.1 ∈ l.take i ∧ arF S p.2 x.2)) (h : ∀ x : Pr, x ∈ X2 ↔ x ∈ X1 ∨ (x.1 = at' l (i : Int) ∧ x.2 ∈ l2.take l2.length)) (x : Pr) : x ∈ X2 ↔ x ∈ X ∨ (x.1 ∈ l.take (i + 1) ∧ arF S p.2 x.2) := by
 rw [h, h1, K9 hi, List.take_length, h2]
 constructor
 · rintro ((q | ⟨q1, q2⟩) | ⟨q1, q2⟩)
   · exact .inl q
   · exact .inr ⟨.inl q1, q2⟩
   exact .inr ⟨.inr q1, q2⟩
 rintro (q | ⟨q1 | q1, q2⟩)
 · exact .inl (.inl q)
 · exact .inl (.inr ⟨q1, q2⟩)
 exact .inr ⟨q1, q2⟩
def Qs5 (S l : List Pr) (x : Pr) : Prop := ∃ p ∈ l, arT S p.1 x.1 ∧ arF S p.2 x.2
theorem Q3q {S X X1 l : List Pr} {la : List Int} {k : Nat} (hk : k < l.length) (ha : ∀ a, a ∈ la ↔ arT S (at' l (k : Int)).1 a) (h0 : ∀ x : Pr, x ∈ X ↔ Qs5 S (l.take k) x) (h : ∀ x : Pr, x ∈ X1 ↔ x ∈ X ∨ (x.1 ∈ la.take la.length ∧ arF S (at' l (k : Int)).2 x.2)) (x : Pr) : x ∈ X1 ↔ Qs5 S (l.take (k + 1)) x := by
 rw [h, h0, List.take_length, ha]
 unfold Qs5
 rw [List.take_succ_eq_append_getElem hk, Q1 hk]
 constructor
 · rintro (⟨p, hp, q⟩ | q)
   · exact ⟨p, List.mem_append_left _ hp, q⟩
   exact ⟨l[k], List.mem_append_right _ (by simp), q⟩
 rintro ⟨p, hp, q⟩
 rcases List.mem_append.1 hp with hp | hp
 · exact .inl ⟨p, hp, q⟩
 rw [List.mem_singleton.1 hp] at q; exact .inr q
theorem Q47 {E Ek l : List Pr} {k : Nat} (hk : k < l.length) (hn : Ek.Nodup) (h : ∀ x, x ∈ Ek ↔ x ∈ E ∧ x ∉ l.take k) (x : Pr) : x ∈ Ek.erase (at' l (k : Int)) ↔ x ∈ E ∧ x ∉ l.take (k + 1) := by
 rw [hn.mem_erase_iff, h, List.take_succ_eq_append_getElem hk, List.mem_append, List.mem_singleton, Q1 hk, not_or]
 exact ⟨fun ⟨a, b, c⟩ => ⟨b, c, a⟩, fun ⟨b, c, a⟩ => ⟨a, b, c⟩⟩
structure Qjx (S E' S' G : List Pr) (r : RS) : Prop where
 s : Ze S' r
 t : ∀ x ∈ S', TC E' x.1 x.2
 p : ∀ x, x ∈ S ↔ x ∈ S' ∨ x ∈ G
 n : G.Nodup
 d : ∀ x ∈ G, x ∉ S'
theorem Q2m {S E : List Pr} (h : ∀ a b, (a, b) ∈ S ↔ TC E a b) (v a : Int) : arT S v a ↔ RT E a v := by
 unfold arT RT
 rw [h]
 exact ⟨fun q => q.imp Eq.symm id, fun q => q.imp Eq.symm id⟩
theorem Q2n {S E : List Pr} (h : ∀ a b, (a, b) ∈ S ↔ TC E a b) (v b : Int) : arF S v b ↔ RT E v b := by
 unfold arF RT
 rw [h]
theorem Qnl {S E E' X l ys S0 : List Pr} {rs rs0 : RS} (h : ∀ a b, (a, b) ∈ S ↔ TC E a b) (hn : S.Nodup) (he : ∀ x, x ∈ E' ↔ x ∈ E ∧ x ∉ l) (hX : ∀ x : Pr, x ∈ X ↔ Qs5 S l x) (hd : Kt Qgz (rs, S) X (rs0, S0) ys) (hi : Qja 0 (rs0, S0)) : Qjx S E' S0 ys rs0 := by
 obtain ⟨h1, h2, h3, h4⟩ := Qs4 hd hn
 have h3 : ∀ x, x ∈ S0 ↔ x ∈ S ∧ x ∉ X := h3
 have h4 : ∀ x, x ∈ ys ↔ x ∈ S ∧ x ∈ X := h4
 refine ⟨hi.1, fun x hx => ?_, fun x => ?_, h2, fun x hx hs => ((h3 x).1 hs).2 ((h4 x).1 hx).2⟩
 · obtain ⟨q1, q2⟩ := (h3 x).1 hx
   refine Q0x (E := E) (l := l) he ((h x.1 x.2).1 q1) fun ⟨p, hp, q3, q4⟩ => q2 ((hX x).2 ⟨p, hp, (Q2m h _ _).2 q3, (Q2n h _ _).2 q4⟩)
 rw [h3, h4]
 exact ⟨fun hs => (Classical.em (x ∈ X)).elim (fun q => .inr ⟨hs, q⟩) fun q => .inl ⟨hs, q⟩, fun q => q.elim And.left And.left⟩
theorem Qq7 {G : List Pr} {j : Nat} (hj : j < G.length) (hn : G.Nodup) (x : Pr) : x ∈ G.take j ++ G.drop (j + 1) ↔ x ∈ G ∧ x ≠ at' G (j : Int) := by
 have h1 : G.take j ++ G.drop (j + 1) = G.eraseIdx j := (List.eraseIdx_eq_take_drop_succ G j).symm
 have h2 : G.eraseIdx j = G.erase G[j] := by
  rw [List.erase_eq_eraseIdx_of_idxOf]
  exact (List.Nodup.idxOf_getElem hn j hj)
 rw [h1, h2, hn.mem_erase_iff, Q1 hj]
 exact And.comm
theorem Qpi {S E' S' G : List Pr} {r r2 : RS} {j : Nat} (h : Qjx S E' S' G r) (hj : j < G.length) (hd : dvB E' S' (at' G (j : Int)) = true) (hr : Ze (W1 S' (at' G (j : Int))) r2) : Qjx S E' (W1 S' (at' G (j : Int))) (G.take j ++ G.drop (j + 1)) r2 := by
 have hq : at' G (j : Int) ∈ G := at_mem hj
 have hqS : at' G (j : Int) ∉ S' := h.d _ hq
 have hm : ∀ x, x ∈ W1 S' (at' G (j : Int)) ↔ x ∈ S' ∨ x = at' G (j : Int) := fun x => by unfold W1; rw [if_neg hqS]; simp
 refine ⟨hr, fun x hx => ?_, fun x => ?_, ?_, fun x hx hs => ?_⟩
 · rcases (hm x).1 hx with h1 | rfl
   · exact h.t x h1
   exact (Qgy.1 hd).tc fun a b hab => h.t _ hab
 · rw [h.p, hm, Qq7 hj h.n]
   constructor
   · rintro (q | q)
     · exact .inl (.inl q)
     exact (Classical.em (x = at' G (j : Int))).elim (fun e => .inl (.inr e)) fun e => .inr ⟨q, e⟩
   rintro ((q | rfl) | q)
   · exact .inl q
   · exact .inr hq
   exact .inr q.1
 · rw [← List.eraseIdx_eq_take_drop_succ]; exact h.n.eraseIdx j
 obtain ⟨q1, q2⟩ := (Qq7 hj h.n x).1 hx
 exact ((hm x).1 hs).elim (h.d x q1) q2
structure Qg0 (E S l : List Pr) (re rs : RS) (E' S' G : List Pr) : Prop where
 e : Ze E' re
 em : ∀ x, x ∈ E' ↔ x ∈ E ∧ x ∉ l
 s : Ze S' rs
 sm : ∀ a b, (a, b) ∈ S' ↔ TC E' a b
 g : ∀ x, x ∈ G ↔ x ∈ S ∧ x ∉ S'
 gn : G.Nodup
theorem Qxc {S E E' S' G l : List Pr} {re rs : RS} (h : ∀ a b, (a, b) ∈ S ↔ TC E a b) (he : ∀ x, x ∈ E' ↔ x ∈ E ∧ x ∉ l) (hre : Ze E' re) (ha : Qjx S E' S' G rs) (hd : ∀ x ∈ G.take G.length, dvB E' S' x = false) : Qg0 E S l re rs E' S' G := by
 rw [List.take_length] at hd
 refine ⟨hre, he, ha.s, fun a b => ?_, fun x => ?_, ha.n⟩
 · refine Q0w (E := E) (l := l) he (fun a b hab => ha.t _ hab) fun a b hab => ?_
   rcases (ha.p (a, b)).1 ((h a b).2 hab) with q | q
   · exact .inl q
   refine .inr fun hv => ?_
   have := hd _ q
   rw [Qgy.2 hv] at this; cases this
 rw [ha.p]
 exact ⟨fun q => ⟨.inr q, ha.d x q⟩, fun ⟨q, q2⟩ => q.resolve_left q2⟩
theorem Q04 {E' S' G : List Pr} {j : Nat} (hj : j < G.length) (h : ∀ x ∈ G.take j, dvB E' S' x = false) (hn : dvB E' S' (at' G (j : Int)) = false) : ∀ x ∈ G.take (j + 1), dvB E' S' x = false := fun x hx => by
 rw [List.take_succ_eq_append_getElem hj, List.mem_append, List.mem_singleton] at hx
 rw [Q1 hj] at hn
 rcases hx with hx | rfl
 · exact h x hx
 exact hn
theorem Qis {O B2 B3 : It} {X Y : List It} : (O :: B2 :: B3 :: (X ++ Y)).Perm ((O :: B2 :: B3 :: Y) ++ X) := ((List.perm_append_comm.cons _).cons _).cons _
theorem Qjy {S E' S' G : List Pr} {r : RS} (h : Qjx S E' S' G r) : G.length ≤ S.length ∧ S'.length ≤ S.length := ⟨Yw h.n fun x hx => (h.p x).2 (.inr hx), Yw h.s.nd fun x hx => (h.p x).2 (.inl hx)⟩
end Go.Proofs.YtklhdalppmjnaaaGreatDoor
namespace Go.Proofs.YtklhdalppmjnaaaGreatDoor
open Go Go.Gw Go.So Go.Tu Go.Jn
open Go.Dr hiding Pr

/-- (*rhizome/dred.Dred).remove -/
theorem Qpx (d : DO) (n : Int) (re rs : RS) (E S l : List Pr) (he : Ze E re) (hs : Ze S rs) (hSi : ∀ x ∈ S, inP x) (hSE : ∀ a b, (a, b) ∈ S ↔ TC E a b) (hEl : E.length ≤ 100000) (hSl : S.length ≤ 10000) (hll : l.length ≤ 100) : Ct Tryz.prog 194 [IsV (pt d.g 0), SlT kPP l] (DrI d n re rs) (Int × RS × RS × List Pr × List Pr × List Pr) (fun q => SlT kPP q.2.2.2.2.2) (fun q => DrI d q.1 q.2.1 q.2.2.1) (fun q => Qg0 E S l q.2.1 q.2.2.1 q.2.2.2.1 q.2.2.2.2.1 q.2.2.2.2.2) := by
 refine Qn Tryz.func194 rfl rfl ?_
 intro H w
 refine Q4 (List.Perm.refl (Qb d.g 106 kDr (dV d n) :: (Xc d.e re ++ Xc d.s rs))) (sq (rg (oA (Xf (d := Q3) (OT.raw oz rfl)) pR rfl rfl (fun g0_0 _ => ?_))))
 refine ak rfl (tn (nn (Quo (sq (rg (ak rfl (tn (Xg 109 kPP (nn (sq (sq (rg (mv rfl rfl (oP (pls oz Tryz.underlying273) rfl (oP (Qm ot) rfl (tn (nn (tb (Qt (σ := Nat × Value × List Pr) (e4 1 2 17 18 rfl en) (fun s => [(19, I64 (s.1 : Int)), (5, IsV s.2.1)]) (fun s => Qh 109 kPP s.2.1 s.2.2 :: Qb g0_0 75 Q3 (pt d.g 0) :: Qb d.g 106 kDr (dV d n) :: (Xc d.e re ++ Xc d.s rs)) (fun s => s.1 ≤ l.length ∧ (∀ x : Pr, x ∈ s.2.2 ↔ Qs5 S (l.take s.1) x) ∧ s.2.2.length ≤ s.1 * 100020001) (fun s => l.length - s.1) (0, Qo, []) ⟨Nat.zero_le _, fun x => by simp [Qs5], Nat.zero_le _⟩ ?_ (op pl) ?_)))))))))))))))))))
 · exact (e2 19 5 rfl en)
 rintro ⟨k, u, X⟩ ⟨hkl, hX, hXl⟩
 dsimp only at hkl hX hXl ⊢
 refine sq (rg (oP (Q5 oz oz) rfl (tn (nn (sq (tc oz (fun c20 => ?_) (fun c20 => ?_)))))))
 · refine sk (nn (sq (tb (sq ?_))))
   have hk : k < l.length := by simp only [decide_eq_true_eq] at c20; omega
   obtain ⟨p, hp⟩ : ∃ p, at' l (k : Int) = p := ⟨_, rfl⟩
   refine rg (oP (Qj oz oz Tryz.underlying273 y6q (by omega) (by omega)) rfl (oP (pL oz y6q) rfl (oA (Qz (zPr)) pR rfl rfl (fun g4_2 _ => ?_))))
   refine oA (asv oz oz (pA 0 rfl) y6q) (pA 0 rfl) rfl rfl (fun _ _ => ?_)
   refine tn ?_
   rw [hp]
   refine nn (sq ?_)
   apply Yg (ρ := Value × List Int) (φ := fun rr => rr.2.Perm (K5 (sdB true rs) p.1 ++ [p.1])) (p := 9) (Lf := fun c rr => cond c (Qh 3 kI rr.1 rr.2 :: Qb g4_2 109 kPP p :: Qh 109 kPP u X :: Qb g0_0 75 Q3 (pt d.g 0) :: Qb d.g 106 kDr (dV d n) :: (Xc d.e re ++ Xc d.s rs)) (Qb g4_2 109 kPP p :: Qh 109 kPP u X :: Qb g0_0 75 Q3 (pt d.g 0) :: Qb d.g 106 kDr (dV d n) :: (Xc d.e re ++ Xc d.s rs))) (Qo, []) (by kernel_rfl) (m := 12) (ns := [[(7, none)], [(23, some 0)], [(2, none)], [(25, some 2)], [(26, some 3)], [(27, some 4)], [(28, some 5)], [(29, some 6)], [(30, some 7)], [(24, some 1), (31, some 8)], [(32, some 9)], []]) (by kernel_rfl) (by kernel_rfl) (Ts := fun rr => [_, _, _, _, _, _, _, _, _, IsV rr.1, I64 (rr.2.length : Int), _]) (fun _ => rfl)
   case hops =>
    refine ⟨?_, ?_, ?_, ?_, ?_, ?_, ?_, ?_, ?_, ?_, ?_, ?_, trivial⟩
    · exact ⟨cBf (by kernel_rfl) fun r _ => rgo r rfl ⟨rfl, trivial⟩ (rP (Zj oz (mA 0 rfl) Tryz.underlying109 ynm)), fun _ _ _ _ => rfl⟩
    · exact ⟨cBf (by kernel_rfl) fun r _ => rgo r rfl ⟨rfl, trivial⟩ (rP (Z7 oz (mA 0 rfl) ynm)), fun _ _ _ _ => rfl⟩
    · exact ⟨cBf (by kernel_rfl) fun r _ => rgo r rfl ⟨rfl, trivial⟩ (rP (X9 oz (mA 2 rfl) ybp)), fun _ _ _ _ => rfl⟩
    · exact ⟨cBf (by kernel_rfl) fun r _ => rgo r rfl ⟨rfl, trivial⟩ (rP (Qe oz)), fun _ _ _ _ => rfl⟩
    · exact ⟨cBf (by kernel_rfl) fun r _ => rgo r rfl ⟨rfl, trivial⟩ (rP (pf oz yn3)), fun _ _ _ _ => rfl⟩
    · exact ⟨cBf (by kernel_rfl) fun r _ => rgo r rfl ⟨rfl, trivial⟩ (rP (Ql oz (mA 3 rfl) ld2 ygw)), fun _ _ _ _ => rfl⟩
    · exact ⟨cBf (by kernel_rfl) fun r _ => rgo r rfl ⟨rfl, trivial⟩ (rP (Qe oz)), fun _ _ _ _ => rfl⟩
    · exact ⟨cBf (by kernel_rfl) fun r _ => rgo r rfl ⟨rfl, trivial⟩ (rP (pf oz ysc)), fun _ _ _ _ => rfl⟩
    · exact ⟨cBf (by kernel_rfl) fun r _ => rgo r rfl ⟨rfl, trivial⟩ (rP (Ql oz (List.mem_cons_of_mem _ (List.mem_cons_of_mem _ (List.mem_cons_of_mem _ (List.mem_cons_of_mem _ (List.mem_append_right _ List.mem_cons_self))))) Qww yue)), fun _ _ _ _ => rfl⟩
    · refine ⟨?_, ?_⟩
      · exact cBf (by kernel_rfl) fun r _ => Zg rfl (aC (Qc1 d.s rs S true p.1 hs hSi (by omega)) y0b (oc oz (oc oz oN)) (Z2 (X := [_, _, _, _]) (Y := Xc d.e re))) (Z2 (X := [_, _, _, _]) (Y := Xc d.e re)) (fun r => (List.Perm.cons _ (Z2 (X := [_, _, _, _]) (Y := Xc d.e re)).symm)) (fun _ h _ => h) (fun _ _ _ _ h => h)
      exact fun _ h => absurd h (by decide)
    · refine ⟨?_, ?_⟩
      · exact cBt (by kernel_rfl) fun r _ => rgo r rfl ⟨rfl, trivial⟩ (rP (Xr oz (mA 0 rfl) Tryz.underlying50))
      exact fun h => Bool.noConfusion (h.symm.trans (by kernel_rfl : Jl _ _ _ _ = false))
    exact ⟨by intro c r hc; cases c <;> exact rgo r rfl ⟨rfl, trivial⟩ (rP (Qm ot)), fun _ _ _ _ => rfl⟩
   case h =>
    intro q hq
    refine tn ?_
    have hql := Qlc hs hq
    have hqm := Q45 hs hq
    refine Xh (Qq 0 rfl) 32 oz (nn (tb (Qt (σ := Nat × Value × List Pr) (e8 1 2 7 17 18 19 32 33 rfl en) (fun s => [(34, I64 (s.1 : Int)), (5, IsV s.2.1)]) (fun s => Qb g4_2 109 kPP p :: Qh 109 kPP s.2.1 s.2.2 :: Qb g0_0 75 Q3 (pt d.g 0) :: Qb d.g 106 kDr (dV d n) :: (Xc d.e re ++ Xc d.s rs)) (fun s => s.1 ≤ q.2.length ∧ (∀ x : Pr, x ∈ s.2.2 ↔ x ∈ X ∨ (x.1 ∈ q.2.take s.1 ∧ arF S p.2 x.2)) ∧ s.2.2.length ≤ X.length + s.1 * 10001) (fun s => q.2.length - s.1) (0, u, X) ⟨Nat.zero_le _, fun x => by simp, by simp⟩ ?_ (op pl) ?_)))
    · exact (e2 34 5 rfl en)
    rintro ⟨i, u1, X1⟩ ⟨hil, hX1, hX1l⟩
    dsimp only at hil hX1 hX1l ⊢
    refine sq (rg (oP (Q5 oz oz) rfl (tn (nn (sq (tc oz (fun c35 => ?_) (fun c35 => ?_)))))))
    · refine sk (nn (sq (tb (sq ?_))))
      have hi : i < q.2.length := by simp only [decide_eq_true_eq] at c35; omega
      obtain ⟨a, ha⟩ : ∃ a, at' q.2 (i : Int) = a := ⟨_, rfl⟩
      refine rg (oP (Qj oz oz Tryz.underlying50 ynm (by omega) (by omega)) rfl (oP (pL oz ynm) rfl (av rfl rfl (tn ?_))))
      rw [ha]
      refine nn (sq ?_)
      apply Yg (ρ := Value × List Int) (φ := fun rr => rr.2.Perm (K5 (sdB false rs) p.2 ++ [p.2])) (p := 9) (Lf := fun c rr => cond c (Qh 3 kI rr.1 rr.2 :: Qb g4_2 109 kPP p :: Qh 109 kPP u1 X1 :: Qb g0_0 75 Q3 (pt d.g 0) :: Qb d.g 106 kDr (dV d n) :: (Xc d.e re ++ Xc d.s rs)) (Qb g4_2 109 kPP p :: Qh 109 kPP u1 X1 :: Qb g0_0 75 Q3 (pt d.g 0) :: Qb d.g 106 kDr (dV d n) :: (Xc d.e re ++ Xc d.s rs))) (Qo, []) (by kernel_rfl) (m := 12) (ns := [[(7, none)], [(38, some 0)], [(2, none)], [(40, some 2)], [(41, some 3)], [(42, some 4)], [(43, some 5)], [(44, some 6)], [(45, some 7)], [(39, some 1), (46, some 8)], [(47, some 9)], []]) (by kernel_rfl) (by kernel_rfl) (Ts := fun rr => [_, _, _, _, _, _, _, _, _, IsV rr.1, I64 (rr.2.length : Int), _]) (fun _ => rfl)
      case hops =>
       refine ⟨?_, ?_, ?_, ?_, ?_, ?_, ?_, ?_, ?_, ?_, ?_, ?_, trivial⟩
       · exact ⟨cBf (by kernel_rfl) fun r _ => rgo r rfl ⟨rfl, trivial⟩ (rP (Zk oz (mA 0 rfl) Tryz.underlying109 ynm)), fun _ _ _ _ => rfl⟩
       · exact ⟨cBf (by kernel_rfl) fun r _ => rgo r rfl ⟨rfl, trivial⟩ (rP (Z8 oz (mA 0 rfl) ynm)), fun _ _ _ _ => rfl⟩
       · exact ⟨cBf (by kernel_rfl) fun r _ => rgo r rfl ⟨rfl, trivial⟩ (rP (X9 oz (mA 2 rfl) ybp)), fun _ _ _ _ => rfl⟩
       · exact ⟨cBf (by kernel_rfl) fun r _ => rgo r rfl ⟨rfl, trivial⟩ (rP (Qe oz)), fun _ _ _ _ => rfl⟩
       · exact ⟨cBf (by kernel_rfl) fun r _ => rgo r rfl ⟨rfl, trivial⟩ (rP (pf oz yn3)), fun _ _ _ _ => rfl⟩
       · exact ⟨cBf (by kernel_rfl) fun r _ => rgo r rfl ⟨rfl, trivial⟩ (rP (Ql oz (mA 3 rfl) ld2 ygw)), fun _ _ _ _ => rfl⟩
       · exact ⟨cBf (by kernel_rfl) fun r _ => rgo r rfl ⟨rfl, trivial⟩ (rP (Qe oz)), fun _ _ _ _ => rfl⟩
       · exact ⟨cBf (by kernel_rfl) fun r _ => rgo r rfl ⟨rfl, trivial⟩ (rP (pf oz y1e)), fun _ _ _ _ => rfl⟩
       · exact ⟨cBf (by kernel_rfl) fun r _ => rgo r rfl ⟨rfl, trivial⟩ (rP (Ql oz (List.mem_cons_of_mem _ (List.mem_cons_of_mem _ (List.mem_cons_of_mem _ (List.mem_cons_of_mem _ (List.mem_append_right _ List.mem_cons_self))))) Qnd yue)), fun _ _ _ _ => rfl⟩
       · refine ⟨?_, ?_⟩
         · exact cBf (by kernel_rfl) fun r _ => Zg rfl (aC (Qc1 d.s rs S false p.2 hs hSi (by omega)) y0b (oc oz (oc oz oN)) (Z2 (X := [_, _, _, _]) (Y := Xc d.e re))) (Z2 (X := [_, _, _, _]) (Y := Xc d.e re)) (fun r => (List.Perm.cons _ (Z2 (X := [_, _, _, _]) (Y := Xc d.e re)).symm)) (fun _ h _ => h) (fun _ _ _ _ h => h)
         exact fun _ h => absurd h (by decide)
       · refine ⟨?_, ?_⟩
         · exact cBt (by kernel_rfl) fun r _ => rgo r rfl ⟨rfl, trivial⟩ (rP (Xr oz (mA 0 rfl) Tryz.underlying50))
         exact fun h => Bool.noConfusion (h.symm.trans (by kernel_rfl : Jl _ _ _ _ = false))
       exact ⟨by intro c r hc; cases c <;> exact rgo r rfl ⟨rfl, trivial⟩ (rP (Qm ot)), fun _ _ _ _ => rfl⟩
      case h =>
       intro q2 hq2
       refine tn ?_
       have hql2 := Qlc hs hq2
       have hqm2 := Q46 hs hq2
       refine Xh (Qq 0 rfl) 47 oz (nn (tb (Qt (σ := Nat × Value × List Pr) (e8 1 2 7 9 17 18 19 32 rfl (e4 33 34 47 48 rfl en)) (fun s => [(49, I64 (s.1 : Int)), (5, IsV s.2.1)]) (fun s => Qb g4_2 109 kPP p :: Qh 109 kPP s.2.1 s.2.2 :: Qb g0_0 75 Q3 (pt d.g 0) :: Qb d.g 106 kDr (dV d n) :: (Xc d.e re ++ Xc d.s rs)) (fun s => s.1 ≤ q2.2.length ∧ (∀ x : Pr, x ∈ s.2.2 ↔ x ∈ X1 ∨ (x.1 = a ∧ x.2 ∈ q2.2.take s.1)) ∧ s.2.2.length ≤ X1.length + s.1) (fun s => q2.2.length - s.1) (0, u1, X1) ⟨Nat.zero_le _, fun x => by simp, Nat.le_refl _⟩ ?_ (op pl) ?_)))
       · exact (e2 49 5 rfl en)
       rintro ⟨j, u2, X2⟩ ⟨hjl, hX2, hX2l⟩
       dsimp only at hjl hX2 hX2l ⊢
       refine sq (rg (oP (Q5 oz oz) rfl (tn (nn (sq (tc oz (fun c50 => ?_) (fun c50 => ?_)))))))
       · refine sk (nn (sq (tb (sq ?_))))
         have hj : j < q2.2.length := by simp only [decide_eq_true_eq] at c50; omega
         obtain ⟨b, hb⟩ : ∃ b, at' q2.2 (j : Int) = b := ⟨_, rfl⟩
         have hst := Q3o hj hX2
         rw [hb] at hst
         refine rg (oP (Qj oz oz Tryz.underlying50 ynm (by omega) (by omega)) rfl (oP (pL oz ynm) rfl (av rfl rfl (tn ?_))))
         rw [hb]
         refine nn (rg (mv rfl rfl (mv rfl rfl (mv rfl rfl (oP (Xt (d := kPP) (v0 := (0, 0)) (agg := false) Tryz.underlying109 ynm zPr rfl (Qk rfl Qf.p0 oz (Qk rfl Qf.p1 oz Qc))) rfl (oA (Q7 (d := kPP) (v0 := (0, 0)) y3h y6q zPr (show 1 * 2 ≤ 16777216 from by decide) (by decide) (Qv rfl rfl (by decide) oz Qc)) pR rfl rfl (fun _ _ => ?_)))))))
         refine oA (Q0 oz (pA 1 rfl) oz y3h (by (simp; omega)) (by (simp [maxLen]; omega))) (pA 1 rfl) rfl rfl (fun v11_5 _ => ?_)
         refine av rfl rfl (tn (bn (nn (rg (oP (pad oz ot (by omega)) rfl (mv rfl rfl (tn (nn ?_))))))))
         exact tg (j + 1, v11_5, X2 ++ [(a, b)]) ⟨hj, hst, (by show (X2 ++ [(a, b)]).length ≤ X1.length + (j + 1); rw [List.length_append, List.length_singleton]; omega)⟩ (by show q2.2.length - (j + 1) < q2.2.length - j; omega) ef (op (pc 1 rfl (pc 0 rfl pl)))
       refine Qx (tx (tx (bh (bn (nn ?_)))))
       obtain rfl : j = q2.2.length := by simp only [decide_eq_false_iff_not] at c50; omega
       rw [← ha] at hX2
       have hst1 := Q3p hi hqm2 hX1 hX2
       refine rg (oP (pad oz ot (by omega)) rfl (mv rfl rfl (tn (nn ?_))))
       exact tg (i + 1, u2, X2) ⟨hi, hst1, (by show X2.length ≤ X.length + (i + 1) * 10001; omega)⟩ (by show q.2.length - (i + 1) < q.2.length - i; omega) ef (op pl)
    refine Qx (tx (tx (bh (bn (nn ?_)))))
    obtain rfl : i = q.2.length := by simp only [decide_eq_false_iff_not] at c35; omega
    rw [← hp] at hX1 hqm
    have hst0 := Q3q hk hqm hX hX1
    refine rg (oP (pad oz ot (by omega)) rfl (mv rfl rfl (tn (nn ?_))))
    exact tg (k + 1, u1, X1) ⟨hk, hst0, (by show X1.length ≤ (k + 1) * 100020001; omega)⟩ (by show l.length - (k + 1) < l.length - k; omega) ef (op (pd pl))
 refine Qx (tx (tx (bh (nn (sq (sq ?_))))))
 obtain rfl : k = l.length := by simp only [decide_eq_false_iff_not] at c20; omega
 rw [List.take_length] at hX
 refine rg (mv rfl rfl (oP (pls oz Tryz.underlying273) rfl (oP (Qm ot) rfl (tn (nn (tb (Qt (σ := Nat × RS × List Pr) (e4 2 5 62 63 rfl en) (fun s => [(64, I64 (s.1 : Int))]) (fun s => Qh 109 kPP u X :: Qb g0_0 75 Q3 (pt d.g 0) :: Qb d.g 106 kDr (dV d n) :: (Xc d.e s.2.1 ++ Xc d.s rs)) (fun s => s.1 ≤ l.length ∧ Ze s.2.2 s.2.1 ∧ (∀ x : Pr, x ∈ s.2.2 ↔ x ∈ E ∧ x ∉ l.take s.1) ∧ s.2.2.length ≤ E.length) (fun s => l.length - s.1) (0, re, E) ⟨Nat.zero_le _, he, fun x => by simp, Nat.le_refl _⟩ ?_ (op pl) ?_)))))))
 · exact (ec 64 rfl en)
 rintro ⟨k2, rk, Ek⟩ ⟨hk2l, hrk, hEk, hEkl⟩
 dsimp only at hk2l hrk hEk hEkl ⊢
 refine sq (rg (oP (Q5 oz oz) rfl (tn (nn (sq (tc oz (fun c65 => ?_) (fun c65 => ?_)))))))
 · refine sk (nn (sq (tb (sq ?_))))
   have hk2 : k2 < l.length := by simp only [decide_eq_true_eq] at c65; omega
   obtain ⟨p, hp⟩ : ∃ p, at' l (k2 : Int) = p := ⟨_, rfl⟩
   refine rg (oP (Qj oz oz Tryz.underlying273 y6q (by omega) (by omega)) rfl (oP (pL oz y6q) rfl (oA (Qz (zPr)) pR rfl rfl (fun g17_2 _ => ?_))))
   refine oA (asv oz oz (pA 0 rfl) y6q) (pA 0 rfl) rfl rfl (fun _ _ => ?_)
   refine tn ?_
   rw [hp]
   refine nn ?_
   apply Xs (m := 5) (ns := [[(2, none)], [(68, some 0)], [(69, some 1)], [(70, some 2)], [(13, none)]]) (by kernel_rfl) (by kernel_rfl) (Ts := [_, _, _, _, _]) rfl
   case hops =>
    exact ⟨rP (X9 oz (mA 2 rfl) ybp), rP (Qe oz), rP (pf oz y8k), rP (Ql oz (mA 3 rfl) ld1 ygw), rP (plv oz (mA 0 rfl) y6q), trivial⟩
   case h =>
    refine Qcx [_, _, _, _] (Xc d.s rs) rfl (aC (Qn3 d.e rk Ek p hrk (by omega)) yle (oc oz (oc oz oN)) (Xp [_, _, _, _] (Xc d.e rk) (Xc d.s rs))) rfl rfl fun rk2 hrk2 => (tn ?_)
    have hme := Q47 hk2 hrk.nd hEk
    rw [hp] at hme
    have hle := List.length_erase_le (a := p) (l := Ek)
    refine bn (nn (rg (oP (pad oz ot (by omega)) rfl (mv rfl rfl (tn (nn ?_))))))
    exact tg (k2 + 1, rk2, Ek.erase p) ⟨hk2, hrk2, hme, (by show (Ek.erase p).length ≤ E.length; omega)⟩ (by show l.length - (k2 + 1) < l.length - k2; omega) ef (op (pd pl))
 refine Qx (tx (tx (bh (nn (sq ?_)))))
 obtain rfl : k2 = l.length := by simp only [decide_eq_false_iff_not] at c65; omega
 rw [List.take_length] at hEk
 have hv0 : Qja X.length (rs, S) := ⟨hs, by show S.length + X.length ≤ _; omega⟩
 refine rg (mv rfl rfl (oP (Vc (Ws oz Qbv)) rfl (oA (aC (Qi1 (JdR d n g0_0) Qja Qgz _ u X (rs, S) (by omega) hv0 (Qs3 d n g0_0)) yzl (oc oz (oc oz oN)) Qis) Qis rfl rfl fun q3 hq3 => (av rfl rfl (tn ?_)))))
 have hag0 := Qnl hSE hs.nd hEk hX hq3.1 hq3.2.1
 have hal0 := Qjy hag0
 refine Q4 Qis.symm (nn (sq (rg (mv rfl rfl (oP (Xr oz (mA 0 rfl) Tryz.underlying273) rfl (av rfl rfl (tn (nn (sq (Quh (nn (tb (Qt (σ := Value × List Pr × RS × List Pr) (e2 2 14 rfl en) (fun s => [(5, IsV s.1)]) (fun s => Qh 109 kPP s.1 s.2.1 :: Qb g0_0 75 Q3 (pt d.g 0) :: Qb d.g 106 kDr (dV d n) :: (Xc d.e rk ++ Xc d.s s.2.2.1)) (fun s => Qjx S Ek s.2.2.2 s.2.1 s.2.2.1) (fun s => s.2.1.length) (q3.1, q3.2.1, q3.2.2.1, q3.2.2.2) hag0 ?_ (op pl) ?_)))))))))))))
 · exact (ec 5 rfl en)
 rintro ⟨u, G, rs2, S2⟩ hag
 dsimp only at hag ⊢
 refine tb (sq (sq ?_))
 have hal := Qjy hag
 refine rg (mv rfl rfl (oP (Xr oz (mA 0 rfl) Tryz.underlying273) rfl (oP (Qm ot) rfl (tn (nn (tb (Qt (σ := Nat) (e4 2 14 80 81 rfl en) (fun j => [(82, I64 (j : Int)), (5, IsV u)]) (fun j => Qh 109 kPP u G :: Qb g0_0 75 Q3 (pt d.g 0) :: Qb d.g 106 kDr (dV d n) :: (Xc d.e rk ++ Xc d.s rs2)) (fun j => j ≤ G.length ∧ ∀ x ∈ G.take j, dvB Ek S2 x = false) (fun j => G.length - j) 0 ⟨Nat.zero_le _, fun x h => by simp at h⟩ ?_ (op pl) ?_)))))))
 · exact (e2 82 5 rfl en)
 rintro j ⟨hjl, hnd⟩
 refine sq (rg (oP (Q5 oz oz) rfl (tn (nn (sq (tc oz (fun c83 => ?_) (fun c83 => ?_)))))))
 · refine sk (nn (sq (tb (sq ?_))))
   have hj : j < G.length := by simp only [decide_eq_true_eq] at c83; omega
   obtain ⟨x, hx⟩ : ∃ x, at' G (j : Int) = x := ⟨_, rfl⟩
   refine rg (mv rfl rfl (oP (pio oz (mA 0 rfl) oz Tryz.underlying273 y6q (by omega) (by omega)) rfl (oP (plo oz (mA 0 rfl) (by omega) (by omega) y6q) rfl (oA (Qz (zPr)) pR rfl rfl (fun g24_3 _ => ?_)))))
   refine av rfl rfl (oA (asv oz oz (pA 0 rfl) y6q) (pA 0 rfl) rfl rfl (fun _ _ => ?_))
   refine tn ?_
   rw [hx]
   refine nn (sq (rg (oP (X9 oz (mA 2 rfl) ybp) rfl (oP (plv oz (mA 0 rfl) y6q) rfl (Wo [_, _, _] rfl (aC (Qpv d n rk rs2 Ek S2 x hrk hag.s) y8t (oc oz (oc oz oN)) (Zp (X := [_, _, _]))) rfl rfl fun _ _ => (tn (nn (tc oz (fun c89 => ?_) (fun c89 => ?_)))))))))
   · rw [← hx] at c89
     have hdv := c89
     rw [hx] at hdv
     refine Q4 (List.Perm.refl (Qb g24_3 109 kPP x :: Qh 109 kPP u G :: Qb g0_0 75 Q3 (pt d.g 0) :: Qb d.g 106 kDr (dV d n) :: (Xc d.e rk ++ Xc d.s rs2))) (sq ?_)
     apply Xs (m := 5) (ns := [[(2, none)], [(90, some 0)], [(91, some 1)], [(92, some 2)], [(16, none)]]) (by kernel_rfl) (by kernel_rfl) (Ts := [_, _, _, _, _]) rfl
     case hops =>
      exact ⟨rP (X9 oz (mA 2 rfl) ybp), rP (Qe oz), rP (pf oz yn3), rP (Ql oz (mA 3 rfl) ld2 ygw), rP (plv oz (mA 0 rfl) y6q), trivial⟩
     case h =>
      refine Qdp [_, _, _, _] (Xc d.e rk) rfl (aC (Qfa d.s rs2 S2 x hag.s (by omega)) yrq (oc oz (oc oz oN)) (Z2 (X := [_, _, _, _]) (Y := (Xc d.e rk)))) rfl rfl fun r3 hr3 => (tn (nn (sq ?_)))
      have hr3b := hr3
      rw [← hx] at hr3b
      have hag3 := Qpi hag hj c89 hr3b
      rw [hx] at hag3
      have hcl : (G.take j ++ G.drop (j + 1)).length < G.length := by rw [List.length_append, List.length_take, List.length_drop]; omega
      exact rg (mv rfl rfl (mv rfl rfl (mv rfl rfl (oP (pad oz ot (by omega)) rfl (oA (aC (Qpu u G j (by omega) hj) yi4 (oc oz (oc oz (oc oz oN))) (Qq 1 rfl)) (Qq 1 rfl) rfl rfl fun u2 _ => (av rfl rfl (tn (nn (Qx (Qdb rfl (tx (tx (Qdb rfl (tx (bh (nn (tg (u2, G.take j ++ G.drop (j + 1), r3, W1 S2 x) hag3 hcl ef (op (pc 0 rfl (pd pl))))))))))))))))))))
   rw [← hx] at c89
   have hnd2 := Q04 hj hnd c89
   refine sk (bn (nn (rg (oP (pad oz ot (by omega)) rfl (mv rfl rfl (tn (nn ?_)))))))
   exact tg (j + 1) ⟨hj, hnd2⟩ (by show G.length - (j + 1) < G.length - j; omega) ef (op (pd pl))
 refine Qx (tx (tx (bh (nn (sq ?_)))))
 obtain rfl : j = G.length := by simp only [decide_eq_false_iff_not] at c83; omega
 have hsay := Qxc hSE hEk hrk hag hnd
 refine rg (oP (X9 oz (mA 1 rfl) ybp) rfl (mv rfl rfl (mv rfl rfl (oP (Xr oz (mA 0 rfl) Tryz.underlying273) rfl (oP (Kb oz oz (by omega)) rfl (oP (Qe oz) rfl (oP (pf oz yeg) rfl (oA (Yd oz oz (pA 2 rfl) ld3 ynm) (pA 2 rfl) rfl rfl (fun _ _ => ?_)))))))))
 exact tn (nn (sq (rg (mv rfl rfl (av rfl rfl (tn (Xh (Qq 1 rfl) 4 oz (nn (tR (Qw (tt (Qw (Qrp (Qi .ret (.inl rfl) rfl (_, rk, rs2, Ek, S2, G) oz hsay (pc 0 rfl (pd pl))))))))))))))))
end Go.Proofs.YtklhdalppmjnaaaGreatDoor
namespace Go.Proofs.YtklhdalppmjnaaaGreatDoor
open Go Go.Gw Go.So Go.Tu Go.Jn Go.MapKept
open Go.Dr hiding Pr
def Um (lab : Lab) (E : List Pr) (add : Bool) : List Pr → List Ed → Int × List Pr
 | pre, [] => (0, pre)
 | pre, e :: es => if e.2.1 = lab then (if (!add && !decide ((e.1, e.2.2) ∈ E)) = true then (4, pre) else if ((add && decide ((e.1, e.2.2) ∈ E)) || decide ((e.1, e.2.2) ∈ pre)) = true then (2, pre) else Um lab E add (pre ++ [(e.1, e.2.2)]) es) else Um lab E add pre es
theorem Q3r {lab : Lab} {E L : List Pr} {add : Bool} {es : List Ed} {k : Nat} (hk : k < es.length) {e : Ed} (he : at' es (k : Int) = e) : Um lab E add L (es.drop k) = if e.2.1 = lab then (if (!add && !decide ((e.1, e.2.2) ∈ E)) = true then (4, L) else if ((add && decide ((e.1, e.2.2) ∈ E)) || decide ((e.1, e.2.2) ∈ L)) = true then (2, L) else Um lab E add (L ++ [(e.1, e.2.2)]) (es.drop (k + 1))) else Um lab E add L (es.drop (k + 1)) := by
 rw [List.drop_eq_getElem_cons hk, Um, ← he, Q1 hk]
theorem Q05 {lab : Lab} {E L : List Pr} {add : Bool} {es : List Ed} : Um lab E add L (es.drop es.length) = (0, L) := by rw [List.drop_length, Um]
structure DOk (E S : List Pr) (re rs : RS) : Prop where
 e : Ze E re
 s : Ze S rs
 c : ∀ a b, (a, b) ∈ S ↔ TC E a b
 i : ∀ x ∈ E, inP x
theorem DOk.iS {E S : List Pr} {re rs : RS} (h : DOk E S re rs) : ∀ x ∈ S, inP x := fun x hx => by
 obtain ⟨⟨c1, h1⟩, c2, h2⟩ := ((h.c x.1 x.2).1 hx).ends
 exact ⟨(h.i _ h1).1, (h.i _ h2).2⟩
theorem Qb3 {α β : Type} (f : α → List β) (n : Nat) : ∀ (l : List α), (∀ x ∈ l, (f x).length ≤ n) → (l.flatMap f).length ≤ l.length * n
 | [], _ => by simp
 | a :: l, h => by
  rw [List.flatMap_cons, List.length_append, List.length_cons, Nat.succ_mul]
  have h1 := h a List.mem_cons_self
  have h2 := Qb3 f n l fun x hx => h x (List.mem_cons_of_mem _ hx)
  omega
theorem Qxd {E S : List Pr} (hn : S.Nodup) (h : ∀ a b, (a, b) ∈ S → TC E a b) : S.length ≤ E.length * E.length := by
 have h1 := Yw (m := E.flatMap fun p => E.map fun q => (p.1, q.2)) hn fun x hx => by
  obtain ⟨⟨c1, h1⟩, c2, h2⟩ := (h x.1 x.2 hx).ends
  exact List.mem_flatMap.2 ⟨_, h1, List.mem_map.2 ⟨_, h2, rfl⟩⟩
 have h2 := Qb3 (fun p : Pr => E.map fun q : Pr => (p.1, q.2)) E.length E fun x hx => by simp
 omega
theorem V5 {E S : List Pr} (hn : S.Nodup) (h : ∀ a b, (a, b) ∈ S → TC E a b) (hE : E.length ≤ 60) : S.length ≤ 3600 := by
 have h1 := Qxd hn h
 have h2 : E.length * E.length ≤ 60 * 60 := Nat.mul_le_mul hE hE
 omega
def Vo (S S' : List Pr) : List Tp := Jm (U6 (S'.filter fun x => decide (x ∉ S)))
theorem Qq8 {S S' G : List Pr} (h : ∀ x, x ∈ G ↔ x ∈ S' ∧ x ∉ S) : Jm (U6 G) = Vo S S' := by
 unfold Vo
 refine Ji (Xj _).1 (Xj _).1 fun x => ?_
 rw [(Xj _).2, (Xj _).2, List.mem_map, List.mem_map]
 constructor
 · rintro ⟨p, hp, rfl⟩; exact ⟨p, by rw [List.mem_filter]; have := (h p).1 hp; exact ⟨this.1, decide_eq_true this.2⟩, rfl⟩
 rintro ⟨p, hp, rfl⟩; rw [List.mem_filter] at hp; exact ⟨p, (h p).2 ⟨hp.1, of_decide_eq_true hp.2⟩, rfl⟩
theorem Qit {S S' : List Pr} (h : ∀ x ∈ S', x ∈ S) : Vo S S' = [] := by
 unfold Vo
 rw [List.filter_eq_nil_iff.2 (fun x hx => by simp [h x hx])]
 rfl
def Q06 (E L : List Pr) (add : Bool) (c : Int) (x : Pr) : Prop := if c = 0 then (if add = true then x ∈ E ∨ x ∈ L else x ∈ E ∧ x ∉ L) else x ∈ E
structure Qdq (lab : Lab) (E : List Pr) (es : List Ed) (add : Bool) (re rs : RS) (E' S' : List Pr) : Prop where
 ok : DOk E' S' re rs
 m : ∀ x, x ∈ E' ↔ Q06 E (Um lab E add [] es).2 add (Um lab E add [] es).1 x
 n : E'.length ≤ E.length + es.length
theorem Qxe {lab : Lab} {E S : List Pr} {es : List Ed} {add : Bool} {re rs : RS} (h : DOk E S re rs) (hc : ¬ (Um lab E add [] es).1 = 0) : Qdq lab E es add re rs E S := ⟨h, fun x => by unfold Q06; rw [if_neg hc], by omega⟩
theorem Q3s {lab : Lab} {E S L : List Pr} {es : List Ed} {re rs re' rs' : RS} {E' S' G : List Pr} (h : DOk E S re rs) (hc : Um lab E false [] es = (0, L)) (hr : Qg0 E S L re' rs' E' S' G) : Qdq lab E es false re' rs' E' S' := ⟨⟨hr.e, hr.s, hr.sm, fun x hx => h.i x ((hr.em x).1 hx).1⟩, fun x => by unfold Q06; rw [hc]; exact hr.em x, by
 have := Yw hr.e.nd fun x hx => ((hr.em x).1 hx).1
 omega⟩
theorem Q07 {E S L : List Pr} {re re' rs' rs : RS} {E' S' G : List Pr} (h : DOk E S re rs) (hr : Qg0 E S L re' rs' E' S' G) : ∀ x ∈ S', x ∈ S := fun x hx => (h.c x.1 x.2).2 (((hr.sm x.1 x.2).1 hx).mono fun p hp => ((hr.em p).1 hp).1)
structure Qxf (E S L : List Pr) (k : Nat) (F : List Pr) (re rs : RS) (Ek : List Pr) : Prop where
 ok : DOk Ek (S ++ F) re rs
 m : ∀ x, x ∈ Ek ↔ x ∈ E ∨ x ∈ L.take k
 n : Ek.length ≤ E.length + k
theorem Qiu {P : List Pr} {q x : Pr} : x ∈ W1 P q ↔ x ∈ P ∨ x = q := by
 unfold W1
 split
 · rename_i h; exact ⟨.inl, fun h2 => h2.elim id fun e => e ▸ h⟩
 rw [List.mem_append, List.mem_singleton]
theorem Qxg {E S L F F2 Ek : List Pr} {k : Nat} {re rs re2 rs2 : RS} (h : Qxf E S L k F re rs Ek) (hk : k < L.length) (hi : inP (at' L (k : Int))) (hs : Qld Ek (S ++ F) (at' L (k : Int)) re2 rs2 F2) : Qxf E S L (k + 1) (F ++ F2) re2 rs2 (W1 Ek (at' L (k : Int))) := by
 have hF : ∀ q, q ∈ W1 Ek (at' L (k : Int)) ↔ q ∈ Ek ∨ q = at' L (k : Int) := fun q => Qiu
 refine ⟨⟨hs.e, by rw [← List.append_assoc]; exact hs.s, fun a b => ?_, fun x hx => ((hF x).1 hx).elim (h.ok.i x) fun e => e ▸ hi⟩, fun x => ?_, ?_⟩
 · rw [Qsw hF, ← h.ok.c, ← List.append_assoc, List.mem_append, hs.m (a, b)]
   have e1 := Q2m h.ok.c (at' L (k : Int)).1 a
   have e2 := Q2n h.ok.c (at' L (k : Int)).2 b
   constructor
   · rintro (q | ⟨_, q1, q2⟩)
     · exact .inl q
     exact .inr ⟨e1.1 q1, e2.1 q2⟩
   rintro (q | ⟨q1, q2⟩)
   · exact .inl q
   exact (Classical.em ((a, b) ∈ S ++ F)).elim .inl fun q3 => .inr ⟨q3, e1.2 q1, e2.2 q2⟩
 · rw [hF, h.m, List.take_succ_eq_append_getElem hk, List.mem_append, List.mem_singleton, Q1 hk, or_assoc]
 have h1 := h.n; have h2 := Qe6 Ek (at' L (k : Int)); omega
theorem Q3t {lab : Lab} {E S L F Ek : List Pr} {es : List Ed} {re rs : RS} (hc : Um lab E true [] es = (0, L)) (hl : L.length ≤ es.length) (h : Qxf E S L L.length F re rs Ek) : Qdq lab E es true re rs Ek (S ++ F) := ⟨h.ok, fun x => by unfold Q06; rw [hc]; show x ∈ Ek ↔ x ∈ E ∨ x ∈ L; rw [h.m, List.take_length], by have := h.n; omega⟩
theorem Q08 {E S L F Ek : List Pr} {k : Nat} {re rs : RS} (h : Qxf E S L k F re rs Ek) : Jm (U6 F) = Vo S (S ++ F) := Qq8 fun x => by
 have hn := List.nodup_append.1 h.ok.s.nd
 rw [List.mem_append]
 exact ⟨fun hx => ⟨.inr hx, fun hs => hn.2.2 x hs x hx rfl⟩, fun ⟨q, q2⟩ => q.resolve_left q2⟩
end Go.Proofs.YtklhdalppmjnaaaGreatDoor
namespace Go.Proofs.YtklhdalppmjnaaaGreatDoor
open Go Go.Gw Go.So Go.Tu Go.Jn
open Go.Dr hiding Pr

/-- (*rhizome/dred.Dred).Do -/
theorem Q3x (d : DO) (n : Int) (re rs : RS) (E S : List Pr) (es : List Ed) (add : Bool) (h : DOk E S re rs) (hei : ∀ e ∈ es, Y8 e.1 ∧ Y8 e.2.2) (hE0 : E.length ≤ 60) (hes : es.length ≤ 60) (hEl : add = true → E.length + es.length ≤ 60) : Ct Tryz.prog 189 [IsV (pt d.g 0), SlT kE es, Xe add] (DrI d n re rs) (Int × RS × RS × List Pr × List Pr) (fun q => Y1 [kD.T (Vo S q.2.2.2.2, Vo q.2.2.2.2 S), I64 (Um d.lab E add [] es).1]) (fun q => DrI d q.1 q.2.1 q.2.2.1) (fun q => Qdq d.lab E es add q.2.1 q.2.2.1 q.2.2.2.1 q.2.2.2.2) := by
 refine Qn Tryz.func189 rfl rfl ?_
 intro H w
 have hSl := V5 h.s.nd (fun a b => (h.c a b).1) (by omega)
 have hSi := h.iS
 obtain ⟨R, hR⟩ : ∃ R, Um d.lab E add [] es = R := ⟨_, rfl⟩
 have hn0 : Vo S S = [] := Qit fun x hx => hx
 rw [hR]
 refine Q4 (List.Perm.refl (Qb d.g 106 kDr (dV d n) :: (Xc d.e re ++ Xc d.s rs))) (sq (rg (oA (Qz (z44)) pR rfl rfl (fun g0_0 _ => ?_))))
 refine ak rfl (tn (nn (sq (rg (ak rfl (tn (Xg 109 kPP (nn (sq (sq (rg (mv rfl rfl (oP (pls oz Tryz.underlying26) rfl (oP (Qm ot) rfl (tn (nn (tb (Qt (σ := Nat × Value × List Pr) (e4 0 2 6 19 rfl (ec 20 rfl en)) (fun s => [(21, I64 (s.1 : Int)), (8, IsV s.2.1)]) (fun s => Qh 109 kPP s.2.1 s.2.2 :: Qb g0_0 38 kD ([], []) :: Qb d.g 106 kDr (dV d n) :: (Xc d.e re ++ Xc d.s rs)) (fun s => s.1 ≤ es.length ∧ Um d.lab E add s.2.2 (es.drop s.1) = R ∧ s.2.2.length ≤ s.1 ∧ ∀ x ∈ s.2.2, inP x) (fun s => es.length - s.1) (0, Qo, []) ⟨Nat.zero_le _, hR, Nat.le_refl _, fun x hx => by cases hx⟩ ?_ (op pl) ?_))))))))))))))))))
 · exact (e2 21 8 rfl en)
 rintro ⟨k, u, L⟩ ⟨hk, hin, hlk, hLi⟩
 dsimp only at hk hin hlk hLi ⊢
 refine sq (rg (oP (Q5 oz oz) rfl (tn (nn (sq (tc oz (fun c22 => ?_) (fun c22 => ?_)))))))
 · refine sk (nn (sq (tb (sq ?_))))
   have hkl : k < es.length := by simp only [decide_eq_true_eq] at c22; omega
   obtain ⟨e, hee⟩ : ∃ e, at' es (k : Int) = e := ⟨_, rfl⟩
   have hst := Q3r (lab := d.lab) (E := E) (L := L) (add := add) hkl hee
   have hie : Y8 e.1 ∧ Y8 e.2.2 := hei e (by rw [← hee]; exact at_mem hkl)
   refine rg (oP (Qj oz oz Tryz.underlying26 y16 (by omega) (by omega)) rfl (oP (pL oz y16) rfl (oA (Qz (zE)) pR rfl rfl (fun g4_2 _ => ?_))))
   refine oA (asv oz oz (pA 0 rfl) y16) (pA 0 rfl) rfl rfl (fun _ _ => ?_)
   refine tn ?_
   rw [hee]
   refine nn (sq (rg (oP (pf oz ye8) rfl (oP (plb oz (mA 0 rfl) le0 ynm) rfl (oP (pf oz y9l) rfl (oP (plb oz (mA 0 rfl) le2 ynm) rfl (oP (Xt (d := kPP) (v0 := (0, 0)) (agg := false) Tryz.underlying109 ynm zPr rfl (Qk rfl Qf.p0 oz (Qk rfl Qf.p1 oz Qc))) rfl (oA (Qz (zPr)) pR rfl rfl (fun g5_5 _ => ?_)))))))))
   refine oA (asv oz oz (pA 0 rfl) y6q) (pA 0 rfl) rfl rfl (fun _ _ => ?_)
   refine tn ?_
   obtain ⟨p, hp⟩ : ∃ p : Pr, (e.1, e.2.2) = p := ⟨_, rfl⟩
   have hip : inP p := by rw [← hp]; exact hie
   rw [hp] at hst
   have hhp := h.e.f p.1 p.2
   refine Q4 (L' := Qb g5_5 109 kPP p :: Qb g4_2 42 kE e :: Qh 109 kPP u L :: Qb g0_0 38 kD ([], []) :: Qb d.g 106 kDr (dV d n) :: (Xc d.e re ++ Xc d.s rs)) (by rw [← hp]; exact List.Perm.refl _) ?_
   refine nn (sq (tb (sq ?_)))
   apply Xs (m := 6) (ns := [[(10, none)], [(31, some 0)], [(0, none)], [(33, some 2)], [(34, some 3)], [(35, some 4)]]) (by kernel_rfl) (by kernel_rfl) (Ts := [_, _, _, _, _, _]) rfl
   case hops =>
    exact ⟨rP (pf oz yh3), rP (plb oz (mA 1 rfl) le1 ylw), rmv rfl, rP (Qe oz), rP (pf oz yv0), rP (plb oz (mA 4 rfl) ld0 ylw), trivial⟩
   case h =>
    refine oP (Qrt oz oz) rfl (av rfl rfl (tn (nn (tc oz (fun c30 => ?_) (fun c30 => ?_)))))
    · have hst2 : Um d.lab E add L (es.drop k) = Um d.lab E add L (es.drop (k + 1)) := by rw [hst, if_neg (show ¬ e.2.1 = d.lab from of_decide_eq_true c30)]
      refine Qx (Qdb rfl (tx (bh (nn (rg (oP (pad oz ot (by omega)) rfl (mv rfl rfl (tn (nn ?_)))))))))
      exact tg (k + 1, u, L) ⟨hkl, hst2.symm.trans hin, (by show L.length ≤ k + 1; omega), hLi⟩ (by show es.length - (k + 1) < es.length - k; omega) ef (op (pd (pd pl)))
    have hlab : e.2.1 = d.lab := Classical.byContradiction fun h => by rw [decide_eq_true (p := e.2.1 ≠ (dV d n).1) h] at c30; cases c30
    rw [if_pos hlab] at hst
    refine sq ?_
    apply Xs (m := 8) (ns := [[(2, none)], [(39, some 0)], [(40, some 1)], [(0, none), (41, some 2)], [(41, some 2), (42, some 3)], [(41, some 2), (43, some 4)], [(41, some 2), (44, some 5)], [(11, none), (41, some 2)]]) (by kernel_rfl) (by kernel_rfl) (Ts := [_, _, _, _, _, _, _, _]) rfl
    case hops =>
     exact ⟨rmv rfl, rP (Zf oz), rmv rfl, rJ rfl fun hg hg1 => rmv rfl, rJ rfl fun hg hg1 => rP (Qe (gu oz hg)), rJ rfl fun hg hg1 => rP (pf (gu oz hg) y8k), rJ rfl fun hg hg1 => rP (Ql (gu oz hg) (mA 4 rfl) ld1 ygw), rJ rfl fun hg hg1 => rP (plv oz (mA 0 rfl) y6q), trivial⟩
    case h =>
     refine Ug rfl rfl rfl (gm oz) (Xp [_, _, _, _, _] (Xc d.e re) (Xc d.s rs)) (fun hg => aC (Qbd d.e re p) ylx (oc (gu oz hg) (oc (gu oz hg) oN)) (Xp [_, _, _, _, _] (Xc d.e re) (Xc d.s rs))) rfl (oG rfl rfl rfl (gm oz) (fun hg => by (have hg1 := hg.2; (try simp only [cq2] at hg1); exact Zf (gu oz hg))) rfl ?_)
     refine oP (Q2 oz oz) rfl (av rfl rfl (tn (nn (tc oz (fun c38 => ?_) (fun c38 => ?_)))))
     · rw [hhp] at c38
       have c38b : (!add && !decide (p ∈ E)) = true := c38
       rw [if_pos c38b] at hst
       have hR1 : R = (4, L) := hin.symm.trans hst
       subst hR1
       have hsay : Qdq d.lab E es add re rs E S := Qxe h (by rw [hR]; show ¬ (4 : Int) = 0; decide)
       refine sq (rg (oP (Zb (d := kD) (v0 := ([], [])) (ps := [(0, 1), (1, 1)]) z44 (by kernel_rfl) rfl Qc) rfl (oA (asv oz oz (pA 3 rfl) yh2) (pA 3 rfl) rfl rfl (fun _ _ => ?_))))
       refine ak rfl (tn (nn (tR (Qw (tt (Qw (tt (tt (Qw (tt ?_))))))))))
       exact Zl .ret (.inl rfl) rfl (n, re, rs, E, S) oz (mA 0 rfl) yh2 oz (fun _ _ h => (by show (Y1 [kD.T (Vo S S, Vo S S), I64 4]).p _ _; rw [hn0]; exact h)) hsay (pd (pd (pd (pd pl))))
     rw [hhp] at c38
     have c38b : (!add && !decide (p ∈ E)) = false := c38
     rw [if_neg (by rw [c38b]; decide)] at hst
     refine sq ?_
     apply Qkj (p := 7) (Lf := fun c => cond c (Qb g5_5 109 kPP p :: Qb g4_2 42 kE e :: Qh 109 kPP u L :: Qb g0_0 38 kD ([], []) :: Qb d.g 106 kDr (dV d n) :: (Xc d.e re ++ Xc d.s rs)) (Qb g5_5 109 kPP p :: Qb g4_2 42 kE e :: Qh 109 kPP u L :: Qb g0_0 38 kD ([], []) :: Qb d.g 106 kDr (dV d n) :: (Xc d.e re ++ Xc d.s rs))) (by kernel_rfl) (m := 12) (ns := [[(2, none)], [(52, some 0)], [(0, none), (53, some 1)], [(53, some 1), (54, some 2)], [(53, some 1), (55, some 3)], [(53, some 1), (56, some 4)], [(11, none), (53, some 1)], [(53, some 1), (57, some 5), (58, some 6)], [(53, some 1), (59, some 7)], [(60, some 8)], [(8, none), (61, some 9)], [(11, none), (61, some 9)]]) (by kernel_rfl) (by kernel_rfl) (Ts := [_, _, _, _, _, _, _, _, _, _, _, _]) rfl
     case hops =>
      exact ⟨cAf (by kernel_rfl) fun _ => rw_ (rmv rfl), cAf (by kernel_rfl) fun _ => rw_ (rmv rfl), cAf (by kernel_rfl) fun _ => rw_ (rJ rfl fun hg hg1 => rmv rfl), cAf (by kernel_rfl) fun _ => rw_ (rJ rfl fun hg hg1 => rP (Qe (gu oz hg))), cAf (by kernel_rfl) fun _ => rw_ (rJ rfl fun hg hg1 => rP (pf (gu oz hg) y8k)), cAf (by kernel_rfl) fun _ => rw_ (rJ rfl fun hg hg1 => rP (Ql (gu oz hg) (mA 4 rfl) ld1 ygw)), cAf (by kernel_rfl) fun _ => rw_ (rJ rfl fun hg hg1 => rP (plv oz (mA 0 rfl) y6q)), cAf (by kernel_rfl) fun _ => Qqo rfl rfl rfl (gm oz) (fun hg => by (have hg1 := hg.2; exact Qfi rfl (aC (Qbd d.e re p) ylx (oc (gu oz hg) (oc (gu oz hg) oN)) (Xp [_, _, _, _, _] (Xc d.e re) (Xc d.s rs))) (Xp [_, _, _, _, _] (Xc d.e re) (Xc d.s rs)) (fun _ => (Xp [_, _, _, _, _] (Xc d.e re) (Xc d.s rs)).symm) (fun _ _ _ _ h => h))), cAt (by kernel_rfl) fun _ => rw_ (rP (Q2 oz oz)), cAt (by kernel_rfl) fun _ => rw_ (rmv rfl), cAt (by kernel_rfl) fun _ => rw_ (rJ rfl fun hg hg1 => rmv rfl), cAt (by kernel_rfl) fun _ => rw_ (rJ rfl fun hg hg1 => rP (plv oz (mA 0 rfl) y6q)), trivial⟩
     case h =>
      refine Ug rfl rfl rfl (gm oz) (Qq 2 rfl) (fun hg => aC (Ct.lend_hd (e := 109) (v := u) (Qlo L p (by omega)) (fun _ _ _ _ h => h)) y9o (oc (gu oz hg) (oc (gu oz hg) oN)) (Qq 2 rfl)) rfl (oP (Zx oz oz) rfl (av rfl rfl (tn (nn (tc oz (fun c51 => ?_) (fun c51 => ?_))))))
      · rw [hhp] at c51
        have c51b : ((add && decide (p ∈ E)) || decide (p ∈ L)) = true := c51
        rw [if_pos c51b] at hst
        have hR1 : R = (2, L) := hin.symm.trans hst
        subst hR1
        have hsay : Qdq d.lab E es add re rs E S := Qxe h (by rw [hR]; show ¬ (2 : Int) = 0; decide)
        refine sq (rg (oP (Zb (d := kD) (v0 := ([], [])) (ps := [(0, 1), (1, 1)]) z44 (by kernel_rfl) rfl Qc) rfl (oA (asv oz oz (pA 3 rfl) yh2) (pA 3 rfl) rfl rfl (fun _ _ => ?_))))
        refine ak rfl (tn (nn (tR (Qw (tt (Qw (tt (tt (Qw (tt ?_))))))))))
        exact Zl .ret (.inl rfl) rfl (n, re, rs, E, S) oz (mA 0 rfl) yh2 oz (fun _ _ h => (by show (Y1 [kD.T (Vo S S, Vo S S), I64 2]).p _ _; rw [hn0]; exact h)) hsay (pd (pd (pd (pd pl))))
      rw [hhp] at c51
      have c51b : ((add && decide (p ∈ E)) || decide (p ∈ L)) = false := c51
      rw [if_neg (by rw [c51b]; decide)] at hst
      refine sk (bn (nn (rg (mv rfl rfl (oP (plv oz (mA 0 rfl) y6q) rfl (oA (Q7 (d := kPP) (v0 := (0, 0)) y3h y6q zPr (show 1 * 2 ≤ 16777216 from by decide) (by decide) (Qv rfl rfl (by decide) oz Qc)) pR rfl rfl (fun _ _ => ?_)))))))
      refine oA (Q0 oz (pA 2 rfl) oz y3h (by (simp; omega)) (by (simp [maxLen]; omega))) (pA 2 rfl) rfl rfl (fun v11_3 _ => ?_)
      refine av rfl rfl (tn (bn (nn (rg (oP (pad oz ot (by omega)) rfl (mv rfl rfl (tn (nn ?_))))))))
      exact tg (k + 1, v11_3, L ++ [p]) ⟨hkl, hst.symm.trans hin, (by show (L ++ [p]).length ≤ k + 1; rw [List.length_append, List.length_singleton]; omega), fun x hx => (List.mem_append.1 hx).elim (hLi x) fun h2 => by rw [List.mem_singleton.1 h2]; exact hip⟩ (by show es.length - (k + 1) < es.length - k; omega) ef (op (pc 0 rfl (pd (pd pl))))
 refine Qx (tx (tx (bh (nn (sq (sq ?_))))))
 obtain rfl : k = es.length := by simp only [decide_eq_false_iff_not] at c22; omega
 rw [Q05] at hin
 have hLl : L.length ≤ 100 := by omega
 have hR0 : R = (0, L) := hin.symm
 subst hR0
 refine rg (mv rfl rfl (oP (Zf oz) rfl (tn (nn (tc oz (fun c73 => ?_) (fun c73 => ?_))))))
 · obtain rfl : add = false := by simpa using c73
   refine Xh (Qq 0 rfl) 8 oz (sq (rg (mv rfl rfl (mv rfl rfl (Wo [_] rfl (aC (Qpx d n re rs E S L h.e h.s hSi h.c (by omega) (by omega) hLl) ykk (oc oz (oc oz oN)) (Zp (X := [_]))) rfl rfl fun q hq => ?_)))))
   have hsay := Q3s h hR hq
   have hnw1 : Vo S q.2.2.2.2.1 = [] := Qit (Q07 h hq)
   have hnw2 : Jm (U6 q.2.2.2.2.2) = Vo q.2.2.2.2.1 S := Qq8 hq.g
   have hgl : q.2.2.2.2.2.length ≤ S.length := Yw hq.gn fun x hx => ((hq.g x).1 hx).1
   refine oA (aC (Qkc _ (by omega)) yk0 (oc (oT rfl) oN) pR) pR rfl rfl (fun _ _ => ?_)
   refine oP (Zb (d := kD) (v0 := ([], [])) (ps := [(0, 1), (1, 1)]) z44 (by kernel_rfl) rfl (Qk rfl (Qf.snd (a := kL) (b := kL)) oz Qc)) rfl (oA (asv oz oz (pA 0 rfl) yh2) (pA 0 rfl) rfl rfl (fun _ _ => ?_))
   refine ak rfl (tn (nn (tR (tt ?_))))
   exact Zl .ret (.inl rfl) rfl (_, q.2.1, q.2.2.1, q.2.2.2.1, q.2.2.2.2.1) oz (mA 0 rfl) yh2 oz (fun _ _ h => (by show (Y1 [kD.T (Vo S q.2.2.2.2.1, Vo q.2.2.2.2.1 S), I64 0]).p _ _; rw [hnw1, ← hnw2]; exact h)) hsay (pd pl)
 obtain rfl : add = true := by simpa using c73
 have hEl := hEl rfl
 refine Xh (Qq 0 rfl) 8 oz (sk (nn (sq (rg (ak rfl (tn (Xg 109 kPP (nn (sq (sq (rg (mv rfl rfl (oP (pls oz Tryz.underlying273) rfl (oP (Qm ot) rfl (tn (nn (tb (Qt (σ := Nat × Value × List Pr × RS × RS × List Pr) (e4 0 6 8 79 rfl (ec 80 rfl en)) (fun s => [(81, I64 (s.1 : Int)), (12, IsV s.2.1)]) (fun s => Qh 109 kPP s.2.1 s.2.2.1 :: Qb g0_0 38 kD ([], []) :: Qb d.g 106 kDr (dV d n) :: (Xc d.e s.2.2.2.1 ++ Xc d.s s.2.2.2.2.1)) (fun s => s.1 ≤ L.length ∧ Qxf E S L s.1 s.2.2.1 s.2.2.2.1 s.2.2.2.2.1 s.2.2.2.2.2) (fun s => L.length - s.1) (0, Qo, [], re, rs, E) ⟨Nat.zero_le _, by rw [List.append_nil]; exact h, fun x => by simp, Nat.le_refl _⟩ ?_ (op pl) ?_))))))))))))))))))
 · exact (e2 81 12 rfl en)
 rintro ⟨k2, u2, F, re2, rs2, Ek⟩ ⟨hk2l, hK⟩
 dsimp only at hk2l hK ⊢
 refine sq (rg (oP (Q5 oz oz) rfl (tn (nn (sq (tc oz (fun c82 => ?_) (fun c82 => ?_)))))))
 · refine sk (nn (sq (tb (sq ?_))))
   have hk2 : k2 < L.length := by simp only [decide_eq_true_eq] at c82; omega
   obtain ⟨p, hp⟩ : ∃ p, at' L (k2 : Int) = p := ⟨_, rfl⟩
   have hip : inP p := by rw [← hp]; exact hLi _ (at_mem hk2)
   have hkn := hK.n
   have hKs := V5 hK.ok.s.nd (fun a b => (hK.ok.c a b).1) (by omega)
   rw [List.length_append] at hKs
   refine rg (mv rfl rfl (oP (Qj oz oz Tryz.underlying273 y6q (by omega) (by omega)) rfl (oP (pL oz y6q) rfl (oA (Qz (zPr)) pR rfl rfl (fun g18_3 _ => ?_)))))
   refine av rfl rfl (oA (asv oz oz (pA 0 rfl) y6q) (pA 0 rfl) rfl rfl (fun _ _ => ?_))
   refine tn ?_
   rw [hp]
   refine nn (sq (rg (mv rfl rfl (mv rfl rfl (oP (plv oz (mA 0 rfl) y6q) rfl (Wo [_, _, _] rfl (aC (Qpw d n re2 rs2 Ek (S ++ F) p hK.ok.e hK.ok.s hK.ok.iS (by omega) (by rw [List.length_append]; omega)) y20 (oc oz (oc oz oN)) (Zp (X := [_, _, _]))) rfl rfl fun q hq => ?_))))))
   have hK2 := hK
   rw [← hp] at hip hq
   have hK2 := Qxg hK hk2 hip hq
   rw [hp] at hK2 hq
   have hkn2 := hK2.n
   have hKs2 := V5 hK2.ok.s.nd (fun a b => (hK2.ok.c a b).1) (by omega)
   have hcn := hK2.ok.s.n
   rw [List.length_append, List.length_append] at hKs2 hcn
   refine oA (Q0 oz (pA 1 rfl) oz y3h (by omega) (by (simp [maxLen]; omega))) (pA 1 rfl) rfl rfl (fun v19_4 _ => ?_)
   refine av rfl rfl (tn (nn (sq (Q4 (List.Perm.refl (Qh 109 kPP v19_4 (F ++ q.2.2) :: Qb g18_3 109 kPP p :: Qb g0_0 38 kD ([], []) :: Qb d.g 106 kDr (dV d n) :: (Xc d.e q.1 ++ Xc d.s q.2.1))) (rg (mv rfl rfl (oP (Qe oz) rfl (oP (pf oz yn3) rfl (oP (Ql oz (mA 3 rfl) ld2 ygw) rfl (oP (Qe oz) rfl (oP (pf oz yw1) rfl (oP (plb oz (List.mem_cons_of_mem _ (List.mem_cons_of_mem _ (List.mem_cons_of_mem _ (List.mem_cons_of_mem _ (List.mem_append_right _ List.mem_cons_self))))) Qwx ynm) rfl (oP (Y3 oz ot) rfl (tn (nn (tc oz (fun c98 => ?_) (fun c98 => ?_)))))))))))))))))
   · exfalso
     simp only [decide_eq_true_eq] at c98
     omega --done
   refine sk (bn (nn (rg (oP (pad oz ot (by omega)) rfl (mv rfl rfl (tn (nn ?_)))))))
   exact tg (k2 + 1, v19_4, F ++ q.2.2, q.1, q.2.1, W1 Ek p) ⟨hk2, hK2⟩ (by show L.length - (k2 + 1) < L.length - k2; omega) ef (op (pc 0 rfl (pd pl)))
 refine Qx (tx (tx (bh (nn (sq ?_)))))
 obtain rfl : k2 = L.length := by simp only [decide_eq_false_iff_not] at c82; omega
 have hkn := hK.n
 have hKs := V5 hK.ok.s.nd (fun a b => (hK.ok.c a b).1) (by omega)
 rw [List.length_append] at hKs
 have hsay := Q3t hR hlk hK
 have hnew := Q08 hK
 have hnw3 : Vo (S ++ F) S = [] := Qit fun x hx => List.mem_append_left _ hx
 refine rg (mv rfl rfl (oP (Qe oz) rfl (oP (pf oz yeg) rfl (oA (Yd oz ot (pA 2 rfl) ld3 ynm) (pA 2 rfl) rfl rfl (fun _ _ => ?_)))))
 refine tn (nn (sq (Xh (Qq 1 rfl) 12 (oT rfl) (rg (mv rfl rfl (oA (aC (Qkc _ (by omega)) yk0 (oc (oT rfl) oN) pR) pR rfl rfl (fun _ _ => ?_)))))))
 refine oP (Zb (d := kD) (v0 := ([], [])) (ps := [(0, 1), (1, 1)]) z44 (by kernel_rfl) rfl (Qk rfl (Qf.fst (a := kL) (b := kL)) oz Qc)) rfl (oA (asv oz oz (pA 1 rfl) yh2) (pA 1 rfl) rfl rfl (fun _ _ => ?_))
 refine ak rfl (tn (nn (tR ?_)))
 exact Zl .ret (.inl rfl) rfl (0, re2, rs2, Ek, S ++ F) oz (mA 0 rfl) yh2 oz (fun _ _ h => (by show (Y1 [kD.T (Vo S (S ++ F), Vo (S ++ F) S), I64 0]).p _ _; rw [← hnew, hnw3]; exact h)) hsay (pd pl)
end Go.Proofs.YtklhdalppmjnaaaGreatDoor
namespace Go.Proofs
open Go.Shelf Go.RowKit Go.Lib
theorem Tryz.notLow_sp (w : World) : PredAt Tryz.prog 85 #[] encR U5 w := fun W r _ => by
 unfold FnGives
 by_cases h1 : r < 97 <;> by_cases h2 : 122 < r
 all_goals
  have z1 : (r : Int) < 97 ↔ r < 97 := by omega
  have z2 : (122 : Int) < (r : Int) ↔ 122 < r := by omega
  go_enter Tryz.func85, Tryz.ntmps85
  go_wp2
  all_goals first | (exfalso; omega) | (go_ret; exact ⟨by simp [h1, h2], 0, rfl⟩)
theorem Tryz.contains_sp (s : ByteArray) (w : World) : Calls Tryz.prog 83 #[.string s, .func (.func 85) #[] #[]] w fun e w' => e = .returned (.bool (decide (0 ≤ Lib.idxFunc U5 true s))) ∧ Below w.heap.size w w' :=
 Any.strings_ContainsFunc Tryz.lCfunc 85 #[] (enters_of Tryz.func85 (by kernel_rfl) rfl) U5 s w (Tryz.notLow_sp w)
end Go.Proofs
namespace Go.Proofs.YtklhdalppmjnaaaGreatDoor
open Go Go.Gw Go.So Go.Tu Go.Jn Go.MapKept Go.RowKit
open Go.Dr hiding Pr
theorem Qjb {K0 : FH} {n0 : Nat} (l : List UInt8) : CtM K0 n0 Tryz.prog 83 [BsT l, IsV (.func (.func 85) #[] #[])] [] Unit (fun _ => Xe (!l.all Qbj)) (fun _ => []) (fun _ => True) :=
 Qlx fun H w args hK hon hA => by
  obtain ⟨u, v, rfl, hu, hv⟩ := Qqe hA
  obtain rfl : u = .string (bs l) := hu
  obtain rfl : v = .func (.func 85) #[] #[] := hv
  refine (Tryz.contains_sp (bs l) w).mono fun e w' ⟨he, hb⟩ => ⟨_, he, ?_, hb⟩
  show _ = Value.bool _
  unfold Lib.idxFunc
  rw [Qkr l _ 0 (by rw [Qd6]; omega), List.drop_zero]
def Jo (lab : Lab) (es : List Ed) : List Pr := (es.filter fun e => decide (e.2.1 = lab)).map fun e => (e.1, e.2.2)
theorem Qjz {lab : Lab} {es : List Ed} {k : Nat} (hk : k < es.length) {e : Ed} (he : at' es (k : Int) = e) : Jo lab (es.take (k + 1)) = if e.2.1 = lab then Jo lab (es.take k) ++ [(e.1, e.2.2)] else Jo lab (es.take k) := by
 unfold Jo
 rw [List.take_succ_eq_append_getElem hk, List.filter_append, ← he, Q1 hk, List.map_append]
 split
 · rename_i h; simp [h]
 rename_i h; simp [h]
theorem Qcb (lab : Lab) (es : List Ed) : (Jo lab es).length ≤ es.length := by unfold Jo; rw [List.length_map]; exact List.length_filter_le _ _
abbrev rwF (m : List Fr) (n : Int) : List Int := ((lkp n m).getD (Qo, [])).2
structure Qc6 (P : List Pr) (m : List Fr) (N : Nat) : Prop where
 nd : (keys m).Nodup
 mem : ∀ u v, v ∈ rwF m u ↔ (u, v) ∈ P
 key : ∀ u ∈ keys m, ∃ v, (u, v) ∈ P
 len : ∀ u, (rwF m u).length ≤ N
 num : m.length ≤ N
theorem Q3u : Qc6 [] [] 0 := ⟨List.nodup_nil, fun u v => by simp [rwF, lkp], fun u h => (nomatch h), fun u => Nat.le_refl _, Nat.le_refl _⟩
theorem Qg1 {m : List Fr} {n u : Int} {x : Value × List Int} : rwF (ptk n x m) u = if n = u then x.2 else rwF m u := by
 unfold rwF; rw [Xl]; split <;> rfl
theorem Km {κ α : Type} [DecidableEq κ] {m : List (κ × α)} {n u : κ} {x : α} : u ∈ keys (ptk n x m) ↔ u = n ∨ u ∈ keys m := by
 rw [← Classical.not_not (a := u ∈ keys (ptk n x m)), ← Xx, Xl]
 by_cases e : n = u
 · subst e; simp
 rw [if_neg e, Xx, Classical.not_not]; exact ⟨.inr, fun h => h.resolve_left fun h2 => e h2.symm⟩
theorem Qc6.put {P : List Pr} {m : List Fr} {N : Nat} (h : Qc6 P m N) {u v : Int} {w : Value} : Qc6 (P ++ [(u, v)]) (ptk u (w, rwF m u ++ [v]) m) (N + 1) where
 nd := Yr h.nd
 mem := fun a b => by
  rw [Qg1, List.mem_append, List.mem_singleton]
  by_cases e : u = a
  · subst e; rw [if_pos rfl, List.mem_append, List.mem_singleton, h.mem]; simp
  rw [if_neg e, h.mem]
  exact ⟨.inl, fun q => q.resolve_right fun q2 => e (congrArg Prod.fst q2).symm⟩
 key := fun a ha => by
  rcases Km.1 ha with rfl | ha
  · exact ⟨v, List.mem_append_right _ (by simp)⟩
  obtain ⟨b, hb⟩ := h.key a ha; exact ⟨b, List.mem_append_left _ hb⟩
 len := fun a => by
  rw [Qg1]
  split
  · show (rwF m u ++ [v]).length ≤ _; rw [List.length_append, List.length_singleton]; have := h.len u; omega
  have := h.len a; omega
 num := by have := Qy8 (k := u) (x := (w, rwF m u ++ [v])) (m := m); have := h.num; omega
theorem Qc6.set {P : List Pr} {m : List Fr} {N : Nat} (h : Qc6 P m N) {u : Int} {w : Value} {zs : List Int} (hu : u ∈ keys m) (hz : ∀ x, x ∈ zs ↔ x ∈ rwF m u) (hl : zs.length ≤ (rwF m u).length) : Qc6 P (ptk u (w, zs) m) N where
 nd := Yr h.nd
 mem := fun a b => by
  rw [Qg1]
  split
  · rename_i e; subst e; show b ∈ zs ↔ _; rw [hz, h.mem]
  exact h.mem a b
 key := fun a ha => by
  rcases Km.1 ha with rfl | ha
  · exact h.key _ hu
  exact h.key a ha
 len := fun a => by
  rw [Qg1]
  split
  · show zs.length ≤ _; have := h.len u; omega
  exact h.len a
 num := by
  have : (ptk u (w, zs) m).length = m.length := by have := congrArg List.length (Qin (v := (w, zs)) h.nd hu); simpa [keys] using this
  rw [this]; exact h.num
def Qbm (m : List Fr) : List (Int × List Int) := m.map fun f => (f.1, f.2.2)
theorem Qs6 (m : List Fr) (u : Int) : (lkp u (Qbm m)).getD [] = rwF m u := Qks u m
theorem Qdr (m : List Fr) : keys (Qbm m) = keys m := by simp [Qbm, keys]
theorem Q48 (g : Nat) (m : List Fr) : Frz (Qg g encI IsV (hdV m) :: m.map frI) fun H => (Qhj encI (ksl kI).T (Qbm m)).p H (mp g) := by
 have h1 : Frz (m.map frI) fun H => ∀ f ∈ m, (SlT kI f.2.2).p H f.2.1 := Frz.map_ (f := frI) (Q := fun f H => (SlT kI f.2.2).p H f.2.1) (fun f => Qa2.ty) m fun f => Frz.own
 refine ((Frz.mapI (g := g) (enc := encI) (V := IsV) (m := hdV m)).cons Qa2.ty h1).imp ?_
 rintro H ⟨q1, q2⟩
 rcases q1 with ⟨h, _⟩ | ⟨g', es, clock, h1, h2, h3⟩
 · cases h
 refine .inr ⟨g', es, clock, h1, h2, ?_, fun i e p hi hp => ?_, ?_, h3.bn, h3.lt⟩
 · rw [h3.key]; unfold hdV Qbm; rw [List.map_map, List.map_map]; rfl
 · unfold Qbm at hp
   rw [List.getElem?_map] at hp
   cases hm : m[i]? with
   | none => rw [hm] at hp; cases hp
   | some f =>
    rw [hm] at hp
    cases hp
    have h4 := h3.val i e (f.1, f.2.1) hi (by unfold hdV; rw [List.getElem?_map, hm]; rfl)
    rw [show e.val = f.2.1 from h4]
    exact q2 f (List.mem_of_getElem? hm)
 have := h3.nd
 unfold hdV keys at this
 rw [Qdr]
 unfold keys
 rw [List.map_map] at this
 exact this
section
variable {C : Cx} {Γ : Env} {L : List It} {φ : Act → World → Prop} {m : List Fr}
theorem Qj0 (X : List It) (n : Int) (hL : L = X ++ m.map frI) (h : Tr C Γ (Qh 3 kI ((lkp n (hdV m)).getD Qo) (rwF m n) :: (X ++ (dlk n m).map frI)) φ) : Tr C Γ L φ := by
 subst hL
 refine Qh0 n (m := m) (R := X) List.perm_append_comm (Q4 (List.Perm.cons _ List.perm_append_comm) h)
end
structure Qnm (P : List Pr) (a : Int) (seen : List (Int × Int)) (todo : List Int) (B : Nat) : Prop where
 nd : (keys seen).Nodup
 s : ∀ x ∈ keys seen, TC P a x
 t : ∀ x ∈ todo, TC P a x
 c : ∀ x ∈ keys seen, ∀ v, (x, v) ∈ P → v ∈ keys seen ∨ v ∈ todo
 a : ∀ v, (a, v) ∈ P → v ∈ keys seen ∨ v ∈ todo
 n : ∀ x c, lkp x seen = some c → 1 ≤ c ∧ c ≤ (B : Int)
def left (m : List (Int × List Int)) (seen : List Int) : Nat := (m.map fun f => if f.1 ∈ seen then 0 else f.2.length).sum
theorem Qxh {m : List (Int × List Int)} {s : List Int} {x : Int} (hx : x ∉ s) (hn : (keys m).Nodup) : left m (x :: s) + ((lkp x m).getD []).length = left m s := by
 induction m with
 | nil => simp [left, lkp]
 | cons f m ih =>
  have hn2 : f.1 ∉ keys m ∧ (keys m).Nodup := List.nodup_cons.1 hn
  have ih := ih hn2.2
  unfold left at ih ⊢
  simp only [List.map_cons, List.sum_cons, lkp]
  by_cases e : f.1 = x
  · have hl : lkp x m = none := Xx.2 (e ▸ hn2.1)
    rw [hl] at ih
    simp only [Option.getD_none, List.length_nil, Nat.add_zero] at ih
    have h1 : f.1 ∈ x :: s := by rw [e]; exact List.mem_cons_self
    have h2 : f.1 ∉ s := by rw [e]; exact hx
    simp only [if_pos h1, if_neg h2, if_pos e, Option.getD_some]; omega
  have h1 : f.1 ∈ x :: s ↔ f.1 ∈ s := ⟨fun h => (List.mem_cons.1 h).resolve_left e, List.mem_cons_of_mem _⟩
  simp only [h1, if_neg e]; omega
theorem Qiv {m : List (Int × List Int)} {s s' : List Int} (h : ∀ x, x ∈ s ↔ x ∈ s') : left m s = left m s' := by unfold left; simp only [h]
theorem Qxi {m : List (Int × List Int)} {s : List Int} {N : Nat} (h : ∀ f ∈ m, f.2.length ≤ N) : left m s ≤ m.length * N := by
 unfold left
 induction m with
 | nil => simp
 | cons f m ih =>
  have h1 := h f List.mem_cons_self
  have h2 := ih fun g hg => h g (List.mem_cons_of_mem _ hg)
  simp only [List.map_cons, List.sum_cons, List.length_cons, Nat.succ_mul]
  split <;> omega
theorem Qpj {P : List Pr} {a : Int} {row : List Int} {B : Nat} (h : ∀ v, v ∈ row ↔ (a, v) ∈ P) : Qnm P a [] row B := ⟨List.nodup_nil, fun x h => (nomatch h), fun x hx => .one ((h x).1 hx), fun x h => (nomatch h), fun v hv => .inr ((h v).2 hv), fun x c h => (nomatch h)⟩
theorem Qxj {P : List Pr} {a n c : Int} {seen : List (Int × Int)} {todo : List Int} {B B' : Nat} (h : Qnm P a seen (todo ++ [n]) B) (hn : lkp n seen = some c) (hB : B + 1 ≤ B') : Qnm P a (ptk n (c + 1) seen) todo B' := by
 have hk : n ∈ keys seen := Classical.byContradiction fun q => by rw [Xx.2 q] at hn; cases hn
 have hkk : ∀ x, x ∈ keys (ptk n (c + 1) seen) ↔ x ∈ keys seen := fun x => by rw [Km]; exact ⟨fun q => q.elim (fun e => e ▸ hk) id, .inr⟩
 have hT : ∀ v, v ∈ keys seen ∨ v ∈ todo ++ [n] → v ∈ keys (ptk n (c + 1) seen) ∨ v ∈ todo := fun v q => by
  rw [hkk]
  rcases q with q | q
  · exact .inl q
  rcases List.mem_append.1 q with q | q
  · exact .inr q
  rw [List.mem_singleton.1 q]; exact .inl hk
 refine ⟨Yr h.nd, fun x hx => h.s x ((hkk x).1 hx), fun x hx => h.t x (List.mem_append_left _ hx), fun x hx v hv => hT v (h.c x ((hkk x).1 hx) v hv), fun v hv => hT v (h.a v hv), fun x c' hc => ?_⟩
 rw [Xl] at hc
 split at hc
 · cases hc; have := h.n n c hn; omega
 have := h.n x c' hc; omega
theorem Qxk {P : List Pr} {a n : Int} {seen : List (Int × Int)} {todo row : List Int} {B B' : Nat} (h : Qnm P a seen (todo ++ [n]) B) (hn : lkp n seen = none) (hr : ∀ v, v ∈ row ↔ (n, v) ∈ P) (hB : B + 1 ≤ B') : Qnm P a (ptk n 1 seen) (todo ++ row) B' := by
 have hkk : ∀ x, x ∈ keys (ptk n 1 seen) ↔ x = n ∨ x ∈ keys seen := fun x => Km
 have hna : TC P a n := h.t n (List.mem_append_right _ (by simp))
 have hT : ∀ v, v ∈ keys seen ∨ v ∈ todo ++ [n] → v ∈ keys (ptk n 1 seen) ∨ v ∈ todo ++ row := fun v q => by
  rw [hkk]
  rcases q with q | q
  · exact .inl (.inr q)
  rcases List.mem_append.1 q with q | q
  · exact .inr (List.mem_append_left _ q)
  exact .inl (.inl (List.mem_singleton.1 q))
 refine ⟨Yr h.nd, fun x hx => ?_, fun x hx => ?_, fun x hx v hv => ?_, fun v hv => hT v (h.a v hv), fun x c' hc => ?_⟩
 · rcases (hkk x).1 hx with rfl | hx
   · exact hna
   exact h.s x hx
 · rcases List.mem_append.1 hx with hx | hx
   · exact h.t x (List.mem_append_left _ hx)
   exact hna.trans (.one ((hr x).1 hx))
 · rcases (hkk x).1 hx with rfl | hx
   · exact .inr (List.mem_append_right _ ((hr v).2 hv))
   exact hT v (h.c x hx v hv)
 rw [Xl] at hc
 split at hc
 · cases hc; omega
 have := h.n x c' hc; omega
theorem Qhr {P : List Pr} {a : Int} {seen : List (Int × Int)} {B : Nat} (h : Qnm P a seen [] B) (b : Int) : b ∈ keys seen ↔ TC P a b := by
 refine ⟨h.s b, fun hb => ?_⟩
 have key : ∀ x b, (∀ v, (x, v) ∈ P → v ∈ keys seen) → TC P x b → b ∈ keys seen := by
  intro x b hx ht
  induction ht with
  | one q => exact hx _ q
  | cons q _ ih => exact ih fun v hv => (h.c _ (hx _ q) v hv).resolve_right fun q => by cases q
 exact key a b (fun v hv => (h.a v hv).resolve_right fun q => by cases q) hb
end Go.Proofs.YtklhdalppmjnaaaGreatDoor
namespace Go.Proofs.YtklhdalppmjnaaaGreatDoor
open Go Go.Gw Go.So Go.Tu Go.Jn
open Go.Dr hiding Pr
theorem Q4d (m : List Fr) (u : Int) (v : Int) (w : Value) : ptk u w (hdV m) = hdV (ptk u (w, rwF m u ++ [v]) m) := (Qco u (w, rwF m u ++ [v]) m).symm
theorem Qc6.more {P : List Pr} {m : List Fr} {N : Nat} (h : Qc6 P m N) : Qc6 P m (N + 1) := ⟨h.nd, h.mem, h.key, fun u => by have := h.len u; omega, by have := h.num; omega⟩
theorem Qhz (l : Lab) : ((decide ((l.length : Int) < 1) || decide ((l.length : Int) > 16)) || !l.all Qbj) = !Yt l := by
 have e1 : decide ((l.length : Int) < 1) = !decide ((1 : Int) ≤ (l.length : Int)) := by rw [Bool.eq_iff_iff]; simp only [decide_eq_true_eq, Bool.not_eq_true', decide_eq_false_iff_not]; omega
 have e2 : decide ((l.length : Int) > 16) = !decide ((l.length : Int) ≤ 16) := by rw [Bool.eq_iff_iff]; simp
 rw [← Qji l, e1, e2]
 generalize decide ((1 : Int) ≤ (l.length : Int)) = a
 generalize decide ((l.length : Int) ≤ 16) = b
 generalize l.all Qbj = c
 cases a <;> cases b <;> cases c <;> rfl
theorem Q12 {g : Nat} {RR : It} {m : List Fr} {u : Int} {w : Value} {zs : List Int} {s3 : MS} : Jp (Ju g encI IsV (ptk u w (hdV m)) s3 :: Qh 3 kI w zs :: RR :: (dlk u m).map frI) (RR :: Ju g encI IsV (hdV (ptk u (w, zs) m)) s3 :: (ptk u (w, zs) m).map frI) := by
 rw [Qco]
 refine pc 2 rfl (pc 0 rfl (Yl ?_))
 exact (Qb2 (n := u) (x := (w, zs)) (m := m)).symm
theorem Q4e {g : Nat} {B : It} {m : List Fr} {u v : Int} {w : Value} : Jp (Qg g encI IsV (ptk u w (hdV m)) :: Qh 3 kI w (rwF m u ++ [v]) :: B :: (dlk u m).map frI) (Qg g encI IsV (hdV (ptk u (w, rwF m u ++ [v]) m)) :: (ptk u (w, rwF m u ++ [v]) m).map frI) := by
 rw [← Q4d]
 refine pc 0 rfl (Jz (pc 0 rfl (pd pl)) (Yl ?_))
 exact (Qb2 (n := u) (x := (w, rwF m u ++ [v])) (m := m)).symm

/-- rhizome/span.bad -/
theorem Qyl (l : Lab) : Ct Tryz.prog 55 [BsT l] ([]) Unit (fun _ => Xe (!Yt l)) (fun _ => []) (fun _ => True) := by
 refine Qn Tryz.func55 rfl rfl ?_
 intro H w
 refine sq (rg (ak rfl (tn (nn (sq (rg (mv rfl rfl (oP (Wt Tryz.underlying9 oz) rfl (oP (Q5 oz ot) rfl (mv rfl rfl (oG rfl rfl rfl (gm oz) (fun hg => by (have hg1 := hg.2; (try simp only [cq2] at hg1); exact Qm oz)) rfl ?_)))))))))))
 refine oG rfl rfl rfl (gm oz) (fun hg => by (have hg1 := hg.2; (try simp only [cq2] at hg1); exact Wt Tryz.underlying9 (gu oz hg))) rfl ?_
 refine oG rfl rfl rfl (gm oz) (fun hg => by (have hg1 := hg.2; (try simp only [cq2] at hg1); exact Y3 (gu oz hg) ot)) rfl ?_
 refine oP (Zx oz oz) rfl (mv rfl rfl (oG rfl rfl rfl (gm oz) (fun hg => by (have hg1 := hg.2; (try simp only [cq2] at hg1); exact Qm oz)) rfl ?_))
 refine Zw () rfl rfl rfl (gm oz) (fun hg => by (have hg1 := hg.2; (try simp only [cq2] at hg1); exact Zo (Qjb (K0 := noK) (n0 := 0) _) J1 yu6 (oc (gu oz hg) (oc OT.func oN)) pR)) rfl (fun _ _ => ?_)
 refine oP (Zx oz oz) rfl (av rfl rfl (tn (nn (tR ?_))))
 exact Qi .ret (.inl rfl) rfl () (OT.val oz (congrArg Value.bool (Qhz l))) trivial (by exact pn)
/-- rhizome/span.next -/
theorem Qt0 (lab : Lab) (es : List Ed) (hm : es.length ≤ 100000) : Ct Tryz.prog 56 [BsT lab, SlT kE es] ([]) (List Fr) (fun m => Qhj encI (ksl kI).T (Qbm m)) (fun _ => []) (fun m => Qc6 (Jo lab es) m es.length) := by
 refine Qn Tryz.func56 rfl rfl ?_
 intro H w
 refine sq (rg (ak rfl (tn (nn (sq (rg (oA (Q9 encI IsV) pR rfl rfl (fun g1_0 _ => ?_))))))))
 refine av rfl rfl (tn (nn (sq (sq (rg (mv rfl rfl (oP (pls oz Tryz.underlying26) rfl (oP (Qm ot) rfl (tn (nn (tb (Qt (σ := Nat × List Fr) (e4 0 5 11 12 rfl en) (fun s => [(13, I64 (s.1 : Int))]) (fun s => Qg g1_0 encI IsV (hdV s.2) :: s.2.map frI) (fun s => s.1 ≤ es.length ∧ Qc6 (Jo lab (es.take s.1)) s.2 s.1) (fun s => es.length - s.1) (0, []) ⟨Nat.zero_le _, Q3u⟩ ?_ (op pl) ?_))))))))))))
 · exact (ec 13 rfl en)
 rintro ⟨k, m⟩ ⟨hk, hin⟩
 dsimp only at hk hin ⊢
 refine sq (rg (oP (Q5 oz oz) rfl (tn (nn (sq (tc oz (fun c14 => ?_) (fun c14 => ?_)))))))
 · refine sk (nn (sq (tb (sq ?_))))
   have hkl : k < es.length := by simp only [decide_eq_true_eq] at c14; omega
   obtain ⟨e, he⟩ : ∃ e, at' es (k : Int) = e := ⟨_, rfl⟩
   have hst := Qjz (lab := lab) hkl he
   refine rg (oP (Qj oz oz Tryz.underlying26 y16 (by omega) (by omega)) rfl (oP (pL oz y16) rfl (oA (Qz (zE)) pR rfl rfl (fun g4_2 _ => ?_))))
   refine oA (asv oz oz (pA 0 rfl) y16) (pA 0 rfl) rfl rfl (fun _ _ => ?_)
   refine tn ?_
   rw [he]
   refine nn (sq (rg (oP (pf oz yh3) rfl (oP (plb oz (mA 0 rfl) le1 ylw) rfl (mv rfl rfl (oP (Vz oz oz) rfl (tn (nn (tc oz (fun c20 => ?_) (fun c20 => ?_))))))))))
   · have hlb : e.2.1 = lab := of_decide_eq_true c20
     rw [if_pos hlb] at hst
     have hln := hin.len e.1
     refine Qj0 [_, _] e.1 rfl ?_
     apply Yg (ρ := Value) (φ := fun rr => True) (p := 10) (Lf := fun c rr => cond c (Qh 3 kI rr (rwF m e.1 ++ [e.2.2]) :: Qb g4_2 42 kE e :: Qg g1_0 encI IsV (hdV m) :: (dlk e.1 m).map frI) (Qh 3 kI ((lkp e.1 (hdV m)).getD Qo) (rwF m e.1) :: Qb g4_2 42 kE e :: Qg g1_0 encI IsV (hdV m) :: (dlk e.1 m).map frI)) Qo (by kernel_rfl) (m := 11) (ns := [[(5, none)], [(7, none)], [(22, some 1)], [(5, none)], [(7, none)], [(25, some 4)], [(24, some 3), (26, some 5)], [(7, none)], [(28, some 7)], [(29, some 8)], [(27, some 6), (30, some 9)]]) (by kernel_rfl) (by kernel_rfl) (Ts := fun rr => [_, _, _, _, _, _, _, _, _, SlT kI [e.2.2], IsV rr]) (fun _ => rfl)
     case hops =>
      refine ⟨?_, ?_, ?_, ?_, ?_, ?_, ?_, ?_, ?_, ?_, ?_, trivial⟩
      · exact ⟨by intro c r hc; cases c <;> exact rgo r rfl ⟨rfl, trivial⟩ (rmv rfl), fun _ _ _ _ => rfl⟩
      · exact ⟨by intro c r hc; cases c <;> exact rgo r rfl ⟨rfl, trivial⟩ (rP (pf oz ye8)), fun _ _ _ _ => rfl⟩
      · exact ⟨by intro c r hc; cases c <;> exact rgo r rfl ⟨rfl, trivial⟩ (rP (plb oz (mA 1 rfl) le0 ynm)), fun _ _ _ _ => rfl⟩
      · exact ⟨cBf (by kernel_rfl) fun r _ => rgo r rfl ⟨rfl, trivial⟩ (rmv rfl), fun _ _ _ _ => rfl⟩
      · exact ⟨cBf (by kernel_rfl) fun r _ => rgo r rfl ⟨rfl, trivial⟩ (rP (pf oz ye8)), fun _ _ _ _ => rfl⟩
      · exact ⟨cBf (by kernel_rfl) fun r _ => rgo r rfl ⟨rfl, trivial⟩ (rP (plb oz (mA 1 rfl) le0 ynm)), fun _ _ _ _ => rfl⟩
      · exact ⟨cBf (by kernel_rfl) fun r _ => rgo r rfl ⟨rfl, trivial⟩ (rP (X7 mkI Tryz.underlying120 (z0 := Qo) (by kernel_rfl) oz (mA 2 rfl) oz)), fun _ _ _ _ => rfl⟩
      · exact ⟨cBf (by kernel_rfl) fun r _ => rgo r rfl ⟨rfl, trivial⟩ (rP (pf oz y9l)), fun _ _ _ _ => rfl⟩
      · exact ⟨cBf (by kernel_rfl) fun r _ => rgo r rfl ⟨rfl, trivial⟩ (rP (plb oz (mA 1 rfl) le2 ynm)), fun _ _ _ _ => rfl⟩
      · exact ⟨cBf (by kernel_rfl) fun r _ => rgo r rfl ⟨rfl, trivial⟩ (Zc rfl (Q7 (d := kI) (v0 := 0) y9t ynm zI (show 1 * 1 ≤ 16777216 from by decide) (by decide) (Qv rfl rfl (by decide) oz Qc)) (fun _ _ _ _ h => h)), fun _ _ _ _ => rfl⟩
      refine ⟨?_, ?_⟩
      · exact cBf (by kernel_rfl) fun r _ => Zg rfl (Q0 oz (pA 0 rfl) oz y9t (by (simp; omega)) (by (simp [maxLen]; omega))) (pA 0 rfl) (fun r => pR) (fun _ _ _ => trivial) (fun _ _ _ _ h => h)
      exact fun _ h => absurd h (by decide)
     case h =>
      intro v6_10 _
      refine oA (X4 mkI Tryz.underlying120 oz (pA 2 rfl) oz oz) (pA 2 rfl) rfl rfl (fun _ _ => ?_)
      refine tn (bn (nn (rg (oP (pad oz ot (by omega)) rfl (mv rfl rfl (tn (nn ?_)))))))
      exact tg (k + 1, ptk e.1 (v6_10, rwF m e.1 ++ [e.2.2]) m) ⟨hkl, by rw [hst]; exact hin.put⟩ (by show es.length - (k + 1) < es.length - k; omega) ef (op Q4e)
   have hlb : ¬ e.2.1 = lab := of_decide_eq_false c20
   rw [if_neg hlb] at hst
   refine sk (bn (nn (rg (oP (pad oz ot (by omega)) rfl (mv rfl rfl (tn (nn ?_)))))))
   exact tg (k + 1, m) ⟨hkl, by rw [hst]; exact Qc6.more hin⟩ (by show es.length - (k + 1) < es.length - k; omega) ef (op (pd pl))
 refine Qx (tx (tx (bh (nn (sq (sq ?_))))))
 obtain rfl : k = es.length := by simp only [decide_eq_false_iff_not] at c14; omega
 rw [List.take_length] at hin
 refine W7 (Qq 0 rfl) fun s0 => (rg (mv rfl rfl (oA (Z0 Tryz.underlying120 oz (mA 0 rfl)) pR rfl rfl (fun r8_1 hr8_1 => ?_))))
 refine tn (nn (tb (Qt (σ := IS × List Int × Option Int × List Fr × MS) (e2 5 34 rfl en) (fun s => []) (fun s => K4 r8_1.1 g1_0 s.1 :: Ju g1_0 encI IsV (hdV s.2.2.2.1) s.2.2.2.2 :: s.2.2.2.1.map frI) (fun s => Jk (hdV s.2.2.2.1) s.2.2.2.2 s.1 s.2.1 s.2.2.1 ∧ Qc6 (Jo lab es) s.2.2.2.1 es.length) (fun s => s.2.1.length) (r8_1.2, keys (hdV m), none, m, s0) ⟨hr8_1, hin⟩ ?_ (op pl) ?_)))
 · exact en
 rintro ⟨i, todo, cur, m2, s0⟩ ⟨hok, hin2⟩
 dsimp only at hok hin2 ⊢
 refine sq (rg (oA (Z1 oz (Zz 1 rfl) (Qq 0 rfl) hok) (Qq 0 rfl) rfl rfl (fun q9_0 hq9_0 => ?_)))
 refine oP (J6 oz) rfl (tn (nn (sq (tc oz (fun c36 => ?_) (fun c36 => ?_)))))
 · obtain ⟨i2, o2⟩ := q9_0
   obtain ⟨key, rfl⟩ : ∃ k, o2 = some k := by
    cases o2 with
    | none => exact Bool.noConfusion c36
    | some k => exact ⟨k, rfl⟩
   dsimp only at hq9_0 c36 ⊢
   obtain ⟨hkt, hok2⟩ := hq9_0
   obtain ⟨x, hx⟩ : ∃ x, lkp key m2 = some x := by
    have h1 := hok.sub _ hkt
    rw [show keys (hdV m2) = keys m2 from keys_map (fun x : Value × List Int => x.1)] at h1
    exact Qca h1
   have hkm : key ∈ keys m2 := by
    have h1 := hok.sub _ hkt
    rwa [show keys (hdV m2) = keys m2 from keys_map (fun x : Value × List Int => x.1)] at h1
   have hbv : lkp key (hdV m2) = some x.1 := by unfold hdV; rw [W5 (fun x : Value × List Int => x.1), hx]; rfl
   have hbv2 : (lkp key (hdV m2)).getD Qo = x.1 := by rw [hbv]; rfl
   have hln := hin2.len key
   have hle : (todo.erase key).length < todo.length := by
    have h1 := List.length_erase_of_mem hkt
    have h2 := List.length_pos_of_mem hkt
    omega
   refine sk (nn (tb (sq (rg (oP (Ye (D := IsV _) oz (Zz 0 rfl) (Zz 1 rfl) hok2 hbv (fun H => rfl)) rfl (oP (Qd oz rfl) rfl (oP (Qd oz rfl) rfl (av rfl rfl (av rfl rfl (tn (nn (sq (Qj0 [_, _] key rfl ?_)))))))))))))
   rw [hbv2]
   refine rg (mv rfl rfl (oA (aC (Qnj (by omega)) y0p (oc oz oN) (Qq 0 rfl)) (Qq 0 rfl) rfl rfl fun ys hys => (tn (nn (rg (mv rfl rfl (mv rfl rfl (mv rfl rfl (oA (aC (Qip (xs := ys) (by have := hys.length_eq; omega)) yej (oc oz oN) (Qq 0 rfl)) (Qq 0 rfl) rfl rfl fun zs hzs => ?_)))))))))
   refine oA (Qgl (V := IsV) (v := zs.1) mkI Tryz.underlying120 oz (Qq 2 rfl) oz oz (hok.sub _ hkt)) (Qq 2 rfl) rfl rfl (fun s3 hs3 => ?_)
   refine tn ?_
   have hok3 := hs3 _ _ _ hok2
   refine bn (nn ?_)
   exact tg (i2, todo.erase key, none, ptk key (zs.1, zs.2) m2, s3) ⟨by show Jk (hdV (ptk key (zs.1, zs.2) m2)) _ _ _ _; rw [Qco]; exact hok3, hin2.set hkm (fun y => by rw [hzs.1, hys.mem_iff]) (by have := hys.length_eq; have := hzs.2; omega)⟩ hle ef (op Q12)
 obtain ⟨i2, o2⟩ := q9_0
 obtain rfl : o2 = none := by
  cases o2 with
  | none => rfl
  | some k => exact Bool.noConfusion c36
 dsimp only at hq9_0 ⊢
 obtain ⟨rfl, hok2⟩ := hq9_0
 exact Uv (Qq 1 rfl) (Qx (tx (tx (bh (nn (sq (rg (mv rfl rfl (av rfl rfl (tn (Qhs (Q48 g1_0 m2) (R := [K4 r8_1.1 g1_0 i2]) (List.Perm.cons _ (List.perm_append_singleton _ _).symm) 4 oz (fun H q => q) (nn (tR (Qi .ret (.inl rfl) rfl m2 oz hin2 pn))))))))))))))
end Go.Proofs.YtklhdalppmjnaaaGreatDoor
namespace Go.Proofs.YtklhdalppmjnaaaGreatDoor
open Go Go.Gw Go.So Go.Tu Go.Jn
open Go.Dr hiding Pr
theorem Qym {l : List Int} (h : 0 < l.length) : l.take (l.length - 1) ++ [at' l ((l.length : Int) - 1)] = l := by
 have e : ((l.length : Int) - 1) = ((l.length - 1 : Nat) : Int) := by omega
 rw [e, Q1 (by omega), ← List.take_succ_eq_append_getElem (by omega), show l.length - 1 + 1 = l.length from by omega, List.take_length]
/-- The pairs that rows tell. -/
structure Rows (P : List Pr) (m : List (Int × List Int)) (N : Nat) : Prop where
 nd : (keys m).Nodup
 mem : ∀ u v, v ∈ (lkp u m).getD [] ↔ (u, v) ∈ P
 len : ∀ f ∈ m, f.2.length ≤ N
 num : m.length ≤ N
theorem Qc6.rows {P : List Pr} {m : List Fr} {N : Nat} (h : Qc6 P m N) : Rows P (Qbm m) N := ⟨by rw [Qdr]; exact h.nd, fun u v => by rw [Qs6]; exact h.mem u v, fun f hf => by
 obtain ⟨x, hx, rfl⟩ := List.mem_map.1 hf
 have h1 := h.len x.1
 unfold rwF at h1
 obtain ⟨j, hj⟩ := List.getElem?_of_mem hx
 rw [Qhf (x := x.2) h.nd hj] at h1
 exact h1, by rw [Qbm, List.length_map]; exact h.num⟩
theorem Rows.row {P : List Pr} {m : List (Int × List Int)} {N : Nat} (h : Rows P m N) (u : Int) : ((lkp u m).getD []).length ≤ N := by
 cases hl : lkp u m with
 | none => exact Nat.zero_le _
 | some l => exact h.len _ (Qd7 hl)
abbrev mW (m : List (Int × List Int)) (seen : List (Int × Int)) (todo : List Int) : Nat := todo.length + left m (keys seen)
theorem Q4f {P : List Pr} {m : List (Int × List Int)} {N : Nat} (h : Rows P m N) {seen : List (Int × Int)} {todo : List Int} {n : Int} (hn : lkp n seen = none) : mW m (ptk n 1 seen) (todo ++ (lkp n m).getD []) + 1 = mW m seen (todo ++ [n]) := by
 unfold mW
 have h1 := Qxh (x := n) (Xx.1 hn) h.nd
 have h2 : left m (keys (ptk n 1 seen)) = left m (n :: keys seen) := Qiv fun x => by rw [Km, List.mem_cons]
 rw [List.length_append, List.length_append, List.length_singleton, h2]; omega
theorem Q4g {m : List (Int × List Int)} {seen : List (Int × Int)} {todo : List Int} {n c : Int} (hn : lkp n seen = some c) : mW m (ptk n (c + 1) seen) todo + 1 = mW m seen (todo ++ [n]) := by
 unfold mW
 have hk : n ∈ keys seen := Classical.byContradiction fun q => by rw [Xx.2 q] at hn; cases hn
 have h2 : left m (keys (ptk n (c + 1) seen)) = left m (keys seen) := Qiv fun x => by rw [Km]; exact ⟨fun q => q.elim (fun e => e ▸ hk) id, .inr⟩
 rw [List.length_append, List.length_singleton, h2]; omega
theorem Q5h {P : List Pr} {m : List (Int × List Int)} {N : Nat} (h : Rows P m N) (u : Int) : mW m [] ((lkp u m).getD []) ≤ N + N * N := by
 unfold mW
 have h1 := h.row u
 have h2 := Qxi (s := keys ([] : List (Int × Int))) h.len
 have h3 : m.length * N ≤ N * N := Nat.mul_le_mul_right _ h.num
 omega

/-- slices.Clone[[]int,int] -/
theorem Qt1 (xs : List Int) (hm : xs.length ≤ 1000000) : Ct Tryz.prog 90 [SlT kI xs] ([]) Value (fun v => IsV v) (fun v => [Qh 3 kI v xs]) (fun _ => True) := by
 refine Qn Tryz.func90 rfl rfl ?_
 intro H w
 refine sq (rg (ak rfl (tn (nn (sq (sq (rg (mv rfl rfl (oA (Wr oz Tryz.underlying50) pR rfl rfl (fun b1 hb1 => ?_))))))))))
 refine tn (nn (tc oz (fun c4 => ?_) (fun c4 => ?_)))
 · try simp only [cq] at c4
   obtain rfl := hb1 c4
   refine Xg 3 kI (sq (rg (ak rfl (tn (nn (tR (tt ?_)))))))
   exact Qi .ret (.inl rfl) rfl Qo oz trivial (by repeat first | exact pn | refine pc 0 rfl ?_)
 · try simp only [cq] at c4
   refine sk (nn (sq (rg (oA (Jf (d := kI) (v0 := 0) y9t ynm zI (show 0 * 1 ≤ 16777216 from by decide) (by decide) Qc) pR rfl rfl (fun v3_0 _ => ?_)))))
   refine mv rfl rfl (oA (Q0 oz (pA 0 rfl) oz y9t (by (simp; omega)) (by (simp [maxLen]; omega))) (pA 0 rfl) rfl rfl (fun v3_2 _ => ?_))
   refine av rfl rfl (tn (nn (tR ?_)))
   exact Qi .ret (.inl rfl) rfl _ oz trivial (by repeat first | exact pn | refine pc 0 rfl ?_)
/-- rhizome/span.reached -/
theorem Qpy (m : List (Int × List Int)) (P : List Pr) (N : Nat) (a : Int) (h : Rows P m N) (hN : N ≤ 1000) : Ct Tryz.prog 59 [Qhj encI (ksl kI).T m, I64 a] ([]) (Nat × List (Int × Int)) (fun q => IsV (mp q.1)) (fun q => [Qg q.1 encI kI.T q.2]) (fun q => (keys q.2).Nodup ∧ ∀ b, b ∈ keys q.2 ↔ TC P a b) := by
 refine Qn Tryz.func59 rfl rfl ?_
 intro H w
 have hB := Q5h h a
 have hNN : N * N ≤ 1000 * N := Nat.mul_le_mul_right _ hN
 have hra := h.row a
 obtain ⟨B, hBe⟩ : ∃ B, mW m [] ((lkp a m).getD []) = B := ⟨_, rfl⟩
 refine sq (rg (ak rfl (tn (nn (sq (rg (oA (Q9 encI kI.T) pR rfl rfl (fun g1_0 _ => ?_))))))))
 refine av rfl rfl (tn (nn (sq (sq (rg (mv rfl rfl (mv rfl rfl (oP (V0 mkI Tryz.underlying120 zLI (oT rfl) (oT rfl)) rfl (oA (aC (Qt1 _ (by omega)) yz1 (oc (oT rfl) oN) pR) pR rfl rfl (fun v2_3 _ => ?_))))))))))
 refine av rfl rfl (tn (nn (tb (Qt (σ := Nat × Value × List Int × List (Int × Int)) (e2 0 5 rfl en) (fun s => [(6, IsV s.2.1)]) (fun s => Qh 3 kI s.2.1 s.2.2.1 :: Qg g1_0 encI kI.T s.2.2.2 :: []) (fun s => Qnm P a s.2.2.2 s.2.2.1 s.1 ∧ mW m s.2.2.2 s.2.2.1 + s.1 = B) (fun s => mW m s.2.2.2 s.2.2.1) (0, v2_3, (lkp a m).getD [], []) ⟨Qpj fun v => h.mem a v, (by show mW m [] ((lkp a m).getD []) + 0 = B; rw [Nat.add_zero]; exact hBe)⟩ ?_ (op (by repeat first | exact pn | refine pc 0 rfl ?_)) ?_))))
 · exact (ec 6 rfl en)
 rintro ⟨k, u, todo, seen⟩ ⟨hw, hk⟩
 dsimp only at hw hk ⊢
 refine sq (sq (rg (mv rfl rfl (oP (Xr oz (mA 0 rfl) Tryz.underlying50) rfl (oP (Y3 oz ot) rfl (tn (nn (tc oz (fun c15 => ?_) (fun c15 => ?_)))))))))
 · refine sk (nn (tb (sq ?_)))
   have hpos : 0 < todo.length := by simp only [decide_eq_true_eq] at c15; omega
   have hcl := Qym hpos
   have htl : todo.length ≤ B := by have h1 : mW m seen todo + k = B := hk; unfold mW at h1; omega
   refine rg (mv rfl rfl (mv rfl rfl (oP (Xr oz (mA 0 rfl) Tryz.underlying50) rfl (oP (Kb oz ot (by omega)) rfl (oP (pio oz (mA 0 rfl) oz Tryz.underlying50 ynm (by omega) (by omega)) rfl (oP (plo oz (mA 0 rfl) (by omega) (by omega) ynm) rfl (av rfl rfl (tn ?_))))))))
   obtain ⟨nod, hnod⟩ : ∃ x, at' todo ((todo.length : Int) - 1) = x := ⟨_, rfl⟩
   rw [hnod] at hcl ⊢
   obtain ⟨td, htd⟩ : ∃ x, todo.take (todo.length - 1) = x := ⟨_, rfl⟩
   rw [htd] at hcl
   refine nn (sq (rg (mv rfl rfl (mv rfl rfl (oP (Xr oz (mA 0 rfl) Tryz.underlying50) rfl (oP (Kb oz ot (by omega)) rfl (oA (Jh oz (pA 0 rfl) oz Tryz.underlying50 ynm (by omega) (by omega)) (pA 0 rfl) rfl rfl (fun v5_4 _ => ?_))))))))
   refine av rfl rfl (tn ?_)
   rw [show ((todo.length : Int) - 1).toNat = todo.length - 1 from by omega, htd]
   have hw2 : Qnm P a seen (td ++ [nod]) k := by rw [hcl]; exact hw
   have hk2 : mW m seen (td ++ [nod]) + k = B := by rw [hcl]; exact hk
   have hkB : k ≤ B := by omega
   have hcb : 0 ≤ (lkp nod seen).getD 0 ∧ (lkp nod seen).getD 0 ≤ (k : Int) := by
    cases hl : lkp nod seen with
    | none => exact ⟨Int.le_refl _, by show (0 : Int) ≤ _; omega⟩
    | some c => have := hw.n nod c hl; exact ⟨by show 0 ≤ c; omega, this.2⟩
   have hrn := h.row nod
   have htdl : td.length ≤ todo.length := by rw [← htd, List.length_take]; omega
   refine nn (sq (rg (mv rfl rfl (mv rfl rfl (oP (Xq mkI Tryz.underlying136 zI oz (mA 1 rfl) oz) rfl (oP (pad oz ot (by omega)) rfl (oA (X4 mkI Tryz.underlying136 oz (pA 1 rfl) oz oz) (pA 1 rfl) rfl rfl (fun _ _ => ?_))))))))
   refine tn (nn (sq (rg (mv rfl rfl (mv rfl rfl (oP (Xq mkI Tryz.underlying136 zI oz (mA 0 rfl) oz) rfl (oP (Zs oz ot) rfl (tn (nn (tc oz (fun c34 => ?_) (fun c34 => ?_)))))))))))
   · have hno : lkp nod seen = none := by
      rw [Xl, if_pos rfl] at c34
      have h1 : (lkp nod seen).getD 0 + 1 = 1 := of_decide_eq_true c34
      cases hl : lkp nod seen with
      | none => rfl
      | some c => have := hw.n nod c hl; rw [hl] at h1; have h1 : c + 1 = 1 := h1; omega
     have h01 : (lkp nod seen).getD 0 + 1 = 1 := by rw [hno]; rfl
     have hmw := Q4f h (todo := td) hno
     refine rg (mv rfl rfl (mv rfl rfl (mv rfl rfl (oP (V0 mkI Tryz.underlying120 zLI oz oz) rfl (oA (Q0 oz (pA 1 rfl) oz y9t (by omega) (by (simp [maxLen]; omega))) (pA 1 rfl) rfl rfl (fun v8_4 _ => ?_))))))
     refine av rfl rfl (tn (bn (nn ?_)))
     exact tg (k + 1, v8_4, td ++ (lkp nod m).getD [], ptk nod 1 seen) ⟨Qxk hw2 hno (fun v => h.mem nod v) (Nat.le_refl _), (by show mW m (ptk nod 1 seen) (td ++ (lkp nod m).getD []) + (k + 1) = B; omega)⟩ (by show mW m (ptk nod 1 seen) (td ++ (lkp nod m).getD []) < mW m seen todo; omega) ef (op (by rw [h01]; exact (by repeat first | exact pn | refine pc 0 rfl ?_)))
   obtain ⟨cc, hcc⟩ : ∃ c, lkp nod seen = some c := by
    rw [Xl, if_pos rfl] at c34
    cases hl : lkp nod seen with
    | none => rw [hl] at c34; cases c34
    | some c => exact ⟨c, rfl⟩
   have h02 : (lkp nod seen).getD 0 + 1 = cc + 1 := by rw [hcc]; rfl
   have hmw := Q4g (m := m) (todo := td) hcc
   refine sk (bn (nn ?_))
   exact tg (k + 1, v5_4, td, ptk nod (cc + 1) seen) ⟨Qxj hw2 hcc (Nat.le_refl _), (by show mW m (ptk nod (cc + 1) seen) td + (k + 1) = B; omega)⟩ (by show mW m (ptk nod (cc + 1) seen) td < mW m seen todo; omega) ef (op (by rw [h02]; exact (by repeat first | exact pn | refine pc 0 rfl ?_ | refine pc 1 rfl ?_)))
 refine Qx (tx (tx (bh (nn (sq ?_)))))
 have htz : todo = [] := by simp only [decide_eq_false_iff_not] at c15; exact List.eq_nil_of_length_eq_zero (by omega)
 subst htz
 have hend := Qhr hw
 refine rg (mv rfl rfl (av rfl rfl (tn (nn (tR ?_)))))
 exact Qi .ret (.inl rfl) rfl (g1_0, seen) oz ⟨hw.nd, hend⟩ (by repeat first | exact pn | refine pc 1 rfl ?_)
abbrev kRw : Kd (List (Int × List Int)) := Q20 encI (ksl kI).T
theorem Qyn (m : List (Int × List Int)) : Ct Tryz.prog 58 [Qhj encI (ksl kI).T m] [] Nat (fun b => IsV (.func (.func 89) #[] #[pt b 0])) (fun b => [Qb b 120 kRw m]) (fun _ => True) :=
 Qq4 (d := kRw) (x := m) Tryz.lKeysL fun H v h => by
  rcases h with ⟨rfl, _⟩ | ⟨g, es, clock, rfl, _⟩
  · exact ⟨none, rfl⟩
  exact ⟨some g, rfl⟩
theorem Qyo {m : List (Int × List Int)} (hin : ∀ v ∈ keys m, Y8 v) (hl : m.length ≤ 1000000) : Uy kRw m [] (keys m) := by
 intro H w cs hon hK hO
 obtain ⟨v, rfl, h⟩ := hK
 refine ⟨v, rfl, ?_⟩
 rcases h with ⟨rfl, rfl⟩ | ⟨g, es, clock, rfl, h1, h2⟩
 · exact .inl ⟨rfl, rfl⟩
 exact .inr ⟨List Int, g, (ksl kI).T, m, es, clock, rfl, hon g _ h1, h2, rfl, hin, hl⟩
theorem Qpz {b : Nat} {m : List (Int × List Int)} (hin : ∀ v ∈ keys m, Y8 v) (hl : m.length ≤ 1000000) : Ct Tryz.prog 57 [IsV (.func (.func 89) #[] #[pt b 0])] [Qb b 120 kRw m] (Value × List Int) (fun r => IsV r.1) (fun r => [Qh 3 kI r.1 r.2, Qb b 120 kRw m]) (fun r => r.2.Perm (keys m)) :=
 Qsx Tryz.lSorted (τ := Tryz.lSort_ren) Tryz.lSort rfl (σ := Tryz.lKeysL_ren) { Tryz.lKeysL with } (enters_of Tryz.func86 (by kernel_rfl) rfl) (enters_of Tryz.func89 (by kernel_rfl) rfl) (Qyo hin hl)
/-- What is listed: pairs of the first k nodes, and some of the next. -/
def PrM (P : List Pr) (l : List Int) (M : List Tp) : Prop := M.Nodup ∧ ∀ t, t ∈ M ↔ ∃ a b : Int, t = [a, b] ∧ a ∈ l ∧ TC P a b
def PrJ (P : List Pr) (M : List Tp) (a : Int) (ks todo : List Int) (M1 : List Tp) : Prop := M1.Nodup ∧ ∀ t, t ∈ M1 ↔ t ∈ M ∨ ∃ b, t = [a, b] ∧ b ∈ ks ∧ b ∉ todo
theorem Qlp {P : List Pr} {M : List Tp} (hn : M.Nodup) (h : ∀ t, t ∈ M → ∃ a b : Int, t = [a, b] ∧ TC P a b) (hP : P.length ≤ 60) : M.length ≤ 3600 := by
 have h1 := Yw (m := P.flatMap fun p => P.map fun q => ([p.1, q.2] : Tp)) hn fun t ht => by
  obtain ⟨a, b, rfl, h1⟩ := h t ht
  obtain ⟨⟨c1, h1⟩, c2, h2⟩ := h1.ends
  exact List.mem_flatMap.2 ⟨_, h1, List.mem_map.2 ⟨_, h2, rfl⟩⟩
 have h2 := Qb3 (fun p : Pr => P.map fun q : Pr => ([p.1, q.2] : Tp)) P.length P fun x hx => by simp
 have h3 : P.length * P.length ≤ 60 * 60 := Nat.mul_le_mul hP hP
 omega
theorem Q4h {P : List Pr} {l : List Int} {M M1 : List Tp} {a : Int} {ks todo : List Int} (hM : PrM P l M) (hk : ∀ b, b ∈ ks ↔ TC P a b) (h : PrJ P M a ks todo M1) : ∀ t, t ∈ M1 → ∃ a b : Int, t = [a, b] ∧ TC P a b := fun t ht => by
 rcases (h.2 t).1 ht with h1 | ⟨b, h1, h2, _⟩
 · obtain ⟨a, b, h1, _, h2⟩ := (hM.2 t).1 h1; exact ⟨a, b, h1, h2⟩
 exact ⟨a, b, h1, (hk b).1 h2⟩
theorem Qt2 {P : List Pr} {l : List Int} {M : List Tp} {a : Int} {ks : List Int} (hM : PrM P l M) : PrJ P M a ks ks M := ⟨hM.1, fun t => ⟨.inl, fun h => h.elim id fun ⟨b, _, h1, h2⟩ => absurd h1 h2⟩⟩
theorem Qyp {P : List Pr} {l : List Int} {M M1 : List Tp} {a b : Int} {ks todo : List Int} (hM : PrM P l M) (ha : a ∉ l) (hn : todo.Nodup) (hb : b ∈ todo) (hbk : b ∈ ks) (h : PrJ P M a ks todo M1) : PrJ P M a ks (todo.erase b) (M1 ++ [[a, b]]) := by
 refine ⟨List.nodup_append.2 ⟨h.1, by simp, fun x hx y hy e => ?_⟩, Qn4 hn hb hbk h.2⟩
 have hy : y = [a, b] := by simpa using hy
 subst hy; subst e
 rcases (h.2 _).1 hx with h1 | ⟨b2, h1, _, h2⟩
 · obtain ⟨a2, b2, h1, h2, _⟩ := (hM.2 _).1 h1
   exact ha ((List.cons.inj h1).1 ▸ h2)
 have : b2 = b := ((List.cons.inj (List.cons.inj h1).2).1).symm
 exact h2 (this ▸ hb)
theorem Q13 {P : List Pr} {l : List Int} {k : Nat} {M M1 : List Tp} {ks : List Int} (hk : k < l.length) (hks : ∀ b, b ∈ ks ↔ TC P (at' l (k : Int)) b) (hM : PrM P (l.take k) M) (h : PrJ P M (at' l (k : Int)) ks [] M1) : PrM P (l.take (k + 1)) M1 := by
 refine ⟨h.1, fun t => ?_⟩
 rw [h.2, hM.2]
 constructor
 · rintro (⟨a, b, h1, h2, h3⟩ | ⟨b, h1, h2, _⟩)
   · exact ⟨a, b, h1, (K9 hk).2 (.inl h2), h3⟩
   exact ⟨_, b, h1, (K9 hk).2 (.inr rfl), (hks b).1 h2⟩
 · rintro ⟨a, b, h1, h2, h3⟩
   rcases (K9 hk).1 h2 with h2 | rfl
   · exact .inl ⟨a, b, h1, h2, h3⟩
   exact .inr ⟨b, h1, (hks b).2 h3, by simp⟩
/-- The span, as tuples. -/
def Wk (P : List Pr) (R : List Tp) : Prop := Ys R ∧ ∀ t, t ∈ R ↔ ∃ a b : Int, t = [a, b] ∧ TC P a b
theorem Qyq {P : List Pr} {m : List (Int × List Int)} {N : Nat} (hr : Rows P m N) {l : List Int} (hl : l.Perm (keys m)) {M : List Tp} (hM : PrM P l M) : Wk P (Jm M) := by
 refine ⟨(Xj M).1, fun t => ?_⟩
 rw [(Xj M).2, hM.2]
 constructor
 · rintro ⟨a, b, h1, _, h2⟩; exact ⟨a, b, h1, h2⟩
 rintro ⟨a, b, h1, h2⟩
 refine ⟨a, b, h1, hl.mem_iff.2 ?_, h2⟩
 obtain ⟨⟨c, hc⟩, _⟩ := h2.ends
 have := (hr.mem a c).2 hc
 cases hq : lkp a m with
 | none => rw [hq] at this; cases this
 | some x => exact Classical.byContradiction fun q => by rw [Xx.2 q] at hq; cases hq
theorem Qp0 {l : List Int} {k : Nat} (hn : l.Nodup) (hk : k < l.length) : at' l (k : Int) ∉ l.take k := by
 rw [Q1 hk]
 intro h
 obtain ⟨j, hj, h2⟩ := List.mem_take_iff_getElem.1 h
 have := (List.getElem_inj hn).1 h2
 omega
theorem Qt3 {P : List Pr} {M : List Tp} (hl : M.length ≤ 3600) (h : ∀ t, t ∈ M → ∃ a b : Int, t = [a, b] ∧ TC P a b) : Small M := ⟨by omega, fun t ht => by obtain ⟨a, b, rfl, _⟩ := h t ht; show (2 : Nat) ≤ _; omega⟩

/-- rhizome/span.Pairs -/
theorem Qn5 (lab : Lab) (es : List Ed) (hm : es.length ≤ 60) (hei : ∀ e ∈ es, Y8 e.1 ∧ Y8 e.2.2) : Ct Tryz.prog 35 [BsT lab, SlT kE es] ([]) (List Tp) (fun R => Y1 [SlT kT R, I64 (if Yt lab then 0 else 1)]) (fun _ => []) (fun R => if Yt lab then Wk (Jo lab es) R else R = []) := by
 refine Qn Tryz.func35 rfl rfl ?_
 intro H w
 refine sq (rg (ak rfl (ak rfl (tn (nn (sq (sq (rg (mv rfl rfl (oA (aC (Qyl lab) yz8 (oc oz oN) pR) pR rfl rfl (fun _ _ => ?_)))))))))))
 refine tn (nn (tc oz (fun c12 => ?_) (fun c12 => ?_)))
 · have hnb : Yt lab = false := by simpa using c12
   refine sq (rg (ak rfl (ak rfl (tn (nn (tR (tt ?_)))))))
   exact Yb .ret (.inl rfl) rfl ([]) (OT.conv oz (fun H u h => Jr h)) (OT.val oz (congrArg (Value.int _) (by rw [hnb]; rfl))) (fun _ _ h => h) (by rw [hnb]; rfl) (by exact pn)
 have hnb : Yt lab = true := by simpa using c12
 refine sk (nn (sq (rg (mv rfl rfl (mv rfl rfl (oA (aC (Qt0 lab es (by omega)) yu3 (oc oz (oc oz oN)) pR) pR rfl rfl (fun m hmx => ?_)))))))
 refine av rfl rfl (tn ?_)
 have hrw := hmx.rows
 have hPl := Qcb lab es
 have hki : ∀ v ∈ keys (Qbm m), Y8 v := fun v hv => by
  rw [Qdr] at hv
  obtain ⟨b, hb⟩ := hmx.key v hv
  obtain ⟨e, he, h1⟩ := List.mem_map.1 hb
  rw [← show e.1 = v from congrArg Prod.fst h1]; exact (hei e (List.mem_filter.1 he).1).1
 have hml := hrw.num
 refine nn (sq (rg (ak rfl (tn (Xg 51 kT (nn (sq (sq (rg (mv rfl rfl (oA (aC (Qyn (Qbm m)) y4p (oc oz oN) pR) pR rfl rfl fun bk _ => (oA (aC (Qpz hki (by omega)) yfo (oc oz oN) (Qq 0 rfl)) (Qq 0 rfl) rfl rfl fun q hq => (oP (Xr oz (mA 0 rfl) Tryz.underlying50) rfl (oP (Qm ot) rfl (tn ?_)))))))))))))))
 have hql := hq.length_eq
 have hq60 : q.2.length ≤ 60 := by rw [hql]; unfold keys; rw [List.length_map]; omega
 have hqn : q.2.Nodup := hq.nodup_iff.2 hrw.nd
 refine Xh (Qq 0 rfl) 18 oz (nn (tb (Qt (σ := Nat × Value × List Tp) (e2 6 18 rfl (ec 19 rfl en)) (fun s => [(20, I64 (s.1 : Int)), (7, IsV s.2.1)]) (fun s => [Qh 51 kT s.2.1 s.2.2]) (fun s => s.1 ≤ q.2.length ∧ PrM (Jo lab es) (q.2.take s.1) s.2.2) (fun s => q.2.length - s.1) (0, Qo, []) ⟨Nat.zero_le _, List.nodup_nil, fun t => by simp⟩ ?_ (op (by repeat first | exact pn | refine pc 1 rfl ?_)) ?_)))
 · exact (e2 20 7 rfl en)
 rintro ⟨k, u, M⟩ ⟨hkl, hM⟩
 dsimp only at hkl hM ⊢
 refine sq (rg (oP (Q5 oz oz) rfl (tn (nn (sq (tc oz (fun c21 => ?_) (fun c21 => ?_)))))))
 · refine sk (nn (sq (tb (sq ?_))))
   have hk : k < q.2.length := by simp only [decide_eq_true_eq] at c21; omega
   obtain ⟨a, ha⟩ : ∃ a, at' q.2 (k : Int) = a := ⟨_, rfl⟩
   have hal := Qp0 hqn hk
   rw [ha] at hal
   refine rg (oP (Qj oz oz Tryz.underlying50 ynm (by omega) (by omega)) rfl (oP (pL oz ynm) rfl (av rfl rfl (tn ?_))))
   rw [ha]
   refine nn (sq (rg (mv rfl rfl (mv rfl rfl (oA (aC (Qpy (Qbm m) (Jo lab es) es.length a hrw (by omega)) ybt (oc oz (oc oz oN)) pR) pR rfl rfl fun r hr => (W7 (Qq 0 rfl) fun s0 => (oA (Z0 Tryz.underlying136 oz (mA 0 rfl)) pR rfl rfl (fun r8_3 hr8_3 => ?_))))))))
   refine tn (nn (tb (Qt (σ := IS × List Int × Option Int × Value × List Tp) (e4 6 9 18 19 rfl (e2 20 27 rfl en)) (fun s => [(7, IsV s.2.2.2.1)]) (fun s => K4 r8_3.1 r.1 s.1 :: Ju r.1 encI kI.T r.2 s0 :: Qh 51 kT s.2.2.2.1 s.2.2.2.2 :: []) (fun s => Jk r.2 s0 s.1 s.2.1 s.2.2.1 ∧ PrJ (Jo lab es) M a (keys r.2) s.2.1 s.2.2.2.2) (fun s => s.2.1.length) (r8_3.2, keys r.2, none, u, M) ⟨hr8_3, Qt2 hM⟩ ?_ (op (by repeat first | exact pn | refine pc 0 rfl ?_)) ?_)))
   · exact (ec 7 rfl en)
   rintro ⟨i, todo, cur, u1, M1⟩ ⟨hok, hJ⟩
   dsimp only at hok hJ ⊢
   refine sq (rg (oA (Z1 oz (Zz 1 rfl) (Qq 0 rfl) hok) (Qq 0 rfl) rfl rfl (fun q9_0 hq9_0 => ?_)))
   refine oP (J6 oz) rfl (tn (nn (sq (tc oz (fun c29 => ?_) (fun c29 => ?_)))))
   · obtain ⟨i2, o2⟩ := q9_0
     obtain ⟨key, rfl⟩ : ∃ k, o2 = some k := by
      cases o2 with
      | none => exact Bool.noConfusion c29
      | some k => exact ⟨k, rfl⟩
     dsimp only at hq9_0 c29 ⊢
     obtain ⟨hkt, hok2⟩ := hq9_0
     have hkk := hok.sub _ hkt
     obtain ⟨bv, hbv⟩ := Qca hkk
     have hst := Qyp hM hal hok.nd hkt hkk hJ
     have hl1 := Qlp hst.1 (Q4h hM hr.2 hst) (by omega)
     rw [List.length_append, List.length_singleton] at hl1
     have hle : (todo.erase key).length < todo.length := by
      have h1 := List.length_erase_of_mem hkt
      have h2 := List.length_pos_of_mem hkt
      omega
     refine sk (nn (tb (sq (rg (oP (Ye (D := IsV _) oz (Zz 0 rfl) (Zz 1 rfl) hok2 hbv (fun H => rfl)) rfl (oP (Qd oz rfl) rfl (av rfl rfl (tn (nn (sq (rg (mv rfl rfl (mv rfl rfl (mv rfl rfl (oA (Q7 (d := kI) (v0 := 0) ye1 ynm zI (show 2 * 1 ≤ 16777216 from by decide) (by decide) (Qv rfl rfl (by decide) oz (Qv rfl rfl (by decide) oz Qc))) pR rfl rfl (fun _ _ => ?_))))))))))))))))
     refine oA (Q7 (d := kT) (v0 := []) yiy yko zT (show 1 * 1 ≤ 16777216 from by decide) (by decide) (Qv rfl rfl (by decide) oz Qc)) pR rfl rfl (fun _ _ => ?_)
     refine oA (Q0 oz (pA 2 rfl) oz yiy (by (simp; omega)) (by (simp [maxLen]; omega))) (pA 2 rfl) rfl rfl (fun v11_5 _ => ?_)
     refine av rfl rfl (tn (nn (sq (rg (mv rfl rfl (oP (Xr oz (mA 0 rfl) Tryz.underlying36) rfl (oP (Y3 oz ot) rfl (tn (nn (tc oz (fun c40 => ?_) (fun c40 => ?_)))))))))))
     · exfalso
       simp only [decide_eq_true_eq, List.length_append, List.length_set, List.length_replicate] at c40
       omega --done
     refine sk (bn (nn ?_))
     exact tg (i2, todo.erase key, some key, v11_5, M1 ++ [[a, key]]) ⟨hok2, hst⟩ hle ef (op (by repeat first | exact pn | refine pc 0 rfl ?_ | refine pc 1 rfl ?_))
   obtain ⟨i2, o2⟩ := q9_0
   obtain rfl : o2 = none := by
    cases o2 with
    | none => rfl
    | some k => exact Bool.noConfusion c29
   dsimp only at hq9_0 ⊢
   obtain ⟨rfl, hok2⟩ := hq9_0
   rw [← ha] at hJ hr
   have hnx := Q13 hk hr.2 hM hJ
   refine Qx (tx (tx (bh (bn (nn (rg (oP (pad oz ot (by omega)) rfl (mv rfl rfl (tn (nn ?_))))))))))
   exact tg (k + 1, u1, M1) ⟨hk, hnx⟩ (by show q.2.length - (k + 1) < q.2.length - k; omega) ef (op (by repeat first | exact pn | refine pc 2 rfl ?_))
 refine Qx (tx (tx (bh (nn (sq ?_)))))
 obtain rfl : k = q.2.length := by simp only [decide_eq_false_iff_not] at c21; omega
 rw [List.take_length] at hM
 have hres := Qyq hrw hq hM
 have hMi : ∀ t, t ∈ M → ∃ a b : Int, t = [a, b] ∧ TC (Jo lab es) a b := fun t ht => by obtain ⟨a, b, h1, _, h2⟩ := (hM.2 t).1 ht; exact ⟨a, b, h1, h2⟩
 have hsm := Qt3 (Qlp hM.1 hMi (by omega)) hMi
 refine Xh (Qq 0 rfl) 7 oz (rg (mv rfl rfl (oA (Zo (Qdt (K0 := noK) (n0 := 0) _ hsm) J1 y07 (oc oz oN) pR) pR rfl rfl (fun _ _ => ?_))))
 refine av rfl rfl (ak rfl (tn (nn (tR ?_))))
 exact Yb .ret (.inl rfl) rfl (Jm M) (OT.unfr2 oz) (OT.val oz (congrArg (Value.int _) (by rw [hnb]; rfl))) (fun _ _ h => h) (by rw [hnb]; exact hres) (by exact pn)
end Go.Proofs.YtklhdalppmjnaaaGreatDoor
namespace Go.Proofs.YtklhdalppmjnaaaGreatDoor
open Go Go.Gw Go.So Go.Tu Go.Jn
open Go.Dr hiding Pr
theorem Qyr {l : List Tp} (h : Ys l) : l.Nodup := h.imp fun {a b} hab e => by subst e; rw [We] at hab; omega
theorem Qt4 {P : List Pr} {R : List Tp} (h : Wk P R) (hP : P.length ≤ 60) : R.length ≤ 3600 := Qlp (Qyr h.1) (fun t ht => (h.2 t).1 ht) hP
theorem Q14 {lab : Lab} {es : List Ed} (h : ∀ e ∈ es, Y8 e.1 ∧ Y8 e.2.2) : ∀ x ∈ Jo lab es, inP x := fun x hx => by
 obtain ⟨e, he, rfl⟩ := List.mem_map.1 hx
 exact h e (List.mem_filter.1 he).1
/-- A new dred. -/
structure Q5i (lab : Lab) (es : List Ed) (d : DO) (re rs : RS) (E S : List Pr) : Prop where
 l : d.lab = lab
 ok : DOk E S re rs
 m : ∀ x, x ∈ E ↔ x ∈ Jo lab es
 n : E.length ≤ es.length
theorem Qys {lab : Lab} {es : List Ed} {d : DO} {re rs : RS} {E S : List Pr} {R : List Tp} (hl : d.lab = lab) (hR : Wk (Jo lab es) R) (hei : ∀ e ∈ es, Y8 e.1 ∧ Y8 e.2.2) (he : Ze E re) (hs : Ze S rs) (hE : ∀ x, x ∈ E ↔ x ∈ Jo lab es) (hS : ∀ x : Pr, x ∈ S ↔ tpl x ∈ R) (hn : E.length ≤ es.length) : Q5i lab es d re rs E S := ⟨hl, ⟨he, hs, fun a b => by
 rw [hS, hR.2, TC.congr hE]
 constructor
 · rintro ⟨a2, b2, h1, h2⟩
   have h3 : a = a2 ∧ b = b2 := by simpa [tpl] using h1
   rw [h3.1, h3.2]; exact h2
 exact fun h => ⟨a, b, rfl, h⟩, fun x hx => Q14 hei x ((hE x).1 hx)⟩, hE, hn⟩
theorem Qt5 {R : List Tp} {S : List Pr} {k : Nat} {p : Pr} (hk : k < R.length) (hp : at' R (k : Int) = tpl p) (h : ∀ x : Pr, x ∈ S ↔ tpl x ∈ R.take k) (x : Pr) : x ∈ W1 S p ↔ tpl x ∈ R.take (k + 1) := by
 rw [Qiu, h, List.take_succ_eq_append_getElem hk, List.mem_append, List.mem_singleton]
 rw [Q1 hk] at hp
 rw [hp]
 exact ⟨fun q => q.imp id fun e => by rw [e], fun q => q.imp id Qq5⟩

/-- rhizome/dred.New -/
theorem Q15 (lab : Lab) (es : List Ed) (hnb : Yt lab = true) (hm : es.length ≤ 60) (hei : ∀ e ∈ es, Y8 e.1 ∧ Y8 e.2.2) : Ct Tryz.prog 29 [BsT lab, SlT kE es] ([]) (DO × RS × RS × List Pr × List Pr) (fun q => Y1 [IsV (pt q.1.g 0), I64 0]) (fun q => DrI q.1 0 q.2.1 q.2.2.1) (fun q => Q5i lab es q.1 q.2.1 q.2.2.1 q.2.2.2.1 q.2.2.2.2) := by
 refine Qn Tryz.func29 rfl rfl ?_
 intro H w
 refine sq (rg (ak rfl (ak rfl (tn (nn (sq (rg (mv rfl rfl (mv rfl rfl (oA (aC (Qn5 lab es (by omega) hei) yxf (oc oz (oc oz oN)) pR) pR rfl rfl (fun R hR => ?_)))))))))))
 refine mv rfl rfl (oP (Qd oz rfl) rfl (oP (Qd oz rfl) rfl (av rfl rfl (av rfl rfl (tn (nn (sq (sq (rg (mv rfl rfl (oP (Yj oz ot) rfl (tn (nn (tc oz (fun c20 => ?_) (fun c20 => ?_)))))))))))))))
 · exfalso
   rw [hnb] at c20
   exact absurd (of_decide_eq_true c20) (by decide) --done
 rw [hnb] at hR
 have hR : Wk (Jo lab es) R := hR
 have hPl := Qcb lab es
 have hRl := Qt4 hR (by omega)
 refine sk (nn (sq (rg (mv rfl rfl (oA (aC Qi0 y58 oN pR) pR rfl rfl fun oe _ => (oA (aC Qi0 y58 oN pR) pR rfl rfl fun os _ => (oP (Zb (d := kDr) (v0 := ([], .pointer none, .pointer none, 0)) (ps := [(0, 1), (1, 1), (2, 1), (3, 1)]) zDr (by kernel_rfl) rfl (Qk rfl ld0 oz (Qk rfl ld1 (OT.raw oz rfl) (Qk rfl ld2 (OT.raw oz rfl) Qc)))) rfl (oA (Xf (d := kDr) oz) pR rfl rfl (fun g4_4 _ => ?_)))))))))
 refine av rfl rfl (tn (Q4 (L' := Qb g4_4 106 kDr (dV ⟨g4_4, lab, oe, os⟩ 0) :: (Xc oe ⟨[], [], 0⟩ ++ Xc os ⟨[], [], 0⟩)) (List.Perm.cons _ (show (Xc os ⟨[], [], 0⟩ ++ (Xc oe ⟨[], [], 0⟩ ++ [])).Perm (Xc oe ⟨[], [], 0⟩ ++ Xc os ⟨[], [], 0⟩) from by rw [List.append_nil]; exact List.perm_append_comm)) ?_))
 refine nn (sq (sq (rg (mv rfl rfl (oP (pls oz Tryz.underlying26) rfl (oP (Qm ot) rfl (tn (nn (tb (Qt (σ := Nat × RS × List Pr) (e4 0 6 8 27 rfl (ec 28 rfl en)) (fun s => [(29, I64 (s.1 : Int))]) (fun s => Qb g4_4 106 kDr (dV ⟨g4_4, lab, oe, os⟩ 0) :: (Xc oe s.2.1 ++ Xc os ⟨[], [], 0⟩)) (fun s => s.1 ≤ es.length ∧ Ze s.2.2 s.2.1 ∧ (∀ x, x ∈ s.2.2 ↔ x ∈ Jo lab (es.take s.1)) ∧ s.2.2.length ≤ s.1) (fun s => es.length - s.1) (0, ⟨[], [], 0⟩, []) ⟨Nat.zero_le _, Qju, fun x => by simp [Jo], Nat.le_refl _⟩ ?_ (op pl) ?_))))))))))
 · exact (ec 29 rfl en)
 rintro ⟨k, re2, E2⟩ ⟨hk, hre, hE, hEl⟩
 dsimp only at hk hre hE hEl ⊢
 refine sq (rg (oP (Q5 oz oz) rfl (tn (nn (sq (tc oz (fun c30 => ?_) (fun c30 => ?_)))))))
 · refine sk (nn (sq (tb (sq ?_))))
   have hkl : k < es.length := by simp only [decide_eq_true_eq] at c30; omega
   obtain ⟨e, he⟩ : ∃ e, at' es (k : Int) = e := ⟨_, rfl⟩
   have hst := Qjz (lab := lab) hkl he
   refine rg (oP (Qj oz oz Tryz.underlying26 y16 (by omega) (by omega)) rfl (oP (pL oz y16) rfl (oA (Qz (zE)) pR rfl rfl (fun g7_2 _ => ?_))))
   refine oA (asv oz oz (pA 0 rfl) y16) (pA 0 rfl) rfl rfl (fun _ _ => ?_)
   refine tn ?_
   rw [he]
   refine nn (sq (rg (oP (pf oz yh3) rfl (oP (plb oz (mA 0 rfl) le1 ylw) rfl (mv rfl rfl (oP (Vz oz oz) rfl (tn (nn (tc oz (fun c36 => ?_) (fun c36 => ?_))))))))))
   · have hlb : e.2.1 = lab := of_decide_eq_true c36
     rw [if_pos hlb] at hst
     apply Xs (m := 9) (ns := [[(8, none)], [(37, some 0)], [(38, some 1)], [(39, some 2)], [(10, none)], [(41, some 4)], [(10, none)], [(43, some 6)], [(42, some 5), (44, some 7)]]) (by kernel_rfl) (by kernel_rfl) (Ts := [_, _, _, _, _, _, _, _, _]) rfl
     case hops =>
      exact ⟨rmv rfl, rP (Qe oz), rP (pf oz y8k), rP (Ql oz (mA 1 rfl) ld1 ygw), rP (pf oz ye8), rP (plb oz (mA 0 rfl) le0 ynm), rP (pf oz y9l), rP (plb oz (mA 0 rfl) le2 ynm), rP (Xt (d := kPP) (v0 := (0, 0)) (agg := false) Tryz.underlying109 ynm zPr rfl (Qk rfl Qf.p0 oz (Qk rfl Qf.p1 oz Qc))), trivial⟩
     case h =>
      refine Qcx [_, _] (Xc os ⟨[], [], 0⟩) rfl (aC (Qfa oe re2 E2 (e.1, e.2.2) hre (by omega)) yrq (oc oz (oc oz oN)) (Xp [_, _] (Xc oe re2) (Xc os ⟨[], [], 0⟩))) rfl rfl fun re3 hre3 => (tn (bn (nn (rg (oP (pad oz ot (by omega)) rfl (mv rfl rfl (tn (nn ?_))))))))
      exact tg (k + 1, re3, W1 E2 (e.1, e.2.2)) ⟨hkl, hre3, fun x => by rw [hst, Qiu, hE, List.mem_append, List.mem_singleton], (by have := Qe6 E2 (e.1, e.2.2); show (W1 E2 (e.1, e.2.2)).length ≤ k + 1; omega)⟩ (by show es.length - (k + 1) < es.length - k; omega) ef (op (pd pl))
   have hlb : ¬ e.2.1 = lab := of_decide_eq_false c36
   rw [if_neg hlb] at hst
   refine sk (bn (nn (rg (oP (pad oz ot (by omega)) rfl (mv rfl rfl (tn (nn ?_)))))))
   exact tg (k + 1, re2, E2) ⟨hkl, hre, fun x => by rw [hst, hE], (by show E2.length ≤ k + 1; omega)⟩ (by show es.length - (k + 1) < es.length - k; omega) ef (op (pd pl))
 refine Qx (tx (tx (bh (nn (sq (sq ?_))))))
 obtain rfl : k = es.length := by simp only [decide_eq_false_iff_not] at c30; omega
 rw [List.take_length] at hE
 refine rg (mv rfl rfl (oP (pls oz Tryz.underlying36) rfl (oP (Qm ot) rfl (tn (nn (tb (Qt (σ := Nat × RS × List Pr) (e2 8 48 rfl (ec 49 rfl en)) (fun s => [(50, I64 (s.1 : Int))]) (fun s => Qb g4_4 106 kDr (dV ⟨g4_4, lab, oe, os⟩ 0) :: (Xc oe re2 ++ Xc os s.2.1)) (fun s => s.1 ≤ R.length ∧ Ze s.2.2 s.2.1 ∧ (∀ x : Pr, x ∈ s.2.2 ↔ tpl x ∈ R.take s.1) ∧ s.2.2.length ≤ s.1) (fun s => R.length - s.1) (0, ⟨[], [], 0⟩, []) ⟨Nat.zero_le _, Qju, fun x => by simp, Nat.le_refl _⟩ ?_ (op pl) ?_)))))))
 · exact (ec 50 rfl en)
 rintro ⟨k2, rs2, S2⟩ ⟨hk2l, hrs, hS, hSl⟩
 dsimp only at hk2l hrs hS hSl ⊢
 refine sq (rg (oP (Q5 oz oz) rfl (tn (nn (sq (tc oz (fun c51 => ?_) (fun c51 => ?_)))))))
 · refine sk (nn (sq (tb (sq ?_))))
   have hk2 : k2 < R.length := by simp only [decide_eq_true_eq] at c51; omega
   obtain ⟨a, b, hab, _⟩ := (hR.2 _).1 (at_mem hk2)
   refine rg (oP (Qj oz oz Tryz.underlying36 yko (by omega) (by omega)) rfl (oP (pL oz yko) rfl (av rfl rfl (tn ?_))))
   rw [hab]
   refine nn ?_
   apply Xs (m := 11) (ns := [[(8, none)], [(54, some 0)], [(55, some 1)], [(56, some 2)], [(12, none)], [(58, some 4)], [(59, some 5)], [(12, none)], [(61, some 7)], [(62, some 8)], [(60, some 6), (63, some 9)]]) (by kernel_rfl) (by kernel_rfl) (Ts := [_, _, _, _, _, _, _, _, _, _, _]) rfl
   case hops =>
    exact ⟨rmv rfl, rP (Qe oz), rP (pf oz yn3), rP (Ql oz (mA 0 rfl) ld2 ygw), rmv rfl, rP (Qj oz ot Tryz.underlying51 ynm (by omega) (by (simp; done))), rP (pL oz ynm), rmv rfl, rP (Qj oz ot Tryz.underlying51 ynm (by omega) (by (simp; done))), rP (pL oz ynm), rP (Xt (d := kPP) (v0 := (0, 0)) (agg := false) Tryz.underlying109 ynm zPr rfl (Qk rfl Qf.p0 oz (Qk rfl Qf.p1 oz Qc))), trivial⟩
   case h =>
    refine Qdp [_] (Xc oe re2) rfl (aC (Qfa os rs2 S2 (a, b) hrs (by omega)) yrq (oc oz (oc oz oN)) (Z2 (X := [_]) (Y := (Xc oe re2)))) rfl rfl fun rs3 hrs3 => (tn (bn (nn (rg (oP (pad oz ot (by omega)) rfl (mv rfl rfl (tn (nn ?_))))))))
    exact tg (k2 + 1, rs3, W1 S2 (a, b)) ⟨hk2, hrs3, Qt5 hk2 hab hS, (by have := Qe6 S2 (a, b); show (W1 S2 (a, b)).length ≤ k2 + 1; omega)⟩ (by show R.length - (k2 + 1) < R.length - k2; omega) ef (op pl)
 refine Qx (tx (tx (bh (nn (sq ?_)))))
 obtain rfl : k2 = R.length := by simp only [decide_eq_false_iff_not] at c51; omega
 rw [List.take_length] at hS
 have hsay := Qys (d := ⟨g4_4, lab, oe, os⟩) rfl hR hei hre hrs hE hS hEl
 refine rg (mv rfl rfl (av rfl rfl (ak rfl (tn (nn (tR ?_))))))
 exact Yb .ret (.inl rfl) rfl (⟨g4_4, lab, oe, os⟩, re2, rs2, E2, S2) oz oz (fun _ _ h => h) hsay pl
end Go.Proofs.YtklhdalppmjnaaaGreatDoor
namespace Go.Gw
open Go
theorem Qnn {C : Cx} {Γ : Env} {L R J : List It} {dst : Option Tmp} {ty : TypeId} {pos : String} {after : Array Edge} {guard : Option (Nat × Bool)} {f : FuncId} {As : List Ty} {ρ : Type} {T : ρ → Ty} {I : ρ → List It} {φ : ρ → Prop} {x : Operand} {t : TypeId} {v : Value} {name : String} {xs : List Operand} {ats : Array TypeId}
 (hx : OT C.N Γ x (IsV (.iface t v))) (hm : ∀ w, (method (C.P.types.size + Made.depth) t v name).run C.P w = .ok (f, v) w) (hin : enters C.P f = true) (hF : Ct C.P f (IsV v :: As) J ρ T I φ) (hxs : OTs C.N Γ xs As) (hL : List.Perm L (J ++ R)) :
 Yp C Γ L { dst, op := .call { callee := .invoke x name, args := xs.toArray, argTypes := ats }, type := ty, pos, after, guard } J ρ T I φ := by
 intro a w H fi s ow Q K hK
 have hv : a.eval x = .iface t v := hx a H fi
 have hp : ∀ (P : Program) (w : World), (program).run P w = .ok P w := fun P w => rfl
 have hrun : (execOp a.eval { dst, op := .call { callee := .invoke x name, args := xs.toArray, argTypes := ats }, type := ty, pos, after, guard }).run C.P w = .ok (.enter f (v :: xs.map a.eval).toArray) w := by
  simp only [execOp, resolve, hv, Sem.run_bind, Sem.run_pure, Result.andThen_ok, invoke]
  rw [show (((#[Value.iface t v] ++ Array.map a.eval xs.toArray) : Array Value)[0]?) = some (Value.iface t v) from by simp]
  simp only [callMethod, Sem.run_bind, hp, Result.andThen_ok, hm]
  rw [show (#[v] ++ (#[Value.iface t v] ++ Array.map a.eval xs.toArray).extract 1 (#[Value.iface t v] ++ Array.map a.eval xs.toArray).size : Array Value) = (v :: xs.map a.eval).toArray from by simp; exact List.take_of_length_le (by simp)]
  exact Wp hin _ _
 simp only [Oper.wp, hrun, Oper.upon_enter]
 have hA : Kc H (IsV v :: As) (v :: xs.map a.eval) := ⟨rfl, OTs.all fi hxs⟩
 refine Calls.mono (hF H w _ s.on hA ((ow.perm hL).left.mono fun _ _ _ => trivial)) ?_
 rintro e w' ⟨r, v', H', rfl, hφ, s', hv', ho⟩
 exact hK r v' w' H' hφ s' hv' ho
end Go.Gw
namespace Go.Proofs.YtklhdalppmjnaaaGreatDoor
open Go Go.Gw Go.So Go.Tu Go.Jn Go.MapKept
open Go.Dr hiding Pr
theorem Q5y (g : Nat) (w : World) : (method (Tryz.prog.types.size + Made.depth) 75 (pt g 0) "Do").run Tryz.prog w = .ok (189, pt g 0) w := by kernel_rfl
theorem Q3v (g : Nat) (w : World) : (method (Tryz.prog.types.size + Made.depth) 75 (pt g 0) "Read").run Tryz.prog w = .ok (191, pt g 0) w := by kernel_rfl
abbrev Kg (e : Ed) : Value := .agg (tvE e)
theorem Q5z (em : Bool) (k : Ed) (w : World) : (Instr.checkKey em 10000 42 (Kg k)).run Tryz.prog w = .ok () w := by
 have hu : Tryz.prog.underlying 42 = some _ := Tryz.underlying42
 have h3 : Tryz.prog.underlying 3 = some (.int .i64) := Tryz.underlying3
 have h9 : Tryz.prog.underlying 9 = some .string := Tryz.underlying9
 have hk : Tryz.prog.plainKey 3 = true := by decide +kernel
 have hk9 : Tryz.prog.plainKey 9 = true := by decide +kernel
 rw [show (10000 : Nat) = 9999 + 1 from rfl, Instr.checkKey]
 simp only [Sem.run_bind, run_underlying hu, Result.andThen_ok]
 have p0 : (part 3 (tvE k) 0).run Tryz.prog w = .ok (.int .i64 k.1) w := run_part_plain w hk rfl
 have p1 : (part 9 (tvE k) 1).run Tryz.prog w = .ok (.string (bs k.2.1)) w := run_part_plain w hk9 rfl
 have p2 : (part 3 (tvE k) 2).run Tryz.prog w = .ok (.int .i64 k.2.2) w := run_part_plain w hk rfl
 have c : ∀ n : Int, (Instr.checkKey em 9999 3 (.int .i64 n)).run Tryz.prog w = .ok () w := fun n => run_checkKey h3 (by simp [IsKey]) em 9998
 have c9 : ∀ l : List UInt8, (Instr.checkKey em 9999 9 (.string (bs l))).run Tryz.prog w = .ok () w := fun l => run_checkKey h9 (by simp [IsKey]) em 9998
 simp [p0, p1, p2, c, c9]
theorem mkE : Ky Tryz.prog 42 kE Kg :=
 Ky.ofAsk (d := .struct (Tryz.prog.fieldsOf 42)) (by unfold Program.fieldsOf; rw [Tryz.underlying42]) Qu6 (fun a b => rfl) Q5z (fun w a b => by
  rw [show Op.equal 42 (Kg a) (Kg b) = Op.equalIn 10000 42 (Kg a) (Kg b) from rfl]; exact Qb0 w 9998 a b) (fun k => by simp [Instr.sameBits]; rw [bytes_beq])
end Go.Proofs.YtklhdalppmjnaaaGreatDoor
namespace Go.Proofs.YtklhdalppmjnaaaGreatDoor
open Go Go.Gw Go.So Go.Tu Go.Jn
open Go.Dr hiding Pr
abbrev kSt : Kd (Vw × Value × Value) := Xo kV (Xo Q3 Q3)
theorem lt0 {t : Vw × Value × Value} : Qf kSt kV 0 t t.1 (fun y => (y, t.2)) := Qf.fst
theorem lt1 {t : Vw × Value × Value} : Qf kSt Q3 5 t t.2.1 (fun y => (t.1, y, t.2.2)) := Qf.comp (Qf.snd (a := kV) (b := Xo Q3 Q3)) (Qf.fst (a := Q3) (b := Q3))
theorem lt2 {t : Vw × Value × Value} : Qf kSt Q3 6 t t.2.2 (fun y => (t.1, t.2.1, y)) := Qf.comp (Qf.snd (a := kV) (b := Xo Q3 Q3)) (Qf.snd (a := Q3) (b := Q3))
theorem zSt : Xw Tryz.prog 74 kSt (([], 0, [], [], []), .nilIface, .map none) := ⟨.agg #[.string (bs []), .int .i64 0, Qo, Qo, .string (bs []), .nilIface, .map none], by kernel_rfl, fun H => ⟨[.string (bs []), .int .i64 0, Qo, Qo, .string (bs []), .nilIface, .map none], ⟨[.string (bs []), .int .i64 0, Qo, Qo, .string (bs [])], [_, _], ⟨[_], [_, _, _, _], rfl, ⟨[_], [_, _, _], rfl, ⟨[_], [_, _], ⟨Qo, rfl, Uj⟩, ⟨[_], [_], ⟨Qo, rfl, Uj⟩, rfl, rfl⟩, rfl⟩, rfl⟩, rfl⟩, ⟨[_], [_], ⟨rfl, rfl⟩, ⟨rfl, rfl⟩, rfl⟩, rfl⟩, rfl⟩⟩
/-- What Content tells. -/
def Qiy (v : Vw) (es : List Ed) (q : List Tp × Int) : Prop := if Ka v = true then (if v.2.1 = 2 then (if Yt v.2.2.2.2 then (Wk (Jo v.2.2.2.2 es) q.1 ∧ q.2 = 0) else q = ([], 1)) else ∃ r, Qdj v es r ∧ q = (if r.2.2 = 0 ∧ 4000 < r.1.length then ([], 5) else (r.1, r.2.2))) else q = ([], 1)
theorem Qp1 {lab : Lab} {es : List Ed} {R : List Tp} (hR : if Yt lab then Wk (Jo lab es) R else R = []) : if Yt lab then (Wk (Jo lab es) (R, if Yt lab then (0 : Int) else 1).1 ∧ (R, if Yt lab then (0 : Int) else 1).2 = 0) else (R, if Yt lab then (0 : Int) else 1) = ([], 1) := by
 cases hn : Yt lab with
 | true => rw [hn] at hR; exact ⟨hR, rfl⟩
 | false => rw [hn] at hR; have hR : R = [] := hR; rw [hR]; rfl

/-- rhizome/view.Content -/
theorem Qi2 (v : Vw) (es : List Ed) (ho : v.2.2.1.length ≤ maxLen) (ha : v.2.2.2.1.length ≤ maxLen) (hm : es.length ≤ 60) (hei : ∀ e ∈ es, Y8 e.1 ∧ Y8 e.2.2) : Ct Tryz.prog 14 [kV.T v, SlT kE es] ([]) (List Tp × Int) (fun q => Y1 [SlT kT q.1, I64 q.2]) (fun _ => []) (fun q => Qiy v es q) := by
 refine Qn Tryz.func14 rfl rfl ?_
 intro H w
 refine sq (rg (oA (Xf (d := kV) oz) pR rfl rfl (fun g0_0 _ => ?_)))
 refine ak rfl (ak rfl (tn (nn (sq (sq (rg (oP (plv oz (mA 0 rfl) y4q) rfl (oA (aC (Qnz v ho ha) yin (oc oz oN) pR) pR rfl rfl (fun _ _ => ?_)))))))))
 refine av rfl rfl (tn (nn (sq (rg (mv rfl rfl (oP (Yj oz ot) rfl (tn (nn (tc oz (fun c13 => ?_) (fun c13 => ?_))))))))))
 · have hck : Ka v = false := by
    cases h : Ka v with
    | false => rfl
    | true => rw [h] at c13; exact absurd (of_decide_eq_true c13) (by decide)
   refine sq (rg (mv rfl rfl (ak rfl (av rfl rfl (tn (nn (tR (tt ?_))))))))
   exact Yb .ret (.inl rfl) rfl ([], 1) (OT.conv oz (fun H u h => Jr h)) (OT.val oz (congrArg (Value.int _) (by rw [hck]; rfl))) (fun _ _ h => h) (by unfold Qiy; rw [if_neg (by rw [hck]; decide)]) (by exact pn)
 have hck : Ka v = true := by
  cases h : Ka v with
  | true => rfl
  | false => rw [h] at c13; exact absurd c13 (by decide)
 refine sk (nn (sq (sq (rg (oP (pf oz yel) rfl (oP (plb oz (mA 0 rfl) lv1 ynm) rfl (oP (Zs oz ot) rfl (tn (nn (tc oz (fun c17 => ?_) (fun c17 => ?_)))))))))))
 · have hk2 : v.2.1 = 2 := of_decide_eq_true c17
   refine sq (rg (oP (pf oz yys) rfl (oP (plb oz (mA 0 rfl) lv4 ylw) rfl (mv rfl rfl (oA (aC (Qn5 v.2.2.2.2 es (by omega) hei) yxf (oc oz (oc oz oN)) pR) pR rfl rfl (fun R hR => ?_))))))
   refine oP (Qd oz rfl) rfl (oP (Qd oz rfl) rfl (av rfl rfl (av rfl rfl (tn (nn (tR (tt ?_)))))))
   exact Yb .ret (.inl rfl) rfl (R, if Yt v.2.2.2.2 then 0 else 1) oz oz (fun _ _ h => h) (by unfold Qiy; rw [if_pos hck, if_pos hk2]; exact Qp1 hR) (by exact pn)
 have hk2 : ¬ v.2.1 = 2 := of_decide_eq_false c17
 refine sk (nn (sq (rg (oP (plv oz (mA 0 rfl) y4q) rfl (mv rfl rfl (oA (aC (Qj6 v es ho ha (by omega)) yst (oc oz (oc oz oN)) pR) pR rfl rfl (fun r hr => ?_)))))))
 refine mv rfl rfl (oP (Qd oz rfl) rfl (oP (Qd oz rfl) rfl (oP (Qd oz rfl) rfl (av rfl rfl (av rfl rfl (av rfl rfl (tn (nn (sq (sq (rg (mv rfl rfl (oP (Zs oz ot) rfl (mv rfl rfl (oG rfl rfl rfl (gm oz) (fun hg => by (have hg1 := hg.2; (try simp only [cq2] at hg1); exact Qm oz)) rfl ?_)))))))))))))))
 refine oG rfl rfl rfl (gm oz) (fun hg => by (have hg1 := hg.2; (try simp only [cq2] at hg1); exact pls (gu oz hg) Tryz.underlying36)) rfl ?_
 refine oG rfl rfl rfl (gm oz) (fun hg => by (have hg1 := hg.2; (try simp only [cq2] at hg1); exact Y3 (gu oz hg) ot)) rfl ?_
 refine oP (Q2 oz oz) rfl (tn (nn (tc oz (fun c37 => ?_) (fun c37 => ?_))))
 · have hcc : r.2.2 = 0 ∧ 4000 < r.1.length := by have h := c37; simp at h; exact ⟨h.1, by omega⟩
   refine sq (rg (ak rfl (ak rfl (tn (nn (tR (tt ?_)))))))
   exact Yb .ret (.inl rfl) rfl ([], 5) (OT.conv oz (fun H u h => Jr h)) oz (fun _ _ h => h) (by unfold Qiy; rw [if_pos hck, if_neg hk2]; exact ⟨r, hr, (if_pos hcc).symm⟩) (by exact pn)
 have hcc : ¬ (r.2.2 = 0 ∧ 4000 < r.1.length) := fun hx => by have h := c37; simp at h; have := h hx.1; omega
 refine sk (nn (sq (rg (mv rfl rfl (mv rfl rfl (av rfl rfl (av rfl rfl (tn (nn (tR ?_))))))))))
 exact Yb .ret (.inl rfl) rfl (r.1, r.2.2) oz oz (fun _ _ h => h) (by unfold Qiy; rw [if_pos hck, if_neg hk2]; exact ⟨r, hr, (if_neg hcc).symm⟩) (by exact pn)
end Go.Proofs.YtklhdalppmjnaaaGreatDoor
namespace Go.Gw
open Go
def Qxl (T : Ty) (v : Value) : It := ⟨none, fun _ H => T.p H v, fun _ hs h => T.mono hs h⟩
theorem Qno {ok : Nat → Prop} {w : World} {H : FH} {L : List It} {T : Ty} {v : Value} (h : Xu ok w H L) (hv : T.p H v) : Xu ok w H (Qxl T v :: L) := ⟨fun i hi => by
 rcases List.mem_cons.1 hi with rfl | hi
 · exact hv
 exact h.all i hi, h.nodup, h.own⟩
theorem Qxm {C : Cx} {Γ : Env} {L : List It} {T : Ty} {φ : Act → World → Prop} (sl : Nat) (hv : OT C.N Γ (.tmp sl) T) (h : ∀ v, Tr C ((sl, IsV v) :: Γ) (Qxl T v :: L) φ) : Tr C Γ L φ := fun a w H f s o => h (a.eval (.tmp sl)) a w H (Yq rfl f) s (Qno o (hv a H f))
theorem Ct.fac {P : Program} {f : FuncId} {As : List Ty} {J : List It} {ρ : Type} {T : ρ → Ty} {I : ρ → List It} {φ : ρ → Prop} {U : Ty} {v : Value} (h : Ct P f (U :: As) J ρ T I φ) : Ct P f (IsV v :: As) (Qxl U v :: J) ρ T (fun r => Qxl U v :: I r) φ := by
 intro H w args hon hA hO
 have hU : U.p H v := hO.all _ List.mem_cons_self
 match args, hA with
 | u :: us, hA =>
  obtain ⟨rfl, h2⟩ := hA
  refine Calls.mono (h H w _ hon ⟨hU, h2⟩ ⟨fun i hi => hO.all i (List.mem_cons_of_mem _ hi), hO.nodup, hO.own⟩) ?_
  rintro e w' ⟨r, x, H', he, hφ, s, hv, ho⟩
  exact ⟨r, x, H', he, hφ, s, hv, Qno ho (U.mono s.sub hU)⟩
theorem Qcz {C : Cx} {Γ : Env} {L R J : List It} {dst : Option Tmp} {ty : TypeId} {pos : String} {after : Array Edge} {guard : Option (Nat × Bool)} {As : List Ty} {ρ : Type} {T : ρ → Ty} {I : ρ → List It} {φ : ρ → Prop} {x : Operand} {t : TypeId} {v : Value} {name : String} {xs : List Operand} {ats : Array TypeId}
 (hF : ∃ f, (∀ w, (method (C.P.types.size + Made.depth) t v name).run C.P w = .ok (f, v) w) ∧ enters C.P f = true ∧ Ct C.P f (IsV v :: As) J ρ T I φ) (hx : OT C.N Γ x (IsV (.iface t v))) (hxs : OTs C.N Γ xs As) (hL : List.Perm L (J ++ R)) :
 Yp C Γ L { dst, op := .call { callee := .invoke x name, args := xs.toArray, argTypes := ats }, type := ty, pos, after, guard } J ρ T I φ := by
 obtain ⟨f, h1, h2, h3⟩ := hF
 exact Qnn hx h1 h2 h3 hxs hL
end Go.Gw
namespace Go.Proofs.YtklhdalppmjnaaaGreatDoor
open Go Go.Gw Go.So Go.Tu Go.Jn Go.MapKept
open Go.Dr hiding Pr
theorem Q50 (p : Value) (w : World) : (method (Tryz.prog.types.size + Made.depth) 78 p "Do").run Tryz.prog w = .ok (207, p) w := by kernel_rfl
theorem Q3w (p : Value) (w : World) : (method (Tryz.prog.types.size + Made.depth) 78 p "Read").run Tryz.prog w = .ok (208, p) w := by kernel_rfl
inductive KO
 | d (o : DO)
 | n (o : NO) (p : Value)
structure KS where
 n : Int
 re : RS
 rs : RS
 al : AlM
 lv : List Rw
 ct : List (Lab × Int)
def kty : KO → TypeId
 | .d _ => 75
 | .n _ _ => 78
def Qlq : KO → Value
 | .d o => pt o.g 0
 | .n _ p => p
def KI : KO → KS → List It
 | .d o, s => DrI o s.n s.re s.rs
 | .n o p, s => Qxl (AtT J7 (Y9 o)) p :: Qev o s.al s.lv s.ct
theorem Qj1 (lab : Lab) (e : Ed) (es : List Ed) : Jo lab (e :: es) = if e.2.1 = lab then (e.1, e.2.2) :: Jo lab es else Jo lab es := by
 unfold Jo
 by_cases h : e.2.1 = lab <;> simp [h]
theorem J8 {lab : Lab} {es : List Ed} {p : Pr} : p ∈ Jo lab es ↔ (p.1, lab, p.2) ∈ es := by
 unfold Jo
 rw [List.mem_map]
 constructor
 · rintro ⟨e, he, rfl⟩
   obtain ⟨h1, h2⟩ := List.mem_filter.1 he
   have h2 : e.2.1 = lab := of_decide_eq_true h2
   rw [← h2]; exact h1
 intro h; exact ⟨_, List.mem_filter.2 ⟨h, by simp⟩, rfl⟩
theorem Qle {lab : Lab} : ∀ {es : List Ed}, es.Nodup → (Jo lab es).Nodup
 | [], _ => List.nodup_nil
 | e :: es, h => by
  have h1 := List.nodup_cons.1 h
  rw [Qj1]
  split
  · rename_i hl
    refine List.nodup_cons.2 ⟨fun q => h1.1 ?_, Qle h1.2⟩
    have := J8.1 q
    rw [← hl] at this; exact this
  exact Qle h1.2
theorem Qpk {lab : Lab} {E : List Pr} {add : Bool} : ∀ (es : List Ed) (pre : List Pr), (pre ++ Jo lab es).Nodup → (∀ x ∈ Jo lab es, decide (x ∈ E) = !add) → Um lab E add pre es = (0, pre ++ Jo lab es)
 | [], pre, _, _ => by simp [Um, Jo]
 | e :: es, pre, hn, hin => by
  rw [Qj1] at hn hin ⊢
  rw [Um]
  by_cases hl : e.2.1 = lab
  · rw [if_pos hl] at hn hin ⊢
    rw [if_pos hl]
    have h1 := hin _ List.mem_cons_self
    have h2 : (e.1, e.2.2) ∉ pre := fun q => (List.nodup_append.1 hn).2.2 _ q _ List.mem_cons_self rfl
    rw [h1, decide_eq_false h2, if_neg (by cases add <;> decide), if_neg (by cases add <;> decide), Qpk es (pre ++ [(e.1, e.2.2)]) (by rw [List.append_assoc]; exact hn) fun x hx => hin x (List.mem_cons_of_mem _ hx), List.append_assoc]
    rfl
  rw [if_neg hl] at hn hin ⊢
  rw [if_neg hl]
  exact Qpk es pre hn hin
open Classical in
noncomputable def Qgg (P : List Pr) : List Tp := if h : ∃ R, Wk P R then h.choose else []
theorem Qnp {P P' : List Pr} {R R' : List Tp} (hP : ∀ x, x ∈ P ↔ x ∈ P') (h : Wk P R) (h' : Wk P' R') : R = R' := Ji h.1 h'.1 fun t => by
 rw [h.2, h'.2]; simp only [TC.congr hP]
theorem Un {P : List Pr} {R : List Tp} (h : Wk P R) : Qgg P = R := by
 unfold Qgg
 rw [dif_pos ⟨R, h⟩]
 exact Qnp (fun _ => Iff.rfl) (Exists.choose_spec ⟨R, h⟩) h
theorem Qiw {P P' : List Pr} (hP : ∀ x, x ∈ P ↔ x ∈ P') {R : List Tp} (h : Wk P R) : Wk P' R := ⟨h.1, fun t => by rw [h.2]; simp only [TC.congr hP]⟩
theorem Qnq {P P' : List Pr} (hP : ∀ x, x ∈ P ↔ x ∈ P') : Qgg P = Qgg P' := by
 unfold Qgg
 by_cases h : ∃ R, Wk P R
 · have h' : ∃ R, Wk P' R := h.imp fun R => Qiw hP
   rw [dif_pos h, dif_pos h']
   exact Qnp hP h.choose_spec h'.choose_spec
 rw [dif_neg h, dif_neg fun ⟨R, q⟩ => h ⟨R, Qiw (fun x => (hP x).symm) q⟩]
theorem Qnr (P : List Pr) : Ys (Qgg P) := by
 unfold Qgg
 by_cases h : ∃ R, Wk P R
 · rw [dif_pos h]; exact h.choose_spec.1
 rw [dif_neg h]; exact List.Pairwise.nil
theorem Qq9 {P E S : List Pr} (hE : ∀ x, x ∈ E ↔ x ∈ P) (hc : ∀ a b, (a, b) ∈ S ↔ TC E a b) : Wk P (Jm (U6 S)) := ⟨(Xj _).1, fun t => by
 rw [(Xj _).2, List.mem_map]
 constructor
 · rintro ⟨p, hp, rfl⟩; exact ⟨p.1, p.2, rfl, (TC.congr hE).1 ((hc _ _).1 hp)⟩
 rintro ⟨a, b, rfl, h⟩; exact ⟨(a, b), (hc _ _).2 ((TC.congr hE).2 h), rfl⟩⟩
noncomputable def Yi (v : Vw) (A : List Ed) : List Tp := if v.2.1 = 2 then Qgg (Jo v.2.2.2.2 A) else Vm v A
theorem Qds {lab : Lab} {A B : List Ed} (h : ∀ x, x ∈ A ↔ x ∈ B) (x : Pr) : x ∈ Jo lab A ↔ x ∈ Jo lab B := by rw [J8, J8, h]
theorem Qix {v : Vw} {A B : List Ed} (h : ∀ x, x ∈ A ↔ x ∈ B) : Yi v A = Yi v B := by
 unfold Yi
 rw [Qnq (Qds h), Qpb h]
theorem Uo {v : Vw} {A : List Ed} : Ys (Yi v A) := by
 unfold Yi
 split
 · exact Qnr _
 exact (Xj _).1
noncomputable def dif (v : Vw) (A B : List Ed) : Dl := (Qs (Yi v B) (Yi v A), Qs (Yi v A) (Yi v B))
theorem Qra (l : List Ed) : (Yv l).Nodup := by
 have h : ∀ k, k ≤ l.length → (Yv (l.take k)).Nodup := fun k => by
  induction k with
  | zero => intro _; exact List.nodup_nil
  | succ k ih =>
   intro hk
   rw [Qq1 hk]
   split
   · exact ih (by omega)
   rename_i h; exact List.nodup_append.2 ⟨ih (by omega), by simp, fun a ha b hb e => h (by rw [← List.mem_singleton.1 hb, ← e]; exact ha)⟩
 have h1 := h l.length (Nat.le_refl _)
 rwa [List.take_length] at h1
def Qao (v : Vw) (es : List Ed) : Int := if Ka v = true then (if v.2.1 = 2 then (if Yt v.2.2.2.2 then 0 else 1) else if okV v = true then (if Z4 v es = true then 5 else 0) else 1) else 1
theorem Qj2 {v : Vw} {es : List Ed} {q : List Tp × Int} (h : Qiy v es q) : q.2 = Qao v es ∧ (q.2 = 0 → q.1 = Yi v es) ∧ (¬ q.2 = 0 → q.1 = []) := by
 unfold Qiy at h
 unfold Qao Yi
 by_cases h1 : Ka v = true
 · rw [if_pos h1] at h ⊢
   by_cases h2 : v.2.1 = 2
   · rw [if_pos h2] at h ⊢
     rw [if_pos h2]
     by_cases h3 : Yt v.2.2.2.2 = true
     · rw [if_pos h3] at h ⊢
       exact ⟨h.2, fun _ => (Un h.1).symm, fun q => absurd h.2 q⟩
     rw [if_neg h3] at h ⊢
     subst h
     exact ⟨rfl, fun q => (by cases q), fun _ => rfl⟩
   rw [if_neg h2] at h ⊢
   rw [if_neg h2]
   obtain ⟨r, hr, rfl⟩ := h
   rcases hr with ⟨h3, rfl⟩ | ⟨h3, h4, rfl⟩ | ⟨h3, h4, rfl⟩
   · rw [if_neg (fun q => absurd q.1 (by decide)), if_neg (by rw [h3]; decide)]
     exact ⟨rfl, fun q => (by cases q), fun _ => rfl⟩
   · rw [if_neg (fun q => absurd q.1 (by decide)), if_pos h3, if_pos (Uh.2 h4)]
     exact ⟨rfl, fun q => (by cases q), fun _ => rfl⟩
   have hm : Z4 v es = false := by
    cases hb : Z4 v es with
    | false => rfl
    | true => exact absurd (Uh.1 hb) h4
   rw [if_neg (fun q => by
    have h5 := Uf (Vg v es)
    have h6 := Qlf hm
    have h7 : 4000 < (Jm (Vg v es)).length := q.2
    omega), if_pos h3, if_neg (by rw [hm]; decide)]
   exact ⟨rfl, fun _ => rfl, fun q => absurd rfl q⟩
 rw [if_neg h1] at h ⊢
 subst h
 exact ⟨rfl, fun q => (by cases q), fun _ => rfl⟩
theorem Qxn {v : Vw} {es : List Ed} (h : Qao v es = 0) : (v.2.1 = 2 → Yt v.2.2.2.2 = true) ∧ (¬ v.2.1 = 2 → okV v = true ∧ Z4 v es = false) := by
 unfold Qao at h
 split at h
 · split at h
   · rename_i h2
     split at h
     · rename_i h3; exact ⟨fun _ => h3, fun q => absurd h2 q⟩
     cases h
   rename_i h2
   split at h
   · rename_i h3
     split at h
     · cases h
     rename_i h4; exact ⟨fun q => absurd q h2, fun _ => ⟨h3, by simpa using h4⟩⟩
   cases h
 cases h
theorem Qns {v : Vw} {A B : List Ed} (h : ∀ x, x ∈ A ↔ x ∈ B) : Qao v A = Qao v B := by
 unfold Qao
 rw [Qa7 h]
theorem Qxo {v : Vw} {es : List Ed} {r : Q09} (hv : okV v = true) (hm : Z4 v es = false) (h : Qxp v es r) : ∃ n m lv ct, r = (some (n, m, lv, ct), 0) ∧ n.v = v ∧ Jq n m lv ct (Yv es) := by
 rcases h with ⟨h1, h2, h3⟩ | ⟨n, m, lv, ct, h1, h2, _, _, h5⟩
 · exfalso
   rcases h3 with ⟨h3, _⟩ | ⟨_, h4, _⟩ | ⟨_, _, h5⟩
   · rw [hv] at h3; cases h3
   · rw [Uh.2 h4] at hm; cases hm
   exact h2 (congrArg (fun x : List Tp × List Int × Int => x.2.2) h5)
 exact ⟨n, m, lv, ct, h1, h2, h5⟩
def KOk : KO → Vw → KS → List Ed → Prop
 | .d o, v, s, A => v.2.1 = 2 ∧ o.lab = v.2.2.2.2 ∧ ∃ E S, DOk E S s.re s.rs ∧ ∀ x, x ∈ E ↔ x ∈ Jo v.2.2.2.2 A
 | .n o _, v, s, A => ¬ v.2.1 = 2 ∧ o.v = v ∧ okV v = true ∧ Jq o s.al s.lv s.ct A ∧ Z4 v A = false
def DoK (k : KO) (v : Vw) (A es : List Ed) (add : Bool) (q : KS × Dl × Int) : Prop :=
 (q.2.2 = 0 ∧ KOk k v q.1 (goE A es add) ∧ q.2.1 = dif v A (goE A es add)) ∨ (q.2.2 = 5 ∧ ¬ v.2.1 = 2 ∧ add = true ∧ Z4 v (A ++ es) = true ∧ KOk k v q.1 A ∧ q.2.1 = ([], []))
theorem Qj3 {S S' : List Pr} : Vo S S' = Qs (Jm (U6 S')) (Jm (U6 S)) := by
 unfold Vo
 refine Ji (Xj _).1 (Yo (Xj _).1) fun t => ?_
 rw [Tu.Xm, (Xj _).2, (Xj _).2, (Xj _).2, List.mem_map, List.mem_map, List.mem_map]
 constructor
 · rintro ⟨p, hp, rfl⟩
   rw [List.mem_filter] at hp
   exact ⟨⟨p, hp.1, rfl⟩, fun ⟨q, h1, h2⟩ => of_decide_eq_true hp.2 (Qq5 h2 ▸ h1)⟩
 rintro ⟨⟨p, hp, rfl⟩, h⟩
 exact ⟨p, List.mem_filter.2 ⟨hp, decide_eq_true fun q => h ⟨p, q, rfl⟩⟩, rfl⟩
theorem Uz {k : KO} {v : Vw} {s : KS} {A : List Ed} (h : KOk k v s A) (hl : A.length ≤ 60) : Few (Yi v A) := by
 unfold Yi
 cases k with
 | d o =>
  obtain ⟨hk, _, E, S, h1, h2⟩ := h
  rw [if_pos hk, Un (Qq9 h2 h1.c)]
  have hE : E.length ≤ 60 := Nat.le_trans (Yw h1.e.nd fun x hx => (h2 x).1 hx) (Nat.le_trans (Qcb _ _) hl)
  have hS := V5 h1.s.nd (fun a b => (h1.c a b).1) hE
  have h3 := Uf (U6 S)
  have h4 : (U6 S).length = S.length := List.length_map _
  refine ⟨by omega, fun t ht => ?_⟩
  obtain ⟨p, _, rfl⟩ := List.mem_map.1 (((Xj _).2 t).1 ht)
  show (2 : Nat) ≤ _
  omega
 | n o p =>
  obtain ⟨hk, hv, ho, hn, hm⟩ := h
  rw [if_neg hk]
  subst hv
  have h1 := Uf (Vg o.v A)
  have h2 := Qlf hm
  refine ⟨by unfold Vm; omega, fun t ht => ?_⟩
  have := (Qic ho hn.als.inE (((Xj _).2 t).1 ht)).2
  omega
theorem doD {o : DO} {v : Vw} {A es : List Ed} {add : Bool} {E S E' S' : List Pr} {re rs : RS} (hl : o.lab = v.2.2.2.2) (hk : v.2.1 = 2) (h1 : ∀ e ∈ es, (e ∈ A ↔ add = false)) (h2 : es.Nodup) (hE : ∀ x, x ∈ E ↔ x ∈ Jo v.2.2.2.2 A) (hd : DOk E S re rs) {re' rs' : RS} (h : Qdq o.lab E es add re' rs' E' S') : (Um o.lab E add [] es).1 = 0 ∧ (∀ x, x ∈ E' ↔ x ∈ Jo v.2.2.2.2 (goE A es add)) ∧ (Vo S S', Vo S' S) = dif v A (goE A es add) := by
 rw [hl] at h ⊢
 have hc : Um v.2.2.2.2 E add [] es = (0, Jo v.2.2.2.2 es) := Qpk es [] (Qle h2) fun x hx => by
  have h3 := h1 _ (J8.1 hx)
  have h4 : x ∈ E ↔ add = false := by rw [hE, J8]; exact h3
  cases add with
  | true => exact decide_eq_false fun q => by cases h4.1 q
  | false => exact decide_eq_true (h4.2 rfl)
 have hm : ∀ x, x ∈ E' ↔ x ∈ Jo v.2.2.2.2 (goE A es add) := fun x => by
  rw [h.m, hc, J8, Qa8]
  show (if add = true then _ else _) ↔ _
  split
  · rw [hE, J8, J8]
  rw [hE, J8, J8]
 refine ⟨by rw [hc], hm, ?_⟩
 unfold dif Yi
 rw [if_pos hk, if_pos hk, Un (Qq9 hE hd.c), Un (Qq9 hm h.ok.c), Qj3, Qj3]
theorem kdo (k : KO) (v : Vw) (s : KS) (A es : List Ed) (add : Bool) (h : KOk k v s A) (hi : ∀ e ∈ es, Y8 e.1 ∧ Y8 e.2.2) (hA : A.length ≤ 45) (hs : es.length ≤ 45) (hl : add = true → A.length + es.length ≤ 60) (h1 : ∀ e ∈ es, (e ∈ A ↔ add = false)) (h2 : es.Nodup) :
 ∃ f, (∀ w, (method (Tryz.prog.types.size + Made.depth) (kty k) (Qlq k) "Do").run Tryz.prog w = .ok (f, Qlq k) w) ∧ enters Tryz.prog f = true ∧ Ct Tryz.prog f [IsV (Qlq k), SlT kE es, Xe add] (KI k s) (KS × Dl × Int) (fun q => Y1 [kD.T q.2.1, I64 q.2.2]) (fun q => KI k q.1) (DoK k v A es add) := by
 cases k with
 | d o =>
  obtain ⟨hk, hlb, E, S, hd, hE⟩ := h
  have hEl : E.length ≤ A.length := Nat.le_trans (Yw hd.e.nd fun x hx => (hE x).1 hx) (Qcb _ _)
  refine ⟨_, Q5y o.g, (show enters Tryz.prog 189 = true from by decide +kernel), ?_⟩
  refine Ct.via (fun q => (⟨q.1, q.2.1, q.2.2.1, s.al, s.lv, s.ct⟩, (Vo S q.2.2.2.2, Vo q.2.2.2.2 S), 0)) (Q3x o s.n s.re s.rs E S es add hd hi (by omega) (by omega) (fun q => by have := hl q; omega)) (fun q hq H x hx => ?_) (fun q hq => rfl) (fun q hq => ?_)
  · rw [(doD hlb hk h1 h2 hE hd hq).1] at hx; exact hx
  obtain ⟨h5, h6, h7⟩ := doD hlb hk h1 h2 hE hd hq
  exact .inl ⟨rfl, ⟨hk, hlb, _, _, hq.ok, h6⟩, h7⟩
 | n o p =>
  obtain ⟨hk, hv, ho, hn, hm⟩ := h
  subst hv
  have hlk := look_ok (add := add) h1 h2
  refine ⟨_, Q50 p, (show enters Tryz.prog 207 = true from by decide +kernel), ?_⟩
  refine Ct.via (fun r => (⟨s.n, s.re, s.rs, r.1, r.2.1, r.2.2⟩, (doE o.v A es add).2.1, (doE o.v A es add).2.2)) (Q49 o s.al s.lv s.ct A es add ho hn hm hi (by omega)).fac (fun r hr H x hx => hx) (fun r hr => rfl) (fun r hr => ?_)
  by_cases hz : (doE o.v A es add).2.2 = 0
  · obtain ⟨_, hmm, hde⟩ := Qwl hz
    rw [hde] at hr ⊢
    rw [Qm0]
    have hmg : Z4 o.v (goE A es add) = false := by
     cases add with
     | true => exact hmm rfl
     | false =>
      cases hb : Z4 o.v (goE A es false) with
      | false => rfl
      | true => rw [V3 (fun x hx => (Xm.1 hx).1) hb] at hm; cases hm
    refine .inl ⟨rfl, ⟨hk, rfl, ho, hr, hmg⟩, ?_⟩
    unfold dif Yi
    rw [if_neg hk, if_neg hk]
  have hde : doE o.v A es add = (A, ([], []), 5) ∧ add = true ∧ Z4 o.v (A ++ es) = true := by
   unfold doE at hz ⊢
   rw [if_pos hlk] at hz ⊢
   by_cases c : (add && Z4 o.v (A ++ es)) = true
   · rw [if_pos c]; exact ⟨rfl, (Bool.and_eq_true _ _ ▸ c).1, (Bool.and_eq_true _ _ ▸ c).2⟩
   rw [if_neg c, Qm0] at hz; exact absurd rfl hz
  rw [hde.1] at hr ⊢
  exact .inr ⟨rfl, hk, hde.2.1, hde.2.2, ⟨hk, rfl, ho, hr, hm⟩, rfl⟩
theorem Q5a (k : KO) (v : Vw) (s : KS) (A : List Ed) (h : KOk k v s A) (hl : A.length ≤ 60) :
 ∃ f, (∀ w, (method (Tryz.prog.types.size + Made.depth) (kty k) (Qlq k) "Read").run Tryz.prog w = .ok (f, Qlq k) w) ∧ enters Tryz.prog f = true ∧ Ct Tryz.prog f [IsV (Qlq k)] (KI k s) Unit (fun _ => SlT kT (Yi v A)) (fun _ => KI k s) (fun _ => True) := by
 cases k with
 | d o =>
  obtain ⟨hk, hlb, E, S, hd, hE⟩ := h
  have hEl : E.length ≤ A.length := Nat.le_trans (Yw hd.e.nd fun x hx => (hE x).1 hx) (Qcb _ _)
  have hS := V5 hd.s.nd (fun a b => (hd.c a b).1) (by omega)
  refine ⟨_, Q3v o.g, (show enters Tryz.prog 191 = true from by decide +kernel), ?_⟩
  unfold Yi
  rw [if_pos hk, Un (Qq9 hE hd.c)]
  exact Qxq o s.n s.re s.rs S hd.s (by omega)
 | n o p =>
  obtain ⟨hk, hv, ho, hn, hm⟩ := h
  subst hv
  refine ⟨_, Q3w p, (show enters Tryz.prog 208 = true from by decide +kernel), ?_⟩
  unfold Yi
  rw [if_neg hk]
  exact (Qwk ho hn hm).fac
end Go.Proofs.YtklhdalppmjnaaaGreatDoor
namespace Go.Proofs.YtklhdalppmjnaaaGreatDoor
open Go Go.Gw Go.So Go.Tu Go.Jn
open Go.Dr hiding Pr
/-- A standing view. -/
structure SO where
 g : Nat
 ga : Nat
 v : Vw
 k : KO
abbrev stV (o : SO) : Vw × Value × Value := (o.v, .iface (kty o.k) (Qlq o.k), mp o.ga)
def StI (o : SO) (s : KS) (al : List (Ed × Bool)) : List It := Qb o.g 74 kSt (stV o) :: Qg o.ga Kg Xd.T al :: KI o.k s
abbrev J9 (al : List (Ed × Bool)) (e : Ed) : Bool := (lkp e al).getD false
/-- It is right for these edges. -/
structure VOk (o : SO) (v : Vw) (s : KS) (al : List (Ed × Bool)) (A : List Ed) : Prop where
 ov : o.v = v
 nd : A.Nodup
 k : KOk o.k v s A
 a : ∀ e, J9 al e = decide (e ∈ A)
abbrev Qjd := Option (SO × KS × List (Ed × Bool)) × Int
abbrev stA (r : Qjd) : Option Addr := r.1.map fun x => ⟨x.1.g, 0, none⟩
def Q54 (r : Qjd) : List It := match r.1 with
 | none => []
 | some x => StI x.1 x.2.1 x.2.2
def Qfb (v : Vw) (es : List Ed) (r : Qjd) : Prop := r.2 = Qao v es ∧ ((r.1 = none ∧ ¬ r.2 = 0) ∨ ∃ o s al, r.1 = some (o, s, al) ∧ r.2 = 0 ∧ VOk o v s al (Yv es))
theorem Q16 {al : List (Ed × Bool)} {es : List Ed} {k : Nat} (hk : k < es.length) {e : Ed} (he : at' es (k : Int) = e) (h : ∀ x, J9 al x = decide (x ∈ es.take k)) (x : Ed) : J9 (ptk e true al) x = decide (x ∈ es.take (k + 1)) := by
 unfold J9 at h ⊢
 rw [Xl, List.take_succ_eq_append_getElem hk]
 rw [Q1 hk] at he
 rw [he]
 by_cases q : e = x
 · subst q; simp
 · rw [if_neg q, h]
   have : ¬ x = e := fun q2 => q q2.symm
   simp [this]

/-- slices.Clone[[]string,string] -/
theorem Qt6 (xs : List Lab) (hm : xs.length ≤ 1000000) : Ct Tryz.prog 45 [SlT kS xs] ([]) Unit (fun _ => SlT kS xs) (fun _ => []) (fun _ => True) := by
 refine Qn Tryz.func45 rfl rfl ?_
 intro H w
 refine sq (rg (ak rfl (tn (nn (sq (sq (rg (mv rfl rfl (oA (Wr oz Tryz.underlying22) pR rfl rfl (fun b1 hb1 => ?_))))))))))
 refine tn (nn (tc oz (fun c4 => ?_) (fun c4 => ?_)))
 · try simp only [cq] at c4
   obtain rfl := hb1 c4
   refine sq (rg (ak rfl (tn (nn (tR (tt ?_))))))
   exact Qi .ret (.inl rfl) rfl () (OT.conv oz (fun H u h => Jr h)) trivial (by exact pn)
 · try simp only [cq] at c4
   refine sk (nn (sq (rg (oA (Jf (d := kS) (v0 := []) yr6 ylw zS (show 0 * 1 ≤ 16777216 from by decide) (by decide) Qc) pR rfl rfl (fun v3_0 _ => ?_)))))
   refine mv rfl rfl (oA (Q0 oz (pA 0 rfl) oz yr6 (by (simp; omega)) (by (simp [maxLen]; omega))) (pA 0 rfl) rfl rfl (fun v3_2 _ => ?_))
   refine av rfl rfl (tn (Xh (Qq 0 rfl) 2 oz (nn (tR ?_))))
   exact Qi .ret (.inl rfl) rfl () oz trivial (by exact pn)
/-- slices.Clone[[]rhizome/api.Atom,rhizome/api.Atom] -/
theorem Qp2 (xs : List Atm) (hm : xs.length ≤ 1000000) : Ct Tryz.prog 46 [SlT kA xs] ([]) Unit (fun _ => SlT kA xs) (fun _ => []) (fun _ => True) := by
 refine Qn Tryz.func46 rfl rfl ?_
 intro H w
 refine sq (rg (ak rfl (tn (nn (sq (sq (rg (mv rfl rfl (oA (Wr oz Tryz.underlying23) pR rfl rfl (fun b1 hb1 => ?_))))))))))
 refine tn (nn (tc oz (fun c4 => ?_) (fun c4 => ?_)))
 · try simp only [cq] at c4
   obtain rfl := hb1 c4
   refine sq (rg (ak rfl (tn (nn (tR (tt ?_))))))
   exact Qi .ret (.inl rfl) rfl () (OT.conv oz (fun H u h => Jr h)) trivial (by exact pn)
 · try simp only [cq] at c4
   refine sk (nn (sq (rg (oA (Jf (d := kA) (v0 := ([], [], [])) ya1 y03 zA (show 0 * 3 ≤ 16777216 from by decide) (by decide) Qc) pR rfl rfl (fun v3_0 _ => ?_)))))
   refine mv rfl rfl (oA (Q0 oz (pA 0 rfl) oz ya1 (by (simp; omega)) (by (simp [maxLen]; omega))) (pA 0 rfl) rfl rfl (fun v3_2 _ => ?_))
   refine av rfl rfl (tn (Xh (Qq 0 rfl) 2 oz (nn (tR ?_))))
   exact Qi .ret (.inl rfl) rfl () oz trivial (by exact pn)
/-- rhizome/view.own -/
theorem Q17 (v : Vw) (ho : v.2.2.1.length ≤ 1000000) (ha : v.2.2.2.1.length ≤ 1000000) : Ct Tryz.prog 28 [kV.T v] ([]) Unit (fun _ => kV.T v) (fun _ => []) (fun _ => True) := by
 refine Qn Tryz.func28 rfl rfl ?_
 intro H w
 refine sq (rg (oA (Xf (d := kV) oz) pR rfl rfl (fun g0_0 _ => ?_)))
 refine oA (Qz (zV)) pR rfl rfl (fun g0_1 _ => ?_)
 refine tn (nn (sq ?_))
 apply Xs (m := 7) (ns := [[(1, none)], [(3, some 0)], [(4, some 1)], [(1, none)], [(6, some 3)], [(7, some 4)], [(1, none)]]) (by kernel_rfl) (by kernel_rfl) (Ts := [_, _, _, _, _, _, _]) rfl
 case hops =>
  exact ⟨rP (pf oz yss), rP (plb oz (mA 1 rfl) lv2 ye4), Zc rfl (aC (Qt6 _ (by omega)) ys1 (oc oz oN) pR) (fun _ _ _ _ h => h), rP (pf oz y46), rP (plb oz (mA 1 rfl) lv3 y2r), Zc rfl (aC (Qp2 _ (by omega)) ynr (oc oz oN) pR) (fun _ _ _ _ h => h), rP (pf oz yss), trivial⟩
 case h =>
  refine oA (Yd oz oz (pA 1 rfl) lv2 ye4) (pA 1 rfl) rfl rfl (fun _ _ => ?_)
  refine oP (pf oz y46) rfl (oA (Yd oz oz (pA 0 rfl) lv3 y2r) (pA 0 rfl) rfl rfl (fun _ _ => ?_))
  refine tn (nn (sq (rg (oP (plv oz (mA 0 rfl) y4q) rfl (oA (asv oz oz (pA 1 rfl) y4q) (pA 1 rfl) rfl rfl (fun _ _ => ?_))))))
  refine tn (nn (tR ?_))
  exact Qlt .ret (.inl rfl) rfl () oz (mA 0 rfl) y4q rfl trivial (by exact pn)
/-- rhizome/view.New -/
theorem Qg3 (v : Vw) (es : List Ed) (ho : v.2.2.1.length ≤ 1000000) (ha : v.2.2.2.1.length ≤ 1000000) (hm : es.length ≤ 60) (hei : ∀ e ∈ es, Y8 e.1 ∧ Y8 e.2.2) : Ct Tryz.prog 10 [kV.T v, SlT kE es] ([]) Qjd (fun q => Y1 [IsV (.pointer (stA q)), I64 q.2]) (fun q => Q54 q) (fun q => Qfb v es q) := by
 refine Qn Tryz.func10 rfl rfl ?_
 intro H w
 refine sq (rg (oA (Xf (d := kV) oz) pR rfl rfl (fun g0_0 _ => ?_)))
 refine ak rfl (ak rfl (tn (nn (sq (sq (rg (oP (plv oz (mA 0 rfl) y4q) rfl (mv rfl rfl (oA (aC (Qi2 v es (by unfold maxLen; omega) (by unfold maxLen; omega) (by omega) hei) ygk (oc oz (oc oz oN)) pR) pR rfl rfl (fun q hq => ?_))))))))))
 refine mv rfl rfl (oP (Qd oz rfl) rfl (oP (Qd oz rfl) rfl (av rfl rfl (av rfl rfl (tn (nn (sq ?_)))))))
 obtain ⟨hqc, _, _⟩ := Qj2 hq
 refine rg (mv rfl rfl (oP (Yj oz ot) rfl (tn (nn (tc oz (fun c18 => ?_) (fun c18 => ?_))))))
 · have hq0 : ¬ q.2 = 0 := of_decide_eq_true c18
   refine sq (rg (mv rfl rfl (ak rfl (av rfl rfl (tn (nn (tR (tt ?_))))))))
   exact Yb .ret (.inl rfl) rfl (none, q.2) oz oz (fun _ _ h => h) ⟨hqc, .inl ⟨rfl, hq0⟩⟩ (by exact pn)
 have hq0 : q.2 = 0 := Classical.byContradiction fun h => by rw [decide_eq_true (p := q.2 ≠ 0) h] at c18; cases c18
 rw [hq0] at hqc
 obtain ⟨hc2, hc1⟩ := Qxn hqc.symm
 refine sk (nn (sq (rg (oP (plv oz (mA 0 rfl) y4q) rfl (oA (aC (Q17 _ (by omega) (by omega)) y5m (oc oz oN) pR) pR rfl rfl (fun _ _ => ?_))))))
 refine oA (Q9 Kg Xd.T) pR rfl rfl (fun g4_2 _ => ?_)
 refine oP (Zb (d := kSt) (v0 := (([], 0, [], [], []), .nilIface, .map none)) (ps := [(0, 5), (5, 1), (6, 1)]) zSt (by kernel_rfl) rfl (Qk rfl lt0 oz (Qk rfl lt2 (OT.raw oz rfl) Qc))) rfl (oA (Xf (d := kSt) oz) pR rfl rfl (fun g4_4 _ => ?_))
 refine av rfl rfl (tn (nn (sq (sq (rg (mv rfl rfl (oP (pls oz Tryz.underlying26) rfl (oP (Qm ot) rfl (tn (nn (tb (Qt (σ := Nat × List (Ed × Bool)) (e4 1 2 8 25 rfl (ec 26 rfl en)) (fun s => [(27, I64 (s.1 : Int))]) (fun s => [Qb g4_4 74 kSt (v, .nilIface, mp g4_2), Qg g4_2 Kg Xd.T s.2, Qb g0_0 25 kV v]) (fun s => s.1 ≤ es.length ∧ ∀ x, J9 s.2 x = decide (x ∈ es.take s.1)) (fun s => es.length - s.1) (0, []) ⟨Nat.zero_le _, fun x => by simp [J9, lkp]⟩ ?_ (op (by repeat first | exact pn | refine pc 0 rfl ?_)) ?_))))))))))))
 · exact (ec 27 rfl en)
 rintro ⟨k, al⟩ ⟨hk, hal⟩
 dsimp only at hk hal ⊢
 refine sq (rg (oP (Q5 oz oz) rfl (tn (nn (sq (tc oz (fun c28 => ?_) (fun c28 => ?_)))))))
 · refine sk (nn (sq (tb (sq ?_))))
   have hkl : k < es.length := by simp only [decide_eq_true_eq] at c28; omega
   obtain ⟨e, he⟩ : ∃ e, at' es (k : Int) = e := ⟨_, rfl⟩
   refine rg (oP (Qj oz oz Tryz.underlying26 y16 (by omega) (by omega)) rfl (oP (pL oz y16) rfl (oA (Qz (zE)) pR rfl rfl (fun g7_2 _ => ?_))))
   refine oA (asv oz oz (pA 0 rfl) y16) (pA 0 rfl) rfl rfl (fun _ _ => ?_)
   refine tn ?_
   rw [he]
   refine nn ?_
   apply Xs (m := 5) (ns := [[(8, none)], [(31, some 0)], [(32, some 1)], [(33, some 2)], [(10, none)]]) (by kernel_rfl) (by kernel_rfl) (Ts := [_, _, _, _, _]) rfl
   case hops =>
    exact ⟨rmv rfl, rP (Qe oz), rP (pf oz yn6), rP (Ql oz (mA 1 rfl) lt2 y4l), rP (plv oz (mA 0 rfl) y16), trivial⟩
   case h =>
    refine oA (X4 (V := Xd.T) (v := true) mkE Tryz.underlying70 oz (pA 2 rfl) oz ot) (pA 2 rfl) rfl rfl (fun _ _ => ?_)
    refine tn (bn (nn (rg (oP (pad oz ot (by omega)) rfl (mv rfl rfl (tn (nn ?_)))))))
    exact tg (k + 1, ptk e true al) ⟨hkl, Q16 hkl he hal⟩ (by show es.length - (k + 1) < es.length - k; omega) ef (op (by repeat first | exact pn | refine pc 0 rfl ?_ | refine pc 1 rfl ?_ | refine pc 2 rfl ?_))
 refine Qx (tx (tx (bh (nn (sq (sq ?_))))))
 obtain rfl : k = es.length := by simp only [decide_eq_false_iff_not] at c28; omega
 rw [List.take_length] at hal
 refine rg (oP (pf oz yel) rfl (oP (plb oz (mA 2 rfl) lv1 ynm) rfl (oP (Zs oz ot) rfl (tn (nn (tc oz (fun c39 => ?_) (fun c39 => ?_)))))))
 · have hk2 : v.2.1 = 2 := of_decide_eq_true c39
   have hnb := hc2 hk2
   refine rg (mv rfl rfl (oP (pf oz yys) rfl (oP (plb oz (mA 2 rfl) lv4 ylw) rfl (mv rfl rfl (oA (aC (Q15 v.2.2.2.2 es hnb (by omega) hei) y2t (oc oz (oc oz oN)) pR) pR rfl rfl (fun r hr => ?_))))))
   refine Q4 List.perm_append_comm (mv rfl rfl (oP (Qd oz rfl) rfl (oP (Qeq oz Tryz.underlying75 rfl) rfl (oP (Qd oz rfl) rfl (oP (Qe oz) rfl (oP (pf oz y7w) rfl (oA (Zq oz oz (by rfl) (pA 0 rfl) lt1 y72) (pA 0 rfl) rfl rfl (fun _ _ => ?_))))))))
   refine tn (nn (sq (rg (mv rfl rfl (av rfl rfl (ak rfl (tn (nn (tR ?_)))))))))
   exact Yb .ret (.inl rfl) rfl (some (⟨g4_4, g4_2, v, .d r.1⟩, ⟨0, r.2.1, r.2.2.1, [], [], []⟩, al), 0) oz oz (fun _ _ h => h) ⟨hqc, .inr ⟨_, _, _, rfl, rfl, rfl, Qra es, ⟨hk2, hr.l, _, _, hr.ok, fun x => (hr.m x).trans (Qds (fun _ => Qb8.symm) x)⟩, fun e => (hal e).trans (decide_eq_decide.2 Qb8.symm)⟩⟩ (pc 0 rfl (pc 0 rfl (pd pl)))
 have hk2 : ¬ v.2.1 = 2 := of_decide_eq_false c39
 have hcc := hc1 hk2
 refine rg (mv rfl rfl (mv rfl rfl (oP (Qe oz) rfl (oP (pf oz yf4) rfl (oP (plb oz (mA 0 rfl) lt0 y4q) rfl (mv rfl rfl (oA (aC (Q4a v es (by unfold maxLen; omega) (by unfold maxLen; omega) (by omega) hei) yia (oc oz (oc oz oN)) pR) pR rfl rfl fun r hr => ?_)))))))
 obtain ⟨n, m, lv, ct, rfl, hnv, hnet⟩ := Qxo hcc.1 hcc.2 hr
 refine Q4 List.perm_append_comm (mv rfl rfl (oP (Qd oz rfl) rfl (Zt 59 (T := AtT J7 (Y9 n)) oz (Qxm 59 oz fun p => (oP (Qeq oz Tryz.underlying78 rfl) rfl (oP (Qd oz rfl) rfl (oP (Qe oz) rfl (oP (pf oz y7w) rfl (oA (Zq oz oz (by rfl) (pA 1 rfl) lt1 y72) (pA 1 rfl) rfl rfl (fun _ _ => ?_))))))))))
 refine tn (nn (sq (rg (mv rfl rfl (av rfl rfl (ak rfl (tn (nn (tR ?_)))))))))
 exact Yb .ret (.inl rfl) rfl (some (⟨g4_4, g4_2, v, .n n p⟩, ⟨0, ⟨[], [], 0⟩, ⟨[], [], 0⟩, m, lv, ct⟩, al), 0) oz oz (fun _ _ h => h) ⟨hqc, .inr ⟨_, _, _, rfl, rfl, rfl, Qra es, ⟨hk2, hnv, hcc.1, hnet, (Qa7 fun _ => Qb8).trans hcc.2⟩, fun e => (hal e).trans (decide_eq_decide.2 Qb8.symm)⟩⟩ (pc 0 rfl (pc 1 rfl (pc 0 rfl (pd pl))))
/-- What is wrong with edges that go, and come. -/
def Yn (al : List (Ed × Bool)) (gone come : List Ed) : Int := if gone.all (J9 al) = true then (if (decide gone.Nodup && (decide come.Nodup && come.all fun e => !J9 al e || decide (e ∈ gone))) = true then 0 else 2) else 4
/-- How often. -/
abbrev Qn6 (m : List (Ed × Int)) (l : List Ed) : Prop := l.Nodup ∧ ∀ x, (lkp x m).getD 0 = if x ∈ l then 1 else 0
theorem Qrf : Qn6 [] [] := ⟨List.nodup_nil, fun x => by simp [lkp]⟩
theorem Qn7 {m : List (Ed × Int)} {es : List Ed} {k : Nat} (hk : k < es.length) {e : Ed} (he : at' es (k : Int) = e) (h : Qn6 m (es.take k)) (hc : ¬ (lkp e m).getD 0 + 1 > 1) : Qn6 (ptk e ((lkp e m).getD 0 + 1) m) (es.take (k + 1)) := by
 have h1 := h.2 e
 have hne : e ∉ es.take k := fun q => by rw [if_pos q] at h1; omega
 rw [if_neg hne] at h1
 rw [Q1 hk] at he
 rw [List.take_succ_eq_append_getElem hk, he]
 refine ⟨List.nodup_append.2 ⟨h.1, by simp, fun a ha b hb q => hne (by rw [← (by simpa using hb : b = e), ← q]; exact ha)⟩, fun x => ?_⟩
 rw [Xl]
 by_cases q : e = x
 · subst q; simp [h1]
 have q2 : ¬ x = e := fun z => q z.symm
 rw [if_neg q, h.2]; simp [q2]
theorem Qrg {m : List (Ed × Int)} {es : List Ed} {k : Nat} (hk : k < es.length) {e : Ed} (he : at' es (k : Int) = e) (h : Qn6 m (es.take k)) (hc : (lkp e m).getD 0 + 1 > 1) : ¬ es.Nodup := fun hn => by
 have h1 := h.2 e
 rw [Q1 hk] at he
 have hin : e ∈ es.take k := Classical.byContradiction fun q => by rw [if_neg q] at h1; omega
 obtain ⟨j, hj, h2⟩ := List.mem_take_iff_getElem.1 hin
 have := (List.getElem_inj hn).1 (h2.trans he.symm)
 omega
theorem Qkd {m : List (Ed × Int)} {l : List Ed} (h : Qn6 m l) (e : Ed) : 0 ≤ (lkp e m).getD 0 ∧ (lkp e m).getD 0 ≤ 1 := by rw [h.2]; split <;> omega
theorem Qhn {p : Ed → Bool} {es : List Ed} {k : Nat} (hk : k < es.length) {e : Ed} (he : at' es (k : Int) = e) (h : (es.take k).all p = true) (hp : p e = true) : (es.take (k + 1)).all p = true := by
 rw [Q1 hk] at he
 rw [List.take_succ_eq_append_getElem hk, List.all_append, h, he]; simp [hp]
theorem Qyt {p : Ed → Bool} {es : List Ed} {k : Nat} (hk : k < es.length) {e : Ed} (he : at' es (k : Int) = e) (hp : p e = false) : es.all p = false := by
 rw [Bool.eq_false_iff]
 intro h
 have := List.all_eq_true.1 h e (by rw [← he]; exact at_mem hk)
 rw [hp] at this; cases this
theorem Qyu {al : List (Ed × Bool)} {gone come : List Ed} {m mi : List (Ed × Int)} {k : Nat} {e : Ed} (hal : gone.all (J9 al) = true) (hn : gone.Nodup) (hk : k < come.length) (he : at' come (k : Int) = e) (hci : Qn6 mi (come.take k)) (h0 : (lkp e m).getD 0 = if e ∈ gone then 1 else 0) (hc : ((lkp e al).getD false && decide ((lkp e m).getD 0 = 0) || decide (1 < (lkp e mi).getD 0 + 1)) = true) : Yn al gone come = 2 := by
 have h2 : (decide come.Nodup && come.all fun e => !J9 al e || decide (e ∈ gone)) = false := by
  rcases Bool.or_eq_true _ _ ▸ hc with h | h
  · rw [Bool.and_eq_true, decide_eq_true_eq] at h
    have hg : e ∉ gone := fun q => by rw [if_pos q] at h0; omega
    rw [Qyt hk he (by show (!J9 al e || decide (e ∈ gone)) = false; rw [show J9 al e = true from h.1, decide_eq_false hg]; rfl), Bool.and_false]
  rw [decide_eq_false (Qrg hk he hci (of_decide_eq_true h)), Bool.false_and]
 unfold Yn
 rw [if_pos hal, decide_eq_true hn, h2]; rfl
theorem Qyv {al : List (Ed × Bool)} {gone : List Ed} {m mi : List (Ed × Int)} {e : Ed} (h0 : (lkp e m).getD 0 = if e ∈ gone then 1 else 0) (hc : ((lkp e al).getD false && decide ((lkp e m).getD 0 = 0) || decide (1 < (lkp e mi).getD 0 + 1)) = false) : ¬ (lkp e mi).getD 0 + 1 > 1 ∧ (!J9 al e || decide (e ∈ gone)) = true := by
 rw [Bool.or_eq_false_iff] at hc
 refine ⟨of_decide_eq_false hc.2, ?_⟩
 have h1 := hc.1
 unfold J9
 cases ha : (lkp e al).getD false with
 | false => rfl
 | true =>
  rw [ha, Bool.true_and] at h1
  have h1 := of_decide_eq_false h1
  by_cases hg : e ∈ gone
  · simp [hg]
  rw [if_neg hg] at h0; exact absurd h0 h1

/-- (*rhizome/view.Standing).look -/
theorem Qyw (o : SO) (s : KS) (al : List (Ed × Bool)) (gone come : List Ed) (h1 : gone.length ≤ 1000) (h2 : come.length ≤ 1000) : Ct Tryz.prog 31 [IsV (pt o.g 0), SlT kE gone, SlT kE come] (StI o s al) Unit (fun _ => I64 (Yn al gone come)) (fun _ => StI o s al) (fun _ => True) := by
 refine Qn Tryz.func31 rfl rfl ?_
 intro H w
 refine Q4 (List.Perm.refl (Qb o.g 74 kSt (stV o) :: Qg o.ga Kg Xd.T al :: KI o.k s)) (sq (rg (ak rfl (tn (nn (sq (rg (oA (Q9 Kg kI.T) pR rfl rfl (fun g1_0 _ => ?_)))))))))
 refine av rfl rfl (tn (nn (sq (sq (rg (mv rfl rfl (oP (pls oz Tryz.underlying26) rfl (oP (Qm ot) rfl (tn (nn (tb (Qt (σ := Nat) (e4 0 1 2 7 rfl (e2 16 17 rfl en)) (fun k => [(18, I64 (k : Int))]) (fun k => Qg g1_0 Kg kI.T [] :: Qb o.g 74 kSt (stV o) :: Qg o.ga Kg Xd.T al :: KI o.k s) (fun k => k ≤ gone.length ∧ (gone.take k).all (J9 al) = true) (fun k => gone.length - k) 0 ⟨Nat.zero_le _, rfl⟩ ?_ (op pl) ?_))))))))))))
 · exact (ec 18 rfl en)
 rintro k ⟨hk, hal⟩
 refine sq (rg (oP (Q5 oz oz) rfl (tn (nn (sq (tc oz (fun c19 => ?_) (fun c19 => ?_)))))))
 · refine sk (nn (sq (tb (sq ?_))))
   have hkl : k < gone.length := by simp only [decide_eq_true_eq] at c19; omega
   obtain ⟨e, he⟩ : ∃ e, at' gone (k : Int) = e := ⟨_, rfl⟩
   refine rg (oP (Qj oz oz Tryz.underlying26 y16 (by omega) (by omega)) rfl (oP (pL oz y16) rfl (oA (Qz (zE)) pR rfl rfl (fun g4_2 _ => ?_))))
   refine oA (asv oz oz (pA 0 rfl) y16) (pA 0 rfl) rfl rfl (fun _ _ => ?_)
   refine tn ?_
   rw [he]
   refine nn (sq ?_)
   apply Xs (m := 5) (ns := [[(0, none)], [(22, some 0)], [(23, some 1)], [(24, some 2)], [(9, none)]]) (by kernel_rfl) (by kernel_rfl) (Ts := [_, _, _, _, _]) rfl
   case hops =>
    exact ⟨rmv rfl, rP (Qe oz), rP (pf oz yn6), rP (Ql oz (mA 2 rfl) lt2 y4l), rP (plv oz (mA 0 rfl) y16), trivial⟩
   case h =>
    refine oP (Xq mkE Tryz.underlying70 Q3l oz (mA 3 rfl) oz) rfl (oP (Zf oz) rfl (tn (nn (tc oz (fun c28 => ?_) (fun c28 => ?_)))))
    · have hae : J9 al e = false := by simpa using c28
      have hno := Qyt hkl he hae
      have hres : Yn al gone come = 4 := by unfold Yn; rw [hno]; rfl
      exact sq (rg (ak rfl (tn (nn (tR (Qw (tt (tt (Qw (tt (Qi .ret (.inl rfl) rfl () (OT.val oz (congrArg (Value.int _) (hres.symm))) trivial (pd (pd pl)))))))))))))
    have hae : J9 al e = true := by simpa using c28
    refine sk (bn (nn (rg (oP (pad oz ot (by omega)) rfl (mv rfl rfl (tn (nn ?_)))))))
    exact tg (k + 1) ⟨hkl, Qhn hkl he hal hae⟩ (by show gone.length - (k + 1) < gone.length - k; omega) ef (op (pd pl))
 refine Qx (tx (tx (bh (nn (sq (sq ?_))))))
 obtain rfl : k = gone.length := by simp only [decide_eq_false_iff_not] at c19; omega
 rw [List.take_length] at hal
 refine rg (mv rfl rfl (oP (pls oz Tryz.underlying26) rfl (oP (Qm ot) rfl (tn (nn (tb (Qt (σ := Nat × List (Ed × Int)) (e4 0 2 7 30 rfl (ec 31 rfl en)) (fun y => [(32, I64 (y.1 : Int))]) (fun y => Qg g1_0 Kg kI.T y.2 :: Qb o.g 74 kSt (stV o) :: Qg o.ga Kg Xd.T al :: KI o.k s) (fun y => y.1 ≤ gone.length ∧ Qn6 y.2 (gone.take y.1)) (fun y => gone.length - y.1) (0, []) ⟨Nat.zero_le _, Qrf⟩ ?_ (op pl) ?_)))))))
 · exact (ec 32 rfl en)
 rintro ⟨k, m⟩ ⟨hk, hc⟩
 dsimp only at hk hc ⊢
 refine sq (rg (oP (Q5 oz oz) rfl (tn (nn (sq (tc oz (fun c33 => ?_) (fun c33 => ?_)))))))
 · refine sk (nn (sq (tb (sq ?_))))
   have hkl : k < gone.length := by simp only [decide_eq_true_eq] at c33; omega
   obtain ⟨e, he⟩ : ∃ e, at' gone (k : Int) = e := ⟨_, rfl⟩
   have hcr := Qkd hc e
   refine rg (oP (Qj oz oz Tryz.underlying26 y16 (by omega) (by omega)) rfl (oP (pL oz y16) rfl (oA (Qz (zE)) pR rfl rfl (fun g10_2 _ => ?_))))
   refine oA (asv oz oz (pA 0 rfl) y16) (pA 0 rfl) rfl rfl (fun _ _ => ?_)
   refine tn ?_
   rw [he]
   refine nn (sq ?_)
   apply Yg (ρ := Nat) (φ := fun rr => True) (p := 4) (Lf := fun c rr => cond c (Qi5 g1_0 Kg kI.T (ptk e ((lkp e m).getD 0) m) e rr :: Qb g10_2 42 kE e :: Qb o.g 74 kSt (stV o) :: Qg o.ga Kg Xd.T al :: KI o.k s) (Qb g10_2 42 kE e :: Qg g1_0 Kg kI.T m :: Qb o.g 74 kSt (stV o) :: Qg o.ga Kg Xd.T al :: KI o.k s)) 0 (by kernel_rfl) (m := 6) (ns := [[(7, none)], [(11, none)], [(36, some 0), (37, some 1)], [(38, some 2)], [(36, some 0), (37, some 1)], [(40, some 4)]]) (by kernel_rfl) (by kernel_rfl) (Ts := fun rr => [_, _, kI.T ((lkp e m).getD 0), I64 ((lkp e m).getD 0 + 1), Y1 [kI.T ((lkp e m).getD 0), I64 (rr : Int)], I64 (rr : Int)]) (fun _ => rfl)
   case hops =>
    refine ⟨?_, ?_, ?_, ?_, ?_, ?_, trivial⟩
    · exact ⟨cBf (by kernel_rfl) fun r _ => rgo r rfl ⟨rfl, trivial⟩ (rmv rfl), fun _ _ _ _ => rfl⟩
    · exact ⟨cBf (by kernel_rfl) fun r _ => rgo r rfl ⟨rfl, trivial⟩ (rP (plv oz (mA 0 rfl) y16)), fun _ _ _ _ => rfl⟩
    · exact ⟨cB (fun r hc => rgo r rfl ⟨rfl, trivial⟩ (rP (Xq mkE Tryz.underlying126 zI oz (mA 1 rfl) oz))) fun r hc => rgo r rfl ⟨rfl, trivial⟩ (rP (Vk mkE Tryz.underlying126 zI oz (mA 0 rfl) oz)), fun _ _ _ _ => rfl⟩
    · exact ⟨by intro c r hc; cases c <;> exact rgo r rfl ⟨rfl, trivial⟩ (rP (pad oz ot (by omega))), fun _ _ _ _ => rfl⟩
    · refine ⟨?_, ?_⟩
      · exact cBf (by kernel_rfl) fun r _ => Zg rfl (Qdf mkE Tryz.underlying126 zI oz (pA 1 rfl) oz) (pA 1 rfl) (fun r => pR) (fun _ _ _ => trivial) (fun _ _ _ _ h => h)
      exact fun _ h => absurd h (by decide)
    refine ⟨?_, ?_⟩
    · exact cBt (by kernel_rfl) fun r _ => rgo r rfl ⟨rfl, trivial⟩ (rP (Qd oz rfl))
    exact fun h => Bool.noConfusion (h.symm.trans (by kernel_rfl : Jl _ _ _ _ = false))
   case h =>
    intro s11_4 _
    refine oA (Vj oz (pA 0 rfl) oz oz) (pA 0 rfl) rfl rfl (fun _ _ => ?_)
    refine tn ?_
    rw [Qgr]
    refine nn (sq (rg (mv rfl rfl (oP (plv oz (mA 1 rfl) y16) rfl (oP (Xq mkE Tryz.underlying126 zI oz (mA 0 rfl) oz) rfl (oP (Y3 oz ot) rfl (tn (nn (tc oz (fun c45 => ?_) (fun c45 => ?_))))))))))
    · rw [Xl, if_pos rfl] at c45
      have hbd := Qrg hkl he hc (of_decide_eq_true c45)
      have hres : Yn al gone come = 2 := by unfold Yn; rw [if_pos hal, decide_eq_false hbd]; rfl
      exact sq (rg (ak rfl (tn (nn (tR (Qw (tt (tt (Qw (tt (Qi .ret (.inl rfl) rfl () (OT.val oz (congrArg (Value.int _) (hres.symm))) trivial (pd (pd pl)))))))))))))
    rw [Xl, if_pos rfl] at c45
    have hst := Qn7 hkl he hc (of_decide_eq_false c45)
    refine sk (bn (nn (rg (oP (pad oz ot (by omega)) rfl (mv rfl rfl (tn (nn ?_)))))))
    exact tg (k + 1, ptk e ((lkp e m).getD 0 + 1) m) ⟨hkl, hst⟩ (by show gone.length - (k + 1) < gone.length - k; omega) ef (op (pc 0 rfl (pd pl)))
 refine Qx (tx (tx (bh (nn (sq ?_)))))
 obtain rfl : k = gone.length := by simp only [decide_eq_false_iff_not] at c33; omega
 rw [List.take_length] at hc
 refine rg (oA (Q9 Kg kI.T) pR rfl rfl (fun g15_0 _ => ?_))
 refine av rfl rfl (tn (nn (sq (sq (rg (mv rfl rfl (oP (pls oz Tryz.underlying26) rfl (oP (Qm ot) rfl (tn (nn (tb (Qt (σ := Nat × List (Ed × Int)) (e4 0 7 12 48 rfl (ec 49 rfl en)) (fun y => [(50, I64 (y.1 : Int))]) (fun y => Qg g15_0 Kg kI.T y.2 :: Qg g1_0 Kg kI.T m :: Qb o.g 74 kSt (stV o) :: Qg o.ga Kg Xd.T al :: KI o.k s) (fun y => y.1 ≤ come.length ∧ Qn6 y.2 (come.take y.1) ∧ ((come.take y.1).all fun e => !J9 al e || decide (e ∈ gone)) = true) (fun y => come.length - y.1) (0, []) ⟨Nat.zero_le _, Qrf, rfl⟩ ?_ (op pl) ?_))))))))))))
 · exact (ec 50 rfl en)
 rintro ⟨k, mi⟩ ⟨hk, hci, hca⟩
 dsimp only at hk hci hca ⊢
 refine sq (rg (oP (Q5 oz oz) rfl (tn (nn (sq (tc oz (fun c51 => ?_) (fun c51 => ?_)))))))
 · refine sk (nn (sq (tb (sq ?_))))
   have hkl : k < come.length := by simp only [decide_eq_true_eq] at c51; omega
   obtain ⟨e, he⟩ : ∃ e, at' come (k : Int) = e := ⟨_, rfl⟩
   have hcr := Qkd hci e
   refine rg (oP (Qj oz oz Tryz.underlying26 y16 (by omega) (by omega)) rfl (oP (pL oz y16) rfl (oA (Qz (zE)) pR rfl rfl (fun g18_2 _ => ?_))))
   refine oA (asv oz oz (pA 0 rfl) y16) (pA 0 rfl) rfl rfl (fun _ _ => ?_)
   refine tn ?_
   rw [he]
   refine nn (sq ?_)
   apply Yg (ρ := Nat) (φ := fun rr => True) (p := 4) (Lf := fun c rr => cond c (Qi5 g15_0 Kg kI.T (ptk e ((lkp e mi).getD 0) mi) e rr :: Qb g18_2 42 kE e :: Qg g1_0 Kg kI.T m :: Qb o.g 74 kSt (stV o) :: Qg o.ga Kg Xd.T al :: KI o.k s) (Qb g18_2 42 kE e :: Qg g15_0 Kg kI.T mi :: Qg g1_0 Kg kI.T m :: Qb o.g 74 kSt (stV o) :: Qg o.ga Kg Xd.T al :: KI o.k s)) 0 (by kernel_rfl) (m := 6) (ns := [[(12, none)], [(14, none)], [(54, some 0), (55, some 1)], [(56, some 2)], [(54, some 0), (55, some 1)], [(58, some 4)]]) (by kernel_rfl) (by kernel_rfl) (Ts := fun rr => [_, _, kI.T ((lkp e mi).getD 0), I64 ((lkp e mi).getD 0 + 1), Y1 [kI.T ((lkp e mi).getD 0), I64 (rr : Int)], I64 (rr : Int)]) (fun _ => rfl)
   case hops =>
    refine ⟨?_, ?_, ?_, ?_, ?_, ?_, trivial⟩
    · exact ⟨cBf (by kernel_rfl) fun r _ => rgo r rfl ⟨rfl, trivial⟩ (rmv rfl), fun _ _ _ _ => rfl⟩
    · exact ⟨cBf (by kernel_rfl) fun r _ => rgo r rfl ⟨rfl, trivial⟩ (rP (plv oz (mA 0 rfl) y16)), fun _ _ _ _ => rfl⟩
    · exact ⟨cB (fun r hc => rgo r rfl ⟨rfl, trivial⟩ (rP (Xq mkE Tryz.underlying126 zI oz (mA 1 rfl) oz))) fun r hc => rgo r rfl ⟨rfl, trivial⟩ (rP (Vk mkE Tryz.underlying126 zI oz (mA 0 rfl) oz)), fun _ _ _ _ => rfl⟩
    · exact ⟨by intro c r hc; cases c <;> exact rgo r rfl ⟨rfl, trivial⟩ (rP (pad oz ot (by omega))), fun _ _ _ _ => rfl⟩
    · refine ⟨?_, ?_⟩
      · exact cBf (by kernel_rfl) fun r _ => Zg rfl (Qdf mkE Tryz.underlying126 zI oz (pA 1 rfl) oz) (pA 1 rfl) (fun r => pR) (fun _ _ _ => trivial) (fun _ _ _ _ h => h)
      exact fun _ h => absurd h (by decide)
    refine ⟨?_, ?_⟩
    · exact cBt (by kernel_rfl) fun r _ => rgo r rfl ⟨rfl, trivial⟩ (rP (Qd oz rfl))
    exact fun h => Bool.noConfusion (h.symm.trans (by kernel_rfl : Jl _ _ _ _ = false))
   case h =>
    intro s19_4 _
    refine oA (Vj oz (pA 0 rfl) oz oz) (pA 0 rfl) rfl rfl (fun _ _ => ?_)
    refine tn ?_
    rw [Qgr]
    refine nn (sq ?_)
    apply Xs (m := 15) (ns := [[(0, none)], [(60, some 0)], [(61, some 1)], [(62, some 2)], [(14, none)], [(63, some 3), (64, some 4)], [(65, some 5)], [(7, none), (66, some 6)], [(14, none), (66, some 6)], [(66, some 6), (67, some 7), (68, some 8)], [(66, some 6), (69, some 9)], [(66, some 6), (70, some 10)], [(71, some 11)], [(12, none), (72, some 12)], [(14, none), (72, some 12)]]) (by kernel_rfl) (by kernel_rfl) (Ts := [_, _, _, _, _, _, _, _, _, _, _, _, _, _, _]) rfl
    case hops =>
     exact ⟨rmv rfl, rP (Qe oz), rP (pf oz yn6), rP (Ql oz (mA 3 rfl) lt2 y4l), rP (plv oz (mA 1 rfl) y16), rP (Xq mkE Tryz.underlying70 Q3l oz (mA 4 rfl) oz), rmv rfl, rJ rfl fun hg hg1 => rmv rfl, rJ rfl fun hg hg1 => rP (plv oz (mA 1 rfl) y16), rJ rfl fun hg hg1 => rP (Xq mkE Tryz.underlying126 zI (gu oz hg) (mA 2 rfl) (gu oz hg)), rJ rfl fun hg hg1 => rP (Zs (gu oz hg) ot), rP (Q2 oz oz), rmv rfl, rJ rfl fun hg hg1 => rmv rfl, rJ rfl fun hg hg1 => rP (plv oz (mA 1 rfl) y16), trivial⟩
    case h =>
     refine oG rfl rfl rfl (gm oz) (fun hg => by (have hg1 := hg.2; (try simp only [cq2] at hg1); exact Xq mkE Tryz.underlying126 zI (gu oz hg) (mA 0 rfl) (gu oz hg))) rfl ?_
     refine oG rfl rfl rfl (gm oz) (fun hg => by (have hg1 := hg.2; (try simp only [cq2] at hg1); exact Y3 (gu oz hg) ot)) rfl ?_
     refine oP (Zx oz oz) rfl (tn (nn (tc oz (fun c77 => ?_) (fun c77 => ?_))))
     · rw [Xl, if_pos rfl] at c77
       have hres : Yn al gone come = 2 := Qyu hal hc.1 hkl he hci (hc.2 e) c77
       exact sq (rg (ak rfl (tn (nn (tR (Qw (tt (tt (Qw (tt (Qi .ret (.inl rfl) rfl () (OT.val oz (congrArg (Value.int _) (hres.symm))) trivial (pd (pd (pd pl))))))))))))))
     rw [Xl, if_pos rfl] at c77
     obtain ⟨hno, hok⟩ := Qyv (hc.2 e) c77
     have hst := Qn7 hkl he hci hno
     refine sk (bn (nn (rg (oP (pad oz ot (by omega)) rfl (mv rfl rfl (tn (nn ?_)))))))
     exact tg (k + 1, ptk e ((lkp e mi).getD 0 + 1) mi) ⟨hkl, hst, Qhn hkl he hca hok⟩ (by show come.length - (k + 1) < come.length - k; omega) ef (op (pc 0 rfl (pd pl)))
 refine Qx (tx (tx (bh (nn (sq ?_)))))
 obtain rfl : k = come.length := by simp only [decide_eq_false_iff_not] at c51; omega
 rw [List.take_length] at hci hca
 have hres : Yn al gone come = 0 := by unfold Yn; rw [if_pos hal, decide_eq_true hc.1, decide_eq_true hci.1, hca]; rfl
 exact rg (ak rfl (tn (nn (tR (Qi .ret (.inl rfl) rfl () (OT.val oz (congrArg (Value.int _) (hres.symm))) trivial (pd (pd pl)))))))
end Go.Proofs.YtklhdalppmjnaaaGreatDoor
namespace Go.Proofs.YtklhdalppmjnaaaGreatDoor
open Go Go.Gw Go.So Go.Tu Go.Jn Go.MapKept
open Go.Dr hiding Pr
theorem Qs7 {al : List (Ed × Bool)} {gone come : List Ed} (h : Yn al gone come = 0) : (∀ e ∈ gone, J9 al e = true) ∧ gone.Nodup ∧ come.Nodup ∧ ∀ e ∈ come, J9 al e = true → e ∈ gone := by
 unfold Yn at h
 by_cases h1 : gone.all (J9 al) = true
 · rw [if_pos h1] at h
   by_cases h2 : (decide gone.Nodup && (decide come.Nodup && come.all fun e => !J9 al e || decide (e ∈ gone))) = true
   · simp only [Bool.and_eq_true, decide_eq_true_eq, List.all_eq_true, Bool.or_eq_true, Bool.not_eq_true'] at h2
     exact ⟨List.all_eq_true.1 h1, h2.1, h2.2.1, fun e he ha => (h2.2.2 e he).resolve_left fun q => by rw [ha] at q; cases q⟩
   rw [if_neg h2] at h; exact absurd h (by decide)
 rw [if_neg h1] at h; exact absurd h (by decide)
def Jb (A gone come : List Ed) : List Ed := goE (goE A gone false) come true
theorem Vu {A gone come : List Ed} {x : Ed} : x ∈ Jb A gone come ↔ (x ∈ A ∧ x ∉ gone) ∨ x ∈ come := by
 unfold Jb
 rw [Qa8, if_pos rfl, Qa8, if_neg (by decide)]
theorem Qs8 {k : KO} {v : Vw} {s : KS} {A B : List Ed} (h : KOk k v s A) (hx : ∀ x, x ∈ A ↔ x ∈ B) (hn : B.Nodup) : KOk k v s B := by
 cases k with
 | d o =>
  obtain ⟨h1, h2, E, S, h3, h4⟩ := h
  exact ⟨h1, h2, E, S, h3, fun x => (h4 x).trans (Qds hx x)⟩
 | n o p =>
  obtain ⟨h1, h2, h3, h4, h5⟩ := h
  exact ⟨h1, h2, h3, h4.congr hx hn, (Qa7 hx).symm.trans h5⟩
theorem Qe7 {k : KO} {v : Vw} {s : KS} {A : List Ed} (h : KOk k v s A) (hk : ¬ v.2.1 = 2) : Z4 v A = false := by
 cases k with
 | d o => exact absurd h.1 hk
 | n o p => exact h.2.2.2.2
theorem Qxr {v : Vw} {A B C : List Ed} : (Qbh (dif v A B) (dif v B C)).1 = dif v A C := by
 unfold dif
 rw [Qo1 Uo Uo Uo]
def Qgh (o : SO) (v : Vw) (al : List (Ed × Bool)) (A gone come : List Ed) (r : KS × List (Ed × Bool) × Dl × Int) : Prop :=
 (¬ r.2.2.2 = 0 ∧ VOk o v r.1 r.2.1 A ∧ r.2.2.1 = ([], []) ∧ r.2.2.2 = (if Yn al gone come = 0 then 5 else Yn al gone come) ∧ (Yn al gone come = 0 → ¬ v.2.1 = 2 ∧ Z4 v (Jb A gone come) = true)) ∨
 (r.2.2.2 = 0 ∧ Yn al gone come = 0 ∧ VOk o v r.1 r.2.1 (Jb A gone come) ∧ r.2.2.1 = dif v A (Jb A gone come))
section
variable {o : SO} {v : Vw} {s : KS} {al : List (Ed × Bool)} {A gone come : List Ed}
theorem Vv (h : ∀ e, J9 al e = decide (e ∈ A)) (hl : Yn al gone come = 0) : (∀ e ∈ gone, e ∈ A) ∧ gone.Nodup ∧ come.Nodup ∧ ∀ e ∈ come, e ∈ A → e ∈ gone := by
 obtain ⟨h1, h2, h3, h4⟩ := Qs7 hl
 exact ⟨fun e he => by have := h1 e he; rw [h] at this; exact of_decide_eq_true this, h2, h3, fun e he ha => h4 e he (by rw [h]; exact decide_eq_true ha)⟩
theorem Qlg (h : ∀ e, J9 al e = decide (e ∈ A)) (h1 : ∀ e ∈ gone, e ∈ A) (h2 : gone.Nodup) (h3 : come.Nodup) (h4 : ∀ e ∈ come, e ∈ A → e ∈ gone) : Yn al gone come = 0 := by
 unfold Yn
 rw [if_pos (List.all_eq_true.2 fun e he => by rw [h]; exact decide_eq_true (h1 e he)), if_pos]
 rw [Bool.and_eq_true, Bool.and_eq_true]
 refine ⟨decide_eq_true h2, decide_eq_true h3, List.all_eq_true.2 fun e he => ?_⟩
 rw [h]
 by_cases q : e ∈ A
 · rw [decide_eq_true q, decide_eq_true (h4 e he q)]; rfl
 rw [decide_eq_false q]; rfl
theorem Qs9 (h : VOk o v s al A) (hl : Yn al gone come = 0) : ∀ e ∈ gone, (e ∈ A ↔ false = false) := fun e he => ⟨fun _ => rfl, fun _ => (Vv h.a hl).1 e he⟩
theorem Qta (h : VOk o v s al A) (hl : Yn al gone come = 0) : ∀ e ∈ come, (e ∈ goE A gone false ↔ true = false) := fun e he => ⟨fun q => by
 rw [Qa8, if_neg (by decide)] at q
 exact absurd ((Vv h.a hl).2.2.2 e he q.1) q.2, fun q => by cases q⟩
theorem Qtb (h : VOk o v s al A) (hl : Yn al gone come = 0) : (∀ e ∈ gone, (e ∈ goE A gone false ↔ true = false)) ∧ ∀ x, x ∈ goE (goE A gone false) gone true ↔ x ∈ A := by
 refine ⟨fun e he => ⟨fun q => ?_, fun q => by cases q⟩, fun x => ?_⟩
 · rw [Qa8, if_neg (by decide)] at q
   exact absurd he q.2
 rw [Qa8, if_pos rfl, Qa8, if_neg (by decide)]
 have := (Vv h.a hl).1 x
 by_cases q : x ∈ gone
 · simp [q, this q]
 simp [q]
theorem Qtc (h : VOk o v s al A) (hl : Yn al gone come = 0) : (Jb A gone come).Nodup := by
 obtain ⟨h1, h2, h3, h4⟩ := Vv h.a hl
 show (Ya A gone ++ come).Nodup
 refine List.nodup_append.2 ⟨h.nd.sublist List.filter_sublist, h3, fun a ha b hb e => ?_⟩
 subst e
 obtain ⟨q1, q2⟩ := Xm.1 ha
 exact q2 (h4 a hb q1)
theorem Qnt (h : VOk o v s al A) (hl : Yn al gone come = 0) : (goE A gone false).length + gone.length = A.length := by
 obtain ⟨h1, h2, _, _⟩ := Vv h.a hl
 have e : (Ya A gone ++ gone).length = (goE A gone false).length + gone.length := List.length_append
 have hn : (Ya A gone ++ gone).Nodup := List.nodup_append.2 ⟨h.nd.sublist List.filter_sublist, h2, fun a ha b hb q => (Xm.1 ha).2 (q ▸ hb)⟩
 have l1 := Yw hn fun x hx => (List.mem_append.1 hx).elim (fun q => (Xm.1 q).1) (h1 x)
 have l2 := Yw (m := Ya A gone ++ gone) h.nd fun x hx => List.mem_append.2 (by
  by_cases q : x ∈ gone
  · exact .inr q
  exact .inl (Xm.2 ⟨hx, q⟩))
 omega
theorem Qtd {s' : KS} {al' : List (Ed × Bool)} (h : VOk o v s al A) (hl : Yn al gone come = 0) (hk : KOk o.k v s' (Jb A gone come)) (ha : ∀ e, J9 al' e = ((J9 al e && !decide (e ∈ gone)) || decide (e ∈ come))) : VOk o v s' al' (Jb A gone come) := ⟨h.ov, Qtc h hl, hk, fun e => by
 rw [ha, h.a, Bool.eq_iff_iff]
 simp only [Bool.or_eq_true, Bool.and_eq_true, Bool.not_eq_true', decide_eq_true_eq, decide_eq_false_iff_not, Vu]⟩
end
theorem Qxs {al al2 : List (Ed × Bool)} {gone : List Ed} {k : Nat} (hk : k < gone.length) {e : Ed} (he : at' gone (k : Int) = e) (hn : (keys al2).Nodup) (h : ∀ x, J9 al2 x = (J9 al x && !decide (x ∈ gone.take k))) (x : Ed) : J9 (dlk e al2) x = (J9 al x && !decide (x ∈ gone.take (k + 1))) := by
 have h1 := h x
 unfold J9 at h1 ⊢
 rw [Ut hn, List.take_succ_eq_append_getElem hk]
 rw [Q1 hk] at he
 rw [he]
 by_cases q : e = x
 · subst q; simp
 have q2 : ¬ x = e := fun z => q z.symm
 rw [if_neg q, h1]; simp [q2]
theorem Qte {f : Ed → Bool} {al2 : List (Ed × Bool)} {come : List Ed} {k : Nat} (hk : k < come.length) {e : Ed} (he : at' come (k : Int) = e) (h : ∀ x, J9 al2 x = (f x || decide (x ∈ come.take k))) (x : Ed) : J9 (ptk e true al2) x = (f x || decide (x ∈ come.take (k + 1))) := by
 have h1 := h x
 unfold J9 at h1 ⊢
 rw [Xl, List.take_succ_eq_append_getElem hk]
 rw [Q1 hk] at he
 rw [he]
 by_cases q : e = x
 · subst q; simp
 have q2 : ¬ x = e := fun z => q z.symm
 rw [if_neg q, h1]; simp [q2]
end Go.Proofs.YtklhdalppmjnaaaGreatDoor
