/- The texts Nt1, Nt2, Nt3, NtC, NtB, Nt4, Nt5, Nt6, Nt7, Nt8, NtD, NtE, NtF, Nt9, NtG, Nt10, NtH, Nt11, Nt12, NtI of this claim, put together in their order. No condition of their own. -/
import Derived.Test.YtklhdalppmjnaaaGreatDoorQ7
import Derived.Test.YtklhdalppmjnaaaGreatDoorQ4
import Derived.Lib.RuneBytes
import Derived.Laws.Small
import Derived.WideLaws
set_option linter.unusedVariables false
set_option linter.unusedSimpArgs false
set_option linter.unusedSectionVars false
set_option maxHeartbeats 1000000
set_option maxRecDepth 20000
namespace Go.Proofs.YtklhdalppmjnaaaGreatDoor
open Go Go.Gw Go.So Go.Tu Go.Jn Go.Nt
abbrev kB : Kd Int := Jw .u8
abbrev Prt := Bool × Lab × Int
abbrev kPa : Kd Prt := Xo Xd (Xo kS kI)
theorem zB : Xw Tryz.prog 5 kB 0 := ⟨.int .u8 0, by kernel_rfl, fun H => rfl⟩
theorem Q52 : Xw Tryz.prog 187 Qfq (.pointer none, Qo) := ⟨.agg #[.pointer none, Qo], by kernel_rfl, fun H => ⟨[.pointer none, Qo], ⟨[_], [_], ⟨rfl, rfl⟩, ⟨rfl, rfl⟩, rfl⟩, rfl⟩⟩
theorem zPa : Xw Tryz.prog 191 kPa (false, [], 0) := ⟨.agg #[.bool false, .string (bs []), .int .i64 0], by kernel_rfl, fun H => ⟨[.bool false, .string (bs []), .int .i64 0], ⟨[_], [_, _], rfl, ⟨[_], [_], rfl, rfl, rfl⟩, rfl⟩, rfl⟩⟩
theorem lq0 {t : Prt} : Qf kPa Xd 0 t t.1 (fun y => (y, t.2)) := Qf.fst
theorem lq1 {t : Prt} : Qf kPa kS 1 t t.2.1 (fun y => (t.1, y, t.2.2)) := Qf.comp (Qf.snd (a := Xd) (b := Xo kS kI)) (Qf.fst (a := kS) (b := kI))
theorem lq2 {t : Prt} : Qf kPa kI 2 t t.2.2 (fun y => (t.1, t.2.1, y)) := Qf.comp (Qf.snd (a := Xd) (b := Xo kS kI)) (Qf.snd (a := kS) (b := kI))
abbrev adr (b : Nat) (p : Value) : Prop := p = .pointer none ∨ p = pt b 0
theorem Qn0 (a b : List UInt8) : Yk (a ++ b) = Yk a ++ Yk b := List.map_append
theorem Wl (l : List UInt8) : (Yk l).length = l.length := List.length_map _

/-- (*strings.Builder).copyCheck -/
theorem Qpo (b : Nat) (v : Value) : Ct Tryz.prog 132 [IsV (pt b 0)] ([Qb b 187 Qfq (.pointer none, v)]) Unit (fun _ => Yu) (fun _ => [Qb b 187 Qfq (pt b 0, v)]) (fun _ => True) := by
 refine Qn Tryz.func132 rfl rfl ?_
 intro H w
 refine sq (rg (mv rfl rfl (oP (Qe oz) rfl (oP (pf oz ymg) rfl (oP (Ql oz (mA 0 rfl) lb0 yi8) rfl (oP (Y6 U4 oz Tryz.underlying184) rfl (tn (nn (tc oz (fun c6 => ?_) (fun c6 => ?_))))))))))
 · refine rg (mv rfl rfl (mv rfl rfl (oP (Qk0 oz (mA 0 rfl) Tryz.underlying184 Tryz.underlying236 (by kernel_rfl) (by decide)) rfl (oP (Qsi (e := Extern.AbiNoEscape.same) oz Tryz.func150 (by kernel_rfl) (by kernel_rfl) (by kernel_rfl) (by kernel_rfl) (fun w => rfl)) rfl (oP (Qh7 oz (mA 0 rfl) Tryz.underlying236 Tryz.underlying184 (by kernel_rfl) (by kernel_rfl)) rfl (oP (Qe oz) rfl (oP (pf oz ymg) rfl (oA (Zq oz oz (by rfl) (pA 0 rfl) lb0 yi8) (pA 0 rfl) rfl rfl (fun _ _ => ?_)))))))))
   refine tn ?_
   exact U7 .normal (.inr rfl) rfl () (fun _ => trivial) trivial (by repeat first | exact pn | refine pc 0 rfl ?_)
 · exact absurd c6 (by simp) --done
/-- (*strings.Builder).copyCheck -/
theorem Qpp (b : Nat) (v : Value) : Ct Tryz.prog 132 [IsV (pt b 0)] ([Qb b 187 Qfq (pt b 0, v)]) Unit (fun _ => Yu) (fun _ => [Qb b 187 Qfq (pt b 0, v)]) (fun _ => True) := by
 refine Qn Tryz.func132 rfl rfl ?_
 intro H w
 refine sq (rg (mv rfl rfl (oP (Qe oz) rfl (oP (pf oz ymg) rfl (oP (Ql oz (mA 0 rfl) lb0 yi8) rfl (oP (Y6 U4 oz Tryz.underlying184) rfl (tn (nn (tc oz (fun c6 => ?_) (fun c6 => ?_))))))))))
 · exact absurd c6 (by simp) --done
 refine sq (rg (mv rfl rfl (oP (Qe oz) rfl (oP (pf oz ymg) rfl (oP (Ql oz (mA 0 rfl) lb0 yi8) rfl (mv rfl rfl (oP (Qgi oz oz Tryz.underlying184 (by kernel_rfl) (fun v h => by cases h)) rfl ?_)))))))
 refine tn (nn (tc oz (fun c19 => ?_) (fun c19 => ?_)))
 · exact absurd c19 (by simp) --done
 refine sk ?_
 exact U7 .normal (.inr rfl) rfl () (fun _ => trivial) trivial (by repeat first | exact pn | refine pc 0 rfl ?_)
theorem Q1n (b : Nat) (p v : Value) (h : adr b p) : Ct Tryz.prog 132 [IsV (pt b 0)] [Qb b 187 Qfq (p, v)] Unit (fun _ => Yu) (fun _ => [Qb b 187 Qfq (pt b 0, v)]) (fun _ => True) := by
 rcases h with rfl | rfl
 · exact Qpo b v
 · exact Qpp b v
/-- (*strings.Builder).Write -/
theorem Qtj (b : Nat) (p v : Value) (l : List UInt8) (s : List UInt8) (hp : adr b p) (hl : l.length ≤ 900000) (hs : s.length ≤ 90000) : Ct Tryz.prog 113 [IsV (pt b 0), SlT kB (Yk s)] ([Qb b 187 Qfq (p, v), Qh 5 kB v (Yk l)]) Value (fun u => Y1 [I64 (s.length : Int), IsV .nilIface]) (fun u => [Qb b 187 Qfq (pt b 0, u), Qh 5 kB u (Yk (l ++ s))]) (fun _ => True) := by
 refine Qn Tryz.func113 rfl rfl ?_
 intro H w
 have hnl := Wl l
 have hns := Wl s
 refine sq (rg (ak rfl (ak rfl (tn (nn (sq (rg (mv rfl rfl (oA (aC (Q1n _ _ _ (by assumption)) ywi (oc oz oN) (pA 0 rfl)) (pA 0 rfl) rfl rfl (fun _ _ => ?_))))))))))
 refine tn (nn (sq (rg (mv rfl rfl (mv rfl rfl (oP (Qe oz) rfl (oP (pf oz yt7) rfl (oP (Ql oz (mA 0 rfl) lb1 ymv) rfl (mv rfl rfl (oA (Q0 oz (pA 1 rfl) oz ydu (by omega) (by (simp [maxLen]; omega))) (pA 1 rfl) rfl rfl (fun v2_6 _ => ?_)))))))))))
 refine oP (Qe oz) rfl (oP (pf oz yt7) rfl (Vr (Zz 0 rfl) Vf fun hone => (oA (Zq oz oz (by assumption) (pA 1 rfl) lb1 ymv) (pA 1 rfl) rfl rfl (fun _ _ => ?_))))
 refine tn (nn (sq (rg (mv rfl rfl (oP (pls oz Tryz.underlying185) rfl (av rfl rfl (ak rfl (tn (nn (tR ?_))))))))))
 exact Yb .ret (.inl rfl) rfl v2_6 (OT.val oz (congrArg (Value.int _) (by rw [hns]))) oz (fun _ _ h => h) trivial (by rw [Qn0]; exact (by repeat first | exact pn | refine pc 0 rfl ?_))
/-- (*strings.Builder).String -/
theorem Q1o (b : Nat) (p v : Value) (l : List UInt8) (hl : l.length ≤ 1000000) (hn : l = [] → v = Qo) : Ct Tryz.prog 114 [IsV (pt b 0)] ([Qb b 187 Qfq (p, v), Qh 5 kB v (Yk l)]) Unit (fun _ => BsT l) (fun _ => []) (fun _ => True) := by
 refine Qn Tryz.func114 rfl rfl ?_
 intro H w
 have hnl := Wl l
 have hn2 : Yk l = [] → v = Qo := fun e => hn (by simpa using e)
 refine sq (rg (ak rfl (tn (nn (sq ?_)))))
 apply Xs (m := 10) (ns := [[(0, none)], [(3, some 0)], [(4, some 1)], [(5, some 2)], [(6, some 3)], [(0, none)], [(8, some 5)], [(9, some 6)], [(10, some 7)], [(11, some 8)]]) (by kernel_rfl) (by kernel_rfl) (Ts := [_, _, _, _, _, _, _, _, _, _]) rfl
 case hops =>
  exact ⟨rmv rfl, rP (Qe oz), rP (pf oz yt7), rP (Ql oz (mA 0 rfl) lb1 ymv), rP (Qvn oz (mA 1 rfl) (by assumption)), rmv rfl, rP (Qe oz), rP (pf oz yt7), rP (Ql oz (mA 0 rfl) lb1 ymv), rP (Xr oz (mA 1 rfl) Tryz.underlying185), trivial⟩
 case h =>
  refine Zt 12 (T := I64 (l.length : Int)) (OT.val oz (by rw [hnl])) ?_
  refine oA (Qep oz oz (pA 1 rfl) Tryz.underlying221 (by kernel_rfl)) (pA 1 rfl) rfl rfl (fun _ _ => ?_)
  refine av rfl rfl (tn (nn (tR ?_)))
  exact Qi .ret (.inl rfl) rfl () oz trivial (by exact pn)
/-- rhizome/key.Num -/
theorem Qx3 (n : Int) : Ct Tryz.prog 112 [I64 n] ([]) Unit (fun _ => kPa.T (false, [], n)) (fun _ => []) (fun _ => True) := by
 refine Qn Tryz.func112 rfl rfl ?_
 intro H w
 refine sq (rg (oA (Qz (zPa)) pR rfl rfl (fun g0_0 _ => ?_)))
 refine tn (nn (sq (rg (mv rfl rfl (oP (Zb (d := kPa) (v0 := (false, [], 0)) (ps := [(0, 1), (1, 1), (2, 1)]) zPa (by kernel_rfl) rfl (Qk rfl lq2 oz Qc)) rfl (oA (asv oz oz (pA 0 rfl) y1x) (pA 0 rfl) rfl rfl (fun _ _ => ?_)))))))
 refine tn (nn (tR ?_))
 exact Qlt .ret (.inl rfl) rfl () oz (mA 0 rfl) y1x rfl trivial (by exact pn)
/-- rhizome/key.put -/
theorem Q31 (v : Value) (xs : List Int) (n : Int) (hm : xs.length ≤ 1000000) : Ct Tryz.prog 130 [IsV v, kPa.T (false, [], n)] ([Qh 5 kB v xs]) Value (fun u => IsV u) (fun u => [Qh 5 kB u (xs ++ Yk (Ko n))]) (fun _ => True) := by
 refine Qn Tryz.func130 rfl rfl ?_
 intro H w
 refine sq (rg (oA (Xf (d := kPa) oz) pR rfl rfl (fun g0_0 _ => ?_)))
 refine ak rfl (tn (nn (sq (sq (rg (oP (pf oz yjw) rfl (oP (plb oz (mA 0 rfl) lq0 yp3) rfl (tn (nn (tc oz (fun c7 => ?_) (fun c7 => ?_)))))))))))
 · cases c7 --done
 · refine sk (nn (sq (rg (mv rfl rfl (oA (Q7 (d := kB) (v0 := 0) ydu ysr zB (show 1 * 1 ≤ 16777216 from by decide) (by decide) (Qv rfl rfl (by decide) ot Qc)) pR rfl rfl (fun _ _ => ?_))))))
   refine oA (Q0 oz (pA 1 rfl) oz ydu (by (simp; omega)) (by (simp [maxLen]; omega))) (pA 1 rfl) rfl rfl (fun v5_2 _ => ?_)
   refine av rfl rfl (tn (nn (sq (sq (rg (ak rfl (tn (nn (tb (Qt (σ := Nat × Value) (ec 3 rfl en) (fun s => [(5, I64 (56 - 8 * (s.1 : Int))), (0, IsV s.2)]) (fun s => [Qh 5 kB s.2 (xs ++ Yk ((Ko n).take (1 + s.1))), Qb g0_0 191 kPa (false, [], n)]) (fun s => s.1 ≤ 8) (fun s => 8 - s.1) (0, v5_2) (Nat.zero_le _) ?_ (op (by rw [Qsk]; exact (by repeat first | exact pn | refine pc 0 rfl ?_))) ?_))))))))))
   · exact (e2 5 0 rfl en)
   rintro ⟨j, u⟩ hj
   dsimp only at hj ⊢
   have hjl : (Yk ((Ko n).take (1 + j))).length ≤ 9 := by rw [Wl, List.length_take, Wh]; omega
   refine sq (sq (rg (mv rfl rfl (oP (Vi oz ot) rfl (tn (nn (tc oz (fun c23 => ?_) (fun c23 => ?_))))))))
   · refine sk (nn (sq (tb ?_)))
     have hj7 : j ≤ 7 := by simp only [decide_eq_true_eq] at c23; omega
     have het := Qml n hj7
     refine rg (mv rfl rfl (oP (pf oz yzt) rfl (oP (plb oz (mA 1 rfl) lq2 ynm) rfl (oP (Qau oz Tryz.underlying3 Tryz.underlying216) rfl (oP (Qkf oz ot (by simp)) rfl ?_)))))
     refine mv rfl rfl (oP (Q2x oz oz (by omega)) rfl (oP (Qau oz Tryz.underlying216 Tryz.underlying5) rfl (Zt 33 (T := Zy .u8 ((biN n / 256 ^ (7 - j) % 256 : Nat) : Int)) (OT.eq oz (congrArg (Zy .u8) (by rw [Q29, Qz1 _ hj7]))) ?_)))
     refine oA (Q7 (d := kB) (v0 := 0) ydu ysr zB (show 1 * 1 ≤ 16777216 from by decide) (by decide) (Qv rfl rfl (by decide) oz Qc)) pR rfl rfl (fun _ _ => ?_)
     refine oA (Q0 oz (pA 0 rfl) oz ydu (by (simp; omega)) (by (simp [maxLen]; omega))) (pA 0 rfl) rfl rfl (fun v9_9 _ => ?_)
     refine av rfl rfl (tn (bn (nn (rg (mv rfl rfl (oP (Kb oz ot (by omega)) rfl (av rfl rfl (tn (nn ?_)))))))))
     exact tg (j + 1, v9_9) (by show j + 1 ≤ 8; omega) (by show 8 - (j + 1) < 8 - j; omega) (ea (Qy (t := 5) (OT.val oz (congrArg (Value.int _) (by show _ = 56 - 8 * ((j + 1 : Nat) : Int); omega))) (ec 0 rfl en)) ef) (op (by rw [het, ← List.append_assoc]; exact (by repeat first | exact pn | refine pc 0 rfl ?_)))
   refine Qx (tx (tx (bh (nn (sq ?_)))))
   obtain rfl : j = 8 := by simp only [decide_eq_false_iff_not] at c23; omega
   rw [Qz2]
   refine rg (mv rfl rfl (av rfl rfl (tn (nn (tR ?_)))))
   exact Qi .ret (.inl rfl) rfl u oz trivial (by repeat first | exact pn | refine pc 0 rfl ?_)
/-- slices.Clip[[]byte,byte] -/
theorem Qx4 (l : List Int) : Ct Tryz.prog 131 [Yz noK 0 kB l] ([]) Unit (fun _ => SlT kB l) (fun _ => []) (fun _ => True) := by
 refine Qn Tryz.func131 rfl rfl ?_
 intro H w
 refine sq (rg (ak rfl (tn (nn (sq (rg (mv rfl rfl (mv rfl rfl (Zt 4 (OT.fresh oz) (oP (pls oz Tryz.underlying185) rfl (mv rfl rfl (Zt 6 (OT.fresh oz) (oP (pls oz Tryz.underlying185) rfl (oP (Qd5 oz oz oz Tryz.underlying185 ysr) rfl (av rfl rfl (tn (nn (tR ?_))))))))))))))))))
 exact Qi .ret (.inl rfl) rfl () (OT.fresh (OT.unclip oz)) trivial (by exact pn)
/-- slices.Clip[[]rhizome/key.Part,rhizome/key.Part] -/
theorem Qx5 (l : List Prt) : Ct Tryz.prog 222 [Yz noK 0 kPa l] ([]) Unit (fun _ => SlT kPa l) (fun _ => []) (fun _ => True) := by
 refine Qn Tryz.func222 rfl rfl ?_
 intro H w
 refine sq (rg (ak rfl (tn (nn (sq (rg (mv rfl rfl (mv rfl rfl (Zt 4 (OT.fresh oz) (oP (pls oz Tryz.underlying193) rfl (mv rfl rfl (Zt 6 (OT.fresh oz) (oP (pls oz Tryz.underlying193) rfl (oP (Qd5 oz oz oz Tryz.underlying193 y1x) rfl (av rfl rfl (tn (nn (tR ?_))))))))))))))))))
 exact Qi .ret (.inl rfl) rfl () (OT.fresh (OT.unclip oz)) trivial (by exact pn)
end Go.Proofs.YtklhdalppmjnaaaGreatDoor
namespace Go.Proofs.YtklhdalppmjnaaaGreatDoor
open Go Go.Gw Go.So Go.Tu Go.Jn Go.Nt
theorem at_one {α : Type} [Inhabited α] (x : α) : at' [x] ((0 : Nat) : Int) = x := rfl
theorem Q1p (t : Tp) {k : Nat} (h : k < t.length) : idB (t.take (k + 1)) = idB (t.take k) ++ Ko (at' t (k : Int)) := by
 rw [List.take_succ_eq_append_getElem h, Q1 h, Qzx]; simp [idB]
theorem Qn1 (t : Tp) {k : Nat} (h : k ≤ t.length) : (idB (t.take k)).length = 9 * k := by rw [W8, List.length_take]; omega

/-- rhizome/key.Encode -/
theorem Qtk (n : Int) : Ct Tryz.prog 111 [SlT kPa [(false, [], n)]] ([]) Unit (fun _ => Y1 [SlT kB (Yk (Ko n)), I64 0]) (fun _ => []) (fun _ => True) := by
 refine Qn Tryz.func111 rfl rfl ?_
 intro H w
 have hnl : (Yk (Ko n)).length = 9 := by rw [Wl, Wh]
 refine sq (rg (ak rfl (ak rfl (tn (nn (sq (rg (ak rfl (tn (nn (sq (sq (Xg 5 kB (rg (mv rfl rfl (oP (pls oz Tryz.underlying193) rfl (oP (Qm ot) rfl (tn (nn (tb (Qt (σ := Nat × Value) (e2 7 8 rfl en) (fun s => [(9, I64 (s.1 : Int)), (4, IsV s.2)]) (fun s => [Qh 5 kB s.2 (if s.1 = 0 then [] else Yk (Ko n))]) (fun s => s.1 ≤ 1) (fun s => 1 - s.1) (0, Qo) (Nat.zero_le _) ?_ (op (by repeat first | exact pn | refine pc 0 rfl ?_)) ?_)))))))))))))))))))))
 · exact (e2 9 4 rfl en)
 · rintro ⟨k, u⟩ hk
   dsimp only at hk ⊢
   refine sq (rg (oP (Q5 oz oz) rfl (tn (nn (sq (tc oz (fun c10 => ?_) (fun c10 => ?_)))))))
   · refine sk (nn (sq (tb (sq ?_))))
     obtain rfl : k = 0 := by simp only [List.length_singleton, decide_eq_true_eq] at c10; omega
     rw [if_pos rfl]
     refine rg (oP (Qj oz oz Tryz.underlying193 y1x (by omega) (by (simp; done))) rfl ?_)
     rw [at_one]
     refine oP (pL oz y1x) rfl (oA (Qz (zPa)) pR rfl rfl (fun g4_2 _ => ?_))
     refine oA (asv oz oz (pA 0 rfl) y1x) (pA 0 rfl) rfl rfl (fun _ _ => ?_)
     refine tn (nn (sq (sq (rg (oP (pf oz y9s) rfl (oP (plb oz (mA 0 rfl) lq1 ylw) rfl (oP (Wt Tryz.underlying9 oz) rfl (oP (Y3 oz ot) rfl (mv rfl rfl (oG rfl rfl rfl (gm oz) (fun hg => by (have hg1 := hg.2; (try simp only [cq2] at hg1); exact pf oz yjw)) rfl ?_))))))))))
     refine oG rfl rfl rfl (gm oz) (fun hg => by (have hg1 := hg.2; (try simp only [cq2] at hg1); exact plb (gu oz hg) (mA 0 rfl) lq0 yp3)) rfl ?_
     refine oP (Q2 oz oz) rfl (tn (nn (tc oz (fun c20 => ?_) (fun c20 => ?_))))
     · exact absurd c20 (by simp) --done
     refine sk (nn (sq (rg (mv rfl rfl (oP (plv oz (mA 0 rfl) y1x) rfl (oA (aC (Q31 _ [] n (by decide)) ytb (oc oz (oc oz oN)) (pA 1 rfl)) (pA 1 rfl) rfl rfl (fun v7_2 _ => ?_)))))))
     refine av rfl rfl (tn (nn (sq (rg (mv rfl rfl (oP (Xr oz (mA 0 rfl) Tryz.underlying185) rfl (oP (Y3 oz ot) rfl (tn (nn (tc oz (fun c26 => ?_) (fun c26 => ?_)))))))))))
     · exact absurd c26 (by rw [List.nil_append, hnl]; decide) --done
     refine sk (bn (nn (rg (oP (pad oz ot (by omega)) rfl (mv rfl rfl (tn (nn ?_)))))))
     exact tg (1, v7_2) (Nat.le_refl _) (by show 1 - 1 < 1 - 0; decide) ef (op (by repeat first | exact pn | refine pc 0 rfl ?_))
   refine Qx (tx (tx (bh (nn (sq ?_)))))
   obtain rfl : k = 1 := by simp only [List.length_singleton, decide_eq_false_iff_not] at c10; omega
   rw [if_neg (by decide)]
   refine Kx J1 (fun g => Ua) (Qq 0 rfl) 4 oz (rg (mv rfl rfl (oA (aC (Qx4 _) yck (oc oz oN) pR) pR rfl rfl (fun _ _ => ?_))))
   refine av rfl rfl (ak rfl (tn (nn (tR ?_))))
   exact Yb .ret (.inl rfl) rfl () oz oz (fun _ _ h => h) trivial (by exact pn)
/-- rhizome/net.id -/
theorem Q2t (t : Tp) (hm : t.length ≤ 1000) : Ct Tryz.prog 80 [SlT kI t] ([]) Unit (fun _ => BsT (idB t)) (fun _ => []) (fun _ => True) := by
 refine Qn Tryz.func80 rfl rfl ?_
 intro H w
 refine sq (rg (ak rfl (tn (nn (sq (rg (oA (Qz (Q52)) pR rfl rfl (fun g1_0 _ => ?_))))))))
 refine tn (nn (sq (sq (Xg 5 kB (rg (mv rfl rfl (oP (pls oz Tryz.underlying51) rfl (oP (Qm ot) rfl (tn (nn (tb (Qt (σ := Nat × Value × Value) (e2 3 8 rfl (ec 9 rfl en)) (fun s => [(10, I64 (s.1 : Int))]) (fun s => [Qb g1_0 187 Qfq (s.2.1, s.2.2), Qh 5 kB s.2.2 (Yk (idB (t.take s.1)))]) (fun s => s.1 ≤ t.length ∧ adr g1_0 s.2.1 ∧ (s.1 = 0 → s.2.2 = Qo)) (fun s => t.length - s.1) (0, .pointer none, Qo) ⟨Nat.zero_le _, .inl rfl, fun _ => rfl⟩ ?_ (op (by repeat first | exact pn | refine pc 0 rfl ?_ | refine pc 1 rfl ?_)) ?_))))))))))))
 · exact (ec 10 rfl en)
 rintro ⟨k, p, u⟩ ⟨hk, hp, hu0⟩
 dsimp only at hk hp hu0 ⊢
 have hil := Qn1 t hk
 have hl9 : (idB (t.take k)).length ≤ 900000 := by omega
 refine sq (rg (oP (Q5 oz oz) rfl (tn (nn (sq (tc oz (fun c11 => ?_) (fun c11 => ?_)))))))
 · refine sk (nn (sq (tb (sq ?_))))
   have hkl : k < t.length := by simpa using c11
   have hst := Q1p t hkl
   refine rg (oP (Qj oz oz Tryz.underlying51 ynm (by omega) (by omega)) rfl (oP (pL oz ynm) rfl (av rfl rfl (tn (nn (sq (rg (mv rfl rfl (oA (aC (Qx3 _) yyy (oc oz oN) pR) pR rfl rfl (fun _ _ => ?_))))))))))
   refine oA (Q7 (d := kPa) (v0 := (false, [], 0)) y3a y1x zPa (show 1 * 3 ≤ 16777216 from by decide) (by decide) (Qv rfl rfl (by decide) oz Qc)) pR rfl rfl (fun _ _ => ?_)
   refine oA (aC (Qtk _) yke (oc oz oN) pR) pR rfl rfl (fun _ _ => ?_)
   refine mv rfl rfl (oP (Qd (oT rfl) rfl) rfl (oP (Qd (oT rfl) rfl) rfl (av rfl rfl (av rfl rfl (tn (nn (rg (mv rfl rfl (oA (aC (Qtj _ _ _ _ _ (by assumption) (by assumption) (by rw [Wh]; omega)) ynf (oc (oT rfl) (oc (oT rfl) oN)) (Yh 0 0 rfl rfl)) (Yh 0 0 rfl rfl) rfl rfl (fun v6_1 _ => ?_))))))))))
   refine tn (bn (nn (rg (oP (pad oz ot (by omega)) rfl (mv rfl rfl (tn (nn ?_)))))))
   exact tg (k + 1, pt g1_0 0, v6_1) ⟨(by show k + 1 ≤ t.length; omega), .inr rfl, fun h => by cases h⟩ (by omega) ef (op (by rw [hst]; exact (by repeat first | exact pn | refine pc 0 rfl ?_)))
 refine Qx (tx (tx (bh (nn (sq ?_)))))
 obtain rfl : k = t.length := by simp only [decide_eq_false_iff_not] at c11; omega
 rw [List.take_length] at *
 have hnu : idB t = [] → u = Qo := fun e => hu0 (by have := congrArg List.length e; rw [W8] at this; simp only [List.length_nil] at this; omega)
 refine rg (oA (aC (Q1o _ _ _ _ (by omega) hnu) y59 (oc oz oN) (Yh 0 0 rfl rfl)) (Yh 0 0 rfl rfl) rfl rfl (fun _ _ => ?_))
 refine av rfl rfl (tn (nn (tR ?_)))
 exact Qi .ret (.inl rfl) rfl () oz trivial (by exact pn)
end Go.Proofs.YtklhdalppmjnaaaGreatDoor
namespace Go.Proofs.YtklhdalppmjnaaaGreatDoor
open Go Go.Gw Go.So Go.Tu Go.Jn Go.Nt
theorem Qll {C : Cx} {Γ : Env} {L : List It} {o : Oper} {T T' : Ty} (h : Pure C Γ L o T) (e : T = T') : Pure C Γ L o T' := e ▸ h
abbrev prt (n : Int) : Prt := (false, [], n)
theorem Qfz (n : Int) : (Yk (Ko n)).length = 9 := by rw [Wl, Wh]
theorem Q1q (n : Int) (r : List Int) : at' (Yk (Ko n) ++ r) 0 = 1 := rfl
theorem Q1r (n : Int) (r : List Int) {i : Nat} (h : i < 8) : at' (((Yk (Ko n) ++ r).take 9).drop 1) (i : Int) = ((biN n / 256 ^ (7 - i) % 256 : Nat) : Int) := by
 have hl : (Yk (Ko n) ++ r).length = 9 + r.length := by rw [List.length_append, Qfz]
 rw [← Q3b n r h, Q1 (by rw [List.length_drop, List.length_take]; omega), show ((i : Int) + 1) = ((i + 1 : Nat) : Int) by omega, Q1 (by omega)]
 rw [List.getElem_drop, List.getElem_take]
 congr 1; omega
theorem Qlm (n : Int) (r : List Int) : (((Yk (Ko n) ++ r).take 9).drop 1).length = 8 := by rw [List.length_drop, List.length_take, List.length_append, Qfz]; omega
theorem Q1s (t : Tp) {k : Nat} (h : k < t.length) : Yk (idB (t.drop k)) = Yk (Ko (at' t (k : Int))) ++ Yk (idB (t.drop (k + 1))) := by
 rw [List.drop_eq_getElem_cons h, Qes, Qn0, Q1 h]
theorem Qtl (t : Tp) {k : Nat} (h : k < t.length) : (t.take (k + 1)).map prt = (t.take k).map prt ++ [prt (at' t (k : Int))] := by
 rw [List.take_succ_eq_append_getElem h, Q1 h, List.map_append]; rfl

/-- rhizome/key.take -/
theorem Q1t (n : Int) (r : List Int) (hn : inI n) (hr : r.length ≤ 1000000) : Ct Tryz.prog 221 [SlT kB (Yk (Ko n) ++ r)] ([]) Unit (fun _ => Y1 [kPa.T (false, [], n), SlT kB r, Xe true]) (fun _ => []) (fun _ => True) := by
 refine Qn Tryz.func221 rfl rfl ?_
 intro H w
 have hnl := Qfz n
 have hll : (Yk (Ko n) ++ r).length = 9 + r.length := by rw [List.length_append, hnl]
 refine sq (rg (oA (Qz (zPa)) pR rfl rfl (fun g0_0 _ => ?_)))
 refine ak rfl (ak rfl (tn (nn (sq (sq (rg (mv rfl rfl (oP (Qj oz ot Tryz.underlying185 ysr (by omega) (by omega)) rfl (oP (pL oz ysr) rfl (oP (Zs oz ot) rfl (mv rfl rfl (oG rfl rfl rfl (gm oz) (fun hg => by (have hg1 := hg.2; (try simp only [cq2] at hg1); exact Qm oz)) rfl ?_))))))))))))
 refine oG rfl rfl rfl (gm oz) (fun hg => by (have hg1 := hg.2; (try simp only [cq2] at hg1); exact pls (gu oz hg) Tryz.underlying185)) rfl ?_
 refine oG rfl rfl rfl (gm oz) (fun hg => by (have hg1 := hg.2; (try simp only [cq2] at hg1); exact Vi (gu oz hg) ot)) rfl ?_
 refine oP (Q2 oz oz) rfl (tn (nn (tc oz (fun c19 => ?_) (fun c19 => ?_))))
 · refine sq (rg (ak rfl (tn (nn (sq (sq (rg (mv rfl rfl (oP (Qun oz ot ot Tryz.underlying185 ysr (by omega) (by omega) (by omega)) rfl (Zt 21 (T := SlT kB (((Yk (Ko n) ++ r).take 9).drop 1)) oz (oP (pls oz Tryz.underlying185) rfl (oP (Qm ot) rfl (tn (nn (tb (Qt (σ := Nat) (e4 0 2 21 22 rfl en) (fun i => [(23, I64 (i : Int)), (5, Zy .u64 (top n i : Int))]) (fun i => [Qb g0_0 191 kPa (false, [], 0)]) (fun i => i ≤ 8) (fun i => 8 - i) 0 (Nat.zero_le _) ?_ (op (by repeat first | exact pn | refine pc 0 rfl ?_)) ?_))))))))))))))))
   · exact (ec 23 rfl (Qy (t := 5) (OT.val oz (congrArg (Value.int _) (by rw [Qvw]; rfl))) en))
   rintro i hi
   refine sq ?_
   have hml := Qlm n r
   refine rg (oP (Q5 oz oz) rfl (tn (nn (sq (tc oz (fun c24 => ?_) (fun c24 => ?_))))))
   · refine sk (nn (sq (tb (sq ?_))))
     have hi8 : i < 8 := by rw [Qlm] at c24; simp only [decide_eq_true_eq] at c24; omega
     refine rg (oP (Qj oz oz Tryz.underlying185 ysr (by omega) (by omega)) rfl (oP (pL oz ysr) rfl (av rfl rfl (tn ?_))))
     rw [Q1r n r hi8]
     refine nn (rg (mv rfl rfl (oP (Q2w oz ot (by omega)) rfl (mv rfl rfl (oP (Qlu oz Tryz.underlying5 Tryz.underlying216 (by omega) (by omega) rfl) rfl (Zt 28 (T := Zy .u64 (IntKind.u64.wrap ((top n i : Int) * 2 ^ min (Int.toNat 8) IntKind.u64.bits))) oz (oP (Qkf oz oz (by simp)) rfl ?_)))))))
     refine Zt 31 (T := Zy .u64 ((top n (i + 1) : Nat) : Int)) (OT.eq oz (congrArg (Zy .u64) (by rw [Qz4 (Q3a n hi8) (Nat.mod_lt _ (by decide)), Qvx n hi8]))) ?_
     refine av rfl rfl (tn (bn (nn (rg (oP (pad oz ot (by omega)) rfl (mv rfl rfl (tn (nn ?_))))))))
     exact tg (i + 1) (by omega) (by omega) ef (op (by repeat first | exact pn | refine pc 0 rfl ?_))
   refine Qx (tx (tx (bh (nn (sq ?_)))))
   obtain rfl : i = 8 := by rw [Qlm] at c24; simp only [decide_eq_false_iff_not] at c24; omega
   rw [Qz3]
   apply Qkj (p := 6) (Lf := fun c => cond c (Qb g0_0 191 kPa (false, [], n) :: []) (Qb g0_0 191 kPa (false, [], 0) :: [])) (by kernel_rfl) (m := 7) (ns := [[(5, none)], [(33, some 0)], [(34, some 1)], [(35, some 2)], [(0, none)], [(37, some 4)], [(2, none), (36, some 3)]]) (by kernel_rfl) (by kernel_rfl) (Ts := [_, _, _, _, _, _, _]) rfl
   case hops =>
    refine ⟨?_, ?_, ?_, ?_, ?_, ?_, ?_, trivial⟩
    · exact cAf (by kernel_rfl) fun _ => rw_ (rmv rfl)
    · exact cAf (by kernel_rfl) fun _ => rw_ (rP (Qkf oz ot (by simp)))
    · exact cAf (by kernel_rfl) fun _ => rw_ (rP (Qll (T' := Zy .i64 n) (Qau oz Tryz.underlying216 Tryz.underlying3) (congrArg (Zy .i64) (Qz0 hn))))
    · exact cAf (by kernel_rfl) fun _ => rw_ (Zc rfl (aC (Qx3 _) yyy (oc oz oN) pR) (fun _ _ _ _ h => h))
    · intro c hc; cases c <;> exact rw_ (rmv rfl)
    · intro c hc; cases c <;> exact rw_ (rP (K7 oz ot Tryz.underlying185 ysr (by omega) (by omega)))
    exact cAf (by kernel_rfl) fun _ => Qfi rfl (asv oz oz (pA 0 rfl) y1x) (pA 0 rfl) (fun _ => (pA 0 rfl)) (fun _ _ _ _ h => h)
   case h =>
    refine av rfl rfl (ak rfl (tn (nn (tR (tt ?_)))))
    exact Qi6 .ret (.inl rfl) rfl () oz (mA 0 rfl) y1x oz oz (fun _ _ h => h) trivial (by exact pn)
 · exact absurd c19 (by rw [Q1q, hll]; simp; omega) --done
/-- rhizome/key.Decode -/
theorem Qtm (t : Tp) (hm : t.length ≤ 22) (hin : InT t) : Ct Tryz.prog 215 [SlT kB (Yk (idB t))] ([]) Unit (fun _ => Y1 [SlT kPa (t.map prt), I64 0]) (fun _ => []) (fun _ => True) := by
 refine Qn Tryz.func215 rfl rfl ?_
 intro H w
 have hnl : (Yk (idB t)).length = 9 * t.length := by rw [Wl, W8]
 refine sq (rg (ak rfl (ak rfl (tn (nn (sq (sq (rg (mv rfl rfl (oP (pls oz Tryz.underlying185) rfl (oP (Y3 oz ot) rfl (tn (nn (tc oz (fun c10 => ?_) (fun c10 => ?_)))))))))))))))
 · simp only [decide_eq_true_eq] at c10; omega --done
 refine sk (nn (sq (Xg 191 kPa (rg (ak rfl (tn (nn (sq (tb (Qt (σ := Nat × Value) en (fun s => [(0, SlT kB (Yk (idB (t.drop s.1)))), (4, IsV s.2)]) (fun s => [Qh 191 kPa s.2 ((t.take s.1).map prt)]) (fun s => s.1 ≤ t.length) (fun s => t.length - s.1) (0, Qo) (Nat.zero_le _) ?_ (op (by repeat first | exact pn | refine pc 0 rfl ?_)) ?_))))))))))
 · exact (e2 0 4 rfl en)
 rintro ⟨k, u⟩ hk
 dsimp only at hk ⊢
 refine sq (sq ?_)
 have hdl : (Yk (idB (t.drop k))).length = 9 * (t.length - k) := by rw [Wl, W8, List.length_drop]
 refine rg (mv rfl rfl (oP (pls oz Tryz.underlying185) rfl (oP (Y3 oz ot) rfl (tn (nn (tc oz (fun c13 => ?_) (fun c13 => ?_)))))))
 · refine sk (nn (tb (sq ?_)))
   have hkl : k < t.length := by simp only [decide_eq_true_eq] at c13; omega
   have hst := Qtl t hkl
   have htl : ((t.take k).map prt).length = k := by rw [List.length_map, List.length_take]; omega
   rw [Q1s t hkl]
   refine rg (mv rfl rfl (oA (aC (Q1t _ _ (hin _ (at_mem hkl)) (by rw [Wl, W8, List.length_drop]; omega)) ytg (oc (oT rfl) oN) pR) pR rfl rfl (fun _ _ => ?_)))
   refine mv rfl rfl (oP (Qd oz rfl) rfl (oP (Qd oz rfl) rfl (oP (Qd oz rfl) rfl (oA (Qz (zPa)) pR rfl rfl (fun g5_6 _ => ?_)))))
   refine oA (asv oz oz (pA 0 rfl) y1x) (pA 0 rfl) rfl rfl (fun _ _ => ?_)
   refine av rfl rfl (av rfl rfl (tn (nn (sq (sq (rg (mv rfl rfl (oP (Zf oz) rfl (tn (nn (tc oz (fun c21 => ?_) (fun c21 => ?_))))))))))))
   · cases c21 --done
   refine sk (nn (sq (rg (mv rfl rfl (oP (plv oz (mA 0 rfl) y1x) rfl (oA (Q7 (d := kPa) (v0 := (false, [], 0)) y3a y1x zPa (show 1 * 3 ≤ 16777216 from by decide) (by decide) (Qv rfl rfl (by decide) oz Qc)) pR rfl rfl (fun _ _ => ?_)))))))
   refine oA (Q0 oz (pA 1 rfl) oz y3a (by (simp; omega)) (by (simp [maxLen]; omega))) (pA 1 rfl) rfl rfl (fun v8_3 _ => ?_)
   refine av rfl rfl (tn (nn (rg (mv rfl rfl (av rfl rfl (tn (bn (nn ?_))))))))
   exact tg (k + 1, v8_3) (by show k + 1 ≤ t.length; omega) (by omega) ef (op (by rw [hst]; exact (by repeat first | exact pn | refine pc 0 rfl ?_)))
 refine Qx (tx (tx (bh (nn (sq ?_)))))
 obtain rfl : k = t.length := by simp only [decide_eq_false_iff_not] at c13; omega
 rw [List.take_length]
 refine Kx J1 (fun g => Ua) (Qq 0 rfl) 4 oz (rg (mv rfl rfl (oA (aC (Qx5 _) yh0 (oc oz oN) pR) pR rfl rfl (fun _ _ => ?_))))
 refine av rfl rfl (ak rfl (tn (nn (tR ?_))))
 exact Yb .ret (.inl rfl) rfl () oz oz (fun _ _ h => h) trivial (by exact pn)
end Go.Proofs.YtklhdalppmjnaaaGreatDoor
namespace Go.Nt
open Go Go.Gw Go.Tu Go.Jn
def Ym (al : List Atm) : List Int := al.map fun a => (ix (Qa al) a.1 : Int)
def toL (al : List Atm) : List Int := al.map fun a => (ix (Qa al) a.2.2 : Int)
def Qdo (v : Vw) : List Int := v.2.2.1.map fun o => (ix (Qa v.2.2.2.1) o : Int)
theorem Wy (al : List Atm) : (Ym al).length = al.length := by unfold Ym; rw [List.length_map]
theorem Qa5 (al : List Atm) : (toL al).length = al.length := by unfold toL; rw [List.length_map]
theorem Qb4 (v : Vw) : (Qdo v).length = v.2.2.1.length := by unfold Qdo; rw [List.length_map]
section
variable {al : List Atm} {k : Nat} {a : Atm}
theorem Qeu {α β : Type} [Inhabited α] [Inhabited β] {f : α → β} {l : List α} (h : k < l.length) : at' (l.map f) (k : Int) = f (at' l (k : Int)) := by
 rw [Q1 (by rw [List.length_map]; exact h), Q1 h, List.getElem_map]
theorem Qcs (h : k < al.length) (ha : at' al (k : Int) = a) : at' (Ym al) (k : Int) = (ix (Qa al) a.1 : Int) := by unfold Ym; rw [Qeu h, ha]
theorem Qjo (h : k < al.length) (ha : at' al (k : Int) = a) : at' (toL al) (k : Int) = (ix (Qa al) a.2.2 : Int) := by unfold toL; rw [Qeu h, ha]
theorem Qvy {v : Vw} (h : k < v.2.2.1.length) : at' (Qdo v) (k : Int) = (ix (Qa v.2.2.2.1) (at' v.2.2.1 (k : Int)) : Int) := by unfold Qdo; rw [Qeu h]
end
def GrI (F T : Nat) (row : Tp) (x y : Int) (j : Nat) (o : Tp) : Prop := (j = 0 ∧ o = row) ∨ (j = 1 ∧ Qaj row F x = some o) ∨ (j = 2 ∧ Kr F T row (x, y) = some o)
def gO (o : Tp) (i : Nat) (z : Int) : Tp := if i = o.length then o ++ [z] else o
theorem Qia {o : Tp} {i : Nat} {z : Int} : Qaj o i z = if (gO o i z).getD i 0 = z then some (gO o i z) else none := rfl
theorem Qo3 {o o' : Tp} {i : Nat} {z : Int} (h : Qaj o i z = some o') : o' = gO o i z ∧ (gO o i z).getD i 0 = z := by
 rw [Qia] at h
 split at h
 · rename_i e; exact ⟨(Option.some.inj h).symm, e⟩
 cases h
theorem Qsl {o : Tp} {i : Nat} {z : Int} (h : (gO o i z).getD i 0 = z) : Qaj o i z = some (gO o i z) := by rw [Qia, if_pos h]
theorem Qvz {o : Tp} {i : Nat} {z : Int} (h : ¬ (gO o i z).getD i 0 = z) : Qaj o i z = none := by rw [Qia, if_neg h]
def pI (F T : Nat) (j : Nat) : Nat := if j = 0 then F else T
def pZ (x y : Int) (j : Nat) : Int := if j = 0 then x else y
section
variable {F T m : Nat} {row o : Tp} {x y : Int} {j : Nat}
theorem Qz5 (h : j < 2) : at' [((F : Int), x), ((T : Int), y)] (j : Int) = ((pI F T j : Int), pZ x y j) := by
 match j, h with
 | 0, _ => rfl
 | 1, _ => rfl
theorem Qv0 (hl : Qc3 row.length m F T) (h : GrI F T row x y j o) (hj : j < 2) : pI F T j ≤ o.length ∧ o.length ≤ row.length + 1 := by
 rcases h with ⟨rfl, rfl⟩ | ⟨rfl, h⟩ | ⟨rfl, h⟩
 · have := hl.f1; unfold pI; rw [if_pos rfl]; omega
 · obtain ⟨rfl, _⟩ := Qo3 h
   have h1 := hl.f1; have h2 := hl.t1; have h3 := hl.t2
   unfold pI gO
   rw [if_neg (by omega)]
   split
   · rw [List.length_append, List.length_singleton]; omega
   omega
 omega
theorem Q3c {i : Nat} {z : Int} (h : i ≤ o.length) : i < (gO o i z).length ∧ (gO o i z).length ≤ o.length + 1 := by
 unfold gO
 split
 · rw [List.length_append, List.length_singleton]; omega
 omega
theorem Qz6 (h : GrI F T row x y j o) (hj : j < 2) (he : (gO o (pI F T j) (pZ x y j)).getD (pI F T j) 0 = pZ x y j) : GrI F T row x y (j + 1) (gO o (pI F T j) (pZ x y j)) := by
 have hy := Qsl he
 rcases h with ⟨rfl, rfl⟩ | ⟨rfl, h⟩ | ⟨rfl, h⟩
 · exact .inr (.inl ⟨rfl, hy⟩)
 · refine .inr (.inr ⟨rfl, ?_⟩)
   unfold Kr
   rw [h, Option.bind_some]; exact hy
 omega
theorem Qz7 (h : GrI F T row x y j o) (hj : j < 2) (he : ¬ (gO o (pI F T j) (pZ x y j)).getD (pI F T j) 0 = pZ x y j) : Kr F T row (x, y) = none := by
 have hy := Qvz he
 rcases h with ⟨rfl, rfl⟩ | ⟨rfl, h⟩ | ⟨rfl, h⟩
 · unfold Kr
   rw [show Qaj o F (x, y).1 = none from hy, Option.bind_none]
 · unfold Kr
   rw [h, Option.bind_some]; exact hy
 omega
theorem Qz8 (h : GrI F T row x y 2 o) : Kr F T row (x, y) = some o := by
 rcases h with ⟨h, _⟩ | ⟨h, _⟩ | ⟨_, h⟩
 · omega
 · omega
 exact h
end
def Qmm (m : List (Lab × Tp)) (o : Option Tp) : List (Lab × Tp) := match o with
 | none => m
 | some s => ptk (idB s) s m
theorem Qsm {al : List Atm} {t : Tp} {e : Ed} {i : Nat} (h : i < al.length) : Wn al (i + 1) t e = (Wn al i t e || decide ((env (Qa al) t (at' al (i : Int)).1, (at' al (i : Int)).2.1, env (Qa al) t (at' al (i : Int)).2.2) = e)) := by
 unfold Wn
 rw [List.take_succ_eq_append_getElem h, List.any_append, Q1 h]; simp
theorem Qv1 {al : List Atm} {t : Tp} {e : Ed} : ∀ {k i : Nat}, i ≤ k → Wn al i t e = true → Wn al k t e = true := by
 intro k i h hu
 unfold Wn at *
 rw [List.any_eq_true] at *
 obtain ⟨a, ha, h2⟩ := hu
 exact ⟨a, (List.take_sublist_take_left h).subset ha, h2⟩
theorem Qv2 {al : List Atm} {i k : Nat} {a : Atm} (h : i < k) (hk : k ≤ al.length) (ha : at' al (i : Int) = a) : ix (Qa al) a.1 < nv al k ∧ ix (Qa al) a.2.2 < nv al k := by
 have hil : i < al.length := by omega
 have hin : a ∈ al.take k := by
  rw [Q1 hil] at ha
  rw [List.mem_take_iff_getElem]
  exact ⟨i, by omega, ha⟩
 have hV := K3 al k
 have hm1 : a.1 ∈ Qa (al.take k) := Jd.2 ⟨a, hin, .inl rfl⟩
 have hm2 : a.2.2 ∈ Qa (al.take k) := Jd.2 ⟨a, hin, .inr rfl⟩
 exact ⟨by unfold ix; rw [Ki hV hm1]; exact List.idxOf_lt_length_of_mem hm1, by unfold ix; rw [Ki hV hm2]; exact List.idxOf_lt_length_of_mem hm2⟩
theorem Qqq (V : List Lab) (t : Tp) (a : Atm) (e : Ed) : (decide (a.2.1 = e.2.1) && decide (at' t (ix V a.1 : Int) = e.1) && decide (at' t (ix V a.2.2 : Int) = e.2.2)) = decide ((env V t a.1, a.2.1, env V t a.2.2) = e) := by
 rw [Bool.eq_iff_iff]
 simp only [Bool.and_eq_true, decide_eq_true_eq]
 show (_ ∧ t.getD (ix V a.1) 0 = e.1) ∧ t.getD (ix V a.2.2) 0 = e.2.2 ↔ (t.getD (ix V a.1) 0, a.2.1, t.getD (ix V a.2.2) 0) = e
 constructor
 · rintro ⟨⟨h1, h2⟩, h3⟩; rw [h1, h2, h3]
 rintro rfl; exact ⟨⟨rfl, rfl⟩, rfl⟩
def Qo4 : List Int → Int
 | [] => 0
 | x :: l => l.foldl max x
theorem Qsn {l : List Int} {k : Nat} (h : k < l.length) (h0 : 0 < k) : Qo4 (l.take (k + 1)) = max (Qo4 (l.take k)) (at' l (k : Int)) := by
 cases l with
 | nil => simp at h
 | cons x l =>
  cases k with
  | zero => omega
  | succ k =>
   have hk : k < l.length := by simpa using h
   rw [List.take_succ_cons, List.take_succ_cons, Q1 h]
   show (l.take (k + 1)).foldl max x = max ((l.take k).foldl max x) (x :: l)[k + 1]
   rw [List.take_succ_eq_append_getElem hk, List.foldl_append]; rfl
theorem Qz9 {l : List Int} {b : Int} (h : ∀ x ∈ l, x ≤ b) (hb : 0 ≤ b) : Qo4 l ≤ b := by
 cases l with
 | nil => exact hb
 | cons x l =>
  show l.foldl max x ≤ b
  have : ∀ (l : List Int) (x : Int), x ≤ b → (∀ y ∈ l, y ≤ b) → l.foldl max x ≤ b := by
   intro l
   induction l with
   | nil => exact fun x h _ => h
   | cons y l ih => exact fun x h h2 => ih _ (by have := h2 y List.mem_cons_self; omega) fun z hz => h2 z (List.mem_cons_of_mem _ hz)
  exact this l x (h x List.mem_cons_self) fun y hy => h y (List.mem_cons_of_mem _ hy)
theorem Q0a {l : List Int} {x : Int} (h : x ∈ l) : x ≤ Qo4 l := by
 cases l with
 | nil => cases h
 | cons z l =>
  show x ≤ l.foldl max z
  have : ∀ (l : List Int) (z : Int), z ≤ l.foldl max z ∧ ∀ y ∈ l, y ≤ l.foldl max z := by
   intro l
   induction l with
   | nil => exact fun z => ⟨Int.le_refl _, fun y h => by cases h⟩
   | cons y l ih =>
    intro z
    obtain ⟨h1, h2⟩ := ih (max z y)
    rw [List.foldl_cons]
    refine ⟨by omega, fun w hw => ?_⟩
    rcases List.mem_cons.1 hw with rfl | hw
    · omega
    exact h2 w hw
  obtain ⟨h1, h2⟩ := this l z
  rcases List.mem_cons.1 h with rfl | h
  · exact h1
  exact h2 x h
end Go.Nt
namespace Go.Gw
open Go
theorem Qgv {C : Cx} {Γ : Env} {L : List It} {o : Oper} {ops : Array Oper} {Q : Exit → Act → World → Prop} {rest : List Oper} {J : List It} {ρ : Type} {T : ρ → Ty} {I : ρ → List It} {φ : ρ → Prop} (X : List It) (hL : L = X ++ J) (hp : Yp C Γ L o J ρ T I φ) (hg : o.guard = none) (hd : Wb C.N o.dst = true)
 (h : ∀ r, φ r → Tr C (upd o.dst (T r) Γ) (X ++ I r) (wpList C.P ops Q rest)) : Tr C Γ L (wpList C.P ops Q (o :: rest)) := by
 subst hL
 exact Ku hp List.perm_append_comm hg hd fun r hr => Q4 List.perm_append_comm (h r hr)
theorem Kl {X J : List It} : (X ++ J).Perm (J ++ X) := List.perm_append_comm
theorem Wz {X Y J : List It} : (X ++ (Y ++ J)).Perm (J ++ (X ++ Y)) := by
 rw [← List.append_assoc]; exact List.perm_append_comm
section
variable {C : Cx} {Γ : Env} {L : List It} {α : Type} {d : Kd α}
variable {dst : Option Tmp} {ty : TypeId} {pos : String} {after : Array Edge} {guard : Option (Nat × Bool)} {x : Operand}
theorem Q8 {t : TypeId} {v : Value} (hx : OT C.N Γ x (AtT Q3 v)) (ht : Xy C.P t false 1 = true) : Pure C Γ L ⟨dst, .load t x, ty, pos, after, guard⟩ (IsV v) := fun a w H f s ow => by
 obtain ⟨u, h1, h2⟩ := Qgm (C := C) (Γ := Γ) (L := L) (dst := dst) (ty := ty) (pos := pos) (after := after) (guard := guard) (d := Q3) hx ht a w H f s ow
 exact ⟨u, h1, h2.1⟩
theorem Qo5 {κ β : Type} {enc : κ → Value} {V : β → Ty} {m : List (κ × β)} {g : Nat} {t kt et : TypeId} (ht : C.P.underlying t = some (.map kt et)) (hx : OT C.N Γ x (IsV (mp g))) (hm : Qg g enc V m ∈ L) : Pure C Γ L ⟨dst, .call ⟨.builtin .len, #[x], #[t]⟩, ty, pos, after, guard⟩ (I64 (m.length : Int)) := fun a w H f s ow => by
 obtain ⟨es, clock, hb, hR⟩ := ow.all _ hm
 have hv : a.eval x = .map (some g) := hx a H f
 have h3 := run_len_map (P := C.P) w t ty g es clock (by simp [Program.mapKeyOf, Program.mapElemOf, ht]) hb
 refine ⟨.int .i64 (m.length : Int), ?_, rfl⟩
 rw [hR.len] at h3
 simp [execOp, resolve, invoke, builtin, hv, h3, goInt]
theorem Q3d {k : IntKind} {m n : Int} {y : Operand} {ts : Array TypeId} (hx : OT C.N Γ x (Zy k m)) (hy : OT C.N Γ y (Zy k n)) : Pure C Γ L ⟨dst, .call ⟨.builtin .max, #[x, y], ts⟩, ty, pos, after, guard⟩ (Zy k (max m n)) := fun a w H f s ow => by
 have h1 : a.eval x = .int k m := hx a H f
 have h2 : a.eval y = .int k n := hy a H f
 refine ⟨.int k (max m n), ?_, rfl⟩
 have h3 := run_max_int2 (P := C.P) w ts ty k k m n
 rw [show (if m < n then n else m) = max m n from by split <;> omega] at h3
 simp [execOp, resolve, invoke, builtin, h1, h2, h3]
theorem Qgk {o : Option α} {y : α} (hx : OT C.N Γ x (Qlz d o)) (h : o = some y) : Pure C Γ L ⟨dst, .nilCheck x, ty, pos, after, guard⟩ (AtT d y) := by
 subst h; exact Qp hx
end
end Go.Gw
namespace Go.Proofs.YtklhdalppmjnaaaGreatDoor
open Go Go.Gw Go.So Go.Tu Go.Jn Go.Nt
abbrev ers {κ : Type} [DecidableEq κ] (l : List κ) (k : κ) : List κ := l.erase k
theorem Qct {κ : Type} [DecidableEq κ] {l : List κ} {a k : κ} (hn : l.Nodup) : a ∈ ers l k ↔ a ≠ k ∧ a ∈ l := hn.mem_erase_iff
theorem Qa6 {κ : Type} [DecidableEq κ] {l : List κ} {k : κ} (h : k ∈ l) : (ers l k).length = l.length - 1 := List.length_erase_of_mem h
abbrev Qk4 := Vw × List Lab × List Int × List Int × List Int × Value × List Value × Value
abbrev kN6 : Kd (List Value × Value) := Xo (ksl Q3) Q3
abbrev kN5 : Kd (Value × List Value × Value) := Xo Q3 kN6
abbrev kN4 : Kd (List Int × Value × List Value × Value) := Xo (ksl kI) kN5
abbrev kN3 : Kd (List Int × List Int × Value × List Value × Value) := Xo (ksl kI) kN4
abbrev kN2 : Kd (List Int × List Int × List Int × Value × List Value × Value) := Xo (ksl kI) kN3
abbrev kN1 : Kd (List Lab × List Int × List Int × List Int × Value × List Value × Value) := Xo (ksl kS) kN2
abbrev J7 : Kd Qk4 := Xo kV kN1
theorem ln0 {t : Qk4} : Qf J7 kV 0 t t.1 (fun y => (y, t.2)) := Qf.fst
theorem ln2 {t : Qk4} : Qf J7 (ksl kI) 6 t t.2.2.1 (fun y => (t.1, t.2.1, y, t.2.2.2)) := Qf.comp (Qf.snd (a := kV) (b := kN1)) (Qf.comp (Qf.snd (a := ksl kS) (b := kN2)) (Qf.fst (a := ksl kI) (b := kN3)))
theorem ln3 {t : Qk4} : Qf J7 (ksl kI) 7 t t.2.2.2.1 (fun y => (t.1, t.2.1, t.2.2.1, y, t.2.2.2.2)) := Qf.comp (Qf.snd (a := kV) (b := kN1)) (Qf.comp (Qf.snd (a := ksl kS) (b := kN2)) (Qf.comp (Qf.snd (a := ksl kI) (b := kN3)) (Qf.fst (a := ksl kI) (b := kN4))))
theorem ln4 {t : Qk4} : Qf J7 (ksl kI) 8 t t.2.2.2.2.1 (fun y => (t.1, t.2.1, t.2.2.1, t.2.2.2.1, y, t.2.2.2.2.2)) := Qf.comp (Qf.snd (a := kV) (b := kN1)) (Qf.comp (Qf.snd (a := ksl kS) (b := kN2)) (Qf.comp (Qf.snd (a := ksl kI) (b := kN3)) (Qf.comp (Qf.snd (a := ksl kI) (b := kN4)) (Qf.fst (a := ksl kI) (b := kN5)))))
theorem ln5 {t : Qk4} : Qf J7 Q3 9 t t.2.2.2.2.2.1 (fun y => (t.1, t.2.1, t.2.2.1, t.2.2.2.1, t.2.2.2.2.1, y, t.2.2.2.2.2.2)) := Qf.comp (Qf.snd (a := kV) (b := kN1)) (Qf.comp (Qf.snd (a := ksl kS) (b := kN2)) (Qf.comp (Qf.snd (a := ksl kI) (b := kN3)) (Qf.comp (Qf.snd (a := ksl kI) (b := kN4)) (Qf.comp (Qf.snd (a := ksl kI) (b := kN5)) (Qf.fst (a := Q3) (b := kN6))))))
theorem ln6 {t : Qk4} : Qf J7 (ksl Q3) 10 t t.2.2.2.2.2.2.1 (fun y => (t.1, t.2.1, t.2.2.1, t.2.2.2.1, t.2.2.2.2.1, t.2.2.2.2.2.1, y, t.2.2.2.2.2.2.2)) := Qf.comp (Qf.snd (a := kV) (b := kN1)) (Qf.comp (Qf.snd (a := ksl kS) (b := kN2)) (Qf.comp (Qf.snd (a := ksl kI) (b := kN3)) (Qf.comp (Qf.snd (a := ksl kI) (b := kN4)) (Qf.comp (Qf.snd (a := ksl kI) (b := kN5)) (Qf.comp (Qf.snd (a := Q3) (b := kN6)) (Qf.fst (a := ksl Q3) (b := Q3)))))))
theorem ln7 {t : Qk4} : Qf J7 Q3 11 t t.2.2.2.2.2.2.2 (fun y => (t.1, t.2.1, t.2.2.1, t.2.2.2.1, t.2.2.2.2.1, t.2.2.2.2.2.1, t.2.2.2.2.2.2.1, y)) := Qf.comp (Qf.snd (a := kV) (b := kN1)) (Qf.comp (Qf.snd (a := ksl kS) (b := kN2)) (Qf.comp (Qf.snd (a := ksl kI) (b := kN3)) (Qf.comp (Qf.snd (a := ksl kI) (b := kN4)) (Qf.comp (Qf.snd (a := ksl kI) (b := kN5)) (Qf.comp (Qf.snd (a := Q3) (b := kN6)) (Qf.snd (a := ksl Q3) (b := Q3)))))))
structure NO where
 v : Vw
 ga : Nat
 gl : List Nat
 gc : Nat
abbrev Y9 (n : NO) : Qk4 := (n.v, Qa n.v.2.2.2.1, Ym n.v.2.2.2.1, toL n.v.2.2.2.1, Qdo n.v, mp n.ga, n.gl.map mp, mp n.gc)
structure Al where
 gf : Nat
 gt : Nat
 gh : Nat
 frm : List Fr
 to : List Fr
 has : List (Pr × Bool)
def al0 : Al := ⟨0, 0, 0, [], [], []⟩
abbrev AlM := List (Lab × Al)
abbrev kAl : Kd (Value × Value × Value) := kX
def ptA (a : Al) : Value × Value × Value := (mp a.gf, mp a.gt, mp a.gh)
def alR (a : Al) : List It := Qg a.gf encI IsV (hdV a.frm) :: Qg a.gt encI IsV (hdV a.to) :: Qg a.gh Zu Xd.T a.has :: (a.frm.map frI ++ a.to.map frI)
def Yf (m : AlM) : List It := m.flatMap fun p => alR p.2
def Zn (m : AlM) : List (Lab × Option (Value × Value × Value)) := m.map fun p => (p.1, some (ptA p.2))
def AlI (n : NO) (m : AlM) : List It := Qg n.ga encS (kpt kAl).T (Zn m) :: Yf m
abbrev Rw := List (Lab × Tp)
def lvI : List Nat → List Rw → List It
 | g :: gs, m :: ms => Qg g encS kT.T m :: lvI gs ms
 | _, _ => []
def Qev (n : NO) (al : AlM) (lv : List Rw) (ct : List (Lab × Int)) : List It := Qg n.gc encS kI.T ct :: (lvI n.gl lv ++ AlI n al)
theorem Qak (lab : Lab) (m : AlM) : (lkp lab (Zn m)).getD none = (lkp lab m).map ptA := by
 unfold Zn
 rw [W5 (fun a : Al => some (ptA a))]
 cases lkp lab m <;> rfl
theorem Qft (lab : Lab) (a : Al) (m : AlM) : Zn (ptk lab a m) = ptk lab (some (ptA a)) (Zn m) := Qay (fun a : Al => some (ptA a))
theorem Qcu {lab : Lab} {a : Al} {m : AlM} (h : lkp lab m = some a) : (Yf m).Perm (alR a ++ Yf (dlk lab m)) := (Uc h).flatMap_right (fun p : Lab × Al => alR p.2)
theorem Qfu {lab : Lab} {a : Al} {m : AlM} : (alR a ++ Yf (dlk lab m)).Perm (Yf (ptk lab a m)) := ((Vd (k := lab) (x := a) (m := m)).flatMap_right (fun p : Lab × Al => alR p.2)).symm
theorem Qv3 {lab : Lab} {a : Al} {m : AlM} (h : lkp lab m = some a) : ∀ i ∈ alR a, i ∈ Yf m := fun i hi => (Qcu h).mem_iff.2 (List.mem_append_left _ hi)
theorem Q0b {lab : Lab} {a : Al} {m : AlM} (h : lkp lab m = some a) : Qg a.gh Zu Xd.T a.has ∈ Yf m := Qv3 h _ (by simp [alR])
theorem Qmn : ∀ {gl : List Nat} {lv : List Rw} {k : Nat} (h1 : k < gl.length) (h2 : k < lv.length), (lvI gl lv).Perm (Qg gl[k] encS kT.T lv[k] :: lvI (gl.eraseIdx k) (lv.eraseIdx k))
 | g :: gs, m :: ms, 0, _, _ => List.Perm.refl _
 | g :: gs, m :: ms, k + 1, h1, h2 => by
  have := Qmn (gl := gs) (lv := ms) (k := k) (by simpa using h1) (by simpa using h2)
  exact (this.cons _).trans (List.Perm.swap _ _ _)
theorem Qmo : ∀ {gl : List Nat} {lv : List Rw} {k : Nat} {m' : Rw} (h1 : k < gl.length) (h2 : k < lv.length), (Qg gl[k] encS kT.T m' :: lvI (gl.eraseIdx k) (lv.eraseIdx k)).Perm (lvI gl (lv.set k m'))
 | g :: gs, m :: ms, 0, _, _, _ => List.Perm.refl _
 | g :: gs, m :: ms, k + 1, m', h1, h2 => by
  have := Qmo (gl := gs) (lv := ms) (k := k) (m' := m') (by simpa using h1) (by simpa using h2)
  exact (List.Perm.swap _ _ _).trans (this.cons _)
def Qib (m : AlM) (e : Ed) : Bool := match lkp e.2.1 m with
 | none => false
 | some a => (lkp (e.1, e.2.2) a.has).getD false
def alG (m : AlM) (lab : Lab) : Al := (lkp lab m).getD al0
theorem Qb5 {m : AlM} {lab : Lab} (h : (lkp lab m).isSome = true) : lkp lab m = some (alG m lab) := by
 unfold alG
 cases e : lkp lab m with
 | none => rw [e] at h; cases h
 | some a => rfl
theorem Qmp {m : AlM} {lab : Lab} (h : (lkp lab m).isSome = true) : (lkp lab m).map ptA = some (ptA (alG m lab)) := by rw [Qb5 h]; rfl
theorem map_some {m : AlM} {lab : Lab} : (!((lkp lab m).map ptA).isNone) = (lkp lab m).isSome := by cases lkp lab m <;> rfl
theorem Q0c (m : AlM) (e : Ed) : ((lkp e.2.1 m).isSome && (lkp (e.1, e.2.2) (alG m e.2.1).has).getD false) = Qib m e := by
 unfold Qib alG
 cases lkp e.2.1 m <;> rfl
theorem pp0 (H : FH) : kPP.K H (0, 0) [.int .i64 0, .int .i64 0] := ⟨rfl, rfl, fun j x e => by
 match j, e with
 | 0, e => cases e; rfl
 | 1, e => cases e; rfl
 | j + 2, e => simp at e⟩
theorem Q3e {a b c : It} {X Y Z : List It} : (a :: b :: c :: (X ++ Y) ++ Z).Perm (X ++ (a :: b :: c :: (Y ++ Z))) := by
 have h : ([a, b, c] ++ X).Perm (X ++ [a, b, c]) := List.perm_append_comm
 have := h.append_right (Y ++ Z)
 simpa only [List.append_assoc, List.cons_append, List.nil_append] using this
theorem Q0d {a b c : It} {X Y Z : List It} : (a :: b :: c :: (X ++ Y) ++ Z).Perm (Y ++ (a :: b :: c :: (X ++ Z))) := by
 have h : (([a, b, c] ++ X) ++ Y).Perm (Y ++ ([a, b, c] ++ X)) := List.perm_append_comm
 have := h.append_right Z
 simpa only [List.append_assoc, List.cons_append, List.nil_append] using this
theorem Q2i {m : AlM} {lab : Lab} {a : Al} (h : lkp lab m = some a) : (Yf m).Perm (a.frm.map frI ++ (Qg a.gf encI IsV (hdV a.frm) :: Qg a.gt encI IsV (hdV a.to) :: Qg a.gh Zu Xd.T a.has :: (a.to.map frI ++ Yf (dlk lab m)))) := (Qcu h).trans Q3e
theorem Q2j {m : AlM} {lab : Lab} {a : Al} (h : lkp lab m = some a) : (Yf m).Perm (a.to.map frI ++ (Qg a.gf encI IsV (hdV a.frm) :: Qg a.gt encI IsV (hdV a.to) :: Qg a.gh Zu Xd.T a.has :: (a.frm.map frI ++ Yf (dlk lab m)))) := (Qcu h).trans Q0d
theorem Qv4 {m : AlM} {lab : Lab} {a : Al} (h : lkp lab m = some a) : (Yf m).Perm (Qg a.gh Zu Xd.T a.has :: Qg a.gf encI IsV (hdV a.frm) :: Qg a.gt encI IsV (hdV a.to) :: (a.frm.map frI ++ a.to.map frI ++ Yf (dlk lab m))) := by
 refine (Qcu h).trans ?_
 unfold alR
 simp only [List.cons_append]
 exact (List.Perm.cons _ (List.Perm.swap _ _ _)).trans (List.Perm.swap _ _ _)
theorem Qew {X A : List It} {Y B Z : List It} (h : Y.Perm (A ++ B)) : (X ++ Y).Perm (A ++ (X ++ B)) := by
 have h2 : (X ++ A).Perm (A ++ X) := List.perm_append_comm
 have h3 := h2.append_right B
 refine (h.append_left X).trans ?_
 simpa only [List.append_assoc] using h3
section
variable {C : Cx} {Γ : Env} {X Y B : List It} {φ : Act → World → Prop}
theorem Qex (n : Int) {m : List Fr} (hp : Y.Perm (m.map frI ++ B)) (h : Tr C Γ (Qh 3 kI ((lkp n (hdV m)).getD Qo) ((lkp n m).getD (Qo, [])).2 :: (X ++ ((dlk n m).map frI ++ B))) φ) : Tr C Γ (X ++ Y) φ := by
 refine Qh0 n (Qew (X := X) (Z := []) hp) (Q4 (List.Perm.cons _ ?_) h)
 exact Qew (Z := []) (List.Perm.refl _)
theorem Qgc {n : Int} {m : List Fr} {v : Value} {xs : List Int} (hv : v = (lkp n (hdV m)).getD Qo) (hx : xs = ((lkp n m).getD (Qo, [])).2) (hp : Y.Perm (m.map frI ++ B)) : Jp (Qh 3 kI v xs :: (X ++ ((dlk n m).map frI ++ B))) (X ++ Y) := by
 subst hv hx
 rw [Qqh]
 cases hl : lkp n m with
 | none =>
  rw [J5 (Xx.1 hl)]
  exact Ww (Yl (hp.symm.append_left X))
 | some x =>
  refine Yl ?_
  have h1 : (m.map frI).Perm (Qh 3 kI x.1 x.2 :: (dlk n m).map frI) := (Uc hl).map frI
  have h2 : Y.Perm ([Qh 3 kI x.1 x.2] ++ ((dlk n m).map frI ++ B)) := hp.trans (h1.append_right B)
  exact (Qew (X := X) (Z := []) h2).symm
end
def W0 (x : Al) (f t : Nat) (r : Tp) (p : Pr) : Prop := if f < r.length then p.1 = r.getD f 0 ∧ p.2 ∈ ((lkp (r.getD f 0) x.frm).getD (Qo, [])).2 else if t < r.length then p.2 = r.getD t 0 ∧ p.1 ∈ ((lkp (r.getD t 0) x.to).getD (Qo, [])).2 else p ∈ keys x.has
structure AlB (x : Al) : Prop where
 f : ∀ n, ((lkp n x.frm).getD (Qo, [])).2.length ≤ 1000000
 t : ∀ n, ((lkp n x.to).getD (Qo, [])).2.length ≤ 1000000
 h : x.has.length ≤ 1000000
theorem Q0e : ∀ {gl : List Nat} {lv : List Rw} {k : Nat} (h1 : k < gl.length) (h2 : k < lv.length), Qg gl[k] encS kT.T lv[k] ∈ lvI gl lv := fun h1 h2 => (Qmn h1 h2).mem_iff.2 List.mem_cons_self
theorem zPP : Xw Tryz.prog 183 (Qdx 2 kPP) [(0, 0), (0, 0)] := ⟨.agg #[.int .i64 0, .int .i64 0, .int .i64 0, .int .i64 0], by kernel_rfl, fun H => ⟨[.int .i64 0, .int .i64 0, .int .i64 0, .int .i64 0], ⟨rfl, (Ja.one (pp0 H)).append (Ja.one (pp0 H))⟩, rfl⟩⟩
theorem zBo : Xw Tryz.prog 4 Xd false := ⟨.bool false, by kernel_rfl, fun H => rfl⟩
theorem zPA : Xw Tryz.prog 119 (kpt kAl) none := ⟨.pointer none, by kernel_rfl, fun H => rfl⟩
theorem Q41 : Xw Tryz.prog 123 kAl (.map none, .map none, .map none) := ⟨.agg #[.map none, .map none, .map none], by kernel_rfl, fun H => ⟨[.map none, .map none, .map none], ⟨[_], [_, _], ⟨rfl, rfl⟩, ⟨[_], [_], ⟨rfl, rfl⟩, ⟨rfl, rfl⟩, rfl⟩, rfl⟩, rfl⟩⟩
theorem zRw : Xw Tryz.prog 117 Q3 (.map none) := ⟨.map none, by kernel_rfl, fun H => ⟨rfl, rfl⟩⟩
end Go.Proofs.YtklhdalppmjnaaaGreatDoor
namespace Go.Proofs.YtklhdalppmjnaaaGreatDoor
open Go Go.Gw Go.So Go.Tu Go.Jn Go.Nt
def Qfv (m : AlM) (l : Lab) (q : AlM) : Prop := (lkp l q).isSome = true ∧ (q = m ∨ (lkp l m = none ∧ ∃ gf gt gh, q = ptk l ⟨gf, gt, gh, [], [], []⟩ m))
theorem Qtn {n : NO} {m : AlM} {l : Lab} {gf gt gh : Nat} (h : lkp l m = none) : Jp (Qg n.ga encS (kpt kAl).T (ptk l (some (mp gf, mp gt, mp gh)) (Zn m)) :: Qg gh Zu Xd.T [] :: Qg gt encI IsV [] :: Qg gf encI IsV [] :: Yf m) (AlI n (ptk l ⟨gf, gt, gh, [], [], []⟩ m)) := by
 unfold AlI
 rw [Qft]
 refine pc 0 rfl (Yl ?_)
 refine List.Perm.trans ?_ Qfu
 rw [J5 (Xx.1 h)]
 show List.Perm (Qg gh Zu Xd.T [] :: Qg gt encI IsV [] :: Qg gf encI IsV [] :: Yf m) (Qg gf encI IsV [] :: Qg gt encI IsV [] :: Qg gh Zu Xd.T [] :: Yf m)
 exact (List.Perm.cons _ (List.Perm.swap _ _ _)).trans ((List.Perm.swap _ _ _).trans (List.Perm.cons _ (List.Perm.swap _ _ _)))
theorem Qig {l : Lab} {a : Al} {m : AlM} : (lkp l (ptk l a m)).isSome = true := by rw [Xl, if_pos rfl]; rfl
theorem Q1u {l : Lab} {a : Al} {m : AlM} : alG (ptk l a m) l = a := by unfold alG; rw [Xl, if_pos rfl]; rfl
theorem Q1v {α : Type} [Inhabited α] {l : List α} {i k : Nat} (h : i < k) (hk : k ≤ l.length) : at' (l.take k) (i : Int) = at' l (i : Int) := by
 rw [Q1 (by rw [List.length_take]; omega), Q1 (by omega), List.getElem_take]

/-- (*rhizome/net.Net).has -/
theorem Qpq (n : NO) (m : AlM) (e : Ed) : Ct Tryz.prog 51 [AtT J7 (Y9 n), kE.T e] (AlI n m) Unit (fun _ => Xe (Qib m e)) (fun _ => AlI n m) (fun _ => True) := by
 refine Qn Tryz.func51 rfl rfl ?_
 intro H w
 refine sq (rg (oA (Xf (d := kE) oz) pR rfl rfl (fun g0_0 _ => ?_)))
 refine ak rfl (tn (nn (sq ?_)))
 apply Xs (m := 6) (ns := [[(0, none)], [(6, some 0)], [(7, some 1)], [(8, some 2)], [(3, none)], [(10, some 4)]]) (by kernel_rfl) (by kernel_rfl) (Ts := [_, _, _, _, _, _]) rfl
 case hops =>
  exact ⟨rmv rfl, rP (Qp oz), rP (Qr oz ln5 yha), rP (Q8 oz y32), rP (pf oz yh3), rP (plb oz (mA 0 rfl) le1 ylw), trivial⟩
 case h =>
  refine oP (Xq mkS Tryz.underlying111 zPA oz (mA 1 rfl) oz) rfl (av rfl rfl (tn (nn (sq ?_))))
  rw [Qak]
  apply Xs (m := 12) (ns := [[(5, none)], [(13, some 0)], [(14, some 1)], [(5, none), (15, some 2)], [(15, some 2), (16, some 3)], [(15, some 2), (17, some 4)], [(15, some 2), (18, some 5)], [(3, none), (15, some 2)], [(15, some 2), (20, some 7)], [(3, none), (15, some 2)], [(15, some 2), (22, some 9)], [(15, some 2), (21, some 8), (23, some 10)]]) (by kernel_rfl) (by kernel_rfl) (Ts := [_, _, _, _, _, _, _, _, _, _, _, _]) rfl
  case hops =>
   exact ⟨rmv rfl, rP (Qov oz Tryz.underlying119), rmv rfl, rJ rfl fun hg hg1 => rmv rfl, rJ rfl fun hg hg1 => rP (Qgk (y := ptA (alG m e.2.1)) (gu oz hg) (Qmp (by rw [← map_some]; exact hg1))), rJ rfl fun hg hg1 => rP (Qr (gu oz hg) lx2 y7a), rJ rfl fun hg hg1 => rP (Q8 (gu oz hg) yht), rJ rfl fun hg hg1 => rP (pf oz ye8), rJ rfl fun hg hg1 => rP (plb (gu oz hg) (mA 0 rfl) le0 ynm), rJ rfl fun hg hg1 => rP (pf oz y9l), rJ rfl fun hg hg1 => rP (plb (gu oz hg) (mA 0 rfl) le2 ynm), rJ rfl fun hg hg1 => rP (Xt (d := kPP) (v0 := (0, 0)) (agg := false) Tryz.underlying108 ynm zP rfl (Qk rfl Qf.p0 (gu oz hg) (Qk rfl Qf.p1 (gu oz hg) Qc))), trivial⟩
  case h =>
   refine oG rfl rfl rfl (gm oz) (fun hg => by (have hg1 := hg.2; (try simp only [cq2] at hg1); exact Xq (m := (alG m e.2.1).has) mkP Tryz.underlying121 zBo (gu oz hg) (List.mem_cons_of_mem _ (List.mem_cons_of_mem _ (Q0b (Qb5 (by rw [← map_some]; exact hg1))))) (gu oz hg))) rfl ?_
   refine oP (Q2 oz oz) rfl (av rfl rfl (tn (nn (tR ?_))))
   exact Qi .ret (.inl rfl) rfl () (OT.val oz (congrArg Value.bool (by rw [map_some]; exact Q0c m e))) trivial (pc 1 rfl (pd pl))
/-- (*rhizome/net.Net).alpha -/
theorem Qx6 (n : NO) (m : AlM) (l : Lab) : Ct Tryz.prog 77 [AtT J7 (Y9 n), BsT l] (AlI n m) AlM (fun q => AtT kAl (ptA (alG q l))) (fun q => AlI n q) (Qfv m l) := by
 refine Qn Tryz.func77 rfl rfl ?_
 intro H w
 refine sq (rg (ak rfl (tn (nn (sq (rg (mv rfl rfl (oP (Qp oz) rfl (oP (Qr oz ln5 yha) rfl (oP (Q8 oz y32) rfl (mv rfl rfl (oP (Xq mkS Tryz.underlying111 zPA oz (mA 0 rfl) oz) rfl (av rfl rfl (tn (nn (Qac (σ := AlM) en (fun q => [(5, AtT kAl (ptA (alG q l)))]) (fun q => AlI n q) (fun q => Qfv m l q) ?_ ?_))))))))))))))))
 · refine sq ?_
   rw [Qak]
   refine rg (mv rfl rfl (oP (Qdg oz Tryz.underlying119) rfl (tn (nn (tc oz (fun c13 => ?_) (fun c13 => ?_))))))
   · have hn : lkp l m = none := by
      cases hx : lkp l m with
      | none => rfl
      | some a => rw [hx] at c13; cases c13
     refine sq (rg (oA (Q9 encI IsV) pR rfl rfl (fun g3_0 _ => ?_)))
     refine oA (Q9 encI IsV) pR rfl rfl (fun g3_1 _ => ?_)
     refine oA (Q9 Zu Xd.T) pR rfl rfl (fun g3_2 _ => ?_)
     refine oP (Zb (d := kAl) (v0 := (.map none, .map none, .map none)) (ps := [(0, 1), (1, 1), (2, 1)]) Q41 (by kernel_rfl) rfl (Qk rfl lx0 (by exact OT.raw oz rfl) (Qk rfl lx1 (by exact OT.raw oz rfl) (Qk rfl lx2 (by exact OT.raw oz rfl) Qc)))) rfl ?_
     refine oA (Xf (d := kAl) oz) pR rfl rfl (fun g3_4 _ => ?_)
     refine av rfl rfl (tn (Qhs Frz.blk (Qq 0 rfl) 5 oz (fun H q => q) (nn (rg (mv rfl rfl (oP (Qp oz) rfl (oP (Qr oz ln5 yha) rfl (oP (Q8 oz y32) rfl (mv rfl rfl (mv rfl rfl (oA (X4 (v := some (mp g3_0, mp g3_1, mp g3_2)) mkS Tryz.underlying111 oz (pA 3 rfl) oz oz) (pA 3 rfl) rfl rfl (fun _ _ => ?_))))))))))))
     refine tn (nn ?_)
     exact Y2 (ptk l ⟨g3_0, g3_1, g3_2, [], [], []⟩ m) ⟨Qig, .inr ⟨hn, _, _, _, rfl⟩⟩ (ea (Qy (t := 5) (OT.eq oz (by rw [Q1u]; rfl)) en) ef) (op (Qtn hn))
   have hs : (lkp l m).isSome = true := by
    cases hx : lkp l m with
    | none => rw [hx] at c13; cases c13
    | some a => rfl
   refine sk (nn ?_)
   exact Y2 m ⟨hs, .inl rfl⟩ (ea (Qy (t := 5) (OT.eq oz (by rw [Qmp hs]; rfl)) en) ef) (op pl)
 · rintro q hq
   exact sq (rg (mv rfl rfl (av rfl rfl (tn (nn (tR (Qi .ret (.inl rfl) rfl q oz hq pl)))))))
/-- (*rhizome/net.Net).grown -/
theorem Qx7 (n : NO) (k : Nat) (row : Tp) (x y : Int) (a : Atm) (hk : k < n.v.2.2.2.1.length) (ha : at' n.v.2.2.2.1 (k : Int) = a) (hl : Qc3 row.length (nv n.v.2.2.2.1 (k + 1)) (ix (Qa n.v.2.2.2.1) a.1) (ix (Qa n.v.2.2.2.1) a.2.2)) (hr : row.length ≤ 1000) : Ct Tryz.prog 79 [AtT J7 (Y9 n), I64 (k : Int), SlT kI row, I64 x, I64 y] ([]) Unit (fun _ => Y1 [SlT kI ((Kr (ix (Qa n.v.2.2.2.1) a.1) (ix (Qa n.v.2.2.2.1) a.2.2) row (x, y)).getD []), Xe (Kr (ix (Qa n.v.2.2.2.1) a.1) (ix (Qa n.v.2.2.2.1) a.2.2) row (x, y)).isSome]) (fun _ => []) (fun _ => True) := by
 refine Qn Tryz.func79 rfl rfl ?_
 intro H w
 have hfl := Wy n.v.2.2.2.1
 have htl := Qa5 n.v.2.2.2.1
 refine sq (rg (ak rfl (ak rfl (tn (nn (sq (rg (mv rfl rfl (oA (aC (Qfy _ (by omega)) yz4 (oc (oT rfl) oN) pR) pR rfl rfl (fun v1_1 _ => ?_))))))))))
 refine av rfl rfl (tn (nn (sq (sq ?_))))
 apply Xs (m := 20) (ns := [[(0, none)], [(17, some 0)], [(18, some 1)], [(19, some 2)], [(1, none)], [(20, some 3), (21, some 4)], [(22, some 5)], [(3, none)], [(23, some 6), (24, some 7)], [(0, none)], [(26, some 9)], [(27, some 10)], [(28, some 11)], [(1, none)], [(29, some 12), (30, some 13)], [(31, some 14)], [(4, none)], [(32, some 15), (33, some 16)], [(25, some 8), (34, some 17)], []]) (by kernel_rfl) (by kernel_rfl) (Ts := [_, _, _, _, _, _, _, _, _, _, _, _, _, _, _, _, _, _, _, _]) rfl
 case hops =>
  exact ⟨rmv rfl, rP (Qp oz), rP (Qr oz ln2 y3c), rP (pL oz yo2), rmv rfl, rP (Qj oz oz Tryz.underlying50 ynm (by omega) (by show ((k : Nat) : Int) < ((Ym n.v.2.2.2.1).length : Int); omega)), rP (pL oz ynm), rmv rfl, rP (Xt (d := kPP) (v0 := (0, 0)) (agg := false) Tryz.underlying108 ynm zP rfl (Qk rfl Qf.p0 oz (Qk rfl Qf.p1 oz Qc))), rmv rfl, rP (Qp oz), rP (Qr oz ln3 yth), rP (pL oz yo2), rmv rfl, rP (Qj oz oz Tryz.underlying50 ynm (by omega) (by show ((k : Nat) : Int) < ((toL n.v.2.2.2.1).length : Int); omega)), rP (pL oz ynm), rmv rfl, rP (Xt (d := kPP) (v0 := (0, 0)) (agg := false) Tryz.underlying108 ynm zP rfl (Qk rfl Qf.p0 oz (Qk rfl Qf.p1 oz Qc))), rP (Xt (d := Qdx 2 kPP) (v0 := [(0, 0), (0, 0)]) (agg := true) Tryz.underlying183 yd7 zPP rfl (Qv rfl rfl (by decide) oz (Qv rfl rfl (by decide) oz Qc))), rP (Qm ot), trivial⟩
 case h =>
  refine tn ?_
  rw [show at' (Y9 n).2.2.1 (k : Int) = ((ix (Qa n.v.2.2.2.1) a.1) : Int) from Qcs hk ha, show at' (Y9 n).2.2.2.1 (k : Int) = ((ix (Qa n.v.2.2.2.1) a.2.2) : Int) from Qjo hk ha]
  refine Zt 35 (T := (Qdx 2 kPP).T [(((ix (Qa n.v.2.2.2.1) a.1) : Int), x), (((ix (Qa n.v.2.2.2.1) a.2.2) : Int), y)]) (oT rfl) (nn (tb (Qt (σ := Nat × Value × Tp) (ec 35 rfl en) (fun s => [(36, I64 (s.1 : Int)), (12, IsV s.2.1)]) (fun s => [Qh 3 kI s.2.1 s.2.2]) (fun s => s.1 ≤ 2 ∧ GrI (ix (Qa n.v.2.2.2.1) a.1) (ix (Qa n.v.2.2.2.1) a.2.2) row x y s.1 s.2.2) (fun s => 2 - s.1) (0, v1_1, row) ⟨Nat.zero_le _, .inl ⟨rfl, rfl⟩⟩ ?_ (op (by repeat first | exact pn | refine pc 0 rfl ?_)) ?_)))
  · exact (e2 36 12 rfl en)
  rintro ⟨j, u, o⟩ ⟨hj2, hin⟩
  dsimp only at hj2 hin ⊢
  refine sq (rg (oP (Q5 oz ot) rfl (tn (nn (sq (tc oz (fun c37 => ?_) (fun c37 => ?_)))))))
  · try simp only [cq] at c37
    refine sk (nn (sq (tb (sq ?_))))
    have hj : j < 2 := by omega
    have hb := Qv0 hl hin hj
    have hgl := Q3c (z := (pZ x y j)) hb.1
    refine rg (oP (Qd0 oz oz Tryz.underlying183 yd7 (by omega) (by omega)) rfl (oA (Qz (zP)) pR rfl rfl (fun g4_1 _ => ?_)))
    refine oA (asv oz oz (pA 0 rfl) yd7) (pA 0 rfl) rfl rfl (fun _ _ => ?_)
    refine tn ?_
    rw [Qz5 hj]
    refine nn (Qac (σ := Value) (e2 14 35 rfl (ec 36 rfl en)) (fun u2 => [(12, IsV u2)]) (fun u2 => [Qh 3 kI u2 (gO o (pI (ix (Qa n.v.2.2.2.1) a.1) (ix (Qa n.v.2.2.2.1) a.2.2) j) (pZ x y j)), Qb g4_1 108 kPP (((pI (ix (Qa n.v.2.2.2.1) a.1) (ix (Qa n.v.2.2.2.1) a.2.2) j) : Int), (pZ x y j))]) (fun u2 => True) ?_ ?_)
    · refine sq (rg (oP (Zj oz (mA 0 rfl) Tryz.underlying108 ynm) rfl (oP (Z7 oz (mA 0 rfl) ynm) rfl (mv rfl rfl (oP (Xr oz (mA 1 rfl) Tryz.underlying51) rfl (oP (Zs oz oz) rfl (tn (nn (tc oz (fun c43 => ?_) (fun c43 => ?_))))))))))
      · try simp only [cq] at c43
        have hgo : gO o (pI (ix (Qa n.v.2.2.2.1) a.1) (ix (Qa n.v.2.2.2.1) a.2.2) j) (pZ x y j) = o ++ [(pZ x y j)] := if_pos (by omega)
        refine rg (mv rfl rfl (oP (Zk oz (mA 0 rfl) Tryz.underlying108 ynm) rfl (oP (Z8 oz (mA 0 rfl) ynm) rfl (oA (Q7 (d := kI) (v0 := 0) ye1 ynm zI (show 1 * 1 ≤ 16777216 from by decide) (by decide) (Qv rfl rfl (by decide) oz Qc)) pR rfl rfl (fun _ _ => ?_)))))
        refine oA (Q0 oz (pA 1 rfl) oz ye1 (by (simp; omega)) (by (simp [maxLen]; omega))) (pA 1 rfl) rfl rfl (fun v6_4 _ => ?_)
        refine av rfl rfl (tn (nn ?_))
        exact Y2 v6_4 trivial ef (op (by rw [hgo]; exact (by repeat first | exact pn | refine pc 0 rfl ?_)))
      try simp only [cq] at c43
      have hgo : gO o (pI (ix (Qa n.v.2.2.2.1) a.1) (ix (Qa n.v.2.2.2.1) a.2.2) j) (pZ x y j) = o := if_neg (by omega)
      refine sk (nn ?_)
      exact Y2 u trivial ef (op (by rw [hgo]; exact (by repeat first | exact pn | refine pc 0 rfl ?_ | refine pc 1 rfl ?_)))
    rintro u2 _
    refine sq ?_
    apply Xs (m := 7) (ns := [[(12, none)], [(14, none)], [(50, some 1)], [(49, some 0), (51, some 2)], [(52, some 3)], [(14, none)], [(54, some 5)]]) (by kernel_rfl) (by kernel_rfl) (Ts := [_, _, _, _, _, _, _]) rfl
    case hops =>
     exact ⟨rmv rfl, rP (Zj oz (mA 1 rfl) Tryz.underlying108 ynm), rP (Z7 oz (mA 1 rfl) ynm), rP (pio oz (mA 0 rfl) oz Tryz.underlying51 ynm (by omega) (by omega)), rP (plo oz (mA 0 rfl) (by omega) (by omega) ynm), rP (Zk oz (mA 1 rfl) Tryz.underlying108 ynm), rP (Z8 oz (mA 1 rfl) ynm), trivial⟩
    case h =>
     refine oP (Yj oz oz) rfl (tn (nn (tc oz (fun c56 => ?_) (fun c56 => ?_))))
     · try simp only [cq] at c56
       have hG := Qz7 hin hj c56
       refine sq (rg (ak rfl (ak rfl (tn (nn (tR (Qw (tt (tt (Qw (tt ?_)))))))))))
       exact Yb .ret (.inl rfl) rfl () (OT.conv oz (fun H u h => by rw [hG]; exact Jr h)) (OT.val oz (congrArg Value.bool (by rw [hG]; rfl))) (fun _ _ h => h) trivial (by exact pn)
     try simp only [cq] at c56
     refine sk (bn (nn (rg (oP (pad oz ot (by omega)) rfl (mv rfl rfl (tn (nn ?_)))))))
     exact tg (j + 1, u2, gO o (pI (ix (Qa n.v.2.2.2.1) a.1) (ix (Qa n.v.2.2.2.1) a.2.2) j) (pZ x y j)) ⟨(by show j + 1 ≤ 2; omega), Qz6 hin hj c56⟩ (by show 2 - (j + 1) < 2 - j; omega) ef (op (by repeat first | exact pn | refine pc 0 rfl ?_))
  try simp only [cq] at c37
  refine Qx (tx (tx (bh (nn (sq ?_)))))
  obtain rfl : j = 2 := by omega
  have hG := Qz8 hin
  refine Xh (Qq 0 rfl) 12 oz (rg (mv rfl rfl (av rfl rfl (ak rfl (tn (nn (tR ?_)))))))
  exact Yb .ret (.inl rfl) rfl () (OT.eq oz (by rw [hG]; rfl)) (OT.val oz (congrArg Value.bool (by rw [hG]; rfl))) (fun _ _ h => h) trivial (by exact pn)
end Go.Proofs.YtklhdalppmjnaaaGreatDoor
namespace Go.Proofs.YtklhdalppmjnaaaGreatDoor
open Go Go.Gw Go.So Go.Tu Go.Jn Go.Nt
theorem Qjc {α : Type} {l : List α} {k : Nat} (h : k ≤ l.length) : (l.take k).length = k := by rw [List.length_take]; omega
theorem Qj7 {gl : List Nat} {k : Nat} (h : k < gl.length) : at' (gl.map mp) (k : Int) = mp gl[k] := by rw [Qeu h, Q1 h]
theorem Q32 {gl : List Nat} {k : Nat} (h : k + 1 < gl.length) : at' ((gl.map mp).drop 1) (k : Int) = mp gl[k + 1] := by
 rw [Q1 (by rw [List.length_drop, List.length_map]; omega), List.getElem_drop, List.getElem_map]
 congr 2; omega
def lens (lv : List Rw) : List Int := lv.tail.map fun m => (m.length : Int)
theorem Qe3 (lv : List Rw) : (lens lv).length = lv.length - 1 := by unfold lens; rw [List.length_map, List.length_tail]
theorem Qto {lv : List Rw} {k : Nat} (h : k + 1 < lv.length) : (lens lv).take (k + 1) = (lens lv).take k ++ [(lv[k + 1].length : Int)] := by
 have hl := Qe3 lv
 rw [List.take_succ_eq_append_getElem (by omega)]
 congr 2
 unfold lens
 rw [List.getElem_map, List.getElem_tail]

/-- (*rhizome/net.Net).uses -/
theorem Q1w (n : NO) (k : Nat) (row : Tp) (e : Ed) (hk : k ≤ n.v.2.2.2.1.length) (hr : row.length = nv n.v.2.2.2.1 k) (hm : n.v.2.2.2.1.length ≤ 1000) : Ct Tryz.prog 220 [AtT J7 (Y9 n), I64 (k : Int), SlT kI row, kE.T e] ([]) Unit (fun _ => Xe (Wn n.v.2.2.2.1 k row e)) (fun _ => []) (fun _ => True) := by
 refine Qn Tryz.func220 rfl rfl ?_
 intro H w
 have hfl := Wy n.v.2.2.2.1
 have htl := Qa5 n.v.2.2.2.1
 have hkl := Qjc hk
 refine sq (rg (oA (Xf (d := kE) oz) pR rfl rfl (fun g0_0 _ => ?_)))
 refine ak rfl (tn (nn (sq (sq (rg (mv rfl rfl (oP (Qp oz) rfl (oP (Qr oz ln0 yhd) rfl (oP (Qr oz lv3 y46) rfl (oP (pL oz y2r) rfl (mv rfl rfl (Zt 15 (T := SlT kA n.v.2.2.2.1) oz (oP (Qbu oz oz Tryz.underlying23 y03 (by omega) (by omega)) rfl (Zt 17 (T := SlT kA (n.v.2.2.2.1.take k)) oz (oP (pls oz Tryz.underlying23) rfl (oP (Qm ot) rfl (tn (nn (tb (Qt (σ := Nat) (e4 0 2 7 17 rfl (ec 18 rfl en)) (fun i => [(19, I64 (i : Int))]) (fun i => [Qb g0_0 42 kE e]) (fun i => i ≤ k ∧ Wn n.v.2.2.2.1 i row e = false) (fun i => k - i) 0 ⟨Nat.zero_le _, by simp [Wn]⟩ ?_ (op (by repeat first | exact pn | refine pc 0 rfl ?_)) ?_))))))))))))))))))))
 · exact (ec 19 rfl en)
 · rintro i ⟨hi, hin⟩
   refine sq (rg (oP (Q5 oz oz) rfl (tn (nn (sq (tc oz (fun c20 => ?_) (fun c20 => ?_)))))))
   · refine sk (nn (sq (tb (sq ?_))))
     have hik : i < k := by rw [hkl] at c20; simpa using c20
     obtain ⟨a, ha⟩ : ∃ a, at' n.v.2.2.2.1 (i : Int) = a := ⟨_, rfl⟩
     obtain ⟨hp1, hp2⟩ := Qv2 hik hk ha
     have hfx : at' (Y9 n).2.2.1 (i : Int) = ((ix (Qa n.v.2.2.2.1) a.1) : Int) := Qcs (by omega) ha
     have htx : at' (Y9 n).2.2.2.1 (i : Int) = ((ix (Qa n.v.2.2.2.1) a.2.2) : Int) := Qjo (by omega) ha
     have hus := Qsm (t := row) (e := e) (show i < n.v.2.2.2.1.length by omega)
     rw [ha] at hus
     refine rg (mv rfl rfl (oP (Qj oz oz Tryz.underlying23 y03 (by omega) (by omega)) rfl (oP (pL oz y03) rfl (oA (Qz (zA)) pR rfl rfl (fun g3_3 _ => ?_)))))
     refine av rfl rfl (oA (asv oz oz (pA 0 rfl) y03) (pA 0 rfl) rfl rfl (fun _ _ => ?_))
     refine tn ?_
     rw [Q1v hik hk, ha]
     refine nn (sq ?_)
     apply Xs (m := 33) (ns := [[(10, none)], [(24, some 0)], [(7, none)], [(26, some 2)], [(25, some 1), (27, some 3)], [(28, some 4)], [(2, none), (29, some 5)], [(0, none), (29, some 5)], [(29, some 5), (31, some 7)], [(29, some 5), (32, some 8)], [(29, some 5), (33, some 9)], [(9, none), (29, some 5)], [(29, some 5), (34, some 10), (35, some 11)], [(29, some 5), (36, some 12)], [(29, some 5), (30, some 6), (37, some 13)], [(29, some 5), (38, some 14)], [(7, none), (29, some 5)], [(29, some 5), (40, some 16)], [(29, some 5), (39, some 15), (41, some 17)], [(29, some 5), (42, some 18)], [(43, some 19)], [(2, none), (44, some 20)], [(0, none), (44, some 20)], [(44, some 20), (46, some 22)], [(44, some 20), (47, some 23)], [(44, some 20), (48, some 24)], [(9, none), (44, some 20)], [(44, some 20), (49, some 25), (50, some 26)], [(44, some 20), (51, some 27)], [(44, some 20), (45, some 21), (52, some 28)], [(44, some 20), (53, some 29)], [(7, none), (44, some 20)], [(44, some 20), (55, some 31)]]) (by kernel_rfl) (by kernel_rfl) (Ts := [_, _, _, _, _, _, _, _, _, _, _, _, _, _, _, _, _, _, _, _, _, _, _, _, _, _, _, _, _, _, _, _, _]) rfl
     case hops =>
      exact ⟨rP (pf oz yl2), rP (plb oz (mA 0 rfl) la1 ylw), rP (pf oz yh3), rP (plb oz (mA 1 rfl) le1 ylw), rP (Vz oz oz), rmv rfl, rJ rfl fun hg hg1 => rmv rfl, rJ rfl fun hg hg1 => rmv rfl, rJ rfl fun hg hg1 => rP (Qp (gu oz hg)), rJ rfl fun hg hg1 => rP (Qr (gu oz hg) ln2 y3c), rJ rfl fun hg hg1 => rP (pL (gu oz hg) yo2), rJ rfl fun hg hg1 => rmv rfl, rJ rfl fun hg hg1 => rP (Qj (gu oz hg) (gu oz hg) Tryz.underlying50 ynm (by omega) (by show ((i : Nat) : Int) < ((Ym n.v.2.2.2.1).length : Int); omega)), rJ rfl fun hg hg1 => rP (pL (gu oz hg) ynm), rJ rfl fun hg hg1 => rP (Qj (gu oz hg) (gu oz hg) Tryz.underlying51 ynm (by rw [hfx]; omega) (by rw [hfx]; omega)), rJ rfl fun hg hg1 => rP (pL (gu oz hg) ynm), rJ rfl fun hg hg1 => rP (pf oz ye8), rJ rfl fun hg hg1 => rP (plb (gu oz hg) (mA 1 rfl) le0 ynm), rJ rfl fun hg hg1 => rP (Zs (gu oz hg) (gu oz hg)), rP (Q2 oz oz), rmv rfl, rJ rfl fun hg hg1 => rmv rfl, rJ rfl fun hg hg1 => rmv rfl, rJ rfl fun hg hg1 => rP (Qp (gu oz hg)), rJ rfl fun hg hg1 => rP (Qr (gu oz hg) ln3 yth), rJ rfl fun hg hg1 => rP (pL (gu oz hg) yo2), rJ rfl fun hg hg1 => rmv rfl, rJ rfl fun hg hg1 => rP (Qj (gu oz hg) (gu oz hg) Tryz.underlying50 ynm (by omega) (by show ((i : Nat) : Int) < ((toL n.v.2.2.2.1).length : Int); omega)), rJ rfl fun hg hg1 => rP (pL (gu oz hg) ynm), rJ rfl fun hg hg1 => rP (Qj (gu oz hg) (gu oz hg) Tryz.underlying51 ynm (by rw [htx]; omega) (by rw [htx]; omega)), rJ rfl fun hg hg1 => rP (pL (gu oz hg) ynm), rJ rfl fun hg hg1 => rP (pf oz y9l), rJ rfl fun hg hg1 => rP (plb (gu oz hg) (mA 1 rfl) le2 ynm), trivial⟩
     case h =>
      refine oG rfl rfl rfl (gm oz) (fun hg => by (have hg1 := hg.2; (try simp only [cq2] at hg1); exact Zs (gu oz hg) (gu oz hg))) rfl ?_
      refine oP (Q2 oz oz) rfl (tn (nn (tc oz (fun c58 => ?_) (fun c58 => ?_))))
      · rw [hfx, htx, Qqq] at c58
        have hyes : Wn n.v.2.2.2.1 k row e = true := Qv1 (i := i + 1) (by omega) (by rw [hus, c58, Bool.or_true])
        refine sq (rg (ak rfl (tn (nn (tR (Qw (tt (tt (Qw (tt ?_))))))))))
        exact Qi .ret (.inl rfl) rfl () (OT.val oz (congrArg Value.bool (hyes.symm))) trivial (by exact pn)
      rw [hfx, htx, Qqq] at c58
      have hno : Wn n.v.2.2.2.1 (i + 1) row e = false := by rw [hus, hin, c58]; rfl
      refine sk (bn (nn (rg (oP (pad oz ot (by omega)) rfl (mv rfl rfl (tn (nn ?_)))))))
      exact tg (i + 1) ⟨by omega, hno⟩ (by omega) ef (op (by repeat first | exact pn | refine pc 1 rfl ?_))
   refine Qx (tx (tx (bh (nn (sq ?_)))))
   obtain rfl : i = k := by rw [hkl] at c20; simp only [decide_eq_false_iff_not] at c20; omega
   refine rg (ak rfl (tn (nn (tR ?_))))
   exact Qi .ret (.inl rfl) rfl () (OT.val oz (congrArg Value.bool (hin.symm))) trivial (by exact pn)
/-- (*rhizome/net.Net).output -/
theorem Qj8 (n : NO) (row : Tp) (hv : ∀ o ∈ n.v.2.2.1, ix (Qa n.v.2.2.2.1) o < row.length) (ho : n.v.2.2.1.length ≤ 1000) : Ct Tryz.prog 82 [AtT J7 (Y9 n), SlT kI row] ([]) Unit (fun _ => BsT (idB (proj (Qa n.v.2.2.2.1) n.v.2.2.1 row))) (fun _ => []) (fun _ => True) := by
 refine Qn Tryz.func82 rfl rfl ?_
 intro H w
 have hol := Qb4 n.v
 refine sq (rg (ak rfl (tn (nn (sq (rg (ak rfl (tn (nn (sq (sq (Xg 3 kI (rg (mv rfl rfl (oP (Qp oz) rfl (oP (Qr oz ln4 yc1) rfl (oP (pL oz yo2) rfl (Zt 11 (T := SlT kI (Qdo n.v)) oz (oP (pls oz Tryz.underlying50) rfl (oP (Qm ot) rfl (tn (nn (tb ?_)))))))))))))))))))))))
 refine Qt (σ := Nat × Value) (e2 1 11 rfl (ec 12 rfl en)) (fun s => [(13, I64 (s.1 : Int)), (5, IsV s.2)]) (fun s => [Qh 3 kI s.2 ((n.v.2.2.1.take s.1).map (fun o => env (Qa n.v.2.2.2.1) row o))]) (fun s => s.1 ≤ n.v.2.2.1.length) (fun s => n.v.2.2.1.length - s.1) (0, Qo) (Nat.zero_le _) ?_ (op (by repeat first | exact pn | refine pc 0 rfl ?_)) ?_
 · exact (e2 13 5 rfl en)
 · rintro ⟨i, u⟩ hi
   dsimp only at hi ⊢
   refine sq (rg (oP (Q5 oz oz) rfl (tn (nn (sq (tc oz (fun c14 => ?_) (fun c14 => ?_)))))))
   · refine sk (nn (sq (tb (sq ?_))))
     have hil : i < n.v.2.2.1.length := by rw [hol] at c14; simpa using c14
     obtain ⟨o, hoo⟩ : ∃ o, at' n.v.2.2.1 (i : Int) = o := ⟨_, rfl⟩
     have hlt := hv o (by rw [← hoo]; exact at_mem hil)
     have hst := Qah (fun o => env (Qa n.v.2.2.2.1) row o) hil
     rw [hoo] at hst
     have hml : ((n.v.2.2.1.take i).map (fun o => env (Qa n.v.2.2.2.1) row o)).length = i := by rw [List.length_map, List.length_take]; omega
     refine rg (oP (Qj oz oz Tryz.underlying50 ynm (by omega) (by omega)) rfl (oP (pL oz ynm) rfl (av rfl rfl (tn ?_))))
     rw [Qvy hil, hoo]
     refine nn (rg (mv rfl rfl (mv rfl rfl (mv rfl rfl (oP (Qj oz oz Tryz.underlying51 ynm (by omega) (by omega)) rfl (oP (pL oz ynm) rfl (oA (Q7 (d := kI) (v0 := 0) ye1 ynm zI (show 1 * 1 ≤ 16777216 from by decide) (by decide) (Qv rfl rfl (by decide) oz Qc)) pR rfl rfl (fun _ _ => ?_))))))))
     refine oA (Q0 oz (pA 0 rfl) oz ye1 (by (simp; omega)) (by (simp [maxLen]; omega))) (pA 0 rfl) rfl rfl (fun v5_6 _ => ?_)
     refine av rfl rfl (tn (bn (nn (rg (oP (pad oz ot (by omega)) rfl (mv rfl rfl (tn (nn ?_))))))))
     exact tg (i + 1, v5_6) (by show i + 1 ≤ n.v.2.2.1.length; omega) (by show n.v.2.2.1.length - (i + 1) < n.v.2.2.1.length - i; omega) ef (op (by rw [hst]; exact (by repeat first | exact pn | refine pc 0 rfl ?_)))
   refine Qx (tx (tx (bh (nn (sq ?_)))))
   obtain rfl : i = n.v.2.2.1.length := by rw [hol] at c14; simp only [decide_eq_false_iff_not] at c14; omega
   rw [List.take_length]
   refine Xh (Qq 0 rfl) 5 (oT rfl) (rg (mv rfl rfl (oA (aC (Q2t _ (by rw [List.length_map]; omega)) yfk (oc (oT rfl) oN) pR) pR rfl rfl (fun _ _ => ?_))))
   refine av rfl rfl (tn (nn (tR ?_)))
   exact Qi .ret (.inl rfl) rfl () (oT rfl) trivial (by exact pn)
/-- (*rhizome/net.Net).Levels -/
theorem Qpr (n : NO) (lv : List Rw) (K : Nat) (hgl : n.gl.length = K + 1) (hlv : lv.length = K + 1) (hK : K ≤ 1000) : Ct Tryz.prog 213 [AtT J7 (Y9 n)] (lvI n.gl lv) Unit (fun _ => SlT kI (lens lv)) (fun _ => lvI n.gl lv) (fun _ => True) := by
 refine Qn Tryz.func213 rfl rfl ?_
 intro H w
 have hml : ((n.gl.map mp).drop 1).length = K := by rw [List.length_drop, List.length_map]; omega
 have hll := Qe3 lv
 have hml1 : ((Y9 n).2.2.2.2.2.2.1).length = K + 1 := by show (n.gl.map mp).length = _; rw [List.length_map]; omega
 refine sq (rg (ak rfl (tn (nn (sq (rg (ak rfl (tn (nn (sq (sq (rg (mv rfl rfl (oP (Qp oz) rfl (oP (Qr oz ln6 yn5) rfl (oP (pL oz y2a) rfl (oP (K7 oz ot Tryz.underlying113 y3m (by omega) (by omega)) rfl (Zt 10 (T := SlT Q3 ((n.gl.map mp).drop 1)) oz (oP (pls oz Tryz.underlying113) rfl (oP (Qm ot) rfl (tn (Xg 3 kI (nn ?_)))))))))))))))))))))))
 refine tb (Qt (σ := Nat × Value) (e2 10 11 rfl en) (fun s => [(12, I64 (s.1 : Int)), (3, IsV s.2)]) (fun s => (Qh 3 kI s.2 ((lens lv).take s.1) :: lvI n.gl lv)) (fun s => s.1 ≤ K) (fun s => K - s.1) (0, Qo) (Nat.zero_le _) ?_ (op pl) ?_)
 · exact (e2 12 3 rfl en)
 · rintro ⟨i, u⟩ hi
   dsimp only at hi ⊢
   refine sq (rg (oP (Q5 oz oz) rfl (tn (nn (sq (tc oz (fun c13 => ?_) (fun c13 => ?_)))))))
   · refine sk (nn (sq (tb (sq ?_))))
     have hil : i < K := by rw [hml] at c13; simpa using c13
     have hst := Qto (lv := lv) (k := i) (by omega)
     have htl : ((lens lv).take i).length = i := by rw [List.length_take]; omega
     refine rg (oP (Qj oz oz Tryz.underlying113 y3m (by omega) (by omega)) rfl (oP (Q8 oz y3m) rfl ?_))
     rw [Q32 (show i + 1 < n.gl.length by omega)]
     refine av rfl rfl (tn (nn (rg (mv rfl rfl (mv rfl rfl (oP (Qo5 Tryz.underlying117 (oT rfl) (List.mem_cons_of_mem _ (Q0e (k := i + 1) (by omega) (by omega)))) rfl (oA (Q7 (d := kI) (v0 := 0) y9t ynm zI (show 1 * 1 ≤ 16777216 from by decide) (by decide) (Qv rfl rfl (by decide) (oT rfl) Qc)) pR rfl rfl (fun _ _ => ?_))))))))
     refine oA (Q0 oz (pA 0 rfl) oz y9t (by (simp; omega)) (by (simp [maxLen]; omega))) (pA 0 rfl) rfl rfl (fun v5_4 _ => ?_)
     refine av rfl rfl (tn (bn (nn (rg (oP (pad oz ot (by omega)) rfl (mv rfl rfl (tn (nn ?_))))))))
     exact tg (i + 1, v5_4) (by show i + 1 ≤ K; omega) (by show K - (i + 1) < K - i; omega) ef (op (by rw [hst]; exact pl))
   refine Qx (tx (tx (bh (nn (sq ?_)))))
   obtain rfl : i = K := by rw [hml] at c13; simp only [decide_eq_false_iff_not] at c13; omega
   rw [List.take_of_length_le (by omega)]
   exact Xh (Qq 0 rfl) 3 oz (rg (mv rfl rfl (av rfl rfl (tn (nn (tR (Qi .ret (.inl rfl) rfl () oz trivial pl)))))))
/-- slices.Max[[]int,int] -/
theorem Q33 (xs : List Int) (h0 : 0 < xs.length) (hm : xs.length ≤ 1000000) : Ct Tryz.prog 212 [SlT kI xs] ([]) Unit (fun _ => I64 (Qo4 xs)) (fun _ => []) (fun _ => True) := by
 refine Qn Tryz.func212 rfl rfl ?_
 intro H w
 refine sq (rg (ak rfl (tn (nn (sq (sq (rg (mv rfl rfl (oP (pls oz Tryz.underlying50) rfl (oP (Q5 oz ot) rfl (tn (nn (tc oz (fun c7 => ?_) (fun c7 => ?_))))))))))))))
 · try simp only [cq] at c7
   omega --done
 try simp only [cq] at c7
 refine sk (nn (sq (rg (mv rfl rfl (oP (Qj oz ot Tryz.underlying50 ynm (by omega) (by omega)) rfl (oP (pL oz ynm) rfl (av rfl rfl (tn (nn (sq (sq (rg (ak rfl (tn (nn (tb (Qt (σ := Nat) (ec 0 rfl en) (fun k => [(4, I64 (k : Int)), (3, I64 (Qo4 (xs.take k)))]) (fun k => []) (fun k => 1 ≤ k ∧ k ≤ xs.length) (fun k => xs.length - k) 1 ⟨Nat.le_refl _, h0⟩ ?_ (op (by exact pn)) ?_)))))))))))))))))
 · exact (ec 4 rfl (Qy (t := 3) (OT.val oz (congrArg (Value.int _) (by cases xs with | nil => simp at h0 | cons x l => rfl))) en))
 rintro k ⟨hk1, hk⟩
 refine sq (sq ?_)
 have hkl := hk
 refine rg (mv rfl rfl (mv rfl rfl (oP (pls oz Tryz.underlying50) rfl (oP (Q5 oz oz) rfl (tn (nn (tc oz (fun c15 => ?_) (fun c15 => ?_))))))))
 · try simp only [cq] at c15
   refine sk (nn (sq (tb ?_)))
   have hst := Qsn (l := xs) (k := k) (by omega) (by omega)
   refine rg (mv rfl rfl (mv rfl rfl (mv rfl rfl (oP (Qj oz oz Tryz.underlying50 ynm (by omega) (by omega)) rfl (oP (pL oz ynm) rfl (oP (Q3d oz oz) rfl (av rfl rfl (tn (bn (nn (rg (mv rfl rfl (oP (pad oz ot (by omega)) rfl (av rfl rfl (tn (nn ?_))))))))))))))))
   exact tg (k + 1) (by omega) (by omega) (ea (ec 4 rfl (Qy (t := 3) (OT.val oz (congrArg (Value.int _) hst.symm)) en)) ef) (op (by exact pn))
 try simp only [cq] at c15
 refine Qx (tx (tx (bh (nn (sq ?_)))))
 obtain rfl : k = xs.length := by omega
 rw [List.take_length]
 refine rg (mv rfl rfl (av rfl rfl (tn (nn (tR ?_)))))
 exact Qi .ret (.inl rfl) rfl () (oT rfl) trivial (by exact pn)
end Go.Proofs.YtklhdalppmjnaaaGreatDoor
namespace Go.Proofs.YtklhdalppmjnaaaGreatDoor
open Go Go.Gw Go.So Go.Tu Go.Jn Go.Nt
theorem Qbc {κ α : Type} [DecidableEq κ] {k : κ} {m : List (κ × α)} (h : k ∈ keys m) : ∃ v, lkp k m = some v := by
 cases e : lkp k m with
 | none => exact absurd h (Xx.1 e)
 | some v => exact ⟨v, rfl⟩
theorem Q34 {N : Nat} {Γ : Env} {x : Operand} {p : Pr} (h : OT N Γ x (IsV (Zu p))) : OT N Γ x (kPP.T p) := fun a H f => by
 rw [show a.eval x = Zu p from h a H f]
 refine kPP.toT (cs := [.int .i64 p.1, .int .i64 p.2]) ⟨rfl, rfl, fun j x e => ?_⟩
 match j, e with
 | 0, e => cases e; rfl
 | 1, e => cases e; rfl
 | j + 2, e => simp at e
theorem Q35 {x : Al} {F T i : Nat} {r : Tp} {z : Int} {zl : List Int} (h1 : F < r.length) (hz : z = r.getD F 0) (hzl : ((lkp z x.frm).getD (Qo, [])).2 = zl) (hi : i = zl.length) (p : Pr) : p ∈ (zl.take i).map (fun b => (z, b)) ↔ W0 x F T r p := by
 subst hi hz
 unfold W0
 rw [if_pos h1, List.take_length, hzl, List.mem_map]
 constructor
 · rintro ⟨b, hb, rfl⟩; exact ⟨rfl, hb⟩
 rintro ⟨e, hb⟩; exact ⟨p.2, hb, Prod.ext e.symm rfl⟩
theorem Q36 {x : Al} {F T i : Nat} {r : Tp} {z : Int} {zl : List Int} (h1 : ¬ F < r.length) (h2 : T < r.length) (hz : z = r.getD T 0) (hzl : ((lkp z x.to).getD (Qo, [])).2 = zl) (hi : i = zl.length) (p : Pr) : p ∈ (zl.take i).map (fun b => (b, z)) ↔ W0 x F T r p := by
 subst hi hz
 unfold W0
 rw [if_neg h1, if_pos h2, List.take_length, hzl, List.mem_map]
 constructor
 · rintro ⟨b, hb, rfl⟩; exact ⟨rfl, hb⟩
 rintro ⟨e, hb⟩; exact ⟨p.1, hb, Prod.ext rfl e.symm⟩
theorem Q1x {κ α : Type} [DecidableEq κ] {m : List (κ × α)} {todo out : List κ} {k : κ} (hn : todo.Nodup) (hk : k ∈ todo) (hs : ∀ k ∈ todo, k ∈ keys m) (h : ∀ p, p ∈ out ↔ p ∈ keys m ∧ p ∉ todo) (p : κ) : p ∈ out ++ [k] ↔ p ∈ keys m ∧ p ∉ ers todo k := by
 rw [List.mem_append, List.mem_singleton, h, Qct hn]
 constructor
 · rintro (⟨h1, h2⟩ | rfl)
   · exact ⟨h1, fun h3 => h2 h3.2⟩
   exact ⟨hs _ hk, fun h3 => h3.1 rfl⟩
 rintro ⟨h1, h2⟩
 by_cases e : p = k
 · exact .inr e
 exact .inl ⟨h1, fun h3 => h2 ⟨e, h3⟩⟩
theorem Q37 {x : Al} {F T : Nat} {r : Tp} {M : List Pr} (h1 : ¬ F < r.length) (h2 : ¬ T < r.length) (h : ∀ p, p ∈ M ↔ p ∈ keys x.has ∧ p ∉ []) (p : Pr) : p ∈ M ↔ W0 x F T r p := by
 unfold W0
 rw [if_neg h1, if_neg h2, h]; simp

/-- (*rhizome/net.Net).matches -/
theorem Qps (n : NO) (m : AlM) (k : Nat) (row : Tp) (a : Atm) (hk : k < n.v.2.2.2.1.length) (ha : at' n.v.2.2.2.1 (k : Int) = a) (hl : Qc3 row.length (nv n.v.2.2.2.1 (k + 1)) (ix (Qa n.v.2.2.2.1) a.1) (ix (Qa n.v.2.2.2.1) a.2.2)) (hr : row.length ≤ 1000) (hs : (lkp a.2.1 m).isSome = true) (hb : AlB (alG m a.2.1)) : Ct Tryz.prog 81 [AtT J7 (Y9 n), I64 (k : Int), SlT kI row] (AlI n m) (List Pr) (fun M => SlT kPP M) (fun _ => AlI n m) (fun M => (∀ p, p ∈ M ↔ W0 (alG m a.2.1) (ix (Qa n.v.2.2.2.1) a.1) (ix (Qa n.v.2.2.2.1) a.2.2) row p) ∧ M.length ≤ 1000000) := by
 refine Qn Tryz.func81 rfl rfl ?_
 intro H w
 obtain ⟨x, hx⟩ : ∃ x, alG m a.2.1 = x := ⟨_, rfl⟩
 have hlk : lkp a.2.1 m = some x := by rw [← hx]; exact Qb5 hs
 rw [hx] at hb ⊢
 have hfl := Wy n.v.2.2.2.1
 have htl := Qa5 n.v.2.2.2.1
 refine sq (rg (ak rfl (tn (nn (sq ?_)))))
 apply Xs (m := 13) (ns := [[(0, none)], [(14, some 0)], [(15, some 1)], [(16, some 2)], [(0, none)], [(18, some 4)], [(19, some 5)], [(20, some 6)], [(21, some 7)], [(1, none)], [(22, some 8), (23, some 9)], [(24, some 10)], [(25, some 11)]]) (by kernel_rfl) (by kernel_rfl) (Ts := [_, _, _, _, _, _, _, _, _, _, _, _, _]) rfl
 case hops =>
  exact ⟨rmv rfl, rP (Qp oz), rP (Qr oz ln5 yha), rP (Q8 oz y32), rmv rfl, rP (Qp oz), rP (Qr oz ln0 yhd), rP (Qr oz lv3 y46), rP (pL oz y2r), rmv rfl, rP (Qj oz oz Tryz.underlying23 y03 (by omega) (by show ((k : Nat) : Int) < (n.v.2.2.2.1.length : Int); omega)), rP (Qr oz la1 yl2), rP (pL oz ylw), trivial⟩
 case h =>
  refine oP (Xq mkS Tryz.underlying111 zPA oz (mA 0 rfl) oz) rfl (av rfl rfl (tn (nn (sq ?_))))
  rw [show at' (Y9 n).1.2.2.2.1 (k : Int) = a from ha, Qak, hlk]
  refine Zt 7 (T := AtT kAl (ptA x)) oz (rg (ak rfl (tn (Xg 108 kPP (nn (sq (tb (sq (rg (mv rfl rfl (oP (Qp oz) rfl (oP (Qr oz ln2 y3c) rfl (oP (pL oz yo2) rfl (mv rfl rfl (oP (Qj oz oz Tryz.underlying50 ynm (by omega) (by show ((k : Nat) : Int) < ((Ym n.v.2.2.2.1).length : Int); omega)) rfl ?_)))))))))))))))
  refine oP (pL oz ynm) rfl (mv rfl rfl (oP (pls oz Tryz.underlying51) rfl ?_))
  rw [show at' (Y9 n).2.2.1 (k : Int) = ((ix (Qa n.v.2.2.2.1) a.1) : Int) from Qcs hk ha]
  refine oP (Q5 oz oz) rfl (av rfl rfl (tn (nn (tc oz (fun c41 => ?_) (fun c41 => ?_)))))
  · have h1 : (ix (Qa n.v.2.2.2.1) a.1) < row.length := by simpa using c41
    refine Qex (X := [_, _]) (at' row ((ix (Qa n.v.2.2.2.1) a.1) : Int)) (Q2i hlk) (sq ?_)
    apply Xs (m := 17) (ns := [[(7, none)], [(52, some 0)], [(53, some 1)], [(54, some 2)], [(2, none)], [(0, none)], [(57, some 5)], [(58, some 6)], [(59, some 7)], [(1, none)], [(60, some 8), (61, some 9)], [(62, some 10)], [(56, some 4), (63, some 11)], [(64, some 12)], [(55, some 3), (65, some 13)], [(66, some 14)], []]) (by kernel_rfl) (by kernel_rfl) (Ts := [_, _, _, _, _, _, _, _, _, _, _, _, _, _, _, _, _]) rfl
    case hops =>
     exact ⟨rmv rfl, rP (Qp oz), rP (Qr oz lx0 ya0), rP (Q8 oz y30), rmv rfl, rmv rfl, rP (Qp oz), rP (Qr oz ln2 y3c), rP (pL oz yo2), rmv rfl, rP (Qj oz oz Tryz.underlying50 ynm (by omega) (by show ((k : Nat) : Int) < ((Ym n.v.2.2.2.1).length : Int); omega)), rP (Qll (T' := I64 ((ix (Qa n.v.2.2.2.1) a.1) : Int)) (pL oz ynm) (congrArg I64 (Qcs hk ha))), rP (Qj oz oz Tryz.underlying51 ynm (by omega) (by omega)), rP (pL oz ynm), rP (X7 mkI Tryz.underlying120 (z0 := Qo) (by kernel_rfl) oz (List.mem_cons_of_mem _ (List.mem_cons_of_mem _ (List.mem_cons_of_mem _ (List.mem_append_right [] (List.mem_append_right _ List.mem_cons_self))))) oz), rP (Xr oz (mA 0 rfl) Tryz.underlying50), rP (Qm ot), trivial⟩
    case h =>
     refine tn ?_
     obtain ⟨zv, hzv⟩ : ∃ v, (lkp (at' row ((ix (Qa n.v.2.2.2.1) a.1) : Int)) (hdV x.frm)).getD Qo = v := ⟨_, rfl⟩
     obtain ⟨zl, hzl⟩ : ∃ l, ((lkp (at' row ((ix (Qa n.v.2.2.2.1) a.1) : Int)) x.frm).getD (Qo, [])).2 = l := ⟨_, rfl⟩
     have hzb := hb.f (at' row ((ix (Qa n.v.2.2.2.1) a.1) : Int))
     rw [hzl] at hzb
     rw [hzv, hzl]
     refine nn (tb (Qt (σ := Nat × Value) (e4 0 1 2 66 rfl (ec 67 rfl en)) (fun s => [(68, I64 (s.1 : Int)), (8, IsV s.2)]) (fun s => (Qh 3 kI zv zl :: Qh 108 kPP s.2 ((zl.take s.1).map (fun b => ((at' row ((ix (Qa n.v.2.2.2.1) a.1) : Int)), b))) :: (Qg n.ga encS (kpt kAl).T (Zn m) :: ((dlk (at' row ((ix (Qa n.v.2.2.2.1) a.1) : Int)) x.frm).map frI ++ (Qg x.gf encI IsV (hdV x.frm) :: Qg x.gt encI IsV (hdV x.to) :: Qg x.gh Zu Xd.T x.has :: (x.to.map frI ++ Yf (dlk a.2.1 m))))))) (fun s => s.1 ≤ zl.length) (fun s => zl.length - s.1) (0, Qo) (Nat.zero_le _) ?_ (op pl) ?_))
     · exact (e2 68 8 rfl en)
     rintro ⟨i, u⟩ hi
     dsimp only at hi ⊢
     have hml : ((zl.take i).map (fun b => ((at' row ((ix (Qa n.v.2.2.2.1) a.1) : Int)), b))).length = i := by rw [List.length_map, List.length_take]; omega
     refine sq (rg (oP (Q5 oz oz) rfl (tn (nn (sq (tc oz (fun c69 => ?_) (fun c69 => ?_)))))))
     · refine sk (nn (sq (tb (sq ?_))))
       have hil : i < zl.length := by simpa using c69
       have hst := Qah (fun b => ((at' row ((ix (Qa n.v.2.2.2.1) a.1) : Int)), b)) hil
       refine rg (oP (pio oz (mA 0 rfl) oz Tryz.underlying50 ynm (by omega) (by omega)) rfl (oP (plo oz (mA 0 rfl) (by omega) (by omega) ynm) rfl (av rfl rfl (tn (nn (rg (mv rfl rfl (mv rfl rfl (mv rfl rfl (oP (Qp oz) rfl (oP (Qr oz ln2 y3c) rfl (oP (pL oz yo2) rfl (mv rfl rfl (oP (Qj oz oz Tryz.underlying50 ynm (by omega) (by show ((k : Nat) : Int) < ((Ym n.v.2.2.2.1).length : Int); omega)) rfl ?_))))))))))))))
       refine oP (pL oz ynm) rfl ?_
       rw [show at' (Y9 n).2.2.1 (k : Int) = ((ix (Qa n.v.2.2.2.1) a.1) : Int) from Qcs hk ha]
       refine oP (Qj oz oz Tryz.underlying51 ynm (by omega) (by omega)) rfl (oP (pL oz ynm) rfl (mv rfl rfl (oP (Xt (d := kPP) (v0 := (0, 0)) (agg := false) Tryz.underlying108 ynm zP rfl (Qk rfl Qf.p0 oz (Qk rfl Qf.p1 oz Qc))) rfl (oA (Q7 (d := kPP) (v0 := (0, 0)) yie yd7 zP (show 1 * 2 ≤ 16777216 from by decide) (by decide) (Qv rfl rfl (by decide) oz Qc)) pR rfl rfl (fun _ _ => ?_)))))
       refine oA (Q0 oz (pA 1 rfl) oz yie (by (simp; omega)) (by (simp [maxLen]; omega))) (pA 1 rfl) rfl rfl (fun v11_14 _ => ?_)
       refine av rfl rfl (tn (bn (nn (rg (oP (pad oz ot (by omega)) rfl (mv rfl rfl (tn (nn ?_))))))))
       exact tg (i + 1, v11_14) (by show i + 1 ≤ zl.length; omega) (by show zl.length - (i + 1) < zl.length - i; omega) ef (op (by rw [hst]; exact pc 1 rfl (pc 0 rfl pl)))
     refine Qx (tx (tx (bh (bn (nn (sq (Xh (Qq 1 rfl) 8 oz (rg (mv rfl rfl (av rfl rfl (tn (nn (tR ?_)))))))))))))
     exact Qi .ret (.inl rfl) rfl _ (oT rfl) ⟨Q35 h1 rfl hzl (by simp only [decide_eq_false_iff_not] at c69; omega), by rw [hml]; omega⟩ (pc 1 rfl (Qgc (X := []) hzv.symm hzl.symm (Q2i hlk)))
  have h1 : ¬ (ix (Qa n.v.2.2.2.1) a.1) < row.length := by simpa using c41
  refine sq (rg (mv rfl rfl (oP (Qp oz) rfl (oP (Qr oz ln3 yth) rfl (oP (pL oz yo2) rfl (mv rfl rfl (oP (Qj oz oz Tryz.underlying50 ynm (by omega) (by show ((k : Nat) : Int) < ((toL n.v.2.2.2.1).length : Int); omega)) rfl ?_)))))))
  refine oP (pL oz ynm) rfl (mv rfl rfl (oP (pls oz Tryz.underlying51) rfl ?_))
  rw [show at' (Y9 n).2.2.2.1 (k : Int) = ((ix (Qa n.v.2.2.2.1) a.2.2) : Int) from Qjo hk ha]
  refine oP (Q5 oz oz) rfl (av rfl rfl (tn (nn (tc oz (fun c88 => ?_) (fun c88 => ?_)))))
  · have h2 : (ix (Qa n.v.2.2.2.1) a.2.2) < row.length := by simpa using c88
    refine Qex (X := [_, _]) (at' row ((ix (Qa n.v.2.2.2.1) a.2.2) : Int)) (Q2j hlk) (sq ?_)
    apply Xs (m := 17) (ns := [[(7, none)], [(99, some 0)], [(100, some 1)], [(101, some 2)], [(2, none)], [(0, none)], [(104, some 5)], [(105, some 6)], [(106, some 7)], [(1, none)], [(107, some 8), (108, some 9)], [(109, some 10)], [(103, some 4), (110, some 11)], [(111, some 12)], [(102, some 3), (112, some 13)], [(113, some 14)], []]) (by kernel_rfl) (by kernel_rfl) (Ts := [_, _, _, _, _, _, _, _, _, _, _, _, _, _, _, _, _]) rfl
    case hops =>
     exact ⟨rmv rfl, rP (Qp oz), rP (Qr oz lx1 ye0), rP (Q8 oz y30), rmv rfl, rmv rfl, rP (Qp oz), rP (Qr oz ln3 yth), rP (pL oz yo2), rmv rfl, rP (Qj oz oz Tryz.underlying50 ynm (by omega) (by show ((k : Nat) : Int) < ((toL n.v.2.2.2.1).length : Int); omega)), rP (Qll (T' := I64 ((ix (Qa n.v.2.2.2.1) a.2.2) : Int)) (pL oz ynm) (congrArg I64 (Qjo hk ha))), rP (Qj oz oz Tryz.underlying51 ynm (by omega) (by omega)), rP (pL oz ynm), rP (X7 mkI Tryz.underlying120 (z0 := Qo) (by kernel_rfl) oz (List.mem_cons_of_mem _ (List.mem_cons_of_mem _ (List.mem_cons_of_mem _ (List.mem_append_right [] (List.mem_append_right _ (List.mem_cons_of_mem _ List.mem_cons_self)))))) oz), rP (Xr oz (mA 0 rfl) Tryz.underlying50), rP (Qm ot), trivial⟩
    case h =>
     refine tn ?_
     obtain ⟨zv, hzv⟩ : ∃ v, (lkp (at' row ((ix (Qa n.v.2.2.2.1) a.2.2) : Int)) (hdV x.to)).getD Qo = v := ⟨_, rfl⟩
     obtain ⟨zl, hzl⟩ : ∃ l, ((lkp (at' row ((ix (Qa n.v.2.2.2.1) a.2.2) : Int)) x.to).getD (Qo, [])).2 = l := ⟨_, rfl⟩
     have hzb := hb.t (at' row ((ix (Qa n.v.2.2.2.1) a.2.2) : Int))
     rw [hzl] at hzb
     rw [hzv, hzl]
     refine nn (tb (Qt (σ := Nat × Value) (e4 0 1 2 113 rfl (ec 114 rfl en)) (fun s => [(115, I64 (s.1 : Int)), (8, IsV s.2)]) (fun s => (Qh 3 kI zv zl :: Qh 108 kPP s.2 ((zl.take s.1).map (fun b => (b, (at' row ((ix (Qa n.v.2.2.2.1) a.2.2) : Int))))) :: (Qg n.ga encS (kpt kAl).T (Zn m) :: ((dlk (at' row ((ix (Qa n.v.2.2.2.1) a.2.2) : Int)) x.to).map frI ++ (Qg x.gf encI IsV (hdV x.frm) :: Qg x.gt encI IsV (hdV x.to) :: Qg x.gh Zu Xd.T x.has :: (x.frm.map frI ++ Yf (dlk a.2.1 m))))))) (fun s => s.1 ≤ zl.length) (fun s => zl.length - s.1) (0, Qo) (Nat.zero_le _) ?_ (op pl) ?_))
     · exact (e2 115 8 rfl en)
     rintro ⟨i, u⟩ hi
     dsimp only at hi ⊢
     have hml : ((zl.take i).map (fun b => (b, (at' row ((ix (Qa n.v.2.2.2.1) a.2.2) : Int))))).length = i := by rw [List.length_map, List.length_take]; omega
     refine sq (rg (oP (Q5 oz oz) rfl (tn (nn (sq (tc oz (fun c116 => ?_) (fun c116 => ?_)))))))
     · refine sk (nn (sq (tb (sq ?_))))
       have hil : i < zl.length := by simpa using c116
       have hst := Qah (fun b => (b, (at' row ((ix (Qa n.v.2.2.2.1) a.2.2) : Int)))) hil
       refine rg (oP (pio oz (mA 0 rfl) oz Tryz.underlying50 ynm (by omega) (by omega)) rfl (oP (plo oz (mA 0 rfl) (by omega) (by omega) ynm) rfl (av rfl rfl (tn (nn (rg (mv rfl rfl (mv rfl rfl (mv rfl rfl (mv rfl rfl (oP (Qp oz) rfl (oP (Qr oz ln3 yth) rfl (oP (pL oz yo2) rfl (mv rfl rfl (oP (Qj oz oz Tryz.underlying50 ynm (by omega) (by show ((k : Nat) : Int) < ((toL n.v.2.2.2.1).length : Int); omega)) rfl ?_)))))))))))))))
       refine oP (pL oz ynm) rfl ?_
       rw [show at' (Y9 n).2.2.2.1 (k : Int) = ((ix (Qa n.v.2.2.2.1) a.2.2) : Int) from Qjo hk ha]
       refine oP (Qj oz oz Tryz.underlying51 ynm (by omega) (by omega)) rfl (oP (pL oz ynm) rfl (oP (Xt (d := kPP) (v0 := (0, 0)) (agg := false) Tryz.underlying108 ynm zP rfl (Qk rfl Qf.p0 oz (Qk rfl Qf.p1 oz Qc))) rfl (oA (Q7 (d := kPP) (v0 := (0, 0)) yie yd7 zP (show 1 * 2 ≤ 16777216 from by decide) (by decide) (Qv rfl rfl (by decide) oz Qc)) pR rfl rfl (fun _ _ => ?_))))
       refine oA (Q0 oz (pA 1 rfl) oz yie (by (simp; omega)) (by (simp [maxLen]; omega))) (pA 1 rfl) rfl rfl (fun v17_14 _ => ?_)
       refine av rfl rfl (tn (bn (nn (rg (oP (pad oz ot (by omega)) rfl (mv rfl rfl (tn (nn ?_))))))))
       exact tg (i + 1, v17_14) (by show i + 1 ≤ zl.length; omega) (by show zl.length - (i + 1) < zl.length - i; omega) ef (op (by rw [hst]; exact pc 1 rfl (pc 0 rfl pl)))
     refine Qx (tx (tx (bh (bn (nn (sq (Xh (Qq 1 rfl) 8 oz (rg (mv rfl rfl (av rfl rfl (tn (nn (tR ?_)))))))))))))
     exact Qi .ret (.inl rfl) rfl _ (oT rfl) ⟨Q36 h1 h2 rfl hzl (by simp only [decide_eq_false_iff_not] at c116; omega), by rw [hml]; omega⟩ (pc 1 rfl (Qgc (X := []) hzv.symm hzl.symm (Q2j hlk)))
  have h2 : ¬ (ix (Qa n.v.2.2.2.1) a.2.2) < row.length := by simpa using c88
  refine Q4 (Qew (X := [_, _]) (Z := []) (A := [_]) (Qv4 hlk)) (W7 pR fun s0 => (sq (rg (mv rfl rfl (oP (Qp oz) rfl (oP (Qr oz lx2 y7a) rfl (oP (Q8 oz yht) rfl (oA (Z0 Tryz.underlying121 oz (mA 0 rfl)) pR rfl rfl (fun r3_4 hr3_4 => ?_)))))))))
  refine tn (nn (tb (Qt (σ := IS × List Pr × Option Pr × Value × List Pr) (ec 32 rfl en) (fun s => [(8, IsV s.2.2.2.1)]) (fun s => (K4 r3_4.1 x.gh s.1 :: Ju x.gh Zu Xd.T x.has s0 :: Qh 108 kPP s.2.2.2.1 s.2.2.2.2 :: Qg n.ga encS (kpt kAl).T (Zn m) :: (Qg x.gf encI IsV (hdV x.frm) :: Qg x.gt encI IsV (hdV x.to) :: (x.frm.map frI ++ x.to.map frI ++ Yf (dlk a.2.1 m))))) (fun s => Jk x.has s0 s.1 s.2.1 s.2.2.1 ∧ (∀ p, p ∈ s.2.2.2.2 ↔ p ∈ keys x.has ∧ p ∉ s.2.1) ∧ s.2.2.2.2.length + s.2.1.length ≤ x.has.length) (fun s => s.2.1.length) (r3_4.2, keys x.has, none, Qo, []) ⟨hr3_4, fun p => by simp, by simp [keys]⟩ ?_ (op pl) ?_)))
  · exact (ec 8 rfl en)
  rintro ⟨i, todo, cur, u, out⟩ ⟨hok, hmem, hlen⟩
  dsimp only at hok hmem hlen ⊢
  refine sq (rg (oA (Z1 oz (mA 1 rfl) (pA 0 rfl) (by assumption)) (pA 0 rfl) rfl rfl (fun q4_0 hq4_0 => ?_)))
  refine oP (J6 oz) rfl (tn (nn (sq (tc oz (fun c34 => ?_) (fun c34 => ?_)))))
  · obtain ⟨i2, o2⟩ := q4_0
    obtain ⟨key, rfl⟩ : ∃ k, o2 = some k := by
     cases o2 with
     | none => exact Bool.noConfusion c34
     | some k => exact ⟨k, rfl⟩
    dsimp only at hq4_0 c34 ⊢
    obtain ⟨hkt, hok2⟩ := hq4_0
    obtain ⟨bv, hbv⟩ := Qbc (hok.sub _ hkt)
    have hle : (ers todo key).length = todo.length - 1 := Qa6 hkt
    have hpos := List.length_pos_of_mem hkt
    have hbh := hb.h
    refine sk (nn (tb (sq (rg (oP (Ye (D := IsV _) oz (mA 0 rfl) (mA 1 rfl) (by assumption) (by assumption) (fun H => rfl)) rfl ?_)))))
    refine oP (Qd oz rfl) rfl (Zt 36 (T := kPP.T key) (Q34 oz) (oA (Qz (zP)) pR rfl rfl (fun g5_2 _ => ?_)))
    refine oA (asv oz oz (pA 0 rfl) yd7) (pA 0 rfl) rfl rfl (fun _ _ => ?_)
    refine tn (nn (rg (mv rfl rfl (oP (plv oz (mA 0 rfl) yd7) rfl (oA (Q7 (d := kPP) (v0 := (0, 0)) yie yd7 zP (show 1 * 2 ≤ 16777216 from by decide) (by decide) (Qv rfl rfl (by decide) oz Qc)) pR rfl rfl (fun _ _ => ?_))))))
    refine oA (Q0 oz (pA 3 rfl) oz yie (by (simp; omega)) (by (simp [maxLen]; omega))) (pA 3 rfl) rfl rfl (fun v6_3 _ => ?_)
    refine av rfl rfl (tn (bn (nn ?_)))
    exact tg (i2, ers todo key, some key, v6_3, out ++ [key]) ⟨hok2, Q1x hok.nd hkt hok.sub hmem, (by show (out ++ [key]).length + (ers todo key).length ≤ _; rw [List.length_append, List.length_singleton, hle]; omega)⟩ (by show (ers todo key).length < todo.length; omega) ef (op (pc 2 rfl (pc 2 rfl (pc 0 rfl (pc 1 rfl (pd pl))))))
  obtain ⟨i2, o2⟩ := q4_0
  obtain rfl : o2 = none := by
   cases o2 with
   | none => rfl
   | some k => exact Bool.noConfusion c34
  dsimp only at hq4_0 ⊢
  obtain ⟨rfl, hok2⟩ := hq4_0
  refine Uv (Qq 1 rfl) (Qx (tx (tx (bh (bn (nn (sq (Xh (Qq 2 rfl) 8 oz (rg (mv rfl rfl (av rfl rfl (tn (nn (tR ?_))))))))))))))
  have hbh := hb.h
  exact Qi .ret (.inl rfl) rfl _ oz ⟨Q37 h1 h2 hmem, by omega⟩ (pc 2 rfl (Jz (pc 0 rfl (pd pl)) (Yl (Qv4 hlk).symm)))
abbrev eqV (g : Nat) : Value := .func (.func 219) #[] #[pt g 0]
/-- The first place of a number, or -1. -/
def IxF (x : Int) (xs : List Int) (r : Int) : Prop := (r = -1 ∧ x ∉ xs) ∨ ∃ i : Nat, i < xs.length ∧ r = (i : Int) ∧ at' xs (i : Int) = x ∧ x ∉ xs.take i
def fx (x : Int) (xs : List Int) : List Int := xs.filter fun y => decide (y ≠ x)
theorem Qx8 {x : Int} {xs : List Int} (h : x ∉ xs) : fx x xs = xs := List.filter_eq_self.2 fun y hy => decide_eq_true fun e => h (e ▸ hy)
theorem Qrc {x : Int} {xs : List Int} {k : Nat} (h : k < xs.length) : fx x (xs.take (k + 1)) = if at' xs (k : Int) = x then fx x (xs.take k) else fx x (xs.take k) ++ [at' xs (k : Int)] := by
 unfold fx
 rw [List.take_succ_eq_append_getElem h, List.filter_append, Q1 h]
 by_cases e : xs[k] = x
 · simp [e]
 simp [e]
theorem Qx9 {x : Int} {xs : List Int} {k : Nat} (h : k < xs.length) (h0 : x ∉ xs.take k) (h1 : ¬ at' xs (k : Int) = x) : x ∉ xs.take (k + 1) := by
 rw [Q1 h] at h1
 rw [List.take_succ_eq_append_getElem h, List.mem_append, List.mem_singleton]
 rintro (h2 | h2)
 · exact h0 h2
 exact h1 h2.symm
theorem Qtp {e : Ed} {xs : List Ed} {k : Nat} (h : k < xs.length) (h0 : e ∉ xs.take k) (h1 : ¬ e = at' xs (k : Int)) : e ∉ xs.take (k + 1) := by
 rw [Q1 h] at h1
 rw [List.take_succ_eq_append_getElem h, List.mem_append, List.mem_singleton]
 rintro (h2 | h2)
 · exact h0 h2
 exact h1 h2
theorem Q5d {e : Ed} {xs : List Ed} {k : Nat} (h : k < xs.length) (h1 : e = at' xs (k : Int)) : e ∈ xs := by
 rw [h1]; exact at_mem h
/-- What is wrong with edges that come, or go. -/
def Ui (h : Ed → Bool) (add : Bool) : List Ed → List Ed → Int
 | _, [] => 0
 | pre, e :: l => if (!add && !h e) = true then 4 else if ((add && h e) || decide (e ∈ pre)) = true then 2 else Ui h add (pre ++ [e]) l
theorem Q1y {h : Ed → Bool} {add : Bool} {es : List Ed} {k : Nat} (hk : k < es.length) : Ui h add (es.take k) (es.drop k) = if (!add && !h (at' es (k : Int))) = true then 4 else if ((add && h (at' es (k : Int))) || decide (at' es (k : Int) ∈ es.take k)) = true then 2 else Ui h add (es.take (k + 1)) (es.drop (k + 1)) := by
 rw [List.drop_eq_getElem_cons hk, Ui, Q1 hk, List.take_succ_eq_append_getElem hk]
theorem Qya {h : Ed → Bool} {add : Bool} {es : List Ed} : Ui h add (es.take es.length) (es.drop es.length) = 0 := by rw [List.drop_length, Ui]

/-- (*rhizome/net.Net).remove$1$1 -/
theorem Qyb (y x : Int) (g : Nat) : Ct Tryz.prog 219 [I64 y, IsV (pt g 0)] ([Qb g 3 kI x]) Unit (fun _ => Xe (decide (y = x))) (fun _ => [Qb g 3 kI x]) (fun _ => True) := by
 refine Qn Tryz.func219 rfl rfl ?_
 intro H w
 refine sq (rg (ak rfl (tn (nn (sq (rg (mv rfl rfl (oP (plv oz (mA 0 rfl) ynm) rfl (oP (Zs oz oz) rfl (av rfl rfl (tn (nn (tR ?_)))))))))))))
 exact Qi .ret (.inl rfl) rfl () oz trivial (by repeat first | exact pn | refine pc 0 rfl ?_)
/-- slices.IndexFunc[[]int,int] -/
theorem Qtq (v : Value) (xs : List Int) (g : Nat) (x : Int) (hm : xs.length ≤ 1000000) : Ct Tryz.prog 224 [IsV v, IsV (eqV g)] ([Qh 3 kI v xs, Qb g 3 kI x]) Int (fun r => I64 r) (fun _ => [Qh 3 kI v xs, Qb g 3 kI x]) (IxF x xs) := by
 refine Qn Tryz.func224 rfl rfl ?_
 intro H w
 refine sq (rg (ak rfl (tn (nn (sq (sq (rg (mv rfl rfl (oP (Xr oz (mA 0 rfl) Tryz.underlying50) rfl (oP (Qm ot) rfl (tn (nn (tb (Qt (σ := Nat) (e2 0 1 rfl (ec 7 rfl en)) (fun k => [(8, I64 (k : Int))]) (fun k => [Qh 3 kI v xs, Qb g 3 kI x]) (fun k => k ≤ xs.length ∧ x ∉ xs.take k) (fun k => xs.length - k) 0 ⟨Nat.zero_le _, by simp⟩ ?_ (op (by repeat first | exact pn | refine pc 0 rfl ?_)) ?_))))))))))))))
 · exact (ec 8 rfl en)
 · rintro k ⟨hk, hno⟩
   refine sq (rg (oP (Q5 oz oz) rfl (tn (nn (sq (tc oz (fun c9 => ?_) (fun c9 => ?_)))))))
   · try simp only [cq] at c9
     refine sk (nn (sq (tb (sq ?_))))
     have hkl : k < xs.length := by omega
     refine rg (mv rfl rfl (av rfl rfl (tn (nn (sq (rg (mv rfl rfl (mv rfl rfl (mv rfl rfl (oP (pio oz (mA 0 rfl) oz Tryz.underlying50 ynm (by omega) (by omega)) rfl (oP (plo oz (mA 0 rfl) (by omega) (by omega) ynm) rfl (oA (Z6 oz (CtV.of [pt g 0] (Qyb _ x g) (by kernel_rfl)) (oc oz oN) (pA 1 rfl)) (pA 1 rfl) rfl rfl (fun _ _ => ?_)))))))))))))
     refine tn (nn (tc oz (fun c16 => ?_) (fun c16 => ?_)))
     · try simp only [cq] at c16
       refine sq (rg (mv rfl rfl (av rfl rfl (tn (nn (tR (Qw (tt (tt (Qw (tt ?_)))))))))))
       exact Qi .ret (.inl rfl) rfl (k : Int) oz (.inr ⟨k, hkl, rfl, c16, hno⟩) (by repeat first | exact pn | refine pc 0 rfl ?_ | refine pc 1 rfl ?_)
     try simp only [cq] at c16
     have hst := Qx9 hkl hno c16
     refine sk (bn (nn (rg (oP (pad oz ot (by omega)) rfl (mv rfl rfl (tn (nn ?_)))))))
     exact tg (k + 1) ⟨by omega, hst⟩ (by omega) ef (op (by repeat first | exact pn | refine pc 0 rfl ?_ | refine pc 1 rfl ?_))
   try simp only [cq] at c9
   refine Qx (tx (tx (bh (nn (sq ?_)))))
   obtain rfl : k = xs.length := by omega
   rw [List.take_length] at hno
   refine rg (ak rfl (tn (nn (tR ?_))))
   exact Qi .ret (.inl rfl) rfl (-1) oz (.inl ⟨rfl, hno⟩) (by repeat first | exact pn | refine pc 0 rfl ?_)
/-- slices.DeleteFunc[[]int,int] -/
theorem Qpt (v : Value) (xs : List Int) (g : Nat) (x : Int) (hm : xs.length ≤ 1000000) : Ct Tryz.prog 218 [IsV v, IsV (eqV g)] ([Qh 3 kI v xs, Qb g 3 kI x]) Value (fun u => IsV u) (fun u => [Qh 3 kI u (fx x xs), Qb g 3 kI x]) (fun _ => True) := by
 refine Qn Tryz.func218 rfl rfl ?_
 intro H w
 refine sq (rg (ak rfl (tn (nn (sq (rg (mv rfl rfl (mv rfl rfl (oA (aC (Qtq _ _ _ _ (by omega)) yqn (oc oz (oc oz oN)) (Yh 0 0 rfl rfl)) (Yh 0 0 rfl rfl) rfl rfl (fun r1_2 hr1_2 => ?_))))))))))
 refine av rfl rfl (tn (nn (sq (sq (rg (mv rfl rfl (oP (Zs oz ot) rfl (tn (nn (tc oz (fun c12 => ?_) (fun c12 => ?_)))))))))))
 · try simp only [cq] at c12
   have hall : fx x xs = xs := Qx8 (by
    rcases hr1_2 with ⟨_, h⟩ | ⟨i, _, h, _⟩
    · exact h
    omega)
   refine sq (rg (mv rfl rfl (av rfl rfl (tn (nn (tR (tt ?_)))))))
   exact Qi .ret (.inl rfl) rfl v oz trivial (by rw [hall]; exact (by repeat first | exact pn | refine pc 0 rfl ?_))
 · try simp only [cq] at c12
   obtain ⟨i0, hi0, rfl, hix, hi1⟩ : ∃ i : Nat, i < xs.length ∧ r1_2 = (i : Int) ∧ at' xs (i : Int) = x ∧ x ∉ xs.take i := by
    rcases hr1_2 with ⟨h, _⟩ | h
    · exact absurd h c12
    exact h
   refine sk (nn (sq (sq ?_)))
   have hst0 := Qrc (x := x) hi0
   rw [if_pos hix, Qx8 hi1] at hst0
   refine rg (mv rfl rfl (oP (pad oz ot (by omega)) rfl (av rfl rfl (tn (nn (tb (Qt (σ := Nat × Nat × List Int) (e2 0 1 rfl en) (fun s => [(6, I64 (s.1 : Int)), (5, I64 (s.2.1 : Int))]) (fun s => [Qh 3 kI v s.2.2, Qb g 3 kI x]) (fun s => s.2.1 < s.1 ∧ s.1 ≤ xs.length ∧ s.2.2.length = xs.length ∧ s.2.2.take s.2.1 = fx x (xs.take s.1) ∧ s.2.2.drop s.1 = xs.drop s.1) (fun s => xs.length - s.1) (i0 + 1, i0, xs) ⟨Nat.lt_succ_self _, hi0, rfl, hst0.symm, rfl⟩ ?_ (op (by repeat first | exact pn | refine pc 0 rfl ?_)) ?_)))))))
   · exact (e2 6 5 rfl en)
   rintro ⟨j, i, ys⟩ ⟨hij, hj, hyl, hyt, hyd⟩
   dsimp only at hij hj hyl hyt hyd ⊢
   refine sq (sq (rg (mv rfl rfl (mv rfl rfl (oP (Xr oz (mA 0 rfl) Tryz.underlying50) rfl (oP (Q5 oz oz) rfl (tn (nn (tc oz (fun c19 => ?_) (fun c19 => ?_))))))))))
   · try simp only [cq] at c19
     refine sk (nn (sq (tb (sq ?_))))
     have hjl : j < xs.length := by omega
     have hy : at' ys (j : Int) = at' xs (j : Int) := Qef hyd (Nat.le_refl _) (by omega) hjl
     have hst := Qrc (x := x) hjl
     refine rg (mv rfl rfl (mv rfl rfl (oP (pio oz (mA 0 rfl) oz Tryz.underlying50 ynm (by omega) (by omega)) rfl (oP (plo oz (mA 0 rfl) (by omega) (by omega) ynm) rfl (av rfl rfl (tn ?_))))))
     rw [hy]
     refine nn (sq (rg (mv rfl rfl (mv rfl rfl (oA (Z6 oz (CtV.of [pt g 0] (Qyb _ x g) (by kernel_rfl)) (oc oz oN) (pA 1 rfl)) (pA 1 rfl) rfl rfl (fun _ _ => ?_))))))
     refine oP (Zf oz) rfl (tn (nn (tc oz (fun c29 => ?_) (fun c29 => ?_))))
     · try simp only [cq] at c29
       rw [if_neg c29] at hst
       refine sq (rg (mv rfl rfl (mv rfl rfl (mv rfl rfl (oP (pio oz (mA 1 rfl) oz Tryz.underlying50 ynm (by omega) (by omega)) rfl (oA (Kv oz oz (pA 1 rfl) (by omega) (by omega) ynm) (pA 1 rfl) rfl rfl (fun _ _ => ?_)))))))
       refine tn (nn (rg (mv rfl rfl (oP (pad oz ot (by omega)) rfl (av rfl rfl (tn (bn (nn (rg (mv rfl rfl (oP (pad oz ot (by omega)) rfl (av rfl rfl (tn (nn ?_))))))))))))))
       exact tg (j + 1, i + 1, ys.set i (at' xs (j : Int))) ⟨(by show i + 1 < j + 1; omega), (by show j + 1 ≤ xs.length; omega), (by show (ys.set i _).length = _; rw [List.length_set]; exact hyl), (by show (ys.set i _).take (i + 1) = fx x (xs.take (j + 1)); rw [hst, ← hyt]; exact Qhp (by omega)), (by show (ys.set i _).drop (j + 1) = xs.drop (j + 1); rw [List.drop_set, if_pos (by omega)]; exact V1 hyd (by omega))⟩ (by show xs.length - (j + 1) < xs.length - j; omega) ef (op (by repeat first | exact pn | refine pc 0 rfl ?_))
     try simp only [cq] at c29
     rw [if_pos c29] at hst
     refine sk (bn (nn (rg (mv rfl rfl (oP (pad oz ot (by omega)) rfl (av rfl rfl (tn (nn ?_))))))))
     exact tg (j + 1, i, ys) ⟨(by show i < j + 1; omega), (by show j + 1 ≤ xs.length; omega), hyl, (by show ys.take i = fx x (xs.take (j + 1)); rw [hst]; exact hyt), (by show ys.drop (j + 1) = xs.drop (j + 1); exact V1 hyd (by omega))⟩ (by show xs.length - (j + 1) < xs.length - j; omega) ef (op (by repeat first | exact pn | refine pc 0 rfl ?_ | refine pc 1 rfl ?_))
   try simp only [cq] at c19
   refine Qx (tx (tx (bh (nn (sq ?_)))))
   obtain rfl : j = xs.length := by omega
   rw [List.take_length] at hyt
   refine rg (mv rfl rfl (mv rfl rfl (oP (Qaw oz (mA 0 rfl) oz Tryz.underlying50 ynm (by omega) (by omega)) rfl (oA (Wd (d := kI) (v0 := 0) oz (pA 0 rfl) Tryz.underlying50 ynm zI (show 0 < 1 from by decide) (by omega)) (pA 0 rfl) rfl rfl (fun _ _ => ?_)))))
   refine tn (nn (sq (rg (mv rfl rfl (mv rfl rfl (oA (Jh oz (pA 0 rfl) oz Tryz.underlying50 ynm (by omega) (by (simp; omega))) (pA 0 rfl) rfl rfl (fun v12_2 _ => ?_)))))))
   refine av rfl rfl (tn (nn (tR ?_)))
   exact Qi .ret (.inl rfl) rfl _ oz trivial (by rw [← hyt]; simp only [Int.toNat_natCast]; rw [Qeg (by omega)]; exact (by repeat first | exact pn | refine pc 0 rfl ?_))
/-- (*rhizome/net.Net).remove$1 -/
theorem Qrd (v : Value) (xs : List Int) (x : Int) (hm : xs.length ≤ 1000000) : Ct Tryz.prog 217 [IsV v, I64 x] ([Qh 3 kI v xs]) Value (fun u => IsV u) (fun u => [Qh 3 kI u (fx x xs)]) (fun _ => True) := by
 refine Qn Tryz.func217 rfl rfl ?_
 intro H w
 refine sq (rg (oA (Xf (d := kI) oz) pR rfl rfl (fun g0_0 _ => ?_)))
 refine ak rfl (tn (nn (sq (rg (mv rfl rfl (oP (Vc (Ws oz Qbv)) rfl (oA (aC (Qpt v xs g0_0 x (by omega)) yb2 (oc oz (oc oz oN)) (Yh 1 0 rfl rfl)) (Yh 1 0 rfl rfl) rfl rfl (fun v1_2 _ => ?_))))))))
 refine av rfl rfl (tn (nn (tR ?_)))
 exact Qi .ret (.inl rfl) rfl v1_2 oz trivial (by repeat first | exact pn | refine pc 0 rfl ?_)
/-- slices.Index[[]rhizome/api.Edge,rhizome/api.Edge] -/
theorem Qtr (es : List Ed) (e : Ed) (hm : es.length ≤ 1000000) : Ct Tryz.prog 223 [SlT kE es, kE.T e] ([]) Int (fun r => I64 r) (fun _ => []) (fun r => decide (0 ≤ r) = decide (e ∈ es)) := by
 refine Qn Tryz.func223 rfl rfl ?_
 intro H w
 refine sq (rg (oA (Xf (d := kE) oz) pR rfl rfl (fun g0_0 _ => ?_)))
 refine ak rfl (tn (nn (sq (sq (rg (mv rfl rfl (oP (pls oz Tryz.underlying26) rfl (oP (Qm ot) rfl (tn (nn (tb (Qt (σ := Nat) (e2 0 3 rfl (ec 7 rfl en)) (fun k => [(8, I64 (k : Int))]) (fun k => [Qb g0_0 42 kE e]) (fun k => k ≤ es.length ∧ e ∉ es.take k) (fun k => es.length - k) 0 ⟨Nat.zero_le _, by simp⟩ ?_ (op (by repeat first | exact pn | refine pc 0 rfl ?_)) ?_))))))))))))
 · exact (ec 8 rfl en)
 · rintro k ⟨hk, hno⟩
   refine sq (rg (oP (Q5 oz oz) rfl (tn (nn (sq (tc oz (fun c9 => ?_) (fun c9 => ?_)))))))
   · try simp only [cq] at c9
     refine sk (nn (sq (tb (sq ?_))))
     have hkl : k < es.length := by omega
     refine rg (mv rfl rfl (av rfl rfl (tn (nn (sq ?_)))))
     apply Xs (m := 5) (ns := [[(3, none)], [(0, none)], [(5, none)], [(12, some 1), (13, some 2)], [(14, some 3)]]) (by kernel_rfl) (by kernel_rfl) (Ts := [_, _, _, _, _]) rfl
     case hops =>
      exact ⟨rP (plv oz (mA 0 rfl) y16), rmv rfl, rmv rfl, rP (Qj oz oz Tryz.underlying26 y16 (by omega) (by omega)), rP (pL oz y16), trivial⟩
     case h =>
      refine oP (Qg9 Q4t oz oz) rfl (tn (nn (tc oz (fun c16 => ?_) (fun c16 => ?_))))
      · try simp only [cq] at c16
        refine sq (rg (mv rfl rfl (av rfl rfl (tn (nn (tR (Qw (tt (tt (Qw (tt ?_)))))))))))
        exact Qi .ret (.inl rfl) rfl (k : Int) oz (by rw [decide_eq_true (Q5d hkl c16), decide_eq_true (by omega)]) (by exact pn)
      try simp only [cq] at c16
      have hst := Qtp hkl hno c16
      refine sk (bn (nn (rg (oP (pad oz ot (by omega)) rfl (mv rfl rfl (tn (nn ?_)))))))
      exact tg (k + 1) ⟨by omega, hst⟩ (by omega) ef (op (by repeat first | exact pn | refine pc 0 rfl ?_))
   try simp only [cq] at c9
   refine Qx (tx (tx (bh (nn (sq ?_)))))
   obtain rfl : k = es.length := by omega
   rw [List.take_length] at hno
   refine rg (ak rfl (tn (nn (tR ?_))))
   exact Qi .ret (.inl rfl) rfl (-1) oz (by rw [decide_eq_false hno]; rfl) (by exact pn)
/-- slices.Contains[[]rhizome/api.Edge,rhizome/api.Edge] -/
theorem Qln (es : List Ed) (e : Ed) (hm : es.length ≤ 1000000) : Ct Tryz.prog 216 [SlT kE es, kE.T e] ([]) Unit (fun _ => Xe (decide (e ∈ es))) (fun _ => []) (fun _ => True) := by
 refine Qn Tryz.func216 rfl rfl ?_
 intro H w
 refine sq (rg (oA (Xf (d := kE) oz) pR rfl rfl (fun g0_0 _ => ?_)))
 refine ak rfl (tn (nn (sq (rg (mv rfl rfl (oP (plv oz (mA 0 rfl) y16) rfl (oA (aC (Qtr _ _ (by omega)) y7i (oc oz (oc oz oN)) pR) pR rfl rfl (fun r1_2 hr1_2 => ?_))))))))
 refine oP (Vi oz ot) rfl (av rfl rfl (tn (nn (tR ?_))))
 exact Qi .ret (.inl rfl) rfl () (OT.val oz (congrArg Value.bool (hr1_2))) trivial (by exact pn)
end Go.Proofs.YtklhdalppmjnaaaGreatDoor
namespace Go.Proofs.YtklhdalppmjnaaaGreatDoor
open Go Go.Gw Go.So Go.Tu Go.Jn Go.Nt
theorem Qyc {r s : Tp} {m f t : Nat} {p : Pr} (hl : Qc3 r.length m f t) (h : Kr f t r p = some s) : s.length ≤ r.length + 2 := by
 have h1 := ((Vh hl).1 h).1
 have q1 := hl.f1; have q2 := hl.t1; have q3 := hl.t2; have q4 := hl.m1; have q5 := hl.m2; have q6 := hl.m3; have q7 := hl.m4
 by_cases c1 : f < r.length
 · by_cases c2 : t < r.length
   · have := q4 c1 c2; omega
   have := q5 c1 (by have := q3 c1; omega); omega
 by_cases c2 : t ≤ r.length
 · have := q6 (by omega) c2; omega
 have := q7 (by omega) (by omega); omega
theorem Qts {os M : List Tp} {todo : List Lab} {t : Tp} (hin : ∀ t ∈ os, InT t ∧ t.length ≤ 22) (hn : todo.Nodup) (ht : t ∈ os) (hk : idB t ∈ todo) (h : ∀ u, u ∈ M ↔ u ∈ os ∧ idB u ∉ todo) (u : Tp) : u ∈ M ++ [t] ↔ u ∈ os ∧ idB u ∉ ers todo (idB t) := by
 rw [List.mem_append, List.mem_singleton, h, Qct hn]
 constructor
 · rintro (⟨h1, h2⟩ | rfl)
   · exact ⟨h1, fun h3 => h2 h3.2⟩
   exact ⟨ht, fun h3 => h3.1 rfl⟩
 rintro ⟨h1, h2⟩
 by_cases e : idB u = idB t
 · exact .inr (Uw (hin u h1).1 (hin t ht).1 e)
 exact .inl ⟨h1, fun h3 => h2 ⟨e, h3⟩⟩
theorem Qtt {os M : List Tp} (h : ∀ u, u ∈ M ↔ u ∈ os ∧ idB u ∉ ([] : List Lab)) : Jm M = Jm os := by
 refine Ji (Xj M).1 (Xj os).1 fun x => ?_
 rw [(Xj M).2, (Xj os).2, h]; simp

/-- (*rhizome/net.Net).look -/
theorem Q1z (n : NO) (m : AlM) (es : List Ed) (add : Bool) (hm : es.length ≤ 1000000) : Ct Tryz.prog 210 [AtT J7 (Y9 n), SlT kE es, Xe add] (AlI n m) Unit (fun _ => I64 (Ui (Qib m) add [] es)) (fun _ => AlI n m) (fun _ => True) := by
 refine Qn Tryz.func210 rfl rfl ?_
 intro H w
 refine sq (rg (ak rfl (tn (nn (sq (sq (rg (mv rfl rfl (oP (pls oz Tryz.underlying26) rfl (oP (Qm ot) rfl (tn (nn (tb (Qt (σ := Nat) (e4 0 1 2 9 rfl (ec 10 rfl en)) (fun k => [(11, I64 (k : Int))]) (fun k => AlI n m) (fun k => k ≤ es.length ∧ Ui (Qib m) add (es.take k) (es.drop k) = Ui (Qib m) add [] es) (fun k => es.length - k) 0 ⟨Nat.zero_le _, rfl⟩ ?_ (op pl) ?_))))))))))))))
 · exact (ec 11 rfl en)
 · rintro k ⟨hk, hin⟩
   refine sq (rg (oP (Q5 oz oz) rfl (tn (nn (sq (tc oz (fun c12 => ?_) (fun c12 => ?_)))))))
   · refine sk (nn (sq (tb (sq ?_))))
     have hkl : k < es.length := by simpa using c12
     obtain ⟨e, hee⟩ : ∃ e, at' es (k : Int) = e := ⟨_, rfl⟩
     have hst := Q1y (h := Qib m) (add := add) hkl
     rw [hee] at hst
     refine rg (mv rfl rfl (oP (Qj oz oz Tryz.underlying26 y16 (by omega) (by omega)) rfl (oP (pL oz y16) rfl (oA (Qz (zE)) pR rfl rfl (fun g3_3 _ => ?_)))))
     refine av rfl rfl (oA (asv oz oz (pA 0 rfl) y16) (pA 0 rfl) rfl rfl (fun _ _ => ?_))
     refine tn ?_
     rw [hee]
     refine nn (sq (sq (rg (mv rfl rfl (oP (Zf oz) rfl (mv rfl rfl (oG rfl rfl rfl (gm oz) (fun hg => by (have hg1 := hg.2; (try simp only [cq2] at hg1); exact Qm oz)) rfl ?_)))))))
     refine oG rfl rfl rfl (gm oz) (fun hg => by (have hg1 := hg.2; (try simp only [cq2] at hg1); exact plv oz (mA 0 rfl) y16)) rfl ?_
     refine Ug rfl rfl rfl (gm oz) (Kl (X := [_])) (fun hg => aC (Qpq n m e) ybd (oc (gu oz hg) (oc (gu oz hg) oN)) (Kl (X := [_]))) rfl (oG rfl rfl rfl (gm oz) (fun hg => by (have hg1 := hg.2; (try simp only [cq2] at hg1); exact Zf (gu oz hg))) rfl ?_)
     refine oP (Q2 oz oz) rfl (tn (nn (tc oz (fun c23 => ?_) (fun c23 => ?_))))
     · rw [if_pos c23] at hst
       exact sq (rg (ak rfl (tn (nn (tR (tt (Qw (tt (tt (Qw (tt (Qi .ret (.inl rfl) rfl () (OT.val oz (congrArg (Value.int _) (hst.symm.trans hin))) trivial (pd pl)))))))))))))
     rw [if_neg (by rw [c23]; decide)] at hst
     refine sk (nn (sq ?_))
     apply Qkj (p := 4) (Lf := fun c => cond c (Qb g3_3 42 kE e :: AlI n m) (Qb g3_3 42 kE e :: AlI n m)) (by kernel_rfl) (m := 11) (ns := [[(2, none)], [(24, some 0)], [(0, none), (25, some 1)], [(8, none), (25, some 1)], [(25, some 1), (26, some 2), (27, some 3)], [(25, some 1), (28, some 4)], [(29, some 5)], [(1, none), (30, some 6)], [(7, none), (30, some 6)], [(30, some 6), (31, some 7), (32, some 8)], [(8, none), (30, some 6)]]) (by kernel_rfl) (by kernel_rfl) (Ts := [_, _, _, _, _, _, _, _, _, _, _]) rfl
     case hops =>
      exact ⟨cAf (by kernel_rfl) fun _ => rw_ (rmv rfl), cAf (by kernel_rfl) fun _ => rw_ (rmv rfl), cAf (by kernel_rfl) fun _ => rw_ (rJ rfl fun hg hg1 => rmv rfl), cAf (by kernel_rfl) fun _ => rw_ (rJ rfl fun hg hg1 => rP (plv oz (mA 0 rfl) y16)), cAf (by kernel_rfl) fun _ => Qqo rfl rfl rfl (gm oz) (fun hg => by (have hg1 := hg.2; exact Qfi rfl (aC (Qpq n m e) ybd (oc (gu oz hg) (oc (gu oz hg) oN)) (Kl (X := [_]))) (Kl (X := [_])) (fun _ => (Kl (X := [_])).symm) (fun _ _ _ _ h => h))), cAt (by kernel_rfl) fun _ => rw_ (rP (Q2 oz oz)), cAt (by kernel_rfl) fun _ => rw_ (rmv rfl), cAt (by kernel_rfl) fun _ => rw_ (rJ rfl fun hg hg1 => rmv rfl), cAt (by kernel_rfl) fun _ => rw_ (rJ rfl fun hg hg1 => rmv rfl), cAt (by kernel_rfl) fun _ => rw_ (rJ rfl fun hg hg1 => rP (Qbu (gu oz hg) (gu oz hg) Tryz.underlying26 y16 (by omega) (by omega))), cAt (by kernel_rfl) fun _ => rw_ (rJ rfl fun hg hg1 => rP (plv oz (mA 0 rfl) y16)), trivial⟩
     case h =>
      refine Zw () rfl rfl rfl (gm oz) (fun hg => by (have hg1 := hg.2; (try simp only [cq2] at hg1); exact aC (Qln (es.take (Int.toNat (k : Int))) e (by rw [List.length_take]; omega)) yxr (oc (gu oz hg) (oc (gu oz hg) oN)) pR)) rfl (fun _ _ => ?_)
      refine oP (Zx oz oz) rfl (tn (nn (tc oz (fun c36 => ?_) (fun c36 => ?_))))
      · simp only [Int.toNat_natCast] at c36
        rw [if_pos c36] at hst
        exact sq (rg (ak rfl (tn (nn (tR (Qw (tt (tt (Qw (tt (Qi .ret (.inl rfl) rfl () (OT.val oz (congrArg (Value.int _) (hst.symm.trans hin))) trivial (pd pl))))))))))))
      simp only [Int.toNat_natCast] at c36
      rw [if_neg (by rw [c36]; decide)] at hst
      refine sk (bn (nn (rg (oP (pad oz ot (by omega)) rfl (mv rfl rfl (tn (nn ?_)))))))
      exact tg (k + 1) ⟨by omega, hst.symm.trans hin⟩ (by omega) ef (op (pd pl))
   refine Qx (tx (tx (bh (nn (sq ?_)))))
   obtain rfl : k = es.length := by simp only [decide_eq_false_iff_not] at c12; omega
   rw [Qya] at hin
   exact rg (ak rfl (tn (nn (tR (Qi .ret (.inl rfl) rfl () (OT.val oz (congrArg (Value.int _) (hin))) trivial pl)))))
/-- (*rhizome/net.Net).insert$1 -/
theorem Qn2 (n : NO) (k : Nat) (row : Tp) (x y : Int) (a : Atm) (g1 g2 g3 gn : Nat) (mm : Rw) (hk : k < n.v.2.2.2.1.length) (ha : at' n.v.2.2.2.1 (k : Int) = a) (hl : Qc3 row.length (nv n.v.2.2.2.1 (k + 1)) (ix (Qa n.v.2.2.2.1) a.1) (ix (Qa n.v.2.2.2.1) a.2.2)) (hr : row.length ≤ 900) : Ct Tryz.prog 78 [SlT kI row, I64 x, I64 y, IsV (pt g1 0), IsV (pt g2 0), IsV (pt g3 0)] ([Qb g1 78 (kpt J7) (some (Y9 n)), Qb g2 3 kI (k : Int), Qb g3 117 Q3 (mp gn), Qg gn encS kT.T mm]) Unit (fun _ => Yu) (fun _ => [Qb g1 78 (kpt J7) (some (Y9 n)), Qb g2 3 kI (k : Int), Qb g3 117 Q3 (mp gn), Qg gn encS kT.T (Qmm mm (Kr (ix (Qa n.v.2.2.2.1) a.1) (ix (Qa n.v.2.2.2.1) a.2.2) row (x, y)))]) (fun _ => True) := by
 refine Qn Tryz.func78 rfl rfl ?_
 intro H w
 refine sq (rg (oP (plv oz (mA 0 rfl) yve) rfl (oP (plv oz (mA 1 rfl) ynm) rfl (mv rfl rfl (mv rfl rfl (mv rfl rfl (oA (aC (Qx7 n k row x y a hk ha hl (by omega)) yr2 (oc oz (oc oz (oc oz (oc oz (oc oz oN))))) pR) pR rfl rfl (fun _ _ => ?_))))))))
 refine mv rfl rfl (oP (Qd oz rfl) rfl (oP (Qd oz rfl) rfl (av rfl rfl (av rfl rfl (tn (nn (sq (rg (mv rfl rfl (tn (nn (tc oz (fun c20 => ?_) (fun c20 => ?_)))))))))))))
 · obtain ⟨s, hs⟩ : ∃ s, (Kr (ix (Qa n.v.2.2.2.1) a.1) (ix (Qa n.v.2.2.2.1) a.2.2) row (x, y)) = some s := Option.isSome_iff_exists.1 c20
   have hsl := Qyc hl hs
   rw [hs]
   apply Xs (m := 4) (ns := [[(5, none)], [(9, none)], [(22, some 1)], [(9, none)]]) (by kernel_rfl) (by kernel_rfl) (Ts := [_, _, _, _]) rfl
   case hops =>
    exact ⟨rP (X9 oz (mA 2 rfl) y3m), rmv rfl, Zc rfl (aC (Q2t s (by omega)) yfk (oc oz oN) pR) (fun _ _ _ _ h => h), rmv rfl, trivial⟩
   case h =>
    refine oA (X4 (v := s) (V := kT.T) mkS Tryz.underlying117 oz (pA 3 rfl) oz oz) (pA 3 rfl) rfl rfl (fun _ _ => ?_)
    refine tn ?_
    exact U7 .normal (.inr rfl) rfl () (fun _ => trivial) trivial (by repeat first | exact pn | refine pc 0 rfl ?_ | refine pc 1 rfl ?_)
 · have hs : (Kr (ix (Qa n.v.2.2.2.1) a.1) (ix (Qa n.v.2.2.2.1) a.2.2) row (x, y)) = none := by
    cases hx : (Kr (ix (Qa n.v.2.2.2.1) a.1) (ix (Qa n.v.2.2.2.1) a.2.2) row (x, y)) with
    | none => rfl
    | some s => rw [hx] at c20; cases c20
   refine sk ?_
   exact U7 .normal (.inr rfl) rfl () (fun _ => trivial) trivial (by rw [hs]; exact (by repeat first | exact pn | refine pc 0 rfl ?_))
/-- (*rhizome/net.Net).Read -/
theorem Qii (n : NO) (ct : List (Lab × Int)) (os : List Tp) (ho : ∀ s, s ∈ keys ct ↔ ∃ t ∈ os, idB t = s) (hin : ∀ t ∈ os, InT t ∧ t.length ≤ 22) (hm : ct.length ≤ 100000) : Ct Tryz.prog 208 [AtT J7 (Y9 n)] ([Qg n.gc encS kI.T ct]) Unit (fun _ => SlT kT (Jm os)) (fun _ => [Qg n.gc encS kI.T ct]) (fun _ => True) := by
 refine Qn Tryz.func208 rfl rfl ?_
 intro H w
 refine sq (rg (ak rfl (tn (nn (sq (rg (ak rfl (tn (nn (sq (sq (W7 (R := []) (Qq 0 rfl) fun s0 => (rg (mv rfl rfl (oP (Qp oz) rfl (oP (Qr oz ln7 yw2) rfl (oP (Q8 oz ydm) rfl (oA (Z0 Tryz.underlying112 oz (mA 0 rfl)) pR rfl rfl (fun r2_4 hr2_4 => ?_)))))))))))))))))))
 refine tn (Xg 51 kT (nn (tb (Qt (σ := IS × List Lab × Option Lab × Value × List Tp) (ec 14 rfl en) (fun s => [(3, IsV s.2.2.2.1)]) (fun s => [K4 r2_4.1 n.gc s.1, Ju n.gc encS kI.T ct s0, Qh 51 kT s.2.2.2.1 s.2.2.2.2]) (fun s => Jk ct s0 s.1 s.2.1 s.2.2.1 ∧ (∀ u, u ∈ s.2.2.2.2 ↔ u ∈ os ∧ idB u ∉ s.2.1) ∧ s.2.2.2.2.length + s.2.1.length ≤ ct.length) (fun s => s.2.1.length) (r2_4.2, keys ct, none, Qo, []) ⟨hr2_4, fun u => ⟨fun h => (by cases h), fun h => absurd ((ho _).2 ⟨u, h.1, rfl⟩) h.2⟩, by simp [keys]⟩ ?_ (op (by repeat first | exact pn | refine pc 0 rfl ?_ | refine pc 1 rfl ?_)) ?_))))
 · exact (ec 3 rfl en)
 rintro ⟨i, todo, cur, u, M⟩ ⟨hok, hmem, hlen⟩
 dsimp only at hok hmem hlen ⊢
 refine sq (rg (oA (Z1 oz (mA 1 rfl) (pA 0 rfl) (by assumption)) (pA 0 rfl) rfl rfl (fun q3_0 hq3_0 => ?_)))
 refine oP (J6 oz) rfl (tn (nn (sq (tc oz (fun c16 => ?_) (fun c16 => ?_)))))
 · obtain ⟨i2, o2⟩ := q3_0
   obtain ⟨key, rfl⟩ : ∃ k, o2 = some k := by
    cases o2 with
    | none => exact Bool.noConfusion c16
    | some k => exact ⟨k, rfl⟩
   dsimp only at hq3_0 c16 ⊢
   obtain ⟨hkt, hok2⟩ := hq3_0
   obtain ⟨bv, hbv⟩ := Qbc (hok.sub _ hkt)
   have hle : (ers todo key).length = todo.length - 1 := Qa6 hkt
   have hpos := List.length_pos_of_mem hkt
   obtain ⟨t, hto, rfl⟩ := (ho key).1 (hok.sub _ hkt)
   obtain ⟨htn, htl⟩ := hin t hto
   have hil := W8 t
   refine sk (nn (tb (sq (rg (oP (Ye (D := IsV _) oz (mA 0 rfl) (mA 1 rfl) (by assumption) (by assumption) (fun H => rfl)) rfl ?_)))))
   refine oP (Qd oz rfl) rfl (av rfl rfl (tn (nn (sq (rg (mv rfl rfl (oA (Qi4 oz Tryz.underlying9 Tryz.underlying185 Tryz.underlying5 (by (simp [maxLen]; omega))) pR rfl rfl (fun _ _ => ?_))))))))
   refine oA (aC (Qtm t htl htn) y6z (oc oz oN) pR) pR rfl rfl (fun _ _ => ?_)
   refine mv rfl rfl (oP (Qd oz rfl) rfl (oP (Qd oz rfl) rfl (av rfl rfl (av rfl rfl (tn (nn (sq (rg (ak rfl (tn (Xg 3 kI (nn (sq (sq (rg (mv rfl rfl (oP (pls oz Tryz.underlying193) rfl (oP (Qm ot) rfl (tn (nn (tb (Qt (σ := Nat × Value) (e4 3 14 25 26 rfl en) (fun s => [(27, I64 (s.1 : Int)), (7, IsV s.2)]) (fun s => [Qh 3 kI s.2 (t.take s.1), K4 r2_4.1 n.gc i2, Ju n.gc encS kI.T ct s0, Qh 51 kT u M]) (fun s => s.1 ≤ t.length) (fun s => t.length - s.1) (0, Qo) (Nat.zero_le _) ?_ (op (by repeat first | exact pn | refine pc 0 rfl ?_)) ?_))))))))))))))))))))))
   · exact (e2 27 7 rfl en)
   rintro ⟨i, u2⟩ hi
   dsimp only at hi ⊢
   refine sq (rg (oP (Q5 oz oz) rfl (tn (nn (sq (tc oz (fun c28 => ?_) (fun c28 => ?_)))))))
   · refine sk (nn (sq (tb (sq ?_))))
     have hit : i < t.length := by simpa using c28
     have htk : (t.take i).length = i := by rw [List.length_take]; omega
     have hst : t.take (i + 1) = t.take i ++ [at' t (i : Int)] := by rw [List.take_succ_eq_append_getElem hit, Q1 hit]
     refine rg (oP (Qj oz oz Tryz.underlying193 y1x (by omega) (by (simp; omega))) rfl (oP (pL oz y1x) rfl (oA (Qz (zPa)) pR rfl rfl (fun g9_2 _ => ?_))))
     refine oA (asv oz oz (pA 0 rfl) y1x) (pA 0 rfl) rfl rfl (fun _ _ => ?_)
     refine tn ?_
     rw [Qeu hit]
     refine nn (rg (mv rfl rfl (oP (pf oz yzt) rfl (oP (plb oz (mA 0 rfl) lq2 ynm) rfl (oA (Q7 (d := kI) (v0 := 0) ye1 ynm zI (show 1 * 1 ≤ 16777216 from by decide) (by decide) (Qv rfl rfl (by decide) oz Qc)) pR rfl rfl (fun _ _ => ?_))))))
     refine oA (Q0 oz (pA 1 rfl) oz ye1 (by (simp; omega)) (by (simp [maxLen]; omega))) (pA 1 rfl) rfl rfl (fun v10_4 _ => ?_)
     refine av rfl rfl (tn (bn (nn (rg (oP (pad oz ot (by omega)) rfl (mv rfl rfl (tn (nn ?_))))))))
     exact tg (i + 1, v10_4) (by show i + 1 ≤ t.length; omega) (by show t.length - (i + 1) < t.length - i; omega) ef (op (by rw [hst]; exact (by repeat first | exact pn | refine pc 0 rfl ?_ | refine pc 1 rfl ?_)))
   refine Qx (tx (tx (bh (nn ?_))))
   obtain rfl : i = t.length := by simp only [List.length_map, decide_eq_false_iff_not] at c28; omega
   rw [List.take_length]
   refine Xh (Qq 0 rfl) 7 oz (rg (mv rfl rfl (mv rfl rfl (oA (Q7 (d := kT) (v0 := []) yiy yko zT (show 1 * 1 ≤ 16777216 from by decide) (by decide) (Qv rfl rfl (by decide) oz Qc)) pR rfl rfl (fun _ _ => ?_)))))
   refine oA (Q0 oz (pA 2 rfl) oz yiy (by (simp; omega)) (by (simp [maxLen]; omega))) (pA 2 rfl) rfl rfl (fun v12_3 _ => ?_)
   refine av rfl rfl (tn (bn (nn ?_)))
   exact tg (i2, ers todo (idB t), some (idB t), v12_3, M ++ [t]) ⟨hok2, Qts hin hok.nd hto hkt hmem, (by show (M ++ [t]).length + (ers todo (idB t)).length ≤ _; rw [List.length_append, List.length_singleton, hle]; omega)⟩ (by show (ers todo (idB t)).length < todo.length; omega) ef (op (by repeat first | exact pn | refine pc 0 rfl ?_ | refine pc 1 rfl ?_))
 obtain ⟨i2, o2⟩ := q3_0
 obtain rfl : o2 = none := by
  cases o2 with
  | none => rfl
  | some k => exact Bool.noConfusion c16
 dsimp only at hq3_0 ⊢
 obtain ⟨rfl, hok2⟩ := hq3_0
 refine Uv (Qq 1 rfl) (Xh (Qq 2 rfl) 3 oz ?_)
 have hsm : Small M := ⟨by omega, fun u hu => by have := (hin u ((hmem u).1 hu).1).2; omega⟩
 refine Qx (tx (tx (bh (nn (sq (rg (mv rfl rfl (oA (Zo (Qdt (K0 := noK) (n0 := 0) _ hsm) J1 y07 (oc oz oN) pR) pR rfl rfl (fun _ _ => ?_)))))))))
 refine av rfl rfl (tn (nn (tR ?_)))
 exact Qi .ret (.inl rfl) rfl () (OT.eq (OT.unfr2 oz) (congrArg (SlT kT) (Qtt hmem))) trivial (by repeat first | exact pn | refine pc 0 rfl ?_)
end Go.Proofs.YtklhdalppmjnaaaGreatDoor
namespace Go.Nt
open Go Go.Gw Go.Tu Go.Jn
section
variable {al : List Atm} {E E' : List Ed} {k : Nat} {e : Ed}
theorem Qv5 {α β : Type} {L : List α} {M : List β} : (L.flatMap fun r => M.map fun x => (r, x)).length = L.length * M.length := by
 induction L with
 | nil => simp
 | cons a L ih => rw [List.flatMap_cons, List.length_append, ih, List.length_map, List.length_cons, Nat.add_mul]; omega
theorem Qo6 {α β : Type} {L : List α} {M : List β} (hL : L.Nodup) (hM : M.Nodup) : (L.flatMap fun r => M.map fun x => (r, x)).Nodup := by
 refine Qdi (fun r _ => ?_) (hL.imp fun {a b} hne x hx hy => ?_)
 · exact List.Pairwise.map _ (fun a b h e => h (by simpa using e)) hM
 obtain ⟨u, _, rfl⟩ := List.mem_map.1 hx
 obtain ⟨v, _, h⟩ := List.mem_map.1 hy
 exact hne (by simpa using (congrArg Prod.fst h).symm)
theorem Qmq (hE : E.Nodup) : ∀ (k : Nat), k ≤ al.length → (Zr (Za E) (Qa al) (al.take k)).length ≤ E.length ^ k
 | 0, _ => by simp [Zr]
 | k + 1, hk => by
  have hk' : k < al.length := by omega
  have ih := Qmq hE k (by omega)
  have hn := Wx (al := al) (E := E) (k := k + 1)
  have hl := Qdn (al := al) hk' rfl
  let f : Tp → Tp × Ed := fun s => (s.take (nv al k), (s.getD (ix (Qa al) al[k].1) 0, al[k].2.1, s.getD (ix (Qa al) al[k].2.2) 0))
  have hf : ∀ s ∈ Zr (Za E) (Qa al) (al.take (k + 1)), ∀ t ∈ Zr (Za E) (Qa al) (al.take (k + 1)), f s = f t → s = t := fun s hs t ht he => by
   obtain ⟨a1, a2, a3⟩ := (Jv hk' rfl).1 (Kk.1 hs)
   obtain ⟨b1, b2, b3⟩ := (Jv hk' rfl).1 (Kk.1 ht)
   have he1 : s.take (nv al k) = t.take (nv al k) := congrArg Prod.fst he
   have he2 := congrArg Prod.snd he
   have e2 : s.getD (ix (Qa al) al[k].1) 0 = t.getD (ix (Qa al) al[k].1) 0 := congrArg Prod.fst he2
   have e3 : s.getD (ix (Qa al) al[k].2.2) 0 = t.getD (ix (Qa al) al[k].2.2) 0 := congrArg (fun x : Ed => x.2.2) he2
   have hl2 : Qc3 (s.take (nv al k)).length (nv al (k + 1)) (ix (Qa al) al[k].1) (ix (Qa al) al[k].2.2) := by rw [a2.1]; exact hl
   have g1 := (Vh (s := s) (p := (s.getD (ix (Qa al) al[k].1) 0, s.getD (ix (Qa al) al[k].2.2) 0)) hl2).2 ⟨a1, by rw [a2.1], rfl, rfl⟩
   have g2 := (Vh (s := t) (p := (s.getD (ix (Qa al) al[k].1) 0, s.getD (ix (Qa al) al[k].2.2) 0)) hl2).2 ⟨b1, by rw [a2.1, he1], e2.symm, e3.symm⟩
   exact Option.some.inj (g1.symm.trans g2)
  have h1 := Qcq hn hf
  have h2 := Qcr h1 (m := (Zr (Za E) (Qa al) (al.take k)).flatMap fun r => E.map fun x => (r, x)) (fun x hx => by
   obtain ⟨s, hs, rfl⟩ := List.mem_map.1 hx
   obtain ⟨a1, a2, a3⟩ := (Jv hk' rfl).1 (Kk.1 hs)
   exact List.mem_flatMap.2 ⟨_, Kk.2 a2, List.mem_map.2 ⟨_, a3, rfl⟩⟩) (Qo6 Wx hE)
  rw [List.length_map, Qv5] at h2
  rw [Nat.pow_succ]
  exact Nat.le_trans h2 (Nat.mul_le_mul_right _ ih)
theorem Qso {n k : Nat} (hn : n ≤ 100) (hk : k ≤ 8) : n ^ k ≤ 10000000000000000 := by
 have h1 : n ^ k ≤ 100 ^ k := Nat.pow_le_pow_left hn k
 have h2 : (100 : Nat) ^ k ≤ 100 ^ 8 := Nat.pow_le_pow_right (by decide) hk
 have h3 : (100 : Nat) ^ 8 = 10000000000000000 := by decide
 omega
def GrS (al : List Atm) (a : Atm) (E' : List Ed) (S : Tp → Prop) (s : Tp) : Prop := ∃ t p, S t ∧ (p.1, a.2.1, p.2) ∈ E' ∧ Kr (ix (Qa al) a.1) (ix (Qa al) a.2.2) t p = some s
def G1 (al : List Atm) (a : Atm) (t : Tp) (p : Pr) : Option Tp := Kr (ix (Qa al) a.1) (ix (Qa al) a.2.2) t p
theorem GrS.in_ {a : Atm} {S : Tp → Prop} {s : Tp} (hE : ∀ e ∈ E', inI e.1 ∧ inI e.2.2) (hk : k < al.length) (ha : al[k] = a) (hS : ∀ t, S t → RwK al E' k t) (h : GrS al a E' S s) : RwK al E' (k + 1) s := by
 obtain ⟨t, p, h1, h2, h3⟩ := h
 have hr := hS t h1
 have hl := Qdn hk ha
 obtain ⟨g1, g2, g3, g4⟩ := (Vh (r := t) (by rw [hr.1]; exact hl)).1 h3
 rw [hr.1] at g2
 exact (Jv hk ha).2 ⟨g1, by rw [g2]; exact hr, by rw [g3, g4]; exact h2⟩
theorem Qqr {m : List (Lab × Tp)} {o : Option Tp} {R : Tp → Prop} (h : Xk m R) (hi : ∀ s, o = some s → InT s) (hR : ∀ u, R u → InT u) : Xk (Qmm m o) (fun u => R u ∨ o = some u) := by
 cases o with
 | none => exact h.congr fun u => by simp
 | some s => exact (h.put (hi s rfl) hR).congr fun u => by simp [eq_comm]
end
end Go.Nt
namespace Go.Gw
open Go
theorem Qey {C : Cx} {Γ : Env} {L : List It} {o : Oper} {ops : Array Oper} {Q : Exit → Act → World → Prop} {rest : List Oper} {J : List It} {ρ : Type} {T : ρ → Ty} {I : ρ → List It} {φ : ρ → Prop} (X Y : List It) (hL : L = X ++ (Y ++ J)) (hp : Yp C Γ L o J ρ T I φ) (hg : o.guard = none) (hd : Wb C.N o.dst = true)
 (h : ∀ r, φ r → Tr C (upd o.dst (T r) Γ) (X ++ (Y ++ I r)) (wpList C.P ops Q rest)) : Tr C Γ L (wpList C.P ops Q (o :: rest)) := by
 subst hL
 exact Ku hp Wz hg hd fun r hr => Q4 Wz.symm (h r hr)
theorem Qez {L : List It} (i j k l : Nat) {x y z w : It} (h : L[i]? = some x) (h' : (L.eraseIdx i)[j]? = some y) (h2 : ((L.eraseIdx i).eraseIdx j)[k]? = some z) (h3 : (((L.eraseIdx i).eraseIdx j).eraseIdx k)[l]? = some w) : L.Perm ([x, y, z, w] ++ (((L.eraseIdx i).eraseIdx j).eraseIdx k).eraseIdx l) := (Qq i h).trans (((Qq j h').trans (((Qq k h2).trans ((Qq l h3).cons z)).cons y)).cons x)
end Go.Gw
namespace Go.Proofs.YtklhdalppmjnaaaGreatDoor
open Go Go.Gw Go.So Go.Tu Go.Jn Go.Nt
def Qbk (m : AlM) (lab : Lab) (x : Al) (u v : Int) : List It := (dlk u x.frm).map frI ++ ((dlk v x.to).map frI ++ Yf (dlk lab m))
theorem Qv6 {m : AlM} {lab : Lab} {x : Al} (h : lkp lab m = some x) : (Yf m).Perm (Qg x.gh Zu Xd.T x.has :: Qg x.gf encI IsV (hdV x.frm) :: Qg x.gt encI IsV (hdV x.to) :: (x.frm.map frI ++ (x.to.map frI ++ Yf (dlk lab m)))) := by
 have := Qv4 h
 rwa [List.append_assoc] at this
section
variable {C : Cx} {Γ : Env} {X Y : List It} {φ : Act → World → Prop}
theorem Qqs {a b c d e f : It} {X Y Z : List It} : (a :: b :: c :: d :: e :: f :: (X ++ (Y ++ Z))).Perm (X ++ (Y ++ (d :: e :: f :: a :: b :: c :: Z))) := by
 have h1 : ([a, b, c, d, e, f] ++ (X ++ Y)).Perm ((X ++ Y) ++ [a, b, c, d, e, f]) := List.perm_append_comm
 have h2 : ([a, b, c] ++ [d, e, f]).Perm ([d, e, f] ++ [a, b, c]) := List.perm_append_comm
 have h3 := (h1.trans (h2.append_left (X ++ Y))).append_right Z
 simpa only [List.append_assoc, List.cons_append, List.nil_append] using h3
theorem Qmr (u v : Int) {n : NO} {m : AlM} {lab : Lab} {x : Al} (h : lkp lab m = some x)
 (ht : Tr C Γ (Qg x.gh Zu Xd.T x.has :: Qg x.gf encI IsV (hdV x.frm) :: Qg x.gt encI IsV (hdV x.to) :: Qh 3 kI ((lkp u (hdV x.frm)).getD Qo) ((lkp u x.frm).getD (Qo, [])).2 :: Qh 3 kI ((lkp v (hdV x.to)).getD Qo) ((lkp v x.to).getD (Qo, [])).2 :: Qg n.ga encS (kpt kAl).T (Zn m) :: (X ++ (Y ++ Qbk m lab x u v))) φ) : Tr C Γ (X ++ (Y ++ AlI n m)) φ := by
 have h1 := Qv6 h
 have h2 : (X ++ (Y ++ AlI n m)).Perm ((X ++ (Y ++ (Qg n.ga encS (kpt kAl).T (Zn m) :: Qg x.gh Zu Xd.T x.has :: Qg x.gf encI IsV (hdV x.frm) :: Qg x.gt encI IsV (hdV x.to) :: []))) ++ (x.frm.map frI ++ (x.to.map frI ++ Yf (dlk lab m)))) := by
  have := ((h1.cons (Qg n.ga encS (kpt kAl).T (Zn m))).append_left Y).append_left X
  unfold AlI
  simpa only [List.append_assoc, List.cons_append, List.nil_append] using this
 refine Q4 h2 (Qex u (List.Perm.refl _) ?_)
 rw [← List.cons_append, ← List.append_assoc]
 refine Qex v (B := Yf (dlk lab m)) (List.Perm.refl _) (Q4 ?_ ht)
 unfold Qbk
 have h3 := (Qqs (a := Qg x.gh Zu Xd.T x.has) (b := Qg x.gf encI IsV (hdV x.frm)) (c := Qg x.gt encI IsV (hdV x.to)) (d := Qh 3 kI ((lkp u (hdV x.frm)).getD Qo) ((lkp u x.frm).getD (Qo, [])).2) (e := Qh 3 kI ((lkp v (hdV x.to)).getD Qo) ((lkp v x.to).getD (Qo, [])).2) (f := Qg n.ga encS (kpt kAl).T (Zn m)) (X := X) (Y := Y) (Z := (dlk u x.frm).map frI ++ ((dlk v x.to).map frI ++ Yf (dlk lab m)))).symm
 refine List.Perm.trans ?_ h3
 simp only [List.append_assoc, List.cons_append, List.nil_append]
 have e1 : ∀ (a b c d e f : It) (Z : List It), (e :: d :: (X ++ (Y ++ (f :: a :: b :: c :: Z)))).Perm (X ++ (Y ++ (d :: e :: f :: a :: b :: c :: Z))) := fun a b c d e f Z => by
  have h1 : ([e, d] ++ (X ++ Y)).Perm ((X ++ Y) ++ [d, e]) := (List.Perm.append_right _ (List.Perm.swap _ _ _)).trans List.perm_append_comm
  have := h1.append_right (f :: a :: b :: c :: Z)
  simpa only [List.append_assoc, List.cons_append, List.nil_append] using this
 exact e1 _ _ _ _ _ _ _
end
theorem Qqt {u v : Int} {n : NO} {m : AlM} {lab : Lab} {x : Al} {X Y : List It} {fv tv : Value} {fl tl : List Int} {has : List (Pr × Bool)} (h : lkp lab m = some x) :
 (Qg x.gh Zu Xd.T has :: Qg x.gf encI IsV (ptk u fv (hdV x.frm)) :: Qg x.gt encI IsV (ptk v tv (hdV x.to)) :: Qh 3 kI fv fl :: Qh 3 kI tv tl :: Qg n.ga encS (kpt kAl).T (Zn m) :: (X ++ (Y ++ Qbk m lab x u v))).Perm
  (X ++ (Y ++ AlI n (ptk lab { x with frm := ptk u (fv, fl) x.frm, to := ptk v (tv, tl) x.to, has := has } m))) := by
 refine Qqs.trans (List.Perm.append_left X (List.Perm.append_left Y ?_))
 unfold AlI Qbk
 rw [Qft, show ptA ({ x with frm := ptk u (fv, fl) x.frm, to := ptk v (tv, tl) x.to, has := has } : Al) = ptA x from rfl]
 have hs : ptk lab (some (ptA x)) (Zn m) = Zn m := Qem (by unfold Zn; rw [W5 (fun a : Al => some (ptA a)), h]; rfl)
 rw [hs]
 refine List.Perm.trans ?_ (List.Perm.cons _ Qfu)
 unfold alR
 rw [Qco, Qco]
 show List.Perm _ (Qg n.ga encS (kpt kAl).T (Zn m) :: (Qg x.gf encI IsV (ptk u fv (hdV x.frm)) :: Qg x.gt encI IsV (ptk v tv (hdV x.to)) :: Qg x.gh Zu Xd.T has :: ((ptk u (fv, fl) x.frm).map frI ++ (ptk v (tv, tl) x.to).map frI) ++ Yf (dlk lab m)))
 have h1 := Qb2 (n := u) (x := (fv, fl)) (m := x.frm)
 have h2 := Qb2 (n := v) (x := (tv, tl)) (m := x.to)
 have h3 : ((ptk u (fv, fl) x.frm).map frI ++ (ptk v (tv, tl) x.to).map frI ++ Yf (dlk lab m)).Perm (Qh 3 kI fv fl :: Qh 3 kI tv tl :: ((dlk u x.frm).map frI ++ ((dlk v x.to).map frI ++ Yf (dlk lab m)))) := by
  refine ((h1.append h2).append_right _).trans ?_
  have h4 : ((dlk u x.frm).map frI ++ [Qh 3 kI tv tl]).Perm ([Qh 3 kI tv tl] ++ (dlk u x.frm).map frI) := List.perm_append_comm
  have := (h4.append_right ((dlk v x.to).map frI ++ Yf (dlk lab m))).cons (Qh 3 kI fv fl)
  simpa only [List.append_assoc, List.cons_append, List.nil_append] using this
 have h5 : ∀ (a b c d e f : It) (Z W : List It), W.Perm (d :: e :: Z) → (d :: e :: f :: a :: b :: c :: Z).Perm (f :: b :: c :: a :: W) := fun a b c d e f Z W hW => by
  refine List.Perm.trans ?_ (((((hW.symm.cons a).cons c).cons b).cons f))
  have h6 : ([d, e] ++ [f, a, b, c]).Perm ([f, a, b, c] ++ [d, e]) := List.perm_append_comm
  have h7 : ([a] ++ [b, c]).Perm ([b, c] ++ [a]) := List.perm_append_comm
  have h8 := ((h7.append_right [d, e]).cons f)
  have := (h6.trans h8).append_right Z
  simpa only [List.append_assoc, List.cons_append, List.nil_append] using this
 exact h5 _ _ _ _ _ _ _ _ h3
structure Qb6 (E : List Ed) (lab : Lab) (x : Al) : Prop where
 f : ∀ u v, v ∈ ((lkp u x.frm).getD (Qo, [])).2 ↔ (u, lab, v) ∈ E
 fn : ∀ u, ((lkp u x.frm).getD (Qo, [])).2.Nodup
 t : ∀ u v, u ∈ ((lkp v x.to).getD (Qo, [])).2 ↔ (u, lab, v) ∈ E
 tn : ∀ v, ((lkp v x.to).getD (Qo, [])).2.Nodup
 h : ∀ p, p ∈ keys x.has ↔ (p.1, lab, p.2) ∈ E
 h1 : ∀ p b, lkp p x.has = some b → b = true
 hn : (keys x.has).Nodup
theorem Qb6.b {E : List Ed} {lab : Lab} {x : Al} (h : Qb6 E lab x) (hE : E.Nodup) (hm : E.length ≤ 1000000) : AlB x where
 f := fun u => by
  have h1 := Qcq (f := fun v : Int => (u, lab, v)) (h.fn u) fun a _ b _ e => congrArg (fun x : Ed => x.2.2) e
  have := Qcr h1 (m := E) (fun e he => by obtain ⟨v, hv, rfl⟩ := List.mem_map.1 he; exact (h.f u v).1 hv) hE
  rw [List.length_map] at this; omega
 t := fun v => by
  have h1 := Qcq (f := fun u : Int => (u, lab, v)) (h.tn v) fun a _ b _ e => congrArg (fun x : Ed => x.1) e
  have := Qcr h1 (m := E) (fun e he => by obtain ⟨u, hu, rfl⟩ := List.mem_map.1 he; exact (h.t u v).1 hu) hE
  rw [List.length_map] at this; omega
 h := by
  have h1 := Qcq (f := fun p : Pr => ((p.1, lab, p.2) : Ed)) h.hn fun a _ b _ e => Prod.ext (congrArg (fun x : Ed => x.1) e) (congrArg (fun x : Ed => x.2.2) e)
  have := Qcr h1 (m := E) (fun e he => by obtain ⟨p, hp, rfl⟩ := List.mem_map.1 he; exact (h.h p).1 hp) hE
  rw [List.length_map] at this
  unfold keys at this; rw [List.length_map] at this; omega
structure Kn (E : List Ed) (atoms : List Atm) (al : AlM) : Prop where
 nd : E.Nodup
 inE : ∀ e ∈ E, inI e.1 ∧ inI e.2.2
 some_ : ∀ lab x, lkp lab al = some x → Qb6 E lab x
 none_ : ∀ lab, lkp lab al = none → ∀ e ∈ E, e.2.1 ≠ lab
 lab : ∀ a ∈ atoms, (lkp a.2.1 al).isSome = true
structure Jq (n : NO) (al : AlM) (lv : List Rw) (ct : List (Lab × Int)) (E : List Ed) : Prop where
 als : Kn E n.v.2.2.2.1 al
 gl : n.gl.length = n.v.2.2.2.1.length + 1
 lvl : lv.length = n.v.2.2.2.1.length + 1
 rows : ∀ k, k ≤ n.v.2.2.2.1.length → Xk (lv.getD k []) (RwK n.v.2.2.2.1 E k)
 cnt : Y7 ct (fun r => idB (proj (Qa n.v.2.2.2.1) n.v.2.2.1 r)) ((lv.getD n.v.2.2.2.1.length []).map Prod.snd)
section
variable {E : List Ed} {atoms : List Atm} {al q : AlM} {lab : Lab} {x : Al} {e : Ed}
theorem Qv7 {gf gt gh : Nat} (h : ∀ e ∈ E, e.2.1 ≠ lab) : Qb6 E lab ⟨gf, gt, gh, [], [], []⟩ where
 f := fun u v => ⟨fun h => (by simp [lkp] at h), fun h' => absurd rfl (h _ h')⟩
 fn := fun u => by simp [lkp]
 t := fun u v => ⟨fun h => (by simp [lkp] at h), fun h' => absurd rfl (h _ h')⟩
 tn := fun u => by simp [lkp]
 h := fun p => ⟨fun h => (by simp [keys] at h), fun h' => absurd rfl (h _ h')⟩
 h1 := fun p b h => by simp [lkp] at h
 hn := List.nodup_nil
theorem Kn.alpha (h : Kn E atoms al) (hq : Qfv al lab q) : Kn E atoms q := by
 obtain ⟨h1, rfl | ⟨h2, gf, gt, gh, rfl⟩⟩ := hq
 · exact h
 refine ⟨h.nd, h.inE, fun l y hy => ?_, fun l hl => ?_, fun a ha => ?_⟩
 · rw [Xl] at hy
   by_cases e : lab = l
   · rw [if_pos e] at hy; cases hy; subst e; exact Qv7 (h.none_ _ h2)
   rw [if_neg e] at hy; exact h.some_ l y hy
 · rw [Xl] at hl
   by_cases e : lab = l
   · rw [if_pos e] at hl; cases hl
   rw [if_neg e] at hl; exact h.none_ l hl
 rw [Xl]
 split
 · rfl
 exact h.lab a ha
theorem Kn.has (h : Kn E atoms al) (e : Ed) : Qib al e = decide (e ∈ E) := by
 unfold Qib
 cases hl : lkp e.2.1 al with
 | none => exact (decide_eq_false fun he => h.none_ _ hl e he rfl).symm
 | some x =>
  have hx := h.some_ _ _ hl
  show (lkp (e.1, e.2.2) x.has).getD false = _
  cases hp : lkp (e.1, e.2.2) x.has with
  | none => exact (decide_eq_false fun he => Xx.1 hp ((hx.h _).2 he)).symm
  | some b =>
   rw [hx.h1 _ _ hp]
   refine (decide_eq_true ((hx.h (e.1, e.2.2)).1 ?_)).symm
   exact List.mem_map.2 ⟨_, Qd7 hp, rfl⟩
theorem Ux {n u : Int} {y : Value × List Int} {m : List Fr} : ((lkp u (ptk n y m)).getD (Qo, [])).2 = if n = u then y.2 else ((lkp u m).getD (Qo, [])).2 := by
 rw [Xl]; split <;> rfl
theorem Qb6.come (h : Qb6 E e.2.1 x) (hn : e ∉ E) {fv tv : Value} : Qb6 (E ++ [e]) e.2.1 { x with frm := ptk e.1 (fv, ((lkp e.1 x.frm).getD (Qo, [])).2 ++ [e.2.2]) x.frm, to := ptk e.2.2 (tv, ((lkp e.2.2 x.to).getD (Qo, [])).2 ++ [e.1]) x.to, has := ptk (e.1, e.2.2) true x.has } where
 f := fun u v => by
  show v ∈ ((lkp u (ptk e.1 _ x.frm)).getD (Qo, [])).2 ↔ _
  rw [Ux, List.mem_append, List.mem_singleton]
  by_cases c : e.1 = u
  · rw [if_pos c, List.mem_append, List.mem_singleton, h.f, c]
    constructor
    · rintro (h1 | h1)
      · exact .inl h1
      right; rw [← c, h1]
    rintro (h1 | h1)
    · exact .inl h1
    right; rw [← h1]
  rw [if_neg c, h.f]
  exact ⟨.inl, fun h1 => h1.elim id fun h2 => absurd (by rw [← h2]) c⟩
 fn := fun u => by
  show ((lkp u (ptk e.1 _ x.frm)).getD (Qo, [])).2.Nodup
  rw [Ux]
  split
  · refine List.nodup_append.2 ⟨h.fn _, by simp, fun a ha b hb hab => ?_⟩
    have hb2 : b = e.2.2 := by simpa using hb
    subst hab hb2
    exact hn ((h.f _ _).1 ha)
  exact h.fn u
 t := fun u v => by
  show u ∈ ((lkp v (ptk e.2.2 _ x.to)).getD (Qo, [])).2 ↔ _
  rw [Ux, List.mem_append, List.mem_singleton]
  by_cases c : e.2.2 = v
  · rw [if_pos c, List.mem_append, List.mem_singleton, h.t, c]
    constructor
    · rintro (h1 | h1)
      · exact .inl h1
      right; rw [← c, h1]
    rintro (h1 | h1)
    · exact .inl h1
    right; rw [← h1]
  rw [if_neg c, h.t]
  exact ⟨.inl, fun h1 => h1.elim id fun h2 => absurd (by rw [← h2]) c⟩
 tn := fun v => by
  show ((lkp v (ptk e.2.2 _ x.to)).getD (Qo, [])).2.Nodup
  rw [Ux]
  split
  · refine List.nodup_append.2 ⟨h.tn _, by simp, fun a ha b hb hab => ?_⟩
    have hb2 : b = e.1 := by simpa using hb
    subst hab hb2
    exact hn ((h.t _ _).1 ha)
  exact h.tn v
 h := fun p => by
  have hk : p ∈ keys (ptk (e.1, e.2.2) true x.has) ↔ p = (e.1, e.2.2) ∨ p ∈ keys x.has := by
   have h1 : p ∈ keys (ptk (e.1, e.2.2) true x.has) ↔ ¬ lkp p (ptk (e.1, e.2.2) true x.has) = none := by rw [Xx, Classical.not_not]
   have h2 : p ∈ keys x.has ↔ ¬ lkp p x.has = none := by rw [Xx, Classical.not_not]
   rw [h1, h2, Xl]
   by_cases c : (e.1, e.2.2) = p
   · rw [if_pos c]; simp [c]
   rw [if_neg c]; simp [Ne.symm c]
  show p ∈ keys (ptk (e.1, e.2.2) true x.has) ↔ _
  rw [hk, h.h, List.mem_append, List.mem_singleton]
  constructor
  · rintro (rfl | h1)
    · exact .inr rfl
    exact .inl h1
  rintro (h1 | h1)
  · exact .inr h1
  exact .inl (by rw [← h1])
 h1 := fun p b hp => by
  have hp : lkp p (ptk (e.1, e.2.2) true x.has) = some b := hp
  rw [Xl] at hp
  split at hp
  · cases hp; rfl
  exact h.h1 p b hp
 hn := Yr h.hn
theorem Kn.come (h : Kn E atoms al) (hl : lkp e.2.1 al = some x) (hn : e ∉ E) (hi : inI e.1 ∧ inI e.2.2) {fv tv : Value} : Kn (E ++ [e]) atoms (ptk e.2.1 { x with frm := ptk e.1 (fv, ((lkp e.1 x.frm).getD (Qo, [])).2 ++ [e.2.2]) x.frm, to := ptk e.2.2 (tv, ((lkp e.2.2 x.to).getD (Qo, [])).2 ++ [e.1]) x.to, has := ptk (e.1, e.2.2) true x.has } al) where
 nd := List.nodup_append.2 ⟨h.nd, by simp, fun a ha b hb hab => hn (by rw [← (by simpa using hb : b = e), ← hab]; exact ha)⟩
 inE := fun f hf => (List.mem_append.1 hf).elim (h.inE f) fun h1 => by rw [(by simpa using h1 : f = e)]; exact hi
 some_ := fun l y hy => by
  rw [Xl] at hy
  by_cases c : e.2.1 = l
  · rw [if_pos c] at hy; cases hy; subst c; exact (h.some_ _ _ hl).come hn
  rw [if_neg c] at hy
  have h1 := h.some_ l y hy
  have hm : ∀ u v, (u, l, v) ∈ E ++ [e] ↔ (u, l, v) ∈ E := fun u v => by
   rw [List.mem_append, List.mem_singleton]
   exact ⟨fun h2 => h2.elim id fun h3 => absurd (congrArg (fun x : Ed => x.2.1) h3).symm c, .inl⟩
  exact ⟨fun u v => by rw [h1.f, hm], h1.fn, fun u v => by rw [h1.t, hm], h1.tn, fun p => by rw [h1.h, hm], h1.h1, h1.hn⟩
 none_ := fun l hl2 f hf => by
  rw [Xl] at hl2
  by_cases c : e.2.1 = l
  · rw [if_pos c] at hl2; cases hl2
  rw [if_neg c] at hl2
  rcases List.mem_append.1 hf with h1 | h1
  · exact h.none_ l hl2 f h1
  rw [(by simpa using h1 : f = e)]; exact c
 lab := fun a ha => by
  rw [Xl]
  split
  · rfl
  exact h.lab a ha
theorem Qv8 {x y : Int} {l : List Int} : y ∈ fx x l ↔ y ∈ l ∧ y ≠ x := by unfold fx; rw [List.mem_filter]; simp
def Qal (E : List Ed) (e : Ed) : List Ed := E.filter fun x => decide (x ≠ e)
theorem Wi {E : List Ed} {e f : Ed} : f ∈ Qal E e ↔ f ∈ E ∧ f ≠ e := by unfold Qal; rw [List.mem_filter]; simp
theorem Qb6.go (h : Qb6 E e.2.1 x) {fv tv : Value} : Qb6 (Qal E e) e.2.1 { x with frm := ptk e.1 (fv, fx e.2.2 ((lkp e.1 x.frm).getD (Qo, [])).2) x.frm, to := ptk e.2.2 (tv, fx e.1 ((lkp e.2.2 x.to).getD (Qo, [])).2) x.to, has := dlk (e.1, e.2.2) x.has } where
 f := fun u v => by
  show v ∈ ((lkp u (ptk e.1 _ x.frm)).getD (Qo, [])).2 ↔ _
  rw [Ux, Wi]
  by_cases c : e.1 = u
  · rw [if_pos c, Qv8, h.f, c]
    exact ⟨fun ⟨h1, h2⟩ => ⟨h1, fun h3 => h2 (by rw [← h3])⟩, fun ⟨h1, h2⟩ => ⟨h1, fun h3 => h2 (by rw [h3, ← c])⟩⟩
  rw [if_neg c, h.f]
  exact ⟨fun h1 => ⟨h1, fun h2 => c (by rw [← h2])⟩, fun h1 => h1.1⟩
 fn := fun u => by
  show ((lkp u (ptk e.1 _ x.frm)).getD (Qo, [])).2.Nodup
  rw [Ux]
  split
  · exact (h.fn _).sublist List.filter_sublist
  exact h.fn u
 t := fun u v => by
  show u ∈ ((lkp v (ptk e.2.2 _ x.to)).getD (Qo, [])).2 ↔ _
  rw [Ux, Wi]
  by_cases c : e.2.2 = v
  · rw [if_pos c, Qv8, h.t, c]
    exact ⟨fun ⟨h1, h2⟩ => ⟨h1, fun h3 => h2 (by rw [← h3])⟩, fun ⟨h1, h2⟩ => ⟨h1, fun h3 => h2 (by rw [h3, ← c])⟩⟩
  rw [if_neg c, h.t]
  exact ⟨fun h1 => ⟨h1, fun h2 => c (by rw [← h2])⟩, fun h1 => h1.1⟩
 tn := fun v => by
  show ((lkp v (ptk e.2.2 _ x.to)).getD (Qo, [])).2.Nodup
  rw [Ux]
  split
  · exact (h.tn _).sublist List.filter_sublist
  exact h.tn v
 h := fun p => by
  have hk : p ∈ keys (dlk (e.1, e.2.2) x.has) ↔ p ≠ (e.1, e.2.2) ∧ p ∈ keys x.has := by
   have h1 : p ∈ keys (dlk (e.1, e.2.2) x.has) ↔ ¬ lkp p (dlk (e.1, e.2.2) x.has) = none := by rw [Xx, Classical.not_not]
   have h2 : p ∈ keys x.has ↔ ¬ lkp p x.has = none := by rw [Xx, Classical.not_not]
   rw [h1, h2, Ut h.hn]
   by_cases c : (e.1, e.2.2) = p
   · rw [if_pos c]; simp [c]
   rw [if_neg c]; simp [Ne.symm c]
  show p ∈ keys (dlk (e.1, e.2.2) x.has) ↔ _
  rw [hk, h.h, Wi]
  constructor
  · rintro ⟨h1, h2⟩; exact ⟨h2, fun h3 => h1 (by rw [← h3])⟩
  rintro ⟨h1, h2⟩; exact ⟨fun h3 => h2 (by rw [h3]), h1⟩
 h1 := fun p b hp => by
  have hp : lkp p (dlk (e.1, e.2.2) x.has) = some b := hp
  rw [Ut h.hn] at hp
  split at hp
  · cases hp
  exact h.h1 p b hp
 hn := Qad h.hn
theorem Kn.go (h : Kn E atoms al) (hl : lkp e.2.1 al = some x) {fv tv : Value} : Kn (Qal E e) atoms (ptk e.2.1 { x with frm := ptk e.1 (fv, fx e.2.2 ((lkp e.1 x.frm).getD (Qo, [])).2) x.frm, to := ptk e.2.2 (tv, fx e.1 ((lkp e.2.2 x.to).getD (Qo, [])).2) x.to, has := dlk (e.1, e.2.2) x.has } al) where
 nd := h.nd.sublist List.filter_sublist
 inE := fun f hf => h.inE f (Wi.1 hf).1
 some_ := fun l y hy => by
  rw [Xl] at hy
  by_cases c : e.2.1 = l
  · rw [if_pos c] at hy; cases hy; subst c; exact (h.some_ _ _ hl).go
  rw [if_neg c] at hy
  have h1 := h.some_ l y hy
  have hm : ∀ u v, (u, l, v) ∈ Qal E e ↔ (u, l, v) ∈ E := fun u v => by
   rw [Wi]
   exact ⟨fun h2 => h2.1, fun h2 => ⟨h2, fun h3 => c (congrArg (fun x : Ed => x.2.1) h3).symm⟩⟩
  exact ⟨fun u v => by rw [h1.f, hm], h1.fn, fun u v => by rw [h1.t, hm], h1.tn, fun p => by rw [h1.h, hm], h1.h1, h1.hn⟩
 none_ := fun l hl2 f hf => by
  rw [Xl] at hl2
  by_cases c : e.2.1 = l
  · rw [if_pos c] at hl2; cases hl2
  rw [if_neg c] at hl2; exact h.none_ l hl2 f (Wi.1 hf).1
 lab := fun a ha => by
  rw [Xl]
  split
  · rfl
  exact h.lab a ha
end
end Go.Proofs.YtklhdalppmjnaaaGreatDoor
namespace Go.Proofs.YtklhdalppmjnaaaGreatDoor
open Go Go.Gw Go.So Go.Tu Go.Jn Go.Nt
section
variable {al : List Atm} {E E' : List Ed} {k : Nat} {e : Ed} {a : Atm} {t : Tp} {todo : List Lab} {S : Tp → Prop} {nx : Rw} {x : Al} {M : List Pr}
theorem Qo7 (hS : ∀ u, S u → InT u) (ht : S t) (hn : todo.Nodup) (hk : idB t ∈ todo) (u : Tp) : (S u ∧ idB u ∉ ers todo (idB t)) ↔ (S u ∧ idB u ∉ todo) ∨ u = t := by
 rw [Qct hn]
 constructor
 · rintro ⟨h1, h2⟩
   by_cases c : idB u = idB t
   · exact .inr (Uw (hS u h1) (hS t ht) c)
   exact .inl ⟨h1, fun h3 => h2 ⟨c, h3⟩⟩
 rintro (⟨h1, h2⟩ | rfl)
 · exact ⟨h1, fun h3 => h2 h3.2⟩
 exact ⟨ht, fun h3 => h3.1 rfl⟩
theorem Qgd (hx : Qb6 E' a.2.1 x) {F T : Nat} {p : Pr} (h : W0 x F T t p) : (p.1, a.2.1, p.2) ∈ E' := by
 unfold W0 at h
 split at h
 · obtain ⟨h1, h2⟩ := h; rw [h1]; exact (hx.f _ _).1 h2
 split at h
 · obtain ⟨h1, h2⟩ := h; rw [h1]; exact (hx.t _ _).1 h2
 exact (hx.h p).1 h
theorem Qms (hx : Qb6 E' a.2.1 x) {F T : Nat} {p : Pr} (h : Qk3 F T t p) (he : (p.1, a.2.1, p.2) ∈ E') : W0 x F T t p := by
 unfold Qk3 at h
 unfold W0
 split at h
 · rename_i c; rw [if_pos c]; rw [h] at he; exact ⟨h, (hx.f _ _).2 he⟩
 rename_i c
 rw [if_neg c]
 split at h
 · rename_i c2; rw [if_pos c2]; rw [h] at he; exact ⟨h, (hx.t _ _).2 he⟩
 rename_i c2; rw [if_neg c2]; exact (hx.h p).2 he
theorem Qv9 (hk : k < al.length) (ha : al[k] = a) (hx : Qb6 E' a.2.1 x) (ht : RwK al E' k t) (hM : ∀ p, p ∈ M ↔ W0 x (ix (Qa al) a.1) (ix (Qa al) a.2.2) t p) (s : Tp) : (∃ p ∈ M, G1 al a t p = some s) ↔ ∃ p : Pr, (p.1, a.2.1, p.2) ∈ E' ∧ G1 al a t p = some s := by
 have hl : Qc3 t.length (nv al (k + 1)) (ix (Qa al) a.1) (ix (Qa al) a.2.2) := by rw [ht.1]; exact Qdn hk ha
 constructor
 · rintro ⟨p, h1, h2⟩; exact ⟨p, Qgd hx ((hM p).1 h1), h2⟩
 rintro ⟨p, h1, h2⟩; exact ⟨p, (hM p).2 (Qms hx (Qo2 hl h2) h1), h2⟩
def R2 (al : List Atm) (a : Atm) (E' : List Ed) (S : Tp → Prop) (todo : List Lab) (t : Tp) (M : List Pr) (s : Tp) : Prop := GrS al a E' (fun u => S u ∧ idB u ∉ todo) s ∨ ∃ p ∈ M, G1 al a t p = some s
theorem Qwa (h : Xk nx (GrS al a E' (fun u => S u ∧ idB u ∉ todo))) : Xk nx (R2 al a E' S todo t []) := h.congr fun u => by simp [R2]
theorem Q42 (hE : ∀ e ∈ E', inI e.1 ∧ inI e.2.2) (hk : k < al.length) (ha : al[k] = a) (hS : ∀ t, S t → RwK al E' k t) (ht : S t) (hM : ∀ p ∈ M, (p.1, a.2.1, p.2) ∈ E') (u : Tp) (h : R2 al a E' S todo t M u) : InT u := by
 rcases h with h | ⟨p, h1, h2⟩
 · exact Y0 hE (h.in_ hE hk ha fun t h => hS t h.1)
 exact Y0 hE (GrS.in_ (S := S) hE hk ha hS ⟨t, p, ht, hM p h1, h2⟩)
theorem Q0f {j : Nat} (hE : ∀ e ∈ E', inI e.1 ∧ inI e.2.2) (hk : k < al.length) (ha : al[k] = a) (hS : ∀ t, S t → RwK al E' k t) (ht : S t) (hM : ∀ p ∈ M, (p.1, a.2.1, p.2) ∈ E') (hj : j < M.length) {p : Pr} (hp : at' M (j : Int) = p) (h : Xk nx (R2 al a E' S todo t (M.take j))) : Xk (Qmm nx (G1 al a t p)) (R2 al a E' S todo t (M.take (j + 1))) := by
 have hpm : p ∈ M := by rw [← hp, Q1 hj]; exact List.getElem_mem hj
 have h1 := Qqr (o := G1 al a t p) h (fun s hs => Y0 hE (GrS.in_ (S := S) hE hk ha hS ⟨t, p, ht, hM p hpm, hs⟩)) (Q42 hE hk ha hS ht fun q hq => hM q ((List.take_subset _ _) hq))
 refine Xk.congr (m := Qmm nx (G1 al a t p)) (S := fun u => R2 al a E' S todo t (M.take j) u ∨ G1 al a t p = some u) ?_ fun u => ?_
 · exact h1
 rw [List.take_succ_eq_append_getElem hj, ← Q1 hj, hp]
 unfold R2
 simp only [List.mem_append, List.mem_singleton]
 constructor
 · rintro ((h2 | ⟨q, h2, h3⟩) | h2)
   · exact .inl h2
   · exact .inr ⟨q, .inl h2, h3⟩
   exact .inr ⟨p, .inr rfl, h2⟩
 rintro (h2 | ⟨q, h2 | rfl, h3⟩)
 · exact .inl (.inl h2)
 · exact .inl (.inr ⟨q, h2, h3⟩)
 exact .inr h3
theorem Q0g (hE : ∀ e ∈ E', inI e.1 ∧ inI e.2.2) (hk : k < al.length) (ha : al[k] = a) (hx : Qb6 E' a.2.1 x) (hS : ∀ t, S t → RwK al E' k t) (ht : S t) (hn : todo.Nodup) (htd : idB t ∈ todo) (hM : ∀ p, p ∈ M ↔ W0 x (ix (Qa al) a.1) (ix (Qa al) a.2.2) t p) (h : Xk nx (R2 al a E' S todo t M)) : Xk nx (GrS al a E' (fun u => S u ∧ idB u ∉ ers todo (idB t))) := by
 refine h.congr fun s => ?_
 unfold R2
 rw [Qv9 hk ha hx (hS t ht) hM]
 have hu := Qo7 (S := S) (fun u hu => Y0 hE (hS u hu)) ht hn htd
 constructor
 · rintro (⟨u, p, h1, h2, h3⟩ | ⟨p, h1, h2⟩)
   · exact ⟨u, p, (hu u).2 (.inl h1), h2, h3⟩
   exact ⟨t, p, (hu t).2 (.inr rfl), h1, h2⟩
 rintro ⟨u, p, h1, h2, h3⟩
 rcases (hu u).1 h1 with h4 | rfl
 · exact .inl ⟨u, p, h4, h2, h3⟩
 exact .inr ⟨p, h2, h3⟩
def R3 (al : List Atm) (a : Atm) (E E' : List Ed) (k : Nat) (e : Ed) (todo : List Lab) (s : Tp) : Prop := GrS al a E' (Qbn al E E' k) s ∨ ∃ t, (RwK al E k t ∧ idB t ∉ todo) ∧ G1 al a t (e.1, e.2.2) = some s
theorem Qwb (h : Xk nx (GrS al a E' (fun u => Qbn al E E' k u ∧ idB u ∉ ([] : List Lab)))) {m : Rw} (hm : Xk m (RwK al E k)) : Xk nx (R3 al a E E' k e (keys m)) := h.congr fun s => by
 unfold R3
 constructor
 · rintro ⟨u, p, h1, h2⟩; exact .inl ⟨u, p, h1.1, h2⟩
 rintro (⟨u, p, h1, h2⟩ | ⟨u, h1, h2⟩)
 · exact ⟨u, p, ⟨h1, by simp⟩, h2⟩
 exact absurd (hm.key.2 ⟨u, rfl, h1.1⟩) h1.2
theorem Q0h (hE : ∀ e ∈ E', inI e.1 ∧ inI e.2.2) (hE2 : ∀ x, x ∈ E' ↔ x ∈ E ∨ x = e) (hk : k < al.length) (ha : al[k] = a) (hl : a.2.1 = e.2.1) (ht : RwK al E k t) (hn : todo.Nodup) (htd : idB t ∈ todo) (h : Xk nx (R3 al a E E' k e todo)) : Xk (Qmm nx (G1 al a t (e.1, e.2.2))) (R3 al a E E' k e (ers todo (idB t))) := by
 have hsub : ∀ u, RwK al E k u → RwK al E' k u := fun u => Qai fun x hx => (hE2 x).2 (.inl hx)
 have hee : ((e.1, e.2.2).1, a.2.1, (e.1, e.2.2).2) ∈ E' := by rw [hl]; exact (hE2 e).2 (.inr rfl)
 have hin : ∀ u s, RwK al E k u → G1 al a u (e.1, e.2.2) = some s → InT s := fun u s hu hs => Y0 hE (GrS.in_ (S := RwK al E k) hE hk ha hsub ⟨u, _, hu, hee, hs⟩)
 have h1 := Qqr (o := G1 al a t (e.1, e.2.2)) h (fun s hs => hin t s ht hs) (fun u hu => by
  rcases hu with hu | ⟨v, h2, h3⟩
  · exact Y0 hE (hu.in_ hE hk ha fun t h => h.1)
  exact hin v u h2.1 h3)
 refine Xk.congr (m := Qmm nx (G1 al a t (e.1, e.2.2))) (S := fun u => R3 al a E E' k e todo u ∨ G1 al a t (e.1, e.2.2) = some u) ?_ fun s => ?_
 · exact h1
 have hu := Qo7 (S := RwK al E k) (fun u hu => Y0 hE (hsub u hu)) ht hn htd
 unfold R3
 constructor
 · rintro ((h2 | ⟨u, h2, h3⟩) | h2)
   · exact .inl h2
   · exact .inr ⟨u, (hu u).2 (.inl h2), h3⟩
   exact .inr ⟨t, (hu t).2 (.inr rfl), h2⟩
 rintro (h2 | ⟨u, h2, h3⟩)
 · exact .inl (.inl h2)
 rcases (hu u).1 h2 with h4 | rfl
 · exact .inl (.inr ⟨u, h4, h3⟩)
 exact .inr h3
theorem Q0i (hk : k < al.length) (ha : al[k] = a) (hE2 : ∀ x, x ∈ E' ↔ x ∈ E ∨ x = e) (hn : e ∉ E) (hl : a.2.1 = e.2.1) (h : Xk nx (R3 al a E E' k e [])) : Xk nx (Qbn al E E' (k + 1)) := h.congr fun s => by
 rw [Qmk hk ha hE2 hn]
 unfold R3 GrS
 constructor
 · rintro (h2 | ⟨u, h2, h3⟩)
   · exact .inl h2
   exact .inr ⟨hl, u, h2.1, h3⟩
 rintro (h2 | ⟨_, u, h2, h3⟩)
 · exact .inl h2
 exact .inr ⟨u, ⟨h2, by simp⟩, h3⟩
theorem Q0j (hk : k < al.length) (ha : al[k] = a) (hE2 : ∀ x, x ∈ E' ↔ x ∈ E ∨ x = e) (hn : e ∉ E) (hl : ¬ a.2.1 = e.2.1) (h : Xk nx (GrS al a E' (fun u => Qbn al E E' k u ∧ idB u ∉ ([] : List Lab)))) : Xk nx (Qbn al E E' (k + 1)) := h.congr fun s => by
 rw [Qmk hk ha hE2 hn]
 unfold GrS
 constructor
 · rintro ⟨u, p, h1, h2⟩; exact .inl ⟨u, p, h1.1, h2⟩
 rintro (⟨u, p, h1, h2⟩ | ⟨h1, _⟩)
 · exact ⟨u, p, ⟨h1, by simp⟩, h2⟩
 exact absurd h1 hl
def R4 (al : List Atm) (E E' : List Ed) (k : Nat) (todo : List Lab) (s : Tp) : Prop := RwK al E k s ∨ (Qbn al E E' k s ∧ idB s ∉ todo)
theorem Qmt {m fr : Rw} (hm : Xk m (RwK al E k)) (hf : Xk fr (Qbn al E E' k)) : Xk m (R4 al E E' k (keys fr)) := hm.congr fun s => by
 unfold R4
 exact ⟨.inl, fun h => h.elim id fun h2 => absurd (hf.key.2 ⟨s, rfl, h2.1⟩) h2.2⟩
theorem Qk5 (hE2 : ∀ x ∈ E, x ∈ E') {s : Tp} (h : R4 al E E' k todo s) : RwK al E' k s := h.elim (Qai hE2) fun h => h.1.1
theorem Qqu {m : Rw} (hE : ∀ e ∈ E', inI e.1 ∧ inI e.2.2) (hE2 : ∀ x ∈ E, x ∈ E') (ht : Qbn al E E' k t) (hn : todo.Nodup) (htd : idB t ∈ todo) (h : Xk m (R4 al E E' k todo)) : Xk (ptk (idB t) t m) (R4 al E E' k (ers todo (idB t))) := by
 refine (h.put (Y0 hE ht.1) fun u hu => Y0 hE (Qk5 hE2 hu)).congr fun s => ?_
 have hu := Qo7 (S := Qbn al E E' k) (fun u hu => Y0 hE hu.1) ht hn htd
 unfold R4
 rw [hu]
 constructor
 · rintro ((h1 | h1) | h1)
   · exact .inl h1
   · exact .inr (.inl h1)
   exact .inr (.inr h1)
 rintro (h1 | h1 | h1)
 · exact .inl (.inl h1)
 · exact .inl (.inr h1)
 exact .inr h1
theorem Qqv {m : Rw} (hE2 : ∀ x ∈ E, x ∈ E') (h : Xk m (R4 al E E' k [])) : Xk m (RwK al E' k) := h.congr fun s => by
 unfold R4
 constructor
 · exact fun h => Qk5 hE2 h
 intro h1
 by_cases c : RwK al E k s
 · exact .inl c
 exact .inr ⟨⟨h1, c⟩, by simp⟩
theorem Q3f {m : Rw} (hE : ∀ e ∈ E', inI e.1 ∧ inI e.2.2) (hE2 : ∀ x ∈ E, x ∈ E') (ht : Qbn al E E' k t) (htd : idB t ∈ todo) (h : Xk m (R4 al E E' k todo)) : idB t ∉ keys m := fun hm => by
 obtain ⟨u, h1, h2⟩ := h.key.1 hm
 have := Uw (Y0 hE ht.1) (Y0 hE (Qk5 hE2 h2)) h1
 subst this
 rcases h2 with h2 | h2
 · exact ht.2 h2
 exact h2.2 htd
theorem Q0k {m : Rw} (h : idB t ∉ keys m) : ((ptk (idB t) t m).map Prod.snd).Perm (t :: m.map Prod.snd) := by
 rw [Qd9 h, List.map_append]
 exact List.perm_append_comm
structure Qmu (al : List Atm) (E E' : List Ed) (k : Nat) (fr : Rw) (lv : List Rw) : Prop where
 kle : k ≤ al.length
 fr : Xk fr (Qbn al E E' k)
 len : lv.length = al.length + 1
 rows : ∀ j, j ≤ al.length → Xk (lv.getD j []) (fun t => (j < k ∧ RwK al E' j t) ∨ (¬ j < k ∧ RwK al E j t))
theorem Qmu.here {fr : Rw} {lv : List Rw} (h : Qmu al E E' k fr lv) (hk : k < lv.length) : Xk lv[k] (RwK al E k) := by
 have h1 := h.rows k h.kle
 rw [List.getD_eq_getElem?_getD, List.getElem?_eq_getElem hk] at h1
 exact h1.congr fun t => by simp
theorem Qmu.next {fr m : Rw} {lv : List Rw} (h : Qmu al E E' k fr lv) (hk : k < al.length) (hn : Xk nx (Qbn al E E' (k + 1))) (hm : Xk m (RwK al E' k)) : Qmu al E E' (k + 1) nx (lv.set k m) where
 kle := hk
 fr := hn
 len := by rw [List.length_set]; exact h.len
 rows := fun j hj => by
  have hl := h.len
  by_cases c : j = k
  · subst c
    rw [List.getD_eq_getElem?_getD, List.getElem?_set_self (by omega)]
    exact hm.congr fun t => by simp
  rw [List.getD_eq_getElem?_getD, List.getElem?_set_ne (Ne.symm c), ← List.getD_eq_getElem?_getD]
  refine (h.rows j hj).congr fun t => ?_
  have e : j < k ↔ j < k + 1 := by omega
  rw [e]
theorem Qsp {lv : List Rw} (hl : lv.length = al.length + 1) (h : ∀ k, k ≤ al.length → Xk (lv.getD k []) (RwK al E k)) : Qmu al E E' 0 [] lv := ⟨Nat.zero_le _, Xk.nil.congr fun t => ⟨fun h => h.elim, fun h => Qvu h⟩, hl, fun j hj => (h j hj).congr fun t => by simp⟩
theorem Q0l {fr m : Rw} {lv : List Rw} (h : Qmu al E E' al.length fr lv) (hm : Xk m (RwK al E' al.length)) : ∀ k, k ≤ al.length → Xk ((lv.set al.length m).getD k []) (RwK al E' k) := fun j hj => by
 have hl := h.len
 by_cases c : j = al.length
 · subst c
   rw [List.getD_eq_getElem?_getD, List.getElem?_set_self (by omega)]; exact hm
 rw [List.getD_eq_getElem?_getD, List.getElem?_set_ne (Ne.symm c), ← List.getD_eq_getElem?_getD]
 refine (h.rows j hj).congr fun t => ?_
 have : j < al.length := by omega
 simp [this]
end
end Go.Proofs.YtklhdalppmjnaaaGreatDoor
namespace Go.Proofs.YtklhdalppmjnaaaGreatDoor
open Go Go.Gw Go.So Go.Tu Go.Jn Go.Nt
theorem Qe0 {gl : List Nat} {lv : List Rw} {k : Nat} {m : Rw} {X Z : List It} (h1 : k < gl.length) (h2 : k < lv.length) : (Qg gl[k] encS kT.T m :: (X ++ (lvI (gl.eraseIdx k) (lv.eraseIdx k) ++ Z))).Perm (X ++ (lvI gl (lv.set k m) ++ Z)) := by
 have h3 := (Qmo (m' := m) h1 h2).append_right Z
 have h4 : ([Qg gl[k] encS kT.T m] ++ X).Perm (X ++ [Qg gl[k] encS kT.T m]) := List.perm_append_comm
 have h5 := (h4.append_right (lvI (gl.eraseIdx k) (lv.eraseIdx k) ++ Z))
 refine List.Perm.trans ?_ (h3.append_left X)
 simpa only [List.append_assoc, List.cons_append, List.nil_append] using h5
theorem Qqw {gl : List Nat} {lv : List Rw} {k : Nat} {X Z : List It} (h1 : k < gl.length) (h2 : k < lv.length) : (Qg gl[k] encS kT.T lv[k] :: (X ++ (lvI (gl.eraseIdx k) (lv.eraseIdx k) ++ Z))).Perm (X ++ (lvI gl lv ++ Z)) := by
 have := Qe0 (m := lv[k]) (X := X) (Z := Z) h1 h2
 rwa [List.set_getElem_self] at this
theorem Qgw {gl : List Nat} {lv : List Rw} {k : Nat} {X Z : List It} (h1 : k < gl.length) (h2 : k < lv.length) : (X ++ (lvI gl lv ++ Z)).Perm (Qg gl[k] encS kT.T lv[k] :: (X ++ (lvI (gl.eraseIdx k) (lv.eraseIdx k) ++ Z))) := (Qqw h1 h2).symm
theorem Qb7 {v : Vw} (h : okV v = true) : v.2.2.1.length ≤ 6 ∧ 1 ≤ v.2.2.2.1.length ∧ v.2.2.2.1.length ≤ 8 ∧ ∀ o ∈ v.2.2.1, o ∈ Qa v.2.2.2.1 := by
 have h6 := h
 unfold okV Qr0 Qhy at h6
 simp only [Bool.and_eq_true, decide_eq_true_eq, List.all_eq_true] at h6
 refine ⟨by omega, by omega, by omega, fun o ho => by simpa using h6.2.1 o ho⟩
theorem Qo8 (al : List Atm) (k : Nat) (h : al.length ≤ 8) : nv al k ≤ 16 := by
 have := K8 (al.take k)
 rw [List.length_take] at this
 unfold nv; omega
theorem Qo9 (al : List Atm) : nv al al.length = (Qa al).length := by unfold nv; rw [List.take_length]
theorem Qh3 {m m' : Rw} {S : Tp → Prop} {c : List (Lab × Int)} {f : Tp → Lab} (h : Xk m S) (h' : Xk m' S) (hc : Y7 c f (m.map Prod.snd)) : Y7 c f (m'.map Prod.snd) := hc.perm (Qh4 h.rows.1 h'.rows.1 fun x => by rw [h.rows.2, h'.rows.2])
theorem Q0m {lv : List Rw} {k : Nat} (h : k < lv.length) : lv.getD k [] = lv[k] := by rw [List.getD_eq_getElem?_getD, List.getElem?_eq_getElem h]; rfl
theorem Qe1 {lv : List Rw} {k : Nat} {m : Rw} (h : k < lv.length) : (lv.set k m).getD k [] = m := by rw [List.getD_eq_getElem?_getD, List.getElem?_set_self h]; rfl
theorem Qjp {al : List Atm} {E : List Ed} {k : Nat} {m : Rw} {S : Tp → Prop} (h : Xk m S) (hS : ∀ t, S t → RwK al E k t) (hE : E.Nodup) (hn : E.length ≤ 100) (hk : k ≤ al.length) (ha : al.length ≤ 8) : m.length ≤ 10000000000000000 := by
 have h1 := Qcr h.rows.1 (fun t ht => Kk.2 (hS t ((h.rows.2 t).1 ht))) (Wx (al := al) (E := E) (k := k))
 rw [List.length_map] at h1
 exact Nat.le_trans h1 (Nat.le_trans (Qmq hE k hk) (Qso hn (by omega)))
theorem Qwc {m : Rw} {c : List (Lab × Int)} {f : Tp → Lab} (h : Y7 c f (m.map Prod.snd)) (hm : m.length ≤ 10000000000000000) (s : Lab) : 0 ≤ (lkp s c).getD 0 ∧ (lkp s c).getD 0 ≤ 10000000000000000 := by
 rw [h.get]
 have : cnt f (m.map Prod.snd) s ≤ (m.map Prod.snd).length := List.countP_le_length
 rw [List.length_map] at this
 omega
end Go.Proofs.YtklhdalppmjnaaaGreatDoor
namespace Go.Proofs.YtklhdalppmjnaaaGreatDoor
open Go Go.Gw Go.So Go.Tu Go.Jn Go.Nt
/-- (*rhizome/net.Net).insert -/
theorem Qj9 (n : NO) (al : AlM) (lv : List Rw) (ct : List (Lab × Int)) (E : List Ed) (e : Ed) (hv : okV n.v = true) (hok : Jq n al lv ct E) (hne : e ∉ E) (hi : inI e.1 ∧ inI e.2.2) (hE9 : E.length ≤ 90) : Ct Tryz.prog 52 [AtT J7 (Y9 n), kE.T e] (Qev n al lv ct) (AlM × List Rw × List (Lab × Int)) (fun r => Yu) (fun r => Qev n r.1 r.2.1 r.2.2) (fun r => Jq n r.1 r.2.1 r.2.2 (E ++ [e])) := by
 refine Qn Tryz.func52 rfl rfl ?_
 intro H w
 obtain ⟨ho6, ha1, hal8, hov⟩ := Qb7 hv
 obtain ⟨E', hE'⟩ : ∃ E', E ++ [e] = E' := ⟨_, rfl⟩
 have hE2 : ∀ x, x ∈ E' ↔ x ∈ E ∨ x = e := fun x => by rw [← hE']; simp
 have hE2s : ∀ x ∈ E, x ∈ E' := fun x hx => (hE2 x).2 (.inl hx)
 have hEl : E'.length ≤ 100 := by rw [← hE', List.length_append, List.length_singleton]; omega
 rw [hE']
 refine sq (rg (oA (Xf (d := kpt J7) (v := some (Y9 n)) oz) pR rfl rfl (fun g0_0 _ => ?_)))
 refine oA (Xf (d := kE) oz) pR rfl rfl (fun g0_1 _ => ?_)
 refine tn (nn (sq (rg (oP (plv oz (mA 1 rfl) yve) rfl (oP (pf oz yh3) rfl (oP (plb oz (mA 0 rfl) le1 ylw) rfl (Qey [_, _, _] (lvI n.gl lv) rfl (aC (Qx6 n al e.2.1) ywx (oc oz (oc oz oN)) (Wz (X := [_, _, _]) (Y := lvI n.gl lv))) rfl rfl fun q hq => (av rfl rfl (tn ?_)))))))))
 have hals := hok.als.alpha hq
 obtain ⟨x, hx⟩ : ∃ x, alG q e.2.1 = x := ⟨_, rfl⟩
 have hlk : lkp e.2.1 q = some x := by rw [← hx]; exact Qb5 hq.1
 rw [hx]
 have hxb := (hals.some_ _ _ hlk).b hals.nd (by omega)
 have hfl := hxb.f e.1
 have htl := hxb.t e.2.2
 refine Qmr (X := [_, _, _]) (Y := lvI n.gl lv) e.1 e.2.2 hlk (nn (sq ?_))
 apply Xs (m := 9) (ns := [[(4, none)], [(27, some 0)], [(28, some 1)], [(29, some 2)], [(3, none)], [(31, some 4)], [(3, none)], [(33, some 6)], [(32, some 5), (34, some 7)]]) (by kernel_rfl) (by kernel_rfl) (Ts := [_, _, _, _, _, _, _, _, _]) rfl
 case hops =>
  exact ⟨rmv rfl, rP (Qp oz), rP (Qr oz lx2 y7a), rP (Q8 oz yht), rP (pf oz ye8), rP (plb oz (mA 6 rfl) le0 ynm), rP (pf oz y9l), rP (plb oz (mA 6 rfl) le2 ynm), rP (Xt (d := kPP) (v0 := (0, 0)) (agg := false) Tryz.underlying108 ynm zP rfl (Qk rfl Qf.p0 oz (Qk rfl Qf.p1 oz Qc))), trivial⟩
 case h =>
  refine oA (X4 (V := Xd.T) (v := true) mkP Tryz.underlying121 oz (pA 0 rfl) oz ot) (pA 0 rfl) rfl rfl (fun _ _ => ?_)
  refine tn (nn (sq ?_))
  apply Yg (ρ := Value) (φ := fun rr => True) (p := 16) (Lf := fun c rr => cond c (Qh 3 kI rr (((lkp e.1 x.frm).getD (Qo, [])).2 ++ [e.2.2]) :: Qg x.gh Zu Xd.T (ptk (e.1, e.2.2) true x.has) :: Qg x.gf encI IsV (hdV x.frm) :: Qg x.gt encI IsV (hdV x.to) :: Qh 3 kI ((lkp e.2.2 (hdV x.to)).getD Qo) ((lkp e.2.2 x.to).getD (Qo, [])).2 :: Qg n.ga encS (kpt kAl).T (Zn q) :: Qb g0_1 42 kE e :: Qb g0_0 78 (kpt J7) (some (Y9 n)) :: Qg n.gc encS kI.T ct :: (lvI n.gl lv ++ Qbk q e.2.1 x e.1 e.2.2)) (Qg x.gh Zu Xd.T (ptk (e.1, e.2.2) true x.has) :: Qg x.gf encI IsV (hdV x.frm) :: Qg x.gt encI IsV (hdV x.to) :: Qh 3 kI ((lkp e.1 (hdV x.frm)).getD Qo) ((lkp e.1 x.frm).getD (Qo, [])).2 :: Qh 3 kI ((lkp e.2.2 (hdV x.to)).getD Qo) ((lkp e.2.2 x.to).getD (Qo, [])).2 :: Qg n.ga encS (kpt kAl).T (Zn q) :: Qb g0_1 42 kE e :: Qb g0_0 78 (kpt J7) (some (Y9 n)) :: Qg n.gc encS kI.T ct :: (lvI n.gl lv ++ Qbk q e.2.1 x e.1 e.2.2))) Qo (by kernel_rfl) (m := 17) (ns := [[(4, none)], [(36, some 0)], [(37, some 1)], [(38, some 2)], [(3, none)], [(40, some 4)], [(4, none)], [(42, some 6)], [(43, some 7)], [(44, some 8)], [(3, none)], [(46, some 10)], [(45, some 9), (47, some 11)], [(3, none)], [(49, some 13)], [(50, some 14)], [(48, some 12), (51, some 15)]]) (by kernel_rfl) (by kernel_rfl) (Ts := fun rr => [_, _, _, _, _, _, _, _, _, _, _, _, _, _, _, _, IsV rr]) (fun _ => rfl)
  case hops =>
   refine ⟨?_, ?_, ?_, ?_, ?_, ?_, ?_, ?_, ?_, ?_, ?_, ?_, ?_, ?_, ?_, ?_, ?_, trivial⟩
   · exact ⟨by intro c r hc; cases c <;> exact rgo r rfl ⟨rfl, trivial⟩ (rmv rfl), fun _ _ _ _ => rfl⟩
   · exact ⟨by intro c r hc; cases c <;> exact rgo r rfl ⟨rfl, trivial⟩ (rP (Qp oz)), fun _ _ _ _ => rfl⟩
   · exact ⟨by intro c r hc; cases c <;> exact rgo r rfl ⟨rfl, trivial⟩ (rP (Qr oz lx0 ya0)), fun _ _ _ _ => rfl⟩
   · exact ⟨by intro c r hc; cases c <;> exact rgo r rfl ⟨rfl, trivial⟩ (rP (Q8 oz y30)), fun _ _ _ _ => rfl⟩
   · exact ⟨by intro c r hc; cases c <;> exact rgo r rfl ⟨rfl, trivial⟩ (rP (pf oz ye8)), fun _ _ _ _ => rfl⟩
   · exact ⟨by intro c r hc; cases c <;> exact rgo r rfl ⟨rfl, trivial⟩ (rP (plb oz (mA 6 rfl) le0 ynm)), fun _ _ _ _ => rfl⟩
   · exact ⟨cBf (by kernel_rfl) fun r _ => rgo r rfl ⟨rfl, trivial⟩ (rmv rfl), fun _ _ _ _ => rfl⟩
   · exact ⟨cBf (by kernel_rfl) fun r _ => rgo r rfl ⟨rfl, trivial⟩ (rP (Qp oz)), fun _ _ _ _ => rfl⟩
   · exact ⟨cBf (by kernel_rfl) fun r _ => rgo r rfl ⟨rfl, trivial⟩ (rP (Qr oz lx0 ya0)), fun _ _ _ _ => rfl⟩
   · exact ⟨cBf (by kernel_rfl) fun r _ => rgo r rfl ⟨rfl, trivial⟩ (rP (Q8 oz y30)), fun _ _ _ _ => rfl⟩
   · exact ⟨cBf (by kernel_rfl) fun r _ => rgo r rfl ⟨rfl, trivial⟩ (rP (pf oz ye8)), fun _ _ _ _ => rfl⟩
   · exact ⟨cBf (by kernel_rfl) fun r _ => rgo r rfl ⟨rfl, trivial⟩ (rP (plb oz (mA 6 rfl) le0 ynm)), fun _ _ _ _ => rfl⟩
   · exact ⟨cBf (by kernel_rfl) fun r _ => rgo r rfl ⟨rfl, trivial⟩ (rP (X7 mkI Tryz.underlying120 (z0 := Qo) (by kernel_rfl) oz (mA 1 rfl) oz)), fun _ _ _ _ => rfl⟩
   · exact ⟨cBf (by kernel_rfl) fun r _ => rgo r rfl ⟨rfl, trivial⟩ (rP (pf oz y9l)), fun _ _ _ _ => rfl⟩
   · exact ⟨cBf (by kernel_rfl) fun r _ => rgo r rfl ⟨rfl, trivial⟩ (rP (plb oz (mA 6 rfl) le2 ynm)), fun _ _ _ _ => rfl⟩
   · exact ⟨cBf (by kernel_rfl) fun r _ => rgo r rfl ⟨rfl, trivial⟩ (Zc rfl (Q7 (d := kI) (v0 := 0) y9t ynm zI (show 1 * 1 ≤ 16777216 from by decide) (by decide) (Qv rfl rfl (by decide) oz Qc)) (fun _ _ _ _ h => h)), fun _ _ _ _ => rfl⟩
   refine ⟨?_, ?_⟩
   · exact cBf (by kernel_rfl) fun r _ => Zg rfl (Q0 oz (pA 3 rfl) oz y9t (by (simp; omega)) (by (simp [maxLen]; omega))) (pA 3 rfl) (fun r => pR) (fun _ _ _ => trivial) (fun _ _ _ _ h => h)
   exact fun _ h => absurd h (by decide)
  case h =>
   intro v3_16 _
   refine oA (X4 mkI Tryz.underlying120 oz (pA 2 rfl) oz oz) (pA 2 rfl) rfl rfl (fun _ _ => ?_)
   refine tn (nn (sq ?_))
   apply Yg (ρ := Value) (φ := fun rr => True) (p := 16) (Lf := fun c rr => cond c (Qh 3 kI rr (((lkp e.2.2 x.to).getD (Qo, [])).2 ++ [e.1]) :: Qg x.gf encI IsV (ptk e.1 v3_16 (hdV x.frm)) :: Qh 3 kI v3_16 (((lkp e.1 x.frm).getD (Qo, [])).2 ++ [e.2.2]) :: Qg x.gh Zu Xd.T (ptk (e.1, e.2.2) true x.has) :: Qg x.gt encI IsV (hdV x.to) :: Qg n.ga encS (kpt kAl).T (Zn q) :: Qb g0_1 42 kE e :: Qb g0_0 78 (kpt J7) (some (Y9 n)) :: Qg n.gc encS kI.T ct :: (lvI n.gl lv ++ Qbk q e.2.1 x e.1 e.2.2)) (Qg x.gf encI IsV (ptk e.1 v3_16 (hdV x.frm)) :: Qh 3 kI v3_16 (((lkp e.1 x.frm).getD (Qo, [])).2 ++ [e.2.2]) :: Qg x.gh Zu Xd.T (ptk (e.1, e.2.2) true x.has) :: Qg x.gt encI IsV (hdV x.to) :: Qh 3 kI ((lkp e.2.2 (hdV x.to)).getD Qo) ((lkp e.2.2 x.to).getD (Qo, [])).2 :: Qg n.ga encS (kpt kAl).T (Zn q) :: Qb g0_1 42 kE e :: Qb g0_0 78 (kpt J7) (some (Y9 n)) :: Qg n.gc encS kI.T ct :: (lvI n.gl lv ++ Qbk q e.2.1 x e.1 e.2.2))) Qo (by kernel_rfl) (m := 17) (ns := [[(4, none)], [(53, some 0)], [(54, some 1)], [(55, some 2)], [(3, none)], [(57, some 4)], [(4, none)], [(59, some 6)], [(60, some 7)], [(61, some 8)], [(3, none)], [(63, some 10)], [(62, some 9), (64, some 11)], [(3, none)], [(66, some 13)], [(67, some 14)], [(65, some 12), (68, some 15)]]) (by kernel_rfl) (by kernel_rfl) (Ts := fun rr => [_, _, _, _, _, _, _, _, _, _, _, _, _, _, _, _, IsV rr]) (fun _ => rfl)
   case hops =>
    refine ⟨?_, ?_, ?_, ?_, ?_, ?_, ?_, ?_, ?_, ?_, ?_, ?_, ?_, ?_, ?_, ?_, ?_, trivial⟩
    · exact ⟨by intro c r hc; cases c <;> exact rgo r rfl ⟨rfl, trivial⟩ (rmv rfl), fun _ _ _ _ => rfl⟩
    · exact ⟨by intro c r hc; cases c <;> exact rgo r rfl ⟨rfl, trivial⟩ (rP (Qp oz)), fun _ _ _ _ => rfl⟩
    · exact ⟨by intro c r hc; cases c <;> exact rgo r rfl ⟨rfl, trivial⟩ (rP (Qr oz lx1 ye0)), fun _ _ _ _ => rfl⟩
    · exact ⟨by intro c r hc; cases c <;> exact rgo r rfl ⟨rfl, trivial⟩ (rP (Q8 oz y30)), fun _ _ _ _ => rfl⟩
    · exact ⟨by intro c r hc; cases c <;> exact rgo r rfl ⟨rfl, trivial⟩ (rP (pf oz y9l)), fun _ _ _ _ => rfl⟩
    · exact ⟨by intro c r hc; cases c <;> exact rgo r rfl ⟨rfl, trivial⟩ (rP (plb oz (mA 6 rfl) le2 ynm)), fun _ _ _ _ => rfl⟩
    · exact ⟨cBf (by kernel_rfl) fun r _ => rgo r rfl ⟨rfl, trivial⟩ (rmv rfl), fun _ _ _ _ => rfl⟩
    · exact ⟨cBf (by kernel_rfl) fun r _ => rgo r rfl ⟨rfl, trivial⟩ (rP (Qp oz)), fun _ _ _ _ => rfl⟩
    · exact ⟨cBf (by kernel_rfl) fun r _ => rgo r rfl ⟨rfl, trivial⟩ (rP (Qr oz lx1 ye0)), fun _ _ _ _ => rfl⟩
    · exact ⟨cBf (by kernel_rfl) fun r _ => rgo r rfl ⟨rfl, trivial⟩ (rP (Q8 oz y30)), fun _ _ _ _ => rfl⟩
    · exact ⟨cBf (by kernel_rfl) fun r _ => rgo r rfl ⟨rfl, trivial⟩ (rP (pf oz y9l)), fun _ _ _ _ => rfl⟩
    · exact ⟨cBf (by kernel_rfl) fun r _ => rgo r rfl ⟨rfl, trivial⟩ (rP (plb oz (mA 6 rfl) le2 ynm)), fun _ _ _ _ => rfl⟩
    · exact ⟨cBf (by kernel_rfl) fun r _ => rgo r rfl ⟨rfl, trivial⟩ (rP (X7 mkI Tryz.underlying120 (z0 := Qo) (by kernel_rfl) oz (mA 3 rfl) oz)), fun _ _ _ _ => rfl⟩
    · exact ⟨cBf (by kernel_rfl) fun r _ => rgo r rfl ⟨rfl, trivial⟩ (rP (pf oz ye8)), fun _ _ _ _ => rfl⟩
    · exact ⟨cBf (by kernel_rfl) fun r _ => rgo r rfl ⟨rfl, trivial⟩ (rP (plb oz (mA 6 rfl) le0 ynm)), fun _ _ _ _ => rfl⟩
    · exact ⟨cBf (by kernel_rfl) fun r _ => rgo r rfl ⟨rfl, trivial⟩ (Zc rfl (Q7 (d := kI) (v0 := 0) y9t ynm zI (show 1 * 1 ≤ 16777216 from by decide) (by decide) (Qv rfl rfl (by decide) oz Qc)) (fun _ _ _ _ h => h)), fun _ _ _ _ => rfl⟩
    refine ⟨?_, ?_⟩
    · exact cBf (by kernel_rfl) fun r _ => Zg rfl (Q0 oz (pA 4 rfl) oz y9t (by (simp; omega)) (by (simp [maxLen]; omega))) (pA 4 rfl) (fun r => pR) (fun _ _ _ => trivial) (fun _ _ _ _ h => h)
    exact fun _ h => absurd h (by decide)
   case h =>
    intro v4_16 _
    refine oA (X4 mkI Tryz.underlying120 oz (pA 4 rfl) oz oz) (pA 4 rfl) rfl rfl (fun _ _ => ?_)
    refine tn (Q4 (List.Perm.trans ((Qq 4 rfl).trans (List.Perm.cons _ ((Qq 2 rfl).trans (List.Perm.cons _ ((Qq 0 rfl).trans (List.Perm.cons _ ((Qq 1 rfl).trans (List.Perm.cons _ ((Qq 0 rfl).trans (List.Perm.cons _ pR)))))))))) (Qqt (X := [_, _, _]) (Y := lvI n.gl lv) hlk)) ?_)
    obtain ⟨al', hal'⟩ : ∃ m, (ptk e.2.1 (Al.mk x.gf x.gt x.gh (ptk e.1 (v3_16, ((lkp e.1 x.frm).getD (Qo, [])).2 ++ [e.2.2]) x.frm) (ptk e.2.2 (v4_16, ((lkp e.2.2 x.to).getD (Qo, [])).2 ++ [e.1]) x.to) (ptk (e.1, e.2.2) true x.has)) q) = m := ⟨_, rfl⟩
    rw [hal']
    have hals' : Kn E' n.v.2.2.2.1 al' := by rw [← hal', ← hE']; exact hals.come hlk hne hi
    have hinE := hals'.inE
    refine nn (sq (rg (oA (Q9 encS kT.T) pR rfl rfl (fun g5_0 _ => ?_))))
    refine av rfl rfl (tn (nn (sq (sq (rg (oP (plv oz (mA 2 rfl) yve) rfl (oP (Qp oz) rfl (oP (Qr oz ln0 yhd) rfl (oP (Qr oz lv3 y46) rfl (oP (pL oz y2r) rfl (Zt 75 (T := SlT kA n.v.2.2.2.1) oz (oP (pls oz Tryz.underlying23) rfl (oP (Qm ot) rfl (tn (nn (tb (Qt (σ := Nat × Nat × Rw × List Rw) (e4 2 3 75 76 rfl en) (fun s => [(77, I64 (s.1 : Int)), (5, IsV (mp s.2.1))]) (fun s => (Qg s.2.1 encS kT.T s.2.2.1 :: Qb g0_1 42 kE e :: Qb g0_0 78 (kpt J7) (some (Y9 n)) :: Qg n.gc encS kI.T ct :: (lvI n.gl s.2.2.2 ++ AlI n al'))) (fun s => Qmu n.v.2.2.2.1 E E' s.1 s.2.2.1 s.2.2.2) (fun s => n.v.2.2.2.1.length - s.1) (0, g5_0, [], lv) (Qsp hok.lvl hok.rows) ?_ (op pl) ?_)))))))))))))))))
    · exact (e2 77 5 rfl en)
    rintro ⟨k, gfr, fr, lvk⟩ hin
    dsimp only at hin ⊢
    refine sq (rg (oP (Q5 oz oz) rfl (tn (nn (sq (tc oz (fun c78 => ?_) (fun c78 => ?_)))))))
    · refine sk (nn (sq (tb (sq ?_))))
      have hk : k < n.v.2.2.2.1.length := by simpa using c78
      obtain ⟨a, ha⟩ : ∃ a, at' n.v.2.2.2.1 (k : Int) = a := ⟨_, rfl⟩
      have hak : n.v.2.2.2.1[k] = a := by rw [← ha, Q1 hk]
      have hsome : (lkp a.2.1 al').isSome = true := hals'.lab a (by rw [← hak]; exact List.getElem_mem hk)
      have hx2 := hals'.some_ _ _ (Qb5 hsome)
      have hxb2 := hx2.b hals'.nd (by omega)
      have hgl := hok.gl
      have hll := hin.len
      have hgk : k < n.gl.length := by omega
      have hlvk : k < lvk.length := by omega
      have hmk := hin.here hlvk
      refine rg (mv rfl rfl (oP (Qj oz oz Tryz.underlying23 y03 (by omega) (by omega)) rfl (oP (pL oz y03) rfl (oA (Qz (zI)) pR rfl rfl (fun g8_3 _ => ?_)))))
      refine oA (Qz (zA)) pR rfl rfl (fun g8_4 _ => ?_)
      refine oA (asv oz oz (pA 1 rfl) ynm) (pA 1 rfl) rfl rfl (fun _ _ => ?_)
      refine oA (asv oz oz (pA 1 rfl) y03) (pA 1 rfl) rfl rfl (fun _ _ => ?_)
      refine tn ?_
      rw [ha]
      refine nn (sq (rg (oA (Q9 encS kT.T) pR rfl rfl (fun g9_0 _ => ?_))))
      refine oA (Qz (zRw)) pR rfl rfl (fun g9_1 _ => ?_)
      refine oA (Qbi oz oz (by rfl) (pA 0 rfl) y3m) (pA 0 rfl) rfl rfl (fun _ _ => ?_)
      refine tn (nn (sq (rg (oP (Vc (Ws oz (Ws oz (Ws oz Qbv)))) rfl (av rfl rfl (tn (nn (sq (sq (W7 (Qq 4 rfl) fun s0 => (rg (mv rfl rfl (oA (Z0 Tryz.underlying117 oz (mA 0 rfl)) pR rfl rfl (fun r11_1 hr11_1 => ?_))))))))))))))
      refine tn (nn (tb (Qt (σ := IS × List Lab × Option Lab × Rw) (e8 2 3 5 6 7 8 9 75 rfl (e2 76 77 rfl (ec 85 rfl en))) (fun s => []) (fun s => (K4 r11_1.1 gfr s.1 :: Ju gfr encS kT.T fr s0 :: Qg g9_0 encS kT.T s.2.2.2 :: Qb g9_1 117 Q3 (mp g9_0) :: Qb g8_4 49 kA a :: Qb g8_3 3 kI (k : Int) :: Qb g0_1 42 kE e :: Qb g0_0 78 (kpt J7) (some (Y9 n)) :: Qg n.gc encS kI.T ct :: (lvI n.gl lvk ++ AlI n al'))) (fun s => Jk fr s0 s.1 s.2.1 s.2.2.1 ∧ Xk s.2.2.2 (GrS n.v.2.2.2.1 a E' (fun u => Qbn n.v.2.2.2.1 E E' k u ∧ idB u ∉ s.2.1))) (fun s => s.2.1.length) (r11_1.2, keys fr, none, []) ⟨hr11_1, Xk.nil.congr fun s => ⟨fun h => h.elim, fun ⟨t, p, h1, _⟩ => absurd (hin.fr.key.2 ⟨t, rfl, h1.1⟩) h1.2⟩⟩ ?_ (op (by (repeat (first | refine pc 0 rfl ?_ | refine pc 1 rfl ?_)); exact pl)) ?_)))
      · exact en
      rintro ⟨i, todo, cur, nx⟩ ⟨hrk, hnx⟩
      dsimp only at hrk hnx ⊢
      refine sq (rg (oA (Z1 oz (mA 1 rfl) (pA 0 rfl) (by assumption)) (pA 0 rfl) rfl rfl (fun q12_0 hq12_0 => ?_)))
      refine oP (J6 oz) rfl (tn (nn (sq (tc oz (fun c87 => ?_) (fun c87 => ?_)))))
      · obtain ⟨i2, o2⟩ := q12_0
        obtain ⟨key, rfl⟩ : ∃ k, o2 = some k := by
         cases o2 with
         | none => exact Bool.noConfusion c87
         | some k => exact ⟨k, rfl⟩
        dsimp only at hq12_0 c87 ⊢
        obtain ⟨hkt, hok2⟩ := hq12_0
        obtain ⟨t, htv⟩ := Qbc (hrk.sub _ hkt)
        obtain ⟨rfl, htn⟩ := hin.fr.lkp htv
        have hlt : Qc3 t.length (nv n.v.2.2.2.1 (k + 1)) (ix (Qa n.v.2.2.2.1) a.1) (ix (Qa n.v.2.2.2.1) a.2.2) := by rw [htn.1.1]; exact Qdn hk hak
        have htl : t.length ≤ 16 := by rw [htn.1.1]; exact Qo8 _ _ hal8
        refine sk (nn (tb (sq (rg (oP (Ye (D := IsV _) oz (mA 0 rfl) (mA 1 rfl) (by assumption) (by assumption) (fun H => rfl)) rfl ?_)))))
        refine oP (Qd oz rfl) rfl (av rfl rfl (tn (nn (sq (rg (oP (plv oz (mA 7 rfl) yve) rfl (oP (plv oz (mA 5 rfl) ynm) rfl (mv rfl rfl (Qey [_, _, _, _, _, _, _, _, _] (lvI n.gl lvk) rfl (aC (Qps n al' k t a hk ha hlt (by omega) hsome hxb2) ycv (oc oz (oc oz (oc oz oN))) (Wz (X := [_, _, _, _, _, _, _, _, _]) (Y := lvI n.gl lvk))) rfl rfl fun M hM => (oP (pls oz Tryz.underlying160) rfl (oP (Qm ot) rfl (tn (nn (tb (Qt (σ := Nat × Rw) (e8 2 3 5 6 7 8 9 11 rfl (e4 75 76 77 85 rfl (e2 93 94 rfl en))) (fun s => [(95, I64 (s.1 : Int))]) (fun s => (K4 r11_1.1 gfr i2 :: Ju gfr encS kT.T fr s0 :: Qg g9_0 encS kT.T s.2 :: Qb g9_1 117 Q3 (mp g9_0) :: Qb g8_4 49 kA a :: Qb g8_3 3 kI (k : Int) :: Qb g0_1 42 kE e :: Qb g0_0 78 (kpt J7) (some (Y9 n)) :: Qg n.gc encS kI.T ct :: (lvI n.gl lvk ++ AlI n al'))) (fun s => s.1 ≤ M.length ∧ Xk s.2 (R2 n.v.2.2.2.1 a E' (Qbn n.v.2.2.2.1 E E' k) todo t (M.take s.1))) (fun s => M.length - s.1) (0, nx) ⟨Nat.zero_le _, Qwa hnx⟩ ?_ (op pl) ?_)))))))))))))))
        · exact (ec 95 rfl en)
        rintro ⟨j, ny⟩ ⟨hjm, hny⟩
        dsimp only at hjm hny ⊢
        refine sq (rg (oP (Q5 oz oz) rfl (tn (nn (sq (tc oz (fun c96 => ?_) (fun c96 => ?_)))))))
        · refine sk (nn (sq (tb (sq ?_))))
          have hj : j < M.length := by simpa using c96
          obtain ⟨p, hp⟩ : ∃ p, at' M (j : Int) = p := ⟨_, rfl⟩
          refine rg (oP (Qj oz oz Tryz.underlying160 yd7 (by omega) (by omega)) rfl (oP (pL oz yd7) rfl (oA (Qz (zP)) pR rfl rfl (fun g16_2 _ => ?_))))
          refine oA (asv oz oz (pA 0 rfl) yd7) (pA 0 rfl) rfl rfl (fun _ _ => ?_)
          refine tn ?_
          rw [hp]
          refine nn (rg (mv rfl rfl (mv rfl rfl (oP (Zj oz (mA 0 rfl) Tryz.underlying108 ynm) rfl (oP (Z7 (d := kI) (v := p) oz (mA 0 rfl) ynm) rfl (oP (Zk oz (mA 0 rfl) Tryz.underlying108 ynm) rfl (oP (Z8 (d := kI) (v := p) oz (mA 0 rfl) ynm) rfl (oA (Z6 oz (CtV.of [pt g0_0 0, pt g8_3 0, pt g9_1 0] (Qn2 n k t p.1 p.2 a g0_0 g8_3 g9_1 g9_0 ny hk ha hlt (by omega)) (by kernel_rfl)) (oc oz (oc oz (oc oz oN))) (Qez 8 6 4 3 rfl rfl rfl rfl)) (Qez 8 6 4 3 rfl rfl rfl rfl) rfl rfl (fun _ _ => ?_)))))))))
          refine tn (bn (nn (rg (oP (pad oz ot (by omega)) rfl (mv rfl rfl (tn (nn ?_)))))))
          have hml := hM.2
          exact tg (j + 1, Qmm ny (G1 n.v.2.2.2.1 a t p)) ⟨(by show j + 1 ≤ M.length; omega), Q0f hinE hk hak (fun u h => h.1) htn (fun p hp => Qgd hx2 ((hM.1 p).1 hp)) hj hp hny⟩ (by show M.length - (j + 1) < M.length - j; omega) ef (op (by (repeat (first | refine pc 0 rfl ?_ | refine pc 1 rfl ?_ | refine pc 2 rfl ?_ | refine pc 3 rfl ?_ | refine pc 5 rfl ?_)); exact pd (pl)))
        refine Qx (tx (tx (bh (bn (nn ?_)))))
        obtain rfl : j = M.length := by simp only [decide_eq_false_iff_not] at c96; omega
        rw [List.take_length] at hny
        have hle : (ers todo (idB t)).length = todo.length - 1 := Qa6 hkt
        have hpos := List.length_pos_of_mem hkt
        exact tg (i2, ers todo (idB t), some (idB t), ny) ⟨hok2, Q0g hinE hk hak hx2 (fun u h => h.1) htn hrk.nd hkt hM.1 hny⟩ (by show (ers todo (idB t)).length < todo.length; omega) ef (op (by (repeat (refine pc 0 rfl ?_)); exact pl))
      obtain ⟨i2, o2⟩ := q12_0
      obtain rfl : o2 = none := by
       cases o2 with
       | none => rfl
       | some k => exact Bool.noConfusion c87
      dsimp only at hq12_0 ⊢
      obtain ⟨rfl, hok2⟩ := hq12_0
      refine Uv (Qq 1 rfl) (Qx (tx (tx (bh (nn (Qac (σ := Rw) (e8 2 3 5 6 8 75 76 77 rfl en) (fun ny => []) (fun ny => (Qg gfr encS kT.T fr :: Qg g9_0 encS kT.T ny :: Qb g9_1 117 Q3 (mp g9_0) :: Qb g8_4 49 kA a :: Qb g8_3 3 kI (k : Int) :: Qb g0_1 42 kE e :: Qb g0_0 78 (kpt J7) (some (Y9 n)) :: Qg n.gc encS kI.T ct :: (lvI n.gl lvk ++ AlI n al'))) (fun ny => Xk ny (Qbn n.v.2.2.2.1 E E' (k + 1))) ?_ ?_))))))
      · refine sq (rg (oP (pf oz yl2) rfl (oP (plb oz (mA 4 rfl) la1 ylw) rfl (oP (pf oz yh3) rfl (oP (plb oz (mA 6 rfl) le1 ylw) rfl (oP (Vz oz oz) rfl (tn (nn (tc oz (fun c111 => ?_) (fun c111 => ?_))))))))))
        · have hll2 : a.2.1 = e.2.1 := of_decide_eq_true c111
          refine Q4 (Qgw (X := [_, _, _, _, _, _, _, _, _]) hgk hlvk) (W7 pR fun s1 => (sq ?_))
          apply Xs (m := 5) (ns := [[(2, none)], [(112, some 0)], [(113, some 1)], [(114, some 2)], [(6, none)]]) (by kernel_rfl) (by kernel_rfl) (Ts := [_, _, _, _, _]) rfl
          case hops =>
           exact ⟨rP (plv oz (mA 8 rfl) yve), rP (Qp oz), rP (Qr oz ln6 yn5), rP (pL oz y2a), rP (plv oz (mA 6 rfl) ynm), trivial⟩
          case h =>
           refine oP (Qj oz oz Tryz.underlying113 y3m (by omega) (by show ((k : Nat) : Int) < ((n.gl.map mp).length : Int); rw [List.length_map]; omega)) rfl ?_
           rw [show at' (Y9 n).2.2.2.2.2.2.1 ((k : Nat) : Int) = mp n.gl[k] from Qj7 (by omega)]
           refine oP (Q8 oz y3m) rfl (oA (Z0 Tryz.underlying117 oz (mA 0 rfl)) pR rfl rfl (fun r20_7 hr20_7 => ?_))
           refine tn (nn (tb (Qt (σ := IS × List Lab × Option Lab × Rw) (e8 2 3 5 6 8 9 75 76 rfl (e2 77 119 rfl en)) (fun s => []) (fun s => (K4 r20_7.1 n.gl[k] s.1 :: Ju n.gl[k] encS kT.T lvk[k] s1 :: Qg g9_0 encS kT.T s.2.2.2 :: Qb g9_1 117 Q3 (mp g9_0) :: Qb g8_4 49 kA a :: Qb g8_3 3 kI (k : Int) :: Qb g0_1 42 kE e :: Qb g0_0 78 (kpt J7) (some (Y9 n)) :: Qg n.gc encS kI.T ct :: Qg gfr encS kT.T fr :: (lvI (n.gl.eraseIdx k) (lvk.eraseIdx k) ++ AlI n al'))) (fun s => Jk lvk[k] s1 s.1 s.2.1 s.2.2.1 ∧ Xk s.2.2.2 (R3 n.v.2.2.2.1 a E E' k e s.2.1)) (fun s => s.2.1.length) (r20_7.2, keys lvk[k], none, nx) ⟨hr20_7, Qwb hnx hmk⟩ ?_ (op (by (repeat (first | refine pc 0 rfl ?_ | refine pc 2 rfl ?_)); exact pd (pl))) ?_)))
           · exact en
           rintro ⟨i, todo, cur, nx⟩ ⟨hrk, hnx⟩
           dsimp only at hrk hnx ⊢
           refine sq (rg (oA (Z1 oz (mA 1 rfl) (pA 0 rfl) (by assumption)) (pA 0 rfl) rfl rfl (fun q21_0 hq21_0 => ?_)))
           refine oP (J6 oz) rfl (tn (nn (sq (tc oz (fun c121 => ?_) (fun c121 => ?_)))))
           · obtain ⟨i2, o2⟩ := q21_0
             obtain ⟨key, rfl⟩ : ∃ k, o2 = some k := by
              cases o2 with
              | none => exact Bool.noConfusion c121
              | some k => exact ⟨k, rfl⟩
             dsimp only at hq21_0 c121 ⊢
             obtain ⟨hkt, hok2⟩ := hq21_0
             obtain ⟨t, htv⟩ := Qbc (hrk.sub _ hkt)
             obtain ⟨rfl, htn⟩ := hmk.lkp htv
             have hlt : Qc3 t.length (nv n.v.2.2.2.1 (k + 1)) (ix (Qa n.v.2.2.2.1) a.1) (ix (Qa n.v.2.2.2.1) a.2.2) := by rw [htn.1]; exact Qdn hk hak
             have htl : t.length ≤ 16 := by rw [htn.1]; exact Qo8 _ _ hal8
             refine sk (nn (tb (sq (rg (oP (Ye (D := IsV _) oz (mA 0 rfl) (mA 1 rfl) (by assumption) (by assumption) (fun H => rfl)) rfl ?_)))))
             refine oP (Qd oz rfl) rfl (av rfl rfl (tn (nn (rg (mv rfl rfl (mv rfl rfl (oP (pf oz ye8) rfl (oP (plb oz (mA 6 rfl) le0 ynm) rfl (oP (pf oz y9l) rfl (oP (plb oz (mA 6 rfl) le2 ynm) rfl (oA (Z6 oz (CtV.of [pt g0_0 0, pt g8_3 0, pt g9_1 0] (Qn2 n k t e.1 e.2.2 a g0_0 g8_3 g9_1 g9_0 nx hk ha hlt (by omega)) (by kernel_rfl)) (oc oz (oc oz (oc oz oN))) (Qez 7 5 3 2 rfl rfl rfl rfl)) (Qez 7 5 3 2 rfl rfl rfl rfl) rfl rfl (fun _ _ => ?_))))))))))))
             refine tn (bn (nn ?_))
             have hle : (ers todo (idB t)).length = todo.length - 1 := Qa6 hkt
             have hpos := List.length_pos_of_mem hkt
             exact tg (i2, ers todo (idB t), some (idB t), Qmm nx (G1 n.v.2.2.2.1 a t (e.1, e.2.2))) ⟨hok2, Q0h hinE hE2 hk hak hll2 htn hrk.nd hkt hnx⟩ (by show (ers todo (idB t)).length < todo.length; omega) ef (op (by (repeat (first | refine pc 0 rfl ?_ | refine pc 1 rfl ?_ | refine pc 2 rfl ?_ | refine pc 3 rfl ?_ | refine pc 4 rfl ?_)); exact pl))
           obtain ⟨i2, o2⟩ := q21_0
           obtain rfl : o2 = none := by
            cases o2 with
            | none => rfl
            | some k => exact Bool.noConfusion c121
           dsimp only at hq21_0 ⊢
           obtain ⟨rfl, hok2⟩ := hq21_0
           refine Uv (Qq 1 rfl) (Q4 (Qqw (X := [_, _, _, _, _, _, _, _, _]) hgk hlvk) (Qx (tx (tx (bh (nn ?_))))))
           exact Y2 nx (Q0i hk hak hE2 hne hll2 hnx) ef (op (by (repeat (first | refine pc 1 rfl ?_ | refine pc 8 rfl ?_)); exact pd (pl)))
        have hll2 : ¬ a.2.1 = e.2.1 := of_decide_eq_false c111
        refine sk (nn ?_)
        exact Y2 nx (Q0j hk hak hE2 hne hll2 hnx) ef (op (by (repeat (first | refine pc 0 rfl ?_ | refine pc 1 rfl ?_)); exact pd (pl)))
      rintro ny hny
      refine sq (sq (W7 (Qq 0 rfl) fun s2 => (Q4 (Qgw (X := [_, _, _, _, _, _, _, _]) hgk hlvk) (rg (mv rfl rfl (oA (Z0 Tryz.underlying117 oz (mA 1 rfl)) pR rfl rfl (fun r24_1 hr24_1 => ?_)))))))
      refine tn (nn (tb (Qt (σ := IS × List Lab × Option Lab × Rw) (e8 2 3 6 8 75 76 77 132 rfl en) (fun s => []) (fun s => (K4 r24_1.1 gfr s.1 :: Ju gfr encS kT.T fr s2 :: Qg n.gl[k] encS kT.T s.2.2.2 :: Qg g9_0 encS kT.T ny :: Qb g9_1 117 Q3 (mp g9_0) :: Qb g8_3 3 kI (k : Int) :: Qb g0_0 78 (kpt J7) (some (Y9 n)) :: Qb g0_1 42 kE e :: Qg n.gc encS kI.T ct :: (lvI (n.gl.eraseIdx k) (lvk.eraseIdx k) ++ AlI n al'))) (fun s => Jk fr s2 s.1 s.2.1 s.2.2.1 ∧ Xk s.2.2.2 (R4 n.v.2.2.2.1 E E' k s.2.1)) (fun s => s.2.1.length) (r24_1.2, keys fr, none, lvk[k]) ⟨hr24_1, Qmt hmk hin.fr⟩ ?_ (op (by (repeat (first | refine pc 0 rfl ?_ | refine pc 1 rfl ?_ | refine pc 2 rfl ?_)); exact pd (pl))) ?_)))
      · exact en
      rintro ⟨i, todo, cur, m⟩ ⟨hrk, hmm⟩
      dsimp only at hrk hmm ⊢
      refine sq (rg (oA (Z1 oz (mA 1 rfl) (pA 0 rfl) (by assumption)) (pA 0 rfl) rfl rfl (fun q25_0 hq25_0 => ?_)))
      refine oP (J6 oz) rfl (tn (nn (sq (tc oz (fun c134 => ?_) (fun c134 => ?_)))))
      · obtain ⟨i2, o2⟩ := q25_0
        obtain ⟨key, rfl⟩ : ∃ k, o2 = some k := by
         cases o2 with
         | none => exact Bool.noConfusion c134
         | some k => exact ⟨k, rfl⟩
        dsimp only at hq25_0 c134 ⊢
        obtain ⟨hkt, hok2⟩ := hq25_0
        obtain ⟨t, htv⟩ := Qbc (hrk.sub _ hkt)
        obtain ⟨rfl, htn⟩ := hin.fr.lkp htv

        refine sk (nn (tb (sq (rg (oP (Ye (D := IsV _) oz (mA 0 rfl) (mA 1 rfl) (by assumption) (by assumption) (fun H => rfl)) rfl ?_)))))
        refine oP (Qd oz rfl) rfl (oP (Qd oz rfl) rfl (av rfl rfl (av rfl rfl (tn (nn ?_)))))
        apply Xs (m := 9) (ns := [[(2, none)], [(138, some 0)], [(139, some 1)], [(140, some 2)], [(6, none)], [(141, some 3), (142, some 4)], [(143, some 5)], [(16, none)], [(17, none)]]) (by kernel_rfl) (by kernel_rfl) (Ts := [_, _, _, _, _, _, _, _, _]) rfl
        case hops =>
         exact ⟨rP (plv oz (mA 6 rfl) yve), rP (Qp oz), rP (Qr oz ln6 yn5), rP (pL oz y2a), rP (plv oz (mA 5 rfl) ynm), rP (Qj oz oz Tryz.underlying113 y3m (by omega) (by show ((k : Nat) : Int) < ((n.gl.map mp).length : Int); rw [List.length_map]; omega)), rP (Qll (T' := IsV (mp n.gl[k])) (Q8 oz y3m) (congrArg IsV (Qj7 hgk))), rmv rfl, rmv rfl, trivial⟩
        case h =>
         refine oA (X4 (v := t) (V := kT.T) mkS Tryz.underlying117 oz (pA 2 rfl) oz oz) (pA 2 rfl) rfl rfl (fun _ _ => ?_)
         refine tn (bn (nn ?_))
         have hle : (ers todo (idB t)).length = todo.length - 1 := Qa6 hkt
         have hpos := List.length_pos_of_mem hkt
         exact tg (i2, ers todo (idB t), some (idB t), ptk (idB t) t m) ⟨hok2, Qqu hinE hE2s htn hrk.nd hkt hmm⟩ (by show (ers todo (idB t)).length < todo.length; omega) ef (op (by (repeat (first | refine pc 0 rfl ?_ | refine pc 1 rfl ?_)); exact pl))
      obtain ⟨i2, o2⟩ := q25_0
      obtain rfl : o2 = none := by
       cases o2 with
       | none => rfl
       | some k => exact Bool.noConfusion c134
      dsimp only at hq25_0 ⊢
      obtain ⟨rfl, hok2⟩ := hq25_0
      refine Uv (Qq 1 rfl) (Q4 (Qq 2 rfl) (Q4 (Qe0 (X := [_, _, _, _, _, _, _, _]) hgk hlvk) (Qx (tx (tx (bh (nn (rg (oP (X9 oz (mA 3 rfl) y3m) rfl (av rfl rfl (tn (bn (nn (rg (oP (pad oz ot (by omega)) rfl (mv rfl rfl (tn (nn ?_))))))))))))))))))
      exact tg (k + 1, g9_0, ny, lvk.set k m) (hin.next hk hny (Qqv hE2s hmm)) (by show n.v.2.2.2.1.length - (k + 1) < n.v.2.2.2.1.length - k; omega) ef (op (by (repeat (first | refine pc 2 rfl ?_ | refine pc 4 rfl ?_ | refine pc 5 rfl ?_)); exact pd (pd (pd (pd (pl))))))
    refine Qx (tx (tx (bh (nn (sq ?_)))))
    obtain rfl : k = n.v.2.2.2.1.length := by have := hin.kle; simp only [decide_eq_false_iff_not] at c78; omega
    refine rg (oP (plv oz (mA 2 rfl) yve) rfl (oP (Qp oz) rfl (oP (Qr oz ln0 yhd) rfl (oP (Qr oz lv3 y46) rfl (oP (pL oz y2r) rfl (Zt 153 (T := SlT kA n.v.2.2.2.1) oz (oP (pls oz Tryz.underlying23) rfl (av rfl rfl (tn (nn (sq ?_)))))))))))
    have hgl := hok.gl
    have hll := hin.len
    have hgk : n.v.2.2.2.1.length < n.gl.length := by omega
    have hlvk : n.v.2.2.2.1.length < lvk.length := by omega
    have hmk := hin.here hlvk
    have hcn0 : Y7 ct (fun r => idB (proj (Qa n.v.2.2.2.1) n.v.2.2.1 r)) (lvk[n.v.2.2.2.1.length].map Prod.snd) := Qh3 (hok.rows _ (Nat.le_refl _)) hmk hok.cnt
    refine W7 (Qq 0 rfl) fun s3 => (Q4 (Qgw (X := [_, _, _, _]) hgk hlvk) (rg (mv rfl rfl (oA (Z0 Tryz.underlying117 oz (mA 1 rfl)) pR rfl rfl (fun r31_1 hr31_1 => ?_)))))
    refine tn (nn (tb (Qt (σ := IS × List Lab × Option Lab × Rw × List (Lab × Int)) (e2 2 18 rfl (ec 156 rfl en)) (fun s => []) (fun s => (K4 r31_1.1 gfr s.1 :: Ju gfr encS kT.T fr s3 :: Qg n.gl[n.v.2.2.2.1.length] encS kT.T s.2.2.2.1 :: Qg n.gc encS kI.T s.2.2.2.2 :: Qb g0_1 42 kE e :: Qb g0_0 78 (kpt J7) (some (Y9 n)) :: (lvI (n.gl.eraseIdx n.v.2.2.2.1.length) (lvk.eraseIdx n.v.2.2.2.1.length) ++ AlI n al'))) (fun s => Jk fr s3 s.1 s.2.1 s.2.2.1 ∧ Xk s.2.2.2.1 (R4 n.v.2.2.2.1 E E' n.v.2.2.2.1.length s.2.1) ∧ Y7 s.2.2.2.2 (fun r => idB (proj (Qa n.v.2.2.2.1) n.v.2.2.1 r)) (s.2.2.2.1.map Prod.snd)) (fun s => s.2.1.length) (r31_1.2, keys fr, none, lvk[n.v.2.2.2.1.length], ct) ⟨hr31_1, Qmt hmk hin.fr, hcn0⟩ ?_ (op (by (repeat (first | refine pc 0 rfl ?_ | refine pc 1 rfl ?_ | refine pc 2 rfl ?_)); exact pl)) ?_)))
    · exact en
    rintro ⟨i, todo, cur, m, c⟩ ⟨hrk, hmm, hcn⟩
    dsimp only at hrk hmm hcn ⊢
    refine sq (rg (oA (Z1 oz (mA 1 rfl) (pA 0 rfl) (by assumption)) (pA 0 rfl) rfl rfl (fun q32_0 hq32_0 => ?_)))
    refine oP (J6 oz) rfl (tn (nn (sq (tc oz (fun c158 => ?_) (fun c158 => ?_)))))
    · obtain ⟨i2, o2⟩ := q32_0
      obtain ⟨key, rfl⟩ : ∃ k, o2 = some k := by
       cases o2 with
       | none => exact Bool.noConfusion c158
       | some k => exact ⟨k, rfl⟩
      dsimp only at hq32_0 c158 ⊢
      obtain ⟨hkt, hok2⟩ := hq32_0
      obtain ⟨t, htv⟩ := Qbc (hrk.sub _ hkt)
      obtain ⟨rfl, htn⟩ := hin.fr.lkp htv
      have hsm := Qjp hmm (fun u hu => Qk5 hE2s hu) hals'.nd hEl (Nat.le_refl _) hal8
      have hcb := Qwc hcn hsm (idB (proj (Qa n.v.2.2.2.1) n.v.2.2.1 t))
      have htl : t.length ≤ 16 := by rw [htn.1.1]; exact Qo8 _ _ hal8
      have hvo : ∀ o ∈ n.v.2.2.1, ix (Qa n.v.2.2.2.1) o < t.length := fun o ho => by rw [htn.1.1, Qo9]; exact Qqf (hov o ho)
      have hnk := Q3f hinE hE2s htn hkt hmm
      refine sk (nn (tb (sq (rg (oP (Ye (D := IsV _) oz (mA 0 rfl) (mA 1 rfl) (by assumption) (by assumption) (fun H => rfl)) rfl ?_)))))
      refine oP (Qd oz rfl) rfl (oP (Qd oz rfl) rfl (av rfl rfl (av rfl rfl (tn (nn (sq (rg (oP (plv oz (mA 5 rfl) yve) rfl (oP (Qp oz) rfl (oP (Qr oz ln6 yn5) rfl (oP (pL oz y2a) rfl (mv rfl rfl (oP (Qj oz oz Tryz.underlying113 y3m (by omega) (by show ((n.v.2.2.2.1.length : Nat) : Int) < ((n.gl.map mp).length : Int); rw [List.length_map]; omega)) rfl ?_)))))))))))))
      rw [show at' (Y9 n).2.2.2.2.2.2.1 ((n.v.2.2.2.1.length : Nat) : Int) = mp n.gl[n.v.2.2.2.1.length] from Qj7 (by omega)]
      refine oP (Q8 oz y3m) rfl (mv rfl rfl (oP (Qhk mkS Tryz.underlying117 zT oz (mA 2 rfl) oz) rfl (mv rfl rfl (oP (Qd oz rfl) rfl (oP (Qd oz rfl) rfl (av rfl rfl (av rfl rfl (tn (nn (sq (rg (mv rfl rfl (oP (Zf oz) rfl (tn (nn (tc oz (fun c175 => ?_) (fun c175 => ?_)))))))))))))))))
      · refine sq (rg (oP (plv oz (mA 5 rfl) yve) rfl (oP (Qp oz) rfl (oP (Qr oz ln6 yn5) rfl (oP (pL oz y2a) rfl (mv rfl rfl (oP (Qj oz oz Tryz.underlying113 y3m (by omega) (by show ((n.v.2.2.2.1.length : Nat) : Int) < ((n.gl.map mp).length : Int); rw [List.length_map]; omega)) rfl ?_)))))))
        rw [show at' (Y9 n).2.2.2.2.2.2.1 ((n.v.2.2.2.1.length : Nat) : Int) = mp n.gl[n.v.2.2.2.1.length] from Qj7 (by omega)]
        refine oP (Q8 oz y3m) rfl (mv rfl rfl (mv rfl rfl (oA (X4 (v := t) (V := kT.T) mkS Tryz.underlying117 oz (pA 2 rfl) oz oz) (pA 2 rfl) rfl rfl (fun _ _ => ?_))))
        refine tn (nn ?_)
        apply Xs (m := 7) (ns := [[(2, none)], [(185, some 0)], [(186, some 1)], [(187, some 2)], [(2, none)], [(20, none)], [(189, some 4), (190, some 5)]]) (by kernel_rfl) (by kernel_rfl) (Ts := [_, _, _, _, _, _, _]) rfl
        case hops =>
         exact ⟨rP (plv oz (mA 5 rfl) yve), rP (Qp oz), rP (Qr oz ln7 yw2), rP (Q8 oz ydm), rP (plv oz (mA 5 rfl) yve), rmv rfl, Zc rfl (aC (Qj8 n t hvo (by omega)) yp7 (oc oz (oc oz oN)) pR) (fun _ _ _ _ h => h), trivial⟩
        case h =>
         refine oP (Xq mkS Tryz.underlying112 zI oz (mA 3 rfl) oz) rfl (oP (pad oz ot (by omega)) rfl (oA (X4 (V := kI.T) mkS Tryz.underlying112 oz (pA 3 rfl) oz oz) (pA 3 rfl) rfl rfl (fun _ _ => ?_)))
         refine tn (bn (nn ?_))
         have hle : (ers todo (idB t)).length = todo.length - 1 := Qa6 hkt
         have hpos := List.length_pos_of_mem hkt
         exact tg (i2, ers todo (idB t), some (idB t), ptk (idB t) t m, ptk (idB (proj (Qa n.v.2.2.2.1) n.v.2.2.1 t)) ((lkp (idB (proj (Qa n.v.2.2.2.1) n.v.2.2.1 t)) c).getD 0 + 1) c) ⟨hok2, Qqu hinE hE2s htn hrk.nd hkt hmm, (hcn.put t).perm (Q0k hnk).symm⟩ (by show (ers todo (idB t)).length < todo.length; omega) ef (op (by (repeat (first | refine pc 0 rfl ?_ | refine pc 1 rfl ?_ | refine pc 2 rfl ?_)); exact pl))
      exfalso
      rw [Xx.2 hnk] at c175
      cases c175 --done
    obtain ⟨i2, o2⟩ := q32_0
    obtain rfl : o2 = none := by
     cases o2 with
     | none => rfl
     | some k => exact Bool.noConfusion c158
    dsimp only at hq32_0 ⊢
    obtain ⟨rfl, hok2⟩ := hq32_0
    refine Q4 (Qq 2 rfl) (Q4 (Qe0 (X := [_, _, _, _, _]) hgk hlvk) (Qx (tx (tx (bh ?_)))))
    exact U7 .normal (.inr rfl) rfl (al', lvk.set n.v.2.2.2.1.length m, c) (fun _ => trivial) ⟨hals', hok.gl, (by show (lvk.set _ m).length = _; rw [List.length_set]; exact hin.len), Q0l hin (Qqv hE2s hmm), (by show Y7 c _ (((lvk.set _ m).getD _ []).map Prod.snd); rw [Qe1 hlvk]; exact hcn)⟩ (by (repeat (refine pc 2 rfl ?_)); exact pd (pd (pd (pd (pl)))))
section
variable {al : List Atm} {E E' : List Ed} {k : Nat} {e : Ed} {t : Tp} {todo : List Lab} {m : Rw}
def R5 (al : List Atm) (E : List Ed) (k : Nat) (e : Ed) (todo : List Lab) (s : Tp) : Prop := RwK al E k s ∧ (idB s ∈ todo ∨ Wn al k s e = false)
theorem Qwd (h : Xk m (RwK al E k)) : Xk m (R5 al E k e (keys m)) := h.congr fun s => ⟨fun h1 => ⟨h1, .inl (h.key.2 ⟨s, rfl, h1⟩)⟩, fun h1 => h1.1⟩
theorem Q0n (hE : ∀ e ∈ E, inI e.1 ∧ inI e.2.2) (ht : RwK al E k t) (hn : todo.Nodup) (hu : Wn al k t e = false) (h : Xk m (R5 al E k e todo)) : Xk m (R5 al E k e (ers todo (idB t))) := h.congr fun s => by
 unfold R5
 rw [Qct hn]
 constructor
 · rintro ⟨h1, h2 | h2⟩
   · by_cases c : idB s = idB t
     · have := Uw (Y0 hE h1) (Y0 hE ht) c
       subst this; exact ⟨h1, .inr hu⟩
     exact ⟨h1, .inl ⟨c, h2⟩⟩
   exact ⟨h1, .inr h2⟩
 rintro ⟨h1, h2 | h2⟩
 · exact ⟨h1, .inl h2.2⟩
 exact ⟨h1, .inr h2⟩
theorem Qpa (hE : ∀ e ∈ E, inI e.1 ∧ inI e.2.2) (ht : RwK al E k t) (hn : todo.Nodup) (hu : Wn al k t e = true) (h : Xk m (R5 al E k e todo)) : Xk (dlk (idB t) m) (R5 al E k e (ers todo (idB t))) := (h.del (Y0 hE ht) fun u hu => Y0 hE hu.1).congr fun s => by
 unfold R5
 rw [Qct hn]
 constructor
 · rintro ⟨⟨h1, h2 | h2⟩, h3⟩
   · exact ⟨h1, .inl ⟨fun c => h3 (Uw (Y0 hE h1) (Y0 hE ht) c), h2⟩⟩
   exact ⟨h1, .inr h2⟩
 rintro ⟨h1, h2 | h2⟩
 · exact ⟨⟨h1, .inl h2.2⟩, fun c => h2.1 (by rw [c])⟩
 exact ⟨⟨h1, .inr h2⟩, fun c => by subst c; rw [hu] at h2; cases h2⟩
theorem Q0o (hE : ∀ x, x ∈ E' ↔ x ∈ E ∧ x ≠ e) (h : Xk m (R5 al E k e [])) : Xk m (RwK al E' k) := h.congr fun s => by
 rw [Qsj hE]
 unfold R5
 simp
theorem Q0p (h : lkp (idB t) m = some t) : (m.map Prod.snd).Perm (t :: (dlk (idB t) m).map Prod.snd) := (Uc h).map Prod.snd
structure Qmv (al : List Atm) (E E' : List Ed) (f : Tp → Lab) (k : Nat) (lv : List Rw) (c : List (Lab × Int)) : Prop where
 k1 : 1 ≤ k
 kle : k ≤ al.length + 1
 len : lv.length = al.length + 1
 rows : ∀ j, j ≤ al.length → Xk (lv.getD j []) (fun t => (j < k ∧ RwK al E' j t) ∨ (¬ j < k ∧ RwK al E j t))
 cnt : Y7 c f ((lv.getD al.length []).map Prod.snd)
theorem Qmv.here {f : Tp → Lab} {lv : List Rw} {c : List (Lab × Int)} (h : Qmv al E E' f k lv c) (hk : k < lv.length) : Xk lv[k] (RwK al E k) := by
 have h1 := h.rows k (by have := h.len; omega)
 rw [List.getD_eq_getElem?_getD, List.getElem?_eq_getElem hk] at h1
 exact h1.congr fun t => by simp
theorem Qmv.next {f : Tp → Lab} {lv : List Rw} {c c' : List (Lab × Int)} (h : Qmv al E E' f k lv c) (hk : k < al.length + 1) (hm : Xk m (RwK al E' k)) (hc : Y7 c' f (((lv.set k m).getD al.length []).map Prod.snd)) : Qmv al E E' f (k + 1) (lv.set k m) c' where
 k1 := by omega
 kle := by omega
 len := by rw [List.length_set]; exact h.len
 cnt := hc
 rows := fun j hj => by
  have hl := h.len
  by_cases c : j = k
  · subst c
    rw [List.getD_eq_getElem?_getD, List.getElem?_set_self (by omega)]
    exact hm.congr fun t => by simp
  rw [List.getD_eq_getElem?_getD, List.getElem?_set_ne (Ne.symm c), ← List.getD_eq_getElem?_getD]
  refine (h.rows j hj).congr fun t => ?_
  have e : j < k ↔ j < k + 1 := by omega
  rw [e]
theorem Qsq {f : Tp → Lab} {lv : List Rw} {c : List (Lab × Int)} (hl : lv.length = al.length + 1) (h : ∀ k, k ≤ al.length → Xk (lv.getD k []) (RwK al E k)) (hc : Y7 c f ((lv.getD al.length []).map Prod.snd)) : Qmv al E E' f 1 lv c := ⟨Nat.le_refl _, by omega, hl, fun j hj => (h j hj).congr fun t => by
 by_cases e : j = 0
 · subst e; rw [V2, V2]; simp
 have : ¬ j < 1 := by omega
 simp [this], hc⟩
theorem Q0q {f : Tp → Lab} {lv : List Rw} {c : List (Lab × Int)} (h : Qmv al E E' f (al.length + 1) lv c) : ∀ k, k ≤ al.length → Xk (lv.getD k []) (RwK al E' k) := fun j hj => (h.rows j hj).congr fun t => by
 have : j < al.length + 1 := by omega
 simp [this]
theorem Q3g {lv : List Rw} {k j : Nat} {m m' : Rw} (h : ¬ k = j) : (lv.set k m).getD j [] = (lv.set k m').getD j [] := by
 rw [List.getD_eq_getElem?_getD, List.getD_eq_getElem?_getD, List.getElem?_set_ne h, List.getElem?_set_ne h]
theorem Qqx {s : Lab} {n : Int} {c : List (Lab × Int)} : (lkp s (ptk s n c)).getD 0 = n := by rw [Xl, if_pos rfl]; rfl
end
end Go.Proofs.YtklhdalppmjnaaaGreatDoor
namespace Go.Proofs.YtklhdalppmjnaaaGreatDoor
open Go Go.Gw Go.So Go.Tu Go.Jn Go.Nt

/-- (*rhizome/net.Net).remove -/
theorem Qka (n : NO) (al : AlM) (lv : List Rw) (ct : List (Lab × Int)) (E : List Ed) (e : Ed) (hv : okV n.v = true) (hok : Jq n al lv ct E) (hin : e ∈ E) (hE9 : E.length ≤ 100) : Ct Tryz.prog 211 [AtT J7 (Y9 n), kE.T e] (Qev n al lv ct) (AlM × List Rw × List (Lab × Int)) (fun r => Yu) (fun r => Qev n r.1 r.2.1 r.2.2) (fun r => Jq n r.1 r.2.1 r.2.2 (Qal E e)) := by
 refine Qn Tryz.func211 rfl rfl ?_
 intro H w
 obtain ⟨ho6, ha1, hal8, hov⟩ := Qb7 hv
 have hals := hok.als
 obtain ⟨x, hlk⟩ : ∃ x, lkp e.2.1 al = some x := by
  cases hx : lkp e.2.1 al with
  | none => exact absurd rfl (hals.none_ _ hx e hin)
  | some x => exact ⟨x, rfl⟩
 have hxb := (hals.some_ _ _ hlk).b hals.nd (by omega)
 have hfl := hxb.f e.1
 have htl0 := hxb.t e.2.2
 have hE2 : ∀ y, y ∈ Qal E e ↔ y ∈ E ∧ y ≠ e := fun y => Wi
 have hinE := hals.inE
 have hgl := hok.gl
 refine sq (rg (oA (Xf (d := kE) oz) pR rfl rfl (fun g0_0 _ => ?_)))
 refine tn (nn (sq ?_))
 apply Xs (m := 6) (ns := [[(0, none)], [(10, some 0)], [(11, some 1)], [(12, some 2)], [(3, none)], [(14, some 4)]]) (by kernel_rfl) (by kernel_rfl) (Ts := [_, _, _, _, _, _]) rfl
 case hops =>
  exact ⟨rmv rfl, rP (Qp oz), rP (Qr oz ln5 yha), rP (Q8 oz y32), rP (pf oz yh3), rP (plb oz (mA 0 rfl) le1 ylw), trivial⟩
 case h =>
  refine oP (Xq mkS Tryz.underlying111 zPA oz (List.mem_cons_of_mem _ (List.mem_cons_of_mem _ (List.mem_append_right _ List.mem_cons_self))) oz) rfl (av rfl rfl (tn ?_))
  rw [Qak, hlk]
  refine Zt 4 (T := AtT kAl (ptA x)) oz (Qmr (X := [_, _]) (Y := lvI n.gl lv) e.1 e.2.2 hlk (nn (sq ?_)))
  apply Xs (m := 9) (ns := [[(4, none)], [(17, some 0)], [(18, some 1)], [(19, some 2)], [(3, none)], [(21, some 4)], [(3, none)], [(23, some 6)], [(22, some 5), (24, some 7)]]) (by kernel_rfl) (by kernel_rfl) (Ts := [_, _, _, _, _, _, _, _, _]) rfl
  case hops =>
   exact ⟨rmv rfl, rP (Qp oz), rP (Qr oz lx2 y7a), rP (Q8 oz yht), rP (pf oz ye8), rP (plb oz (mA 6 rfl) le0 ynm), rP (pf oz y9l), rP (plb oz (mA 6 rfl) le2 ynm), rP (Xt (d := kPP) (v0 := (0, 0)) (agg := false) Tryz.underlying108 ynm zP rfl (Qk rfl Qf.p0 oz (Qk rfl Qf.p1 oz Qc))), trivial⟩
  case h =>
   refine oA (Ve mkP Tryz.underlying121 rfl oz (pA 0 rfl) oz) (pA 0 rfl) rfl rfl (fun _ _ => ?_)
   refine tn (nn (sq (rg (oP (Xz OT.func) rfl (tn (nn (sq ?_)))))))
   apply Yg (ρ := Value) (φ := fun rr => True) (p := 16) (Lf := fun c rr => cond c (Qh 3 kI rr (fx e.2.2 ((lkp e.1 x.frm).getD (Qo, [])).2) :: Qg x.gh Zu Xd.T (dlk (e.1, e.2.2) x.has) :: Qg x.gf encI IsV (hdV x.frm) :: Qg x.gt encI IsV (hdV x.to) :: Qh 3 kI ((lkp e.2.2 (hdV x.to)).getD Qo) ((lkp e.2.2 x.to).getD (Qo, [])).2 :: Qg n.ga encS (kpt kAl).T (Zn al) :: Qb g0_0 42 kE e :: Qg n.gc encS kI.T ct :: (lvI n.gl lv ++ Qbk al e.2.1 x e.1 e.2.2)) (Qg x.gh Zu Xd.T (dlk (e.1, e.2.2) x.has) :: Qg x.gf encI IsV (hdV x.frm) :: Qg x.gt encI IsV (hdV x.to) :: Qh 3 kI ((lkp e.1 (hdV x.frm)).getD Qo) ((lkp e.1 x.frm).getD (Qo, [])).2 :: Qh 3 kI ((lkp e.2.2 (hdV x.to)).getD Qo) ((lkp e.2.2 x.to).getD (Qo, [])).2 :: Qg n.ga encS (kpt kAl).T (Zn al) :: Qb g0_0 42 kE e :: Qg n.gc encS kI.T ct :: (lvI n.gl lv ++ Qbk al e.2.1 x e.1 e.2.2))) Qo (by kernel_rfl) (m := 17) (ns := [[(4, none)], [(26, some 0)], [(27, some 1)], [(28, some 2)], [(3, none)], [(30, some 4)], [(5, none)], [(4, none)], [(33, some 7)], [(34, some 8)], [(35, some 9)], [(3, none)], [(37, some 11)], [(36, some 10), (38, some 12)], [(3, none)], [(40, some 14)], [(32, some 6), (39, some 13), (41, some 15)]]) (by kernel_rfl) (by kernel_rfl) (Ts := fun rr => [_, _, _, _, _, _, _, _, _, _, _, _, _, _, _, _, IsV rr]) (fun _ => rfl)
   case hops =>
    refine ⟨?_, ?_, ?_, ?_, ?_, ?_, ?_, ?_, ?_, ?_, ?_, ?_, ?_, ?_, ?_, ?_, ?_, trivial⟩
    · exact ⟨by intro c r hc; cases c <;> exact rgo r rfl ⟨rfl, trivial⟩ (rmv rfl), fun _ _ _ _ => rfl⟩
    · exact ⟨by intro c r hc; cases c <;> exact rgo r rfl ⟨rfl, trivial⟩ (rP (Qp oz)), fun _ _ _ _ => rfl⟩
    · exact ⟨by intro c r hc; cases c <;> exact rgo r rfl ⟨rfl, trivial⟩ (rP (Qr oz lx0 ya0)), fun _ _ _ _ => rfl⟩
    · exact ⟨by intro c r hc; cases c <;> exact rgo r rfl ⟨rfl, trivial⟩ (rP (Q8 oz y30)), fun _ _ _ _ => rfl⟩
    · exact ⟨by intro c r hc; cases c <;> exact rgo r rfl ⟨rfl, trivial⟩ (rP (pf oz ye8)), fun _ _ _ _ => rfl⟩
    · exact ⟨by intro c r hc; cases c <;> exact rgo r rfl ⟨rfl, trivial⟩ (rP (plb oz (mA 6 rfl) le0 ynm)), fun _ _ _ _ => rfl⟩
    · exact ⟨cBf (by kernel_rfl) fun r _ => rgo r rfl ⟨rfl, trivial⟩ (rmv rfl), fun _ _ _ _ => rfl⟩
    · exact ⟨cBf (by kernel_rfl) fun r _ => rgo r rfl ⟨rfl, trivial⟩ (rmv rfl), fun _ _ _ _ => rfl⟩
    · exact ⟨cBf (by kernel_rfl) fun r _ => rgo r rfl ⟨rfl, trivial⟩ (rP (Qp oz)), fun _ _ _ _ => rfl⟩
    · exact ⟨cBf (by kernel_rfl) fun r _ => rgo r rfl ⟨rfl, trivial⟩ (rP (Qr oz lx0 ya0)), fun _ _ _ _ => rfl⟩
    · exact ⟨cBf (by kernel_rfl) fun r _ => rgo r rfl ⟨rfl, trivial⟩ (rP (Q8 oz y30)), fun _ _ _ _ => rfl⟩
    · exact ⟨cBf (by kernel_rfl) fun r _ => rgo r rfl ⟨rfl, trivial⟩ (rP (pf oz ye8)), fun _ _ _ _ => rfl⟩
    · exact ⟨cBf (by kernel_rfl) fun r _ => rgo r rfl ⟨rfl, trivial⟩ (rP (plb oz (mA 6 rfl) le0 ynm)), fun _ _ _ _ => rfl⟩
    · exact ⟨cBf (by kernel_rfl) fun r _ => rgo r rfl ⟨rfl, trivial⟩ (rP (X7 mkI Tryz.underlying120 (z0 := Qo) (by kernel_rfl) oz (mA 1 rfl) oz)), fun _ _ _ _ => rfl⟩
    · exact ⟨cBf (by kernel_rfl) fun r _ => rgo r rfl ⟨rfl, trivial⟩ (rP (pf oz y9l)), fun _ _ _ _ => rfl⟩
    · exact ⟨cBf (by kernel_rfl) fun r _ => rgo r rfl ⟨rfl, trivial⟩ (rP (plb oz (mA 6 rfl) le2 ynm)), fun _ _ _ _ => rfl⟩
    refine ⟨?_, ?_⟩
    · exact cBf (by kernel_rfl) fun r _ => Zg rfl (Z6 oz (CtV.of0 (Qrd ((lkp e.1 (hdV x.frm)).getD Qo) ((lkp e.1 x.frm).getD (Qo, [])).2 e.2.2 (by omega)) (by kernel_rfl)) (oc oz (oc oz oN)) (pA 3 rfl)) (pA 3 rfl) (fun r => pR) (fun _ _ _ => trivial) (fun _ _ _ _ h => h)
    exact fun _ h => absurd h (by decide)
   case h =>
    intro v4_16 _
    refine oA (X4 mkI Tryz.underlying120 oz (pA 2 rfl) oz oz) (pA 2 rfl) rfl rfl (fun _ _ => ?_)
    refine tn (nn (sq ?_))
    apply Yg (ρ := Value) (φ := fun rr => True) (p := 16) (Lf := fun c rr => cond c (Qh 3 kI rr (fx e.1 ((lkp e.2.2 x.to).getD (Qo, [])).2) :: Qg x.gf encI IsV (ptk e.1 v4_16 (hdV x.frm)) :: Qh 3 kI v4_16 (fx e.2.2 ((lkp e.1 x.frm).getD (Qo, [])).2) :: Qg x.gh Zu Xd.T (dlk (e.1, e.2.2) x.has) :: Qg x.gt encI IsV (hdV x.to) :: Qg n.ga encS (kpt kAl).T (Zn al) :: Qb g0_0 42 kE e :: Qg n.gc encS kI.T ct :: (lvI n.gl lv ++ Qbk al e.2.1 x e.1 e.2.2)) (Qg x.gf encI IsV (ptk e.1 v4_16 (hdV x.frm)) :: Qh 3 kI v4_16 (fx e.2.2 ((lkp e.1 x.frm).getD (Qo, [])).2) :: Qg x.gh Zu Xd.T (dlk (e.1, e.2.2) x.has) :: Qg x.gt encI IsV (hdV x.to) :: Qh 3 kI ((lkp e.2.2 (hdV x.to)).getD Qo) ((lkp e.2.2 x.to).getD (Qo, [])).2 :: Qg n.ga encS (kpt kAl).T (Zn al) :: Qb g0_0 42 kE e :: Qg n.gc encS kI.T ct :: (lvI n.gl lv ++ Qbk al e.2.1 x e.1 e.2.2))) Qo (by kernel_rfl) (m := 17) (ns := [[(4, none)], [(43, some 0)], [(44, some 1)], [(45, some 2)], [(3, none)], [(47, some 4)], [(5, none)], [(4, none)], [(50, some 7)], [(51, some 8)], [(52, some 9)], [(3, none)], [(54, some 11)], [(53, some 10), (55, some 12)], [(3, none)], [(57, some 14)], [(49, some 6), (56, some 13), (58, some 15)]]) (by kernel_rfl) (by kernel_rfl) (Ts := fun rr => [_, _, _, _, _, _, _, _, _, _, _, _, _, _, _, _, IsV rr]) (fun _ => rfl)
    case hops =>
     refine ⟨?_, ?_, ?_, ?_, ?_, ?_, ?_, ?_, ?_, ?_, ?_, ?_, ?_, ?_, ?_, ?_, ?_, trivial⟩
     · exact ⟨by intro c r hc; cases c <;> exact rgo r rfl ⟨rfl, trivial⟩ (rmv rfl), fun _ _ _ _ => rfl⟩
     · exact ⟨by intro c r hc; cases c <;> exact rgo r rfl ⟨rfl, trivial⟩ (rP (Qp oz)), fun _ _ _ _ => rfl⟩
     · exact ⟨by intro c r hc; cases c <;> exact rgo r rfl ⟨rfl, trivial⟩ (rP (Qr oz lx1 ye0)), fun _ _ _ _ => rfl⟩
     · exact ⟨by intro c r hc; cases c <;> exact rgo r rfl ⟨rfl, trivial⟩ (rP (Q8 oz y30)), fun _ _ _ _ => rfl⟩
     · exact ⟨by intro c r hc; cases c <;> exact rgo r rfl ⟨rfl, trivial⟩ (rP (pf oz y9l)), fun _ _ _ _ => rfl⟩
     · exact ⟨by intro c r hc; cases c <;> exact rgo r rfl ⟨rfl, trivial⟩ (rP (plb oz (mA 6 rfl) le2 ynm)), fun _ _ _ _ => rfl⟩
     · exact ⟨cBf (by kernel_rfl) fun r _ => rgo r rfl ⟨rfl, trivial⟩ (rmv rfl), fun _ _ _ _ => rfl⟩
     · exact ⟨cBf (by kernel_rfl) fun r _ => rgo r rfl ⟨rfl, trivial⟩ (rmv rfl), fun _ _ _ _ => rfl⟩
     · exact ⟨cBf (by kernel_rfl) fun r _ => rgo r rfl ⟨rfl, trivial⟩ (rP (Qp oz)), fun _ _ _ _ => rfl⟩
     · exact ⟨cBf (by kernel_rfl) fun r _ => rgo r rfl ⟨rfl, trivial⟩ (rP (Qr oz lx1 ye0)), fun _ _ _ _ => rfl⟩
     · exact ⟨cBf (by kernel_rfl) fun r _ => rgo r rfl ⟨rfl, trivial⟩ (rP (Q8 oz y30)), fun _ _ _ _ => rfl⟩
     · exact ⟨cBf (by kernel_rfl) fun r _ => rgo r rfl ⟨rfl, trivial⟩ (rP (pf oz y9l)), fun _ _ _ _ => rfl⟩
     · exact ⟨cBf (by kernel_rfl) fun r _ => rgo r rfl ⟨rfl, trivial⟩ (rP (plb oz (mA 6 rfl) le2 ynm)), fun _ _ _ _ => rfl⟩
     · exact ⟨cBf (by kernel_rfl) fun r _ => rgo r rfl ⟨rfl, trivial⟩ (rP (X7 mkI Tryz.underlying120 (z0 := Qo) (by kernel_rfl) oz (mA 3 rfl) oz)), fun _ _ _ _ => rfl⟩
     · exact ⟨cBf (by kernel_rfl) fun r _ => rgo r rfl ⟨rfl, trivial⟩ (rP (pf oz ye8)), fun _ _ _ _ => rfl⟩
     · exact ⟨cBf (by kernel_rfl) fun r _ => rgo r rfl ⟨rfl, trivial⟩ (rP (plb oz (mA 6 rfl) le0 ynm)), fun _ _ _ _ => rfl⟩
     refine ⟨?_, ?_⟩
     · exact cBf (by kernel_rfl) fun r _ => Zg rfl (Z6 oz (CtV.of0 (Qrd ((lkp e.2.2 (hdV x.to)).getD Qo) ((lkp e.2.2 x.to).getD (Qo, [])).2 e.1 (by omega)) (by kernel_rfl)) (oc oz (oc oz oN)) (pA 4 rfl)) (pA 4 rfl) (fun r => pR) (fun _ _ _ => trivial) (fun _ _ _ _ h => h)
     exact fun _ h => absurd h (by decide)
    case h =>
     intro v5_16 _
     refine oA (X4 mkI Tryz.underlying120 oz (pA 4 rfl) oz oz) (pA 4 rfl) rfl rfl (fun _ _ => ?_)
     refine tn (Q4 (List.Perm.trans ((Qq 4 rfl).trans (List.Perm.cons _ ((Qq 2 rfl).trans (List.Perm.cons _ ((Qq 0 rfl).trans (List.Perm.cons _ ((Qq 1 rfl).trans (List.Perm.cons _ ((Qq 0 rfl).trans (List.Perm.cons _ pR)))))))))) (Qqt (X := [_, _]) (Y := lvI n.gl lv) hlk)) ?_)
     obtain ⟨al', hal'⟩ : ∃ m, (ptk e.2.1 (Al.mk x.gf x.gt x.gh (ptk e.1 (v4_16, (fx e.2.2 ((lkp e.1 x.frm).getD (Qo, [])).2)) x.frm) (ptk e.2.2 (v5_16, (fx e.1 ((lkp e.2.2 x.to).getD (Qo, [])).2)) x.to) (dlk (e.1, e.2.2) x.has)) al) = m := ⟨_, rfl⟩
     rw [hal']
     have hals' : Kn (Qal E e) n.v.2.2.2.1 al' := by rw [← hal']; exact hals.go hlk
     refine nn (sq (rg (ak rfl (tn (nn (tb (Qt (σ := Nat × List Rw × List (Lab × Int)) (e2 0 3 rfl en) (fun s => [(6, I64 (s.1 : Int))]) (fun s => (Qb g0_0 42 kE e :: Qg n.gc encS kI.T s.2.2 :: (lvI n.gl s.2.1 ++ AlI n al'))) (fun s => Qmv n.v.2.2.2.1 E (Qal E e) (fun r => idB (proj (Qa n.v.2.2.2.1) n.v.2.2.1 r)) s.1 s.2.1 s.2.2) (fun s => n.v.2.2.2.1.length + 1 - s.1) (1, lv, ct) (Qsq hok.lvl hok.rows hok.cnt) ?_ (op pl) ?_)))))))
     · exact (ec 6 rfl en)
     rintro ⟨k, lvk, c⟩ hrm
     dsimp only at hrm ⊢
     refine sq (sq (rg (mv rfl rfl (mv rfl rfl (oP (Qp oz) rfl (oP (Qr oz ln6 yn5) rfl (oP (pL oz y2a) rfl (Zt 64 (T := SlT Q3 (n.gl.map mp)) oz (oP (pls oz Tryz.underlying113) rfl (oP (Q5 oz oz) rfl (tn (nn (tc oz (fun c66 => ?_) (fun c66 => ?_))))))))))))))
     · have hk1 := hrm.k1
       have hll := hrm.len
       have hgk : k < n.gl.length := by rw [List.length_map] at c66; simpa using c66
       have hlvk : k < lvk.length := by omega
       have hmk := hrm.here hlvk
       have hcn0 : Y7 c (fun r => idB (proj (Qa n.v.2.2.2.1) n.v.2.2.1 r)) (((lvk.set k lvk[k]).getD n.v.2.2.2.1.length []).map Prod.snd) := by rw [List.set_getElem_self]; exact hrm.cnt
       refine Q4 (Qgw (X := [_, _]) hgk hlvk) (W7 pR fun s0 => (sk (nn (sq (tb (sq (rg (mv rfl rfl (oP (Qp oz) rfl (oP (Qr oz ln6 yn5) rfl (oP (pL oz y2a) rfl (mv rfl rfl (oP (Qj oz oz Tryz.underlying113 y3m (by omega) (by show ((k : Nat) : Int) < ((n.gl.map mp).length : Int); rw [List.length_map]; omega)) rfl ?_)))))))))))))
       rw [show at' (Y9 n).2.2.2.2.2.2.1 ((k : Nat) : Int) = mp n.gl[k] from Qj7 (by omega)]
       refine oP (Q8 oz y3m) rfl (oA (Z0 Tryz.underlying117 oz (mA 0 rfl)) pR rfl rfl (fun r9_7 hr9_7 => ?_))
       refine tn (nn (tb (Qt (σ := IS × List Lab × Option Lab × Rw × MS × List (Lab × Int)) (e4 0 3 6 76 rfl en) (fun s => []) (fun s => (K4 r9_7.1 n.gl[k] s.1 :: Ju n.gl[k] encS kT.T s.2.2.2.1 s.2.2.2.2.1 :: Qb g0_0 42 kE e :: Qg n.gc encS kI.T s.2.2.2.2.2 :: (lvI (n.gl.eraseIdx k) (lvk.eraseIdx k) ++ AlI n al'))) (fun s => Jk s.2.2.2.1 s.2.2.2.2.1 s.1 s.2.1 s.2.2.1 ∧ Xk s.2.2.2.1 (R5 n.v.2.2.2.1 E k e s.2.1) ∧ Y7 s.2.2.2.2.2 (fun r => idB (proj (Qa n.v.2.2.2.1) n.v.2.2.1 r)) (((lvk.set k s.2.2.2.1).getD n.v.2.2.2.1.length []).map Prod.snd)) (fun s => s.2.1.length) (r9_7.2, keys lvk[k], none, lvk[k], s0, c) ⟨hr9_7, Qwd hmk, hcn0⟩ ?_ (op (by (repeat (refine pc 0 rfl ?_)); exact pl)) ?_)))
       · exact en
       rintro ⟨i, todo, cur, m, s1, c⟩ ⟨hrk, hmm, hcn⟩
       dsimp only at hrk hmm hcn ⊢
       refine sq (rg (oA (Z1 oz (mA 1 rfl) (pA 0 rfl) (by assumption)) (pA 0 rfl) rfl rfl (fun q10_0 hq10_0 => ?_)))
       refine oP (J6 oz) rfl (tn (nn (sq (tc oz (fun c78 => ?_) (fun c78 => ?_)))))
       · obtain ⟨i2, o2⟩ := q10_0
         obtain ⟨key, rfl⟩ : ∃ k, o2 = some k := by
          cases o2 with
          | none => exact Bool.noConfusion c78
          | some k => exact ⟨k, rfl⟩
         dsimp only at hq10_0 c78 ⊢
         obtain ⟨hkt, hok2⟩ := hq10_0
         obtain ⟨t, htv⟩ := Qbc (hrk.sub _ hkt)
         obtain ⟨rfl, htn⟩ := hmm.lkp htv
         have hle : (ers todo (idB t)).length = todo.length - 1 := Qa6 hkt
         have hpos := List.length_pos_of_mem hkt
         refine sk (nn (tb (sq (rg (oP (Ye (D := IsV _) oz (mA 0 rfl) (mA 1 rfl) (by assumption) (by assumption) (fun H => rfl)) rfl ?_)))))
         refine oP (Qd oz rfl) rfl (oP (Qd oz rfl) rfl (av rfl rfl (av rfl rfl (tn (nn (sq (sq (rg (mv rfl rfl (mv rfl rfl (mv rfl rfl (oP (plv oz (mA 2 rfl) y16) rfl (oA (aC (Q1w n k t e (by omega) htn.1.1 (by omega)) yd9 (oc oz (oc oz (oc oz (oc oz oN)))) pR) pR rfl rfl (fun _ _ => ?_))))))))))))))
         refine oP (Zf oz) rfl (tn (nn (tc oz (fun c87 => ?_) (fun c87 => ?_))))
         · have huse : Wn n.v.2.2.2.1 k t e = false := by simpa using c87
           refine Qx (tx (bh (nn ?_)))
           exact tg (i2, ers todo (idB t), some (idB t), m, s1, c) ⟨hok2, Q0n hinE htn.1 hrk.nd huse hmm, hcn⟩ (by show (ers todo (idB t)).length < todo.length; omega) ef (op (by (repeat (refine pc 0 rfl ?_)); exact pl))
         have huse : Wn n.v.2.2.2.1 k t e = true := by simpa using c87
         have hnin : idB t ∉ ers todo (idB t) := fun h => ((Qct hrk.nd).1 h).1 rfl
         refine sk (nn (sq (rg (mv rfl rfl (oP (Qp oz) rfl (oP (Qr oz ln6 yn5) rfl (oP (pL oz y2a) rfl (mv rfl rfl (oP (Qj oz oz Tryz.underlying113 y3m (by omega) (by show ((k : Nat) : Int) < ((n.gl.map mp).length : Int); rw [List.length_map]; omega)) rfl ?_)))))))))
         rw [show at' (Y9 n).2.2.2.2.2.2.1 ((k : Nat) : Int) = mp n.gl[k] from Qj7 (by omega)]
         refine oP (Q8 oz y3m) rfl (mv rfl rfl (oA (Qgj (k := idB t) mkS Tryz.underlying117 rfl oz (pA 1 rfl) oz) (pA 1 rfl) rfl rfl (fun s13_8 hs13_8 => ?_)))
         refine tn ?_
         have hok3 := hs13_8 _ _ _ hok2 hnin
         refine nn (sq (rg (mv rfl rfl (mv rfl rfl (oP (Qp oz) rfl (oP (Qr oz ln0 yhd) rfl (oP (Qr oz lv3 y46) rfl (oP (pL oz y2r) rfl (Zt 101 (T := SlT kA n.v.2.2.2.1) oz (oP (pls oz Tryz.underlying23) rfl (oP (Zs oz oz) rfl (tn (nn (tc oz (fun c103 => ?_) (fun c103 => ?_)))))))))))))))
         · obtain rfl : k = n.v.2.2.2.1.length := by have h9 := of_decide_eq_true c103; omega
           rw [Qe1 hlvk] at hcn
           have htl : t.length = (Qa n.v.2.2.2.1).length := by rw [htn.1.1, Qo9]
           have hvo : ∀ o ∈ n.v.2.2.1, ix (Qa n.v.2.2.2.1) o < t.length := fun o ho => by rw [htl]; exact Qqf (hov o ho)
           have hsm := Qjp hmm (fun u hu => hu.1) hals.nd hE9 (Nat.le_refl _) hal8
           have hcb := Qwc hcn hsm (idB (proj (Qa n.v.2.2.2.1) n.v.2.2.1 t))
           have hcd := (hcn.perm (Q0p htv)).del
           dsimp only at hcd
           refine sq (rg (mv rfl rfl (mv rfl rfl (oA (aC (Qj8 n t hvo (by omega)) yp7 (oc oz (oc oz oN)) pR) pR rfl rfl (fun _ _ => ?_)))))
           refine av rfl rfl (tn (nn (sq (rg (mv rfl rfl (oP (Qp oz) rfl (oP (Qr oz ln7 yw2) rfl (oP (Q8 oz ydm) rfl (mv rfl rfl (oP (Xq mkS Tryz.underlying112 zI oz (mA 3 rfl) oz) rfl (oP (Kb oz ot (by omega)) rfl (oA (X4 (V := kI.T) mkS Tryz.underlying112 oz (pA 3 rfl) oz oz) (pA 3 rfl) rfl rfl (fun _ _ => ?_)))))))))))))
           refine tn (nn (sq (rg (mv rfl rfl (oP (Qp oz) rfl (oP (Qr oz ln7 yw2) rfl (oP (Q8 oz ydm) rfl (mv rfl rfl (oP (Xq mkS Tryz.underlying112 zI oz (mA 0 rfl) oz) rfl (oP (Zs oz ot) rfl (tn (nn (tc oz (fun c120 => ?_) (fun c120 => ?_))))))))))))))
           · rw [Qqx] at c120
             rw [if_pos (of_decide_eq_true c120)] at hcd
             refine rg (mv rfl rfl (oP (Qp oz) rfl (oP (Qr oz ln7 yw2) rfl (oP (Q8 oz ydm) rfl (mv rfl rfl (oA (Ve mkS Tryz.underlying112 rfl oz (pA 0 rfl) oz) (pA 0 rfl) rfl rfl (fun _ _ => ?_)))))))
             refine tn (bn (nn ?_))
             exact tg (i2, ers todo (idB t), none, dlk (idB t) m, s13_8, dlk (idB (proj (Qa n.v.2.2.2.1) n.v.2.2.1 t)) (ptk (idB (proj (Qa n.v.2.2.2.1) n.v.2.2.1 t)) ((lkp (idB (proj (Qa n.v.2.2.2.1) n.v.2.2.1 t)) c).getD 0 - 1) c)) ⟨hok3, Qpa hinE htn.1 hrk.nd huse hmm, (by show Y7 _ _ (((lvk.set _ (dlk (idB t) m)).getD _ []).map Prod.snd); rw [Qe1 hlvk]; exact hcd)⟩ (by show (ers todo (idB t)).length < todo.length; omega) ef (op (by (repeat (first | refine pc 0 rfl ?_ | refine pc 1 rfl ?_ | refine pc 2 rfl ?_)); exact pl))
           rw [Qqx] at c120
           rw [if_neg (of_decide_eq_false c120)] at hcd
           refine sk (bn (nn ?_))
           exact tg (i2, ers todo (idB t), none, dlk (idB t) m, s13_8, ptk (idB (proj (Qa n.v.2.2.2.1) n.v.2.2.1 t)) ((lkp (idB (proj (Qa n.v.2.2.2.1) n.v.2.2.1 t)) c).getD 0 - 1) c) ⟨hok3, Qpa hinE htn.1 hrk.nd huse hmm, (by show Y7 _ _ (((lvk.set _ (dlk (idB t) m)).getD _ []).map Prod.snd); rw [Qe1 hlvk]; exact hcd)⟩ (by show (ers todo (idB t)).length < todo.length; omega) ef (op (by (repeat (first | refine pc 0 rfl ?_ | refine pc 1 rfl ?_ | refine pc 2 rfl ?_)); exact pl))
         have hkK : ¬ k = n.v.2.2.2.1.length := by have h9 := of_decide_eq_false c103; omega
         refine sk (bn (nn ?_))
         exact tg (i2, ers todo (idB t), none, dlk (idB t) m, s13_8, c) ⟨hok3, Qpa hinE htn.1 hrk.nd huse hmm, (by show Y7 _ _ (((lvk.set _ (dlk (idB t) m)).getD _ []).map Prod.snd); rw [Q3g (m' := m) hkK]; exact hcn)⟩ (by show (ers todo (idB t)).length < todo.length; omega) ef (op (by (repeat (first | refine pc 0 rfl ?_ | refine pc 1 rfl ?_)); exact pl))
       obtain ⟨i2, o2⟩ := q10_0
       obtain rfl : o2 = none := by
        cases o2 with
        | none => rfl
        | some k => exact Bool.noConfusion c78
       dsimp only at hq10_0 ⊢
       obtain ⟨rfl, hok2⟩ := hq10_0
       refine Uv (Qq 1 rfl) (Q4 (Qe0 (X := [_, _, _]) hgk hlvk) (Qx (tx (tx (bh (bn (nn (rg (mv rfl rfl (oP (pad oz ot (by omega)) rfl (av rfl rfl (tn (nn ?_)))))))))))))
       exact tg (k + 1, lvk.set k m, c) (hrm.next (by omega) (Q0o hE2 hmm) hcn) (by show n.v.2.2.2.1.length + 1 - (k + 1) < n.v.2.2.2.1.length + 1 - k; omega) ef (op (by (repeat (refine pc 1 rfl ?_)); exact pd (pl)))
     obtain rfl : k = n.v.2.2.2.1.length + 1 := by have := hrm.kle; rw [List.length_map] at c66; simp only [decide_eq_false_iff_not] at c66; omega
     refine Qx (tx (tx (bh ?_)))
     exact U7 .normal (.inr rfl) rfl (al', lvk, c) (fun _ => trivial) ⟨hals', hok.gl, hrm.len, Q0q hrm, hrm.cnt⟩ (by (repeat (refine pc 1 rfl ?_)); exact pd (pl))
end Go.Proofs.YtklhdalppmjnaaaGreatDoor
namespace Go.Gw
open Go
theorem Q3h {C : Cx} {Γ : Env} {L : List It} {o : Oper} {ops : Array Oper} {Q : Exit → Act → World → Prop} {rest : List Oper} {J : List It} {ρ : Type} {T : ρ → Ty} {I : ρ → List It} {φ : ρ → Prop} (X Z : List It) (hL : L = X ++ (J ++ Z)) (hp : Yp C Γ L o J ρ T I φ) (hg : o.guard = none) (hd : Wb C.N o.dst = true)
 (h : ∀ r, φ r → Tr C (upd o.dst (T r) Γ) (X ++ (I r ++ Z)) (wpList C.P ops Q rest)) : Tr C Γ L (wpList C.P ops Q (o :: rest)) := by
 subst hL
 have e : ∀ Y : List It, (X ++ (Y ++ Z)).Perm (Y ++ (X ++ Z)) := fun Y => by
  have h1 : (X ++ Y).Perm (Y ++ X) := List.perm_append_comm
  have := h1.append_right Z
  simpa only [List.append_assoc] using this
 exact Ku hp (e J) hg hd fun r hr => Q4 (e _).symm (h r hr)
theorem Qwe {X Y Z : List It} : (X ++ (Y ++ Z)).Perm (Y ++ (X ++ Z)) := by
 have h1 : (X ++ Y).Perm (Y ++ X) := List.perm_append_comm
 have := h1.append_right Z
 simpa only [List.append_assoc] using this
end Go.Gw
namespace Go.Proofs.YtklhdalppmjnaaaGreatDoor
open Go Go.Gw Go.So Go.Tu Go.Jn Go.Nt
theorem Qqy {α : Type} [DecidableEq α] : ∀ {l m : List α}, l.Nodup → (∀ x ∈ l, x ∈ m) → l.length ≤ m.length
 | [], _, _, _ => by simp
 | x :: l, m, hn, h => by
  obtain ⟨h1, h2⟩ := List.nodup_cons.1 hn
  have hx := h x List.mem_cons_self
  have h3 := Qqy (m := m.erase x) h2 fun y hy => by
   have hne : y ≠ x := fun e => h1 (e ▸ hy)
   exact (List.mem_erase_of_ne hne).2 (h y (List.mem_cons_of_mem _ hy))
  rw [List.length_erase_of_mem hx] at h3
  have := List.length_pos_of_mem hx
  rw [List.length_cons]; omega
section
variable {n : NO} {al : AlM} {lv : List Rw} {ct : List (Lab × Int)} {E E' : List Ed}
theorem Qb6.congr {lab : Lab} {x : Al} (h : Qb6 E lab x) (hE : ∀ x, x ∈ E ↔ x ∈ E') : Qb6 E' lab x := ⟨fun u v => by rw [h.f, hE], h.fn, fun u v => by rw [h.t, hE], h.tn, fun p => by rw [h.h, hE], h.h1, h.hn⟩
theorem Jq.congr (h : Jq n al lv ct E) (hE : ∀ x, x ∈ E ↔ x ∈ E') (hn : E'.Nodup) : Jq n al lv ct E' where
 als := ⟨hn, fun e he => h.als.inE e ((hE e).2 he), fun l x hx => (h.als.some_ l x hx).congr hE, fun l hl e he => h.als.none_ l hl e ((hE e).2 he), h.als.lab⟩
 gl := h.gl
 lvl := h.lvl
 rows := fun k hk => (h.rows k hk).congr fun t => Qdm hE
 cnt := h.cnt
def Vm (v : Vw) (E : List Ed) : List Tp := Jm (Vg v E)
theorem Qe2 {v : Vw} {t : Tp} : t ∈ Vg v E ↔ ∃ r, RwK v.2.2.2.1 E v.2.2.2.1.length r ∧ proj (Qa v.2.2.2.1) v.2.2.1 r = t := by
 unfold Vg
 rw [List.mem_map]
 have h : ∀ r, r ∈ Jm (Zr (Za E) (Qa v.2.2.2.1) v.2.2.2.1) ↔ RwK v.2.2.2.1 E v.2.2.2.1.length r := fun r => by
  rw [(Xj _).2, ← Kk, List.take_length]
 exact ⟨fun ⟨r, h1, h2⟩ => ⟨r, (h r).1 h1, h2⟩, fun ⟨r, h1, h2⟩ => ⟨r, (h r).2 h1, h2⟩⟩
theorem Jq.last (h : Jq n al lv ct E) : Xk (lv.getD n.v.2.2.2.1.length []) (RwK n.v.2.2.2.1 E n.v.2.2.2.1.length) := h.rows _ (Nat.le_refl _)
theorem Jq.keys_ (h : Jq n al lv ct E) (s : Lab) : s ∈ keys ct ↔ ∃ t ∈ Vg n.v E, idB t = s := by
 rw [h.cnt.key]
 constructor
 · rintro ⟨r, hr, rfl⟩; exact ⟨_, Qe2.2 ⟨r, (h.last.rows.2 r).1 hr, rfl⟩, rfl⟩
 rintro ⟨t, ht, rfl⟩
 obtain ⟨r, hr, rfl⟩ := Qe2.1 ht
 exact ⟨r, (h.last.rows.2 r).2 hr, rfl⟩
theorem Qic {v : Vw} (hv : okV v = true) (hE : ∀ e ∈ E, inI e.1 ∧ inI e.2.2) {t : Tp} (ht : t ∈ Vg v E) : InT t ∧ t.length ≤ 22 := by
 obtain ⟨h6, _, _, hov⟩ := Qb7 hv
 obtain ⟨r, hr, rfl⟩ := Qe2.1 ht
 constructor
 · intro x hx
   obtain ⟨o, ho, rfl⟩ := List.mem_map.1 hx
   refine Y0 hE hr _ ?_
   have h1 : ix (Qa v.2.2.2.1) o < r.length := by rw [hr.1, Qo9]; exact Qqf (hov o ho)
   unfold env
   rw [List.getD_eq_getElem?_getD, List.getElem?_eq_getElem h1]; exact List.getElem_mem h1
 unfold proj; rw [List.length_map]; omega
def Z4 (v : Vw) (E : List Ed) : Bool := (List.range (v.2.2.2.1.length + 1)).any fun k => decide (3000 < (Zr (Za E) (Qa v.2.2.2.1) (v.2.2.2.1.take k)).length)
theorem Uh {v : Vw} : Z4 v E = true ↔ Kw E v.2.2.2.1 := by
 unfold Z4 Kw
 rw [List.any_eq_true]
 simp only [List.mem_range, decide_eq_true_eq]
 exact ⟨fun ⟨k, h1, h2⟩ => ⟨k, by omega, h2⟩, fun ⟨k, h1, h2⟩ => ⟨k, by omega, h2⟩⟩
theorem Qk6 {v : Vw} {k : Nat} (h : Z4 v E = false) (hk : k ≤ v.2.2.2.1.length) : (Zr (Za E) (Qa v.2.2.2.1) (v.2.2.2.1.take k)).length ≤ 3000 := by
 refine Nat.not_lt.1 fun h1 => ?_
 have := Uh.2 ⟨k, hk, h1⟩
 rw [h] at this; cases this
theorem V3 {v : Vw} (hE : ∀ x ∈ E, x ∈ E') (h : Z4 v E = true) : Z4 v E' = true := by
 obtain ⟨k, hk, h1⟩ := Uh.1 h
 refine Uh.2 ⟨k, hk, Nat.lt_of_lt_of_le h1 ?_⟩
 exact Qcr Wx (fun t ht => Kk.2 (Qai hE (Kk.1 ht))) Wx
theorem Qa7 {v : Vw} (hE : ∀ x, x ∈ E ↔ x ∈ E') : Z4 v E = Z4 v E' := by
 rw [Bool.eq_iff_iff]
 exact ⟨V3 fun x => (hE x).1, V3 fun x => (hE x).2⟩
theorem Jq.lvlen (h : Jq n al lv ct E) {k : Nat} (hk : k ≤ n.v.2.2.2.1.length) : (lv.getD k []).length = (Zr (Za E) (Qa n.v.2.2.2.1) (n.v.2.2.2.1.take k)).length := (h.rows k hk).len Wx fun t => Kk
theorem Jq.ctlen (h : Jq n al lv ct E) (hm : Z4 n.v E = false) : ct.length ≤ 100000 := by
 have h1 := Qqy (m := ((lv.getD n.v.2.2.2.1.length []).map Prod.snd).map fun r => idB (proj (Qa n.v.2.2.2.1) n.v.2.2.1 r)) h.cnt.1 fun s hs => by
  obtain ⟨r, hr, e⟩ := h.cnt.key.1 hs
  exact List.mem_map.2 ⟨r, hr, e⟩
 rw [List.length_map, List.length_map, h.lvlen (Nat.le_refl _)] at h1
 have h2 := Qk6 hm (Nat.le_refl _)
 unfold keys at h1; rw [List.length_map] at h1; omega
def Qid (v : Vw) (E : List Ed) : List Int := (List.range v.2.2.2.1.length).map fun k => ((Zr (Za E) (Qa v.2.2.2.1) (v.2.2.2.1.take (k + 1))).length : Int)
theorem Jq.lens_ (h : Jq n al lv ct E) : lens lv = Qid n.v E := by
 apply List.ext_getElem
 · rw [Qe3, Qid, List.length_map, List.length_range, h.lvl]; omega
 intro i h1 h2
 have hi : i < n.v.2.2.2.1.length := by simpa [Qid] using h2
 have hl := h.lvl
 simp only [lens, Qid, List.getElem_map, List.getElem_tail, List.getElem_range]
 rw [← h.lvlen (by omega), Q0m (by omega)]
theorem Qmw (v : Vw) (h1 : 1 ≤ v.2.2.2.1.length) : decide (3000 < Qo4 (Qid v E)) = Z4 v E := by
 rw [Bool.eq_iff_iff, decide_eq_true_eq]
 constructor
 · intro h
   refine Classical.byContradiction fun hc => ?_
   have hb : Z4 v E = false := by simpa using hc
   have := Qz9 (l := Qid v E) (b := 3000) (fun x hx => by
    obtain ⟨k, hk, rfl⟩ := List.mem_map.1 hx
    have hk2 := List.mem_range.1 hk
    have := Qk6 hb (k := k + 1) (by omega)
    omega) (by omega)
   omega
 intro h
 obtain ⟨k, hk, h2⟩ := Uh.1 h
 cases k with
 | zero => simp [Zr] at h2
 | succ k =>
  have := Q0a (l := Qid v E) (x := ((Zr (Za E) (Qa v.2.2.2.1) (v.2.2.2.1.take (k + 1))).length : Int)) (List.mem_map.2 ⟨k, List.mem_range.2 (by omega), rfl⟩)
  omega
def Ya (E es : List Ed) : List Ed := E.filter fun x => decide (x ∉ es)
theorem Xm {es : List Ed} {x : Ed} : x ∈ Ya E es ↔ x ∈ E ∧ x ∉ es := by unfold Ya; rw [List.mem_filter]; simp
def goE (E es : List Ed) (add : Bool) : List Ed := if add then E ++ es else Ya E es
def Qam (E es : List Ed) (add : Bool) : Int := Ui (fun e => decide (e ∈ E)) add [] es
def doE (v : Vw) (E es : List Ed) (add : Bool) : List Ed × Dl × Int :=
 if Qam E es add = 0 then (if (add && Z4 v (E ++ es)) = true then (E, ([], []), 5) else (goE E es add, Qbg (Vm v E) (Vm v (goE E es add)))) else (E, ([], []), Qam E es add)
theorem Qcv {h : Ed → Bool} {add : Bool} : ∀ {es pre : List Ed}, Ui h add pre es = 0 → ∀ i (hi : i < es.length), h es[i] = !add ∧ es[i] ∉ pre ∧ es[i] ∉ es.take i
 | [], _, _, i, hi => by simp at hi
 | e :: es, pre, h0, i, hi => by
  unfold Ui at h0
  split at h0
  · cases h0
  rename_i c1
  split at h0
  · cases h0
  rename_i c2
  have ha : h e = !add := by cases add <;> cases he : h e <;> simp_all
  have hp : e ∉ pre := fun hm => c2 (by simp [hm])
  cases i with
  | zero => exact ⟨ha, hp, by simp⟩
  | succ i =>
   have hi' : i < es.length := by simpa using hi
   obtain ⟨h1, h2, h3⟩ := Qcv h0 i hi'
   rw [List.getElem_cons_succ, List.take_succ_cons]
   refine ⟨h1, fun hm => h2 (List.mem_append_left _ hm), fun hm => ?_⟩
   rcases List.mem_cons.1 hm with hm | hm
   · exact h2 (by rw [hm]; simp)
   exact h3 hm
def atE (E es : List Ed) (add : Bool) (i : Nat) : List Ed := goE E (es.take i) add
theorem Qie {es : List Ed} {add : Bool} : atE E es add 0 = E := by
 unfold atE goE
 cases add
 · simp [Ya]
 simp
theorem Q0r {es : List Ed} {add : Bool} : atE E es add es.length = goE E es add := by unfold atE; rw [List.take_length]
theorem Qe4 {es : List Ed} {i : Nat} (hi : i < es.length) {x : Ed} : x ∈ es.take (i + 1) ↔ x ∈ es.take i ∨ x = at' es (i : Int) := by
 rw [List.take_succ_eq_append_getElem hi, List.mem_append, List.mem_singleton, Q1 hi]
theorem Qwf {es : List Ed} {i : Nat} (hi : i < es.length) (x : Ed) : x ∈ Qal (atE E es false i) (at' es (i : Int)) ↔ x ∈ atE E es false (i + 1) := by
 show x ∈ Qal (Ya E (es.take i)) _ ↔ x ∈ Ya E (es.take (i + 1))
 rw [Wi, Xm, Xm, Qe4 hi]
 constructor
 · rintro ⟨⟨h1, h2⟩, h3⟩; exact ⟨h1, fun h => h.elim h2 h3⟩
 rintro ⟨h1, h2⟩; exact ⟨⟨h1, fun h => h2 (.inl h)⟩, fun h => h2 (.inr h)⟩
theorem Qwg {es : List Ed} {i : Nat} (hi : i < es.length) : atE E es true i ++ [at' es (i : Int)] = atE E es true (i + 1) := by
 show E ++ es.take i ++ _ = E ++ es.take (i + 1)
 rw [List.take_succ_eq_append_getElem hi, Q1 hi, List.append_assoc]
theorem Qjq {es : List Ed} {add : Bool} (hE : E.Nodup) (h0 : Qam E es add = 0) (i : Nat) : (atE E es add i).Nodup := by
 unfold atE goE
 cases add with
 | false => exact hE.sublist List.filter_sublist
 | true =>
  simp only [if_true]
  have hz := Qcv h0
  refine List.nodup_append.2 ⟨hE, (List.pairwise_iff_getElem.2 fun a b ha hb hab e => ?_), fun x hx y hy e => ?_⟩
  · rw [List.getElem_take, List.getElem_take] at e
    rw [List.length_take] at hb
    refine (hz b (by omega)).2.2 ?_
    rw [← e]
    exact List.mem_take_iff_getElem.2 ⟨a, by omega, rfl⟩
  subst e
  obtain ⟨j, hj, rfl⟩ := List.mem_take_iff_getElem.1 hy
  have h1 := (hz j (by omega)).1
  rw [decide_eq_true hx] at h1; cases h1
theorem Qsr {es : List Ed} {j : Nat} (h0 : Qam E es true = 0) (hj : j < es.length) (x : Ed) : x ∈ Qal (atE E es true (j + 1)) (at' es (j : Int)) ↔ x ∈ atE E es true j := by
 show x ∈ Qal (E ++ es.take (j + 1)) _ ↔ x ∈ E ++ es.take j
 rw [Wi, List.mem_append, List.mem_append, Qe4 hj]
 obtain ⟨h1, _, h3⟩ := Qcv h0 j hj
 rw [Q1 hj]
 have h2 : es[j] ∉ E := fun h => by rw [decide_eq_true h] at h1; cases h1
 constructor
 · rintro ⟨h | h | h, h5⟩
   · exact .inl h
   · exact .inr h
   exact absurd h h5
 rintro (h | h)
 · exact ⟨.inl h, fun e => h2 (e ▸ h)⟩
 exact ⟨.inr (.inl h), fun e => h3 (e ▸ h)⟩
theorem Qqz {es : List Ed} {add : Bool} {i : Nat} : (atE E es add i).length ≤ E.length + es.length := by
 unfold atE goE
 split
 · rw [List.length_append, List.length_take]; omega
 exact Nat.le_trans (List.length_filter_le _ _) (by omega)
end
end Go.Proofs.YtklhdalppmjnaaaGreatDoor
namespace Go.Proofs.YtklhdalppmjnaaaGreatDoor
open Go Go.Gw Go.So Go.Tu
variable {K0 : FH} {n0 : Nat}
theorem Q5e {v : Dl} {H : FH} {u : Value} (h : ((kDF K0 n0).T v).p H u) : (kD.T v).p H u := by
 obtain ⟨cs, ⟨c1, c2, e1, e2, e3⟩, hv⟩ := h
 refine ⟨cs, ⟨c1, c2, ?_, ?_, e3⟩, hv⟩
 · obtain ⟨u, e4, e5⟩ := e1; exact ⟨u, e4, Qhc (d := kF K0 n0) (e := kT) rfl Qkl e5.1⟩
 obtain ⟨u, e4, e5⟩ := e2; exact ⟨u, e4, Qhc (d := kF K0 n0) (e := kT) rfl Qkl e5.1⟩
theorem Q5f {N : Nat} {Γ : Env} {x : Operand} {v : Dl} (h : OT N Γ x ((kDF K0 n0).T v)) : OT N Γ x (kD.T v) := fun a H f => Q5e (h a H f)

end Go.Proofs.YtklhdalppmjnaaaGreatDoor
namespace Go.Proofs.YtklhdalppmjnaaaGreatDoor
open Go Go.Gw Go.So Go.Tu Go.Jn Go.Nt
theorem Qlf {v : Vw} {E : List Ed} (hm : Z4 v E = false) : (Vg v E).length ≤ 3000 := by
 unfold Vg
 rw [List.length_map]
 have h1 := Uf (Zr (Za E) (Qa v.2.2.2.1) v.2.2.2.1)
 have h2 := Qk6 hm (Nat.le_refl _)
 rw [List.take_length] at h2; omega
theorem Qkb {v : Vw} {E : List Ed} (hv : okV v = true) (hE : ∀ e ∈ E, inI e.1 ∧ inI e.2.2) (hm : Z4 v E = false) : Small (Vm v E) := by
 refine ⟨?_, fun t ht => ?_⟩
 · have h1 := Uf (Vg v E)
   have h2 := Qlf hm
   unfold Vm; omega
 have := (Qic hv hE (((Xj _).2 t).1 ht)).2; omega
theorem Qyd {E : List Ed} {atoms : List Atm} {al : AlM} (h : Kn E atoms al) (es : List Ed) (add : Bool) : Ui (Qib al) add [] es = Qam E es add := by
 unfold Qam
 rw [show Qib al = fun e => decide (e ∈ E) from funext fun e => h.has e]

/-- (*rhizome/net.Net).Do -/
theorem Q49 (n : NO) (al : AlM) (lv : List Rw) (ct : List (Lab × Int)) (E es : List Ed) (add : Bool) (hv : okV n.v = true) (hok : Jq n al lv ct E) (hmb : Z4 n.v E = false) (hei : ∀ e ∈ es, inI e.1 ∧ inI e.2.2) (hEl : E.length + es.length ≤ 90) : Ct Tryz.prog 207 [AtT J7 (Y9 n), SlT kE es, Xe add] (Qev n al lv ct) (AlM × List Rw × List (Lab × Int)) (fun r => Y1 [kD.T (doE n.v E es add).2.1, I64 (doE n.v E es add).2.2]) (fun r => Qev n r.1 r.2.1 r.2.2) (fun r => Jq n r.1 r.2.1 r.2.2 (doE n.v E es add).1) := by
 refine Qn Tryz.func207 rfl rfl ?_
 intro H w
 obtain ⟨ho6, ha1, hal8, hov⟩ := Qb7 hv
 have hlc := Qyd hok.als es add
 refine sq (rg (oA (Qz (z44)) pR rfl rfl (fun g0_0 _ => ?_)))
 refine ak rfl (tn (nn (sq (sq (rg (mv rfl rfl (mv rfl rfl (mv rfl rfl (Qey [_, _] (lvI n.gl lv) rfl (aC (Q1z n al es add (by omega)) yva (oc oz (oc oz (oc oz oN))) (Wz (X := [_, _]) (Y := lvI n.gl lv))) rfl rfl fun _ _ => (av rfl rfl (tn (nn (sq ?_)))))))))))))
 rw [hlc]
 refine rg (mv rfl rfl (oP (Yj oz ot) rfl (tn (nn (tc oz (fun c18 => ?_) (fun c18 => ?_))))))
 · have hc : ¬ Qam E es add = 0 := by simpa using c18
   have hd : doE n.v E es add = (E, ([], []), Qam E es add) := by unfold doE; rw [if_neg hc]
   rw [hd]
   refine sq (rg (oP (Zb (d := kD) (v0 := ([], [])) (ps := [(0, 1), (1, 1)]) z44 (by kernel_rfl) rfl Qc) rfl (mv rfl rfl (oA (asv oz oz (pA 0 rfl) yh2) (pA 0 rfl) rfl rfl (fun _ _ => ?_)))))
   refine av rfl rfl (tn (nn (tR (tt ?_))))
   exact Zl .ret (.inl rfl) rfl (al, lv, ct) oz (mA 0 rfl) yh2 oz (fun _ _ h => h) hok (by (repeat (refine pc 1 rfl ?_)); exact pd (pl))
 have hc : Qam E es add = 0 := by simpa using c18
 have hd0 : doE n.v E es add = (if (add && Z4 n.v (E ++ es)) = true then (E, ([], []), 5) else (goE E es add, Qbg (Vm n.v E) (Vm n.v (goE E es add)))) := by unfold doE; rw [if_pos hc]
 refine sk (nn (sq (rg (mv rfl rfl (oA (aC (Qii n ct (Vg n.v E) hok.keys_ (fun t ht => Qic hv hok.als.inE ht) (hok.ctlen hmb)) ycb (oc oz oN) (pA 1 rfl)) (pA 1 rfl) rfl rfl (fun _ _ => ?_))))))
 refine av rfl rfl (tn (nn (sq (sq (rg (mv rfl rfl (oP (pls oz Tryz.underlying26) rfl (oP (Qm ot) rfl (tn (nn (tb (Qt (σ := Nat × AlM × List Rw × List (Lab × Int)) (e4 0 1 2 6 rfl (e2 9 23 rfl (ec 24 rfl en))) (fun s => [(25, I64 (s.1 : Int))]) (fun s => (Qb g0_0 38 kD ([], []) :: Qev n s.2.1 s.2.2.1 s.2.2.2)) (fun s => s.1 ≤ es.length ∧ Jq n s.2.1 s.2.2.1 s.2.2.2 (atE E es add s.1) ∧ Z4 n.v (atE E es add s.1) = false) (fun s => es.length - s.1) (0, al, lv, ct) ⟨Nat.zero_le _, (by rw [Qie]; exact hok), (by rw [Qie]; exact hmb)⟩ ?_ (op (by (repeat (first | refine pc 0 rfl ?_ | refine pc 1 rfl ?_)); exact pl)) ?_))))))))))))
 · exact (ec 25 rfl en)
 rintro ⟨i, q⟩ ⟨hi, hin, hmi⟩
 dsimp only at hi hin hmi ⊢
 refine sq (rg (oP (Q5 oz oz) rfl (tn (nn (sq (tc oz (fun c26 => ?_) (fun c26 => ?_)))))))
 · refine sk (nn (sq (tb (sq ?_))))
   have hil : i < es.length := by simpa using c26
   obtain ⟨e, hee⟩ : ∃ e, at' es (i : Int) = e := ⟨_, rfl⟩
   have hem : es[i] = e := by rw [← hee, Q1 hil]
   obtain ⟨hz1, _, hz3⟩ := Qcv hc i hil
   have hel := Qqz (E := E) (es := es) (add := add) (i := i)
   refine rg (mv rfl rfl (oP (Qj oz oz Tryz.underlying26 y16 (by omega) (by omega)) rfl (oP (pL oz y16) rfl (oA (Qz (zE)) pR rfl rfl (fun g7_3 _ => ?_)))))
   refine av rfl rfl (oA (asv oz oz (pA 0 rfl) y16) (pA 0 rfl) rfl rfl (fun _ _ => ?_))
   refine tn ?_
   rw [hee]
   refine nn (sq (sq (rg (mv rfl rfl (oP (Zf oz) rfl (tn (nn (tc oz (fun c31 => ?_) (fun c31 => ?_)))))))))
   · obtain rfl : add = false := by simpa using c31
     have hine : e ∈ atE E es false i := by
      rw [hem] at hz1 hz3
      exact Xm.2 ⟨of_decide_eq_true hz1, hz3⟩
     refine sq (rg (mv rfl rfl (oP (plv oz (mA 0 rfl) y16) rfl (Qgv [_, _] rfl (aC (Qka n q.1 q.2.1 q.2.2 (atE E es false i) e hv hin hine (by omega)) yow (oc oz (oc oz oN)) (Kl (X := [_, _]))) rfl rfl fun m hm => (tn (nn (Qx (tx (bh (nn (rg (oP (pad oz ot (by omega)) rfl (mv rfl rfl (tn (nn ?_)))))))))))))))
     exact tg (i + 1, m) ⟨(by show i + 1 ≤ es.length; omega), hm.congr (fun x => by rw [← hee]; exact Qwf hil x) (Qjq hok.als.nd hc _), (by
      have hx : ∀ x ∈ atE E es false (i + 1), x ∈ E := fun x hx => (Xm.1 hx).1
      cases hb : Z4 n.v (atE E es false (i + 1)) with
      | false => rfl
      | true => rw [V3 hx hb] at hmb; cases hmb)⟩ (by show es.length - (i + 1) < es.length - i; omega) (ea (ec 25 rfl en) (e4 0 1 2 6 rfl (e2 9 23 rfl (ec 24 rfl en)))) (op (by (repeat (refine pc 1 rfl ?_)); exact pd (pl)))
   obtain rfl : add = true := by simpa using c31
   have hne : e ∉ atE E es true i := by
    rw [hem] at hz1 hz3
    intro h
    rcases List.mem_append.1 h with h | h
    · rw [decide_eq_true h] at hz1; cases hz1
    exact hz3 h
   have hie : inI e.1 ∧ inI e.2.2 := hei e (by rw [← hem]; exact List.getElem_mem hil)
   refine sk (nn (sq (rg (mv rfl rfl (oP (plv oz (mA 0 rfl) y16) rfl (Qgv [_, _] rfl (aC (Qj9 n q.1 q.2.1 q.2.2 (atE E es true i) e hv hin hne hie (by omega)) ywr (oc oz (oc oz oN)) (Kl (X := [_, _]))) rfl rfl fun m hm => (tn ?_)))))))
   have hm2 : Jq n m.1 m.2.1 m.2.2 (atE E es true (i + 1)) := by have h9 := hm; rw [← hee, Qwg hil] at h9; exact h9
   have hll := Qe3 m.2.1
   have hlv := hm2.lvl
   have hgl := hm2.gl
   refine nn (sq (rg (mv rfl rfl (Q3h [_, _, _] (AlI n m.1) rfl (aC (Qpr n m.2.1 n.v.2.2.2.1.length hgl hlv (by omega)) yrc (oc oz oN) (Qwe (X := [_, _, _]) (Z := AlI n m.1))) rfl rfl fun _ _ => (oA (aC (Q33 (lens m.2.1) (by omega) (by omega)) ypm (oc oz oN) pR) pR rfl rfl (fun _ _ => ?_))))))
   refine oP (Y3 oz ot) rfl (tn (nn (tc oz (fun c41 => ?_) (fun c41 => ?_))))
   · have hmany : Z4 n.v (atE E es true (i + 1)) = true := by rw [← Qmw n.v ha1, ← hm2.lens_]; exact c41
     have hmall : Z4 n.v (E ++ es) = true := V3 (fun x hx => (List.mem_append.1 hx).elim (List.mem_append_left _) fun h => List.mem_append_right _ ((List.take_subset _ _) h)) hmany
     have hd : doE n.v E es true = (E, ([], []), 5) := by rw [hd0, hmall]; rfl
     rw [hd]
     refine sq (sq (rg (mv rfl rfl (av rfl rfl (tn (nn (tb (Qt (σ := Nat × AlM × List Rw × List (Lab × Int)) (e2 0 1 rfl (ec 6 rfl en)) (fun s => [(12, I64 ((s.1 : Int) - 1))]) (fun s => (Qb g7_3 42 kE e :: Qb g0_0 38 kD ([], []) :: Qev n s.2.1 s.2.2.1 s.2.2.2)) (fun s => s.1 ≤ i + 1 ∧ Jq n s.2.1 s.2.2.1 s.2.2.2 (atE E es true s.1)) (fun s => s.1) (i + 1, m) ⟨Nat.le_refl _, hm2⟩ ?_ (op (by (repeat (refine pc 0 rfl ?_)); exact pl)) ?_))))))))
     · exact (Qy (t := 12) (OT.val oz (congrArg (Value.int _) (by show _ = ((i + 1 : Nat) : Int) - 1; omega))) en)
     rintro ⟨j, p⟩ ⟨hj, hpk⟩
     dsimp only at hj hpk ⊢
     refine sq (sq (rg (mv rfl rfl (oP (Vi oz ot) rfl (tn (nn (tc oz (fun c44 => ?_) (fun c44 => ?_))))))))
     · refine sk (nn (sq (tb ?_)))
       have hj1 : 1 ≤ j := by simp only [decide_eq_true_eq] at c44; omega
       obtain ⟨j', rfl⟩ : ∃ j', j = j' + 1 := ⟨j - 1, by omega⟩
       have hjl : j' < es.length := by omega
       have hjj : ((j' + 1 : Nat) : Int) - 1 = (j' : Int) := by omega
       rw [hjj]
       obtain ⟨e2, he2⟩ : ∃ e, at' es (j' : Int) = e := ⟨_, rfl⟩
       have hine2 : e2 ∈ atE E es true (j' + 1) := List.mem_append_right _ (by rw [← he2]; exact (Qe4 hjl).2 (.inr rfl))
       have hel2 := Qqz (E := E) (es := es) (add := true) (i := j' + 1)
       refine rg (mv rfl rfl (mv rfl rfl (mv rfl rfl (oP (Qj oz oz Tryz.underlying26 y16 (by omega) (by omega)) rfl (oP (pL oz y16) rfl ?_)))))
       rw [he2]
       refine Qgv [_, _] rfl (aC (Qka n p.1 p.2.1 p.2.2 (atE E es true (j' + 1)) e2 hv hpk hine2 (by omega)) yow (oc oz (oc oz oN)) (Kl (X := [_, _]))) rfl rfl fun u hu => (tn (bn (nn (rg (mv rfl rfl (oP (Kb oz ot (by omega)) rfl (av rfl rfl (tn (nn ?_)))))))))
       exact tg (j', u) ⟨(by show j' ≤ i + 1; omega), hu.congr (fun x => by rw [← he2]; exact Qsr hc hjl x) (Qjq hok.als.nd hc _)⟩ (by show j' < j' + 1; omega) ef (op (by (repeat (refine pc 0 rfl ?_)); exact pl))
     refine Qx (tx (tx (bh (nn (sq ?_)))))
     obtain rfl : j = 0 := by simp only [decide_eq_false_iff_not] at c44; omega
     refine rg (oP (Zb (d := kD) (v0 := ([], [])) (ps := [(0, 1), (1, 1)]) z44 (by kernel_rfl) rfl Qc) rfl (oA (asv oz oz (pA 1 rfl) yh2) (pA 1 rfl) rfl rfl (fun _ _ => ?_)))
     refine ak rfl (tn (nn (tR (Qw (tt (tt (Qw (tt ?_))))))))
     exact Zl .ret (.inl rfl) rfl p oz (mA 0 rfl) yh2 oz (fun _ _ h => h) (by have h9 := hpk; rw [Qie] at h9; exact h9) (by (repeat (refine pc 2 rfl ?_)); exact pd (pd (pl)))
   have hno : Z4 n.v (atE E es true (i + 1)) = false := by rw [← Qmw n.v ha1, ← hm2.lens_]; exact c41
   refine sk (bn (nn (rg (oP (pad oz ot (by omega)) rfl (mv rfl rfl (tn (nn ?_)))))))
   exact tg (i + 1, m) ⟨(by show i + 1 ≤ es.length; omega), hm2, hno⟩ (by show es.length - (i + 1) < es.length - i; omega) ef (op (by (repeat (refine pc 1 rfl ?_)); exact pd (pl)))
 refine Qx (tx (tx (bh (nn (sq ?_)))))
 obtain rfl : i = es.length := by simp only [decide_eq_false_iff_not] at c26; omega
 rw [Q0r] at hin hmi
 have hs1 := Qkb hv hok.als.inE hmb
 have hs2 := Qkb hv hin.als.inE hmi
 have hd : doE n.v E es add = (goE E es add, Qbg (Vm n.v E) (Vm n.v (goE E es add))) := by
  rw [hd0, if_neg]
  cases add with
  | false => simp
  | true => rw [show Z4 n.v (E ++ es) = false from hmi]; simp
 rw [hd]
 refine rg (mv rfl rfl (mv rfl rfl (oA (aC (Qii n q.2.2 (Vg n.v (goE E es add)) hin.keys_ (fun t ht => Qic hv hin.als.inE ht) (hin.ctlen hmi)) ycb (oc oz oN) (pA 1 rfl)) (pA 1 rfl) rfl rfl (fun _ _ => ?_))))
 refine oA (Zo (Q1k (K0 := noK) (n0 := 0) (Vm n.v E) (Vm n.v (goE E es add)) hs1 hs2) J1 yi7 (oc oz (oc oz oN)) pR) pR rfl rfl (fun _ _ => ?_)
 refine oP (Qd oz rfl) rfl (oP (Qd oz rfl) rfl (Zt 59 (Q5f oz) (oA (asv oz oz (pA 1 rfl) yh2) (pA 1 rfl) rfl rfl (fun _ _ => ?_))))
 refine av rfl rfl (tn ?_)
 skip
 refine nn (tR ?_)
 exact Zl .ret (.inl rfl) rfl q oz (mA 0 rfl) yh2 oz (fun _ _ h => h) hin (by (repeat (refine pc 1 rfl ?_)); exact pd (pl))
end Go.Proofs.YtklhdalppmjnaaaGreatDoor
namespace Go.Gw
open Go Go.MapKept
theorem Qmx {C : Cx} {Γ : Env} {L R : List It} {dst : Option Tmp} {ty : TypeId} {pos : String} {after : Array Edge} {guard : Option (Nat × Bool)} {x y z : Operand} {κ α : Type} [DecidableEq κ] {t kt et : TypeId} {K : Kd κ} {enc : κ → Value} {V : α → Ty} {m : List (κ × α)} {g : Nat} {k : κ} {v : α}
 (mk : Ky C.P kt K enc) (ht : C.P.underlying t = some (.map kt et)) (hx : OT C.N Γ x (IsV (mp g))) (hp : List.Perm L (Qg g enc V m :: R)) (hy : OT C.N Γ y (K.T k)) (hz : OT C.N Γ z (V v)) :
 Yp C Γ L ⟨dst, .insert t x y z, ty, pos, after, guard⟩ [Qg g enc V m] Unit (fun _ => Yu) (fun _ => [Qg g enc V (ptk k v m)]) (fun _ => True) := by
 intro a w H f s ow Q K' hK
 have o' := ow.perm hp
 obtain ⟨es, clock, hb, hR⟩ := o'.all _ List.mem_cons_self
 have hown := o'.own g (Xn (i := Qg g enc V m) List.mem_cons_self rfl)
 have hxv : a.eval x = .map (some g) := hx a H f
 have hyv : a.eval y = enc k := mk.val (hy a H f)
 obtain ⟨es', clock', hr, hR'⟩ := Qhh (k := k) mk ht hb hR (hz a H f)
 have hrun : (execOp a.eval ⟨dst, .insert t x y z, ty, pos, after, guard⟩).run C.P w = .ok .skip (K1 w g es' clock') := by simp [execOp, hxv, hyv, hr, Result.andThen]
 simp only [Oper.wp, hrun, Oper.upon_skip]
 refine hK () _ _ H trivial (Qde s.on hown.2.1 (Xn (i := Qg g enc V m) List.mem_cons_self rfl) _ _) trivial ?_
 exact Js (I := Qg g enc V m) rfl rfl ⟨_, _, Ue hb, hR'⟩ o' (by simp)
end Go.Gw
namespace Go.Proofs.YtklhdalppmjnaaaGreatDoor
open Go Go.Gw Go.So Go.Tu Go.Jn Go.Nt
abbrev Qif := Vw × List Lab × Value × Value × Value × Value × Value × Value
abbrev kR6 : Kd (Value × Value) := Xo Q3 Q3
abbrev kR5 : Kd (Value × Value × Value) := Xo Q3 kR6
abbrev kR4 : Kd (Value × Value × Value × Value) := Xo Q3 kR5
abbrev kR3 : Kd (Value × Value × Value × Value × Value) := Xo Q3 kR4
abbrev kR2 : Kd (Value × Value × Value × Value × Value × Value) := Xo Q3 kR3
abbrev kR1 : Kd (List Lab × Value × Value × Value × Value × Value × Value) := Xo (ksl kS) kR2
abbrev kR : Kd Qif := Xo kV kR1
theorem lr0 {t : Qif} : Qf kR kV 0 t t.1 (fun y => (y, t.2)) := Qf.fst
theorem lr1 {t : Qif} : Qf kR (ksl kS) 5 t t.2.1 (fun y => (t.1, y, t.2.2)) := Qf.comp (Qf.snd (a := kV) (b := kR1)) (Qf.fst (a := ksl kS) (b := kR2))
theorem lr2 {t : Qif} : Qf kR Q3 6 t t.2.2.1 (fun y => (t.1, t.2.1, y, t.2.2.2)) := Qf.comp (Qf.snd (a := kV) (b := kR1)) (Qf.comp (Qf.snd (a := ksl kS) (b := kR2)) (Qf.fst (a := Q3) (b := kR3)))
theorem lr3 {t : Qif} : Qf kR Q3 7 t t.2.2.2.1 (fun y => (t.1, t.2.1, t.2.2.1, y, t.2.2.2.2)) := Qf.comp (Qf.snd (a := kV) (b := kR1)) (Qf.comp (Qf.snd (a := ksl kS) (b := kR2)) (Qf.comp (Qf.snd (a := Q3) (b := kR3)) (Qf.fst (a := Q3) (b := kR4))))
theorem lr4 {t : Qif} : Qf kR Q3 8 t t.2.2.2.2.1 (fun y => (t.1, t.2.1, t.2.2.1, t.2.2.2.1, y, t.2.2.2.2.2)) := Qf.comp (Qf.snd (a := kV) (b := kR1)) (Qf.comp (Qf.snd (a := ksl kS) (b := kR2)) (Qf.comp (Qf.snd (a := Q3) (b := kR3)) (Qf.comp (Qf.snd (a := Q3) (b := kR4)) (Qf.fst (a := Q3) (b := kR5)))))
theorem lr5 {t : Qif} : Qf kR Q3 9 t t.2.2.2.2.2.1 (fun y => (t.1, t.2.1, t.2.2.1, t.2.2.2.1, t.2.2.2.2.1, y, t.2.2.2.2.2.2)) := Qf.comp (Qf.snd (a := kV) (b := kR1)) (Qf.comp (Qf.snd (a := ksl kS) (b := kR2)) (Qf.comp (Qf.snd (a := Q3) (b := kR3)) (Qf.comp (Qf.snd (a := Q3) (b := kR4)) (Qf.comp (Qf.snd (a := Q3) (b := kR5)) (Qf.fst (a := Q3) (b := kR6))))))
theorem lr6 {t : Qif} : Qf kR Q3 10 t t.2.2.2.2.2.2.1 (fun y => (t.1, t.2.1, t.2.2.1, t.2.2.2.1, t.2.2.2.2.1, t.2.2.2.2.2.1, y, t.2.2.2.2.2.2.2)) := Qf.comp (Qf.snd (a := kV) (b := kR1)) (Qf.comp (Qf.snd (a := ksl kS) (b := kR2)) (Qf.comp (Qf.snd (a := Q3) (b := kR3)) (Qf.comp (Qf.snd (a := Q3) (b := kR4)) (Qf.comp (Qf.snd (a := Q3) (b := kR5)) (Qf.comp (Qf.snd (a := Q3) (b := kR6)) (Qf.fst (a := Q3) (b := Q3)))))))
theorem lr7 {t : Qif} : Qf kR Q3 11 t t.2.2.2.2.2.2.2 (fun y => (t.1, t.2.1, t.2.2.1, t.2.2.2.1, t.2.2.2.2.1, t.2.2.2.2.2.1, t.2.2.2.2.2.2.1, y)) := Qf.comp (Qf.snd (a := kV) (b := kR1)) (Qf.comp (Qf.snd (a := ksl kS) (b := kR2)) (Qf.comp (Qf.snd (a := Q3) (b := kR3)) (Qf.comp (Qf.snd (a := Q3) (b := kR4)) (Qf.comp (Qf.snd (a := Q3) (b := kR5)) (Qf.comp (Qf.snd (a := Q3) (b := kR6)) (Qf.snd (a := Q3) (b := Q3)))))))
theorem Q43 {t : Qif} : Qf kR (ksl kA) 3 t t.1.2.2.2.1 (fun y => ((t.1.1, t.1.2.1, t.1.2.2.1, y, t.1.2.2.2.2), t.2)) := Qf.comp lr0 lv3
abbrev zRV : Qif := (([], 0, [], [], []), [], Qo, Qo, Qo, .map none, Qo, .map none)
theorem Q44 : Xw Tryz.prog 115 kR zRV := ⟨.agg #[.string (bs []), .int .i64 0, Qo, Qo, .string (bs []), Qo, Qo, Qo, Qo, .map none, Qo, .map none], by kernel_rfl, fun H =>
 ⟨[.string (bs []), .int .i64 0, Qo, Qo, .string (bs []), Qo, Qo, Qo, Qo, .map none, Qo, .map none],
  ⟨[.string (bs []), .int .i64 0, Qo, Qo, .string (bs [])], [Qo, Qo, Qo, Qo, .map none, Qo, .map none], ⟨[_], [_, _, _, _], rfl, ⟨[_], [_, _, _], rfl, ⟨[_], [_, _], ⟨Qo, rfl, Uj⟩, ⟨[_], [_], ⟨Qo, rfl, Uj⟩, rfl, rfl⟩, rfl⟩, rfl⟩, rfl⟩,
   ⟨[_], [_, _, _, _, _, _], ⟨Qo, rfl, Uj⟩, ⟨[_], [_, _, _, _, _], ⟨rfl, rfl⟩, ⟨[_], [_, _, _, _], ⟨rfl, rfl⟩, ⟨[_], [_, _, _], ⟨rfl, rfl⟩, ⟨[_], [_, _], ⟨rfl, rfl⟩, ⟨[_], [_], ⟨rfl, rfl⟩, ⟨rfl, rfl⟩, rfl⟩, rfl⟩, rfl⟩, rfl⟩, rfl⟩, rfl⟩, rfl⟩, rfl⟩⟩
theorem Q0s (g : Nat) (n : NO) (fv tv ov lv : Value) : Frz (Qb g 115 kR (n.v, Qa n.v.2.2.2.1, fv, tv, ov, mp n.ga, lv, mp n.gc) :: Qh 3 kI fv (Ym n.v.2.2.2.1) :: Qh 3 kI tv (toL n.v.2.2.2.1) :: Qh 3 kI ov (Qdo n.v) :: Qh 117 Q3 lv (n.gl.map mp) :: []) fun H => (AtT J7 (Y9 n)).p H (pt g 0) := by
 have h := (Frz.blk (g := g) (t := 115) (d := kR) (x := (n.v, Qa n.v.2.2.2.1, fv, tv, ov, mp n.ga, lv, mp n.gc))).cons Qa2.ty
  ((Frz.own (t := 3) (d := kI) (v := fv) (xs := Ym n.v.2.2.2.1)).cons Qa2.ty
   ((Frz.own (t := 3) (d := kI) (v := tv) (xs := toL n.v.2.2.2.1)).cons Qa2.ty
    ((Frz.own (t := 3) (d := kI) (v := ov) (xs := Qdo n.v)).cons Qa2.ty
     (Frz.own (t := 117) (d := Q3) (v := lv) (xs := n.gl.map mp)))))
 refine Frz.imp h ?_
 rintro H ⟨q1, q2, q3, q4, q5⟩
 refine AtT.conv q1 ?_
 rintro cs ⟨c1, d1, k1, ⟨c2, d2, k2, ⟨c3, d3, k3, ⟨c4, d4, k4, ⟨c5, d5, k5, ⟨c6, d6, k6, ⟨c7, d7, k7, k8, rfl⟩, rfl⟩, rfl⟩, rfl⟩, rfl⟩, rfl⟩, rfl⟩
 exact ⟨c1, _, k1, ⟨c2, _, k2, ⟨c3, _, ⟨fv, k3.1, q2⟩, ⟨c4, _, ⟨tv, k4.1, q3⟩, ⟨c5, _, ⟨ov, k5.1, q4⟩, ⟨c6, _, k6, ⟨c7, d7, ⟨lv, k7.1, q5⟩, k8, rfl⟩, rfl⟩, rfl⟩, rfl⟩, rfl⟩, rfl⟩, rfl⟩
def lvN (k : Nat) : List Rw := [([], [])] :: List.replicate k []
theorem Qmy : ∀ {gl : List Nat} {lv : List Rw} {g : Nat} {m : Rw}, gl.length = lv.length → (Qg g encS kT.T m :: lvI gl lv).Perm (lvI (gl ++ [g]) (lv ++ [m]))
 | [], [], _, _, _ => List.Perm.refl _
 | [], _ :: _, _, _, h => by cases h
 | _ :: _, [], _, _, h => by cases h
 | a :: gl, b :: lv, g, m, h => (List.Perm.swap _ _ _).trans ((Qmy (gl := gl) (lv := lv) (by simpa using h)).cons _)
theorem Qwh (k : Nat) : lvN k ++ [[]] = lvN (k + 1) := by
 unfold lvN
 rw [List.cons_append, ← List.replicate_succ']
theorem Qq0 (k : Nat) : (lvN k).length = k + 1 := by unfold lvN; rw [List.length_cons, List.length_replicate]
theorem Q0t : Kn [] [] [] := ⟨List.nodup_nil, fun e he => (by cases he), fun l x hx => (by cases hx), fun l hl e he => (by cases he), fun a ha => (by cases ha)⟩
theorem Qmz {al : List Atm} {k : Nat} {a : Atm} {m : AlM} (h : Kn [] (al.take k) m) (hk : k < al.length) (ha : at' al (k : Int) = a) (hs : (lkp a.2.1 m).isSome = true) : Kn [] (al.take (k + 1)) m := ⟨h.nd, h.inE, h.some_, h.none_, fun b hb => by
 rw [List.take_succ_eq_append_getElem hk] at hb
 rcases List.mem_append.1 hb with hb | hb
 · exact h.lab b hb
 rw [(by simpa using hb : b = al[k]), ← Q1 hk, ha]; exact hs⟩
theorem Q0u {al : List Atm} {k : Nat} {a : Atm} {m : AlM} {gf gt gh : Nat} (h : Kn [] (al.take k) m) (hk : k < al.length) (ha : at' al (k : Int) = a) (hn : lkp a.2.1 m = none) : Kn [] (al.take (k + 1)) (ptk a.2.1 ⟨gf, gt, gh, [], [], []⟩ m) :=
 Qmz (h.alpha ⟨Qig, .inr ⟨hn, gf, gt, gh, rfl⟩⟩) hk ha Qig
theorem Qss {al : List Atm} {k : Nat} {t : Tp} (h0 : 0 < k) (hk : k ≤ al.length) : ¬ RwK al [] k t := fun h => by
 have hl : 0 < al.length := by omega
 have := h.2 al[0] (List.mem_take_iff_getElem.2 ⟨0, by omega, rfl⟩)
 cases this
theorem Qst {n : NO} {m : AlM} (hgl : n.gl.length = n.v.2.2.2.1.length + 1) (h1 : 1 ≤ n.v.2.2.2.1.length) (h : Kn [] n.v.2.2.2.1 m) : Jq n m (lvN n.v.2.2.2.1.length) [] [] where
 als := h
 gl := hgl
 lvl := Qq0 _
 rows := fun k hk => by
  cases k with
  | zero => exact Xk.one.congr fun t => V2.symm
  | succ k =>
   have e : (lvN n.v.2.2.2.1.length).getD (k + 1) [] = [] := by
    unfold lvN
    rw [List.getD_cons_succ, List.getD_eq_getElem?_getD, List.getElem?_replicate]
    split <;> rfl
   rw [e]
   exact Xk.nil.congr fun t => ⟨fun h => h.elim, fun h => absurd h (Qss (by omega) hk)⟩
 cnt := by
  obtain ⟨k, hk⟩ : ∃ k, n.v.2.2.2.1.length = k + 1 := ⟨n.v.2.2.2.1.length - 1, by omega⟩
  have e : (lvN n.v.2.2.2.1.length).getD n.v.2.2.2.1.length [] = [] := by
   rw [hk]; unfold lvN
   rw [List.getD_cons_succ, List.getD_eq_getElem?_getD, List.getElem?_replicate]
   split <;> rfl
  rw [e]; exact Y7.nil
def Yv (l : List Ed) : List Ed := l.foldl (fun out e => if e ∈ out then out else out ++ [e]) []
theorem Qq1 {l : List Ed} {j : Nat} (h : j < l.length) : Yv (l.take (j + 1)) = if at' l (j : Int) ∈ Yv (l.take j) then Yv (l.take j) else Yv (l.take j) ++ [at' l (j : Int)] := by
 unfold Yv
 rw [List.take_succ_eq_append_getElem h, List.foldl_append, Q1 h]; rfl
theorem Qb8 {l : List Ed} {x : Ed} : x ∈ Yv l ↔ x ∈ l := by
 have : ∀ (l out : List Ed), x ∈ l.foldl (fun out e => if e ∈ out then out else out ++ [e]) out ↔ x ∈ out ∨ x ∈ l := by
  intro l
  induction l with
  | nil => intro out; simp
  | cons e l ih =>
   intro out
   rw [List.foldl_cons, ih, List.mem_cons]
   split
   · rename_i h
     constructor
     · rintro (h1 | h1)
       · exact .inl h1
       exact .inr (.inr h1)
     rintro (h1 | rfl | h1)
     · exact .inl h1
     · exact .inl h
     exact .inr h1
   rw [List.mem_append, List.mem_singleton]
   constructor
   · rintro ((h1 | h1) | h1)
     · exact .inl h1
     · exact .inr (.inl h1)
     exact .inr (.inr h1)
   rintro (h1 | h1 | h1)
   · exact .inl (.inl h1)
   · exact .inl (.inr h1)
   exact .inr h1
 unfold Yv
 rw [this]; simp
theorem Qih (l : List Ed) : (Yv l).length ≤ l.length := by
 have : ∀ (l out : List Ed), (l.foldl (fun out e => if e ∈ out then out else out ++ [e]) out).length ≤ out.length + l.length := by
  intro l
  induction l with
  | nil => intro out; simp
  | cons e l ih =>
   intro out
   rw [List.foldl_cons, List.length_cons]
   refine Nat.le_trans (ih _) ?_
   split
   · omega
   rw [List.length_append, List.length_singleton]; omega
 have h := this l []
 unfold Yv; simpa using h
theorem Qjr {al : List Atm} {k : Nat} {a : Atm} (hk : k < al.length) (ha : at' al (k : Int) = a) : (Ym al).take (k + 1) = (Ym al).take k ++ [ixI (Qa al) a.1] := by
 have hm : a ∈ al := by rw [← ha, Q1 hk]; exact List.getElem_mem hk
 rw [List.take_succ_eq_append_getElem (by rw [Wy]; exact hk), ← Q1 (by rw [Wy]; exact hk), Qcs hk ha, Qdk (Jd.2 ⟨a, hm, .inl rfl⟩)]
theorem Qq2 {al : List Atm} {k : Nat} {a : Atm} (hk : k < al.length) (ha : at' al (k : Int) = a) : (toL al).take (k + 1) = (toL al).take k ++ [ixI (Qa al) a.2.2] := by
 have hm : a ∈ al := by rw [← ha, Q1 hk]; exact List.getElem_mem hk
 rw [List.take_succ_eq_append_getElem (by rw [Qa5]; exact hk), ← Q1 (by rw [Qa5]; exact hk), Qjo hk ha, Qdk (Jd.2 ⟨a, hm, .inr rfl⟩)]
theorem Qsu {v : Vw} {k : Nat} {o : Lab} (hk : k < v.2.2.1.length) (ho : at' v.2.2.1 (k : Int) = o) (hin : o ∈ Qa v.2.2.2.1) : (Qdo v).take (k + 1) = (Qdo v).take k ++ [ixI (Qa v.2.2.2.1) o] := by
 rw [List.take_succ_eq_append_getElem (by rw [Qb4]; exact hk), ← Q1 (by rw [Qb4]; exact hk), Qvy hk, ho, Qdk hin]
end Go.Proofs.YtklhdalppmjnaaaGreatDoor
namespace Go.Proofs.YtklhdalppmjnaaaGreatDoor
open Go Go.Gw Go.So Go.Tu Go.Jn Go.Nt
theorem Qwi {A B D F X1 X2 X3 : It} {v : Value} {gs : List Nat} {g g' k : Nat} {Z : List It} (h : (g' :: gs).length = (lvN k).length) :
 (A :: Qh 117 Q3 v (List.map mp (g' :: gs) ++ [mp g]) :: Qg g encS kT.T [] :: B :: D :: F :: X1 :: X2 :: X3 :: (lvI (g' :: gs) (lvN k) ++ Z)).Perm
  (A :: D :: B :: Qh 117 Q3 v (List.map mp (g' :: (gs ++ [g]))) :: F :: X1 :: X2 :: X3 :: (lvI (g' :: (gs ++ [g])) (lvN (k + 1)) ++ Z)) := by
 have e : List.map mp (g' :: gs) ++ [mp g] = List.map mp (g' :: (gs ++ [g])) := by simp
 rw [e, ← Qwh]
 have h1 := (Qmy (g := g) (m := []) h).append_right Z
 refine List.Perm.cons _ ?_
 have h2 : ∀ (O M : It) (W V : List It), (M :: W).Perm V → (O :: M :: B :: D :: F :: X1 :: X2 :: X3 :: W).Perm (D :: B :: O :: F :: X1 :: X2 :: X3 :: V) := fun O M W V hV => by
  have a1 : ([O, M] ++ [B, D, F, X1, X2, X3]).Perm ([D, B, O, F, X1, X2, X3] ++ [M]) := by
   refine (List.perm_append_comm (l₁ := [O, M]) (l₂ := [B, D, F, X1, X2, X3])).trans ?_
   refine ((Qq 1 rfl).trans (List.Perm.cons _ ((Qq 0 rfl).trans (List.Perm.cons _ ((Qq 4 rfl).trans (List.Perm.cons _ (List.Perm.refl _)))))))
  have a2 := a1.append_right W
  refine List.Perm.trans (by simpa only [List.append_assoc, List.cons_append, List.nil_append] using a2) ?_
  exact List.Perm.append_left [D, B, O, F, X1, X2, X3] hV
 exact h2 _ _ _ _ h1
theorem Q0v {ga gf gt gh : Nat} {lab : Lab} {m : AlM} (X : List It) {Y : List It} (h : lkp lab m = none) : Jp (Qg ga encS (kpt kAl).T (ptk lab (some (mp gf, mp gt, mp gh)) (Zn m)) :: Qg gf encI IsV [] :: Qg gt encI IsV [] :: Qg gh Zu Xd.T [] :: (X ++ (Y ++ Yf m)))
 (X ++ (Qg ga encS (kpt kAl).T (Zn (ptk lab ⟨gf, gt, gh, [], [], []⟩ m)) :: (Y ++ Yf (ptk lab ⟨gf, gt, gh, [], [], []⟩ m)))) := by
 rw [Qft]
 refine Yl ?_
 have h1 : (Qg gf encI IsV [] :: Qg gt encI IsV [] :: Qg gh Zu Xd.T [] :: Yf m).Perm (Yf (ptk lab ⟨gf, gt, gh, [], [], []⟩ m)) := by
  refine List.Perm.trans ?_ Qfu
  rw [J5 (Xx.1 h)]
  exact List.Perm.refl _
 refine List.Perm.trans ?_ ((((h1.append_left Y).cons (Qg ga encS (kpt kAl).T (ptk lab (some (ptA ⟨gf, gt, gh, [], [], []⟩)) (Zn m)))).append_left X))
 have h2 : ∀ a b c d : It, ((a :: b :: c :: d :: (X ++ (Y ++ Yf m)))).Perm (X ++ (a :: (Y ++ (b :: c :: d :: Yf m)))) := fun a b c d => by
  have e1 : ([a] ++ ([b, c, d] ++ (X ++ Y))).Perm ([a] ++ ((X ++ Y) ++ [b, c, d])) := List.Perm.append_left _ List.perm_append_comm
  have e2 : (([a] ++ X) ++ (Y ++ [b, c, d])).Perm ((X ++ [a]) ++ (Y ++ [b, c, d])) := List.Perm.append_right _ List.perm_append_comm
  have e3 := e1.append_right (Yf m)
  have e4 := e2.append_right (Yf m)
  simp only [List.append_assoc, List.cons_append, List.nil_append] at e3 e4
  exact e3.trans e4
 exact h2 _ _ _ _
theorem Qwj {A B C D E : It} {Z : List It} : (A :: B :: C :: D :: E :: Z).Perm ((A :: C :: D :: B :: E :: []) ++ Z) := by
 refine List.Perm.cons _ ?_
 exact (List.Perm.swap _ _ _).trans ((List.Perm.swap _ _ _).cons _)
theorem Qsv {A B C : It} {Y Z : List It} : (A :: B :: C :: (Y ++ Z)).Perm (B :: A :: (Y ++ (C :: Z))) := by
 refine (List.Perm.swap _ _ _).trans ((List.Perm.cons _ ?_).cons _)
 exact List.perm_middle.symm
end Go.Proofs.YtklhdalppmjnaaaGreatDoor
