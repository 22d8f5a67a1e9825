/- The texts Tu7, Tu8, NtA, NtK, Nt1, Nt2, Nt3, NtC, NtB, Nt4, Nt5, Nt6, Nt7, Nt8, NtD, NtE, NtF of this claim, put together in their order. No condition of their own. -/
import Derived.Test.YtaahhghlpoiihaaGreatDoorQ4
import Derived.Test.YtaahhghlpoiihaaGreatDoorQ2
import Derived.Test.YtaahhghlpoiihaaGreatDoorQ7
import Derived.WideLaws
/- Walks through the Go functions tuple.sets$1, api.Tuple], api.Tuple], tuple.sets, tuple.Diff, as typed contracts. -/
namespace Go.Proofs.YtaahhghlpoiihaaGreatDoor
open Go Go.Gw Go.So Go.Tu
set_option linter.unusedVariables false
set_option linter.unusedSimpArgs false
variable {K0 : FH} {n0 : Nat}
abbrev kFF (K0 : FH) (n0 : Nat) : Kd (List Tp) := kfr K0 n0 (kF K0 n0)
abbrev kDF (K0 : FH) (n0 : Nat) : Kd Dl := kpair (kFF K0 n0) (kFF K0 n0)
theorem z44f : ZeroOf Tryz.prog 42 (kDF K0 n0) ([], []) := ⟨.agg #[nilS, nilS], by kernel_rfl, fun H => ⟨[nilS, nilS], ⟨[nilS], [nilS], ⟨nilS, rfl, ⟨none, 0, rfl, by simp, by simp, fun h => by simp at h⟩, trivial, trivial⟩, ⟨nilS, rfl, ⟨none, 0, rfl, by simp, by simp, fun h => by simp at h⟩, trivial, trivial⟩, rfl⟩, rfl⟩⟩
theorem walk_fn (a b : List Tp) (ha : Small a) (hb : Small b) (ra : risesB a = true) (rb : risesB b = true) : Ct Tryz.prog 40 [SlT kT a, SlT kT b] [] Unit (fun _ => TupT [SlT kT (withoutL a b), SlT kT (interL a b), SlT kT (withoutL b a)]) (fun _ => []) (fun _ => True) := by
 have h := walk_fn0 a b ha.1 hb.1
 rw [walk_sets (rises_iff.1 ra) (rises_iff.1 rb)] at h; exact h
theorem sets2 (a b : List Tp) : (!([a, b].any fun l => !risesB l)) = (risesB a && risesB b) := by cases h1 : risesB a <;> cases h2 : risesB b <;> simp [h1, h2]
theorem sets3 (a b c : List Tp) : (!([a, b, c].any fun l => !risesB l)) = (risesB a && risesB b && risesB c) := by cases h1 : risesB a <;> cases h2 : risesB b <;> cases h3 : risesB c <;> simp [h1, h2, h3]
set_option maxHeartbeats 1000000 in
set_option maxRecDepth 20000 in
/-- rhizome/tuple.sets$1 -/
theorem sets1_fn (x : List Tp) : Ct Tryz.prog 69 [SlT kT x] ([]) Unit (fun _ => BoolT (!risesB x)) (fun _ => []) (fun _ => True) := by
 refine fn_intro Tryz.func69 rfl rfl ?_
 intro H w
 refine sq (te (ec 0 rfl en) (rg (ak rfl (tn (nn (sq (te (ec 0 rfl en) (rg (mv rfl rfl (oA (aC (Rises_all _) y75 (oc (oT rfl) oN) pR) pR rfl rfl (fun _ _ => ?_)))))))))))
 refine oP (pu_not (oT rfl)) rfl (av rfl rfl (tn (nn (tR ?_))))
 exact ret_one .ret (.inl rfl) rfl () (oT rfl) trivial (by exact pn)
set_option maxHeartbeats 1000000 in
set_option maxRecDepth 20000 in
/-- slices.IndexFunc[[][]rhizome/api.Tuple,[]rhizome/api.Tuple] -/
theorem idxL_fn (xs : List (List Tp)) (fv : Value) (p : List Tp → Bool) (hm : xs.length ≤ 1000000) (hfv : ∀ x, CtV Tryz.prog fv [kL.T x] [] Unit (fun _ => BoolT (p x)) (fun _ => []) (fun _ => True)) : Ct Tryz.prog 86 [SlT kL xs, IsV fv] ([]) Int (fun r => I64 r) (fun _ => []) (fun r => (decide (0 ≤ r)) = xs.any p) := by
 refine fn_intro Tryz.func86 rfl rfl ?_
 intro H w
 refine sq (te (ec 0 rfl (ec 1 rfl en)) (rg (ak rfl (tn (nn (sq (sq (te (ec 0 rfl (ec 1 rfl en)) (rg (mv rfl rfl (oP (pls (oT rfl) Tryz.underlying132) rfl (oP (pu_move ot) rfl (tn (nn (tb (tr_loopK (σ := Nat) (ec 0 rfl (ec 1 rfl (ec 7 rfl en))) (fun k => [(8, I64 (k : Int))]) (fun k => []) (fun k => k ≤ xs.length ∧ (xs.drop k).any p = xs.any p) (fun k => xs.length - k) 0 ⟨Nat.zero_le _, rfl⟩ ?_ (op (by exact pn)) ?_))))))))))))))))
 · exact (ec 8 rfl en)
 · rintro k ⟨hk, hk2⟩
   refine sq (te (ec 0 rfl (ec 1 rfl (ec 7 rfl (ec 8 rfl en)))) (rg (oP (pu_lss (oT rfl) (oT rfl)) rfl (tn (nn (sq (tc (oT rfl) (fun c9 => ?_) (fun c9 => ?_))))))))
   · try simp only [cq] at c9
     refine sk (nn (sq (tb (sq (te (ec 0 rfl (ec 1 rfl (ec 7 rfl (ec 8 rfl en)))) (rg (mv rfl rfl (av rfl rfl (tn (nn (sq (te (ec 0 rfl (ec 1 rfl (ec 5 rfl (ec 7 rfl (ec 8 rfl en))))) ?_))))))))))))
     have hst := any_step (l := xs) (p := p) (k := k) (by omega)
     refine rg (mv rfl rfl (mv rfl rfl (mv rfl rfl (oP (pu_index (oT rfl) (oT rfl) Tryz.underlying132 y25 (by omega) (by omega)) rfl (oP (pL (oT rfl) y25) rfl (oA (acts_callv (oT rfl) (hfv _) (oc (oT rfl) oN) pR) pR rfl rfl (fun _ _ => ?_)))))))
     refine tn (nn (tc (oT rfl) (fun c16 => ?_) (fun c16 => ?_)))
     · try simp only [cq] at c16
       refine sq (te (ec 5 rfl en) (rg (mv rfl rfl (av rfl rfl (tn (nn (tR (block_ret (tt (tt (block_ret (tt ?_))))))))))))
       exact ret_one .ret (.inl rfl) rfl (k : Int) (oT rfl) (by rw [← hk2, hst, c16, Bool.true_or]; simp) (by exact pn)
     · try simp only [cq] at c16
       refine sk (bn (nn (te (ec 0 rfl (ec 1 rfl (ec 7 rfl (ec 8 rfl en)))) (rg (oP (pad (oT rfl) ot (by omega)) rfl (mv rfl rfl (tn (nn ?_))))))))
       exact tg (k + 1) ⟨by omega, by rw [← hk2, hst, c16, Bool.false_or]⟩ (by omega) (ea (ec 8 rfl en) (ec 0 rfl (ec 1 rfl (ec 7 rfl en)))) (op (by exact pn))
   · try simp only [cq] at c9
     refine tr_exit (tx (tx (bh (nn (sq (te en (rg (ak rfl (tn (nn (tR ?_)))))))))))
     exact ret_one .ret (.inl rfl) rfl (-1) (oT rfl) (by rw [← hk2, List.drop_of_length_le (by omega)]; rfl) (by exact pn)
set_option maxHeartbeats 1000000 in
set_option maxRecDepth 20000 in
/-- slices.ContainsFunc[[][]rhizome/api.Tuple,[]rhizome/api.Tuple] -/
theorem hasL_fn (xs : List (List Tp)) (fv : Value) (p : List Tp → Bool) (hm : xs.length ≤ 1000000) (hfv : ∀ x, CtV Tryz.prog fv [kL.T x] [] Unit (fun _ => BoolT (p x)) (fun _ => []) (fun _ => True)) : Ct Tryz.prog 68 [SlT kL xs, IsV fv] ([]) Unit (fun _ => BoolT (xs.any p)) (fun _ => []) (fun _ => True) := by
 refine fn_intro Tryz.func68 rfl rfl ?_
 intro H w
 refine sq (te (ec 0 rfl (ec 1 rfl en)) (rg (ak rfl (tn (nn (sq (te (ec 0 rfl (ec 1 rfl en)) (rg (mv rfl rfl (mv rfl rfl (oA (aC (idxL_fn _ _ p (by assumption) (by assumption)) y76 (oc (oT rfl) (oc (oT rfl) oN)) pR) pR rfl rfl (fun r1_2 hr1_2 => ?_))))))))))))
 refine oP (pu_geq (oT rfl) ot) rfl (av rfl rfl (tn (nn (tR ?_))))
 exact ret_one .ret (.inl rfl) rfl () (OT.val (oT rfl) (congrArg Value.bool hr1_2)) trivial (by exact pn)
set_option maxHeartbeats 1000000 in
set_option maxRecDepth 20000 in
/-- rhizome/tuple.sets -/
theorem sets_fn (xs : List (List Tp)) (hm : xs.length ≤ 1000000) : Ct Tryz.prog 39 [SlT kL xs] ([]) Unit (fun _ => BoolT (!(xs.any fun l => !risesB l))) (fun _ => []) (fun _ => True) := by
 refine fn_intro Tryz.func39 rfl rfl ?_
 intro H w
 refine sq (te (ec 0 rfl en) (rg (ak rfl (tn (nn (sq (te (ec 0 rfl en) (rg (mv rfl rfl (oA (aC (hasL_fn _ _ (fun l => !risesB l) (by assumption) (fun x => CtV.of0 (sets1_fn x) (by kernel_rfl))) y77 (oc (oT rfl) (oc OT.func oN)) pR) pR rfl rfl (fun _ _ => ?_)))))))))))
 refine oP (pu_not (oT rfl)) rfl (av rfl rfl (tn (nn (tR ?_))))
 exact ret_one .ret (.inl rfl) rfl () (oT rfl) trivial (by exact pn)
set_option maxHeartbeats 1000000 in
set_option maxRecDepth 20000 in
/-- rhizome/tuple.Diff -/
theorem Diff_fn (a b : List Tp) (hs : Small a) (hb : Small b) : CtM K0 n0 Tryz.prog 35 [SlT kT a, SlT kT b] ([]) Unit (fun _ => TupT [(kDF K0 n0).T (diffR a b).1, I64 (diffR a b).2]) (fun _ => []) (fun _ => True) := by
 refine fn_introM Tryz.func35 rfl rfl ?_
 intro H w hK hn
 refine sq (te (ec 0 rfl (ec 1 rfl en)) (rg (oA (acts_alloc ((z44f (K0 := K0) (n0 := n0)))) pR rfl rfl (fun g0_0 _ => ?_))))
 refine ak rfl (tn (nn (sq (sq (te (ec 0 rfl (ec 1 rfl (ec 4 rfl en))) (rg (mv rfl rfl (mv rfl rfl (oA (acts_lit (d := kL) (v0 := []) y78 y25 z40 (show 2 * 1 ≤ 16777216 from by decide) (by decide) (fills_arr rfl rfl (by decide) (oT rfl) (fills_arr rfl rfl (by decide) (oT rfl) fills_nil))) pR rfl rfl (fun _ _ => ?_))))))))))
 refine oA (aC (sets_fn [a, b] (by simp)) y79 (oc (oT rfl) oN) pR) pR rfl rfl (fun _ _ => ?_)
 refine oP (pu_not (oT rfl)) rfl (tn (nn (tc (oT rfl) (fun c13 => ?_) (fun c13 => ?_))))
 · rw [sets2] at c13
   have hd : diffR a b = (([], []), 1) := by rw [diffR, if_neg (by rw [Bool.not_eq_true'] at c13; rw [c13]; simp)]
   refine sq (te (ec 4 rfl en) (rg (oP (pu_build (d := kDF K0 n0) (v0 := ([], [])) (ps := [(0, 1), (1, 1)]) (z44f (K0 := K0) (n0 := n0)) (by kernel_rfl) rfl fills_nil) rfl (oA (asv (oT rfl) (oT rfl) (by exact pA 0 rfl) y80) (by exact pA 0 rfl) rfl rfl (fun _ _ => ?_)))))
   refine ak rfl (tn (nn (tR (tt ?_))))
   exact ret_cell_tmp .ret (.inl rfl) rfl () (oT rfl) (by exact mA 0 rfl) y80 (oT rfl) (fun _ _ h => (by rw [hd]; exact h)) trivial (by exact pn)
 · rw [sets2] at c13
   have hc : (risesB a && risesB b) = true := by simpa using c13
   have hd : diffR a b = ((withoutL b a, withoutL a b), 0) := by rw [diffR, if_pos hc]
   obtain ⟨hra, hrb⟩ := Bool.and_eq_true_iff.1 hc
   refine sk (nn (sq (te (ec 0 rfl (ec 1 rfl (ec 4 rfl en))) (rg (mv rfl rfl (mv rfl rfl (oA (aC (walk_fn a b hs hb hra hrb) y81 (oc (oT rfl) (oc (oT rfl) oN)) pR) pR rfl rfl (fun _ _ => ?_))))))))
   refine mv rfl rfl (oP (pu_extract (oT rfl) rfl) rfl (oP (pu_extract (oT rfl) rfl) rfl (oP (pu_extract (oT rfl) rfl) rfl (av rfl rfl (av rfl rfl (av rfl rfl (tn (nn (sq (te (ec 4 rfl (ec 6 rfl (ec 8 rfl en))) (rg (mv rfl rfl (oA (acts_callM (own_fn (withoutL b a) (hb.without a)) (mk_in hK hn) y32 (oc (oT rfl) oN) pR) pR rfl rfl (fun v4_1 _ => ?_))))))))))))))
   refine mv rfl rfl (oA (acts_callM (own_fn (withoutL a b) (hs.without b)) (mk_in hK hn) y32 (oc (oT rfl) oN) pR) pR rfl rfl (fun v4_3 _ => ?_))
   refine tr_freezeF (mk_in hK hn) (fun g => blks_nil) (by exact pA 1 rfl) 23 (oT rfl) ?_
   refine tr_freezeF (mk_in hK hn) (fun g => blks_nil) (by exact pA 0 rfl) 25 (oT rfl) ?_
   refine oP (pu_build (d := kDF K0 n0) (v0 := ([], [])) (ps := [(0, 1), (1, 1)]) (z44f (K0 := K0) (n0 := n0)) (by kernel_rfl) rfl (fills_cons rfl (Lens.fst (a := kFF K0 n0) (b := kFF K0 n0)) (oT rfl) (fills_cons rfl (Lens.snd (a := kFF K0 n0) (b := kFF K0 n0)) (oT rfl) fills_nil))) rfl (oA (asv (oT rfl) (oT rfl) (by exact pA 0 rfl) y80) (by exact pA 0 rfl) rfl rfl (fun _ _ => ?_))
   refine ak rfl (tn (nn (tR ?_)))
   exact ret_cell_tmp .ret (.inl rfl) rfl () (oT rfl) (by exact mA 0 rfl) y80 (oT rfl) (fun _ _ h => (by rw [hd]; exact h)) trivial (by exact pn)
end Go.Proofs.YtaahhghlpoiihaaGreatDoor
/- Walks through the Go functions api.Tuple], api.Tuple], tuple.union, tuple.Empty, tuple.Apply, as typed contracts. -/
namespace Go.Proofs.YtaahhghlpoiihaaGreatDoor
open Go Go.Gw Go.So Go.Tu
set_option linter.unusedVariables false
set_option linter.unusedSimpArgs false
variable {K0 : FH} {n0 : Nat}
set_option maxHeartbeats 1000000 in
set_option maxRecDepth 20000 in
/-- slices.Grow[[]rhizome/api.Tuple,rhizome/api.Tuple] -/
theorem Grow_fn (n : Nat) (hm : n ≤ 1000000) : Ct Tryz.prog 87 [IsV nilS, I64 (n : Int)] ([]) Value (fun r => IsV r) (fun r => [OwnI 58 kT r []]) (fun _ => True) := by
 refine fn_intro Tryz.func87 rfl rfl ?_
 intro H w
 refine sq (te (ec 0 rfl (ec 1 rfl en)) (rg (ak rfl (tn (nn (sq (sq (te (ec 0 rfl (ec 1 rfl en)) (rg (mv rfl rfl (oP (pu_lss (oT rfl) ot) rfl (tn (nn (tc (oT rfl) (fun c6 => ?_) (fun c6 => ?_)))))))))))))))
 · try simp only [cq] at c6
   exact absurd c6 (by omega) --done
 · try simp only [cq] at c6
   refine sk (nn (sq (sq (te (ec 0 rfl (ec 1 rfl en)) (rg (mv rfl rfl (mv rfl rfl (oP (pu_cap_nil (oT rfl) Tryz.underlying37) rfl (mv rfl rfl (oP (pu_len_nil (oT rfl) Tryz.underlying37) rfl (oP (pu_sub' (oT rfl) (oT rfl) (by omega)) rfl (oP (pu_sub' (oT rfl) (oT rfl) (by omega)) rfl (av rfl rfl (tn (nn (sq (te (ec 0 rfl (ec 1 rfl en)) (rg (mv rfl rfl (oP (pu_gtr (oT rfl) ot) rfl (tn (nn (tc (oT rfl) (fun c16 => ?_) (fun c16 => ?_))))))))))))))))))))))))
   · try simp only [cq] at c16
     refine te (ec 0 rfl (ec 1 rfl en)) (rg (mv rfl rfl (mv rfl rfl (oP (pu_cap_nil (oT rfl) Tryz.underlying37) rfl (oP (pu_slice_nil (oT rfl) (oT rfl) Tryz.underlying37 y0) rfl (mv rfl rfl (oA (acts_append_make (d := kT) (v0 := []) (oT rfl) (oT rfl) y29 Tryz.underlying3 y0 z38 (by omega) (by omega) (by (simp [maxLen]; omega))) pR rfl rfl (fun v5_5 _ => ?_))))))))
     refine mv rfl rfl (oP (pu_len_nil (oT rfl) Tryz.underlying37) rfl (oA (acts_slice_own_hi (oT rfl) (by exact pA 0 rfl) (oT rfl) Tryz.underlying37 y0 (by omega) (by omega)) (by exact pA 0 rfl) rfl rfl (fun v5_8 _ => ?_)))
     refine av rfl rfl (tn (nn (sq (te (ec 0 rfl en) (rg (mv rfl rfl (av rfl rfl (tn (nn (tR ?_))))))))))
     exact ret_one .ret (.inl rfl) rfl v5_8 (oT rfl) trivial (by repeat first | exact pn | refine pc 0 rfl ?_)
   · try simp only [cq] at c16
     refine tr_nilItem 58 kT (sk (nn (sq (te (ec 0 rfl en) (rg (mv rfl rfl (av rfl rfl (tn (nn (tR ?_))))))))))
     exact ret_one .ret (.inl rfl) rfl nilS (oT rfl) trivial (by repeat first | exact pn | refine pc 0 rfl ?_)
set_option maxHeartbeats 1000000 in
set_option maxRecDepth 20000 in
/-- slices.Concat[[]rhizome/api.Tuple,rhizome/api.Tuple] -/
theorem Concat_fn (ls : List (List Tp)) (hm : ls.length ≤ 1000000) (hf : ls.flatten.length ≤ 1000000) : Ct Tryz.prog 71 [SlT kL ls] ([]) Unit (fun _ => SlT kT ls.flatten) (fun _ => []) (fun _ => True) := by
 refine fn_intro Tryz.func71 rfl rfl ?_
 intro H w
 refine sq (te (ec 0 rfl en) (rg (ak rfl (tn (nn (sq (te (ec 0 rfl en) (rg (ak rfl (tn (nn (sq (sq (te (ec 0 rfl (ec 3 rfl en)) (rg (mv rfl rfl (oP (pls (oT rfl) Tryz.underlying132) rfl (oP (pu_move ot) rfl (tn (nn (tb (tr_loopK (σ := Nat) (ec 0 rfl (ec 9 rfl (ec 10 rfl en))) (fun k => [(11, I64 (k : Int)), (3, I64 ((ls.take k).flatten.length : Int))]) (fun k => []) (fun k => k ≤ ls.length) (fun k => ls.length - k) 0 (Nat.zero_le _) ?_ (op (by exact pn)) ?_))))))))))))))))))))))
 · exact (ec 11 rfl (ec 3 rfl en))
 · rintro k hk
   refine sq (te (ec 0 rfl (ec 3 rfl (ec 9 rfl (ec 10 rfl (ec 11 rfl en))))) (rg (oP (pu_lss (oT rfl) (oT rfl)) rfl (tn (nn (sq (tc (oT rfl) (fun c12 => ?_) (fun c12 => ?_))))))))
   · try simp only [cq] at c12
     refine sk (nn (sq (tb (sq (te (ec 0 rfl (ec 3 rfl (ec 9 rfl (ec 10 rfl (ec 11 rfl en))))) ?_)))))
     have hfl := flat_le ls (k + 1)
     have htf := take_flat (ls := ls) (k := k) (by omega)
     rw [htf, List.length_append] at hfl
     refine rg (oP (pu_index (oT rfl) (oT rfl) Tryz.underlying132 y25 (by omega) (by omega)) rfl (oP (pL (oT rfl) y25) rfl (av rfl rfl (tn (nn (sq (te (ec 0 rfl (ec 3 rfl (ec 5 rfl (ec 9 rfl (ec 10 rfl (ec 11 rfl en)))))) (rg (mv rfl rfl (mv rfl rfl (oP (pls (oT rfl) Tryz.underlying37) rfl (oP (pad (oT rfl) (oT rfl) (by omega)) rfl (av rfl rfl (tn (nn (sq (te (ec 0 rfl (ec 3 rfl (ec 9 rfl (ec 10 rfl (ec 11 rfl en))))) (rg (mv rfl rfl (oP (pu_lss (oT rfl) ot) rfl (tn (nn (tc (oT rfl) (fun c20 => ?_) (fun c20 => ?_))))))))))))))))))))))))
     · try simp only [cq] at c20
       exact absurd c20 (by omega) --done
     · try simp only [cq] at c20
       refine sk (bn (nn (te (ec 0 rfl (ec 3 rfl (ec 9 rfl (ec 10 rfl (ec 11 rfl en))))) (rg (oP (pad (oT rfl) ot (by omega)) rfl (mv rfl rfl (tn (nn ?_))))))))
       exact tg (k + 1) (by omega) (by omega) (ea (ec 11 rfl (es_cons (t := 3) (OT.val (oT rfl) (congrArg (Value.int _) (by rw [htf, List.length_append]; omega))) en)) (ec 0 rfl (ec 9 rfl (ec 10 rfl en)))) (op (by exact pn))
   · try simp only [cq] at c12
     refine tr_exit (tx (tx (bh (nn (sq (te (ec 0 rfl (ec 3 rfl en)) ?_))))))
     obtain rfl : k = ls.length := by omega
     rw [List.take_length]
     refine rg (mv rfl rfl (oA (aC (Grow_fn ls.flatten.length hf) y82 (oc ot (oc (oT rfl) oN)) pR) pR rfl rfl (fun v9_1 _ => ?_)))
     refine av rfl rfl (tn (nn (sq (sq (te (ec 0 rfl (ec 6 rfl en)) (rg (mv rfl rfl (oP (pls (oT rfl) Tryz.underlying132) rfl (oP (pu_move ot) rfl (tn (nn (tb (tr_loopK (σ := Nat × Value) (ec 25 rfl (ec 26 rfl en)) (fun s => [(27, I64 (s.1 : Int)), (6, IsV s.2)]) (fun s => [OwnI 58 kT s.2 (ls.take s.1).flatten]) (fun s => s.1 ≤ ls.length) (fun s => ls.length - s.1) (0, v9_1) (Nat.zero_le _) ?_ (op (by repeat first | exact pn | refine pc 0 rfl ?_)) ?_)))))))))))))
     · exact (ec 27 rfl (ec 6 rfl en))
     · rintro ⟨k2, v⟩ hk2
       dsimp only at hk2 ⊢
       refine sq (te (ec 6 rfl (ec 25 rfl (ec 26 rfl (ec 27 rfl en)))) (rg (oP (pu_lss (oT rfl) (oT rfl)) rfl (tn (nn (sq (tc (oT rfl) (fun c28 => ?_) (fun c28 => ?_))))))))
       · try simp only [cq] at c28
         refine sk (nn (sq (tb (sq (te (ec 6 rfl (ec 25 rfl (ec 26 rfl (ec 27 rfl en)))) ?_)))))
         have hfl2 := flat_le ls (k2 + 1)
         have htf2 := take_flat (ls := ls) (k := k2) (by omega)
         rw [htf2, List.length_append] at hfl2
         refine rg (oP (pu_index (oT rfl) (oT rfl) Tryz.underlying132 y25 (by omega) (by omega)) rfl (oP (pL (oT rfl) y25) rfl (av rfl rfl (tn (nn (te (ec 6 rfl (ec 8 rfl (ec 25 rfl (ec 26 rfl (ec 27 rfl en))))) (rg (mv rfl rfl (mv rfl rfl (oA (acts_append (oT rfl) (by exact pA 0 rfl) (oT rfl) y29 (by omega) (by (simp [maxLen] at *; omega))) (by exact pA 0 rfl) rfl rfl (fun v13_2 _ => ?_)))))))))))
         refine av rfl rfl (tn (bn (nn (te (ec 6 rfl (ec 25 rfl (ec 26 rfl (ec 27 rfl en)))) (rg (oP (pad (oT rfl) ot (by omega)) rfl (mv rfl rfl (tn (nn ?_)))))))))
         exact tg (k2 + 1, v13_2) (by show k2 + 1 ≤ ls.length; omega) (by omega) (ea (ec 27 rfl (ec 6 rfl en)) (ec 25 rfl (ec 26 rfl en))) (op (by rw [htf2]; exact (by repeat first | exact pn | refine pc 0 rfl ?_)))
       · try simp only [cq] at c28
         refine tr_exit (tx (tx (bh (nn (sq (te (ec 6 rfl en) ?_))))))
         obtain rfl : k2 = ls.length := by omega
         rw [List.take_length]
         refine tr_freeze (by exact pA 0 rfl) 6 (oT rfl) ?_
         refine rg (mv rfl rfl (av rfl rfl (tn (nn (tR ?_)))))
         exact ret_one .ret (.inl rfl) rfl () (oT rfl) trivial (by exact pn)
set_option maxHeartbeats 1000000 in
set_option maxRecDepth 20000 in
/-- rhizome/tuple.union -/
theorem union_fn (a b : List Tp) (hab : Small (a ++ b)) : CtM K0 n0 Tryz.prog 41 [SlT kT a, SlT kT b] ([]) Unit (fun _ => FreshT K0 n0 (kF K0 n0) (bothR a b)) (fun _ => []) (fun _ => True) := by
 refine fn_introM Tryz.func41 rfl rfl ?_
 intro H w hK hn
 have hflat : [a, b].flatten = a ++ b := by simp
 have hfl : [a, b].flatten.length ≤ 1000000 := by rw [hflat]; exact hab.1
 refine sq (te (ec 0 rfl (ec 1 rfl en)) (rg (ak rfl (tn (nn (sq (te (ec 0 rfl (ec 1 rfl en)) (rg (mv rfl rfl (mv rfl rfl (oA (acts_lit (d := kL) (v0 := []) y78 y25 z40 (show 2 * 1 ≤ 16777216 from by decide) (by decide) (fills_arr rfl rfl (by decide) (oT rfl) (fills_arr rfl rfl (by decide) (oT rfl) fills_nil))) pR rfl rfl (fun _ _ => ?_))))))))))))
 refine oA (aC (Concat_fn [a, b] (by simp) hfl) y83 (oc (oT rfl) oN) pR) pR rfl rfl (fun _ _ => ?_)
 rw [hflat]
 refine oA (acts_callM (Set_fn (a ++ b) hab) (mk_in hK hn) y72 (oc (oT rfl) oN) pR) pR rfl rfl (fun _ _ => ?_)
 refine av rfl rfl (tn (nn (tR ?_)))
 exact ret_one .ret (.inl rfl) rfl () (oT rfl) trivial (by exact pn)
set_option maxHeartbeats 1000000 in
set_option maxRecDepth 20000 in
/-- rhizome/tuple.Empty -/
theorem Empty_fn (x : Dl) (h1 : Small x.1) (h2 : Small x.2) : Ct Tryz.prog 19 [kD.T x] ([]) Unit (fun _ => BoolT (decide ((x.1.length : Int) + x.2.length = 0))) (fun _ => []) (fun _ => True) := by
 refine fn_intro Tryz.func19 rfl rfl ?_
 intro H w
 have hl1 := h1.1
 have hl2 := h2.1
 refine sq (te (ec 0 rfl en) (rg (oA (acts_box (d := kD) (oT rfl)) pR rfl rfl (fun g0_0 _ => ?_))))
 refine ak rfl (tn (nn (sq (te (ec 1 rfl en) (rg (oP (pf (oT rfl) y24) rfl (oP (plb (oT rfl) (by exact mA 0 rfl) (Lens.fst (a := kL) (b := kL)) y25) rfl ?_)))))))
 refine oP (pls (oT rfl) Tryz.underlying37) rfl (oP (pf (oT rfl) y27) rfl (oP (plb (oT rfl) (by exact mA 0 rfl) (Lens.snd (a := kL) (b := kL)) y25) rfl ?_))
 refine oP (pls (oT rfl) Tryz.underlying37) rfl (oP (pad (oT rfl) (oT rfl) (by omega)) rfl (oP (pu_eql (oT rfl) ot) rfl (av rfl rfl (tn (nn (tR ?_))))))
 exact ret_one .ret (.inl rfl) rfl () (oT rfl) trivial (by exact pn)
set_option maxHeartbeats 1000000 in
set_option maxRecDepth 20000 in
/-- rhizome/tuple.Apply -/
theorem Apply_fn (s : List Tp) (x : Dl) (hs : Few s) (h1 : Few x.1) (h2 : Few x.2) : CtM K0 n0 Tryz.prog 22 [SlT kT s, kD.T x] ([]) Unit (fun _ => TupT [FreshT K0 n0 (kF K0 n0) (applyR s x).1, I64 (applyR s x).2]) (fun _ => []) (fun _ => True) := by
 refine fn_introM Tryz.func22 rfl rfl ?_
 intro H w hK hn
 refine sq (te (ec 0 rfl (ec 1 rfl en)) (rg (oA (acts_box (d := kD) (oT rfl)) pR rfl rfl (fun g0_0 _ => ?_))))
 refine ak rfl (ak rfl (tn (nn (sq (sq (te (ec 0 rfl (ec 3 rfl en)) (rg (mv rfl rfl (oP (pf (oT rfl) y24) rfl (oP (plb (oT rfl) (by exact mA 0 rfl) (Lens.fst (a := kL) (b := kL)) y25) rfl ?_))))))))))
 refine oP (pf (oT rfl) y27) rfl (oP (plb (oT rfl) (by exact mA 0 rfl) (Lens.snd (a := kL) (b := kL)) y25) rfl ?_)
 refine oA (acts_lit (d := kL) (v0 := []) y78 y25 z40 (show 3 * 1 ≤ 16777216 from by decide) (by decide) (fills_arr rfl rfl (by decide) (oT rfl) (fills_arr rfl rfl (by decide) (oT rfl) (fills_arr rfl rfl (by decide) (oT rfl) fills_nil)))) pR rfl rfl (fun _ _ => ?_)
 refine oA (aC (sets_fn [s, x.1, x.2] (by simp)) y79 (oc (oT rfl) oN) pR) pR rfl rfl (fun _ _ => ?_)
 refine oP (pu_not (oT rfl)) rfl (tn (nn (tc (oT rfl) (fun c19 => ?_) (fun c19 => ?_))))
 · rw [sets3] at c19
   have hd : applyR s x = ([], 1) := by rw [applyR, if_pos (by rw [← c19]; cases risesB s <;> cases risesB x.1 <;> cases risesB x.2 <;> rfl)]
   refine sq (te en (rg (ak rfl (ak rfl (tn (nn (tR (tt ?_))))))))
   exact ret_two .ret (.inl rfl) rfl () (OT.eq (nil_fr (oT rfl)) (congrArg (FreshT K0 n0 (kF K0 n0)) (by rw [hd]))) (OT.val (oT rfl) (congrArg (Value.int _) (by rw [hd]))) (fun _ _ h => h) trivial (by exact pn)
 · rw [sets3] at c19
   obtain ⟨⟨ha, hb⟩, hc2⟩ : (risesB s = true ∧ risesB x.1 = true) ∧ risesB x.2 = true := by simpa using c19
   have hd0 : ¬ (!risesB s || !risesB x.1 || !risesB x.2) = true := by rw [ha, hb, hc2]; simp
   refine sk (nn (sq (sq (te (ec 0 rfl (ec 3 rfl en)) (rg (mv rfl rfl (oP (pf (oT rfl) y24) rfl (oP (plb (oT rfl) (by exact mA 0 rfl) (Lens.fst (a := kL) (b := kL)) y25) rfl ?_))))))))
   refine oA (aC (walk_fn s x.1 hs.small h1.small ha hb) y81 (oc (oT rfl) (oc (oT rfl) oN)) pR) pR rfl rfl (fun _ _ => ?_)
   refine mv rfl rfl (oP (pu_extract (oT rfl) rfl) rfl (oP (pu_extract (oT rfl) rfl) rfl (oP (pu_extract (oT rfl) rfl) rfl (av rfl rfl (av rfl rfl (av rfl rfl (tn (nn (sq (te (ec 0 rfl (ec 3 rfl (ec 7 rfl en))) (rg (mv rfl rfl (oP (pls (oT rfl) Tryz.underlying37) rfl (oP (pu_gtr (oT rfl) ot) rfl (tn (nn (tc (oT rfl) (fun c30 => ?_) (fun c30 => ?_))))))))))))))))))
   · have hd : applyR s x = ([], 2) := by rw [applyR, if_neg hd0, if_pos ((inter_meet s x.1).1 (of_decide_eq_true c30))]
     refine sq (te en (rg (ak rfl (ak rfl (tn (nn (tR (tt ?_))))))))
     exact ret_two .ret (.inl rfl) rfl () (OT.eq (nil_fr (oT rfl)) (congrArg (FreshT K0 n0 (kF K0 n0)) (by rw [hd]))) (OT.val (oT rfl) (congrArg (Value.int _) (by rw [hd]))) (fun _ _ h => h) trivial (by exact pn)
   · have hd1 : ¬ meetB x.1 s = true := fun e => of_decide_eq_false c30 ((inter_meet s x.1).2 e)
     refine sk (nn (sq (te (ec 0 rfl (ec 3 rfl en)) (rg (mv rfl rfl (oP (pf (oT rfl) y27) rfl (oP (plb (oT rfl) (by exact mA 0 rfl) (Lens.snd (a := kL) (b := kL)) y25) rfl ?_)))))))
     refine oA (aC (walk_fn s x.2 hs.small h2.small ha hc2) y81 (oc (oT rfl) (oc (oT rfl) oN)) pR) pR rfl rfl (fun _ _ => ?_)
     refine mv rfl rfl (oP (pu_extract (oT rfl) rfl) rfl (oP (pu_extract (oT rfl) rfl) rfl (oP (pu_extract (oT rfl) rfl) rfl (av rfl rfl (av rfl rfl (av rfl rfl (tn (nn (sq (sq (te (ec 3 rfl (ec 9 rfl (ec 11 rfl en))) (rg (mv rfl rfl (oP (pls (oT rfl) Tryz.underlying37) rfl (oP (pu_gtr (oT rfl) ot) rfl (tn (nn (tc (oT rfl) (fun c41 => ?_) (fun c41 => ?_)))))))))))))))))))
     · have hd : applyR s x = ([], 4) := by rw [applyR, if_neg hd0, if_neg hd1, if_pos (of_decide_eq_true c41)]
       refine sq (te en (rg (ak rfl (ak rfl (tn (nn (tR (tt ?_))))))))
       exact ret_two .ret (.inl rfl) rfl () (OT.eq (nil_fr (oT rfl)) (congrArg (FreshT K0 n0 (kF K0 n0)) (by rw [hd]))) (OT.val (oT rfl) (congrArg (Value.int _) (by rw [hd]))) (fun _ _ h => h) trivial (by exact pn)
     · have hd : applyR s x = (bothR (withoutL s x.2) x.1, 0) := by rw [applyR, if_neg hd0, if_neg hd1, if_neg (of_decide_eq_false c41)]
       refine sk (nn (sq (te (ec 3 rfl (ec 9 rfl en)) (rg (mv rfl rfl (oP (pf (oT rfl) y24) rfl (oP (plb (oT rfl) (by exact mA 0 rfl) (Lens.fst (a := kL) (b := kL)) y25) rfl ?_)))))))
       refine oA (acts_callM (union_fn (withoutL s x.2) x.1 ((hs.without _).both h1)) (mk_in hK hn) y84 (oc (oT rfl) (oc (oT rfl) oN)) pR) pR rfl rfl (fun _ _ => ?_)
       refine av rfl rfl (ak rfl (tn (nn (tR ?_))))
       exact ret_two .ret (.inl rfl) rfl () (OT.eq (oT rfl) (congrArg (FreshT K0 n0 (kF K0 n0)) (by rw [hd]))) (OT.val (oT rfl) (congrArg (Value.int _) (by rw [hd]))) (fun _ _ h => h) trivial (by exact pn)
end Go.Proofs.YtaahhghlpoiihaaGreatDoor
/- Rows of a pattern's first atoms as maps by their bytes; the rows that an edge makes or takes; how often each output comes. Plain Lean. -/
namespace Go.Nt
open Go Go.Gw Go.Tu Go.Jn
set_option linter.unusedVariables false
set_option linter.unusedSimpArgs false
def inI (n : Int) : Prop := -9223372036854775808 ≤ n ∧ n ≤ 9223372036854775807
def InT (t : Tp) : Prop := ∀ n ∈ t, inI n
def biN (n : Int) : Nat := ((n + 9223372036854775808) % 18446744073709551616).toNat
def be (m : Nat) : Nat → List UInt8
 | 0 => []
 | j + 1 => UInt8.ofNat (m / 256 ^ j % 256) :: be m j
def encN (n : Int) : List UInt8 := 1 :: be (biN n) 8
def idB (t : Tp) : Lab := t.flatMap encN
theorem be_len (m : Nat) : ∀ j, (be m j).length = j
 | 0 => rfl
 | j + 1 => by rw [be, List.length_cons, be_len m j]
theorem encN_len (n : Int) : (encN n).length = 9 := by rw [encN, List.length_cons, be_len]
theorem be_inj {m m' : Nat} : ∀ {j : Nat}, be m j = be m' j → m % 256 ^ j = m' % 256 ^ j
 | 0, _ => by simp [Nat.mod_one]
 | j + 1, h => by
  rw [be, be] at h
  obtain ⟨h1, h2⟩ := List.cons.inj h
  have h3 := be_inj h2
  have h4 := congrArg UInt8.toNat h1
  rw [UInt8.toNat_ofNat', UInt8.toNat_ofNat'] at h4
  have e : ∀ x : Nat, x % 256 ^ (j + 1) = 256 ^ j * (x / 256 ^ j % 256) + x % 256 ^ j := fun x => by
   rw [Nat.pow_succ, Nat.mod_mul]; omega
  have h5 : m / 256 ^ j % 256 = m' / 256 ^ j % 256 := by simpa using h4
  rw [e, e, h3, h5]
theorem biN_lt (n : Int) : biN n < 256 ^ 8 := by unfold biN; omega
theorem encN_inj {a b : Int} (ha : inI a) (hb : inI b) (h : encN a = encN b) : a = b := by
 have h1 := be_inj (List.cons.inj h).2
 rw [Nat.mod_eq_of_lt (biN_lt a), Nat.mod_eq_of_lt (biN_lt b)] at h1
 unfold biN at h1; unfold inI at ha hb; omega
theorem idB_cons (a : Int) (t : Tp) : idB (a :: t) = encN a ++ idB t := by simp [idB]
theorem idB_app (s t : Tp) : idB (s ++ t) = idB s ++ idB t := by simp [idB]
theorem idB_len (t : Tp) : (idB t).length = 9 * t.length := by
 induction t with
 | nil => rfl
 | cons a t ih => rw [idB_cons, List.length_append, encN_len, ih, List.length_cons]; omega
theorem idB_inj : ∀ {s t : Tp}, InT s → InT t → idB s = idB t → s = t
 | [], [], _, _, _ => rfl
 | [], b :: t, _, _, h => by have := congrArg List.length h; rw [idB_len, idB_len] at this; simp at this
 | a :: s, [], _, _, h => by have := congrArg List.length h; rw [idB_len, idB_len] at this; simp at this
 | a :: s, b :: t, hs, ht, h => by
  rw [idB_cons, idB_cons] at h
  obtain ⟨h1, h2⟩ := List.append_inj h (by rw [encN_len, encN_len])
  rw [encN_inj (hs a List.mem_cons_self) (ht b List.mem_cons_self) h1, idB_inj (fun n hn => hs n (List.mem_cons_of_mem _ hn)) (fun n hn => ht n (List.mem_cons_of_mem _ hn)) h2]
def nv (al : List Atm) (k : Nat) : Nat := (varsL (al.take k)).length
def RowK (al : List Atm) (E : List Ed) (k : Nat) (t : Tp) : Prop := t.length = nv al k ∧ Sat E (varsL al) (al.take k) t
section
variable {al : List Atm} {E E' : List Ed} {k : Nat} {s t : Tp} {a : Atm} {e : Ed}
theorem rowK_rows : t ∈ rowsK (byLab E) (varsL al) (al.take k) ↔ RowK al E k t := (rows_spec E (al.take k) (varsL_take al k)).2 t
theorem rowK_nodup : (rowsK (byLab E) (varsL al) (al.take k)).Nodup := (rows_spec E (al.take k) (varsL_take al k)).1
theorem rowK_zero : RowK al E 0 t ↔ t = [] := by
 unfold RowK nv Sat
 simp [varsL]
theorem rowK_sub (h : ∀ x ∈ E, x ∈ E') (hr : RowK al E k t) : RowK al E' k t := ⟨hr.1, fun b hb => h _ (hr.2 b hb)⟩
theorem rowK_congr (h : ∀ x, x ∈ E ↔ x ∈ E') : RowK al E k t ↔ RowK al E' k t := ⟨rowK_sub fun x => (h x).1, rowK_sub fun x => (h x).2⟩
theorem take_atm (h : k < al.length) (ha : al[k] = a) : al.take (k + 1) = al.take k ++ [a] := by rw [List.take_succ_eq_append_getElem h, ha]
theorem lies_k (h : k < al.length) (ha : al[k] = a) : Lies (nv al k) (nv al (k + 1)) (ix (varsL al) a.1) (ix (varsL al) a.2.2) := by
 unfold nv
 exact lies (varsL_nodup _) (by rw [take_atm h ha, varsL_snoc]) (varsL_take al (k + 1))
theorem rowK_succ (h : k < al.length) (ha : al[k] = a) : RowK al E (k + 1) s ↔ s.length = nv al (k + 1) ∧ RowK al E k (s.take (nv al k)) ∧ (s.getD (ix (varsL al) a.1) 0, a.2.1, s.getD (ix (varsL al) a.2.2) 0) ∈ E := by
 have hV := varsL_take al k
 have hle : nv al k ≤ nv al (k + 1) := by
  unfold nv; rw [take_atm h ha]; exact (varsL_pre _ _).length_le
 have key : ∀ b ∈ al.take k, ix (varsL al) b.1 < nv al k ∧ ix (varsL al) b.2.2 < nv al k := fun b hb => by
  have hm1 : b.1 ∈ varsL (al.take k) := varsL_mem.2 ⟨b, hb, .inl rfl⟩
  have hm2 : b.2.2 ∈ varsL (al.take k) := varsL_mem.2 ⟨b, hb, .inr rfl⟩
  exact ⟨by unfold ix; rw [pre_idx hV hm1]; exact List.idxOf_lt_length_of_mem hm1, by unfold ix; rw [pre_idx hV hm2]; exact List.idxOf_lt_length_of_mem hm2⟩
 unfold RowK Sat
 rw [take_atm h ha]
 constructor
 · rintro ⟨h1, h2⟩
   refine ⟨h1, ⟨by rw [List.length_take]; omega, fun b hb => ?_⟩, h2 a (by simp)⟩
   have := h2 b (by simp [hb])
   obtain ⟨i1, i2⟩ := key b hb
   unfold env at this ⊢
   rw [getD_take i1, getD_take i2]; exact this
 · rintro ⟨h1, ⟨h2, h3⟩, h4⟩
   refine ⟨h1, fun b hb => ?_⟩
   rcases List.mem_append.1 hb with hb | hb
   · have := h3 b hb
     obtain ⟨i1, i2⟩ := key b hb
     unfold env at this ⊢
     rw [getD_take i1, getD_take i2] at this; exact this
   · have : b = a := by simpa using hb
     subst this; exact h4
def growS (o : Tp) (i : Nat) (x : Int) : Option Tp := if (if i = o.length then o ++ [x] else o).getD i 0 = x then some (if i = o.length then o ++ [x] else o) else none
def growT (f t : Nat) (r : Tp) (p : Pr) : Option Tp := (growS r f p.1).bind fun o => growS o t p.2
theorem growS_new {o : Tp} {x : Int} : growS o o.length x = some (o ++ [x]) := by
 unfold growS; rw [if_pos rfl, if_pos getD_last]
theorem growS_old {o : Tp} {i : Nat} {x : Int} (h : i < o.length) : growS o i x = if o.getD i 0 = x then some o else none := by
 unfold growS; rw [if_neg (show ¬ i = o.length by omega)]
theorem grow_iff {r : Tp} {m f t : Nat} {p : Pr} (hl : Lies r.length m f t) : growT f t r p = some s ↔ s.length = m ∧ s.take r.length = r ∧ s.getD f 0 = p.1 ∧ s.getD t 0 = p.2 := by
 unfold growT
 have tk : ∀ {f : Nat}, f < r.length → s.take r.length = r → s.getD f 0 = r.getD f 0 := fun h h2 => by
  have := getD_take (r := s) h
  rw [h2] at this; exact this.symm
 by_cases c1 : f < r.length
 · rw [growS_old c1]
   by_cases e1 : r.getD f 0 = p.1
   · rw [if_pos e1, Option.bind_some]
     by_cases c2 : t < r.length
     · rw [growS_old c2]
       have hm := hl.m1 c1 c2
       constructor
       · intro h
         split at h
         · rename_i e2
           cases h; exact ⟨hm.symm, by simp, e1, e2⟩
         · cases h
       · rintro ⟨h1, h2, h3, h4⟩
         have : s = r := by rw [List.take_of_length_le (by omega)] at h2; exact h2
         subst this
         rw [if_pos h4]
     · have ht : t = r.length := by have := hl.t2 c1; omega
       subst ht
       have hm := hl.m2 c1 rfl
       rw [growS_new]
       constructor
       · intro h
         cases h
         exact ⟨by simp [hm], take_app, by rw [getD_app c1]; exact e1, getD_last⟩
       · rintro ⟨h1, h2, h3, h4⟩
         have := snoc1 h2 (by omega)
         rw [h4] at this; rw [this]
   · rw [if_neg e1, Option.bind_none]
     constructor
     · intro h; cases h
     · rintro ⟨h1, h2, h3, h4⟩
       exact absurd ((tk c1 h2).symm.trans h3) e1
 · have hf : f = r.length := by have := hl.f1; omega
   subst hf
   rw [growS_new, Option.bind_some]
   by_cases c3 : t = r.length + 1
   · have hm := hl.m4 rfl c3
     have e : growS (r ++ [p.1]) t p.2 = some (r ++ [p.1] ++ [p.2]) := by
      have := growS_new (o := r ++ [p.1]) (x := p.2)
      rwa [List.length_append, List.length_singleton, ← c3] at this
     rw [e]
     have e2 : (r ++ [p.1] ++ [p.2]).getD t 0 = p.2 := by
      have := getD_last (r := r ++ [p.1]) (b := p.2)
      rwa [List.length_append, List.length_singleton, ← c3] at this
     constructor
     · intro h
       cases h
       exact ⟨by simp [hm], by rw [List.append_assoc]; exact take_app, by rw [getD_app (by simp), getD_last], e2⟩
     · rintro ⟨h1, h2, h3, h4⟩
       have := snoc2 h2 (by omega)
       rw [h3, ← c3, h4] at this; rw [this]
   · have ht : t ≤ r.length := by have := hl.t1; omega
     have hm := hl.m3 rfl ht
     rw [growS_old (by rw [List.length_append, List.length_singleton]; omega)]
     constructor
     · intro h
       split at h
       · rename_i e2
         cases h
         exact ⟨by simp [hm], take_app, getD_last, e2⟩
       · cases h
     · rintro ⟨h1, h2, h3, h4⟩
       have hs := snoc1 h2 (by omega)
       rw [h3] at hs
       rw [← hs, if_pos h4]
def matchP (f t : Nat) (r : Tp) (p : Pr) : Prop := if f < r.length then p.1 = r.getD f 0 else if t < r.length then p.2 = r.getD t 0 else True
theorem grow_match {r : Tp} {m f t : Nat} {p : Pr} (hl : Lies r.length m f t) (h : growT f t r p = some s) : matchP f t r p := by
 obtain ⟨h1, h2, h3, h4⟩ := (grow_iff hl).1 h
 have tk : ∀ {f : Nat}, f < r.length → s.getD f 0 = r.getD f 0 := fun h => by
  have := getD_take (r := s) h
  rw [h2] at this; exact this.symm
 unfold matchP
 split
 · rename_i c; rw [← h3, tk c]
 · split
   · rename_i c; rw [← h4, tk c]
   · trivial
def NewK (al : List Atm) (E E' : List Ed) (k : Nat) (t : Tp) : Prop := RowK al E' k t ∧ ¬ RowK al E k t
theorem new_zero : ¬ NewK al E E' 0 t := fun h => h.2 (rowK_zero.2 (rowK_zero.1 h.1))
theorem new_succ (h : k < al.length) (ha : al[k] = a) (hE : ∀ x, x ∈ E' ↔ x ∈ E ∨ x = e) (hn : e ∉ E) : NewK al E E' (k + 1) s ↔
 (∃ t p, NewK al E E' k t ∧ (p.1, a.2.1, p.2) ∈ E' ∧ growT (ix (varsL al) a.1) (ix (varsL al) a.2.2) t p = some s) ∨ (a.2.1 = e.2.1 ∧ ∃ t, RowK al E k t ∧ growT (ix (varsL al) a.1) (ix (varsL al) a.2.2) t (e.1, e.2.2) = some s) := by
 have hl := lies_k h ha
 have hsub : ∀ x ∈ E, x ∈ E' := fun x hx => (hE x).2 (.inl hx)
 have hlen : ∀ {F : List Ed} {t : Tp}, RowK al F k t → Lies t.length (nv al (k + 1)) (ix (varsL al) a.1) (ix (varsL al) a.2.2) := fun hr => by rw [hr.1]; exact hl
 constructor
 · rintro ⟨h1, h2⟩
   obtain ⟨g1, g2, g3⟩ := (rowK_succ h ha).1 h1
   have hl2 := hlen g2
   have hg : growT (ix (varsL al) a.1) (ix (varsL al) a.2.2) (s.take (nv al k)) (s.getD (ix (varsL al) a.1) 0, s.getD (ix (varsL al) a.2.2) 0) = some s := (grow_iff hl2).2 ⟨g1, by rw [g2.1], rfl, rfl⟩
   by_cases hr : RowK al E k (s.take (nv al k))
   · rcases (hE _).1 g3 with g4 | g4
     · exact absurd ((rowK_succ h ha).2 ⟨g1, hr, g4⟩) h2
     · refine .inr ⟨congrArg (fun x : Ed => x.2.1) g4, _, hr, ?_⟩
       rw [← show _ = e from g4]; exact hg
   · exact .inl ⟨_, _, ⟨g2, hr⟩, g3, hg⟩
 · rintro (⟨t, p, ⟨h1, h2⟩, h3, h4⟩ | ⟨h1, t, h2, h3⟩)
   · obtain ⟨g1, g2, g3, g4⟩ := (grow_iff (hlen h1)).1 h4
     rw [h1.1] at g2
     refine ⟨(rowK_succ h ha).2 ⟨g1, by rw [g2]; exact h1, by rw [g3, g4]; exact h3⟩, fun hx => h2 ?_⟩
     have := ((rowK_succ h ha).1 hx).2.1
     rwa [g2] at this
   · obtain ⟨g1, g2, g3, g4⟩ := (grow_iff (hlen h2)).1 h3
     rw [h2.1] at g2
     have hee : (s.getD (ix (varsL al) a.1) 0, a.2.1, s.getD (ix (varsL al) a.2.2) 0) = e := by rw [g3, g4, h1]
     refine ⟨(rowK_succ h ha).2 ⟨g1, by rw [g2]; exact rowK_sub hsub h2, (hE _).2 (.inr hee)⟩, fun hx => hn ?_⟩
     have := ((rowK_succ h ha).1 hx).2.2
     rwa [hee] at this
def usesB (al : List Atm) (k : Nat) (t : Tp) (e : Ed) : Bool := (al.take k).any fun a => decide ((env (varsL al) t a.1, a.2.1, env (varsL al) t a.2.2) = e)
theorem rowK_less (hE : ∀ x, x ∈ E' ↔ x ∈ E ∧ x ≠ e) : RowK al E' k t ↔ RowK al E k t ∧ usesB al k t e = false := by
 unfold RowK Sat usesB
 rw [List.any_eq_false]
 constructor
 · rintro ⟨h1, h2⟩
   exact ⟨⟨h1, fun a ha => ((hE _).1 (h2 a ha)).1⟩, fun a ha => by simpa using ((hE _).1 (h2 a ha)).2⟩
 · rintro ⟨⟨h1, h2⟩, h3⟩
   exact ⟨h1, fun a ha => (hE _).2 ⟨h2 a ha, by simpa using h3 a ha⟩⟩
theorem rowK_in (hE : ∀ e ∈ E, inI e.1 ∧ inI e.2.2) : RowK al E k t → InT t := by
 have : ∀ (k : Nat) (t : Tp), k ≤ al.length → RowK al E k t → InT t := by
  intro k
  induction k with
  | zero => intro t _ h; rw [rowK_zero.1 h]; intro n hn; cases hn
  | succ k ih =>
   intro t hk h
   have hk' : k < al.length := by omega
   obtain ⟨h1, h2, h3⟩ := (rowK_succ hk' rfl).1 h
   have hl := lies_k (al := al) hk' rfl
   have h4 := ih _ (by omega) h2
   have h5 : (t.take (nv al k)).length = nv al k := h2.1
   obtain ⟨e1, e2⟩ := hE _ h3
   intro n hn
   obtain ⟨i, hi, hin⟩ := List.getElem_of_mem hn
   by_cases c : i < nv al k
   · refine h4 n ?_
     rw [List.mem_take_iff_getElem]
     exact ⟨i, by omega, hin⟩
   · have gi : t.getD i 0 = n := by rw [List.getD_eq_getElem?_getD, List.getElem?_eq_getElem hi, hin]; rfl
     have : i = ix (varsL al) al[k].1 ∨ i = ix (varsL al) al[k].2.2 := by
      have q1 := hl.f1; have q2 := hl.t1; have q3 := hl.t2; have q4 := hl.m1; have q5 := hl.m2; have q6 := hl.m3; have q7 := hl.m4
      by_cases c1 : ix (varsL al) al[k].1 < nv al k
      · have q3 := q3 c1
        by_cases c2 : ix (varsL al) al[k].2.2 < nv al k
        · have := q4 c1 c2; omega
        · have := q5 c1 (by omega); omega
      · have c1' : ix (varsL al) al[k].1 = nv al k := by omega
        by_cases c2 : ix (varsL al) al[k].2.2 ≤ nv al k
        · have := q6 c1' c2; omega
        · have := q7 c1' (by omega); omega
     rcases this with c2 | c2
     · rw [← gi, c2]; exact e1
     · rw [← gi, c2]; exact e2
 intro h
 by_cases hk : k ≤ al.length
 · exact this k t hk h
 · have e1 : al.take k = al.take al.length := by rw [List.take_length, List.take_of_length_le (by omega)]
   refine this al.length t (Nat.le_refl _) ?_
   unfold RowK nv at h ⊢
   rw [e1] at h; exact h
end
def MapOf (m : List (Lab × Tp)) (S : Tp → Prop) : Prop := (keys m).Nodup ∧ ∀ s t, (s, t) ∈ m ↔ s = idB t ∧ S t
section
variable {m : List (Lab × Tp)} {S S' : Tp → Prop} {s : Lab} {t : Tp}
theorem MapOf.nil : MapOf [] (fun _ => False) := ⟨List.nodup_nil, by simp⟩
theorem MapOf.congr (h : MapOf m S) (hS : ∀ t, S t ↔ S' t) : MapOf m S' := ⟨h.1, fun s t => by rw [h.2, hS]⟩
theorem MapOf.one : MapOf [([], [])] (fun t => t = []) := ⟨by simp [keys], fun s t => by
 simp only [List.mem_singleton, Prod.mk.injEq]
 constructor
 · rintro ⟨rfl, rfl⟩; exact ⟨rfl, rfl⟩
 · rintro ⟨rfl, rfl⟩; exact ⟨rfl, rfl⟩⟩
theorem MapOf.lkp (h : MapOf m S) (hl : Gw.lkp s m = some t) : s = idB t ∧ S t := (h.2 s t).1 (lkp_mem hl)
theorem MapOf.key (h : MapOf m S) : s ∈ keys m ↔ ∃ t, s = idB t ∧ S t := by
 constructor
 · intro hs
   obtain ⟨p, hp, rfl⟩ := List.mem_map.1 hs
   exact ⟨p.2, (h.2 p.1 p.2).1 hp⟩
 · rintro ⟨t, h1, h2⟩
   exact List.mem_map.2 ⟨(s, t), (h.2 s t).2 ⟨h1, h2⟩, rfl⟩
theorem mem_ptk {κ α : Type} [DecidableEq κ] {k : κ} {x : α} {m : List (κ × α)} {p : κ × α} (hn : (keys m).Nodup) : p ∈ ptk k x m ↔ p = (k, x) ∨ (p ∈ m ∧ p.1 ≠ k) := by
 rw [(ptk_perm (k := k) (x := x) (m := m)).mem_iff, List.mem_cons]
 have hd : p ∈ dlk k m ↔ p ∈ m ∧ p.1 ≠ k := by
  induction m with
  | nil => simp [dlk]
  | cons q m ih =>
   have hn2 : q.1 ∉ keys m ∧ (keys m).Nodup := List.nodup_cons.1 hn
   unfold dlk
   by_cases e : q.1 = k
   · rw [if_pos e]
     constructor
     · intro hp
       refine ⟨List.mem_cons_of_mem _ hp, fun e2 => hn2.1 ?_⟩
       rw [e, ← e2]; exact List.mem_map.2 ⟨p, hp, rfl⟩
     · rintro ⟨hp, hne⟩
       rcases List.mem_cons.1 hp with rfl | hp
       · exact absurd e hne
       · exact hp
   · rw [if_neg e, List.mem_cons, ih hn2.2, List.mem_cons]
     constructor
     · rintro (rfl | ⟨h1, h2⟩)
       · exact ⟨.inl rfl, e⟩
       · exact ⟨.inr h1, h2⟩
     · rintro ⟨rfl | h1, h2⟩
       · exact .inl rfl
       · exact .inr ⟨h1, h2⟩
 rw [hd]
theorem mem_dlk {κ α : Type} [DecidableEq κ] {k : κ} {m : List (κ × α)} {p : κ × α} (hn : (keys m).Nodup) : p ∈ dlk k m ↔ p ∈ m ∧ p.1 ≠ k := by
 induction m with
 | nil => simp [dlk]
 | cons q m ih =>
  have hn2 : q.1 ∉ keys m ∧ (keys m).Nodup := List.nodup_cons.1 hn
  unfold dlk
  by_cases e : q.1 = k
  · rw [if_pos e]
    constructor
    · intro hp
      refine ⟨List.mem_cons_of_mem _ hp, fun e2 => hn2.1 ?_⟩
      rw [e, ← e2]; exact List.mem_map.2 ⟨p, hp, rfl⟩
    · rintro ⟨hp, hne⟩
      rcases List.mem_cons.1 hp with rfl | hp
      · exact absurd e hne
      · exact hp
  · rw [if_neg e, List.mem_cons, ih hn2.2, List.mem_cons]
    constructor
    · rintro (rfl | ⟨h1, h2⟩)
      · exact ⟨.inl rfl, e⟩
      · exact ⟨.inr h1, h2⟩
    · rintro ⟨rfl | h1, h2⟩
      · exact .inl rfl
      · exact .inr ⟨h1, h2⟩
theorem MapOf.put (h : MapOf m S) (hi : InT t) (hS : ∀ u, S u → InT u) : MapOf (ptk (idB t) t m) (fun u => S u ∨ u = t) := by
 refine ⟨ptk_nodup h.1, fun s u => ?_⟩
 rw [mem_ptk h.1, h.2]
 constructor
 · rintro (h1 | ⟨⟨h1, h2⟩, h3⟩)
   · cases h1; exact ⟨rfl, .inr rfl⟩
   · exact ⟨h1, .inl h2⟩
 · rintro ⟨rfl, h1 | rfl⟩
   · by_cases e : idB u = idB t
     · have := idB_inj (hS u h1) hi e
       subst this; exact .inl rfl
     · exact .inr ⟨⟨rfl, h1⟩, e⟩
   · exact .inl rfl
theorem MapOf.del (h : MapOf m S) (hi : InT t) (hS : ∀ u, S u → InT u) : MapOf (dlk (idB t) m) (fun u => S u ∧ u ≠ t) := by
 refine ⟨dlk_nodup h.1, fun s u => ?_⟩
 rw [mem_dlk h.1, h.2]
 constructor
 · rintro ⟨⟨h1, h2⟩, h3⟩
   exact ⟨h1, h2, fun e => h3 (by rw [h1, e])⟩
 · rintro ⟨rfl, h1, h2⟩
   exact ⟨⟨rfl, h1⟩, fun e => h2 (idB_inj (hS u h1) hi e)⟩
theorem MapOf.rows (h : MapOf m S) : (m.map Prod.snd).Nodup ∧ ∀ t, t ∈ m.map Prod.snd ↔ S t := by
 constructor
 · have h1 : (keys m) = (m.map Prod.snd).map idB := by
    unfold keys
    rw [List.map_map]
    exact List.map_congr_left fun p hp => ((h.2 p.1 p.2).1 hp).1
   have h2 := h.1
   rw [h1] at h2
   exact (List.pairwise_map.1 h2).imp fun hne e => hne (by rw [e])
 · intro t
   rw [List.mem_map]
   constructor
   · rintro ⟨p, hp, rfl⟩; exact ((h.2 p.1 p.2).1 hp).2
   · intro ht; exact ⟨(idB t, t), (h.2 _ _).2 ⟨rfl, ht⟩, rfl⟩
theorem MapOf.len (h : MapOf m S) {L : List Tp} (hn : L.Nodup) (hL : ∀ t, t ∈ L ↔ S t) : m.length = L.length := by
 obtain ⟨h1, h2⟩ := h.rows
 have := (perm_mem h1 hn fun x => by rw [h2, hL]).length_eq
 rwa [List.length_map] at this
end
def cnt (f : Tp → Lab) (rows : List Tp) (s : Lab) : Nat := rows.countP fun r => decide (f r = s)
def CntOf (c : List (Lab × Int)) (f : Tp → Lab) (rows : List Tp) : Prop := (keys c).Nodup ∧ ∀ s, lkp s c = if cnt f rows s = 0 then none else some (cnt f rows s : Int)
section
variable {c : List (Lab × Int)} {f : Tp → Lab} {rows rows' : List Tp} {s : Lab} {t : Tp}
theorem CntOf.nil : CntOf [] f [] := ⟨List.nodup_nil, fun s => rfl⟩
theorem CntOf.perm (h : CntOf c f rows) (hp : rows.Perm rows') : CntOf c f rows' := ⟨h.1, fun s => by rw [h.2, cnt, cnt, hp.countP_eq]⟩
theorem CntOf.get (h : CntOf c f rows) (s : Lab) : (lkp s c).getD 0 = (cnt f rows s : Int) := by
 rw [h.2]; split
 · rename_i e; rw [e]; rfl
 · rfl
theorem cnt_cons {r : Tp} : cnt f (r :: rows) s = cnt f rows s + if f r = s then 1 else 0 := by
 unfold cnt; rw [List.countP_cons]; simp
theorem CntOf.put (h : CntOf c f rows) (r : Tp) : CntOf (ptk (f r) ((lkp (f r) c).getD 0 + 1) c) f (r :: rows) := by
 refine ⟨ptk_nodup h.1, fun s => ?_⟩
 rw [lkp_put, cnt_cons]
 by_cases e : f r = s
 · subst e
   rw [if_pos rfl, if_pos rfl, if_neg (by omega), h.get]; rfl
 · rw [if_neg e, if_neg e, h.2]; rfl
theorem CntOf.del (h : CntOf c f (t :: rows)) : let n := (lkp (f t) c).getD 0 - 1
 CntOf (if n = 0 then dlk (f t) (ptk (f t) n c) else ptk (f t) n c) f rows := by
 have hg := h.get (f t)
 rw [cnt_cons, if_pos rfl] at hg
 have hn : (lkp (f t) c).getD 0 - 1 = (cnt f rows (f t) : Int) := by omega
 simp only [hn]
 have h2 := h.2
 by_cases e0 : (cnt f rows (f t) : Int) = 0
 · rw [if_pos e0]
   refine ⟨dlk_nodup (ptk_nodup h.1), fun s => ?_⟩
   rw [lkp_del (ptk_nodup h.1), lkp_put]
   by_cases e : f t = s
   · subst e; rw [if_pos rfl, if_pos (by omega)]
   · rw [if_neg e, if_neg e, h2, cnt_cons, if_neg e]; rfl
 · rw [if_neg e0]
   refine ⟨ptk_nodup h.1, fun s => ?_⟩
   rw [lkp_put]
   by_cases e : f t = s
   · subst e; rw [if_pos rfl, if_neg (by omega)]
   · rw [if_neg e, h2, cnt_cons, if_neg e]; rfl
theorem CntOf.key (h : CntOf c f rows) : s ∈ keys c ↔ ∃ r ∈ rows, f r = s := by
 have h1 : s ∈ keys c ↔ ¬ cnt f rows s = 0 := by
  rw [← Classical.not_not (a := s ∈ keys c), ← lkp_none, h.2]
  split <;> simp_all
 rw [h1]
 unfold cnt
 rw [List.countP_eq_zero]
 simp
end
end Go.Nt
/- A number's bytes in a key: how they are made, how they are read. Plain Lean. -/
namespace Go.Nt
open Go Go.Gw Go.Tu Go.Jn Go.Vl
set_option linter.unusedVariables false
set_option linter.unusedSimpArgs false
theorem xor63 {u : Nat} (h : u < 18446744073709551616) : u ^^^ 9223372036854775808 = (u + 9223372036854775808) % 18446744073709551616 := by
 have e63 : (9223372036854775808 : Nat) = 2 ^ 63 := by decide
 have e64 : (18446744073709551616 : Nat) = 2 ^ 64 := by decide
 rw [e63, e64] at *
 apply Nat.eq_of_testBit_eq
 intro i
 rw [Nat.testBit_xor, Nat.testBit_two_pow, Nat.testBit_mod_two_pow, Nat.add_comm u]
 rcases Nat.lt_trichotomy i 63 with hi | rfl | hi
 · rw [Nat.testBit_two_pow_add_gt hi]
   simp [show ¬ 63 = i by omega, show i < 64 by omega]
 · rw [Nat.testBit_two_pow_add_eq]; simp
 · have : u.testBit i = false := Nat.testBit_lt_two_pow (Nat.lt_of_lt_of_le h (Nat.pow_le_pow_right (n := 2) (by decide) (show 64 ≤ i from hi)))
   simp [this, show ¬ 63 = i by omega, show ¬ i < 64 by omega]
theorem xor_bi (n : Int) : bitsV .xor .u64 (IntKind.u64.wrap n) 9223372036854775808 = (biN n : Int) := by
 have w : IntKind.u64.wrap n = ((n % 18446744073709551616).toNat : Int) := by simp [IntKind.wrap, IntKind.bits, IntKind.signed]; omega
 rw [w, show (9223372036854775808 : Int) = ((9223372036854775808 : Nat) : Int) from rfl, xor64 (by omega) (by decide), xor63 (by omega)]
 unfold biN; omega
theorem bi_back {n : Int} (h : inI n) : IntKind.i64.wrap (bitsV .xor .u64 (biN n : Int) 9223372036854775808) = n := by
 have hl := biN_lt n
 have e : (256 : Nat) ^ 8 = 18446744073709551616 := by decide
 rw [e] at hl
 rw [show (9223372036854775808 : Int) = ((9223372036854775808 : Nat) : Int) from rfl, xor64 hl (by decide), xor63 hl]
 have w : ∀ x : Int, IntKind.i64.wrap x = (x + 9223372036854775808) % 18446744073709551616 - 9223372036854775808 := fun x => by simp [IntKind.wrap, IntKind.bits, IntKind.signed]; split <;> omega
 rw [w]
 unfold biN; unfold inI at h; omega
theorem sh_byte (m : Nat) {j : Nat} (h : j ≤ 7) : IntKind.u8.wrap ((m : Int).fdiv (2 ^ min ((56 : Int) - 8 * (j : Int)).toNat IntKind.u64.bits)) = ((m / 256 ^ (7 - j) % 256 : Nat) : Int) := by
 have e : (2 : Int) ^ min ((56 : Int) - 8 * (j : Int)).toNat IntKind.u64.bits = ((256 ^ (7 - j) : Nat) : Int) := by
  match j, h with
  | 0, _ => rfl
  | 1, _ => rfl
  | 2, _ => rfl
  | 3, _ => rfl
  | 4, _ => rfl
  | 5, _ => rfl
  | 6, _ => rfl
  | 7, _ => rfl
  | j + 8, h => omega
 rw [e, Int.fdiv_eq_ediv_of_nonneg _ (Int.natCast_nonneg _), wrap8, ← Int.natCast_ediv]
 omega
theorem be_take (m : Nat) : ∀ {j i : Nat}, i < j → (be m j).take (i + 1) = (be m j).take i ++ [UInt8.ofNat (m / 256 ^ (j - 1 - i) % 256)]
 | 0, _, h => by omega
 | j + 1, 0, _ => by simp [be]
 | j + 1, i + 1, h => by
  have := be_take m (j := j) (i := i) (by omega)
  rw [be, List.take_succ_cons, this, List.take_succ_cons, List.cons_append, show j + 1 - 1 - (i + 1) = j - 1 - i by omega]
theorem byte_nat (x : Nat) : (UInt8.ofNat (x % 256)).toNat = x % 256 := by rw [UInt8.toNat_ofNat']; omega
theorem enc_take (n : Int) {j : Nat} (h : j ≤ 7) : nums ((encN n).take (1 + (j + 1))) = nums ((encN n).take (1 + j)) ++ [((biN n / 256 ^ (7 - j) % 256 : Nat) : Int)] := by
 have := be_take (biN n) (j := 8) (i := j) (by omega)
 rw [show 1 + (j + 1) = (j + 1) + 1 by omega, show 1 + j = j + 1 by omega, encN, List.take_succ_cons, List.take_succ_cons, this]
 unfold nums
 rw [← List.cons_append, List.map_append]
 congr 1
 show [(((UInt8.ofNat (biN n / 256 ^ (7 - j) % 256)).toNat : Nat) : Int)] = _
 rw [byte_nat]
theorem enc_take1 (n : Int) : nums ((encN n).take (1 + 0)) = [1] := by simp [encN, nums]
theorem enc_all (n : Int) : nums ((encN n).take (1 + 8)) = nums (encN n) := by rw [List.take_of_length_le (by rw [encN_len]; decide)]
def top (n : Int) (i : Nat) : Nat := biN n / 256 ^ (8 - i)
theorem top_zero (n : Int) : top n 0 = 0 := by unfold top; exact Nat.div_eq_of_lt (biN_lt n)
theorem top_all (n : Int) : top n 8 = biN n := by unfold top; simp
theorem top_step (n : Int) {i : Nat} (h : i < 8) : top n (i + 1) = top n i * 256 + biN n / 256 ^ (7 - i) % 256 := by
 unfold top
 have e : 8 - i = (7 - i) + 1 := by omega
 rw [show 8 - (i + 1) = 7 - i by omega, e, Nat.pow_succ, ← Nat.div_div_eq_div_mul]
 omega
theorem top_lt (n : Int) {i : Nat} (h : i < 8) : top n i < 72057594037927936 := by
 unfold top
 have h1 := biN_lt n
 have e : (256 : Nat) ^ 8 = 256 ^ (8 - i) * 256 ^ i := by rw [← Nat.pow_add]; congr 1; omega
 have h2 : (256 : Nat) ^ i ≤ 256 ^ 7 := Nat.pow_le_pow_right (by omega) (by omega)
 have h3 : biN n / 256 ^ (8 - i) < 256 ^ i := Nat.div_lt_of_lt_mul (by rw [← e]; exact h1)
 have e7 : (256 : Nat) ^ 7 = 72057594037927936 := by decide
 omega
theorem or_byte {a x : Nat} (ha : a < 72057594037927936) (hx : x < 256) : bitsV .or .u64 (IntKind.u64.wrap ((a : Int) * 2 ^ min (Int.toNat 8) IntKind.u64.bits)) ((x : Nat) : Int) = ((a * 256 + x : Nat) : Int) := by
 rw [show (2 : Int) ^ min (Int.toNat 8) IntKind.u64.bits = 256 from rfl]
 have e1 : IntKind.u64.wrap ((a : Int) * 256) = ((a * 256 : Nat) : Int) := by rw [wrap64 (by omega) (by omega)]; omega
 rw [e1, or64 (by omega) (by omega)]
 have := Nat.shiftLeft_add_eq_or_of_lt (b := x) (i := 8) (by omega) a
 rw [Nat.shiftLeft_eq] at this
 rw [show a * 256 = a * 2 ^ 8 from rfl, ← this]
theorem at_enc (n : Int) (r : List Int) {i : Nat} (h : i < 8) : at' (nums (encN n) ++ r) ((i : Int) + 1) = ((biN n / 256 ^ (7 - i) % 256 : Nat) : Int) := by
 have h1 := enc_take n (j := i) (by omega)
 have hl : (nums (encN n)).length = 9 := by unfold nums; rw [List.length_map, encN_len]
 rw [show ((i : Int) + 1) = ((i + 1 : Nat) : Int) by omega, at'_nat (by rw [List.length_append]; omega), List.getElem_append_left (by omega)]
 have h2 : ∀ k, nums ((encN n).take k) = (nums (encN n)).take k := fun k => by unfold nums; rw [List.map_take]
 rw [h2, h2, show 1 + (i + 1) = (i + 1) + 1 by omega, show 1 + i = i + 1 by omega, List.take_succ_eq_append_getElem (by omega)] at h1
 have := List.append_cancel_left h1
 simpa using this
end Go.Nt
/- Walks through the Go functions (*strings.Builder).copyCheck, (*strings.Builder).copyCheck, (*strings.Builder).Write, (*strings.Builder).String, key.Num, key.put, slices.Clip[[]byte,byte], key.Part], as typed contracts. -/
namespace Go.Proofs.YtaahhghlpoiihaaGreatDoor
open Go Go.Gw Go.So Go.Tu Go.Jn Go.Nt
set_option linter.unusedVariables false
set_option linter.unusedSimpArgs false
abbrev kB : Kd Int := kint .u8
abbrev Prt := Bool × Lab × Int
abbrev kPa : Kd Prt := kpair kbool (kpair kS kI)
theorem zB : ZeroOf Tryz.prog 5 kB 0 := ⟨.int .u8 0, by kernel_rfl, fun H => rfl⟩
theorem zBld : ZeroOf Tryz.prog 123 kBld (.pointer none, nilS) := ⟨.agg #[.pointer none, nilS], by kernel_rfl, fun H => ⟨[.pointer none, nilS], ⟨[_], [_], ⟨rfl, rfl⟩, ⟨rfl, rfl⟩, rfl⟩, rfl⟩⟩
theorem zPa : ZeroOf Tryz.prog 90 kPa (false, [], 0) := ⟨.agg #[.bool false, .string (bs []), .int .i64 0], by kernel_rfl, fun H => ⟨[.bool false, .string (bs []), .int .i64 0], ⟨[_], [_, _], rfl, ⟨[_], [_], rfl, rfl, rfl⟩, rfl⟩, rfl⟩⟩
theorem lq0 {t : Prt} : Lens kPa kbool 0 t t.1 (fun y => (y, t.2)) := Lens.fst
theorem lq1 {t : Prt} : Lens kPa kS 1 t t.2.1 (fun y => (t.1, y, t.2.2)) := Lens.comp (Lens.snd (a := kbool) (b := kpair kS kI)) (Lens.fst (a := kS) (b := kI))
theorem lq2 {t : Prt} : Lens kPa kI 2 t t.2.2 (fun y => (t.1, t.2.1, y)) := Lens.comp (Lens.snd (a := kbool) (b := kpair kS kI)) (Lens.snd (a := kS) (b := kI))
abbrev adr (b : Nat) (p : Value) : Prop := p = .pointer none ∨ p = pt b 0
theorem nums_app (a b : List UInt8) : nums (a ++ b) = nums a ++ nums b := List.map_append
theorem nums_len (l : List UInt8) : (nums l).length = l.length := List.length_map _

set_option maxRecDepth 20000 in
/-- (*strings.Builder).copyCheck -/
theorem copyNew_fn (b : Nat) (v : Value) : Ct Tryz.prog 85 [IsV (pt b 0)] ([BlkI b 123 kBld (.pointer none, v)]) Unit (fun _ => AnyT) (fun _ => [BlkI b 123 kBld (pt b 0, v)]) (fun _ => True) := by
 refine fn_intro Tryz.func85 rfl rfl ?_
 intro H w
 refine sq (te (ec 0 rfl en) (rg (mv rfl rfl (oP (pu_nilCheck (oT rfl)) rfl (oP (pf (oT rfl) y85) rfl (oP (pu_load_rawf (oT rfl) (by exact mA 0 rfl) lb0 y86) rfl ?_))))))
 refine oP (pu_ptr_eql ptr_is (oT rfl) Tryz.underlying121) rfl (tn (nn (tc (oT rfl) (fun c6 => ?_) (fun c6 => ?_))))
 · refine te (ec 0 rfl en) (rg (mv rfl rfl (mv rfl rfl (oP (pu_to_unsafe (oT rfl) (by exact mA 0 rfl) Tryz.underlying121 Tryz.underlying172 (by kernel_rfl) (by decide)) rfl ?_))))
   refine oP (pu_extern (e := Extern.AbiNoEscape.same) (oT rfl) Tryz.func102 (by kernel_rfl) (by kernel_rfl) (by kernel_rfl) (by kernel_rfl) (fun w => rfl)) rfl (oP (pu_from_unsafe (oT rfl) (by exact mA 0 rfl) Tryz.underlying172 Tryz.underlying121 (by kernel_rfl) (by kernel_rfl)) rfl ?_)
   refine oP (pu_nilCheck (oT rfl)) rfl (oP (pf (oT rfl) y85) rfl (oA (acts_store_rawf (oT rfl) (oT rfl) (by rfl) (by exact pA 0 rfl) lb0 y86) (by exact pA 0 rfl) rfl rfl (fun _ _ => ?_)))
   refine tn ?_
   exact ret_none .normal (.inr rfl) rfl () (fun _ => trivial) trivial (by repeat first | exact pn | refine pc 0 rfl ?_)
 · exact absurd c6 (by simp) --done
set_option maxRecDepth 20000 in
/-- (*strings.Builder).copyCheck -/
theorem copyOld_fn (b : Nat) (v : Value) : Ct Tryz.prog 85 [IsV (pt b 0)] ([BlkI b 123 kBld (pt b 0, v)]) Unit (fun _ => AnyT) (fun _ => [BlkI b 123 kBld (pt b 0, v)]) (fun _ => True) := by
 refine fn_intro Tryz.func85 rfl rfl ?_
 intro H w
 refine sq (te (ec 0 rfl en) (rg (mv rfl rfl (oP (pu_nilCheck (oT rfl)) rfl (oP (pf (oT rfl) y85) rfl (oP (pu_load_rawf (oT rfl) (by exact mA 0 rfl) lb0 y86) rfl ?_))))))
 refine oP (pu_ptr_eql ptr_is (oT rfl) Tryz.underlying121) rfl (tn (nn (tc (oT rfl) (fun c6 => ?_) (fun c6 => ?_))))
 · exact absurd c6 (by simp) --done
 · refine sq (te (ec 0 rfl en) (rg (mv rfl rfl (oP (pu_nilCheck (oT rfl)) rfl (oP (pf (oT rfl) y85) rfl (oP (pu_load_rawf (oT rfl) (by exact mA 0 rfl) lb0 y86) rfl ?_))))))
   refine mv rfl rfl (oP (pu_ptr_neq_same (oT rfl) (oT rfl) Tryz.underlying121 (by kernel_rfl) (fun v h => by cases h)) rfl ?_)
   refine tn (nn (tc (oT rfl) (fun c19 => ?_) (fun c19 => ?_)))
   · exact absurd c19 (by simp) --done
   · refine sk ?_
     exact ret_none .normal (.inr rfl) rfl () (fun _ => trivial) trivial (by repeat first | exact pn | refine pc 0 rfl ?_)
theorem copy_fn (b : Nat) (p v : Value) (h : adr b p) : Ct Tryz.prog 85 [IsV (pt b 0)] [BlkI b 123 kBld (p, v)] Unit (fun _ => AnyT) (fun _ => [BlkI b 123 kBld (pt b 0, v)]) (fun _ => True) := by
 rcases h with rfl | rfl
 · exact copyNew_fn b v
 · exact copyOld_fn b v
set_option maxRecDepth 20000 in
/-- (*strings.Builder).Write -/
theorem bWrite_fn (b : Nat) (p v : Value) (l : List UInt8) (s : List UInt8) (hp : adr b p) (hl : l.length ≤ 900000) (hs : s.length ≤ 90000) : Ct Tryz.prog 66 [IsV (pt b 0), SlT kB (nums s)] ([BlkI b 123 kBld (p, v), OwnI 5 kB v (nums l)]) Value (fun u => TupT [I64 (s.length : Int), IsV .nilIface]) (fun u => [BlkI b 123 kBld (pt b 0, u), OwnI 5 kB u (nums (l ++ s))]) (fun _ => True) := by
 refine fn_intro Tryz.func66 rfl rfl ?_
 intro H w
 have hnl := nums_len l
 have hns := nums_len s
 refine sq (te (ec 0 rfl (ec 1 rfl en)) (rg (ak rfl (ak rfl (tn (nn (sq (te (ec 0 rfl (ec 1 rfl en)) (rg (mv rfl rfl (oA (aC (copy_fn _ _ _ (by assumption)) y87 (oc (oT rfl) oN) (by exact pA 0 rfl)) (by exact pA 0 rfl) rfl rfl (fun _ _ => ?_))))))))))))
 refine tn (nn (sq (te (ec 0 rfl (ec 1 rfl en)) (rg (mv rfl rfl (mv rfl rfl (oP (pu_nilCheck (oT rfl)) rfl (oP (pf (oT rfl) y88) rfl (oP (pu_load_rawf (oT rfl) (by exact mA 0 rfl) lb1 y89) rfl ?_)))))))))
 refine mv rfl rfl (oA (acts_append (oT rfl) (by exact pA 1 rfl) (oT rfl) y90 (by omega) (by (simp [maxLen]; omega))) (by exact pA 1 rfl) rfl rfl (fun v2_6 _ => ?_))
 refine oP (pu_nilCheck (oT rfl)) rfl (oP (pf (oT rfl) y88) rfl (tr_fact (mem_at 0 rfl) own_cell fun hone => (oA (acts_store_rawf (oT rfl) (oT rfl) (by assumption) (by exact pA 1 rfl) lb1 y89) (by exact pA 1 rfl) rfl rfl (fun _ _ => ?_))))
 refine tn (nn (sq (te (ec 1 rfl en) (rg (mv rfl rfl (oP (pls (oT rfl) Tryz.underlying88) rfl (av rfl rfl (ak rfl (tn (nn (tR ?_)))))))))))
 exact ret_two .ret (.inl rfl) rfl v2_6 (OT.val (oT rfl) (congrArg (Value.int _) (by rw [hns]))) (oT rfl) (fun _ _ h => h) trivial (by rw [nums_app]; exact (by repeat first | exact pn | refine pc 0 rfl ?_))
set_option maxRecDepth 20000 in
/-- (*strings.Builder).String -/
theorem bStr_fn (b : Nat) (p v : Value) (l : List UInt8) (hl : l.length ≤ 1000000) (hn : l = [] → v = nilS) : Ct Tryz.prog 67 [IsV (pt b 0)] ([BlkI b 123 kBld (p, v), OwnI 5 kB v (nums l)]) Unit (fun _ => BsT l) (fun _ => []) (fun _ => True) := by
 refine fn_intro Tryz.func67 rfl rfl ?_
 intro H w
 have hnl := nums_len l
 have hn2 : nums l = [] → v = nilS := fun e => hn (by simpa using e)
 refine sq (te (ec 0 rfl en) (rg (ak rfl (tn (nn (sq (te (ec 0 rfl en) ?_)))))))
 apply tr_any (m := 10) (ns := [[(0, none)], [(3, some 0)], [(4, some 1)], [(5, some 2)], [(6, some 3)], [(0, none)], [(8, some 5)], [(9, some 6)], [(10, some 7)], [(11, some 8)]]) (by kernel_rfl) (by kernel_rfl) (Ts := [_, _, _, _, _, _, _, _, _, _]) rfl
 case hops =>
  refine ⟨?_, ?_, ?_, ?_, ?_, ?_, ?_, ?_, ?_, ?_, trivial⟩
  · exact rmv rfl
  · exact rP (pu_nilCheck (oT rfl))
  · exact rP (pf (oT rfl) y88)
  · exact rP (pu_load_rawf (oT rfl) (by exact mA 0 rfl) lb1 y89)
  · exact rP (pu_dataV (oT rfl) (by exact mA 1 rfl) (by assumption))
  · exact rmv rfl
  · exact rP (pu_nilCheck (oT rfl))
  · exact rP (pf (oT rfl) y88)
  · exact rP (pu_load_rawf (oT rfl) (by exact mA 0 rfl) lb1 y89)
  · exact rP (pu_len_own (oT rfl) (by exact mA 1 rfl) Tryz.underlying88)
 case h =>
  refine tr_as 12 (T := I64 (l.length : Int)) (OT.val (oT rfl) (by rw [hnl])) ?_
  refine oA (acts_unsafeString (oT rfl) (oT rfl) (by exact pA 1 rfl) Tryz.underlying152 (by kernel_rfl)) (by exact pA 1 rfl) rfl rfl (fun _ _ => ?_)
  refine av rfl rfl (tn (nn (tR ?_)))
  exact ret_one .ret (.inl rfl) rfl () (oT rfl) trivial (by exact pn)
set_option maxRecDepth 20000 in
/-- rhizome/key.Num -/
theorem Num_fn (n : Int) : Ct Tryz.prog 65 [I64 n] ([]) Unit (fun _ => kPa.T (false, [], n)) (fun _ => []) (fun _ => True) := by
 refine fn_intro Tryz.func65 rfl rfl ?_
 intro H w
 refine sq (te (ec 0 rfl en) (rg (oA (acts_alloc (zPa)) pR rfl rfl (fun g0_0 _ => ?_))))
 refine tn (nn (sq (te (ec 0 rfl (ec 2 rfl en)) (rg (mv rfl rfl (oP (pu_build (d := kPa) (v0 := (false, [], 0)) (ps := [(0, 1), (1, 1), (2, 1)]) zPa (by kernel_rfl) rfl (fills_cons rfl lq2 (oT rfl) fills_nil)) rfl (oA (asv (oT rfl) (oT rfl) (by exact pA 0 rfl) y91) (by exact pA 0 rfl) rfl rfl (fun _ _ => ?_))))))))
 refine tn (nn (tR ?_))
 exact ret_cell .ret (.inl rfl) rfl () (oT rfl) (by exact mA 0 rfl) y91 rfl trivial (by exact pn)
set_option maxRecDepth 20000 in
/-- rhizome/key.put -/
theorem put_fn (v : Value) (xs : List Int) (n : Int) (hm : xs.length ≤ 1000000) : Ct Tryz.prog 83 [IsV v, kPa.T (false, [], n)] ([OwnI 5 kB v xs]) Value (fun u => IsV u) (fun u => [OwnI 5 kB u (xs ++ nums (encN n))]) (fun _ => True) := by
 refine fn_intro Tryz.func83 rfl rfl ?_
 intro H w
 refine sq (te (ec 0 rfl (ec 1 rfl en)) (rg (oA (acts_box (d := kPa) (oT rfl)) pR rfl rfl (fun g0_0 _ => ?_))))
 refine ak rfl (tn (nn (sq (sq (te (ec 0 rfl (ec 3 rfl en)) (rg (oP (pf (oT rfl) y92) rfl (oP (plb (oT rfl) (by exact mA 0 rfl) lq0 y93) rfl ?_))))))))
 refine tn (nn (tc (oT rfl) (fun c7 => ?_) (fun c7 => ?_)))
 · cases c7 --done
 · refine sk (nn (sq (te (ec 0 rfl (ec 3 rfl en)) (rg (mv rfl rfl (oA (acts_lit (d := kB) (v0 := 0) y90 y94 zB (show 1 * 1 ≤ 16777216 from by decide) (by decide) (fills_arr rfl rfl (by decide) ot fills_nil)) pR rfl rfl (fun _ _ => ?_)))))))
   refine oA (acts_append (oT rfl) (by exact pA 1 rfl) (oT rfl) y90 (by (simp; omega)) (by (simp [maxLen]; omega))) (by exact pA 1 rfl) rfl rfl (fun v5_2 _ => ?_)
   refine av rfl rfl (tn (nn (sq (sq (te (ec 0 rfl (ec 3 rfl en)) (rg (ak rfl (tn (nn (tb (tr_loopK (σ := Nat × Value) (ec 3 rfl en) (fun s => [(5, I64 (56 - 8 * (s.1 : Int))), (0, IsV s.2)]) (fun s => [OwnI 5 kB s.2 (xs ++ nums ((encN n).take (1 + s.1))), BlkI g0_0 90 kPa (false, [], n)]) (fun s => s.1 ≤ 8) (fun s => 8 - s.1) (0, v5_2) (Nat.zero_le _) ?_ (op (by rw [enc_take1]; exact (by repeat first | exact pn | refine pc 0 rfl ?_))) ?_)))))))))))
   · exact (ec 5 rfl (ec 0 rfl en))
   · rintro ⟨j, u⟩ hj
     dsimp only at hj ⊢
     have hjl : (nums ((encN n).take (1 + j))).length ≤ 9 := by rw [nums_len, List.length_take, encN_len]; omega
     refine sq (sq (te (ec 0 rfl (ec 3 rfl (ec 5 rfl en))) (rg (mv rfl rfl (oP (pu_geq (oT rfl) ot) rfl (tn (nn (tc (oT rfl) (fun c23 => ?_) (fun c23 => ?_)))))))))
     · refine sk (nn (sq (tb (te (ec 0 rfl (ec 3 rfl (ec 5 rfl en))) ?_))))
       have hj7 : j ≤ 7 := by simp only [decide_eq_true_eq] at c23; omega
       have het := enc_take n hj7
       refine rg (mv rfl rfl (oP (pf (oT rfl) y95) rfl (oP (plb (oT rfl) (by exact mA 1 rfl) lq2 y2) rfl ?_)))
       refine oP (pu_convert (oT rfl) Tryz.underlying3 Tryz.underlying145) rfl (oP (pu_bits (oT rfl) ot (by simp)) rfl ?_)
       refine mv rfl rfl (oP (pu_shr (oT rfl) (oT rfl) (by omega)) rfl (oP (pu_convert (oT rfl) Tryz.underlying145 Tryz.underlying5) rfl (tr_as 33 (T := IntT .u8 ((biN n / 256 ^ (7 - j) % 256 : Nat) : Int)) (OT.eq (oT rfl) (congrArg (IntT .u8) (by rw [xor_bi, sh_byte _ hj7]))) ?_)))
       refine oA (acts_lit (d := kB) (v0 := 0) y90 y94 zB (show 1 * 1 ≤ 16777216 from by decide) (by decide) (fills_arr rfl rfl (by decide) (oT rfl) fills_nil)) pR rfl rfl (fun _ _ => ?_)
       refine oA (acts_append (oT rfl) (by exact pA 0 rfl) (oT rfl) y90 (by (simp; omega)) (by (simp [maxLen]; omega))) (by exact pA 0 rfl) rfl rfl (fun v9_9 _ => ?_)
       refine av rfl rfl (tn (bn (nn (te (ec 0 rfl (ec 3 rfl (ec 5 rfl en))) (rg (mv rfl rfl (oP (pu_sub' (oT rfl) ot (by omega)) rfl (av rfl rfl (tn (nn ?_))))))))))
       exact tg (j + 1, v9_9) (by show j + 1 ≤ 8; omega) (by show 8 - (j + 1) < 8 - j; omega) (ea (es_cons (t := 5) (OT.val (oT rfl) (congrArg (Value.int _) (by show _ = 56 - 8 * ((j + 1 : Nat) : Int); omega))) (ec 0 rfl en)) (ec 3 rfl en)) (op (by rw [het, ← List.append_assoc]; exact (by repeat first | exact pn | refine pc 0 rfl ?_)))
     · refine tr_exit (tx (tx (bh (nn (sq (te (ec 0 rfl en) ?_))))))
       obtain rfl : j = 8 := by simp only [decide_eq_false_iff_not] at c23; omega
       rw [enc_all]
       refine rg (mv rfl rfl (av rfl rfl (tn (nn (tR ?_)))))
       exact ret_one .ret (.inl rfl) rfl u (oT rfl) trivial (by repeat first | exact pn | refine pc 0 rfl ?_)
set_option maxRecDepth 20000 in
/-- slices.Clip[[]byte,byte] -/
theorem ClipB_fn (l : List Int) : Ct Tryz.prog 84 [FreshT noK 0 kB l] ([]) Unit (fun _ => SlT kB l) (fun _ => []) (fun _ => True) := by
 refine fn_intro Tryz.func84 rfl rfl ?_
 intro H w
 refine sq (te (ec 0 rfl en) (rg (ak rfl (tn (nn (sq (te (ec 0 rfl en) (rg (mv rfl rfl (mv rfl rfl (tr_as 4 (OT.fresh (oT rfl)) (oP (pls (oT rfl) Tryz.underlying88) rfl (mv rfl rfl (tr_as 6 (OT.fresh (oT rfl)) (oP (pls (oT rfl) Tryz.underlying88) rfl (oP (pu_clip (oT rfl) (oT rfl) (oT rfl) Tryz.underlying88 y94) rfl (av rfl rfl (tn (nn (tR ?_))))))))))))))))))))
 exact ret_one .ret (.inl rfl) rfl () (OT.fresh (OT.unclip (oT rfl))) trivial (by exact pn)
set_option maxRecDepth 20000 in
/-- slices.Clip[[]rhizome/key.Part,rhizome/key.Part] -/
theorem ClipP_fn (l : List Prt) : Ct Tryz.prog 53 [FreshT noK 0 kPa l] ([]) Unit (fun _ => SlT kPa l) (fun _ => []) (fun _ => True) := by
 refine fn_intro Tryz.func53 rfl rfl ?_
 intro H w
 refine sq (te (ec 0 rfl en) (rg (ak rfl (tn (nn (sq (te (ec 0 rfl en) (rg (mv rfl rfl (mv rfl rfl (tr_as 4 (OT.fresh (oT rfl)) (oP (pls (oT rfl) Tryz.underlying85) rfl (mv rfl rfl (tr_as 6 (OT.fresh (oT rfl)) (oP (pls (oT rfl) Tryz.underlying85) rfl (oP (pu_clip (oT rfl) (oT rfl) (oT rfl) Tryz.underlying85 y91) rfl (av rfl rfl (tn (nn (tR ?_))))))))))))))))))))
 exact ret_one .ret (.inl rfl) rfl () (OT.fresh (OT.unclip (oT rfl))) trivial (by exact pn)
end Go.Proofs.YtaahhghlpoiihaaGreatDoor
/- Walks through the Go functions key.Encode, net.id, as typed contracts. -/
namespace Go.Proofs.YtaahhghlpoiihaaGreatDoor
open Go Go.Gw Go.So Go.Tu Go.Jn Go.Nt
set_option linter.unusedVariables false
set_option linter.unusedSimpArgs false
theorem at_one {α : Type} [Inhabited α] (x : α) : at' [x] ((0 : Nat) : Int) = x := rfl
theorem id_take (t : Tp) {k : Nat} (h : k < t.length) : idB (t.take (k + 1)) = idB (t.take k) ++ encN (at' t (k : Int)) := by
 rw [List.take_succ_eq_append_getElem h, at'_nat h, idB_app]; simp [idB]
theorem id_take_len (t : Tp) {k : Nat} (h : k ≤ t.length) : (idB (t.take k)).length = 9 * k := by rw [idB_len, List.length_take]; omega

set_option maxRecDepth 20000 in
/-- rhizome/key.Encode -/
theorem Encode_fn (n : Int) : Ct Tryz.prog 64 [SlT kPa [(false, [], n)]] ([]) Unit (fun _ => TupT [SlT kB (nums (encN n)), I64 0]) (fun _ => []) (fun _ => True) := by
 refine fn_intro Tryz.func64 rfl rfl ?_
 intro H w
 have hnl : (nums (encN n)).length = 9 := by rw [nums_len, encN_len]
 refine sq (te (ec 0 rfl en) (rg (ak rfl (ak rfl (tn (nn (sq (te (ec 0 rfl en) (rg (ak rfl (tn (nn (sq (sq (te (ec 0 rfl (ec 4 rfl en)) (tr_nilItem 5 kB (rg (mv rfl rfl (oP (pls (oT rfl) Tryz.underlying85) rfl (oP (pu_move ot) rfl (tn (nn (tb ?_)))))))))))))))))))))))
 refine tr_loopK (σ := Nat × Value) (ec 7 rfl (ec 8 rfl en)) (fun s => [(9, I64 (s.1 : Int)), (4, IsV s.2)]) (fun s => [OwnI 5 kB s.2 (if s.1 = 0 then [] else nums (encN n))]) (fun s => s.1 ≤ 1) (fun s => 1 - s.1) (0, nilS) (Nat.zero_le _) ?_ (op (by repeat first | exact pn | refine pc 0 rfl ?_)) ?_
 · exact (ec 9 rfl (ec 4 rfl en))
 · rintro ⟨k, u⟩ hk
   dsimp only at hk ⊢
   refine sq (te (ec 4 rfl (ec 7 rfl (ec 8 rfl (ec 9 rfl en)))) (rg (oP (pu_lss (oT rfl) (oT rfl)) rfl (tn (nn (sq (tc (oT rfl) (fun c10 => ?_) (fun c10 => ?_))))))))
   · refine sk (nn (sq (tb (sq (te (ec 4 rfl (ec 7 rfl (ec 8 rfl (ec 9 rfl en)))) ?_)))))
     obtain rfl : k = 0 := by simp only [List.length_singleton, decide_eq_true_eq] at c10; omega
     rw [if_pos rfl]
     refine rg (oP (pu_index (oT rfl) (oT rfl) Tryz.underlying85 y91 (by omega) (by (simp; done))) rfl ?_)
     rw [at_one]
     refine oP (pL (oT rfl) y91) rfl (oA (acts_alloc (zPa)) pR rfl rfl (fun g4_2 _ => ?_))
     refine oA (asv (oT rfl) (oT rfl) (by exact pA 0 rfl) y91) (by exact pA 0 rfl) rfl rfl (fun _ _ => ?_)
     refine tn (nn (sq (sq (te (ec 4 rfl (ec 6 rfl (ec 7 rfl (ec 8 rfl (ec 9 rfl en))))) (rg (oP (pf (oT rfl) y96) rfl (oP (plb (oT rfl) (by exact mA 0 rfl) lq1 y36) rfl ?_)))))))
     refine oP (pu_len_bs Tryz.underlying9 (oT rfl)) rfl (oP (pu_gtr (oT rfl) ot) rfl (mv rfl rfl (oG rfl rfl rfl (gm (oT rfl)) (fun hg => by (have hg1 := hg.2; (try simp only [cq2] at hg1); exact pf (oT rfl) y92)) rfl ?_)))
     refine oG rfl rfl rfl (gm (oT rfl)) (fun hg => by (have hg1 := hg.2; (try simp only [cq2] at hg1); exact plb (by exact gu (oT rfl) hg) (by exact mA 0 rfl) lq0 y93)) rfl ?_
     refine oP (pu_pick_and (oT rfl) (oT rfl)) rfl (tn (nn (tc (oT rfl) (fun c20 => ?_) (fun c20 => ?_))))
     · exact absurd c20 (by simp) --done
     · refine sk (nn (sq (te (ec 4 rfl (ec 6 rfl (ec 7 rfl (ec 8 rfl (ec 9 rfl en))))) (rg (mv rfl rfl (oP (plv (oT rfl) (by exact mA 0 rfl) y91) rfl ?_))))))
       refine oA (aC (put_fn _ [] n (by decide)) y97 (oc (oT rfl) (oc (oT rfl) oN)) (by exact pA 1 rfl)) (by exact pA 1 rfl) rfl rfl (fun v7_2 _ => ?_)
       refine av rfl rfl (tn (nn (sq (te (ec 4 rfl (ec 7 rfl (ec 8 rfl (ec 9 rfl en)))) (rg (mv rfl rfl (oP (pu_len_own (oT rfl) (by exact mA 0 rfl) Tryz.underlying88) rfl ?_)))))))
       refine oP (pu_gtr (oT rfl) ot) rfl (tn (nn (tc (oT rfl) (fun c26 => ?_) (fun c26 => ?_))))
       · exact absurd c26 (by rw [List.nil_append, hnl]; decide) --done
       · refine sk (bn (nn (te (ec 4 rfl (ec 7 rfl (ec 8 rfl (ec 9 rfl en)))) (rg (oP (pad (oT rfl) ot (by omega)) rfl (mv rfl rfl (tn (nn ?_))))))))
         exact tg (1, v7_2) (Nat.le_refl _) (by show 1 - 1 < 1 - 0; decide) (ea (ec 9 rfl (ec 4 rfl en)) (ec 7 rfl (ec 8 rfl en))) (op (by repeat first | exact pn | refine pc 0 rfl ?_))
   · refine tr_exit (tx (tx (bh (nn (sq (te (ec 4 rfl en) ?_))))))
     obtain rfl : k = 1 := by simp only [List.length_singleton, decide_eq_false_iff_not] at c10; omega
     rw [if_neg (by decide)]
     refine tr_freezeF mk_none (fun g => blks_nil) (perm_at 0 rfl) 4 (oT rfl) (rg (mv rfl rfl (oA (aC (ClipB_fn _) y98 (oc (oT rfl) oN) pR) pR rfl rfl (fun _ _ => ?_))))
     refine av rfl rfl (ak rfl (tn (nn (tR ?_))))
     exact ret_two .ret (.inl rfl) rfl () (oT rfl) (oT rfl) (fun _ _ h => h) trivial (by exact pn)
set_option maxRecDepth 20000 in
/-- rhizome/net.id -/
theorem id_fn (t : Tp) (hm : t.length ≤ 1000) : Ct Tryz.prog 38 [SlT kI t] ([]) Unit (fun _ => BsT (idB t)) (fun _ => []) (fun _ => True) := by
 refine fn_intro Tryz.func38 rfl rfl ?_
 intro H w
 refine sq (te (ec 0 rfl en) (rg (ak rfl (tn (nn (sq (te (ec 0 rfl en) (rg (oA (acts_alloc (zBld)) pR rfl rfl (fun g1_0 _ => ?_))))))))))
 refine tn (nn (sq (sq (te (ec 0 rfl (ec 3 rfl en)) (tr_nilItem 5 kB (rg (mv rfl rfl (oP (pls (oT rfl) Tryz.underlying58) rfl (oP (pu_move ot) rfl (tn (nn (tb (tr_loopK (σ := Nat × Value × Value) (ec 3 rfl (ec 8 rfl (ec 9 rfl en))) (fun s => [(10, I64 (s.1 : Int))]) (fun s => [BlkI g1_0 123 kBld (s.2.1, s.2.2), OwnI 5 kB s.2.2 (nums (idB (t.take s.1)))]) (fun s => s.1 ≤ t.length ∧ adr g1_0 s.2.1 ∧ (s.1 = 0 → s.2.2 = nilS)) (fun s => t.length - s.1) (0, .pointer none, nilS) ⟨Nat.zero_le _, .inl rfl, fun _ => rfl⟩ ?_ (op (by repeat first | exact pn | refine pc 0 rfl ?_ | refine pc 1 rfl ?_)) ?_)))))))))))))
 · exact (ec 10 rfl en)
 · rintro ⟨k, p, u⟩ ⟨hk, hp, hu0⟩
   dsimp only at hk hp hu0 ⊢
   have hil := id_take_len t hk
   have hl9 : (idB (t.take k)).length ≤ 900000 := by omega
   refine sq (te (ec 3 rfl (ec 8 rfl (ec 9 rfl (ec 10 rfl en)))) (rg (oP (pu_lss (oT rfl) (oT rfl)) rfl (tn (nn (sq (tc (oT rfl) (fun c11 => ?_) (fun c11 => ?_))))))))
   · refine sk (nn (sq (tb (sq (te (ec 3 rfl (ec 8 rfl (ec 9 rfl (ec 10 rfl en)))) ?_)))))
     have hkl : k < t.length := by simpa using c11
     have hst := id_take t hkl
     refine rg (oP (pu_index (oT rfl) (oT rfl) Tryz.underlying58 y2 (by omega) (by omega)) rfl (oP (pL (oT rfl) y2) rfl (av rfl rfl (tn (nn (sq (te (ec 3 rfl (ec 5 rfl (ec 8 rfl (ec 9 rfl (ec 10 rfl en))))) (rg (mv rfl rfl (oA (aC (Num_fn _) y99 (oc (oT rfl) oN) pR) pR rfl rfl (fun _ _ => ?_)))))))))))
     refine oA (acts_lit (d := kPa) (v0 := (false, [], 0)) y100 y91 zPa (show 1 * 3 ≤ 16777216 from by decide) (by decide) (fills_arr rfl rfl (by decide) (oT rfl) fills_nil)) pR rfl rfl (fun _ _ => ?_)
     refine oA (aC (Encode_fn _) y101 (oc (oT rfl) oN) pR) pR rfl rfl (fun _ _ => ?_)
     refine mv rfl rfl (oP (pu_extract (oT rfl) rfl) rfl (oP (pu_extract (oT rfl) rfl) rfl (av rfl rfl (av rfl rfl (tn (nn (te (ec 3 rfl (ec 6 rfl (ec 8 rfl (ec 9 rfl (ec 10 rfl en))))) (rg (mv rfl rfl (oA (aC (bWrite_fn _ _ _ _ _ (by assumption) (by assumption) (by rw [encN_len]; omega)) y102 (oc (oT rfl) (oc (oT rfl) oN)) (perm2_at 0 0 rfl rfl)) (perm2_at 0 0 rfl rfl) rfl rfl (fun v6_1 _ => ?_)))))))))))
     refine tn (bn (nn (te (ec 3 rfl (ec 8 rfl (ec 9 rfl (ec 10 rfl en)))) (rg (oP (pad (oT rfl) ot (by omega)) rfl (mv rfl rfl (tn (nn ?_))))))))
     exact tg (k + 1, pt g1_0 0, v6_1) ⟨(by show k + 1 ≤ t.length; omega), .inr rfl, fun h => by cases h⟩ (by omega) (ea (ec 10 rfl en) (ec 3 rfl (ec 8 rfl (ec 9 rfl en)))) (op (by rw [hst]; exact (by repeat first | exact pn | refine pc 0 rfl ?_)))
   · refine tr_exit (tx (tx (bh (nn (sq (te (ec 3 rfl en) ?_))))))
     obtain rfl : k = t.length := by simp only [decide_eq_false_iff_not] at c11; omega
     rw [List.take_length] at *
     have hnu : idB t = [] → u = nilS := fun e => hu0 (by have := congrArg List.length e; rw [idB_len] at this; simp only [List.length_nil] at this; omega)
     refine rg (oA (aC (bStr_fn _ _ _ _ (by omega) hnu) y103 (oc (oT rfl) oN) (perm2_at 0 0 rfl rfl)) (perm2_at 0 0 rfl rfl) rfl rfl (fun _ _ => ?_))
     refine av rfl rfl (tn (nn (tR ?_)))
     exact ret_one .ret (.inl rfl) rfl () (oT rfl) trivial (by exact pn)
end Go.Proofs.YtaahhghlpoiihaaGreatDoor
/- Walks through the Go functions key.take, key.Decode, as typed contracts. -/
namespace Go.Proofs.YtaahhghlpoiihaaGreatDoor
open Go Go.Gw Go.So Go.Tu Go.Jn Go.Nt
set_option linter.unusedVariables false
set_option linter.unusedSimpArgs false
theorem pu_ceq {C : Cx} {Γ : Env} {L : List It} {o : Oper} {T T' : Ty} (h : Pure C Γ L o T) (e : T = T') : Pure C Γ L o T' := e ▸ h
abbrev prt (n : Int) : Prt := (false, [], n)
theorem nums_enc9 (n : Int) : (nums (encN n)).length = 9 := by rw [nums_len, encN_len]
theorem enc_at0 (n : Int) (r : List Int) : at' (nums (encN n) ++ r) 0 = 1 := rfl
theorem enc_mid (n : Int) (r : List Int) {i : Nat} (h : i < 8) : at' (((nums (encN n) ++ r).take 9).drop 1) (i : Int) = ((biN n / 256 ^ (7 - i) % 256 : Nat) : Int) := by
 have hl : (nums (encN n) ++ r).length = 9 + r.length := by rw [List.length_append, nums_enc9]
 rw [← at_enc n r h, at'_nat (by rw [List.length_drop, List.length_take]; omega), show ((i : Int) + 1) = ((i + 1 : Nat) : Int) by omega, at'_nat (by omega)]
 rw [List.getElem_drop, List.getElem_take]
 congr 1; omega
theorem mid_len (n : Int) (r : List Int) : (((nums (encN n) ++ r).take 9).drop 1).length = 8 := by rw [List.length_drop, List.length_take, List.length_append, nums_enc9]; omega
theorem id_drop (t : Tp) {k : Nat} (h : k < t.length) : nums (idB (t.drop k)) = nums (encN (at' t (k : Int))) ++ nums (idB (t.drop (k + 1))) := by
 rw [List.drop_eq_getElem_cons h, idB_cons, nums_app, at'_nat h]
theorem prts_take (t : Tp) {k : Nat} (h : k < t.length) : (t.take (k + 1)).map prt = (t.take k).map prt ++ [prt (at' t (k : Int))] := by
 rw [List.take_succ_eq_append_getElem h, at'_nat h, List.map_append]; rfl

set_option maxRecDepth 20000 in
/-- rhizome/key.take -/
theorem take_fn (n : Int) (r : List Int) (hn : inI n) (hr : r.length ≤ 1000000) : Ct Tryz.prog 52 [SlT kB (nums (encN n) ++ r)] ([]) Unit (fun _ => TupT [kPa.T (false, [], n), SlT kB r, BoolT true]) (fun _ => []) (fun _ => True) := by
 refine fn_intro Tryz.func52 rfl rfl ?_
 intro H w
 have hnl := nums_enc9 n
 have hll : (nums (encN n) ++ r).length = 9 + r.length := by rw [List.length_append, hnl]
 refine sq (te (ec 0 rfl en) (rg (oA (acts_alloc (zPa)) pR rfl rfl (fun g0_0 _ => ?_))))
 refine ak rfl (ak rfl (tn (nn (sq (sq (te (ec 0 rfl (ec 2 rfl en)) (rg (mv rfl rfl (oP (pu_index (oT rfl) ot Tryz.underlying88 y94 (by omega) (by omega)) rfl (oP (pL (oT rfl) y94) rfl (oP (pu_eql (oT rfl) ot) rfl (mv rfl rfl (oG rfl rfl rfl (gm (oT rfl)) (fun hg => by (have hg1 := hg.2; (try simp only [cq2] at hg1); exact pu_move (oT rfl))) rfl ?_)))))))))))))
 refine oG rfl rfl rfl (gm (oT rfl)) (fun hg => by (have hg1 := hg.2; (try simp only [cq2] at hg1); exact pls (by exact gu (oT rfl) hg) Tryz.underlying88)) rfl ?_
 refine oG rfl rfl rfl (gm (oT rfl)) (fun hg => by (have hg1 := hg.2; (try simp only [cq2] at hg1); exact pu_geq (by exact gu (oT rfl) hg) ot)) rfl ?_
 refine oP (pu_pick_and (oT rfl) (oT rfl)) rfl (tn (nn (tc (oT rfl) (fun c19 => ?_) (fun c19 => ?_))))
 · refine sq (te (ec 0 rfl (ec 2 rfl en)) (rg (ak rfl (tn (nn (sq (sq (te (ec 0 rfl (ec 2 rfl (ec 5 rfl en))) (rg (mv rfl rfl (oP (pu_slice (oT rfl) ot ot Tryz.underlying88 y94 (by omega) (by omega) (by omega)) rfl (tr_as 21 (T := SlT kB (((nums (encN n) ++ r).take 9).drop 1)) (oT rfl) (oP (pls (oT rfl) Tryz.underlying88) rfl (oP (pu_move ot) rfl (tn (nn (tb (tr_loopK (σ := Nat) (ec 0 rfl (ec 2 rfl (ec 21 rfl (ec 22 rfl en)))) (fun i => [(23, I64 (i : Int)), (5, IntT .u64 (top n i : Int))]) (fun i => [BlkI g0_0 90 kPa (false, [], 0)]) (fun i => i ≤ 8) (fun i => 8 - i) 0 (Nat.zero_le _) ?_ (op (by repeat first | exact pn | refine pc 0 rfl ?_)) ?_))))))))))))))))))
   · exact (ec 23 rfl (es_cons (t := 5) (OT.val (oT rfl) (congrArg (Value.int _) (by rw [top_zero]; rfl))) en))
   · rintro i hi
     refine sq (te (ec 0 rfl (ec 2 rfl (ec 5 rfl (ec 21 rfl (ec 22 rfl (ec 23 rfl en)))))) ?_)
     have hml := mid_len n r
     refine rg (oP (pu_lss (oT rfl) (oT rfl)) rfl (tn (nn (sq (tc (oT rfl) (fun c24 => ?_) (fun c24 => ?_))))))
     · refine sk (nn (sq (tb (sq (te (ec 0 rfl (ec 2 rfl (ec 5 rfl (ec 21 rfl (ec 22 rfl (ec 23 rfl en)))))) ?_)))))
       have hi8 : i < 8 := by rw [mid_len] at c24; simp only [decide_eq_true_eq] at c24; omega
       refine rg (oP (pu_index (oT rfl) (oT rfl) Tryz.underlying88 y94 (by omega) (by omega)) rfl (oP (pL (oT rfl) y94) rfl (av rfl rfl (tn ?_))))
       rw [enc_mid n r hi8]
       refine nn (te (ec 0 rfl (ec 2 rfl (ec 5 rfl (ec 7 rfl (ec 21 rfl (ec 22 rfl (ec 23 rfl en))))))) (rg (mv rfl rfl (oP (pu_shl (oT rfl) ot (by omega)) rfl (mv rfl rfl (oP (pu_convert' (oT rfl) Tryz.underlying5 Tryz.underlying145 (by omega) (by omega) rfl) rfl (tr_as 28 (T := IntT .u64 (IntKind.u64.wrap ((top n i : Int) * 2 ^ min (Int.toNat 8) IntKind.u64.bits))) (oT rfl) (oP (pu_bits (oT rfl) (oT rfl) (by simp)) rfl ?_))))))))
       refine tr_as 31 (T := IntT .u64 ((top n (i + 1) : Nat) : Int)) (OT.eq (oT rfl) (congrArg (IntT .u64) (by rw [or_byte (top_lt n hi8) (Nat.mod_lt _ (by decide)), top_step n hi8]))) ?_
       refine av rfl rfl (tn (bn (nn (te (ec 0 rfl (ec 2 rfl (ec 5 rfl (ec 21 rfl (ec 22 rfl (ec 23 rfl en)))))) (rg (oP (pad (oT rfl) ot (by omega)) rfl (mv rfl rfl (tn (nn ?_)))))))))
       exact tg (i + 1) (by omega) (by omega) (ea (ec 23 rfl (ec 5 rfl en)) (ec 0 rfl (ec 2 rfl (ec 21 rfl (ec 22 rfl en))))) (op (by repeat first | exact pn | refine pc 0 rfl ?_))
     · refine tr_exit (tx (tx (bh (nn (sq (te (ec 0 rfl (ec 2 rfl (ec 5 rfl en))) ?_))))))
       obtain rfl : i = 8 := by rw [mid_len] at c24; simp only [decide_eq_false_iff_not] at c24; omega
       rw [top_all]
       apply tr_anyW (p := 6) (Lf := fun c => cond c (BlkI g0_0 90 kPa (false, [], n) :: []) (BlkI g0_0 90 kPa (false, [], 0) :: [])) (by kernel_rfl) (m := 7) (ns := [[(5, none)], [(33, some 0)], [(34, some 1)], [(35, some 2)], [(0, none)], [(37, some 4)], [(2, none), (36, some 3)]]) (by kernel_rfl) (by kernel_rfl) (Ts := [_, _, _, _, _, _, _]) rfl
       case hops =>
        refine ⟨?_, ?_, ?_, ?_, ?_, ?_, ?_, trivial⟩
        · exact cAf (by kernel_rfl) fun _ => rw_ (rmv rfl)
        · exact cAf (by kernel_rfl) fun _ => rw_ (rP (pu_bits (oT rfl) ot (by simp)))
        · exact cAf (by kernel_rfl) fun _ => rw_ (rP (pu_ceq (T' := IntT .i64 n) (pu_convert (oT rfl) Tryz.underlying145 Tryz.underlying3) (congrArg (IntT .i64) (bi_back hn))))
        · exact cAf (by kernel_rfl) fun _ => rw_ (rop_acts rfl (aC (Num_fn _) y99 (oc (oT rfl) oN) pR) (fun _ _ _ _ h => h))
        · intro c hc; cases c <;> exact rw_ (rmv rfl)
        · intro c hc; cases c <;> exact rw_ (rP (pu_slice_lo (oT rfl) ot Tryz.underlying88 y94 (by omega) (by omega)))
        · exact cAf (by kernel_rfl) fun _ => ropw_acts rfl (asv (oT rfl) (oT rfl) (by exact pA 0 rfl) y91) (by exact pA 0 rfl) (fun _ => (by exact pA 0 rfl)) (fun _ _ _ _ h => h)
       case h =>
        refine av rfl rfl (ak rfl (tn (nn (tR (tt ?_)))))
        exact ret_cell_tmp2 .ret (.inl rfl) rfl () (oT rfl) (by exact mA 0 rfl) y91 (oT rfl) (oT rfl) (fun _ _ h => h) trivial (by exact pn)
 · exact absurd c19 (by rw [enc_at0, hll]; simp; omega) --done
set_option maxRecDepth 20000 in
/-- rhizome/key.Decode -/
theorem Decode_fn (t : Tp) (hm : t.length ≤ 22) (hin : InT t) : Ct Tryz.prog 30 [SlT kB (nums (idB t))] ([]) Unit (fun _ => TupT [SlT kPa (t.map prt), I64 0]) (fun _ => []) (fun _ => True) := by
 refine fn_intro Tryz.func30 rfl rfl ?_
 intro H w
 have hnl : (nums (idB t)).length = 9 * t.length := by rw [nums_len, idB_len]
 refine sq (te (ec 0 rfl en) (rg (ak rfl (ak rfl (tn (nn (sq (sq (te (ec 0 rfl en) (rg (mv rfl rfl (oP (pls (oT rfl) Tryz.underlying88) rfl (oP (pu_gtr (oT rfl) ot) rfl (tn (nn (tc (oT rfl) (fun c10 => ?_) (fun c10 => ?_)))))))))))))))))
 · simp only [decide_eq_true_eq] at c10; omega --done
 · refine sk (nn (sq (te (ec 0 rfl en) (tr_nilItem 90 kPa (rg (ak rfl (tn (nn (sq (tb (tr_loopK (σ := Nat × Value) en (fun s => [(0, SlT kB (nums (idB (t.drop s.1)))), (4, IsV s.2)]) (fun s => [OwnI 90 kPa s.2 ((t.take s.1).map prt)]) (fun s => s.1 ≤ t.length) (fun s => t.length - s.1) (0, nilS) (Nat.zero_le _) ?_ (op (by repeat first | exact pn | refine pc 0 rfl ?_)) ?_)))))))))))
   · exact (ec 0 rfl (ec 4 rfl en))
   · rintro ⟨k, u⟩ hk
     dsimp only at hk ⊢
     refine sq (sq (te (ec 0 rfl (ec 4 rfl en)) ?_))
     have hdl : (nums (idB (t.drop k))).length = 9 * (t.length - k) := by rw [nums_len, idB_len, List.length_drop]
     refine rg (mv rfl rfl (oP (pls (oT rfl) Tryz.underlying88) rfl (oP (pu_gtr (oT rfl) ot) rfl (tn (nn (tc (oT rfl) (fun c13 => ?_) (fun c13 => ?_)))))))
     · refine sk (nn (tb (sq (te (ec 0 rfl (ec 4 rfl en)) ?_))))
       have hkl : k < t.length := by simp only [decide_eq_true_eq] at c13; omega
       have hst := prts_take t hkl
       have htl : ((t.take k).map prt).length = k := by rw [List.length_map, List.length_take]; omega
       rw [id_drop t hkl]
       refine rg (mv rfl rfl (oA (aC (take_fn _ _ (hin _ (at_mem hkl)) (by rw [nums_len, idB_len, List.length_drop]; omega)) y104 (oc (oT rfl) oN) pR) pR rfl rfl (fun _ _ => ?_)))
       refine mv rfl rfl (oP (pu_extract (oT rfl) rfl) rfl (oP (pu_extract (oT rfl) rfl) rfl (oP (pu_extract (oT rfl) rfl) rfl (oA (acts_alloc (zPa)) pR rfl rfl (fun g5_6 _ => ?_)))))
       refine oA (asv (oT rfl) (oT rfl) (by exact pA 0 rfl) y91) (by exact pA 0 rfl) rfl rfl (fun _ _ => ?_)
       refine av rfl rfl (av rfl rfl (tn (nn (sq (sq (te (ec 4 rfl (ec 5 rfl (ec 6 rfl (ec 7 rfl en)))) (rg (mv rfl rfl (oP (pu_not (oT rfl)) rfl (tn (nn (tc (oT rfl) (fun c21 => ?_) (fun c21 => ?_)))))))))))))
       · cases c21 --done
       · refine sk (nn (sq (te (ec 4 rfl (ec 5 rfl (ec 6 rfl en))) (rg (mv rfl rfl (oP (plv (oT rfl) (by exact mA 0 rfl) y91) rfl ?_))))))
         refine oA (acts_lit (d := kPa) (v0 := (false, [], 0)) y100 y91 zPa (show 1 * 3 ≤ 16777216 from by decide) (by decide) (fills_arr rfl rfl (by decide) (oT rfl) fills_nil)) pR rfl rfl (fun _ _ => ?_)
         refine oA (acts_append (oT rfl) (by exact pA 1 rfl) (oT rfl) y100 (by (simp; omega)) (by (simp [maxLen]; omega))) (by exact pA 1 rfl) rfl rfl (fun v8_3 _ => ?_)
         refine av rfl rfl (tn (nn (te (ec 4 rfl (ec 6 rfl en)) (rg (mv rfl rfl (av rfl rfl (tn (bn (nn ?_)))))))))
         exact tg (k + 1, v8_3) (by show k + 1 ≤ t.length; omega) (by omega) (ea (ec 0 rfl (ec 4 rfl en)) en) (op (by rw [hst]; exact (by repeat first | exact pn | refine pc 0 rfl ?_)))
     · refine tr_exit (tx (tx (bh (nn (sq (te (ec 4 rfl en) ?_))))))
       obtain rfl : k = t.length := by simp only [decide_eq_false_iff_not] at c13; omega
       rw [List.take_length]
       refine tr_freezeF mk_none (fun g => blks_nil) (perm_at 0 rfl) 4 (oT rfl) (rg (mv rfl rfl (oA (aC (ClipP_fn _) y105 (oc (oT rfl) oN) pR) pR rfl rfl (fun _ _ => ?_))))
       refine av rfl rfl (ak rfl (tn (nn (tR ?_))))
       exact ret_two .ret (.inl rfl) rfl () (oT rfl) (oT rfl) (fun _ _ h => h) trivial (by exact pn)
end Go.Proofs.YtaahhghlpoiihaaGreatDoor
/- Steps of the loops of a net's small functions. Plain Lean. -/
namespace Go.Nt
open Go Go.Gw Go.Tu Go.Jn
set_option linter.unusedVariables false
set_option linter.unusedSimpArgs false
def fromL (al : List Atm) : List Int := al.map fun a => (ix (varsL al) a.1 : Int)
def toL (al : List Atm) : List Int := al.map fun a => (ix (varsL al) a.2.2 : Int)
def outL (v : Vw) : List Int := v.2.2.1.map fun o => (ix (varsL v.2.2.2.1) o : Int)
theorem fromL_len (al : List Atm) : (fromL al).length = al.length := by unfold fromL; rw [List.length_map]
theorem toL_len (al : List Atm) : (toL al).length = al.length := by unfold toL; rw [List.length_map]
theorem outL_len (v : Vw) : (outL v).length = v.2.2.1.length := by unfold outL; rw [List.length_map]
section
variable {al : List Atm} {k : Nat} {a : Atm}
theorem at_map' {α β : Type} [Inhabited α] [Inhabited β] {f : α → β} {l : List α} (h : k < l.length) : at' (l.map f) (k : Int) = f (at' l (k : Int)) := by
 rw [at'_nat (by rw [List.length_map]; exact h), at'_nat h, List.getElem_map]
theorem from_at (h : k < al.length) (ha : at' al (k : Int) = a) : at' (fromL al) (k : Int) = (ix (varsL al) a.1 : Int) := by unfold fromL; rw [at_map' h, ha]
theorem to_at (h : k < al.length) (ha : at' al (k : Int) = a) : at' (toL al) (k : Int) = (ix (varsL al) a.2.2 : Int) := by unfold toL; rw [at_map' h, ha]
theorem out_at {v : Vw} (h : k < v.2.2.1.length) : at' (outL v) (k : Int) = (ix (varsL v.2.2.2.1) (at' v.2.2.1 (k : Int)) : Int) := by unfold outL; rw [at_map' h]
end
def GrI (F T : Nat) (row : Tp) (x y : Int) (j : Nat) (o : Tp) : Prop := (j = 0 ∧ o = row) ∨ (j = 1 ∧ growS row F x = some o) ∨ (j = 2 ∧ growT F T row (x, y) = some o)
def gO (o : Tp) (i : Nat) (z : Int) : Tp := if i = o.length then o ++ [z] else o
theorem growS_eq {o : Tp} {i : Nat} {z : Int} : growS o i z = if (gO o i z).getD i 0 = z then some (gO o i z) else none := rfl
theorem growS_some {o o' : Tp} {i : Nat} {z : Int} (h : growS o i z = some o') : o' = gO o i z ∧ (gO o i z).getD i 0 = z := by
 rw [growS_eq] at h
 split at h
 · rename_i e; exact ⟨(Option.some.inj h).symm, e⟩
 · cases h
theorem growS_yes {o : Tp} {i : Nat} {z : Int} (h : (gO o i z).getD i 0 = z) : growS o i z = some (gO o i z) := by rw [growS_eq, if_pos h]
theorem growS_no {o : Tp} {i : Nat} {z : Int} (h : ¬ (gO o i z).getD i 0 = z) : growS o i z = none := by rw [growS_eq, if_neg h]
def pI (F T : Nat) (j : Nat) : Nat := if j = 0 then F else T
def pZ (x y : Int) (j : Nat) : Int := if j = 0 then x else y
section
variable {F T m : Nat} {row o : Tp} {x y : Int} {j : Nat}
theorem pair_at (h : j < 2) : at' [((F : Int), x), ((T : Int), y)] (j : Int) = ((pI F T j : Int), pZ x y j) := by
 match j, h with
 | 0, _ => rfl
 | 1, _ => rfl
theorem gr_bound (hl : Lies row.length m F T) (h : GrI F T row x y j o) (hj : j < 2) : pI F T j ≤ o.length ∧ o.length ≤ row.length + 1 := by
 rcases h with ⟨rfl, rfl⟩ | ⟨rfl, h⟩ | ⟨rfl, h⟩
 · have := hl.f1; unfold pI; rw [if_pos rfl]; omega
 · obtain ⟨rfl, _⟩ := growS_some h
   have h1 := hl.f1; have h2 := hl.t1; have h3 := hl.t2
   unfold pI gO
   rw [if_neg (by omega)]
   split
   · rw [List.length_append, List.length_singleton]; omega
   · omega
 · omega
theorem gO_len {i : Nat} {z : Int} (h : i ≤ o.length) : i < (gO o i z).length ∧ (gO o i z).length ≤ o.length + 1 := by
 unfold gO
 split
 · rw [List.length_append, List.length_singleton]; omega
 · omega
theorem gr_next (h : GrI F T row x y j o) (hj : j < 2) (he : (gO o (pI F T j) (pZ x y j)).getD (pI F T j) 0 = pZ x y j) : GrI F T row x y (j + 1) (gO o (pI F T j) (pZ x y j)) := by
 have hy := growS_yes he
 rcases h with ⟨rfl, rfl⟩ | ⟨rfl, h⟩ | ⟨rfl, h⟩
 · exact .inr (.inl ⟨rfl, hy⟩)
 · refine .inr (.inr ⟨rfl, ?_⟩)
   unfold growT
   rw [h, Option.bind_some]; exact hy
 · omega
theorem gr_none (h : GrI F T row x y j o) (hj : j < 2) (he : ¬ (gO o (pI F T j) (pZ x y j)).getD (pI F T j) 0 = pZ x y j) : growT F T row (x, y) = none := by
 have hy := growS_no he
 rcases h with ⟨rfl, rfl⟩ | ⟨rfl, h⟩ | ⟨rfl, h⟩
 · unfold growT
   rw [show growS o F (x, y).1 = none from hy, Option.bind_none]
 · unfold growT
   rw [h, Option.bind_some]; exact hy
 · omega
theorem gr_done (h : GrI F T row x y 2 o) : growT F T row (x, y) = some o := by
 rcases h with ⟨h, _⟩ | ⟨h, _⟩ | ⟨_, h⟩
 · omega
 · omega
 · exact h
end
def putG (m : List (Lab × Tp)) (o : Option Tp) : List (Lab × Tp) := match o with
 | none => m
 | some s => ptk (idB s) s m
theorem uses_step {al : List Atm} {t : Tp} {e : Ed} {i : Nat} (h : i < al.length) : usesB al (i + 1) t e = (usesB al i t e || decide ((env (varsL al) t (at' al (i : Int)).1, (at' al (i : Int)).2.1, env (varsL al) t (at' al (i : Int)).2.2) = e)) := by
 unfold usesB
 rw [List.take_succ_eq_append_getElem h, List.any_append, at'_nat h]; simp
theorem uses_yes {al : List Atm} {t : Tp} {e : Ed} : ∀ {k i : Nat}, i ≤ k → usesB al i t e = true → usesB al k t e = true := by
 intro k i h hu
 unfold usesB at *
 rw [List.any_eq_true] at *
 obtain ⟨a, ha, h2⟩ := hu
 exact ⟨a, (List.take_sublist_take_left h).subset ha, h2⟩
theorem place_lt {al : List Atm} {i k : Nat} {a : Atm} (h : i < k) (hk : k ≤ al.length) (ha : at' al (i : Int) = a) : ix (varsL al) a.1 < nv al k ∧ ix (varsL al) a.2.2 < nv al k := by
 have hil : i < al.length := by omega
 have hin : a ∈ al.take k := by
  rw [at'_nat hil] at ha
  rw [List.mem_take_iff_getElem]
  exact ⟨i, by omega, ha⟩
 have hV := varsL_take al k
 have hm1 : a.1 ∈ varsL (al.take k) := varsL_mem.2 ⟨a, hin, .inl rfl⟩
 have hm2 : a.2.2 ∈ varsL (al.take k) := varsL_mem.2 ⟨a, hin, .inr rfl⟩
 exact ⟨by unfold ix; rw [pre_idx hV hm1]; exact List.idxOf_lt_length_of_mem hm1, by unfold ix; rw [pre_idx hV hm2]; exact List.idxOf_lt_length_of_mem hm2⟩
theorem edge_eq (V : List Lab) (t : Tp) (a : Atm) (e : Ed) : (decide (a.2.1 = e.2.1) && decide (at' t (ix V a.1 : Int) = e.1) && decide (at' t (ix V a.2.2 : Int) = e.2.2)) = decide ((env V t a.1, a.2.1, env V t a.2.2) = e) := by
 rw [Bool.eq_iff_iff]
 simp only [Bool.and_eq_true, decide_eq_true_eq]
 show (_ ∧ t.getD (ix V a.1) 0 = e.1) ∧ t.getD (ix V a.2.2) 0 = e.2.2 ↔ (t.getD (ix V a.1) 0, a.2.1, t.getD (ix V a.2.2) 0) = e
 constructor
 · rintro ⟨⟨h1, h2⟩, h3⟩; rw [h1, h2, h3]
 · rintro rfl; exact ⟨⟨rfl, rfl⟩, rfl⟩
def maxL : List Int → Int
 | [] => 0
 | x :: l => l.foldl max x
theorem maxL_step {l : List Int} {k : Nat} (h : k < l.length) (h0 : 0 < k) : maxL (l.take (k + 1)) = max (maxL (l.take k)) (at' l (k : Int)) := by
 cases l with
 | nil => simp at h
 | cons x l =>
  cases k with
  | zero => omega
  | succ k =>
   have hk : k < l.length := by simpa using h
   rw [List.take_succ_cons, List.take_succ_cons, at'_nat h]
   show (l.take (k + 1)).foldl max x = max ((l.take k).foldl max x) (x :: l)[k + 1]
   rw [List.take_succ_eq_append_getElem hk, List.foldl_append]; rfl
theorem maxL_le {l : List Int} {b : Int} (h : ∀ x ∈ l, x ≤ b) (hb : 0 ≤ b) : maxL l ≤ b := by
 cases l with
 | nil => exact hb
 | cons x l =>
  show l.foldl max x ≤ b
  have : ∀ (l : List Int) (x : Int), x ≤ b → (∀ y ∈ l, y ≤ b) → l.foldl max x ≤ b := by
   intro l
   induction l with
   | nil => exact fun x h _ => h
   | cons y l ih => exact fun x h h2 => ih _ (by have := h2 y List.mem_cons_self; omega) fun z hz => h2 z (List.mem_cons_of_mem _ hz)
  exact this l x (h x List.mem_cons_self) fun y hy => h y (List.mem_cons_of_mem _ hy)
theorem le_maxL {l : List Int} {x : Int} (h : x ∈ l) : x ≤ maxL l := by
 cases l with
 | nil => cases h
 | cons z l =>
  show x ≤ l.foldl max z
  have : ∀ (l : List Int) (z : Int), z ≤ l.foldl max z ∧ ∀ y ∈ l, y ≤ l.foldl max z := by
   intro l
   induction l with
   | nil => exact fun z => ⟨Int.le_refl _, fun y h => by cases h⟩
   | cons y l ih =>
    intro z
    obtain ⟨h1, h2⟩ := ih (max z y)
    rw [List.foldl_cons]
    refine ⟨by omega, fun w hw => ?_⟩
    rcases List.mem_cons.1 hw with rfl | hw
    · omega
    · exact h2 w hw
  obtain ⟨h1, h2⟩ := this l z
  rcases List.mem_cons.1 h with rfl | h
  · exact h1
  · exact h2 x h
end Go.Nt
/- The memory of a net, as items; what of it is never written, as a type. -/
namespace Go.Gw
open Go
theorem op_tail {C : Cx} {Γ : Env} {L : List It} {o : Oper} {ops : Array Oper} {Q : Exit → Act → World → Prop} {rest : List Oper} {J : List It} {ρ : Type} {T : ρ → Ty} {I : ρ → List It} {φ : ρ → Prop} (X : List It) (hL : L = X ++ J) (hp : Acts C Γ L o J ρ T I φ) (hg : o.guard = none) (hd : dstOk C.N o.dst = true)
 (h : ∀ r, φ r → Tr C (upd o.dst (T r) Γ) (X ++ I r) (wpList C.P ops Q rest)) : Tr C Γ L (wpList C.P ops Q (o :: rest)) := by
 subst hL
 exact op_acts hp List.perm_append_comm hg hd fun r hr => tr_perm List.perm_append_comm (h r hr)
theorem perm_tail {X J : List It} : (X ++ J).Perm (J ++ X) := List.perm_append_comm
theorem perm_tail2 {X Y J : List It} : (X ++ (Y ++ J)).Perm (J ++ (X ++ Y)) := by
 rw [← List.append_assoc]; exact List.perm_append_comm
section
variable {C : Cx} {Γ : Env} {L : List It} {α : Type} {d : Kd α}
variable {dst : Option Tmp} {ty : TypeId} {pos : String} {after : Array Edge} {guard : Option (Nat × Bool)} {x : Operand}
theorem pu_load_atraw {t : TypeId} {v : Value} (hx : OT C.N Γ x (AtT kraw v)) (ht : tyOk C.P t false 1 = true) : Pure C Γ L ⟨dst, .load t x, ty, pos, after, guard⟩ (IsV v) := fun a w H f s ow => by
 obtain ⟨u, h1, h2⟩ := pu_load (C := C) (Γ := Γ) (L := L) (dst := dst) (ty := ty) (pos := pos) (after := after) (guard := guard) (d := kraw) hx ht a w H f s ow
 exact ⟨u, h1, h2.1⟩
theorem pu_len_map {κ β : Type} {enc : κ → Value} {V : β → Ty} {m : List (κ × β)} {g : Nat} {t kt et : TypeId} (ht : C.P.underlying t = some (.map kt et)) (hx : OT C.N Γ x (IsV (mp g))) (hm : MapI g enc V m ∈ L) : Pure C Γ L ⟨dst, .call ⟨.builtin .len, #[x], #[t]⟩, ty, pos, after, guard⟩ (I64 (m.length : Int)) := fun a w H f s ow => by
 obtain ⟨es, clock, hb, hR⟩ := ow.all _ hm
 have hv : a.eval x = .map (some g) := hx a H f
 have h3 := run_len_map (P := C.P) w t ty g es clock (by simp [Program.mapKeyOf, Program.mapElemOf, ht]) hb
 refine ⟨.int .i64 (m.length : Int), ?_, rfl⟩
 rw [hR.len] at h3
 simp [execOp, resolve, invoke, builtin, hv, h3, goInt]
theorem pu_max {k : IntKind} {m n : Int} {y : Operand} {ts : Array TypeId} (hx : OT C.N Γ x (IntT k m)) (hy : OT C.N Γ y (IntT k n)) : Pure C Γ L ⟨dst, .call ⟨.builtin .max, #[x, y], ts⟩, ty, pos, after, guard⟩ (IntT k (max m n)) := fun a w H f s ow => by
 have h1 : a.eval x = .int k m := hx a H f
 have h2 : a.eval y = .int k n := hy a H f
 refine ⟨.int k (max m n), ?_, rfl⟩
 have h3 := run_max_int2 (P := C.P) w ts ty k k m n
 rw [show (if m < n then n else m) = max m n from by split <;> omega] at h3
 simp [execOp, resolve, invoke, builtin, h1, h2, h3]
theorem pu_nilCheck_opt {o : Option α} {y : α} (hx : OT C.N Γ x (PtrT d o)) (h : o = some y) : Pure C Γ L ⟨dst, .nilCheck x, ty, pos, after, guard⟩ (AtT d y) := by
 subst h; exact pu_nilCheck_at hx
end
end Go.Gw
namespace Go.Proofs.YtaahhghlpoiihaaGreatDoor
open Go Go.Gw Go.So Go.Tu Go.Jn Go.Nt
set_option linter.unusedVariables false
set_option linter.unusedSimpArgs false
abbrev ers {κ : Type} [DecidableEq κ] (l : List κ) (k : κ) : List κ := l.erase k
theorem ers_mem {κ : Type} [DecidableEq κ] {l : List κ} {a k : κ} (hn : l.Nodup) : a ∈ ers l k ↔ a ≠ k ∧ a ∈ l := hn.mem_erase_iff
theorem ers_len {κ : Type} [DecidableEq κ] {l : List κ} {k : κ} (h : k ∈ l) : (ers l k).length = l.length - 1 := List.length_erase_of_mem h
abbrev NetV := Vw × List Lab × List Int × List Int × List Int × Value × List Value × Value
abbrev kN6 : Kd (List Value × Value) := kpair (ksl kraw) kraw
abbrev kN5 : Kd (Value × List Value × Value) := kpair kraw kN6
abbrev kN4 : Kd (List Int × Value × List Value × Value) := kpair (ksl kI) kN5
abbrev kN3 : Kd (List Int × List Int × Value × List Value × Value) := kpair (ksl kI) kN4
abbrev kN2 : Kd (List Int × List Int × List Int × Value × List Value × Value) := kpair (ksl kI) kN3
abbrev kN1 : Kd (List Lab × List Int × List Int × List Int × Value × List Value × Value) := kpair (ksl kS) kN2
abbrev kNet : Kd NetV := kpair kV kN1
theorem ln0 {t : NetV} : Lens kNet kV 0 t t.1 (fun y => (y, t.2)) := Lens.fst
theorem ln2 {t : NetV} : Lens kNet (ksl kI) 6 t t.2.2.1 (fun y => (t.1, t.2.1, y, t.2.2.2)) := Lens.comp (Lens.snd (a := kV) (b := kN1)) (Lens.comp (Lens.snd (a := ksl kS) (b := kN2)) (Lens.fst (a := ksl kI) (b := kN3)))
theorem ln3 {t : NetV} : Lens kNet (ksl kI) 7 t t.2.2.2.1 (fun y => (t.1, t.2.1, t.2.2.1, y, t.2.2.2.2)) := Lens.comp (Lens.snd (a := kV) (b := kN1)) (Lens.comp (Lens.snd (a := ksl kS) (b := kN2)) (Lens.comp (Lens.snd (a := ksl kI) (b := kN3)) (Lens.fst (a := ksl kI) (b := kN4))))
theorem ln4 {t : NetV} : Lens kNet (ksl kI) 8 t t.2.2.2.2.1 (fun y => (t.1, t.2.1, t.2.2.1, t.2.2.2.1, y, t.2.2.2.2.2)) := Lens.comp (Lens.snd (a := kV) (b := kN1)) (Lens.comp (Lens.snd (a := ksl kS) (b := kN2)) (Lens.comp (Lens.snd (a := ksl kI) (b := kN3)) (Lens.comp (Lens.snd (a := ksl kI) (b := kN4)) (Lens.fst (a := ksl kI) (b := kN5)))))
theorem ln5 {t : NetV} : Lens kNet kraw 9 t t.2.2.2.2.2.1 (fun y => (t.1, t.2.1, t.2.2.1, t.2.2.2.1, t.2.2.2.2.1, y, t.2.2.2.2.2.2)) := Lens.comp (Lens.snd (a := kV) (b := kN1)) (Lens.comp (Lens.snd (a := ksl kS) (b := kN2)) (Lens.comp (Lens.snd (a := ksl kI) (b := kN3)) (Lens.comp (Lens.snd (a := ksl kI) (b := kN4)) (Lens.comp (Lens.snd (a := ksl kI) (b := kN5)) (Lens.fst (a := kraw) (b := kN6))))))
theorem ln6 {t : NetV} : Lens kNet (ksl kraw) 10 t t.2.2.2.2.2.2.1 (fun y => (t.1, t.2.1, t.2.2.1, t.2.2.2.1, t.2.2.2.2.1, t.2.2.2.2.2.1, y, t.2.2.2.2.2.2.2)) := Lens.comp (Lens.snd (a := kV) (b := kN1)) (Lens.comp (Lens.snd (a := ksl kS) (b := kN2)) (Lens.comp (Lens.snd (a := ksl kI) (b := kN3)) (Lens.comp (Lens.snd (a := ksl kI) (b := kN4)) (Lens.comp (Lens.snd (a := ksl kI) (b := kN5)) (Lens.comp (Lens.snd (a := kraw) (b := kN6)) (Lens.fst (a := ksl kraw) (b := kraw)))))))
theorem ln7 {t : NetV} : Lens kNet kraw 11 t t.2.2.2.2.2.2.2 (fun y => (t.1, t.2.1, t.2.2.1, t.2.2.2.1, t.2.2.2.2.1, t.2.2.2.2.2.1, t.2.2.2.2.2.2.1, y)) := Lens.comp (Lens.snd (a := kV) (b := kN1)) (Lens.comp (Lens.snd (a := ksl kS) (b := kN2)) (Lens.comp (Lens.snd (a := ksl kI) (b := kN3)) (Lens.comp (Lens.snd (a := ksl kI) (b := kN4)) (Lens.comp (Lens.snd (a := ksl kI) (b := kN5)) (Lens.comp (Lens.snd (a := kraw) (b := kN6)) (Lens.snd (a := ksl kraw) (b := kraw)))))))
structure NO where
 v : Vw
 ga : Nat
 gl : List Nat
 gc : Nat
abbrev netV (n : NO) : NetV := (n.v, varsL n.v.2.2.2.1, fromL n.v.2.2.2.1, toL n.v.2.2.2.1, outL n.v, mp n.ga, n.gl.map mp, mp n.gc)
structure Al where
 gf : Nat
 gt : Nat
 gh : Nat
 frm : List Fr
 to : List Fr
 has : List (Pr × Bool)
def al0 : Al := ⟨0, 0, 0, [], [], []⟩
abbrev AlM := List (Lab × Al)
abbrev kAl : Kd (Value × Value × Value) := kX
def ptA (a : Al) : Value × Value × Value := (mp a.gf, mp a.gt, mp a.gh)
def alR (a : Al) : List It := MapI a.gf encI IsV (hdV a.frm) :: MapI a.gt encI IsV (hdV a.to) :: MapI a.gh encP kbool.T a.has :: (a.frm.map frI ++ a.to.map frI)
def alsI (m : AlM) : List It := m.flatMap fun p => alR p.2
def ptrsA (m : AlM) : List (Lab × Option (Value × Value × Value)) := m.map fun p => (p.1, some (ptA p.2))
def AlI (n : NO) (m : AlM) : List It := MapI n.ga encS (kpt kAl).T (ptrsA m) :: alsI m
abbrev Rw := List (Lab × Tp)
def lvI : List Nat → List Rw → List It
 | g :: gs, m :: ms => MapI g encS kT.T m :: lvI gs ms
 | _, _ => []
def NetI (n : NO) (al : AlM) (lv : List Rw) (ct : List (Lab × Int)) : List It := MapI n.gc encS kI.T ct :: (lvI n.gl lv ++ AlI n al)
theorem ptrsA_lkp (lab : Lab) (m : AlM) : (lkp lab (ptrsA m)).getD none = (lkp lab m).map ptA := by
 unfold ptrsA
 rw [lkp_map (fun a : Al => some (ptA a))]
 cases lkp lab m <;> rfl
theorem ptrsA_ptk (lab : Lab) (a : Al) (m : AlM) : ptrsA (ptk lab a m) = ptk lab (some (ptA a)) (ptrsA m) := ptk_map (fun a : Al => some (ptA a))
theorem alsI_perm {lab : Lab} {a : Al} {m : AlM} (h : lkp lab m = some a) : (alsI m).Perm (alR a ++ alsI (dlk lab m)) := (lkp_perm h).flatMap_right (fun p : Lab × Al => alR p.2)
theorem alsI_back {lab : Lab} {a : Al} {m : AlM} : (alR a ++ alsI (dlk lab m)).Perm (alsI (ptk lab a m)) := ((ptk_perm (k := lab) (x := a) (m := m)).flatMap_right (fun p : Lab × Al => alR p.2)).symm
theorem alsI_mem {lab : Lab} {a : Al} {m : AlM} (h : lkp lab m = some a) : ∀ i ∈ alR a, i ∈ alsI m := fun i hi => (alsI_perm h).mem_iff.2 (List.mem_append_left _ hi)
theorem alh_mem {lab : Lab} {a : Al} {m : AlM} (h : lkp lab m = some a) : MapI a.gh encP kbool.T a.has ∈ alsI m := alsI_mem h _ (by simp [alR])
theorem lvI_perm : ∀ {gl : List Nat} {lv : List Rw} {k : Nat} (h1 : k < gl.length) (h2 : k < lv.length), (lvI gl lv).Perm (MapI gl[k] encS kT.T lv[k] :: lvI (gl.eraseIdx k) (lv.eraseIdx k))
 | g :: gs, m :: ms, 0, _, _ => List.Perm.refl _
 | g :: gs, m :: ms, k + 1, h1, h2 => by
  have := lvI_perm (gl := gs) (lv := ms) (k := k) (by simpa using h1) (by simpa using h2)
  exact (this.cons _).trans (List.Perm.swap _ _ _)
theorem lvI_back : ∀ {gl : List Nat} {lv : List Rw} {k : Nat} {m' : Rw} (h1 : k < gl.length) (h2 : k < lv.length), (MapI gl[k] encS kT.T m' :: lvI (gl.eraseIdx k) (lv.eraseIdx k)).Perm (lvI gl (lv.set k m'))
 | g :: gs, m :: ms, 0, _, _, _ => List.Perm.refl _
 | g :: gs, m :: ms, k + 1, m', h1, h2 => by
  have := lvI_back (gl := gs) (lv := ms) (k := k) (m' := m') (by simpa using h1) (by simpa using h2)
  exact (List.Perm.swap _ _ _).trans (this.cons _)
def hasA (m : AlM) (e : Ed) : Bool := match lkp e.2.1 m with
 | none => false
 | some a => (lkp (e.1, e.2.2) a.has).getD false
def alG (m : AlM) (lab : Lab) : Al := (lkp lab m).getD al0
theorem alG_some {m : AlM} {lab : Lab} (h : (lkp lab m).isSome = true) : lkp lab m = some (alG m lab) := by
 unfold alG
 cases e : lkp lab m with
 | none => rw [e] at h; cases h
 | some a => rfl
theorem ptA_some {m : AlM} {lab : Lab} (h : (lkp lab m).isSome = true) : (lkp lab m).map ptA = some (ptA (alG m lab)) := by rw [alG_some h]; rfl
theorem map_some {m : AlM} {lab : Lab} : (!((lkp lab m).map ptA).isNone) = (lkp lab m).isSome := by cases lkp lab m <;> rfl
theorem hasA_eq (m : AlM) (e : Ed) : ((lkp e.2.1 m).isSome && (lkp (e.1, e.2.2) (alG m e.2.1).has).getD false) = hasA m e := by
 unfold hasA alG
 cases lkp e.2.1 m <;> rfl
theorem pp0 (H : FH) : kPP.K H (0, 0) [.int .i64 0, .int .i64 0] := ⟨rfl, rfl, fun j x e => by
 match j, e with
 | 0, e => cases e; rfl
 | 1, e => cases e; rfl
 | j + 2, e => simp at e⟩
theorem perm_3 {a b c : It} {X Y Z : List It} : (a :: b :: c :: (X ++ Y) ++ Z).Perm (X ++ (a :: b :: c :: (Y ++ Z))) := by
 have h : ([a, b, c] ++ X).Perm (X ++ [a, b, c]) := List.perm_append_comm
 have := h.append_right (Y ++ Z)
 simpa only [List.append_assoc, List.cons_append, List.nil_append] using this
theorem perm_3' {a b c : It} {X Y Z : List It} : (a :: b :: c :: (X ++ Y) ++ Z).Perm (Y ++ (a :: b :: c :: (X ++ Z))) := by
 have h : (([a, b, c] ++ X) ++ Y).Perm (Y ++ ([a, b, c] ++ X)) := List.perm_append_comm
 have := h.append_right Z
 simpa only [List.append_assoc, List.cons_append, List.nil_append] using this
theorem als_f {m : AlM} {lab : Lab} {a : Al} (h : lkp lab m = some a) : (alsI m).Perm (a.frm.map frI ++ (MapI a.gf encI IsV (hdV a.frm) :: MapI a.gt encI IsV (hdV a.to) :: MapI a.gh encP kbool.T a.has :: (a.to.map frI ++ alsI (dlk lab m)))) := (alsI_perm h).trans perm_3
theorem als_t {m : AlM} {lab : Lab} {a : Al} (h : lkp lab m = some a) : (alsI m).Perm (a.to.map frI ++ (MapI a.gf encI IsV (hdV a.frm) :: MapI a.gt encI IsV (hdV a.to) :: MapI a.gh encP kbool.T a.has :: (a.frm.map frI ++ alsI (dlk lab m)))) := (alsI_perm h).trans perm_3'
theorem als_h {m : AlM} {lab : Lab} {a : Al} (h : lkp lab m = some a) : (alsI m).Perm (MapI a.gh encP kbool.T a.has :: MapI a.gf encI IsV (hdV a.frm) :: MapI a.gt encI IsV (hdV a.to) :: (a.frm.map frI ++ a.to.map frI ++ alsI (dlk lab m))) := by
 refine (alsI_perm h).trans ?_
 unfold alR
 simp only [List.cons_append]
 exact (List.Perm.cons _ (List.Perm.swap _ _ _)).trans (List.Perm.swap _ _ _)
theorem mid_perm {X A : List It} {Y B Z : List It} (h : Y.Perm (A ++ B)) : (X ++ Y).Perm (A ++ (X ++ B)) := by
 have h2 : (X ++ A).Perm (A ++ X) := List.perm_append_comm
 have h3 := h2.append_right B
 refine (h.append_left X).trans ?_
 simpa only [List.append_assoc] using h3
section
variable {C : Cx} {Γ : Env} {X Y B : List It} {φ : Act → World → Prop}
theorem tr_pickN (n : Int) {m : List Fr} (hp : Y.Perm (m.map frI ++ B)) (h : Tr C Γ (OwnI 3 kI ((lkp n (hdV m)).getD nilS) ((lkp n m).getD (nilS, [])).2 :: (X ++ ((dlk n m).map frI ++ B))) φ) : Tr C Γ (X ++ Y) φ := by
 refine tr_pickF n (mid_perm (X := X) (Z := []) hp) (tr_perm (List.Perm.cons _ ?_) h)
 exact mid_perm (Z := []) (List.Perm.refl _)
theorem picks_backN {n : Int} {m : List Fr} {v : Value} {xs : List Int} (hv : v = (lkp n (hdV m)).getD nilS) (hx : xs = ((lkp n m).getD (nilS, [])).2) (hp : Y.Perm (m.map frI ++ B)) : Picks (OwnI 3 kI v xs :: (X ++ ((dlk n m).map frI ++ B))) (X ++ Y) := by
 subst hv hx
 rw [hdV_lkp]
 cases hl : lkp n m with
 | none =>
  rw [dlk_none (lkp_none.1 hl)]
  exact picks_drop (picks_perm (hp.symm.append_left X))
 | some x =>
  refine picks_perm ?_
  have h1 : (m.map frI).Perm (OwnI 3 kI x.1 x.2 :: (dlk n m).map frI) := (lkp_perm hl).map frI
  have h2 : Y.Perm ([OwnI 3 kI x.1 x.2] ++ ((dlk n m).map frI ++ B)) := hp.trans (h1.append_right B)
  exact (mid_perm (X := X) (Z := []) h2).symm
end
def matchA (x : Al) (f t : Nat) (r : Tp) (p : Pr) : Prop := if f < r.length then p.1 = r.getD f 0 ∧ p.2 ∈ ((lkp (r.getD f 0) x.frm).getD (nilS, [])).2 else if t < r.length then p.2 = r.getD t 0 ∧ p.1 ∈ ((lkp (r.getD t 0) x.to).getD (nilS, [])).2 else p ∈ keys x.has
structure AlB (x : Al) : Prop where
 f : ∀ n, ((lkp n x.frm).getD (nilS, [])).2.length ≤ 1000000
 t : ∀ n, ((lkp n x.to).getD (nilS, [])).2.length ≤ 1000000
 h : x.has.length ≤ 1000000
theorem lvI_mem : ∀ {gl : List Nat} {lv : List Rw} {k : Nat} (h1 : k < gl.length) (h2 : k < lv.length), MapI gl[k] encS kT.T lv[k] ∈ lvI gl lv := fun h1 h2 => (lvI_perm h1 h2).mem_iff.2 List.mem_cons_self
theorem zPP : ZeroOf Tryz.prog 144 (karr 2 kPP) [(0, 0), (0, 0)] := ⟨.agg #[.int .i64 0, .int .i64 0, .int .i64 0, .int .i64 0], by kernel_rfl, fun H => ⟨[.int .i64 0, .int .i64 0, .int .i64 0, .int .i64 0], ⟨rfl, (Reps.one (pp0 H)).append (Reps.one (pp0 H))⟩, rfl⟩⟩
theorem zBo : ZeroOf Tryz.prog 4 kbool false := ⟨.bool false, by kernel_rfl, fun H => rfl⟩
theorem zPA : ZeroOf Tryz.prog 78 (kpt kAl) none := ⟨.pointer none, by kernel_rfl, fun H => rfl⟩
theorem zAlp : ZeroOf Tryz.prog 82 kAl (.map none, .map none, .map none) := ⟨.agg #[.map none, .map none, .map none], by kernel_rfl, fun H => ⟨[.map none, .map none, .map none], ⟨[_], [_, _], ⟨rfl, rfl⟩, ⟨[_], [_], ⟨rfl, rfl⟩, ⟨rfl, rfl⟩, rfl⟩, rfl⟩, rfl⟩⟩
theorem zRw : ZeroOf Tryz.prog 76 kraw (.map none) := ⟨.map none, by kernel_rfl, fun H => ⟨rfl, rfl⟩⟩
end Go.Proofs.YtaahhghlpoiihaaGreatDoor
/- Walks through the Go functions net.Net).has, net.Net).alpha, net.Net).grown, as typed contracts. -/
namespace Go.Proofs.YtaahhghlpoiihaaGreatDoor
open Go Go.Gw Go.So Go.Tu Go.Jn Go.Nt
set_option linter.unusedVariables false
set_option linter.unusedSimpArgs false
def AlphaSays (m : AlM) (l : Lab) (q : AlM) : Prop := (lkp l q).isSome = true ∧ (q = m ∨ (lkp l m = none ∧ ∃ gf gt gh, q = ptk l ⟨gf, gt, gh, [], [], []⟩ m))
theorem own_alpha {n : NO} {m : AlM} {l : Lab} {gf gt gh : Nat} (h : lkp l m = none) : Picks (MapI n.ga encS (kpt kAl).T (ptk l (some (mp gf, mp gt, mp gh)) (ptrsA m)) :: MapI gh encP kbool.T [] :: MapI gt encI IsV [] :: MapI gf encI IsV [] :: alsI m) (AlI n (ptk l ⟨gf, gt, gh, [], [], []⟩ m)) := by
 unfold AlI
 rw [ptrsA_ptk]
 refine pc 0 rfl (picks_perm ?_)
 refine List.Perm.trans ?_ alsI_back
 rw [dlk_none (lkp_none.1 h)]
 show List.Perm (MapI gh encP kbool.T [] :: MapI gt encI IsV [] :: MapI gf encI IsV [] :: alsI m) (MapI gf encI IsV [] :: MapI gt encI IsV [] :: MapI gh encP kbool.T [] :: alsI m)
 exact (List.Perm.cons _ (List.Perm.swap _ _ _)).trans ((List.Perm.swap _ _ _).trans (List.Perm.cons _ (List.Perm.swap _ _ _)))
theorem ptk_some {l : Lab} {a : Al} {m : AlM} : (lkp l (ptk l a m)).isSome = true := by rw [lkp_put, if_pos rfl]; rfl
theorem alG_ptk {l : Lab} {a : Al} {m : AlM} : alG (ptk l a m) l = a := by unfold alG; rw [lkp_put, if_pos rfl]; rfl
theorem at_take {α : Type} [Inhabited α] {l : List α} {i k : Nat} (h : i < k) (hk : k ≤ l.length) : at' (l.take k) (i : Int) = at' l (i : Int) := by
 rw [at'_nat (by rw [List.length_take]; omega), at'_nat (by omega), List.getElem_take]

set_option maxRecDepth 20000 in
/-- (*rhizome/net.Net).has -/
theorem has_fn (n : NO) (m : AlM) (e : Ed) : Ct Tryz.prog 28 [AtT kNet (netV n), kE.T e] (AlI n m) Unit (fun _ => BoolT (hasA m e)) (fun _ => AlI n m) (fun _ => True) := by
 refine fn_intro Tryz.func28 rfl rfl ?_
 intro H w
 refine sq (te (ec 0 rfl (ec 1 rfl en)) (rg (oA (acts_box (d := kE) (oT rfl)) pR rfl rfl (fun g0_0 _ => ?_))))
 refine ak rfl (tn (nn (sq (te (ec 0 rfl (ec 3 rfl en)) ?_))))
 apply tr_any (m := 6) (ns := [[(0, none)], [(6, some 0)], [(7, some 1)], [(8, some 2)], [(3, none)], [(10, some 4)]]) (by kernel_rfl) (by kernel_rfl) (Ts := [_, _, _, _, _, _]) rfl
 case hops =>
  refine ⟨?_, ?_, ?_, ?_, ?_, ?_, trivial⟩
  · exact rmv rfl
  · exact rP (pu_nilCheck_at (oT rfl))
  · exact rP (pu_faddr_at (oT rfl) ln5 y106)
  · exact rP (pu_load_atraw (oT rfl) y107)
  · exact rP (pf (oT rfl) y57)
  · exact rP (plb (oT rfl) (by exact mA 0 rfl) le1 y36)
 case h =>
  refine oP (pu_lookup_own mkS Tryz.underlying69 zPA (oT rfl) (by exact mA 1 rfl) (oT rfl)) rfl ?_
  refine av rfl rfl (tn (nn (sq (te (ec 3 rfl (ec 5 rfl en)) ?_))))
  rw [ptrsA_lkp]
  apply tr_any (m := 12) (ns := [[(5, none)], [(13, some 0)], [(14, some 1)], [(5, none), (15, some 2)], [(15, some 2), (16, some 3)], [(15, some 2), (17, some 4)], [(15, some 2), (18, some 5)], [(3, none), (15, some 2)], [(15, some 2), (20, some 7)], [(3, none), (15, some 2)], [(15, some 2), (22, some 9)], [(15, some 2), (21, some 8), (23, some 10)]]) (by kernel_rfl) (by kernel_rfl) (Ts := [_, _, _, _, _, _, _, _, _, _, _, _]) rfl
  case hops =>
   refine ⟨?_, ?_, ?_, ?_, ?_, ?_, ?_, ?_, ?_, ?_, ?_, ?_, trivial⟩
   · exact rmv rfl
   · exact rP (pu_opt_neq (oT rfl) Tryz.underlying78)
   · exact rmv rfl
   · exact rG rfl rfl rfl (gm (oT rfl)) (fun hg => by (have hg1 := hg.2; exact rmv rfl))
   · exact rG rfl rfl rfl (gm (oT rfl)) (fun hg => by (have hg1 := hg.2; exact rP (pu_nilCheck_opt (y := ptA (alG m e.2.1)) (gu (oT rfl) hg) (ptA_some (by rw [← map_some]; exact hg1)))))
   · exact rG rfl rfl rfl (gm (oT rfl)) (fun hg => by (have hg1 := hg.2; exact rP (pu_faddr_at (by exact gu (oT rfl) hg) lx2 y108)))
   · exact rG rfl rfl rfl (gm (oT rfl)) (fun hg => by (have hg1 := hg.2; exact rP (pu_load_atraw (by exact gu (oT rfl) hg) y109)))
   · exact rG rfl rfl rfl (gm (oT rfl)) (fun hg => by (have hg1 := hg.2; exact rP (pf (oT rfl) y58)))
   · exact rG rfl rfl rfl (gm (oT rfl)) (fun hg => by (have hg1 := hg.2; exact rP (plb (by exact gu (oT rfl) hg) (by exact mA 0 rfl) le0 y2)))
   · exact rG rfl rfl rfl (gm (oT rfl)) (fun hg => by (have hg1 := hg.2; exact rP (pf (oT rfl) y59)))
   · exact rG rfl rfl rfl (gm (oT rfl)) (fun hg => by (have hg1 := hg.2; exact rP (plb (by exact gu (oT rfl) hg) (by exact mA 0 rfl) le2 y2)))
   · exact rG rfl rfl rfl (gm (oT rfl)) (fun hg => by (have hg1 := hg.2; exact rP (pu_build_arr (d := kPP) (v0 := (0, 0)) (agg := false) Tryz.underlying105 y2 zP rfl (fills_cons rfl Lens.p0 (by exact gu (oT rfl) hg) (fills_cons rfl Lens.p1 (by exact gu (oT rfl) hg) fills_nil)))))
  case h =>
   refine oG rfl rfl rfl (gm (oT rfl)) (fun hg => by (have hg1 := hg.2; (try simp only [cq2] at hg1); exact pu_lookup_own (m := (alG m e.2.1).has) mkP Tryz.underlying80 zBo (gu (oT rfl) hg) (List.mem_cons_of_mem _ (List.mem_cons_of_mem _ (alh_mem (alG_some (by rw [← map_some]; exact hg1))))) (gu (oT rfl) hg))) rfl ?_
   refine oP (pu_pick_and (oT rfl) (oT rfl)) rfl (av rfl rfl (tn (nn (tR ?_))))
   exact ret_one .ret (.inl rfl) rfl () (OT.val (oT rfl) (congrArg Value.bool (by rw [map_some]; exact hasA_eq m e))) trivial (pc 1 rfl (pd pl))
set_option maxRecDepth 20000 in
/-- (*rhizome/net.Net).alpha -/
theorem alpha_fn (n : NO) (m : AlM) (l : Lab) : Ct Tryz.prog 47 [AtT kNet (netV n), BsT l] (AlI n m) AlM (fun q => AtT kAl (ptA (alG q l))) (fun q => AlI n q) (AlphaSays m l) := by
 refine fn_intro Tryz.func47 rfl rfl ?_
 intro H w
 refine sq (te (ec 0 rfl (ec 1 rfl en)) (rg (ak rfl (tn (nn (sq (te (ec 0 rfl (ec 1 rfl en)) (rg (mv rfl rfl (oP (pu_nilCheck_at (oT rfl)) rfl (oP (pu_faddr_at (oT rfl) ln5 y106) rfl (oP (pu_load_atraw (oT rfl) y107) rfl (mv rfl rfl (oP (pu_lookup_own mkS Tryz.underlying69 zPA (oT rfl) (by exact mA 0 rfl) (oT rfl)) rfl ?_))))))))))))))
 refine av rfl rfl (tn (nn (tr_joinK (σ := AlM) en (fun q => [(5, AtT kAl (ptA (alG q l)))]) (fun q => AlI n q) (fun q => AlphaSays m l q) ?_ ?_)))
 · refine sq (te (ec 0 rfl (ec 1 rfl (ec 5 rfl en))) ?_)
   rw [ptrsA_lkp]
   refine rg (mv rfl rfl (oP (pu_opt_eql (oT rfl) Tryz.underlying78) rfl (tn (nn (tc (oT rfl) (fun c13 => ?_) (fun c13 => ?_))))))
   · have hn : lkp l m = none := by
      cases hx : lkp l m with
      | none => rfl
      | some a => rw [hx] at c13; cases c13
     refine sq (te (ec 0 rfl (ec 1 rfl en)) (rg (oA (acts_makeMap encI IsV) pR rfl rfl (fun g3_0 _ => ?_))))
     refine oA (acts_makeMap encI IsV) pR rfl rfl (fun g3_1 _ => ?_)
     refine oA (acts_makeMap encP kbool.T) pR rfl rfl (fun g3_2 _ => ?_)
     refine oP (pu_build (d := kAl) (v0 := (.map none, .map none, .map none)) (ps := [(0, 1), (1, 1), (2, 1)]) zAlp (by kernel_rfl) rfl (fills_cons rfl lx0 (by exact OT.raw (oT rfl) rfl) (fills_cons rfl lx1 (by exact OT.raw (oT rfl) rfl) (fills_cons rfl lx2 (by exact OT.raw (oT rfl) rfl) fills_nil)))) rfl ?_
     refine oA (acts_box (d := kAl) (oT rfl)) pR rfl rfl (fun g3_4 _ => ?_)
     refine av rfl rfl (tn (tr_frz Frz.blk (perm_at 0 rfl) 5 (oT rfl) (fun H q => q) (nn (te (ec 0 rfl (ec 1 rfl (ec 5 rfl en))) (rg (mv rfl rfl (oP (pu_nilCheck_at (oT rfl)) rfl (oP (pu_faddr_at (oT rfl) ln5 y106) rfl (oP (pu_load_atraw (oT rfl) y107) rfl (mv rfl rfl (mv rfl rfl (oA (acts_update (v := some (mp g3_0, mp g3_1, mp g3_2)) mkS Tryz.underlying69 (oT rfl) (by exact pA 3 rfl) (oT rfl) (oT rfl)) (by exact pA 3 rfl) rfl rfl (fun _ _ => ?_)))))))))))))
     refine tn (nn ?_)
     exact tr_joined (ptk l ⟨g3_0, g3_1, g3_2, [], [], []⟩ m) ⟨ptk_some, .inr ⟨hn, _, _, _, rfl⟩⟩ (ea (es_cons (t := 5) (OT.eq (oT rfl) (by rw [alG_ptk]; rfl)) en) en) (op (own_alpha hn))
   · have hs : (lkp l m).isSome = true := by
      cases hx : lkp l m with
      | none => rw [hx] at c13; cases c13
      | some a => rfl
     refine sk (nn ?_)
     exact tr_joined m ⟨hs, .inl rfl⟩ (ea (es_cons (t := 5) (OT.eq (oT rfl) (by rw [ptA_some hs]; rfl)) en) en) (op pl)
 · rintro q hq
   exact sq (te (ec 5 rfl en) (rg (mv rfl rfl (av rfl rfl (tn (nn (tR (ret_one .ret (.inl rfl) rfl q (oT rfl) hq pl))))))))
set_option maxRecDepth 20000 in
/-- (*rhizome/net.Net).grown -/
theorem grown_fn (n : NO) (k : Nat) (row : Tp) (x y : Int) (a : Atm) (hk : k < n.v.2.2.2.1.length) (ha : at' n.v.2.2.2.1 (k : Int) = a) (hl : Lies row.length (nv n.v.2.2.2.1 (k + 1)) (ix (varsL n.v.2.2.2.1) a.1) (ix (varsL n.v.2.2.2.1) a.2.2)) (hr : row.length ≤ 1000) : Ct Tryz.prog 49 [AtT kNet (netV n), I64 (k : Int), SlT kI row, I64 x, I64 y] ([]) Unit (fun _ => TupT [SlT kI ((growT (ix (varsL n.v.2.2.2.1) a.1) (ix (varsL n.v.2.2.2.1) a.2.2) row (x, y)).getD []), BoolT (growT (ix (varsL n.v.2.2.2.1) a.1) (ix (varsL n.v.2.2.2.1) a.2.2) row (x, y)).isSome]) (fun _ => []) (fun _ => True) := by
 refine fn_intro Tryz.func49 rfl rfl ?_
 intro H w
 have hfl := fromL_len n.v.2.2.2.1
 have htl := toL_len n.v.2.2.2.1
 refine sq (te (ec 0 rfl (ec 1 rfl (ec 2 rfl (ec 3 rfl (ec 4 rfl en))))) (rg (ak rfl (ak rfl (tn (nn (sq (te (ec 0 rfl (ec 1 rfl (ec 2 rfl (ec 3 rfl (ec 4 rfl en))))) (rg (mv rfl rfl (oA (aC (CloneO_fn _ (by omega)) y30 (oc (oT rfl) oN) pR) pR rfl rfl (fun v1_1 _ => ?_))))))))))))
 refine av rfl rfl (tn (nn (sq (sq (te (ec 0 rfl (ec 1 rfl (ec 3 rfl (ec 4 rfl (ec 12 rfl en))))) ?_)))))
 apply tr_any (m := 20) (ns := [[(0, none)], [(17, some 0)], [(18, some 1)], [(19, some 2)], [(1, none)], [(20, some 3), (21, some 4)], [(22, some 5)], [(3, none)], [(23, some 6), (24, some 7)], [(0, none)], [(26, some 9)], [(27, some 10)], [(28, some 11)], [(1, none)], [(29, some 12), (30, some 13)], [(31, some 14)], [(4, none)], [(32, some 15), (33, some 16)], [(25, some 8), (34, some 17)], []]) (by kernel_rfl) (by kernel_rfl) (Ts := [_, _, _, _, _, _, _, _, _, _, _, _, _, _, _, _, _, _, _, _]) rfl
 case hops =>
  refine ⟨?_, ?_, ?_, ?_, ?_, ?_, ?_, ?_, ?_, ?_, ?_, ?_, ?_, ?_, ?_, ?_, ?_, ?_, ?_, ?_, trivial⟩
  · exact rmv rfl
  · exact rP (pu_nilCheck_at (oT rfl))
  · exact rP (pu_faddr_at (oT rfl) ln2 y110)
  · exact rP (pL (oT rfl) y111)
  · exact rmv rfl
  · exact rP (pu_index (oT rfl) (oT rfl) Tryz.underlying39 y2 (by omega) (by show ((k : Nat) : Int) < ((fromL n.v.2.2.2.1).length : Int); omega))
  · exact rP (pL (oT rfl) y2)
  · exact rmv rfl
  · exact rP (pu_build_arr (d := kPP) (v0 := (0, 0)) (agg := false) Tryz.underlying105 y2 zP rfl (fills_cons rfl Lens.p0 (oT rfl) (fills_cons rfl Lens.p1 (oT rfl) fills_nil)))
  · exact rmv rfl
  · exact rP (pu_nilCheck_at (oT rfl))
  · exact rP (pu_faddr_at (oT rfl) ln3 y112)
  · exact rP (pL (oT rfl) y111)
  · exact rmv rfl
  · exact rP (pu_index (oT rfl) (oT rfl) Tryz.underlying39 y2 (by omega) (by show ((k : Nat) : Int) < ((toL n.v.2.2.2.1).length : Int); omega))
  · exact rP (pL (oT rfl) y2)
  · exact rmv rfl
  · exact rP (pu_build_arr (d := kPP) (v0 := (0, 0)) (agg := false) Tryz.underlying105 y2 zP rfl (fills_cons rfl Lens.p0 (oT rfl) (fills_cons rfl Lens.p1 (oT rfl) fills_nil)))
  · exact rP (pu_build_arr (d := karr 2 kPP) (v0 := [(0, 0), (0, 0)]) (agg := true) Tryz.underlying144 y60 zPP rfl (fills_arr rfl rfl (by decide) (oT rfl) (fills_arr rfl rfl (by decide) (oT rfl) fills_nil)))
  · exact rP (pu_move ot)
 case h =>
  refine tn ?_
  rw [show at' (netV n).2.2.1 (k : Int) = ((ix (varsL n.v.2.2.2.1) a.1) : Int) from from_at hk ha, show at' (netV n).2.2.2.1 (k : Int) = ((ix (varsL n.v.2.2.2.1) a.2.2) : Int) from to_at hk ha]
  refine tr_as 35 (T := (karr 2 kPP).T [(((ix (varsL n.v.2.2.2.1) a.1) : Int), x), (((ix (varsL n.v.2.2.2.1) a.2.2) : Int), y)]) (oT rfl) (nn (tb (tr_loopK (σ := Nat × Value × Tp) (ec 35 rfl en) (fun s => [(36, I64 (s.1 : Int)), (12, IsV s.2.1)]) (fun s => [OwnI 3 kI s.2.1 s.2.2]) (fun s => s.1 ≤ 2 ∧ GrI (ix (varsL n.v.2.2.2.1) a.1) (ix (varsL n.v.2.2.2.1) a.2.2) row x y s.1 s.2.2) (fun s => 2 - s.1) (0, v1_1, row) ⟨Nat.zero_le _, .inl ⟨rfl, rfl⟩⟩ ?_ (op (by repeat first | exact pn | refine pc 0 rfl ?_)) ?_)))
  · exact (ec 36 rfl (ec 12 rfl en))
  · rintro ⟨j, u, o⟩ ⟨hj2, hin⟩
    dsimp only at hj2 hin ⊢
    refine sq (te (ec 12 rfl (ec 35 rfl (ec 36 rfl en))) (rg (oP (pu_lss (oT rfl) ot) rfl (tn (nn (sq (tc (oT rfl) (fun c37 => ?_) (fun c37 => ?_))))))))
    · try simp only [cq] at c37
      refine sk (nn (sq (tb (sq (te (ec 12 rfl (ec 35 rfl (ec 36 rfl en))) ?_)))))
      have hj : j < 2 := by omega
      have hb := gr_bound hl hin hj
      have hgl := gO_len (z := (pZ x y j)) hb.1
      refine rg (oP (pu_index_agg (oT rfl) (oT rfl) Tryz.underlying144 y60 (by omega) (by omega)) rfl (oA (acts_alloc (zP)) pR rfl rfl (fun g4_1 _ => ?_)))
      refine oA (asv (oT rfl) (oT rfl) (by exact pA 0 rfl) y60) (by exact pA 0 rfl) rfl rfl (fun _ _ => ?_)
      refine tn ?_
      rw [pair_at hj]
      refine nn (tr_joinK (σ := Value) (ec 14 rfl (ec 35 rfl (ec 36 rfl en))) (fun u2 => [(12, IsV u2)]) (fun u2 => [OwnI 3 kI u2 (gO o (pI (ix (varsL n.v.2.2.2.1) a.1) (ix (varsL n.v.2.2.2.1) a.2.2) j) (pZ x y j)), BlkI g4_1 105 kPP (((pI (ix (varsL n.v.2.2.2.1) a.1) (ix (varsL n.v.2.2.2.1) a.2.2) j) : Int), (pZ x y j))]) (fun u2 => True) ?_ ?_)
      · refine sq (te (ec 12 rfl (ec 14 rfl (ec 35 rfl (ec 36 rfl en)))) (rg (oP (pu_pair_var0 (oT rfl) (by exact mA 0 rfl) Tryz.underlying105 y2) rfl ?_)))
        refine oP (pu_load_p0 (oT rfl) (by exact mA 0 rfl) y2) rfl ?_
        refine mv rfl rfl (oP (pu_len_own (oT rfl) (by exact mA 1 rfl) Tryz.underlying58) rfl ?_)
        refine oP (pu_eql (oT rfl) (oT rfl)) rfl (tn (nn (tc (oT rfl) (fun c43 => ?_) (fun c43 => ?_))))
        · try simp only [cq] at c43
          have hgo : gO o (pI (ix (varsL n.v.2.2.2.1) a.1) (ix (varsL n.v.2.2.2.1) a.2.2) j) (pZ x y j) = o ++ [(pZ x y j)] := if_pos (by omega)
          refine te (ec 12 rfl (ec 14 rfl (ec 35 rfl (ec 36 rfl en)))) (rg (mv rfl rfl (oP (pu_pair_var1 (oT rfl) (by exact mA 0 rfl) Tryz.underlying105 y2) rfl ?_)))
          refine oP (pu_load_p1 (oT rfl) (by exact mA 0 rfl) y2) rfl ?_
          refine oA (acts_lit (d := kI) (v0 := 0) y28 y2 zI (show 1 * 1 ≤ 16777216 from by decide) (by decide) (fills_arr rfl rfl (by decide) (oT rfl) fills_nil)) pR rfl rfl (fun _ _ => ?_)
          refine oA (acts_append (oT rfl) (by exact pA 1 rfl) (oT rfl) y28 (by (simp; omega)) (by (simp [maxLen]; omega))) (by exact pA 1 rfl) rfl rfl (fun v6_4 _ => ?_)
          refine av rfl rfl (tn (nn ?_))
          exact tr_joined v6_4 trivial (ea (ec 12 rfl en) (ec 14 rfl (ec 35 rfl (ec 36 rfl en)))) (op (by rw [hgo]; exact (by repeat first | exact pn | refine pc 0 rfl ?_)))
        · try simp only [cq] at c43
          have hgo : gO o (pI (ix (varsL n.v.2.2.2.1) a.1) (ix (varsL n.v.2.2.2.1) a.2.2) j) (pZ x y j) = o := if_neg (by omega)
          refine sk (nn ?_)
          exact tr_joined u trivial (ea (ec 12 rfl en) (ec 14 rfl (ec 35 rfl (ec 36 rfl en)))) (op (by rw [hgo]; exact (by repeat first | exact pn | refine pc 0 rfl ?_ | refine pc 1 rfl ?_)))
      · rintro u2 _
        refine sq (te (ec 12 rfl (ec 14 rfl (ec 35 rfl (ec 36 rfl en)))) ?_)
        apply tr_any (m := 7) (ns := [[(12, none)], [(14, none)], [(50, some 1)], [(49, some 0), (51, some 2)], [(52, some 3)], [(14, none)], [(54, some 5)]]) (by kernel_rfl) (by kernel_rfl) (Ts := [_, _, _, _, _, _, _]) rfl
        case hops =>
         refine ⟨?_, ?_, ?_, ?_, ?_, ?_, ?_, trivial⟩
         · exact rmv rfl
         · exact rP (pu_pair_var0 (oT rfl) (by exact mA 1 rfl) Tryz.underlying105 y2)
         · exact rP (pu_load_p0 (oT rfl) (by exact mA 1 rfl) y2)
         · exact rP (pio (oT rfl) (by exact mA 0 rfl) (oT rfl) Tryz.underlying58 y2 (by omega) (by omega))
         · exact rP (plo (oT rfl) (by exact mA 0 rfl) (by omega) (by omega) y2)
         · exact rP (pu_pair_var1 (oT rfl) (by exact mA 1 rfl) Tryz.underlying105 y2)
         · exact rP (pu_load_p1 (oT rfl) (by exact mA 1 rfl) y2)
        case h =>
         refine oP (pu_neq (oT rfl) (oT rfl)) rfl (tn (nn (tc (oT rfl) (fun c56 => ?_) (fun c56 => ?_))))
         · try simp only [cq] at c56
           have hG := gr_none hin hj c56
           refine sq (te en (rg (ak rfl (ak rfl (tn (nn (tR (block_ret (tt (tt (block_ret (tt ?_))))))))))))
           exact ret_two .ret (.inl rfl) rfl () (OT.conv (oT rfl) (fun H u h => by rw [hG]; exact nil_slt h)) (OT.val (oT rfl) (congrArg Value.bool (by rw [hG]; rfl))) (fun _ _ h => h) trivial (by exact pn)
         · try simp only [cq] at c56
           refine sk (bn (nn (te (ec 12 rfl (ec 35 rfl (ec 36 rfl en))) (rg (oP (pad (oT rfl) ot (by omega)) rfl (mv rfl rfl (tn (nn ?_))))))))
           exact tg (j + 1, u2, gO o (pI (ix (varsL n.v.2.2.2.1) a.1) (ix (varsL n.v.2.2.2.1) a.2.2) j) (pZ x y j)) ⟨(by show j + 1 ≤ 2; omega), gr_next hin hj c56⟩ (by show 2 - (j + 1) < 2 - j; omega) (ea (ec 36 rfl (ec 12 rfl en)) (ec 35 rfl en)) (op (by repeat first | exact pn | refine pc 0 rfl ?_))
    · try simp only [cq] at c37
      refine tr_exit (tx (tx (bh (nn (sq (te (ec 12 rfl en) ?_))))))
      obtain rfl : j = 2 := by omega
      have hG := gr_done hin
      refine tr_freeze (perm_at 0 rfl) 12 (oT rfl) (rg (mv rfl rfl (av rfl rfl (ak rfl (tn (nn (tR ?_)))))))
      exact ret_two .ret (.inl rfl) rfl () (OT.eq (oT rfl) (by rw [hG]; rfl)) (OT.val (oT rfl) (congrArg Value.bool (by rw [hG]; rfl))) (fun _ _ h => h) trivial (by exact pn)
end Go.Proofs.YtaahhghlpoiihaaGreatDoor
/- Walks through the Go functions net.Net).uses, net.Net).output, net.Net).Rows, net.Net).Levels, net.Net).Count, slices.Max[[]int,int], as typed contracts. -/
namespace Go.Proofs.YtaahhghlpoiihaaGreatDoor
open Go Go.Gw Go.So Go.Tu Go.Jn Go.Nt
set_option linter.unusedVariables false
set_option linter.unusedSimpArgs false
theorem take_take_len {α : Type} {l : List α} {k : Nat} (h : k ≤ l.length) : (l.take k).length = k := by rw [List.length_take]; omega
theorem lv_at {gl : List Nat} {k : Nat} (h : k < gl.length) : at' (gl.map mp) (k : Int) = mp gl[k] := by rw [at_map' h, at'_nat h]
theorem lv_at1 {gl : List Nat} {k : Nat} (h : k + 1 < gl.length) : at' ((gl.map mp).drop 1) (k : Int) = mp gl[k + 1] := by
 rw [at'_nat (by rw [List.length_drop, List.length_map]; omega), List.getElem_drop, List.getElem_map]
 congr 2; omega
def lens (lv : List Rw) : List Int := lv.tail.map fun m => (m.length : Int)
theorem lens_len (lv : List Rw) : (lens lv).length = lv.length - 1 := by unfold lens; rw [List.length_map, List.length_tail]
theorem lens_step {lv : List Rw} {k : Nat} (h : k + 1 < lv.length) : (lens lv).take (k + 1) = (lens lv).take k ++ [(lv[k + 1].length : Int)] := by
 have hl := lens_len lv
 rw [List.take_succ_eq_append_getElem (by omega)]
 congr 2
 unfold lens
 rw [List.getElem_map, List.getElem_tail]

set_option maxRecDepth 20000 in
/-- (*rhizome/net.Net).uses -/
theorem uses_fn (n : NO) (k : Nat) (row : Tp) (e : Ed) (hk : k ≤ n.v.2.2.2.1.length) (hr : row.length = nv n.v.2.2.2.1 k) (hm : n.v.2.2.2.1.length ≤ 1000) : Ct Tryz.prog 61 [AtT kNet (netV n), I64 (k : Int), SlT kI row, kE.T e] ([]) Unit (fun _ => BoolT (usesB n.v.2.2.2.1 k row e)) (fun _ => []) (fun _ => True) := by
 refine fn_intro Tryz.func61 rfl rfl ?_
 intro H w
 have hfl := fromL_len n.v.2.2.2.1
 have htl := toL_len n.v.2.2.2.1
 have hkl := take_take_len hk
 refine sq (te (ec 0 rfl (ec 1 rfl (ec 2 rfl (ec 3 rfl en)))) (rg (oA (acts_box (d := kE) (oT rfl)) pR rfl rfl (fun g0_0 _ => ?_))))
 refine ak rfl (tn (nn (sq (sq (te (ec 0 rfl (ec 1 rfl (ec 2 rfl (ec 7 rfl en)))) (rg (mv rfl rfl (oP (pu_nilCheck_at (oT rfl)) rfl (oP (pu_faddr_at (oT rfl) ln0 y113) rfl (oP (pu_faddr_at (oT rfl) lv3 y39) rfl (oP (pL (oT rfl) y40) rfl (mv rfl rfl (tr_as 15 (T := SlT kA n.v.2.2.2.1) (oT rfl) (oP (pu_slice_hi (oT rfl) (oT rfl) Tryz.underlying23 y41 (by omega) (by omega)) rfl (tr_as 17 (T := SlT kA (n.v.2.2.2.1.take k)) (oT rfl) (oP (pls (oT rfl) Tryz.underlying23) rfl (oP (pu_move ot) rfl (tn (nn (tb (tr_loopK (σ := Nat) (ec 0 rfl (ec 2 rfl (ec 7 rfl (ec 17 rfl (ec 18 rfl en))))) (fun i => [(19, I64 (i : Int))]) (fun i => [BlkI g0_0 54 kE e]) (fun i => i ≤ k ∧ usesB n.v.2.2.2.1 i row e = false) (fun i => k - i) 0 ⟨Nat.zero_le _, by simp [usesB]⟩ ?_ (op (by repeat first | exact pn | refine pc 0 rfl ?_)) ?_)))))))))))))))))))))
 · exact (ec 19 rfl en)
 · rintro i ⟨hi, hin⟩
   refine sq (te (ec 0 rfl (ec 2 rfl (ec 7 rfl (ec 17 rfl (ec 18 rfl (ec 19 rfl en)))))) (rg (oP (pu_lss (oT rfl) (oT rfl)) rfl (tn (nn (sq (tc (oT rfl) (fun c20 => ?_) (fun c20 => ?_))))))))
   · refine sk (nn (sq (tb (sq (te (ec 0 rfl (ec 2 rfl (ec 7 rfl (ec 17 rfl (ec 18 rfl (ec 19 rfl en)))))) ?_)))))
     have hik : i < k := by rw [hkl] at c20; simpa using c20
     obtain ⟨a, ha⟩ : ∃ a, at' n.v.2.2.2.1 (i : Int) = a := ⟨_, rfl⟩
     obtain ⟨hp1, hp2⟩ := place_lt hik hk ha
     have hfx : at' (netV n).2.2.1 (i : Int) = ((ix (varsL n.v.2.2.2.1) a.1) : Int) := from_at (by omega) ha
     have htx : at' (netV n).2.2.2.1 (i : Int) = ((ix (varsL n.v.2.2.2.1) a.2.2) : Int) := to_at (by omega) ha
     have hus := uses_step (t := row) (e := e) (show i < n.v.2.2.2.1.length by omega)
     rw [ha] at hus
     refine rg (mv rfl rfl (oP (pu_index (oT rfl) (oT rfl) Tryz.underlying23 y41 (by omega) (by omega)) rfl (oP (pL (oT rfl) y41) rfl (oA (acts_alloc (zA)) pR rfl rfl (fun g3_3 _ => ?_)))))
     refine av rfl rfl (oA (asv (oT rfl) (oT rfl) (by exact pA 0 rfl) y41) (by exact pA 0 rfl) rfl rfl (fun _ _ => ?_))
     refine tn ?_
     rw [at_take hik hk, ha]
     refine nn (sq (te (ec 0 rfl (ec 2 rfl (ec 7 rfl (ec 9 rfl (ec 10 rfl (ec 17 rfl (ec 18 rfl (ec 19 rfl en)))))))) ?_))
     apply tr_any (m := 33) (ns := [[(10, none)], [(24, some 0)], [(7, none)], [(26, some 2)], [(25, some 1), (27, some 3)], [(28, some 4)], [(2, none), (29, some 5)], [(0, none), (29, some 5)], [(29, some 5), (31, some 7)], [(29, some 5), (32, some 8)], [(29, some 5), (33, some 9)], [(9, none), (29, some 5)], [(29, some 5), (34, some 10), (35, some 11)], [(29, some 5), (36, some 12)], [(29, some 5), (30, some 6), (37, some 13)], [(29, some 5), (38, some 14)], [(7, none), (29, some 5)], [(29, some 5), (40, some 16)], [(29, some 5), (39, some 15), (41, some 17)], [(29, some 5), (42, some 18)], [(43, some 19)], [(2, none), (44, some 20)], [(0, none), (44, some 20)], [(44, some 20), (46, some 22)], [(44, some 20), (47, some 23)], [(44, some 20), (48, some 24)], [(9, none), (44, some 20)], [(44, some 20), (49, some 25), (50, some 26)], [(44, some 20), (51, some 27)], [(44, some 20), (45, some 21), (52, some 28)], [(44, some 20), (53, some 29)], [(7, none), (44, some 20)], [(44, some 20), (55, some 31)]]) (by kernel_rfl) (by kernel_rfl) (Ts := [_, _, _, _, _, _, _, _, _, _, _, _, _, _, _, _, _, _, _, _, _, _, _, _, _, _, _, _, _, _, _, _, _]) rfl
     case hops =>
      refine ⟨?_, ?_, ?_, ?_, ?_, ?_, ?_, ?_, ?_, ?_, ?_, ?_, ?_, ?_, ?_, ?_, ?_, ?_, ?_, ?_, ?_, ?_, ?_, ?_, ?_, ?_, ?_, ?_, ?_, ?_, ?_, ?_, ?_, trivial⟩
      · exact rP (pf (oT rfl) y52)
      · exact rP (plb (oT rfl) (by exact mA 0 rfl) la1 y36)
      · exact rP (pf (oT rfl) y57)
      · exact rP (plb (oT rfl) (by exact mA 1 rfl) le1 y36)
      · exact rP (pu_bs_eql (oT rfl) (oT rfl))
      · exact rmv rfl
      · exact rG rfl rfl rfl (gm (oT rfl)) (fun hg => by (have hg1 := hg.2; exact rmv rfl))
      · exact rG rfl rfl rfl (gm (oT rfl)) (fun hg => by (have hg1 := hg.2; exact rmv rfl))
      · exact rG rfl rfl rfl (gm (oT rfl)) (fun hg => by (have hg1 := hg.2; exact rP (pu_nilCheck_at (by exact gu (oT rfl) hg))))
      · exact rG rfl rfl rfl (gm (oT rfl)) (fun hg => by (have hg1 := hg.2; exact rP (pu_faddr_at (by exact gu (oT rfl) hg) ln2 y110)))
      · exact rG rfl rfl rfl (gm (oT rfl)) (fun hg => by (have hg1 := hg.2; exact rP (pL (by exact gu (oT rfl) hg) y111)))
      · exact rG rfl rfl rfl (gm (oT rfl)) (fun hg => by (have hg1 := hg.2; exact rmv rfl))
      · exact rG rfl rfl rfl (gm (oT rfl)) (fun hg => by (have hg1 := hg.2; exact rP (pu_index (gu (oT rfl) hg) (gu (oT rfl) hg) Tryz.underlying39 y2 (by omega) (by show ((i : Nat) : Int) < ((fromL n.v.2.2.2.1).length : Int); omega))))
      · exact rG rfl rfl rfl (gm (oT rfl)) (fun hg => by (have hg1 := hg.2; exact rP (pL (by exact gu (oT rfl) hg) y2)))
      · exact rG rfl rfl rfl (gm (oT rfl)) (fun hg => by (have hg1 := hg.2; exact rP (pu_index (gu (oT rfl) hg) (gu (oT rfl) hg) Tryz.underlying58 y2 (by rw [hfx]; omega) (by rw [hfx]; omega))))
      · exact rG rfl rfl rfl (gm (oT rfl)) (fun hg => by (have hg1 := hg.2; exact rP (pL (by exact gu (oT rfl) hg) y2)))
      · exact rG rfl rfl rfl (gm (oT rfl)) (fun hg => by (have hg1 := hg.2; exact rP (pf (oT rfl) y58)))
      · exact rG rfl rfl rfl (gm (oT rfl)) (fun hg => by (have hg1 := hg.2; exact rP (plb (by exact gu (oT rfl) hg) (by exact mA 1 rfl) le0 y2)))
      · exact rG rfl rfl rfl (gm (oT rfl)) (fun hg => by (have hg1 := hg.2; exact rP (pu_eql (by exact gu (oT rfl) hg) (by exact gu (oT rfl) hg))))
      · exact rP (pu_pick_and (oT rfl) (oT rfl))
      · exact rmv rfl
      · exact rG rfl rfl rfl (gm (oT rfl)) (fun hg => by (have hg1 := hg.2; exact rmv rfl))
      · exact rG rfl rfl rfl (gm (oT rfl)) (fun hg => by (have hg1 := hg.2; exact rmv rfl))
      · exact rG rfl rfl rfl (gm (oT rfl)) (fun hg => by (have hg1 := hg.2; exact rP (pu_nilCheck_at (by exact gu (oT rfl) hg))))
      · exact rG rfl rfl rfl (gm (oT rfl)) (fun hg => by (have hg1 := hg.2; exact rP (pu_faddr_at (by exact gu (oT rfl) hg) ln3 y112)))
      · exact rG rfl rfl rfl (gm (oT rfl)) (fun hg => by (have hg1 := hg.2; exact rP (pL (by exact gu (oT rfl) hg) y111)))
      · exact rG rfl rfl rfl (gm (oT rfl)) (fun hg => by (have hg1 := hg.2; exact rmv rfl))
      · exact rG rfl rfl rfl (gm (oT rfl)) (fun hg => by (have hg1 := hg.2; exact rP (pu_index (gu (oT rfl) hg) (gu (oT rfl) hg) Tryz.underlying39 y2 (by omega) (by show ((i : Nat) : Int) < ((toL n.v.2.2.2.1).length : Int); omega))))
      · exact rG rfl rfl rfl (gm (oT rfl)) (fun hg => by (have hg1 := hg.2; exact rP (pL (by exact gu (oT rfl) hg) y2)))
      · exact rG rfl rfl rfl (gm (oT rfl)) (fun hg => by (have hg1 := hg.2; exact rP (pu_index (gu (oT rfl) hg) (gu (oT rfl) hg) Tryz.underlying58 y2 (by rw [htx]; omega) (by rw [htx]; omega))))
      · exact rG rfl rfl rfl (gm (oT rfl)) (fun hg => by (have hg1 := hg.2; exact rP (pL (by exact gu (oT rfl) hg) y2)))
      · exact rG rfl rfl rfl (gm (oT rfl)) (fun hg => by (have hg1 := hg.2; exact rP (pf (oT rfl) y59)))
      · exact rG rfl rfl rfl (gm (oT rfl)) (fun hg => by (have hg1 := hg.2; exact rP (plb (by exact gu (oT rfl) hg) (by exact mA 1 rfl) le2 y2)))
     case h =>
      refine oG rfl rfl rfl (gm (oT rfl)) (fun hg => by (have hg1 := hg.2; (try simp only [cq2] at hg1); exact pu_eql (by exact gu (oT rfl) hg) (by exact gu (oT rfl) hg))) rfl ?_
      refine oP (pu_pick_and (oT rfl) (oT rfl)) rfl (tn (nn (tc (oT rfl) (fun c58 => ?_) (fun c58 => ?_))))
      · rw [hfx, htx, edge_eq] at c58
        have hyes : usesB n.v.2.2.2.1 k row e = true := uses_yes (i := i + 1) (by omega) (by rw [hus, c58, Bool.or_true])
        refine sq (te en (rg (ak rfl (tn (nn (tR (block_ret (tt (tt (block_ret (tt ?_)))))))))))
        exact ret_one .ret (.inl rfl) rfl () (OT.val (oT rfl) (congrArg Value.bool (hyes.symm))) trivial (by exact pn)
      · rw [hfx, htx, edge_eq] at c58
        have hno : usesB n.v.2.2.2.1 (i + 1) row e = false := by rw [hus, hin, c58]; rfl
        refine sk (bn (nn (te (ec 0 rfl (ec 2 rfl (ec 7 rfl (ec 17 rfl (ec 18 rfl (ec 19 rfl en)))))) (rg (oP (pad (oT rfl) ot (by omega)) rfl (mv rfl rfl (tn (nn ?_))))))))
        exact tg (i + 1) ⟨by omega, hno⟩ (by omega) (ea (ec 19 rfl en) (ec 0 rfl (ec 2 rfl (ec 7 rfl (ec 17 rfl (ec 18 rfl en)))))) (op (by repeat first | exact pn | refine pc 1 rfl ?_))
   · refine tr_exit (tx (tx (bh (nn (sq (te en ?_))))))
     obtain rfl : i = k := by rw [hkl] at c20; simp only [decide_eq_false_iff_not] at c20; omega
     refine rg (ak rfl (tn (nn (tR ?_))))
     exact ret_one .ret (.inl rfl) rfl () (OT.val (oT rfl) (congrArg Value.bool (hin.symm))) trivial (by exact pn)
set_option maxRecDepth 20000 in
/-- (*rhizome/net.Net).output -/
theorem output_fn (n : NO) (row : Tp) (hv : ∀ o ∈ n.v.2.2.1, ix (varsL n.v.2.2.2.1) o < row.length) (ho : n.v.2.2.1.length ≤ 1000) : Ct Tryz.prog 51 [AtT kNet (netV n), SlT kI row] ([]) Unit (fun _ => BsT (idB (proj (varsL n.v.2.2.2.1) n.v.2.2.1 row))) (fun _ => []) (fun _ => True) := by
 refine fn_intro Tryz.func51 rfl rfl ?_
 intro H w
 have hol := outL_len n.v
 refine sq (te (ec 0 rfl (ec 1 rfl en)) (rg (ak rfl (tn (nn (sq (te (ec 0 rfl (ec 1 rfl en)) (rg (ak rfl (tn (nn (sq (sq (te (ec 0 rfl (ec 1 rfl (ec 5 rfl en))) (tr_nilItem 3 kI (rg (mv rfl rfl (oP (pu_nilCheck_at (oT rfl)) rfl (oP (pu_faddr_at (oT rfl) ln4 y114) rfl (oP (pL (oT rfl) y111) rfl (tr_as 11 (T := SlT kI (outL n.v)) (oT rfl) (oP (pls (oT rfl) Tryz.underlying39) rfl (oP (pu_move ot) rfl ?_)))))))))))))))))))))))
 refine tn (nn (tb (tr_loopK (σ := Nat × Value) (ec 1 rfl (ec 11 rfl (ec 12 rfl en))) (fun s => [(13, I64 (s.1 : Int)), (5, IsV s.2)]) (fun s => [OwnI 3 kI s.2 ((n.v.2.2.1.take s.1).map (fun o => env (varsL n.v.2.2.2.1) row o))]) (fun s => s.1 ≤ n.v.2.2.1.length) (fun s => n.v.2.2.1.length - s.1) (0, nilS) (Nat.zero_le _) ?_ (op (by repeat first | exact pn | refine pc 0 rfl ?_)) ?_)))
 · exact (ec 13 rfl (ec 5 rfl en))
 · rintro ⟨i, u⟩ hi
   dsimp only at hi ⊢
   refine sq (te (ec 1 rfl (ec 5 rfl (ec 11 rfl (ec 12 rfl (ec 13 rfl en))))) (rg (oP (pu_lss (oT rfl) (oT rfl)) rfl (tn (nn (sq (tc (oT rfl) (fun c14 => ?_) (fun c14 => ?_))))))))
   · refine sk (nn (sq (tb (sq (te (ec 1 rfl (ec 5 rfl (ec 11 rfl (ec 12 rfl (ec 13 rfl en))))) ?_)))))
     have hil : i < n.v.2.2.1.length := by rw [hol] at c14; simpa using c14
     obtain ⟨o, hoo⟩ : ∃ o, at' n.v.2.2.1 (i : Int) = o := ⟨_, rfl⟩
     have hlt := hv o (by rw [← hoo]; exact at_mem hil)
     have hst := map_snoc (fun o => env (varsL n.v.2.2.2.1) row o) hil
     rw [hoo] at hst
     have hml : ((n.v.2.2.1.take i).map (fun o => env (varsL n.v.2.2.2.1) row o)).length = i := by rw [List.length_map, List.length_take]; omega
     refine rg (oP (pu_index (oT rfl) (oT rfl) Tryz.underlying39 y2 (by omega) (by omega)) rfl (oP (pL (oT rfl) y2) rfl (av rfl rfl (tn ?_))))
     rw [out_at hil, hoo]
     refine nn (te (ec 1 rfl (ec 5 rfl (ec 7 rfl (ec 11 rfl (ec 12 rfl (ec 13 rfl en)))))) (rg (mv rfl rfl (mv rfl rfl (mv rfl rfl (oP (pu_index (oT rfl) (oT rfl) Tryz.underlying58 y2 (by omega) (by omega)) rfl (oP (pL (oT rfl) y2) rfl (oA (acts_lit (d := kI) (v0 := 0) y28 y2 zI (show 1 * 1 ≤ 16777216 from by decide) (by decide) (fills_arr rfl rfl (by decide) (oT rfl) fills_nil)) pR rfl rfl (fun _ _ => ?_)))))))))
     refine oA (acts_append (oT rfl) (by exact pA 0 rfl) (oT rfl) y28 (by (simp; omega)) (by (simp [maxLen]; omega))) (by exact pA 0 rfl) rfl rfl (fun v5_6 _ => ?_)
     refine av rfl rfl (tn (bn (nn (te (ec 1 rfl (ec 5 rfl (ec 11 rfl (ec 12 rfl (ec 13 rfl en))))) (rg (oP (pad (oT rfl) ot (by omega)) rfl (mv rfl rfl (tn (nn ?_)))))))))
     exact tg (i + 1, v5_6) (by show i + 1 ≤ n.v.2.2.1.length; omega) (by show n.v.2.2.1.length - (i + 1) < n.v.2.2.1.length - i; omega) (ea (ec 13 rfl (ec 5 rfl en)) (ec 1 rfl (ec 11 rfl (ec 12 rfl en)))) (op (by rw [hst]; exact (by repeat first | exact pn | refine pc 0 rfl ?_)))
   · refine tr_exit (tx (tx (bh (nn (sq (te (ec 5 rfl en) ?_))))))
     obtain rfl : i = n.v.2.2.1.length := by rw [hol] at c14; simp only [decide_eq_false_iff_not] at c14; omega
     rw [List.take_length]
     refine tr_freeze (perm_at 0 rfl) 5 (oT rfl) (rg (mv rfl rfl (oA (aC (id_fn _ (by rw [List.length_map]; omega)) y115 (oc (oT rfl) oN) pR) pR rfl rfl (fun _ _ => ?_))))
     refine av rfl rfl (tn (nn (tR ?_)))
     exact ret_one .ret (.inl rfl) rfl () (oT rfl) trivial (by exact pn)
set_option maxRecDepth 20000 in
/-- (*rhizome/net.Net).Levels -/
theorem NLevels_fn (n : NO) (lv : List Rw) (K : Nat) (hgl : n.gl.length = K + 1) (hlv : lv.length = K + 1) (hK : K ≤ 1000) : Ct Tryz.prog 12 [AtT kNet (netV n)] (lvI n.gl lv) Unit (fun _ => SlT kI (lens lv)) (fun _ => lvI n.gl lv) (fun _ => True) := by
 refine fn_intro Tryz.func12 rfl rfl ?_
 intro H w
 have hml : ((n.gl.map mp).drop 1).length = K := by rw [List.length_drop, List.length_map]; omega
 have hll := lens_len lv
 have hml1 : ((netV n).2.2.2.2.2.2.1).length = K + 1 := by show (n.gl.map mp).length = _; rw [List.length_map]; omega
 refine sq (te (ec 0 rfl en) (rg (ak rfl (tn (nn (sq (te (ec 0 rfl en) (rg (ak rfl (tn (nn (sq (sq (te (ec 0 rfl (ec 3 rfl en)) (rg (mv rfl rfl (oP (pu_nilCheck_at (oT rfl)) rfl (oP (pu_faddr_at (oT rfl) ln6 y116) rfl (oP (pL (oT rfl) y117) rfl (oP (pu_slice_lo (oT rfl) ot Tryz.underlying71 y118 (by omega) (by omega)) rfl (tr_as 10 (T := SlT kraw ((n.gl.map mp).drop 1)) (oT rfl) (oP (pls (oT rfl) Tryz.underlying71) rfl (oP (pu_move ot) rfl ?_)))))))))))))))))))))))
 refine tn (tr_nilItem 3 kI (nn (tb (tr_loopK (σ := Nat × Value) (ec 10 rfl (ec 11 rfl en)) (fun s => [(12, I64 (s.1 : Int)), (3, IsV s.2)]) (fun s => (OwnI 3 kI s.2 ((lens lv).take s.1) :: lvI n.gl lv)) (fun s => s.1 ≤ K) (fun s => K - s.1) (0, nilS) (Nat.zero_le _) ?_ (op pl) ?_))))
 · exact (ec 12 rfl (ec 3 rfl en))
 · rintro ⟨i, u⟩ hi
   dsimp only at hi ⊢
   refine sq (te (ec 3 rfl (ec 10 rfl (ec 11 rfl (ec 12 rfl en)))) (rg (oP (pu_lss (oT rfl) (oT rfl)) rfl (tn (nn (sq (tc (oT rfl) (fun c13 => ?_) (fun c13 => ?_))))))))
   · refine sk (nn (sq (tb (sq (te (ec 3 rfl (ec 10 rfl (ec 11 rfl (ec 12 rfl en)))) ?_)))))
     have hil : i < K := by rw [hml] at c13; simpa using c13
     have hst := lens_step (lv := lv) (k := i) (by omega)
     have htl : ((lens lv).take i).length = i := by rw [List.length_take]; omega
     refine rg (oP (pu_index (oT rfl) (oT rfl) Tryz.underlying71 y118 (by omega) (by omega)) rfl (oP (pu_load_atraw (oT rfl) y118) rfl ?_))
     rw [lv_at1 (show i + 1 < n.gl.length by omega)]
     refine av rfl rfl (tn (nn (te (ec 3 rfl (ec 5 rfl (ec 10 rfl (ec 11 rfl (ec 12 rfl en))))) (rg (mv rfl rfl (mv rfl rfl (oP (pu_len_map Tryz.underlying76 (oT rfl) (List.mem_cons_of_mem _ (lvI_mem (k := i + 1) (by omega) (by omega)))) rfl (oA (acts_lit (d := kI) (v0 := 0) y68 y2 zI (show 1 * 1 ≤ 16777216 from by decide) (by decide) (fills_arr rfl rfl (by decide) (oT rfl) fills_nil)) pR rfl rfl (fun _ _ => ?_)))))))))
     refine oA (acts_append (oT rfl) (by exact pA 0 rfl) (oT rfl) y68 (by (simp; omega)) (by (simp [maxLen]; omega))) (by exact pA 0 rfl) rfl rfl (fun v5_4 _ => ?_)
     refine av rfl rfl (tn (bn (nn (te (ec 3 rfl (ec 10 rfl (ec 11 rfl (ec 12 rfl en)))) (rg (oP (pad (oT rfl) ot (by omega)) rfl (mv rfl rfl (tn (nn ?_)))))))))
     exact tg (i + 1, v5_4) (by show i + 1 ≤ K; omega) (by show K - (i + 1) < K - i; omega) (ea (ec 12 rfl (ec 3 rfl en)) (ec 10 rfl (ec 11 rfl en))) (op (by rw [hst]; exact pl))
   · refine tr_exit (tx (tx (bh (nn (sq (te (ec 3 rfl en) ?_))))))
     obtain rfl : i = K := by rw [hml] at c13; simp only [decide_eq_false_iff_not] at c13; omega
     rw [List.take_of_length_le (by omega)]
     exact tr_freeze (perm_at 0 rfl) 3 (oT rfl) (rg (mv rfl rfl (av rfl rfl (tn (nn (tR (ret_one .ret (.inl rfl) rfl () (oT rfl) trivial pl)))))))
set_option maxRecDepth 20000 in
/-- (*rhizome/net.Net).Count -/
theorem NCount_fn (n : NO) (ct : List (Lab × Int)) (t : Tp) (ht : t.length ≤ 1000) : Ct Tryz.prog 20 [AtT kNet (netV n), SlT kI t] ([MapI n.gc encS kI.T ct]) Unit (fun _ => I64 (if t.length = n.v.2.2.1.length then (lkp (idB t) ct).getD 0 else 0)) (fun _ => [MapI n.gc encS kI.T ct]) (fun _ => True) := by
 refine fn_intro Tryz.func20 rfl rfl ?_
 intro H w
 have hol := outL_len n.v
 refine sq (te (ec 0 rfl (ec 1 rfl en)) (rg (ak rfl (tn (nn (sq (sq (te (ec 0 rfl (ec 1 rfl en)) (rg (mv rfl rfl (oP (pls (oT rfl) Tryz.underlying58) rfl (mv rfl rfl (oP (pu_nilCheck_at (oT rfl)) rfl (oP (pu_faddr_at (oT rfl) ln4 y114) rfl (oP (pL (oT rfl) y111) rfl (tr_as 10 (T := SlT kI (outL n.v)) (oT rfl) (oP (pls (oT rfl) Tryz.underlying39) rfl (oP (pu_neq (oT rfl) (oT rfl)) rfl (tn (nn (tc (oT rfl) (fun c12 => ?_) (fun c12 => ?_))))))))))))))))))))))
 · try simp only [cq] at c12
   refine sq (te en (rg (ak rfl (tn (nn (tR (tt ?_)))))))
   exact ret_one .ret (.inl rfl) rfl () (OT.val (oT rfl) (congrArg (Value.int _) (by rw [if_neg (by omega)]))) trivial (by repeat first | exact pn | refine pc 0 rfl ?_)
 · try simp only [cq] at c12
   refine sk (nn (sq (te (ec 0 rfl (ec 1 rfl en)) ?_)))
   apply tr_any (m := 6) (ns := [[(0, none)], [(13, some 0)], [(14, some 1)], [(15, some 2)], [(1, none)], [(17, some 4)]]) (by kernel_rfl) (by kernel_rfl) (Ts := [_, _, _, _, _, _]) rfl
   case hops =>
    refine ⟨?_, ?_, ?_, ?_, ?_, ?_, trivial⟩
    · exact rmv rfl
    · exact rP (pu_nilCheck_at (oT rfl))
    · exact rP (pu_faddr_at (oT rfl) ln7 y119)
    · exact rP (pu_load_atraw (oT rfl) y120)
    · exact rmv rfl
    · exact rop_acts rfl (aC (id_fn _ (by omega)) y115 (oc (oT rfl) oN) pR) (fun _ _ _ _ h => h)
   case h =>
    refine oP (pu_lookup_own mkS Tryz.underlying70 zI (oT rfl) (by exact mA 0 rfl) (oT rfl)) rfl ?_
    refine av rfl rfl (tn (nn (tR ?_)))
    exact ret_one .ret (.inl rfl) rfl () (OT.val (oT rfl) (congrArg (Value.int _) (by rw [if_pos (by omega)]))) trivial (by repeat first | exact pn | refine pc 0 rfl ?_)
set_option maxRecDepth 20000 in
/-- slices.Max[[]int,int] -/
theorem Max_fn (xs : List Int) (h0 : 0 < xs.length) (hm : xs.length ≤ 1000000) : Ct Tryz.prog 34 [SlT kI xs] ([]) Unit (fun _ => I64 (maxL xs)) (fun _ => []) (fun _ => True) := by
 refine fn_intro Tryz.func34 rfl rfl ?_
 intro H w
 refine sq (te (ec 0 rfl en) (rg (ak rfl (tn (nn (sq (sq (te (ec 0 rfl en) (rg (mv rfl rfl (oP (pls (oT rfl) Tryz.underlying39) rfl (oP (pu_lss (oT rfl) ot) rfl (tn (nn (tc (oT rfl) (fun c7 => ?_) (fun c7 => ?_))))))))))))))))
 · try simp only [cq] at c7
   omega --done
 · try simp only [cq] at c7
   refine sk (nn (sq (te (ec 0 rfl en) (rg (mv rfl rfl (oP (pu_index (oT rfl) ot Tryz.underlying39 y2 (by omega) (by omega)) rfl (oP (pL (oT rfl) y2) rfl (av rfl rfl (tn (nn (sq (sq (te (ec 0 rfl (ec 3 rfl en)) (rg (ak rfl (tn (nn (tb (tr_loopK (σ := Nat) (ec 0 rfl en) (fun k => [(4, I64 (k : Int)), (3, I64 (maxL (xs.take k)))]) (fun k => []) (fun k => 1 ≤ k ∧ k ≤ xs.length) (fun k => xs.length - k) 1 ⟨Nat.le_refl _, h0⟩ ?_ (op (by exact pn)) ?_)))))))))))))))))))
   · exact (ec 4 rfl (es_cons (t := 3) (OT.val (oT rfl) (congrArg (Value.int _) (by cases xs with | nil => simp at h0 | cons x l => rfl))) en))
   · rintro k ⟨hk1, hk⟩
     refine sq (sq (te (ec 0 rfl (ec 3 rfl (ec 4 rfl en))) ?_))
     have hkl := hk
     refine rg (mv rfl rfl (mv rfl rfl (oP (pls (oT rfl) Tryz.underlying39) rfl (oP (pu_lss (oT rfl) (oT rfl)) rfl (tn (nn (tc (oT rfl) (fun c15 => ?_) (fun c15 => ?_))))))))
     · try simp only [cq] at c15
       refine sk (nn (sq (tb (te (ec 0 rfl (ec 3 rfl (ec 4 rfl en))) ?_))))
       have hst := maxL_step (l := xs) (k := k) (by omega) (by omega)
       refine rg (mv rfl rfl (mv rfl rfl (mv rfl rfl (oP (pu_index (oT rfl) (oT rfl) Tryz.underlying39 y2 (by omega) (by omega)) rfl (oP (pL (oT rfl) y2) rfl (oP (pu_max (oT rfl) (oT rfl)) rfl (av rfl rfl (tn (bn (nn (te (ec 0 rfl (ec 3 rfl (ec 4 rfl en))) (rg (mv rfl rfl (oP (pad (oT rfl) ot (by omega)) rfl (av rfl rfl (tn (nn ?_)))))))))))))))))
       exact tg (k + 1) (by omega) (by omega) (ea (ec 4 rfl (es_cons (t := 3) (OT.val (oT rfl) (congrArg (Value.int _) hst.symm)) en)) (ec 0 rfl en)) (op (by exact pn))
     · try simp only [cq] at c15
       refine tr_exit (tx (tx (bh (nn (sq (te (ec 3 rfl en) ?_))))))
       obtain rfl : k = xs.length := by omega
       rw [List.take_length]
       refine rg (mv rfl rfl (av rfl rfl (tn (nn (tR ?_)))))
       exact ret_one .ret (.inl rfl) rfl () (oT rfl) trivial (by exact pn)
end Go.Proofs.YtaahhghlpoiihaaGreatDoor
/- Walks through the Go functions net.Net).matches, as typed contracts. -/
namespace Go.Proofs.YtaahhghlpoiihaaGreatDoor
open Go Go.Gw Go.So Go.Tu Go.Jn Go.Nt
set_option linter.unusedVariables false
set_option linter.unusedSimpArgs false
theorem lkp_key {κ α : Type} [DecidableEq κ] {k : κ} {m : List (κ × α)} (h : k ∈ keys m) : ∃ v, lkp k m = some v := by
 cases e : lkp k m with
 | none => exact absurd h (lkp_none.1 e)
 | some v => exact ⟨v, rfl⟩
theorem enc_pp {N : Nat} {Γ : Env} {x : Operand} {p : Pr} (h : OT N Γ x (IsV (encP p))) : OT N Γ x (kPP.T p) := fun a H f => by
 rw [show a.eval x = encP p from h a H f]
 refine kPP.toT (cs := [.int .i64 p.1, .int .i64 p.2]) ⟨rfl, rfl, fun j x e => ?_⟩
 match j, e with
 | 0, e => cases e; rfl
 | 1, e => cases e; rfl
 | j + 2, e => simp at e
theorem match1 {x : Al} {F T i : Nat} {r : Tp} {z : Int} {zl : List Int} (h1 : F < r.length) (hz : z = r.getD F 0) (hzl : ((lkp z x.frm).getD (nilS, [])).2 = zl) (hi : i = zl.length) (p : Pr) : p ∈ (zl.take i).map (fun b => (z, b)) ↔ matchA x F T r p := by
 subst hi hz
 unfold matchA
 rw [if_pos h1, List.take_length, hzl, List.mem_map]
 constructor
 · rintro ⟨b, hb, rfl⟩; exact ⟨rfl, hb⟩
 · rintro ⟨e, hb⟩; exact ⟨p.2, hb, Prod.ext e.symm rfl⟩
theorem match2 {x : Al} {F T i : Nat} {r : Tp} {z : Int} {zl : List Int} (h1 : ¬ F < r.length) (h2 : T < r.length) (hz : z = r.getD T 0) (hzl : ((lkp z x.to).getD (nilS, [])).2 = zl) (hi : i = zl.length) (p : Pr) : p ∈ (zl.take i).map (fun b => (b, z)) ↔ matchA x F T r p := by
 subst hi hz
 unfold matchA
 rw [if_neg h1, if_pos h2, List.take_length, hzl, List.mem_map]
 constructor
 · rintro ⟨b, hb, rfl⟩; exact ⟨rfl, hb⟩
 · rintro ⟨e, hb⟩; exact ⟨p.1, hb, Prod.ext rfl e.symm⟩
theorem ran_mem {κ α : Type} [DecidableEq κ] {m : List (κ × α)} {todo out : List κ} {k : κ} (hn : todo.Nodup) (hk : k ∈ todo) (hs : ∀ k ∈ todo, k ∈ keys m) (h : ∀ p, p ∈ out ↔ p ∈ keys m ∧ p ∉ todo) (p : κ) : p ∈ out ++ [k] ↔ p ∈ keys m ∧ p ∉ ers todo k := by
 rw [List.mem_append, List.mem_singleton, h, ers_mem hn]
 constructor
 · rintro (⟨h1, h2⟩ | rfl)
   · exact ⟨h1, fun h3 => h2 h3.2⟩
   · exact ⟨hs _ hk, fun h3 => h3.1 rfl⟩
 · rintro ⟨h1, h2⟩
   by_cases e : p = k
   · exact .inr e
   · exact .inl ⟨h1, fun h3 => h2 ⟨e, h3⟩⟩
theorem match3 {x : Al} {F T : Nat} {r : Tp} {M : List Pr} (h1 : ¬ F < r.length) (h2 : ¬ T < r.length) (h : ∀ p, p ∈ M ↔ p ∈ keys x.has ∧ p ∉ []) (p : Pr) : p ∈ M ↔ matchA x F T r p := by
 unfold matchA
 rw [if_neg h1, if_neg h2, h]; simp

set_option maxRecDepth 20000 in
/-- (*rhizome/net.Net).matches -/
theorem matches_fn (n : NO) (m : AlM) (k : Nat) (row : Tp) (a : Atm) (hk : k < n.v.2.2.2.1.length) (ha : at' n.v.2.2.2.1 (k : Int) = a) (hl : Lies row.length (nv n.v.2.2.2.1 (k + 1)) (ix (varsL n.v.2.2.2.1) a.1) (ix (varsL n.v.2.2.2.1) a.2.2)) (hr : row.length ≤ 1000) (hs : (lkp a.2.1 m).isSome = true) (hb : AlB (alG m a.2.1)) : Ct Tryz.prog 50 [AtT kNet (netV n), I64 (k : Int), SlT kI row] (AlI n m) (List Pr) (fun M => SlT kPP M) (fun _ => AlI n m) (fun M => (∀ p, p ∈ M ↔ matchA (alG m a.2.1) (ix (varsL n.v.2.2.2.1) a.1) (ix (varsL n.v.2.2.2.1) a.2.2) row p) ∧ M.length ≤ 1000000) := by
 refine fn_intro Tryz.func50 rfl rfl ?_
 intro H w
 obtain ⟨x, hx⟩ : ∃ x, alG m a.2.1 = x := ⟨_, rfl⟩
 have hlk : lkp a.2.1 m = some x := by rw [← hx]; exact alG_some hs
 rw [hx] at hb ⊢
 have hfl := fromL_len n.v.2.2.2.1
 have htl := toL_len n.v.2.2.2.1
 refine sq (te (ec 0 rfl (ec 1 rfl (ec 2 rfl en))) (rg (ak rfl (tn (nn (sq (te (ec 0 rfl (ec 1 rfl (ec 2 rfl en))) ?_)))))))
 apply tr_any (m := 13) (ns := [[(0, none)], [(14, some 0)], [(15, some 1)], [(16, some 2)], [(0, none)], [(18, some 4)], [(19, some 5)], [(20, some 6)], [(21, some 7)], [(1, none)], [(22, some 8), (23, some 9)], [(24, some 10)], [(25, some 11)]]) (by kernel_rfl) (by kernel_rfl) (Ts := [_, _, _, _, _, _, _, _, _, _, _, _, _]) rfl
 case hops =>
  refine ⟨?_, ?_, ?_, ?_, ?_, ?_, ?_, ?_, ?_, ?_, ?_, ?_, ?_, trivial⟩
  · exact rmv rfl
  · exact rP (pu_nilCheck_at (oT rfl))
  · exact rP (pu_faddr_at (oT rfl) ln5 y106)
  · exact rP (pu_load_atraw (oT rfl) y107)
  · exact rmv rfl
  · exact rP (pu_nilCheck_at (oT rfl))
  · exact rP (pu_faddr_at (oT rfl) ln0 y113)
  · exact rP (pu_faddr_at (oT rfl) lv3 y39)
  · exact rP (pL (oT rfl) y40)
  · exact rmv rfl
  · exact rP (pu_index (oT rfl) (oT rfl) Tryz.underlying23 y41 (by omega) (by show ((k : Nat) : Int) < (n.v.2.2.2.1.length : Int); omega))
  · exact rP (pu_faddr_at (oT rfl) la1 y52)
  · exact rP (pL (oT rfl) y36)
 case h =>
  refine oP (pu_lookup_own mkS Tryz.underlying69 zPA (oT rfl) (by exact mA 0 rfl) (oT rfl)) rfl ?_
  refine av rfl rfl (tn (nn (sq (te (ec 0 rfl (ec 1 rfl (ec 2 rfl (ec 7 rfl en)))) ?_))))
  rw [show at' (netV n).1.2.2.2.1 (k : Int) = a from ha, ptrsA_lkp, hlk]
  refine tr_as 7 (T := AtT kAl (ptA x)) (oT rfl) (rg (ak rfl (tn (tr_nilItem 105 kPP (nn (sq (tb (sq (te (ec 0 rfl (ec 1 rfl (ec 2 rfl (ec 7 rfl (ec 8 rfl en))))) (rg (mv rfl rfl (oP (pu_nilCheck_at (oT rfl)) rfl (oP (pu_faddr_at (oT rfl) ln2 y110) rfl (oP (pL (oT rfl) y111) rfl (mv rfl rfl (oP (pu_index (oT rfl) (oT rfl) Tryz.underlying39 y2 (by omega) (by show ((k : Nat) : Int) < ((fromL n.v.2.2.2.1).length : Int); omega)) rfl ?_))))))))))))))))
  refine oP (pL (oT rfl) y2) rfl (mv rfl rfl (oP (pls (oT rfl) Tryz.underlying58) rfl ?_))
  rw [show at' (netV n).2.2.1 (k : Int) = ((ix (varsL n.v.2.2.2.1) a.1) : Int) from from_at hk ha]
  refine oP (pu_lss (oT rfl) (oT rfl)) rfl (av rfl rfl (tn (nn (tc (oT rfl) (fun c41 => ?_) (fun c41 => ?_)))))
  · have h1 : (ix (varsL n.v.2.2.2.1) a.1) < row.length := by simpa using c41
    refine tr_pickN (X := [_, _]) (at' row ((ix (varsL n.v.2.2.2.1) a.1) : Int)) (als_f hlk) (sq (te (ec 0 rfl (ec 1 rfl (ec 2 rfl (ec 7 rfl (ec 8 rfl en))))) ?_))
    apply tr_any (m := 17) (ns := [[(7, none)], [(52, some 0)], [(53, some 1)], [(54, some 2)], [(2, none)], [(0, none)], [(57, some 5)], [(58, some 6)], [(59, some 7)], [(1, none)], [(60, some 8), (61, some 9)], [(62, some 10)], [(56, some 4), (63, some 11)], [(64, some 12)], [(55, some 3), (65, some 13)], [(66, some 14)], []]) (by kernel_rfl) (by kernel_rfl) (Ts := [_, _, _, _, _, _, _, _, _, _, _, _, _, _, _, _, _]) rfl
    case hops =>
     refine ⟨?_, ?_, ?_, ?_, ?_, ?_, ?_, ?_, ?_, ?_, ?_, ?_, ?_, ?_, ?_, ?_, ?_, trivial⟩
     · exact rmv rfl
     · exact rP (pu_nilCheck_at (oT rfl))
     · exact rP (pu_faddr_at (oT rfl) lx0 y121)
     · exact rP (pu_load_atraw (oT rfl) y67)
     · exact rmv rfl
     · exact rmv rfl
     · exact rP (pu_nilCheck_at (oT rfl))
     · exact rP (pu_faddr_at (oT rfl) ln2 y110)
     · exact rP (pL (oT rfl) y111)
     · exact rmv rfl
     · exact rP (pu_index (oT rfl) (oT rfl) Tryz.underlying39 y2 (by omega) (by show ((k : Nat) : Int) < ((fromL n.v.2.2.2.1).length : Int); omega))
     · exact rP (pu_ceq (T' := I64 ((ix (varsL n.v.2.2.2.1) a.1) : Int)) (pL (oT rfl) y2) (congrArg I64 (from_at hk ha)))
     · exact rP (pu_index (oT rfl) (oT rfl) Tryz.underlying58 y2 (by omega) (by omega))
     · exact rP (pL (oT rfl) y2)
     · exact rP (pu_lookup_raw mkI Tryz.underlying79 (z0 := nilS) (by kernel_rfl) (oT rfl) (List.mem_cons_of_mem _ (List.mem_cons_of_mem _ (List.mem_cons_of_mem _ (List.mem_append_right [] (List.mem_append_right _ List.mem_cons_self))))) (oT rfl))
     · exact rP (pu_len_own (oT rfl) (by exact mA 0 rfl) Tryz.underlying39)
     · exact rP (pu_move ot)
    case h =>
     refine tn ?_
     obtain ⟨zv, hzv⟩ : ∃ v, (lkp (at' row ((ix (varsL n.v.2.2.2.1) a.1) : Int)) (hdV x.frm)).getD nilS = v := ⟨_, rfl⟩
     obtain ⟨zl, hzl⟩ : ∃ l, ((lkp (at' row ((ix (varsL n.v.2.2.2.1) a.1) : Int)) x.frm).getD (nilS, [])).2 = l := ⟨_, rfl⟩
     have hzb := hb.f (at' row ((ix (varsL n.v.2.2.2.1) a.1) : Int))
     rw [hzl] at hzb
     rw [hzv, hzl]
     refine nn (tb (tr_loopK (σ := Nat × Value) (ec 0 rfl (ec 1 rfl (ec 2 rfl (ec 66 rfl (ec 67 rfl en))))) (fun s => [(68, I64 (s.1 : Int)), (8, IsV s.2)]) (fun s => (OwnI 3 kI zv zl :: OwnI 105 kPP s.2 ((zl.take s.1).map (fun b => ((at' row ((ix (varsL n.v.2.2.2.1) a.1) : Int)), b))) :: (MapI n.ga encS (kpt kAl).T (ptrsA m) :: ((dlk (at' row ((ix (varsL n.v.2.2.2.1) a.1) : Int)) x.frm).map frI ++ (MapI x.gf encI IsV (hdV x.frm) :: MapI x.gt encI IsV (hdV x.to) :: MapI x.gh encP kbool.T x.has :: (x.to.map frI ++ alsI (dlk a.2.1 m))))))) (fun s => s.1 ≤ zl.length) (fun s => zl.length - s.1) (0, nilS) (Nat.zero_le _) ?_ (op pl) ?_))
     · exact (ec 68 rfl (ec 8 rfl en))
     · rintro ⟨i, u⟩ hi
       dsimp only at hi ⊢
       have hml : ((zl.take i).map (fun b => ((at' row ((ix (varsL n.v.2.2.2.1) a.1) : Int)), b))).length = i := by rw [List.length_map, List.length_take]; omega
       refine sq (te (ec 0 rfl (ec 1 rfl (ec 2 rfl (ec 8 rfl (ec 66 rfl (ec 67 rfl (ec 68 rfl en))))))) (rg (oP (pu_lss (oT rfl) (oT rfl)) rfl (tn (nn (sq (tc (oT rfl) (fun c69 => ?_) (fun c69 => ?_))))))))
       · refine sk (nn (sq (tb (sq (te (ec 0 rfl (ec 1 rfl (ec 2 rfl (ec 8 rfl (ec 66 rfl (ec 67 rfl (ec 68 rfl en))))))) ?_)))))
         have hil : i < zl.length := by simpa using c69
         have hst := map_snoc (fun b => ((at' row ((ix (varsL n.v.2.2.2.1) a.1) : Int)), b)) hil
         refine rg (oP (pio (oT rfl) (by exact mA 0 rfl) (oT rfl) Tryz.underlying39 y2 (by omega) (by omega)) rfl ?_)
         refine oP (plo (oT rfl) (by exact mA 0 rfl) (by omega) (by omega) y2) rfl ?_
         refine av rfl rfl (tn (nn (te (ec 0 rfl (ec 1 rfl (ec 2 rfl (ec 8 rfl (ec 10 rfl (ec 66 rfl (ec 67 rfl (ec 68 rfl en)))))))) (rg (mv rfl rfl (mv rfl rfl (mv rfl rfl (oP (pu_nilCheck_at (oT rfl)) rfl (oP (pu_faddr_at (oT rfl) ln2 y110) rfl (oP (pL (oT rfl) y111) rfl (mv rfl rfl (oP (pu_index (oT rfl) (oT rfl) Tryz.underlying39 y2 (by omega) (by show ((k : Nat) : Int) < ((fromL n.v.2.2.2.1).length : Int); omega)) rfl ?_))))))))))))
         refine oP (pL (oT rfl) y2) rfl ?_
         rw [show at' (netV n).2.2.1 (k : Int) = ((ix (varsL n.v.2.2.2.1) a.1) : Int) from from_at hk ha]
         refine oP (pu_index (oT rfl) (oT rfl) Tryz.underlying58 y2 (by omega) (by omega)) rfl (oP (pL (oT rfl) y2) rfl (mv rfl rfl (oP (pu_build_arr (d := kPP) (v0 := (0, 0)) (agg := false) Tryz.underlying105 y2 zP rfl (fills_cons rfl Lens.p0 (oT rfl) (fills_cons rfl Lens.p1 (oT rfl) fills_nil))) rfl (oA (acts_lit (d := kPP) (v0 := (0, 0)) y65 y60 zP (show 1 * 2 ≤ 16777216 from by decide) (by decide) (fills_arr rfl rfl (by decide) (oT rfl) fills_nil)) pR rfl rfl (fun _ _ => ?_)))))
         refine oA (acts_append (oT rfl) (by exact pA 1 rfl) (oT rfl) y65 (by (simp; omega)) (by (simp [maxLen]; omega))) (by exact pA 1 rfl) rfl rfl (fun v11_14 _ => ?_)
         refine av rfl rfl (tn (bn (nn (te (ec 0 rfl (ec 1 rfl (ec 2 rfl (ec 8 rfl (ec 66 rfl (ec 67 rfl (ec 68 rfl en))))))) (rg (oP (pad (oT rfl) ot (by omega)) rfl (mv rfl rfl (tn (nn ?_)))))))))
         exact tg (i + 1, v11_14) (by show i + 1 ≤ zl.length; omega) (by show zl.length - (i + 1) < zl.length - i; omega) (ea (ec 68 rfl (ec 8 rfl en)) (ec 0 rfl (ec 1 rfl (ec 2 rfl (ec 66 rfl (ec 67 rfl en)))))) (op (by rw [hst]; exact pc 1 rfl (pc 0 rfl pl)))
       · refine tr_exit (tx (tx (bh (bn (nn (sq (te (ec 8 rfl en) (tr_freeze (perm_at 1 rfl) 8 (oT rfl) (rg (mv rfl rfl (av rfl rfl (tn (nn (tR ?_))))))))))))))
         exact ret_one .ret (.inl rfl) rfl _ (oT rfl) ⟨match1 h1 rfl hzl (by simp only [decide_eq_false_iff_not] at c69; omega), by rw [hml]; omega⟩ (pc 1 rfl (picks_backN (X := []) hzv.symm hzl.symm (als_f hlk)))
  · have h1 : ¬ (ix (varsL n.v.2.2.2.1) a.1) < row.length := by simpa using c41
    refine sq (te (ec 0 rfl (ec 1 rfl (ec 2 rfl (ec 7 rfl (ec 8 rfl en))))) (rg (mv rfl rfl (oP (pu_nilCheck_at (oT rfl)) rfl (oP (pu_faddr_at (oT rfl) ln3 y112) rfl (oP (pL (oT rfl) y111) rfl (mv rfl rfl (oP (pu_index (oT rfl) (oT rfl) Tryz.underlying39 y2 (by omega) (by show ((k : Nat) : Int) < ((toL n.v.2.2.2.1).length : Int); omega)) rfl ?_))))))))
    refine oP (pL (oT rfl) y2) rfl (mv rfl rfl (oP (pls (oT rfl) Tryz.underlying58) rfl ?_))
    rw [show at' (netV n).2.2.2.1 (k : Int) = ((ix (varsL n.v.2.2.2.1) a.2.2) : Int) from to_at hk ha]
    refine oP (pu_lss (oT rfl) (oT rfl)) rfl (av rfl rfl (tn (nn (tc (oT rfl) (fun c88 => ?_) (fun c88 => ?_)))))
    · have h2 : (ix (varsL n.v.2.2.2.1) a.2.2) < row.length := by simpa using c88
      refine tr_pickN (X := [_, _]) (at' row ((ix (varsL n.v.2.2.2.1) a.2.2) : Int)) (als_t hlk) (sq (te (ec 0 rfl (ec 1 rfl (ec 2 rfl (ec 7 rfl (ec 8 rfl en))))) ?_))
      apply tr_any (m := 17) (ns := [[(7, none)], [(99, some 0)], [(100, some 1)], [(101, some 2)], [(2, none)], [(0, none)], [(104, some 5)], [(105, some 6)], [(106, some 7)], [(1, none)], [(107, some 8), (108, some 9)], [(109, some 10)], [(103, some 4), (110, some 11)], [(111, some 12)], [(102, some 3), (112, some 13)], [(113, some 14)], []]) (by kernel_rfl) (by kernel_rfl) (Ts := [_, _, _, _, _, _, _, _, _, _, _, _, _, _, _, _, _]) rfl
      case hops =>
       refine ⟨?_, ?_, ?_, ?_, ?_, ?_, ?_, ?_, ?_, ?_, ?_, ?_, ?_, ?_, ?_, ?_, ?_, trivial⟩
       · exact rmv rfl
       · exact rP (pu_nilCheck_at (oT rfl))
       · exact rP (pu_faddr_at (oT rfl) lx1 y122)
       · exact rP (pu_load_atraw (oT rfl) y67)
       · exact rmv rfl
       · exact rmv rfl
       · exact rP (pu_nilCheck_at (oT rfl))
       · exact rP (pu_faddr_at (oT rfl) ln3 y112)
       · exact rP (pL (oT rfl) y111)
       · exact rmv rfl
       · exact rP (pu_index (oT rfl) (oT rfl) Tryz.underlying39 y2 (by omega) (by show ((k : Nat) : Int) < ((toL n.v.2.2.2.1).length : Int); omega))
       · exact rP (pu_ceq (T' := I64 ((ix (varsL n.v.2.2.2.1) a.2.2) : Int)) (pL (oT rfl) y2) (congrArg I64 (to_at hk ha)))
       · exact rP (pu_index (oT rfl) (oT rfl) Tryz.underlying58 y2 (by omega) (by omega))
       · exact rP (pL (oT rfl) y2)
       · exact rP (pu_lookup_raw mkI Tryz.underlying79 (z0 := nilS) (by kernel_rfl) (oT rfl) (List.mem_cons_of_mem _ (List.mem_cons_of_mem _ (List.mem_cons_of_mem _ (List.mem_append_right [] (List.mem_append_right _ (List.mem_cons_of_mem _ List.mem_cons_self)))))) (oT rfl))
       · exact rP (pu_len_own (oT rfl) (by exact mA 0 rfl) Tryz.underlying39)
       · exact rP (pu_move ot)
      case h =>
       refine tn ?_
       obtain ⟨zv, hzv⟩ : ∃ v, (lkp (at' row ((ix (varsL n.v.2.2.2.1) a.2.2) : Int)) (hdV x.to)).getD nilS = v := ⟨_, rfl⟩
       obtain ⟨zl, hzl⟩ : ∃ l, ((lkp (at' row ((ix (varsL n.v.2.2.2.1) a.2.2) : Int)) x.to).getD (nilS, [])).2 = l := ⟨_, rfl⟩
       have hzb := hb.t (at' row ((ix (varsL n.v.2.2.2.1) a.2.2) : Int))
       rw [hzl] at hzb
       rw [hzv, hzl]
       refine nn (tb (tr_loopK (σ := Nat × Value) (ec 0 rfl (ec 1 rfl (ec 2 rfl (ec 113 rfl (ec 114 rfl en))))) (fun s => [(115, I64 (s.1 : Int)), (8, IsV s.2)]) (fun s => (OwnI 3 kI zv zl :: OwnI 105 kPP s.2 ((zl.take s.1).map (fun b => (b, (at' row ((ix (varsL n.v.2.2.2.1) a.2.2) : Int))))) :: (MapI n.ga encS (kpt kAl).T (ptrsA m) :: ((dlk (at' row ((ix (varsL n.v.2.2.2.1) a.2.2) : Int)) x.to).map frI ++ (MapI x.gf encI IsV (hdV x.frm) :: MapI x.gt encI IsV (hdV x.to) :: MapI x.gh encP kbool.T x.has :: (x.frm.map frI ++ alsI (dlk a.2.1 m))))))) (fun s => s.1 ≤ zl.length) (fun s => zl.length - s.1) (0, nilS) (Nat.zero_le _) ?_ (op pl) ?_))
       · exact (ec 115 rfl (ec 8 rfl en))
       · rintro ⟨i, u⟩ hi
         dsimp only at hi ⊢
         have hml : ((zl.take i).map (fun b => (b, (at' row ((ix (varsL n.v.2.2.2.1) a.2.2) : Int))))).length = i := by rw [List.length_map, List.length_take]; omega
         refine sq (te (ec 0 rfl (ec 1 rfl (ec 2 rfl (ec 8 rfl (ec 113 rfl (ec 114 rfl (ec 115 rfl en))))))) (rg (oP (pu_lss (oT rfl) (oT rfl)) rfl (tn (nn (sq (tc (oT rfl) (fun c116 => ?_) (fun c116 => ?_))))))))
         · refine sk (nn (sq (tb (sq (te (ec 0 rfl (ec 1 rfl (ec 2 rfl (ec 8 rfl (ec 113 rfl (ec 114 rfl (ec 115 rfl en))))))) ?_)))))
           have hil : i < zl.length := by simpa using c116
           have hst := map_snoc (fun b => (b, (at' row ((ix (varsL n.v.2.2.2.1) a.2.2) : Int)))) hil
           refine rg (oP (pio (oT rfl) (by exact mA 0 rfl) (oT rfl) Tryz.underlying39 y2 (by omega) (by omega)) rfl ?_)
           refine oP (plo (oT rfl) (by exact mA 0 rfl) (by omega) (by omega) y2) rfl ?_
           refine av rfl rfl (tn (nn (te (ec 0 rfl (ec 1 rfl (ec 2 rfl (ec 8 rfl (ec 12 rfl (ec 113 rfl (ec 114 rfl (ec 115 rfl en)))))))) (rg (mv rfl rfl (mv rfl rfl (mv rfl rfl (mv rfl rfl (oP (pu_nilCheck_at (oT rfl)) rfl (oP (pu_faddr_at (oT rfl) ln3 y112) rfl (oP (pL (oT rfl) y111) rfl (mv rfl rfl (oP (pu_index (oT rfl) (oT rfl) Tryz.underlying39 y2 (by omega) (by show ((k : Nat) : Int) < ((toL n.v.2.2.2.1).length : Int); omega)) rfl ?_)))))))))))))
           refine oP (pL (oT rfl) y2) rfl ?_
           rw [show at' (netV n).2.2.2.1 (k : Int) = ((ix (varsL n.v.2.2.2.1) a.2.2) : Int) from to_at hk ha]
           refine oP (pu_index (oT rfl) (oT rfl) Tryz.underlying58 y2 (by omega) (by omega)) rfl (oP (pL (oT rfl) y2) rfl (oP (pu_build_arr (d := kPP) (v0 := (0, 0)) (agg := false) Tryz.underlying105 y2 zP rfl (fills_cons rfl Lens.p0 (oT rfl) (fills_cons rfl Lens.p1 (oT rfl) fills_nil))) rfl (oA (acts_lit (d := kPP) (v0 := (0, 0)) y65 y60 zP (show 1 * 2 ≤ 16777216 from by decide) (by decide) (fills_arr rfl rfl (by decide) (oT rfl) fills_nil)) pR rfl rfl (fun _ _ => ?_))))
           refine oA (acts_append (oT rfl) (by exact pA 1 rfl) (oT rfl) y65 (by (simp; omega)) (by (simp [maxLen]; omega))) (by exact pA 1 rfl) rfl rfl (fun v17_14 _ => ?_)
           refine av rfl rfl (tn (bn (nn (te (ec 0 rfl (ec 1 rfl (ec 2 rfl (ec 8 rfl (ec 113 rfl (ec 114 rfl (ec 115 rfl en))))))) (rg (oP (pad (oT rfl) ot (by omega)) rfl (mv rfl rfl (tn (nn ?_)))))))))
           exact tg (i + 1, v17_14) (by show i + 1 ≤ zl.length; omega) (by show zl.length - (i + 1) < zl.length - i; omega) (ea (ec 115 rfl (ec 8 rfl en)) (ec 0 rfl (ec 1 rfl (ec 2 rfl (ec 113 rfl (ec 114 rfl en)))))) (op (by rw [hst]; exact pc 1 rfl (pc 0 rfl pl)))
         · refine tr_exit (tx (tx (bh (bn (nn (sq (te (ec 8 rfl en) (tr_freeze (perm_at 1 rfl) 8 (oT rfl) (rg (mv rfl rfl (av rfl rfl (tn (nn (tR ?_))))))))))))))
           exact ret_one .ret (.inl rfl) rfl _ (oT rfl) ⟨match2 h1 h2 rfl hzl (by simp only [decide_eq_false_iff_not] at c116; omega), by rw [hml]; omega⟩ (pc 1 rfl (picks_backN (X := []) hzv.symm hzl.symm (als_t hlk)))
    · have h2 : ¬ (ix (varsL n.v.2.2.2.1) a.2.2) < row.length := by simpa using c88
      refine tr_perm (mid_perm (X := [_, _]) (Z := []) (A := [_]) (als_h hlk)) (tr_mapx pR fun s0 => (sq (te (ec 7 rfl (ec 8 rfl en)) (rg (mv rfl rfl (oP (pu_nilCheck_at (oT rfl)) rfl (oP (pu_faddr_at (oT rfl) lx2 y108) rfl (oP (pu_load_atraw (oT rfl) y109) rfl (oA (acts_range_map Tryz.underlying80 (oT rfl) (by exact mA 0 rfl)) pR rfl rfl (fun r3_4 hr3_4 => ?_))))))))))
      refine tn (nn (tb (tr_loopK (σ := IS × List Pr × Option Pr × Value × List Pr) (ec 32 rfl en) (fun s => [(8, IsV s.2.2.2.1)]) (fun s => (RanR r3_4.1 x.gh s.1 :: RanM x.gh encP kbool.T x.has s0 :: OwnI 105 kPP s.2.2.2.1 s.2.2.2.2 :: MapI n.ga encS (kpt kAl).T (ptrsA m) :: (MapI x.gf encI IsV (hdV x.frm) :: MapI x.gt encI IsV (hdV x.to) :: (x.frm.map frI ++ x.to.map frI ++ alsI (dlk a.2.1 m))))) (fun s => RanOk x.has s0 s.1 s.2.1 s.2.2.1 ∧ (∀ p, p ∈ s.2.2.2.2 ↔ p ∈ keys x.has ∧ p ∉ s.2.1) ∧ s.2.2.2.2.length + s.2.1.length ≤ x.has.length) (fun s => s.2.1.length) (r3_4.2, keys x.has, none, nilS, []) ⟨hr3_4, fun p => by simp, by simp [keys]⟩ ?_ (op pl) ?_)))
      · exact (ec 8 rfl en)
      · rintro ⟨i, todo, cur, u, out⟩ ⟨hok, hmem, hlen⟩
        dsimp only at hok hmem hlen ⊢
        refine sq (te (ec 8 rfl (ec 32 rfl en)) (rg (oA (acts_next_map (oT rfl) (by exact mA 1 rfl) (by exact pA 0 rfl) (by assumption)) (by exact pA 0 rfl) rfl rfl (fun q4_0 hq4_0 => ?_))))
        refine oP (pu_nextm (oT rfl)) rfl (tn (nn (sq (tc (oT rfl) (fun c34 => ?_) (fun c34 => ?_)))))
        · obtain ⟨i2, o2⟩ := q4_0
          obtain ⟨key, rfl⟩ : ∃ k, o2 = some k := by
           cases o2 with
           | none => exact Bool.noConfusion c34
           | some k => exact ⟨k, rfl⟩
          dsimp only at hq4_0 c34 ⊢
          obtain ⟨hkt, hok2⟩ := hq4_0
          obtain ⟨bv, hbv⟩ := lkp_key (hok.sub _ hkt)
          have hle : (ers todo key).length = todo.length - 1 := ers_len hkt
          have hpos := List.length_pos_of_mem hkt
          have hbh := hb.h
          refine sk (nn (tb (sq (te (ec 8 rfl (ec 32 rfl en)) (rg (oP (pu_entry_map (D := IsV _) (oT rfl) (by exact mA 0 rfl) (by exact mA 1 rfl) (by assumption) (by assumption) (fun H => rfl)) rfl ?_))))))
          refine oP (pu_extract (oT rfl) rfl) rfl (tr_as 36 (T := kPP.T key) (enc_pp (oT rfl)) (oA (acts_alloc (zP)) pR rfl rfl (fun g5_2 _ => ?_)))
          refine oA (asv (oT rfl) (oT rfl) (by exact pA 0 rfl) y60) (by exact pA 0 rfl) rfl rfl (fun _ _ => ?_)
          refine tn (nn (te (ec 8 rfl (ec 13 rfl (ec 32 rfl en))) (rg (mv rfl rfl (oP (plv (oT rfl) (by exact mA 0 rfl) y60) rfl ?_)))))
          refine oA (acts_lit (d := kPP) (v0 := (0, 0)) y65 y60 zP (show 1 * 2 ≤ 16777216 from by decide) (by decide) (fills_arr rfl rfl (by decide) (oT rfl) fills_nil)) pR rfl rfl (fun _ _ => ?_)
          refine oA (acts_append (oT rfl) (by exact pA 3 rfl) (oT rfl) y65 (by (simp; omega)) (by (simp [maxLen]; omega))) (by exact pA 3 rfl) rfl rfl (fun v6_3 _ => ?_)
          refine av rfl rfl (tn (bn (nn ?_)))
          exact tg (i2, ers todo key, some key, v6_3, out ++ [key]) ⟨hok2, ran_mem hok.nd hkt hok.sub hmem, (by show (out ++ [key]).length + (ers todo key).length ≤ _; rw [List.length_append, List.length_singleton, hle]; omega)⟩ (by show (ers todo key).length < todo.length; omega) (ea (ec 8 rfl en) (ec 32 rfl en)) (op (pc 2 rfl (pc 2 rfl (pc 0 rfl (pc 1 rfl (pd pl))))))
        · obtain ⟨i2, o2⟩ := q4_0
          obtain rfl : o2 = none := by
           cases o2 with
           | none => rfl
           | some k => exact Bool.noConfusion c34
          dsimp only at hq4_0 ⊢
          obtain ⟨rfl, hok2⟩ := hq4_0
          refine tr_mapc (perm_at 1 rfl) (tr_exit (tx (tx (bh (bn (nn (sq (te (ec 8 rfl en) (tr_freeze (perm_at 2 rfl) 8 (oT rfl) (rg (mv rfl rfl (av rfl rfl (tn (nn (tR ?_)))))))))))))))
          have hbh := hb.h
          exact ret_one .ret (.inl rfl) rfl _ (oT rfl) ⟨match3 h1 h2 hmem, by omega⟩ (pc 2 rfl (picks_trans (pc 0 rfl (pd pl)) (picks_perm (als_h hlk).symm)))
abbrev eqV (g : Nat) : Value := .func (.func 60) #[] #[pt g 0]
/-- The first place of a number, or -1. -/
def IxF (x : Int) (xs : List Int) (r : Int) : Prop := (r = -1 ∧ x ∉ xs) ∨ ∃ i : Nat, i < xs.length ∧ r = (i : Int) ∧ at' xs (i : Int) = x ∧ x ∉ xs.take i
def fx (x : Int) (xs : List Int) : List Int := xs.filter fun y => decide (y ≠ x)
theorem fx_all {x : Int} {xs : List Int} (h : x ∉ xs) : fx x xs = xs := List.filter_eq_self.2 fun y hy => decide_eq_true fun e => h (e ▸ hy)
theorem fx_step {x : Int} {xs : List Int} {k : Nat} (h : k < xs.length) : fx x (xs.take (k + 1)) = if at' xs (k : Int) = x then fx x (xs.take k) else fx x (xs.take k) ++ [at' xs (k : Int)] := by
 unfold fx
 rw [List.take_succ_eq_append_getElem h, List.filter_append, at'_nat h]
 by_cases e : xs[k] = x
 · simp [e]
 · simp [e]
theorem not_step {x : Int} {xs : List Int} {k : Nat} (h : k < xs.length) (h0 : x ∉ xs.take k) (h1 : ¬ at' xs (k : Int) = x) : x ∉ xs.take (k + 1) := by
 rw [at'_nat h] at h1
 rw [List.take_succ_eq_append_getElem h, List.mem_append, List.mem_singleton]
 rintro (h2 | h2)
 · exact h0 h2
 · exact h1 h2.symm
theorem not_step' {e : Ed} {xs : List Ed} {k : Nat} (h : k < xs.length) (h0 : e ∉ xs.take k) (h1 : ¬ e = at' xs (k : Int)) : e ∉ xs.take (k + 1) := by
 rw [at'_nat h] at h1
 rw [List.take_succ_eq_append_getElem h, List.mem_append, List.mem_singleton]
 rintro (h2 | h2)
 · exact h0 h2
 · exact h1 h2
theorem at_in {e : Ed} {xs : List Ed} {k : Nat} (h : k < xs.length) (h1 : e = at' xs (k : Int)) : e ∈ xs := by
 rw [h1]; exact at_mem h
/-- What is wrong with edges that come, or go. -/
def lookG (h : Ed → Bool) (add : Bool) : List Ed → List Ed → Int
 | _, [] => 0
 | pre, e :: l => if (!add && !h e) = true then 4 else if ((add && h e) || decide (e ∈ pre)) = true then 2 else lookG h add (pre ++ [e]) l
theorem look_at {h : Ed → Bool} {add : Bool} {es : List Ed} {k : Nat} (hk : k < es.length) : lookG h add (es.take k) (es.drop k) = if (!add && !h (at' es (k : Int))) = true then 4 else if ((add && h (at' es (k : Int))) || decide (at' es (k : Int) ∈ es.take k)) = true then 2 else lookG h add (es.take (k + 1)) (es.drop (k + 1)) := by
 rw [List.drop_eq_getElem_cons hk, lookG, at'_nat hk, List.take_succ_eq_append_getElem hk]
theorem look_end {h : Ed → Bool} {add : Bool} {es : List Ed} : lookG h add (es.take es.length) (es.drop es.length) = 0 := by rw [List.drop_length, lookG]

set_option maxRecDepth 20000 in
/-- (*rhizome/net.Net).remove$1$1 -/
theorem eqx_fn (y x : Int) (g : Nat) : Ct Tryz.prog 60 [I64 y, IsV (pt g 0)] ([BlkI g 3 kI x]) Unit (fun _ => BoolT (decide (y = x))) (fun _ => [BlkI g 3 kI x]) (fun _ => True) := by
 refine fn_intro Tryz.func60 rfl rfl ?_
 intro H w
 refine sq (te (ec 0 rfl (ec 1 rfl en)) (rg (ak rfl (tn (nn (sq (te (ec 0 rfl (ec 1 rfl en)) (rg (mv rfl rfl (oP (plv (oT rfl) (by exact mA 0 rfl) y2) rfl ?_))))))))))
 refine oP (pu_eql (oT rfl) (oT rfl)) rfl (av rfl rfl (tn (nn (tR ?_))))
 exact ret_one .ret (.inl rfl) rfl () (oT rfl) trivial (by repeat first | exact pn | refine pc 0 rfl ?_)
set_option maxRecDepth 20000 in
/-- slices.IndexFunc[[]int,int] -/
theorem IndexF_fn (v : Value) (xs : List Int) (g : Nat) (x : Int) (hm : xs.length ≤ 1000000) : Ct Tryz.prog 82 [IsV v, IsV (eqV g)] ([OwnI 3 kI v xs, BlkI g 3 kI x]) Int (fun r => I64 r) (fun _ => [OwnI 3 kI v xs, BlkI g 3 kI x]) (IxF x xs) := by
 refine fn_intro Tryz.func82 rfl rfl ?_
 intro H w
 refine sq (te (ec 0 rfl (ec 1 rfl en)) (rg (ak rfl (tn (nn (sq (sq (te (ec 0 rfl (ec 1 rfl en)) (rg (mv rfl rfl (oP (pu_len_own (oT rfl) (by exact mA 0 rfl) Tryz.underlying39) rfl ?_)))))))))))
 refine oP (pu_move ot) rfl (tn (nn (tb (tr_loopK (σ := Nat) (ec 0 rfl (ec 1 rfl (ec 7 rfl en))) (fun k => [(8, I64 (k : Int))]) (fun k => [OwnI 3 kI v xs, BlkI g 3 kI x]) (fun k => k ≤ xs.length ∧ x ∉ xs.take k) (fun k => xs.length - k) 0 ⟨Nat.zero_le _, by simp⟩ ?_ (op (by repeat first | exact pn | refine pc 0 rfl ?_)) ?_))))
 · exact (ec 8 rfl en)
 · rintro k ⟨hk, hno⟩
   refine sq (te (ec 0 rfl (ec 1 rfl (ec 7 rfl (ec 8 rfl en)))) (rg (oP (pu_lss (oT rfl) (oT rfl)) rfl (tn (nn (sq (tc (oT rfl) (fun c9 => ?_) (fun c9 => ?_))))))))
   · try simp only [cq] at c9
     refine sk (nn (sq (tb (sq (te (ec 0 rfl (ec 1 rfl (ec 7 rfl (ec 8 rfl en)))) ?_)))))
     have hkl : k < xs.length := by omega
     refine rg (mv rfl rfl (av rfl rfl (tn (nn (sq (te (ec 0 rfl (ec 1 rfl (ec 5 rfl (ec 7 rfl (ec 8 rfl en))))) (rg (mv rfl rfl (mv rfl rfl (mv rfl rfl (oP (pio (oT rfl) (by exact mA 0 rfl) (oT rfl) Tryz.underlying39 y2 (by omega) (by omega)) rfl ?_)))))))))))
     refine oP (plo (oT rfl) (by exact mA 0 rfl) (by omega) (by omega) y2) rfl ?_
     refine oA (acts_callv (oT rfl) (CtV.of [pt g 0] (eqx_fn _ x g) (by kernel_rfl)) (oc (oT rfl) oN) (by exact pA 1 rfl)) (by exact pA 1 rfl) rfl rfl (fun _ _ => ?_)
     refine tn (nn (tc (oT rfl) (fun c16 => ?_) (fun c16 => ?_)))
     · try simp only [cq] at c16
       refine sq (te (ec 5 rfl en) (rg (mv rfl rfl (av rfl rfl (tn (nn (tR (block_ret (tt (tt (block_ret (tt ?_))))))))))))
       exact ret_one .ret (.inl rfl) rfl (k : Int) (oT rfl) (.inr ⟨k, hkl, rfl, c16, hno⟩) (by repeat first | exact pn | refine pc 0 rfl ?_ | refine pc 1 rfl ?_)
     · try simp only [cq] at c16
       have hst := not_step hkl hno c16
       refine sk (bn (nn (te (ec 0 rfl (ec 1 rfl (ec 7 rfl (ec 8 rfl en)))) (rg (oP (pad (oT rfl) ot (by omega)) rfl (mv rfl rfl (tn (nn ?_))))))))
       exact tg (k + 1) ⟨by omega, hst⟩ (by omega) (ea (ec 8 rfl en) (ec 0 rfl (ec 1 rfl (ec 7 rfl en)))) (op (by repeat first | exact pn | refine pc 0 rfl ?_ | refine pc 1 rfl ?_))
   · try simp only [cq] at c9
     refine tr_exit (tx (tx (bh (nn (sq (te en ?_))))))
     obtain rfl : k = xs.length := by omega
     rw [List.take_length] at hno
     refine rg (ak rfl (tn (nn (tR ?_))))
     exact ret_one .ret (.inl rfl) rfl (-1) (oT rfl) (.inl ⟨rfl, hno⟩) (by repeat first | exact pn | refine pc 0 rfl ?_)
set_option maxRecDepth 20000 in
/-- slices.DeleteFunc[[]int,int] -/
theorem DeleteF_fn (v : Value) (xs : List Int) (g : Nat) (x : Int) (hm : xs.length ≤ 1000000) : Ct Tryz.prog 59 [IsV v, IsV (eqV g)] ([OwnI 3 kI v xs, BlkI g 3 kI x]) Value (fun u => IsV u) (fun u => [OwnI 3 kI u (fx x xs), BlkI g 3 kI x]) (fun _ => True) := by
 refine fn_intro Tryz.func59 rfl rfl ?_
 intro H w
 refine sq (te (ec 0 rfl (ec 1 rfl en)) (rg (ak rfl (tn (nn (sq (te (ec 0 rfl (ec 1 rfl en)) (rg (mv rfl rfl (mv rfl rfl (oA (aC (IndexF_fn _ _ _ _ (by omega)) y123 (oc (oT rfl) (oc (oT rfl) oN)) (perm2_at 0 0 rfl rfl)) (perm2_at 0 0 rfl rfl) rfl rfl (fun r1_2 hr1_2 => ?_))))))))))))
 refine av rfl rfl (tn (nn (sq (sq (te (ec 0 rfl (ec 1 rfl (ec 5 rfl en))) (rg (mv rfl rfl (oP (pu_eql (oT rfl) ot) rfl (tn (nn (tc (oT rfl) (fun c12 => ?_) (fun c12 => ?_))))))))))))
 · try simp only [cq] at c12
   have hall : fx x xs = xs := fx_all (by
    rcases hr1_2 with ⟨_, h⟩ | ⟨i, _, h, _⟩
    · exact h
    · omega)
   refine sq (te (ec 0 rfl en) (rg (mv rfl rfl (av rfl rfl (tn (nn (tR (tt ?_))))))))
   exact ret_one .ret (.inl rfl) rfl v (oT rfl) trivial (by rw [hall]; exact (by repeat first | exact pn | refine pc 0 rfl ?_))
 · try simp only [cq] at c12
   obtain ⟨i0, hi0, rfl, hix, hi1⟩ : ∃ i : Nat, i < xs.length ∧ r1_2 = (i : Int) ∧ at' xs (i : Int) = x ∧ x ∉ xs.take i := by
    rcases hr1_2 with ⟨h, _⟩ | h
    · exact absurd h c12
    · exact h
   refine sk (nn (sq (sq (te (ec 0 rfl (ec 1 rfl (ec 5 rfl en))) ?_))))
   have hst0 := fx_step (x := x) hi0
   rw [if_pos hix, fx_all hi1] at hst0
   refine rg (mv rfl rfl (oP (pad (oT rfl) ot (by omega)) rfl (av rfl rfl (tn (nn (tb (tr_loopK (σ := Nat × Nat × List Int) (ec 0 rfl (ec 1 rfl en)) (fun s => [(6, I64 (s.1 : Int)), (5, I64 (s.2.1 : Int))]) (fun s => [OwnI 3 kI v s.2.2, BlkI g 3 kI x]) (fun s => s.2.1 < s.1 ∧ s.1 ≤ xs.length ∧ s.2.2.length = xs.length ∧ s.2.2.take s.2.1 = fx x (xs.take s.1) ∧ s.2.2.drop s.1 = xs.drop s.1) (fun s => xs.length - s.1) (i0 + 1, i0, xs) ⟨Nat.lt_succ_self _, hi0, rfl, hst0.symm, rfl⟩ ?_ (op (by repeat first | exact pn | refine pc 0 rfl ?_)) ?_)))))))
   · exact (ec 6 rfl (ec 5 rfl en))
   · rintro ⟨j, i, ys⟩ ⟨hij, hj, hyl, hyt, hyd⟩
     dsimp only at hij hj hyl hyt hyd ⊢
     refine sq (sq (te (ec 0 rfl (ec 1 rfl (ec 5 rfl (ec 6 rfl en)))) (rg (mv rfl rfl (mv rfl rfl (oP (pu_len_own (oT rfl) (by exact mA 0 rfl) Tryz.underlying39) rfl ?_))))))
     refine oP (pu_lss (oT rfl) (oT rfl)) rfl (tn (nn (tc (oT rfl) (fun c19 => ?_) (fun c19 => ?_))))
     · try simp only [cq] at c19
       refine sk (nn (sq (tb (sq (te (ec 0 rfl (ec 1 rfl (ec 5 rfl (ec 6 rfl en)))) ?_)))))
       have hjl : j < xs.length := by omega
       have hy : at' ys (j : Int) = at' xs (j : Int) := drop_at' hyd (Nat.le_refl _) (by omega) hjl
       have hst := fx_step (x := x) hjl
       refine rg (mv rfl rfl (mv rfl rfl (oP (pio (oT rfl) (by exact mA 0 rfl) (oT rfl) Tryz.underlying39 y2 (by omega) (by omega)) rfl ?_)))
       refine oP (plo (oT rfl) (by exact mA 0 rfl) (by omega) (by omega) y2) rfl ?_
       refine av rfl rfl (tn ?_)
       rw [hy]
       refine nn (sq (te (ec 0 rfl (ec 1 rfl (ec 5 rfl (ec 6 rfl (ec 7 rfl en))))) (rg (mv rfl rfl (mv rfl rfl (oA (acts_callv (oT rfl) (CtV.of [pt g 0] (eqx_fn _ x g) (by kernel_rfl)) (oc (oT rfl) oN) (by exact pA 1 rfl)) (by exact pA 1 rfl) rfl rfl (fun _ _ => ?_)))))))
       refine oP (pu_not (oT rfl)) rfl (tn (nn (tc (oT rfl) (fun c29 => ?_) (fun c29 => ?_))))
       · try simp only [cq] at c29
         rw [if_neg c29] at hst
         refine sq (te (ec 0 rfl (ec 1 rfl (ec 5 rfl (ec 6 rfl (ec 7 rfl en))))) (rg (mv rfl rfl (mv rfl rfl (mv rfl rfl (oP (pio (oT rfl) (by exact mA 1 rfl) (oT rfl) Tryz.underlying39 y2 (by omega) (by omega)) rfl ?_))))))
         refine oA (acts_store_own0 (oT rfl) (oT rfl) (by exact pA 1 rfl) (by omega) (by omega) y2) (by exact pA 1 rfl) rfl rfl (fun _ _ => ?_)
         refine tn (nn (te (ec 0 rfl (ec 1 rfl (ec 5 rfl (ec 6 rfl en)))) (rg (mv rfl rfl (oP (pad (oT rfl) ot (by omega)) rfl (av rfl rfl (tn (bn (nn (te (ec 0 rfl (ec 1 rfl (ec 5 rfl (ec 6 rfl en)))) (rg (mv rfl rfl (oP (pad (oT rfl) ot (by omega)) rfl (av rfl rfl (tn (nn ?_))))))))))))))))
         exact tg (j + 1, i + 1, ys.set i (at' xs (j : Int))) ⟨(by show i + 1 < j + 1; omega), (by show j + 1 ≤ xs.length; omega), (by show (ys.set i _).length = _; rw [List.length_set]; exact hyl), (by show (ys.set i _).take (i + 1) = fx x (xs.take (j + 1)); rw [hst, ← hyt]; exact set_take (by omega)), (by show (ys.set i _).drop (j + 1) = xs.drop (j + 1); rw [List.drop_set, if_pos (by omega)]; exact drop_more hyd (by omega))⟩ (by show xs.length - (j + 1) < xs.length - j; omega) (ea (ec 6 rfl (ec 5 rfl en)) (ec 0 rfl (ec 1 rfl en))) (op (by repeat first | exact pn | refine pc 0 rfl ?_))
       · try simp only [cq] at c29
         rw [if_pos c29] at hst
         refine sk (bn (nn (te (ec 0 rfl (ec 1 rfl (ec 5 rfl (ec 6 rfl en)))) (rg (mv rfl rfl (oP (pad (oT rfl) ot (by omega)) rfl (av rfl rfl (tn (nn ?_)))))))))
         exact tg (j + 1, i, ys) ⟨(by show i < j + 1; omega), (by show j + 1 ≤ xs.length; omega), hyl, (by show ys.take i = fx x (xs.take (j + 1)); rw [hst]; exact hyt), (by show ys.drop (j + 1) = xs.drop (j + 1); exact drop_more hyd (by omega))⟩ (by show xs.length - (j + 1) < xs.length - j; omega) (ea (ec 6 rfl (ec 5 rfl en)) (ec 0 rfl (ec 1 rfl en))) (op (by repeat first | exact pn | refine pc 0 rfl ?_ | refine pc 1 rfl ?_))
     · try simp only [cq] at c19
       refine tr_exit (tx (tx (bh (nn (sq (te (ec 0 rfl (ec 5 rfl en)) ?_))))))
       obtain rfl : j = xs.length := by omega
       rw [List.take_length] at hyt
       refine rg (mv rfl rfl (mv rfl rfl (oP (pu_cut_own (oT rfl) (by exact mA 0 rfl) (oT rfl) Tryz.underlying39 y2 (by omega) (by omega)) rfl ?_)))
       refine oA (acts_clear_cut (d := kI) (v0 := 0) (oT rfl) (by exact pA 0 rfl) Tryz.underlying39 y2 zI (show 0 < 1 from by decide) (by omega)) (by exact pA 0 rfl) rfl rfl (fun _ _ => ?_)
       refine tn (nn (sq (te (ec 0 rfl (ec 5 rfl en)) (rg (mv rfl rfl (mv rfl rfl (oA (acts_slice_own_hi (oT rfl) (by exact pA 0 rfl) (oT rfl) Tryz.underlying39 y2 (by omega) (by (simp; omega))) (by exact pA 0 rfl) rfl rfl (fun v12_2 _ => ?_))))))))
       refine av rfl rfl (tn (nn (tR ?_)))
       exact ret_one .ret (.inl rfl) rfl _ (oT rfl) trivial (by rw [← hyt]; simp only [Int.toNat_natCast]; rw [cut_take (by omega)]; exact (by repeat first | exact pn | refine pc 0 rfl ?_))
set_option maxRecDepth 20000 in
/-- (*rhizome/net.Net).remove$1 -/
theorem drop_fn (v : Value) (xs : List Int) (x : Int) (hm : xs.length ≤ 1000000) : Ct Tryz.prog 58 [IsV v, I64 x] ([OwnI 3 kI v xs]) Value (fun u => IsV u) (fun u => [OwnI 3 kI u (fx x xs)]) (fun _ => True) := by
 refine fn_intro Tryz.func58 rfl rfl ?_
 intro H w
 refine sq (te (ec 0 rfl (ec 1 rfl en)) (rg (oA (acts_box (d := kI) (oT rfl)) pR rfl rfl (fun g0_0 _ => ?_))))
 refine ak rfl (tn (nn (sq (te (ec 0 rfl (ec 3 rfl en)) (rg (mv rfl rfl (oP (pu_makeFunc (caps_cons (oT rfl) caps_nil)) rfl (oA (aC (DeleteF_fn v xs g0_0 x (by omega)) y124 (oc (oT rfl) (oc (oT rfl) oN)) (perm2_at 1 0 rfl rfl)) (perm2_at 1 0 rfl rfl) rfl rfl (fun v1_2 _ => ?_)))))))))
 refine av rfl rfl (tn (nn (tR ?_)))
 exact ret_one .ret (.inl rfl) rfl v1_2 (oT rfl) trivial (by repeat first | exact pn | refine pc 0 rfl ?_)
set_option maxRecDepth 20000 in
/-- slices.Index[[]rhizome/api.Edge,rhizome/api.Edge] -/
theorem IndexE_fn (es : List Ed) (e : Ed) (hm : es.length ≤ 1000000) : Ct Tryz.prog 81 [SlT kE es, kE.T e] ([]) Int (fun r => I64 r) (fun _ => []) (fun r => decide (0 ≤ r) = decide (e ∈ es)) := by
 refine fn_intro Tryz.func81 rfl rfl ?_
 intro H w
 refine sq (te (ec 0 rfl (ec 1 rfl en)) (rg (oA (acts_box (d := kE) (oT rfl)) pR rfl rfl (fun g0_0 _ => ?_))))
 refine ak rfl (tn (nn (sq (sq (te (ec 0 rfl (ec 3 rfl en)) (rg (mv rfl rfl (oP (pls (oT rfl) Tryz.underlying26) rfl (oP (pu_move ot) rfl (tn (nn (tb (tr_loopK (σ := Nat) (ec 0 rfl (ec 3 rfl (ec 7 rfl en))) (fun k => [(8, I64 (k : Int))]) (fun k => [BlkI g0_0 54 kE e]) (fun k => k ≤ es.length ∧ e ∉ es.take k) (fun k => es.length - k) 0 ⟨Nat.zero_le _, by simp⟩ ?_ (op (by repeat first | exact pn | refine pc 0 rfl ?_)) ?_)))))))))))))
 · exact (ec 8 rfl en)
 · rintro k ⟨hk, hno⟩
   refine sq (te (ec 0 rfl (ec 3 rfl (ec 7 rfl (ec 8 rfl en)))) (rg (oP (pu_lss (oT rfl) (oT rfl)) rfl (tn (nn (sq (tc (oT rfl) (fun c9 => ?_) (fun c9 => ?_))))))))
   · try simp only [cq] at c9
     refine sk (nn (sq (tb (sq (te (ec 0 rfl (ec 3 rfl (ec 7 rfl (ec 8 rfl en)))) ?_)))))
     have hkl : k < es.length := by omega
     refine rg (mv rfl rfl (av rfl rfl (tn (nn (sq (te (ec 0 rfl (ec 3 rfl (ec 5 rfl (ec 7 rfl (ec 8 rfl en))))) ?_))))))
     apply tr_any (m := 5) (ns := [[(3, none)], [(0, none)], [(5, none)], [(12, some 1), (13, some 2)], [(14, some 3)]]) (by kernel_rfl) (by kernel_rfl) (Ts := [_, _, _, _, _]) rfl
     case hops =>
      refine ⟨?_, ?_, ?_, ?_, ?_, trivial⟩
      · exact rP (plv (oT rfl) (by exact mA 0 rfl) y56)
      · exact rmv rfl
      · exact rmv rfl
      · exact rP (pu_index (oT rfl) (oT rfl) Tryz.underlying26 y56 (by omega) (by omega))
      · exact rP (pL (oT rfl) y56)
     case h =>
      refine oP (pu_eq_of eqEd (oT rfl) (oT rfl)) rfl (tn (nn (tc (oT rfl) (fun c16 => ?_) (fun c16 => ?_))))
      · try simp only [cq] at c16
        refine sq (te (ec 5 rfl en) (rg (mv rfl rfl (av rfl rfl (tn (nn (tR (block_ret (tt (tt (block_ret (tt ?_))))))))))))
        exact ret_one .ret (.inl rfl) rfl (k : Int) (oT rfl) (by rw [decide_eq_true (at_in hkl c16), decide_eq_true (by omega)]) (by exact pn)
      · try simp only [cq] at c16
        have hst := not_step' hkl hno c16
        refine sk (bn (nn (te (ec 0 rfl (ec 3 rfl (ec 7 rfl (ec 8 rfl en)))) (rg (oP (pad (oT rfl) ot (by omega)) rfl (mv rfl rfl (tn (nn ?_))))))))
        exact tg (k + 1) ⟨by omega, hst⟩ (by omega) (ea (ec 8 rfl en) (ec 0 rfl (ec 3 rfl (ec 7 rfl en)))) (op (by repeat first | exact pn | refine pc 0 rfl ?_))
   · try simp only [cq] at c9
     refine tr_exit (tx (tx (bh (nn (sq (te en ?_))))))
     obtain rfl : k = es.length := by omega
     rw [List.take_length] at hno
     refine rg (ak rfl (tn (nn (tR ?_))))
     exact ret_one .ret (.inl rfl) rfl (-1) (oT rfl) (by rw [decide_eq_false hno]; rfl) (by exact pn)
set_option maxRecDepth 20000 in
/-- slices.Contains[[]rhizome/api.Edge,rhizome/api.Edge] -/
theorem ContainsE_fn (es : List Ed) (e : Ed) (hm : es.length ≤ 1000000) : Ct Tryz.prog 57 [SlT kE es, kE.T e] ([]) Unit (fun _ => BoolT (decide (e ∈ es))) (fun _ => []) (fun _ => True) := by
 refine fn_intro Tryz.func57 rfl rfl ?_
 intro H w
 refine sq (te (ec 0 rfl (ec 1 rfl en)) (rg (oA (acts_box (d := kE) (oT rfl)) pR rfl rfl (fun g0_0 _ => ?_))))
 refine ak rfl (tn (nn (sq (te (ec 0 rfl (ec 3 rfl en)) (rg (mv rfl rfl (oP (plv (oT rfl) (by exact mA 0 rfl) y56) rfl ?_)))))))
 refine oA (aC (IndexE_fn _ _ (by omega)) y125 (oc (oT rfl) (oc (oT rfl) oN)) pR) pR rfl rfl (fun r1_2 hr1_2 => ?_)
 refine oP (pu_geq (oT rfl) ot) rfl (av rfl rfl (tn (nn (tR ?_))))
 exact ret_one .ret (.inl rfl) rfl () (OT.val (oT rfl) (congrArg Value.bool (hr1_2))) trivial (by exact pn)
set_option maxRecDepth 20000 in
/-- rhizome/rhizomelaw12.has -/
theorem lhas_fn (es : List Ed) (e : Ed) (hm : es.length ≤ 1000000) : Ct Tryz.prog 21 [SlT kE es, kE.T e] ([]) Unit (fun _ => BoolT (decide (e ∈ es))) (fun _ => []) (fun _ => True) := by
 refine fn_intro Tryz.func21 rfl rfl ?_
 intro H w
 refine sq (te (ec 0 rfl (ec 1 rfl en)) (rg (oA (acts_box (d := kE) (oT rfl)) pR rfl rfl (fun g0_0 _ => ?_))))
 refine ak rfl (tn (nn (sq (sq (te (ec 0 rfl (ec 3 rfl en)) (rg (mv rfl rfl (oP (pls (oT rfl) Tryz.underlying26) rfl (oP (pu_move ot) rfl (tn (nn (tb (tr_loopK (σ := Nat) (ec 3 rfl (ec 7 rfl (ec 8 rfl en))) (fun k => [(9, I64 (k : Int))]) (fun k => [BlkI g0_0 54 kE e]) (fun k => k ≤ es.length ∧ e ∉ es.take k) (fun k => es.length - k) 0 ⟨Nat.zero_le _, by simp⟩ ?_ (op (by repeat first | exact pn | refine pc 0 rfl ?_)) ?_)))))))))))))
 · exact (ec 9 rfl en)
 · rintro k ⟨hk, hno⟩
   refine sq (te (ec 3 rfl (ec 7 rfl (ec 8 rfl (ec 9 rfl en)))) (rg (oP (pu_lss (oT rfl) (oT rfl)) rfl (tn (nn (sq (tc (oT rfl) (fun c10 => ?_) (fun c10 => ?_))))))))
   · try simp only [cq] at c10
     refine sk (nn (sq (tb (sq (te (ec 3 rfl (ec 7 rfl (ec 8 rfl (ec 9 rfl en)))) ?_)))))
     have hkl : k < es.length := by omega
     refine rg (oP (pu_index (oT rfl) (oT rfl) Tryz.underlying26 y56 (by omega) (by omega)) rfl (oP (pL (oT rfl) y56) rfl (oA (acts_alloc (zE)) pR rfl rfl (fun g3_2 _ => ?_))))
     refine oA (asv (oT rfl) (oT rfl) (by exact pA 0 rfl) y56) (by exact pA 0 rfl) rfl rfl (fun _ _ => ?_)
     refine tn (nn (sq (te (ec 3 rfl (ec 6 rfl (ec 7 rfl (ec 8 rfl (ec 9 rfl en))))) (rg (oP (plv (oT rfl) (by exact mA 0 rfl) y56) rfl ?_)))))
     refine oP (plv (oT rfl) (by exact mA 1 rfl) y56) rfl ?_
     refine oP (pu_eq_of eqEd (oT rfl) (oT rfl)) rfl (tn (nn (tc (oT rfl) (fun c15 => ?_) (fun c15 => ?_))))
     · try simp only [cq] at c15
       have hin := at_in hkl c15.symm
       refine sq (te en (rg (ak rfl (tn (nn (tR (block_ret (tt (tt (block_ret (tt ?_)))))))))))
       exact ret_one .ret (.inl rfl) rfl () (OT.val (oT rfl) (congrArg Value.bool ((decide_eq_true hin).symm))) trivial (by exact pn)
     · try simp only [cq] at c15
       have hst := not_step' hkl hno (fun h => c15 h.symm)
       refine sk (bn (nn (te (ec 3 rfl (ec 7 rfl (ec 8 rfl (ec 9 rfl en)))) (rg (oP (pad (oT rfl) ot (by omega)) rfl (mv rfl rfl (tn (nn ?_))))))))
       exact tg (k + 1) ⟨by omega, hst⟩ (by omega) (ea (ec 9 rfl en) (ec 3 rfl (ec 7 rfl (ec 8 rfl en)))) (op (by repeat first | exact pn | refine pc 1 rfl ?_))
   · try simp only [cq] at c10
     refine tr_exit (tx (tx (bh (nn (sq (te en ?_))))))
     obtain rfl : k = es.length := by omega
     rw [List.take_length] at hno
     refine rg (ak rfl (tn (nn (tR ?_))))
     exact ret_one .ret (.inl rfl) rfl () (OT.val (oT rfl) (congrArg Value.bool ((decide_eq_false hno).symm))) trivial (by exact pn)
end Go.Proofs.YtaahhghlpoiihaaGreatDoor
/- Walks through the Go functions net.Net).look, net.Net).insert$1, net.Net).Read, as typed contracts. -/
namespace Go.Proofs.YtaahhghlpoiihaaGreatDoor
open Go Go.Gw Go.So Go.Tu Go.Jn Go.Nt
set_option linter.unusedVariables false
set_option linter.unusedSimpArgs false
theorem grow_len {r s : Tp} {m f t : Nat} {p : Pr} (hl : Lies r.length m f t) (h : growT f t r p = some s) : s.length ≤ r.length + 2 := by
 have h1 := ((grow_iff hl).1 h).1
 have q1 := hl.f1; have q2 := hl.t1; have q3 := hl.t2; have q4 := hl.m1; have q5 := hl.m2; have q6 := hl.m3; have q7 := hl.m4
 by_cases c1 : f < r.length
 · by_cases c2 : t < r.length
   · have := q4 c1 c2; omega
   · have := q5 c1 (by have := q3 c1; omega); omega
 · by_cases c2 : t ≤ r.length
   · have := q6 (by omega) c2; omega
   · have := q7 (by omega) (by omega); omega
theorem read_step {os M : List Tp} {todo : List Lab} {t : Tp} (hin : ∀ t ∈ os, InT t ∧ t.length ≤ 22) (hn : todo.Nodup) (ht : t ∈ os) (hk : idB t ∈ todo) (h : ∀ u, u ∈ M ↔ u ∈ os ∧ idB u ∉ todo) (u : Tp) : u ∈ M ++ [t] ↔ u ∈ os ∧ idB u ∉ ers todo (idB t) := by
 rw [List.mem_append, List.mem_singleton, h, ers_mem hn]
 constructor
 · rintro (⟨h1, h2⟩ | rfl)
   · exact ⟨h1, fun h3 => h2 h3.2⟩
   · exact ⟨ht, fun h3 => h3.1 rfl⟩
 · rintro ⟨h1, h2⟩
   by_cases e : idB u = idB t
   · exact .inr (idB_inj (hin u h1).1 (hin t ht).1 e)
   · exact .inl ⟨h1, fun h3 => h2 ⟨e, h3⟩⟩
theorem read_done {os M : List Tp} (h : ∀ u, u ∈ M ↔ u ∈ os ∧ idB u ∉ ([] : List Lab)) : setR M = setR os := by
 refine rises_unique (setR_spec M).1 (setR_spec os).1 fun x => ?_
 rw [(setR_spec M).2, (setR_spec os).2, h]; simp

set_option maxRecDepth 20000 in
/-- (*rhizome/net.Net).look -/
theorem look_fn (n : NO) (m : AlM) (es : List Ed) (add : Bool) (hm : es.length ≤ 1000000) : Ct Tryz.prog 32 [AtT kNet (netV n), SlT kE es, BoolT add] (AlI n m) Unit (fun _ => I64 (lookG (hasA m) add [] es)) (fun _ => AlI n m) (fun _ => True) := by
 refine fn_intro Tryz.func32 rfl rfl ?_
 intro H w
 refine sq (te (ec 0 rfl (ec 1 rfl (ec 2 rfl en))) (rg (ak rfl (tn (nn (sq (sq (te (ec 0 rfl (ec 1 rfl (ec 2 rfl en))) (rg (mv rfl rfl (oP (pls (oT rfl) Tryz.underlying26) rfl (oP (pu_move ot) rfl (tn (nn (tb (tr_loopK (σ := Nat) (ec 0 rfl (ec 1 rfl (ec 2 rfl (ec 9 rfl (ec 10 rfl en))))) (fun k => [(11, I64 (k : Int))]) (fun k => AlI n m) (fun k => k ≤ es.length ∧ lookG (hasA m) add (es.take k) (es.drop k) = lookG (hasA m) add [] es) (fun k => es.length - k) 0 ⟨Nat.zero_le _, rfl⟩ ?_ (op pl) ?_))))))))))))))))
 · exact (ec 11 rfl en)
 · rintro k ⟨hk, hin⟩
   refine sq (te (ec 0 rfl (ec 1 rfl (ec 2 rfl (ec 9 rfl (ec 10 rfl (ec 11 rfl en)))))) (rg (oP (pu_lss (oT rfl) (oT rfl)) rfl (tn (nn (sq (tc (oT rfl) (fun c12 => ?_) (fun c12 => ?_))))))))
   · refine sk (nn (sq (tb (sq (te (ec 0 rfl (ec 1 rfl (ec 2 rfl (ec 9 rfl (ec 10 rfl (ec 11 rfl en)))))) ?_)))))
     have hkl : k < es.length := by simpa using c12
     obtain ⟨e, hee⟩ : ∃ e, at' es (k : Int) = e := ⟨_, rfl⟩
     have hst := look_at (h := hasA m) (add := add) hkl
     rw [hee] at hst
     refine rg (mv rfl rfl (oP (pu_index (oT rfl) (oT rfl) Tryz.underlying26 y56 (by omega) (by omega)) rfl (oP (pL (oT rfl) y56) rfl (oA (acts_alloc (zE)) pR rfl rfl (fun g3_3 _ => ?_)))))
     refine av rfl rfl (oA (asv (oT rfl) (oT rfl) (by exact pA 0 rfl) y56) (by exact pA 0 rfl) rfl rfl (fun _ _ => ?_))
     refine tn ?_
     rw [hee]
     refine nn (sq (sq (te (ec 0 rfl (ec 1 rfl (ec 2 rfl (ec 7 rfl (ec 8 rfl (ec 9 rfl (ec 10 rfl (ec 11 rfl en)))))))) (rg (mv rfl rfl (oP (pu_not (oT rfl)) rfl (mv rfl rfl (oG rfl rfl rfl (gm (oT rfl)) (fun hg => by (have hg1 := hg.2; (try simp only [cq2] at hg1); exact pu_move (oT rfl))) rfl ?_))))))))
     refine oG rfl rfl rfl (gm (oT rfl)) (fun hg => by (have hg1 := hg.2; (try simp only [cq2] at hg1); exact plv (oT rfl) (by exact mA 0 rfl) y56)) rfl ?_
     refine op_gu_same rfl rfl rfl (gm (oT rfl)) (perm_tail (X := [_])) (fun hg => aC (has_fn n m e) y126 (oc (gu (oT rfl) hg) (oc (gu (oT rfl) hg) oN)) (perm_tail (X := [_]))) rfl (oG rfl rfl rfl (gm (oT rfl)) (fun hg => by (have hg1 := hg.2; (try simp only [cq2] at hg1); exact pu_not (by exact gu (oT rfl) hg))) rfl ?_)
     refine oP (pu_pick_and (oT rfl) (oT rfl)) rfl (tn (nn (tc (oT rfl) (fun c23 => ?_) (fun c23 => ?_))))
     · rw [if_pos c23] at hst
       exact sq (te en (rg (ak rfl (tn (nn (tR (tt (block_ret (tt (tt (block_ret (tt (ret_one .ret (.inl rfl) rfl () (OT.val (oT rfl) (congrArg (Value.int _) (hst.symm.trans hin))) trivial (pd pl))))))))))))))
     · rw [if_neg (by rw [c23]; decide)] at hst
       refine sk (nn (sq (te (ec 0 rfl (ec 1 rfl (ec 2 rfl (ec 7 rfl (ec 8 rfl (ec 9 rfl (ec 10 rfl (ec 11 rfl en)))))))) ?_)))
       apply tr_anyW (p := 4) (Lf := fun c => cond c (BlkI g3_3 54 kE e :: AlI n m) (BlkI g3_3 54 kE e :: AlI n m)) (by kernel_rfl) (m := 11) (ns := [[(2, none)], [(24, some 0)], [(0, none), (25, some 1)], [(8, none), (25, some 1)], [(25, some 1), (26, some 2), (27, some 3)], [(25, some 1), (28, some 4)], [(29, some 5)], [(1, none), (30, some 6)], [(7, none), (30, some 6)], [(30, some 6), (31, some 7), (32, some 8)], [(8, none), (30, some 6)]]) (by kernel_rfl) (by kernel_rfl) (Ts := [_, _, _, _, _, _, _, _, _, _, _]) rfl
       case hops =>
        refine ⟨?_, ?_, ?_, ?_, ?_, ?_, ?_, ?_, ?_, ?_, ?_, trivial⟩
        · exact cAf (by kernel_rfl) fun _ => rw_ (rmv rfl)
        · exact cAf (by kernel_rfl) fun _ => rw_ (rmv rfl)
        · exact cAf (by kernel_rfl) fun _ => rw_ (rG rfl rfl rfl (gm (oT rfl)) (fun hg => by (have hg1 := hg.2; exact rmv rfl)))
        · exact cAf (by kernel_rfl) fun _ => rw_ (rG rfl rfl rfl (gm (oT rfl)) (fun hg => by (have hg1 := hg.2; exact rP (plv (oT rfl) (by exact mA 0 rfl) y56))))
        · exact cAf (by kernel_rfl) fun _ => ropw_gu rfl rfl rfl (gm (oT rfl)) (fun hg => by (have hg1 := hg.2; exact ropw_acts rfl (aC (has_fn n m e) y126 (oc (gu (oT rfl) hg) (oc (gu (oT rfl) hg) oN)) (perm_tail (X := [_]))) (perm_tail (X := [_])) (fun _ => (perm_tail (X := [_])).symm) (fun _ _ _ _ h => h)))
        · exact cAt (by kernel_rfl) fun _ => rw_ (rP (pu_pick_and (oT rfl) (oT rfl)))
        · exact cAt (by kernel_rfl) fun _ => rw_ (rmv rfl)
        · exact cAt (by kernel_rfl) fun _ => rw_ (rG rfl rfl rfl (gm (oT rfl)) (fun hg => by (have hg1 := hg.2; exact rmv rfl)))
        · exact cAt (by kernel_rfl) fun _ => rw_ (rG rfl rfl rfl (gm (oT rfl)) (fun hg => by (have hg1 := hg.2; exact rmv rfl)))
        · exact cAt (by kernel_rfl) fun _ => rw_ (rG rfl rfl rfl (gm (oT rfl)) (fun hg => by (have hg1 := hg.2; exact rP (pu_slice_hi (by exact gu (oT rfl) hg) (by exact gu (oT rfl) hg) Tryz.underlying26 y56 (by omega) (by omega)))))
        · exact cAt (by kernel_rfl) fun _ => rw_ (rG rfl rfl rfl (gm (oT rfl)) (fun hg => by (have hg1 := hg.2; exact rP (plv (oT rfl) (by exact mA 0 rfl) y56))))
       case h =>
        refine op_gu_acts () rfl rfl rfl (gm (oT rfl)) (fun hg => by (have hg1 := hg.2; (try simp only [cq2] at hg1); exact aC (ContainsE_fn (es.take (Int.toNat (k : Int))) e (by rw [List.length_take]; omega)) y127 (oc (by exact gu (oT rfl) hg) (oc (by exact gu (oT rfl) hg) oN)) pR)) rfl (fun _ _ => ?_)
        refine oP (pu_pick_or (oT rfl) (oT rfl)) rfl (tn (nn (tc (oT rfl) (fun c36 => ?_) (fun c36 => ?_))))
        · simp only [Int.toNat_natCast] at c36
          rw [if_pos c36] at hst
          exact sq (te en (rg (ak rfl (tn (nn (tR (block_ret (tt (tt (block_ret (tt (ret_one .ret (.inl rfl) rfl () (OT.val (oT rfl) (congrArg (Value.int _) (hst.symm.trans hin))) trivial (pd pl)))))))))))))
        · simp only [Int.toNat_natCast] at c36
          rw [if_neg (by rw [c36]; decide)] at hst
          refine sk (bn (nn (te (ec 0 rfl (ec 1 rfl (ec 2 rfl (ec 9 rfl (ec 10 rfl (ec 11 rfl en)))))) (rg (oP (pad (oT rfl) ot (by omega)) rfl (mv rfl rfl (tn (nn ?_))))))))
          exact tg (k + 1) ⟨by omega, hst.symm.trans hin⟩ (by omega) (ea (ec 11 rfl en) (ec 0 rfl (ec 1 rfl (ec 2 rfl (ec 9 rfl (ec 10 rfl en)))))) (op (pd pl))
   · refine tr_exit (tx (tx (bh (nn (sq (te en ?_))))))
     obtain rfl : k = es.length := by simp only [decide_eq_false_iff_not] at c12; omega
     rw [look_end] at hin
     exact rg (ak rfl (tn (nn (tR (ret_one .ret (.inl rfl) rfl () (OT.val (oT rfl) (congrArg (Value.int _) (hin))) trivial pl)))))
set_option maxRecDepth 20000 in
/-- (*rhizome/net.Net).insert$1 -/
theorem take1_fn (n : NO) (k : Nat) (row : Tp) (x y : Int) (a : Atm) (g1 g2 g3 gn : Nat) (mm : Rw) (hk : k < n.v.2.2.2.1.length) (ha : at' n.v.2.2.2.1 (k : Int) = a) (hl : Lies row.length (nv n.v.2.2.2.1 (k + 1)) (ix (varsL n.v.2.2.2.1) a.1) (ix (varsL n.v.2.2.2.1) a.2.2)) (hr : row.length ≤ 900) : Ct Tryz.prog 48 [SlT kI row, I64 x, I64 y, IsV (pt g1 0), IsV (pt g2 0), IsV (pt g3 0)] ([BlkI g1 32 (kpt kNet) (some (netV n)), BlkI g2 3 kI (k : Int), BlkI g3 76 kraw (mp gn), MapI gn encS kT.T mm]) Unit (fun _ => AnyT) (fun _ => [BlkI g1 32 (kpt kNet) (some (netV n)), BlkI g2 3 kI (k : Int), BlkI g3 76 kraw (mp gn), MapI gn encS kT.T (putG mm (growT (ix (varsL n.v.2.2.2.1) a.1) (ix (varsL n.v.2.2.2.1) a.2.2) row (x, y)))]) (fun _ => True) := by
 refine fn_intro Tryz.func48 rfl rfl ?_
 intro H w
 refine sq (te (ec 0 rfl (ec 1 rfl (ec 2 rfl (ec 3 rfl (ec 4 rfl (ec 5 rfl en)))))) (rg (oP (plv (oT rfl) (by exact mA 0 rfl) y128) rfl ?_)))
 refine oP (plv (oT rfl) (by exact mA 1 rfl) y2) rfl ?_
 refine mv rfl rfl (mv rfl rfl (mv rfl rfl (oA (aC (grown_fn n k row x y a hk ha hl (by omega)) y129 (oc (oT rfl) (oc (oT rfl) (oc (oT rfl) (oc (oT rfl) (oc (oT rfl) oN))))) pR) pR rfl rfl (fun _ _ => ?_))))
 refine mv rfl rfl (oP (pu_extract (oT rfl) rfl) rfl (oP (pu_extract (oT rfl) rfl) rfl (av rfl rfl (av rfl rfl (tn (nn (sq (te (ec 5 rfl (ec 9 rfl (ec 10 rfl en))) (rg (mv rfl rfl (tn (nn (tc (oT rfl) (fun c20 => ?_) (fun c20 => ?_))))))))))))))
 · obtain ⟨s, hs⟩ : ∃ s, (growT (ix (varsL n.v.2.2.2.1) a.1) (ix (varsL n.v.2.2.2.1) a.2.2) row (x, y)) = some s := Option.isSome_iff_exists.1 c20
   have hsl := grow_len hl hs
   refine te (ec 5 rfl (ec 9 rfl en)) ?_
   rw [hs]
   apply tr_any (m := 4) (ns := [[(5, none)], [(9, none)], [(22, some 1)], [(9, none)]]) (by kernel_rfl) (by kernel_rfl) (Ts := [_, _, _, _]) rfl
   case hops =>
    refine ⟨?_, ?_, ?_, ?_, trivial⟩
    · exact rP (pu_load_rawv (oT rfl) (by exact mA 2 rfl) y118)
    · exact rmv rfl
    · exact rop_acts rfl (aC (id_fn s (by omega)) y115 (oc (oT rfl) oN) pR) (fun _ _ _ _ h => h)
    · exact rmv rfl
   case h =>
    refine oA (acts_update (v := s) (V := kT.T) mkS Tryz.underlying76 (oT rfl) (by exact pA 3 rfl) (oT rfl) (oT rfl)) (by exact pA 3 rfl) rfl rfl (fun _ _ => ?_)
    refine tn ?_
    exact ret_none .normal (.inr rfl) rfl () (fun _ => trivial) trivial (by repeat first | exact pn | refine pc 0 rfl ?_ | refine pc 1 rfl ?_)
 · have hs : (growT (ix (varsL n.v.2.2.2.1) a.1) (ix (varsL n.v.2.2.2.1) a.2.2) row (x, y)) = none := by
    cases hx : (growT (ix (varsL n.v.2.2.2.1) a.1) (ix (varsL n.v.2.2.2.1) a.2.2) row (x, y)) with
    | none => rfl
    | some s => rw [hx] at c20; cases c20
   refine sk ?_
   exact ret_none .normal (.inr rfl) rfl () (fun _ => trivial) trivial (by rw [hs]; exact (by repeat first | exact pn | refine pc 0 rfl ?_))
set_option maxRecDepth 20000 in
/-- (*rhizome/net.Net).Read -/
theorem NRead_fn (n : NO) (ct : List (Lab × Int)) (os : List Tp) (ho : ∀ s, s ∈ keys ct ↔ ∃ t ∈ os, idB t = s) (hin : ∀ t ∈ os, InT t ∧ t.length ≤ 22) (hm : ct.length ≤ 100000) : Ct Tryz.prog 11 [AtT kNet (netV n)] ([MapI n.gc encS kI.T ct]) Unit (fun _ => SlT kT (setR os)) (fun _ => [MapI n.gc encS kI.T ct]) (fun _ => True) := by
 refine fn_intro Tryz.func11 rfl rfl ?_
 intro H w
 refine sq (te (ec 0 rfl en) (rg (ak rfl (tn (nn (sq (te (ec 0 rfl en) (rg (ak rfl (tn (nn (sq (sq (te (ec 0 rfl (ec 3 rfl en)) (tr_mapx (R := []) (perm_at 0 rfl) fun s0 => (rg (mv rfl rfl (oP (pu_nilCheck_at (oT rfl)) rfl (oP (pu_faddr_at (oT rfl) ln7 y119) rfl (oP (pu_load_atraw (oT rfl) y120) rfl (oA (acts_range_map Tryz.underlying70 (oT rfl) (by exact mA 0 rfl)) pR rfl rfl (fun r2_4 hr2_4 => ?_))))))))))))))))))))))
 refine tn (tr_nilItem 58 kT (nn (tb (tr_loopK (σ := IS × List Lab × Option Lab × Value × List Tp) (ec 14 rfl en) (fun s => [(3, IsV s.2.2.2.1)]) (fun s => [RanR r2_4.1 n.gc s.1, RanM n.gc encS kI.T ct s0, OwnI 58 kT s.2.2.2.1 s.2.2.2.2]) (fun s => RanOk ct s0 s.1 s.2.1 s.2.2.1 ∧ (∀ u, u ∈ s.2.2.2.2 ↔ u ∈ os ∧ idB u ∉ s.2.1) ∧ s.2.2.2.2.length + s.2.1.length ≤ ct.length) (fun s => s.2.1.length) (r2_4.2, keys ct, none, nilS, []) ⟨hr2_4, fun u => ⟨fun h => (by cases h), fun h => absurd ((ho _).2 ⟨u, h.1, rfl⟩) h.2⟩, by simp [keys]⟩ ?_ (op (by repeat first | exact pn | refine pc 0 rfl ?_ | refine pc 1 rfl ?_)) ?_))))
 · exact (ec 3 rfl en)
 · rintro ⟨i, todo, cur, u, M⟩ ⟨hok, hmem, hlen⟩
   dsimp only at hok hmem hlen ⊢
   refine sq (te (ec 3 rfl (ec 14 rfl en)) (rg (oA (acts_next_map (oT rfl) (by exact mA 1 rfl) (by exact pA 0 rfl) (by assumption)) (by exact pA 0 rfl) rfl rfl (fun q3_0 hq3_0 => ?_))))
   refine oP (pu_nextm (oT rfl)) rfl (tn (nn (sq (tc (oT rfl) (fun c16 => ?_) (fun c16 => ?_)))))
   · obtain ⟨i2, o2⟩ := q3_0
     obtain ⟨key, rfl⟩ : ∃ k, o2 = some k := by
      cases o2 with
      | none => exact Bool.noConfusion c16
      | some k => exact ⟨k, rfl⟩
     dsimp only at hq3_0 c16 ⊢
     obtain ⟨hkt, hok2⟩ := hq3_0
     obtain ⟨bv, hbv⟩ := lkp_key (hok.sub _ hkt)
     have hle : (ers todo key).length = todo.length - 1 := ers_len hkt
     have hpos := List.length_pos_of_mem hkt
     obtain ⟨t, hto, rfl⟩ := (ho key).1 (hok.sub _ hkt)
     obtain ⟨htn, htl⟩ := hin t hto
     have hil := idB_len t
     refine sk (nn (tb (sq (te (ec 3 rfl (ec 14 rfl en)) (rg (oP (pu_entry_map (D := IsV _) (oT rfl) (by exact mA 0 rfl) (by exact mA 1 rfl) (by assumption) (by assumption) (fun H => rfl)) rfl ?_))))))
     refine oP (pu_extract (oT rfl) rfl) rfl (av rfl rfl (tn (nn (sq (te (ec 3 rfl (ec 4 rfl (ec 14 rfl en))) (rg (mv rfl rfl (oA (acts_bs_bytes (oT rfl) Tryz.underlying9 Tryz.underlying88 Tryz.underlying5 (by (simp [maxLen]; omega))) pR rfl rfl (fun _ _ => ?_)))))))))
     refine oA (aC (Decode_fn t htl htn) y130 (oc (oT rfl) oN) pR) pR rfl rfl (fun _ _ => ?_)
     refine mv rfl rfl (oP (pu_extract (oT rfl) rfl) rfl (oP (pu_extract (oT rfl) rfl) rfl (av rfl rfl (av rfl rfl (tn (nn (sq (te (ec 3 rfl (ec 5 rfl (ec 14 rfl en))) (rg (ak rfl (tn (tr_nilItem 3 kI (nn (sq (sq (te (ec 3 rfl (ec 5 rfl (ec 7 rfl (ec 14 rfl en)))) (rg (mv rfl rfl (oP (pls (oT rfl) Tryz.underlying85) rfl (oP (pu_move ot) rfl (tn (nn (tb ?_)))))))))))))))))))))))
     refine tr_loopK (σ := Nat × Value) (ec 3 rfl (ec 14 rfl (ec 25 rfl (ec 26 rfl en)))) (fun s => [(27, I64 (s.1 : Int)), (7, IsV s.2)]) (fun s => [OwnI 3 kI s.2 (t.take s.1), RanR r2_4.1 n.gc i2, RanM n.gc encS kI.T ct s0, OwnI 58 kT u M]) (fun s => s.1 ≤ t.length) (fun s => t.length - s.1) (0, nilS) (Nat.zero_le _) ?_ (op (by repeat first | exact pn | refine pc 0 rfl ?_)) ?_
     · exact (ec 27 rfl (ec 7 rfl en))
     · rintro ⟨i, u2⟩ hi
       dsimp only at hi ⊢
       refine sq (te (ec 3 rfl (ec 7 rfl (ec 14 rfl (ec 25 rfl (ec 26 rfl (ec 27 rfl en)))))) (rg (oP (pu_lss (oT rfl) (oT rfl)) rfl (tn (nn (sq (tc (oT rfl) (fun c28 => ?_) (fun c28 => ?_))))))))
       · refine sk (nn (sq (tb (sq (te (ec 3 rfl (ec 7 rfl (ec 14 rfl (ec 25 rfl (ec 26 rfl (ec 27 rfl en)))))) ?_)))))
         have hit : i < t.length := by simpa using c28
         have htk : (t.take i).length = i := by rw [List.length_take]; omega
         have hst : t.take (i + 1) = t.take i ++ [at' t (i : Int)] := by rw [List.take_succ_eq_append_getElem hit, at'_nat hit]
         refine rg (oP (pu_index (oT rfl) (oT rfl) Tryz.underlying85 y91 (by omega) (by (simp; omega))) rfl (oP (pL (oT rfl) y91) rfl (oA (acts_alloc (zPa)) pR rfl rfl (fun g9_2 _ => ?_))))
         refine oA (asv (oT rfl) (oT rfl) (by exact pA 0 rfl) y91) (by exact pA 0 rfl) rfl rfl (fun _ _ => ?_)
         refine tn ?_
         rw [at_map' hit]
         refine nn (te (ec 3 rfl (ec 7 rfl (ec 9 rfl (ec 14 rfl (ec 25 rfl (ec 26 rfl (ec 27 rfl en))))))) (rg (mv rfl rfl (oP (pf (oT rfl) y95) rfl (oP (plb (oT rfl) (by exact mA 0 rfl) lq2 y2) rfl ?_)))))
         refine oA (acts_lit (d := kI) (v0 := 0) y28 y2 zI (show 1 * 1 ≤ 16777216 from by decide) (by decide) (fills_arr rfl rfl (by decide) (oT rfl) fills_nil)) pR rfl rfl (fun _ _ => ?_)
         refine oA (acts_append (oT rfl) (by exact pA 1 rfl) (oT rfl) y28 (by (simp; omega)) (by (simp [maxLen]; omega))) (by exact pA 1 rfl) rfl rfl (fun v10_4 _ => ?_)
         refine av rfl rfl (tn (bn (nn (te (ec 3 rfl (ec 7 rfl (ec 14 rfl (ec 25 rfl (ec 26 rfl (ec 27 rfl en)))))) (rg (oP (pad (oT rfl) ot (by omega)) rfl (mv rfl rfl (tn (nn ?_)))))))))
         exact tg (i + 1, v10_4) (by show i + 1 ≤ t.length; omega) (by show t.length - (i + 1) < t.length - i; omega) (ea (ec 27 rfl (ec 7 rfl en)) (ec 3 rfl (ec 14 rfl (ec 25 rfl (ec 26 rfl en))))) (op (by rw [hst]; exact (by repeat first | exact pn | refine pc 0 rfl ?_ | refine pc 1 rfl ?_)))
       · refine tr_exit (tx (tx (bh (nn (te (ec 3 rfl (ec 7 rfl (ec 14 rfl en))) ?_)))))
         obtain rfl : i = t.length := by simp only [List.length_map, decide_eq_false_iff_not] at c28; omega
         rw [List.take_length]
         refine tr_freeze (perm_at 0 rfl) 7 (oT rfl) (rg (mv rfl rfl (mv rfl rfl (oA (acts_lit (d := kT) (v0 := []) y29 y0 zT (show 1 * 1 ≤ 16777216 from by decide) (by decide) (fills_arr rfl rfl (by decide) (oT rfl) fills_nil)) pR rfl rfl (fun _ _ => ?_)))))
         refine oA (acts_append (oT rfl) (by exact pA 2 rfl) (oT rfl) y29 (by (simp; omega)) (by (simp [maxLen]; omega))) (by exact pA 2 rfl) rfl rfl (fun v12_3 _ => ?_)
         refine av rfl rfl (tn (bn (nn ?_)))
         exact tg (i2, ers todo (idB t), some (idB t), v12_3, M ++ [t]) ⟨hok2, read_step hin hok.nd hto hkt hmem, (by show (M ++ [t]).length + (ers todo (idB t)).length ≤ _; rw [List.length_append, List.length_singleton, hle]; omega)⟩ (by show (ers todo (idB t)).length < todo.length; omega) (ea (ec 3 rfl en) (ec 14 rfl en)) (op (by repeat first | exact pn | refine pc 0 rfl ?_ | refine pc 1 rfl ?_))
   · obtain ⟨i2, o2⟩ := q3_0
     obtain rfl : o2 = none := by
      cases o2 with
      | none => rfl
      | some k => exact Bool.noConfusion c16
     dsimp only at hq3_0 ⊢
     obtain ⟨rfl, hok2⟩ := hq3_0
     refine tr_mapc (perm_at 1 rfl) (tr_freeze (perm_at 2 rfl) 3 (oT rfl) ?_)
     have hsm : Small M := ⟨by omega, fun u hu => by have := (hin u ((hmem u).1 hu).1).2; omega⟩
     refine tr_exit (tx (tx (bh (nn (sq (te (ec 3 rfl en) (rg (mv rfl rfl (oA (acts_callM (Set_fn (K0 := noK) (n0 := 0) _ hsm) mk_none y72 (oc (oT rfl) oN) pR) pR rfl rfl (fun _ _ => ?_))))))))))
     refine av rfl rfl (tn (nn (tR ?_)))
     exact ret_one .ret (.inl rfl) rfl () (OT.eq (OT.unfr2 (oT rfl)) (congrArg (SlT kT) (read_done hmem))) trivial (by repeat first | exact pn | refine pc 0 rfl ?_)
end Go.Proofs.YtaahhghlpoiihaaGreatDoor
/- How many rows there are; the rows that the loops of a net's insert and remove have gone through. Plain Lean. -/
namespace Go.Nt
open Go Go.Gw Go.Tu Go.Jn
set_option linter.unusedVariables false
set_option linter.unusedSimpArgs false
section
variable {al : List Atm} {E E' : List Ed} {k : Nat} {e : Ed}
theorem pair_len {α β : Type} {L : List α} {M : List β} : (L.flatMap fun r => M.map fun x => (r, x)).length = L.length * M.length := by
 induction L with
 | nil => simp
 | cons a L ih => rw [List.flatMap_cons, List.length_append, ih, List.length_map, List.length_cons, Nat.add_mul]; omega
theorem pair_nodup {α β : Type} {L : List α} {M : List β} (hL : L.Nodup) (hM : M.Nodup) : (L.flatMap fun r => M.map fun x => (r, x)).Nodup := by
 refine nodup_flat (fun r _ => ?_) (hL.imp fun {a b} hne x hx hy => ?_)
 · exact List.Pairwise.map _ (fun a b h e => h (by simpa using e)) hM
 · obtain ⟨u, _, rfl⟩ := List.mem_map.1 hx
   obtain ⟨v, _, h⟩ := List.mem_map.1 hy
   exact hne (by simpa using (congrArg Prod.fst h).symm)
theorem rows_pow (hE : E.Nodup) : ∀ (k : Nat), k ≤ al.length → (rowsK (byLab E) (varsL al) (al.take k)).length ≤ E.length ^ k
 | 0, _ => by simp [rowsK]
 | k + 1, hk => by
  have hk' : k < al.length := by omega
  have ih := rows_pow hE k (by omega)
  have hn := rowK_nodup (al := al) (E := E) (k := k + 1)
  have hl := lies_k (al := al) hk' rfl
  let f : Tp → Tp × Ed := fun s => (s.take (nv al k), (s.getD (ix (varsL al) al[k].1) 0, al[k].2.1, s.getD (ix (varsL al) al[k].2.2) 0))
  have hf : ∀ s ∈ rowsK (byLab E) (varsL al) (al.take (k + 1)), ∀ t ∈ rowsK (byLab E) (varsL al) (al.take (k + 1)), f s = f t → s = t := fun s hs t ht he => by
   obtain ⟨a1, a2, a3⟩ := (rowK_succ hk' rfl).1 (rowK_rows.1 hs)
   obtain ⟨b1, b2, b3⟩ := (rowK_succ hk' rfl).1 (rowK_rows.1 ht)
   have he1 : s.take (nv al k) = t.take (nv al k) := congrArg Prod.fst he
   have he2 := congrArg Prod.snd he
   have e2 : s.getD (ix (varsL al) al[k].1) 0 = t.getD (ix (varsL al) al[k].1) 0 := congrArg Prod.fst he2
   have e3 : s.getD (ix (varsL al) al[k].2.2) 0 = t.getD (ix (varsL al) al[k].2.2) 0 := congrArg (fun x : Ed => x.2.2) he2
   have hl2 : Lies (s.take (nv al k)).length (nv al (k + 1)) (ix (varsL al) al[k].1) (ix (varsL al) al[k].2.2) := by rw [a2.1]; exact hl
   have g1 := (grow_iff (s := s) (p := (s.getD (ix (varsL al) al[k].1) 0, s.getD (ix (varsL al) al[k].2.2) 0)) hl2).2 ⟨a1, by rw [a2.1], rfl, rfl⟩
   have g2 := (grow_iff (s := t) (p := (s.getD (ix (varsL al) al[k].1) 0, s.getD (ix (varsL al) al[k].2.2) 0)) hl2).2 ⟨b1, by rw [a2.1, he1], e2.symm, e3.symm⟩
   exact Option.some.inj (g1.symm.trans g2)
  have h1 := map_nodup hn hf
  have h2 := sub_len h1 (m := (rowsK (byLab E) (varsL al) (al.take k)).flatMap fun r => E.map fun x => (r, x)) (fun x hx => by
   obtain ⟨s, hs, rfl⟩ := List.mem_map.1 hx
   obtain ⟨a1, a2, a3⟩ := (rowK_succ hk' rfl).1 (rowK_rows.1 hs)
   exact List.mem_flatMap.2 ⟨_, rowK_rows.2 a2, List.mem_map.2 ⟨_, a3, rfl⟩⟩) (pair_nodup rowK_nodup hE)
  rw [List.length_map, pair_len] at h2
  rw [Nat.pow_succ]
  exact Nat.le_trans h2 (Nat.mul_le_mul_right _ ih)
theorem pow_small {n k : Nat} (hn : n ≤ 100) (hk : k ≤ 8) : n ^ k ≤ 10000000000000000 := by
 have h1 : n ^ k ≤ 100 ^ k := Nat.pow_le_pow_left hn k
 have h2 : (100 : Nat) ^ k ≤ 100 ^ 8 := Nat.pow_le_pow_right (by decide) hk
 have h3 : (100 : Nat) ^ 8 = 10000000000000000 := by decide
 omega
def GrS (al : List Atm) (a : Atm) (E' : List Ed) (S : Tp → Prop) (s : Tp) : Prop := ∃ t p, S t ∧ (p.1, a.2.1, p.2) ∈ E' ∧ growT (ix (varsL al) a.1) (ix (varsL al) a.2.2) t p = some s
def G1 (al : List Atm) (a : Atm) (t : Tp) (p : Pr) : Option Tp := growT (ix (varsL al) a.1) (ix (varsL al) a.2.2) t p
theorem GrS.in_ {a : Atm} {S : Tp → Prop} {s : Tp} (hE : ∀ e ∈ E', inI e.1 ∧ inI e.2.2) (hk : k < al.length) (ha : al[k] = a) (hS : ∀ t, S t → RowK al E' k t) (h : GrS al a E' S s) : RowK al E' (k + 1) s := by
 obtain ⟨t, p, h1, h2, h3⟩ := h
 have hr := hS t h1
 have hl := lies_k hk ha
 obtain ⟨g1, g2, g3, g4⟩ := (grow_iff (r := t) (by rw [hr.1]; exact hl)).1 h3
 rw [hr.1] at g2
 exact (rowK_succ hk ha).2 ⟨g1, by rw [g2]; exact hr, by rw [g3, g4]; exact h2⟩
theorem gr_step {m : List (Lab × Tp)} {o : Option Tp} {R : Tp → Prop} (h : MapOf m R) (hi : ∀ s, o = some s → InT s) (hR : ∀ u, R u → InT u) : MapOf (putG m o) (fun u => R u ∨ o = some u) := by
 cases o with
 | none => exact h.congr fun u => by simp
 | some s => exact (h.put (hi s rfl) hR).congr fun u => by simp [eq_comm]
end
end Go.Nt
/- A net that is as its edges say; its items opened at a label's edges, and closed again. -/
namespace Go.Gw
open Go
theorem op_tail2 {C : Cx} {Γ : Env} {L : List It} {o : Oper} {ops : Array Oper} {Q : Exit → Act → World → Prop} {rest : List Oper} {J : List It} {ρ : Type} {T : ρ → Ty} {I : ρ → List It} {φ : ρ → Prop} (X Y : List It) (hL : L = X ++ (Y ++ J)) (hp : Acts C Γ L o J ρ T I φ) (hg : o.guard = none) (hd : dstOk C.N o.dst = true)
 (h : ∀ r, φ r → Tr C (upd o.dst (T r) Γ) (X ++ (Y ++ I r)) (wpList C.P ops Q rest)) : Tr C Γ L (wpList C.P ops Q (o :: rest)) := by
 subst hL
 exact op_acts hp perm_tail2 hg hd fun r hr => tr_perm perm_tail2.symm (h r hr)
theorem perm4_at {L : List It} (i j k l : Nat) {x y z w : It} (h : L[i]? = some x) (h' : (L.eraseIdx i)[j]? = some y) (h2 : ((L.eraseIdx i).eraseIdx j)[k]? = some z) (h3 : (((L.eraseIdx i).eraseIdx j).eraseIdx k)[l]? = some w) : L.Perm ([x, y, z, w] ++ (((L.eraseIdx i).eraseIdx j).eraseIdx k).eraseIdx l) := (perm_at i h).trans (((perm_at j h').trans (((perm_at k h2).trans ((perm_at l h3).cons z)).cons y)).cons x)
end Go.Gw
namespace Go.Proofs.YtaahhghlpoiihaaGreatDoor
open Go Go.Gw Go.So Go.Tu Go.Jn Go.Nt
set_option linter.unusedVariables false
set_option linter.unusedSimpArgs false
def tailA (m : AlM) (lab : Lab) (x : Al) (u v : Int) : List It := (dlk u x.frm).map frI ++ ((dlk v x.to).map frI ++ alsI (dlk lab m))
theorem als_open {m : AlM} {lab : Lab} {x : Al} (h : lkp lab m = some x) : (alsI m).Perm (MapI x.gh encP kbool.T x.has :: MapI x.gf encI IsV (hdV x.frm) :: MapI x.gt encI IsV (hdV x.to) :: (x.frm.map frI ++ (x.to.map frI ++ alsI (dlk lab m)))) := by
 have := als_h h
 rwa [List.append_assoc] at this
section
variable {C : Cx} {Γ : Env} {X Y : List It} {φ : Act → World → Prop}
theorem perm_b6 {a b c d e f : It} {X Y Z : List It} : (a :: b :: c :: d :: e :: f :: (X ++ (Y ++ Z))).Perm (X ++ (Y ++ (d :: e :: f :: a :: b :: c :: Z))) := by
 have h1 : ([a, b, c, d, e, f] ++ (X ++ Y)).Perm ((X ++ Y) ++ [a, b, c, d, e, f]) := List.perm_append_comm
 have h2 : ([a, b, c] ++ [d, e, f]).Perm ([d, e, f] ++ [a, b, c]) := List.perm_append_comm
 have h3 := (h1.trans (h2.append_left (X ++ Y))).append_right Z
 simpa only [List.append_assoc, List.cons_append, List.nil_append] using h3
theorem tr_openA (u v : Int) {n : NO} {m : AlM} {lab : Lab} {x : Al} (h : lkp lab m = some x)
 (ht : Tr C Γ (MapI x.gh encP kbool.T x.has :: MapI x.gf encI IsV (hdV x.frm) :: MapI x.gt encI IsV (hdV x.to) :: OwnI 3 kI ((lkp u (hdV x.frm)).getD nilS) ((lkp u x.frm).getD (nilS, [])).2 :: OwnI 3 kI ((lkp v (hdV x.to)).getD nilS) ((lkp v x.to).getD (nilS, [])).2 :: MapI n.ga encS (kpt kAl).T (ptrsA m) :: (X ++ (Y ++ tailA m lab x u v))) φ) : Tr C Γ (X ++ (Y ++ AlI n m)) φ := by
 have h1 := als_open h
 have h2 : (X ++ (Y ++ AlI n m)).Perm ((X ++ (Y ++ (MapI n.ga encS (kpt kAl).T (ptrsA m) :: MapI x.gh encP kbool.T x.has :: MapI x.gf encI IsV (hdV x.frm) :: MapI x.gt encI IsV (hdV x.to) :: []))) ++ (x.frm.map frI ++ (x.to.map frI ++ alsI (dlk lab m)))) := by
  have := ((h1.cons (MapI n.ga encS (kpt kAl).T (ptrsA m))).append_left Y).append_left X
  unfold AlI
  simpa only [List.append_assoc, List.cons_append, List.nil_append] using this
 refine tr_perm h2 (tr_pickN u (List.Perm.refl _) ?_)
 rw [← List.cons_append, ← List.append_assoc]
 refine tr_pickN v (B := alsI (dlk lab m)) (List.Perm.refl _) (tr_perm ?_ ht)
 unfold tailA
 have h3 := (perm_b6 (a := MapI x.gh encP kbool.T x.has) (b := MapI x.gf encI IsV (hdV x.frm)) (c := MapI x.gt encI IsV (hdV x.to)) (d := OwnI 3 kI ((lkp u (hdV x.frm)).getD nilS) ((lkp u x.frm).getD (nilS, [])).2) (e := OwnI 3 kI ((lkp v (hdV x.to)).getD nilS) ((lkp v x.to).getD (nilS, [])).2) (f := MapI n.ga encS (kpt kAl).T (ptrsA m)) (X := X) (Y := Y) (Z := (dlk u x.frm).map frI ++ ((dlk v x.to).map frI ++ alsI (dlk lab m)))).symm
 refine List.Perm.trans ?_ h3
 simp only [List.append_assoc, List.cons_append, List.nil_append]
 have e1 : ∀ (a b c d e f : It) (Z : List It), (e :: d :: (X ++ (Y ++ (f :: a :: b :: c :: Z)))).Perm (X ++ (Y ++ (d :: e :: f :: a :: b :: c :: Z))) := fun a b c d e f Z => by
  have h1 : ([e, d] ++ (X ++ Y)).Perm ((X ++ Y) ++ [d, e]) := (List.Perm.append_right _ (List.Perm.swap _ _ _)).trans List.perm_append_comm
  have := h1.append_right (f :: a :: b :: c :: Z)
  simpa only [List.append_assoc, List.cons_append, List.nil_append] using this
 exact e1 _ _ _ _ _ _ _
end
theorem close_A {u v : Int} {n : NO} {m : AlM} {lab : Lab} {x : Al} {X Y : List It} {fv tv : Value} {fl tl : List Int} {has : List (Pr × Bool)} (h : lkp lab m = some x) :
 (MapI x.gh encP kbool.T has :: MapI x.gf encI IsV (ptk u fv (hdV x.frm)) :: MapI x.gt encI IsV (ptk v tv (hdV x.to)) :: OwnI 3 kI fv fl :: OwnI 3 kI tv tl :: MapI n.ga encS (kpt kAl).T (ptrsA m) :: (X ++ (Y ++ tailA m lab x u v))).Perm
  (X ++ (Y ++ AlI n (ptk lab { x with frm := ptk u (fv, fl) x.frm, to := ptk v (tv, tl) x.to, has := has } m))) := by
 refine perm_b6.trans (List.Perm.append_left X (List.Perm.append_left Y ?_))
 unfold AlI tailA
 rw [ptrsA_ptk, show ptA ({ x with frm := ptk u (fv, fl) x.frm, to := ptk v (tv, tl) x.to, has := has } : Al) = ptA x from rfl]
 have hs : ptk lab (some (ptA x)) (ptrsA m) = ptrsA m := ptk_same (by unfold ptrsA; rw [lkp_map (fun a : Al => some (ptA a)), h]; rfl)
 rw [hs]
 refine List.Perm.trans ?_ (List.Perm.cons _ alsI_back)
 unfold alR
 rw [hdV_ptk, hdV_ptk]
 show List.Perm _ (MapI n.ga encS (kpt kAl).T (ptrsA m) :: (MapI x.gf encI IsV (ptk u fv (hdV x.frm)) :: MapI x.gt encI IsV (ptk v tv (hdV x.to)) :: MapI x.gh encP kbool.T has :: ((ptk u (fv, fl) x.frm).map frI ++ (ptk v (tv, tl) x.to).map frI) ++ alsI (dlk lab m)))
 have h1 := frs_perm (n := u) (x := (fv, fl)) (m := x.frm)
 have h2 := frs_perm (n := v) (x := (tv, tl)) (m := x.to)
 have h3 : ((ptk u (fv, fl) x.frm).map frI ++ (ptk v (tv, tl) x.to).map frI ++ alsI (dlk lab m)).Perm (OwnI 3 kI fv fl :: OwnI 3 kI tv tl :: ((dlk u x.frm).map frI ++ ((dlk v x.to).map frI ++ alsI (dlk lab m)))) := by
  refine ((h1.append h2).append_right _).trans ?_
  have h4 : ((dlk u x.frm).map frI ++ [OwnI 3 kI tv tl]).Perm ([OwnI 3 kI tv tl] ++ (dlk u x.frm).map frI) := List.perm_append_comm
  have := (h4.append_right ((dlk v x.to).map frI ++ alsI (dlk lab m))).cons (OwnI 3 kI fv fl)
  simpa only [List.append_assoc, List.cons_append, List.nil_append] using this
 have h5 : ∀ (a b c d e f : It) (Z W : List It), W.Perm (d :: e :: Z) → (d :: e :: f :: a :: b :: c :: Z).Perm (f :: b :: c :: a :: W) := fun a b c d e f Z W hW => by
  refine List.Perm.trans ?_ (((((hW.symm.cons a).cons c).cons b).cons f))
  have h6 : ([d, e] ++ [f, a, b, c]).Perm ([f, a, b, c] ++ [d, e]) := List.perm_append_comm
  have h7 : ([a] ++ [b, c]).Perm ([b, c] ++ [a]) := List.perm_append_comm
  have h8 := ((h7.append_right [d, e]).cons f)
  have := (h6.trans h8).append_right Z
  simpa only [List.append_assoc, List.cons_append, List.nil_append] using this
 exact h5 _ _ _ _ _ _ _ _ h3
structure AlOk (E : List Ed) (lab : Lab) (x : Al) : Prop where
 f : ∀ u v, v ∈ ((lkp u x.frm).getD (nilS, [])).2 ↔ (u, lab, v) ∈ E
 fn : ∀ u, ((lkp u x.frm).getD (nilS, [])).2.Nodup
 t : ∀ u v, u ∈ ((lkp v x.to).getD (nilS, [])).2 ↔ (u, lab, v) ∈ E
 tn : ∀ v, ((lkp v x.to).getD (nilS, [])).2.Nodup
 h : ∀ p, p ∈ keys x.has ↔ (p.1, lab, p.2) ∈ E
 h1 : ∀ p b, lkp p x.has = some b → b = true
 hn : (keys x.has).Nodup
theorem AlOk.b {E : List Ed} {lab : Lab} {x : Al} (h : AlOk E lab x) (hE : E.Nodup) (hm : E.length ≤ 1000000) : AlB x where
 f := fun u => by
  have h1 := map_nodup (f := fun v : Int => (u, lab, v)) (h.fn u) fun a _ b _ e => congrArg (fun x : Ed => x.2.2) e
  have := sub_len h1 (m := E) (fun e he => by obtain ⟨v, hv, rfl⟩ := List.mem_map.1 he; exact (h.f u v).1 hv) hE
  rw [List.length_map] at this; omega
 t := fun v => by
  have h1 := map_nodup (f := fun u : Int => (u, lab, v)) (h.tn v) fun a _ b _ e => congrArg (fun x : Ed => x.1) e
  have := sub_len h1 (m := E) (fun e he => by obtain ⟨u, hu, rfl⟩ := List.mem_map.1 he; exact (h.t u v).1 hu) hE
  rw [List.length_map] at this; omega
 h := by
  have h1 := map_nodup (f := fun p : Pr => ((p.1, lab, p.2) : Ed)) h.hn fun a _ b _ e => Prod.ext (congrArg (fun x : Ed => x.1) e) (congrArg (fun x : Ed => x.2.2) e)
  have := sub_len h1 (m := E) (fun e he => by obtain ⟨p, hp, rfl⟩ := List.mem_map.1 he; exact (h.h p).1 hp) hE
  rw [List.length_map] at this
  unfold keys at this; rw [List.length_map] at this; omega
structure AlsOk (E : List Ed) (atoms : List Atm) (al : AlM) : Prop where
 nd : E.Nodup
 inE : ∀ e ∈ E, inI e.1 ∧ inI e.2.2
 some_ : ∀ lab x, lkp lab al = some x → AlOk E lab x
 none_ : ∀ lab, lkp lab al = none → ∀ e ∈ E, e.2.1 ≠ lab
 lab : ∀ a ∈ atoms, (lkp a.2.1 al).isSome = true
structure NetOk (n : NO) (al : AlM) (lv : List Rw) (ct : List (Lab × Int)) (E : List Ed) : Prop where
 als : AlsOk E n.v.2.2.2.1 al
 gl : n.gl.length = n.v.2.2.2.1.length + 1
 lvl : lv.length = n.v.2.2.2.1.length + 1
 rows : ∀ k, k ≤ n.v.2.2.2.1.length → MapOf (lv.getD k []) (RowK n.v.2.2.2.1 E k)
 cnt : CntOf ct (fun r => idB (proj (varsL n.v.2.2.2.1) n.v.2.2.1 r)) ((lv.getD n.v.2.2.2.1.length []).map Prod.snd)
section
variable {E : List Ed} {atoms : List Atm} {al q : AlM} {lab : Lab} {x : Al} {e : Ed}
theorem alok_nil {gf gt gh : Nat} (h : ∀ e ∈ E, e.2.1 ≠ lab) : AlOk E lab ⟨gf, gt, gh, [], [], []⟩ where
 f := fun u v => ⟨fun h => (by simp [lkp] at h), fun h' => absurd rfl (h _ h')⟩
 fn := fun u => by simp [lkp]
 t := fun u v => ⟨fun h => (by simp [lkp] at h), fun h' => absurd rfl (h _ h')⟩
 tn := fun u => by simp [lkp]
 h := fun p => ⟨fun h => (by simp [keys] at h), fun h' => absurd rfl (h _ h')⟩
 h1 := fun p b h => by simp [lkp] at h
 hn := List.nodup_nil
theorem AlsOk.alpha (h : AlsOk E atoms al) (hq : AlphaSays al lab q) : AlsOk E atoms q := by
 obtain ⟨h1, rfl | ⟨h2, gf, gt, gh, rfl⟩⟩ := hq
 · exact h
 · refine ⟨h.nd, h.inE, fun l y hy => ?_, fun l hl => ?_, fun a ha => ?_⟩
   · rw [lkp_put] at hy
     by_cases e : lab = l
     · rw [if_pos e] at hy; cases hy; subst e; exact alok_nil (h.none_ _ h2)
     · rw [if_neg e] at hy; exact h.some_ l y hy
   · rw [lkp_put] at hl
     by_cases e : lab = l
     · rw [if_pos e] at hl; cases hl
     · rw [if_neg e] at hl; exact h.none_ l hl
   · rw [lkp_put]
     split
     · rfl
     · exact h.lab a ha
theorem AlsOk.has (h : AlsOk E atoms al) (e : Ed) : hasA al e = decide (e ∈ E) := by
 unfold hasA
 cases hl : lkp e.2.1 al with
 | none => exact (decide_eq_false fun he => h.none_ _ hl e he rfl).symm
 | some x =>
  have hx := h.some_ _ _ hl
  show (lkp (e.1, e.2.2) x.has).getD false = _
  cases hp : lkp (e.1, e.2.2) x.has with
  | none => exact (decide_eq_false fun he => lkp_none.1 hp ((hx.h _).2 he)).symm
  | some b =>
   rw [hx.h1 _ _ hp]
   refine (decide_eq_true ((hx.h (e.1, e.2.2)).1 ?_)).symm
   exact List.mem_map.2 ⟨_, lkp_mem hp, rfl⟩
theorem frm_put {n u : Int} {y : Value × List Int} {m : List Fr} : ((lkp u (ptk n y m)).getD (nilS, [])).2 = if n = u then y.2 else ((lkp u m).getD (nilS, [])).2 := by
 rw [lkp_put]; split <;> rfl
theorem AlOk.come (h : AlOk E e.2.1 x) (hn : e ∉ E) {fv tv : Value} : AlOk (E ++ [e]) e.2.1 { x with frm := ptk e.1 (fv, ((lkp e.1 x.frm).getD (nilS, [])).2 ++ [e.2.2]) x.frm, to := ptk e.2.2 (tv, ((lkp e.2.2 x.to).getD (nilS, [])).2 ++ [e.1]) x.to, has := ptk (e.1, e.2.2) true x.has } where
 f := fun u v => by
  show v ∈ ((lkp u (ptk e.1 _ x.frm)).getD (nilS, [])).2 ↔ _
  rw [frm_put, List.mem_append, List.mem_singleton]
  by_cases c : e.1 = u
  · rw [if_pos c, List.mem_append, List.mem_singleton, h.f, c]
    constructor
    · rintro (h1 | h1)
      · exact .inl h1
      · right; rw [← c, h1]
    · rintro (h1 | h1)
      · exact .inl h1
      · right; rw [← h1]
  · rw [if_neg c, h.f]
    exact ⟨.inl, fun h1 => h1.elim id fun h2 => absurd (by rw [← h2]) c⟩
 fn := fun u => by
  show ((lkp u (ptk e.1 _ x.frm)).getD (nilS, [])).2.Nodup
  rw [frm_put]
  split
  · refine List.nodup_append.2 ⟨h.fn _, by simp, fun a ha b hb hab => ?_⟩
    have hb2 : b = e.2.2 := by simpa using hb
    subst hab hb2
    exact hn ((h.f _ _).1 ha)
  · exact h.fn u
 t := fun u v => by
  show u ∈ ((lkp v (ptk e.2.2 _ x.to)).getD (nilS, [])).2 ↔ _
  rw [frm_put, List.mem_append, List.mem_singleton]
  by_cases c : e.2.2 = v
  · rw [if_pos c, List.mem_append, List.mem_singleton, h.t, c]
    constructor
    · rintro (h1 | h1)
      · exact .inl h1
      · right; rw [← c, h1]
    · rintro (h1 | h1)
      · exact .inl h1
      · right; rw [← h1]
  · rw [if_neg c, h.t]
    exact ⟨.inl, fun h1 => h1.elim id fun h2 => absurd (by rw [← h2]) c⟩
 tn := fun v => by
  show ((lkp v (ptk e.2.2 _ x.to)).getD (nilS, [])).2.Nodup
  rw [frm_put]
  split
  · refine List.nodup_append.2 ⟨h.tn _, by simp, fun a ha b hb hab => ?_⟩
    have hb2 : b = e.1 := by simpa using hb
    subst hab hb2
    exact hn ((h.t _ _).1 ha)
  · exact h.tn v
 h := fun p => by
  have hk : p ∈ keys (ptk (e.1, e.2.2) true x.has) ↔ p = (e.1, e.2.2) ∨ p ∈ keys x.has := by
   have h1 : p ∈ keys (ptk (e.1, e.2.2) true x.has) ↔ ¬ lkp p (ptk (e.1, e.2.2) true x.has) = none := by rw [lkp_none, Classical.not_not]
   have h2 : p ∈ keys x.has ↔ ¬ lkp p x.has = none := by rw [lkp_none, Classical.not_not]
   rw [h1, h2, lkp_put]
   by_cases c : (e.1, e.2.2) = p
   · rw [if_pos c]; simp [c]
   · rw [if_neg c]; simp [Ne.symm c]
  show p ∈ keys (ptk (e.1, e.2.2) true x.has) ↔ _
  rw [hk, h.h, List.mem_append, List.mem_singleton]
  constructor
  · rintro (rfl | h1)
    · exact .inr rfl
    · exact .inl h1
  · rintro (h1 | h1)
    · exact .inr h1
    · exact .inl (by rw [← h1])
 h1 := fun p b hp => by
  have hp : lkp p (ptk (e.1, e.2.2) true x.has) = some b := hp
  rw [lkp_put] at hp
  split at hp
  · cases hp; rfl
  · exact h.h1 p b hp
 hn := ptk_nodup h.hn
theorem AlsOk.come (h : AlsOk E atoms al) (hl : lkp e.2.1 al = some x) (hn : e ∉ E) (hi : inI e.1 ∧ inI e.2.2) {fv tv : Value} : AlsOk (E ++ [e]) atoms (ptk e.2.1 { x with frm := ptk e.1 (fv, ((lkp e.1 x.frm).getD (nilS, [])).2 ++ [e.2.2]) x.frm, to := ptk e.2.2 (tv, ((lkp e.2.2 x.to).getD (nilS, [])).2 ++ [e.1]) x.to, has := ptk (e.1, e.2.2) true x.has } al) where
 nd := List.nodup_append.2 ⟨h.nd, by simp, fun a ha b hb hab => hn (by rw [← (by simpa using hb : b = e), ← hab]; exact ha)⟩
 inE := fun f hf => (List.mem_append.1 hf).elim (h.inE f) fun h1 => by rw [(by simpa using h1 : f = e)]; exact hi
 some_ := fun l y hy => by
  rw [lkp_put] at hy
  by_cases c : e.2.1 = l
  · rw [if_pos c] at hy; cases hy; subst c; exact (h.some_ _ _ hl).come hn
  · rw [if_neg c] at hy
    have h1 := h.some_ l y hy
    have hm : ∀ u v, (u, l, v) ∈ E ++ [e] ↔ (u, l, v) ∈ E := fun u v => by
     rw [List.mem_append, List.mem_singleton]
     exact ⟨fun h2 => h2.elim id fun h3 => absurd (congrArg (fun x : Ed => x.2.1) h3).symm c, .inl⟩
    exact ⟨fun u v => by rw [h1.f, hm], h1.fn, fun u v => by rw [h1.t, hm], h1.tn, fun p => by rw [h1.h, hm], h1.h1, h1.hn⟩
 none_ := fun l hl2 f hf => by
  rw [lkp_put] at hl2
  by_cases c : e.2.1 = l
  · rw [if_pos c] at hl2; cases hl2
  · rw [if_neg c] at hl2
    rcases List.mem_append.1 hf with h1 | h1
    · exact h.none_ l hl2 f h1
    · rw [(by simpa using h1 : f = e)]; exact c
 lab := fun a ha => by
  rw [lkp_put]
  split
  · rfl
  · exact h.lab a ha
theorem fx_mem {x y : Int} {l : List Int} : y ∈ fx x l ↔ y ∈ l ∧ y ≠ x := by unfold fx; rw [List.mem_filter]; simp
def lessE (E : List Ed) (e : Ed) : List Ed := E.filter fun x => decide (x ≠ e)
theorem mem_less {E : List Ed} {e f : Ed} : f ∈ lessE E e ↔ f ∈ E ∧ f ≠ e := by unfold lessE; rw [List.mem_filter]; simp
theorem AlOk.go (h : AlOk E e.2.1 x) {fv tv : Value} : AlOk (lessE E e) e.2.1 { x with frm := ptk e.1 (fv, fx e.2.2 ((lkp e.1 x.frm).getD (nilS, [])).2) x.frm, to := ptk e.2.2 (tv, fx e.1 ((lkp e.2.2 x.to).getD (nilS, [])).2) x.to, has := dlk (e.1, e.2.2) x.has } where
 f := fun u v => by
  show v ∈ ((lkp u (ptk e.1 _ x.frm)).getD (nilS, [])).2 ↔ _
  rw [frm_put, mem_less]
  by_cases c : e.1 = u
  · rw [if_pos c, fx_mem, h.f, c]
    exact ⟨fun ⟨h1, h2⟩ => ⟨h1, fun h3 => h2 (by rw [← h3])⟩, fun ⟨h1, h2⟩ => ⟨h1, fun h3 => h2 (by rw [h3, ← c])⟩⟩
  · rw [if_neg c, h.f]
    exact ⟨fun h1 => ⟨h1, fun h2 => c (by rw [← h2])⟩, fun h1 => h1.1⟩
 fn := fun u => by
  show ((lkp u (ptk e.1 _ x.frm)).getD (nilS, [])).2.Nodup
  rw [frm_put]
  split
  · exact (h.fn _).sublist List.filter_sublist
  · exact h.fn u
 t := fun u v => by
  show u ∈ ((lkp v (ptk e.2.2 _ x.to)).getD (nilS, [])).2 ↔ _
  rw [frm_put, mem_less]
  by_cases c : e.2.2 = v
  · rw [if_pos c, fx_mem, h.t, c]
    exact ⟨fun ⟨h1, h2⟩ => ⟨h1, fun h3 => h2 (by rw [← h3])⟩, fun ⟨h1, h2⟩ => ⟨h1, fun h3 => h2 (by rw [h3, ← c])⟩⟩
  · rw [if_neg c, h.t]
    exact ⟨fun h1 => ⟨h1, fun h2 => c (by rw [← h2])⟩, fun h1 => h1.1⟩
 tn := fun v => by
  show ((lkp v (ptk e.2.2 _ x.to)).getD (nilS, [])).2.Nodup
  rw [frm_put]
  split
  · exact (h.tn _).sublist List.filter_sublist
  · exact h.tn v
 h := fun p => by
  have hk : p ∈ keys (dlk (e.1, e.2.2) x.has) ↔ p ≠ (e.1, e.2.2) ∧ p ∈ keys x.has := by
   have h1 : p ∈ keys (dlk (e.1, e.2.2) x.has) ↔ ¬ lkp p (dlk (e.1, e.2.2) x.has) = none := by rw [lkp_none, Classical.not_not]
   have h2 : p ∈ keys x.has ↔ ¬ lkp p x.has = none := by rw [lkp_none, Classical.not_not]
   rw [h1, h2, lkp_del h.hn]
   by_cases c : (e.1, e.2.2) = p
   · rw [if_pos c]; simp [c]
   · rw [if_neg c]; simp [Ne.symm c]
  show p ∈ keys (dlk (e.1, e.2.2) x.has) ↔ _
  rw [hk, h.h, mem_less]
  constructor
  · rintro ⟨h1, h2⟩; exact ⟨h2, fun h3 => h1 (by rw [← h3])⟩
  · rintro ⟨h1, h2⟩; exact ⟨fun h3 => h2 (by rw [h3]), h1⟩
 h1 := fun p b hp => by
  have hp : lkp p (dlk (e.1, e.2.2) x.has) = some b := hp
  rw [lkp_del h.hn] at hp
  split at hp
  · cases hp
  · exact h.h1 p b hp
 hn := dlk_nodup h.hn
theorem AlsOk.go (h : AlsOk E atoms al) (hl : lkp e.2.1 al = some x) {fv tv : Value} : AlsOk (lessE E e) atoms (ptk e.2.1 { x with frm := ptk e.1 (fv, fx e.2.2 ((lkp e.1 x.frm).getD (nilS, [])).2) x.frm, to := ptk e.2.2 (tv, fx e.1 ((lkp e.2.2 x.to).getD (nilS, [])).2) x.to, has := dlk (e.1, e.2.2) x.has } al) where
 nd := h.nd.sublist List.filter_sublist
 inE := fun f hf => h.inE f (mem_less.1 hf).1
 some_ := fun l y hy => by
  rw [lkp_put] at hy
  by_cases c : e.2.1 = l
  · rw [if_pos c] at hy; cases hy; subst c; exact (h.some_ _ _ hl).go
  · rw [if_neg c] at hy
    have h1 := h.some_ l y hy
    have hm : ∀ u v, (u, l, v) ∈ lessE E e ↔ (u, l, v) ∈ E := fun u v => by
     rw [mem_less]
     exact ⟨fun h2 => h2.1, fun h2 => ⟨h2, fun h3 => c (congrArg (fun x : Ed => x.2.1) h3).symm⟩⟩
    exact ⟨fun u v => by rw [h1.f, hm], h1.fn, fun u v => by rw [h1.t, hm], h1.tn, fun p => by rw [h1.h, hm], h1.h1, h1.hn⟩
 none_ := fun l hl2 f hf => by
  rw [lkp_put] at hl2
  by_cases c : e.2.1 = l
  · rw [if_pos c] at hl2; cases hl2
  · rw [if_neg c] at hl2; exact h.none_ l hl2 f (mem_less.1 hf).1
 lab := fun a ha => by
  rw [lkp_put]
  split
  · rfl
  · exact h.lab a ha
end
end Go.Proofs.YtaahhghlpoiihaaGreatDoor
/- What the loops of a net's insert and remove have done so far. -/
namespace Go.Proofs.YtaahhghlpoiihaaGreatDoor
open Go Go.Gw Go.So Go.Tu Go.Jn Go.Nt
set_option linter.unusedVariables false
set_option linter.unusedSimpArgs false
section
variable {al : List Atm} {E E' : List Ed} {k : Nat} {e : Ed} {a : Atm} {t : Tp} {todo : List Lab} {S : Tp → Prop} {nx : Rw} {x : Al} {M : List Pr}
theorem undone (hS : ∀ u, S u → InT u) (ht : S t) (hn : todo.Nodup) (hk : idB t ∈ todo) (u : Tp) : (S u ∧ idB u ∉ ers todo (idB t)) ↔ (S u ∧ idB u ∉ todo) ∨ u = t := by
 rw [ers_mem hn]
 constructor
 · rintro ⟨h1, h2⟩
   by_cases c : idB u = idB t
   · exact .inr (idB_inj (hS u h1) (hS t ht) c)
   · exact .inl ⟨h1, fun h3 => h2 ⟨c, h3⟩⟩
 · rintro (⟨h1, h2⟩ | rfl)
   · exact ⟨h1, fun h3 => h2 h3.2⟩
   · exact ⟨ht, fun h3 => h3.1 rfl⟩
theorem matchA_edge (hx : AlOk E' a.2.1 x) {F T : Nat} {p : Pr} (h : matchA x F T t p) : (p.1, a.2.1, p.2) ∈ E' := by
 unfold matchA at h
 split at h
 · obtain ⟨h1, h2⟩ := h; rw [h1]; exact (hx.f _ _).1 h2
 · split at h
   · obtain ⟨h1, h2⟩ := h; rw [h1]; exact (hx.t _ _).1 h2
   · exact (hx.h p).1 h
theorem edge_matchA (hx : AlOk E' a.2.1 x) {F T : Nat} {p : Pr} (h : matchP F T t p) (he : (p.1, a.2.1, p.2) ∈ E') : matchA x F T t p := by
 unfold matchP at h
 unfold matchA
 split at h
 · rename_i c; rw [if_pos c]; rw [h] at he; exact ⟨h, (hx.f _ _).2 he⟩
 · rename_i c
   rw [if_neg c]
   split at h
   · rename_i c2; rw [if_pos c2]; rw [h] at he; exact ⟨h, (hx.t _ _).2 he⟩
   · rename_i c2; rw [if_neg c2]; exact (hx.h p).2 he
theorem row_done (hk : k < al.length) (ha : al[k] = a) (hx : AlOk E' a.2.1 x) (ht : RowK al E' k t) (hM : ∀ p, p ∈ M ↔ matchA x (ix (varsL al) a.1) (ix (varsL al) a.2.2) t p) (s : Tp) : (∃ p ∈ M, G1 al a t p = some s) ↔ ∃ p : Pr, (p.1, a.2.1, p.2) ∈ E' ∧ G1 al a t p = some s := by
 have hl : Lies t.length (nv al (k + 1)) (ix (varsL al) a.1) (ix (varsL al) a.2.2) := by rw [ht.1]; exact lies_k hk ha
 constructor
 · rintro ⟨p, h1, h2⟩; exact ⟨p, matchA_edge hx ((hM p).1 h1), h2⟩
 · rintro ⟨p, h1, h2⟩; exact ⟨p, (hM p).2 (edge_matchA hx (grow_match hl h2) h1), h2⟩
def R2 (al : List Atm) (a : Atm) (E' : List Ed) (S : Tp → Prop) (todo : List Lab) (t : Tp) (M : List Pr) (s : Tp) : Prop := GrS al a E' (fun u => S u ∧ idB u ∉ todo) s ∨ ∃ p ∈ M, G1 al a t p = some s
theorem r2_start (h : MapOf nx (GrS al a E' (fun u => S u ∧ idB u ∉ todo))) : MapOf nx (R2 al a E' S todo t []) := h.congr fun u => by simp [R2]
theorem r2_in (hE : ∀ e ∈ E', inI e.1 ∧ inI e.2.2) (hk : k < al.length) (ha : al[k] = a) (hS : ∀ t, S t → RowK al E' k t) (ht : S t) (hM : ∀ p ∈ M, (p.1, a.2.1, p.2) ∈ E') (u : Tp) (h : R2 al a E' S todo t M u) : InT u := by
 rcases h with h | ⟨p, h1, h2⟩
 · exact rowK_in hE (h.in_ hE hk ha fun t h => hS t h.1)
 · exact rowK_in hE (GrS.in_ (S := S) hE hk ha hS ⟨t, p, ht, hM p h1, h2⟩)
theorem r2_step {j : Nat} (hE : ∀ e ∈ E', inI e.1 ∧ inI e.2.2) (hk : k < al.length) (ha : al[k] = a) (hS : ∀ t, S t → RowK al E' k t) (ht : S t) (hM : ∀ p ∈ M, (p.1, a.2.1, p.2) ∈ E') (hj : j < M.length) {p : Pr} (hp : at' M (j : Int) = p) (h : MapOf nx (R2 al a E' S todo t (M.take j))) : MapOf (putG nx (G1 al a t p)) (R2 al a E' S todo t (M.take (j + 1))) := by
 have hpm : p ∈ M := by rw [← hp, at'_nat hj]; exact List.getElem_mem hj
 have h1 := gr_step (o := G1 al a t p) h (fun s hs => rowK_in hE (GrS.in_ (S := S) hE hk ha hS ⟨t, p, ht, hM p hpm, hs⟩)) (r2_in hE hk ha hS ht fun q hq => hM q ((List.take_subset _ _) hq))
 refine MapOf.congr (m := putG nx (G1 al a t p)) (S := fun u => R2 al a E' S todo t (M.take j) u ∨ G1 al a t p = some u) ?_ fun u => ?_
 · exact h1
 · rw [List.take_succ_eq_append_getElem hj, ← at'_nat hj, hp]
   unfold R2
   simp only [List.mem_append, List.mem_singleton]
   constructor
   · rintro ((h2 | ⟨q, h2, h3⟩) | h2)
     · exact .inl h2
     · exact .inr ⟨q, .inl h2, h3⟩
     · exact .inr ⟨p, .inr rfl, h2⟩
   · rintro (h2 | ⟨q, h2 | rfl, h3⟩)
     · exact .inl (.inl h2)
     · exact .inl (.inr ⟨q, h2, h3⟩)
     · exact .inr h3
theorem r2_done (hE : ∀ e ∈ E', inI e.1 ∧ inI e.2.2) (hk : k < al.length) (ha : al[k] = a) (hx : AlOk E' a.2.1 x) (hS : ∀ t, S t → RowK al E' k t) (ht : S t) (hn : todo.Nodup) (htd : idB t ∈ todo) (hM : ∀ p, p ∈ M ↔ matchA x (ix (varsL al) a.1) (ix (varsL al) a.2.2) t p) (h : MapOf nx (R2 al a E' S todo t M)) : MapOf nx (GrS al a E' (fun u => S u ∧ idB u ∉ ers todo (idB t))) := by
 refine h.congr fun s => ?_
 unfold R2
 rw [row_done hk ha hx (hS t ht) hM]
 have hu := undone (S := S) (fun u hu => rowK_in hE (hS u hu)) ht hn htd
 constructor
 · rintro (⟨u, p, h1, h2, h3⟩ | ⟨p, h1, h2⟩)
   · exact ⟨u, p, (hu u).2 (.inl h1), h2, h3⟩
   · exact ⟨t, p, (hu t).2 (.inr rfl), h1, h2⟩
 · rintro ⟨u, p, h1, h2, h3⟩
   rcases (hu u).1 h1 with h4 | rfl
   · exact .inl ⟨u, p, h4, h2, h3⟩
   · exact .inr ⟨p, h2, h3⟩
def R3 (al : List Atm) (a : Atm) (E E' : List Ed) (k : Nat) (e : Ed) (todo : List Lab) (s : Tp) : Prop := GrS al a E' (NewK al E E' k) s ∨ ∃ t, (RowK al E k t ∧ idB t ∉ todo) ∧ G1 al a t (e.1, e.2.2) = some s
theorem r3_start (h : MapOf nx (GrS al a E' (fun u => NewK al E E' k u ∧ idB u ∉ ([] : List Lab)))) {m : Rw} (hm : MapOf m (RowK al E k)) : MapOf nx (R3 al a E E' k e (keys m)) := h.congr fun s => by
 unfold R3
 constructor
 · rintro ⟨u, p, h1, h2⟩; exact .inl ⟨u, p, h1.1, h2⟩
 · rintro (⟨u, p, h1, h2⟩ | ⟨u, h1, h2⟩)
   · exact ⟨u, p, ⟨h1, by simp⟩, h2⟩
   · exact absurd (hm.key.2 ⟨u, rfl, h1.1⟩) h1.2
theorem r3_step (hE : ∀ e ∈ E', inI e.1 ∧ inI e.2.2) (hE2 : ∀ x, x ∈ E' ↔ x ∈ E ∨ x = e) (hk : k < al.length) (ha : al[k] = a) (hl : a.2.1 = e.2.1) (ht : RowK al E k t) (hn : todo.Nodup) (htd : idB t ∈ todo) (h : MapOf nx (R3 al a E E' k e todo)) : MapOf (putG nx (G1 al a t (e.1, e.2.2))) (R3 al a E E' k e (ers todo (idB t))) := by
 have hsub : ∀ u, RowK al E k u → RowK al E' k u := fun u => rowK_sub fun x hx => (hE2 x).2 (.inl hx)
 have hee : ((e.1, e.2.2).1, a.2.1, (e.1, e.2.2).2) ∈ E' := by rw [hl]; exact (hE2 e).2 (.inr rfl)
 have hin : ∀ u s, RowK al E k u → G1 al a u (e.1, e.2.2) = some s → InT s := fun u s hu hs => rowK_in hE (GrS.in_ (S := RowK al E k) hE hk ha hsub ⟨u, _, hu, hee, hs⟩)
 have h1 := gr_step (o := G1 al a t (e.1, e.2.2)) h (fun s hs => hin t s ht hs) (fun u hu => by
  rcases hu with hu | ⟨v, h2, h3⟩
  · exact rowK_in hE (hu.in_ hE hk ha fun t h => h.1)
  · exact hin v u h2.1 h3)
 refine MapOf.congr (m := putG nx (G1 al a t (e.1, e.2.2))) (S := fun u => R3 al a E E' k e todo u ∨ G1 al a t (e.1, e.2.2) = some u) ?_ fun s => ?_
 · exact h1
 · have hu := undone (S := RowK al E k) (fun u hu => rowK_in hE (hsub u hu)) ht hn htd
   unfold R3
   constructor
   · rintro ((h2 | ⟨u, h2, h3⟩) | h2)
     · exact .inl h2
     · exact .inr ⟨u, (hu u).2 (.inl h2), h3⟩
     · exact .inr ⟨t, (hu t).2 (.inr rfl), h2⟩
   · rintro (h2 | ⟨u, h2, h3⟩)
     · exact .inl (.inl h2)
     · rcases (hu u).1 h2 with h4 | rfl
       · exact .inl (.inr ⟨u, h4, h3⟩)
       · exact .inr h3
theorem r3_done (hk : k < al.length) (ha : al[k] = a) (hE2 : ∀ x, x ∈ E' ↔ x ∈ E ∨ x = e) (hn : e ∉ E) (hl : a.2.1 = e.2.1) (h : MapOf nx (R3 al a E E' k e [])) : MapOf nx (NewK al E E' (k + 1)) := h.congr fun s => by
 rw [new_succ hk ha hE2 hn]
 unfold R3 GrS
 constructor
 · rintro (h2 | ⟨u, h2, h3⟩)
   · exact .inl h2
   · exact .inr ⟨hl, u, h2.1, h3⟩
 · rintro (h2 | ⟨_, u, h2, h3⟩)
   · exact .inl h2
   · exact .inr ⟨u, ⟨h2, by simp⟩, h3⟩
theorem r3_none (hk : k < al.length) (ha : al[k] = a) (hE2 : ∀ x, x ∈ E' ↔ x ∈ E ∨ x = e) (hn : e ∉ E) (hl : ¬ a.2.1 = e.2.1) (h : MapOf nx (GrS al a E' (fun u => NewK al E E' k u ∧ idB u ∉ ([] : List Lab)))) : MapOf nx (NewK al E E' (k + 1)) := h.congr fun s => by
 rw [new_succ hk ha hE2 hn]
 unfold GrS
 constructor
 · rintro ⟨u, p, h1, h2⟩; exact .inl ⟨u, p, h1.1, h2⟩
 · rintro (⟨u, p, h1, h2⟩ | ⟨h1, _⟩)
   · exact ⟨u, p, ⟨h1, by simp⟩, h2⟩
   · exact absurd h1 hl
def R4 (al : List Atm) (E E' : List Ed) (k : Nat) (todo : List Lab) (s : Tp) : Prop := RowK al E k s ∨ (NewK al E E' k s ∧ idB s ∉ todo)
theorem r4_start {m fr : Rw} (hm : MapOf m (RowK al E k)) (hf : MapOf fr (NewK al E E' k)) : MapOf m (R4 al E E' k (keys fr)) := hm.congr fun s => by
 unfold R4
 exact ⟨.inl, fun h => h.elim id fun h2 => absurd (hf.key.2 ⟨s, rfl, h2.1⟩) h2.2⟩
theorem r4_sub (hE2 : ∀ x ∈ E, x ∈ E') {s : Tp} (h : R4 al E E' k todo s) : RowK al E' k s := h.elim (rowK_sub hE2) fun h => h.1.1
theorem r4_step {m : Rw} (hE : ∀ e ∈ E', inI e.1 ∧ inI e.2.2) (hE2 : ∀ x ∈ E, x ∈ E') (ht : NewK al E E' k t) (hn : todo.Nodup) (htd : idB t ∈ todo) (h : MapOf m (R4 al E E' k todo)) : MapOf (ptk (idB t) t m) (R4 al E E' k (ers todo (idB t))) := by
 refine (h.put (rowK_in hE ht.1) fun u hu => rowK_in hE (r4_sub hE2 hu)).congr fun s => ?_
 have hu := undone (S := NewK al E E' k) (fun u hu => rowK_in hE hu.1) ht hn htd
 unfold R4
 rw [hu]
 constructor
 · rintro ((h1 | h1) | h1)
   · exact .inl h1
   · exact .inr (.inl h1)
   · exact .inr (.inr h1)
 · rintro (h1 | h1 | h1)
   · exact .inl (.inl h1)
   · exact .inl (.inr h1)
   · exact .inr h1
theorem r4_done {m : Rw} (hE2 : ∀ x ∈ E, x ∈ E') (h : MapOf m (R4 al E E' k [])) : MapOf m (RowK al E' k) := h.congr fun s => by
 unfold R4
 constructor
 · exact fun h => r4_sub hE2 h
 · intro h1
   by_cases c : RowK al E k s
   · exact .inl c
   · exact .inr ⟨⟨h1, c⟩, by simp⟩
theorem r4_new {m : Rw} (hE : ∀ e ∈ E', inI e.1 ∧ inI e.2.2) (hE2 : ∀ x ∈ E, x ∈ E') (ht : NewK al E E' k t) (htd : idB t ∈ todo) (h : MapOf m (R4 al E E' k todo)) : idB t ∉ keys m := fun hm => by
 obtain ⟨u, h1, h2⟩ := h.key.1 hm
 have := idB_inj (rowK_in hE ht.1) (rowK_in hE (r4_sub hE2 h2)) h1
 subst this
 rcases h2 with h2 | h2
 · exact ht.2 h2
 · exact h2.2 htd
theorem put_snd {m : Rw} (h : idB t ∉ keys m) : ((ptk (idB t) t m).map Prod.snd).Perm (t :: m.map Prod.snd) := by
 rw [ptk_new h, List.map_append]
 exact List.perm_append_comm
structure InsK (al : List Atm) (E E' : List Ed) (k : Nat) (fr : Rw) (lv : List Rw) : Prop where
 kle : k ≤ al.length
 fr : MapOf fr (NewK al E E' k)
 len : lv.length = al.length + 1
 rows : ∀ j, j ≤ al.length → MapOf (lv.getD j []) (fun t => (j < k ∧ RowK al E' j t) ∨ (¬ j < k ∧ RowK al E j t))
theorem InsK.here {fr : Rw} {lv : List Rw} (h : InsK al E E' k fr lv) (hk : k < lv.length) : MapOf lv[k] (RowK al E k) := by
 have h1 := h.rows k h.kle
 rw [List.getD_eq_getElem?_getD, List.getElem?_eq_getElem hk] at h1
 exact h1.congr fun t => by simp
theorem InsK.next {fr m : Rw} {lv : List Rw} (h : InsK al E E' k fr lv) (hk : k < al.length) (hn : MapOf nx (NewK al E E' (k + 1))) (hm : MapOf m (RowK al E' k)) : InsK al E E' (k + 1) nx (lv.set k m) where
 kle := hk
 fr := hn
 len := by rw [List.length_set]; exact h.len
 rows := fun j hj => by
  have hl := h.len
  by_cases c : j = k
  · subst c
    rw [List.getD_eq_getElem?_getD, List.getElem?_set_self (by omega)]
    exact hm.congr fun t => by simp
  · rw [List.getD_eq_getElem?_getD, List.getElem?_set_ne (Ne.symm c), ← List.getD_eq_getElem?_getD]
    refine (h.rows j hj).congr fun t => ?_
    have e : j < k ↔ j < k + 1 := by omega
    rw [e]
theorem ins_start {lv : List Rw} (hl : lv.length = al.length + 1) (h : ∀ k, k ≤ al.length → MapOf (lv.getD k []) (RowK al E k)) : InsK al E E' 0 [] lv := ⟨Nat.zero_le _, MapOf.nil.congr fun t => ⟨fun h => h.elim, fun h => new_zero h⟩, hl, fun j hj => (h j hj).congr fun t => by simp⟩
theorem ins_end {fr m : Rw} {lv : List Rw} (h : InsK al E E' al.length fr lv) (hm : MapOf m (RowK al E' al.length)) : ∀ k, k ≤ al.length → MapOf ((lv.set al.length m).getD k []) (RowK al E' k) := fun j hj => by
 have hl := h.len
 by_cases c : j = al.length
 · subst c
   rw [List.getD_eq_getElem?_getD, List.getElem?_set_self (by omega)]; exact hm
 · rw [List.getD_eq_getElem?_getD, List.getElem?_set_ne (Ne.symm c), ← List.getD_eq_getElem?_getD]
   refine (h.rows j hj).congr fun t => ?_
   have : j < al.length := by omega
   simp [this]
end
end Go.Proofs.YtaahhghlpoiihaaGreatDoor
namespace Go.Proofs.YtaahhghlpoiihaaGreatDoor
open Go Go.Gw Go.So Go.Tu Go.Jn Go.Nt
set_option linter.unusedVariables false
theorem lv_close {gl : List Nat} {lv : List Rw} {k : Nat} {m : Rw} {X Z : List It} (h1 : k < gl.length) (h2 : k < lv.length) : (MapI gl[k] encS kT.T m :: (X ++ (lvI (gl.eraseIdx k) (lv.eraseIdx k) ++ Z))).Perm (X ++ (lvI gl (lv.set k m) ++ Z)) := by
 have h3 := (lvI_back (m' := m) h1 h2).append_right Z
 have h4 : ([MapI gl[k] encS kT.T m] ++ X).Perm (X ++ [MapI gl[k] encS kT.T m]) := List.perm_append_comm
 have h5 := (h4.append_right (lvI (gl.eraseIdx k) (lv.eraseIdx k) ++ Z))
 refine List.Perm.trans ?_ (h3.append_left X)
 simpa only [List.append_assoc, List.cons_append, List.nil_append] using h5
theorem lv_same {gl : List Nat} {lv : List Rw} {k : Nat} {X Z : List It} (h1 : k < gl.length) (h2 : k < lv.length) : (MapI gl[k] encS kT.T lv[k] :: (X ++ (lvI (gl.eraseIdx k) (lv.eraseIdx k) ++ Z))).Perm (X ++ (lvI gl lv ++ Z)) := by
 have := lv_close (m := lv[k]) (X := X) (Z := Z) h1 h2
 rwa [List.set_getElem_self] at this
theorem lv_open {gl : List Nat} {lv : List Rw} {k : Nat} {X Z : List It} (h1 : k < gl.length) (h2 : k < lv.length) : (X ++ (lvI gl lv ++ Z)).Perm (MapI gl[k] encS kT.T lv[k] :: (X ++ (lvI (gl.eraseIdx k) (lv.eraseIdx k) ++ Z))) := (lv_same h1 h2).symm
theorem okV_lens {v : Vw} (h : okV v = true) : v.2.2.1.length ≤ 6 ∧ 1 ≤ v.2.2.2.1.length ∧ v.2.2.2.1.length ≤ 8 ∧ ∀ o ∈ v.2.2.1, o ∈ varsL v.2.2.2.1 := by
 have h6 := h
 unfold okV patB outB at h6
 simp only [Bool.and_eq_true, decide_eq_true_eq, List.all_eq_true] at h6
 refine ⟨by omega, by omega, by omega, fun o ho => by simpa using h6.2.1 o ho⟩
theorem nv_len (al : List Atm) (k : Nat) (h : al.length ≤ 8) : nv al k ≤ 16 := by
 have := varsL_len (al.take k)
 rw [List.length_take] at this
 unfold nv; omega
theorem nv_all (al : List Atm) : nv al al.length = (varsL al).length := by unfold nv; rw [List.take_length]
theorem cnt_same {m m' : Rw} {S : Tp → Prop} {c : List (Lab × Int)} {f : Tp → Lab} (h : MapOf m S) (h' : MapOf m' S) (hc : CntOf c f (m.map Prod.snd)) : CntOf c f (m'.map Prod.snd) := hc.perm (perm_mem h.rows.1 h'.rows.1 fun x => by rw [h.rows.2, h'.rows.2])
theorem getD_at {lv : List Rw} {k : Nat} (h : k < lv.length) : lv.getD k [] = lv[k] := by rw [List.getD_eq_getElem?_getD, List.getElem?_eq_getElem h]; rfl
theorem getD_set {lv : List Rw} {k : Nat} {m : Rw} (h : k < lv.length) : (lv.set k m).getD k [] = m := by rw [List.getD_eq_getElem?_getD, List.getElem?_set_self h]; rfl
theorem sub_small {al : List Atm} {E : List Ed} {k : Nat} {m : Rw} {S : Tp → Prop} (h : MapOf m S) (hS : ∀ t, S t → RowK al E k t) (hE : E.Nodup) (hn : E.length ≤ 100) (hk : k ≤ al.length) (ha : al.length ≤ 8) : m.length ≤ 10000000000000000 := by
 have h1 := sub_len h.rows.1 (fun t ht => rowK_rows.2 (hS t ((h.rows.2 t).1 ht))) (rowK_nodup (al := al) (E := E) (k := k))
 rw [List.length_map] at h1
 exact Nat.le_trans h1 (Nat.le_trans (rows_pow hE k hk) (pow_small hn (by omega)))
theorem cnt_bd {m : Rw} {c : List (Lab × Int)} {f : Tp → Lab} (h : CntOf c f (m.map Prod.snd)) (hm : m.length ≤ 10000000000000000) (s : Lab) : 0 ≤ (lkp s c).getD 0 ∧ (lkp s c).getD 0 ≤ 10000000000000000 := by
 rw [h.get]
 have : cnt f (m.map Prod.snd) s ≤ (m.map Prod.snd).length := List.countP_le_length
 rw [List.length_map] at this
 omega
end Go.Proofs.YtaahhghlpoiihaaGreatDoor
