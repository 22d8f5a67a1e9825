/- Walks through the Go functions api.Tuple], api.Tuple], api.Tuple], api.Tuple], as typed contracts. -/
import Derived.Test.YtloblpklkhepbaaSo1
import Derived.Test.YtloblpklkhepbaaG13
namespace Go.Proofs.Ytloblpklkhepbaa
open Go Go.Gw Go.So
set_option linter.unusedVariables false
set_option linter.unusedSimpArgs false
variable {K0 : FH} {n0 : Nat}
abbrev kJ : Kd Int := kint .i64
theorem zz3 : ZeroOf Try.prog 3 kJ 0 := ⟨.int .i64 0, by kernel_rfl, fun H => rfl⟩

set_option maxHeartbeats 1000000 in
set_option maxRecDepth 20000 in
/-- slices.order2CmpFunc[rhizome/api.Tuple] -/
theorem order2_fn (v fv : Value) (d : DA) (a b g : Nat) (n : Int) (c : List Int → List Int → Int) (ha : a < d.size) (hb : b < d.size) (hfv : ∀ x y, CtV Try.prog fv [(kF K0 n0).T x, (kF K0 n0).T y] [] Unit (fun _ => I64 (c x y)) (fun _ => []) (fun _ => True)) : Ct Try.prog 95 [IsV v, I64 (a : Int), I64 (b : Int), IsV (pt g 0), IsV fv] ([OwnI 38 (kF K0 n0) v d.toList, BlkI g 3 kJ n]) (Nat × Nat × Int) (fun r => TupT [I64 (r.1 : Int), I64 (r.2.1 : Int)]) (fun r => [OwnI 38 (kF K0 n0) v d.toList, BlkI g 3 kJ r.2.2]) (fun r => (r.1 = a ∧ r.2.1 = b) ∨ (r.1 = b ∧ r.2.1 = a)) := by
  refine fn_intro Try.func95 rfl rfl ?_
  intro H w
  have hl1 : d.toList.length = d.size := Array.length_toList
  refine tr_seq ?_
  -- region 0
  refine tr_env (es_cons (t := 0) (OT.tmp rfl) (es_cons (t := 1) (OT.tmp rfl) (es_cons (t := 2) (OT.tmp rfl) (es_cons (t := 3) (OT.tmp rfl) (es_cons (t := 4) (OT.tmp rfl) es_nil))))) ?_
  refine tr_region ?_
  refine op_pure (pu_assign OT.const) rfl rfl ?_
  refine op_pure (pu_assign OT.const) rfl rfl ?_
  refine tr_nil ?_
  refine then_normal ?_
  refine tr_seq ?_
  refine tr_seq ?_
  -- region 1
  refine tr_env (es_cons (t := 0) (OT.tmp rfl) (es_cons (t := 1) (OT.tmp rfl) (es_cons (t := 2) (OT.tmp rfl) (es_cons (t := 3) (OT.tmp rfl) (es_cons (t := 4) (OT.tmp rfl) es_nil))))) ?_
  apply tr_any (m := 9) (ns := [[(4, none)], [(0, none)], [(2, none)], [(13, some 1), (14, some 2)], [(15, some 3)], [(0, none)], [(1, none)], [(17, some 5), (18, some 6)], [(19, some 7)]]) (by kernel_rfl) (by kernel_rfl) (Ts := [_, _, _, _, _, _, _, _, _]) rfl
  case hops =>
    refine ⟨?_, ⟨?_, ⟨?_, ⟨?_, ⟨?_, ⟨?_, ⟨?_, ⟨?_, ⟨?_, trivial⟩⟩⟩⟩⟩⟩⟩⟩⟩
    · exact rop_pure rfl (pu_move (OT.tmp rfl))
    · exact rop_pure rfl (pu_move (OT.tmp rfl))
    · exact rop_pure rfl (pu_move (OT.tmp rfl))
    · exact rop_pure rfl (pu_index_own (OT.tmp rfl) (by exact mem_at 0 rfl) (OT.tmp rfl) Try.underlying40 (show tyOk Try.prog 38 false 1 = true from by decide +kernel) (by omega) (by omega))
    · exact rop_pure rfl (pu_load_own0 (OT.tmp rfl) (by exact mem_at 0 rfl) (by omega) (by omega) (show tyOk Try.prog 38 false 1 = true from by decide +kernel))
    · exact rop_pure rfl (pu_move (OT.tmp rfl))
    · exact rop_pure rfl (pu_move (OT.tmp rfl))
    · exact rop_pure rfl (pu_index_own (OT.tmp rfl) (by exact mem_at 0 rfl) (OT.tmp rfl) Try.underlying40 (show tyOk Try.prog 38 false 1 = true from by decide +kernel) (by omega) (by omega))
    · exact rop_pure rfl (pu_load_own0 (OT.tmp rfl) (by exact mem_at 0 rfl) (by omega) (by omega) (show tyOk Try.prog 38 false 1 = true from by decide +kernel))
  case h =>
    refine op_acts (acts_callv (OT.tmp rfl) (hfv _ _) (OTs.cons (OT.tmp rfl) (OTs.cons (OT.tmp rfl) OTs.nil)) (List.Perm.refl _)) (List.Perm.refl _) rfl rfl (fun _ _ => ?_)
    refine op_pure (pu_lss (OT.tmp rfl) OT.const) rfl rfl ?_
    refine tr_nil ?_
    refine then_normal ?_
    refine tr_cond (OT.tmp rfl) (fun c22 => ?_) (fun c22 => ?_)
    · try simp only [decide_eq_true_eq, decide_eq_false_iff_not, Bool.or_eq_true, Bool.and_eq_true, Bool.or_eq_false_iff, Bool.and_eq_false_iff, Bool.not_eq_true', Bool.not_eq_false', ne_eq, Classical.not_not] at c22
      refine tr_seq ?_
      -- region 2
      refine tr_env (es_cons (t := 1) (OT.tmp rfl) (es_cons (t := 2) (OT.tmp rfl) (es_cons (t := 3) (OT.tmp rfl) es_nil))) ?_
      refine tr_region ?_
      refine op_pure (pu_move (OT.tmp rfl)) rfl rfl ?_
      refine op_pure (pu_nilCheck (OT.tmp rfl)) rfl rfl ?_
      refine op_pure (pu_load_var (OT.tmp rfl) (by exact mem_at 1 rfl) (show tyOk Try.prog 3 false 1 = true from by decide +kernel)) rfl rfl ?_
      refine op_pure (pu_add (OT.tmp rfl) OT.const) rfl rfl ?_
      refine op_pure (pu_nilCheck (OT.tmp rfl)) rfl rfl ?_
      refine op_acts (acts_store_var (OT.tmp rfl) (OT.tmp rfl) (by exact perm_at 1 rfl) (show tyOk Try.prog 3 false 1 = true from by decide +kernel)) (by exact perm_at 1 rfl) rfl rfl (fun _ _ => ?_)
      refine tr_nil ?_
      refine then_normal ?_
      refine tr_seq ?_
      -- region 3
      refine tr_env (es_cons (t := 1) (OT.tmp rfl) (es_cons (t := 2) (OT.tmp rfl) es_nil)) ?_
      refine tr_region ?_
      refine op_pure (pu_move (OT.tmp rfl)) rfl rfl ?_
      refine op_pure (pu_move (OT.tmp rfl)) rfl rfl ?_
      refine op_pure (pu_assign (OT.tmp rfl)) rfl rfl ?_
      refine op_pure (pu_assign (OT.tmp rfl)) rfl rfl ?_
      refine tr_nil ?_
      refine then_normal ?_
      refine tr_ret ?_
      refine then_ret ?_
      exact ret_two .ret (.inl rfl) rfl (b, a, IntKind.i64.wrap (n + 1)) (OT.tmp rfl) (OT.tmp rfl) (fun _ _ h => h) (.inr ⟨rfl, rfl⟩) (by repeat (first | exact picks_nil | refine picks_cons 0 rfl ?_ | refine picks_cons 1 rfl ?_ | refine picks_cons 2 rfl ?_ | refine picks_cons 3 rfl ?_ | refine picks_cons 4 rfl ?_ | refine picks_cons 5 rfl ?_ | refine picks_cons 6 rfl ?_))
    · try simp only [decide_eq_true_eq, decide_eq_false_iff_not, Bool.or_eq_true, Bool.and_eq_true, Bool.or_eq_false_iff, Bool.and_eq_false_iff, Bool.not_eq_true', Bool.not_eq_false', ne_eq, Classical.not_not] at c22
      refine tr_skip ?_
      refine then_normal ?_
      refine tr_seq ?_
      -- region 4
      refine tr_env (es_cons (t := 1) (OT.tmp rfl) (es_cons (t := 2) (OT.tmp rfl) es_nil)) ?_
      refine tr_region ?_
      refine op_pure (pu_move (OT.tmp rfl)) rfl rfl ?_
      refine op_pure (pu_move (OT.tmp rfl)) rfl rfl ?_
      refine op_pure (pu_assign (OT.tmp rfl)) rfl rfl ?_
      refine op_pure (pu_assign (OT.tmp rfl)) rfl rfl ?_
      refine tr_nil ?_
      refine then_normal ?_
      refine tr_ret ?_
      exact ret_two .ret (.inl rfl) rfl (a, b, n) (OT.tmp rfl) (OT.tmp rfl) (fun _ _ h => h) (.inl ⟨rfl, rfl⟩) (by repeat (first | exact picks_nil | refine picks_cons 0 rfl ?_ | refine picks_cons 1 rfl ?_ | refine picks_cons 2 rfl ?_ | refine picks_cons 3 rfl ?_ | refine picks_cons 4 rfl ?_ | refine picks_cons 5 rfl ?_ | refine picks_cons 6 rfl ?_))
set_option maxHeartbeats 1000000 in
set_option maxRecDepth 20000 in
/-- slices.medianCmpFunc[rhizome/api.Tuple] -/
theorem median_fn (v fv : Value) (d : DA) (a b e g : Nat) (n : Int) (c : List Int → List Int → Int) (ha : a < d.size) (hb : b < d.size) (he : e < d.size) (hfv : ∀ x y, CtV Try.prog fv [(kF K0 n0).T x, (kF K0 n0).T y] [] Unit (fun _ => I64 (c x y)) (fun _ => []) (fun _ => True)) : Ct Try.prog 94 [IsV v, I64 (a : Int), I64 (b : Int), I64 (e : Int), IsV (pt g 0), IsV fv] ([OwnI 38 (kF K0 n0) v d.toList, BlkI g 3 kJ n]) (Nat × Int) (fun r => I64 (r.1 : Int)) (fun r => [OwnI 38 (kF K0 n0) v d.toList, BlkI g 3 kJ r.2]) (fun r => r.1 = a ∨ r.1 = b ∨ r.1 = e) := by
  refine fn_intro Try.func94 rfl rfl ?_
  intro H w
  refine tr_seq ?_
  -- region 0
  refine tr_env (es_cons (t := 0) (OT.tmp rfl) (es_cons (t := 1) (OT.tmp rfl) (es_cons (t := 2) (OT.tmp rfl) (es_cons (t := 3) (OT.tmp rfl) (es_cons (t := 4) (OT.tmp rfl) (es_cons (t := 5) (OT.tmp rfl) es_nil)))))) ?_
  refine tr_region ?_
  refine op_pure (pu_assign OT.const) rfl rfl ?_
  refine tr_nil ?_
  refine then_normal ?_
  refine tr_seq ?_
  -- region 1
  refine tr_env (es_cons (t := 0) (OT.tmp rfl) (es_cons (t := 1) (OT.tmp rfl) (es_cons (t := 2) (OT.tmp rfl) (es_cons (t := 3) (OT.tmp rfl) (es_cons (t := 4) (OT.tmp rfl) (es_cons (t := 5) (OT.tmp rfl) es_nil)))))) ?_
  refine tr_region ?_
  refine op_pure (pu_move (OT.tmp rfl)) rfl rfl ?_
  refine op_pure (pu_move (OT.tmp rfl)) rfl rfl ?_
  refine op_pure (pu_move (OT.tmp rfl)) rfl rfl ?_
  refine op_pure (pu_move (OT.tmp rfl)) rfl rfl ?_
  refine op_pure (pu_move (OT.tmp rfl)) rfl rfl ?_
  refine op_acts (acts_call (order2_fn v fv d a b g n c ha hb hfv) (show enters Try.prog 95 = true from by decide +kernel) (OTs.cons (OT.tmp rfl) (OTs.cons (OT.tmp rfl) (OTs.cons (OT.tmp rfl) (OTs.cons (OT.tmp rfl) (OTs.cons (OT.tmp rfl) OTs.nil))))) (List.Perm.trans (by exact perm_at 0 rfl) (List.Perm.cons _ (by exact perm_at 0 rfl)))) (List.Perm.trans (by exact perm_at 0 rfl) (List.Perm.cons _ (by exact perm_at 0 rfl))) rfl rfl (fun ⟨x1_5, y1_5, m1_5⟩ hp1_5 => ?_)
  refine op_pure (pu_move (OT.tmp rfl)) rfl rfl ?_
  refine op_pure (pu_extract (OT.tmp rfl) rfl) rfl rfl ?_
  refine op_pure (pu_extract (OT.tmp rfl) rfl) rfl rfl ?_
  refine op_pure (pu_assign (OT.tmp rfl)) rfl rfl ?_
  refine op_pure (pu_assign (OT.tmp rfl)) rfl rfl ?_
  refine tr_nil ?_
  refine then_normal ?_
  refine tr_seq ?_
  -- region 2
  refine tr_env (es_cons (t := 0) (OT.tmp rfl) (es_cons (t := 1) (OT.tmp rfl) (es_cons (t := 2) (OT.tmp rfl) (es_cons (t := 3) (OT.tmp rfl) (es_cons (t := 4) (OT.tmp rfl) (es_cons (t := 5) (OT.tmp rfl) es_nil)))))) ?_
  dsimp only at hp1_5 ⊢
  have hx1 : x1_5 < d.size := by omega
  have hy1 : y1_5 < d.size := by omega
  refine tr_region ?_
  refine op_pure (pu_move (OT.tmp rfl)) rfl rfl ?_
  refine op_pure (pu_move (OT.tmp rfl)) rfl rfl ?_
  refine op_pure (pu_move (OT.tmp rfl)) rfl rfl ?_
  refine op_pure (pu_move (OT.tmp rfl)) rfl rfl ?_
  refine op_pure (pu_move (OT.tmp rfl)) rfl rfl ?_
  refine op_acts (acts_call (order2_fn v fv d y1_5 e g m1_5 c hy1 he hfv) (show enters Try.prog 95 = true from by decide +kernel) (OTs.cons (OT.tmp rfl) (OTs.cons (OT.tmp rfl) (OTs.cons (OT.tmp rfl) (OTs.cons (OT.tmp rfl) (OTs.cons (OT.tmp rfl) OTs.nil))))) (List.Perm.trans (by exact perm_at 0 rfl) (List.Perm.cons _ (by exact perm_at 0 rfl)))) (List.Perm.trans (by exact perm_at 0 rfl) (List.Perm.cons _ (by exact perm_at 0 rfl))) rfl rfl (fun ⟨x2_5, y2_5, m2_5⟩ hp2_5 => ?_)
  refine op_pure (pu_move (OT.tmp rfl)) rfl rfl ?_
  refine op_pure (pu_extract (OT.tmp rfl) rfl) rfl rfl ?_
  refine op_pure (pu_extract (OT.tmp rfl) rfl) rfl rfl ?_
  refine op_pure (pu_assign (OT.tmp rfl)) rfl rfl ?_
  refine op_pure (pu_assign (OT.tmp rfl)) rfl rfl ?_
  refine tr_nil ?_
  refine then_normal ?_
  refine tr_seq ?_
  -- region 3
  refine tr_env (es_cons (t := 0) (OT.tmp rfl) (es_cons (t := 1) (OT.tmp rfl) (es_cons (t := 2) (OT.tmp rfl) (es_cons (t := 4) (OT.tmp rfl) (es_cons (t := 5) (OT.tmp rfl) es_nil))))) ?_
  dsimp only at hp2_5 ⊢
  have hx2 : x2_5 < d.size := by omega
  have hy2 : y2_5 < d.size := by omega
  refine tr_region ?_
  refine op_pure (pu_move (OT.tmp rfl)) rfl rfl ?_
  refine op_pure (pu_move (OT.tmp rfl)) rfl rfl ?_
  refine op_pure (pu_move (OT.tmp rfl)) rfl rfl ?_
  refine op_pure (pu_move (OT.tmp rfl)) rfl rfl ?_
  refine op_pure (pu_move (OT.tmp rfl)) rfl rfl ?_
  refine op_acts (acts_call (order2_fn v fv d x1_5 x2_5 g m2_5 c hx1 hx2 hfv) (show enters Try.prog 95 = true from by decide +kernel) (OTs.cons (OT.tmp rfl) (OTs.cons (OT.tmp rfl) (OTs.cons (OT.tmp rfl) (OTs.cons (OT.tmp rfl) (OTs.cons (OT.tmp rfl) OTs.nil))))) (List.Perm.trans (by exact perm_at 0 rfl) (List.Perm.cons _ (by exact perm_at 0 rfl)))) (List.Perm.trans (by exact perm_at 0 rfl) (List.Perm.cons _ (by exact perm_at 0 rfl))) rfl rfl (fun ⟨x3_5, y3_5, m3_5⟩ hp3_5 => ?_)
  refine op_pure (pu_move (OT.tmp rfl)) rfl rfl ?_
  refine op_pure (pu_extract (OT.tmp rfl) rfl) rfl rfl ?_
  refine op_pure (pu_extract (OT.tmp rfl) rfl) rfl rfl ?_
  refine op_pure (pu_assign (OT.tmp rfl)) rfl rfl ?_
  refine op_pure (pu_assign (OT.tmp rfl)) rfl rfl ?_
  refine tr_nil ?_
  refine then_normal ?_
  refine tr_seq ?_
  -- region 4
  refine tr_env (es_cons (t := 2) (OT.tmp rfl) es_nil) ?_
  refine tr_region ?_
  refine op_pure (pu_move (OT.tmp rfl)) rfl rfl ?_
  refine op_pure (pu_assign (OT.tmp rfl)) rfl rfl ?_
  refine tr_nil ?_
  refine then_normal ?_
  refine tr_ret ?_
  exact ret_one .ret (.inl rfl) rfl (y3_5, m3_5) (OT.tmp rfl) (by dsimp only at hp3_5 ⊢; omega) (by repeat (first | exact picks_nil | refine picks_cons 0 rfl ?_ | refine picks_cons 1 rfl ?_ | refine picks_cons 2 rfl ?_ | refine picks_cons 3 rfl ?_ | refine picks_cons 4 rfl ?_ | refine picks_cons 5 rfl ?_ | refine picks_cons 6 rfl ?_))
set_option maxHeartbeats 1000000 in
set_option maxRecDepth 20000 in
/-- slices.medianAdjacentCmpFunc[rhizome/api.Tuple] -/
theorem medadj_fn (v fv : Value) (d : DA) (a g : Nat) (n : Int) (c : List Int → List Int → Int) (ha : 0 < a) (hb : a + 1 < d.size) (hm : d.size < 4611686018427387904) (hfv : ∀ x y, CtV Try.prog fv [(kF K0 n0).T x, (kF K0 n0).T y] [] Unit (fun _ => I64 (c x y)) (fun _ => []) (fun _ => True)) : Ct Try.prog 93 [IsV v, I64 (a : Int), IsV (pt g 0), IsV fv] ([OwnI 38 (kF K0 n0) v d.toList, BlkI g 3 kJ n]) (Nat × Int) (fun r => I64 (r.1 : Int)) (fun r => [OwnI 38 (kF K0 n0) v d.toList, BlkI g 3 kJ r.2]) (fun r => a ≤ r.1 + 1 ∧ r.1 ≤ a + 1) := by
  refine fn_intro Try.func93 rfl rfl ?_
  intro H w
  refine tr_seq ?_
  -- region 0
  refine tr_env (es_cons (t := 0) (OT.tmp rfl) (es_cons (t := 1) (OT.tmp rfl) (es_cons (t := 2) (OT.tmp rfl) (es_cons (t := 3) (OT.tmp rfl) es_nil)))) ?_
  refine tr_region ?_
  refine op_pure (pu_assign OT.const) rfl rfl ?_
  refine tr_nil ?_
  refine then_normal ?_
  refine tr_seq ?_
  -- region 1
  refine tr_env (es_cons (t := 0) (OT.tmp rfl) (es_cons (t := 1) (OT.tmp rfl) (es_cons (t := 2) (OT.tmp rfl) (es_cons (t := 3) (OT.tmp rfl) es_nil)))) ?_
  refine tr_region ?_
  refine op_pure (pu_move (OT.tmp rfl)) rfl rfl ?_
  refine op_pure (pu_move (OT.tmp rfl)) rfl rfl ?_
  refine op_pure (pu_sub' (OT.tmp rfl) OT.const (by omega)) rfl rfl ?_
  refine op_pure (pu_move (OT.tmp rfl)) rfl rfl ?_
  refine op_pure (pu_move (OT.tmp rfl)) rfl rfl ?_
  refine op_pure (pu_add' (OT.tmp rfl) OT.const (by omega)) rfl rfl ?_
  refine op_pure (pu_move (OT.tmp rfl)) rfl rfl ?_
  refine op_pure (pu_move (OT.tmp rfl)) rfl rfl ?_
  rw [show (a : Int) - 1 = ((a - 1 : Nat) : Int) from by omega, show (a : Int) + 1 = ((a + 1 : Nat) : Int) from by omega]
  refine op_acts (acts_call (median_fn v fv d (a - 1) a (a + 1) g n c (by omega) (by omega) (by omega) hfv) (show enters Try.prog 94 = true from by decide +kernel) (OTs.cons (OT.tmp rfl) (OTs.cons (OT.tmp rfl) (OTs.cons (OT.tmp rfl) (OTs.cons (OT.tmp rfl) (OTs.cons (OT.tmp rfl) (OTs.cons (OT.tmp rfl) OTs.nil)))))) (List.Perm.trans (by exact perm_at 0 rfl) (List.Perm.cons _ (by exact perm_at 0 rfl)))) (List.Perm.trans (by exact perm_at 0 rfl) (List.Perm.cons _ (by exact perm_at 0 rfl))) rfl rfl (fun ⟨x1_8, m1_8⟩ hp1_8 => ?_)
  refine op_pure (pu_assign (OT.tmp rfl)) rfl rfl ?_
  refine tr_nil ?_
  refine then_normal ?_
  refine tr_ret ?_
  exact ret_one .ret (.inl rfl) rfl (x1_8, m1_8) (OT.tmp rfl) (by dsimp only at hp1_8 ⊢; omega) (by repeat (first | exact picks_nil | refine picks_cons 0 rfl ?_ | refine picks_cons 1 rfl ?_ | refine picks_cons 2 rfl ?_ | refine picks_cons 3 rfl ?_ | refine picks_cons 4 rfl ?_ | refine picks_cons 5 rfl ?_ | refine picks_cons 6 rfl ?_))
set_option maxHeartbeats 1000000 in
set_option maxRecDepth 20000 in
/-- slices.choosePivotCmpFunc[rhizome/api.Tuple] -/
theorem pivot_fn (v fv : Value) (d : DA) (a b : Nat) (c : List Int → List Int → Int) (hm : d.size < 4611686018427387904) (hab : a < b) (hb : b ≤ d.size) (hfv : ∀ x y, CtV Try.prog fv [(kF K0 n0).T x, (kF K0 n0).T y] [] Unit (fun _ => I64 (c x y)) (fun _ => []) (fun _ => True)) : Ct Try.prog 83 [IsV v, I64 (a : Int), I64 (b : Int), IsV fv] ([OwnI 38 (kF K0 n0) v d.toList]) (Nat × Int) (fun r => TupT [I64 (r.1 : Int), I64 r.2]) (fun r => [OwnI 38 (kF K0 n0) v d.toList]) (fun r => (a ≤ r.1 ∧ r.1 < b) ∧ (r.2 = 0 ∨ r.2 = 1 ∨ r.2 = 2)) := by
  refine fn_intro Try.func83 rfl rfl ?_
  intro H w
  refine tr_seq ?_
  -- region 0
  refine tr_env (es_cons (t := 0) (OT.tmp rfl) (es_cons (t := 1) (OT.tmp rfl) (es_cons (t := 2) (OT.tmp rfl) (es_cons (t := 3) (OT.tmp rfl) es_nil)))) ?_
  refine tr_region ?_
  refine op_pure (pu_assign OT.const) rfl rfl ?_
  refine op_pure (pu_assign OT.const) rfl rfl ?_
  refine tr_nil ?_
  refine then_normal ?_
  refine tr_seq ?_
  -- region 1
  refine tr_env (es_cons (t := 0) (OT.tmp rfl) (es_cons (t := 1) (OT.tmp rfl) (es_cons (t := 2) (OT.tmp rfl) (es_cons (t := 3) (OT.tmp rfl) es_nil)))) ?_
  refine tr_region ?_
  refine op_pure (pu_move (OT.tmp rfl)) rfl rfl ?_
  refine op_pure (pu_move (OT.tmp rfl)) rfl rfl ?_
  refine op_pure (pu_sub' (OT.tmp rfl) (OT.tmp rfl) (by omega)) rfl rfl ?_
  refine op_pure (pu_assign (OT.tmp rfl)) rfl rfl ?_
  refine tr_nil ?_
  refine then_normal ?_
  refine tr_seq ?_
  -- region 2
  refine tr_env (es_cons (t := 0) (OT.tmp rfl) (es_cons (t := 1) (OT.tmp rfl) (es_cons (t := 3) (OT.tmp rfl) (es_cons (t := 10) (OT.tmp rfl) es_nil)))) ?_
  refine tr_region ?_
  refine op_acts (acts_alloc (zz3)) (List.Perm.refl _) rfl rfl (fun g2_0 _ => ?_)
  refine tr_nil ?_
  refine then_normal ?_
  refine tr_seq ?_
  -- region 3
  refine tr_env (es_cons (t := 0) (OT.tmp rfl) (es_cons (t := 1) (OT.tmp rfl) (es_cons (t := 3) (OT.tmp rfl) (es_cons (t := 10) (OT.tmp rfl) (es_cons (t := 11) (OT.tmp rfl) es_nil))))) ?_
  rw [show (b : Int) - a = ((b - a : Nat) : Int) from by omega]
  obtain ⟨l, hl⟩ : ∃ l : Nat, b - a = l := ⟨_, rfl⟩
  rw [hl]
  refine tr_region ?_
  refine op_pure (pu_move (OT.tmp rfl)) rfl rfl ?_
  refine op_pure (pu_move (OT.tmp rfl)) rfl rfl ?_
  refine op_pure (pu_quo' (OT.tmp rfl) OT.const (by omega) (by omega)) rfl rfl ?_
  refine op_pure (pu_mul' (OT.tmp rfl) OT.const (by omega)) rfl rfl ?_
  refine op_pure (pu_add' (OT.tmp rfl) (OT.tmp rfl) (by omega)) rfl rfl ?_
  refine op_pure (pu_assign (OT.tmp rfl)) rfl rfl ?_
  refine tr_nil ?_
  refine then_normal ?_
  refine tr_seq ?_
  -- region 4
  refine tr_env (es_cons (t := 0) (OT.tmp rfl) (es_cons (t := 1) (OT.tmp rfl) (es_cons (t := 3) (OT.tmp rfl) (es_cons (t := 10) (OT.tmp rfl) (es_cons (t := 11) (OT.tmp rfl) (es_cons (t := 12) (OT.tmp rfl) es_nil)))))) ?_
  refine tr_region ?_
  refine op_pure (pu_move (OT.tmp rfl)) rfl rfl ?_
  refine op_pure (pu_move (OT.tmp rfl)) rfl rfl ?_
  refine op_pure (pu_quo' (OT.tmp rfl) OT.const (by omega) (by omega)) rfl rfl ?_
  refine op_pure (pu_mul' (OT.tmp rfl) OT.const (by omega)) rfl rfl ?_
  refine op_pure (pu_add' (OT.tmp rfl) (OT.tmp rfl) (by omega)) rfl rfl ?_
  refine op_pure (pu_assign (OT.tmp rfl)) rfl rfl ?_
  refine tr_nil ?_
  refine then_normal ?_
  refine tr_seq ?_
  -- region 5
  refine tr_env (es_cons (t := 0) (OT.tmp rfl) (es_cons (t := 1) (OT.tmp rfl) (es_cons (t := 3) (OT.tmp rfl) (es_cons (t := 10) (OT.tmp rfl) (es_cons (t := 11) (OT.tmp rfl) (es_cons (t := 12) (OT.tmp rfl) (es_cons (t := 13) (OT.tmp rfl) es_nil))))))) ?_
  refine tr_region ?_
  refine op_pure (pu_move (OT.tmp rfl)) rfl rfl ?_
  refine op_pure (pu_move (OT.tmp rfl)) rfl rfl ?_
  refine op_pure (pu_quo' (OT.tmp rfl) OT.const (by omega) (by omega)) rfl rfl ?_
  refine op_pure (pu_mul' (OT.tmp rfl) OT.const (by omega)) rfl rfl ?_
  refine op_pure (pu_add' (OT.tmp rfl) (OT.tmp rfl) (by omega)) rfl rfl ?_
  refine op_pure (pu_assign (OT.tmp rfl)) rfl rfl ?_
  refine tr_nil ?_
  refine then_normal ?_
  refine tr_seq ?_
  refine tr_seq ?_
  -- region 6
  refine tr_env (es_cons (t := 0) (OT.tmp rfl) (es_cons (t := 3) (OT.tmp rfl) (es_cons (t := 10) (OT.tmp rfl) (es_cons (t := 11) (OT.tmp rfl) (es_cons (t := 12) (OT.tmp rfl) (es_cons (t := 13) (OT.tmp rfl) (es_cons (t := 14) (OT.tmp rfl) es_nil))))))) ?_
  obtain ⟨i, hi, hi2⟩ : ∃ i : Nat, (a : Int) + (l : Int) / 4 * 1 = i ∧ a + l / 4 = i := ⟨a + l / 4, by omega, rfl⟩
  obtain ⟨j, hj, hj2⟩ : ∃ j : Nat, (a : Int) + (l : Int) / 4 * 2 = j ∧ a + l / 4 * 2 = j := ⟨a + l / 4 * 2, by omega, rfl⟩
  obtain ⟨k, hk, hk2⟩ : ∃ k : Nat, (a : Int) + (l : Int) / 4 * 3 = k ∧ a + l / 4 * 3 = k := ⟨a + l / 4 * 3, by omega, rfl⟩
  rw [hi, hj, hk]
  refine tr_region ?_
  refine op_pure (pu_move (OT.tmp rfl)) rfl rfl ?_
  refine op_pure (pu_geq (OT.tmp rfl) OT.const) rfl rfl ?_
  refine tr_nil ?_
  refine then_normal ?_
  refine tr_cond (OT.tmp rfl) (fun c34 => ?_) (fun c34 => ?_)
  · try simp only [decide_eq_true_eq, decide_eq_false_iff_not, Bool.or_eq_true, Bool.and_eq_true, Bool.or_eq_false_iff, Bool.and_eq_false_iff, Bool.not_eq_true', Bool.not_eq_false', ne_eq, Classical.not_not] at c34
    refine tr_seq ?_
    refine tr_seq ?_
    -- region 7
    refine tr_env (es_cons (t := 0) (OT.tmp rfl) (es_cons (t := 3) (OT.tmp rfl) (es_cons (t := 10) (OT.tmp rfl) (es_cons (t := 11) (OT.tmp rfl) (es_cons (t := 12) (OT.tmp rfl) (es_cons (t := 13) (OT.tmp rfl) (es_cons (t := 14) (OT.tmp rfl) es_nil))))))) ?_
    refine tr_region ?_
    refine op_pure (pu_move (OT.tmp rfl)) rfl rfl ?_
    refine op_pure (pu_geq (OT.tmp rfl) OT.const) rfl rfl ?_
    refine tr_nil ?_
    refine then_normal ?_
    refine tr_cond (OT.tmp rfl) (fun c36 => ?_) (fun c36 => ?_)
    · try simp only [decide_eq_true_eq, decide_eq_false_iff_not, Bool.or_eq_true, Bool.and_eq_true, Bool.or_eq_false_iff, Bool.and_eq_false_iff, Bool.not_eq_true', Bool.not_eq_false', ne_eq, Classical.not_not] at c36
      refine tr_seq ?_
      -- region 8
      refine tr_env (es_cons (t := 0) (OT.tmp rfl) (es_cons (t := 3) (OT.tmp rfl) (es_cons (t := 11) (OT.tmp rfl) (es_cons (t := 12) (OT.tmp rfl) (es_cons (t := 13) (OT.tmp rfl) (es_cons (t := 14) (OT.tmp rfl) es_nil)))))) ?_
      refine tr_region ?_
      refine op_pure (pu_move (OT.tmp rfl)) rfl rfl ?_
      refine op_pure (pu_move (OT.tmp rfl)) rfl rfl ?_
      refine op_pure (pu_move (OT.tmp rfl)) rfl rfl ?_
      refine op_acts (acts_call (medadj_fn v fv d _ _ _ c (by omega) (by omega) (by omega) hfv) (show enters Try.prog 93 = true from by decide +kernel) (OTs.cons (OT.tmp rfl) (OTs.cons (OT.tmp rfl) (OTs.cons (OT.tmp rfl) (OTs.cons (OT.tmp rfl) OTs.nil)))) (List.Perm.trans (by exact perm_at 1 rfl) (List.Perm.cons _ (by exact perm_at 0 rfl)))) (List.Perm.trans (by exact perm_at 1 rfl) (List.Perm.cons _ (by exact perm_at 0 rfl))) rfl rfl (fun ⟨x8_3, m8_3⟩ hp8_3 => ?_)
      refine op_pure (pu_assign (OT.tmp rfl)) rfl rfl ?_
      refine tr_nil ?_
      refine then_normal ?_
      refine tr_seq ?_
      -- region 9
      refine tr_env (es_cons (t := 0) (OT.tmp rfl) (es_cons (t := 3) (OT.tmp rfl) (es_cons (t := 11) (OT.tmp rfl) (es_cons (t := 12) (OT.tmp rfl) (es_cons (t := 13) (OT.tmp rfl) (es_cons (t := 14) (OT.tmp rfl) es_nil)))))) ?_
      refine tr_region ?_
      refine op_pure (pu_move (OT.tmp rfl)) rfl rfl ?_
      refine op_pure (pu_move (OT.tmp rfl)) rfl rfl ?_
      refine op_pure (pu_move (OT.tmp rfl)) rfl rfl ?_
      refine op_acts (acts_call (medadj_fn v fv d _ _ _ c (by omega) (by omega) (by omega) hfv) (show enters Try.prog 93 = true from by decide +kernel) (OTs.cons (OT.tmp rfl) (OTs.cons (OT.tmp rfl) (OTs.cons (OT.tmp rfl) (OTs.cons (OT.tmp rfl) OTs.nil)))) (List.Perm.trans (by exact perm_at 0 rfl) (List.Perm.cons _ (by exact perm_at 0 rfl)))) (List.Perm.trans (by exact perm_at 0 rfl) (List.Perm.cons _ (by exact perm_at 0 rfl))) rfl rfl (fun ⟨x9_3, m9_3⟩ hp9_3 => ?_)
      refine op_pure (pu_assign (OT.tmp rfl)) rfl rfl ?_
      refine tr_nil ?_
      refine then_normal ?_
      -- region 10
      refine tr_env (es_cons (t := 0) (OT.tmp rfl) (es_cons (t := 3) (OT.tmp rfl) (es_cons (t := 11) (OT.tmp rfl) (es_cons (t := 12) (OT.tmp rfl) (es_cons (t := 13) (OT.tmp rfl) (es_cons (t := 14) (OT.tmp rfl) es_nil)))))) ?_
      refine tr_region ?_
      refine op_pure (pu_move (OT.tmp rfl)) rfl rfl ?_
      refine op_pure (pu_move (OT.tmp rfl)) rfl rfl ?_
      refine op_pure (pu_move (OT.tmp rfl)) rfl rfl ?_
      refine op_acts (acts_call (medadj_fn v fv d _ _ _ c (by omega) (by omega) (by omega) hfv) (show enters Try.prog 93 = true from by decide +kernel) (OTs.cons (OT.tmp rfl) (OTs.cons (OT.tmp rfl) (OTs.cons (OT.tmp rfl) (OTs.cons (OT.tmp rfl) OTs.nil)))) (List.Perm.trans (by exact perm_at 0 rfl) (List.Perm.cons _ (by exact perm_at 0 rfl)))) (List.Perm.trans (by exact perm_at 0 rfl) (List.Perm.cons _ (by exact perm_at 0 rfl))) rfl rfl (fun ⟨x10_3, m10_3⟩ hp10_3 => ?_)
      refine op_pure (pu_assign (OT.tmp rfl)) rfl rfl ?_
      refine tr_nil ?_
      refine then_normal ?_
      -- region 11
      refine tr_env (es_cons (t := 0) (OT.tmp rfl) (es_cons (t := 3) (OT.tmp rfl) (es_cons (t := 11) (OT.tmp rfl) (es_cons (t := 12) (OT.tmp rfl) (es_cons (t := 13) (OT.tmp rfl) (es_cons (t := 14) (OT.tmp rfl) es_nil)))))) ?_
      first | dsimp only at hp8_3 hp9_3 hp10_3 ⊢ | skip
      refine tr_region ?_
      refine op_pure (pu_move (OT.tmp rfl)) rfl rfl ?_
      refine op_pure (pu_move (OT.tmp rfl)) rfl rfl ?_
      refine op_pure (pu_move (OT.tmp rfl)) rfl rfl ?_
      refine op_pure (pu_move (OT.tmp rfl)) rfl rfl ?_
      refine op_pure (pu_move (OT.tmp rfl)) rfl rfl ?_
      refine op_acts (acts_call (median_fn v fv d _ _ _ _ _ c (by omega) (by omega) (by omega) hfv) (show enters Try.prog 94 = true from by decide +kernel) (OTs.cons (OT.tmp rfl) (OTs.cons (OT.tmp rfl) (OTs.cons (OT.tmp rfl) (OTs.cons (OT.tmp rfl) (OTs.cons (OT.tmp rfl) (OTs.cons (OT.tmp rfl) OTs.nil)))))) (List.Perm.trans (by exact perm_at 0 rfl) (List.Perm.cons _ (by exact perm_at 0 rfl)))) (List.Perm.trans (by exact perm_at 0 rfl) (List.Perm.cons _ (by exact perm_at 0 rfl))) rfl rfl (fun ⟨x11_5, m11_5⟩ hp11_5 => ?_)
      refine op_pure (pu_assign (OT.tmp rfl)) rfl rfl ?_
      refine tr_nil ?_
      refine then_normal ?_
      refine tr_seq ?_
      -- region 12
      refine tr_env (es_cons (t := 11) (OT.tmp rfl) (es_cons (t := 13) (OT.tmp rfl) es_nil)) ?_
      first | dsimp only at hp11_5 ⊢ | skip
      refine tr_region ?_
      refine op_pure (pu_load_var (OT.tmp rfl) (by exact mem_at 1 rfl) (show tyOk Try.prog 3 false 1 = true from by decide +kernel)) rfl rfl ?_
      refine tr_nil ?_
      refine then_normal ?_
      refine tr_block ?_
      refine tr_seq ?_
      -- region 14
      refine tr_env (es_cons (t := 13) (OT.tmp rfl) (es_cons (t := 55) (OT.tmp rfl) es_nil)) ?_
      refine tr_region ?_
      refine op_pure (pu_eql (OT.tmp rfl) OT.const) rfl rfl ?_
      refine op_pure (pu_assign (OT.tmp rfl)) rfl rfl ?_
      refine tr_nil ?_
      refine then_normal ?_
      refine tr_cond (OT.tmp rfl) (fun c57 => ?_) (fun c57 => ?_)
      · try simp only [decide_eq_true_eq, decide_eq_false_iff_not, Bool.or_eq_true, Bool.and_eq_true, Bool.or_eq_false_iff, Bool.and_eq_false_iff, Bool.not_eq_true', Bool.not_eq_false', ne_eq, Classical.not_not] at c57
        refine tr_seq ?_
        -- region 15
        refine tr_env (es_cons (t := 13) (OT.tmp rfl) es_nil) ?_
        refine tr_region ?_
        refine op_pure (pu_move (OT.tmp rfl)) rfl rfl ?_
        refine op_pure (pu_assign (OT.tmp rfl)) rfl rfl ?_
        refine op_pure (pu_assign OT.const) rfl rfl ?_
        refine tr_nil ?_
        refine then_normal ?_
        refine tr_ret ?_
        refine block_ret ?_
        exact ret_two .ret (.inl rfl) rfl (x11_5, 1) (OT.tmp rfl) (OT.tmp rfl) (fun _ _ h => h) (by show (a ≤ x11_5 ∧ x11_5 < b) ∧ _; exact ⟨by omega, by simp⟩) (by repeat (first | exact picks_nil | refine picks_cons 0 rfl ?_ | refine picks_cons 1 rfl ?_ | refine picks_cons 2 rfl ?_ | refine picks_cons 3 rfl ?_ | refine picks_cons 4 rfl ?_ | refine picks_cons 5 rfl ?_ | refine picks_cons 6 rfl ?_))
      · try simp only [decide_eq_true_eq, decide_eq_false_iff_not, Bool.or_eq_true, Bool.and_eq_true, Bool.or_eq_false_iff, Bool.and_eq_false_iff, Bool.not_eq_true', Bool.not_eq_false', ne_eq, Classical.not_not] at c57
        refine tr_seq ?_
        -- region 16
        refine tr_env (es_cons (t := 13) (OT.tmp rfl) (es_cons (t := 55) (OT.tmp rfl) es_nil)) ?_
        refine tr_region ?_
        refine op_pure (pu_eql (OT.tmp rfl) OT.const) rfl rfl ?_
        refine op_pure (pu_assign (OT.tmp rfl)) rfl rfl ?_
        refine tr_nil ?_
        refine then_normal ?_
        refine tr_cond (OT.tmp rfl) (fun c60 => ?_) (fun c60 => ?_)
        · try simp only [decide_eq_true_eq, decide_eq_false_iff_not, Bool.or_eq_true, Bool.and_eq_true, Bool.or_eq_false_iff, Bool.and_eq_false_iff, Bool.not_eq_true', Bool.not_eq_false', ne_eq, Classical.not_not] at c60
          refine tr_seq ?_
          -- region 17
          refine tr_env (es_cons (t := 13) (OT.tmp rfl) es_nil) ?_
          refine tr_region ?_
          refine op_pure (pu_move (OT.tmp rfl)) rfl rfl ?_
          refine op_pure (pu_assign (OT.tmp rfl)) rfl rfl ?_
          refine op_pure (pu_assign OT.const) rfl rfl ?_
          refine tr_nil ?_
          refine then_normal ?_
          refine tr_ret ?_
          refine block_ret ?_
          exact ret_two .ret (.inl rfl) rfl (x11_5, 2) (OT.tmp rfl) (OT.tmp rfl) (fun _ _ h => h) (by show (a ≤ x11_5 ∧ x11_5 < b) ∧ _; exact ⟨by omega, by simp⟩) (by repeat (first | exact picks_nil | refine picks_cons 0 rfl ?_ | refine picks_cons 1 rfl ?_ | refine picks_cons 2 rfl ?_ | refine picks_cons 3 rfl ?_ | refine picks_cons 4 rfl ?_ | refine picks_cons 5 rfl ?_ | refine picks_cons 6 rfl ?_))
        · try simp only [decide_eq_true_eq, decide_eq_false_iff_not, Bool.or_eq_true, Bool.and_eq_true, Bool.or_eq_false_iff, Bool.and_eq_false_iff, Bool.not_eq_true', Bool.not_eq_false', ne_eq, Classical.not_not] at c60
          refine tr_seq ?_
          -- region 13
          refine tr_env (es_cons (t := 13) (OT.tmp rfl) es_nil) ?_
          refine tr_region ?_
          refine op_pure (pu_move (OT.tmp rfl)) rfl rfl ?_
          refine op_pure (pu_assign (OT.tmp rfl)) rfl rfl ?_
          refine op_pure (pu_assign OT.const) rfl rfl ?_
          refine tr_nil ?_
          refine then_normal ?_
          refine tr_ret ?_
          refine block_ret ?_
          exact ret_two .ret (.inl rfl) rfl (x11_5, 0) (OT.tmp rfl) (OT.tmp rfl) (fun _ _ h => h) (by show (a ≤ x11_5 ∧ x11_5 < b) ∧ _; exact ⟨by omega, by simp⟩) (by repeat (first | exact picks_nil | refine picks_cons 0 rfl ?_ | refine picks_cons 1 rfl ?_ | refine picks_cons 2 rfl ?_ | refine picks_cons 3 rfl ?_ | refine picks_cons 4 rfl ?_ | refine picks_cons 5 rfl ?_ | refine picks_cons 6 rfl ?_))
    · try simp only [decide_eq_true_eq, decide_eq_false_iff_not, Bool.or_eq_true, Bool.and_eq_true, Bool.or_eq_false_iff, Bool.and_eq_false_iff, Bool.not_eq_true', Bool.not_eq_false', ne_eq, Classical.not_not] at c36
      refine tr_skip ?_
      refine then_normal ?_
      -- region 11
      refine tr_env (es_cons (t := 0) (OT.tmp rfl) (es_cons (t := 3) (OT.tmp rfl) (es_cons (t := 11) (OT.tmp rfl) (es_cons (t := 12) (OT.tmp rfl) (es_cons (t := 13) (OT.tmp rfl) (es_cons (t := 14) (OT.tmp rfl) es_nil)))))) ?_
      first | dsimp only at hp8_3 hp9_3 hp10_3 ⊢ | skip
      refine tr_region ?_
      refine op_pure (pu_move (OT.tmp rfl)) rfl rfl ?_
      refine op_pure (pu_move (OT.tmp rfl)) rfl rfl ?_
      refine op_pure (pu_move (OT.tmp rfl)) rfl rfl ?_
      refine op_pure (pu_move (OT.tmp rfl)) rfl rfl ?_
      refine op_pure (pu_move (OT.tmp rfl)) rfl rfl ?_
      refine op_acts (acts_call (median_fn v fv d _ _ _ _ _ c (by omega) (by omega) (by omega) hfv) (show enters Try.prog 94 = true from by decide +kernel) (OTs.cons (OT.tmp rfl) (OTs.cons (OT.tmp rfl) (OTs.cons (OT.tmp rfl) (OTs.cons (OT.tmp rfl) (OTs.cons (OT.tmp rfl) (OTs.cons (OT.tmp rfl) OTs.nil)))))) (List.Perm.trans (by exact perm_at 1 rfl) (List.Perm.cons _ (by exact perm_at 0 rfl)))) (List.Perm.trans (by exact perm_at 1 rfl) (List.Perm.cons _ (by exact perm_at 0 rfl))) rfl rfl (fun ⟨x11_5, m11_5⟩ hp11_5 => ?_)
      refine op_pure (pu_assign (OT.tmp rfl)) rfl rfl ?_
      refine tr_nil ?_
      refine then_normal ?_
      refine tr_seq ?_
      -- region 12
      refine tr_env (es_cons (t := 11) (OT.tmp rfl) (es_cons (t := 13) (OT.tmp rfl) es_nil)) ?_
      first | dsimp only at hp11_5 ⊢ | skip
      refine tr_region ?_
      refine op_pure (pu_load_var (OT.tmp rfl) (by exact mem_at 1 rfl) (show tyOk Try.prog 3 false 1 = true from by decide +kernel)) rfl rfl ?_
      refine tr_nil ?_
      refine then_normal ?_
      refine tr_block ?_
      refine tr_seq ?_
      -- region 14
      refine tr_env (es_cons (t := 13) (OT.tmp rfl) (es_cons (t := 55) (OT.tmp rfl) es_nil)) ?_
      refine tr_region ?_
      refine op_pure (pu_eql (OT.tmp rfl) OT.const) rfl rfl ?_
      refine op_pure (pu_assign (OT.tmp rfl)) rfl rfl ?_
      refine tr_nil ?_
      refine then_normal ?_
      refine tr_cond (OT.tmp rfl) (fun c57 => ?_) (fun c57 => ?_)
      · try simp only [decide_eq_true_eq, decide_eq_false_iff_not, Bool.or_eq_true, Bool.and_eq_true, Bool.or_eq_false_iff, Bool.and_eq_false_iff, Bool.not_eq_true', Bool.not_eq_false', ne_eq, Classical.not_not] at c57
        refine tr_seq ?_
        -- region 15
        refine tr_env (es_cons (t := 13) (OT.tmp rfl) es_nil) ?_
        refine tr_region ?_
        refine op_pure (pu_move (OT.tmp rfl)) rfl rfl ?_
        refine op_pure (pu_assign (OT.tmp rfl)) rfl rfl ?_
        refine op_pure (pu_assign OT.const) rfl rfl ?_
        refine tr_nil ?_
        refine then_normal ?_
        refine tr_ret ?_
        refine block_ret ?_
        exact ret_two .ret (.inl rfl) rfl (x11_5, 1) (OT.tmp rfl) (OT.tmp rfl) (fun _ _ h => h) (by show (a ≤ x11_5 ∧ x11_5 < b) ∧ _; exact ⟨by omega, by simp⟩) (by repeat (first | exact picks_nil | refine picks_cons 0 rfl ?_ | refine picks_cons 1 rfl ?_ | refine picks_cons 2 rfl ?_ | refine picks_cons 3 rfl ?_ | refine picks_cons 4 rfl ?_ | refine picks_cons 5 rfl ?_ | refine picks_cons 6 rfl ?_))
      · try simp only [decide_eq_true_eq, decide_eq_false_iff_not, Bool.or_eq_true, Bool.and_eq_true, Bool.or_eq_false_iff, Bool.and_eq_false_iff, Bool.not_eq_true', Bool.not_eq_false', ne_eq, Classical.not_not] at c57
        refine tr_seq ?_
        -- region 16
        refine tr_env (es_cons (t := 13) (OT.tmp rfl) (es_cons (t := 55) (OT.tmp rfl) es_nil)) ?_
        refine tr_region ?_
        refine op_pure (pu_eql (OT.tmp rfl) OT.const) rfl rfl ?_
        refine op_pure (pu_assign (OT.tmp rfl)) rfl rfl ?_
        refine tr_nil ?_
        refine then_normal ?_
        refine tr_cond (OT.tmp rfl) (fun c60 => ?_) (fun c60 => ?_)
        · try simp only [decide_eq_true_eq, decide_eq_false_iff_not, Bool.or_eq_true, Bool.and_eq_true, Bool.or_eq_false_iff, Bool.and_eq_false_iff, Bool.not_eq_true', Bool.not_eq_false', ne_eq, Classical.not_not] at c60
          refine tr_seq ?_
          -- region 17
          refine tr_env (es_cons (t := 13) (OT.tmp rfl) es_nil) ?_
          refine tr_region ?_
          refine op_pure (pu_move (OT.tmp rfl)) rfl rfl ?_
          refine op_pure (pu_assign (OT.tmp rfl)) rfl rfl ?_
          refine op_pure (pu_assign OT.const) rfl rfl ?_
          refine tr_nil ?_
          refine then_normal ?_
          refine tr_ret ?_
          refine block_ret ?_
          exact ret_two .ret (.inl rfl) rfl (x11_5, 2) (OT.tmp rfl) (OT.tmp rfl) (fun _ _ h => h) (by show (a ≤ x11_5 ∧ x11_5 < b) ∧ _; exact ⟨by omega, by simp⟩) (by repeat (first | exact picks_nil | refine picks_cons 0 rfl ?_ | refine picks_cons 1 rfl ?_ | refine picks_cons 2 rfl ?_ | refine picks_cons 3 rfl ?_ | refine picks_cons 4 rfl ?_ | refine picks_cons 5 rfl ?_ | refine picks_cons 6 rfl ?_))
        · try simp only [decide_eq_true_eq, decide_eq_false_iff_not, Bool.or_eq_true, Bool.and_eq_true, Bool.or_eq_false_iff, Bool.and_eq_false_iff, Bool.not_eq_true', Bool.not_eq_false', ne_eq, Classical.not_not] at c60
          refine tr_seq ?_
          -- region 13
          refine tr_env (es_cons (t := 13) (OT.tmp rfl) es_nil) ?_
          refine tr_region ?_
          refine op_pure (pu_move (OT.tmp rfl)) rfl rfl ?_
          refine op_pure (pu_assign (OT.tmp rfl)) rfl rfl ?_
          refine op_pure (pu_assign OT.const) rfl rfl ?_
          refine tr_nil ?_
          refine then_normal ?_
          refine tr_ret ?_
          refine block_ret ?_
          exact ret_two .ret (.inl rfl) rfl (x11_5, 0) (OT.tmp rfl) (OT.tmp rfl) (fun _ _ h => h) (by show (a ≤ x11_5 ∧ x11_5 < b) ∧ _; exact ⟨by omega, by simp⟩) (by repeat (first | exact picks_nil | refine picks_cons 0 rfl ?_ | refine picks_cons 1 rfl ?_ | refine picks_cons 2 rfl ?_ | refine picks_cons 3 rfl ?_ | refine picks_cons 4 rfl ?_ | refine picks_cons 5 rfl ?_ | refine picks_cons 6 rfl ?_))
  · try simp only [decide_eq_true_eq, decide_eq_false_iff_not, Bool.or_eq_true, Bool.and_eq_true, Bool.or_eq_false_iff, Bool.and_eq_false_iff, Bool.not_eq_true', Bool.not_eq_false', ne_eq, Classical.not_not] at c34
    refine tr_skip ?_
    refine then_normal ?_
    refine tr_seq ?_
    -- region 12
    refine tr_env (es_cons (t := 11) (OT.tmp rfl) (es_cons (t := 13) (OT.tmp rfl) es_nil)) ?_
    first | dsimp only at hp11_5 ⊢ | skip
    refine tr_region ?_
    refine op_pure (pu_load_var (OT.tmp rfl) (by exact mem_at 0 rfl) (show tyOk Try.prog 3 false 1 = true from by decide +kernel)) rfl rfl ?_
    refine tr_nil ?_
    refine then_normal ?_
    refine tr_block ?_
    refine tr_seq ?_
    -- region 14
    refine tr_env (es_cons (t := 13) (OT.tmp rfl) (es_cons (t := 55) (OT.tmp rfl) es_nil)) ?_
    refine tr_region ?_
    refine op_pure (pu_eql (OT.tmp rfl) OT.const) rfl rfl ?_
    refine op_pure (pu_assign (OT.tmp rfl)) rfl rfl ?_
    refine tr_nil ?_
    refine then_normal ?_
    refine tr_cond (OT.tmp rfl) (fun c57 => ?_) (fun c57 => ?_)
    · try simp only [decide_eq_true_eq, decide_eq_false_iff_not, Bool.or_eq_true, Bool.and_eq_true, Bool.or_eq_false_iff, Bool.and_eq_false_iff, Bool.not_eq_true', Bool.not_eq_false', ne_eq, Classical.not_not] at c57
      refine tr_seq ?_
      -- region 15
      refine tr_env (es_cons (t := 13) (OT.tmp rfl) es_nil) ?_
      refine tr_region ?_
      refine op_pure (pu_move (OT.tmp rfl)) rfl rfl ?_
      refine op_pure (pu_assign (OT.tmp rfl)) rfl rfl ?_
      refine op_pure (pu_assign OT.const) rfl rfl ?_
      refine tr_nil ?_
      refine then_normal ?_
      refine tr_ret ?_
      refine block_ret ?_
      exact ret_two .ret (.inl rfl) rfl (j, 1) (OT.tmp rfl) (OT.tmp rfl) (fun _ _ h => h) (by show (a ≤ j ∧ j < b) ∧ _; exact ⟨by omega, by simp⟩) (by repeat (first | exact picks_nil | refine picks_cons 0 rfl ?_ | refine picks_cons 1 rfl ?_ | refine picks_cons 2 rfl ?_ | refine picks_cons 3 rfl ?_ | refine picks_cons 4 rfl ?_ | refine picks_cons 5 rfl ?_ | refine picks_cons 6 rfl ?_))
    · try simp only [decide_eq_true_eq, decide_eq_false_iff_not, Bool.or_eq_true, Bool.and_eq_true, Bool.or_eq_false_iff, Bool.and_eq_false_iff, Bool.not_eq_true', Bool.not_eq_false', ne_eq, Classical.not_not] at c57
      refine tr_seq ?_
      -- region 16
      refine tr_env (es_cons (t := 13) (OT.tmp rfl) (es_cons (t := 55) (OT.tmp rfl) es_nil)) ?_
      refine tr_region ?_
      refine op_pure (pu_eql (OT.tmp rfl) OT.const) rfl rfl ?_
      refine op_pure (pu_assign (OT.tmp rfl)) rfl rfl ?_
      refine tr_nil ?_
      refine then_normal ?_
      refine tr_cond (OT.tmp rfl) (fun c60 => ?_) (fun c60 => ?_)
      · try simp only [decide_eq_true_eq, decide_eq_false_iff_not, Bool.or_eq_true, Bool.and_eq_true, Bool.or_eq_false_iff, Bool.and_eq_false_iff, Bool.not_eq_true', Bool.not_eq_false', ne_eq, Classical.not_not] at c60
        refine tr_seq ?_
        -- region 17
        refine tr_env (es_cons (t := 13) (OT.tmp rfl) es_nil) ?_
        refine tr_region ?_
        refine op_pure (pu_move (OT.tmp rfl)) rfl rfl ?_
        refine op_pure (pu_assign (OT.tmp rfl)) rfl rfl ?_
        refine op_pure (pu_assign OT.const) rfl rfl ?_
        refine tr_nil ?_
        refine then_normal ?_
        refine tr_ret ?_
        refine block_ret ?_
        exact ret_two .ret (.inl rfl) rfl (j, 2) (OT.tmp rfl) (OT.tmp rfl) (fun _ _ h => h) (by show (a ≤ j ∧ j < b) ∧ _; exact ⟨by omega, by simp⟩) (by repeat (first | exact picks_nil | refine picks_cons 0 rfl ?_ | refine picks_cons 1 rfl ?_ | refine picks_cons 2 rfl ?_ | refine picks_cons 3 rfl ?_ | refine picks_cons 4 rfl ?_ | refine picks_cons 5 rfl ?_ | refine picks_cons 6 rfl ?_))
      · try simp only [decide_eq_true_eq, decide_eq_false_iff_not, Bool.or_eq_true, Bool.and_eq_true, Bool.or_eq_false_iff, Bool.and_eq_false_iff, Bool.not_eq_true', Bool.not_eq_false', ne_eq, Classical.not_not] at c60
        refine tr_seq ?_
        -- region 13
        refine tr_env (es_cons (t := 13) (OT.tmp rfl) es_nil) ?_
        refine tr_region ?_
        refine op_pure (pu_move (OT.tmp rfl)) rfl rfl ?_
        refine op_pure (pu_assign (OT.tmp rfl)) rfl rfl ?_
        refine op_pure (pu_assign OT.const) rfl rfl ?_
        refine tr_nil ?_
        refine then_normal ?_
        refine tr_ret ?_
        refine block_ret ?_
        exact ret_two .ret (.inl rfl) rfl (j, 0) (OT.tmp rfl) (OT.tmp rfl) (fun _ _ h => h) (by show (a ≤ j ∧ j < b) ∧ _; exact ⟨by omega, by simp⟩) (by repeat (first | exact picks_nil | refine picks_cons 0 rfl ?_ | refine picks_cons 1 rfl ?_ | refine picks_cons 2 rfl ?_ | refine picks_cons 3 rfl ?_ | refine picks_cons 4 rfl ?_ | refine picks_cons 5 rfl ?_ | refine picks_cons 6 rfl ?_))
end Go.Proofs.Ytloblpklkhepbaa
