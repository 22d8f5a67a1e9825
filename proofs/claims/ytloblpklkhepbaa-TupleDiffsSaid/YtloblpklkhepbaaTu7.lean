/- Walks through the Go functions tuple.sets$1, api.Tuple], api.Tuple], tuple.sets, tuple.Diff, as typed contracts. -/
import Derived.Test.YtloblpklkhepbaaTu6
namespace Go.Proofs.Ytloblpklkhepbaa
open Go Go.Gw Go.So Go.Tu
set_option linter.unusedVariables false
set_option linter.unusedSimpArgs false
variable {K0 : FH} {n0 : Nat}
abbrev kFF (K0 : FH) (n0 : Nat) : Kd (List Tp) := kfr K0 n0 (kF K0 n0)
abbrev kDF (K0 : FH) (n0 : Nat) : Kd Dl := kpair (kFF K0 n0) (kFF K0 n0)
theorem z44f : ZeroOf Try.prog 44 (kDF K0 n0) ([], []) := ⟨.agg #[nilS, nilS], by kernel_rfl, fun H => ⟨[nilS, nilS], ⟨[nilS], [nilS], ⟨nilS, rfl, ⟨none, 0, rfl, by simp, by simp, fun h => by simp at h⟩, trivial, trivial⟩, ⟨nilS, rfl, ⟨none, 0, rfl, by simp, by simp, fun h => by simp at h⟩, trivial, trivial⟩, rfl⟩, rfl⟩⟩
theorem walk_fn (a b : List Tp) (ha : Small a) (hb : Small b) (ra : risesB a = true) (rb : risesB b = true) : Ct Try.prog 51 [SlT kT a, SlT kT b] [] Unit (fun _ => TupT [SlT kT (withoutL a b), SlT kT (interL a b), SlT kT (withoutL b a)]) (fun _ => []) (fun _ => True) := by
  have h := walk_fn0 a b ha.1 hb.1
  rw [walk_sets (rises_iff.1 ra) (rises_iff.1 rb)] at h; exact h
theorem sets2 (a b : List Tp) : (!([a, b].any fun l => !risesB l)) = (risesB a && risesB b) := by cases h1 : risesB a <;> cases h2 : risesB b <;> simp [h1, h2]
theorem sets3 (a b c : List Tp) : (!([a, b, c].any fun l => !risesB l)) = (risesB a && risesB b && risesB c) := by cases h1 : risesB a <;> cases h2 : risesB b <;> cases h3 : risesB c <;> simp [h1, h2, h3]
theorem sets4 (a b c d : List Tp) : (!([a, b, c, d].any fun l => !risesB l)) = (risesB a && risesB b && risesB c && risesB d) := by cases h1 : risesB a <;> cases h2 : risesB b <;> cases h3 : risesB c <;> cases h4 : risesB d <;> simp [h1, h2, h3, h4]

set_option maxHeartbeats 1000000 in
set_option maxRecDepth 20000 in
/-- rhizome/tuple.sets$1 -/
theorem sets1_fn (x : List Tp) : Ct Try.prog 69 [SlT kT x] ([]) Unit (fun _ => BoolT (!risesB x)) (fun _ => []) (fun _ => True) := by
  refine fn_intro Try.func69 rfl rfl ?_
  intro H w
  refine tr_seq ?_
  -- region 0
  refine tr_env (es_cons (t := 0) (OT.tmp rfl) es_nil) ?_
  refine tr_region ?_
  refine op_pure (pu_assign OT.const) rfl rfl ?_
  refine tr_nil ?_
  refine then_normal ?_
  refine tr_seq ?_
  -- region 1
  refine tr_env (es_cons (t := 0) (OT.tmp rfl) es_nil) ?_
  refine tr_region ?_
  refine op_pure (pu_move (OT.tmp rfl)) rfl rfl ?_
  refine op_acts (acts_call (Rises_all _) (show enters Try.prog 35 = true from by decide +kernel) (OTs.cons (OT.tmp rfl) OTs.nil) (List.Perm.refl _)) (List.Perm.refl _) rfl rfl (fun _ _ => ?_)
  refine op_pure (pu_not (OT.tmp rfl)) rfl rfl ?_
  refine op_pure (pu_assign (OT.tmp rfl)) rfl rfl ?_
  refine tr_nil ?_
  refine then_normal ?_
  refine tr_ret ?_
  exact ret_one .ret (.inl rfl) rfl () (OT.tmp rfl) trivial (by exact picks_nil)
set_option maxHeartbeats 1000000 in
set_option maxRecDepth 20000 in
/-- slices.IndexFunc[[][]rhizome/api.Tuple,[]rhizome/api.Tuple] -/
theorem idxL_fn (xs : List (List Tp)) (fv : Value) (p : List Tp → Bool) (hm : xs.length ≤ 1000) (hfv : ∀ x, CtV Try.prog fv [kL.T x] [] Unit (fun _ => BoolT (p x)) (fun _ => []) (fun _ => True)) : Ct Try.prog 78 [SlT kL xs, IsV fv] ([]) Int (fun r => I64 r) (fun _ => []) (fun r => (decide (0 ≤ r)) = xs.any p) := by
  refine fn_intro Try.func78 rfl rfl ?_
  intro H w
  refine tr_seq ?_
  -- region 0
  refine tr_env (es_cons (t := 0) (OT.tmp rfl) (es_cons (t := 1) (OT.tmp rfl) es_nil)) ?_
  refine tr_region ?_
  refine op_pure (pu_assign OT.const) rfl rfl ?_
  refine tr_nil ?_
  refine then_normal ?_
  refine tr_seq ?_
  refine tr_seq ?_
  -- region 1
  refine tr_env (es_cons (t := 0) (OT.tmp rfl) (es_cons (t := 1) (OT.tmp rfl) es_nil)) ?_
  refine tr_region ?_
  refine op_pure (pu_move (OT.tmp rfl)) rfl rfl ?_
  refine op_pure (pu_len_sl (OT.tmp rfl) Try.underlying77) rfl rfl ?_
  refine op_pure (pu_move OT.const) rfl rfl ?_
  refine tr_nil ?_
  refine then_normal ?_
  refine tr_block ?_
  refine tr_loopK (σ := Nat) (es_cons (t := 0) (OT.tmp rfl) (es_cons (t := 1) (OT.tmp rfl) (es_cons (t := 7) (OT.tmp rfl) es_nil))) (fun k => [(8, I64 (k : Int))]) (fun k => []) (fun k => k ≤ xs.length ∧ (xs.drop k).any p = xs.any p) (fun k => xs.length - k) 0 ⟨Nat.zero_le _, rfl⟩ ?_ (own_picks (by exact picks_nil)) ?_
  · exact (es_cons (t := 8) (by exact OT.tmp rfl) es_nil)
  · rintro k ⟨hk, hk2⟩
    refine tr_seq ?_
    -- region 2
    refine tr_env (es_cons (t := 0) (OT.tmp rfl) (es_cons (t := 1) (OT.tmp rfl) (es_cons (t := 7) (OT.tmp rfl) (es_cons (t := 8) (OT.tmp rfl) es_nil)))) ?_
    refine tr_region ?_
    refine op_pure (pu_lss (OT.tmp rfl) (OT.tmp rfl)) rfl rfl ?_
    refine tr_nil ?_
    refine then_normal ?_
    refine tr_seq ?_
    refine tr_cond (OT.tmp rfl) (fun c9 => ?_) (fun c9 => ?_)
    · try simp only [decide_eq_true_eq, decide_eq_false_iff_not, Bool.or_eq_true, Bool.and_eq_true, Bool.or_eq_false_iff, Bool.and_eq_false_iff, Bool.not_eq_true', Bool.not_eq_false', ne_eq, Classical.not_not] at c9
      refine tr_skip ?_
      refine then_normal ?_
      refine tr_seq ?_
      refine tr_block ?_
      refine tr_seq ?_
      -- region 3
      refine tr_env (es_cons (t := 0) (OT.tmp rfl) (es_cons (t := 1) (OT.tmp rfl) (es_cons (t := 7) (OT.tmp rfl) (es_cons (t := 8) (OT.tmp rfl) es_nil)))) ?_
      refine tr_region ?_
      refine op_pure (pu_move (OT.tmp rfl)) rfl rfl ?_
      refine op_pure (pu_assign (OT.tmp rfl)) rfl rfl ?_
      refine tr_nil ?_
      refine then_normal ?_
      refine tr_seq ?_
      -- region 4
      refine tr_env (es_cons (t := 0) (OT.tmp rfl) (es_cons (t := 1) (OT.tmp rfl) (es_cons (t := 5) (OT.tmp rfl) (es_cons (t := 7) (OT.tmp rfl) (es_cons (t := 8) (OT.tmp rfl) es_nil))))) ?_
      have hst := any_step (l := xs) (p := p) (k := k) (by omega)
      refine tr_region ?_
      refine op_pure (pu_move (OT.tmp rfl)) rfl rfl ?_
      refine op_pure (pu_move (OT.tmp rfl)) rfl rfl ?_
      refine op_pure (pu_move (OT.tmp rfl)) rfl rfl ?_
      refine op_pure (pu_index (OT.tmp rfl) (OT.tmp rfl) Try.underlying77 (show tyOk Try.prog 40 false 1 = true from by decide +kernel) (by omega) (by omega)) rfl rfl ?_
      refine op_pure (pu_load (OT.tmp rfl) (show tyOk Try.prog 40 false 1 = true from by decide +kernel)) rfl rfl ?_
      refine op_acts (acts_callv (OT.tmp rfl) (hfv _) (OTs.cons (OT.tmp rfl) OTs.nil) (List.Perm.refl _)) (List.Perm.refl _) rfl rfl (fun _ _ => ?_)
      refine tr_nil ?_
      refine then_normal ?_
      refine tr_cond (OT.tmp rfl) (fun c16 => ?_) (fun c16 => ?_)
      · try simp only [decide_eq_true_eq, decide_eq_false_iff_not, Bool.or_eq_true, Bool.and_eq_true, Bool.or_eq_false_iff, Bool.and_eq_false_iff, Bool.not_eq_true', Bool.not_eq_false', ne_eq, Classical.not_not] at c16
        refine tr_seq ?_
        -- region 5
        refine tr_env (es_cons (t := 5) (OT.tmp rfl) es_nil) ?_
        refine tr_region ?_
        refine op_pure (pu_move (OT.tmp rfl)) rfl rfl ?_
        refine op_pure (pu_assign (OT.tmp rfl)) rfl rfl ?_
        refine tr_nil ?_
        refine then_normal ?_
        refine tr_ret ?_
        refine block_ret ?_
        refine then_ret ?_
        refine then_ret ?_
        refine block_ret ?_
        refine then_ret ?_
        exact ret_one .ret (.inl rfl) rfl (k : Int) (OT.tmp rfl) (by rw [← hk2, hst, c16, Bool.true_or]; simp) (by exact picks_nil)
      · try simp only [decide_eq_true_eq, decide_eq_false_iff_not, Bool.or_eq_true, Bool.and_eq_true, Bool.or_eq_false_iff, Bool.and_eq_false_iff, Bool.not_eq_true', Bool.not_eq_false', ne_eq, Classical.not_not] at c16
        refine tr_skip ?_
        refine block_normal ?_
        refine then_normal ?_
        -- region 6
        refine tr_env (es_cons (t := 0) (OT.tmp rfl) (es_cons (t := 1) (OT.tmp rfl) (es_cons (t := 7) (OT.tmp rfl) (es_cons (t := 8) (OT.tmp rfl) es_nil)))) ?_
        refine tr_region ?_
        refine op_pure (pu_add' (OT.tmp rfl) OT.const (by omega)) rfl rfl ?_
        refine op_pure (pu_move (OT.tmp rfl)) rfl rfl ?_
        refine tr_nil ?_
        refine then_normal ?_
        exact tr_again (k + 1) ⟨by omega, by rw [← hk2, hst, c16, Bool.false_or]⟩ (by omega) (es_append (es_cons (t := 8) (by exact OT.tmp rfl) es_nil) (es_cons (t := 0) (OT.tmp rfl) (es_cons (t := 1) (OT.tmp rfl) (es_cons (t := 7) (OT.tmp rfl) es_nil)))) (own_picks (by exact picks_nil))
    · try simp only [decide_eq_true_eq, decide_eq_false_iff_not, Bool.or_eq_true, Bool.and_eq_true, Bool.or_eq_false_iff, Bool.and_eq_false_iff, Bool.not_eq_true', Bool.not_eq_false', ne_eq, Classical.not_not] at c9
      refine tr_exit ?_
      refine then_exit ?_
      refine then_exit ?_
      refine block_hit ?_
      refine then_normal ?_
      refine tr_seq ?_
      -- region 7
      refine tr_env es_nil ?_
      refine tr_region ?_
      refine op_pure (pu_assign OT.const) rfl rfl ?_
      refine tr_nil ?_
      refine then_normal ?_
      refine tr_ret ?_
      exact ret_one .ret (.inl rfl) rfl (-1) (OT.tmp rfl) (by rw [← hk2, List.drop_of_length_le (by omega)]; rfl) (by exact picks_nil)
set_option maxHeartbeats 1000000 in
set_option maxRecDepth 20000 in
/-- slices.ContainsFunc[[][]rhizome/api.Tuple,[]rhizome/api.Tuple] -/
theorem hasL_fn (xs : List (List Tp)) (fv : Value) (p : List Tp → Bool) (hm : xs.length ≤ 1000) (hfv : ∀ x, CtV Try.prog fv [kL.T x] [] Unit (fun _ => BoolT (p x)) (fun _ => []) (fun _ => True)) : Ct Try.prog 68 [SlT kL xs, IsV fv] ([]) Unit (fun _ => BoolT (xs.any p)) (fun _ => []) (fun _ => True) := by
  refine fn_intro Try.func68 rfl rfl ?_
  intro H w
  refine tr_seq ?_
  -- region 0
  refine tr_env (es_cons (t := 0) (OT.tmp rfl) (es_cons (t := 1) (OT.tmp rfl) es_nil)) ?_
  refine tr_region ?_
  refine op_pure (pu_assign OT.const) rfl rfl ?_
  refine tr_nil ?_
  refine then_normal ?_
  refine tr_seq ?_
  -- region 1
  refine tr_env (es_cons (t := 0) (OT.tmp rfl) (es_cons (t := 1) (OT.tmp rfl) es_nil)) ?_
  refine tr_region ?_
  refine op_pure (pu_move (OT.tmp rfl)) rfl rfl ?_
  refine op_pure (pu_move (OT.tmp rfl)) rfl rfl ?_
  refine op_acts (acts_call (idxL_fn _ _ p (by assumption) (by assumption)) (show enters Try.prog 78 = true from by decide +kernel) (OTs.cons (OT.tmp rfl) (OTs.cons (OT.tmp rfl) OTs.nil)) (List.Perm.refl _)) (List.Perm.refl _) rfl rfl (fun r1_2 hr1_2 => ?_)
  refine op_pure (pu_geq (OT.tmp rfl) OT.const) rfl rfl ?_
  refine op_pure (pu_assign (OT.tmp rfl)) rfl rfl ?_
  refine tr_nil ?_
  refine then_normal ?_
  refine tr_ret ?_
  exact ret_one .ret (.inl rfl) rfl () (OT.val (OT.tmp rfl) (congrArg Value.bool hr1_2)) trivial (by exact picks_nil)
set_option maxHeartbeats 1000000 in
set_option maxRecDepth 20000 in
/-- rhizome/tuple.sets -/
theorem sets_fn (xs : List (List Tp)) (hm : xs.length ≤ 1000) : Ct Try.prog 50 [SlT kL xs] ([]) Unit (fun _ => BoolT (!(xs.any fun l => !risesB l))) (fun _ => []) (fun _ => True) := by
  refine fn_intro Try.func50 rfl rfl ?_
  intro H w
  refine tr_seq ?_
  -- region 0
  refine tr_env (es_cons (t := 0) (OT.tmp rfl) es_nil) ?_
  refine tr_region ?_
  refine op_pure (pu_assign OT.const) rfl rfl ?_
  refine tr_nil ?_
  refine then_normal ?_
  refine tr_seq ?_
  -- region 1
  refine tr_env (es_cons (t := 0) (OT.tmp rfl) es_nil) ?_
  refine tr_region ?_
  refine op_pure (pu_move (OT.tmp rfl)) rfl rfl ?_
  refine op_acts (acts_call (hasL_fn _ _ (fun l => !risesB l) (by assumption) (fun x => CtV.of0 (sets1_fn x) (by kernel_rfl))) (show enters Try.prog 68 = true from by decide +kernel) (OTs.cons (OT.tmp rfl) (OTs.cons OT.func OTs.nil)) (List.Perm.refl _)) (List.Perm.refl _) rfl rfl (fun _ _ => ?_)
  refine op_pure (pu_not (OT.tmp rfl)) rfl rfl ?_
  refine op_pure (pu_assign (OT.tmp rfl)) rfl rfl ?_
  refine tr_nil ?_
  refine then_normal ?_
  refine tr_ret ?_
  exact ret_one .ret (.inl rfl) rfl () (OT.tmp rfl) trivial (by exact picks_nil)
set_option maxHeartbeats 1000000 in
set_option maxRecDepth 20000 in
/-- rhizome/tuple.Diff -/
theorem Diff_fn (a b : List Tp) (hs : Small a) (hb : Small b) : CtM K0 n0 Try.prog 28 [SlT kT a, SlT kT b] ([]) Unit (fun _ => TupT [(kDF K0 n0).T (diffR a b).1, I64 (diffR a b).2]) (fun _ => []) (fun _ => True) := by
  refine fn_introM Try.func28 rfl rfl ?_
  intro H w hK hn
  refine tr_seq ?_
  -- region 0
  refine tr_env (es_cons (t := 0) (OT.tmp rfl) (es_cons (t := 1) (OT.tmp rfl) es_nil)) ?_
  refine tr_region ?_
  refine op_acts (acts_alloc ((z44f (K0 := K0) (n0 := n0)))) (List.Perm.refl _) rfl rfl (fun g0_0 _ => ?_)
  refine op_pure (pu_assign OT.const) rfl rfl ?_
  refine tr_nil ?_
  refine then_normal ?_
  refine tr_seq ?_
  refine tr_seq ?_
  -- region 1
  refine tr_env (es_cons (t := 0) (OT.tmp rfl) (es_cons (t := 1) (OT.tmp rfl) (es_cons (t := 4) (OT.tmp rfl) es_nil))) ?_
  refine tr_region ?_
  refine op_pure (pu_move (OT.tmp rfl)) rfl rfl ?_
  refine op_pure (pu_move (OT.tmp rfl)) rfl rfl ?_
  refine op_acts (acts_lit (d := kL) (v0 := []) (show slTy Try.prog 77 40 1 24 = true from by decide +kernel) (show tyOk Try.prog 40 false 1 = true from by decide +kernel) z40 (show 2 * 1 ≤ 16777216 from by decide) (by decide) (fills_arr rfl rfl (by decide) (OT.tmp rfl) (fills_arr rfl rfl (by decide) (OT.tmp rfl) fills_nil))) (List.Perm.refl _) rfl rfl (fun _ _ => ?_)
  refine op_acts (acts_call (sets_fn [a, b] (by simp)) (show enters Try.prog 50 = true from by decide +kernel) (OTs.cons (OT.tmp rfl) OTs.nil) (List.Perm.refl _)) (List.Perm.refl _) rfl rfl (fun _ _ => ?_)
  refine op_pure (pu_not (OT.tmp rfl)) rfl rfl ?_
  refine tr_nil ?_
  refine then_normal ?_
  refine tr_cond (OT.tmp rfl) (fun c13 => ?_) (fun c13 => ?_)
  · skip
    rw [sets2] at c13
    have hd : diffR a b = (([], []), 1) := by rw [diffR, if_neg (by rw [Bool.not_eq_true'] at c13; rw [c13]; simp)]
    refine tr_seq ?_
    -- region 2
    refine tr_env (es_cons (t := 4) (OT.tmp rfl) es_nil) ?_
    refine tr_region ?_
    refine op_pure (pu_build (d := kDF K0 n0) (v0 := ([], [])) (ps := [(0, 1), (1, 1)]) (z44f (K0 := K0) (n0 := n0)) (by kernel_rfl) rfl fills_nil) rfl rfl ?_
    refine op_acts (acts_store_var (OT.tmp rfl) (OT.tmp rfl) (by exact perm_at 0 rfl) (show tyOk Try.prog 44 true 2 = true from by decide +kernel)) (by exact perm_at 0 rfl) rfl rfl (fun _ _ => ?_)
    refine op_pure (pu_assign OT.const) rfl rfl ?_
    refine tr_nil ?_
    refine then_normal ?_
    refine tr_ret ?_
    refine then_ret ?_
    exact ret_cell_tmp .ret (.inl rfl) rfl () (OT.tmp rfl) (by exact mem_at 0 rfl) (show tyOk Try.prog 44 true 2 = true from by decide +kernel) (OT.tmp rfl) (fun _ _ h => (by rw [hd]; exact h)) trivial (by exact picks_nil)
  · skip
    rw [sets2] at c13
    have hc : (risesB a && risesB b) = true := by simpa using c13
    have hd : diffR a b = ((withoutL b a, withoutL a b), 0) := by rw [diffR, if_pos hc]
    obtain ⟨hra, hrb⟩ := Bool.and_eq_true_iff.1 hc
    refine tr_skip ?_
    refine then_normal ?_
    refine tr_seq ?_
    -- region 3
    refine tr_env (es_cons (t := 0) (OT.tmp rfl) (es_cons (t := 1) (OT.tmp rfl) (es_cons (t := 4) (OT.tmp rfl) es_nil))) ?_
    refine tr_region ?_
    refine op_pure (pu_move (OT.tmp rfl)) rfl rfl ?_
    refine op_pure (pu_move (OT.tmp rfl)) rfl rfl ?_
    refine op_acts (acts_call (walk_fn a b hs hb hra hrb) (show enters Try.prog 51 = true from by decide +kernel) (OTs.cons (OT.tmp rfl) (OTs.cons (OT.tmp rfl) OTs.nil)) (List.Perm.refl _)) (List.Perm.refl _) rfl rfl (fun _ _ => ?_)
    refine op_pure (pu_move (OT.tmp rfl)) rfl rfl ?_
    refine op_pure (pu_extract (OT.tmp rfl) rfl) rfl rfl ?_
    refine op_pure (pu_extract (OT.tmp rfl) rfl) rfl rfl ?_
    refine op_pure (pu_extract (OT.tmp rfl) rfl) rfl rfl ?_
    refine op_pure (pu_assign (OT.tmp rfl)) rfl rfl ?_
    refine op_pure (pu_assign (OT.tmp rfl)) rfl rfl ?_
    refine op_pure (pu_assign (OT.tmp rfl)) rfl rfl ?_
    refine tr_nil ?_
    refine then_normal ?_
    refine tr_seq ?_
    -- region 4
    refine tr_env (es_cons (t := 4) (OT.tmp rfl) (es_cons (t := 6) (OT.tmp rfl) (es_cons (t := 8) (OT.tmp rfl) es_nil))) ?_
    refine tr_region ?_
    refine op_pure (pu_move (OT.tmp rfl)) rfl rfl ?_
    refine op_acts (acts_callM (own_fn (withoutL b a) (hb.without a)) (mk_in hK hn) (show enters Try.prog 56 = true from by decide +kernel) (OTs.cons (OT.tmp rfl) OTs.nil) (List.Perm.refl _)) (List.Perm.refl _) rfl rfl (fun v4_1 _ => ?_)
    refine op_pure (pu_move (OT.tmp rfl)) rfl rfl ?_
    refine op_acts (acts_callM (own_fn (withoutL a b) (hs.without b)) (mk_in hK hn) (show enters Try.prog 56 = true from by decide +kernel) (OTs.cons (OT.tmp rfl) OTs.nil) (List.Perm.refl _)) (List.Perm.refl _) rfl rfl (fun v4_3 _ => ?_)
    refine tr_freezeF (mk_in hK hn) (fun g => blks_nil) (by exact perm_at 1 rfl) 23 (OT.tmp rfl) ?_
    refine tr_freezeF (mk_in hK hn) (fun g => blks_nil) (by exact perm_at 0 rfl) 25 (OT.tmp rfl) ?_
    refine op_pure (pu_build (d := kDF K0 n0) (v0 := ([], [])) (ps := [(0, 1), (1, 1)]) (z44f (K0 := K0) (n0 := n0)) (by kernel_rfl) rfl (fills_cons rfl (Lens.fst (a := kFF K0 n0) (b := kFF K0 n0)) (OT.tmp rfl) (fills_cons rfl (Lens.snd (a := kFF K0 n0) (b := kFF K0 n0)) (OT.tmp rfl) fills_nil))) rfl rfl ?_
    refine op_acts (acts_store_var (OT.tmp rfl) (OT.tmp rfl) (by exact perm_at 0 rfl) (show tyOk Try.prog 44 true 2 = true from by decide +kernel)) (by exact perm_at 0 rfl) rfl rfl (fun _ _ => ?_)
    refine op_pure (pu_assign OT.const) rfl rfl ?_
    refine tr_nil ?_
    refine then_normal ?_
    refine tr_ret ?_
    exact ret_cell_tmp .ret (.inl rfl) rfl () (OT.tmp rfl) (by exact mem_at 0 rfl) (show tyOk Try.prog 44 true 2 = true from by decide +kernel) (OT.tmp rfl) (fun _ _ h => (by rw [hd]; exact h)) trivial (by exact picks_nil)
end Go.Proofs.Ytloblpklkhepbaa
