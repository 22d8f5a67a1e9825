/- Walks through the Go functions rhizomelaw10.TupleOrders, rhizomelaw10.TupleThen, as typed contracts. -/
import Derived.Test.YtloblpklkhepbaaTu10
namespace Go.Proofs.Ytloblpklkhepbaa
open Go Go.Gw Go.So Go.Tu
set_option linter.unusedVariables false
set_option linter.unusedSimpArgs false
theorem order_law (a b c : Tp) : (decide (cmpL a b = cmpL a b) && decide (cmpL b a = -cmpL a b) && (decide (0 < cmpL a b) || decide (0 < cmpL b c) || decide (cmpL a c ≤ 0))) = true := by
  have h1 := cmp_neg a b
  rw [decide_eq_true rfl, decide_eq_true h1, Bool.true_and, Bool.true_and]
  by_cases h2 : 0 < cmpL a b
  · simp [h2]
  · by_cases h3 : 0 < cmpL b c
    · simp [h3]
    · have := (cmp_trans (a := a) (b := b) (c := c) (by omega) (by omega)).1
      simp [this]
theorem one_few {l : List Tp} (h : fewB [l] = true) : l.length ≤ 40 ∧ ∀ x ∈ l, x.length ≤ 40 := few_of h (by simp)
theorem Few.diff1 {a b : List Tp} (h1 : Few a) (h2 : Few b) : Few (diffR a b).1.1 ∧ Few (diffR a b).1.2 := by
  unfold diffR; split
  · exact ⟨h2.without _, h1.without _⟩
  · exact ⟨⟨by simp, by simp⟩, ⟨by simp, by simp⟩⟩

set_option maxHeartbeats 1000000 in
set_option maxRecDepth 20000 in
/-- rhizome/rhizomelaw10.TupleOrders -/
theorem TupleOrders_fn (a b c : Tp) : Ct Try.prog 6 [SlT kI6 a, SlT kI6 b, SlT kI6 c] ([]) Unit (fun _ => BoolT true) (fun _ => []) (fun _ => True) := by
  refine fn_intro Try.func6 rfl rfl ?_
  intro H w
  refine tr_seq ?_
  -- region 0
  refine tr_env (es_cons (t := 0) (OT.tmp rfl) (es_cons (t := 1) (OT.tmp rfl) (es_cons (t := 2) (OT.tmp rfl) es_nil))) ?_
  refine tr_region ?_
  refine op_pure (pu_assign OT.const) rfl rfl ?_
  refine tr_nil ?_
  refine then_normal ?_
  refine tr_seq ?_
  refine tr_seq ?_
  -- region 1
  refine tr_env (es_cons (t := 0) (OT.tmp rfl) (es_cons (t := 1) (OT.tmp rfl) (es_cons (t := 2) (OT.tmp rfl) es_nil))) ?_
  refine tr_region ?_
  refine op_acts (acts_call awake_fn (show enters Try.prog 20 = true from by decide +kernel) OTs.nil (List.Perm.refl _)) (List.Perm.refl _) rfl rfl (fun _ _ => ?_)
  refine op_pure (pu_not (OT.tmp rfl)) rfl rfl ?_
  refine op_pure (pu_move (OT.tmp rfl)) rfl rfl ?_
  refine op_gu_yes rfl rfl rfl (OT.tmp rfl) ?_
  refine op_pure (pu_move (OT.tmp rfl)) rfl rfl ?_
  refine op_gu_yes rfl rfl rfl (OT.tmp rfl) ?_
  refine op_pure (pu_move (OT.tmp rfl)) rfl rfl ?_
  refine op_gu_yes rfl rfl rfl (OT.tmp rfl) ?_
  refine op_pure (pu_move (OT.tmp rfl)) rfl rfl ?_
  refine op_gu_yes rfl rfl rfl (OT.tmp rfl) ?_
  refine op_acts (acts_lit (d := kT) (v0 := []) (show slTy Try.prog 40 38 1 24 = true from by decide +kernel) (show tyOk Try.prog 38 false 1 = true from by decide +kernel) z38 (show 3 * 1 ≤ 16777216 from by decide) (by decide) (fills_arr rfl rfl (by decide) (OT.tmp rfl) (fills_arr rfl rfl (by decide) (OT.tmp rfl) (fills_arr rfl rfl (by decide) (OT.tmp rfl) fills_nil)))) (List.Perm.refl _) rfl rfl (fun _ _ => ?_)
  refine op_gu_yes rfl rfl rfl (OT.tmp rfl) ?_
  refine op_acts (acts_lit (d := kL) (v0 := []) (show slTy Try.prog 77 40 1 24 = true from by decide +kernel) (show tyOk Try.prog 40 false 1 = true from by decide +kernel) z40 (show 1 * 1 ≤ 16777216 from by decide) (by decide) (fills_arr rfl rfl (by decide) (OT.tmp rfl) fills_nil)) (List.Perm.refl _) rfl rfl (fun _ _ => ?_)
  refine op_gu_yes rfl rfl rfl (OT.tmp rfl) ?_
  refine op_acts (acts_call (few_fn [[a, b, c]] (by simp)) (show enters Try.prog 21 = true from by decide +kernel) (OTs.cons (OT.tmp rfl) OTs.nil) (List.Perm.refl _)) (List.Perm.refl _) rfl rfl (fun _ _ => ?_)
  refine op_gu_yes rfl rfl rfl (OT.tmp rfl) ?_
  refine op_pure (pu_not (OT.tmp rfl)) rfl rfl ?_
  refine op_pure (pu_pick_or (OT.tmp rfl) (by exact OT.gu_in (OT.tmp rfl) ⟨trivial, rfl⟩)) rfl rfl ?_
  refine tr_nil ?_
  refine then_normal ?_
  refine tr_cond (OT.tmp rfl) (fun c18 => ?_) (fun c18 => ?_)
  · skip
    refine tr_seq ?_
    -- region 2
    refine tr_env es_nil ?_
    refine tr_region ?_
    refine op_acts (acts_call awake_fn (show enters Try.prog 20 = true from by decide +kernel) OTs.nil (List.Perm.refl _)) (List.Perm.refl _) rfl rfl (fun _ _ => ?_)
    refine op_pure (pu_assign (OT.tmp rfl)) rfl rfl ?_
    refine tr_nil ?_
    refine then_normal ?_
    refine tr_ret ?_
    refine then_ret ?_
    exact ret_one .ret (.inl rfl) rfl () (OT.tmp rfl) trivial (by exact picks_nil)
  · skip
    have hf : fewB [[a, b, c]] = true := by simpa using c18
    have hfa : a.length ≤ 1000 := by have := (one_few hf).2 a (by simp); omega
    have hfb : b.length ≤ 1000 := by have := (one_few hf).2 b (by simp); omega
    refine tr_skip ?_
    refine then_normal ?_
    refine tr_seq ?_
    -- region 3
    refine tr_env (es_cons (t := 0) (OT.tmp rfl) (es_cons (t := 1) (OT.tmp rfl) (es_cons (t := 2) (OT.tmp rfl) es_nil))) ?_
    refine tr_region ?_
    refine op_pure (pu_move (OT.tmp rfl)) rfl rfl ?_
    refine op_pure (pu_move (OT.tmp rfl)) rfl rfl ?_
    refine op_acts (acts_call (Cmp_all _ _) (show enters Try.prog 22 = true from by decide +kernel) (OTs.cons (OT.tmp rfl) (OTs.cons (OT.tmp rfl) OTs.nil)) (List.Perm.refl _)) (List.Perm.refl _) rfl rfl (fun _ _ => ?_)
    refine op_pure (pu_assign (OT.tmp rfl)) rfl rfl ?_
    refine tr_nil ?_
    refine then_normal ?_
    refine tr_seq ?_
    -- region 4
    refine tr_env (es_cons (t := 0) (OT.tmp rfl) (es_cons (t := 1) (OT.tmp rfl) (es_cons (t := 2) (OT.tmp rfl) (es_cons (t := 7) (OT.tmp rfl) es_nil)))) ?_
    have hv := cmp_vals a b
    refine tr_region ?_
    refine op_pure (pu_move (OT.tmp rfl)) rfl rfl ?_
    refine op_pure (pu_move (OT.tmp rfl)) rfl rfl ?_
    refine op_pure (pu_move (OT.tmp rfl)) rfl rfl ?_
    refine op_acts (acts_call (rCmp_fn a b hfa hfb) (show enters Try.prog 23 = true from by decide +kernel) (OTs.cons (OT.tmp rfl) (OTs.cons (OT.tmp rfl) OTs.nil)) (List.Perm.refl _)) (List.Perm.refl _) rfl rfl (fun _ _ => ?_)
    refine op_pure (pu_eql (OT.tmp rfl) (OT.tmp rfl)) rfl rfl ?_
    refine op_pure (pu_move (OT.tmp rfl)) rfl rfl ?_
    refine op_gu rfl rfl rfl (OT.gu_mk (OT.tmp rfl)) (fun hg => by (have hg1 := hg.2; (try simp only [decide_eq_true_eq, decide_eq_false_iff_not] at hg1); exact pu_move (by exact OT.tmp rfl))) rfl ?_
    refine op_gu rfl rfl rfl (OT.gu_mk (OT.tmp rfl)) (fun hg => by (have hg1 := hg.2; (try simp only [decide_eq_true_eq, decide_eq_false_iff_not] at hg1); exact pu_move (by exact OT.tmp rfl))) rfl ?_
    refine op_gu_acts () rfl rfl rfl (OT.gu_mk (OT.tmp rfl)) (fun hg => by (have hg1 := hg.2; (try simp only [decide_eq_true_eq, decide_eq_false_iff_not] at hg1); exact acts_call (Cmp_all _ _) (show enters Try.prog 22 = true from by decide +kernel) (OTs.cons (by exact OT.gu (OT.tmp rfl) hg) (OTs.cons (by exact OT.gu (OT.tmp rfl) hg) OTs.nil)) (List.Perm.refl _))) rfl (fun _ _ => ?_)
    refine op_gu rfl rfl rfl (OT.gu_mk (OT.tmp rfl)) (fun hg => by (have hg1 := hg.2; (try simp only [decide_eq_true_eq, decide_eq_false_iff_not] at hg1); exact pu_move (by exact OT.tmp rfl))) rfl ?_
    refine op_gu rfl rfl rfl (OT.gu_mk (OT.tmp rfl)) (fun hg => by (have hg1 := hg.2; (try simp only [decide_eq_true_eq, decide_eq_false_iff_not] at hg1); exact pu_neg (by exact OT.gu (OT.tmp rfl) hg) (by omega))) rfl ?_
    refine op_gu rfl rfl rfl (OT.gu_mk (OT.tmp rfl)) (fun hg => by (have hg1 := hg.2; (try simp only [decide_eq_true_eq, decide_eq_false_iff_not] at hg1); exact pu_eql (by exact OT.gu (OT.tmp rfl) hg) (by exact OT.gu (OT.tmp rfl) hg))) rfl ?_
    refine op_pure (pu_pick_and (OT.tmp rfl) (by exact OT.tmp rfl)) rfl rfl ?_
    refine op_pure (pu_move (OT.tmp rfl)) rfl rfl ?_
    refine op_gu rfl rfl rfl (OT.gu_mk (OT.tmp rfl)) (fun hg => by (have hg1 := hg.2; (try simp only [decide_eq_true_eq, decide_eq_false_iff_not] at hg1); exact pu_move (by exact OT.tmp rfl))) rfl ?_
    refine op_gu rfl rfl rfl (OT.gu_mk (OT.tmp rfl)) (fun hg => by (have hg1 := hg.2; (try simp only [decide_eq_true_eq, decide_eq_false_iff_not] at hg1); exact pu_gtr (by exact OT.gu (OT.tmp rfl) hg) OT.const)) rfl ?_
    refine op_gu rfl rfl rfl (OT.gu_mk (OT.tmp rfl)) (fun hg => by (have hg1 := hg.2; (try simp only [decide_eq_true_eq, decide_eq_false_iff_not] at hg1); exact pu_move (by exact OT.gu (OT.tmp rfl) hg))) rfl ?_
    refine op_gu rfl rfl rfl (OT.tmp rfl) (fun hg => by (have hg1 := hg.2; (try simp only [decide_eq_true_eq, decide_eq_false_iff_not] at hg1); exact pu_move (by exact OT.tmp rfl))) rfl ?_
    refine op_gu rfl rfl rfl (OT.tmp rfl) (fun hg => by (have hg1 := hg.2; (try simp only [decide_eq_true_eq, decide_eq_false_iff_not] at hg1); exact pu_move (by exact OT.tmp rfl))) rfl ?_
    refine op_gu_acts () rfl rfl rfl (OT.tmp rfl) (fun hg => by (have hg1 := hg.2; (try simp only [decide_eq_true_eq, decide_eq_false_iff_not] at hg1); exact acts_call (Cmp_all _ _) (show enters Try.prog 22 = true from by decide +kernel) (OTs.cons (by exact OT.gu (OT.tmp rfl) hg) (OTs.cons (by exact OT.gu (OT.tmp rfl) hg) OTs.nil)) (List.Perm.refl _))) rfl (fun _ _ => ?_)
    refine op_gu rfl rfl rfl (OT.tmp rfl) (fun hg => by (have hg1 := hg.2; (try simp only [decide_eq_true_eq, decide_eq_false_iff_not] at hg1); exact pu_gtr (by exact OT.gu (OT.tmp rfl) hg) OT.const)) rfl ?_
    refine op_gu rfl rfl rfl (OT.gu_mk (OT.tmp rfl)) (fun hg => by (have hg1 := hg.2; (try simp only [decide_eq_true_eq, decide_eq_false_iff_not] at hg1); exact pu_pick_or_p hg (by exact OT.gu (OT.tmp rfl) hg) (OT.tmp rfl))) rfl ?_
    refine op_gu rfl rfl rfl (OT.gu_mk (OT.tmp rfl)) (fun hg => by (have hg1 := hg.2; (try simp only [decide_eq_true_eq, decide_eq_false_iff_not] at hg1); exact pu_move (by exact OT.gu (OT.tmp rfl) hg))) rfl ?_
    refine op_gu rfl rfl rfl (OT.tmp rfl) (fun hg => by (have hg1 := hg.2; (try simp only [decide_eq_true_eq, decide_eq_false_iff_not] at hg1); exact pu_move (by exact OT.tmp rfl))) rfl ?_
    refine op_gu rfl rfl rfl (OT.tmp rfl) (fun hg => by (have hg1 := hg.2; (try simp only [decide_eq_true_eq, decide_eq_false_iff_not] at hg1); exact pu_move (by exact OT.tmp rfl))) rfl ?_
    refine op_gu_acts () rfl rfl rfl (OT.tmp rfl) (fun hg => by (have hg1 := hg.2; (try simp only [decide_eq_true_eq, decide_eq_false_iff_not] at hg1); exact acts_call (Cmp_all _ _) (show enters Try.prog 22 = true from by decide +kernel) (OTs.cons (by exact OT.gu (OT.tmp rfl) hg) (OTs.cons (by exact OT.gu (OT.tmp rfl) hg) OTs.nil)) (List.Perm.refl _))) rfl (fun _ _ => ?_)
    refine op_gu rfl rfl rfl (OT.tmp rfl) (fun hg => by (have hg1 := hg.2; (try simp only [decide_eq_true_eq, decide_eq_false_iff_not] at hg1); exact pu_leq (by exact OT.gu (OT.tmp rfl) hg) OT.const)) rfl ?_
    refine op_gu rfl rfl rfl (OT.gu_mk (OT.tmp rfl)) (fun hg => by (have hg1 := hg.2; (try simp only [decide_eq_true_eq, decide_eq_false_iff_not] at hg1); exact pu_pick_or_p hg (by exact OT.gu (OT.tmp rfl) hg) (OT.tmp rfl))) rfl ?_
    refine op_pure (pu_pick_and (OT.tmp rfl) (by exact OT.tmp rfl)) rfl rfl ?_
    refine op_pure (pu_assign (OT.tmp rfl)) rfl rfl ?_
    refine tr_nil ?_
    refine then_normal ?_
    refine tr_ret ?_
    exact ret_one .ret (.inl rfl) rfl () (OT.val (OT.tmp rfl) (congrArg Value.bool (order_law a b c))) trivial (by exact picks_nil)
set_option maxHeartbeats 1000000 in
set_option maxRecDepth 20000 in
/-- rhizome/rhizomelaw10.TupleThen -/
theorem TupleThen_fn (x y : Dl) : Ct Try.prog 7 [kD.T x, kD.T y] ([]) Unit (fun _ => BoolT true) (fun _ => []) (fun _ => True) := by
  refine fn_intro Try.func7 rfl rfl ?_
  intro H w
  refine tr_seq ?_
  -- region 0
  refine tr_env (es_cons (t := 0) (OT.tmp rfl) (es_cons (t := 1) (OT.tmp rfl) es_nil)) ?_
  refine tr_region ?_
  refine op_acts (acts_box (d := kD) (OT.tmp rfl)) (List.Perm.refl _) rfl rfl (fun g0_0 _ => ?_)
  refine op_acts (acts_box (d := kD) (OT.tmp rfl)) (List.Perm.refl _) rfl rfl (fun g0_1 _ => ?_)
  refine op_pure (pu_assign OT.const) rfl rfl ?_
  refine tr_nil ?_
  refine then_normal ?_
  refine tr_seq ?_
  refine tr_seq ?_
  -- region 1
  refine tr_env (es_cons (t := 2) (OT.tmp rfl) (es_cons (t := 3) (OT.tmp rfl) es_nil)) ?_
  refine tr_region ?_
  refine op_acts (acts_call awake_fn (show enters Try.prog 20 = true from by decide +kernel) OTs.nil (List.Perm.refl _)) (List.Perm.refl _) rfl rfl (fun _ _ => ?_)
  refine op_pure (pu_not (OT.tmp rfl)) rfl rfl ?_
  refine op_pure (pu_move (OT.tmp rfl)) rfl rfl ?_
  refine op_gu_yes rfl rfl rfl (OT.tmp rfl) ?_
  refine op_pure (pu_faddr (OT.tmp rfl) (show fieldOk Try.prog 44 0 0 false 1 = true from by decide +kernel)) rfl rfl ?_
  refine op_gu_yes rfl rfl rfl (OT.tmp rfl) ?_
  refine op_pure (pu_load_blk (OT.tmp rfl) (by exact mem_at 1 rfl) (Lens.fst (a := kL) (b := kL)) (show tyOk Try.prog 40 false 1 = true from by decide +kernel)) rfl rfl ?_
  refine op_gu_yes rfl rfl rfl (OT.tmp rfl) ?_
  refine op_pure (pu_faddr (OT.tmp rfl) (show fieldOk Try.prog 44 1 1 false 1 = true from by decide +kernel)) rfl rfl ?_
  refine op_gu_yes rfl rfl rfl (OT.tmp rfl) ?_
  refine op_pure (pu_load_blk (OT.tmp rfl) (by exact mem_at 1 rfl) (Lens.snd (a := kL) (b := kL)) (show tyOk Try.prog 40 false 1 = true from by decide +kernel)) rfl rfl ?_
  refine op_gu_yes rfl rfl rfl (OT.tmp rfl) ?_
  refine op_pure (pu_faddr (OT.tmp rfl) (show fieldOk Try.prog 44 0 0 false 1 = true from by decide +kernel)) rfl rfl ?_
  refine op_gu_yes rfl rfl rfl (OT.tmp rfl) ?_
  refine op_pure (pu_load_blk (OT.tmp rfl) (by exact mem_at 0 rfl) (Lens.fst (a := kL) (b := kL)) (show tyOk Try.prog 40 false 1 = true from by decide +kernel)) rfl rfl ?_
  refine op_gu_yes rfl rfl rfl (OT.tmp rfl) ?_
  refine op_pure (pu_faddr (OT.tmp rfl) (show fieldOk Try.prog 44 1 1 false 1 = true from by decide +kernel)) rfl rfl ?_
  refine op_gu_yes rfl rfl rfl (OT.tmp rfl) ?_
  refine op_pure (pu_load_blk (OT.tmp rfl) (by exact mem_at 0 rfl) (Lens.snd (a := kL) (b := kL)) (show tyOk Try.prog 40 false 1 = true from by decide +kernel)) rfl rfl ?_
  refine op_gu_yes rfl rfl rfl (OT.tmp rfl) ?_
  refine op_acts (acts_lit (d := kL) (v0 := []) (show slTy Try.prog 77 40 1 24 = true from by decide +kernel) (show tyOk Try.prog 40 false 1 = true from by decide +kernel) z40 (show 4 * 1 ≤ 16777216 from by decide) (by decide) (fills_arr rfl rfl (by decide) (OT.tmp rfl) (fills_arr rfl rfl (by decide) (OT.tmp rfl) (fills_arr rfl rfl (by decide) (OT.tmp rfl) (fills_arr rfl rfl (by decide) (OT.tmp rfl) fills_nil))))) (List.Perm.refl _) rfl rfl (fun _ _ => ?_)
  refine op_gu_yes rfl rfl rfl (OT.tmp rfl) ?_
  refine op_acts (acts_call (few_fn [x.1, x.2, y.1, y.2] (by simp)) (show enters Try.prog 21 = true from by decide +kernel) (OTs.cons (OT.tmp rfl) OTs.nil) (List.Perm.refl _)) (List.Perm.refl _) rfl rfl (fun _ _ => ?_)
  refine op_gu_yes rfl rfl rfl (OT.tmp rfl) ?_
  refine op_pure (pu_not (OT.tmp rfl)) rfl rfl ?_
  refine op_pure (pu_pick_or (OT.tmp rfl) (by exact OT.gu_in (OT.tmp rfl) ⟨trivial, rfl⟩)) rfl rfl ?_
  refine tr_nil ?_
  refine then_normal ?_
  refine tr_cond (OT.tmp rfl) (fun c23 => ?_) (fun c23 => ?_)
  · skip
    refine tr_seq ?_
    -- region 2
    refine tr_env es_nil ?_
    refine tr_region ?_
    refine op_acts (acts_call awake_fn (show enters Try.prog 20 = true from by decide +kernel) OTs.nil (List.Perm.refl _)) (List.Perm.refl _) rfl rfl (fun _ _ => ?_)
    refine op_pure (pu_assign (OT.tmp rfl)) rfl rfl ?_
    refine tr_nil ?_
    refine then_normal ?_
    refine tr_ret ?_
    refine then_ret ?_
    exact ret_one .ret (.inl rfl) rfl () (OT.tmp rfl) trivial (by exact picks_nil)
  · skip
    have hf : fewB [x.1, x.2, y.1, y.2] = true := by simpa using c23
    have h1 : Few x.1 := few_Few hf (by simp)
    have h2 : Few x.2 := few_Few hf (by simp)
    have h3 : Few y.1 := few_Few hf (by simp)
    have h4 : Few y.2 := few_Few hf (by simp)
    have hq := then_small h1 h2 h3 h4
    refine tr_skip ?_
    refine then_normal ?_
    refine tr_seq ?_
    -- region 3
    refine tr_env (es_cons (t := 2) (OT.tmp rfl) (es_cons (t := 3) (OT.tmp rfl) es_nil)) ?_
    refine tr_region ?_
    refine op_pure (pu_load_var (OT.tmp rfl) (by exact mem_at 1 rfl) (show tyOk Try.prog 44 true 2 = true from by decide +kernel)) rfl rfl ?_
    refine op_pure (pu_load_var (OT.tmp rfl) (by exact mem_at 0 rfl) (show tyOk Try.prog 44 true 2 = true from by decide +kernel)) rfl rfl ?_
    refine op_acts (acts_call (Then_fn x y h1 h2 h3 h4) (show enters Try.prog 24 = true from by decide +kernel) (OTs.cons (OT.tmp rfl) (OTs.cons (OT.tmp rfl) OTs.nil)) (List.Perm.refl _)) (List.Perm.refl _) rfl rfl (fun _ _ => ?_)
    refine op_pure (pu_move (OT.tmp rfl)) rfl rfl ?_
    refine op_pure (pu_extract (OT.tmp rfl) rfl) rfl rfl ?_
    refine op_pure (pu_extract (OT.tmp rfl) rfl) rfl rfl ?_
    refine op_acts (acts_alloc (z44)) (List.Perm.refl _) rfl rfl (fun g3_6 _ => ?_)
    refine op_acts (acts_store_var (OT.tmp rfl) (OT.tmp rfl) (by exact perm_at 0 rfl) (show tyOk Try.prog 44 true 2 = true from by decide +kernel)) (by exact perm_at 0 rfl) rfl rfl (fun _ _ => ?_)
    refine op_pure (pu_assign (OT.tmp rfl)) rfl rfl ?_
    refine tr_nil ?_
    refine then_normal ?_
    refine tr_seq ?_
    -- region 4
    refine tr_env (es_cons (t := 2) (OT.tmp rfl) (es_cons (t := 3) (OT.tmp rfl) (es_cons (t := 5) (OT.tmp rfl) (es_cons (t := 6) (OT.tmp rfl) es_nil)))) ?_
    refine tr_region ?_
    refine op_pure (pu_load_var (OT.tmp rfl) (by exact mem_at 2 rfl) (show tyOk Try.prog 44 true 2 = true from by decide +kernel)) rfl rfl ?_
    refine op_pure (pu_load_var (OT.tmp rfl) (by exact mem_at 1 rfl) (show tyOk Try.prog 44 true 2 = true from by decide +kernel)) rfl rfl ?_
    refine op_acts (acts_call (rThen_fn x y h1 h2 h3 h4) (show enters Try.prog 25 = true from by decide +kernel) (OTs.cons (OT.tmp rfl) (OTs.cons (OT.tmp rfl) OTs.nil)) (List.Perm.refl _)) (List.Perm.refl _) rfl rfl (fun _ _ => ?_)
    refine op_pure (pu_move (OT.tmp rfl)) rfl rfl ?_
    refine op_pure (pu_extract (OT.tmp rfl) rfl) rfl rfl ?_
    refine op_pure (pu_extract (OT.tmp rfl) rfl) rfl rfl ?_
    refine op_acts (acts_alloc (z44)) (List.Perm.refl _) rfl rfl (fun g4_6 _ => ?_)
    refine op_acts (acts_store_var (OT.tmp rfl) (OT.tmp rfl) (by exact perm_at 0 rfl) (show tyOk Try.prog 44 true 2 = true from by decide +kernel)) (by exact perm_at 0 rfl) rfl rfl (fun _ _ => ?_)
    refine op_pure (pu_assign (OT.tmp rfl)) rfl rfl ?_
    refine tr_nil ?_
    refine then_normal ?_
    refine tr_seq ?_
    -- region 5
    refine tr_env (es_cons (t := 5) (OT.tmp rfl) (es_cons (t := 6) (OT.tmp rfl) (es_cons (t := 7) (OT.tmp rfl) (es_cons (t := 8) (OT.tmp rfl) es_nil)))) ?_
    refine tr_region ?_
    refine op_pure (pu_move (OT.tmp rfl)) rfl rfl ?_
    refine op_pure (pu_move (OT.tmp rfl)) rfl rfl ?_
    refine op_pure (pu_eql (OT.tmp rfl) (OT.tmp rfl)) rfl rfl ?_
    refine op_pure (pu_move (OT.tmp rfl)) rfl rfl ?_
    refine op_gu rfl rfl rfl (OT.gu_mk (OT.tmp rfl)) (fun hg => by (have hg1 := hg.2; (try simp only [decide_eq_true_eq, decide_eq_false_iff_not] at hg1); exact pu_load_var (by exact OT.tmp rfl) (by exact mem_at 1 rfl) (show tyOk Try.prog 44 true 2 = true from by decide +kernel))) rfl ?_
    refine op_gu rfl rfl rfl (OT.gu_mk (OT.tmp rfl)) (fun hg => by (have hg1 := hg.2; (try simp only [decide_eq_true_eq, decide_eq_false_iff_not] at hg1); exact pu_load_var (by exact OT.tmp rfl) (by exact mem_at 0 rfl) (show tyOk Try.prog 44 true 2 = true from by decide +kernel))) rfl ?_
    refine op_gu_acts () rfl rfl rfl (OT.gu_mk (OT.tmp rfl)) (fun hg => by (have hg1 := hg.2; (try simp only [decide_eq_true_eq, decide_eq_false_iff_not] at hg1); exact acts_call (SameDelta_fn (thenR x y).1 (thenR x y).1 hq.1 hq.2 hq.1 hq.2) (show enters Try.prog 26 = true from by decide +kernel) (OTs.cons (by exact OT.gu (OT.tmp rfl) hg) (OTs.cons (by exact OT.gu (OT.tmp rfl) hg) OTs.nil)) (List.Perm.refl _))) rfl (fun _ _ => ?_)
    refine op_pure (pu_pick_and (OT.tmp rfl) (by exact OT.tmp rfl)) rfl rfl ?_
    refine op_pure (pu_assign (OT.tmp rfl)) rfl rfl ?_
    refine tr_nil ?_
    refine then_normal ?_
    refine tr_ret ?_
    exact ret_one .ret (.inl rfl) rfl () (OT.val (OT.tmp rfl) (congrArg Value.bool (by simp))) trivial (by exact picks_nil)
end Go.Proofs.Ytloblpklkhepbaa
