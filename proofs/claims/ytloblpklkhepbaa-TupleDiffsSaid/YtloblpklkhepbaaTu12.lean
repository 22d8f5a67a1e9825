/- Walks through the Go functions rhizomelaw10.TupleRound, as typed contracts. -/
import Derived.Test.YtloblpklkhepbaaTu11
namespace Go.Proofs.Ytloblpklkhepbaa
open Go Go.Gw Go.So Go.Tu
set_option linter.unusedVariables false
set_option linter.unusedSimpArgs false
theorem Diff_sets (x y : List Tp) (hx : Rises x) (hy : Rises y) (fx : Few x) (fy : Few y) : CtM noK 0 Try.prog 28 [SlT kT x, SlT kT y] [] Unit (fun _ => TupT [(kDF noK 0).T (withoutL y x, withoutL x y), I64 0]) (fun _ => []) (fun _ => True) := by
  have h := Diff_fn (K0 := noK) (n0 := 0) x y fx.small fy.small
  rw [diff_sets hx hy] at h; exact h
theorem Apply_sets (x y : List Tp) (hx : Rises x) (hy : Rises y) (fx : Few x) (fy : Few y) : CtM noK 0 Try.prog 39 [SlT kT x, kD.T (withoutL y x, withoutL x y)] [] Unit (fun _ => TupT [FreshT noK 0 (kF noK 0) y, I64 0]) (fun _ => []) (fun _ => True) := by
  have h := Apply_fn (K0 := noK) (n0 := 0) x (withoutL y x, withoutL x y) fx (fy.without _) (fx.without _)
  rw [apply_diff hx hy] at h; exact h
theorem Then_sets (x y z : List Tp) (hx : Rises x) (hy : Rises y) (hz : Rises z) (fx : Few x) (fy : Few y) (fz : Few z) : Ct Try.prog 24 [kD.T (withoutL y x, withoutL x y), kD.T (withoutL z y, withoutL y z)] [] Unit (fun _ => TupT [kD.T (withoutL z x, withoutL x z), I64 0]) (fun _ => []) (fun _ => True) := by
  have h := Then_fn (withoutL y x, withoutL x y) (withoutL z y, withoutL y z) (fy.without _) (fx.without _) (fz.without _) (fy.without _)
  rw [then_diffs hx hy hz] at h; exact h
theorem Same_self (x : List Tp) (hx : Small x) : Ct Try.prog 32 [SlT kT x, SlT kT x] [] Unit (fun _ => BoolT true) (fun _ => []) (fun _ => True) := by
  have h := Same_fn x x hx hx
  rw [decide_eq_true rfl] at h; exact h
theorem SameDelta_self (x : Dl) (h1 : Small x.1) (h2 : Small x.2) : Ct Try.prog 26 [kD.T x, kD.T x] [] Unit (fun _ => BoolT true) (fun _ => []) (fun _ => True) := by
  have h := SameDelta_fn x x h1 h2 h1 h2
  rw [decide_eq_true rfl, decide_eq_true rfl] at h; exact h
theorem set_all (l : List Tp) (h : Few l) : ∃ x, setR l = x ∧ Rises x ∧ Few x := ⟨_, rfl, (setR_spec l).1, h.set⟩

set_option maxHeartbeats 1000000 in
set_option maxRecDepth 20000 in
/-- rhizome/rhizomelaw10.TupleRound -/
theorem TupleRound_fn (a b c : List Tp) : Ct Try.prog 11 [SlT kT a, SlT kT b, SlT kT c] ([]) Unit (fun _ => BoolT true) (fun _ => []) (fun _ => True) := by
  refine fn_intro Try.func11 rfl rfl ?_
  intro H w
  refine tr_seq ?_
  -- region 0
  refine tr_env (es_cons (t := 0) (OT.tmp rfl) (es_cons (t := 1) (OT.tmp rfl) (es_cons (t := 2) (OT.tmp rfl) es_nil))) ?_
  refine tr_region ?_
  refine op_pure (pu_assign OT.const) rfl rfl ?_
  refine tr_nil ?_
  refine then_normal ?_
  refine tr_seq ?_
  refine tr_seq ?_
  -- region 1
  refine tr_env (es_cons (t := 0) (OT.tmp rfl) (es_cons (t := 1) (OT.tmp rfl) (es_cons (t := 2) (OT.tmp rfl) es_nil))) ?_
  refine tr_region ?_
  refine op_acts (acts_call awake_fn (show enters Try.prog 20 = true from by decide +kernel) OTs.nil (List.Perm.refl _)) (List.Perm.refl _) rfl rfl (fun _ _ => ?_)
  refine op_pure (pu_not (OT.tmp rfl)) rfl rfl ?_
  refine op_pure (pu_move (OT.tmp rfl)) rfl rfl ?_
  refine op_gu_yes rfl rfl rfl (OT.tmp rfl) ?_
  refine op_pure (pu_move (OT.tmp rfl)) rfl rfl ?_
  refine op_gu_yes rfl rfl rfl (OT.tmp rfl) ?_
  refine op_pure (pu_move (OT.tmp rfl)) rfl rfl ?_
  refine op_gu_yes rfl rfl rfl (OT.tmp rfl) ?_
  refine op_pure (pu_move (OT.tmp rfl)) rfl rfl ?_
  refine op_gu_yes rfl rfl rfl (OT.tmp rfl) ?_
  refine op_acts (acts_lit (d := kL) (v0 := []) (show slTy Try.prog 77 40 1 24 = true from by decide +kernel) (show tyOk Try.prog 40 false 1 = true from by decide +kernel) z40 (show 3 * 1 ≤ 16777216 from by decide) (by decide) (fills_arr rfl rfl (by decide) (OT.tmp rfl) (fills_arr rfl rfl (by decide) (OT.tmp rfl) (fills_arr rfl rfl (by decide) (OT.tmp rfl) fills_nil)))) (List.Perm.refl _) rfl rfl (fun _ _ => ?_)
  refine op_gu_yes rfl rfl rfl (OT.tmp rfl) ?_
  refine op_acts (acts_call (few_fn [a, b, c] (by simp)) (show enters Try.prog 21 = true from by decide +kernel) (OTs.cons (OT.tmp rfl) OTs.nil) (List.Perm.refl _)) (List.Perm.refl _) rfl rfl (fun _ _ => ?_)
  refine op_gu_yes rfl rfl rfl (OT.tmp rfl) ?_
  refine op_pure (pu_not (OT.tmp rfl)) rfl rfl ?_
  refine op_pure (pu_pick_or (OT.tmp rfl) (by exact OT.gu_in (OT.tmp rfl) ⟨trivial, rfl⟩)) rfl rfl ?_
  refine tr_nil ?_
  refine then_normal ?_
  refine tr_cond (OT.tmp rfl) (fun c31 => ?_) (fun c31 => ?_)
  · skip
    refine tr_seq ?_
    -- region 2
    refine tr_env es_nil ?_
    refine tr_region ?_
    refine op_acts (acts_call awake_fn (show enters Try.prog 20 = true from by decide +kernel) OTs.nil (List.Perm.refl _)) (List.Perm.refl _) rfl rfl (fun _ _ => ?_)
    refine op_pure (pu_assign (OT.tmp rfl)) rfl rfl ?_
    refine tr_nil ?_
    refine then_normal ?_
    refine tr_ret ?_
    refine then_ret ?_
    exact ret_one .ret (.inl rfl) rfl () (OT.tmp rfl) trivial (by exact picks_nil)
  · skip
    have hf : fewB [a, b, c] = true := by simpa using c31
    have fa : Few a := few_Few hf (by simp)
    have fb : Few b := few_Few hf (by simp)
    have fc : Few c := few_Few hf (by simp)
    obtain ⟨x, ex, hx, fx⟩ := set_all a fa
    obtain ⟨y, ey, hy, fy⟩ := set_all b fb
    obtain ⟨z, ez, hz, fz⟩ := set_all c fc
    refine tr_skip ?_
    refine then_normal ?_
    refine tr_seq ?_
    -- region 3
    refine tr_env (es_cons (t := 0) (OT.tmp rfl) (es_cons (t := 1) (OT.tmp rfl) (es_cons (t := 2) (OT.tmp rfl) es_nil))) ?_
    refine tr_region ?_
    refine op_pure (pu_move (OT.tmp rfl)) rfl rfl ?_
    refine op_acts (acts_callM (Set_fn (K0 := noK) (n0 := 0) a fa.small) mk_none (show enters Try.prog 33 = true from by decide +kernel) (OTs.cons (OT.tmp rfl) OTs.nil) (List.Perm.refl _)) (List.Perm.refl _) rfl rfl (fun _ _ => ?_)
    refine op_pure (pu_move (OT.tmp rfl)) rfl rfl ?_
    refine op_acts (acts_callM (Set_fn (K0 := noK) (n0 := 0) b fb.small) mk_none (show enters Try.prog 33 = true from by decide +kernel) (OTs.cons (OT.tmp rfl) OTs.nil) (List.Perm.refl _)) (List.Perm.refl _) rfl rfl (fun _ _ => ?_)
    refine op_pure (pu_move (OT.tmp rfl)) rfl rfl ?_
    refine op_acts (acts_callM (Set_fn (K0 := noK) (n0 := 0) c fc.small) mk_none (show enters Try.prog 33 = true from by decide +kernel) (OTs.cons (OT.tmp rfl) OTs.nil) (List.Perm.refl _)) (List.Perm.refl _) rfl rfl (fun _ _ => ?_)
    refine op_pure (pu_assign (OT.tmp rfl)) rfl rfl ?_
    refine op_pure (pu_assign (OT.tmp rfl)) rfl rfl ?_
    refine op_pure (pu_assign (OT.tmp rfl)) rfl rfl ?_
    refine tr_nil ?_
    rw [ex, ey, ez]
    refine tr_as 7 (OT.unfr2 (OT.tmp rfl)) ?_
    refine tr_as 8 (OT.unfr2 (OT.tmp rfl)) ?_
    refine tr_as 9 (OT.unfr2 (OT.tmp rfl)) ?_
    refine then_normal ?_
    refine tr_seq ?_
    -- region 4
    refine tr_env (es_cons (t := 7) (OT.tmp rfl) (es_cons (t := 8) (OT.tmp rfl) (es_cons (t := 9) (OT.tmp rfl) es_nil))) ?_
    refine tr_region ?_
    refine op_pure (pu_move (OT.tmp rfl)) rfl rfl ?_
    refine op_pure (pu_move (OT.tmp rfl)) rfl rfl ?_
    refine op_acts (acts_callM (Diff_sets x y hx hy fx fy) mk_none (show enters Try.prog 28 = true from by decide +kernel) (OTs.cons (OT.tmp rfl) (OTs.cons (OT.tmp rfl) OTs.nil)) (List.Perm.refl _)) (List.Perm.refl _) rfl rfl (fun _ _ => ?_)
    refine op_pure (pu_move (OT.tmp rfl)) rfl rfl ?_
    refine op_pure (pu_extract (OT.tmp rfl) rfl) rfl rfl ?_
    refine op_pure (pu_extract (OT.tmp rfl) rfl) rfl rfl ?_
    refine tr_as 43 (kDF_T (OT.tmp rfl)) ?_
    refine op_acts (acts_alloc (z44)) (List.Perm.refl _) rfl rfl (fun g4_6 _ => ?_)
    refine op_acts (acts_store_var (OT.tmp rfl) (OT.tmp rfl) (by exact perm_at 0 rfl) (show tyOk Try.prog 44 true 2 = true from by decide +kernel)) (by exact perm_at 0 rfl) rfl rfl (fun _ _ => ?_)
    refine op_pure (pu_assign (OT.tmp rfl)) rfl rfl ?_
    refine tr_nil ?_
    refine then_normal ?_
    refine tr_seq ?_
    -- region 5
    refine tr_env (es_cons (t := 7) (OT.tmp rfl) (es_cons (t := 8) (OT.tmp rfl) (es_cons (t := 9) (OT.tmp rfl) (es_cons (t := 10) (OT.tmp rfl) (es_cons (t := 11) (OT.tmp rfl) es_nil))))) ?_
    refine tr_region ?_
    refine op_pure (pu_move (OT.tmp rfl)) rfl rfl ?_
    refine op_pure (pu_move (OT.tmp rfl)) rfl rfl ?_
    refine op_acts (acts_callM (Diff_sets y z hy hz fy fz) mk_none (show enters Try.prog 28 = true from by decide +kernel) (OTs.cons (OT.tmp rfl) (OTs.cons (OT.tmp rfl) OTs.nil)) (List.Perm.refl _)) (List.Perm.refl _) rfl rfl (fun _ _ => ?_)
    refine op_pure (pu_move (OT.tmp rfl)) rfl rfl ?_
    refine op_pure (pu_extract (OT.tmp rfl) rfl) rfl rfl ?_
    refine op_pure (pu_extract (OT.tmp rfl) rfl) rfl rfl ?_
    refine tr_as 49 (kDF_T (OT.tmp rfl)) ?_
    refine op_acts (acts_alloc (z44)) (List.Perm.refl _) rfl rfl (fun g5_6 _ => ?_)
    refine op_acts (acts_store_var (OT.tmp rfl) (OT.tmp rfl) (by exact perm_at 0 rfl) (show tyOk Try.prog 44 true 2 = true from by decide +kernel)) (by exact perm_at 0 rfl) rfl rfl (fun _ _ => ?_)
    refine op_pure (pu_assign (OT.tmp rfl)) rfl rfl ?_
    refine tr_nil ?_
    refine then_normal ?_
    refine tr_seq ?_
    refine tr_seq ?_
    -- region 6
    refine tr_env (es_cons (t := 7) (OT.tmp rfl) (es_cons (t := 8) (OT.tmp rfl) (es_cons (t := 9) (OT.tmp rfl) (es_cons (t := 10) (OT.tmp rfl) (es_cons (t := 11) (OT.tmp rfl) (es_cons (t := 12) (OT.tmp rfl) (es_cons (t := 13) (OT.tmp rfl) es_nil))))))) ?_
    refine tr_region ?_
    refine op_pure (pu_move (OT.tmp rfl)) rfl rfl ?_
    refine op_pure (pu_neq (OT.tmp rfl) OT.const) rfl rfl ?_
    refine op_pure (pu_move (OT.tmp rfl)) rfl rfl ?_
    refine op_gu_yes rfl rfl rfl (OT.tmp rfl) ?_
    refine op_pure (pu_move (OT.tmp rfl)) rfl rfl ?_
    refine op_gu_yes rfl rfl rfl (OT.tmp rfl) ?_
    refine op_pure (pu_neq (OT.tmp rfl) OT.const) rfl rfl ?_
    refine op_pure (pu_pick_or (OT.tmp rfl) (by exact OT.gu_in (OT.tmp rfl) ⟨trivial, rfl⟩)) rfl rfl ?_
    refine tr_nil ?_
    refine then_normal ?_
    refine tr_cond (OT.tmp rfl) (fun c56 => ?_) (fun c56 => ?_)
    · skip
      exact absurd c56 (by decide) --done
    · skip
      refine tr_skip ?_
      refine then_normal ?_
      refine tr_seq ?_
      -- region 8
      refine tr_env (es_cons (t := 7) (OT.tmp rfl) (es_cons (t := 8) (OT.tmp rfl) (es_cons (t := 9) (OT.tmp rfl) (es_cons (t := 10) (OT.tmp rfl) (es_cons (t := 12) (OT.tmp rfl) es_nil))))) ?_
      refine tr_region ?_
      refine op_pure (pu_move (OT.tmp rfl)) rfl rfl ?_
      refine op_pure (pu_load_var (OT.tmp rfl) (by exact mem_at 1 rfl) (show tyOk Try.prog 44 true 2 = true from by decide +kernel)) rfl rfl ?_
      refine op_acts (acts_callM (Apply_sets x y hx hy fx fy) mk_none (show enters Try.prog 39 = true from by decide +kernel) (OTs.cons (OT.tmp rfl) (OTs.cons (OT.tmp rfl) OTs.nil)) (List.Perm.refl _)) (List.Perm.refl _) rfl rfl (fun _ _ => ?_)
      refine op_pure (pu_move (OT.tmp rfl)) rfl rfl ?_
      refine op_pure (pu_extract (OT.tmp rfl) rfl) rfl rfl ?_
      refine op_pure (pu_extract (OT.tmp rfl) rfl) rfl rfl ?_
      refine op_pure (pu_assign (OT.tmp rfl)) rfl rfl ?_
      refine op_pure (pu_assign (OT.tmp rfl)) rfl rfl ?_
      refine tr_nil ?_
      refine tr_as 14 (OT.unfr2 (OT.tmp rfl)) ?_
      refine then_normal ?_
      refine tr_seq ?_
      -- region 9
      refine tr_env (es_cons (t := 7) (OT.tmp rfl) (es_cons (t := 8) (OT.tmp rfl) (es_cons (t := 9) (OT.tmp rfl) (es_cons (t := 10) (OT.tmp rfl) (es_cons (t := 11) (OT.tmp rfl) (es_cons (t := 12) (OT.tmp rfl) (es_cons (t := 14) (OT.tmp rfl) es_nil))))))) ?_
      refine tr_region ?_
      refine op_pure (pu_move (OT.tmp rfl)) rfl rfl ?_
      refine op_pure (pu_load_var (OT.tmp rfl) (by exact mem_at 1 rfl) (show tyOk Try.prog 44 true 2 = true from by decide +kernel)) rfl rfl ?_
      refine op_acts (acts_callM (Back_fn (K0 := noK) (n0 := 0) (withoutL y x, withoutL x y) (fy.without _).small (fx.without _).small) mk_none (show enters Try.prog 41 = true from by decide +kernel) (OTs.cons (OT.tmp rfl) OTs.nil) (List.Perm.refl _)) (List.Perm.refl _) rfl rfl (fun _ _ => ?_)
      refine tr_as 66 (kDF_T (OT.tmp rfl)) ?_
      refine op_acts (acts_callM (Apply_sets y x hy hx fy fx) mk_none (show enters Try.prog 39 = true from by decide +kernel) (OTs.cons (OT.tmp rfl) (OTs.cons (OT.tmp rfl) OTs.nil)) (List.Perm.refl _)) (List.Perm.refl _) rfl rfl (fun _ _ => ?_)
      refine op_pure (pu_move (OT.tmp rfl)) rfl rfl ?_
      refine op_pure (pu_extract (OT.tmp rfl) rfl) rfl rfl ?_
      refine op_pure (pu_extract (OT.tmp rfl) rfl) rfl rfl ?_
      refine op_pure (pu_assign (OT.tmp rfl)) rfl rfl ?_
      refine op_pure (pu_assign (OT.tmp rfl)) rfl rfl ?_
      refine tr_nil ?_
      refine tr_as 15 (OT.unfr2 (OT.tmp rfl)) ?_
      refine then_normal ?_
      refine tr_seq ?_
      -- region 10
      refine tr_env (es_cons (t := 7) (OT.tmp rfl) (es_cons (t := 8) (OT.tmp rfl) (es_cons (t := 9) (OT.tmp rfl) (es_cons (t := 10) (OT.tmp rfl) (es_cons (t := 11) (OT.tmp rfl) (es_cons (t := 12) (OT.tmp rfl) (es_cons (t := 14) (OT.tmp rfl) (es_cons (t := 15) (OT.tmp rfl) (es_cons (t := 16) (OT.tmp rfl) es_nil))))))))) ?_
      refine tr_region ?_
      refine op_pure (pu_load_var (OT.tmp rfl) (by exact mem_at 1 rfl) (show tyOk Try.prog 44 true 2 = true from by decide +kernel)) rfl rfl ?_
      refine op_pure (pu_load_var (OT.tmp rfl) (by exact mem_at 0 rfl) (show tyOk Try.prog 44 true 2 = true from by decide +kernel)) rfl rfl ?_
      refine op_acts (acts_call (Then_sets x y z hx hy hz fx fy fz) (show enters Try.prog 24 = true from by decide +kernel) (OTs.cons (OT.tmp rfl) (OTs.cons (OT.tmp rfl) OTs.nil)) (List.Perm.refl _)) (List.Perm.refl _) rfl rfl (fun _ _ => ?_)
      refine op_pure (pu_move (OT.tmp rfl)) rfl rfl ?_
      refine op_pure (pu_extract (OT.tmp rfl) rfl) rfl rfl ?_
      refine op_pure (pu_extract (OT.tmp rfl) rfl) rfl rfl ?_
      refine op_acts (acts_alloc (z44)) (List.Perm.refl _) rfl rfl (fun g10_6 _ => ?_)
      refine op_acts (acts_store_var (OT.tmp rfl) (OT.tmp rfl) (by exact perm_at 0 rfl) (show tyOk Try.prog 44 true 2 = true from by decide +kernel)) (by exact perm_at 0 rfl) rfl rfl (fun _ _ => ?_)
      refine op_pure (pu_assign (OT.tmp rfl)) rfl rfl ?_
      refine tr_nil ?_
      refine then_normal ?_
      refine tr_seq ?_
      refine tr_seq ?_
      -- region 11
      refine tr_env (es_cons (t := 7) (OT.tmp rfl) (es_cons (t := 8) (OT.tmp rfl) (es_cons (t := 9) (OT.tmp rfl) (es_cons (t := 11) (OT.tmp rfl) (es_cons (t := 14) (OT.tmp rfl) (es_cons (t := 15) (OT.tmp rfl) (es_cons (t := 16) (OT.tmp rfl) (es_cons (t := 17) (OT.tmp rfl) (es_cons (t := 18) (OT.tmp rfl) es_nil))))))))) ?_
      refine tr_region ?_
      refine op_pure (pu_move (OT.tmp rfl)) rfl rfl ?_
      refine op_pure (pu_neq (OT.tmp rfl) OT.const) rfl rfl ?_
      refine op_pure (pu_move (OT.tmp rfl)) rfl rfl ?_
      refine op_gu_yes rfl rfl rfl (OT.tmp rfl) ?_
      refine op_pure (pu_move (OT.tmp rfl)) rfl rfl ?_
      refine op_gu_yes rfl rfl rfl (OT.tmp rfl) ?_
      refine op_pure (pu_neq (OT.tmp rfl) OT.const) rfl rfl ?_
      refine op_pure (pu_pick_or (OT.tmp rfl) (by exact OT.gu_in (OT.tmp rfl) ⟨trivial, rfl⟩)) rfl rfl ?_
      refine op_pure (pu_move (OT.tmp rfl)) rfl rfl ?_
      refine op_gu_yes rfl rfl rfl (OT.tmp rfl) ?_
      refine op_pure (pu_move (OT.tmp rfl)) rfl rfl ?_
      refine op_gu_yes rfl rfl rfl (OT.tmp rfl) ?_
      refine op_pure (pu_neq (OT.tmp rfl) OT.const) rfl rfl ?_
      refine op_pure (pu_pick_or (OT.tmp rfl) (by exact OT.gu_in (OT.tmp rfl) ⟨trivial, rfl⟩)) rfl rfl ?_
      refine op_pure (pu_move (OT.tmp rfl)) rfl rfl ?_
      refine op_gu_yes rfl rfl rfl (OT.tmp rfl) ?_
      refine op_pure (pu_move (OT.tmp rfl)) rfl rfl ?_
      refine op_gu_yes rfl rfl rfl (OT.tmp rfl) ?_
      refine op_pure (pu_move (OT.tmp rfl)) rfl rfl ?_
      refine op_gu_yes rfl rfl rfl (OT.tmp rfl) ?_
      refine op_acts (acts_call (Same_self y fy.small) (show enters Try.prog 32 = true from by decide +kernel) (OTs.cons (OT.tmp rfl) (OTs.cons (OT.tmp rfl) OTs.nil)) (List.Perm.refl _)) (List.Perm.refl _) rfl rfl (fun _ _ => ?_)
      refine op_gu_yes rfl rfl rfl (OT.tmp rfl) ?_
      refine op_pure (pu_not (OT.tmp rfl)) rfl rfl ?_
      refine op_pure (pu_pick_or (OT.tmp rfl) (by exact OT.gu_in (OT.tmp rfl) ⟨trivial, rfl⟩)) rfl rfl ?_
      refine op_pure (pu_move (OT.tmp rfl)) rfl rfl ?_
      refine op_gu_yes rfl rfl rfl (OT.tmp rfl) ?_
      refine op_pure (pu_move (OT.tmp rfl)) rfl rfl ?_
      refine op_gu_yes rfl rfl rfl (OT.tmp rfl) ?_
      refine op_pure (pu_move (OT.tmp rfl)) rfl rfl ?_
      refine op_gu_yes rfl rfl rfl (OT.tmp rfl) ?_
      refine op_acts (acts_call (Same_self x fx.small) (show enters Try.prog 32 = true from by decide +kernel) (OTs.cons (OT.tmp rfl) (OTs.cons (OT.tmp rfl) OTs.nil)) (List.Perm.refl _)) (List.Perm.refl _) rfl rfl (fun _ _ => ?_)
      refine op_gu_yes rfl rfl rfl (OT.tmp rfl) ?_
      refine op_pure (pu_not (OT.tmp rfl)) rfl rfl ?_
      refine op_pure (pu_pick_or (OT.tmp rfl) (by exact OT.gu_in (OT.tmp rfl) ⟨trivial, rfl⟩)) rfl rfl ?_
      refine tr_nil ?_
      refine then_normal ?_
      refine tr_cond (OT.tmp rfl) (fun c97 => ?_) (fun c97 => ?_)
      · skip
        exact absurd c97 (by decide) --done
      · skip
        refine tr_skip ?_
        refine then_normal ?_
        refine tr_seq ?_
        -- region 13
        refine tr_env (es_cons (t := 7) (OT.tmp rfl) (es_cons (t := 9) (OT.tmp rfl) (es_cons (t := 17) (OT.tmp rfl) es_nil))) ?_
        refine tr_region ?_
        refine op_pure (pu_move (OT.tmp rfl)) rfl rfl ?_
        refine op_pure (pu_load_var (OT.tmp rfl) (by exact mem_at 0 rfl) (show tyOk Try.prog 44 true 2 = true from by decide +kernel)) rfl rfl ?_
        refine op_acts (acts_callM (Apply_sets x z hx hz fx fz) mk_none (show enters Try.prog 39 = true from by decide +kernel) (OTs.cons (OT.tmp rfl) (OTs.cons (OT.tmp rfl) OTs.nil)) (List.Perm.refl _)) (List.Perm.refl _) rfl rfl (fun _ _ => ?_)
        refine op_pure (pu_move (OT.tmp rfl)) rfl rfl ?_
        refine op_pure (pu_extract (OT.tmp rfl) rfl) rfl rfl ?_
        refine op_pure (pu_extract (OT.tmp rfl) rfl) rfl rfl ?_
        refine op_pure (pu_assign (OT.tmp rfl)) rfl rfl ?_
        refine op_pure (pu_assign (OT.tmp rfl)) rfl rfl ?_
        refine tr_nil ?_
        refine tr_as 19 (OT.unfr2 (OT.tmp rfl)) ?_
        refine then_normal ?_
        refine tr_seq ?_
        -- region 14
        refine tr_env (es_cons (t := 7) (OT.tmp rfl) (es_cons (t := 9) (OT.tmp rfl) (es_cons (t := 11) (OT.tmp rfl) (es_cons (t := 17) (OT.tmp rfl) (es_cons (t := 19) (OT.tmp rfl) es_nil))))) ?_
        refine tr_region ?_
        refine op_pure (pu_move (OT.tmp rfl)) rfl rfl ?_
        refine op_pure (pu_move (OT.tmp rfl)) rfl rfl ?_
        refine op_acts (acts_callM (Diff_sets x z hx hz fx fz) mk_none (show enters Try.prog 28 = true from by decide +kernel) (OTs.cons (OT.tmp rfl) (OTs.cons (OT.tmp rfl) OTs.nil)) (List.Perm.refl _)) (List.Perm.refl _) rfl rfl (fun _ _ => ?_)
        refine op_pure (pu_move (OT.tmp rfl)) rfl rfl ?_
        refine op_pure (pu_extract (OT.tmp rfl) rfl) rfl rfl ?_
        refine op_pure (pu_extract (OT.tmp rfl) rfl) rfl rfl ?_
        refine tr_as 108 (kDF_T (OT.tmp rfl)) ?_
        refine op_acts (acts_alloc (z44)) (List.Perm.refl _) rfl rfl (fun g14_6 _ => ?_)
        refine op_acts (acts_store_var (OT.tmp rfl) (OT.tmp rfl) (by exact perm_at 0 rfl) (show tyOk Try.prog 44 true 2 = true from by decide +kernel)) (by exact perm_at 0 rfl) rfl rfl (fun _ _ => ?_)
        refine op_pure (pu_assign (OT.tmp rfl)) rfl rfl ?_
        refine tr_nil ?_
        refine then_normal ?_
        refine tr_seq ?_
        -- region 15
        refine tr_env (es_cons (t := 9) (OT.tmp rfl) (es_cons (t := 11) (OT.tmp rfl) (es_cons (t := 17) (OT.tmp rfl) (es_cons (t := 19) (OT.tmp rfl) (es_cons (t := 20) (OT.tmp rfl) (es_cons (t := 21) (OT.tmp rfl) es_nil)))))) ?_
        refine tr_region ?_
        refine op_pure (pu_move (OT.tmp rfl)) rfl rfl ?_
        refine op_pure (pu_eql (OT.tmp rfl) OT.const) rfl rfl ?_
        refine op_pure (pu_move (OT.tmp rfl)) rfl rfl ?_
        refine op_gu_yes rfl rfl rfl (OT.tmp rfl) ?_
        refine op_pure (pu_move (OT.tmp rfl)) rfl rfl ?_
        refine op_gu_yes rfl rfl rfl (OT.tmp rfl) ?_
        refine op_pure (pu_eql (OT.tmp rfl) OT.const) rfl rfl ?_
        refine op_pure (pu_pick_and (OT.tmp rfl) (by exact OT.gu_in (OT.tmp rfl) ⟨trivial, rfl⟩)) rfl rfl ?_
        refine op_pure (pu_move (OT.tmp rfl)) rfl rfl ?_
        refine op_gu_yes rfl rfl rfl (OT.tmp rfl) ?_
        refine op_pure (pu_move (OT.tmp rfl)) rfl rfl ?_
        refine op_gu_yes rfl rfl rfl (OT.tmp rfl) ?_
        refine op_pure (pu_move (OT.tmp rfl)) rfl rfl ?_
        refine op_gu_yes rfl rfl rfl (OT.tmp rfl) ?_
        refine op_acts (acts_call (Same_self z fz.small) (show enters Try.prog 32 = true from by decide +kernel) (OTs.cons (OT.tmp rfl) (OTs.cons (OT.tmp rfl) OTs.nil)) (List.Perm.refl _)) (List.Perm.refl _) rfl rfl (fun _ _ => ?_)
        refine op_pure (pu_pick_and (OT.tmp rfl) (by exact OT.gu_in (OT.tmp rfl) ⟨trivial, rfl⟩)) rfl rfl ?_
        refine op_pure (pu_move (OT.tmp rfl)) rfl rfl ?_
        refine op_gu_yes rfl rfl rfl (OT.tmp rfl) ?_
        refine op_pure (pu_load_var (OT.tmp rfl) (by exact mem_at 0 rfl) (show tyOk Try.prog 44 true 2 = true from by decide +kernel)) rfl rfl ?_
        refine op_gu_yes rfl rfl rfl (OT.tmp rfl) ?_
        refine op_pure (pu_load_var (OT.tmp rfl) (by exact mem_at 1 rfl) (show tyOk Try.prog 44 true 2 = true from by decide +kernel)) rfl rfl ?_
        refine op_gu_yes rfl rfl rfl (OT.tmp rfl) ?_
        refine op_acts (acts_call (SameDelta_self (withoutL z x, withoutL x z) (fz.without _).small (fx.without _).small) (show enters Try.prog 26 = true from by decide +kernel) (OTs.cons (OT.tmp rfl) (OTs.cons (OT.tmp rfl) OTs.nil)) (List.Perm.refl _)) (List.Perm.refl _) rfl rfl (fun _ _ => ?_)
        refine op_pure (pu_pick_and (OT.tmp rfl) (by exact OT.gu_in (OT.tmp rfl) ⟨trivial, rfl⟩)) rfl rfl ?_
        refine op_pure (pu_assign (OT.tmp rfl)) rfl rfl ?_
        refine tr_nil ?_
        refine then_normal ?_
        refine tr_ret ?_
        exact ret_one .ret (.inl rfl) rfl () (OT.tmp rfl) trivial (by exact picks_nil)
end Go.Proofs.Ytloblpklkhepbaa
