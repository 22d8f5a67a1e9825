/- Walks through the Go functions rhizomelaw17.awake, as typed contracts. -/
import Derived.Test.YtloblpklkhepbaaWt6
namespace Go.Proofs.Ytloblpklkhepbaa
open Go Go.Gw Go.Wt
set_option linter.unusedVariables false
set_option linter.unusedSimpArgs false
abbrev es0 : Es := [(1, 2), (2, 1), (3, 1)]
theorem ring4 {l : List Int} (h : RingSays [(4, 4)] 4 l) : l = [4] := by
  rcases h with ⟨_, h1, h2, h3⟩ | ⟨h, _⟩
  · cases l with
    | nil => cases h1
    | cons a l =>
      obtain rfl : a = 4 := by simpa using h1
      cases l with
      | nil => rfl
      | cons b l =>
        have h4 := h3 1 (by simp)
        rw [at'_nat (by simp)] at h4
        have h5 : b = 4 := by simpa using congrArg Prod.fst (List.mem_singleton.1 h4)
        subst h5
        simp at h2
  · exact absurd (Reach.one (by simp)) h
theorem IntsA : Ct Try.prog 16 [SlT kI (caughtOf (rowsOf es0)), SlT kI [1, 2]] [] Unit (fun _ => BoolT (decide (caughtOf (rowsOf es0) = [1, 2]))) (fun _ => []) (fun _ => True) := Ints_fn _ _ (by decide +kernel)
theorem IntsB : Ct Try.prog 16 [SlT kI [4], SlT kI [4]] [] Unit (fun _ => BoolT (decide (([4] : List Int) = [4]))) (fun _ => []) (fun _ => True) := Ints_fn _ _ (by decide +kernel)

set_option maxRecDepth 20000 in
/-- rhizome/rhizomelaw17.awake -/
theorem awake_fn  : Ct Try.prog 12 [] ([]) Unit (fun _ => BoolT true) (fun _ => []) (fun _ => True) := by
  refine fn_intro Try.func12 rfl rfl ?_
  intro H w
  refine tr_seq ?_
  -- region 0
  refine tr_env es_nil ?_
  refine tr_region ?_
  refine op_pure (pu_assign OT.const) rfl rfl ?_
  refine tr_nil ?_
  refine then_normal ?_
  refine tr_seq ?_
  -- region 1
  refine tr_env es_nil ?_
  refine tr_region ?_
  refine op_pure (pu_build_arr (d := kE) (v0 := (0, 0)) (agg := false) Try.underlying30 (show tyOk Try.prog 3 _ _ = true from by decide +kernel) z30 rfl (fills_cons rfl Lens.p0 OT.const (fills_cons rfl Lens.p1 OT.const fills_nil))) rfl rfl ?_
  refine op_pure (pu_build_arr (d := kE) (v0 := (0, 0)) (agg := false) Try.underlying30 (show tyOk Try.prog 3 _ _ = true from by decide +kernel) z30 rfl (fills_cons rfl Lens.p0 OT.const (fills_cons rfl Lens.p1 OT.const fills_nil))) rfl rfl ?_
  refine op_pure (pu_build_arr (d := kE) (v0 := (0, 0)) (agg := false) Try.underlying30 (show tyOk Try.prog 3 _ _ = true from by decide +kernel) z30 rfl (fills_cons rfl Lens.p0 OT.const (fills_cons rfl Lens.p1 OT.const fills_nil))) rfl rfl ?_
  refine op_acts (acts_lit (d := kE) (v0 := (0, 0)) (show slTy Try.prog 22 30 _ 16 = true from by decide +kernel) (show tyOk Try.prog 30 _ _ = true from by decide +kernel) z30 (by decide) (by decide) (fills_arr rfl rfl (by decide) (OT.tmp rfl) (fills_arr rfl rfl (by decide) (OT.tmp rfl) (fills_arr rfl rfl (by decide) (OT.tmp rfl) fills_nil)))) (List.Perm.refl _) rfl rfl (fun _ _ => ?_)
  refine op_pure (pu_assign (OT.tmp rfl)) rfl rfl ?_
  refine tr_nil ?_
  refine then_normal ?_
  refine tr_seq ?_
  -- region 2
  refine tr_env (es_cons (t := 1) (OT.tmp rfl) es_nil) ?_
  refine tr_region ?_
  refine op_pure (pu_move (OT.tmp rfl)) rfl rfl ?_
  refine op_acts (acts_call (Caught_fn es0 (by simp [maxLen]) (by decide)) (show enters Try.prog 14 = true from by decide +kernel) (OTs.cons (OT.tmp rfl) OTs.nil) (List.Perm.refl _)) (List.Perm.refl _) rfl rfl (fun v2_1 _ => ?_)
  refine op_pure (pu_move (OT.tmp rfl)) rfl rfl ?_
  refine op_pure (pu_extract (OT.tmp rfl) rfl) rfl rfl ?_
  refine op_pure (pu_extract (OT.tmp rfl) rfl) rfl rfl ?_
  refine op_pure (pu_assign (OT.tmp rfl)) rfl rfl ?_
  refine op_pure (pu_assign (OT.tmp rfl)) rfl rfl ?_
  refine tr_nil ?_
  refine then_normal ?_
  refine tr_seq ?_
  -- region 3
  refine tr_env (es_cons (t := 1) (OT.tmp rfl) (es_cons (t := 2) (OT.tmp rfl) (es_cons (t := 3) (OT.tmp rfl) es_nil))) ?_
  refine tr_region ?_
  refine op_pure (pu_move (OT.tmp rfl)) rfl rfl ?_
  refine op_acts (acts_lit (d := kI) (v0 := 0) (show slTy Try.prog 25 3 _ 8 = true from by decide +kernel) (show tyOk Try.prog 3 _ _ = true from by decide +kernel) z3 (by decide) (by decide) (fills_arr rfl rfl (by decide) OT.const (fills_arr rfl rfl (by decide) OT.const (fills_arr rfl rfl (by decide) OT.const fills_nil)))) (List.Perm.refl _) rfl rfl (fun _ _ => ?_)
  refine op_acts (acts_call (Victim_fn es0 [0, 5, 9] (by simp [maxLen]) (by simp [maxLen]) (by decide)) (show enters Try.prog 42 = true from by decide +kernel) (OTs.cons (OT.tmp rfl) (OTs.cons (OT.tmp rfl) OTs.nil)) (List.Perm.refl _)) (List.Perm.refl _) rfl rfl (fun _ _ => ?_)
  refine op_pure (pu_move (OT.tmp rfl)) rfl rfl ?_
  refine op_pure (pu_extract (OT.tmp rfl) rfl) rfl rfl ?_
  refine op_pure (pu_extract (OT.tmp rfl) rfl) rfl rfl ?_
  refine op_pure (pu_extract (OT.tmp rfl) rfl) rfl rfl ?_
  refine op_pure (pu_assign (OT.tmp rfl)) rfl rfl ?_
  refine op_pure (pu_assign (OT.tmp rfl)) rfl rfl ?_
  refine op_pure (pu_assign (OT.tmp rfl)) rfl rfl ?_
  refine tr_nil ?_
  refine then_normal ?_
  refine tr_seq ?_
  -- region 4
  refine tr_env (es_cons (t := 2) (OT.tmp rfl) (es_cons (t := 3) (OT.tmp rfl) (es_cons (t := 4) (OT.tmp rfl) (es_cons (t := 5) (OT.tmp rfl) (es_cons (t := 6) (OT.tmp rfl) es_nil))))) ?_
  refine tr_region ?_
  refine op_pure (pu_build_arr (d := kE) (v0 := (0, 0)) (agg := false) Try.underlying30 (show tyOk Try.prog 3 _ _ = true from by decide +kernel) z30 rfl (fills_cons rfl Lens.p0 OT.const (fills_cons rfl Lens.p1 OT.const fills_nil))) rfl rfl ?_
  refine op_acts (acts_lit (d := kE) (v0 := (0, 0)) (show slTy Try.prog 22 30 _ 16 = true from by decide +kernel) (show tyOk Try.prog 30 _ _ = true from by decide +kernel) z30 (by decide) (by decide) (fills_arr rfl rfl (by decide) (OT.tmp rfl) fills_nil)) (List.Perm.refl _) rfl rfl (fun _ _ => ?_)
  refine op_acts (acts_call (Ring_fn [(4, 4)] 4 (by simp [maxLen]) (by decide) (by decide)) (show enters Try.prog 18 = true from by decide +kernel) (OTs.cons (OT.tmp rfl) (OTs.cons OT.const OTs.nil)) (List.Perm.refl _)) (List.Perm.refl _) rfl rfl (fun ⟨v4_2, l⟩ hring => ?_)
  refine op_pure (pu_move (OT.tmp rfl)) rfl rfl ?_
  refine op_pure (pu_extract (OT.tmp rfl) rfl) rfl rfl ?_
  refine op_pure (pu_extract (OT.tmp rfl) rfl) rfl rfl ?_
  refine op_pure (pu_assign (OT.tmp rfl)) rfl rfl ?_
  refine op_pure (pu_assign (OT.tmp rfl)) rfl rfl ?_
  refine tr_nil ?_
  refine then_normal ?_
  refine tr_seq ?_
  -- region 5
  refine tr_env (es_cons (t := 2) (OT.tmp rfl) (es_cons (t := 3) (OT.tmp rfl) (es_cons (t := 4) (OT.tmp rfl) (es_cons (t := 5) (OT.tmp rfl) (es_cons (t := 6) (OT.tmp rfl) (es_cons (t := 7) (OT.tmp rfl) (es_cons (t := 8) (OT.tmp rfl) es_nil))))))) ?_
  obtain rfl := ring4 hring.1
  refine tr_freeze (by first | exact perm_at 0 rfl | exact perm_at 1 rfl | exact perm_at 2 rfl | exact perm_at 3 rfl | exact perm_at 4 rfl | exact perm_at 5 rfl) 2 (OT.tmp rfl) ?_
  refine tr_freeze (by first | exact perm_at 0 rfl | exact perm_at 1 rfl | exact perm_at 2 rfl | exact perm_at 3 rfl | exact perm_at 4 rfl | exact perm_at 5 rfl) 7 (OT.tmp rfl) ?_
  refine tr_region ?_
  refine op_pure (pu_move (OT.tmp rfl)) rfl rfl ?_
  first
  | refine op_pure (pu_eql (OT.tmp rfl) OT.const) rfl rfl ?_
  | refine op_pure (pu_str_eql (OT.tmp rfl) OT.const) rfl rfl ?_
  refine op_pure (pu_move (OT.tmp rfl)) rfl rfl ?_
  refine op_gu rfl rfl rfl (OT.gu_mk (OT.tmp rfl)) (fun hg => by (have hg1 := hg.2; (try simp only [decide_eq_true_eq, decide_eq_false_iff_not] at hg1); exact pu_move (by first | exact OT.tmp rfl | exact OT.gu (OT.tmp rfl) hg))) rfl ?_
  refine op_gu_acts () rfl rfl rfl (OT.gu_mk (OT.tmp rfl)) (fun hg => by (have hg1 := hg.2; (try simp only [decide_eq_true_eq, decide_eq_false_iff_not] at hg1); exact acts_lit (d := kI) (v0 := 0) (show slTy Try.prog 25 3 _ 8 = true from by decide +kernel) (show tyOk Try.prog 3 _ _ = true from by decide +kernel) z3 (by decide) (by decide) (fills_arr rfl rfl (by decide) OT.const (fills_arr rfl rfl (by decide) OT.const fills_nil)))) rfl (fun _ _ => ?_)
  refine op_gu_acts () rfl rfl rfl (OT.gu_mk (OT.tmp rfl)) (fun hg => by (have hg1 := hg.2; (try simp only [decide_eq_true_eq, decide_eq_false_iff_not] at hg1); exact acts_call IntsA (show enters Try.prog 16 = true from by decide +kernel) (OTs.cons (by first | exact OT.tmp rfl | exact OT.gu (OT.tmp rfl) hg) (OTs.cons (by first | exact OT.tmp rfl | exact OT.gu (OT.tmp rfl) hg) OTs.nil)) (List.Perm.refl _))) rfl (fun _ _ => ?_)
  refine op_pure (pu_pick_and (OT.tmp rfl) (by first | exact OT.tmp rfl | exact OT.gu_in (OT.tmp rfl) ⟨trivial, rfl⟩)) rfl rfl ?_
  refine op_pure (pu_move (OT.tmp rfl)) rfl rfl ?_
  refine op_gu rfl rfl rfl (OT.gu_mk (OT.tmp rfl)) (fun hg => by (have hg1 := hg.2; (try simp only [decide_eq_true_eq, decide_eq_false_iff_not] at hg1); exact pu_move (by first | exact OT.tmp rfl | exact OT.gu (OT.tmp rfl) hg))) rfl ?_
  first
  | refine op_gu rfl rfl rfl (OT.gu_mk (OT.tmp rfl)) (fun hg => by (have hg1 := hg.2; (try simp only [decide_eq_true_eq, decide_eq_false_iff_not] at hg1); exact pu_eql (by first | exact OT.tmp rfl | exact OT.gu (OT.tmp rfl) hg) OT.const)) rfl ?_
  | refine op_gu rfl rfl rfl (OT.gu_mk (OT.tmp rfl)) (fun hg => by (have hg1 := hg.2; (try simp only [decide_eq_true_eq, decide_eq_false_iff_not] at hg1); exact pu_str_eql (by first | exact OT.tmp rfl | exact OT.gu (OT.tmp rfl) hg) OT.const)) rfl ?_
  refine op_pure (pu_pick_and (OT.tmp rfl) (by first | exact OT.tmp rfl | exact OT.gu_in (OT.tmp rfl) ⟨trivial, rfl⟩)) rfl rfl ?_
  refine op_pure (pu_move (OT.tmp rfl)) rfl rfl ?_
  refine op_gu rfl rfl rfl (OT.gu_mk (OT.tmp rfl)) (fun hg => by (have hg1 := hg.2; (try simp only [decide_eq_true_eq, decide_eq_false_iff_not] at hg1); exact pu_move (by first | exact OT.tmp rfl | exact OT.gu (OT.tmp rfl) hg))) rfl ?_
  refine op_pure (pu_pick_and (OT.tmp rfl) (by first | exact OT.tmp rfl | exact OT.gu_in (OT.tmp rfl) ⟨trivial, rfl⟩)) rfl rfl ?_
  refine op_pure (pu_move (OT.tmp rfl)) rfl rfl ?_
  refine op_gu rfl rfl rfl (OT.gu_mk (OT.tmp rfl)) (fun hg => by (have hg1 := hg.2; (try simp only [decide_eq_true_eq, decide_eq_false_iff_not] at hg1); exact pu_move (by first | exact OT.tmp rfl | exact OT.gu (OT.tmp rfl) hg))) rfl ?_
  first
  | refine op_gu rfl rfl rfl (OT.gu_mk (OT.tmp rfl)) (fun hg => by (have hg1 := hg.2; (try simp only [decide_eq_true_eq, decide_eq_false_iff_not] at hg1); exact pu_eql (by first | exact OT.tmp rfl | exact OT.gu (OT.tmp rfl) hg) OT.const)) rfl ?_
  | refine op_gu rfl rfl rfl (OT.gu_mk (OT.tmp rfl)) (fun hg => by (have hg1 := hg.2; (try simp only [decide_eq_true_eq, decide_eq_false_iff_not] at hg1); exact pu_str_eql (by first | exact OT.tmp rfl | exact OT.gu (OT.tmp rfl) hg) OT.const)) rfl ?_
  refine op_pure (pu_pick_and (OT.tmp rfl) (by first | exact OT.tmp rfl | exact OT.gu_in (OT.tmp rfl) ⟨trivial, rfl⟩)) rfl rfl ?_
  refine op_pure (pu_move (OT.tmp rfl)) rfl rfl ?_
  refine op_gu rfl rfl rfl (OT.gu_mk (OT.tmp rfl)) (fun hg => by (have hg1 := hg.2; (try simp only [decide_eq_true_eq, decide_eq_false_iff_not] at hg1); exact pu_move (by first | exact OT.tmp rfl | exact OT.gu (OT.tmp rfl) hg))) rfl ?_
  first
  | refine op_gu rfl rfl rfl (OT.gu_mk (OT.tmp rfl)) (fun hg => by (have hg1 := hg.2; (try simp only [decide_eq_true_eq, decide_eq_false_iff_not] at hg1); exact pu_eql (by first | exact OT.tmp rfl | exact OT.gu (OT.tmp rfl) hg) OT.const)) rfl ?_
  | refine op_gu rfl rfl rfl (OT.gu_mk (OT.tmp rfl)) (fun hg => by (have hg1 := hg.2; (try simp only [decide_eq_true_eq, decide_eq_false_iff_not] at hg1); exact pu_str_eql (by first | exact OT.tmp rfl | exact OT.gu (OT.tmp rfl) hg) OT.const)) rfl ?_
  refine op_pure (pu_pick_and (OT.tmp rfl) (by first | exact OT.tmp rfl | exact OT.gu_in (OT.tmp rfl) ⟨trivial, rfl⟩)) rfl rfl ?_
  refine op_pure (pu_move (OT.tmp rfl)) rfl rfl ?_
  refine op_gu rfl rfl rfl (OT.gu_mk (OT.tmp rfl)) (fun hg => by (have hg1 := hg.2; (try simp only [decide_eq_true_eq, decide_eq_false_iff_not] at hg1); exact pu_move (by first | exact OT.tmp rfl | exact OT.gu (OT.tmp rfl) hg))) rfl ?_
  refine op_gu_acts () rfl rfl rfl (OT.gu_mk (OT.tmp rfl)) (fun hg => by (have hg1 := hg.2; (try simp only [decide_eq_true_eq, decide_eq_false_iff_not] at hg1); exact acts_lit (d := kI) (v0 := 0) (show slTy Try.prog 25 3 _ 8 = true from by decide +kernel) (show tyOk Try.prog 3 _ _ = true from by decide +kernel) z3 (by decide) (by decide) (fills_arr rfl rfl (by decide) OT.const fills_nil))) rfl (fun _ _ => ?_)
  refine op_gu_acts () rfl rfl rfl (OT.gu_mk (OT.tmp rfl)) (fun hg => by (have hg1 := hg.2; (try simp only [decide_eq_true_eq, decide_eq_false_iff_not] at hg1); exact acts_call IntsB (show enters Try.prog 16 = true from by decide +kernel) (OTs.cons (by first | exact OT.tmp rfl | exact OT.gu (OT.tmp rfl) hg) (OTs.cons (by first | exact OT.tmp rfl | exact OT.gu (OT.tmp rfl) hg) OTs.nil)) (List.Perm.refl _))) rfl (fun _ _ => ?_)
  refine op_pure (pu_pick_and (OT.tmp rfl) (by first | exact OT.tmp rfl | exact OT.gu_in (OT.tmp rfl) ⟨trivial, rfl⟩)) rfl rfl ?_
  refine op_pure (pu_assign (OT.tmp rfl)) rfl rfl ?_
  refine tr_nil ?_
  refine then_normal ?_
  refine tr_ret ?_
  exact ret_one .ret (.inl rfl) rfl () (OT.val (OT.tmp rfl) (congrArg Value.bool (by decide +kernel))) trivial (by repeat (first | exact picks_nil | refine picks_cons 0 rfl ?_ | refine picks_cons 1 rfl ?_ | refine picks_cons 2 rfl ?_ | refine picks_cons 3 rfl ?_ | refine picks_cons 4 rfl ?_ | refine picks_cons 5 rfl ?_ | refine picks_cons 6 rfl ?_))
end Go.Proofs.Ytloblpklkhepbaa
