/- Walks through the Go functions api.Tuple], api.Tuple], tuple.union, tuple.Empty, tuple.Apply, tuple.Has$1, api.Tuple], api.Tuple], tuple.Has, as typed contracts. -/
import Derived.Test.YtloblpklkhepbaaTu7
import Derived.Test.YtloblpklkhepbaaG19
namespace Go.Proofs.Ytloblpklkhepbaa
open Go Go.Gw Go.So Go.Tu
set_option linter.unusedVariables false
set_option linter.unusedSimpArgs false
variable {K0 : FH} {n0 : Nat}
theorem own_fz (l : List Tp) (hs : Small l) : CtM K0 n0 Try.prog 56 [SlT kT l] [] Unit (fun _ => FreshT K0 n0 (kF K0 n0) l) (fun _ => []) (fun _ => True) := (own_fn l hs).freeze

set_option maxHeartbeats 1000000 in
set_option maxRecDepth 20000 in
/-- slices.Grow[[]rhizome/api.Tuple,rhizome/api.Tuple] -/
theorem Grow_fn (n : Nat) (hm : n ≤ 1000) : Ct Try.prog 79 [IsV nilS, I64 (n : Int)] ([]) Value (fun r => IsV r) (fun r => [OwnI 38 kT r []]) (fun _ => True) := by
  refine fn_intro Try.func79 rfl rfl ?_
  intro H w
  refine tr_seq ?_
  -- region 0
  refine tr_env (es_cons (t := 0) (OT.tmp rfl) (es_cons (t := 1) (OT.tmp rfl) es_nil)) ?_
  refine tr_region ?_
  refine op_pure (pu_assign OT.const) rfl rfl ?_
  refine tr_nil ?_
  refine then_normal ?_
  refine tr_seq ?_
  refine tr_seq ?_
  -- region 1
  refine tr_env (es_cons (t := 0) (OT.tmp rfl) (es_cons (t := 1) (OT.tmp rfl) es_nil)) ?_
  refine tr_region ?_
  refine op_pure (pu_move (OT.tmp rfl)) rfl rfl ?_
  refine op_pure (pu_lss (OT.tmp rfl) OT.const) rfl rfl ?_
  refine tr_nil ?_
  refine then_normal ?_
  refine tr_cond (OT.tmp rfl) (fun c6 => ?_) (fun c6 => ?_)
  · try simp only [decide_eq_true_eq, decide_eq_false_iff_not, Bool.or_eq_true, Bool.and_eq_true, Bool.or_eq_false_iff, Bool.and_eq_false_iff, Bool.not_eq_true', Bool.not_eq_false', ne_eq, Classical.not_not] at c6
    exact absurd c6 (by omega) --done
  · try simp only [decide_eq_true_eq, decide_eq_false_iff_not, Bool.or_eq_true, Bool.and_eq_true, Bool.or_eq_false_iff, Bool.and_eq_false_iff, Bool.not_eq_true', Bool.not_eq_false', ne_eq, Classical.not_not] at c6
    refine tr_skip ?_
    refine then_normal ?_
    refine tr_seq ?_
    refine tr_seq ?_
    -- region 3
    refine tr_env (es_cons (t := 0) (OT.tmp rfl) (es_cons (t := 1) (OT.tmp rfl) es_nil)) ?_
    refine tr_region ?_
    refine op_pure (pu_move (OT.tmp rfl)) rfl rfl ?_
    refine op_pure (pu_move (OT.tmp rfl)) rfl rfl ?_
    refine op_pure (pu_cap_nil (OT.tmp rfl) Try.underlying40) rfl rfl ?_
    refine op_pure (pu_move (OT.tmp rfl)) rfl rfl ?_
    refine op_pure (pu_len_nil (OT.tmp rfl) Try.underlying40) rfl rfl ?_
    refine op_pure (pu_sub' (OT.tmp rfl) (OT.tmp rfl) (by omega)) rfl rfl ?_
    refine op_pure (pu_sub' (OT.tmp rfl) (OT.tmp rfl) (by omega)) rfl rfl ?_
    refine op_pure (pu_assign (OT.tmp rfl)) rfl rfl ?_
    refine tr_nil ?_
    refine then_normal ?_
    refine tr_seq ?_
    -- region 4
    refine tr_env (es_cons (t := 0) (OT.tmp rfl) (es_cons (t := 1) (OT.tmp rfl) es_nil)) ?_
    refine tr_region ?_
    refine op_pure (pu_move (OT.tmp rfl)) rfl rfl ?_
    refine op_pure (pu_gtr (OT.tmp rfl) OT.const) rfl rfl ?_
    refine tr_nil ?_
    refine then_normal ?_
    refine tr_cond (OT.tmp rfl) (fun c16 => ?_) (fun c16 => ?_)
    · try simp only [decide_eq_true_eq, decide_eq_false_iff_not, Bool.or_eq_true, Bool.and_eq_true, Bool.or_eq_false_iff, Bool.and_eq_false_iff, Bool.not_eq_true', Bool.not_eq_false', ne_eq, Classical.not_not] at c16
      -- region 5
      refine tr_env (es_cons (t := 0) (OT.tmp rfl) (es_cons (t := 1) (OT.tmp rfl) es_nil)) ?_
      refine tr_region ?_
      refine op_pure (pu_move (OT.tmp rfl)) rfl rfl ?_
      refine op_pure (pu_move (OT.tmp rfl)) rfl rfl ?_
      refine op_pure (pu_cap_nil (OT.tmp rfl) Try.underlying40) rfl rfl ?_
      refine op_pure (pu_slice_nil (OT.tmp rfl) (OT.tmp rfl) Try.underlying40 (show tyOk Try.prog 38 false 1 = true from by decide +kernel)) rfl rfl ?_
      refine op_pure (pu_move (OT.tmp rfl)) rfl rfl ?_
      refine op_acts (acts_append_make (d := kT) (v0 := []) (OT.tmp rfl) (OT.tmp rfl) (show slTy Try.prog 40 38 1 24 = true from by decide +kernel) Try.underlying3 (show tyOk Try.prog 38 false 1 = true from by decide +kernel) z38 (by omega) (by omega) (by (simp [maxLen]; omega))) (List.Perm.refl _) rfl rfl (fun v5_5 _ => ?_)
      refine op_pure (pu_move (OT.tmp rfl)) rfl rfl ?_
      refine op_pure (pu_len_nil (OT.tmp rfl) Try.underlying40) rfl rfl ?_
      refine op_acts (acts_slice_own_hi (OT.tmp rfl) (by exact perm_at 0 rfl) (OT.tmp rfl) Try.underlying40 (show tyOk Try.prog 38 false 1 = true from by decide +kernel) (by omega) (by omega)) (by exact perm_at 0 rfl) rfl rfl (fun v5_8 _ => ?_)
      refine op_pure (pu_assign (OT.tmp rfl)) rfl rfl ?_
      refine tr_nil ?_
      refine then_normal ?_
      refine tr_seq ?_
      -- region 6
      refine tr_env (es_cons (t := 0) (OT.tmp rfl) es_nil) ?_
      refine tr_region ?_
      refine op_pure (pu_move (OT.tmp rfl)) rfl rfl ?_
      refine op_pure (pu_assign (OT.tmp rfl)) rfl rfl ?_
      refine tr_nil ?_
      refine then_normal ?_
      refine tr_ret ?_
      exact ret_one .ret (.inl rfl) rfl v5_8 (OT.tmp rfl) trivial (by repeat (first | exact picks_nil | refine picks_cons 0 rfl ?_ | refine picks_cons 1 rfl ?_ | refine picks_cons 2 rfl ?_ | refine picks_cons 3 rfl ?_ | refine picks_cons 4 rfl ?_ | refine picks_cons 5 rfl ?_ | refine picks_cons 6 rfl ?_))
    · try simp only [decide_eq_true_eq, decide_eq_false_iff_not, Bool.or_eq_true, Bool.and_eq_true, Bool.or_eq_false_iff, Bool.and_eq_false_iff, Bool.not_eq_true', Bool.not_eq_false', ne_eq, Classical.not_not] at c16
      refine tr_nilItem 38 kT ?_
      refine tr_skip ?_
      refine then_normal ?_
      refine tr_seq ?_
      -- region 6
      refine tr_env (es_cons (t := 0) (OT.tmp rfl) es_nil) ?_
      refine tr_region ?_
      refine op_pure (pu_move (OT.tmp rfl)) rfl rfl ?_
      refine op_pure (pu_assign (OT.tmp rfl)) rfl rfl ?_
      refine tr_nil ?_
      refine then_normal ?_
      refine tr_ret ?_
      exact ret_one .ret (.inl rfl) rfl nilS (OT.tmp rfl) trivial (by repeat (first | exact picks_nil | refine picks_cons 0 rfl ?_ | refine picks_cons 1 rfl ?_ | refine picks_cons 2 rfl ?_ | refine picks_cons 3 rfl ?_ | refine picks_cons 4 rfl ?_ | refine picks_cons 5 rfl ?_ | refine picks_cons 6 rfl ?_))
set_option maxHeartbeats 1000000 in
set_option maxRecDepth 20000 in
/-- slices.Concat[[]rhizome/api.Tuple,rhizome/api.Tuple] -/
theorem Concat_fn (ls : List (List Tp)) (hm : ls.length ≤ 1000) (hf : ls.flatten.length ≤ 1000) : Ct Try.prog 70 [SlT kL ls] ([]) Unit (fun _ => SlT kT ls.flatten) (fun _ => []) (fun _ => True) := by
  refine fn_intro Try.func70 rfl rfl ?_
  intro H w
  refine tr_seq ?_
  -- region 0
  refine tr_env (es_cons (t := 0) (OT.tmp rfl) es_nil) ?_
  refine tr_region ?_
  refine op_pure (pu_assign OT.const) rfl rfl ?_
  refine tr_nil ?_
  refine then_normal ?_
  refine tr_seq ?_
  -- region 1
  refine tr_env (es_cons (t := 0) (OT.tmp rfl) es_nil) ?_
  refine tr_region ?_
  refine op_pure (pu_assign OT.const) rfl rfl ?_
  refine tr_nil ?_
  refine then_normal ?_
  refine tr_seq ?_
  refine tr_seq ?_
  -- region 2
  refine tr_env (es_cons (t := 0) (OT.tmp rfl) (es_cons (t := 3) (OT.tmp rfl) es_nil)) ?_
  refine tr_region ?_
  refine op_pure (pu_move (OT.tmp rfl)) rfl rfl ?_
  refine op_pure (pu_len_sl (OT.tmp rfl) Try.underlying77) rfl rfl ?_
  refine op_pure (pu_move OT.const) rfl rfl ?_
  refine tr_nil ?_
  refine then_normal ?_
  refine tr_block ?_
  refine tr_loopK (σ := Nat) (es_cons (t := 0) (OT.tmp rfl) (es_cons (t := 9) (OT.tmp rfl) (es_cons (t := 10) (OT.tmp rfl) es_nil))) (fun k => [(11, I64 (k : Int)), (3, I64 ((ls.take k).flatten.length : Int))]) (fun k => []) (fun k => k ≤ ls.length) (fun k => ls.length - k) 0 (Nat.zero_le _) ?_ (own_picks (by exact picks_nil)) ?_
  · exact (es_cons (t := 11) (by exact OT.tmp rfl) (es_cons (t := 3) (by exact OT.tmp rfl) es_nil))
  · rintro k hk
    refine tr_seq ?_
    -- region 3
    refine tr_env (es_cons (t := 0) (OT.tmp rfl) (es_cons (t := 3) (OT.tmp rfl) (es_cons (t := 9) (OT.tmp rfl) (es_cons (t := 10) (OT.tmp rfl) (es_cons (t := 11) (OT.tmp rfl) es_nil))))) ?_
    refine tr_region ?_
    refine op_pure (pu_lss (OT.tmp rfl) (OT.tmp rfl)) rfl rfl ?_
    refine tr_nil ?_
    refine then_normal ?_
    refine tr_seq ?_
    refine tr_cond (OT.tmp rfl) (fun c12 => ?_) (fun c12 => ?_)
    · try simp only [decide_eq_true_eq, decide_eq_false_iff_not, Bool.or_eq_true, Bool.and_eq_true, Bool.or_eq_false_iff, Bool.and_eq_false_iff, Bool.not_eq_true', Bool.not_eq_false', ne_eq, Classical.not_not] at c12
      refine tr_skip ?_
      refine then_normal ?_
      refine tr_seq ?_
      refine tr_block ?_
      refine tr_seq ?_
      -- region 4
      refine tr_env (es_cons (t := 0) (OT.tmp rfl) (es_cons (t := 3) (OT.tmp rfl) (es_cons (t := 9) (OT.tmp rfl) (es_cons (t := 10) (OT.tmp rfl) (es_cons (t := 11) (OT.tmp rfl) es_nil))))) ?_
      have hfl := flat_le ls (k + 1)
      have htf := take_flat (ls := ls) (k := k) (by omega)
      rw [htf, List.length_append] at hfl
      refine tr_region ?_
      refine op_pure (pu_index (OT.tmp rfl) (OT.tmp rfl) Try.underlying77 (show tyOk Try.prog 40 false 1 = true from by decide +kernel) (by omega) (by omega)) rfl rfl ?_
      refine op_pure (pu_load (OT.tmp rfl) (show tyOk Try.prog 40 false 1 = true from by decide +kernel)) rfl rfl ?_
      refine op_pure (pu_assign (OT.tmp rfl)) rfl rfl ?_
      refine tr_nil ?_
      refine then_normal ?_
      refine tr_seq ?_
      -- region 5
      refine tr_env (es_cons (t := 0) (OT.tmp rfl) (es_cons (t := 3) (OT.tmp rfl) (es_cons (t := 5) (OT.tmp rfl) (es_cons (t := 9) (OT.tmp rfl) (es_cons (t := 10) (OT.tmp rfl) (es_cons (t := 11) (OT.tmp rfl) es_nil)))))) ?_
      refine tr_region ?_
      refine op_pure (pu_move (OT.tmp rfl)) rfl rfl ?_
      refine op_pure (pu_move (OT.tmp rfl)) rfl rfl ?_
      refine op_pure (pu_len_sl (OT.tmp rfl) Try.underlying40) rfl rfl ?_
      refine op_pure (pu_add' (OT.tmp rfl) (OT.tmp rfl) (by omega)) rfl rfl ?_
      refine op_pure (pu_assign (OT.tmp rfl)) rfl rfl ?_
      refine tr_nil ?_
      refine then_normal ?_
      refine tr_seq ?_
      -- region 6
      refine tr_env (es_cons (t := 0) (OT.tmp rfl) (es_cons (t := 3) (OT.tmp rfl) (es_cons (t := 9) (OT.tmp rfl) (es_cons (t := 10) (OT.tmp rfl) (es_cons (t := 11) (OT.tmp rfl) es_nil))))) ?_
      refine tr_region ?_
      refine op_pure (pu_move (OT.tmp rfl)) rfl rfl ?_
      refine op_pure (pu_lss (OT.tmp rfl) OT.const) rfl rfl ?_
      refine tr_nil ?_
      refine then_normal ?_
      refine tr_cond (OT.tmp rfl) (fun c20 => ?_) (fun c20 => ?_)
      · try simp only [decide_eq_true_eq, decide_eq_false_iff_not, Bool.or_eq_true, Bool.and_eq_true, Bool.or_eq_false_iff, Bool.and_eq_false_iff, Bool.not_eq_true', Bool.not_eq_false', ne_eq, Classical.not_not] at c20
        exact absurd c20 (by omega) --done
      · try simp only [decide_eq_true_eq, decide_eq_false_iff_not, Bool.or_eq_true, Bool.and_eq_true, Bool.or_eq_false_iff, Bool.and_eq_false_iff, Bool.not_eq_true', Bool.not_eq_false', ne_eq, Classical.not_not] at c20
        refine tr_skip ?_
        refine block_normal ?_
        refine then_normal ?_
        -- region 8
        refine tr_env (es_cons (t := 0) (OT.tmp rfl) (es_cons (t := 3) (OT.tmp rfl) (es_cons (t := 9) (OT.tmp rfl) (es_cons (t := 10) (OT.tmp rfl) (es_cons (t := 11) (OT.tmp rfl) es_nil))))) ?_
        refine tr_region ?_
        refine op_pure (pu_add' (OT.tmp rfl) OT.const (by omega)) rfl rfl ?_
        refine op_pure (pu_move (OT.tmp rfl)) rfl rfl ?_
        refine tr_nil ?_
        refine then_normal ?_
        exact tr_again (k + 1) (by omega) (by omega) (es_append (es_cons (t := 11) (by exact OT.tmp rfl) (es_cons (t := 3) (OT.val (OT.tmp rfl) (congrArg (Value.int _) (by rw [htf, List.length_append]; omega))) es_nil)) (es_cons (t := 0) (OT.tmp rfl) (es_cons (t := 9) (OT.tmp rfl) (es_cons (t := 10) (OT.tmp rfl) es_nil)))) (own_picks (by exact picks_nil))
    · try simp only [decide_eq_true_eq, decide_eq_false_iff_not, Bool.or_eq_true, Bool.and_eq_true, Bool.or_eq_false_iff, Bool.and_eq_false_iff, Bool.not_eq_true', Bool.not_eq_false', ne_eq, Classical.not_not] at c12
      refine tr_exit ?_
      refine then_exit ?_
      refine then_exit ?_
      refine block_hit ?_
      refine then_normal ?_
      refine tr_seq ?_
      -- region 9
      refine tr_env (es_cons (t := 0) (OT.tmp rfl) (es_cons (t := 3) (OT.tmp rfl) es_nil)) ?_
      obtain rfl : k = ls.length := by omega
      rw [List.take_length]
      refine tr_region ?_
      refine op_pure (pu_move (OT.tmp rfl)) rfl rfl ?_
      refine op_acts (acts_call (Grow_fn ls.flatten.length hf) (show enters Try.prog 79 = true from by decide +kernel) (OTs.cons OT.const (OTs.cons (OT.tmp rfl) OTs.nil)) (List.Perm.refl _)) (List.Perm.refl _) rfl rfl (fun v9_1 _ => ?_)
      refine op_pure (pu_assign (OT.tmp rfl)) rfl rfl ?_
      refine tr_nil ?_
      refine then_normal ?_
      refine tr_seq ?_
      refine tr_seq ?_
      -- region 10
      refine tr_env (es_cons (t := 0) (OT.tmp rfl) (es_cons (t := 6) (OT.tmp rfl) es_nil)) ?_
      refine tr_region ?_
      refine op_pure (pu_move (OT.tmp rfl)) rfl rfl ?_
      refine op_pure (pu_len_sl (OT.tmp rfl) Try.underlying77) rfl rfl ?_
      refine op_pure (pu_move OT.const) rfl rfl ?_
      refine tr_nil ?_
      refine then_normal ?_
      refine tr_block ?_
      refine tr_loopK (σ := Nat × Value) (es_cons (t := 25) (OT.tmp rfl) (es_cons (t := 26) (OT.tmp rfl) es_nil)) (fun s => [(27, I64 (s.1 : Int)), (6, IsV s.2)]) (fun s => [OwnI 38 kT s.2 (ls.take s.1).flatten]) (fun s => s.1 ≤ ls.length) (fun s => ls.length - s.1) (0, v9_1) (Nat.zero_le _) ?_ (own_picks (by repeat (first | exact picks_nil | refine picks_cons 0 rfl ?_ | refine picks_cons 1 rfl ?_ | refine picks_cons 2 rfl ?_ | refine picks_cons 3 rfl ?_ | refine picks_cons 4 rfl ?_ | refine picks_cons 5 rfl ?_ | refine picks_cons 6 rfl ?_))) ?_
      · exact (es_cons (t := 27) (by exact OT.tmp rfl) (es_cons (t := 6) (by exact OT.tmp rfl) es_nil))
      · rintro ⟨k2, v⟩ hk2
        dsimp only at hk2 ⊢
        refine tr_seq ?_
        -- region 11
        refine tr_env (es_cons (t := 6) (OT.tmp rfl) (es_cons (t := 25) (OT.tmp rfl) (es_cons (t := 26) (OT.tmp rfl) (es_cons (t := 27) (OT.tmp rfl) es_nil)))) ?_
        refine tr_region ?_
        refine op_pure (pu_lss (OT.tmp rfl) (OT.tmp rfl)) rfl rfl ?_
        refine tr_nil ?_
        refine then_normal ?_
        refine tr_seq ?_
        refine tr_cond (OT.tmp rfl) (fun c28 => ?_) (fun c28 => ?_)
        · try simp only [decide_eq_true_eq, decide_eq_false_iff_not, Bool.or_eq_true, Bool.and_eq_true, Bool.or_eq_false_iff, Bool.and_eq_false_iff, Bool.not_eq_true', Bool.not_eq_false', ne_eq, Classical.not_not] at c28
          refine tr_skip ?_
          refine then_normal ?_
          refine tr_seq ?_
          refine tr_block ?_
          refine tr_seq ?_
          -- region 12
          refine tr_env (es_cons (t := 6) (OT.tmp rfl) (es_cons (t := 25) (OT.tmp rfl) (es_cons (t := 26) (OT.tmp rfl) (es_cons (t := 27) (OT.tmp rfl) es_nil)))) ?_
          have hfl2 := flat_le ls (k2 + 1)
          have htf2 := take_flat (ls := ls) (k := k2) (by omega)
          rw [htf2, List.length_append] at hfl2
          refine tr_region ?_
          refine op_pure (pu_index (OT.tmp rfl) (OT.tmp rfl) Try.underlying77 (show tyOk Try.prog 40 false 1 = true from by decide +kernel) (by omega) (by omega)) rfl rfl ?_
          refine op_pure (pu_load (OT.tmp rfl) (show tyOk Try.prog 40 false 1 = true from by decide +kernel)) rfl rfl ?_
          refine op_pure (pu_assign (OT.tmp rfl)) rfl rfl ?_
          refine tr_nil ?_
          refine then_normal ?_
          -- region 13
          refine tr_env (es_cons (t := 6) (OT.tmp rfl) (es_cons (t := 8) (OT.tmp rfl) (es_cons (t := 25) (OT.tmp rfl) (es_cons (t := 26) (OT.tmp rfl) (es_cons (t := 27) (OT.tmp rfl) es_nil))))) ?_
          refine tr_region ?_
          refine op_pure (pu_move (OT.tmp rfl)) rfl rfl ?_
          refine op_pure (pu_move (OT.tmp rfl)) rfl rfl ?_
          refine op_acts (acts_append (OT.tmp rfl) (by exact perm_at 0 rfl) (OT.tmp rfl) (show slTy Try.prog 40 38 1 24 = true from by decide +kernel) (by omega) (by (simp [maxLen] at *; omega))) (by exact perm_at 0 rfl) rfl rfl (fun v13_2 _ => ?_)
          refine op_pure (pu_assign (OT.tmp rfl)) rfl rfl ?_
          refine tr_nil ?_
          refine block_normal ?_
          refine then_normal ?_
          -- region 14
          refine tr_env (es_cons (t := 6) (OT.tmp rfl) (es_cons (t := 25) (OT.tmp rfl) (es_cons (t := 26) (OT.tmp rfl) (es_cons (t := 27) (OT.tmp rfl) es_nil)))) ?_
          refine tr_region ?_
          refine op_pure (pu_add' (OT.tmp rfl) OT.const (by omega)) rfl rfl ?_
          refine op_pure (pu_move (OT.tmp rfl)) rfl rfl ?_
          refine tr_nil ?_
          refine then_normal ?_
          exact tr_again (k2 + 1, v13_2) (by show k2 + 1 ≤ ls.length; omega) (by omega) (es_append (es_cons (t := 27) (by exact OT.tmp rfl) (es_cons (t := 6) (by exact OT.tmp rfl) es_nil)) (es_cons (t := 25) (OT.tmp rfl) (es_cons (t := 26) (OT.tmp rfl) es_nil))) (own_picks (by rw [htf2]; exact (by repeat (first | exact picks_nil | refine picks_cons 0 rfl ?_ | refine picks_cons 1 rfl ?_ | refine picks_cons 2 rfl ?_ | refine picks_cons 3 rfl ?_ | refine picks_cons 4 rfl ?_ | refine picks_cons 5 rfl ?_ | refine picks_cons 6 rfl ?_))))
        · try simp only [decide_eq_true_eq, decide_eq_false_iff_not, Bool.or_eq_true, Bool.and_eq_true, Bool.or_eq_false_iff, Bool.and_eq_false_iff, Bool.not_eq_true', Bool.not_eq_false', ne_eq, Classical.not_not] at c28
          refine tr_exit ?_
          refine then_exit ?_
          refine then_exit ?_
          refine block_hit ?_
          refine then_normal ?_
          refine tr_seq ?_
          -- region 15
          refine tr_env (es_cons (t := 6) (OT.tmp rfl) es_nil) ?_
          obtain rfl : k2 = ls.length := by omega
          rw [List.take_length]
          refine tr_freeze (by exact perm_at 0 rfl) 6 (OT.tmp rfl) ?_
          refine tr_region ?_
          refine op_pure (pu_move (OT.tmp rfl)) rfl rfl ?_
          refine op_pure (pu_assign (OT.tmp rfl)) rfl rfl ?_
          refine tr_nil ?_
          refine then_normal ?_
          refine tr_ret ?_
          exact ret_one .ret (.inl rfl) rfl () (OT.tmp rfl) trivial (by exact picks_nil)
set_option maxHeartbeats 1000000 in
set_option maxRecDepth 20000 in
/-- rhizome/tuple.union -/
theorem union_fn (a b : List Tp) (hab : Small (a ++ b)) : CtM K0 n0 Try.prog 52 [SlT kT a, SlT kT b] ([]) Unit (fun _ => FreshT K0 n0 (kF K0 n0) (bothR a b)) (fun _ => []) (fun _ => True) := by
  refine fn_introM Try.func52 rfl rfl ?_
  intro H w hK hn
  have hflat : [a, b].flatten = a ++ b := by simp
  have hfl : [a, b].flatten.length ≤ 1000 := by rw [hflat]; exact hab.1
  refine tr_seq ?_
  -- region 0
  refine tr_env (es_cons (t := 0) (OT.tmp rfl) (es_cons (t := 1) (OT.tmp rfl) es_nil)) ?_
  refine tr_region ?_
  refine op_pure (pu_assign OT.const) rfl rfl ?_
  refine tr_nil ?_
  refine then_normal ?_
  refine tr_seq ?_
  -- region 1
  refine tr_env (es_cons (t := 0) (OT.tmp rfl) (es_cons (t := 1) (OT.tmp rfl) es_nil)) ?_
  refine tr_region ?_
  refine op_pure (pu_move (OT.tmp rfl)) rfl rfl ?_
  refine op_pure (pu_move (OT.tmp rfl)) rfl rfl ?_
  refine op_acts (acts_lit (d := kL) (v0 := []) (show slTy Try.prog 77 40 1 24 = true from by decide +kernel) (show tyOk Try.prog 40 false 1 = true from by decide +kernel) z40 (show 2 * 1 ≤ 16777216 from by decide) (by decide) (fills_arr rfl rfl (by decide) (OT.tmp rfl) (fills_arr rfl rfl (by decide) (OT.tmp rfl) fills_nil))) (List.Perm.refl _) rfl rfl (fun _ _ => ?_)
  refine op_acts (acts_call (Concat_fn [a, b] (by simp) hfl) (show enters Try.prog 70 = true from by decide +kernel) (OTs.cons (OT.tmp rfl) OTs.nil) (List.Perm.refl _)) (List.Perm.refl _) rfl rfl (fun _ _ => ?_)
  rw [hflat]
  refine op_acts (acts_callM (Set_fn (a ++ b) hab) (mk_in hK hn) (show enters Try.prog 33 = true from by decide +kernel) (OTs.cons (OT.tmp rfl) OTs.nil) (List.Perm.refl _)) (List.Perm.refl _) rfl rfl (fun _ _ => ?_)
  refine op_pure (pu_assign (OT.tmp rfl)) rfl rfl ?_
  refine tr_nil ?_
  refine then_normal ?_
  refine tr_ret ?_
  exact ret_one .ret (.inl rfl) rfl () (OT.tmp rfl) trivial (by exact picks_nil)
set_option maxHeartbeats 1000000 in
set_option maxRecDepth 20000 in
/-- rhizome/tuple.Empty -/
theorem Empty_fn (x : Dl) (h1 : Small x.1) (h2 : Small x.2) : Ct Try.prog 30 [kD.T x] ([]) Unit (fun _ => BoolT (decide ((x.1.length : Int) + x.2.length = 0))) (fun _ => []) (fun _ => True) := by
  refine fn_intro Try.func30 rfl rfl ?_
  intro H w
  have hl1 := h1.1
  have hl2 := h2.1
  refine tr_seq ?_
  -- region 0
  refine tr_env (es_cons (t := 0) (OT.tmp rfl) es_nil) ?_
  refine tr_region ?_
  refine op_acts (acts_box (d := kD) (OT.tmp rfl)) (List.Perm.refl _) rfl rfl (fun g0_0 _ => ?_)
  refine op_pure (pu_assign OT.const) rfl rfl ?_
  refine tr_nil ?_
  refine then_normal ?_
  refine tr_seq ?_
  -- region 1
  refine tr_env (es_cons (t := 1) (OT.tmp rfl) es_nil) ?_
  refine tr_region ?_
  refine op_pure (pu_faddr (OT.tmp rfl) (show fieldOk Try.prog 44 0 0 false 1 = true from by decide +kernel)) rfl rfl ?_
  refine op_pure (pu_load_blk (OT.tmp rfl) (by exact mem_at 0 rfl) (Lens.fst (a := kL) (b := kL)) (show tyOk Try.prog 40 false 1 = true from by decide +kernel)) rfl rfl ?_
  refine op_pure (pu_len_sl (OT.tmp rfl) Try.underlying40) rfl rfl ?_
  refine op_pure (pu_faddr (OT.tmp rfl) (show fieldOk Try.prog 44 1 1 false 1 = true from by decide +kernel)) rfl rfl ?_
  refine op_pure (pu_load_blk (OT.tmp rfl) (by exact mem_at 0 rfl) (Lens.snd (a := kL) (b := kL)) (show tyOk Try.prog 40 false 1 = true from by decide +kernel)) rfl rfl ?_
  refine op_pure (pu_len_sl (OT.tmp rfl) Try.underlying40) rfl rfl ?_
  refine op_pure (pu_add' (OT.tmp rfl) (OT.tmp rfl) (by omega)) rfl rfl ?_
  refine op_pure (pu_eql (OT.tmp rfl) OT.const) rfl rfl ?_
  refine op_pure (pu_assign (OT.tmp rfl)) rfl rfl ?_
  refine tr_nil ?_
  refine then_normal ?_
  refine tr_ret ?_
  exact ret_one .ret (.inl rfl) rfl () (OT.tmp rfl) trivial (by exact picks_nil)
set_option maxHeartbeats 1000000 in
set_option maxRecDepth 20000 in
/-- rhizome/tuple.Apply -/
theorem Apply_fn (s : List Tp) (x : Dl) (hs : Few s) (h1 : Few x.1) (h2 : Few x.2) : CtM K0 n0 Try.prog 39 [SlT kT s, kD.T x] ([]) Unit (fun _ => TupT [FreshT K0 n0 (kF K0 n0) (applyR s x).1, I64 (applyR s x).2]) (fun _ => []) (fun _ => True) := by
  refine fn_introM Try.func39 rfl rfl ?_
  intro H w hK hn
  refine tr_seq ?_
  -- region 0
  refine tr_env (es_cons (t := 0) (OT.tmp rfl) (es_cons (t := 1) (OT.tmp rfl) es_nil)) ?_
  refine tr_region ?_
  refine op_acts (acts_box (d := kD) (OT.tmp rfl)) (List.Perm.refl _) rfl rfl (fun g0_0 _ => ?_)
  refine op_pure (pu_assign OT.const) rfl rfl ?_
  refine op_pure (pu_assign OT.const) rfl rfl ?_
  refine tr_nil ?_
  refine then_normal ?_
  refine tr_seq ?_
  refine tr_seq ?_
  -- region 1
  refine tr_env (es_cons (t := 0) (OT.tmp rfl) (es_cons (t := 3) (OT.tmp rfl) es_nil)) ?_
  refine tr_region ?_
  refine op_pure (pu_move (OT.tmp rfl)) rfl rfl ?_
  refine op_pure (pu_faddr (OT.tmp rfl) (show fieldOk Try.prog 44 0 0 false 1 = true from by decide +kernel)) rfl rfl ?_
  refine op_pure (pu_load_blk (OT.tmp rfl) (by exact mem_at 0 rfl) (Lens.fst (a := kL) (b := kL)) (show tyOk Try.prog 40 false 1 = true from by decide +kernel)) rfl rfl ?_
  refine op_pure (pu_faddr (OT.tmp rfl) (show fieldOk Try.prog 44 1 1 false 1 = true from by decide +kernel)) rfl rfl ?_
  refine op_pure (pu_load_blk (OT.tmp rfl) (by exact mem_at 0 rfl) (Lens.snd (a := kL) (b := kL)) (show tyOk Try.prog 40 false 1 = true from by decide +kernel)) rfl rfl ?_
  refine op_acts (acts_lit (d := kL) (v0 := []) (show slTy Try.prog 77 40 1 24 = true from by decide +kernel) (show tyOk Try.prog 40 false 1 = true from by decide +kernel) z40 (show 3 * 1 ≤ 16777216 from by decide) (by decide) (fills_arr rfl rfl (by decide) (OT.tmp rfl) (fills_arr rfl rfl (by decide) (OT.tmp rfl) (fills_arr rfl rfl (by decide) (OT.tmp rfl) fills_nil)))) (List.Perm.refl _) rfl rfl (fun _ _ => ?_)
  refine op_acts (acts_call (sets_fn [s, x.1, x.2] (by simp)) (show enters Try.prog 50 = true from by decide +kernel) (OTs.cons (OT.tmp rfl) OTs.nil) (List.Perm.refl _)) (List.Perm.refl _) rfl rfl (fun _ _ => ?_)
  refine op_pure (pu_not (OT.tmp rfl)) rfl rfl ?_
  refine tr_nil ?_
  refine then_normal ?_
  refine tr_cond (OT.tmp rfl) (fun c19 => ?_) (fun c19 => ?_)
  · skip
    rw [sets3] at c19
    have hd : applyR s x = ([], 1) := by rw [applyR, if_pos (by rw [← c19]; cases risesB s <;> cases risesB x.1 <;> cases risesB x.2 <;> rfl)]
    refine tr_seq ?_
    -- region 2
    refine tr_env es_nil ?_
    refine tr_region ?_
    refine op_pure (pu_assign OT.const) rfl rfl ?_
    refine op_pure (pu_assign OT.const) rfl rfl ?_
    refine tr_nil ?_
    refine then_normal ?_
    refine tr_ret ?_
    refine then_ret ?_
    exact ret_two .ret (.inl rfl) rfl () (OT.eq (nil_fr (OT.tmp rfl)) (congrArg (FreshT K0 n0 (kF K0 n0)) (by rw [hd]))) (OT.val (OT.tmp rfl) (congrArg (Value.int _) (by rw [hd]))) (fun _ _ h => h) trivial (by exact picks_nil)
  · skip
    rw [sets3] at c19
    obtain ⟨⟨ha, hb⟩, hc2⟩ : (risesB s = true ∧ risesB x.1 = true) ∧ risesB x.2 = true := by simpa using c19
    have hd0 : ¬ (!risesB s || !risesB x.1 || !risesB x.2) = true := by rw [ha, hb, hc2]; simp
    refine tr_skip ?_
    refine then_normal ?_
    refine tr_seq ?_
    refine tr_seq ?_
    -- region 3
    refine tr_env (es_cons (t := 0) (OT.tmp rfl) (es_cons (t := 3) (OT.tmp rfl) es_nil)) ?_
    refine tr_region ?_
    refine op_pure (pu_move (OT.tmp rfl)) rfl rfl ?_
    refine op_pure (pu_faddr (OT.tmp rfl) (show fieldOk Try.prog 44 0 0 false 1 = true from by decide +kernel)) rfl rfl ?_
    refine op_pure (pu_load_blk (OT.tmp rfl) (by exact mem_at 0 rfl) (Lens.fst (a := kL) (b := kL)) (show tyOk Try.prog 40 false 1 = true from by decide +kernel)) rfl rfl ?_
    refine op_acts (acts_call (walk_fn s x.1 hs.small h1.small ha hb) (show enters Try.prog 51 = true from by decide +kernel) (OTs.cons (OT.tmp rfl) (OTs.cons (OT.tmp rfl) OTs.nil)) (List.Perm.refl _)) (List.Perm.refl _) rfl rfl (fun _ _ => ?_)
    refine op_pure (pu_move (OT.tmp rfl)) rfl rfl ?_
    refine op_pure (pu_extract (OT.tmp rfl) rfl) rfl rfl ?_
    refine op_pure (pu_extract (OT.tmp rfl) rfl) rfl rfl ?_
    refine op_pure (pu_extract (OT.tmp rfl) rfl) rfl rfl ?_
    refine op_pure (pu_assign (OT.tmp rfl)) rfl rfl ?_
    refine op_pure (pu_assign (OT.tmp rfl)) rfl rfl ?_
    refine op_pure (pu_assign (OT.tmp rfl)) rfl rfl ?_
    refine tr_nil ?_
    refine then_normal ?_
    refine tr_seq ?_
    -- region 4
    refine tr_env (es_cons (t := 0) (OT.tmp rfl) (es_cons (t := 3) (OT.tmp rfl) (es_cons (t := 7) (OT.tmp rfl) es_nil))) ?_
    refine tr_region ?_
    refine op_pure (pu_move (OT.tmp rfl)) rfl rfl ?_
    refine op_pure (pu_len_sl (OT.tmp rfl) Try.underlying40) rfl rfl ?_
    refine op_pure (pu_gtr (OT.tmp rfl) OT.const) rfl rfl ?_
    refine tr_nil ?_
    refine then_normal ?_
    refine tr_cond (OT.tmp rfl) (fun c30 => ?_) (fun c30 => ?_)
    · skip
      have hd : applyR s x = ([], 2) := by rw [applyR, if_neg hd0, if_pos ((inter_meet s x.1).1 (of_decide_eq_true c30))]
      refine tr_seq ?_
      -- region 5
      refine tr_env es_nil ?_
      refine tr_region ?_
      refine op_pure (pu_assign OT.const) rfl rfl ?_
      refine op_pure (pu_assign OT.const) rfl rfl ?_
      refine tr_nil ?_
      refine then_normal ?_
      refine tr_ret ?_
      refine then_ret ?_
      exact ret_two .ret (.inl rfl) rfl () (OT.eq (nil_fr (OT.tmp rfl)) (congrArg (FreshT K0 n0 (kF K0 n0)) (by rw [hd]))) (OT.val (OT.tmp rfl) (congrArg (Value.int _) (by rw [hd]))) (fun _ _ h => h) trivial (by exact picks_nil)
    · skip
      have hd1 : ¬ meetB x.1 s = true := fun e => of_decide_eq_false c30 ((inter_meet s x.1).2 e)
      refine tr_skip ?_
      refine then_normal ?_
      refine tr_seq ?_
      -- region 6
      refine tr_env (es_cons (t := 0) (OT.tmp rfl) (es_cons (t := 3) (OT.tmp rfl) es_nil)) ?_
      refine tr_region ?_
      refine op_pure (pu_move (OT.tmp rfl)) rfl rfl ?_
      refine op_pure (pu_faddr (OT.tmp rfl) (show fieldOk Try.prog 44 1 1 false 1 = true from by decide +kernel)) rfl rfl ?_
      refine op_pure (pu_load_blk (OT.tmp rfl) (by exact mem_at 0 rfl) (Lens.snd (a := kL) (b := kL)) (show tyOk Try.prog 40 false 1 = true from by decide +kernel)) rfl rfl ?_
      refine op_acts (acts_call (walk_fn s x.2 hs.small h2.small ha hc2) (show enters Try.prog 51 = true from by decide +kernel) (OTs.cons (OT.tmp rfl) (OTs.cons (OT.tmp rfl) OTs.nil)) (List.Perm.refl _)) (List.Perm.refl _) rfl rfl (fun _ _ => ?_)
      refine op_pure (pu_move (OT.tmp rfl)) rfl rfl ?_
      refine op_pure (pu_extract (OT.tmp rfl) rfl) rfl rfl ?_
      refine op_pure (pu_extract (OT.tmp rfl) rfl) rfl rfl ?_
      refine op_pure (pu_extract (OT.tmp rfl) rfl) rfl rfl ?_
      refine op_pure (pu_assign (OT.tmp rfl)) rfl rfl ?_
      refine op_pure (pu_assign (OT.tmp rfl)) rfl rfl ?_
      refine op_pure (pu_assign (OT.tmp rfl)) rfl rfl ?_
      refine tr_nil ?_
      refine then_normal ?_
      refine tr_seq ?_
      refine tr_seq ?_
      -- region 7
      refine tr_env (es_cons (t := 3) (OT.tmp rfl) (es_cons (t := 9) (OT.tmp rfl) (es_cons (t := 11) (OT.tmp rfl) es_nil))) ?_
      refine tr_region ?_
      refine op_pure (pu_move (OT.tmp rfl)) rfl rfl ?_
      refine op_pure (pu_len_sl (OT.tmp rfl) Try.underlying40) rfl rfl ?_
      refine op_pure (pu_gtr (OT.tmp rfl) OT.const) rfl rfl ?_
      refine tr_nil ?_
      refine then_normal ?_
      refine tr_cond (OT.tmp rfl) (fun c41 => ?_) (fun c41 => ?_)
      · skip
        have hd : applyR s x = ([], 4) := by rw [applyR, if_neg hd0, if_neg hd1, if_pos (of_decide_eq_true c41)]
        refine tr_seq ?_
        -- region 8
        refine tr_env es_nil ?_
        refine tr_region ?_
        refine op_pure (pu_assign OT.const) rfl rfl ?_
        refine op_pure (pu_assign OT.const) rfl rfl ?_
        refine tr_nil ?_
        refine then_normal ?_
        refine tr_ret ?_
        refine then_ret ?_
        exact ret_two .ret (.inl rfl) rfl () (OT.eq (nil_fr (OT.tmp rfl)) (congrArg (FreshT K0 n0 (kF K0 n0)) (by rw [hd]))) (OT.val (OT.tmp rfl) (congrArg (Value.int _) (by rw [hd]))) (fun _ _ h => h) trivial (by exact picks_nil)
      · skip
        have hd : applyR s x = (bothR (withoutL s x.2) x.1, 0) := by rw [applyR, if_neg hd0, if_neg hd1, if_neg (of_decide_eq_false c41)]
        refine tr_skip ?_
        refine then_normal ?_
        refine tr_seq ?_
        -- region 9
        refine tr_env (es_cons (t := 3) (OT.tmp rfl) (es_cons (t := 9) (OT.tmp rfl) es_nil)) ?_
        refine tr_region ?_
        refine op_pure (pu_move (OT.tmp rfl)) rfl rfl ?_
        refine op_pure (pu_faddr (OT.tmp rfl) (show fieldOk Try.prog 44 0 0 false 1 = true from by decide +kernel)) rfl rfl ?_
        refine op_pure (pu_load_blk (OT.tmp rfl) (by exact mem_at 0 rfl) (Lens.fst (a := kL) (b := kL)) (show tyOk Try.prog 40 false 1 = true from by decide +kernel)) rfl rfl ?_
        refine op_acts (acts_callM (union_fn (withoutL s x.2) x.1 ((hs.without _).both h1)) (mk_in hK hn) (show enters Try.prog 52 = true from by decide +kernel) (OTs.cons (OT.tmp rfl) (OTs.cons (OT.tmp rfl) OTs.nil)) (List.Perm.refl _)) (List.Perm.refl _) rfl rfl (fun _ _ => ?_)
        refine op_pure (pu_assign (OT.tmp rfl)) rfl rfl ?_
        refine op_pure (pu_assign OT.const) rfl rfl ?_
        refine tr_nil ?_
        refine then_normal ?_
        refine tr_ret ?_
        exact ret_two .ret (.inl rfl) rfl () (OT.eq (OT.tmp rfl) (congrArg (FreshT K0 n0 (kF K0 n0)) (by rw [hd]))) (OT.val (OT.tmp rfl) (congrArg (Value.int _) (by rw [hd]))) (fun _ _ h => h) trivial (by exact picks_nil)
set_option maxHeartbeats 1000000 in
set_option maxRecDepth 20000 in
/-- rhizome/tuple.Has$1 -/
theorem Has1_fn (x t : Tp) (g : Nat) : Ct Try.prog 62 [SlT kI6 x, IsV (pt g 0)] ([BlkI g 38 kT t]) Unit (fun _ => BoolT (decide (x = t))) (fun _ => [BlkI g 38 kT t]) (fun _ => True) := by
  refine fn_intro Try.func62 rfl rfl ?_
  intro H w
  refine tr_seq ?_
  -- region 0
  refine tr_env (es_cons (t := 0) (OT.tmp rfl) (es_cons (t := 1) (OT.tmp rfl) es_nil)) ?_
  refine tr_region ?_
  refine op_pure (pu_assign OT.const) rfl rfl ?_
  refine tr_nil ?_
  refine then_normal ?_
  refine tr_seq ?_
  -- region 1
  refine tr_env (es_cons (t := 0) (OT.tmp rfl) (es_cons (t := 1) (OT.tmp rfl) es_nil)) ?_
  refine tr_region ?_
  refine op_pure (pu_move (OT.tmp rfl)) rfl rfl ?_
  refine op_pure (pu_load_var (OT.tmp rfl) (by exact mem_at 0 rfl) (show tyOk Try.prog 38 false 1 = true from by decide +kernel)) rfl rfl ?_
  refine op_acts (acts_call (same_all _ _) (show enters Try.prog 60 = true from by decide +kernel) (OTs.cons (OT.tmp rfl) (OTs.cons (OT.tmp rfl) OTs.nil)) (List.Perm.refl _)) (List.Perm.refl _) rfl rfl (fun _ _ => ?_)
  refine op_pure (pu_assign (OT.tmp rfl)) rfl rfl ?_
  refine tr_nil ?_
  refine then_normal ?_
  refine tr_ret ?_
  exact ret_one .ret (.inl rfl) rfl () (OT.tmp rfl) trivial (by repeat (first | exact picks_nil | refine picks_cons 0 rfl ?_ | refine picks_cons 1 rfl ?_ | refine picks_cons 2 rfl ?_ | refine picks_cons 3 rfl ?_ | refine picks_cons 4 rfl ?_ | refine picks_cons 5 rfl ?_ | refine picks_cons 6 rfl ?_))
set_option maxHeartbeats 1000000 in
set_option maxRecDepth 20000 in
/-- slices.IndexFunc[[]rhizome/api.Tuple,rhizome/api.Tuple] -/
theorem idxT_fn (l : List Tp) (fv : Value) (t : Tp) (g : Nat) (hm : l.length ≤ 1000) (hfv : ∀ x, CtV Try.prog fv [kT.T x] [BlkI g 38 kT t] Unit (fun _ => BoolT (decide (x = t))) (fun _ => [BlkI g 38 kT t]) (fun _ => True)) : Ct Try.prog 75 [SlT kT l, IsV fv] ([BlkI g 38 kT t]) Int (fun r => I64 r) (fun _ => [BlkI g 38 kT t]) (fun r => (decide (0 ≤ r)) = l.contains t) := by
  refine fn_intro Try.func75 rfl rfl ?_
  intro H w
  refine tr_seq ?_
  -- region 0
  refine tr_env (es_cons (t := 0) (OT.tmp rfl) (es_cons (t := 1) (OT.tmp rfl) es_nil)) ?_
  refine tr_region ?_
  refine op_pure (pu_assign OT.const) rfl rfl ?_
  refine tr_nil ?_
  refine then_normal ?_
  refine tr_seq ?_
  refine tr_seq ?_
  -- region 1
  refine tr_env (es_cons (t := 0) (OT.tmp rfl) (es_cons (t := 1) (OT.tmp rfl) es_nil)) ?_
  refine tr_region ?_
  refine op_pure (pu_move (OT.tmp rfl)) rfl rfl ?_
  refine op_pure (pu_len_sl (OT.tmp rfl) Try.underlying40) rfl rfl ?_
  refine op_pure (pu_move OT.const) rfl rfl ?_
  refine tr_nil ?_
  refine then_normal ?_
  refine tr_block ?_
  refine tr_loopK (σ := Nat) (es_cons (t := 0) (OT.tmp rfl) (es_cons (t := 1) (OT.tmp rfl) (es_cons (t := 7) (OT.tmp rfl) es_nil))) (fun k => [(8, I64 (k : Int))]) (fun k => [BlkI g 38 kT t]) (fun k => k ≤ l.length ∧ (l.drop k).contains t = l.contains t) (fun k => l.length - k) 0 ⟨Nat.zero_le _, rfl⟩ ?_ (own_picks (by repeat (first | exact picks_nil | refine picks_cons 0 rfl ?_ | refine picks_cons 1 rfl ?_ | refine picks_cons 2 rfl ?_ | refine picks_cons 3 rfl ?_ | refine picks_cons 4 rfl ?_ | refine picks_cons 5 rfl ?_ | refine picks_cons 6 rfl ?_))) ?_
  · exact (es_cons (t := 8) (by exact OT.tmp rfl) es_nil)
  · rintro k ⟨hk, hk2⟩
    refine tr_seq ?_
    -- region 2
    refine tr_env (es_cons (t := 0) (OT.tmp rfl) (es_cons (t := 1) (OT.tmp rfl) (es_cons (t := 7) (OT.tmp rfl) (es_cons (t := 8) (OT.tmp rfl) es_nil)))) ?_
    refine tr_region ?_
    refine op_pure (pu_lss (OT.tmp rfl) (OT.tmp rfl)) rfl rfl ?_
    refine tr_nil ?_
    refine then_normal ?_
    refine tr_seq ?_
    refine tr_cond (OT.tmp rfl) (fun c9 => ?_) (fun c9 => ?_)
    · try simp only [decide_eq_true_eq, decide_eq_false_iff_not, Bool.or_eq_true, Bool.and_eq_true, Bool.or_eq_false_iff, Bool.and_eq_false_iff, Bool.not_eq_true', Bool.not_eq_false', ne_eq, Classical.not_not] at c9
      refine tr_skip ?_
      refine then_normal ?_
      refine tr_seq ?_
      refine tr_block ?_
      refine tr_seq ?_
      -- region 3
      refine tr_env (es_cons (t := 0) (OT.tmp rfl) (es_cons (t := 1) (OT.tmp rfl) (es_cons (t := 7) (OT.tmp rfl) (es_cons (t := 8) (OT.tmp rfl) es_nil)))) ?_
      refine tr_region ?_
      refine op_pure (pu_move (OT.tmp rfl)) rfl rfl ?_
      refine op_pure (pu_assign (OT.tmp rfl)) rfl rfl ?_
      refine tr_nil ?_
      refine then_normal ?_
      refine tr_seq ?_
      -- region 4
      refine tr_env (es_cons (t := 0) (OT.tmp rfl) (es_cons (t := 1) (OT.tmp rfl) (es_cons (t := 5) (OT.tmp rfl) (es_cons (t := 7) (OT.tmp rfl) (es_cons (t := 8) (OT.tmp rfl) es_nil))))) ?_
      have hst := has_step (l := l) (t := t) (k := k) (by omega)
      refine tr_region ?_
      refine op_pure (pu_move (OT.tmp rfl)) rfl rfl ?_
      refine op_pure (pu_move (OT.tmp rfl)) rfl rfl ?_
      refine op_pure (pu_move (OT.tmp rfl)) rfl rfl ?_
      refine op_pure (pu_index (OT.tmp rfl) (OT.tmp rfl) Try.underlying40 (show tyOk Try.prog 38 false 1 = true from by decide +kernel) (by omega) (by omega)) rfl rfl ?_
      refine op_pure (pu_load (OT.tmp rfl) (show tyOk Try.prog 38 false 1 = true from by decide +kernel)) rfl rfl ?_
      refine op_acts (acts_callv (OT.tmp rfl) (hfv _) (OTs.cons (OT.tmp rfl) OTs.nil) (by exact perm_at 0 rfl)) (by exact perm_at 0 rfl) rfl rfl (fun _ _ => ?_)
      refine tr_nil ?_
      refine then_normal ?_
      refine tr_cond (OT.tmp rfl) (fun c16 => ?_) (fun c16 => ?_)
      · try simp only [decide_eq_true_eq, decide_eq_false_iff_not, Bool.or_eq_true, Bool.and_eq_true, Bool.or_eq_false_iff, Bool.and_eq_false_iff, Bool.not_eq_true', Bool.not_eq_false', ne_eq, Classical.not_not] at c16
        refine tr_seq ?_
        -- region 5
        refine tr_env (es_cons (t := 5) (OT.tmp rfl) es_nil) ?_
        refine tr_region ?_
        refine op_pure (pu_move (OT.tmp rfl)) rfl rfl ?_
        refine op_pure (pu_assign (OT.tmp rfl)) rfl rfl ?_
        refine tr_nil ?_
        refine then_normal ?_
        refine tr_ret ?_
        refine block_ret ?_
        refine then_ret ?_
        refine then_ret ?_
        refine block_ret ?_
        refine then_ret ?_
        exact ret_one .ret (.inl rfl) rfl (k : Int) (OT.tmp rfl) (by rw [← hk2, hst, decide_eq_true (cmp_eq.2 c16), Bool.true_or]; simp) (by repeat (first | exact picks_nil | refine picks_cons 0 rfl ?_ | refine picks_cons 1 rfl ?_ | refine picks_cons 2 rfl ?_ | refine picks_cons 3 rfl ?_ | refine picks_cons 4 rfl ?_ | refine picks_cons 5 rfl ?_ | refine picks_cons 6 rfl ?_))
      · try simp only [decide_eq_true_eq, decide_eq_false_iff_not, Bool.or_eq_true, Bool.and_eq_true, Bool.or_eq_false_iff, Bool.and_eq_false_iff, Bool.not_eq_true', Bool.not_eq_false', ne_eq, Classical.not_not] at c16
        refine tr_skip ?_
        refine block_normal ?_
        refine then_normal ?_
        -- region 6
        refine tr_env (es_cons (t := 0) (OT.tmp rfl) (es_cons (t := 1) (OT.tmp rfl) (es_cons (t := 7) (OT.tmp rfl) (es_cons (t := 8) (OT.tmp rfl) es_nil)))) ?_
        refine tr_region ?_
        refine op_pure (pu_add' (OT.tmp rfl) OT.const (by omega)) rfl rfl ?_
        refine op_pure (pu_move (OT.tmp rfl)) rfl rfl ?_
        refine tr_nil ?_
        refine then_normal ?_
        exact tr_again (k + 1) ⟨by omega, by rw [← hk2, hst, decide_eq_false (fun e => c16 (cmp_eq.1 e)), Bool.false_or]⟩ (by omega) (es_append (es_cons (t := 8) (by exact OT.tmp rfl) es_nil) (es_cons (t := 0) (OT.tmp rfl) (es_cons (t := 1) (OT.tmp rfl) (es_cons (t := 7) (OT.tmp rfl) es_nil)))) (own_picks (by repeat (first | exact picks_nil | refine picks_cons 0 rfl ?_ | refine picks_cons 1 rfl ?_ | refine picks_cons 2 rfl ?_ | refine picks_cons 3 rfl ?_ | refine picks_cons 4 rfl ?_ | refine picks_cons 5 rfl ?_ | refine picks_cons 6 rfl ?_)))
    · try simp only [decide_eq_true_eq, decide_eq_false_iff_not, Bool.or_eq_true, Bool.and_eq_true, Bool.or_eq_false_iff, Bool.and_eq_false_iff, Bool.not_eq_true', Bool.not_eq_false', ne_eq, Classical.not_not] at c9
      refine tr_exit ?_
      refine then_exit ?_
      refine then_exit ?_
      refine block_hit ?_
      refine then_normal ?_
      refine tr_seq ?_
      -- region 7
      refine tr_env es_nil ?_
      refine tr_region ?_
      refine op_pure (pu_assign OT.const) rfl rfl ?_
      refine tr_nil ?_
      refine then_normal ?_
      refine tr_ret ?_
      exact ret_one .ret (.inl rfl) rfl (-1) (OT.tmp rfl) (by rw [← hk2, List.drop_of_length_le (by omega)]; rfl) (by repeat (first | exact picks_nil | refine picks_cons 0 rfl ?_ | refine picks_cons 1 rfl ?_ | refine picks_cons 2 rfl ?_ | refine picks_cons 3 rfl ?_ | refine picks_cons 4 rfl ?_ | refine picks_cons 5 rfl ?_ | refine picks_cons 6 rfl ?_))
set_option maxHeartbeats 1000000 in
set_option maxRecDepth 20000 in
/-- slices.ContainsFunc[[]rhizome/api.Tuple,rhizome/api.Tuple] -/
theorem hasT_fn (l : List Tp) (fv : Value) (t : Tp) (g : Nat) (hm : l.length ≤ 1000) (hfv : ∀ x, CtV Try.prog fv [kT.T x] [BlkI g 38 kT t] Unit (fun _ => BoolT (decide (x = t))) (fun _ => [BlkI g 38 kT t]) (fun _ => True)) : Ct Try.prog 61 [SlT kT l, IsV fv] ([BlkI g 38 kT t]) Unit (fun _ => BoolT (l.contains t)) (fun _ => [BlkI g 38 kT t]) (fun _ => True) := by
  refine fn_intro Try.func61 rfl rfl ?_
  intro H w
  refine tr_seq ?_
  -- region 0
  refine tr_env (es_cons (t := 0) (OT.tmp rfl) (es_cons (t := 1) (OT.tmp rfl) es_nil)) ?_
  refine tr_region ?_
  refine op_pure (pu_assign OT.const) rfl rfl ?_
  refine tr_nil ?_
  refine then_normal ?_
  refine tr_seq ?_
  -- region 1
  refine tr_env (es_cons (t := 0) (OT.tmp rfl) (es_cons (t := 1) (OT.tmp rfl) es_nil)) ?_
  refine tr_region ?_
  refine op_pure (pu_move (OT.tmp rfl)) rfl rfl ?_
  refine op_pure (pu_move (OT.tmp rfl)) rfl rfl ?_
  refine op_acts (acts_call (idxT_fn _ _ t g (by assumption) (by assumption)) (show enters Try.prog 75 = true from by decide +kernel) (OTs.cons (OT.tmp rfl) (OTs.cons (OT.tmp rfl) OTs.nil)) (by exact perm_at 0 rfl)) (by exact perm_at 0 rfl) rfl rfl (fun r1_2 hr1_2 => ?_)
  refine op_pure (pu_geq (OT.tmp rfl) OT.const) rfl rfl ?_
  refine op_pure (pu_assign (OT.tmp rfl)) rfl rfl ?_
  refine tr_nil ?_
  refine then_normal ?_
  refine tr_ret ?_
  exact ret_one .ret (.inl rfl) rfl () (OT.val (OT.tmp rfl) (congrArg Value.bool hr1_2)) trivial (by repeat (first | exact picks_nil | refine picks_cons 0 rfl ?_ | refine picks_cons 1 rfl ?_ | refine picks_cons 2 rfl ?_ | refine picks_cons 3 rfl ?_ | refine picks_cons 4 rfl ?_ | refine picks_cons 5 rfl ?_ | refine picks_cons 6 rfl ?_))
set_option maxHeartbeats 1000000 in
set_option maxRecDepth 20000 in
/-- rhizome/tuple.Has -/
theorem Has_fn (l : List Tp) (t : Tp) (hs : Small l) : Ct Try.prog 37 [SlT kT l, SlT kI6 t] ([]) Unit (fun _ => BoolT (l.contains t)) (fun _ => []) (fun _ => True) := by
  refine fn_intro Try.func37 rfl rfl ?_
  intro H w
  refine tr_seq ?_
  -- region 0
  refine tr_env (es_cons (t := 0) (OT.tmp rfl) (es_cons (t := 1) (OT.tmp rfl) es_nil)) ?_
  refine tr_region ?_
  refine op_acts (acts_box (d := kT) (OT.tmp rfl)) (List.Perm.refl _) rfl rfl (fun g0_0 _ => ?_)
  refine op_pure (pu_assign OT.const) rfl rfl ?_
  refine tr_nil ?_
  refine then_normal ?_
  refine tr_seq ?_
  -- region 1
  refine tr_env (es_cons (t := 0) (OT.tmp rfl) (es_cons (t := 3) (OT.tmp rfl) es_nil)) ?_
  refine tr_region ?_
  refine op_pure (pu_move (OT.tmp rfl)) rfl rfl ?_
  refine op_pure (pu_makeFunc (caps_cons (OT.tmp rfl) caps_nil)) rfl rfl ?_
  refine op_acts (acts_call (hasT_fn l _ t g0_0 hs.1 (fun x => CtV.of [pt g0_0 0] (Has1_fn x t g0_0) (by kernel_rfl))) (show enters Try.prog 61 = true from by decide +kernel) (OTs.cons (OT.tmp rfl) (OTs.cons (OT.tmp rfl) OTs.nil)) (by exact perm_at 0 rfl)) (by exact perm_at 0 rfl) rfl rfl (fun _ _ => ?_)
  refine op_pure (pu_assign (OT.tmp rfl)) rfl rfl ?_
  refine tr_nil ?_
  refine then_normal ?_
  refine tr_ret ?_
  exact ret_one .ret (.inl rfl) rfl () (OT.tmp rfl) trivial (by exact picks_nil)
end Go.Proofs.Ytloblpklkhepbaa
