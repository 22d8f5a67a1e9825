/- Walks through the Go functions rhizomeref10.Has, tuple.Rises, rhizomeref10.Rises, rhizomeref10.Same, rhizomeref10.SameDelta, rhizomeref10.Without, rhizomeref10.meet, as typed contracts. -/
import Derived.Test.YtloblpklkhepbaaTuB
namespace Go.Proofs.Ytloblpklkhepbaa
open Go Go.Gw Go.So Go.Tu
set_option linter.unusedVariables false
set_option linter.unusedSimpArgs false
theorem z40 : ZeroOf Try.prog 40 kL [] := ⟨nilS, by kernel_rfl, fun H => ⟨none, 0, rfl, by simp, by simp, fun h => by simp at h⟩⟩
theorem z44 : ZeroOf Try.prog 44 kD ([], []) := ⟨.agg #[nilS, nilS], by kernel_rfl, fun H => ⟨[nilS, nilS], ⟨[nilS], [nilS], ⟨nilS, rfl, none, 0, rfl, by simp, by simp, fun h => by simp at h⟩, ⟨nilS, rfl, none, 0, rfl, by simp, by simp, fun h => by simp at h⟩, rfl⟩, rfl⟩⟩

set_option maxHeartbeats 1000000 in
set_option maxRecDepth 20000 in
/-- rhizome/rhizomeref10.Has -/
theorem rHas_fn (l : List Tp) (t : Tp) (hs : Small l) (ht : t.length ≤ 1000) : Ct Try.prog 38 [SlT kT l, SlT kI6 t] ([]) Unit (fun _ => BoolT (l.contains t)) (fun _ => []) (fun _ => True) := by
  refine fn_intro Try.func38 rfl rfl ?_
  intro H w
  have hsl := hs.1
  refine tr_seq ?_
  -- region 0
  refine tr_env (es_cons (t := 0) (OT.tmp rfl) (es_cons (t := 1) (OT.tmp rfl) es_nil)) ?_
  refine tr_region ?_
  refine op_pure (pu_assign OT.const) rfl rfl ?_
  refine tr_nil ?_
  refine then_normal ?_
  refine tr_seq ?_
  refine tr_seq ?_
  -- region 1
  refine tr_env (es_cons (t := 0) (OT.tmp rfl) (es_cons (t := 1) (OT.tmp rfl) es_nil)) ?_
  refine tr_region ?_
  refine op_pure (pu_move (OT.tmp rfl)) rfl rfl ?_
  refine op_pure (pu_len_sl (OT.tmp rfl) Try.underlying40) rfl rfl ?_
  refine op_pure (pu_move OT.const) rfl rfl ?_
  refine tr_nil ?_
  refine then_normal ?_
  refine tr_block ?_
  refine tr_loopK (σ := Nat) (es_cons (t := 0) (OT.tmp rfl) (es_cons (t := 1) (OT.tmp rfl) (es_cons (t := 7) (OT.tmp rfl) es_nil))) (fun k => [(8, I64 (k : Int))]) (fun k => []) (fun k => k ≤ l.length ∧ (l.drop k).contains t = l.contains t) (fun k => l.length - k) 0 ⟨Nat.zero_le _, rfl⟩ ?_ (own_picks (by exact picks_nil)) ?_
  · exact (es_cons (t := 8) (by exact OT.tmp rfl) es_nil)
  · rintro k ⟨hk, hk2⟩
    refine tr_seq ?_
    -- region 2
    refine tr_env (es_cons (t := 0) (OT.tmp rfl) (es_cons (t := 1) (OT.tmp rfl) (es_cons (t := 7) (OT.tmp rfl) (es_cons (t := 8) (OT.tmp rfl) es_nil)))) ?_
    refine tr_region ?_
    refine op_pure (pu_lss (OT.tmp rfl) (OT.tmp rfl)) rfl rfl ?_
    refine tr_nil ?_
    refine then_normal ?_
    refine tr_seq ?_
    refine tr_cond (OT.tmp rfl) (fun c9 => ?_) (fun c9 => ?_)
    · try simp only [decide_eq_true_eq, decide_eq_false_iff_not, Bool.or_eq_true, Bool.and_eq_true, Bool.or_eq_false_iff, Bool.and_eq_false_iff, Bool.not_eq_true', Bool.not_eq_false', ne_eq, Classical.not_not] at c9
      refine tr_skip ?_
      refine then_normal ?_
      refine tr_seq ?_
      refine tr_block ?_
      refine tr_seq ?_
      -- region 3
      refine tr_env (es_cons (t := 0) (OT.tmp rfl) (es_cons (t := 1) (OT.tmp rfl) (es_cons (t := 7) (OT.tmp rfl) (es_cons (t := 8) (OT.tmp rfl) es_nil)))) ?_
      refine tr_region ?_
      refine op_pure (pu_move (OT.tmp rfl)) rfl rfl ?_
      refine op_pure (pu_assign (OT.tmp rfl)) rfl rfl ?_
      refine tr_nil ?_
      refine then_normal ?_
      refine tr_seq ?_
      -- region 4
      refine tr_env (es_cons (t := 0) (OT.tmp rfl) (es_cons (t := 1) (OT.tmp rfl) (es_cons (t := 5) (OT.tmp rfl) (es_cons (t := 7) (OT.tmp rfl) (es_cons (t := 8) (OT.tmp rfl) es_nil))))) ?_
      have hst := has_step (l := l) (t := t) (k := k) (by omega)
      refine tr_region ?_
      refine op_pure (pu_move (OT.tmp rfl)) rfl rfl ?_
      refine op_pure (pu_move (OT.tmp rfl)) rfl rfl ?_
      refine op_pure (pu_index (OT.tmp rfl) (OT.tmp rfl) Try.underlying40 (show tyOk Try.prog 38 false 1 = true from by decide +kernel) (by omega) (by omega)) rfl rfl ?_
      refine op_pure (pu_load (OT.tmp rfl) (show tyOk Try.prog 38 false 1 = true from by decide +kernel)) rfl rfl ?_
      refine op_pure (pu_move (OT.tmp rfl)) rfl rfl ?_
      refine op_acts (acts_call (rCmp_fn _ _ (by exact hs.at_ _) (by assumption)) (show enters Try.prog 23 = true from by decide +kernel) (OTs.cons (OT.tmp rfl) (OTs.cons (OT.tmp rfl) OTs.nil)) (List.Perm.refl _)) (List.Perm.refl _) rfl rfl (fun _ _ => ?_)
      refine op_pure (pu_eql (OT.tmp rfl) OT.const) rfl rfl ?_
      refine tr_nil ?_
      refine then_normal ?_
      refine tr_cond (OT.tmp rfl) (fun c17 => ?_) (fun c17 => ?_)
      · try simp only [decide_eq_true_eq, decide_eq_false_iff_not, Bool.or_eq_true, Bool.and_eq_true, Bool.or_eq_false_iff, Bool.and_eq_false_iff, Bool.not_eq_true', Bool.not_eq_false', ne_eq, Classical.not_not] at c17
        refine tr_seq ?_
        -- region 5
        refine tr_env es_nil ?_
        refine tr_region ?_
        refine op_pure (pu_assign OT.const) rfl rfl ?_
        refine tr_nil ?_
        refine then_normal ?_
        refine tr_ret ?_
        refine block_ret ?_
        refine then_ret ?_
        refine then_ret ?_
        refine block_ret ?_
        refine then_ret ?_
        exact ret_one .ret (.inl rfl) rfl () (OT.val (OT.tmp rfl) (congrArg Value.bool (by rw [← hk2, hst, decide_eq_true c17, Bool.true_or]))) trivial (by exact picks_nil)
      · try simp only [decide_eq_true_eq, decide_eq_false_iff_not, Bool.or_eq_true, Bool.and_eq_true, Bool.or_eq_false_iff, Bool.and_eq_false_iff, Bool.not_eq_true', Bool.not_eq_false', ne_eq, Classical.not_not] at c17
        refine tr_skip ?_
        refine block_normal ?_
        refine then_normal ?_
        -- region 6
        refine tr_env (es_cons (t := 0) (OT.tmp rfl) (es_cons (t := 1) (OT.tmp rfl) (es_cons (t := 7) (OT.tmp rfl) (es_cons (t := 8) (OT.tmp rfl) es_nil)))) ?_
        refine tr_region ?_
        refine op_pure (pu_add' (OT.tmp rfl) OT.const (by omega)) rfl rfl ?_
        refine op_pure (pu_move (OT.tmp rfl)) rfl rfl ?_
        refine tr_nil ?_
        refine then_normal ?_
        exact tr_again (k + 1) ⟨by omega, by rw [← hk2, hst, decide_eq_false c17, Bool.false_or]⟩ (by omega) (es_append (es_cons (t := 8) (by exact OT.tmp rfl) es_nil) (es_cons (t := 0) (OT.tmp rfl) (es_cons (t := 1) (OT.tmp rfl) (es_cons (t := 7) (OT.tmp rfl) es_nil)))) (own_picks (by exact picks_nil))
    · try simp only [decide_eq_true_eq, decide_eq_false_iff_not, Bool.or_eq_true, Bool.and_eq_true, Bool.or_eq_false_iff, Bool.and_eq_false_iff, Bool.not_eq_true', Bool.not_eq_false', ne_eq, Classical.not_not] at c9
      refine tr_exit ?_
      refine then_exit ?_
      refine then_exit ?_
      refine block_hit ?_
      refine then_normal ?_
      refine tr_seq ?_
      -- region 7
      refine tr_env es_nil ?_
      refine tr_region ?_
      refine op_pure (pu_assign OT.const) rfl rfl ?_
      refine tr_nil ?_
      refine then_normal ?_
      refine tr_ret ?_
      exact ret_one .ret (.inl rfl) rfl () (OT.val (OT.tmp rfl) (congrArg Value.bool (by rw [← hk2, List.drop_of_length_le (by omega)]; rfl))) trivial (by exact picks_nil)
set_option maxHeartbeats 1000000 in
set_option maxRecDepth 20000 in
/-- rhizome/tuple.Rises -/
theorem Rises_fn0 (l : List Tp) (hsl : l.length ≤ maxLen) : Ct Try.prog 35 [SlT kT l] ([]) Unit (fun _ => BoolT (risesB l)) (fun _ => []) (fun _ => True) := by
  refine fn_intro Try.func35 rfl rfl ?_
  intro H w
  unfold maxLen at hsl
  refine tr_seq ?_
  -- region 0
  refine tr_env (es_cons (t := 0) (OT.tmp rfl) es_nil) ?_
  refine tr_region ?_
  refine op_pure (pu_assign OT.const) rfl rfl ?_
  refine tr_nil ?_
  refine then_normal ?_
  refine tr_seq ?_
  refine tr_seq ?_
  -- region 1
  refine tr_env (es_cons (t := 0) (OT.tmp rfl) es_nil) ?_
  refine tr_region ?_
  refine op_pure (pu_assign OT.const) rfl rfl ?_
  refine tr_nil ?_
  refine then_normal ?_
  refine tr_block ?_
  refine tr_loopK (σ := Nat) (es_cons (t := 0) (OT.tmp rfl) es_nil) (fun k => [(3, I64 ((k : Int) + 1))]) (fun k => []) (fun k => k ≤ l.length ∧ risesB (l.drop k) = risesB l) (fun k => l.length - k) 0 ⟨Nat.zero_le _, rfl⟩ ?_ (own_picks (by exact picks_nil)) ?_
  · exact (es_cons (t := 3) (by exact OT.tmp rfl) es_nil)
  · rintro k ⟨hk, hk2⟩
    refine tr_seq ?_
    refine tr_seq ?_
    -- region 2
    refine tr_env (es_cons (t := 0) (OT.tmp rfl) (es_cons (t := 3) (OT.tmp rfl) es_nil)) ?_
    refine tr_region ?_
    refine op_pure (pu_move (OT.tmp rfl)) rfl rfl ?_
    refine op_pure (pu_move (OT.tmp rfl)) rfl rfl ?_
    refine op_pure (pu_len_sl (OT.tmp rfl) Try.underlying40) rfl rfl ?_
    refine op_pure (pu_lss (OT.tmp rfl) (OT.tmp rfl)) rfl rfl ?_
    refine tr_nil ?_
    refine then_normal ?_
    refine tr_cond (OT.tmp rfl) (fun c7 => ?_) (fun c7 => ?_)
    · try simp only [decide_eq_true_eq, decide_eq_false_iff_not, Bool.or_eq_true, Bool.and_eq_true, Bool.or_eq_false_iff, Bool.and_eq_false_iff, Bool.not_eq_true', Bool.not_eq_false', ne_eq, Classical.not_not] at c7
      refine tr_skip ?_
      refine then_normal ?_
      refine tr_seq ?_
      refine tr_block ?_
      refine tr_seq ?_
      -- region 4
      refine tr_env (es_cons (t := 0) (OT.tmp rfl) (es_cons (t := 3) (OT.tmp rfl) es_nil)) ?_
      have hst := rises_step (l := l) (i := k) (by omega)
      rw [show ((k + 1 : Nat) : Int) = (k : Int) + 1 from by omega, show (k : Int) = (k : Int) + 1 - 1 from by omega] at hst
      apply tr_any (m := 9) (ns := [[(0, none)], [(3, none)], [(11, some 1)], [(10, some 0), (12, some 2)], [(13, some 3)], [(0, none)], [(3, none)], [(15, some 5), (16, some 6)], [(17, some 7)]]) (by kernel_rfl) (by kernel_rfl) (Ts := [_, _, _, _, _, _, _, _, _]) rfl
      case hops =>
        refine ⟨?_, ⟨?_, ⟨?_, ⟨?_, ⟨?_, ⟨?_, ⟨?_, ⟨?_, ⟨?_, trivial⟩⟩⟩⟩⟩⟩⟩⟩⟩
        · exact rop_pure rfl (pu_move (OT.tmp rfl))
        · exact rop_pure rfl (pu_move (OT.tmp rfl))
        · exact rop_pure rfl (pu_sub' (OT.tmp rfl) OT.const (by omega))
        · exact rop_pure rfl (pu_index (OT.tmp rfl) (OT.tmp rfl) Try.underlying40 (show tyOk Try.prog 38 false 1 = true from by decide +kernel) (by omega) (by omega))
        · exact rop_pure rfl (pu_load (OT.tmp rfl) (show tyOk Try.prog 38 false 1 = true from by decide +kernel))
        · exact rop_pure rfl (pu_move (OT.tmp rfl))
        · exact rop_pure rfl (pu_move (OT.tmp rfl))
        · exact rop_pure rfl (pu_index (OT.tmp rfl) (OT.tmp rfl) Try.underlying40 (show tyOk Try.prog 38 false 1 = true from by decide +kernel) (by omega) (by omega))
        · exact rop_pure rfl (pu_load (OT.tmp rfl) (show tyOk Try.prog 38 false 1 = true from by decide +kernel))
      case h =>
        refine op_acts (acts_call (Cmp_all _ _) (show enters Try.prog 22 = true from by decide +kernel) (OTs.cons (OT.tmp rfl) (OTs.cons (OT.tmp rfl) OTs.nil)) (List.Perm.refl _)) (List.Perm.refl _) rfl rfl (fun _ _ => ?_)
        refine op_pure (pu_geq (OT.tmp rfl) OT.const) rfl rfl ?_
        refine tr_nil ?_
        refine then_normal ?_
        refine tr_cond (OT.tmp rfl) (fun c20 => ?_) (fun c20 => ?_)
        · try simp only [decide_eq_true_eq, decide_eq_false_iff_not, Bool.or_eq_true, Bool.and_eq_true, Bool.or_eq_false_iff, Bool.and_eq_false_iff, Bool.not_eq_true', Bool.not_eq_false', ne_eq, Classical.not_not] at c20
          refine tr_seq ?_
          -- region 5
          refine tr_env es_nil ?_
          refine tr_region ?_
          refine op_pure (pu_assign OT.const) rfl rfl ?_
          refine tr_nil ?_
          refine then_normal ?_
          refine tr_ret ?_
          refine block_ret ?_
          refine then_ret ?_
          refine then_ret ?_
          refine block_ret ?_
          refine then_ret ?_
          exact ret_one .ret (.inl rfl) rfl () (OT.val (OT.tmp rfl) (congrArg Value.bool (by rw [← hk2, hst, decide_eq_false (by simpa using c20), Bool.false_and]))) trivial (by exact picks_nil)
        · try simp only [decide_eq_true_eq, decide_eq_false_iff_not, Bool.or_eq_true, Bool.and_eq_true, Bool.or_eq_false_iff, Bool.and_eq_false_iff, Bool.not_eq_true', Bool.not_eq_false', ne_eq, Classical.not_not] at c20
          refine tr_skip ?_
          refine block_normal ?_
          refine then_normal ?_
          -- region 3
          refine tr_env (es_cons (t := 0) (OT.tmp rfl) (es_cons (t := 3) (OT.tmp rfl) es_nil)) ?_
          refine tr_region ?_
          refine op_pure (pu_move (OT.tmp rfl)) rfl rfl ?_
          refine op_pure (pu_add' (OT.tmp rfl) OT.const (by omega)) rfl rfl ?_
          refine op_pure (pu_assign (OT.tmp rfl)) rfl rfl ?_
          refine tr_nil ?_
          refine then_normal ?_
          exact tr_again (k + 1) ⟨by omega, by rw [← hk2, hst, decide_eq_true (by simpa using c20), Bool.true_and]⟩ (by omega) (es_append (es_cons (t := 3) (by exact OT.tmp rfl) es_nil) (es_cons (t := 0) (OT.tmp rfl) es_nil)) (own_picks (by exact picks_nil))
    · try simp only [decide_eq_true_eq, decide_eq_false_iff_not, Bool.or_eq_true, Bool.and_eq_true, Bool.or_eq_false_iff, Bool.and_eq_false_iff, Bool.not_eq_true', Bool.not_eq_false', ne_eq, Classical.not_not] at c7
      refine tr_exit ?_
      refine then_exit ?_
      refine then_exit ?_
      refine block_hit ?_
      refine then_normal ?_
      refine tr_seq ?_
      -- region 6
      refine tr_env es_nil ?_
      refine tr_region ?_
      refine op_pure (pu_assign OT.const) rfl rfl ?_
      refine tr_nil ?_
      refine then_normal ?_
      refine tr_ret ?_
      exact ret_one .ret (.inl rfl) rfl () (OT.val (OT.tmp rfl) (congrArg Value.bool (by rw [← hk2, rises_end (by omega)]))) trivial (by exact picks_nil)
theorem Rises_all (l : List Tp) : Ct Try.prog 35 [SlT kT l] [] Unit (fun _ => BoolT (risesB l)) (fun _ => []) (fun _ => True) := Ct.pre one_len fun h => Rises_fn0 l h
set_option maxHeartbeats 1000000 in
set_option maxRecDepth 20000 in
/-- rhizome/rhizomeref10.Rises -/
theorem rRises_fn (l : List Tp) (hs : Small l) : Ct Try.prog 36 [SlT kT l] ([]) Unit (fun _ => BoolT (risesB l)) (fun _ => []) (fun _ => True) := by
  refine fn_intro Try.func36 rfl rfl ?_
  intro H w
  have hsl := hs.1
  refine tr_seq ?_
  -- region 0
  refine tr_env (es_cons (t := 0) (OT.tmp rfl) es_nil) ?_
  refine tr_region ?_
  refine op_pure (pu_assign OT.const) rfl rfl ?_
  refine tr_nil ?_
  refine then_normal ?_
  refine tr_seq ?_
  refine tr_seq ?_
  -- region 1
  refine tr_env (es_cons (t := 0) (OT.tmp rfl) es_nil) ?_
  refine tr_region ?_
  refine op_pure (pu_assign OT.const) rfl rfl ?_
  refine tr_nil ?_
  refine then_normal ?_
  refine tr_block ?_
  refine tr_loopK (σ := Nat) (es_cons (t := 0) (OT.tmp rfl) es_nil) (fun k => [(3, I64 (k : Int))]) (fun k => []) (fun k => k ≤ l.length ∧ risesB (l.drop k) = risesB l) (fun k => l.length - k) 0 ⟨Nat.zero_le _, rfl⟩ ?_ (own_picks (by exact picks_nil)) ?_
  · exact (es_cons (t := 3) (by exact OT.tmp rfl) es_nil)
  · rintro k ⟨hk, hk2⟩
    refine tr_seq ?_
    refine tr_seq ?_
    -- region 2
    refine tr_env (es_cons (t := 0) (OT.tmp rfl) (es_cons (t := 3) (OT.tmp rfl) es_nil)) ?_
    refine tr_region ?_
    refine op_pure (pu_move (OT.tmp rfl)) rfl rfl ?_
    refine op_pure (pu_add' (OT.tmp rfl) OT.const (by omega)) rfl rfl ?_
    refine op_pure (pu_move (OT.tmp rfl)) rfl rfl ?_
    refine op_pure (pu_len_sl (OT.tmp rfl) Try.underlying40) rfl rfl ?_
    refine op_pure (pu_lss (OT.tmp rfl) (OT.tmp rfl)) rfl rfl ?_
    refine tr_nil ?_
    refine then_normal ?_
    refine tr_cond (OT.tmp rfl) (fun c8 => ?_) (fun c8 => ?_)
    · try simp only [decide_eq_true_eq, decide_eq_false_iff_not, Bool.or_eq_true, Bool.and_eq_true, Bool.or_eq_false_iff, Bool.and_eq_false_iff, Bool.not_eq_true', Bool.not_eq_false', ne_eq, Classical.not_not] at c8
      refine tr_skip ?_
      refine then_normal ?_
      refine tr_seq ?_
      refine tr_block ?_
      refine tr_seq ?_
      -- region 4
      refine tr_env (es_cons (t := 0) (OT.tmp rfl) (es_cons (t := 3) (OT.tmp rfl) es_nil)) ?_
      have hst := rises_step (l := l) (i := k) (by omega)
      rw [show ((k + 1 : Nat) : Int) = (k : Int) + 1 from by omega] at hst
      have hv := cmp_vals (at' l (k : Int)) (at' l ((k : Int) + 1))
      apply tr_any (m := 9) (ns := [[(0, none)], [(3, none)], [(11, some 0), (12, some 1)], [(13, some 2)], [(0, none)], [(3, none)], [(16, some 5)], [(15, some 4), (17, some 6)], [(18, some 7)]]) (by kernel_rfl) (by kernel_rfl) (Ts := [_, _, _, _, _, _, _, _, _]) rfl
      case hops =>
        refine ⟨?_, ⟨?_, ⟨?_, ⟨?_, ⟨?_, ⟨?_, ⟨?_, ⟨?_, ⟨?_, trivial⟩⟩⟩⟩⟩⟩⟩⟩⟩
        · exact rop_pure rfl (pu_move (OT.tmp rfl))
        · exact rop_pure rfl (pu_move (OT.tmp rfl))
        · exact rop_pure rfl (pu_index (OT.tmp rfl) (OT.tmp rfl) Try.underlying40 (show tyOk Try.prog 38 false 1 = true from by decide +kernel) (by omega) (by omega))
        · exact rop_pure rfl (pu_load (OT.tmp rfl) (show tyOk Try.prog 38 false 1 = true from by decide +kernel))
        · exact rop_pure rfl (pu_move (OT.tmp rfl))
        · exact rop_pure rfl (pu_move (OT.tmp rfl))
        · exact rop_pure rfl (pu_add' (OT.tmp rfl) OT.const (by omega))
        · exact rop_pure rfl (pu_index (OT.tmp rfl) (OT.tmp rfl) Try.underlying40 (show tyOk Try.prog 38 false 1 = true from by decide +kernel) (by omega) (by omega))
        · exact rop_pure rfl (pu_load (OT.tmp rfl) (show tyOk Try.prog 38 false 1 = true from by decide +kernel))
      case h =>
        refine op_acts (acts_call (rCmp_fn _ _ (by exact hs.at_ _) (by exact hs.at_ _)) (show enters Try.prog 23 = true from by decide +kernel) (OTs.cons (OT.tmp rfl) (OTs.cons (OT.tmp rfl) OTs.nil)) (List.Perm.refl _)) (List.Perm.refl _) rfl rfl (fun _ _ => ?_)
        refine op_pure (pu_neq (OT.tmp rfl) OT.const) rfl rfl ?_
        refine tr_nil ?_
        refine then_normal ?_
        refine tr_cond (OT.tmp rfl) (fun c21 => ?_) (fun c21 => ?_)
        · try simp only [decide_eq_true_eq, decide_eq_false_iff_not, Bool.or_eq_true, Bool.and_eq_true, Bool.or_eq_false_iff, Bool.and_eq_false_iff, Bool.not_eq_true', Bool.not_eq_false', ne_eq, Classical.not_not] at c21
          refine tr_seq ?_
          -- region 5
          refine tr_env es_nil ?_
          refine tr_region ?_
          refine op_pure (pu_assign OT.const) rfl rfl ?_
          refine tr_nil ?_
          refine then_normal ?_
          refine tr_ret ?_
          refine block_ret ?_
          refine then_ret ?_
          refine then_ret ?_
          refine block_ret ?_
          refine then_ret ?_
          exact ret_one .ret (.inl rfl) rfl () (OT.val (OT.tmp rfl) (congrArg Value.bool (by rw [← hk2, hst, decide_eq_false (by omega), Bool.false_and]))) trivial (by exact picks_nil)
        · try simp only [decide_eq_true_eq, decide_eq_false_iff_not, Bool.or_eq_true, Bool.and_eq_true, Bool.or_eq_false_iff, Bool.and_eq_false_iff, Bool.not_eq_true', Bool.not_eq_false', ne_eq, Classical.not_not] at c21
          refine tr_skip ?_
          refine block_normal ?_
          refine then_normal ?_
          -- region 3
          refine tr_env (es_cons (t := 0) (OT.tmp rfl) (es_cons (t := 3) (OT.tmp rfl) es_nil)) ?_
          refine tr_region ?_
          refine op_pure (pu_move (OT.tmp rfl)) rfl rfl ?_
          refine op_pure (pu_add' (OT.tmp rfl) OT.const (by omega)) rfl rfl ?_
          refine op_pure (pu_assign (OT.tmp rfl)) rfl rfl ?_
          refine tr_nil ?_
          refine then_normal ?_
          exact tr_again (k + 1) ⟨by omega, by rw [← hk2, hst, decide_eq_true (by omega), Bool.true_and]⟩ (by omega) (es_append (es_cons (t := 3) (by exact OT.tmp rfl) es_nil) (es_cons (t := 0) (OT.tmp rfl) es_nil)) (own_picks (by exact picks_nil))
    · try simp only [decide_eq_true_eq, decide_eq_false_iff_not, Bool.or_eq_true, Bool.and_eq_true, Bool.or_eq_false_iff, Bool.and_eq_false_iff, Bool.not_eq_true', Bool.not_eq_false', ne_eq, Classical.not_not] at c8
      refine tr_exit ?_
      refine then_exit ?_
      refine then_exit ?_
      refine block_hit ?_
      refine then_normal ?_
      refine tr_seq ?_
      -- region 6
      refine tr_env es_nil ?_
      refine tr_region ?_
      refine op_pure (pu_assign OT.const) rfl rfl ?_
      refine tr_nil ?_
      refine then_normal ?_
      refine tr_ret ?_
      exact ret_one .ret (.inl rfl) rfl () (OT.val (OT.tmp rfl) (congrArg Value.bool (by rw [← hk2, rises_end (by omega)]))) trivial (by exact picks_nil)
set_option maxHeartbeats 1000000 in
set_option maxRecDepth 20000 in
/-- rhizome/rhizomeref10.Same -/
theorem Same_fn (a b : List Tp) (hs : Small a) (hb : Small b) : Ct Try.prog 32 [SlT kT a, SlT kT b] ([]) Unit (fun _ => BoolT (decide (a = b))) (fun _ => []) (fun _ => True) := by
  refine fn_intro Try.func32 rfl rfl ?_
  intro H w
  have hsl := hs.1
  have hbl := hb.1
  refine tr_seq ?_
  -- region 0
  refine tr_env (es_cons (t := 0) (OT.tmp rfl) (es_cons (t := 1) (OT.tmp rfl) es_nil)) ?_
  refine tr_region ?_
  refine op_pure (pu_assign OT.const) rfl rfl ?_
  refine tr_nil ?_
  refine then_normal ?_
  refine tr_seq ?_
  refine tr_seq ?_
  -- region 1
  refine tr_env (es_cons (t := 0) (OT.tmp rfl) (es_cons (t := 1) (OT.tmp rfl) es_nil)) ?_
  refine tr_region ?_
  refine op_pure (pu_move (OT.tmp rfl)) rfl rfl ?_
  refine op_pure (pu_len_sl (OT.tmp rfl) Try.underlying40) rfl rfl ?_
  refine op_pure (pu_move (OT.tmp rfl)) rfl rfl ?_
  refine op_pure (pu_len_sl (OT.tmp rfl) Try.underlying40) rfl rfl ?_
  refine op_pure (pu_neq (OT.tmp rfl) (OT.tmp rfl)) rfl rfl ?_
  refine tr_nil ?_
  refine then_normal ?_
  refine tr_cond (OT.tmp rfl) (fun c10 => ?_) (fun c10 => ?_)
  · try simp only [decide_eq_true_eq, decide_eq_false_iff_not, Bool.or_eq_true, Bool.and_eq_true, Bool.or_eq_false_iff, Bool.and_eq_false_iff, Bool.not_eq_true', Bool.not_eq_false', ne_eq, Classical.not_not] at c10
    have hne : ¬ a = b := fun e => by rw [e] at c10; exact c10 rfl
    refine tr_seq ?_
    -- region 2
    refine tr_env es_nil ?_
    refine tr_region ?_
    refine op_pure (pu_assign OT.const) rfl rfl ?_
    refine tr_nil ?_
    refine then_normal ?_
    refine tr_ret ?_
    refine then_ret ?_
    exact ret_one .ret (.inl rfl) rfl () (OT.val (OT.tmp rfl) (congrArg Value.bool ((decide_eq_false hne).symm))) trivial (by exact picks_nil)
  · try simp only [decide_eq_true_eq, decide_eq_false_iff_not, Bool.or_eq_true, Bool.and_eq_true, Bool.or_eq_false_iff, Bool.and_eq_false_iff, Bool.not_eq_true', Bool.not_eq_false', ne_eq, Classical.not_not] at c10
    have hll : a.length = b.length := by omega
    refine tr_skip ?_
    refine then_normal ?_
    refine tr_seq ?_
    refine tr_seq ?_
    -- region 3
    refine tr_env (es_cons (t := 0) (OT.tmp rfl) (es_cons (t := 1) (OT.tmp rfl) es_nil)) ?_
    refine tr_region ?_
    refine op_pure (pu_move (OT.tmp rfl)) rfl rfl ?_
    refine op_pure (pu_len_sl (OT.tmp rfl) Try.underlying40) rfl rfl ?_
    refine op_pure (pu_move OT.const) rfl rfl ?_
    refine tr_nil ?_
    refine then_normal ?_
    refine tr_block ?_
    refine tr_loopK (σ := Nat) (es_cons (t := 0) (OT.tmp rfl) (es_cons (t := 1) (OT.tmp rfl) (es_cons (t := 12) (OT.tmp rfl) es_nil))) (fun k => [(13, I64 (k : Int))]) (fun k => []) (fun k => k ≤ a.length ∧ ∀ j : Nat, j < k → at' a (j : Int) = at' b (j : Int)) (fun k => a.length - k) 0 ⟨Nat.zero_le _, fun j h => by omega⟩ ?_ (own_picks (by exact picks_nil)) ?_
    · exact (es_cons (t := 13) (by exact OT.tmp rfl) es_nil)
    · rintro k ⟨hk, hk2⟩
      refine tr_seq ?_
      -- region 4
      refine tr_env (es_cons (t := 0) (OT.tmp rfl) (es_cons (t := 1) (OT.tmp rfl) (es_cons (t := 12) (OT.tmp rfl) (es_cons (t := 13) (OT.tmp rfl) es_nil)))) ?_
      refine tr_region ?_
      refine op_pure (pu_lss (OT.tmp rfl) (OT.tmp rfl)) rfl rfl ?_
      refine tr_nil ?_
      refine then_normal ?_
      refine tr_seq ?_
      refine tr_cond (OT.tmp rfl) (fun c14 => ?_) (fun c14 => ?_)
      · try simp only [decide_eq_true_eq, decide_eq_false_iff_not, Bool.or_eq_true, Bool.and_eq_true, Bool.or_eq_false_iff, Bool.and_eq_false_iff, Bool.not_eq_true', Bool.not_eq_false', ne_eq, Classical.not_not] at c14
        refine tr_skip ?_
        refine then_normal ?_
        refine tr_seq ?_
        refine tr_block ?_
        refine tr_seq ?_
        -- region 5
        refine tr_env (es_cons (t := 0) (OT.tmp rfl) (es_cons (t := 1) (OT.tmp rfl) (es_cons (t := 12) (OT.tmp rfl) (es_cons (t := 13) (OT.tmp rfl) es_nil)))) ?_
        refine tr_region ?_
        refine op_pure (pu_move (OT.tmp rfl)) rfl rfl ?_
        refine op_pure (pu_assign (OT.tmp rfl)) rfl rfl ?_
        refine tr_nil ?_
        refine then_normal ?_
        refine tr_seq ?_
        -- region 6
        refine tr_env (es_cons (t := 0) (OT.tmp rfl) (es_cons (t := 1) (OT.tmp rfl) (es_cons (t := 5) (OT.tmp rfl) (es_cons (t := 12) (OT.tmp rfl) (es_cons (t := 13) (OT.tmp rfl) es_nil))))) ?_
        apply tr_any (m := 8) (ns := [[(0, none)], [(5, none)], [(16, some 0), (17, some 1)], [(18, some 2)], [(1, none)], [(5, none)], [(20, some 4), (21, some 5)], [(22, some 6)]]) (by kernel_rfl) (by kernel_rfl) (Ts := [_, _, _, _, _, _, _, _]) rfl
        case hops =>
          refine ⟨?_, ⟨?_, ⟨?_, ⟨?_, ⟨?_, ⟨?_, ⟨?_, ⟨?_, trivial⟩⟩⟩⟩⟩⟩⟩⟩
          · exact rop_pure rfl (pu_move (OT.tmp rfl))
          · exact rop_pure rfl (pu_move (OT.tmp rfl))
          · exact rop_pure rfl (pu_index (OT.tmp rfl) (OT.tmp rfl) Try.underlying40 (show tyOk Try.prog 38 false 1 = true from by decide +kernel) (by omega) (by omega))
          · exact rop_pure rfl (pu_load (OT.tmp rfl) (show tyOk Try.prog 38 false 1 = true from by decide +kernel))
          · exact rop_pure rfl (pu_move (OT.tmp rfl))
          · exact rop_pure rfl (pu_move (OT.tmp rfl))
          · exact rop_pure rfl (pu_index (OT.tmp rfl) (OT.tmp rfl) Try.underlying40 (show tyOk Try.prog 38 false 1 = true from by decide +kernel) (by omega) (by omega))
          · exact rop_pure rfl (pu_load (OT.tmp rfl) (show tyOk Try.prog 38 false 1 = true from by decide +kernel))
        case h =>
          refine op_acts (acts_call (rCmp_fn _ _ (by exact hs.at_ _) (by exact hb.at_ _)) (show enters Try.prog 23 = true from by decide +kernel) (OTs.cons (OT.tmp rfl) (OTs.cons (OT.tmp rfl) OTs.nil)) (List.Perm.refl _)) (List.Perm.refl _) rfl rfl (fun _ _ => ?_)
          refine op_pure (pu_neq (OT.tmp rfl) OT.const) rfl rfl ?_
          refine tr_nil ?_
          refine then_normal ?_
          refine tr_cond (OT.tmp rfl) (fun c25 => ?_) (fun c25 => ?_)
          · try simp only [decide_eq_true_eq, decide_eq_false_iff_not, Bool.or_eq_true, Bool.and_eq_true, Bool.or_eq_false_iff, Bool.and_eq_false_iff, Bool.not_eq_true', Bool.not_eq_false', ne_eq, Classical.not_not] at c25
            have hne : ¬ a = b := fun e => by rw [e, cmp_self] at c25; exact c25 rfl
            refine tr_seq ?_
            -- region 7
            refine tr_env es_nil ?_
            refine tr_region ?_
            refine op_pure (pu_assign OT.const) rfl rfl ?_
            refine tr_nil ?_
            refine then_normal ?_
            refine tr_ret ?_
            refine block_ret ?_
            refine then_ret ?_
            refine then_ret ?_
            refine block_ret ?_
            refine then_ret ?_
            exact ret_one .ret (.inl rfl) rfl () (OT.val (OT.tmp rfl) (congrArg Value.bool ((decide_eq_false hne).symm))) trivial (by exact picks_nil)
          · try simp only [decide_eq_true_eq, decide_eq_false_iff_not, Bool.or_eq_true, Bool.and_eq_true, Bool.or_eq_false_iff, Bool.and_eq_false_iff, Bool.not_eq_true', Bool.not_eq_false', ne_eq, Classical.not_not] at c25
            have heq := cmp_eq.1 c25
            refine tr_skip ?_
            refine block_normal ?_
            refine then_normal ?_
            -- region 8
            refine tr_env (es_cons (t := 0) (OT.tmp rfl) (es_cons (t := 1) (OT.tmp rfl) (es_cons (t := 12) (OT.tmp rfl) (es_cons (t := 13) (OT.tmp rfl) es_nil)))) ?_
            refine tr_region ?_
            refine op_pure (pu_add' (OT.tmp rfl) OT.const (by omega)) rfl rfl ?_
            refine op_pure (pu_move (OT.tmp rfl)) rfl rfl ?_
            refine tr_nil ?_
            refine then_normal ?_
            exact tr_again (k + 1) ⟨by omega, fun j h => by rcases Nat.lt_or_ge j k with h1 | h1; exact hk2 j h1; (obtain rfl : j = k := by omega); exact heq⟩ (by omega) (es_append (es_cons (t := 13) (by exact OT.tmp rfl) es_nil) (es_cons (t := 0) (OT.tmp rfl) (es_cons (t := 1) (OT.tmp rfl) (es_cons (t := 12) (OT.tmp rfl) es_nil)))) (own_picks (by exact picks_nil))
      · try simp only [decide_eq_true_eq, decide_eq_false_iff_not, Bool.or_eq_true, Bool.and_eq_true, Bool.or_eq_false_iff, Bool.and_eq_false_iff, Bool.not_eq_true', Bool.not_eq_false', ne_eq, Classical.not_not] at c14
        refine tr_exit ?_
        refine then_exit ?_
        refine then_exit ?_
        refine block_hit ?_
        refine then_normal ?_
        refine tr_seq ?_
        -- region 9
        refine tr_env es_nil ?_
        refine tr_region ?_
        refine op_pure (pu_assign OT.const) rfl rfl ?_
        refine tr_nil ?_
        refine then_normal ?_
        refine tr_ret ?_
        exact ret_one .ret (.inl rfl) rfl () (OT.val (OT.tmp rfl) (congrArg Value.bool ((decide_eq_true (eq_upto hll fun j h => hk2 j (by omega))).symm))) trivial (by exact picks_nil)
set_option maxHeartbeats 1000000 in
set_option maxRecDepth 20000 in
/-- rhizome/rhizomeref10.SameDelta -/
theorem SameDelta_fn (x y : Dl) (hs : Small x.1) (hs2 : Small x.2) (hb : Small y.1) (hb2 : Small y.2) : Ct Try.prog 26 [kD.T x, kD.T y] ([]) Unit (fun _ => BoolT (decide (x.1 = y.1) && decide (x.2 = y.2))) (fun _ => []) (fun _ => True) := by
  refine fn_intro Try.func26 rfl rfl ?_
  intro H w
  refine tr_seq ?_
  -- region 0
  refine tr_env (es_cons (t := 0) (OT.tmp rfl) (es_cons (t := 1) (OT.tmp rfl) es_nil)) ?_
  refine tr_region ?_
  refine op_acts (acts_box (d := kD) (OT.tmp rfl)) (List.Perm.refl _) rfl rfl (fun g0_0 _ => ?_)
  refine op_acts (acts_box (d := kD) (OT.tmp rfl)) (List.Perm.refl _) rfl rfl (fun g0_1 _ => ?_)
  refine op_pure (pu_assign OT.const) rfl rfl ?_
  refine tr_nil ?_
  refine then_normal ?_
  refine tr_seq ?_
  -- region 1
  refine tr_env (es_cons (t := 2) (OT.tmp rfl) (es_cons (t := 3) (OT.tmp rfl) es_nil)) ?_
  refine tr_region ?_
  refine op_pure (pu_faddr (OT.tmp rfl) (show fieldOk Try.prog 44 0 0 false 1 = true from by decide +kernel)) rfl rfl ?_
  refine op_pure (pu_load_blk (OT.tmp rfl) (by exact mem_at 1 rfl) (Lens.fst (a := kL) (b := kL)) (show tyOk Try.prog 40 false 1 = true from by decide +kernel)) rfl rfl ?_
  refine op_pure (pu_faddr (OT.tmp rfl) (show fieldOk Try.prog 44 0 0 false 1 = true from by decide +kernel)) rfl rfl ?_
  refine op_pure (pu_load_blk (OT.tmp rfl) (by exact mem_at 0 rfl) (Lens.fst (a := kL) (b := kL)) (show tyOk Try.prog 40 false 1 = true from by decide +kernel)) rfl rfl ?_
  refine op_acts (acts_call (Same_fn x.1 y.1 hs hb) (show enters Try.prog 32 = true from by decide +kernel) (OTs.cons (OT.tmp rfl) (OTs.cons (OT.tmp rfl) OTs.nil)) (List.Perm.refl _)) (List.Perm.refl _) rfl rfl (fun _ _ => ?_)
  refine op_pure (pu_move (OT.tmp rfl)) rfl rfl ?_
  refine op_gu rfl rfl rfl (OT.gu_mk (OT.tmp rfl)) (fun hg => by (have hg1 := hg.2; (try simp only [decide_eq_true_eq, decide_eq_false_iff_not] at hg1); exact pu_faddr (by exact OT.tmp rfl) (show fieldOk Try.prog 44 1 1 false 1 = true from by decide +kernel))) rfl ?_
  refine op_gu rfl rfl rfl (OT.gu_mk (OT.tmp rfl)) (fun hg => by (have hg1 := hg.2; (try simp only [decide_eq_true_eq, decide_eq_false_iff_not] at hg1); exact pu_load_blk (by exact OT.gu (OT.tmp rfl) hg) (by exact mem_at 1 rfl) (Lens.snd (a := kL) (b := kL)) (show tyOk Try.prog 40 false 1 = true from by decide +kernel))) rfl ?_
  refine op_gu rfl rfl rfl (OT.gu_mk (OT.tmp rfl)) (fun hg => by (have hg1 := hg.2; (try simp only [decide_eq_true_eq, decide_eq_false_iff_not] at hg1); exact pu_faddr (by exact OT.tmp rfl) (show fieldOk Try.prog 44 1 1 false 1 = true from by decide +kernel))) rfl ?_
  refine op_gu rfl rfl rfl (OT.gu_mk (OT.tmp rfl)) (fun hg => by (have hg1 := hg.2; (try simp only [decide_eq_true_eq, decide_eq_false_iff_not] at hg1); exact pu_load_blk (by exact OT.gu (OT.tmp rfl) hg) (by exact mem_at 0 rfl) (Lens.snd (a := kL) (b := kL)) (show tyOk Try.prog 40 false 1 = true from by decide +kernel))) rfl ?_
  refine op_gu_acts () rfl rfl rfl (OT.gu_mk (OT.tmp rfl)) (fun hg => by (have hg1 := hg.2; (try simp only [decide_eq_true_eq, decide_eq_false_iff_not] at hg1); exact acts_call (Same_fn x.2 y.2 hs2 hb2) (show enters Try.prog 32 = true from by decide +kernel) (OTs.cons (by exact OT.gu (OT.tmp rfl) hg) (OTs.cons (by exact OT.gu (OT.tmp rfl) hg) OTs.nil)) (List.Perm.refl _))) rfl (fun _ _ => ?_)
  refine op_pure (pu_pick_and (OT.tmp rfl) (by exact OT.tmp rfl)) rfl rfl ?_
  refine op_pure (pu_assign (OT.tmp rfl)) rfl rfl ?_
  refine tr_nil ?_
  refine then_normal ?_
  refine tr_ret ?_
  exact ret_one .ret (.inl rfl) rfl () (OT.tmp rfl) trivial (by exact picks_nil)
set_option maxHeartbeats 1000000 in
set_option maxRecDepth 20000 in
/-- rhizome/rhizomeref10.Without -/
theorem rWithout_fn (a b : List Tp) (hs : Small a) (hb : Small b) : Ct Try.prog 55 [SlT kT a, SlT kT b] ([]) Unit (fun _ => SlT kT (withoutL a b)) (fun _ => []) (fun _ => True) := by
  refine fn_intro Try.func55 rfl rfl ?_
  intro H w
  have hsl := hs.1
  have hbl := hb.1
  refine tr_seq ?_
  -- region 0
  refine tr_env (es_cons (t := 0) (OT.tmp rfl) (es_cons (t := 1) (OT.tmp rfl) es_nil)) ?_
  refine tr_region ?_
  refine op_pure (pu_assign OT.const) rfl rfl ?_
  refine tr_nil ?_
  refine then_normal ?_
  refine tr_seq ?_
  -- region 1
  refine tr_env (es_cons (t := 0) (OT.tmp rfl) (es_cons (t := 1) (OT.tmp rfl) es_nil)) ?_
  refine tr_region ?_
  refine op_pure (pu_assign OT.const) rfl rfl ?_
  refine tr_nil ?_
  refine then_normal ?_
  refine tr_seq ?_
  refine tr_seq ?_
  -- region 2
  refine tr_env (es_cons (t := 0) (OT.tmp rfl) (es_cons (t := 1) (OT.tmp rfl) (es_cons (t := 5) (OT.tmp rfl) es_nil))) ?_
  refine tr_nilItem 38 kT ?_
  refine tr_region ?_
  refine op_pure (pu_move (OT.tmp rfl)) rfl rfl ?_
  refine op_pure (pu_len_sl (OT.tmp rfl) Try.underlying40) rfl rfl ?_
  refine op_pure (pu_move OT.const) rfl rfl ?_
  refine tr_nil ?_
  refine then_normal ?_
  refine tr_block ?_
  refine tr_loopK (σ := Nat × Value) (es_cons (t := 0) (OT.tmp rfl) (es_cons (t := 1) (OT.tmp rfl) (es_cons (t := 8) (OT.tmp rfl) es_nil))) (fun s => [(9, I64 (s.1 : Int)), (5, IsV s.2)]) (fun s => [OwnI 38 kT s.2 (withoutL (a.take s.1) b)]) (fun s => s.1 ≤ a.length) (fun s => a.length - s.1) (0, nilS) (Nat.zero_le _) ?_ (own_picks (by repeat (first | exact picks_nil | refine picks_cons 0 rfl ?_ | refine picks_cons 1 rfl ?_ | refine picks_cons 2 rfl ?_ | refine picks_cons 3 rfl ?_ | refine picks_cons 4 rfl ?_ | refine picks_cons 5 rfl ?_ | refine picks_cons 6 rfl ?_))) ?_
  · exact (es_cons (t := 9) (by exact OT.tmp rfl) (es_cons (t := 5) (by exact OT.tmp rfl) es_nil))
  · rintro ⟨k, v⟩ hk
    dsimp only at hk ⊢
    refine tr_seq ?_
    -- region 3
    refine tr_env (es_cons (t := 0) (OT.tmp rfl) (es_cons (t := 1) (OT.tmp rfl) (es_cons (t := 5) (OT.tmp rfl) (es_cons (t := 8) (OT.tmp rfl) (es_cons (t := 9) (OT.tmp rfl) es_nil))))) ?_
    refine tr_region ?_
    refine op_pure (pu_lss (OT.tmp rfl) (OT.tmp rfl)) rfl rfl ?_
    refine tr_nil ?_
    refine then_normal ?_
    refine tr_seq ?_
    refine tr_cond (OT.tmp rfl) (fun c10 => ?_) (fun c10 => ?_)
    · try simp only [decide_eq_true_eq, decide_eq_false_iff_not, Bool.or_eq_true, Bool.and_eq_true, Bool.or_eq_false_iff, Bool.and_eq_false_iff, Bool.not_eq_true', Bool.not_eq_false', ne_eq, Classical.not_not] at c10
      refine tr_skip ?_
      refine then_normal ?_
      refine tr_seq ?_
      refine tr_block ?_
      refine tr_seq ?_
      -- region 4
      refine tr_env (es_cons (t := 0) (OT.tmp rfl) (es_cons (t := 1) (OT.tmp rfl) (es_cons (t := 5) (OT.tmp rfl) (es_cons (t := 8) (OT.tmp rfl) (es_cons (t := 9) (OT.tmp rfl) es_nil))))) ?_
      refine tr_region ?_
      refine op_pure (pu_move (OT.tmp rfl)) rfl rfl ?_
      refine op_pure (pu_assign (OT.tmp rfl)) rfl rfl ?_
      refine tr_nil ?_
      refine then_normal ?_
      refine tr_seq ?_
      -- region 5
      refine tr_env (es_cons (t := 0) (OT.tmp rfl) (es_cons (t := 1) (OT.tmp rfl) (es_cons (t := 5) (OT.tmp rfl) (es_cons (t := 6) (OT.tmp rfl) (es_cons (t := 8) (OT.tmp rfl) (es_cons (t := 9) (OT.tmp rfl) es_nil)))))) ?_
      have hst := without_snoc (a := a) (b := b) (k := k) (by omega)
      refine tr_region ?_
      refine op_pure (pu_move (OT.tmp rfl)) rfl rfl ?_
      refine op_pure (pu_move (OT.tmp rfl)) rfl rfl ?_
      refine op_pure (pu_move (OT.tmp rfl)) rfl rfl ?_
      refine op_pure (pu_index (OT.tmp rfl) (OT.tmp rfl) Try.underlying40 (show tyOk Try.prog 38 false 1 = true from by decide +kernel) (by omega) (by omega)) rfl rfl ?_
      refine op_pure (pu_load (OT.tmp rfl) (show tyOk Try.prog 38 false 1 = true from by decide +kernel)) rfl rfl ?_
      refine op_acts (acts_call (rHas_fn _ _ (by assumption) (by exact Small.at_ (by assumption) _)) (show enters Try.prog 38 = true from by decide +kernel) (OTs.cons (OT.tmp rfl) (OTs.cons (OT.tmp rfl) OTs.nil)) (List.Perm.refl _)) (List.Perm.refl _) rfl rfl (fun _ _ => ?_)
      refine op_pure (pu_not (OT.tmp rfl)) rfl rfl ?_
      refine tr_nil ?_
      refine then_normal ?_
      refine tr_cond (OT.tmp rfl) (fun c18 => ?_) (fun c18 => ?_)
      · try simp only [decide_eq_true_eq, decide_eq_false_iff_not, Bool.or_eq_true, Bool.and_eq_true, Bool.or_eq_false_iff, Bool.and_eq_false_iff, Bool.not_eq_true', Bool.not_eq_false', ne_eq, Classical.not_not] at c18
        rw [if_neg (by simpa using c18)] at hst
        have hwl := without_len (a.take k) b
        rw [List.length_take] at hwl
        -- region 6
        refine tr_env (es_cons (t := 0) (OT.tmp rfl) (es_cons (t := 1) (OT.tmp rfl) (es_cons (t := 5) (OT.tmp rfl) (es_cons (t := 6) (OT.tmp rfl) (es_cons (t := 8) (OT.tmp rfl) (es_cons (t := 9) (OT.tmp rfl) es_nil)))))) ?_
        refine tr_region ?_
        refine op_pure (pu_move (OT.tmp rfl)) rfl rfl ?_
        refine op_pure (pu_move (OT.tmp rfl)) rfl rfl ?_
        refine op_pure (pu_move (OT.tmp rfl)) rfl rfl ?_
        refine op_pure (pu_index (OT.tmp rfl) (OT.tmp rfl) Try.underlying40 (show tyOk Try.prog 38 false 1 = true from by decide +kernel) (by omega) (by omega)) rfl rfl ?_
        refine op_pure (pu_load (OT.tmp rfl) (show tyOk Try.prog 38 false 1 = true from by decide +kernel)) rfl rfl ?_
        refine op_acts (acts_lit (d := kT) (v0 := []) (show slTy Try.prog 40 38 1 24 = true from by decide +kernel) (show tyOk Try.prog 38 false 1 = true from by decide +kernel) z38 (show 1 * 1 ≤ 16777216 from by decide) (by decide) (fills_arr rfl rfl (by decide) (OT.tmp rfl) fills_nil)) (List.Perm.refl _) rfl rfl (fun _ _ => ?_)
        refine op_acts (acts_append (OT.tmp rfl) (by exact perm_at 0 rfl) (OT.tmp rfl) (show slTy Try.prog 40 38 1 24 = true from by decide +kernel) (by (simp; omega)) (by (simp [maxLen]; omega))) (by exact perm_at 0 rfl) rfl rfl (fun v6_6 _ => ?_)
        refine op_pure (pu_assign (OT.tmp rfl)) rfl rfl ?_
        refine tr_nil ?_
        refine block_normal ?_
        refine then_normal ?_
        -- region 7
        refine tr_env (es_cons (t := 0) (OT.tmp rfl) (es_cons (t := 1) (OT.tmp rfl) (es_cons (t := 5) (OT.tmp rfl) (es_cons (t := 8) (OT.tmp rfl) (es_cons (t := 9) (OT.tmp rfl) es_nil))))) ?_
        refine tr_region ?_
        refine op_pure (pu_add' (OT.tmp rfl) OT.const (by omega)) rfl rfl ?_
        refine op_pure (pu_move (OT.tmp rfl)) rfl rfl ?_
        refine tr_nil ?_
        refine then_normal ?_
        exact tr_again (k + 1, v6_6) (by show k + 1 ≤ a.length; omega) (by omega) (es_append (es_cons (t := 9) (by exact OT.tmp rfl) (es_cons (t := 5) (by exact OT.tmp rfl) es_nil)) (es_cons (t := 0) (OT.tmp rfl) (es_cons (t := 1) (OT.tmp rfl) (es_cons (t := 8) (OT.tmp rfl) es_nil)))) (own_picks (by rw [hst]; exact (by repeat (first | exact picks_nil | refine picks_cons 0 rfl ?_ | refine picks_cons 1 rfl ?_ | refine picks_cons 2 rfl ?_ | refine picks_cons 3 rfl ?_ | refine picks_cons 4 rfl ?_ | refine picks_cons 5 rfl ?_ | refine picks_cons 6 rfl ?_))))
      · try simp only [decide_eq_true_eq, decide_eq_false_iff_not, Bool.or_eq_true, Bool.and_eq_true, Bool.or_eq_false_iff, Bool.and_eq_false_iff, Bool.not_eq_true', Bool.not_eq_false', ne_eq, Classical.not_not] at c18
        rw [if_pos (by simpa using c18), List.append_nil] at hst
        refine tr_skip ?_
        refine block_normal ?_
        refine then_normal ?_
        -- region 7
        refine tr_env (es_cons (t := 0) (OT.tmp rfl) (es_cons (t := 1) (OT.tmp rfl) (es_cons (t := 5) (OT.tmp rfl) (es_cons (t := 8) (OT.tmp rfl) (es_cons (t := 9) (OT.tmp rfl) es_nil))))) ?_
        refine tr_region ?_
        refine op_pure (pu_add' (OT.tmp rfl) OT.const (by omega)) rfl rfl ?_
        refine op_pure (pu_move (OT.tmp rfl)) rfl rfl ?_
        refine tr_nil ?_
        refine then_normal ?_
        exact tr_again (k + 1, v) (by show k + 1 ≤ a.length; omega) (by omega) (es_append (es_cons (t := 9) (by exact OT.tmp rfl) (es_cons (t := 5) (by exact OT.tmp rfl) es_nil)) (es_cons (t := 0) (OT.tmp rfl) (es_cons (t := 1) (OT.tmp rfl) (es_cons (t := 8) (OT.tmp rfl) es_nil)))) (own_picks (by rw [hst]; exact (by repeat (first | exact picks_nil | refine picks_cons 0 rfl ?_ | refine picks_cons 1 rfl ?_ | refine picks_cons 2 rfl ?_ | refine picks_cons 3 rfl ?_ | refine picks_cons 4 rfl ?_ | refine picks_cons 5 rfl ?_ | refine picks_cons 6 rfl ?_))))
    · try simp only [decide_eq_true_eq, decide_eq_false_iff_not, Bool.or_eq_true, Bool.and_eq_true, Bool.or_eq_false_iff, Bool.and_eq_false_iff, Bool.not_eq_true', Bool.not_eq_false', ne_eq, Classical.not_not] at c10
      refine tr_exit ?_
      refine then_exit ?_
      refine then_exit ?_
      refine block_hit ?_
      refine then_normal ?_
      refine tr_seq ?_
      -- region 8
      refine tr_env (es_cons (t := 5) (OT.tmp rfl) es_nil) ?_
      obtain rfl : k = a.length := by omega
      rw [List.take_length]
      refine tr_freeze (by exact perm_at 0 rfl) 5 (OT.tmp rfl) ?_
      refine tr_region ?_
      refine op_pure (pu_move (OT.tmp rfl)) rfl rfl ?_
      refine op_pure (pu_assign (OT.tmp rfl)) rfl rfl ?_
      refine tr_nil ?_
      refine then_normal ?_
      refine tr_ret ?_
      exact ret_one .ret (.inl rfl) rfl () (OT.tmp rfl) trivial (by exact picks_nil)
set_option maxHeartbeats 1000000 in
set_option maxRecDepth 20000 in
/-- rhizome/rhizomeref10.meet -/
theorem meet_fn (a b : List Tp) (hs : Small a) (hb : Small b) : Ct Try.prog 53 [SlT kT a, SlT kT b] ([]) Unit (fun _ => BoolT (decide (((withoutL a b).length : Int) < a.length))) (fun _ => []) (fun _ => True) := by
  refine fn_intro Try.func53 rfl rfl ?_
  intro H w
  refine tr_seq ?_
  -- region 0
  refine tr_env (es_cons (t := 0) (OT.tmp rfl) (es_cons (t := 1) (OT.tmp rfl) es_nil)) ?_
  refine tr_region ?_
  refine op_pure (pu_assign OT.const) rfl rfl ?_
  refine tr_nil ?_
  refine then_normal ?_
  refine tr_seq ?_
  -- region 1
  refine tr_env (es_cons (t := 0) (OT.tmp rfl) (es_cons (t := 1) (OT.tmp rfl) es_nil)) ?_
  refine tr_region ?_
  refine op_pure (pu_move (OT.tmp rfl)) rfl rfl ?_
  refine op_pure (pu_move (OT.tmp rfl)) rfl rfl ?_
  refine op_acts (acts_call (rWithout_fn _ _ (by assumption) (by assumption)) (show enters Try.prog 55 = true from by decide +kernel) (OTs.cons (OT.tmp rfl) (OTs.cons (OT.tmp rfl) OTs.nil)) (List.Perm.refl _)) (List.Perm.refl _) rfl rfl (fun _ _ => ?_)
  refine op_pure (pu_len_sl (OT.tmp rfl) Try.underlying40) rfl rfl ?_
  refine op_pure (pu_move (OT.tmp rfl)) rfl rfl ?_
  refine op_pure (pu_len_sl (OT.tmp rfl) Try.underlying40) rfl rfl ?_
  refine op_pure (pu_lss (OT.tmp rfl) (OT.tmp rfl)) rfl rfl ?_
  refine op_pure (pu_assign (OT.tmp rfl)) rfl rfl ?_
  refine tr_nil ?_
  refine then_normal ?_
  refine tr_ret ?_
  exact ret_one .ret (.inl rfl) rfl () (OT.tmp rfl) trivial (by exact picks_nil)
end Go.Proofs.Ytloblpklkhepbaa
