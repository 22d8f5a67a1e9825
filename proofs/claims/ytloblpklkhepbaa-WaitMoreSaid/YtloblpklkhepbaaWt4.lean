/- Walks through the Go functions wait.Victim, slices.Reverse[[]int,int], as typed contracts. -/
import Derived.Test.YtloblpklkhepbaaWt3
import Derived.Test.YtloblpklkhepbaaWtD
namespace Go.Proofs.Ytloblpklkhepbaa
open Go Go.Gw Go.Wt
set_option linter.unusedVariables false
set_option linter.unusedSimpArgs false

set_option maxRecDepth 20000 in
/-- rhizome/wait.Victim -/
theorem Victim_fn (es : Es) (born : List Int) (hm : es.length ≤ maxLen) (hmb : born.length ≤ maxLen) (h : badB es = false) : Ct Try.prog 42 [SlT kE es, SlT kI born] ([]) Unit (fun _ => TupT [I64 (victimOf (rowsOf es) born), BoolT (decide (victimOf (rowsOf es) born > 0)), I64 0]) (fun _ => []) (fun _ => True) := by
  refine fn_intro Try.func42 rfl rfl ?_
  intro H w
  refine tr_seq ?_
  -- region 0
  refine tr_env (es_cons (t := 0) (OT.tmp rfl) (es_cons (t := 1) (OT.tmp rfl) es_nil)) ?_
  refine tr_region ?_
  refine op_pure (pu_assign OT.const) rfl rfl ?_
  refine op_pure (pu_assign OT.const) rfl rfl ?_
  refine op_pure (pu_assign OT.const) rfl rfl ?_
  refine tr_nil ?_
  refine then_normal ?_
  refine tr_seq ?_
  refine tr_seq ?_
  -- region 1
  refine tr_env (es_cons (t := 0) (OT.tmp rfl) (es_cons (t := 1) (OT.tmp rfl) es_nil)) ?_
  refine tr_region ?_
  refine op_pure (pu_move (OT.tmp rfl)) rfl rfl ?_
  refine op_acts (acts_call (bad_fn _ (by assumption)) (show enters Try.prog 43 = true from by decide +kernel) (OTs.cons (OT.tmp rfl) OTs.nil) (List.Perm.refl _)) (List.Perm.refl _) rfl rfl (fun _ _ => ?_)
  refine tr_nil ?_
  refine then_normal ?_
  refine tr_cond (OT.tmp rfl) (fun c9 => ?_) (fun c9 => ?_)
  · try simp only [decide_eq_true_eq, decide_eq_false_iff_not, Bool.or_eq_true, Bool.and_eq_true, Bool.or_eq_false_iff, Bool.and_eq_false_iff, Bool.not_eq_true', Bool.not_eq_false', ne_eq, Classical.not_not] at c9
    exact absurd c9 (by simp [h]) --done
  · try simp only [decide_eq_true_eq, decide_eq_false_iff_not, Bool.or_eq_true, Bool.and_eq_true, Bool.or_eq_false_iff, Bool.and_eq_false_iff, Bool.not_eq_true', Bool.not_eq_false', ne_eq, Classical.not_not] at c9
    have ho := okE_of h
    have hsm := small_rows ho
    refine tr_skip ?_
    refine then_normal ?_
    refine tr_seq ?_
    -- region 3
    refine tr_env (es_cons (t := 0) (OT.tmp rfl) (es_cons (t := 1) (OT.tmp rfl) es_nil)) ?_
    refine tr_region ?_
    refine op_pure (pu_move (OT.tmp rfl)) rfl rfl ?_
    refine op_acts (acts_call (waits_fn _ (by assumption) (by assumption)) (show enters Try.prog 44 = true from by decide +kernel) (OTs.cons (OT.tmp rfl) OTs.nil) (List.Perm.refl _)) (List.Perm.refl _) rfl rfl (fun _ _ => ?_)
    refine op_pure (pu_move (OT.tmp rfl)) rfl rfl ?_
    refine op_acts (acts_call (victim_fn _ _ (by assumption) (by first | assumption | (simp [maxLen]))) (show enters Try.prog 63 = true from by decide +kernel) (OTs.cons (OT.tmp rfl) (OTs.cons (OT.tmp rfl) OTs.nil)) (List.Perm.refl _)) (List.Perm.refl _) rfl rfl (fun _ _ => ?_)
    refine op_pure (pu_assign (OT.tmp rfl)) rfl rfl ?_
    refine tr_nil ?_
    refine then_normal ?_
    refine tr_seq ?_
    -- region 4
    refine tr_env (es_cons (t := 7) (OT.tmp rfl) es_nil) ?_
    refine tr_region ?_
    refine op_pure (pu_move (OT.tmp rfl)) rfl rfl ?_
    refine op_pure (pu_move (OT.tmp rfl)) rfl rfl ?_
    refine op_pure (pu_gtr (OT.tmp rfl) OT.const) rfl rfl ?_
    refine op_pure (pu_assign (OT.tmp rfl)) rfl rfl ?_
    refine op_pure (pu_assign (OT.tmp rfl)) rfl rfl ?_
    refine op_pure (pu_assign OT.const) rfl rfl ?_
    refine tr_nil ?_
    refine then_normal ?_
    refine tr_ret ?_
    exact ret_three .ret (.inl rfl) rfl () (OT.tmp rfl) (OT.tmp rfl) (OT.tmp rfl) (fun _ _ h => h) trivial (by repeat (first | exact picks_nil | refine picks_cons 0 rfl ?_ | refine picks_cons 1 rfl ?_ | refine picks_cons 2 rfl ?_ | refine picks_cons 3 rfl ?_ | refine picks_cons 4 rfl ?_ | refine picks_cons 5 rfl ?_ | refine picks_cons 6 rfl ?_))
set_option maxRecDepth 20000 in
/-- slices.Reverse[[]int,int] -/
theorem Reverse_fn (v : Value) (xs : List Int) (hm : xs.length ≤ maxLen) : Ct Try.prog 48 [IsV v] ([OwnI 3 kI v xs]) Unit (fun _ => AnyT) (fun _ => [OwnI 3 kI v xs.reverse]) (fun _ => True) := by
  refine fn_intro Try.func48 rfl rfl ?_
  intro H w
  unfold maxLen at hm
  refine tr_seq ?_
  -- region 0
  refine tr_env (es_cons (t := 0) (OT.tmp rfl) es_nil) ?_
  refine tr_region ?_
  refine op_pure (pu_move (OT.tmp rfl)) rfl rfl ?_
  first
  | refine op_pure (pu_len_sl (OT.tmp rfl) Try.underlying25) rfl rfl ?_
  | refine op_pure (pu_len_own (OT.tmp rfl) (by first | exact mem_at 0 rfl | exact mem_at 1 rfl | exact mem_at 2 rfl | exact mem_at 3 rfl | exact mem_at 4 rfl | exact mem_at 5 rfl) Try.underlying25) rfl rfl ?_
  | refine op_pure (pu_len_q (OT.tmp rfl) (by first | exact mem_at 0 rfl | exact mem_at 1 rfl | exact mem_at 2 rfl | exact mem_at 3 rfl | exact mem_at 4 rfl | exact mem_at 5 rfl) Try.underlying25) rfl rfl ?_
  | refine op_pure (pu_len_str Try.underlying25 (OT.tmp rfl)) rfl rfl ?_
  first
  | refine op_pure (pu_sub' (OT.tmp rfl) OT.const (by first | omega | assumption | (simp; omega) | (simp [maxLen]; omega) | (simp [maxLen] at *; omega))) rfl rfl ?_
  | refine op_pure (pu_sub (OT.tmp rfl) OT.const) rfl rfl ?_
  refine op_pure (pu_assign OT.const) rfl rfl ?_
  refine op_pure (pu_assign (OT.tmp rfl)) rfl rfl ?_
  refine tr_nil ?_
  refine then_normal ?_
  refine tr_block ?_
  refine tr_loopK (σ := Nat) (es_cons (t := 0) (OT.tmp rfl) es_nil) (fun k => [(2, I64 (k : Int)), (3, I64 ((xs.length : Int) - 1 - k))]) (fun k => [OwnI 3 kI v (revTo xs k)]) (fun k => 2 * k ≤ xs.length) (fun k => xs.length - k) 0 (by simp) ?_ (own_picks (by repeat (first | exact picks_nil | refine picks_cons 0 rfl ?_ | refine picks_cons 1 rfl ?_ | refine picks_cons 2 rfl ?_ | refine picks_cons 3 rfl ?_ | refine picks_cons 4 rfl ?_ | refine picks_cons 5 rfl ?_ | refine picks_cons 6 rfl ?_))) ?_
  · exact (es_cons (t := 2) (by first | exact OT.tmp rfl | exact OT.val (OT.tmp rfl) (congrArg (Value.int _) (by first | omega | (simp; omega) | simp))) (es_cons (t := 3) (by first | exact OT.tmp rfl | exact OT.val (OT.tmp rfl) (congrArg (Value.int _) (by first | omega | (simp; omega) | simp))) es_nil))
  · rintro k hk
    have hrl := revTo_len xs k
    refine tr_seq ?_
    refine tr_seq ?_
    -- region 1
    refine tr_env (es_cons (t := 0) (OT.tmp rfl) (es_cons (t := 2) (OT.tmp rfl) (es_cons (t := 3) (OT.tmp rfl) es_nil))) ?_
    refine tr_region ?_
    refine op_pure (pu_move (OT.tmp rfl)) rfl rfl ?_
    refine op_pure (pu_move (OT.tmp rfl)) rfl rfl ?_
    refine op_pure (pu_lss (OT.tmp rfl) (OT.tmp rfl)) rfl rfl ?_
    refine tr_nil ?_
    refine then_normal ?_
    refine tr_cond (OT.tmp rfl) (fun c9 => ?_) (fun c9 => ?_)
    · try simp only [decide_eq_true_eq, decide_eq_false_iff_not, Bool.or_eq_true, Bool.and_eq_true, Bool.or_eq_false_iff, Bool.and_eq_false_iff, Bool.not_eq_true', Bool.not_eq_false', ne_eq, Classical.not_not] at c9
      refine tr_skip ?_
      refine then_normal ?_
      refine tr_seq ?_
      refine tr_block ?_
      -- region 3
      refine tr_env (es_cons (t := 0) (OT.tmp rfl) (es_cons (t := 2) (OT.tmp rfl) (es_cons (t := 3) (OT.tmp rfl) es_nil))) ?_
      apply tr_anyW (p := 13) (Lf := fun c => cond c ([OwnI 3 kI v ((revTo xs k).set (k : Int).toNat (at' (revTo xs k) ((xs.length : Int) - 1 - k)))]) ([OwnI 3 kI v (revTo xs k)])) (by kernel_rfl) (m := 14) (ns := [[(0, none)], [(2, none)], [(0, none)], [(3, none)], [(0, none)], [(3, none)], [(18, some 4), (19, some 5)], [(20, some 6)], [(0, none)], [(2, none)], [(22, some 8), (23, some 9)], [(24, some 10)], [(14, some 0), (15, some 1)], [(21, some 7), (26, some 12)]]) (by kernel_rfl) (by kernel_rfl) (Ts := [_, _, _, _, _, _, _, _, _, _, _, _, _, _]) rfl
      case hops =>
        refine ⟨?_, ⟨?_, ⟨?_, ⟨?_, ⟨?_, ⟨?_, ⟨?_, ⟨?_, ⟨?_, ⟨?_, ⟨?_, ⟨?_, ⟨?_, ⟨?_, trivial⟩⟩⟩⟩⟩⟩⟩⟩⟩⟩⟩⟩⟩⟩
        · intro c hc; cases c
          · first | exact ropw_of (rop_pure rfl (pu_move (OT.tmp rfl)))
          · exact Bool.noConfusion (hc.symm.trans (by kernel_rfl : okFlag _ _ _ _ = false))
        · intro c hc; cases c
          · first | exact ropw_of (rop_pure rfl (pu_move (OT.tmp rfl)))
          · exact Bool.noConfusion (hc.symm.trans (by kernel_rfl : okFlag _ _ _ _ = false))
        · intro c hc; cases c
          · first | exact ropw_of (rop_pure rfl (pu_move (OT.tmp rfl)))
          · first | exact ropw_of (rop_pure rfl (pu_move (OT.tmp rfl)))
        · intro c hc; cases c
          · first | exact ropw_of (rop_pure rfl (pu_move (OT.tmp rfl)))
          · first | exact ropw_of (rop_pure rfl (pu_move (OT.tmp rfl)))
        · intro c hc; cases c
          · first | exact ropw_of (rop_pure rfl (pu_move (OT.tmp rfl)))
          · exact Bool.noConfusion (hc.symm.trans (by kernel_rfl : okFlag _ _ _ _ = false))
        · intro c hc; cases c
          · first | exact ropw_of (rop_pure rfl (pu_move (OT.tmp rfl)))
          · exact Bool.noConfusion (hc.symm.trans (by kernel_rfl : okFlag _ _ _ _ = false))
        · intro c hc; cases c
          · first | exact ropw_of (rop_pure rfl (pu_index (OT.tmp rfl) (OT.tmp rfl) Try.underlying25 (show tyOk Try.prog 3 _ _ = true from by decide +kernel) (by first | omega | assumption | (simp; omega) | (simp [maxLen]; omega) | (simp [maxLen] at *; omega)) (by first | omega | assumption | (simp; omega) | (simp [maxLen]; omega) | (simp [maxLen] at *; omega)))) | exact ropw_of (rop_pure rfl (pu_index_own (OT.tmp rfl) (by first | exact mem_at 0 rfl | exact mem_at 1 rfl | exact mem_at 2 rfl | exact mem_at 3 rfl | exact mem_at 4 rfl | exact mem_at 5 rfl) (OT.tmp rfl) Try.underlying25 (show tyOk Try.prog 3 _ _ = true from by decide +kernel) (by first | omega | assumption | (simp; omega) | (simp [maxLen]; omega) | (simp [maxLen] at *; omega)) (by first | omega | assumption | (simp; omega) | (simp [maxLen]; omega) | (simp [maxLen] at *; omega)))) | exact ropw_of (rop_pure rfl (pu_index_q (OT.tmp rfl) (by first | exact mem_at 0 rfl | exact mem_at 1 rfl | exact mem_at 2 rfl | exact mem_at 3 rfl | exact mem_at 4 rfl | exact mem_at 5 rfl) (OT.tmp rfl) Try.underlying25 (show tyOk Try.prog 3 _ _ = true from by decide +kernel) (by first | omega | assumption | (simp; omega) | (simp [maxLen]; omega) | (simp [maxLen] at *; omega)) (by first | omega | assumption | (simp; omega) | (simp [maxLen]; omega) | (simp [maxLen] at *; omega))))
          · exact Bool.noConfusion (hc.symm.trans (by kernel_rfl : okFlag _ _ _ _ = false))
        · intro c hc; cases c
          · first | exact ropw_of (rop_pure rfl (pu_load (OT.tmp rfl) (show tyOk Try.prog 3 _ _ = true from by decide +kernel))) | exact ropw_of (rop_pure rfl (pu_load_var (OT.tmp rfl) (by first | exact mem_at 0 rfl | exact mem_at 1 rfl | exact mem_at 2 rfl | exact mem_at 3 rfl | exact mem_at 4 rfl | exact mem_at 5 rfl) (show tyOk Try.prog 3 _ _ = true from by decide +kernel))) | exact ropw_of (rop_pure rfl (pu_load_own0 (OT.tmp rfl) (by first | exact mem_at 0 rfl | exact mem_at 1 rfl | exact mem_at 2 rfl | exact mem_at 3 rfl | exact mem_at 4 rfl | exact mem_at 5 rfl) (by first | omega | assumption | (simp; omega) | (simp [maxLen]; omega) | (simp [maxLen] at *; omega)) (by first | omega | assumption | (simp; omega) | (simp [maxLen]; omega) | (simp [maxLen] at *; omega)) (show tyOk Try.prog 3 _ _ = true from by decide +kernel))) | exact ropw_of (rop_pure rfl (pu_load_arr (OT.tmp rfl) (by first | exact mem_at 0 rfl | exact mem_at 1 rfl | exact mem_at 2 rfl | exact mem_at 3 rfl | exact mem_at 4 rfl | exact mem_at 5 rfl) (show tyOk Try.prog 3 _ _ = true from by decide +kernel) (by first | omega | assumption | (simp; omega) | (simp [maxLen]; omega) | (simp [maxLen] at *; omega)) (by first | omega | assumption | (simp; omega) | (simp [maxLen]; omega) | (simp [maxLen] at *; omega)))) | exact ropw_of (rop_pure rfl (pu_load_p0 (OT.tmp rfl) (by first | exact mem_at 0 rfl | exact mem_at 1 rfl | exact mem_at 2 rfl | exact mem_at 3 rfl | exact mem_at 4 rfl | exact mem_at 5 rfl) (show tyOk Try.prog 3 _ _ = true from by decide +kernel))) | exact ropw_of (rop_pure rfl (pu_load_p1 (OT.tmp rfl) (by first | exact mem_at 0 rfl | exact mem_at 1 rfl | exact mem_at 2 rfl | exact mem_at 3 rfl | exact mem_at 4 rfl | exact mem_at 5 rfl) (show tyOk Try.prog 3 _ _ = true from by decide +kernel))) | exact ropw_of (rop_pure rfl (pu_load_q (OT.tmp rfl) (by first | exact mem_at 0 rfl | exact mem_at 1 rfl | exact mem_at 2 rfl | exact mem_at 3 rfl | exact mem_at 4 rfl | exact mem_at 5 rfl) (by first | omega | assumption | (simp; omega) | (simp [maxLen]; omega) | (simp [maxLen] at *; omega)) (by first | omega | assumption | (simp; omega) | (simp [maxLen]; omega) | (simp [maxLen] at *; omega)) (show tyOk Try.prog 3 _ _ = true from by decide +kernel)))
          · exact Bool.noConfusion (hc.symm.trans (by kernel_rfl : okFlag _ _ _ _ = false))
        · intro c hc; cases c
          · first | exact ropw_of (rop_pure rfl (pu_move (OT.tmp rfl)))
          · exact Bool.noConfusion (hc.symm.trans (by kernel_rfl : okFlag _ _ _ _ = false))
        · intro c hc; cases c
          · first | exact ropw_of (rop_pure rfl (pu_move (OT.tmp rfl)))
          · exact Bool.noConfusion (hc.symm.trans (by kernel_rfl : okFlag _ _ _ _ = false))
        · intro c hc; cases c
          · first | exact ropw_of (rop_pure rfl (pu_index (OT.tmp rfl) (OT.tmp rfl) Try.underlying25 (show tyOk Try.prog 3 _ _ = true from by decide +kernel) (by first | omega | assumption | (simp; omega) | (simp [maxLen]; omega) | (simp [maxLen] at *; omega)) (by first | omega | assumption | (simp; omega) | (simp [maxLen]; omega) | (simp [maxLen] at *; omega)))) | exact ropw_of (rop_pure rfl (pu_index_own (OT.tmp rfl) (by first | exact mem_at 0 rfl | exact mem_at 1 rfl | exact mem_at 2 rfl | exact mem_at 3 rfl | exact mem_at 4 rfl | exact mem_at 5 rfl) (OT.tmp rfl) Try.underlying25 (show tyOk Try.prog 3 _ _ = true from by decide +kernel) (by first | omega | assumption | (simp; omega) | (simp [maxLen]; omega) | (simp [maxLen] at *; omega)) (by first | omega | assumption | (simp; omega) | (simp [maxLen]; omega) | (simp [maxLen] at *; omega)))) | exact ropw_of (rop_pure rfl (pu_index_q (OT.tmp rfl) (by first | exact mem_at 0 rfl | exact mem_at 1 rfl | exact mem_at 2 rfl | exact mem_at 3 rfl | exact mem_at 4 rfl | exact mem_at 5 rfl) (OT.tmp rfl) Try.underlying25 (show tyOk Try.prog 3 _ _ = true from by decide +kernel) (by first | omega | assumption | (simp; omega) | (simp [maxLen]; omega) | (simp [maxLen] at *; omega)) (by first | omega | assumption | (simp; omega) | (simp [maxLen]; omega) | (simp [maxLen] at *; omega))))
          · exact Bool.noConfusion (hc.symm.trans (by kernel_rfl : okFlag _ _ _ _ = false))
        · intro c hc; cases c
          · first | exact ropw_of (rop_pure rfl (pu_load (OT.tmp rfl) (show tyOk Try.prog 3 _ _ = true from by decide +kernel))) | exact ropw_of (rop_pure rfl (pu_load_var (OT.tmp rfl) (by first | exact mem_at 0 rfl | exact mem_at 1 rfl | exact mem_at 2 rfl | exact mem_at 3 rfl | exact mem_at 4 rfl | exact mem_at 5 rfl) (show tyOk Try.prog 3 _ _ = true from by decide +kernel))) | exact ropw_of (rop_pure rfl (pu_load_own0 (OT.tmp rfl) (by first | exact mem_at 0 rfl | exact mem_at 1 rfl | exact mem_at 2 rfl | exact mem_at 3 rfl | exact mem_at 4 rfl | exact mem_at 5 rfl) (by first | omega | assumption | (simp; omega) | (simp [maxLen]; omega) | (simp [maxLen] at *; omega)) (by first | omega | assumption | (simp; omega) | (simp [maxLen]; omega) | (simp [maxLen] at *; omega)) (show tyOk Try.prog 3 _ _ = true from by decide +kernel))) | exact ropw_of (rop_pure rfl (pu_load_arr (OT.tmp rfl) (by first | exact mem_at 0 rfl | exact mem_at 1 rfl | exact mem_at 2 rfl | exact mem_at 3 rfl | exact mem_at 4 rfl | exact mem_at 5 rfl) (show tyOk Try.prog 3 _ _ = true from by decide +kernel) (by first | omega | assumption | (simp; omega) | (simp [maxLen]; omega) | (simp [maxLen] at *; omega)) (by first | omega | assumption | (simp; omega) | (simp [maxLen]; omega) | (simp [maxLen] at *; omega)))) | exact ropw_of (rop_pure rfl (pu_load_p0 (OT.tmp rfl) (by first | exact mem_at 0 rfl | exact mem_at 1 rfl | exact mem_at 2 rfl | exact mem_at 3 rfl | exact mem_at 4 rfl | exact mem_at 5 rfl) (show tyOk Try.prog 3 _ _ = true from by decide +kernel))) | exact ropw_of (rop_pure rfl (pu_load_p1 (OT.tmp rfl) (by first | exact mem_at 0 rfl | exact mem_at 1 rfl | exact mem_at 2 rfl | exact mem_at 3 rfl | exact mem_at 4 rfl | exact mem_at 5 rfl) (show tyOk Try.prog 3 _ _ = true from by decide +kernel))) | exact ropw_of (rop_pure rfl (pu_load_q (OT.tmp rfl) (by first | exact mem_at 0 rfl | exact mem_at 1 rfl | exact mem_at 2 rfl | exact mem_at 3 rfl | exact mem_at 4 rfl | exact mem_at 5 rfl) (by first | omega | assumption | (simp; omega) | (simp [maxLen]; omega) | (simp [maxLen] at *; omega)) (by first | omega | assumption | (simp; omega) | (simp [maxLen]; omega) | (simp [maxLen] at *; omega)) (show tyOk Try.prog 3 _ _ = true from by decide +kernel)))
          · exact Bool.noConfusion (hc.symm.trans (by kernel_rfl : okFlag _ _ _ _ = false))
        · intro c hc; cases c
          · first | exact ropw_of (rop_pure rfl (pu_index (OT.tmp rfl) (OT.tmp rfl) Try.underlying25 (show tyOk Try.prog 3 _ _ = true from by decide +kernel) (by first | omega | assumption | (simp; omega) | (simp [maxLen]; omega) | (simp [maxLen] at *; omega)) (by first | omega | assumption | (simp; omega) | (simp [maxLen]; omega) | (simp [maxLen] at *; omega)))) | exact ropw_of (rop_pure rfl (pu_index_own (OT.tmp rfl) (by first | exact mem_at 0 rfl | exact mem_at 1 rfl | exact mem_at 2 rfl | exact mem_at 3 rfl | exact mem_at 4 rfl | exact mem_at 5 rfl) (OT.tmp rfl) Try.underlying25 (show tyOk Try.prog 3 _ _ = true from by decide +kernel) (by first | omega | assumption | (simp; omega) | (simp [maxLen]; omega) | (simp [maxLen] at *; omega)) (by first | omega | assumption | (simp; omega) | (simp [maxLen]; omega) | (simp [maxLen] at *; omega)))) | exact ropw_of (rop_pure rfl (pu_index_q (OT.tmp rfl) (by first | exact mem_at 0 rfl | exact mem_at 1 rfl | exact mem_at 2 rfl | exact mem_at 3 rfl | exact mem_at 4 rfl | exact mem_at 5 rfl) (OT.tmp rfl) Try.underlying25 (show tyOk Try.prog 3 _ _ = true from by decide +kernel) (by first | omega | assumption | (simp; omega) | (simp [maxLen]; omega) | (simp [maxLen] at *; omega)) (by first | omega | assumption | (simp; omega) | (simp [maxLen]; omega) | (simp [maxLen] at *; omega))))
          · exact Bool.noConfusion (hc.symm.trans (by kernel_rfl : okFlag _ _ _ _ = false))
        · intro c hc; cases c
          · exact ropw_acts rfl (acts_store_own0 (OT.tmp rfl) (OT.tmp rfl) (by first | exact perm_at 0 rfl | exact perm_at 1 rfl | exact perm_at 2 rfl | exact perm_at 3 rfl | exact perm_at 4 rfl | exact perm_at 5 rfl) (by first | omega | assumption | (simp; omega) | (simp [maxLen]; omega) | (simp [maxLen] at *; omega)) (by first | omega | assumption | (simp; omega) | (simp [maxLen]; omega) | (simp [maxLen] at *; omega)) (show tyOk Try.prog 3 _ _ = true from by decide +kernel)) (by first | exact perm_at 0 rfl | exact perm_at 1 rfl | exact perm_at 2 rfl | exact perm_at 3 rfl | exact perm_at 4 rfl | exact perm_at 5 rfl) (fun _ => (by first | exact perm_at 0 rfl | exact perm_at 1 rfl | exact perm_at 2 rfl | exact perm_at 3 rfl | exact perm_at 4 rfl | exact perm_at 5 rfl)) (fun _ _ _ _ h => h)
          · exact Bool.noConfusion (hc.symm.trans (by kernel_rfl : okFlag _ _ _ _ = false))
      case h =>
        first
        | refine op_pure (pu_index (OT.tmp rfl) (OT.tmp rfl) Try.underlying25 (show tyOk Try.prog 3 _ _ = true from by decide +kernel) (by first | omega | assumption | (simp; omega) | (simp [maxLen]; omega) | (simp [maxLen] at *; omega)) (by first | omega | assumption | (simp; omega) | (simp [maxLen]; omega) | (simp [maxLen] at *; omega))) rfl rfl ?_
        | refine op_pure (pu_index_own (OT.tmp rfl) (by first | exact mem_at 0 rfl | exact mem_at 1 rfl | exact mem_at 2 rfl | exact mem_at 3 rfl | exact mem_at 4 rfl | exact mem_at 5 rfl) (OT.tmp rfl) Try.underlying25 (show tyOk Try.prog 3 _ _ = true from by decide +kernel) (by first | omega | assumption | (simp; omega) | (simp [maxLen]; omega) | (simp [maxLen] at *; omega)) (by first | omega | assumption | (simp; omega) | (simp [maxLen]; omega) | (simp [maxLen] at *; omega))) rfl rfl ?_
        | refine op_pure (pu_index_q (OT.tmp rfl) (by first | exact mem_at 0 rfl | exact mem_at 1 rfl | exact mem_at 2 rfl | exact mem_at 3 rfl | exact mem_at 4 rfl | exact mem_at 5 rfl) (OT.tmp rfl) Try.underlying25 (show tyOk Try.prog 3 _ _ = true from by decide +kernel) (by first | omega | assumption | (simp; omega) | (simp [maxLen]; omega) | (simp [maxLen] at *; omega)) (by first | omega | assumption | (simp; omega) | (simp [maxLen]; omega) | (simp [maxLen] at *; omega))) rfl rfl ?_
        first
        | refine op_acts (acts_store_var (OT.tmp rfl) (OT.tmp rfl) (by first | exact perm_at 0 rfl | exact perm_at 1 rfl | exact perm_at 2 rfl | exact perm_at 3 rfl | exact perm_at 4 rfl | exact perm_at 5 rfl) (show tyOk Try.prog 3 _ _ = true from by decide +kernel)) (by first | exact perm_at 0 rfl | exact perm_at 1 rfl | exact perm_at 2 rfl | exact perm_at 3 rfl | exact perm_at 4 rfl | exact perm_at 5 rfl) rfl rfl (fun _ _ => ?_)
        | refine op_acts (acts_store_own0 (OT.tmp rfl) (OT.tmp rfl) (by first | exact perm_at 0 rfl | exact perm_at 1 rfl | exact perm_at 2 rfl | exact perm_at 3 rfl | exact perm_at 4 rfl | exact perm_at 5 rfl) (by first | omega | assumption | (simp; omega) | (simp [maxLen]; omega) | (simp [maxLen] at *; omega)) (by first | omega | assumption | (simp; omega) | (simp [maxLen]; omega) | (simp [maxLen] at *; omega)) (show tyOk Try.prog 3 _ _ = true from by decide +kernel)) (by first | exact perm_at 0 rfl | exact perm_at 1 rfl | exact perm_at 2 rfl | exact perm_at 3 rfl | exact perm_at 4 rfl | exact perm_at 5 rfl) rfl rfl (fun _ _ => ?_)
        | refine op_acts (acts_store_arr (OT.tmp rfl) (OT.tmp rfl) (by first | exact perm_at 0 rfl | exact perm_at 1 rfl | exact perm_at 2 rfl | exact perm_at 3 rfl | exact perm_at 4 rfl | exact perm_at 5 rfl) (show tyOk Try.prog 3 _ _ = true from by decide +kernel) (by first | omega | assumption | (simp; omega) | (simp [maxLen]; omega) | (simp [maxLen] at *; omega)) (by first | omega | assumption | (simp; omega) | (simp [maxLen]; omega) | (simp [maxLen] at *; omega))) (by first | exact perm_at 0 rfl | exact perm_at 1 rfl | exact perm_at 2 rfl | exact perm_at 3 rfl | exact perm_at 4 rfl | exact perm_at 5 rfl) rfl rfl (fun _ _ => ?_)
        refine tr_nil ?_
        refine block_normal ?_
        refine then_normal ?_
        -- region 2
        refine tr_env (es_cons (t := 0) (OT.tmp rfl) (es_cons (t := 2) (OT.tmp rfl) (es_cons (t := 3) (OT.tmp rfl) es_nil))) ?_
        refine tr_region ?_
        refine op_pure (pu_move (OT.tmp rfl)) rfl rfl ?_
        first
        | refine op_pure (pu_add' (OT.tmp rfl) OT.const (by first | omega | assumption | (simp; omega) | (simp [maxLen]; omega) | (simp [maxLen] at *; omega))) rfl rfl ?_
        | refine op_pure (pu_add (OT.tmp rfl) OT.const) rfl rfl ?_
        | refine op_pure (pu_str_add (OT.tmp rfl) OT.const (by first | omega | assumption | (simp; omega) | (simp [maxLen]; omega) | (simp [maxLen] at *; omega))) rfl rfl ?_
        refine op_pure (pu_move (OT.tmp rfl)) rfl rfl ?_
        first
        | refine op_pure (pu_sub' (OT.tmp rfl) OT.const (by first | omega | assumption | (simp; omega) | (simp [maxLen]; omega) | (simp [maxLen] at *; omega))) rfl rfl ?_
        | refine op_pure (pu_sub (OT.tmp rfl) OT.const) rfl rfl ?_
        refine op_pure (pu_assign (OT.tmp rfl)) rfl rfl ?_
        refine op_pure (pu_assign (OT.tmp rfl)) rfl rfl ?_
        refine tr_nil ?_
        refine then_normal ?_
        exact tr_again (k + 1) (by first | omega | assumption | (simp; omega) | (simp [maxLen]; omega) | (simp [maxLen] at *; omega)) (by first | omega | assumption | (simp; omega) | (simp [maxLen]; omega) | (simp [maxLen] at *; omega)) (es_append (es_cons (t := 2) (by first | exact OT.tmp rfl | exact OT.val (OT.tmp rfl) (congrArg (Value.int _) (by first | omega | (simp; omega) | simp))) (es_cons (t := 3) (by first | exact OT.tmp rfl | exact OT.val (OT.tmp rfl) (congrArg (Value.int _) (by first | omega | (simp; omega) | simp))) es_nil)) (es_cons (t := 0) (OT.tmp rfl) es_nil)) (own_picks (by rw [revTo_succ xs k (by omega)]; exact (by repeat (first | exact picks_nil | refine picks_cons 0 rfl ?_ | refine picks_cons 1 rfl ?_ | refine picks_cons 2 rfl ?_ | refine picks_cons 3 rfl ?_ | refine picks_cons 4 rfl ?_ | refine picks_cons 5 rfl ?_ | refine picks_cons 6 rfl ?_))))
    · try simp only [decide_eq_true_eq, decide_eq_false_iff_not, Bool.or_eq_true, Bool.and_eq_true, Bool.or_eq_false_iff, Bool.and_eq_false_iff, Bool.not_eq_true', Bool.not_eq_false', ne_eq, Classical.not_not] at c9
      have hd := revTo_done (xs := xs) (k := k) (by omega) (by omega)
      refine tr_exit ?_
      refine then_exit ?_
      refine then_exit ?_
      refine block_hit ?_
      exact ret_none .normal (.inr rfl) rfl () (fun _ => trivial) trivial (by rw [← hd]; repeat (first | exact picks_nil | refine picks_cons 0 rfl ?_))
end Go.Proofs.Ytloblpklkhepbaa
