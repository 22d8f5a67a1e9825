/- Walks through the Go functions wait.rows).closed, wait.rows).caught, wait.Caught, wait.Caught, rhizomelaw17.own, as typed contracts. -/
import Derived.Test.YtloblpklkhepbaaWt1
namespace Go.Proofs.Ytloblpklkhepbaa
open Go Go.Gw Go.Wt
set_option linter.unusedVariables false
set_option linter.unusedSimpArgs false
abbrev kI : Kd Int := kint .i64
theorem z3 : ZeroOf Try.prog 3 kI 0 := ⟨.int .i64 0, by kernel_rfl, fun H => rfl⟩
theorem z4 : ZeroOf Try.prog 4 kbool false := ⟨.bool false, by kernel_rfl, fun H => rfl⟩

set_option maxRecDepth 20000 in
/-- (rhizome/wait.rows).closed -/
theorem closed_fn (r : List Nat) (hs : Small r) : Ct Try.prog 66 [kRows.T r] ([]) Unit (fun _ => kRows.T (closedOf r)) (fun _ => []) (fun _ => True) := by
  refine fn_intro Try.func66 rfl rfl ?_
  intro H w
  refine tr_seq ?_
  -- region 0
  refine tr_env (es_cons (t := 0) (OT.tmp rfl) es_nil) ?_
  refine tr_region ?_
  refine op_acts (acts_box (OT.tmp rfl)) (List.Perm.refl _) rfl rfl (fun g0_0 _ => ?_)
  refine op_acts (acts_alloc (z69)) (List.Perm.refl _) rfl rfl (fun g0_1 _ => ?_)
  refine tr_nil ?_
  refine then_normal ?_
  refine tr_seq ?_
  refine tr_seq ?_
  -- region 1
  refine tr_env (es_cons (t := 1) (OT.tmp rfl) (es_cons (t := 2) (OT.tmp rfl) es_nil)) ?_
  refine tr_region ?_
  refine op_pure (pu_assign OT.const) rfl rfl ?_
  refine tr_nil ?_
  refine then_normal ?_
  refine tr_block ?_
  refine tr_loopK (σ := Nat) (es_cons (t := 1) (OT.tmp rfl) (es_cons (t := 2) (OT.tmp rfl) es_nil)) (fun k => [(3, I64 ((k : Int) + 1))]) (fun k => [BlkI g0_0 69 kRows (closeK r k), BlkI g0_1 69 kRows (List.replicate 17 0)]) (fun k => k ≤ 16) (fun k => 16 - k) 0 (by simp) ?_ (own_picks (by repeat (first | exact picks_nil | refine picks_cons 0 rfl ?_ | refine picks_cons 1 rfl ?_ | refine picks_cons 2 rfl ?_ | refine picks_cons 3 rfl ?_ | refine picks_cons 4 rfl ?_ | refine picks_cons 5 rfl ?_ | refine picks_cons 6 rfl ?_))) ?_
  · exact (es_cons (t := 3) (by first | exact OT.tmp rfl | exact OT.val (OT.tmp rfl) (congrArg (Value.int _) (by first | omega | (simp; omega) | simp))) es_nil)
  · rintro k hk
    have hK := small_closeK hs k
    refine tr_seq ?_
    refine tr_seq ?_
    -- region 2
    refine tr_env (es_cons (t := 1) (OT.tmp rfl) (es_cons (t := 2) (OT.tmp rfl) (es_cons (t := 3) (OT.tmp rfl) es_nil))) ?_
    refine tr_region ?_
    refine op_pure (pu_move (OT.tmp rfl)) rfl rfl ?_
    refine op_pure (pu_lss (OT.tmp rfl) OT.const) rfl rfl ?_
    refine tr_nil ?_
    refine then_normal ?_
    refine tr_cond (OT.tmp rfl) (fun c6 => ?_) (fun c6 => ?_)
    · try simp only [decide_eq_true_eq, decide_eq_false_iff_not, Bool.or_eq_true, Bool.and_eq_true, Bool.or_eq_false_iff, Bool.and_eq_false_iff, Bool.not_eq_true', Bool.not_eq_false', ne_eq, Classical.not_not] at c6
      refine tr_skip ?_
      refine then_normal ?_
      refine tr_seq ?_
      refine tr_block ?_
      refine tr_seq ?_
      -- region 4
      refine tr_env (es_cons (t := 1) (OT.tmp rfl) (es_cons (t := 2) (OT.tmp rfl) (es_cons (t := 3) (OT.tmp rfl) es_nil))) ?_
      refine tr_region ?_
      refine op_pure (pu_assign OT.const) rfl rfl ?_
      refine tr_nil ?_
      refine then_normal ?_
      refine tr_block ?_
      refine tr_loopK (σ := Nat) (es_cons (t := 1) (OT.tmp rfl) (es_cons (t := 2) (OT.tmp rfl) (es_cons (t := 3) (OT.tmp rfl) es_nil))) (fun i => [(4, I64 ((i : Int) + 1))]) (fun i => [BlkI g0_0 69 kRows (closeI ((k : Int) + 1) (closeK r k) i), BlkI g0_1 69 kRows (List.replicate 17 0)]) (fun i => i ≤ 16) (fun i => 16 - i) 0 (by simp) ?_ (own_picks (by repeat (first | exact picks_nil | refine picks_cons 0 rfl ?_ | refine picks_cons 1 rfl ?_ | refine picks_cons 2 rfl ?_ | refine picks_cons 3 rfl ?_ | refine picks_cons 4 rfl ?_ | refine picks_cons 5 rfl ?_ | refine picks_cons 6 rfl ?_))) ?_
      · exact (es_cons (t := 4) (by first | exact OT.tmp rfl | exact OT.val (OT.tmp rfl) (congrArg (Value.int _) (by first | omega | (simp; omega) | simp))) es_nil)
      · rintro i hi
        have hI := small_closeI (k := (k : Int) + 1) hK i
        have hb1 := hI.at_ ((i : Int) + 1)
        have hb2 := hI.at_ ((k : Int) + 1)
        refine tr_seq ?_
        refine tr_seq ?_
        -- region 5
        refine tr_env (es_cons (t := 1) (OT.tmp rfl) (es_cons (t := 2) (OT.tmp rfl) (es_cons (t := 3) (OT.tmp rfl) (es_cons (t := 4) (OT.tmp rfl) es_nil)))) ?_
        refine tr_region ?_
        refine op_pure (pu_move (OT.tmp rfl)) rfl rfl ?_
        refine op_pure (pu_lss (OT.tmp rfl) OT.const) rfl rfl ?_
        refine tr_nil ?_
        refine then_normal ?_
        refine tr_cond (OT.tmp rfl) (fun c10 => ?_) (fun c10 => ?_)
        · try simp only [decide_eq_true_eq, decide_eq_false_iff_not, Bool.or_eq_true, Bool.and_eq_true, Bool.or_eq_false_iff, Bool.and_eq_false_iff, Bool.not_eq_true', Bool.not_eq_false', ne_eq, Classical.not_not] at c10
          refine tr_skip ?_
          refine then_normal ?_
          refine tr_seq ?_
          refine tr_block ?_
          refine tr_seq ?_
          -- region 7
          refine tr_env (es_cons (t := 1) (OT.tmp rfl) (es_cons (t := 2) (OT.tmp rfl) (es_cons (t := 3) (OT.tmp rfl) (es_cons (t := 4) (OT.tmp rfl) es_nil)))) ?_
          refine tr_region ?_
          refine op_pure (pu_move (OT.tmp rfl)) rfl rfl ?_
          first
          | refine op_pure (pu_index_var (OT.tmp rfl) (by first | exact mem_at 0 rfl | exact mem_at 1 rfl | exact mem_at 2 rfl | exact mem_at 3 rfl | exact mem_at 4 rfl | exact mem_at 5 rfl) (OT.tmp rfl) Try.underlying69 (show tyOk Try.prog 67 _ _ = true from by decide +kernel) (by first | omega | assumption | (simp; omega) | (simp [maxLen]; omega) | (simp [maxLen] at *; omega)) (by first | omega | assumption | (simp; omega) | (simp [maxLen]; omega) | (simp [maxLen] at *; omega))) rfl rfl ?_
          | refine op_pure (pu_index_at (OT.tmp rfl) (OT.tmp rfl) Try.underlying69 (show tyOk Try.prog 67 _ _ = true from by decide +kernel) (by first | omega | assumption | (simp; omega) | (simp [maxLen]; omega) | (simp [maxLen] at *; omega)) (by first | omega | assumption | (simp; omega) | (simp [maxLen]; omega) | (simp [maxLen] at *; omega))) rfl rfl ?_
          first
          | refine op_pure (pu_load (OT.tmp rfl) (show tyOk Try.prog 67 _ _ = true from by decide +kernel)) rfl rfl ?_
          | refine op_pure (pu_load_var (OT.tmp rfl) (by first | exact mem_at 0 rfl | exact mem_at 1 rfl | exact mem_at 2 rfl | exact mem_at 3 rfl | exact mem_at 4 rfl | exact mem_at 5 rfl) (show tyOk Try.prog 67 _ _ = true from by decide +kernel)) rfl rfl ?_
          | refine op_pure (pu_load_own0 (OT.tmp rfl) (by first | exact mem_at 0 rfl | exact mem_at 1 rfl | exact mem_at 2 rfl | exact mem_at 3 rfl | exact mem_at 4 rfl | exact mem_at 5 rfl) (by first | omega | assumption | (simp; omega) | (simp [maxLen]; omega) | (simp [maxLen] at *; omega)) (by first | omega | assumption | (simp; omega) | (simp [maxLen]; omega) | (simp [maxLen] at *; omega)) (show tyOk Try.prog 67 _ _ = true from by decide +kernel)) rfl rfl ?_
          | refine op_pure (pu_load_arr (OT.tmp rfl) (by first | exact mem_at 0 rfl | exact mem_at 1 rfl | exact mem_at 2 rfl | exact mem_at 3 rfl | exact mem_at 4 rfl | exact mem_at 5 rfl) (show tyOk Try.prog 67 _ _ = true from by decide +kernel) (by first | omega | assumption | (simp; omega) | (simp [maxLen]; omega) | (simp [maxLen] at *; omega)) (by first | omega | assumption | (simp; omega) | (simp [maxLen]; omega) | (simp [maxLen] at *; omega))) rfl rfl ?_
          | refine op_pure (pu_load_p0 (OT.tmp rfl) (by first | exact mem_at 0 rfl | exact mem_at 1 rfl | exact mem_at 2 rfl | exact mem_at 3 rfl | exact mem_at 4 rfl | exact mem_at 5 rfl) (show tyOk Try.prog 67 _ _ = true from by decide +kernel)) rfl rfl ?_
          | refine op_pure (pu_load_p1 (OT.tmp rfl) (by first | exact mem_at 0 rfl | exact mem_at 1 rfl | exact mem_at 2 rfl | exact mem_at 3 rfl | exact mem_at 4 rfl | exact mem_at 5 rfl) (show tyOk Try.prog 67 _ _ = true from by decide +kernel)) rfl rfl ?_
          | refine op_pure (pu_load_q (OT.tmp rfl) (by first | exact mem_at 0 rfl | exact mem_at 1 rfl | exact mem_at 2 rfl | exact mem_at 3 rfl | exact mem_at 4 rfl | exact mem_at 5 rfl) (by first | omega | assumption | (simp; omega) | (simp [maxLen]; omega) | (simp [maxLen] at *; omega)) (by first | omega | assumption | (simp; omega) | (simp [maxLen]; omega) | (simp [maxLen] at *; omega)) (show tyOk Try.prog 67 _ _ = true from by decide +kernel)) rfl rfl ?_
          refine op_pure (pu_move (OT.tmp rfl)) rfl rfl ?_
          refine op_pure (pu_shr (OT.tmp rfl) (OT.tmp rfl) (by first | omega | assumption | (simp; omega) | (simp [maxLen]; omega) | (simp [maxLen] at *; omega))) rfl rfl ?_
          refine op_pure (pu_bits (OT.tmp rfl) OT.const (by simp)) rfl rfl ?_
          refine op_pure (Pure.val (pu_eql (OT.tmp rfl) OT.const) (congrArg Value.bool (test_bit (by omega) (by omega) (by omega)))) rfl rfl ?_
          refine tr_nil ?_
          refine then_normal ?_
          refine tr_cond (OT.tmp rfl) (fun c19 => ?_) (fun c19 => ?_)
          · try simp only [decide_eq_true_eq, decide_eq_false_iff_not, Bool.or_eq_true, Bool.and_eq_true, Bool.or_eq_false_iff, Bool.and_eq_false_iff, Bool.not_eq_true', Bool.not_eq_false', ne_eq, Classical.not_not] at c19
            -- region 8
            refine tr_env (es_cons (t := 1) (OT.tmp rfl) (es_cons (t := 2) (OT.tmp rfl) (es_cons (t := 3) (OT.tmp rfl) (es_cons (t := 4) (OT.tmp rfl) es_nil)))) ?_
            apply tr_any (m := 6) (ns := [[(4, none)], [(1, none), (20, some 0)], [(21, some 1)], [(3, none)], [(1, none), (23, some 3)], [(24, some 4)]]) (by kernel_rfl) (by kernel_rfl) (Ts := [_, _, _, _, _, _]) rfl
            case hops =>
              refine ⟨?_, ⟨?_, ⟨?_, ⟨?_, ⟨?_, ⟨?_, trivial⟩⟩⟩⟩⟩⟩
              · exact rop_pure rfl (pu_move (OT.tmp rfl))
              · first | exact rop_pure rfl (pu_index_var (OT.tmp rfl) (by first | exact mem_at 0 rfl | exact mem_at 1 rfl | exact mem_at 2 rfl | exact mem_at 3 rfl | exact mem_at 4 rfl | exact mem_at 5 rfl) (OT.tmp rfl) Try.underlying69 (show tyOk Try.prog 67 _ _ = true from by decide +kernel) (by first | omega | assumption | (simp; omega) | (simp [maxLen]; omega) | (simp [maxLen] at *; omega)) (by first | omega | assumption | (simp; omega) | (simp [maxLen]; omega) | (simp [maxLen] at *; omega))) | exact rop_pure rfl (pu_index_at (OT.tmp rfl) (OT.tmp rfl) Try.underlying69 (show tyOk Try.prog 67 _ _ = true from by decide +kernel) (by first | omega | assumption | (simp; omega) | (simp [maxLen]; omega) | (simp [maxLen] at *; omega)) (by first | omega | assumption | (simp; omega) | (simp [maxLen]; omega) | (simp [maxLen] at *; omega)))
              · first | exact rop_pure rfl (pu_load (OT.tmp rfl) (show tyOk Try.prog 67 _ _ = true from by decide +kernel)) | exact rop_pure rfl (pu_load_var (OT.tmp rfl) (by first | exact mem_at 0 rfl | exact mem_at 1 rfl | exact mem_at 2 rfl | exact mem_at 3 rfl | exact mem_at 4 rfl | exact mem_at 5 rfl) (show tyOk Try.prog 67 _ _ = true from by decide +kernel)) | exact rop_pure rfl (pu_load_own0 (OT.tmp rfl) (by first | exact mem_at 0 rfl | exact mem_at 1 rfl | exact mem_at 2 rfl | exact mem_at 3 rfl | exact mem_at 4 rfl | exact mem_at 5 rfl) (by first | omega | assumption | (simp; omega) | (simp [maxLen]; omega) | (simp [maxLen] at *; omega)) (by first | omega | assumption | (simp; omega) | (simp [maxLen]; omega) | (simp [maxLen] at *; omega)) (show tyOk Try.prog 67 _ _ = true from by decide +kernel)) | exact rop_pure rfl (pu_load_arr (OT.tmp rfl) (by first | exact mem_at 0 rfl | exact mem_at 1 rfl | exact mem_at 2 rfl | exact mem_at 3 rfl | exact mem_at 4 rfl | exact mem_at 5 rfl) (show tyOk Try.prog 67 _ _ = true from by decide +kernel) (by first | omega | assumption | (simp; omega) | (simp [maxLen]; omega) | (simp [maxLen] at *; omega)) (by first | omega | assumption | (simp; omega) | (simp [maxLen]; omega) | (simp [maxLen] at *; omega))) | exact rop_pure rfl (pu_load_p0 (OT.tmp rfl) (by first | exact mem_at 0 rfl | exact mem_at 1 rfl | exact mem_at 2 rfl | exact mem_at 3 rfl | exact mem_at 4 rfl | exact mem_at 5 rfl) (show tyOk Try.prog 67 _ _ = true from by decide +kernel)) | exact rop_pure rfl (pu_load_p1 (OT.tmp rfl) (by first | exact mem_at 0 rfl | exact mem_at 1 rfl | exact mem_at 2 rfl | exact mem_at 3 rfl | exact mem_at 4 rfl | exact mem_at 5 rfl) (show tyOk Try.prog 67 _ _ = true from by decide +kernel)) | exact rop_pure rfl (pu_load_q (OT.tmp rfl) (by first | exact mem_at 0 rfl | exact mem_at 1 rfl | exact mem_at 2 rfl | exact mem_at 3 rfl | exact mem_at 4 rfl | exact mem_at 5 rfl) (by first | omega | assumption | (simp; omega) | (simp [maxLen]; omega) | (simp [maxLen] at *; omega)) (by first | omega | assumption | (simp; omega) | (simp [maxLen]; omega) | (simp [maxLen] at *; omega)) (show tyOk Try.prog 67 _ _ = true from by decide +kernel))
              · exact rop_pure rfl (pu_move (OT.tmp rfl))
              · first | exact rop_pure rfl (pu_index_var (OT.tmp rfl) (by first | exact mem_at 0 rfl | exact mem_at 1 rfl | exact mem_at 2 rfl | exact mem_at 3 rfl | exact mem_at 4 rfl | exact mem_at 5 rfl) (OT.tmp rfl) Try.underlying69 (show tyOk Try.prog 67 _ _ = true from by decide +kernel) (by first | omega | assumption | (simp; omega) | (simp [maxLen]; omega) | (simp [maxLen] at *; omega)) (by first | omega | assumption | (simp; omega) | (simp [maxLen]; omega) | (simp [maxLen] at *; omega))) | exact rop_pure rfl (pu_index_at (OT.tmp rfl) (OT.tmp rfl) Try.underlying69 (show tyOk Try.prog 67 _ _ = true from by decide +kernel) (by first | omega | assumption | (simp; omega) | (simp [maxLen]; omega) | (simp [maxLen] at *; omega)) (by first | omega | assumption | (simp; omega) | (simp [maxLen]; omega) | (simp [maxLen] at *; omega)))
              · first | exact rop_pure rfl (pu_load (OT.tmp rfl) (show tyOk Try.prog 67 _ _ = true from by decide +kernel)) | exact rop_pure rfl (pu_load_var (OT.tmp rfl) (by first | exact mem_at 0 rfl | exact mem_at 1 rfl | exact mem_at 2 rfl | exact mem_at 3 rfl | exact mem_at 4 rfl | exact mem_at 5 rfl) (show tyOk Try.prog 67 _ _ = true from by decide +kernel)) | exact rop_pure rfl (pu_load_own0 (OT.tmp rfl) (by first | exact mem_at 0 rfl | exact mem_at 1 rfl | exact mem_at 2 rfl | exact mem_at 3 rfl | exact mem_at 4 rfl | exact mem_at 5 rfl) (by first | omega | assumption | (simp; omega) | (simp [maxLen]; omega) | (simp [maxLen] at *; omega)) (by first | omega | assumption | (simp; omega) | (simp [maxLen]; omega) | (simp [maxLen] at *; omega)) (show tyOk Try.prog 67 _ _ = true from by decide +kernel)) | exact rop_pure rfl (pu_load_arr (OT.tmp rfl) (by first | exact mem_at 0 rfl | exact mem_at 1 rfl | exact mem_at 2 rfl | exact mem_at 3 rfl | exact mem_at 4 rfl | exact mem_at 5 rfl) (show tyOk Try.prog 67 _ _ = true from by decide +kernel) (by first | omega | assumption | (simp; omega) | (simp [maxLen]; omega) | (simp [maxLen] at *; omega)) (by first | omega | assumption | (simp; omega) | (simp [maxLen]; omega) | (simp [maxLen] at *; omega))) | exact rop_pure rfl (pu_load_p0 (OT.tmp rfl) (by first | exact mem_at 0 rfl | exact mem_at 1 rfl | exact mem_at 2 rfl | exact mem_at 3 rfl | exact mem_at 4 rfl | exact mem_at 5 rfl) (show tyOk Try.prog 67 _ _ = true from by decide +kernel)) | exact rop_pure rfl (pu_load_p1 (OT.tmp rfl) (by first | exact mem_at 0 rfl | exact mem_at 1 rfl | exact mem_at 2 rfl | exact mem_at 3 rfl | exact mem_at 4 rfl | exact mem_at 5 rfl) (show tyOk Try.prog 67 _ _ = true from by decide +kernel)) | exact rop_pure rfl (pu_load_q (OT.tmp rfl) (by first | exact mem_at 0 rfl | exact mem_at 1 rfl | exact mem_at 2 rfl | exact mem_at 3 rfl | exact mem_at 4 rfl | exact mem_at 5 rfl) (by first | omega | assumption | (simp; omega) | (simp [maxLen]; omega) | (simp [maxLen] at *; omega)) (by first | omega | assumption | (simp; omega) | (simp [maxLen]; omega) | (simp [maxLen] at *; omega)) (show tyOk Try.prog 67 _ _ = true from by decide +kernel))
            case h =>
              refine op_pure (pu_bits (OT.tmp rfl) (OT.tmp rfl) (by simp)) rfl rfl ?_
              first
              | refine op_pure (pu_index_var (OT.tmp rfl) (by first | exact mem_at 0 rfl | exact mem_at 1 rfl | exact mem_at 2 rfl | exact mem_at 3 rfl | exact mem_at 4 rfl | exact mem_at 5 rfl) (OT.tmp rfl) Try.underlying69 (show tyOk Try.prog 67 _ _ = true from by decide +kernel) (by first | omega | assumption | (simp; omega) | (simp [maxLen]; omega) | (simp [maxLen] at *; omega)) (by first | omega | assumption | (simp; omega) | (simp [maxLen]; omega) | (simp [maxLen] at *; omega))) rfl rfl ?_
              | refine op_pure (pu_index_at (OT.tmp rfl) (OT.tmp rfl) Try.underlying69 (show tyOk Try.prog 67 _ _ = true from by decide +kernel) (by first | omega | assumption | (simp; omega) | (simp [maxLen]; omega) | (simp [maxLen] at *; omega)) (by first | omega | assumption | (simp; omega) | (simp [maxLen]; omega) | (simp [maxLen] at *; omega))) rfl rfl ?_
              refine op_acts (acts_store_arr (OT.tmp rfl) (u := at' (closeI ((k : Int) + 1) (closeK r k) i) ((i : Int) + 1) ||| at' (closeI ((k : Int) + 1) (closeK r k) i) ((k : Int) + 1)) (OT.val (OT.tmp rfl) (congrArg (Value.int _) (bitsV_or_nat (by omega) (by omega)))) (by first | exact perm_at 0 rfl | exact perm_at 1 rfl | exact perm_at 2 rfl | exact perm_at 3 rfl | exact perm_at 4 rfl | exact perm_at 5 rfl) (show tyOk Try.prog 67 _ _ = true from by decide +kernel) (by first | omega | assumption | (simp; omega) | (simp [maxLen]; omega) | (simp [maxLen] at *; omega)) (by first | omega | assumption | (simp; omega) | (simp [maxLen]; omega) | (simp [maxLen] at *; omega))) (by first | exact perm_at 0 rfl | exact perm_at 1 rfl | exact perm_at 2 rfl | exact perm_at 3 rfl | exact perm_at 4 rfl | exact perm_at 5 rfl) rfl rfl (fun _ _ => ?_)
              refine tr_nil ?_
              refine block_normal ?_
              refine then_normal ?_
              -- region 6
              refine tr_env (es_cons (t := 1) (OT.tmp rfl) (es_cons (t := 2) (OT.tmp rfl) (es_cons (t := 3) (OT.tmp rfl) (es_cons (t := 4) (OT.tmp rfl) es_nil)))) ?_
              refine tr_region ?_
              refine op_pure (pu_move (OT.tmp rfl)) rfl rfl ?_
              first
              | refine op_pure (pu_add' (OT.tmp rfl) OT.const (by first | omega | assumption | (simp; omega) | (simp [maxLen]; omega) | (simp [maxLen] at *; omega))) rfl rfl ?_
              | refine op_pure (pu_add (OT.tmp rfl) OT.const) rfl rfl ?_
              | refine op_pure (pu_str_add (OT.tmp rfl) OT.const (by first | omega | assumption | (simp; omega) | (simp [maxLen]; omega) | (simp [maxLen] at *; omega))) rfl rfl ?_
              refine op_pure (pu_assign (OT.tmp rfl)) rfl rfl ?_
              refine tr_nil ?_
              refine then_normal ?_
              exact tr_again (i + 1) (by first | omega | assumption | (simp; omega) | (simp [maxLen]; omega) | (simp [maxLen] at *; omega)) (by first | omega | assumption | (simp; omega) | (simp [maxLen]; omega) | (simp [maxLen] at *; omega)) (es_append (es_cons (t := 4) (by first | exact OT.tmp rfl | exact OT.val (OT.tmp rfl) (congrArg (Value.int _) (by first | omega | (simp; omega) | simp))) es_nil) (es_cons (t := 1) (OT.tmp rfl) (es_cons (t := 2) (OT.tmp rfl) (es_cons (t := 3) (OT.tmp rfl) es_nil)))) (own_picks (by rw [show closeI ((k : Int) + 1) (closeK r k) (i + 1) = (closeI ((k : Int) + 1) (closeK r k) i).set ((i : Int) + 1).toNat (at' (closeI ((k : Int) + 1) (closeK r k) i) ((i : Int) + 1) ||| at' (closeI ((k : Int) + 1) (closeK r k) i) ((k : Int) + 1)) from by rw [closeI, closeStep, if_pos c19]]; exact (by repeat (first | exact picks_nil | refine picks_cons 0 rfl ?_ | refine picks_cons 1 rfl ?_ | refine picks_cons 2 rfl ?_ | refine picks_cons 3 rfl ?_ | refine picks_cons 4 rfl ?_ | refine picks_cons 5 rfl ?_ | refine picks_cons 6 rfl ?_))))
          · try simp only [decide_eq_true_eq, decide_eq_false_iff_not, Bool.or_eq_true, Bool.and_eq_true, Bool.or_eq_false_iff, Bool.and_eq_false_iff, Bool.not_eq_true', Bool.not_eq_false', ne_eq, Classical.not_not] at c19
            refine tr_skip ?_
            refine block_normal ?_
            refine then_normal ?_
            -- region 6
            refine tr_env (es_cons (t := 1) (OT.tmp rfl) (es_cons (t := 2) (OT.tmp rfl) (es_cons (t := 3) (OT.tmp rfl) (es_cons (t := 4) (OT.tmp rfl) es_nil)))) ?_
            refine tr_region ?_
            refine op_pure (pu_move (OT.tmp rfl)) rfl rfl ?_
            first
            | refine op_pure (pu_add' (OT.tmp rfl) OT.const (by first | omega | assumption | (simp; omega) | (simp [maxLen]; omega) | (simp [maxLen] at *; omega))) rfl rfl ?_
            | refine op_pure (pu_add (OT.tmp rfl) OT.const) rfl rfl ?_
            | refine op_pure (pu_str_add (OT.tmp rfl) OT.const (by first | omega | assumption | (simp; omega) | (simp [maxLen]; omega) | (simp [maxLen] at *; omega))) rfl rfl ?_
            refine op_pure (pu_assign (OT.tmp rfl)) rfl rfl ?_
            refine tr_nil ?_
            refine then_normal ?_
            exact tr_again (i + 1) (by first | omega | assumption | (simp; omega) | (simp [maxLen]; omega) | (simp [maxLen] at *; omega)) (by first | omega | assumption | (simp; omega) | (simp [maxLen]; omega) | (simp [maxLen] at *; omega)) (es_append (es_cons (t := 4) (by first | exact OT.tmp rfl | exact OT.val (OT.tmp rfl) (congrArg (Value.int _) (by first | omega | (simp; omega) | simp))) es_nil) (es_cons (t := 1) (OT.tmp rfl) (es_cons (t := 2) (OT.tmp rfl) (es_cons (t := 3) (OT.tmp rfl) es_nil)))) (own_picks (by rw [show closeI ((k : Int) + 1) (closeK r k) (i + 1) = closeI ((k : Int) + 1) (closeK r k) i from by rw [closeI, closeStep, if_neg (by rw [c19]; exact Bool.false_ne_true)]]; exact (by repeat (first | exact picks_nil | refine picks_cons 0 rfl ?_ | refine picks_cons 1 rfl ?_ | refine picks_cons 2 rfl ?_ | refine picks_cons 3 rfl ?_ | refine picks_cons 4 rfl ?_ | refine picks_cons 5 rfl ?_ | refine picks_cons 6 rfl ?_))))
        · try simp only [decide_eq_true_eq, decide_eq_false_iff_not, Bool.or_eq_true, Bool.and_eq_true, Bool.or_eq_false_iff, Bool.and_eq_false_iff, Bool.not_eq_true', Bool.not_eq_false', ne_eq, Classical.not_not] at c10
          obtain rfl : i = 16 := by omega
          refine tr_exit ?_
          refine then_exit ?_
          refine then_exit ?_
          refine block_hit ?_
          refine block_normal ?_
          refine then_normal ?_
          -- region 3
          refine tr_env (es_cons (t := 1) (OT.tmp rfl) (es_cons (t := 2) (OT.tmp rfl) (es_cons (t := 3) (OT.tmp rfl) es_nil))) ?_
          refine tr_region ?_
          refine op_pure (pu_move (OT.tmp rfl)) rfl rfl ?_
          first
          | refine op_pure (pu_add' (OT.tmp rfl) OT.const (by first | omega | assumption | (simp; omega) | (simp [maxLen]; omega) | (simp [maxLen] at *; omega))) rfl rfl ?_
          | refine op_pure (pu_add (OT.tmp rfl) OT.const) rfl rfl ?_
          | refine op_pure (pu_str_add (OT.tmp rfl) OT.const (by first | omega | assumption | (simp; omega) | (simp [maxLen]; omega) | (simp [maxLen] at *; omega))) rfl rfl ?_
          refine op_pure (pu_assign (OT.tmp rfl)) rfl rfl ?_
          refine tr_nil ?_
          refine then_normal ?_
          exact tr_again (k + 1) (by first | omega | assumption | (simp; omega) | (simp [maxLen]; omega) | (simp [maxLen] at *; omega)) (by first | omega | assumption | (simp; omega) | (simp [maxLen]; omega) | (simp [maxLen] at *; omega)) (es_append (es_cons (t := 3) (by first | exact OT.tmp rfl | exact OT.val (OT.tmp rfl) (congrArg (Value.int _) (by first | omega | (simp; omega) | simp))) es_nil) (es_cons (t := 1) (OT.tmp rfl) (es_cons (t := 2) (OT.tmp rfl) es_nil))) (own_picks (by show Picks _ [BlkI _ _ kRows (closeI ((k : Int) + 1) (closeK r k) 16), _]; exact (by repeat (first | exact picks_nil | refine picks_cons 0 rfl ?_ | refine picks_cons 1 rfl ?_ | refine picks_cons 2 rfl ?_ | refine picks_cons 3 rfl ?_ | refine picks_cons 4 rfl ?_ | refine picks_cons 5 rfl ?_ | refine picks_cons 6 rfl ?_))))
    · try simp only [decide_eq_true_eq, decide_eq_false_iff_not, Bool.or_eq_true, Bool.and_eq_true, Bool.or_eq_false_iff, Bool.and_eq_false_iff, Bool.not_eq_true', Bool.not_eq_false', ne_eq, Classical.not_not] at c6
      obtain rfl : k = 16 := by omega
      refine tr_exit ?_
      refine then_exit ?_
      refine then_exit ?_
      refine block_hit ?_
      refine then_normal ?_
      refine tr_seq ?_
      -- region 9
      refine tr_env (es_cons (t := 1) (OT.tmp rfl) (es_cons (t := 2) (OT.tmp rfl) es_nil)) ?_
      refine tr_region ?_
      first
      | refine op_pure (pu_load (OT.tmp rfl) (show tyOk Try.prog 69 _ _ = true from by decide +kernel)) rfl rfl ?_
      | refine op_pure (pu_load_var (OT.tmp rfl) (by first | exact mem_at 0 rfl | exact mem_at 1 rfl | exact mem_at 2 rfl | exact mem_at 3 rfl | exact mem_at 4 rfl | exact mem_at 5 rfl) (show tyOk Try.prog 69 _ _ = true from by decide +kernel)) rfl rfl ?_
      | refine op_pure (pu_load_own0 (OT.tmp rfl) (by first | exact mem_at 0 rfl | exact mem_at 1 rfl | exact mem_at 2 rfl | exact mem_at 3 rfl | exact mem_at 4 rfl | exact mem_at 5 rfl) (by first | omega | assumption | (simp; omega) | (simp [maxLen]; omega) | (simp [maxLen] at *; omega)) (by first | omega | assumption | (simp; omega) | (simp [maxLen]; omega) | (simp [maxLen] at *; omega)) (show tyOk Try.prog 69 _ _ = true from by decide +kernel)) rfl rfl ?_
      | refine op_pure (pu_load_arr (OT.tmp rfl) (by first | exact mem_at 0 rfl | exact mem_at 1 rfl | exact mem_at 2 rfl | exact mem_at 3 rfl | exact mem_at 4 rfl | exact mem_at 5 rfl) (show tyOk Try.prog 69 _ _ = true from by decide +kernel) (by first | omega | assumption | (simp; omega) | (simp [maxLen]; omega) | (simp [maxLen] at *; omega)) (by first | omega | assumption | (simp; omega) | (simp [maxLen]; omega) | (simp [maxLen] at *; omega))) rfl rfl ?_
      | refine op_pure (pu_load_p0 (OT.tmp rfl) (by first | exact mem_at 0 rfl | exact mem_at 1 rfl | exact mem_at 2 rfl | exact mem_at 3 rfl | exact mem_at 4 rfl | exact mem_at 5 rfl) (show tyOk Try.prog 69 _ _ = true from by decide +kernel)) rfl rfl ?_
      | refine op_pure (pu_load_p1 (OT.tmp rfl) (by first | exact mem_at 0 rfl | exact mem_at 1 rfl | exact mem_at 2 rfl | exact mem_at 3 rfl | exact mem_at 4 rfl | exact mem_at 5 rfl) (show tyOk Try.prog 69 _ _ = true from by decide +kernel)) rfl rfl ?_
      | refine op_pure (pu_load_q (OT.tmp rfl) (by first | exact mem_at 0 rfl | exact mem_at 1 rfl | exact mem_at 2 rfl | exact mem_at 3 rfl | exact mem_at 4 rfl | exact mem_at 5 rfl) (by first | omega | assumption | (simp; omega) | (simp [maxLen]; omega) | (simp [maxLen] at *; omega)) (by first | omega | assumption | (simp; omega) | (simp [maxLen]; omega) | (simp [maxLen] at *; omega)) (show tyOk Try.prog 69 _ _ = true from by decide +kernel)) rfl rfl ?_
      first
      | refine op_acts (acts_store_var (OT.tmp rfl) (OT.tmp rfl) (by first | exact perm_at 0 rfl | exact perm_at 1 rfl | exact perm_at 2 rfl | exact perm_at 3 rfl | exact perm_at 4 rfl | exact perm_at 5 rfl) (show tyOk Try.prog 69 _ _ = true from by decide +kernel)) (by first | exact perm_at 0 rfl | exact perm_at 1 rfl | exact perm_at 2 rfl | exact perm_at 3 rfl | exact perm_at 4 rfl | exact perm_at 5 rfl) rfl rfl (fun _ _ => ?_)
      | refine op_acts (acts_store_own0 (OT.tmp rfl) (OT.tmp rfl) (by first | exact perm_at 0 rfl | exact perm_at 1 rfl | exact perm_at 2 rfl | exact perm_at 3 rfl | exact perm_at 4 rfl | exact perm_at 5 rfl) (by first | omega | assumption | (simp; omega) | (simp [maxLen]; omega) | (simp [maxLen] at *; omega)) (by first | omega | assumption | (simp; omega) | (simp [maxLen]; omega) | (simp [maxLen] at *; omega)) (show tyOk Try.prog 69 _ _ = true from by decide +kernel)) (by first | exact perm_at 0 rfl | exact perm_at 1 rfl | exact perm_at 2 rfl | exact perm_at 3 rfl | exact perm_at 4 rfl | exact perm_at 5 rfl) rfl rfl (fun _ _ => ?_)
      | refine op_acts (acts_store_arr (OT.tmp rfl) (OT.tmp rfl) (by first | exact perm_at 0 rfl | exact perm_at 1 rfl | exact perm_at 2 rfl | exact perm_at 3 rfl | exact perm_at 4 rfl | exact perm_at 5 rfl) (show tyOk Try.prog 69 _ _ = true from by decide +kernel) (by first | omega | assumption | (simp; omega) | (simp [maxLen]; omega) | (simp [maxLen] at *; omega)) (by first | omega | assumption | (simp; omega) | (simp [maxLen]; omega) | (simp [maxLen] at *; omega))) (by first | exact perm_at 0 rfl | exact perm_at 1 rfl | exact perm_at 2 rfl | exact perm_at 3 rfl | exact perm_at 4 rfl | exact perm_at 5 rfl) rfl rfl (fun _ _ => ?_)
      refine tr_nil ?_
      refine then_normal ?_
      refine tr_ret ?_
      exact ret_cell .ret (.inl rfl) rfl () (OT.tmp rfl) (by first | exact mem_at 0 rfl | exact mem_at 1 rfl | exact mem_at 2 rfl | exact mem_at 3 rfl | exact mem_at 4 rfl | exact mem_at 5 rfl) (show tyOk Try.prog 69 _ _ = true from by decide +kernel) rfl trivial (by repeat (first | exact picks_nil | refine picks_cons 0 rfl ?_ | refine picks_cons 1 rfl ?_ | refine picks_cons 2 rfl ?_ | refine picks_cons 3 rfl ?_ | refine picks_cons 4 rfl ?_ | refine picks_cons 5 rfl ?_ | refine picks_cons 6 rfl ?_))
set_option maxRecDepth 20000 in
/-- (rhizome/wait.rows).caught -/
theorem caught_fn (r : List Nat) (hs : Small r) : Ct Try.prog 45 [kRows.T r] ([]) Value (fun v => IsV v) (fun v => [OwnI 3 kI v (caughtOf r)]) (fun _ => True) := by
  refine fn_intro Try.func45 rfl rfl ?_
  intro H w
  refine tr_seq ?_
  -- region 0
  refine tr_env (es_cons (t := 0) (OT.tmp rfl) es_nil) ?_
  refine tr_region ?_
  refine op_acts (acts_box (OT.tmp rfl)) (List.Perm.refl _) rfl rfl (fun g0_0 _ => ?_)
  refine op_pure (pu_assign OT.const) rfl rfl ?_
  refine tr_nil ?_
  refine then_normal ?_
  refine tr_seq ?_
  -- region 1
  refine tr_env (es_cons (t := 1) (OT.tmp rfl) es_nil) ?_
  refine tr_region ?_
  refine op_pure (pu_assign OT.const) rfl rfl ?_
  refine tr_nil ?_
  refine then_normal ?_
  refine tr_seq ?_
  refine tr_seq ?_
  -- region 2
  refine tr_env (es_cons (t := 1) (OT.tmp rfl) (es_cons (t := 3) (OT.tmp rfl) es_nil)) ?_
  refine tr_region ?_
  first
  | refine op_pure (pu_load (OT.tmp rfl) (show tyOk Try.prog 69 _ _ = true from by decide +kernel)) rfl rfl ?_
  | refine op_pure (pu_load_var (OT.tmp rfl) (by first | exact mem_at 0 rfl | exact mem_at 1 rfl | exact mem_at 2 rfl | exact mem_at 3 rfl | exact mem_at 4 rfl | exact mem_at 5 rfl) (show tyOk Try.prog 69 _ _ = true from by decide +kernel)) rfl rfl ?_
  | refine op_pure (pu_load_own0 (OT.tmp rfl) (by first | exact mem_at 0 rfl | exact mem_at 1 rfl | exact mem_at 2 rfl | exact mem_at 3 rfl | exact mem_at 4 rfl | exact mem_at 5 rfl) (by first | omega | assumption | (simp; omega) | (simp [maxLen]; omega) | (simp [maxLen] at *; omega)) (by first | omega | assumption | (simp; omega) | (simp [maxLen]; omega) | (simp [maxLen] at *; omega)) (show tyOk Try.prog 69 _ _ = true from by decide +kernel)) rfl rfl ?_
  | refine op_pure (pu_load_arr (OT.tmp rfl) (by first | exact mem_at 0 rfl | exact mem_at 1 rfl | exact mem_at 2 rfl | exact mem_at 3 rfl | exact mem_at 4 rfl | exact mem_at 5 rfl) (show tyOk Try.prog 69 _ _ = true from by decide +kernel) (by first | omega | assumption | (simp; omega) | (simp [maxLen]; omega) | (simp [maxLen] at *; omega)) (by first | omega | assumption | (simp; omega) | (simp [maxLen]; omega) | (simp [maxLen] at *; omega))) rfl rfl ?_
  | refine op_pure (pu_load_p0 (OT.tmp rfl) (by first | exact mem_at 0 rfl | exact mem_at 1 rfl | exact mem_at 2 rfl | exact mem_at 3 rfl | exact mem_at 4 rfl | exact mem_at 5 rfl) (show tyOk Try.prog 69 _ _ = true from by decide +kernel)) rfl rfl ?_
  | refine op_pure (pu_load_p1 (OT.tmp rfl) (by first | exact mem_at 0 rfl | exact mem_at 1 rfl | exact mem_at 2 rfl | exact mem_at 3 rfl | exact mem_at 4 rfl | exact mem_at 5 rfl) (show tyOk Try.prog 69 _ _ = true from by decide +kernel)) rfl rfl ?_
  | refine op_pure (pu_load_q (OT.tmp rfl) (by first | exact mem_at 0 rfl | exact mem_at 1 rfl | exact mem_at 2 rfl | exact mem_at 3 rfl | exact mem_at 4 rfl | exact mem_at 5 rfl) (by first | omega | assumption | (simp; omega) | (simp [maxLen]; omega) | (simp [maxLen] at *; omega)) (by first | omega | assumption | (simp; omega) | (simp [maxLen]; omega) | (simp [maxLen] at *; omega)) (show tyOk Try.prog 69 _ _ = true from by decide +kernel)) rfl rfl ?_
  refine op_acts (acts_call (closed_fn _ (by assumption)) (show enters Try.prog 66 = true from by decide +kernel) (OTs.cons (OT.tmp rfl) OTs.nil) (List.Perm.refl _)) (List.Perm.refl _) rfl rfl (fun _ _ => ?_)
  refine op_pure (pu_move OT.const) rfl rfl ?_
  refine tr_nil ?_
  refine then_normal ?_
  refine tr_block ?_
  refine tr_nilItem 3 kI ?_
  refine tr_loopK (σ := Nat × Value) (es_cons (t := 7) (OT.tmp rfl) es_nil) (fun s => [(8, I64 (s.1 : Int)), (3, IsV s.2)]) (fun s => [OwnI 3 kI s.2 (caughtTo r s.1)]) (fun s => s.1 ≤ 17) (fun s => 17 - s.1) (0, nilS) (by simp) ?_ (own_picks (by repeat (first | exact picks_nil | refine picks_cons 0 rfl ?_ | refine picks_cons 1 rfl ?_ | refine picks_cons 2 rfl ?_ | refine picks_cons 3 rfl ?_ | refine picks_cons 4 rfl ?_ | refine picks_cons 5 rfl ?_ | refine picks_cons 6 rfl ?_))) ?_
  · exact (es_cons (t := 8) (by first | exact OT.tmp rfl | exact OT.val (OT.tmp rfl) (congrArg (Value.int _) (by first | omega | (simp; omega) | simp))) (es_cons (t := 3) (by first | exact OT.tmp rfl | exact OT.val (OT.tmp rfl) (congrArg (Value.int _) (by first | omega | (simp; omega) | simp))) es_nil))
  · rintro ⟨n, v⟩ hn
    have hl := caughtTo_len r n
    have hb := (small_closed hs).at_ (n : Int)
    dsimp only at hn
    refine tr_seq ?_
    -- region 3
    refine tr_env (es_cons (t := 3) (OT.tmp rfl) (es_cons (t := 7) (OT.tmp rfl) (es_cons (t := 8) (OT.tmp rfl) es_nil))) ?_
    refine tr_region ?_
    refine op_pure (pu_lss (OT.tmp rfl) OT.const) rfl rfl ?_
    refine tr_nil ?_
    refine then_normal ?_
    refine tr_seq ?_
    refine tr_cond (OT.tmp rfl) (fun c9 => ?_) (fun c9 => ?_)
    · try simp only [decide_eq_true_eq, decide_eq_false_iff_not, Bool.or_eq_true, Bool.and_eq_true, Bool.or_eq_false_iff, Bool.and_eq_false_iff, Bool.not_eq_true', Bool.not_eq_false', ne_eq, Classical.not_not] at c9
      refine tr_skip ?_
      refine then_normal ?_
      refine tr_seq ?_
      refine tr_block ?_
      refine tr_seq ?_
      -- region 4
      refine tr_env (es_cons (t := 3) (OT.tmp rfl) (es_cons (t := 7) (OT.tmp rfl) (es_cons (t := 8) (OT.tmp rfl) es_nil))) ?_
      refine tr_region ?_
      refine op_pure (pu_move (OT.tmp rfl)) rfl rfl ?_
      refine op_pure (pu_index_agg (OT.tmp rfl) (OT.tmp rfl) Try.underlying69 (show tyOk Try.prog 67 _ _ = true from by decide +kernel) (by first | omega | assumption | (simp; omega) | (simp [maxLen]; omega) | (simp [maxLen] at *; omega)) (by first | omega | assumption | (simp; omega) | (simp [maxLen]; omega) | (simp [maxLen] at *; omega))) rfl rfl ?_
      refine op_pure (pu_assign (OT.tmp rfl)) rfl rfl ?_
      refine op_pure (pu_assign (OT.tmp rfl)) rfl rfl ?_
      refine tr_nil ?_
      refine then_normal ?_
      refine tr_seq ?_
      -- region 5
      refine tr_env (es_cons (t := 3) (OT.tmp rfl) (es_cons (t := 4) (OT.tmp rfl) (es_cons (t := 5) (OT.tmp rfl) (es_cons (t := 7) (OT.tmp rfl) (es_cons (t := 8) (OT.tmp rfl) es_nil))))) ?_
      refine tr_region ?_
      refine op_pure (pu_move (OT.tmp rfl)) rfl rfl ?_
      refine op_pure (pu_move (OT.tmp rfl)) rfl rfl ?_
      refine op_pure (pu_shr (OT.tmp rfl) (OT.tmp rfl) (by first | omega | assumption | (simp; omega) | (simp [maxLen]; omega) | (simp [maxLen] at *; omega))) rfl rfl ?_
      refine op_pure (pu_bits (OT.tmp rfl) OT.const (by simp)) rfl rfl ?_
      refine op_pure (Pure.val (pu_eql (OT.tmp rfl) OT.const) (congrArg Value.bool (test_bit (x := at' (closedOf r) (n : Int)) (j := (n : Int)) (by omega) (by omega) (by omega)))) rfl rfl ?_
      refine op_pure (pu_move (OT.tmp rfl)) rfl rfl ?_
      refine op_gu rfl rfl rfl (OT.gu_mk (OT.tmp rfl)) (fun hg => by (have hg1 := hg.2; (try simp only [decide_eq_true_eq, decide_eq_false_iff_not] at hg1); exact pu_move (by first | exact OT.tmp rfl | exact OT.gu (OT.tmp rfl) hg))) rfl ?_
      refine op_gu rfl rfl rfl (OT.gu_mk (OT.tmp rfl)) (fun hg => by (have hg1 := hg.2; (try simp only [decide_eq_true_eq, decide_eq_false_iff_not] at hg1); exact pu_gtr (by first | exact OT.tmp rfl | exact OT.gu (OT.tmp rfl) hg) OT.const)) rfl ?_
      refine op_pure (pu_pick_and (OT.tmp rfl) (by first | exact OT.tmp rfl | exact OT.gu_in (OT.tmp rfl) ⟨trivial, rfl⟩)) rfl rfl ?_
      refine tr_nil ?_
      refine then_normal ?_
      refine tr_cond (OT.tmp rfl) (fun c20 => ?_) (fun c20 => ?_)
      · try simp only [decide_eq_true_eq, decide_eq_false_iff_not, Bool.or_eq_true, Bool.and_eq_true, Bool.or_eq_false_iff, Bool.and_eq_false_iff, Bool.not_eq_true', Bool.not_eq_false', ne_eq, Classical.not_not] at c20
        -- region 6
        refine tr_env (es_cons (t := 3) (OT.tmp rfl) (es_cons (t := 4) (OT.tmp rfl) (es_cons (t := 7) (OT.tmp rfl) (es_cons (t := 8) (OT.tmp rfl) es_nil)))) ?_
        refine tr_region ?_
        refine op_pure (pu_move (OT.tmp rfl)) rfl rfl ?_
        refine op_pure (pu_move (OT.tmp rfl)) rfl rfl ?_
        refine op_acts (acts_lit (d := kI) (v0 := 0) (show slTy Try.prog 25 3 _ 8 = true from by decide +kernel) (show tyOk Try.prog 3 _ _ = true from by decide +kernel) z3 (by decide) (by decide) (fills_arr rfl rfl (by decide) (OT.tmp rfl) fills_nil)) (List.Perm.refl _) rfl rfl (fun _ _ => ?_)
        first
        | refine op_acts (acts_append (OT.tmp rfl) (by first | exact perm_at 0 rfl | exact perm_at 1 rfl | exact perm_at 2 rfl | exact perm_at 3 rfl | exact perm_at 4 rfl | exact perm_at 5 rfl) (OT.tmp rfl) (show slTy Try.prog 25 3 _ 8 = true from by decide +kernel) (by first | omega | assumption | (simp; omega) | (simp [maxLen]; omega) | (simp [maxLen] at *; omega)) (by first | omega | assumption | (simp; omega) | (simp [maxLen]; omega) | (simp [maxLen] at *; omega))) (by first | exact perm_at 0 rfl | exact perm_at 1 rfl | exact perm_at 2 rfl | exact perm_at 3 rfl | exact perm_at 4 rfl | exact perm_at 5 rfl) rfl rfl (fun v6_3 _ => ?_)
        | refine op_acts (acts_append_q (OT.tmp rfl) (by first | exact perm_at 0 rfl | exact perm_at 1 rfl | exact perm_at 2 rfl | exact perm_at 3 rfl | exact perm_at 4 rfl | exact perm_at 5 rfl) (OT.tmp rfl) (show slTy Try.prog 25 3 _ 8 = true from by decide +kernel) (by first | omega | assumption | (simp; omega) | (simp [maxLen]; omega) | (simp [maxLen] at *; omega)) (by first | omega | assumption | (simp; omega) | (simp [maxLen]; omega) | (simp [maxLen] at *; omega))) (by first | exact perm_at 0 rfl | exact perm_at 1 rfl | exact perm_at 2 rfl | exact perm_at 3 rfl | exact perm_at 4 rfl | exact perm_at 5 rfl) rfl rfl (fun v6_3 _ => ?_)
        refine op_pure (pu_assign (OT.tmp rfl)) rfl rfl ?_
        refine tr_nil ?_
        refine block_normal ?_
        refine then_normal ?_
        -- region 7
        refine tr_env (es_cons (t := 3) (OT.tmp rfl) (es_cons (t := 7) (OT.tmp rfl) (es_cons (t := 8) (OT.tmp rfl) es_nil))) ?_
        refine tr_region ?_
        first
        | refine op_pure (pu_add' (OT.tmp rfl) OT.const (by first | omega | assumption | (simp; omega) | (simp [maxLen]; omega) | (simp [maxLen] at *; omega))) rfl rfl ?_
        | refine op_pure (pu_add (OT.tmp rfl) OT.const) rfl rfl ?_
        | refine op_pure (pu_str_add (OT.tmp rfl) OT.const (by first | omega | assumption | (simp; omega) | (simp [maxLen]; omega) | (simp [maxLen] at *; omega))) rfl rfl ?_
        refine op_pure (pu_move (OT.tmp rfl)) rfl rfl ?_
        refine tr_nil ?_
        refine then_normal ?_
        exact tr_again (n + 1, v6_3) (by first | omega | assumption | (simp; omega) | (simp [maxLen]; omega) | (simp [maxLen] at *; omega)) (by first | omega | assumption | (simp; omega) | (simp [maxLen]; omega) | (simp [maxLen] at *; omega)) (es_append (es_cons (t := 8) (by first | exact OT.tmp rfl | exact OT.val (OT.tmp rfl) (congrArg (Value.int _) (by first | omega | (simp; omega) | simp))) (es_cons (t := 3) (by first | exact OT.tmp rfl | exact OT.val (OT.tmp rfl) (congrArg (Value.int _) (by first | omega | (simp; omega) | simp))) es_nil)) (es_cons (t := 7) (OT.tmp rfl) es_nil)) (own_picks (by rw [show caughtTo r (n + 1) = caughtTo r n ++ [(n : Int)] from by rw [caughtTo, if_pos (by rw [Bool.and_eq_true]; exact ⟨by simpa using c20.1, by simpa using c20.2⟩)]]; exact (by repeat (first | exact picks_nil | refine picks_cons 0 rfl ?_ | refine picks_cons 1 rfl ?_ | refine picks_cons 2 rfl ?_ | refine picks_cons 3 rfl ?_ | refine picks_cons 4 rfl ?_ | refine picks_cons 5 rfl ?_ | refine picks_cons 6 rfl ?_))))
      · try simp only [decide_eq_true_eq, decide_eq_false_iff_not, Bool.or_eq_true, Bool.and_eq_true, Bool.or_eq_false_iff, Bool.and_eq_false_iff, Bool.not_eq_true', Bool.not_eq_false', ne_eq, Classical.not_not] at c20
        refine tr_skip ?_
        refine block_normal ?_
        refine then_normal ?_
        -- region 7
        refine tr_env (es_cons (t := 3) (OT.tmp rfl) (es_cons (t := 7) (OT.tmp rfl) (es_cons (t := 8) (OT.tmp rfl) es_nil))) ?_
        refine tr_region ?_
        first
        | refine op_pure (pu_add' (OT.tmp rfl) OT.const (by first | omega | assumption | (simp; omega) | (simp [maxLen]; omega) | (simp [maxLen] at *; omega))) rfl rfl ?_
        | refine op_pure (pu_add (OT.tmp rfl) OT.const) rfl rfl ?_
        | refine op_pure (pu_str_add (OT.tmp rfl) OT.const (by first | omega | assumption | (simp; omega) | (simp [maxLen]; omega) | (simp [maxLen] at *; omega))) rfl rfl ?_
        refine op_pure (pu_move (OT.tmp rfl)) rfl rfl ?_
        refine tr_nil ?_
        refine then_normal ?_
        exact tr_again (n + 1, v) (by first | omega | assumption | (simp; omega) | (simp [maxLen]; omega) | (simp [maxLen] at *; omega)) (by first | omega | assumption | (simp; omega) | (simp [maxLen]; omega) | (simp [maxLen] at *; omega)) (es_append (es_cons (t := 8) (by first | exact OT.tmp rfl | exact OT.val (OT.tmp rfl) (congrArg (Value.int _) (by first | omega | (simp; omega) | simp))) (es_cons (t := 3) (by first | exact OT.tmp rfl | exact OT.val (OT.tmp rfl) (congrArg (Value.int _) (by first | omega | (simp; omega) | simp))) es_nil)) (es_cons (t := 7) (OT.tmp rfl) es_nil)) (own_picks (by rw [show caughtTo r (n + 1) = caughtTo r n from by rw [caughtTo, if_neg (by rw [Bool.and_eq_true]; rintro ⟨h1, h2⟩; rcases c20 with h | h; (rw [Int.toNat_natCast] at h; rw [h] at h1; cases h1); exact h (of_decide_eq_true h2))]]; exact (by repeat (first | exact picks_nil | refine picks_cons 0 rfl ?_ | refine picks_cons 1 rfl ?_ | refine picks_cons 2 rfl ?_ | refine picks_cons 3 rfl ?_ | refine picks_cons 4 rfl ?_ | refine picks_cons 5 rfl ?_ | refine picks_cons 6 rfl ?_))))
    · try simp only [decide_eq_true_eq, decide_eq_false_iff_not, Bool.or_eq_true, Bool.and_eq_true, Bool.or_eq_false_iff, Bool.and_eq_false_iff, Bool.not_eq_true', Bool.not_eq_false', ne_eq, Classical.not_not] at c9
      obtain rfl : n = 17 := by omega
      refine tr_exit ?_
      refine then_exit ?_
      refine then_exit ?_
      refine block_hit ?_
      refine then_normal ?_
      refine tr_seq ?_
      -- region 8
      refine tr_env (es_cons (t := 3) (OT.tmp rfl) es_nil) ?_
      refine tr_region ?_
      refine op_pure (pu_move (OT.tmp rfl)) rfl rfl ?_
      refine op_pure (pu_assign (OT.tmp rfl)) rfl rfl ?_
      refine tr_nil ?_
      refine then_normal ?_
      refine tr_ret ?_
      exact ret_one .ret (.inl rfl) rfl v (OT.tmp rfl) trivial (by repeat (first | exact picks_nil | refine picks_cons 0 rfl ?_ | refine picks_cons 1 rfl ?_ | refine picks_cons 2 rfl ?_ | refine picks_cons 3 rfl ?_ | refine picks_cons 4 rfl ?_ | refine picks_cons 5 rfl ?_ | refine picks_cons 6 rfl ?_))
set_option maxRecDepth 20000 in
/-- rhizome/wait.Caught -/
theorem CaughtBad_fn (es : Es) (hm : es.length ≤ maxLen) (h : badB es = true) : Ct Try.prog 14 [SlT kE es] ([]) Unit (fun _ => TupT [IsV nilS, I64 1]) (fun _ => []) (fun _ => True) := by
  refine fn_intro Try.func14 rfl rfl ?_
  intro H w
  refine tr_seq ?_
  -- region 0
  refine tr_env (es_cons (t := 0) (OT.tmp rfl) es_nil) ?_
  refine tr_region ?_
  refine op_pure (pu_assign OT.const) rfl rfl ?_
  refine op_pure (pu_assign OT.const) rfl rfl ?_
  refine tr_nil ?_
  refine then_normal ?_
  refine tr_seq ?_
  refine tr_seq ?_
  -- region 1
  refine tr_env (es_cons (t := 0) (OT.tmp rfl) es_nil) ?_
  refine tr_region ?_
  refine op_pure (pu_move (OT.tmp rfl)) rfl rfl ?_
  refine op_acts (acts_call (bad_fn _ (by assumption)) (show enters Try.prog 43 = true from by decide +kernel) (OTs.cons (OT.tmp rfl) OTs.nil) (List.Perm.refl _)) (List.Perm.refl _) rfl rfl (fun _ _ => ?_)
  refine tr_nil ?_
  refine then_normal ?_
  refine tr_cond (OT.tmp rfl) (fun c5 => ?_) (fun c5 => ?_)
  · try simp only [decide_eq_true_eq, decide_eq_false_iff_not, Bool.or_eq_true, Bool.and_eq_true, Bool.or_eq_false_iff, Bool.and_eq_false_iff, Bool.not_eq_true', Bool.not_eq_false', ne_eq, Classical.not_not] at c5
    refine tr_seq ?_
    -- region 2
    refine tr_env es_nil ?_
    refine tr_region ?_
    refine op_pure (pu_assign OT.const) rfl rfl ?_
    refine op_pure (pu_assign OT.const) rfl rfl ?_
    refine tr_nil ?_
    refine then_normal ?_
    refine tr_ret ?_
    refine then_ret ?_
    exact ret_two .ret (.inl rfl) rfl () (OT.tmp rfl) (OT.tmp rfl) (fun _ _ h => h) trivial (by repeat (first | exact picks_nil | refine picks_cons 0 rfl ?_ | refine picks_cons 1 rfl ?_ | refine picks_cons 2 rfl ?_ | refine picks_cons 3 rfl ?_ | refine picks_cons 4 rfl ?_ | refine picks_cons 5 rfl ?_ | refine picks_cons 6 rfl ?_))
  · try simp only [decide_eq_true_eq, decide_eq_false_iff_not, Bool.or_eq_true, Bool.and_eq_true, Bool.or_eq_false_iff, Bool.and_eq_false_iff, Bool.not_eq_true', Bool.not_eq_false', ne_eq, Classical.not_not] at c5
    exact absurd h (by simp [c5]) --done
set_option maxRecDepth 20000 in
/-- rhizome/wait.Caught -/
theorem Caught_fn (es : Es) (hm : es.length ≤ maxLen) (h : badB es = false) : Ct Try.prog 14 [SlT kE es] ([]) Value (fun v => TupT [IsV v, I64 0]) (fun v => [OwnI 3 kI v (caughtOf (rowsOf es))]) (fun _ => True) := by
  refine fn_intro Try.func14 rfl rfl ?_
  intro H w
  refine tr_seq ?_
  -- region 0
  refine tr_env (es_cons (t := 0) (OT.tmp rfl) es_nil) ?_
  refine tr_region ?_
  refine op_pure (pu_assign OT.const) rfl rfl ?_
  refine op_pure (pu_assign OT.const) rfl rfl ?_
  refine tr_nil ?_
  refine then_normal ?_
  refine tr_seq ?_
  refine tr_seq ?_
  -- region 1
  refine tr_env (es_cons (t := 0) (OT.tmp rfl) es_nil) ?_
  refine tr_region ?_
  refine op_pure (pu_move (OT.tmp rfl)) rfl rfl ?_
  refine op_acts (acts_call (bad_fn _ (by assumption)) (show enters Try.prog 43 = true from by decide +kernel) (OTs.cons (OT.tmp rfl) OTs.nil) (List.Perm.refl _)) (List.Perm.refl _) rfl rfl (fun _ _ => ?_)
  refine tr_nil ?_
  refine then_normal ?_
  refine tr_cond (OT.tmp rfl) (fun c5 => ?_) (fun c5 => ?_)
  · try simp only [decide_eq_true_eq, decide_eq_false_iff_not, Bool.or_eq_true, Bool.and_eq_true, Bool.or_eq_false_iff, Bool.and_eq_false_iff, Bool.not_eq_true', Bool.not_eq_false', ne_eq, Classical.not_not] at c5
    exact absurd c5 (by simp [h]) --done
  · try simp only [decide_eq_true_eq, decide_eq_false_iff_not, Bool.or_eq_true, Bool.and_eq_true, Bool.or_eq_false_iff, Bool.and_eq_false_iff, Bool.not_eq_true', Bool.not_eq_false', ne_eq, Classical.not_not] at c5
    have ho := okE_of h
    have hsm := small_rows ho
    refine tr_skip ?_
    refine then_normal ?_
    refine tr_seq ?_
    -- region 3
    refine tr_env (es_cons (t := 0) (OT.tmp rfl) es_nil) ?_
    refine tr_region ?_
    refine op_pure (pu_move (OT.tmp rfl)) rfl rfl ?_
    refine op_acts (acts_call (waits_fn _ (by assumption) (by assumption)) (show enters Try.prog 44 = true from by decide +kernel) (OTs.cons (OT.tmp rfl) OTs.nil) (List.Perm.refl _)) (List.Perm.refl _) rfl rfl (fun _ _ => ?_)
    refine op_acts (acts_call (caught_fn _ (by assumption)) (show enters Try.prog 45 = true from by decide +kernel) (OTs.cons (OT.tmp rfl) OTs.nil) (List.Perm.refl _)) (List.Perm.refl _) rfl rfl (fun v3_2 _ => ?_)
    refine op_pure (pu_assign (OT.tmp rfl)) rfl rfl ?_
    refine op_pure (pu_assign OT.const) rfl rfl ?_
    refine tr_nil ?_
    refine then_normal ?_
    refine tr_ret ?_
    exact ret_two .ret (.inl rfl) rfl v3_2 (OT.tmp rfl) (OT.tmp rfl) (fun _ _ h => h) trivial (by repeat (first | exact picks_nil | refine picks_cons 0 rfl ?_ | refine picks_cons 1 rfl ?_ | refine picks_cons 2 rfl ?_ | refine picks_cons 3 rfl ?_ | refine picks_cons 4 rfl ?_ | refine picks_cons 5 rfl ?_ | refine picks_cons 6 rfl ?_))
set_option maxRecDepth 20000 in
/-- rhizome/rhizomelaw17.own -/
theorem own_fn (es : Es) (hm : es.length * 16 ≤ 140737488355328) : Ct Try.prog 13 [SlT kE es] ([]) Value (fun v => IsV v) (fun v => [OwnI 30 kE v es]) (fun _ => True) := by
  refine fn_intro Try.func13 rfl rfl ?_
  intro H w
  refine tr_seq ?_
  -- region 0
  refine tr_env (es_cons (t := 0) (OT.tmp rfl) es_nil) ?_
  refine tr_region ?_
  refine op_pure (pu_assign OT.const) rfl rfl ?_
  refine tr_nil ?_
  refine then_normal ?_
  refine tr_seq ?_
  -- region 1
  refine tr_env (es_cons (t := 0) (OT.tmp rfl) es_nil) ?_
  refine tr_region ?_
  refine op_acts (acts_lit_own (d := kE) (v0 := (0, 0)) (show slTy Try.prog 22 30 _ 16 = true from by decide +kernel) (show tyOk Try.prog 30 _ _ = true from by decide +kernel) z30 (by decide) (by decide) fills_nil) (List.Perm.refl _) rfl rfl (fun v1_0 _ => ?_)
  refine op_pure (pu_move (OT.tmp rfl)) rfl rfl ?_
  first
  | refine op_acts (acts_append (OT.tmp rfl) (by first | exact perm_at 0 rfl | exact perm_at 1 rfl | exact perm_at 2 rfl | exact perm_at 3 rfl | exact perm_at 4 rfl | exact perm_at 5 rfl) (OT.tmp rfl) (show slTy Try.prog 22 30 _ 16 = true from by decide +kernel) (by first | omega | assumption | (simp; omega) | (simp [maxLen]; omega) | (simp [maxLen] at *; omega)) (by first | omega | assumption | (simp; omega) | (simp [maxLen]; omega) | (simp [maxLen] at *; omega))) (by first | exact perm_at 0 rfl | exact perm_at 1 rfl | exact perm_at 2 rfl | exact perm_at 3 rfl | exact perm_at 4 rfl | exact perm_at 5 rfl) rfl rfl (fun v1_2 _ => ?_)
  | refine op_acts (acts_append_q (OT.tmp rfl) (by first | exact perm_at 0 rfl | exact perm_at 1 rfl | exact perm_at 2 rfl | exact perm_at 3 rfl | exact perm_at 4 rfl | exact perm_at 5 rfl) (OT.tmp rfl) (show slTy Try.prog 22 30 _ 16 = true from by decide +kernel) (by first | omega | assumption | (simp; omega) | (simp [maxLen]; omega) | (simp [maxLen] at *; omega)) (by first | omega | assumption | (simp; omega) | (simp [maxLen]; omega) | (simp [maxLen] at *; omega))) (by first | exact perm_at 0 rfl | exact perm_at 1 rfl | exact perm_at 2 rfl | exact perm_at 3 rfl | exact perm_at 4 rfl | exact perm_at 5 rfl) rfl rfl (fun v1_2 _ => ?_)
  refine op_pure (pu_assign (OT.tmp rfl)) rfl rfl ?_
  refine tr_nil ?_
  refine then_normal ?_
  refine tr_ret ?_
  exact ret_one .ret (.inl rfl) rfl v1_2 (OT.tmp rfl) trivial (by repeat (first | exact picks_nil | refine picks_cons 0 rfl ?_ | refine picks_cons 1 rfl ?_ | refine picks_cons 2 rfl ?_ | refine picks_cons 3 rfl ?_ | refine picks_cons 4 rfl ?_ | refine picks_cons 5 rfl ?_ | refine picks_cons 6 rfl ?_))
end Go.Proofs.Ytloblpklkhepbaa
