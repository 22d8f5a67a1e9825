/- Walks through the Go functions rhizomelaw17.WaitMore, as typed contracts. -/
import Derived.Test.YtloblpklkhepbaaWt9
namespace Go.Proofs.Ytloblpklkhepbaa
open Go Go.Gw Go.Wt
set_option linter.unusedVariables false
set_option linter.unusedSimpArgs false
theorem any_next_or {α : Type} [Inhabited α] {xs : List α} {j : Nat} (hj : j < xs.length) (b : Bool) (p : α → Bool) : (b || (xs.take (j + 1)).any p) = ((b || (xs.take j).any p) || p (at' xs (j : Int))) := by
  rw [any_next hj, Bool.or_assoc]
theorem caughtL_len (es : Es) : (caughtL es).length ≤ 17 := by
  rw [caughtL]; split
  · simp
  · exact caughtTo_len _ 17
theorem caughtL_at {es : Es} {k : Nat} (hk : k < (caughtL es).length) : at' (caughtL es) (k : Int) ∈ caughtL es := by
  rw [at'_nat hk]; exact List.getElem_mem _
theorem lookI_bad {es : Es} (h : badB es = true) : lookI es = 1 := lookI_yes h
theorem lookI_01 (es : Es) : lookI es = 0 ∨ lookI es = 1 := by rw [lookI]; split <;> simp

set_option maxRecDepth 20000 in
/-- rhizome/rhizomelaw17.WaitMore -/
theorem WaitMore_fn (es more : Es) (hm : es.length ≤ maxLen) (hm1 : more.length ≤ maxLen) (hs0 : es.length * 16 ≤ 140737488351232) (hs1 : more.length * 16 ≤ 140737488351232) : Ct Try.prog 5 [SlT kE es, SlT kE more] ([]) Unit (fun _ => BoolT true) (fun _ => []) (fun _ => True) := by
  refine fn_intro Try.func5 rfl rfl ?_
  intro H w
  have hm2 := hm
  have hm3 := hm1
  unfold maxLen at hm2 hm3
  refine tr_seq ?_
  -- region 0
  refine tr_env (es_cons (t := 0) (OT.tmp rfl) (es_cons (t := 1) (OT.tmp rfl) es_nil)) ?_
  refine tr_region ?_
  refine op_pure (pu_assign OT.const) rfl rfl ?_
  refine tr_nil ?_
  refine then_normal ?_
  refine tr_seq ?_
  refine tr_seq ?_
  -- region 1
  refine tr_env (es_cons (t := 0) (OT.tmp rfl) (es_cons (t := 1) (OT.tmp rfl) es_nil)) ?_
  refine tr_region ?_
  refine op_acts (acts_call awake_fn (show enters Try.prog 12 = true from by decide +kernel) OTs.nil (List.Perm.refl _)) (List.Perm.refl _) rfl rfl (fun _ _ => ?_)
  refine op_pure (pu_not (OT.tmp rfl)) rfl rfl ?_
  refine op_pure (pu_move (OT.tmp rfl)) rfl rfl ?_
  refine op_gu rfl rfl rfl (OT.gu_mk (OT.tmp rfl)) (fun hg => by (have hg1 := hg.2; (try simp only [decide_eq_true_eq, decide_eq_false_iff_not] at hg1); exact pu_move (by first | exact OT.gu (OT.tmp rfl) hg | exact OT.gu (OT.tmp rfl) hg.1 | exact OT.tmp rfl))) rfl ?_
  first
  | refine op_gu rfl rfl rfl (OT.gu_mk (OT.tmp rfl)) (fun hg => by (have hg1 := hg.2; (try simp only [decide_eq_true_eq, decide_eq_false_iff_not] at hg1); exact pu_len_sl (by first | exact OT.gu (OT.tmp rfl) hg | exact OT.gu (OT.tmp rfl) hg.1 | exact OT.tmp rfl) Try.underlying22)) rfl ?_
  | refine op_gu rfl rfl rfl (OT.gu_mk (OT.tmp rfl)) (fun hg => by (have hg1 := hg.2; (try simp only [decide_eq_true_eq, decide_eq_false_iff_not] at hg1); exact pu_len_own (by first | exact OT.gu (OT.tmp rfl) hg | exact OT.gu (OT.tmp rfl) hg.1 | exact OT.tmp rfl) (by first | exact mem_at 0 rfl | exact mem_at 1 rfl | exact mem_at 2 rfl | exact mem_at 3 rfl | exact mem_at 4 rfl | exact mem_at 5 rfl) Try.underlying22)) rfl ?_
  | refine op_gu rfl rfl rfl (OT.gu_mk (OT.tmp rfl)) (fun hg => by (have hg1 := hg.2; (try simp only [decide_eq_true_eq, decide_eq_false_iff_not] at hg1); exact pu_len_q (by first | exact OT.gu (OT.tmp rfl) hg | exact OT.gu (OT.tmp rfl) hg.1 | exact OT.tmp rfl) (by first | exact mem_at 0 rfl | exact mem_at 1 rfl | exact mem_at 2 rfl | exact mem_at 3 rfl | exact mem_at 4 rfl | exact mem_at 5 rfl) Try.underlying22)) rfl ?_
  | refine op_gu rfl rfl rfl (OT.gu_mk (OT.tmp rfl)) (fun hg => by (have hg1 := hg.2; (try simp only [decide_eq_true_eq, decide_eq_false_iff_not] at hg1); exact pu_len_str Try.underlying22 (by first | exact OT.gu (OT.tmp rfl) hg | exact OT.gu (OT.tmp rfl) hg.1 | exact OT.tmp rfl))) rfl ?_
  refine op_gu rfl rfl rfl (OT.gu_mk (OT.tmp rfl)) (fun hg => by (have hg1 := hg.2; (try simp only [decide_eq_true_eq, decide_eq_false_iff_not] at hg1); exact pu_move (by first | exact OT.gu (OT.tmp rfl) hg | exact OT.gu (OT.tmp rfl) hg.1 | exact OT.tmp rfl))) rfl ?_
  first
  | refine op_gu rfl rfl rfl (OT.gu_mk (OT.tmp rfl)) (fun hg => by (have hg1 := hg.2; (try simp only [decide_eq_true_eq, decide_eq_false_iff_not] at hg1); exact pu_len_sl (by first | exact OT.gu (OT.tmp rfl) hg | exact OT.gu (OT.tmp rfl) hg.1 | exact OT.tmp rfl) Try.underlying22)) rfl ?_
  | refine op_gu rfl rfl rfl (OT.gu_mk (OT.tmp rfl)) (fun hg => by (have hg1 := hg.2; (try simp only [decide_eq_true_eq, decide_eq_false_iff_not] at hg1); exact pu_len_own (by first | exact OT.gu (OT.tmp rfl) hg | exact OT.gu (OT.tmp rfl) hg.1 | exact OT.tmp rfl) (by first | exact mem_at 0 rfl | exact mem_at 1 rfl | exact mem_at 2 rfl | exact mem_at 3 rfl | exact mem_at 4 rfl | exact mem_at 5 rfl) Try.underlying22)) rfl ?_
  | refine op_gu rfl rfl rfl (OT.gu_mk (OT.tmp rfl)) (fun hg => by (have hg1 := hg.2; (try simp only [decide_eq_true_eq, decide_eq_false_iff_not] at hg1); exact pu_len_q (by first | exact OT.gu (OT.tmp rfl) hg | exact OT.gu (OT.tmp rfl) hg.1 | exact OT.tmp rfl) (by first | exact mem_at 0 rfl | exact mem_at 1 rfl | exact mem_at 2 rfl | exact mem_at 3 rfl | exact mem_at 4 rfl | exact mem_at 5 rfl) Try.underlying22)) rfl ?_
  | refine op_gu rfl rfl rfl (OT.gu_mk (OT.tmp rfl)) (fun hg => by (have hg1 := hg.2; (try simp only [decide_eq_true_eq, decide_eq_false_iff_not] at hg1); exact pu_len_str Try.underlying22 (by first | exact OT.gu (OT.tmp rfl) hg | exact OT.gu (OT.tmp rfl) hg.1 | exact OT.tmp rfl))) rfl ?_
  first
  | refine op_gu rfl rfl rfl (OT.gu_mk (OT.tmp rfl)) (fun hg => by (have hg1 := hg.2; (try simp only [decide_eq_true_eq, decide_eq_false_iff_not] at hg1); exact pu_add' (by first | exact OT.gu (OT.tmp rfl) hg | exact OT.gu (OT.tmp rfl) hg.1 | exact OT.tmp rfl) (by first | exact OT.gu (OT.tmp rfl) hg | exact OT.gu (OT.tmp rfl) hg.1 | exact OT.tmp rfl) (by first | omega | assumption | (simp; omega) | (simp [maxLen]; omega) | (simp [maxLen] at *; omega)))) rfl ?_
  | refine op_gu rfl rfl rfl (OT.gu_mk (OT.tmp rfl)) (fun hg => by (have hg1 := hg.2; (try simp only [decide_eq_true_eq, decide_eq_false_iff_not] at hg1); exact pu_add (by first | exact OT.gu (OT.tmp rfl) hg | exact OT.gu (OT.tmp rfl) hg.1 | exact OT.tmp rfl) (by first | exact OT.gu (OT.tmp rfl) hg | exact OT.gu (OT.tmp rfl) hg.1 | exact OT.tmp rfl))) rfl ?_
  | refine op_gu rfl rfl rfl (OT.gu_mk (OT.tmp rfl)) (fun hg => by (have hg1 := hg.2; (try simp only [decide_eq_true_eq, decide_eq_false_iff_not] at hg1); exact pu_str_add (by first | exact OT.gu (OT.tmp rfl) hg | exact OT.gu (OT.tmp rfl) hg.1 | exact OT.tmp rfl) (by first | exact OT.gu (OT.tmp rfl) hg | exact OT.gu (OT.tmp rfl) hg.1 | exact OT.tmp rfl) (by first | omega | assumption | (simp; omega) | (simp [maxLen]; omega) | (simp [maxLen] at *; omega)))) rfl ?_
  refine op_gu rfl rfl rfl (OT.gu_mk (OT.tmp rfl)) (fun hg => by (have hg1 := hg.2; (try simp only [decide_eq_true_eq, decide_eq_false_iff_not] at hg1); exact pu_gtr (by first | exact OT.gu (OT.tmp rfl) hg | exact OT.gu (OT.tmp rfl) hg.1 | exact OT.tmp rfl) OT.const)) rfl ?_
  refine op_pure (pu_pick_or (OT.tmp rfl) (by first | exact OT.tmp rfl | exact OT.gu_in (OT.tmp rfl) ⟨trivial, rfl⟩)) rfl rfl ?_
  refine tr_nil ?_
  refine then_normal ?_
  refine tr_cond (OT.tmp rfl) (fun c27 => ?_) (fun c27 => ?_)
  · try simp only [decide_eq_true_eq, decide_eq_false_iff_not, Bool.or_eq_true, Bool.and_eq_true, Bool.or_eq_false_iff, Bool.and_eq_false_iff, Bool.not_eq_true', Bool.not_eq_false', ne_eq, Classical.not_not] at c27
    refine tr_seq ?_
    -- region 2
    refine tr_env es_nil ?_
    refine tr_region ?_
    refine op_acts (acts_call awake_fn (show enters Try.prog 12 = true from by decide +kernel) OTs.nil (List.Perm.refl _)) (List.Perm.refl _) rfl rfl (fun _ _ => ?_)
    refine op_pure (pu_assign (OT.tmp rfl)) rfl rfl ?_
    refine tr_nil ?_
    refine then_normal ?_
    refine tr_ret ?_
    refine then_ret ?_
    exact ret_one .ret (.inl rfl) rfl () (OT.tmp rfl) trivial (by repeat (first | exact picks_nil | refine picks_cons 0 rfl ?_ | refine picks_cons 1 rfl ?_ | refine picks_cons 2 rfl ?_ | refine picks_cons 3 rfl ?_ | refine picks_cons 4 rfl ?_ | refine picks_cons 5 rfl ?_ | refine picks_cons 6 rfl ?_))
  · try simp only [decide_eq_true_eq, decide_eq_false_iff_not, Bool.or_eq_true, Bool.and_eq_true, Bool.or_eq_false_iff, Bool.and_eq_false_iff, Bool.not_eq_true', Bool.not_eq_false', ne_eq, Classical.not_not] at c27
    have hex : es.length + more.length ≤ 120 := by have := c27.2; simp at c27; omega
    have hown16 : es.length * 16 ≤ 140737488355328 := by omega
    have htl := twice_len es es.length
    refine tr_skip ?_
    refine then_normal ?_
    refine tr_seq ?_
    -- region 3
    refine tr_env (es_cons (t := 0) (OT.tmp rfl) (es_cons (t := 1) (OT.tmp rfl) es_nil)) ?_
    refine tr_region ?_
    refine op_pure (pu_move (OT.tmp rfl)) rfl rfl ?_
    refine op_acts (acts_call (own_fn _ hown16) (show enters Try.prog 13 = true from by decide +kernel) (OTs.cons (OT.tmp rfl) OTs.nil) (List.Perm.refl _)) (List.Perm.refl _) rfl rfl (fun v3_1 _ => ?_)
    refine tr_freeze (by first | exact perm_at 0 rfl | exact perm_at 1 rfl | exact perm_at 2 rfl | exact perm_at 3 rfl | exact perm_at 4 rfl | exact perm_at 5 rfl) 31 (OT.tmp rfl) ?_
    refine op_acts (acts_call (CaughtAll_fn _ (by simp [maxLen]; omega)) (show enters Try.prog 14 = true from by decide +kernel) (OTs.cons (OT.tmp rfl) OTs.nil) (List.Perm.refl _)) (List.Perm.refl _) rfl rfl (fun v3_2 _ => ?_)
    refine op_pure (pu_move (OT.tmp rfl)) rfl rfl ?_
    refine op_pure (pu_extract (OT.tmp rfl) rfl) rfl rfl ?_
    refine op_pure (pu_extract (OT.tmp rfl) rfl) rfl rfl ?_
    refine op_pure (pu_assign (OT.tmp rfl)) rfl rfl ?_
    refine op_pure (pu_assign (OT.tmp rfl)) rfl rfl ?_
    refine tr_nil ?_
    refine then_normal ?_
    refine tr_seq ?_
    -- region 4
    refine tr_env (es_cons (t := 0) (OT.tmp rfl) (es_cons (t := 1) (OT.tmp rfl) (es_cons (t := 5) (OT.tmp rfl) (es_cons (t := 6) (OT.tmp rfl) es_nil)))) ?_
    refine tr_region ?_
    refine op_pure (pu_assign OT.const) rfl rfl ?_
    refine tr_nil ?_
    refine then_normal ?_
    refine tr_seq ?_
    refine tr_seq ?_
    -- region 5
    refine tr_env (es_cons (t := 0) (OT.tmp rfl) (es_cons (t := 1) (OT.tmp rfl) (es_cons (t := 5) (OT.tmp rfl) (es_cons (t := 6) (OT.tmp rfl) (es_cons (t := 7) (OT.tmp rfl) es_nil))))) ?_
    refine tr_region ?_
    refine op_pure (pu_move (OT.tmp rfl)) rfl rfl ?_
    first
    | refine op_pure (pu_len_sl (OT.tmp rfl) Try.underlying22) rfl rfl ?_
    | refine op_pure (pu_len_own (OT.tmp rfl) (by first | exact mem_at 0 rfl | exact mem_at 1 rfl | exact mem_at 2 rfl | exact mem_at 3 rfl | exact mem_at 4 rfl | exact mem_at 5 rfl) Try.underlying22) rfl rfl ?_
    | refine op_pure (pu_len_q (OT.tmp rfl) (by first | exact mem_at 0 rfl | exact mem_at 1 rfl | exact mem_at 2 rfl | exact mem_at 3 rfl | exact mem_at 4 rfl | exact mem_at 5 rfl) Try.underlying22) rfl rfl ?_
    | refine op_pure (pu_len_str Try.underlying22 (OT.tmp rfl)) rfl rfl ?_
    first
    | refine op_pure (pu_sub' (OT.tmp rfl) OT.const (by first | omega | assumption | (simp; omega) | (simp [maxLen]; omega) | (simp [maxLen] at *; omega))) rfl rfl ?_
    | refine op_pure (pu_sub (OT.tmp rfl) OT.const) rfl rfl ?_
    refine op_pure (pu_assign (OT.tmp rfl)) rfl rfl ?_
    refine tr_nil ?_
    refine then_normal ?_
    refine tr_block ?_
    refine tr_nilItem 30 kE ?_
    refine tr_loopK (σ := Nat × Value) (es_cons (t := 0) (OT.tmp rfl) (es_cons (t := 1) (OT.tmp rfl) (es_cons (t := 5) (OT.tmp rfl) (es_cons (t := 6) (OT.tmp rfl) es_nil)))) (fun s' => [(8, I64 ((es.length : Int) - 1 - s'.1)), (7, IsV s'.2)]) (fun s' => [OwnI 30 kE s'.2 (twiceTo es s'.1), OwnI 3 kI v3_2 (caughtL es)]) (fun s' => s'.1 ≤ es.length) (fun s' => es.length - s'.1) (0, nilS) (Nat.zero_le _) ?_ (own_picks (by repeat (first | exact picks_nil | refine picks_cons 0 rfl ?_ | refine picks_cons 1 rfl ?_ | refine picks_cons 2 rfl ?_ | refine picks_cons 3 rfl ?_ | refine picks_cons 4 rfl ?_ | refine picks_cons 5 rfl ?_ | refine picks_cons 6 rfl ?_))) ?_
    · exact (es_cons (t := 8) (by first | exact OT.tmp rfl | exact OT.val (OT.tmp rfl) (congrArg (Value.int _) (by first | omega | (simp; omega) | simp))) (es_cons (t := 7) (by first | exact OT.tmp rfl | exact OT.val (OT.tmp rfl) (congrArg (Value.int _) (by first | omega | (simp; omega) | simp))) es_nil))
    · rintro ⟨k, qv⟩ hk
      dsimp only at hk
      have htk := twice_len es k
      refine tr_seq ?_
      refine tr_seq ?_
      -- region 6
      refine tr_env (es_cons (t := 0) (OT.tmp rfl) (es_cons (t := 1) (OT.tmp rfl) (es_cons (t := 5) (OT.tmp rfl) (es_cons (t := 6) (OT.tmp rfl) (es_cons (t := 7) (OT.tmp rfl) (es_cons (t := 8) (OT.tmp rfl) es_nil)))))) ?_
      refine tr_region ?_
      refine op_pure (pu_move (OT.tmp rfl)) rfl rfl ?_
      refine op_pure (pu_geq (OT.tmp rfl) OT.const) rfl rfl ?_
      refine tr_nil ?_
      refine then_normal ?_
      refine tr_cond (OT.tmp rfl) (fun c39 => ?_) (fun c39 => ?_)
      · try simp only [decide_eq_true_eq, decide_eq_false_iff_not, Bool.or_eq_true, Bool.and_eq_true, Bool.or_eq_false_iff, Bool.and_eq_false_iff, Bool.not_eq_true', Bool.not_eq_false', ne_eq, Classical.not_not] at c39
        refine tr_skip ?_
        refine then_normal ?_
        refine tr_seq ?_
        refine tr_block ?_
        -- region 8
        refine tr_env (es_cons (t := 0) (OT.tmp rfl) (es_cons (t := 1) (OT.tmp rfl) (es_cons (t := 5) (OT.tmp rfl) (es_cons (t := 6) (OT.tmp rfl) (es_cons (t := 7) (OT.tmp rfl) (es_cons (t := 8) (OT.tmp rfl) es_nil)))))) ?_
        apply tr_any (m := 10) (ns := [[(7, none)], [(0, none)], [(8, none)], [(43, some 1), (44, some 2)], [(45, some 3)], [(0, none)], [(8, none)], [(47, some 5), (48, some 6)], [(49, some 7)], [(46, some 4), (50, some 8)]]) (by kernel_rfl) (by kernel_rfl) (Ts := [_, _, _, _, _, _, _, _, _, _]) rfl
        case hops =>
          refine ⟨?_, ⟨?_, ⟨?_, ⟨?_, ⟨?_, ⟨?_, ⟨?_, ⟨?_, ⟨?_, ⟨?_, trivial⟩⟩⟩⟩⟩⟩⟩⟩⟩⟩
          · exact rop_pure rfl (pu_move (OT.tmp rfl))
          · exact rop_pure rfl (pu_move (OT.tmp rfl))
          · exact rop_pure rfl (pu_move (OT.tmp rfl))
          · first | exact rop_pure rfl (pu_index (OT.tmp rfl) (OT.tmp rfl) Try.underlying22 (show tyOk Try.prog 30 _ _ = true from by decide +kernel) (by first | omega | assumption | (simp; omega) | (simp [maxLen]; omega) | (simp [maxLen] at *; omega)) (by first | omega | assumption | (simp; omega) | (simp [maxLen]; omega) | (simp [maxLen] at *; omega))) | exact rop_pure rfl (pu_index_own (OT.tmp rfl) (by first | exact mem_at 0 rfl | exact mem_at 1 rfl | exact mem_at 2 rfl | exact mem_at 3 rfl | exact mem_at 4 rfl | exact mem_at 5 rfl) (OT.tmp rfl) Try.underlying22 (show tyOk Try.prog 30 _ _ = true from by decide +kernel) (by first | omega | assumption | (simp; omega) | (simp [maxLen]; omega) | (simp [maxLen] at *; omega)) (by first | omega | assumption | (simp; omega) | (simp [maxLen]; omega) | (simp [maxLen] at *; omega))) | exact rop_pure rfl (pu_index_q (OT.tmp rfl) (by first | exact mem_at 0 rfl | exact mem_at 1 rfl | exact mem_at 2 rfl | exact mem_at 3 rfl | exact mem_at 4 rfl | exact mem_at 5 rfl) (OT.tmp rfl) Try.underlying22 (show tyOk Try.prog 30 _ _ = true from by decide +kernel) (by first | omega | assumption | (simp; omega) | (simp [maxLen]; omega) | (simp [maxLen] at *; omega)) (by first | omega | assumption | (simp; omega) | (simp [maxLen]; omega) | (simp [maxLen] at *; omega)))
          · first | exact rop_pure rfl (pu_load (OT.tmp rfl) (show tyOk Try.prog 30 _ _ = true from by decide +kernel)) | exact rop_pure rfl (pu_load_var (OT.tmp rfl) (by first | exact mem_at 0 rfl | exact mem_at 1 rfl | exact mem_at 2 rfl | exact mem_at 3 rfl | exact mem_at 4 rfl | exact mem_at 5 rfl) (show tyOk Try.prog 30 _ _ = true from by decide +kernel)) | exact rop_pure rfl (pu_load_own0 (OT.tmp rfl) (by first | exact mem_at 0 rfl | exact mem_at 1 rfl | exact mem_at 2 rfl | exact mem_at 3 rfl | exact mem_at 4 rfl | exact mem_at 5 rfl) (by first | omega | assumption | (simp; omega) | (simp [maxLen]; omega) | (simp [maxLen] at *; omega)) (by first | omega | assumption | (simp; omega) | (simp [maxLen]; omega) | (simp [maxLen] at *; omega)) (show tyOk Try.prog 30 _ _ = true from by decide +kernel)) | exact rop_pure rfl (pu_load_arr (OT.tmp rfl) (by first | exact mem_at 0 rfl | exact mem_at 1 rfl | exact mem_at 2 rfl | exact mem_at 3 rfl | exact mem_at 4 rfl | exact mem_at 5 rfl) (show tyOk Try.prog 30 _ _ = true from by decide +kernel) (by first | omega | assumption | (simp; omega) | (simp [maxLen]; omega) | (simp [maxLen] at *; omega)) (by first | omega | assumption | (simp; omega) | (simp [maxLen]; omega) | (simp [maxLen] at *; omega))) | exact rop_pure rfl (pu_load_p0 (OT.tmp rfl) (by first | exact mem_at 0 rfl | exact mem_at 1 rfl | exact mem_at 2 rfl | exact mem_at 3 rfl | exact mem_at 4 rfl | exact mem_at 5 rfl) (show tyOk Try.prog 30 _ _ = true from by decide +kernel)) | exact rop_pure rfl (pu_load_p1 (OT.tmp rfl) (by first | exact mem_at 0 rfl | exact mem_at 1 rfl | exact mem_at 2 rfl | exact mem_at 3 rfl | exact mem_at 4 rfl | exact mem_at 5 rfl) (show tyOk Try.prog 30 _ _ = true from by decide +kernel)) | exact rop_pure rfl (pu_load_q (OT.tmp rfl) (by first | exact mem_at 0 rfl | exact mem_at 1 rfl | exact mem_at 2 rfl | exact mem_at 3 rfl | exact mem_at 4 rfl | exact mem_at 5 rfl) (by first | omega | assumption | (simp; omega) | (simp [maxLen]; omega) | (simp [maxLen] at *; omega)) (by first | omega | assumption | (simp; omega) | (simp [maxLen]; omega) | (simp [maxLen] at *; omega)) (show tyOk Try.prog 30 _ _ = true from by decide +kernel))
          · exact rop_pure rfl (pu_move (OT.tmp rfl))
          · exact rop_pure rfl (pu_move (OT.tmp rfl))
          · first | exact rop_pure rfl (pu_index (OT.tmp rfl) (OT.tmp rfl) Try.underlying22 (show tyOk Try.prog 30 _ _ = true from by decide +kernel) (by first | omega | assumption | (simp; omega) | (simp [maxLen]; omega) | (simp [maxLen] at *; omega)) (by first | omega | assumption | (simp; omega) | (simp [maxLen]; omega) | (simp [maxLen] at *; omega))) | exact rop_pure rfl (pu_index_own (OT.tmp rfl) (by first | exact mem_at 0 rfl | exact mem_at 1 rfl | exact mem_at 2 rfl | exact mem_at 3 rfl | exact mem_at 4 rfl | exact mem_at 5 rfl) (OT.tmp rfl) Try.underlying22 (show tyOk Try.prog 30 _ _ = true from by decide +kernel) (by first | omega | assumption | (simp; omega) | (simp [maxLen]; omega) | (simp [maxLen] at *; omega)) (by first | omega | assumption | (simp; omega) | (simp [maxLen]; omega) | (simp [maxLen] at *; omega))) | exact rop_pure rfl (pu_index_q (OT.tmp rfl) (by first | exact mem_at 0 rfl | exact mem_at 1 rfl | exact mem_at 2 rfl | exact mem_at 3 rfl | exact mem_at 4 rfl | exact mem_at 5 rfl) (OT.tmp rfl) Try.underlying22 (show tyOk Try.prog 30 _ _ = true from by decide +kernel) (by first | omega | assumption | (simp; omega) | (simp [maxLen]; omega) | (simp [maxLen] at *; omega)) (by first | omega | assumption | (simp; omega) | (simp [maxLen]; omega) | (simp [maxLen] at *; omega)))
          · first | exact rop_pure rfl (pu_load (OT.tmp rfl) (show tyOk Try.prog 30 _ _ = true from by decide +kernel)) | exact rop_pure rfl (pu_load_var (OT.tmp rfl) (by first | exact mem_at 0 rfl | exact mem_at 1 rfl | exact mem_at 2 rfl | exact mem_at 3 rfl | exact mem_at 4 rfl | exact mem_at 5 rfl) (show tyOk Try.prog 30 _ _ = true from by decide +kernel)) | exact rop_pure rfl (pu_load_own0 (OT.tmp rfl) (by first | exact mem_at 0 rfl | exact mem_at 1 rfl | exact mem_at 2 rfl | exact mem_at 3 rfl | exact mem_at 4 rfl | exact mem_at 5 rfl) (by first | omega | assumption | (simp; omega) | (simp [maxLen]; omega) | (simp [maxLen] at *; omega)) (by first | omega | assumption | (simp; omega) | (simp [maxLen]; omega) | (simp [maxLen] at *; omega)) (show tyOk Try.prog 30 _ _ = true from by decide +kernel)) | exact rop_pure rfl (pu_load_arr (OT.tmp rfl) (by first | exact mem_at 0 rfl | exact mem_at 1 rfl | exact mem_at 2 rfl | exact mem_at 3 rfl | exact mem_at 4 rfl | exact mem_at 5 rfl) (show tyOk Try.prog 30 _ _ = true from by decide +kernel) (by first | omega | assumption | (simp; omega) | (simp [maxLen]; omega) | (simp [maxLen] at *; omega)) (by first | omega | assumption | (simp; omega) | (simp [maxLen]; omega) | (simp [maxLen] at *; omega))) | exact rop_pure rfl (pu_load_p0 (OT.tmp rfl) (by first | exact mem_at 0 rfl | exact mem_at 1 rfl | exact mem_at 2 rfl | exact mem_at 3 rfl | exact mem_at 4 rfl | exact mem_at 5 rfl) (show tyOk Try.prog 30 _ _ = true from by decide +kernel)) | exact rop_pure rfl (pu_load_p1 (OT.tmp rfl) (by first | exact mem_at 0 rfl | exact mem_at 1 rfl | exact mem_at 2 rfl | exact mem_at 3 rfl | exact mem_at 4 rfl | exact mem_at 5 rfl) (show tyOk Try.prog 30 _ _ = true from by decide +kernel)) | exact rop_pure rfl (pu_load_q (OT.tmp rfl) (by first | exact mem_at 0 rfl | exact mem_at 1 rfl | exact mem_at 2 rfl | exact mem_at 3 rfl | exact mem_at 4 rfl | exact mem_at 5 rfl) (by first | omega | assumption | (simp; omega) | (simp [maxLen]; omega) | (simp [maxLen] at *; omega)) (by first | omega | assumption | (simp; omega) | (simp [maxLen]; omega) | (simp [maxLen] at *; omega)) (show tyOk Try.prog 30 _ _ = true from by decide +kernel))
          · exact rop_acts rfl (acts_lit (d := kE) (v0 := (0, 0)) (show slTy Try.prog 22 30 _ 16 = true from by decide +kernel) (show tyOk Try.prog 30 _ _ = true from by decide +kernel) z30 (by decide) (by decide) (fills_arr rfl rfl (by decide) (OT.tmp rfl) (fills_arr rfl rfl (by decide) (OT.tmp rfl) fills_nil))) (fun _ _ _ _ h => h)
        case h =>
          first
          | refine op_acts (acts_append (OT.tmp rfl) (by first | exact perm_at 0 rfl | exact perm_at 1 rfl | exact perm_at 2 rfl | exact perm_at 3 rfl | exact perm_at 4 rfl | exact perm_at 5 rfl) (OT.tmp rfl) (show slTy Try.prog 22 30 _ 16 = true from by decide +kernel) (by first | omega | assumption | (simp; omega) | (simp [maxLen]; omega) | (simp [maxLen] at *; omega)) (by first | omega | assumption | (simp; omega) | (simp [maxLen]; omega) | (simp [maxLen] at *; omega))) (by first | exact perm_at 0 rfl | exact perm_at 1 rfl | exact perm_at 2 rfl | exact perm_at 3 rfl | exact perm_at 4 rfl | exact perm_at 5 rfl) rfl rfl (fun v8_10 _ => ?_)
          | refine op_acts (acts_append_q (OT.tmp rfl) (by first | exact perm_at 0 rfl | exact perm_at 1 rfl | exact perm_at 2 rfl | exact perm_at 3 rfl | exact perm_at 4 rfl | exact perm_at 5 rfl) (OT.tmp rfl) (show slTy Try.prog 22 30 _ 16 = true from by decide +kernel) (by first | omega | assumption | (simp; omega) | (simp [maxLen]; omega) | (simp [maxLen] at *; omega)) (by first | omega | assumption | (simp; omega) | (simp [maxLen]; omega) | (simp [maxLen] at *; omega))) (by first | exact perm_at 0 rfl | exact perm_at 1 rfl | exact perm_at 2 rfl | exact perm_at 3 rfl | exact perm_at 4 rfl | exact perm_at 5 rfl) rfl rfl (fun v8_10 _ => ?_)
          refine op_pure (pu_assign (OT.tmp rfl)) rfl rfl ?_
          refine tr_nil ?_
          refine block_normal ?_
          refine then_normal ?_
          -- region 7
          refine tr_env (es_cons (t := 0) (OT.tmp rfl) (es_cons (t := 1) (OT.tmp rfl) (es_cons (t := 5) (OT.tmp rfl) (es_cons (t := 6) (OT.tmp rfl) (es_cons (t := 7) (OT.tmp rfl) (es_cons (t := 8) (OT.tmp rfl) es_nil)))))) ?_
          refine tr_region ?_
          refine op_pure (pu_move (OT.tmp rfl)) rfl rfl ?_
          first
          | refine op_pure (pu_sub' (OT.tmp rfl) OT.const (by first | omega | assumption | (simp; omega) | (simp [maxLen]; omega) | (simp [maxLen] at *; omega))) rfl rfl ?_
          | refine op_pure (pu_sub (OT.tmp rfl) OT.const) rfl rfl ?_
          refine op_pure (pu_assign (OT.tmp rfl)) rfl rfl ?_
          refine tr_nil ?_
          refine then_normal ?_
          exact tr_again (k + 1, v8_10) (by first | omega | assumption | (simp; omega) | (simp [maxLen]; omega) | (simp [maxLen] at *; omega)) (by first | omega | assumption | (simp; omega) | (simp [maxLen]; omega) | (simp [maxLen] at *; omega)) (es_append (es_cons (t := 8) (by first | exact OT.tmp rfl | exact OT.val (OT.tmp rfl) (congrArg (Value.int _) (by first | omega | (simp; omega) | simp))) (es_cons (t := 7) (by first | exact OT.tmp rfl | exact OT.val (OT.tmp rfl) (congrArg (Value.int _) (by first | omega | (simp; omega) | simp))) es_nil)) (es_cons (t := 0) (OT.tmp rfl) (es_cons (t := 1) (OT.tmp rfl) (es_cons (t := 5) (OT.tmp rfl) (es_cons (t := 6) (OT.tmp rfl) es_nil))))) (own_picks (by rw [twiceTo]; exact (by repeat (first | exact picks_nil | refine picks_cons 0 rfl ?_ | refine picks_cons 1 rfl ?_ | refine picks_cons 2 rfl ?_ | refine picks_cons 3 rfl ?_ | refine picks_cons 4 rfl ?_ | refine picks_cons 5 rfl ?_ | refine picks_cons 6 rfl ?_))))
      · try simp only [decide_eq_true_eq, decide_eq_false_iff_not, Bool.or_eq_true, Bool.and_eq_true, Bool.or_eq_false_iff, Bool.and_eq_false_iff, Bool.not_eq_true', Bool.not_eq_false', ne_eq, Classical.not_not] at c39
        obtain rfl : k = es.length := by omega
        refine tr_exit ?_
        refine then_exit ?_
        refine then_exit ?_
        refine block_hit ?_
        refine then_normal ?_
        refine tr_seq ?_
        -- region 9
        refine tr_env (es_cons (t := 0) (OT.tmp rfl) (es_cons (t := 1) (OT.tmp rfl) (es_cons (t := 5) (OT.tmp rfl) (es_cons (t := 6) (OT.tmp rfl) (es_cons (t := 7) (OT.tmp rfl) es_nil))))) ?_
        refine tr_freeze (by first | exact perm_at 0 rfl | exact perm_at 1 rfl | exact perm_at 2 rfl | exact perm_at 3 rfl | exact perm_at 4 rfl | exact perm_at 5 rfl) 7 (OT.tmp rfl) ?_
        refine tr_region ?_
        refine op_pure (pu_move (OT.tmp rfl)) rfl rfl ?_
        refine op_acts (acts_call (CaughtAll_fn _ (by simp [maxLen]; omega)) (show enters Try.prog 14 = true from by decide +kernel) (OTs.cons (OT.tmp rfl) OTs.nil) (List.Perm.refl _)) (List.Perm.refl _) rfl rfl (fun v9_1 _ => ?_)
        refine op_pure (pu_move (OT.tmp rfl)) rfl rfl ?_
        refine op_pure (pu_extract (OT.tmp rfl) rfl) rfl rfl ?_
        refine op_pure (pu_extract (OT.tmp rfl) rfl) rfl rfl ?_
        refine op_pure (pu_assign (OT.tmp rfl)) rfl rfl ?_
        refine op_pure (pu_assign (OT.tmp rfl)) rfl rfl ?_
        refine tr_nil ?_
        refine then_normal ?_
        refine tr_seq ?_
        -- region 10
        refine tr_env (es_cons (t := 0) (OT.tmp rfl) (es_cons (t := 1) (OT.tmp rfl) (es_cons (t := 5) (OT.tmp rfl) (es_cons (t := 6) (OT.tmp rfl) (es_cons (t := 9) (OT.tmp rfl) (es_cons (t := 10) (OT.tmp rfl) es_nil)))))) ?_
        have hcl1 := caughtL_len es
        have hlt := look_twice (es := es) (by omega)
        have hct := caughtL_twice (es := es) (by omega)
        dsimp only
        rw [hlt, hct]
        clear hlt hct htl
        have hmore : ∀ x, badB (es ++ more) = false → badB es = false → x ∈ caughtL es → x ∈ caughtL (es ++ more) := fun x h h0 hx => caught_more h h0 hx
        generalize hq1 : caughtL es = l1 at hmore hcl1 ⊢
        generalize hz1 : lookI es = z1 at ⊢
        refine tr_region ?_
        refine op_pure (pu_move (OT.tmp rfl)) rfl rfl ?_
        refine op_acts (acts_call (own_fn _ hown16) (show enters Try.prog 13 = true from by decide +kernel) (OTs.cons (OT.tmp rfl) OTs.nil) (List.Perm.refl _)) (List.Perm.refl _) rfl rfl (fun v10_1 _ => ?_)
        refine op_pure (pu_move (OT.tmp rfl)) rfl rfl ?_
        first
        | refine op_acts (acts_append (OT.tmp rfl) (by first | exact perm_at 0 rfl | exact perm_at 1 rfl | exact perm_at 2 rfl | exact perm_at 3 rfl | exact perm_at 4 rfl | exact perm_at 5 rfl) (OT.tmp rfl) (show slTy Try.prog 22 30 _ 16 = true from by decide +kernel) (by first | omega | assumption | (simp; omega) | (simp [maxLen]; omega) | (simp [maxLen] at *; omega)) (by first | omega | assumption | (simp; omega) | (simp [maxLen]; omega) | (simp [maxLen] at *; omega))) (by first | exact perm_at 0 rfl | exact perm_at 1 rfl | exact perm_at 2 rfl | exact perm_at 3 rfl | exact perm_at 4 rfl | exact perm_at 5 rfl) rfl rfl (fun v10_3 _ => ?_)
        | refine op_acts (acts_append_q (OT.tmp rfl) (by first | exact perm_at 0 rfl | exact perm_at 1 rfl | exact perm_at 2 rfl | exact perm_at 3 rfl | exact perm_at 4 rfl | exact perm_at 5 rfl) (OT.tmp rfl) (show slTy Try.prog 22 30 _ 16 = true from by decide +kernel) (by first | omega | assumption | (simp; omega) | (simp [maxLen]; omega) | (simp [maxLen] at *; omega)) (by first | omega | assumption | (simp; omega) | (simp [maxLen]; omega) | (simp [maxLen] at *; omega))) (by first | exact perm_at 0 rfl | exact perm_at 1 rfl | exact perm_at 2 rfl | exact perm_at 3 rfl | exact perm_at 4 rfl | exact perm_at 5 rfl) rfl rfl (fun v10_3 _ => ?_)
        refine tr_freeze (by first | exact perm_at 0 rfl | exact perm_at 1 rfl | exact perm_at 2 rfl | exact perm_at 3 rfl | exact perm_at 4 rfl | exact perm_at 5 rfl) 62 (OT.tmp rfl) ?_
        refine op_acts (acts_call (CaughtAll_fn _ (by simp [maxLen]; omega)) (show enters Try.prog 14 = true from by decide +kernel) (OTs.cons (OT.tmp rfl) OTs.nil) (List.Perm.refl _)) (List.Perm.refl _) rfl rfl (fun v10_4 _ => ?_)
        refine op_pure (pu_move (OT.tmp rfl)) rfl rfl ?_
        refine op_pure (pu_extract (OT.tmp rfl) rfl) rfl rfl ?_
        refine op_pure (pu_extract (OT.tmp rfl) rfl) rfl rfl ?_
        refine op_pure (pu_assign (OT.tmp rfl)) rfl rfl ?_
        refine op_pure (pu_assign (OT.tmp rfl)) rfl rfl ?_
        refine tr_nil ?_
        refine then_normal ?_
        refine tr_seq ?_
        refine tr_seq ?_
        -- region 11
        refine tr_env (es_cons (t := 5) (OT.tmp rfl) (es_cons (t := 6) (OT.tmp rfl) (es_cons (t := 9) (OT.tmp rfl) (es_cons (t := 10) (OT.tmp rfl) (es_cons (t := 11) (OT.tmp rfl) (es_cons (t := 12) (OT.tmp rfl) es_nil)))))) ?_
        have hcl3 := caughtL_len (es ++ more)
        have h01 := lookI_01 (es ++ more)
        generalize hq3 : caughtL (es ++ more) = l3 at hmore hcl3 ⊢
        generalize hz3 : lookI (es ++ more) = z3 at h01 ⊢
        refine tr_freeze (by first | exact perm_at 0 rfl | exact perm_at 1 rfl | exact perm_at 2 rfl | exact perm_at 3 rfl | exact perm_at 4 rfl | exact perm_at 5 rfl) 5 (OT.tmp rfl) ?_
        refine tr_freeze (by first | exact perm_at 0 rfl | exact perm_at 1 rfl | exact perm_at 2 rfl | exact perm_at 3 rfl | exact perm_at 4 rfl | exact perm_at 5 rfl) 9 (OT.tmp rfl) ?_
        refine tr_freeze (by first | exact perm_at 0 rfl | exact perm_at 1 rfl | exact perm_at 2 rfl | exact perm_at 3 rfl | exact perm_at 4 rfl | exact perm_at 5 rfl) 11 (OT.tmp rfl) ?_
        refine tr_region ?_
        refine op_pure (pu_move (OT.tmp rfl)) rfl rfl ?_
        first
        | refine op_pure (pu_neq (OT.tmp rfl) OT.const) rfl rfl ?_
        | refine op_pure (pu_str_neq (OT.tmp rfl) OT.const) rfl rfl ?_
        refine tr_nil ?_
        refine then_normal ?_
        refine tr_cond (OT.tmp rfl) (fun c67 => ?_) (fun c67 => ?_)
        · try simp only [decide_eq_true_eq, decide_eq_false_iff_not, Bool.or_eq_true, Bool.and_eq_true, Bool.or_eq_false_iff, Bool.and_eq_false_iff, Bool.not_eq_true', Bool.not_eq_false', ne_eq, Classical.not_not] at c67
          have hbad := lookI_nz (hz1 ▸ c67)
          have hb3 : z3 = 1 := hz3 ▸ lookI_bad (badB_more hex hbad)
          have hb1 : z1 = 1 := hz1 ▸ lookI_bad hbad
          subst hb3 hb1
          refine tr_seq ?_
          -- region 12
          refine tr_env (es_cons (t := 10) (OT.tmp rfl) (es_cons (t := 12) (OT.tmp rfl) es_nil)) ?_
          refine tr_region ?_
          refine op_pure (pu_move (OT.tmp rfl)) rfl rfl ?_
          first
          | refine op_pure (pu_eql (OT.tmp rfl) OT.const) rfl rfl ?_
          | refine op_pure (pu_str_eql (OT.tmp rfl) OT.const) rfl rfl ?_
          refine op_pure (pu_move (OT.tmp rfl)) rfl rfl ?_
          refine op_gu rfl rfl rfl (OT.gu_mk (OT.tmp rfl)) (fun hg => by (have hg1 := hg.2; (try simp only [decide_eq_true_eq, decide_eq_false_iff_not] at hg1); exact pu_move (by first | exact OT.gu (OT.tmp rfl) hg | exact OT.gu (OT.tmp rfl) hg.1 | exact OT.tmp rfl))) rfl ?_
          first
          | refine op_gu rfl rfl rfl (OT.gu_mk (OT.tmp rfl)) (fun hg => by (have hg1 := hg.2; (try simp only [decide_eq_true_eq, decide_eq_false_iff_not] at hg1); exact pu_eql (by first | exact OT.gu (OT.tmp rfl) hg | exact OT.gu (OT.tmp rfl) hg.1 | exact OT.tmp rfl) OT.const)) rfl ?_
          | refine op_gu rfl rfl rfl (OT.gu_mk (OT.tmp rfl)) (fun hg => by (have hg1 := hg.2; (try simp only [decide_eq_true_eq, decide_eq_false_iff_not] at hg1); exact pu_str_eql (by first | exact OT.gu (OT.tmp rfl) hg | exact OT.gu (OT.tmp rfl) hg.1 | exact OT.tmp rfl) OT.const)) rfl ?_
          refine op_pure (pu_pick_and (OT.tmp rfl) (by first | exact OT.tmp rfl | exact OT.gu_in (OT.tmp rfl) ⟨trivial, rfl⟩)) rfl rfl ?_
          refine op_pure (pu_assign (OT.tmp rfl)) rfl rfl ?_
          refine tr_nil ?_
          refine then_normal ?_
          refine tr_ret ?_
          refine then_ret ?_
          exact ret_one .ret (.inl rfl) rfl () (OT.val (OT.tmp rfl) (congrArg Value.bool (by simp))) trivial (by repeat (first | exact picks_nil | refine picks_cons 0 rfl ?_ | refine picks_cons 1 rfl ?_ | refine picks_cons 2 rfl ?_ | refine picks_cons 3 rfl ?_ | refine picks_cons 4 rfl ?_ | refine picks_cons 5 rfl ?_ | refine picks_cons 6 rfl ?_))
        · try simp only [decide_eq_true_eq, decide_eq_false_iff_not, Bool.or_eq_true, Bool.and_eq_true, Bool.or_eq_false_iff, Bool.and_eq_false_iff, Bool.not_eq_true', Bool.not_eq_false', ne_eq, Classical.not_not] at c67
          have hbad := lookI_z (hz1 ▸ c67)
          subst c67
          refine tr_skip ?_
          refine then_normal ?_
          refine tr_seq ?_
          refine tr_seq ?_
          -- region 13
          refine tr_env (es_cons (t := 5) (OT.tmp rfl) (es_cons (t := 9) (OT.tmp rfl) (es_cons (t := 10) (OT.tmp rfl) (es_cons (t := 11) (OT.tmp rfl) (es_cons (t := 12) (OT.tmp rfl) es_nil))))) ?_
          refine tr_region ?_
          refine op_pure (pu_move (OT.tmp rfl)) rfl rfl ?_
          first
          | refine op_pure (pu_neq (OT.tmp rfl) OT.const) rfl rfl ?_
          | refine op_pure (pu_str_neq (OT.tmp rfl) OT.const) rfl rfl ?_
          refine op_pure (pu_move (OT.tmp rfl)) rfl rfl ?_
          refine op_gu rfl rfl rfl (OT.gu_mk (OT.tmp rfl)) (fun hg => by (have hg1 := hg.2; (try simp only [decide_eq_true_eq, decide_eq_false_iff_not] at hg1); exact pu_move (by first | exact OT.gu (OT.tmp rfl) hg | exact OT.gu (OT.tmp rfl) hg.1 | exact OT.tmp rfl))) rfl ?_
          refine op_gu rfl rfl rfl (OT.gu_mk (OT.tmp rfl)) (fun hg => by (have hg1 := hg.2; (try simp only [decide_eq_true_eq, decide_eq_false_iff_not] at hg1); exact pu_move (by first | exact OT.gu (OT.tmp rfl) hg | exact OT.gu (OT.tmp rfl) hg.1 | exact OT.tmp rfl))) rfl ?_
          refine op_gu_acts () rfl rfl rfl (OT.gu_mk (OT.tmp rfl)) (fun hg => by (have hg1 := hg.2; (try simp only [decide_eq_true_eq, decide_eq_false_iff_not] at hg1); exact acts_call (Ints_fn l1 l1 (by simp only [maxLen]; omega)) (show enters Try.prog 16 = true from by decide +kernel) (OTs.cons (by first | exact OT.gu (OT.tmp rfl) hg | exact OT.gu (OT.tmp rfl) hg.1 | exact OT.tmp rfl) (OTs.cons (by first | exact OT.gu (OT.tmp rfl) hg | exact OT.gu (OT.tmp rfl) hg.1 | exact OT.tmp rfl) OTs.nil)) (List.Perm.refl _))) rfl (fun _ _ => ?_)
          refine op_gu rfl rfl rfl (OT.gu_mk (OT.tmp rfl)) (fun hg => by (have hg1 := hg.2; (try simp only [decide_eq_true_eq, decide_eq_false_iff_not] at hg1); exact pu_not (by first | exact OT.gu (OT.tmp rfl) hg | exact OT.gu (OT.tmp rfl) hg.1 | exact OT.tmp rfl))) rfl ?_
          refine op_pure (pu_pick_or (OT.tmp rfl) (by first | exact OT.tmp rfl | exact OT.gu_in (OT.tmp rfl) ⟨trivial, rfl⟩)) rfl rfl ?_
          refine op_pure (pu_move (OT.tmp rfl)) rfl rfl ?_
          refine op_gu rfl rfl rfl (OT.gu_mk (OT.tmp rfl)) (fun hg => by (have hg1 := hg.2; (try simp only [decide_eq_true_eq, decide_eq_false_iff_not] at hg1); exact pu_move (by first | exact OT.gu (OT.tmp rfl) hg | exact OT.gu (OT.tmp rfl) hg.1 | exact OT.tmp rfl))) rfl ?_
          first
          | refine op_gu rfl rfl rfl (OT.gu_mk (OT.tmp rfl)) (fun hg => by (have hg1 := hg.2; (try simp only [decide_eq_true_eq, decide_eq_false_iff_not] at hg1); exact pu_neq (by first | exact OT.gu (OT.tmp rfl) hg | exact OT.gu (OT.tmp rfl) hg.1 | exact OT.tmp rfl) OT.const)) rfl ?_
          | refine op_gu rfl rfl rfl (OT.gu_mk (OT.tmp rfl)) (fun hg => by (have hg1 := hg.2; (try simp only [decide_eq_true_eq, decide_eq_false_iff_not] at hg1); exact pu_str_neq (by first | exact OT.gu (OT.tmp rfl) hg | exact OT.gu (OT.tmp rfl) hg.1 | exact OT.tmp rfl) OT.const)) rfl ?_
          refine op_gu rfl rfl rfl (OT.gu_mk (OT.tmp rfl)) (fun hg => by (have hg1 := hg.2; (try simp only [decide_eq_true_eq, decide_eq_false_iff_not] at hg1); exact pu_move (by first | exact OT.gu (OT.tmp rfl) hg | exact OT.gu (OT.tmp rfl) hg.1 | exact OT.tmp rfl))) rfl ?_
          refine op_gu rfl rfl rfl (OT.tmp rfl) (fun hg => by (have hg1 := hg.2; (try simp only [decide_eq_true_eq, decide_eq_false_iff_not] at hg1); exact pu_move (by first | exact OT.gu (OT.tmp rfl) hg | exact OT.gu (OT.tmp rfl) hg.1 | exact OT.tmp rfl))) rfl ?_
          first
          | refine op_gu rfl rfl rfl (OT.tmp rfl) (fun hg => by (have hg1 := hg.2; (try simp only [decide_eq_true_eq, decide_eq_false_iff_not] at hg1); exact pu_neq (by first | exact OT.gu (OT.tmp rfl) hg | exact OT.gu (OT.tmp rfl) hg.1 | exact OT.tmp rfl) OT.const)) rfl ?_
          | refine op_gu rfl rfl rfl (OT.tmp rfl) (fun hg => by (have hg1 := hg.2; (try simp only [decide_eq_true_eq, decide_eq_false_iff_not] at hg1); exact pu_str_neq (by first | exact OT.gu (OT.tmp rfl) hg | exact OT.gu (OT.tmp rfl) hg.1 | exact OT.tmp rfl) OT.const)) rfl ?_
          refine op_gu rfl rfl rfl (OT.gu_mk (OT.tmp rfl)) (fun hg => by (have hg1 := hg.2; (try simp only [decide_eq_true_eq, decide_eq_false_iff_not] at hg1); exact pu_pick_and_p hg (by first | exact OT.gu (OT.tmp rfl) hg | exact OT.gu (OT.tmp rfl) hg.1 | exact OT.tmp rfl) (OT.tmp rfl))) rfl ?_
          refine op_pure (pu_pick_or (OT.tmp rfl) (by first | exact OT.tmp rfl | exact OT.gu_in (OT.tmp rfl) ⟨trivial, rfl⟩)) rfl rfl ?_
          refine tr_nil ?_
          refine then_normal ?_
          refine tr_cond (OT.tmp rfl) (fun c89 => ?_) (fun c89 => ?_)
          · try simp only [decide_eq_true_eq, decide_eq_false_iff_not, Bool.or_eq_true, Bool.and_eq_true, Bool.or_eq_false_iff, Bool.and_eq_false_iff, Bool.not_eq_true', Bool.not_eq_false', ne_eq, Classical.not_not] at c89
            exact absurd c89 (by rcases h01 with h9 | h9 <;> rw [h9] <;> simp) --done
          · try simp only [decide_eq_true_eq, decide_eq_false_iff_not, Bool.or_eq_true, Bool.and_eq_true, Bool.or_eq_false_iff, Bool.and_eq_false_iff, Bool.not_eq_true', Bool.not_eq_false', ne_eq, Classical.not_not] at c89
            refine tr_skip ?_
            refine then_normal ?_
            refine tr_seq ?_
            refine tr_seq ?_
            -- region 15
            refine tr_env (es_cons (t := 5) (OT.tmp rfl) (es_cons (t := 11) (OT.tmp rfl) (es_cons (t := 12) (OT.tmp rfl) es_nil))) ?_
            refine tr_region ?_
            refine op_pure (pu_move (OT.tmp rfl)) rfl rfl ?_
            first
            | refine op_pure (pu_len_sl (OT.tmp rfl) Try.underlying25) rfl rfl ?_
            | refine op_pure (pu_len_own (OT.tmp rfl) (by first | exact mem_at 0 rfl | exact mem_at 1 rfl | exact mem_at 2 rfl | exact mem_at 3 rfl | exact mem_at 4 rfl | exact mem_at 5 rfl) Try.underlying25) rfl rfl ?_
            | refine op_pure (pu_len_q (OT.tmp rfl) (by first | exact mem_at 0 rfl | exact mem_at 1 rfl | exact mem_at 2 rfl | exact mem_at 3 rfl | exact mem_at 4 rfl | exact mem_at 5 rfl) Try.underlying25) rfl rfl ?_
            | refine op_pure (pu_len_str Try.underlying25 (OT.tmp rfl)) rfl rfl ?_
            refine op_pure (pu_move OT.const) rfl rfl ?_
            refine tr_nil ?_
            refine then_normal ?_
            refine tr_block ?_
            refine tr_loopK (σ := Nat) (es_cons (t := 11) (OT.tmp rfl) (es_cons (t := 12) (OT.tmp rfl) (es_cons (t := 90) (OT.tmp rfl) (es_cons (t := 91) (OT.tmp rfl) es_nil)))) (fun k => [(92, I64 (k : Int))]) (fun k => []) (fun k => k ≤ (l1).length) (fun k => (l1).length - k) 0 (Nat.zero_le _) ?_ (own_picks (by repeat (first | exact picks_nil | refine picks_cons 0 rfl ?_ | refine picks_cons 1 rfl ?_ | refine picks_cons 2 rfl ?_ | refine picks_cons 3 rfl ?_ | refine picks_cons 4 rfl ?_ | refine picks_cons 5 rfl ?_ | refine picks_cons 6 rfl ?_))) ?_
            · exact (es_cons (t := 92) (by first | exact OT.tmp rfl | exact OT.val (OT.tmp rfl) (congrArg (Value.int _) (by first | omega | (simp; omega) | simp))) es_nil)
            · rintro k hk
              refine tr_seq ?_
              -- region 16
              refine tr_env (es_cons (t := 11) (OT.tmp rfl) (es_cons (t := 12) (OT.tmp rfl) (es_cons (t := 90) (OT.tmp rfl) (es_cons (t := 91) (OT.tmp rfl) (es_cons (t := 92) (OT.tmp rfl) es_nil))))) ?_
              refine tr_region ?_
              refine op_pure (pu_lss (OT.tmp rfl) (OT.tmp rfl)) rfl rfl ?_
              refine tr_nil ?_
              refine then_normal ?_
              refine tr_seq ?_
              refine tr_cond (OT.tmp rfl) (fun c93 => ?_) (fun c93 => ?_)
              · try simp only [decide_eq_true_eq, decide_eq_false_iff_not, Bool.or_eq_true, Bool.and_eq_true, Bool.or_eq_false_iff, Bool.and_eq_false_iff, Bool.not_eq_true', Bool.not_eq_false', ne_eq, Classical.not_not] at c93
                refine tr_skip ?_
                refine then_normal ?_
                refine tr_seq ?_
                refine tr_block ?_
                refine tr_seq ?_
                -- region 17
                refine tr_env (es_cons (t := 11) (OT.tmp rfl) (es_cons (t := 12) (OT.tmp rfl) (es_cons (t := 90) (OT.tmp rfl) (es_cons (t := 91) (OT.tmp rfl) (es_cons (t := 92) (OT.tmp rfl) es_nil))))) ?_
                refine tr_region ?_
                first
                | refine op_pure (pu_index (OT.tmp rfl) (OT.tmp rfl) Try.underlying25 (show tyOk Try.prog 3 _ _ = true from by decide +kernel) (by first | omega | assumption | (simp; omega) | (simp [maxLen]; omega) | (simp [maxLen] at *; omega)) (by first | omega | assumption | (simp; omega) | (simp [maxLen]; omega) | (simp [maxLen] at *; omega))) rfl rfl ?_
                | refine op_pure (pu_index_own (OT.tmp rfl) (by first | exact mem_at 0 rfl | exact mem_at 1 rfl | exact mem_at 2 rfl | exact mem_at 3 rfl | exact mem_at 4 rfl | exact mem_at 5 rfl) (OT.tmp rfl) Try.underlying25 (show tyOk Try.prog 3 _ _ = true from by decide +kernel) (by first | omega | assumption | (simp; omega) | (simp [maxLen]; omega) | (simp [maxLen] at *; omega)) (by first | omega | assumption | (simp; omega) | (simp [maxLen]; omega) | (simp [maxLen] at *; omega))) rfl rfl ?_
                | refine op_pure (pu_index_q (OT.tmp rfl) (by first | exact mem_at 0 rfl | exact mem_at 1 rfl | exact mem_at 2 rfl | exact mem_at 3 rfl | exact mem_at 4 rfl | exact mem_at 5 rfl) (OT.tmp rfl) Try.underlying25 (show tyOk Try.prog 3 _ _ = true from by decide +kernel) (by first | omega | assumption | (simp; omega) | (simp [maxLen]; omega) | (simp [maxLen] at *; omega)) (by first | omega | assumption | (simp; omega) | (simp [maxLen]; omega) | (simp [maxLen] at *; omega))) rfl rfl ?_
                first
                | refine op_pure (pu_load (OT.tmp rfl) (show tyOk Try.prog 3 _ _ = true from by decide +kernel)) rfl rfl ?_
                | refine op_pure (pu_load_var (OT.tmp rfl) (by first | exact mem_at 0 rfl | exact mem_at 1 rfl | exact mem_at 2 rfl | exact mem_at 3 rfl | exact mem_at 4 rfl | exact mem_at 5 rfl) (show tyOk Try.prog 3 _ _ = true from by decide +kernel)) rfl rfl ?_
                | refine op_pure (pu_load_own0 (OT.tmp rfl) (by first | exact mem_at 0 rfl | exact mem_at 1 rfl | exact mem_at 2 rfl | exact mem_at 3 rfl | exact mem_at 4 rfl | exact mem_at 5 rfl) (by first | omega | assumption | (simp; omega) | (simp [maxLen]; omega) | (simp [maxLen] at *; omega)) (by first | omega | assumption | (simp; omega) | (simp [maxLen]; omega) | (simp [maxLen] at *; omega)) (show tyOk Try.prog 3 _ _ = true from by decide +kernel)) rfl rfl ?_
                | refine op_pure (pu_load_arr (OT.tmp rfl) (by first | exact mem_at 0 rfl | exact mem_at 1 rfl | exact mem_at 2 rfl | exact mem_at 3 rfl | exact mem_at 4 rfl | exact mem_at 5 rfl) (show tyOk Try.prog 3 _ _ = true from by decide +kernel) (by first | omega | assumption | (simp; omega) | (simp [maxLen]; omega) | (simp [maxLen] at *; omega)) (by first | omega | assumption | (simp; omega) | (simp [maxLen]; omega) | (simp [maxLen] at *; omega))) rfl rfl ?_
                | refine op_pure (pu_load_p0 (OT.tmp rfl) (by first | exact mem_at 0 rfl | exact mem_at 1 rfl | exact mem_at 2 rfl | exact mem_at 3 rfl | exact mem_at 4 rfl | exact mem_at 5 rfl) (show tyOk Try.prog 3 _ _ = true from by decide +kernel)) rfl rfl ?_
                | refine op_pure (pu_load_p1 (OT.tmp rfl) (by first | exact mem_at 0 rfl | exact mem_at 1 rfl | exact mem_at 2 rfl | exact mem_at 3 rfl | exact mem_at 4 rfl | exact mem_at 5 rfl) (show tyOk Try.prog 3 _ _ = true from by decide +kernel)) rfl rfl ?_
                | refine op_pure (pu_load_q (OT.tmp rfl) (by first | exact mem_at 0 rfl | exact mem_at 1 rfl | exact mem_at 2 rfl | exact mem_at 3 rfl | exact mem_at 4 rfl | exact mem_at 5 rfl) (by first | omega | assumption | (simp; omega) | (simp [maxLen]; omega) | (simp [maxLen] at *; omega)) (by first | omega | assumption | (simp; omega) | (simp [maxLen]; omega) | (simp [maxLen] at *; omega)) (show tyOk Try.prog 3 _ _ = true from by decide +kernel)) rfl rfl ?_
                refine op_pure (pu_assign (OT.tmp rfl)) rfl rfl ?_
                refine tr_nil ?_
                refine then_normal ?_
                refine tr_seq ?_
                -- region 18
                refine tr_env (es_cons (t := 11) (OT.tmp rfl) (es_cons (t := 12) (OT.tmp rfl) (es_cons (t := 14) (OT.tmp rfl) (es_cons (t := 90) (OT.tmp rfl) (es_cons (t := 91) (OT.tmp rfl) (es_cons (t := 92) (OT.tmp rfl) es_nil)))))) ?_
                refine tr_region ?_
                refine op_pure (pu_move (OT.tmp rfl)) rfl rfl ?_
                first
                | refine op_pure (pu_neq (OT.tmp rfl) OT.const) rfl rfl ?_
                | refine op_pure (pu_str_neq (OT.tmp rfl) OT.const) rfl rfl ?_
                refine op_pure (pu_assign (OT.tmp rfl)) rfl rfl ?_
                refine tr_nil ?_
                refine then_normal ?_
                refine tr_seq ?_
                refine tr_seq ?_
                -- region 19
                refine tr_env (es_cons (t := 11) (OT.tmp rfl) (es_cons (t := 12) (OT.tmp rfl) (es_cons (t := 14) (OT.tmp rfl) (es_cons (t := 15) (OT.tmp rfl) (es_cons (t := 90) (OT.tmp rfl) (es_cons (t := 91) (OT.tmp rfl) (es_cons (t := 92) (OT.tmp rfl) es_nil))))))) ?_
                refine tr_region ?_
                refine op_pure (pu_move (OT.tmp rfl)) rfl rfl ?_
                first
                | refine op_pure (pu_len_sl (OT.tmp rfl) Try.underlying25) rfl rfl ?_
                | refine op_pure (pu_len_own (OT.tmp rfl) (by first | exact mem_at 0 rfl | exact mem_at 1 rfl | exact mem_at 2 rfl | exact mem_at 3 rfl | exact mem_at 4 rfl | exact mem_at 5 rfl) Try.underlying25) rfl rfl ?_
                | refine op_pure (pu_len_q (OT.tmp rfl) (by first | exact mem_at 0 rfl | exact mem_at 1 rfl | exact mem_at 2 rfl | exact mem_at 3 rfl | exact mem_at 4 rfl | exact mem_at 5 rfl) Try.underlying25) rfl rfl ?_
                | refine op_pure (pu_len_str Try.underlying25 (OT.tmp rfl)) rfl rfl ?_
                refine op_pure (pu_move OT.const) rfl rfl ?_
                refine tr_nil ?_
                refine then_normal ?_
                refine tr_block ?_
                refine tr_loopK (σ := Nat) (es_cons (t := 11) (OT.tmp rfl) (es_cons (t := 12) (OT.tmp rfl) (es_cons (t := 14) (OT.tmp rfl) (es_cons (t := 90) (OT.tmp rfl) (es_cons (t := 91) (OT.tmp rfl) (es_cons (t := 92) (OT.tmp rfl) (es_cons (t := 98) (OT.tmp rfl) (es_cons (t := 99) (OT.tmp rfl) es_nil)))))))) (fun j => [(100, I64 (j : Int)), (15, BoolT (!decide (z3 = 0) || ((l3).take j).any fun x => decide (x = at' (l1) (k : Int))))]) (fun j => []) (fun j => j ≤ (l3).length) (fun j => (l3).length - j) 0 (Nat.zero_le _) ?_ (own_picks (by repeat (first | exact picks_nil | refine picks_cons 0 rfl ?_ | refine picks_cons 1 rfl ?_ | refine picks_cons 2 rfl ?_ | refine picks_cons 3 rfl ?_ | refine picks_cons 4 rfl ?_ | refine picks_cons 5 rfl ?_ | refine picks_cons 6 rfl ?_))) ?_
                · exact (es_cons (t := 100) (by first | exact OT.tmp rfl | exact OT.val (OT.tmp rfl) (congrArg (Value.int _) (by first | omega | (simp; omega) | simp))) (es_cons (t := 15) (OT.val (OT.tmp rfl) (congrArg Value.bool (by simp))) es_nil))
                · rintro j hj
                  refine tr_seq ?_
                  -- region 20
                  refine tr_env (es_cons (t := 11) (OT.tmp rfl) (es_cons (t := 12) (OT.tmp rfl) (es_cons (t := 14) (OT.tmp rfl) (es_cons (t := 15) (OT.tmp rfl) (es_cons (t := 90) (OT.tmp rfl) (es_cons (t := 91) (OT.tmp rfl) (es_cons (t := 92) (OT.tmp rfl) (es_cons (t := 98) (OT.tmp rfl) (es_cons (t := 99) (OT.tmp rfl) (es_cons (t := 100) (OT.tmp rfl) es_nil)))))))))) ?_
                  refine tr_region ?_
                  refine op_pure (pu_lss (OT.tmp rfl) (OT.tmp rfl)) rfl rfl ?_
                  refine tr_nil ?_
                  refine then_normal ?_
                  refine tr_seq ?_
                  refine tr_cond (OT.tmp rfl) (fun c101 => ?_) (fun c101 => ?_)
                  · try simp only [decide_eq_true_eq, decide_eq_false_iff_not, Bool.or_eq_true, Bool.and_eq_true, Bool.or_eq_false_iff, Bool.and_eq_false_iff, Bool.not_eq_true', Bool.not_eq_false', ne_eq, Classical.not_not] at c101
                    refine tr_skip ?_
                    refine then_normal ?_
                    refine tr_seq ?_
                    refine tr_block ?_
                    refine tr_seq ?_
                    -- region 21
                    refine tr_env (es_cons (t := 11) (OT.tmp rfl) (es_cons (t := 12) (OT.tmp rfl) (es_cons (t := 14) (OT.tmp rfl) (es_cons (t := 15) (OT.tmp rfl) (es_cons (t := 90) (OT.tmp rfl) (es_cons (t := 91) (OT.tmp rfl) (es_cons (t := 92) (OT.tmp rfl) (es_cons (t := 98) (OT.tmp rfl) (es_cons (t := 99) (OT.tmp rfl) (es_cons (t := 100) (OT.tmp rfl) es_nil)))))))))) ?_
                    refine tr_region ?_
                    first
                    | refine op_pure (pu_index (OT.tmp rfl) (OT.tmp rfl) Try.underlying25 (show tyOk Try.prog 3 _ _ = true from by decide +kernel) (by first | omega | assumption | (simp; omega) | (simp [maxLen]; omega) | (simp [maxLen] at *; omega)) (by first | omega | assumption | (simp; omega) | (simp [maxLen]; omega) | (simp [maxLen] at *; omega))) rfl rfl ?_
                    | refine op_pure (pu_index_own (OT.tmp rfl) (by first | exact mem_at 0 rfl | exact mem_at 1 rfl | exact mem_at 2 rfl | exact mem_at 3 rfl | exact mem_at 4 rfl | exact mem_at 5 rfl) (OT.tmp rfl) Try.underlying25 (show tyOk Try.prog 3 _ _ = true from by decide +kernel) (by first | omega | assumption | (simp; omega) | (simp [maxLen]; omega) | (simp [maxLen] at *; omega)) (by first | omega | assumption | (simp; omega) | (simp [maxLen]; omega) | (simp [maxLen] at *; omega))) rfl rfl ?_
                    | refine op_pure (pu_index_q (OT.tmp rfl) (by first | exact mem_at 0 rfl | exact mem_at 1 rfl | exact mem_at 2 rfl | exact mem_at 3 rfl | exact mem_at 4 rfl | exact mem_at 5 rfl) (OT.tmp rfl) Try.underlying25 (show tyOk Try.prog 3 _ _ = true from by decide +kernel) (by first | omega | assumption | (simp; omega) | (simp [maxLen]; omega) | (simp [maxLen] at *; omega)) (by first | omega | assumption | (simp; omega) | (simp [maxLen]; omega) | (simp [maxLen] at *; omega))) rfl rfl ?_
                    first
                    | refine op_pure (pu_load (OT.tmp rfl) (show tyOk Try.prog 3 _ _ = true from by decide +kernel)) rfl rfl ?_
                    | refine op_pure (pu_load_var (OT.tmp rfl) (by first | exact mem_at 0 rfl | exact mem_at 1 rfl | exact mem_at 2 rfl | exact mem_at 3 rfl | exact mem_at 4 rfl | exact mem_at 5 rfl) (show tyOk Try.prog 3 _ _ = true from by decide +kernel)) rfl rfl ?_
                    | refine op_pure (pu_load_own0 (OT.tmp rfl) (by first | exact mem_at 0 rfl | exact mem_at 1 rfl | exact mem_at 2 rfl | exact mem_at 3 rfl | exact mem_at 4 rfl | exact mem_at 5 rfl) (by first | omega | assumption | (simp; omega) | (simp [maxLen]; omega) | (simp [maxLen] at *; omega)) (by first | omega | assumption | (simp; omega) | (simp [maxLen]; omega) | (simp [maxLen] at *; omega)) (show tyOk Try.prog 3 _ _ = true from by decide +kernel)) rfl rfl ?_
                    | refine op_pure (pu_load_arr (OT.tmp rfl) (by first | exact mem_at 0 rfl | exact mem_at 1 rfl | exact mem_at 2 rfl | exact mem_at 3 rfl | exact mem_at 4 rfl | exact mem_at 5 rfl) (show tyOk Try.prog 3 _ _ = true from by decide +kernel) (by first | omega | assumption | (simp; omega) | (simp [maxLen]; omega) | (simp [maxLen] at *; omega)) (by first | omega | assumption | (simp; omega) | (simp [maxLen]; omega) | (simp [maxLen] at *; omega))) rfl rfl ?_
                    | refine op_pure (pu_load_p0 (OT.tmp rfl) (by first | exact mem_at 0 rfl | exact mem_at 1 rfl | exact mem_at 2 rfl | exact mem_at 3 rfl | exact mem_at 4 rfl | exact mem_at 5 rfl) (show tyOk Try.prog 3 _ _ = true from by decide +kernel)) rfl rfl ?_
                    | refine op_pure (pu_load_p1 (OT.tmp rfl) (by first | exact mem_at 0 rfl | exact mem_at 1 rfl | exact mem_at 2 rfl | exact mem_at 3 rfl | exact mem_at 4 rfl | exact mem_at 5 rfl) (show tyOk Try.prog 3 _ _ = true from by decide +kernel)) rfl rfl ?_
                    | refine op_pure (pu_load_q (OT.tmp rfl) (by first | exact mem_at 0 rfl | exact mem_at 1 rfl | exact mem_at 2 rfl | exact mem_at 3 rfl | exact mem_at 4 rfl | exact mem_at 5 rfl) (by first | omega | assumption | (simp; omega) | (simp [maxLen]; omega) | (simp [maxLen] at *; omega)) (by first | omega | assumption | (simp; omega) | (simp [maxLen]; omega) | (simp [maxLen] at *; omega)) (show tyOk Try.prog 3 _ _ = true from by decide +kernel)) rfl rfl ?_
                    refine op_pure (pu_assign (OT.tmp rfl)) rfl rfl ?_
                    refine tr_nil ?_
                    refine then_normal ?_
                    -- region 22
                    refine tr_env (es_cons (t := 11) (OT.tmp rfl) (es_cons (t := 12) (OT.tmp rfl) (es_cons (t := 14) (OT.tmp rfl) (es_cons (t := 15) (OT.tmp rfl) (es_cons (t := 17) (OT.tmp rfl) (es_cons (t := 90) (OT.tmp rfl) (es_cons (t := 91) (OT.tmp rfl) (es_cons (t := 92) (OT.tmp rfl) (es_cons (t := 98) (OT.tmp rfl) (es_cons (t := 99) (OT.tmp rfl) (es_cons (t := 100) (OT.tmp rfl) es_nil))))))))))) ?_
                    refine tr_region ?_
                    refine op_pure (pu_move (OT.tmp rfl)) rfl rfl ?_
                    refine op_pure (pu_move (OT.tmp rfl)) rfl rfl ?_
                    refine op_gu rfl rfl rfl (OT.gu_mk (OT.tmp rfl)) (fun hg => by (have hg1 := hg.2; (try simp only [decide_eq_true_eq, decide_eq_false_iff_not] at hg1); exact pu_move (by first | exact OT.gu (OT.tmp rfl) hg | exact OT.gu (OT.tmp rfl) hg.1 | exact OT.tmp rfl))) rfl ?_
                    refine op_gu rfl rfl rfl (OT.gu_mk (OT.tmp rfl)) (fun hg => by (have hg1 := hg.2; (try simp only [decide_eq_true_eq, decide_eq_false_iff_not] at hg1); exact pu_move (by first | exact OT.gu (OT.tmp rfl) hg | exact OT.gu (OT.tmp rfl) hg.1 | exact OT.tmp rfl))) rfl ?_
                    first
                    | refine op_gu rfl rfl rfl (OT.gu_mk (OT.tmp rfl)) (fun hg => by (have hg1 := hg.2; (try simp only [decide_eq_true_eq, decide_eq_false_iff_not] at hg1); exact pu_eql (by first | exact OT.gu (OT.tmp rfl) hg | exact OT.gu (OT.tmp rfl) hg.1 | exact OT.tmp rfl) (by first | exact OT.gu (OT.tmp rfl) hg | exact OT.gu (OT.tmp rfl) hg.1 | exact OT.tmp rfl))) rfl ?_
                    | refine op_gu rfl rfl rfl (OT.gu_mk (OT.tmp rfl)) (fun hg => by (have hg1 := hg.2; (try simp only [decide_eq_true_eq, decide_eq_false_iff_not] at hg1); exact pu_str_eql (by first | exact OT.gu (OT.tmp rfl) hg | exact OT.gu (OT.tmp rfl) hg.1 | exact OT.tmp rfl) (by first | exact OT.gu (OT.tmp rfl) hg | exact OT.gu (OT.tmp rfl) hg.1 | exact OT.tmp rfl))) rfl ?_
                    refine op_pure (pu_pick_or (OT.tmp rfl) (by first | exact OT.tmp rfl | exact OT.gu_in (OT.tmp rfl) ⟨trivial, rfl⟩)) rfl rfl ?_
                    refine op_pure (pu_assign (OT.tmp rfl)) rfl rfl ?_
                    refine tr_nil ?_
                    refine block_normal ?_
                    refine then_normal ?_
                    -- region 23
                    refine tr_env (es_cons (t := 11) (OT.tmp rfl) (es_cons (t := 12) (OT.tmp rfl) (es_cons (t := 14) (OT.tmp rfl) (es_cons (t := 15) (OT.tmp rfl) (es_cons (t := 90) (OT.tmp rfl) (es_cons (t := 91) (OT.tmp rfl) (es_cons (t := 92) (OT.tmp rfl) (es_cons (t := 98) (OT.tmp rfl) (es_cons (t := 99) (OT.tmp rfl) (es_cons (t := 100) (OT.tmp rfl) es_nil)))))))))) ?_
                    refine tr_region ?_
                    first
                    | refine op_pure (pu_add' (OT.tmp rfl) OT.const (by first | omega | assumption | (simp; omega) | (simp [maxLen]; omega) | (simp [maxLen] at *; omega))) rfl rfl ?_
                    | refine op_pure (pu_add (OT.tmp rfl) OT.const) rfl rfl ?_
                    | refine op_pure (pu_str_add (OT.tmp rfl) OT.const (by first | omega | assumption | (simp; omega) | (simp [maxLen]; omega) | (simp [maxLen] at *; omega))) rfl rfl ?_
                    refine op_pure (pu_move (OT.tmp rfl)) rfl rfl ?_
                    refine tr_nil ?_
                    refine then_normal ?_
                    exact tr_again (j + 1) (by first | omega | assumption | (simp; omega) | (simp [maxLen]; omega) | (simp [maxLen] at *; omega)) (by first | omega | assumption | (simp; omega) | (simp [maxLen]; omega) | (simp [maxLen] at *; omega)) (es_append (es_cons (t := 100) (by first | exact OT.tmp rfl | exact OT.val (OT.tmp rfl) (congrArg (Value.int _) (by first | omega | (simp; omega) | simp))) (es_cons (t := 15) (OT.val (OT.tmp rfl) (congrArg Value.bool (any_next_or (xs := l3) (j := j) (by omega) _ _).symm)) es_nil)) (es_cons (t := 11) (OT.tmp rfl) (es_cons (t := 12) (OT.tmp rfl) (es_cons (t := 14) (OT.tmp rfl) (es_cons (t := 90) (OT.tmp rfl) (es_cons (t := 91) (OT.tmp rfl) (es_cons (t := 92) (OT.tmp rfl) (es_cons (t := 98) (OT.tmp rfl) (es_cons (t := 99) (OT.tmp rfl) es_nil))))))))) (own_picks (by repeat (first | exact picks_nil | refine picks_cons 0 rfl ?_ | refine picks_cons 1 rfl ?_ | refine picks_cons 2 rfl ?_ | refine picks_cons 3 rfl ?_ | refine picks_cons 4 rfl ?_ | refine picks_cons 5 rfl ?_ | refine picks_cons 6 rfl ?_)))
                  · try simp only [decide_eq_true_eq, decide_eq_false_iff_not, Bool.or_eq_true, Bool.and_eq_true, Bool.or_eq_false_iff, Bool.and_eq_false_iff, Bool.not_eq_true', Bool.not_eq_false', ne_eq, Classical.not_not] at c101
                    obtain rfl : j = l3.length := by omega
                    rw [List.take_length]
                    refine tr_exit ?_
                    refine then_exit ?_
                    refine then_exit ?_
                    refine block_hit ?_
                    refine then_normal ?_
                    refine tr_seq ?_
                    -- region 24
                    refine tr_env (es_cons (t := 11) (OT.tmp rfl) (es_cons (t := 12) (OT.tmp rfl) (es_cons (t := 15) (OT.tmp rfl) (es_cons (t := 90) (OT.tmp rfl) (es_cons (t := 91) (OT.tmp rfl) (es_cons (t := 92) (OT.tmp rfl) es_nil)))))) ?_
                    refine tr_region ?_
                    refine op_pure (pu_move (OT.tmp rfl)) rfl rfl ?_
                    refine op_pure (pu_not (OT.tmp rfl)) rfl rfl ?_
                    refine tr_nil ?_
                    refine then_normal ?_
                    refine tr_cond (OT.tmp rfl) (fun c112 => ?_) (fun c112 => ?_)
                    · try simp only [decide_eq_true_eq, decide_eq_false_iff_not, Bool.or_eq_true, Bool.and_eq_true, Bool.or_eq_false_iff, Bool.and_eq_false_iff, Bool.not_eq_true', Bool.not_eq_false', ne_eq, Classical.not_not] at c112
                      exact absurd c112 (by
                        rintro ⟨h8, h9⟩
                        have hq : z3 = 0 := by simpa using h8
                        have := hmore (at' l1 (k : Int)) (lookI_z (hz3.trans hq)) hbad (by rw [at'_nat (by omega)]; exact List.getElem_mem _)
                        exact absurd (h9.symm.trans ((List.any_eq_true (p := fun x => decide (x = at' l1 (k : Int)))).2 ⟨_, this, by simp⟩)) (by simp)) --done
                    · try simp only [decide_eq_true_eq, decide_eq_false_iff_not, Bool.or_eq_true, Bool.and_eq_true, Bool.or_eq_false_iff, Bool.and_eq_false_iff, Bool.not_eq_true', Bool.not_eq_false', ne_eq, Classical.not_not] at c112
                      refine tr_skip ?_
                      refine block_normal ?_
                      refine then_normal ?_
                      -- region 26
                      refine tr_env (es_cons (t := 11) (OT.tmp rfl) (es_cons (t := 12) (OT.tmp rfl) (es_cons (t := 90) (OT.tmp rfl) (es_cons (t := 91) (OT.tmp rfl) (es_cons (t := 92) (OT.tmp rfl) es_nil))))) ?_
                      refine tr_region ?_
                      first
                      | refine op_pure (pu_add' (OT.tmp rfl) OT.const (by first | omega | assumption | (simp; omega) | (simp [maxLen]; omega) | (simp [maxLen] at *; omega))) rfl rfl ?_
                      | refine op_pure (pu_add (OT.tmp rfl) OT.const) rfl rfl ?_
                      | refine op_pure (pu_str_add (OT.tmp rfl) OT.const (by first | omega | assumption | (simp; omega) | (simp [maxLen]; omega) | (simp [maxLen] at *; omega))) rfl rfl ?_
                      refine op_pure (pu_move (OT.tmp rfl)) rfl rfl ?_
                      refine tr_nil ?_
                      refine then_normal ?_
                      exact tr_again (k + 1) (by first | omega | assumption | (simp; omega) | (simp [maxLen]; omega) | (simp [maxLen] at *; omega)) (by first | omega | assumption | (simp; omega) | (simp [maxLen]; omega) | (simp [maxLen] at *; omega)) (es_append (es_cons (t := 92) (by first | exact OT.tmp rfl | exact OT.val (OT.tmp rfl) (congrArg (Value.int _) (by first | omega | (simp; omega) | simp))) es_nil) (es_cons (t := 11) (OT.tmp rfl) (es_cons (t := 12) (OT.tmp rfl) (es_cons (t := 90) (OT.tmp rfl) (es_cons (t := 91) (OT.tmp rfl) es_nil))))) (own_picks (by repeat (first | exact picks_nil | refine picks_cons 0 rfl ?_ | refine picks_cons 1 rfl ?_ | refine picks_cons 2 rfl ?_ | refine picks_cons 3 rfl ?_ | refine picks_cons 4 rfl ?_ | refine picks_cons 5 rfl ?_ | refine picks_cons 6 rfl ?_)))
              · try simp only [decide_eq_true_eq, decide_eq_false_iff_not, Bool.or_eq_true, Bool.and_eq_true, Bool.or_eq_false_iff, Bool.and_eq_false_iff, Bool.not_eq_true', Bool.not_eq_false', ne_eq, Classical.not_not] at c93
                refine tr_exit ?_
                refine then_exit ?_
                refine then_exit ?_
                refine block_hit ?_
                refine then_normal ?_
                refine tr_seq ?_
                -- region 27
                refine tr_env es_nil ?_
                refine tr_region ?_
                refine op_pure (pu_assign OT.const) rfl rfl ?_
                refine tr_nil ?_
                refine then_normal ?_
                refine tr_ret ?_
                exact ret_one .ret (.inl rfl) rfl () (OT.tmp rfl) trivial (by repeat (first | exact picks_nil | refine picks_cons 0 rfl ?_ | refine picks_cons 1 rfl ?_ | refine picks_cons 2 rfl ?_ | refine picks_cons 3 rfl ?_ | refine picks_cons 4 rfl ?_ | refine picks_cons 5 rfl ?_ | refine picks_cons 6 rfl ?_))
end Go.Proofs.Ytloblpklkhepbaa
