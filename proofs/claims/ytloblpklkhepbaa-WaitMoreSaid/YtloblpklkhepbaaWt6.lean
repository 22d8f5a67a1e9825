/- Walks through the Go functions rhizomeref17.IsRing, as typed contracts. -/
import Derived.Test.YtloblpklkhepbaaWt5
import Derived.ChangeKeysEq
import Derived.Laws.StructEq
namespace Go.Proofs.Ytloblpklkhepbaa
open Go Go.Gw Go.Wt
set_option linter.unusedVariables false
set_option linter.unusedSimpArgs false
theorem aggE {H : FH} {u : Int × Int} {a : Value} (h : (kE.T u).p H a) : a = .agg #[.int .i64 u.1, .int .i64 u.2] := by
  obtain ⟨cs, hK, rfl⟩ := kE.ofT h
  have hl : cs.length = 2 := kE.len hK
  obtain ⟨_, _, h2⟩ := hK
  have e0 := h2 0 u.1 rfl
  have e1 := h2 1 u.2 rfl
  match cs, hl with
  | [c0, c1], _ =>
    have f0 : [c0] = [Value.int .i64 u.1] := e0
    have f1 : [c1] = [Value.int .i64 u.2] := e1
    rw [show c0 = Value.int .i64 u.1 from by simpa using f0, show c1 = Value.int .i64 u.2 from by simpa using f1]; rfl
theorem run_equal30d (w : World) (d : Nat) (u v : Int × Int) : (Op.equalIn (d + 1 + 1) 30 (.agg #[.int .i64 u.1, .int .i64 u.2]) (.agg #[.int .i64 v.1, .int .i64 v.2])).run Try.prog w = .ok (decide (u = v)) w := by
  have hu : Try.prog.underlying 30 = some (.array 2 3) := Try.underlying30
  have hk : Try.prog.plainKey 3 = true := by decide +kernel
  have h3 : Try.prog.underlying 3 = some (.int .i64) := Try.underlying3
  have hc : Try.prog.cellsOf 3 = 1 := by decide +kernel
  obtain ⟨i, hi⟩ : ∃ i, Try.prog.info? 3 = some i := Option.isSome_iff_exists.1 (by decide +kernel)
  rw [run_equalIn_array w (d + 1) _ _ hu hi, hc]
  have p : ∀ (xs : Array Value) (o : Nat) (q : Value), xs[o]? = some q → (part 3 xs o).run Try.prog w = .ok q w := fun xs o q h => run_part_plain w hk h
  have e : ∀ (a b : Int), (Op.equalIn (d + 1) 3 (.int .i64 a) (.int .i64 b)).run Try.prog w = .ok (a == b) w := fun a b => run_equalIn_int w d 3 .i64 .i64 a b h3
  have p0 : ∀ a b : Int, (part 3 #[.int .i64 a, .int .i64 b] 0).run Try.prog w = .ok (.int .i64 a) w := fun a b => p _ 0 _ rfl
  have p1 : ∀ a b : Int, (part 3 #[.int .i64 a, .int .i64 b] 1).run Try.prog w = .ok (.int .i64 b) w := fun a b => p _ 1 _ rfl
  obtain ⟨u1, u2⟩ := u
  obtain ⟨v1, v2⟩ := v
  simp only [show List.range 2 = [0, 1] from rfl, Op.eqItems, Sem.run_bind, Nat.mul_one, p0, p1, e, Result.andThen_ok]
  by_cases h1 : u1 = v1
  · by_cases h2 : u2 = v2
    · simp [h1, h2, p1, e]
    · simp [h1, h2, p1, e]
  · simp [h1]
theorem run_equal30 (w : World) (u v : Int × Int) : (Op.equalIn 10000 30 (.agg #[.int .i64 u.1, .int .i64 u.2]) (.agg #[.int .i64 v.1, .int .i64 v.2])).run Try.prog w = .ok (decide (u = v)) w := run_equal30d w 9998 u v
theorem eqE : EqOk Try.prog 30 kE := fun H w u v a b x y ha hb => by
  rw [aggE ha, aggE hb]
  have hg : Try.prog.eqGuardType Try.prog.depth 30 = false := by decide +kernel
  refine ⟨run_eqGuard_agg w .eql 30 x y _ _ hg, run_eqGuard_agg w .neq 30 x y _ _ hg, ?_, ?_⟩
  · rw [run_eql_struct w 30, run_equal30]; rfl
  · rw [run_neq_struct w 30, run_equal30]; rfl

set_option maxRecDepth 20000 in
/-- rhizome/rhizomeref17.IsRing -/
theorem IsRing_fn (es : Es) (l : List Int) (hm : es.length ≤ maxLen) (hml : l.length ≤ maxLen) : Ct Try.prog 19 [SlT kE es, SlT kI l] ([]) Unit (fun _ => BoolT (isRingB es l)) (fun _ => []) (fun _ => True) := by
  refine fn_intro Try.func19 rfl rfl ?_
  intro H w
  unfold maxLen at hm hml
  refine tr_seq ?_
  -- region 0
  refine tr_env (es_cons (t := 0) (OT.tmp rfl) (es_cons (t := 1) (OT.tmp rfl) es_nil)) ?_
  refine tr_region ?_
  refine op_pure (pu_assign OT.const) rfl rfl ?_
  refine tr_nil ?_
  refine then_normal ?_
  refine tr_seq ?_
  refine tr_seq ?_
  -- region 1
  refine tr_env (es_cons (t := 0) (OT.tmp rfl) (es_cons (t := 1) (OT.tmp rfl) es_nil)) ?_
  refine tr_region ?_
  refine op_pure (pu_move (OT.tmp rfl)) rfl rfl ?_
  first
  | refine op_pure (pu_len_sl (OT.tmp rfl) Try.underlying25) rfl rfl ?_
  | refine op_pure (pu_len_own (OT.tmp rfl) (by first | exact mem_at 0 rfl | exact mem_at 1 rfl | exact mem_at 2 rfl | exact mem_at 3 rfl | exact mem_at 4 rfl | exact mem_at 5 rfl) Try.underlying25) rfl rfl ?_
  | refine op_pure (pu_len_q (OT.tmp rfl) (by first | exact mem_at 0 rfl | exact mem_at 1 rfl | exact mem_at 2 rfl | exact mem_at 3 rfl | exact mem_at 4 rfl | exact mem_at 5 rfl) Try.underlying25) rfl rfl ?_
  | refine op_pure (pu_len_str Try.underlying25 (OT.tmp rfl)) rfl rfl ?_
  refine op_pure (pu_move OT.const) rfl rfl ?_
  refine tr_nil ?_
  refine then_normal ?_
  refine tr_block ?_
  refine tr_loopK (σ := Nat) (es_cons (t := 0) (OT.tmp rfl) (es_cons (t := 1) (OT.tmp rfl) (es_cons (t := 11) (OT.tmp rfl) es_nil))) (fun k => [(12, I64 (k : Int))]) (fun k => []) (fun k => k ≤ l.length ∧ ∀ i, i < k → ringAt es l i = true) (fun k => l.length - k) 0 ⟨by omega, fun i hi => by omega⟩ ?_ (own_picks (by repeat (first | exact picks_nil | refine picks_cons 0 rfl ?_ | refine picks_cons 1 rfl ?_ | refine picks_cons 2 rfl ?_ | refine picks_cons 3 rfl ?_ | refine picks_cons 4 rfl ?_ | refine picks_cons 5 rfl ?_ | refine picks_cons 6 rfl ?_))) ?_
  · exact (es_cons (t := 12) (by first | exact OT.tmp rfl | exact OT.val (OT.tmp rfl) (congrArg (Value.int _) (by first | omega | (simp; omega) | simp))) es_nil)
  · rintro k ⟨hk, hr⟩
    refine tr_seq ?_
    -- region 2
    refine tr_env (es_cons (t := 0) (OT.tmp rfl) (es_cons (t := 1) (OT.tmp rfl) (es_cons (t := 11) (OT.tmp rfl) (es_cons (t := 12) (OT.tmp rfl) es_nil)))) ?_
    refine tr_region ?_
    refine op_pure (pu_lss (OT.tmp rfl) (OT.tmp rfl)) rfl rfl ?_
    refine tr_nil ?_
    refine then_normal ?_
    refine tr_seq ?_
    refine tr_cond (OT.tmp rfl) (fun c13 => ?_) (fun c13 => ?_)
    · try simp only [decide_eq_true_eq, decide_eq_false_iff_not, Bool.or_eq_true, Bool.and_eq_true, Bool.or_eq_false_iff, Bool.and_eq_false_iff, Bool.not_eq_true', Bool.not_eq_false', ne_eq, Classical.not_not] at c13
      refine tr_skip ?_
      refine then_normal ?_
      refine tr_seq ?_
      refine tr_block ?_
      refine tr_seq ?_
      -- region 3
      refine tr_env (es_cons (t := 0) (OT.tmp rfl) (es_cons (t := 1) (OT.tmp rfl) (es_cons (t := 11) (OT.tmp rfl) (es_cons (t := 12) (OT.tmp rfl) es_nil)))) ?_
      refine tr_region ?_
      refine op_pure (pu_move (OT.tmp rfl)) rfl rfl ?_
      refine op_pure (pu_assign (OT.tmp rfl)) rfl rfl ?_
      refine tr_nil ?_
      refine then_normal ?_
      refine tr_seq ?_
      -- region 4
      refine tr_env (es_cons (t := 0) (OT.tmp rfl) (es_cons (t := 1) (OT.tmp rfl) (es_cons (t := 5) (OT.tmp rfl) (es_cons (t := 11) (OT.tmp rfl) (es_cons (t := 12) (OT.tmp rfl) es_nil))))) ?_
      have hk4 : 0 ≤ ((k : Int) + 1) % (l.length : Int) ∧ ((k : Int) + 1) % (l.length : Int) < l.length := ⟨Int.emod_nonneg _ (by omega), Int.emod_lt_of_pos _ (by omega)⟩
      refine tr_region ?_
      refine op_pure (pu_move (OT.tmp rfl)) rfl rfl ?_
      refine op_pure (pu_move (OT.tmp rfl)) rfl rfl ?_
      first
      | refine op_pure (pu_add' (OT.tmp rfl) OT.const (by first | omega | assumption | (simp; omega) | (simp [maxLen]; omega) | (simp [maxLen] at *; omega))) rfl rfl ?_
      | refine op_pure (pu_add (OT.tmp rfl) OT.const) rfl rfl ?_
      | refine op_pure (pu_str_add (OT.tmp rfl) OT.const (by first | omega | assumption | (simp; omega) | (simp [maxLen]; omega) | (simp [maxLen] at *; omega))) rfl rfl ?_
      refine op_pure (pu_move (OT.tmp rfl)) rfl rfl ?_
      first
      | refine op_pure (pu_len_sl (OT.tmp rfl) Try.underlying25) rfl rfl ?_
      | refine op_pure (pu_len_own (OT.tmp rfl) (by first | exact mem_at 0 rfl | exact mem_at 1 rfl | exact mem_at 2 rfl | exact mem_at 3 rfl | exact mem_at 4 rfl | exact mem_at 5 rfl) Try.underlying25) rfl rfl ?_
      | refine op_pure (pu_len_q (OT.tmp rfl) (by first | exact mem_at 0 rfl | exact mem_at 1 rfl | exact mem_at 2 rfl | exact mem_at 3 rfl | exact mem_at 4 rfl | exact mem_at 5 rfl) Try.underlying25) rfl rfl ?_
      | refine op_pure (pu_len_str Try.underlying25 (OT.tmp rfl)) rfl rfl ?_
      first
      | refine op_pure (pu_rem' (OT.tmp rfl) (OT.tmp rfl) (by first | omega | assumption | (simp; omega) | (simp [maxLen]; omega) | (simp [maxLen] at *; omega)) (by first | omega | assumption | (simp; omega) | (simp [maxLen]; omega) | (simp [maxLen] at *; omega))) rfl rfl ?_
      | refine op_pure (pu_rem (OT.tmp rfl) (OT.tmp rfl) (by first | omega | assumption | (simp; omega) | (simp [maxLen]; omega) | (simp [maxLen] at *; omega))) rfl rfl ?_
      first
      | refine op_pure (pu_index (OT.tmp rfl) (OT.tmp rfl) Try.underlying25 (show tyOk Try.prog 3 _ _ = true from by decide +kernel) (by first | omega | assumption | (simp; omega) | (simp [maxLen]; omega) | (simp [maxLen] at *; omega)) (by first | omega | assumption | (simp; omega) | (simp [maxLen]; omega) | (simp [maxLen] at *; omega))) rfl rfl ?_
      | refine op_pure (pu_index_own (OT.tmp rfl) (by first | exact mem_at 0 rfl | exact mem_at 1 rfl | exact mem_at 2 rfl | exact mem_at 3 rfl | exact mem_at 4 rfl | exact mem_at 5 rfl) (OT.tmp rfl) Try.underlying25 (show tyOk Try.prog 3 _ _ = true from by decide +kernel) (by first | omega | assumption | (simp; omega) | (simp [maxLen]; omega) | (simp [maxLen] at *; omega)) (by first | omega | assumption | (simp; omega) | (simp [maxLen]; omega) | (simp [maxLen] at *; omega))) rfl rfl ?_
      | refine op_pure (pu_index_q (OT.tmp rfl) (by first | exact mem_at 0 rfl | exact mem_at 1 rfl | exact mem_at 2 rfl | exact mem_at 3 rfl | exact mem_at 4 rfl | exact mem_at 5 rfl) (OT.tmp rfl) Try.underlying25 (show tyOk Try.prog 3 _ _ = true from by decide +kernel) (by first | omega | assumption | (simp; omega) | (simp [maxLen]; omega) | (simp [maxLen] at *; omega)) (by first | omega | assumption | (simp; omega) | (simp [maxLen]; omega) | (simp [maxLen] at *; omega))) rfl rfl ?_
      first
      | refine op_pure (pu_load (OT.tmp rfl) (show tyOk Try.prog 3 _ _ = true from by decide +kernel)) rfl rfl ?_
      | refine op_pure (pu_load_var (OT.tmp rfl) (by first | exact mem_at 0 rfl | exact mem_at 1 rfl | exact mem_at 2 rfl | exact mem_at 3 rfl | exact mem_at 4 rfl | exact mem_at 5 rfl) (show tyOk Try.prog 3 _ _ = true from by decide +kernel)) rfl rfl ?_
      | refine op_pure (pu_load_own0 (OT.tmp rfl) (by first | exact mem_at 0 rfl | exact mem_at 1 rfl | exact mem_at 2 rfl | exact mem_at 3 rfl | exact mem_at 4 rfl | exact mem_at 5 rfl) (by first | omega | assumption | (simp; omega) | (simp [maxLen]; omega) | (simp [maxLen] at *; omega)) (by first | omega | assumption | (simp; omega) | (simp [maxLen]; omega) | (simp [maxLen] at *; omega)) (show tyOk Try.prog 3 _ _ = true from by decide +kernel)) rfl rfl ?_
      | refine op_pure (pu_load_arr (OT.tmp rfl) (by first | exact mem_at 0 rfl | exact mem_at 1 rfl | exact mem_at 2 rfl | exact mem_at 3 rfl | exact mem_at 4 rfl | exact mem_at 5 rfl) (show tyOk Try.prog 3 _ _ = true from by decide +kernel) (by first | omega | assumption | (simp; omega) | (simp [maxLen]; omega) | (simp [maxLen] at *; omega)) (by first | omega | assumption | (simp; omega) | (simp [maxLen]; omega) | (simp [maxLen] at *; omega))) rfl rfl ?_
      | refine op_pure (pu_load_p0 (OT.tmp rfl) (by first | exact mem_at 0 rfl | exact mem_at 1 rfl | exact mem_at 2 rfl | exact mem_at 3 rfl | exact mem_at 4 rfl | exact mem_at 5 rfl) (show tyOk Try.prog 3 _ _ = true from by decide +kernel)) rfl rfl ?_
      | refine op_pure (pu_load_p1 (OT.tmp rfl) (by first | exact mem_at 0 rfl | exact mem_at 1 rfl | exact mem_at 2 rfl | exact mem_at 3 rfl | exact mem_at 4 rfl | exact mem_at 5 rfl) (show tyOk Try.prog 3 _ _ = true from by decide +kernel)) rfl rfl ?_
      | refine op_pure (pu_load_q (OT.tmp rfl) (by first | exact mem_at 0 rfl | exact mem_at 1 rfl | exact mem_at 2 rfl | exact mem_at 3 rfl | exact mem_at 4 rfl | exact mem_at 5 rfl) (by first | omega | assumption | (simp; omega) | (simp [maxLen]; omega) | (simp [maxLen] at *; omega)) (by first | omega | assumption | (simp; omega) | (simp [maxLen]; omega) | (simp [maxLen] at *; omega)) (show tyOk Try.prog 3 _ _ = true from by decide +kernel)) rfl rfl ?_
      refine op_pure (pu_assign (OT.tmp rfl)) rfl rfl ?_
      refine tr_nil ?_
      refine then_normal ?_
      refine tr_seq ?_
      -- region 5
      refine tr_env (es_cons (t := 0) (OT.tmp rfl) (es_cons (t := 1) (OT.tmp rfl) (es_cons (t := 5) (OT.tmp rfl) (es_cons (t := 6) (OT.tmp rfl) (es_cons (t := 11) (OT.tmp rfl) (es_cons (t := 12) (OT.tmp rfl) es_nil)))))) ?_
      refine tr_region ?_
      refine op_pure (pu_assign OT.const) rfl rfl ?_
      refine tr_nil ?_
      refine then_normal ?_
      refine tr_seq ?_
      refine tr_seq ?_
      -- region 6
      refine tr_env (es_cons (t := 0) (OT.tmp rfl) (es_cons (t := 1) (OT.tmp rfl) (es_cons (t := 5) (OT.tmp rfl) (es_cons (t := 6) (OT.tmp rfl) (es_cons (t := 7) (OT.tmp rfl) (es_cons (t := 11) (OT.tmp rfl) (es_cons (t := 12) (OT.tmp rfl) es_nil))))))) ?_
      refine tr_region ?_
      refine op_pure (pu_move (OT.tmp rfl)) rfl rfl ?_
      first
      | refine op_pure (pu_len_sl (OT.tmp rfl) Try.underlying22) rfl rfl ?_
      | refine op_pure (pu_len_own (OT.tmp rfl) (by first | exact mem_at 0 rfl | exact mem_at 1 rfl | exact mem_at 2 rfl | exact mem_at 3 rfl | exact mem_at 4 rfl | exact mem_at 5 rfl) Try.underlying22) rfl rfl ?_
      | refine op_pure (pu_len_q (OT.tmp rfl) (by first | exact mem_at 0 rfl | exact mem_at 1 rfl | exact mem_at 2 rfl | exact mem_at 3 rfl | exact mem_at 4 rfl | exact mem_at 5 rfl) Try.underlying22) rfl rfl ?_
      | refine op_pure (pu_len_str Try.underlying22 (OT.tmp rfl)) rfl rfl ?_
      refine op_pure (pu_move OT.const) rfl rfl ?_
      refine tr_nil ?_
      refine then_normal ?_
      refine tr_block ?_
      generalize hb : at' l (((k : Int) + 1) % (l.length : Int)) = b
      refine tr_loopK (σ := Nat) (es_cons (t := 0) (OT.tmp rfl) (es_cons (t := 1) (OT.tmp rfl) (es_cons (t := 5) (OT.tmp rfl) (es_cons (t := 6) (OT.tmp rfl) (es_cons (t := 11) (OT.tmp rfl) (es_cons (t := 12) (OT.tmp rfl) (es_cons (t := 24) (OT.tmp rfl) es_nil))))))) (fun j => [(25, I64 (j : Int)), (7, BoolT ((es.take j).any fun e => decide (e = (at' l (k : Int), b))))]) (fun j => []) (fun j => j ≤ es.length) (fun j => es.length - j) 0 (Nat.zero_le _) ?_ (own_picks (by repeat (first | exact picks_nil | refine picks_cons 0 rfl ?_ | refine picks_cons 1 rfl ?_ | refine picks_cons 2 rfl ?_ | refine picks_cons 3 rfl ?_ | refine picks_cons 4 rfl ?_ | refine picks_cons 5 rfl ?_ | refine picks_cons 6 rfl ?_))) ?_
      · exact (es_cons (t := 25) (by first | exact OT.tmp rfl | exact OT.val (OT.tmp rfl) (congrArg (Value.int _) (by first | omega | (simp; omega) | simp))) (es_cons (t := 7) (by first | exact OT.tmp rfl | exact OT.val (OT.tmp rfl) (congrArg (Value.int _) (by first | omega | (simp; omega) | simp))) es_nil))
      · rintro j hj
        refine tr_seq ?_
        -- region 7
        refine tr_env (es_cons (t := 0) (OT.tmp rfl) (es_cons (t := 1) (OT.tmp rfl) (es_cons (t := 5) (OT.tmp rfl) (es_cons (t := 6) (OT.tmp rfl) (es_cons (t := 7) (OT.tmp rfl) (es_cons (t := 11) (OT.tmp rfl) (es_cons (t := 12) (OT.tmp rfl) (es_cons (t := 24) (OT.tmp rfl) (es_cons (t := 25) (OT.tmp rfl) es_nil))))))))) ?_
        refine tr_region ?_
        refine op_pure (pu_lss (OT.tmp rfl) (OT.tmp rfl)) rfl rfl ?_
        refine tr_nil ?_
        refine then_normal ?_
        refine tr_seq ?_
        refine tr_cond (OT.tmp rfl) (fun c26 => ?_) (fun c26 => ?_)
        · try simp only [decide_eq_true_eq, decide_eq_false_iff_not, Bool.or_eq_true, Bool.and_eq_true, Bool.or_eq_false_iff, Bool.and_eq_false_iff, Bool.not_eq_true', Bool.not_eq_false', ne_eq, Classical.not_not] at c26
          refine tr_skip ?_
          refine then_normal ?_
          refine tr_seq ?_
          refine tr_block ?_
          refine tr_seq ?_
          -- region 8
          refine tr_env (es_cons (t := 0) (OT.tmp rfl) (es_cons (t := 1) (OT.tmp rfl) (es_cons (t := 5) (OT.tmp rfl) (es_cons (t := 6) (OT.tmp rfl) (es_cons (t := 7) (OT.tmp rfl) (es_cons (t := 11) (OT.tmp rfl) (es_cons (t := 12) (OT.tmp rfl) (es_cons (t := 24) (OT.tmp rfl) (es_cons (t := 25) (OT.tmp rfl) es_nil))))))))) ?_
          refine tr_region ?_
          refine op_pure (pu_move (OT.tmp rfl)) rfl rfl ?_
          refine op_pure (pu_assign (OT.tmp rfl)) rfl rfl ?_
          refine tr_nil ?_
          refine then_normal ?_
          -- region 9
          refine tr_env (es_cons (t := 0) (OT.tmp rfl) (es_cons (t := 1) (OT.tmp rfl) (es_cons (t := 5) (OT.tmp rfl) (es_cons (t := 6) (OT.tmp rfl) (es_cons (t := 7) (OT.tmp rfl) (es_cons (t := 8) (OT.tmp rfl) (es_cons (t := 11) (OT.tmp rfl) (es_cons (t := 12) (OT.tmp rfl) (es_cons (t := 24) (OT.tmp rfl) (es_cons (t := 25) (OT.tmp rfl) es_nil)))))))))) ?_
          apply tr_any (m := 12) (ns := [[(7, none)], [(28, some 0)], [(0, none), (29, some 1)], [(8, none), (29, some 1)], [(29, some 1), (30, some 2), (31, some 3)], [(29, some 1), (32, some 4)], [(1, none), (29, some 1)], [(5, none), (29, some 1)], [(29, some 1), (34, some 6), (35, some 7)], [(29, some 1), (36, some 8)], [(6, none), (29, some 1)], [(29, some 1), (37, some 9), (38, some 10)]]) (by kernel_rfl) (by kernel_rfl) (Ts := [_, _, _, _, _, _, _, _, _, _, _, _]) rfl
          case hops =>
            refine ⟨?_, ⟨?_, ⟨?_, ⟨?_, ⟨?_, ⟨?_, ⟨?_, ⟨?_, ⟨?_, ⟨?_, ⟨?_, ⟨?_, trivial⟩⟩⟩⟩⟩⟩⟩⟩⟩⟩⟩⟩
            · exact rop_pure rfl (pu_move (OT.tmp rfl))
            · exact rop_pure rfl (pu_move (OT.tmp rfl))
            · exact rop_gu rfl rfl rfl (OT.gu_mk (OT.tmp rfl)) (fun hg => by (have hg1 := hg.2; (try simp only [decide_eq_true_eq, decide_eq_false_iff_not] at hg1); exact rop_pure rfl (pu_move (by first | exact OT.tmp rfl | exact OT.gu (OT.tmp rfl) hg))))
            · exact rop_gu rfl rfl rfl (OT.gu_mk (OT.tmp rfl)) (fun hg => by (have hg1 := hg.2; (try simp only [decide_eq_true_eq, decide_eq_false_iff_not] at hg1); exact rop_pure rfl (pu_move (by first | exact OT.tmp rfl | exact OT.gu (OT.tmp rfl) hg))))
            · first | exact rop_gu rfl rfl rfl (OT.gu_mk (OT.tmp rfl)) (fun hg => by (have hg1 := hg.2; (try simp only [decide_eq_true_eq, decide_eq_false_iff_not] at hg1); exact rop_pure rfl (pu_index (by first | exact OT.tmp rfl | exact OT.gu (OT.tmp rfl) hg) (by first | exact OT.tmp rfl | exact OT.gu (OT.tmp rfl) hg) Try.underlying22 (show tyOk Try.prog 30 _ _ = true from by decide +kernel) (by first | omega | assumption | (simp; omega) | (simp [maxLen]; omega) | (simp [maxLen] at *; omega)) (by first | omega | assumption | (simp; omega) | (simp [maxLen]; omega) | (simp [maxLen] at *; omega))))) | exact rop_gu rfl rfl rfl (OT.gu_mk (OT.tmp rfl)) (fun hg => by (have hg1 := hg.2; (try simp only [decide_eq_true_eq, decide_eq_false_iff_not] at hg1); exact rop_pure rfl (pu_index_own (by first | exact OT.tmp rfl | exact OT.gu (OT.tmp rfl) hg) (by first | exact mem_at 0 rfl | exact mem_at 1 rfl | exact mem_at 2 rfl | exact mem_at 3 rfl | exact mem_at 4 rfl | exact mem_at 5 rfl) (by first | exact OT.tmp rfl | exact OT.gu (OT.tmp rfl) hg) Try.underlying22 (show tyOk Try.prog 30 _ _ = true from by decide +kernel) (by first | omega | assumption | (simp; omega) | (simp [maxLen]; omega) | (simp [maxLen] at *; omega)) (by first | omega | assumption | (simp; omega) | (simp [maxLen]; omega) | (simp [maxLen] at *; omega))))) | exact rop_gu rfl rfl rfl (OT.gu_mk (OT.tmp rfl)) (fun hg => by (have hg1 := hg.2; (try simp only [decide_eq_true_eq, decide_eq_false_iff_not] at hg1); exact rop_pure rfl (pu_index_q (by first | exact OT.tmp rfl | exact OT.gu (OT.tmp rfl) hg) (by first | exact mem_at 0 rfl | exact mem_at 1 rfl | exact mem_at 2 rfl | exact mem_at 3 rfl | exact mem_at 4 rfl | exact mem_at 5 rfl) (by first | exact OT.tmp rfl | exact OT.gu (OT.tmp rfl) hg) Try.underlying22 (show tyOk Try.prog 30 _ _ = true from by decide +kernel) (by first | omega | assumption | (simp; omega) | (simp [maxLen]; omega) | (simp [maxLen] at *; omega)) (by first | omega | assumption | (simp; omega) | (simp [maxLen]; omega) | (simp [maxLen] at *; omega)))))
            · first | exact rop_gu rfl rfl rfl (OT.gu_mk (OT.tmp rfl)) (fun hg => by (have hg1 := hg.2; (try simp only [decide_eq_true_eq, decide_eq_false_iff_not] at hg1); exact rop_pure rfl (pu_load (by first | exact OT.tmp rfl | exact OT.gu (OT.tmp rfl) hg) (show tyOk Try.prog 30 _ _ = true from by decide +kernel)))) | exact rop_gu rfl rfl rfl (OT.gu_mk (OT.tmp rfl)) (fun hg => by (have hg1 := hg.2; (try simp only [decide_eq_true_eq, decide_eq_false_iff_not] at hg1); exact rop_pure rfl (pu_load_var (by first | exact OT.tmp rfl | exact OT.gu (OT.tmp rfl) hg) (by first | exact mem_at 0 rfl | exact mem_at 1 rfl | exact mem_at 2 rfl | exact mem_at 3 rfl | exact mem_at 4 rfl | exact mem_at 5 rfl) (show tyOk Try.prog 30 _ _ = true from by decide +kernel)))) | exact rop_gu rfl rfl rfl (OT.gu_mk (OT.tmp rfl)) (fun hg => by (have hg1 := hg.2; (try simp only [decide_eq_true_eq, decide_eq_false_iff_not] at hg1); exact rop_pure rfl (pu_load_own0 (by first | exact OT.tmp rfl | exact OT.gu (OT.tmp rfl) hg) (by first | exact mem_at 0 rfl | exact mem_at 1 rfl | exact mem_at 2 rfl | exact mem_at 3 rfl | exact mem_at 4 rfl | exact mem_at 5 rfl) (by first | omega | assumption | (simp; omega) | (simp [maxLen]; omega) | (simp [maxLen] at *; omega)) (by first | omega | assumption | (simp; omega) | (simp [maxLen]; omega) | (simp [maxLen] at *; omega)) (show tyOk Try.prog 30 _ _ = true from by decide +kernel)))) | exact rop_gu rfl rfl rfl (OT.gu_mk (OT.tmp rfl)) (fun hg => by (have hg1 := hg.2; (try simp only [decide_eq_true_eq, decide_eq_false_iff_not] at hg1); exact rop_pure rfl (pu_load_arr (by first | exact OT.tmp rfl | exact OT.gu (OT.tmp rfl) hg) (by first | exact mem_at 0 rfl | exact mem_at 1 rfl | exact mem_at 2 rfl | exact mem_at 3 rfl | exact mem_at 4 rfl | exact mem_at 5 rfl) (show tyOk Try.prog 30 _ _ = true from by decide +kernel) (by first | omega | assumption | (simp; omega) | (simp [maxLen]; omega) | (simp [maxLen] at *; omega)) (by first | omega | assumption | (simp; omega) | (simp [maxLen]; omega) | (simp [maxLen] at *; omega))))) | exact rop_gu rfl rfl rfl (OT.gu_mk (OT.tmp rfl)) (fun hg => by (have hg1 := hg.2; (try simp only [decide_eq_true_eq, decide_eq_false_iff_not] at hg1); exact rop_pure rfl (pu_load_p0 (by first | exact OT.tmp rfl | exact OT.gu (OT.tmp rfl) hg) (by first | exact mem_at 0 rfl | exact mem_at 1 rfl | exact mem_at 2 rfl | exact mem_at 3 rfl | exact mem_at 4 rfl | exact mem_at 5 rfl) (show tyOk Try.prog 30 _ _ = true from by decide +kernel)))) | exact rop_gu rfl rfl rfl (OT.gu_mk (OT.tmp rfl)) (fun hg => by (have hg1 := hg.2; (try simp only [decide_eq_true_eq, decide_eq_false_iff_not] at hg1); exact rop_pure rfl (pu_load_p1 (by first | exact OT.tmp rfl | exact OT.gu (OT.tmp rfl) hg) (by first | exact mem_at 0 rfl | exact mem_at 1 rfl | exact mem_at 2 rfl | exact mem_at 3 rfl | exact mem_at 4 rfl | exact mem_at 5 rfl) (show tyOk Try.prog 30 _ _ = true from by decide +kernel)))) | exact rop_gu rfl rfl rfl (OT.gu_mk (OT.tmp rfl)) (fun hg => by (have hg1 := hg.2; (try simp only [decide_eq_true_eq, decide_eq_false_iff_not] at hg1); exact rop_pure rfl (pu_load_q (by first | exact OT.tmp rfl | exact OT.gu (OT.tmp rfl) hg) (by first | exact mem_at 0 rfl | exact mem_at 1 rfl | exact mem_at 2 rfl | exact mem_at 3 rfl | exact mem_at 4 rfl | exact mem_at 5 rfl) (by first | omega | assumption | (simp; omega) | (simp [maxLen]; omega) | (simp [maxLen] at *; omega)) (by first | omega | assumption | (simp; omega) | (simp [maxLen]; omega) | (simp [maxLen] at *; omega)) (show tyOk Try.prog 30 _ _ = true from by decide +kernel))))
            · exact rop_gu rfl rfl rfl (OT.gu_mk (OT.tmp rfl)) (fun hg => by (have hg1 := hg.2; (try simp only [decide_eq_true_eq, decide_eq_false_iff_not] at hg1); exact rop_pure rfl (pu_move (by first | exact OT.tmp rfl | exact OT.gu (OT.tmp rfl) hg))))
            · exact rop_gu rfl rfl rfl (OT.gu_mk (OT.tmp rfl)) (fun hg => by (have hg1 := hg.2; (try simp only [decide_eq_true_eq, decide_eq_false_iff_not] at hg1); exact rop_pure rfl (pu_move (by first | exact OT.tmp rfl | exact OT.gu (OT.tmp rfl) hg))))
            · first | exact rop_gu rfl rfl rfl (OT.gu_mk (OT.tmp rfl)) (fun hg => by (have hg1 := hg.2; (try simp only [decide_eq_true_eq, decide_eq_false_iff_not] at hg1); exact rop_pure rfl (pu_index (by first | exact OT.tmp rfl | exact OT.gu (OT.tmp rfl) hg) (by first | exact OT.tmp rfl | exact OT.gu (OT.tmp rfl) hg) Try.underlying25 (show tyOk Try.prog 3 _ _ = true from by decide +kernel) (by first | omega | assumption | (simp; omega) | (simp [maxLen]; omega) | (simp [maxLen] at *; omega)) (by first | omega | assumption | (simp; omega) | (simp [maxLen]; omega) | (simp [maxLen] at *; omega))))) | exact rop_gu rfl rfl rfl (OT.gu_mk (OT.tmp rfl)) (fun hg => by (have hg1 := hg.2; (try simp only [decide_eq_true_eq, decide_eq_false_iff_not] at hg1); exact rop_pure rfl (pu_index_own (by first | exact OT.tmp rfl | exact OT.gu (OT.tmp rfl) hg) (by first | exact mem_at 0 rfl | exact mem_at 1 rfl | exact mem_at 2 rfl | exact mem_at 3 rfl | exact mem_at 4 rfl | exact mem_at 5 rfl) (by first | exact OT.tmp rfl | exact OT.gu (OT.tmp rfl) hg) Try.underlying25 (show tyOk Try.prog 3 _ _ = true from by decide +kernel) (by first | omega | assumption | (simp; omega) | (simp [maxLen]; omega) | (simp [maxLen] at *; omega)) (by first | omega | assumption | (simp; omega) | (simp [maxLen]; omega) | (simp [maxLen] at *; omega))))) | exact rop_gu rfl rfl rfl (OT.gu_mk (OT.tmp rfl)) (fun hg => by (have hg1 := hg.2; (try simp only [decide_eq_true_eq, decide_eq_false_iff_not] at hg1); exact rop_pure rfl (pu_index_q (by first | exact OT.tmp rfl | exact OT.gu (OT.tmp rfl) hg) (by first | exact mem_at 0 rfl | exact mem_at 1 rfl | exact mem_at 2 rfl | exact mem_at 3 rfl | exact mem_at 4 rfl | exact mem_at 5 rfl) (by first | exact OT.tmp rfl | exact OT.gu (OT.tmp rfl) hg) Try.underlying25 (show tyOk Try.prog 3 _ _ = true from by decide +kernel) (by first | omega | assumption | (simp; omega) | (simp [maxLen]; omega) | (simp [maxLen] at *; omega)) (by first | omega | assumption | (simp; omega) | (simp [maxLen]; omega) | (simp [maxLen] at *; omega)))))
            · first | exact rop_gu rfl rfl rfl (OT.gu_mk (OT.tmp rfl)) (fun hg => by (have hg1 := hg.2; (try simp only [decide_eq_true_eq, decide_eq_false_iff_not] at hg1); exact rop_pure rfl (pu_load (by first | exact OT.tmp rfl | exact OT.gu (OT.tmp rfl) hg) (show tyOk Try.prog 3 _ _ = true from by decide +kernel)))) | exact rop_gu rfl rfl rfl (OT.gu_mk (OT.tmp rfl)) (fun hg => by (have hg1 := hg.2; (try simp only [decide_eq_true_eq, decide_eq_false_iff_not] at hg1); exact rop_pure rfl (pu_load_var (by first | exact OT.tmp rfl | exact OT.gu (OT.tmp rfl) hg) (by first | exact mem_at 0 rfl | exact mem_at 1 rfl | exact mem_at 2 rfl | exact mem_at 3 rfl | exact mem_at 4 rfl | exact mem_at 5 rfl) (show tyOk Try.prog 3 _ _ = true from by decide +kernel)))) | exact rop_gu rfl rfl rfl (OT.gu_mk (OT.tmp rfl)) (fun hg => by (have hg1 := hg.2; (try simp only [decide_eq_true_eq, decide_eq_false_iff_not] at hg1); exact rop_pure rfl (pu_load_own0 (by first | exact OT.tmp rfl | exact OT.gu (OT.tmp rfl) hg) (by first | exact mem_at 0 rfl | exact mem_at 1 rfl | exact mem_at 2 rfl | exact mem_at 3 rfl | exact mem_at 4 rfl | exact mem_at 5 rfl) (by first | omega | assumption | (simp; omega) | (simp [maxLen]; omega) | (simp [maxLen] at *; omega)) (by first | omega | assumption | (simp; omega) | (simp [maxLen]; omega) | (simp [maxLen] at *; omega)) (show tyOk Try.prog 3 _ _ = true from by decide +kernel)))) | exact rop_gu rfl rfl rfl (OT.gu_mk (OT.tmp rfl)) (fun hg => by (have hg1 := hg.2; (try simp only [decide_eq_true_eq, decide_eq_false_iff_not] at hg1); exact rop_pure rfl (pu_load_arr (by first | exact OT.tmp rfl | exact OT.gu (OT.tmp rfl) hg) (by first | exact mem_at 0 rfl | exact mem_at 1 rfl | exact mem_at 2 rfl | exact mem_at 3 rfl | exact mem_at 4 rfl | exact mem_at 5 rfl) (show tyOk Try.prog 3 _ _ = true from by decide +kernel) (by first | omega | assumption | (simp; omega) | (simp [maxLen]; omega) | (simp [maxLen] at *; omega)) (by first | omega | assumption | (simp; omega) | (simp [maxLen]; omega) | (simp [maxLen] at *; omega))))) | exact rop_gu rfl rfl rfl (OT.gu_mk (OT.tmp rfl)) (fun hg => by (have hg1 := hg.2; (try simp only [decide_eq_true_eq, decide_eq_false_iff_not] at hg1); exact rop_pure rfl (pu_load_p0 (by first | exact OT.tmp rfl | exact OT.gu (OT.tmp rfl) hg) (by first | exact mem_at 0 rfl | exact mem_at 1 rfl | exact mem_at 2 rfl | exact mem_at 3 rfl | exact mem_at 4 rfl | exact mem_at 5 rfl) (show tyOk Try.prog 3 _ _ = true from by decide +kernel)))) | exact rop_gu rfl rfl rfl (OT.gu_mk (OT.tmp rfl)) (fun hg => by (have hg1 := hg.2; (try simp only [decide_eq_true_eq, decide_eq_false_iff_not] at hg1); exact rop_pure rfl (pu_load_p1 (by first | exact OT.tmp rfl | exact OT.gu (OT.tmp rfl) hg) (by first | exact mem_at 0 rfl | exact mem_at 1 rfl | exact mem_at 2 rfl | exact mem_at 3 rfl | exact mem_at 4 rfl | exact mem_at 5 rfl) (show tyOk Try.prog 3 _ _ = true from by decide +kernel)))) | exact rop_gu rfl rfl rfl (OT.gu_mk (OT.tmp rfl)) (fun hg => by (have hg1 := hg.2; (try simp only [decide_eq_true_eq, decide_eq_false_iff_not] at hg1); exact rop_pure rfl (pu_load_q (by first | exact OT.tmp rfl | exact OT.gu (OT.tmp rfl) hg) (by first | exact mem_at 0 rfl | exact mem_at 1 rfl | exact mem_at 2 rfl | exact mem_at 3 rfl | exact mem_at 4 rfl | exact mem_at 5 rfl) (by first | omega | assumption | (simp; omega) | (simp [maxLen]; omega) | (simp [maxLen] at *; omega)) (by first | omega | assumption | (simp; omega) | (simp [maxLen]; omega) | (simp [maxLen] at *; omega)) (show tyOk Try.prog 3 _ _ = true from by decide +kernel))))
            · exact rop_gu rfl rfl rfl (OT.gu_mk (OT.tmp rfl)) (fun hg => by (have hg1 := hg.2; (try simp only [decide_eq_true_eq, decide_eq_false_iff_not] at hg1); exact rop_pure rfl (pu_move (by first | exact OT.tmp rfl | exact OT.gu (OT.tmp rfl) hg))))
            · exact rop_gu rfl rfl rfl (OT.gu_mk (OT.tmp rfl)) (fun hg => by (have hg1 := hg.2; (try simp only [decide_eq_true_eq, decide_eq_false_iff_not] at hg1); exact rop_pure rfl (pu_build_arr (d := kE) (v0 := (0, 0)) (agg := false) Try.underlying30 (show tyOk Try.prog 3 _ _ = true from by decide +kernel) z30 rfl (fills_cons rfl Lens.p0 (by first | exact OT.tmp rfl | exact OT.gu (OT.tmp rfl) hg) (fills_cons rfl Lens.p1 (by first | exact OT.tmp rfl | exact OT.gu (OT.tmp rfl) hg) fills_nil)))))
          case h =>
            refine op_gu rfl rfl rfl (OT.gu_mk (OT.tmp rfl)) (fun hg => by (have hg1 := hg.2; (try simp only [decide_eq_true_eq, decide_eq_false_iff_not] at hg1); exact pu_eq_of eqE (by first | exact OT.tmp rfl | exact OT.gu (OT.tmp rfl) hg) (by first | exact OT.tmp rfl | exact OT.gu (OT.tmp rfl) hg))) rfl ?_
            refine op_pure (pu_pick_or (OT.tmp rfl) (by first | exact OT.tmp rfl | exact OT.gu_in (OT.tmp rfl) ⟨trivial, rfl⟩)) rfl rfl ?_
            refine op_pure (pu_assign (OT.tmp rfl)) rfl rfl ?_
            refine tr_nil ?_
            refine block_normal ?_
            refine then_normal ?_
            -- region 10
            refine tr_env (es_cons (t := 0) (OT.tmp rfl) (es_cons (t := 1) (OT.tmp rfl) (es_cons (t := 5) (OT.tmp rfl) (es_cons (t := 6) (OT.tmp rfl) (es_cons (t := 7) (OT.tmp rfl) (es_cons (t := 11) (OT.tmp rfl) (es_cons (t := 12) (OT.tmp rfl) (es_cons (t := 24) (OT.tmp rfl) (es_cons (t := 25) (OT.tmp rfl) es_nil))))))))) ?_
            refine tr_region ?_
            first
            | refine op_pure (pu_add' (OT.tmp rfl) OT.const (by first | omega | assumption | (simp; omega) | (simp [maxLen]; omega) | (simp [maxLen] at *; omega))) rfl rfl ?_
            | refine op_pure (pu_add (OT.tmp rfl) OT.const) rfl rfl ?_
            | refine op_pure (pu_str_add (OT.tmp rfl) OT.const (by first | omega | assumption | (simp; omega) | (simp [maxLen]; omega) | (simp [maxLen] at *; omega))) rfl rfl ?_
            refine op_pure (pu_move (OT.tmp rfl)) rfl rfl ?_
            refine tr_nil ?_
            refine then_normal ?_
            exact tr_again (j + 1) (by first | omega | assumption | (simp; omega) | (simp [maxLen]; omega) | (simp [maxLen] at *; omega)) (by first | omega | assumption | (simp; omega) | (simp [maxLen]; omega) | (simp [maxLen] at *; omega)) (es_append (es_cons (t := 25) (by first | exact OT.tmp rfl | exact OT.val (OT.tmp rfl) (congrArg (Value.int _) (by first | omega | (simp; omega) | simp))) (es_cons (t := 7) (OT.val (OT.tmp rfl) (congrArg Value.bool (any_next (xs := es) (j := j) (by omega) _).symm)) es_nil)) (es_cons (t := 0) (OT.tmp rfl) (es_cons (t := 1) (OT.tmp rfl) (es_cons (t := 5) (OT.tmp rfl) (es_cons (t := 6) (OT.tmp rfl) (es_cons (t := 11) (OT.tmp rfl) (es_cons (t := 12) (OT.tmp rfl) (es_cons (t := 24) (OT.tmp rfl) es_nil)))))))) (own_picks (by repeat (first | exact picks_nil | refine picks_cons 0 rfl ?_ | refine picks_cons 1 rfl ?_ | refine picks_cons 2 rfl ?_ | refine picks_cons 3 rfl ?_ | refine picks_cons 4 rfl ?_ | refine picks_cons 5 rfl ?_ | refine picks_cons 6 rfl ?_)))
        · try simp only [decide_eq_true_eq, decide_eq_false_iff_not, Bool.or_eq_true, Bool.and_eq_true, Bool.or_eq_false_iff, Bool.and_eq_false_iff, Bool.not_eq_true', Bool.not_eq_false', ne_eq, Classical.not_not] at c26
          obtain rfl : j = es.length := by omega
          refine tr_exit ?_
          refine then_exit ?_
          refine then_exit ?_
          refine block_hit ?_
          refine then_normal ?_
          refine tr_seq ?_
          refine tr_seq ?_
          -- region 11
          refine tr_env (es_cons (t := 0) (OT.tmp rfl) (es_cons (t := 1) (OT.tmp rfl) (es_cons (t := 5) (OT.tmp rfl) (es_cons (t := 7) (OT.tmp rfl) (es_cons (t := 11) (OT.tmp rfl) (es_cons (t := 12) (OT.tmp rfl) es_nil)))))) ?_
          refine tr_region ?_
          refine op_pure (pu_assign OT.const) rfl rfl ?_
          refine tr_nil ?_
          refine then_normal ?_
          refine tr_block ?_
          refine tr_loopK (σ := Nat) (es_cons (t := 0) (OT.tmp rfl) (es_cons (t := 1) (OT.tmp rfl) (es_cons (t := 5) (OT.tmp rfl) (es_cons (t := 11) (OT.tmp rfl) (es_cons (t := 12) (OT.tmp rfl) es_nil))))) (fun j => [(9, I64 (j : Int)), (7, BoolT ((es.any fun e => decide (e = (at' l (k : Int), b))) && (l.take j).all fun x => decide (x ≠ at' l (k : Int))))]) (fun j => []) (fun j => j ≤ k) (fun j => k - j) 0 (Nat.zero_le _) ?_ (own_picks (by repeat (first | exact picks_nil | refine picks_cons 0 rfl ?_ | refine picks_cons 1 rfl ?_ | refine picks_cons 2 rfl ?_ | refine picks_cons 3 rfl ?_ | refine picks_cons 4 rfl ?_ | refine picks_cons 5 rfl ?_ | refine picks_cons 6 rfl ?_))) ?_
          · exact (es_cons (t := 9) (by first | exact OT.tmp rfl | exact OT.val (OT.tmp rfl) (congrArg (Value.int _) (by first | omega | (simp; omega) | simp))) (es_cons (t := 7) (OT.val (OT.tmp rfl) (congrArg Value.bool (by rw [List.take_length]; simp))) es_nil))
          · rintro j hj
            refine tr_seq ?_
            refine tr_seq ?_
            -- region 12
            refine tr_env (es_cons (t := 0) (OT.tmp rfl) (es_cons (t := 1) (OT.tmp rfl) (es_cons (t := 5) (OT.tmp rfl) (es_cons (t := 7) (OT.tmp rfl) (es_cons (t := 9) (OT.tmp rfl) (es_cons (t := 11) (OT.tmp rfl) (es_cons (t := 12) (OT.tmp rfl) es_nil))))))) ?_
            refine tr_region ?_
            refine op_pure (pu_move (OT.tmp rfl)) rfl rfl ?_
            refine op_pure (pu_move (OT.tmp rfl)) rfl rfl ?_
            refine op_pure (pu_lss (OT.tmp rfl) (OT.tmp rfl)) rfl rfl ?_
            refine tr_nil ?_
            refine then_normal ?_
            refine tr_cond (OT.tmp rfl) (fun c45 => ?_) (fun c45 => ?_)
            · try simp only [decide_eq_true_eq, decide_eq_false_iff_not, Bool.or_eq_true, Bool.and_eq_true, Bool.or_eq_false_iff, Bool.and_eq_false_iff, Bool.not_eq_true', Bool.not_eq_false', ne_eq, Classical.not_not] at c45
              refine tr_skip ?_
              refine then_normal ?_
              refine tr_seq ?_
              refine tr_block ?_
              -- region 14
              refine tr_env (es_cons (t := 0) (OT.tmp rfl) (es_cons (t := 1) (OT.tmp rfl) (es_cons (t := 5) (OT.tmp rfl) (es_cons (t := 7) (OT.tmp rfl) (es_cons (t := 9) (OT.tmp rfl) (es_cons (t := 11) (OT.tmp rfl) (es_cons (t := 12) (OT.tmp rfl) es_nil))))))) ?_
              apply tr_any (m := 10) (ns := [[(7, none)], [(48, some 0)], [(1, none), (49, some 1)], [(9, none), (49, some 1)], [(49, some 1), (50, some 2), (51, some 3)], [(49, some 1), (52, some 4)], [(1, none), (49, some 1)], [(5, none), (49, some 1)], [(49, some 1), (54, some 6), (55, some 7)], [(49, some 1), (56, some 8)]]) (by kernel_rfl) (by kernel_rfl) (Ts := [_, _, _, _, _, _, _, _, _, _]) rfl
              case hops =>
                refine ⟨?_, ⟨?_, ⟨?_, ⟨?_, ⟨?_, ⟨?_, ⟨?_, ⟨?_, ⟨?_, ⟨?_, trivial⟩⟩⟩⟩⟩⟩⟩⟩⟩⟩
                · exact rop_pure rfl (pu_move (OT.tmp rfl))
                · exact rop_pure rfl (pu_move (OT.tmp rfl))
                · exact rop_gu rfl rfl rfl (OT.gu_mk (OT.tmp rfl)) (fun hg => by (have hg1 := hg.2; (try simp only [decide_eq_true_eq, decide_eq_false_iff_not] at hg1); exact rop_pure rfl (pu_move (by first | exact OT.tmp rfl | exact OT.gu (OT.tmp rfl) hg))))
                · exact rop_gu rfl rfl rfl (OT.gu_mk (OT.tmp rfl)) (fun hg => by (have hg1 := hg.2; (try simp only [decide_eq_true_eq, decide_eq_false_iff_not] at hg1); exact rop_pure rfl (pu_move (by first | exact OT.tmp rfl | exact OT.gu (OT.tmp rfl) hg))))
                · first | exact rop_gu rfl rfl rfl (OT.gu_mk (OT.tmp rfl)) (fun hg => by (have hg1 := hg.2; (try simp only [decide_eq_true_eq, decide_eq_false_iff_not] at hg1); exact rop_pure rfl (pu_index (by first | exact OT.tmp rfl | exact OT.gu (OT.tmp rfl) hg) (by first | exact OT.tmp rfl | exact OT.gu (OT.tmp rfl) hg) Try.underlying25 (show tyOk Try.prog 3 _ _ = true from by decide +kernel) (by first | omega | assumption | (simp; omega) | (simp [maxLen]; omega) | (simp [maxLen] at *; omega)) (by first | omega | assumption | (simp; omega) | (simp [maxLen]; omega) | (simp [maxLen] at *; omega))))) | exact rop_gu rfl rfl rfl (OT.gu_mk (OT.tmp rfl)) (fun hg => by (have hg1 := hg.2; (try simp only [decide_eq_true_eq, decide_eq_false_iff_not] at hg1); exact rop_pure rfl (pu_index_own (by first | exact OT.tmp rfl | exact OT.gu (OT.tmp rfl) hg) (by first | exact mem_at 0 rfl | exact mem_at 1 rfl | exact mem_at 2 rfl | exact mem_at 3 rfl | exact mem_at 4 rfl | exact mem_at 5 rfl) (by first | exact OT.tmp rfl | exact OT.gu (OT.tmp rfl) hg) Try.underlying25 (show tyOk Try.prog 3 _ _ = true from by decide +kernel) (by first | omega | assumption | (simp; omega) | (simp [maxLen]; omega) | (simp [maxLen] at *; omega)) (by first | omega | assumption | (simp; omega) | (simp [maxLen]; omega) | (simp [maxLen] at *; omega))))) | exact rop_gu rfl rfl rfl (OT.gu_mk (OT.tmp rfl)) (fun hg => by (have hg1 := hg.2; (try simp only [decide_eq_true_eq, decide_eq_false_iff_not] at hg1); exact rop_pure rfl (pu_index_q (by first | exact OT.tmp rfl | exact OT.gu (OT.tmp rfl) hg) (by first | exact mem_at 0 rfl | exact mem_at 1 rfl | exact mem_at 2 rfl | exact mem_at 3 rfl | exact mem_at 4 rfl | exact mem_at 5 rfl) (by first | exact OT.tmp rfl | exact OT.gu (OT.tmp rfl) hg) Try.underlying25 (show tyOk Try.prog 3 _ _ = true from by decide +kernel) (by first | omega | assumption | (simp; omega) | (simp [maxLen]; omega) | (simp [maxLen] at *; omega)) (by first | omega | assumption | (simp; omega) | (simp [maxLen]; omega) | (simp [maxLen] at *; omega)))))
                · first | exact rop_gu rfl rfl rfl (OT.gu_mk (OT.tmp rfl)) (fun hg => by (have hg1 := hg.2; (try simp only [decide_eq_true_eq, decide_eq_false_iff_not] at hg1); exact rop_pure rfl (pu_load (by first | exact OT.tmp rfl | exact OT.gu (OT.tmp rfl) hg) (show tyOk Try.prog 3 _ _ = true from by decide +kernel)))) | exact rop_gu rfl rfl rfl (OT.gu_mk (OT.tmp rfl)) (fun hg => by (have hg1 := hg.2; (try simp only [decide_eq_true_eq, decide_eq_false_iff_not] at hg1); exact rop_pure rfl (pu_load_var (by first | exact OT.tmp rfl | exact OT.gu (OT.tmp rfl) hg) (by first | exact mem_at 0 rfl | exact mem_at 1 rfl | exact mem_at 2 rfl | exact mem_at 3 rfl | exact mem_at 4 rfl | exact mem_at 5 rfl) (show tyOk Try.prog 3 _ _ = true from by decide +kernel)))) | exact rop_gu rfl rfl rfl (OT.gu_mk (OT.tmp rfl)) (fun hg => by (have hg1 := hg.2; (try simp only [decide_eq_true_eq, decide_eq_false_iff_not] at hg1); exact rop_pure rfl (pu_load_own0 (by first | exact OT.tmp rfl | exact OT.gu (OT.tmp rfl) hg) (by first | exact mem_at 0 rfl | exact mem_at 1 rfl | exact mem_at 2 rfl | exact mem_at 3 rfl | exact mem_at 4 rfl | exact mem_at 5 rfl) (by first | omega | assumption | (simp; omega) | (simp [maxLen]; omega) | (simp [maxLen] at *; omega)) (by first | omega | assumption | (simp; omega) | (simp [maxLen]; omega) | (simp [maxLen] at *; omega)) (show tyOk Try.prog 3 _ _ = true from by decide +kernel)))) | exact rop_gu rfl rfl rfl (OT.gu_mk (OT.tmp rfl)) (fun hg => by (have hg1 := hg.2; (try simp only [decide_eq_true_eq, decide_eq_false_iff_not] at hg1); exact rop_pure rfl (pu_load_arr (by first | exact OT.tmp rfl | exact OT.gu (OT.tmp rfl) hg) (by first | exact mem_at 0 rfl | exact mem_at 1 rfl | exact mem_at 2 rfl | exact mem_at 3 rfl | exact mem_at 4 rfl | exact mem_at 5 rfl) (show tyOk Try.prog 3 _ _ = true from by decide +kernel) (by first | omega | assumption | (simp; omega) | (simp [maxLen]; omega) | (simp [maxLen] at *; omega)) (by first | omega | assumption | (simp; omega) | (simp [maxLen]; omega) | (simp [maxLen] at *; omega))))) | exact rop_gu rfl rfl rfl (OT.gu_mk (OT.tmp rfl)) (fun hg => by (have hg1 := hg.2; (try simp only [decide_eq_true_eq, decide_eq_false_iff_not] at hg1); exact rop_pure rfl (pu_load_p0 (by first | exact OT.tmp rfl | exact OT.gu (OT.tmp rfl) hg) (by first | exact mem_at 0 rfl | exact mem_at 1 rfl | exact mem_at 2 rfl | exact mem_at 3 rfl | exact mem_at 4 rfl | exact mem_at 5 rfl) (show tyOk Try.prog 3 _ _ = true from by decide +kernel)))) | exact rop_gu rfl rfl rfl (OT.gu_mk (OT.tmp rfl)) (fun hg => by (have hg1 := hg.2; (try simp only [decide_eq_true_eq, decide_eq_false_iff_not] at hg1); exact rop_pure rfl (pu_load_p1 (by first | exact OT.tmp rfl | exact OT.gu (OT.tmp rfl) hg) (by first | exact mem_at 0 rfl | exact mem_at 1 rfl | exact mem_at 2 rfl | exact mem_at 3 rfl | exact mem_at 4 rfl | exact mem_at 5 rfl) (show tyOk Try.prog 3 _ _ = true from by decide +kernel)))) | exact rop_gu rfl rfl rfl (OT.gu_mk (OT.tmp rfl)) (fun hg => by (have hg1 := hg.2; (try simp only [decide_eq_true_eq, decide_eq_false_iff_not] at hg1); exact rop_pure rfl (pu_load_q (by first | exact OT.tmp rfl | exact OT.gu (OT.tmp rfl) hg) (by first | exact mem_at 0 rfl | exact mem_at 1 rfl | exact mem_at 2 rfl | exact mem_at 3 rfl | exact mem_at 4 rfl | exact mem_at 5 rfl) (by first | omega | assumption | (simp; omega) | (simp [maxLen]; omega) | (simp [maxLen] at *; omega)) (by first | omega | assumption | (simp; omega) | (simp [maxLen]; omega) | (simp [maxLen] at *; omega)) (show tyOk Try.prog 3 _ _ = true from by decide +kernel))))
                · exact rop_gu rfl rfl rfl (OT.gu_mk (OT.tmp rfl)) (fun hg => by (have hg1 := hg.2; (try simp only [decide_eq_true_eq, decide_eq_false_iff_not] at hg1); exact rop_pure rfl (pu_move (by first | exact OT.tmp rfl | exact OT.gu (OT.tmp rfl) hg))))
                · exact rop_gu rfl rfl rfl (OT.gu_mk (OT.tmp rfl)) (fun hg => by (have hg1 := hg.2; (try simp only [decide_eq_true_eq, decide_eq_false_iff_not] at hg1); exact rop_pure rfl (pu_move (by first | exact OT.tmp rfl | exact OT.gu (OT.tmp rfl) hg))))
                · first | exact rop_gu rfl rfl rfl (OT.gu_mk (OT.tmp rfl)) (fun hg => by (have hg1 := hg.2; (try simp only [decide_eq_true_eq, decide_eq_false_iff_not] at hg1); exact rop_pure rfl (pu_index (by first | exact OT.tmp rfl | exact OT.gu (OT.tmp rfl) hg) (by first | exact OT.tmp rfl | exact OT.gu (OT.tmp rfl) hg) Try.underlying25 (show tyOk Try.prog 3 _ _ = true from by decide +kernel) (by first | omega | assumption | (simp; omega) | (simp [maxLen]; omega) | (simp [maxLen] at *; omega)) (by first | omega | assumption | (simp; omega) | (simp [maxLen]; omega) | (simp [maxLen] at *; omega))))) | exact rop_gu rfl rfl rfl (OT.gu_mk (OT.tmp rfl)) (fun hg => by (have hg1 := hg.2; (try simp only [decide_eq_true_eq, decide_eq_false_iff_not] at hg1); exact rop_pure rfl (pu_index_own (by first | exact OT.tmp rfl | exact OT.gu (OT.tmp rfl) hg) (by first | exact mem_at 0 rfl | exact mem_at 1 rfl | exact mem_at 2 rfl | exact mem_at 3 rfl | exact mem_at 4 rfl | exact mem_at 5 rfl) (by first | exact OT.tmp rfl | exact OT.gu (OT.tmp rfl) hg) Try.underlying25 (show tyOk Try.prog 3 _ _ = true from by decide +kernel) (by first | omega | assumption | (simp; omega) | (simp [maxLen]; omega) | (simp [maxLen] at *; omega)) (by first | omega | assumption | (simp; omega) | (simp [maxLen]; omega) | (simp [maxLen] at *; omega))))) | exact rop_gu rfl rfl rfl (OT.gu_mk (OT.tmp rfl)) (fun hg => by (have hg1 := hg.2; (try simp only [decide_eq_true_eq, decide_eq_false_iff_not] at hg1); exact rop_pure rfl (pu_index_q (by first | exact OT.tmp rfl | exact OT.gu (OT.tmp rfl) hg) (by first | exact mem_at 0 rfl | exact mem_at 1 rfl | exact mem_at 2 rfl | exact mem_at 3 rfl | exact mem_at 4 rfl | exact mem_at 5 rfl) (by first | exact OT.tmp rfl | exact OT.gu (OT.tmp rfl) hg) Try.underlying25 (show tyOk Try.prog 3 _ _ = true from by decide +kernel) (by first | omega | assumption | (simp; omega) | (simp [maxLen]; omega) | (simp [maxLen] at *; omega)) (by first | omega | assumption | (simp; omega) | (simp [maxLen]; omega) | (simp [maxLen] at *; omega)))))
                · first | exact rop_gu rfl rfl rfl (OT.gu_mk (OT.tmp rfl)) (fun hg => by (have hg1 := hg.2; (try simp only [decide_eq_true_eq, decide_eq_false_iff_not] at hg1); exact rop_pure rfl (pu_load (by first | exact OT.tmp rfl | exact OT.gu (OT.tmp rfl) hg) (show tyOk Try.prog 3 _ _ = true from by decide +kernel)))) | exact rop_gu rfl rfl rfl (OT.gu_mk (OT.tmp rfl)) (fun hg => by (have hg1 := hg.2; (try simp only [decide_eq_true_eq, decide_eq_false_iff_not] at hg1); exact rop_pure rfl (pu_load_var (by first | exact OT.tmp rfl | exact OT.gu (OT.tmp rfl) hg) (by first | exact mem_at 0 rfl | exact mem_at 1 rfl | exact mem_at 2 rfl | exact mem_at 3 rfl | exact mem_at 4 rfl | exact mem_at 5 rfl) (show tyOk Try.prog 3 _ _ = true from by decide +kernel)))) | exact rop_gu rfl rfl rfl (OT.gu_mk (OT.tmp rfl)) (fun hg => by (have hg1 := hg.2; (try simp only [decide_eq_true_eq, decide_eq_false_iff_not] at hg1); exact rop_pure rfl (pu_load_own0 (by first | exact OT.tmp rfl | exact OT.gu (OT.tmp rfl) hg) (by first | exact mem_at 0 rfl | exact mem_at 1 rfl | exact mem_at 2 rfl | exact mem_at 3 rfl | exact mem_at 4 rfl | exact mem_at 5 rfl) (by first | omega | assumption | (simp; omega) | (simp [maxLen]; omega) | (simp [maxLen] at *; omega)) (by first | omega | assumption | (simp; omega) | (simp [maxLen]; omega) | (simp [maxLen] at *; omega)) (show tyOk Try.prog 3 _ _ = true from by decide +kernel)))) | exact rop_gu rfl rfl rfl (OT.gu_mk (OT.tmp rfl)) (fun hg => by (have hg1 := hg.2; (try simp only [decide_eq_true_eq, decide_eq_false_iff_not] at hg1); exact rop_pure rfl (pu_load_arr (by first | exact OT.tmp rfl | exact OT.gu (OT.tmp rfl) hg) (by first | exact mem_at 0 rfl | exact mem_at 1 rfl | exact mem_at 2 rfl | exact mem_at 3 rfl | exact mem_at 4 rfl | exact mem_at 5 rfl) (show tyOk Try.prog 3 _ _ = true from by decide +kernel) (by first | omega | assumption | (simp; omega) | (simp [maxLen]; omega) | (simp [maxLen] at *; omega)) (by first | omega | assumption | (simp; omega) | (simp [maxLen]; omega) | (simp [maxLen] at *; omega))))) | exact rop_gu rfl rfl rfl (OT.gu_mk (OT.tmp rfl)) (fun hg => by (have hg1 := hg.2; (try simp only [decide_eq_true_eq, decide_eq_false_iff_not] at hg1); exact rop_pure rfl (pu_load_p0 (by first | exact OT.tmp rfl | exact OT.gu (OT.tmp rfl) hg) (by first | exact mem_at 0 rfl | exact mem_at 1 rfl | exact mem_at 2 rfl | exact mem_at 3 rfl | exact mem_at 4 rfl | exact mem_at 5 rfl) (show tyOk Try.prog 3 _ _ = true from by decide +kernel)))) | exact rop_gu rfl rfl rfl (OT.gu_mk (OT.tmp rfl)) (fun hg => by (have hg1 := hg.2; (try simp only [decide_eq_true_eq, decide_eq_false_iff_not] at hg1); exact rop_pure rfl (pu_load_p1 (by first | exact OT.tmp rfl | exact OT.gu (OT.tmp rfl) hg) (by first | exact mem_at 0 rfl | exact mem_at 1 rfl | exact mem_at 2 rfl | exact mem_at 3 rfl | exact mem_at 4 rfl | exact mem_at 5 rfl) (show tyOk Try.prog 3 _ _ = true from by decide +kernel)))) | exact rop_gu rfl rfl rfl (OT.gu_mk (OT.tmp rfl)) (fun hg => by (have hg1 := hg.2; (try simp only [decide_eq_true_eq, decide_eq_false_iff_not] at hg1); exact rop_pure rfl (pu_load_q (by first | exact OT.tmp rfl | exact OT.gu (OT.tmp rfl) hg) (by first | exact mem_at 0 rfl | exact mem_at 1 rfl | exact mem_at 2 rfl | exact mem_at 3 rfl | exact mem_at 4 rfl | exact mem_at 5 rfl) (by first | omega | assumption | (simp; omega) | (simp [maxLen]; omega) | (simp [maxLen] at *; omega)) (by first | omega | assumption | (simp; omega) | (simp [maxLen]; omega) | (simp [maxLen] at *; omega)) (show tyOk Try.prog 3 _ _ = true from by decide +kernel))))
              case h =>
                first
                | refine op_gu rfl rfl rfl (OT.gu_mk (OT.tmp rfl)) (fun hg => by (have hg1 := hg.2; (try simp only [decide_eq_true_eq, decide_eq_false_iff_not] at hg1); exact pu_neq (by first | exact OT.tmp rfl | exact OT.gu (OT.tmp rfl) hg) (by first | exact OT.tmp rfl | exact OT.gu (OT.tmp rfl) hg))) rfl ?_
                | refine op_gu rfl rfl rfl (OT.gu_mk (OT.tmp rfl)) (fun hg => by (have hg1 := hg.2; (try simp only [decide_eq_true_eq, decide_eq_false_iff_not] at hg1); exact pu_str_neq (by first | exact OT.tmp rfl | exact OT.gu (OT.tmp rfl) hg) (by first | exact OT.tmp rfl | exact OT.gu (OT.tmp rfl) hg))) rfl ?_
                refine op_pure (pu_pick_and (OT.tmp rfl) (by first | exact OT.tmp rfl | exact OT.gu_in (OT.tmp rfl) ⟨trivial, rfl⟩)) rfl rfl ?_
                refine op_pure (pu_assign (OT.tmp rfl)) rfl rfl ?_
                refine tr_nil ?_
                refine block_normal ?_
                refine then_normal ?_
                -- region 13
                refine tr_env (es_cons (t := 0) (OT.tmp rfl) (es_cons (t := 1) (OT.tmp rfl) (es_cons (t := 5) (OT.tmp rfl) (es_cons (t := 7) (OT.tmp rfl) (es_cons (t := 9) (OT.tmp rfl) (es_cons (t := 11) (OT.tmp rfl) (es_cons (t := 12) (OT.tmp rfl) es_nil))))))) ?_
                refine tr_region ?_
                refine op_pure (pu_move (OT.tmp rfl)) rfl rfl ?_
                first
                | refine op_pure (pu_add' (OT.tmp rfl) OT.const (by first | omega | assumption | (simp; omega) | (simp [maxLen]; omega) | (simp [maxLen] at *; omega))) rfl rfl ?_
                | refine op_pure (pu_add (OT.tmp rfl) OT.const) rfl rfl ?_
                | refine op_pure (pu_str_add (OT.tmp rfl) OT.const (by first | omega | assumption | (simp; omega) | (simp [maxLen]; omega) | (simp [maxLen] at *; omega))) rfl rfl ?_
                refine op_pure (pu_assign (OT.tmp rfl)) rfl rfl ?_
                refine tr_nil ?_
                refine then_normal ?_
                exact tr_again (j + 1) (by first | omega | assumption | (simp; omega) | (simp [maxLen]; omega) | (simp [maxLen] at *; omega)) (by first | omega | assumption | (simp; omega) | (simp [maxLen]; omega) | (simp [maxLen] at *; omega)) (es_append (es_cons (t := 9) (by first | exact OT.tmp rfl | exact OT.val (OT.tmp rfl) (congrArg (Value.int _) (by first | omega | (simp; omega) | simp))) (es_cons (t := 7) (OT.val (OT.tmp rfl) (congrArg Value.bool (all_next (xs := l) (j := j) (by omega) _ _).symm)) es_nil)) (es_cons (t := 0) (OT.tmp rfl) (es_cons (t := 1) (OT.tmp rfl) (es_cons (t := 5) (OT.tmp rfl) (es_cons (t := 11) (OT.tmp rfl) (es_cons (t := 12) (OT.tmp rfl) es_nil)))))) (own_picks (by repeat (first | exact picks_nil | refine picks_cons 0 rfl ?_ | refine picks_cons 1 rfl ?_ | refine picks_cons 2 rfl ?_ | refine picks_cons 3 rfl ?_ | refine picks_cons 4 rfl ?_ | refine picks_cons 5 rfl ?_ | refine picks_cons 6 rfl ?_)))
            · try simp only [decide_eq_true_eq, decide_eq_false_iff_not, Bool.or_eq_true, Bool.and_eq_true, Bool.or_eq_false_iff, Bool.and_eq_false_iff, Bool.not_eq_true', Bool.not_eq_false', ne_eq, Classical.not_not] at c45
              have hjk : j = k := by omega
              subst hjk
              refine tr_exit ?_
              refine then_exit ?_
              refine then_exit ?_
              refine block_hit ?_
              refine then_normal ?_
              refine tr_seq ?_
              -- region 15
              refine tr_env (es_cons (t := 0) (OT.tmp rfl) (es_cons (t := 1) (OT.tmp rfl) (es_cons (t := 7) (OT.tmp rfl) (es_cons (t := 11) (OT.tmp rfl) (es_cons (t := 12) (OT.tmp rfl) es_nil))))) ?_
              refine tr_region ?_
              refine op_pure (pu_move (OT.tmp rfl)) rfl rfl ?_
              refine op_pure (pu_not (OT.tmp rfl)) rfl rfl ?_
              refine tr_nil ?_
              refine then_normal ?_
              refine tr_cond (OT.tmp rfl) (fun c61 => ?_) (fun c61 => ?_)
              · try simp only [decide_eq_true_eq, decide_eq_false_iff_not, Bool.or_eq_true, Bool.and_eq_true, Bool.or_eq_false_iff, Bool.and_eq_false_iff, Bool.not_eq_true', Bool.not_eq_false', ne_eq, Classical.not_not] at c61
                refine tr_seq ?_
                -- region 16
                refine tr_env es_nil ?_
                refine tr_region ?_
                refine op_pure (pu_assign OT.const) rfl rfl ?_
                refine tr_nil ?_
                refine then_normal ?_
                refine tr_ret ?_
                refine block_ret ?_
                refine then_ret ?_
                refine then_ret ?_
                refine block_ret ?_
                refine then_ret ?_
                exact ret_one .ret (.inl rfl) rfl () (OT.val (OT.tmp rfl) (congrArg Value.bool (ringB_no (k := j) (by omega) (by rw [ringAt, hb]; rcases c61 with h9 | h9 <;> rw [h9] <;> simp)).symm)) trivial (by repeat (first | exact picks_nil | refine picks_cons 0 rfl ?_ | refine picks_cons 1 rfl ?_ | refine picks_cons 2 rfl ?_ | refine picks_cons 3 rfl ?_ | refine picks_cons 4 rfl ?_ | refine picks_cons 5 rfl ?_ | refine picks_cons 6 rfl ?_))
              · try simp only [decide_eq_true_eq, decide_eq_false_iff_not, Bool.or_eq_true, Bool.and_eq_true, Bool.or_eq_false_iff, Bool.and_eq_false_iff, Bool.not_eq_true', Bool.not_eq_false', ne_eq, Classical.not_not] at c61
                refine tr_skip ?_
                refine block_normal ?_
                refine then_normal ?_
                -- region 17
                refine tr_env (es_cons (t := 0) (OT.tmp rfl) (es_cons (t := 1) (OT.tmp rfl) (es_cons (t := 11) (OT.tmp rfl) (es_cons (t := 12) (OT.tmp rfl) es_nil)))) ?_
                refine tr_region ?_
                first
                | refine op_pure (pu_add' (OT.tmp rfl) OT.const (by first | omega | assumption | (simp; omega) | (simp [maxLen]; omega) | (simp [maxLen] at *; omega))) rfl rfl ?_
                | refine op_pure (pu_add (OT.tmp rfl) OT.const) rfl rfl ?_
                | refine op_pure (pu_str_add (OT.tmp rfl) OT.const (by first | omega | assumption | (simp; omega) | (simp [maxLen]; omega) | (simp [maxLen] at *; omega))) rfl rfl ?_
                refine op_pure (pu_move (OT.tmp rfl)) rfl rfl ?_
                refine tr_nil ?_
                refine then_normal ?_
                exact tr_again (j + 1) ⟨by omega, fun i hi => by rcases Nat.lt_or_ge i j with h9 | h9; exact hr i h9; (obtain rfl : i = j := by omega); rw [ringAt, hb, c61.1, c61.2]; rfl⟩ (by first | omega | assumption | (simp; omega) | (simp [maxLen]; omega) | (simp [maxLen] at *; omega)) (es_append (es_cons (t := 12) (by first | exact OT.tmp rfl | exact OT.val (OT.tmp rfl) (congrArg (Value.int _) (by first | omega | (simp; omega) | simp))) es_nil) (es_cons (t := 0) (OT.tmp rfl) (es_cons (t := 1) (OT.tmp rfl) (es_cons (t := 11) (OT.tmp rfl) es_nil)))) (own_picks (by repeat (first | exact picks_nil | refine picks_cons 0 rfl ?_ | refine picks_cons 1 rfl ?_ | refine picks_cons 2 rfl ?_ | refine picks_cons 3 rfl ?_ | refine picks_cons 4 rfl ?_ | refine picks_cons 5 rfl ?_ | refine picks_cons 6 rfl ?_)))
    · try simp only [decide_eq_true_eq, decide_eq_false_iff_not, Bool.or_eq_true, Bool.and_eq_true, Bool.or_eq_false_iff, Bool.and_eq_false_iff, Bool.not_eq_true', Bool.not_eq_false', ne_eq, Classical.not_not] at c13
      obtain rfl : k = l.length := by omega
      refine tr_exit ?_
      refine then_exit ?_
      refine then_exit ?_
      refine block_hit ?_
      refine then_normal ?_
      refine tr_seq ?_
      -- region 18
      refine tr_env (es_cons (t := 1) (OT.tmp rfl) es_nil) ?_
      refine tr_region ?_
      refine op_pure (pu_move (OT.tmp rfl)) rfl rfl ?_
      first
      | refine op_pure (pu_len_sl (OT.tmp rfl) Try.underlying25) rfl rfl ?_
      | refine op_pure (pu_len_own (OT.tmp rfl) (by first | exact mem_at 0 rfl | exact mem_at 1 rfl | exact mem_at 2 rfl | exact mem_at 3 rfl | exact mem_at 4 rfl | exact mem_at 5 rfl) Try.underlying25) rfl rfl ?_
      | refine op_pure (pu_len_q (OT.tmp rfl) (by first | exact mem_at 0 rfl | exact mem_at 1 rfl | exact mem_at 2 rfl | exact mem_at 3 rfl | exact mem_at 4 rfl | exact mem_at 5 rfl) Try.underlying25) rfl rfl ?_
      | refine op_pure (pu_len_str Try.underlying25 (OT.tmp rfl)) rfl rfl ?_
      refine op_pure (pu_gtr (OT.tmp rfl) OT.const) rfl rfl ?_
      refine op_pure (pu_assign (OT.tmp rfl)) rfl rfl ?_
      refine tr_nil ?_
      refine then_normal ?_
      refine tr_ret ?_
      exact ret_one .ret (.inl rfl) rfl () (OT.val (OT.tmp rfl) (congrArg Value.bool (ringB_yes hr).symm)) trivial (by repeat (first | exact picks_nil | refine picks_cons 0 rfl ?_ | refine picks_cons 1 rfl ?_ | refine picks_cons 2 rfl ?_ | refine picks_cons 3 rfl ?_ | refine picks_cons 4 rfl ?_ | refine picks_cons 5 rfl ?_ | refine picks_cons 6 rfl ?_))
end Go.Proofs.Ytloblpklkhepbaa
