/- Walks through the Go functions token.Check, rhizomeref19.Check, rhizomeref07.Name, strings.Clone, rhizomeref19.number, as typed contracts. -/
import Derived.Test.YtoaeaclcbcpheaaDoorTkA
import Derived.Test.YtoaeaclcbcpheaaDoorTkB
namespace Go.Proofs.YtoaeaclcbcpheaaDoor
open Go Go.Gw Go.Tk
set_option linter.unusedVariables false
set_option linter.unusedSimpArgs false
abbrev kII : Kd (Int × Int) := kpair (kint .i64) (kint .i64)
abbrev kTok : Kd Tok := kpair kS kII
theorem z5 : ZeroOf Tryd.prog 5 (kint .u8) 0 := ⟨.int .u8 0, by kernel_rfl, fun H => rfl⟩
theorem z9 : ZeroOf Tryd.prog 9 kS [] := ⟨.string (bs []), by kernel_rfl, fun H => rfl⟩
theorem tok_p (H : FH) (t : Tok) : (kTok.T t).p H (.agg #[.string (bs t.1), .int .i64 t.2.1, .int .i64 t.2.2]) := ⟨[.string (bs t.1), .int .i64 t.2.1, .int .i64 t.2.2], ⟨[.string (bs t.1)], [.int .i64 t.2.1, .int .i64 t.2.2], rfl, ⟨[.int .i64 t.2.1], [.int .i64 t.2.2], rfl, rfl, rfl⟩, rfl⟩, rfl⟩
theorem z23 : ZeroOf Tryd.prog 23 kTok zeroT := ⟨.agg #[.string (bs []), .int .i64 0, .int .i64 0], by kernel_rfl, fun H => tok_p H zeroT⟩
theorem z28 : ZeroOf Tryd.prog 28 kTok zeroT := ⟨.agg #[.string (bs []), .int .i64 0, .int .i64 0], by kernel_rfl, fun H => tok_p H zeroT⟩
theorem lt0 {t : Tok} : Lens kTok kS 0 t t.1 (fun y => (y, t.2)) := Lens.fst
theorem lt1 {t : Tok} : Lens kTok (kint .i64) 1 t t.2.1 (fun y => (t.1, y, t.2.2)) := Lens.comp (Lens.snd (a := kS) (b := kII)) (Lens.fst (a := kint .i64) (b := kint .i64))
theorem lt2 {t : Tok} : Lens kTok (kint .i64) 2 t t.2.2 (fun y => (t.1, t.2.1, y)) := Lens.comp (Lens.snd (a := kS) (b := kII)) (Lens.snd (a := kint .i64) (b := kint .i64))
theorem unnum_len (xs : List Int) : (unnum xs).length = xs.length := by simp

set_option maxRecDepth 20000 in
/-- rhizome/token.Check -/
theorem Check_fn (l : List UInt8) (hl : l.length ≤ 1000000) : Ct Tryd.prog 14 [BsT l] ([]) Unit (fun _ => BsT (checkL l)) (fun _ => []) (fun _ => True) := by
  refine fn_intro Tryd.func14 rfl rfl ?_
  intro H w
  have hn := nums_len l
  have hml : l.length ≤ maxLen := by unfold maxLen; omega
  refine tr_seq ?_
  -- region 0
  refine tr_env (es_cons (t := 0) (OT.tmp rfl) es_nil) ?_
  refine tr_region ?_
  refine op_pure (pu_assign OT.const) rfl rfl ?_
  refine tr_nil ?_
  refine then_normal ?_
  refine tr_seq ?_
  -- region 1
  refine tr_env (es_cons (t := 0) (OT.tmp rfl) es_nil) ?_
  refine tr_region ?_
  refine op_pure (pu_assign OT.const) rfl rfl ?_
  refine tr_nil ?_
  refine then_normal ?_
  refine tr_seq ?_
  refine tr_seq ?_
  -- region 2
  refine tr_env (es_cons (t := 0) (OT.tmp rfl) (es_cons (t := 3) (OT.tmp rfl) es_nil)) ?_
  refine tr_region ?_
  refine op_pure (pu_move (OT.tmp rfl)) rfl rfl ?_
  refine op_acts (acts_bs_bytes (OT.tmp rfl) Tryd.underlying9 Tryd.underlying39 Tryd.underlying5 (by first | omega | assumption | (simp; omega) | (simp [maxLen]; omega) | (simp [maxLen] at *; omega) | (simp; done) | decide)) (List.Perm.refl _) rfl rfl (fun _ _ => ?_)
  first
  | refine op_pure (pu_len_sl (OT.tmp rfl) Tryd.underlying39) rfl rfl ?_
  | refine op_pure (pu_len_own (OT.tmp rfl) (by first | exact mem_at 0 rfl | exact mem_at 1 rfl | exact mem_at 2 rfl | exact mem_at 3 rfl | exact mem_at 4 rfl | exact mem_at 5 rfl) Tryd.underlying39) rfl rfl ?_
  | refine op_pure (pu_len_cut (OT.tmp rfl) (by first | exact mem_at 0 rfl | exact mem_at 1 rfl | exact mem_at 2 rfl | exact mem_at 3 rfl | exact mem_at 4 rfl | exact mem_at 5 rfl) Tryd.underlying39 (by first | omega | assumption | (simp; omega) | (simp [maxLen]; omega) | (simp [maxLen] at *; omega) | (simp; done) | decide)) rfl rfl ?_
  | refine op_pure (pu_len_q (OT.tmp rfl) (by first | exact mem_at 0 rfl | exact mem_at 1 rfl | exact mem_at 2 rfl | exact mem_at 3 rfl | exact mem_at 4 rfl | exact mem_at 5 rfl) Tryd.underlying39) rfl rfl ?_
  | refine op_pure (pu_len_str Tryd.underlying39 (OT.tmp rfl)) rfl rfl ?_
  refine op_pure (pu_move OT.const) rfl rfl ?_
  refine tr_nil ?_
  refine then_normal ?_
  refine tr_block ?_
  refine tr_loopK (σ := Nat) (es_cons (t := 7) (OT.tmp rfl) (es_cons (t := 8) (OT.tmp rfl) es_nil)) (fun k => [(9, I64 (k : Int)), (3, I64 ((wsum 0 (l.take k) % 676 : Nat) : Int))]) (fun k => []) (fun k => k ≤ l.length) (fun k => l.length - k) 0 (Nat.zero_le _) ?_ (own_picks (by repeat (first | exact picks_nil | refine picks_cons 0 rfl ?_ | refine picks_cons 1 rfl ?_ | refine picks_cons 2 rfl ?_ | refine picks_cons 3 rfl ?_ | refine picks_cons 4 rfl ?_ | refine picks_cons 5 rfl ?_ | refine picks_cons 6 rfl ?_))) ?_
  · exact (es_cons (t := 9) (by first | exact OT.tmp rfl | exact OT.val (OT.tmp rfl) (congrArg (Value.int _) (by first | omega | (simp; omega) | simp))) (es_cons (t := 3) (by first | exact OT.tmp rfl | exact OT.val (OT.tmp rfl) (congrArg (Value.int _) (by first | omega | (simp; omega) | simp))) es_nil))
  · rintro k hk
    refine tr_seq ?_
    -- region 3
    refine tr_env (es_cons (t := 3) (OT.tmp rfl) (es_cons (t := 7) (OT.tmp rfl) (es_cons (t := 8) (OT.tmp rfl) (es_cons (t := 9) (OT.tmp rfl) es_nil)))) ?_
    refine tr_region ?_
    refine op_pure (pu_lss (OT.tmp rfl) (OT.tmp rfl)) rfl rfl ?_
    refine tr_nil ?_
    refine then_normal ?_
    refine tr_seq ?_
    refine tr_cond (OT.tmp rfl) (fun c10 => ?_) (fun c10 => ?_)
    · try simp only [decide_eq_true_eq, decide_eq_false_iff_not, Bool.or_eq_true, Bool.and_eq_true, Bool.or_eq_false_iff, Bool.and_eq_false_iff, Bool.not_eq_true', Bool.not_eq_false', ne_eq, Classical.not_not] at c10
      refine tr_skip ?_
      refine then_normal ?_
      refine tr_seq ?_
      refine tr_block ?_
      refine tr_seq ?_
      -- region 4
      refine tr_env (es_cons (t := 3) (OT.tmp rfl) (es_cons (t := 7) (OT.tmp rfl) (es_cons (t := 8) (OT.tmp rfl) (es_cons (t := 9) (OT.tmp rfl) es_nil)))) ?_
      have hb := nums_bd (l := l) (k := k) (by omega)
      have hst := chk_step (l := l) (k := k) (by omega)
      have hS : wsum 0 (l.take k) % 676 < 676 := Nat.mod_lt _ (by decide)
      generalize wsum 0 (l.take k) % 676 = S at *
      refine tr_region ?_
      refine op_pure (pu_move (OT.tmp rfl)) rfl rfl ?_
      first
      | refine op_pure (pu_index (OT.tmp rfl) (OT.tmp rfl) Tryd.underlying39 (show tyOk Tryd.prog 5 false 1 = true from by decide +kernel) (by first | omega | assumption | (simp; omega) | (simp [maxLen]; omega) | (simp [maxLen] at *; omega) | (simp; done) | decide) (by first | omega | assumption | (simp; omega) | (simp [maxLen]; omega) | (simp [maxLen] at *; omega) | (simp; done) | decide)) rfl rfl ?_
      | refine op_pure (pu_index_own (OT.tmp rfl) (by first | exact mem_at 0 rfl | exact mem_at 1 rfl | exact mem_at 2 rfl | exact mem_at 3 rfl | exact mem_at 4 rfl | exact mem_at 5 rfl) (OT.tmp rfl) Tryd.underlying39 (show tyOk Tryd.prog 5 false 1 = true from by decide +kernel) (by first | omega | assumption | (simp; omega) | (simp [maxLen]; omega) | (simp [maxLen] at *; omega) | (simp; done) | decide) (by first | omega | assumption | (simp; omega) | (simp [maxLen]; omega) | (simp [maxLen] at *; omega) | (simp; done) | decide)) rfl rfl ?_
      | refine op_pure (pu_index_cut (OT.tmp rfl) (by first | exact mem_at 0 rfl | exact mem_at 1 rfl | exact mem_at 2 rfl | exact mem_at 3 rfl | exact mem_at 4 rfl | exact mem_at 5 rfl) (OT.tmp rfl) Tryd.underlying39 (show tyOk Tryd.prog 5 false 1 = true from by decide +kernel) (by first | omega | assumption | (simp; omega) | (simp [maxLen]; omega) | (simp [maxLen] at *; omega) | (simp; done) | decide) (by first | omega | assumption | (simp; omega) | (simp [maxLen]; omega) | (simp [maxLen] at *; omega) | (simp; done) | decide)) rfl rfl ?_
      | refine op_pure (pu_index_q (OT.tmp rfl) (by first | exact mem_at 0 rfl | exact mem_at 1 rfl | exact mem_at 2 rfl | exact mem_at 3 rfl | exact mem_at 4 rfl | exact mem_at 5 rfl) (OT.tmp rfl) Tryd.underlying39 (show tyOk Tryd.prog 5 false 1 = true from by decide +kernel) (by first | omega | assumption | (simp; omega) | (simp [maxLen]; omega) | (simp [maxLen] at *; omega) | (simp; done) | decide) (by first | omega | assumption | (simp; omega) | (simp [maxLen]; omega) | (simp [maxLen] at *; omega) | (simp; done) | decide)) rfl rfl ?_
      first
      | refine op_pure (pu_load (OT.tmp rfl) (show tyOk Tryd.prog 5 false 1 = true from by decide +kernel)) rfl rfl ?_
      | refine op_pure (pu_load_var (OT.tmp rfl) (by first | exact mem_at 0 rfl | exact mem_at 1 rfl | exact mem_at 2 rfl | exact mem_at 3 rfl | exact mem_at 4 rfl | exact mem_at 5 rfl) (show tyOk Tryd.prog 5 false 1 = true from by decide +kernel)) rfl rfl ?_
      | refine op_pure (pu_load_own0 (OT.tmp rfl) (by first | exact mem_at 0 rfl | exact mem_at 1 rfl | exact mem_at 2 rfl | exact mem_at 3 rfl | exact mem_at 4 rfl | exact mem_at 5 rfl) (by first | omega | assumption | (simp; omega) | (simp [maxLen]; omega) | (simp [maxLen] at *; omega) | (simp; done) | decide) (by first | omega | assumption | (simp; omega) | (simp [maxLen]; omega) | (simp [maxLen] at *; omega) | (simp; done) | decide) (show tyOk Tryd.prog 5 false 1 = true from by decide +kernel)) rfl rfl ?_
      | refine op_pure (pu_load_arr (OT.tmp rfl) (by first | exact mem_at 0 rfl | exact mem_at 1 rfl | exact mem_at 2 rfl | exact mem_at 3 rfl | exact mem_at 4 rfl | exact mem_at 5 rfl) (show tyOk Tryd.prog 5 false 1 = true from by decide +kernel) (by first | omega | assumption | (simp; omega) | (simp [maxLen]; omega) | (simp [maxLen] at *; omega) | (simp; done) | decide) (by first | omega | assumption | (simp; omega) | (simp [maxLen]; omega) | (simp [maxLen] at *; omega) | (simp; done) | decide)) rfl rfl ?_
      | refine op_pure (pu_load_p0 (OT.tmp rfl) (by first | exact mem_at 0 rfl | exact mem_at 1 rfl | exact mem_at 2 rfl | exact mem_at 3 rfl | exact mem_at 4 rfl | exact mem_at 5 rfl) (show tyOk Tryd.prog 5 false 1 = true from by decide +kernel)) rfl rfl ?_
      | refine op_pure (pu_load_p1 (OT.tmp rfl) (by first | exact mem_at 0 rfl | exact mem_at 1 rfl | exact mem_at 2 rfl | exact mem_at 3 rfl | exact mem_at 4 rfl | exact mem_at 5 rfl) (show tyOk Tryd.prog 5 false 1 = true from by decide +kernel)) rfl rfl ?_
      | refine op_pure (pu_load_q (OT.tmp rfl) (by first | exact mem_at 0 rfl | exact mem_at 1 rfl | exact mem_at 2 rfl | exact mem_at 3 rfl | exact mem_at 4 rfl | exact mem_at 5 rfl) (by first | omega | assumption | (simp; omega) | (simp [maxLen]; omega) | (simp [maxLen] at *; omega) | (simp; done) | decide) (by first | omega | assumption | (simp; omega) | (simp [maxLen]; omega) | (simp [maxLen] at *; omega) | (simp; done) | decide) (show tyOk Tryd.prog 5 false 1 = true from by decide +kernel)) rfl rfl ?_
      refine op_pure (pu_assign (OT.tmp rfl)) rfl rfl ?_
      refine op_pure (pu_assign (OT.tmp rfl)) rfl rfl ?_
      refine tr_nil ?_
      refine then_normal ?_
      -- region 5
      refine tr_env (es_cons (t := 3) (OT.tmp rfl) (es_cons (t := 4) (OT.tmp rfl) (es_cons (t := 5) (OT.tmp rfl) (es_cons (t := 7) (OT.tmp rfl) (es_cons (t := 8) (OT.tmp rfl) (es_cons (t := 9) (OT.tmp rfl) es_nil)))))) ?_
      generalize at' (nums l) (k : Int) = b at *
      have hk6 : 1 ≤ (k : Int) % 676 + 1 ∧ (k : Int) % 676 + 1 ≤ 676 := by omega
      have hm : 0 ≤ b * ((k : Int) % 676 + 1) ∧ b * ((k : Int) % 676 + 1) ≤ 255 * 676 := ⟨Int.mul_nonneg hb.1 (by omega), Int.mul_le_mul hb.2 hk6.2 (by omega) (by omega)⟩
      refine tr_region ?_
      refine op_pure (pu_move (OT.tmp rfl)) rfl rfl ?_
      refine op_pure (pu_move (OT.tmp rfl)) rfl rfl ?_
      first
      | refine op_pure (pu_convert' (OT.tmp rfl) Tryd.underlying5 Tryd.underlying3 (by first | omega | assumption | (simp; omega) | (simp [maxLen]; omega) | (simp [maxLen] at *; omega) | (simp; done) | decide) (by first | omega | assumption | (simp; omega) | (simp [maxLen]; omega) | (simp [maxLen] at *; omega) | (simp; done) | decide) rfl) rfl rfl ?_
      | refine op_pure (pu_convert (OT.tmp rfl) Tryd.underlying5 Tryd.underlying3) rfl rfl ?_
      refine op_pure (pu_move (OT.tmp rfl)) rfl rfl ?_
      first
      | refine op_pure (pu_rem' (OT.tmp rfl) OT.const (by first | omega | assumption | (simp; omega) | (simp [maxLen]; omega) | (simp [maxLen] at *; omega) | (simp; done) | decide) (by first | omega | assumption | (simp; omega) | (simp [maxLen]; omega) | (simp [maxLen] at *; omega) | (simp; done) | decide)) rfl rfl ?_
      | refine op_pure (pu_rem (OT.tmp rfl) OT.const (by first | omega | assumption | (simp; omega) | (simp [maxLen]; omega) | (simp [maxLen] at *; omega) | (simp; done) | decide)) rfl rfl ?_
      first
      | refine op_pure (pu_add' (OT.tmp rfl) OT.const (by first | omega | assumption | (simp; omega) | (simp [maxLen]; omega) | (simp [maxLen] at *; omega) | (simp; done) | decide)) rfl rfl ?_
      | refine op_pure (pu_add (OT.tmp rfl) OT.const) rfl rfl ?_
      first
      | refine op_pure (pu_mul' (OT.tmp rfl) (OT.tmp rfl) (by first | omega | assumption | (simp; omega) | (simp [maxLen]; omega) | (simp [maxLen] at *; omega) | (simp; done) | decide)) rfl rfl ?_
      | refine op_pure (pu_mul (OT.tmp rfl) (OT.tmp rfl)) rfl rfl ?_
      first
      | refine op_pure (pu_add' (OT.tmp rfl) (OT.tmp rfl) (by first | omega | assumption | (simp; omega) | (simp [maxLen]; omega) | (simp [maxLen] at *; omega) | (simp; done) | decide)) rfl rfl ?_
      | refine op_pure (pu_add (OT.tmp rfl) (OT.tmp rfl)) rfl rfl ?_
      first
      | refine op_pure (pu_rem' (OT.tmp rfl) OT.const (by first | omega | assumption | (simp; omega) | (simp [maxLen]; omega) | (simp [maxLen] at *; omega) | (simp; done) | decide) (by first | omega | assumption | (simp; omega) | (simp [maxLen]; omega) | (simp [maxLen] at *; omega) | (simp; done) | decide)) rfl rfl ?_
      | refine op_pure (pu_rem (OT.tmp rfl) OT.const (by first | omega | assumption | (simp; omega) | (simp [maxLen]; omega) | (simp [maxLen] at *; omega) | (simp; done) | decide)) rfl rfl ?_
      refine op_pure (pu_assign (OT.tmp rfl)) rfl rfl ?_
      refine tr_nil ?_
      refine block_normal ?_
      refine then_normal ?_
      -- region 6
      refine tr_env (es_cons (t := 3) (OT.tmp rfl) (es_cons (t := 7) (OT.tmp rfl) (es_cons (t := 8) (OT.tmp rfl) (es_cons (t := 9) (OT.tmp rfl) es_nil)))) ?_
      refine tr_region ?_
      first
      | refine op_pure (pu_add' (OT.tmp rfl) OT.const (by first | omega | assumption | (simp; omega) | (simp [maxLen]; omega) | (simp [maxLen] at *; omega) | (simp; done) | decide)) rfl rfl ?_
      | refine op_pure (pu_add (OT.tmp rfl) OT.const) rfl rfl ?_
      refine op_pure (pu_move (OT.tmp rfl)) rfl rfl ?_
      refine tr_nil ?_
      refine then_normal ?_
      exact tr_again (k + 1) (by first | omega | assumption | (simp; omega) | (simp [maxLen]; omega) | (simp [maxLen] at *; omega) | (simp; done) | decide) (by first | omega | assumption | (simp; omega) | (simp [maxLen]; omega) | (simp [maxLen] at *; omega) | (simp; done) | decide) (es_append (es_cons (t := 9) (by first | exact OT.tmp rfl | exact OT.val (OT.tmp rfl) (congrArg (Value.int _) (by first | omega | (simp; omega) | simp))) (es_cons (t := 3) (OT.val (OT.tmp rfl) (congrArg (Value.int _) hst)) es_nil)) (es_cons (t := 7) (OT.tmp rfl) (es_cons (t := 8) (OT.tmp rfl) es_nil))) (own_picks (by repeat (first | exact picks_nil | refine picks_cons 0 rfl ?_ | refine picks_cons 1 rfl ?_ | refine picks_cons 2 rfl ?_ | refine picks_cons 3 rfl ?_ | refine picks_cons 4 rfl ?_ | refine picks_cons 5 rfl ?_ | refine picks_cons 6 rfl ?_)))
    · try simp only [decide_eq_true_eq, decide_eq_false_iff_not, Bool.or_eq_true, Bool.and_eq_true, Bool.or_eq_false_iff, Bool.and_eq_false_iff, Bool.not_eq_true', Bool.not_eq_false', ne_eq, Classical.not_not] at c10
      refine tr_exit ?_
      refine then_exit ?_
      refine then_exit ?_
      refine block_hit ?_
      refine then_normal ?_
      refine tr_seq ?_
      -- region 7
      refine tr_env (es_cons (t := 3) (OT.tmp rfl) es_nil) ?_
      obtain rfl : k = l.length := by omega
      rw [List.take_length]
      have hS : wsum 0 l % 676 < 676 := Nat.mod_lt _ (by decide)
      have he := chk_end l
      generalize wsum 0 l % 676 = S at *
      refine tr_region ?_
      refine op_pure (pu_move (OT.tmp rfl)) rfl rfl ?_
      first
      | refine op_pure (pu_quo' (OT.tmp rfl) OT.const (by first | omega | assumption | (simp; omega) | (simp [maxLen]; omega) | (simp [maxLen] at *; omega) | (simp; done) | decide) (by first | omega | assumption | (simp; omega) | (simp [maxLen]; omega) | (simp [maxLen] at *; omega) | (simp; done) | decide)) rfl rfl ?_
      | refine op_pure (pu_quo (OT.tmp rfl) OT.const (by first | omega | assumption | (simp; omega) | (simp [maxLen]; omega) | (simp [maxLen] at *; omega) | (simp; done) | decide)) rfl rfl ?_
      first
      | refine op_pure (pu_convert' (OT.tmp rfl) Tryd.underlying3 Tryd.underlying5 (by first | omega | assumption | (simp; omega) | (simp [maxLen]; omega) | (simp [maxLen] at *; omega) | (simp; done) | decide) (by first | omega | assumption | (simp; omega) | (simp [maxLen]; omega) | (simp [maxLen] at *; omega) | (simp; done) | decide) rfl) rfl rfl ?_
      | refine op_pure (pu_convert (OT.tmp rfl) Tryd.underlying3 Tryd.underlying5) rfl rfl ?_
      first
      | refine op_pure (pu_add' OT.const (OT.tmp rfl) (by first | omega | assumption | (simp; omega) | (simp [maxLen]; omega) | (simp [maxLen] at *; omega) | (simp; done) | decide)) rfl rfl ?_
      | refine op_pure (pu_add OT.const (OT.tmp rfl)) rfl rfl ?_
      refine op_pure (pu_move (OT.tmp rfl)) rfl rfl ?_
      first
      | refine op_pure (pu_rem' (OT.tmp rfl) OT.const (by first | omega | assumption | (simp; omega) | (simp [maxLen]; omega) | (simp [maxLen] at *; omega) | (simp; done) | decide) (by first | omega | assumption | (simp; omega) | (simp [maxLen]; omega) | (simp [maxLen] at *; omega) | (simp; done) | decide)) rfl rfl ?_
      | refine op_pure (pu_rem (OT.tmp rfl) OT.const (by first | omega | assumption | (simp; omega) | (simp [maxLen]; omega) | (simp [maxLen] at *; omega) | (simp; done) | decide)) rfl rfl ?_
      first
      | refine op_pure (pu_convert' (OT.tmp rfl) Tryd.underlying3 Tryd.underlying5 (by first | omega | assumption | (simp; omega) | (simp [maxLen]; omega) | (simp [maxLen] at *; omega) | (simp; done) | decide) (by first | omega | assumption | (simp; omega) | (simp [maxLen]; omega) | (simp [maxLen] at *; omega) | (simp; done) | decide) rfl) rfl rfl ?_
      | refine op_pure (pu_convert (OT.tmp rfl) Tryd.underlying3 Tryd.underlying5) rfl rfl ?_
      first
      | refine op_pure (pu_add' OT.const (OT.tmp rfl) (by first | omega | assumption | (simp; omega) | (simp [maxLen]; omega) | (simp [maxLen] at *; omega) | (simp; done) | decide)) rfl rfl ?_
      | refine op_pure (pu_add OT.const (OT.tmp rfl)) rfl rfl ?_
      refine op_acts (acts_lit (d := (kint .u8)) (v0 := 0) (show slTy Tryd.prog 39 5 1 1 = true from by decide +kernel) (show tyOk Tryd.prog 5 false 1 = true from by decide +kernel) z5 (show 2 * 1 ≤ 16777216 from by decide) (by decide) (fills_arr rfl rfl (by decide) (OT.tmp rfl) (fills_arr rfl rfl (by decide) (OT.tmp rfl) fills_nil))) (List.Perm.refl _) rfl rfl (fun _ _ => ?_)
      refine op_pure (pu_bytes_bs (OT.tmp rfl) Tryd.underlying39 Tryd.underlying5 Tryd.underlying9) rfl rfl ?_
      refine op_pure (pu_assign (OT.tmp rfl)) rfl rfl ?_
      refine tr_nil ?_
      refine then_normal ?_
      refine tr_ret ?_
      exact ret_one .ret (.inl rfl) rfl () (OT.val (OT.tmp rfl) (congrArg Value.string (congrArg bs (he)))) trivial (by repeat (first | exact picks_nil | refine picks_cons 0 rfl ?_ | refine picks_cons 1 rfl ?_ | refine picks_cons 2 rfl ?_ | refine picks_cons 3 rfl ?_ | refine picks_cons 4 rfl ?_ | refine picks_cons 5 rfl ?_ | refine picks_cons 6 rfl ?_))
set_option maxRecDepth 20000 in
/-- rhizome/rhizomeref19.Check -/
theorem rCheck_fn (l : List UInt8) (hl : l.length ≤ 1000000) : Ct Tryd.prog 15 [BsT l] ([]) Unit (fun _ => BsT (checkL l)) (fun _ => []) (fun _ => True) := by
  refine fn_intro Tryd.func15 rfl rfl ?_
  intro H w
  refine tr_seq ?_
  -- region 0
  refine tr_env (es_cons (t := 0) (OT.tmp rfl) es_nil) ?_
  refine tr_region ?_
  refine op_pure (pu_assign OT.const) rfl rfl ?_
  refine tr_nil ?_
  refine then_normal ?_
  refine tr_seq ?_
  -- region 1
  refine tr_env (es_cons (t := 0) (OT.tmp rfl) es_nil) ?_
  refine tr_region ?_
  refine op_pure (pu_assign OT.const) rfl rfl ?_
  refine tr_nil ?_
  refine then_normal ?_
  refine tr_seq ?_
  refine tr_seq ?_
  -- region 2
  refine tr_env (es_cons (t := 0) (OT.tmp rfl) (es_cons (t := 3) (OT.tmp rfl) es_nil)) ?_
  refine tr_region ?_
  refine op_pure (pu_assign OT.const) rfl rfl ?_
  refine tr_nil ?_
  refine then_normal ?_
  refine tr_block ?_
  refine tr_loopK (σ := Nat) (es_cons (t := 0) (OT.tmp rfl) es_nil) (fun k => [(4, I64 (k : Int)), (3, I64 ((wsum 0 (l.take k) % 676 : Nat) : Int))]) (fun k => []) (fun k => k ≤ l.length) (fun k => l.length - k) 0 (Nat.zero_le _) ?_ (own_picks (by repeat (first | exact picks_nil | refine picks_cons 0 rfl ?_ | refine picks_cons 1 rfl ?_ | refine picks_cons 2 rfl ?_ | refine picks_cons 3 rfl ?_ | refine picks_cons 4 rfl ?_ | refine picks_cons 5 rfl ?_ | refine picks_cons 6 rfl ?_))) ?_
  · exact (es_cons (t := 4) (by first | exact OT.tmp rfl | exact OT.val (OT.tmp rfl) (congrArg (Value.int _) (by first | omega | (simp; omega) | simp))) (es_cons (t := 3) (by first | exact OT.tmp rfl | exact OT.val (OT.tmp rfl) (congrArg (Value.int _) (by first | omega | (simp; omega) | simp))) es_nil))
  · rintro k hk
    refine tr_seq ?_
    refine tr_seq ?_
    -- region 3
    refine tr_env (es_cons (t := 0) (OT.tmp rfl) (es_cons (t := 3) (OT.tmp rfl) (es_cons (t := 4) (OT.tmp rfl) es_nil))) ?_
    refine tr_region ?_
    refine op_pure (pu_move (OT.tmp rfl)) rfl rfl ?_
    refine op_pure (pu_move (OT.tmp rfl)) rfl rfl ?_
    first
    | refine op_pure (pu_len_bs Tryd.underlying9 (OT.tmp rfl)) rfl rfl ?_
    | refine op_pure (pu_len_str Tryd.underlying9 (OT.tmp rfl)) rfl rfl ?_
    refine op_pure (pu_lss (OT.tmp rfl) (OT.tmp rfl)) rfl rfl ?_
    refine tr_nil ?_
    refine then_normal ?_
    refine tr_cond (OT.tmp rfl) (fun c8 => ?_) (fun c8 => ?_)
    · try simp only [decide_eq_true_eq, decide_eq_false_iff_not, Bool.or_eq_true, Bool.and_eq_true, Bool.or_eq_false_iff, Bool.and_eq_false_iff, Bool.not_eq_true', Bool.not_eq_false', ne_eq, Classical.not_not] at c8
      refine tr_skip ?_
      refine then_normal ?_
      refine tr_seq ?_
      refine tr_block ?_
      -- region 5
      refine tr_env (es_cons (t := 0) (OT.tmp rfl) (es_cons (t := 3) (OT.tmp rfl) (es_cons (t := 4) (OT.tmp rfl) es_nil))) ?_
      have hb := nums_bd (l := l) (k := k) (by omega)
      have hst := ref_step (l := l) (k := k) (by omega)
      have hS : wsum 0 (l.take k) % 676 < 676 := Nat.mod_lt _ (by decide)
      generalize wsum 0 (l.take k) % 676 = S at *
      refine tr_region ?_
      refine op_pure (pu_move (OT.tmp rfl)) rfl rfl ?_
      refine op_pure (pu_move (OT.tmp rfl)) rfl rfl ?_
      refine op_pure (pu_move (OT.tmp rfl)) rfl rfl ?_
      refine op_pure (pu_bs_index (OT.tmp rfl) (OT.tmp rfl) Tryd.underlying9 (by first | omega | assumption | (simp; omega) | (simp [maxLen]; omega) | (simp [maxLen] at *; omega) | (simp; done) | decide) (by first | omega | assumption | (simp; omega) | (simp [maxLen]; omega) | (simp [maxLen] at *; omega) | (simp; done) | decide)) rfl rfl ?_
      generalize at' (nums l) (k : Int) = b at *
      have hk6 : 0 ≤ ((k : Int) + 1) % 676 ∧ ((k : Int) + 1) % 676 ≤ 676 := by omega
      have hm : 0 ≤ b * (((k : Int) + 1) % 676) ∧ b * (((k : Int) + 1) % 676) ≤ 255 * 676 := ⟨Int.mul_nonneg hb.1 (by omega), Int.mul_le_mul hb.2 hk6.2 (by omega) (by omega)⟩
      first
      | refine op_pure (pu_convert' (OT.tmp rfl) Tryd.underlying5 Tryd.underlying3 (by first | omega | assumption | (simp; omega) | (simp [maxLen]; omega) | (simp [maxLen] at *; omega) | (simp; done) | decide) (by first | omega | assumption | (simp; omega) | (simp [maxLen]; omega) | (simp [maxLen] at *; omega) | (simp; done) | decide) rfl) rfl rfl ?_
      | refine op_pure (pu_convert (OT.tmp rfl) Tryd.underlying5 Tryd.underlying3) rfl rfl ?_
      refine op_pure (pu_move (OT.tmp rfl)) rfl rfl ?_
      first
      | refine op_pure (pu_add' (OT.tmp rfl) OT.const (by first | omega | assumption | (simp; omega) | (simp [maxLen]; omega) | (simp [maxLen] at *; omega) | (simp; done) | decide)) rfl rfl ?_
      | refine op_pure (pu_add (OT.tmp rfl) OT.const) rfl rfl ?_
      first
      | refine op_pure (pu_rem' (OT.tmp rfl) OT.const (by first | omega | assumption | (simp; omega) | (simp [maxLen]; omega) | (simp [maxLen] at *; omega) | (simp; done) | decide) (by first | omega | assumption | (simp; omega) | (simp [maxLen]; omega) | (simp [maxLen] at *; omega) | (simp; done) | decide)) rfl rfl ?_
      | refine op_pure (pu_rem (OT.tmp rfl) OT.const (by first | omega | assumption | (simp; omega) | (simp [maxLen]; omega) | (simp [maxLen] at *; omega) | (simp; done) | decide)) rfl rfl ?_
      first
      | refine op_pure (pu_mul' (OT.tmp rfl) (OT.tmp rfl) (by first | omega | assumption | (simp; omega) | (simp [maxLen]; omega) | (simp [maxLen] at *; omega) | (simp; done) | decide)) rfl rfl ?_
      | refine op_pure (pu_mul (OT.tmp rfl) (OT.tmp rfl)) rfl rfl ?_
      first
      | refine op_pure (pu_add' (OT.tmp rfl) (OT.tmp rfl) (by first | omega | assumption | (simp; omega) | (simp [maxLen]; omega) | (simp [maxLen] at *; omega) | (simp; done) | decide)) rfl rfl ?_
      | refine op_pure (pu_add (OT.tmp rfl) (OT.tmp rfl)) rfl rfl ?_
      first
      | refine op_pure (pu_rem' (OT.tmp rfl) OT.const (by first | omega | assumption | (simp; omega) | (simp [maxLen]; omega) | (simp [maxLen] at *; omega) | (simp; done) | decide) (by first | omega | assumption | (simp; omega) | (simp [maxLen]; omega) | (simp [maxLen] at *; omega) | (simp; done) | decide)) rfl rfl ?_
      | refine op_pure (pu_rem (OT.tmp rfl) OT.const (by first | omega | assumption | (simp; omega) | (simp [maxLen]; omega) | (simp [maxLen] at *; omega) | (simp; done) | decide)) rfl rfl ?_
      refine op_pure (pu_assign (OT.tmp rfl)) rfl rfl ?_
      refine tr_nil ?_
      refine block_normal ?_
      refine then_normal ?_
      -- region 4
      refine tr_env (es_cons (t := 0) (OT.tmp rfl) (es_cons (t := 3) (OT.tmp rfl) (es_cons (t := 4) (OT.tmp rfl) es_nil))) ?_
      refine tr_region ?_
      refine op_pure (pu_move (OT.tmp rfl)) rfl rfl ?_
      first
      | refine op_pure (pu_add' (OT.tmp rfl) OT.const (by first | omega | assumption | (simp; omega) | (simp [maxLen]; omega) | (simp [maxLen] at *; omega) | (simp; done) | decide)) rfl rfl ?_
      | refine op_pure (pu_add (OT.tmp rfl) OT.const) rfl rfl ?_
      refine op_pure (pu_assign (OT.tmp rfl)) rfl rfl ?_
      refine tr_nil ?_
      refine then_normal ?_
      exact tr_again (k + 1) (by first | omega | assumption | (simp; omega) | (simp [maxLen]; omega) | (simp [maxLen] at *; omega) | (simp; done) | decide) (by first | omega | assumption | (simp; omega) | (simp [maxLen]; omega) | (simp [maxLen] at *; omega) | (simp; done) | decide) (es_append (es_cons (t := 4) (by first | exact OT.tmp rfl | exact OT.val (OT.tmp rfl) (congrArg (Value.int _) (by first | omega | (simp; omega) | simp))) (es_cons (t := 3) (OT.val (OT.tmp rfl) (congrArg (Value.int _) hst)) es_nil)) (es_cons (t := 0) (OT.tmp rfl) es_nil)) (own_picks (by repeat (first | exact picks_nil | refine picks_cons 0 rfl ?_ | refine picks_cons 1 rfl ?_ | refine picks_cons 2 rfl ?_ | refine picks_cons 3 rfl ?_ | refine picks_cons 4 rfl ?_ | refine picks_cons 5 rfl ?_ | refine picks_cons 6 rfl ?_)))
    · try simp only [decide_eq_true_eq, decide_eq_false_iff_not, Bool.or_eq_true, Bool.and_eq_true, Bool.or_eq_false_iff, Bool.and_eq_false_iff, Bool.not_eq_true', Bool.not_eq_false', ne_eq, Classical.not_not] at c8
      refine tr_exit ?_
      refine then_exit ?_
      refine then_exit ?_
      refine block_hit ?_
      refine then_normal ?_
      refine tr_seq ?_
      -- region 6
      refine tr_env (es_cons (t := 3) (OT.tmp rfl) es_nil) ?_
      obtain rfl : k = l.length := by omega
      rw [List.take_length]
      have hS : wsum 0 l % 676 < 676 := Nat.mod_lt _ (by decide)
      have he := ref_end l
      generalize wsum 0 l % 676 = S at *
      refine tr_region ?_
      refine op_pure (pu_move (OT.tmp rfl)) rfl rfl ?_
      first
      | refine op_pure (pu_quo' (OT.tmp rfl) OT.const (by first | omega | assumption | (simp; omega) | (simp [maxLen]; omega) | (simp [maxLen] at *; omega) | (simp; done) | decide) (by first | omega | assumption | (simp; omega) | (simp [maxLen]; omega) | (simp [maxLen] at *; omega) | (simp; done) | decide)) rfl rfl ?_
      | refine op_pure (pu_quo (OT.tmp rfl) OT.const (by first | omega | assumption | (simp; omega) | (simp [maxLen]; omega) | (simp [maxLen] at *; omega) | (simp; done) | decide)) rfl rfl ?_
      first
      | refine op_pure (pu_add' OT.const (OT.tmp rfl) (by first | omega | assumption | (simp; omega) | (simp [maxLen]; omega) | (simp [maxLen] at *; omega) | (simp; done) | decide)) rfl rfl ?_
      | refine op_pure (pu_add OT.const (OT.tmp rfl)) rfl rfl ?_
      first
      | refine op_pure (pu_convert' (OT.tmp rfl) Tryd.underlying3 Tryd.underlying5 (by first | omega | assumption | (simp; omega) | (simp [maxLen]; omega) | (simp [maxLen] at *; omega) | (simp; done) | decide) (by first | omega | assumption | (simp; omega) | (simp [maxLen]; omega) | (simp [maxLen] at *; omega) | (simp; done) | decide) rfl) rfl rfl ?_
      | refine op_pure (pu_convert (OT.tmp rfl) Tryd.underlying3 Tryd.underlying5) rfl rfl ?_
      refine op_pure (pu_move (OT.tmp rfl)) rfl rfl ?_
      first
      | refine op_pure (pu_rem' (OT.tmp rfl) OT.const (by first | omega | assumption | (simp; omega) | (simp [maxLen]; omega) | (simp [maxLen] at *; omega) | (simp; done) | decide) (by first | omega | assumption | (simp; omega) | (simp [maxLen]; omega) | (simp [maxLen] at *; omega) | (simp; done) | decide)) rfl rfl ?_
      | refine op_pure (pu_rem (OT.tmp rfl) OT.const (by first | omega | assumption | (simp; omega) | (simp [maxLen]; omega) | (simp [maxLen] at *; omega) | (simp; done) | decide)) rfl rfl ?_
      first
      | refine op_pure (pu_add' OT.const (OT.tmp rfl) (by first | omega | assumption | (simp; omega) | (simp [maxLen]; omega) | (simp [maxLen] at *; omega) | (simp; done) | decide)) rfl rfl ?_
      | refine op_pure (pu_add OT.const (OT.tmp rfl)) rfl rfl ?_
      first
      | refine op_pure (pu_convert' (OT.tmp rfl) Tryd.underlying3 Tryd.underlying5 (by first | omega | assumption | (simp; omega) | (simp [maxLen]; omega) | (simp [maxLen] at *; omega) | (simp; done) | decide) (by first | omega | assumption | (simp; omega) | (simp [maxLen]; omega) | (simp [maxLen] at *; omega) | (simp; done) | decide) rfl) rfl rfl ?_
      | refine op_pure (pu_convert (OT.tmp rfl) Tryd.underlying3 Tryd.underlying5) rfl rfl ?_
      refine op_acts (acts_lit (d := (kint .u8)) (v0 := 0) (show slTy Tryd.prog 39 5 1 1 = true from by decide +kernel) (show tyOk Tryd.prog 5 false 1 = true from by decide +kernel) z5 (show 2 * 1 ≤ 16777216 from by decide) (by decide) (fills_arr rfl rfl (by decide) (OT.tmp rfl) (fills_arr rfl rfl (by decide) (OT.tmp rfl) fills_nil))) (List.Perm.refl _) rfl rfl (fun _ _ => ?_)
      refine op_pure (pu_bytes_bs (OT.tmp rfl) Tryd.underlying39 Tryd.underlying5 Tryd.underlying9) rfl rfl ?_
      refine op_pure (pu_assign (OT.tmp rfl)) rfl rfl ?_
      refine tr_nil ?_
      refine then_normal ?_
      refine tr_ret ?_
      exact ret_one .ret (.inl rfl) rfl () (OT.val (OT.tmp rfl) (congrArg Value.string (congrArg bs (he)))) trivial (by repeat (first | exact picks_nil | refine picks_cons 0 rfl ?_ | refine picks_cons 1 rfl ?_ | refine picks_cons 2 rfl ?_ | refine picks_cons 3 rfl ?_ | refine picks_cons 4 rfl ?_ | refine picks_cons 5 rfl ?_ | refine picks_cons 6 rfl ?_))
set_option maxRecDepth 20000 in
/-- rhizome/rhizomeref07.Name -/
theorem Name_fn (l : List UInt8) (hl : l.length ≤ 1000000) : Ct Tryd.prog 18 [BsT l] ([]) Unit (fun _ => BoolT (nameB l)) (fun _ => []) (fun _ => True) := by
  refine fn_intro Tryd.func18 rfl rfl ?_
  intro H w
  refine tr_seq ?_
  -- region 0
  refine tr_env (es_cons (t := 0) (OT.tmp rfl) es_nil) ?_
  refine tr_region ?_
  refine op_pure (pu_assign OT.const) rfl rfl ?_
  refine tr_nil ?_
  refine then_normal ?_
  refine tr_seq ?_
  refine tr_seq ?_
  -- region 1
  refine tr_env (es_cons (t := 0) (OT.tmp rfl) es_nil) ?_
  refine tr_region ?_
  refine op_pure (pu_assign OT.const) rfl rfl ?_
  refine tr_nil ?_
  refine then_normal ?_
  refine tr_block ?_
  refine tr_loopK (σ := Nat) (es_cons (t := 0) (OT.tmp rfl) es_nil) (fun k => [(3, I64 (k : Int))]) (fun k => []) (fun k => k ≤ l.length ∧ (l.take k).all isLow = true) (fun k => l.length - k) 0 ⟨Nat.zero_le _, rfl⟩ ?_ (own_picks (by repeat (first | exact picks_nil | refine picks_cons 0 rfl ?_ | refine picks_cons 1 rfl ?_ | refine picks_cons 2 rfl ?_ | refine picks_cons 3 rfl ?_ | refine picks_cons 4 rfl ?_ | refine picks_cons 5 rfl ?_ | refine picks_cons 6 rfl ?_))) ?_
  · exact (es_cons (t := 3) (by first | exact OT.tmp rfl | exact OT.val (OT.tmp rfl) (congrArg (Value.int _) (by first | omega | (simp; omega) | simp))) es_nil)
  · rintro k ⟨hk, ha⟩
    refine tr_seq ?_
    refine tr_seq ?_
    -- region 2
    refine tr_env (es_cons (t := 0) (OT.tmp rfl) (es_cons (t := 3) (OT.tmp rfl) es_nil)) ?_
    refine tr_region ?_
    refine op_pure (pu_move (OT.tmp rfl)) rfl rfl ?_
    refine op_pure (pu_move (OT.tmp rfl)) rfl rfl ?_
    first
    | refine op_pure (pu_len_bs Tryd.underlying9 (OT.tmp rfl)) rfl rfl ?_
    | refine op_pure (pu_len_str Tryd.underlying9 (OT.tmp rfl)) rfl rfl ?_
    refine op_pure (pu_lss (OT.tmp rfl) (OT.tmp rfl)) rfl rfl ?_
    refine tr_nil ?_
    refine then_normal ?_
    refine tr_cond (OT.tmp rfl) (fun c7 => ?_) (fun c7 => ?_)
    · try simp only [decide_eq_true_eq, decide_eq_false_iff_not, Bool.or_eq_true, Bool.and_eq_true, Bool.or_eq_false_iff, Bool.and_eq_false_iff, Bool.not_eq_true', Bool.not_eq_false', ne_eq, Classical.not_not] at c7
      refine tr_skip ?_
      refine then_normal ?_
      refine tr_seq ?_
      refine tr_block ?_
      refine tr_seq ?_
      -- region 4
      refine tr_env (es_cons (t := 0) (OT.tmp rfl) (es_cons (t := 3) (OT.tmp rfl) es_nil)) ?_
      have hlow := low_iff (l := l) (k := k) (by omega)
      refine tr_region ?_
      refine op_pure (pu_move (OT.tmp rfl)) rfl rfl ?_
      refine op_pure (pu_move (OT.tmp rfl)) rfl rfl ?_
      refine op_pure (pu_bs_index (OT.tmp rfl) (OT.tmp rfl) Tryd.underlying9 (by first | omega | assumption | (simp; omega) | (simp [maxLen]; omega) | (simp [maxLen] at *; omega) | (simp; done) | decide) (by first | omega | assumption | (simp; omega) | (simp [maxLen]; omega) | (simp [maxLen] at *; omega) | (simp; done) | decide)) rfl rfl ?_
      refine op_pure (pu_lss (OT.tmp rfl) OT.const) rfl rfl ?_
      refine op_pure (pu_move (OT.tmp rfl)) rfl rfl ?_
      refine op_gu rfl rfl rfl (OT.gu_mk (OT.tmp rfl)) (fun hg => by (have hg1 := hg.2; (try simp only [decide_eq_true_eq, decide_eq_false_iff_not] at hg1); exact pu_move (by first | exact OT.tmp rfl | exact OT.gu (OT.tmp rfl) hg | exact OT.gu (OT.tmp rfl) hg.1))) rfl ?_
      refine op_gu rfl rfl rfl (OT.gu_mk (OT.tmp rfl)) (fun hg => by (have hg1 := hg.2; (try simp only [decide_eq_true_eq, decide_eq_false_iff_not] at hg1); exact pu_move (by first | exact OT.tmp rfl | exact OT.gu (OT.tmp rfl) hg | exact OT.gu (OT.tmp rfl) hg.1))) rfl ?_
      refine op_gu rfl rfl rfl (OT.gu_mk (OT.tmp rfl)) (fun hg => by (have hg1 := hg.2; (try simp only [decide_eq_true_eq, decide_eq_false_iff_not] at hg1); exact pu_bs_index (by first | exact OT.gu (OT.tmp rfl) hg | exact OT.gu (OT.tmp rfl) hg.1 | exact OT.tmp rfl) (by first | exact OT.gu (OT.tmp rfl) hg | exact OT.gu (OT.tmp rfl) hg.1 | exact OT.tmp rfl) Tryd.underlying9 (by first | omega | assumption | (simp; omega) | (simp [maxLen]; omega) | (simp [maxLen] at *; omega) | (simp; done) | decide) (by first | omega | assumption | (simp; omega) | (simp [maxLen]; omega) | (simp [maxLen] at *; omega) | (simp; done) | decide))) rfl ?_
      refine op_gu rfl rfl rfl (OT.gu_mk (OT.tmp rfl)) (fun hg => by (have hg1 := hg.2; (try simp only [decide_eq_true_eq, decide_eq_false_iff_not] at hg1); exact pu_gtr (by first | exact OT.gu (OT.tmp rfl) hg | exact OT.gu (OT.tmp rfl) hg.1 | exact OT.tmp rfl) OT.const)) rfl ?_
      refine op_pure (pu_pick_or (OT.tmp rfl) (by first | exact OT.tmp rfl | exact OT.gu_in (OT.tmp rfl) ⟨trivial, rfl⟩)) rfl rfl ?_
      refine tr_nil ?_
      refine then_normal ?_
      refine tr_cond (OT.tmp rfl) (fun c19 => ?_) (fun c19 => ?_)
      · try simp only [decide_eq_true_eq, decide_eq_false_iff_not, Bool.or_eq_true, Bool.and_eq_true, Bool.or_eq_false_iff, Bool.and_eq_false_iff, Bool.not_eq_true', Bool.not_eq_false', ne_eq, Classical.not_not] at c19
        have hb : isLow l[k] = false := hlow.1 c19
        refine tr_seq ?_
        -- region 5
        refine tr_env es_nil ?_
        refine tr_region ?_
        refine op_pure (pu_assign OT.const) rfl rfl ?_
        refine tr_nil ?_
        refine then_normal ?_
        refine tr_ret ?_
        refine block_ret ?_
        refine then_ret ?_
        refine then_ret ?_
        refine block_ret ?_
        refine then_ret ?_
        exact ret_one .ret (.inl rfl) rfl () (OT.val (OT.tmp rfl) (congrArg Value.bool ((name_no (by omega) hb).symm))) trivial (by repeat (first | exact picks_nil | refine picks_cons 0 rfl ?_ | refine picks_cons 1 rfl ?_ | refine picks_cons 2 rfl ?_ | refine picks_cons 3 rfl ?_ | refine picks_cons 4 rfl ?_ | refine picks_cons 5 rfl ?_ | refine picks_cons 6 rfl ?_))
      · try simp only [decide_eq_true_eq, decide_eq_false_iff_not, Bool.or_eq_true, Bool.and_eq_true, Bool.or_eq_false_iff, Bool.and_eq_false_iff, Bool.not_eq_true', Bool.not_eq_false', ne_eq, Classical.not_not] at c19
        have hb : isLow l[k] = true := by cases hx : isLow l[k] with | true => rfl | false => exact absurd (hlow.2 hx) (by omega)
        refine tr_skip ?_
        refine block_normal ?_
        refine then_normal ?_
        -- region 3
        refine tr_env (es_cons (t := 0) (OT.tmp rfl) (es_cons (t := 3) (OT.tmp rfl) es_nil)) ?_
        refine tr_region ?_
        refine op_pure (pu_move (OT.tmp rfl)) rfl rfl ?_
        first
        | refine op_pure (pu_add' (OT.tmp rfl) OT.const (by first | omega | assumption | (simp; omega) | (simp [maxLen]; omega) | (simp [maxLen] at *; omega) | (simp; done) | decide)) rfl rfl ?_
        | refine op_pure (pu_add (OT.tmp rfl) OT.const) rfl rfl ?_
        refine op_pure (pu_assign (OT.tmp rfl)) rfl rfl ?_
        refine tr_nil ?_
        refine then_normal ?_
        exact tr_again (k + 1) ⟨by omega, all_take (by omega) ha hb⟩ (by first | omega | assumption | (simp; omega) | (simp [maxLen]; omega) | (simp [maxLen] at *; omega) | (simp; done) | decide) (es_append (es_cons (t := 3) (by first | exact OT.tmp rfl | exact OT.val (OT.tmp rfl) (congrArg (Value.int _) (by first | omega | (simp; omega) | simp))) es_nil) (es_cons (t := 0) (OT.tmp rfl) es_nil)) (own_picks (by repeat (first | exact picks_nil | refine picks_cons 0 rfl ?_ | refine picks_cons 1 rfl ?_ | refine picks_cons 2 rfl ?_ | refine picks_cons 3 rfl ?_ | refine picks_cons 4 rfl ?_ | refine picks_cons 5 rfl ?_ | refine picks_cons 6 rfl ?_)))
    · try simp only [decide_eq_true_eq, decide_eq_false_iff_not, Bool.or_eq_true, Bool.and_eq_true, Bool.or_eq_false_iff, Bool.and_eq_false_iff, Bool.not_eq_true', Bool.not_eq_false', ne_eq, Classical.not_not] at c7
      refine tr_exit ?_
      refine then_exit ?_
      refine then_exit ?_
      refine block_hit ?_
      refine then_normal ?_
      refine tr_seq ?_
      -- region 6
      refine tr_env (es_cons (t := 0) (OT.tmp rfl) es_nil) ?_
      obtain rfl : k = l.length := by omega
      rw [List.take_length] at ha
      have he := name_end ha
      refine tr_region ?_
      refine op_pure (pu_move (OT.tmp rfl)) rfl rfl ?_
      first
      | refine op_pure (pu_len_bs Tryd.underlying9 (OT.tmp rfl)) rfl rfl ?_
      | refine op_pure (pu_len_str Tryd.underlying9 (OT.tmp rfl)) rfl rfl ?_
      refine op_pure (pu_gtr (OT.tmp rfl) OT.const) rfl rfl ?_
      refine op_pure (pu_move (OT.tmp rfl)) rfl rfl ?_
      refine op_gu rfl rfl rfl (OT.gu_mk (OT.tmp rfl)) (fun hg => by (have hg1 := hg.2; (try simp only [decide_eq_true_eq, decide_eq_false_iff_not] at hg1); exact pu_move (by first | exact OT.tmp rfl | exact OT.gu (OT.tmp rfl) hg | exact OT.gu (OT.tmp rfl) hg.1))) rfl ?_
      first
      | refine op_gu rfl rfl rfl (OT.gu_mk (OT.tmp rfl)) (fun hg => by (have hg1 := hg.2; (try simp only [decide_eq_true_eq, decide_eq_false_iff_not] at hg1); exact pu_len_bs Tryd.underlying9 (by first | exact OT.gu (OT.tmp rfl) hg | exact OT.gu (OT.tmp rfl) hg.1 | exact OT.tmp rfl))) rfl ?_
      | refine op_gu rfl rfl rfl (OT.gu_mk (OT.tmp rfl)) (fun hg => by (have hg1 := hg.2; (try simp only [decide_eq_true_eq, decide_eq_false_iff_not] at hg1); exact pu_len_str Tryd.underlying9 (by first | exact OT.gu (OT.tmp rfl) hg | exact OT.gu (OT.tmp rfl) hg.1 | exact OT.tmp rfl))) rfl ?_
      refine op_gu rfl rfl rfl (OT.gu_mk (OT.tmp rfl)) (fun hg => by (have hg1 := hg.2; (try simp only [decide_eq_true_eq, decide_eq_false_iff_not] at hg1); exact pu_leq (by first | exact OT.gu (OT.tmp rfl) hg | exact OT.gu (OT.tmp rfl) hg.1 | exact OT.tmp rfl) OT.const)) rfl ?_
      refine op_pure (pu_pick_and (OT.tmp rfl) (by first | exact OT.tmp rfl | exact OT.gu_in (OT.tmp rfl) ⟨trivial, rfl⟩)) rfl rfl ?_
      refine op_pure (pu_assign (OT.tmp rfl)) rfl rfl ?_
      refine tr_nil ?_
      refine then_normal ?_
      refine tr_ret ?_
      exact ret_one .ret (.inl rfl) rfl () (OT.val (OT.tmp rfl) (congrArg Value.bool (he))) trivial (by repeat (first | exact picks_nil | refine picks_cons 0 rfl ?_ | refine picks_cons 1 rfl ?_ | refine picks_cons 2 rfl ?_ | refine picks_cons 3 rfl ?_ | refine picks_cons 4 rfl ?_ | refine picks_cons 5 rfl ?_ | refine picks_cons 6 rfl ?_))
set_option maxRecDepth 20000 in
/-- strings.Clone -/
theorem Clone_fn {K0 : FH} {n0 : Nat} (l : List UInt8) (hl : l.length ≤ 1000000) : CtM K0 n0 Tryd.prog 21 [BsT l] ([]) Unit (fun _ => BsT l) (fun _ => []) (fun _ => True) := by
  refine fn_introM Tryd.func21 rfl rfl ?_
  intro H w hK hn
  refine tr_seq ?_
  -- region 0
  refine tr_env (es_cons (t := 0) (OT.tmp rfl) es_nil) ?_
  refine tr_region ?_
  refine op_pure (pu_assign OT.const) rfl rfl ?_
  refine tr_nil ?_
  refine then_normal ?_
  refine tr_seq ?_
  -- region 1
  refine tr_env (es_cons (t := 0) (OT.tmp rfl) es_nil) ?_
  refine tr_region ?_
  refine op_pure (pu_move (OT.tmp rfl)) rfl rfl ?_
  refine op_acts (acts_callM (sClone_ct _ (by omega)) (mk_in hK hn) (show enters Tryd.prog 30 = true from by decide +kernel) (OTs.cons (OT.tmp rfl) OTs.nil) (List.Perm.refl _)) (List.Perm.refl _) rfl rfl (fun _ _ => ?_)
  refine op_pure (pu_assign (OT.tmp rfl)) rfl rfl ?_
  refine tr_nil ?_
  refine then_normal ?_
  refine tr_ret ?_
  exact ret_one .ret (.inl rfl) rfl () (OT.tmp rfl) trivial (by repeat (first | exact picks_nil | refine picks_cons 0 rfl ?_ | refine picks_cons 1 rfl ?_ | refine picks_cons 2 rfl ?_ | refine picks_cons 3 rfl ?_ | refine picks_cons 4 rfl ?_ | refine picks_cons 5 rfl ?_ | refine picks_cons 6 rfl ?_))
set_option maxRecDepth 20000 in
/-- rhizome/rhizomeref19.number -/
theorem number_fn (l : List UInt8) (hl : l.length ≤ 1000000) : Ct Tryd.prog 23 [BsT l] ([]) Unit (fun _ => I64 (numV l)) (fun _ => []) (fun _ => True) := by
  refine fn_intro Tryd.func23 rfl rfl ?_
  intro H w
  refine tr_seq ?_
  -- region 0
  refine tr_env (es_cons (t := 0) (OT.tmp rfl) es_nil) ?_
  refine tr_region ?_
  refine op_pure (pu_assign OT.const) rfl rfl ?_
  refine tr_nil ?_
  refine then_normal ?_
  refine tr_seq ?_
  refine tr_seq ?_
  -- region 1
  refine tr_env (es_cons (t := 0) (OT.tmp rfl) es_nil) ?_
  refine tr_region ?_
  refine op_pure (pu_move (OT.tmp rfl)) rfl rfl ?_
  first
  | refine op_pure (pu_len_bs Tryd.underlying9 (OT.tmp rfl)) rfl rfl ?_
  | refine op_pure (pu_len_str Tryd.underlying9 (OT.tmp rfl)) rfl rfl ?_
  refine op_pure (pu_lss (OT.tmp rfl) OT.const) rfl rfl ?_
  refine op_pure (pu_move (OT.tmp rfl)) rfl rfl ?_
  refine op_gu rfl rfl rfl (OT.gu_mk (OT.tmp rfl)) (fun hg => by (have hg1 := hg.2; (try simp only [decide_eq_true_eq, decide_eq_false_iff_not] at hg1); exact pu_move (by first | exact OT.tmp rfl | exact OT.gu (OT.tmp rfl) hg | exact OT.gu (OT.tmp rfl) hg.1))) rfl ?_
  first
  | refine op_gu rfl rfl rfl (OT.gu_mk (OT.tmp rfl)) (fun hg => by (have hg1 := hg.2; (try simp only [decide_eq_true_eq, decide_eq_false_iff_not] at hg1); exact pu_len_bs Tryd.underlying9 (by first | exact OT.gu (OT.tmp rfl) hg | exact OT.gu (OT.tmp rfl) hg.1 | exact OT.tmp rfl))) rfl ?_
  | refine op_gu rfl rfl rfl (OT.gu_mk (OT.tmp rfl)) (fun hg => by (have hg1 := hg.2; (try simp only [decide_eq_true_eq, decide_eq_false_iff_not] at hg1); exact pu_len_str Tryd.underlying9 (by first | exact OT.gu (OT.tmp rfl) hg | exact OT.gu (OT.tmp rfl) hg.1 | exact OT.tmp rfl))) rfl ?_
  refine op_gu rfl rfl rfl (OT.gu_mk (OT.tmp rfl)) (fun hg => by (have hg1 := hg.2; (try simp only [decide_eq_true_eq, decide_eq_false_iff_not] at hg1); exact pu_gtr (by first | exact OT.gu (OT.tmp rfl) hg | exact OT.gu (OT.tmp rfl) hg.1 | exact OT.tmp rfl) OT.const)) rfl ?_
  refine op_pure (pu_pick_or (OT.tmp rfl) (by first | exact OT.tmp rfl | exact OT.gu_in (OT.tmp rfl) ⟨trivial, rfl⟩)) rfl rfl ?_
  refine tr_nil ?_
  refine then_normal ?_
  refine tr_cond (OT.tmp rfl) (fun c12 => ?_) (fun c12 => ?_)
  · try simp only [decide_eq_true_eq, decide_eq_false_iff_not, Bool.or_eq_true, Bool.and_eq_true, Bool.or_eq_false_iff, Bool.and_eq_false_iff, Bool.not_eq_true', Bool.not_eq_false', ne_eq, Classical.not_not] at c12
    have hlen : -1 = numV l := by unfold numV; rw [if_pos (by omega)]
    refine tr_seq ?_
    -- region 2
    refine tr_env es_nil ?_
    refine tr_region ?_
    refine op_pure (pu_assign OT.const) rfl rfl ?_
    refine tr_nil ?_
    refine then_normal ?_
    refine tr_ret ?_
    refine then_ret ?_
    exact ret_one .ret (.inl rfl) rfl () (OT.val (OT.tmp rfl) (congrArg (Value.int _) (hlen))) trivial (by repeat (first | exact picks_nil | refine picks_cons 0 rfl ?_ | refine picks_cons 1 rfl ?_ | refine picks_cons 2 rfl ?_ | refine picks_cons 3 rfl ?_ | refine picks_cons 4 rfl ?_ | refine picks_cons 5 rfl ?_ | refine picks_cons 6 rfl ?_))
  · try simp only [decide_eq_true_eq, decide_eq_false_iff_not, Bool.or_eq_true, Bool.and_eq_true, Bool.or_eq_false_iff, Bool.and_eq_false_iff, Bool.not_eq_true', Bool.not_eq_false', ne_eq, Classical.not_not] at c12
    refine tr_skip ?_
    refine then_normal ?_
    refine tr_seq ?_
    -- region 3
    refine tr_env (es_cons (t := 0) (OT.tmp rfl) es_nil) ?_
    refine tr_region ?_
    refine op_pure (pu_assign OT.const) rfl rfl ?_
    refine tr_nil ?_
    refine then_normal ?_
    refine tr_seq ?_
    refine tr_seq ?_
    -- region 4
    refine tr_env (es_cons (t := 0) (OT.tmp rfl) (es_cons (t := 3) (OT.tmp rfl) es_nil)) ?_
    refine tr_region ?_
    refine op_pure (pu_assign OT.const) rfl rfl ?_
    refine tr_nil ?_
    refine then_normal ?_
    refine tr_block ?_
    refine tr_loopK (σ := Nat × Nat) (es_cons (t := 0) (OT.tmp rfl) es_nil) (fun s => [(4, I64 (s.1 : Int)), (3, I64 (s.2 : Int))]) (fun s => []) (fun s => s.1 ≤ l.length ∧ Lib.decFrom 0 (l.take s.1) = some s.2 ∧ s.2 < 10 ^ s.1) (fun s => l.length - s.1) (0, 0) ⟨Nat.zero_le _, rfl, by decide⟩ ?_ (own_picks (by repeat (first | exact picks_nil | refine picks_cons 0 rfl ?_ | refine picks_cons 1 rfl ?_ | refine picks_cons 2 rfl ?_ | refine picks_cons 3 rfl ?_ | refine picks_cons 4 rfl ?_ | refine picks_cons 5 rfl ?_ | refine picks_cons 6 rfl ?_))) ?_
    · exact (es_cons (t := 4) (by first | exact OT.tmp rfl | exact OT.val (OT.tmp rfl) (congrArg (Value.int _) (by first | omega | (simp; omega) | simp))) (es_cons (t := 3) (by first | exact OT.tmp rfl | exact OT.val (OT.tmp rfl) (congrArg (Value.int _) (by first | omega | (simp; omega) | simp))) es_nil))
    · rintro ⟨k, m⟩ ⟨hk, hm, hm2⟩
      dsimp only at hk hm hm2 ⊢
      refine tr_seq ?_
      refine tr_seq ?_
      -- region 5
      refine tr_env (es_cons (t := 0) (OT.tmp rfl) (es_cons (t := 3) (OT.tmp rfl) (es_cons (t := 4) (OT.tmp rfl) es_nil))) ?_
      refine tr_region ?_
      refine op_pure (pu_move (OT.tmp rfl)) rfl rfl ?_
      refine op_pure (pu_move (OT.tmp rfl)) rfl rfl ?_
      first
      | refine op_pure (pu_len_bs Tryd.underlying9 (OT.tmp rfl)) rfl rfl ?_
      | refine op_pure (pu_len_str Tryd.underlying9 (OT.tmp rfl)) rfl rfl ?_
      refine op_pure (pu_lss (OT.tmp rfl) (OT.tmp rfl)) rfl rfl ?_
      refine tr_nil ?_
      refine then_normal ?_
      refine tr_cond (OT.tmp rfl) (fun c16 => ?_) (fun c16 => ?_)
      · try simp only [decide_eq_true_eq, decide_eq_false_iff_not, Bool.or_eq_true, Bool.and_eq_true, Bool.or_eq_false_iff, Bool.and_eq_false_iff, Bool.not_eq_true', Bool.not_eq_false', ne_eq, Classical.not_not] at c16
        refine tr_skip ?_
        refine then_normal ?_
        refine tr_seq ?_
        refine tr_block ?_
        refine tr_seq ?_
        refine tr_seq ?_
        -- region 7
        refine tr_env (es_cons (t := 0) (OT.tmp rfl) (es_cons (t := 3) (OT.tmp rfl) (es_cons (t := 4) (OT.tmp rfl) es_nil))) ?_
        have hb := nums_bd (l := l) (k := k) (by omega)
        have hd := dig_at (l := l) (k := k) (by omega)
        have hnat := nums_at (l := l) (k := k) (by omega)
        have hp := Nat.pow_le_pow_right (show 0 < 10 by omega) (show k ≤ 9 by omega)
        have hp1 : 10 ^ (k + 1) = 10 ^ k * 10 := Nat.pow_succ 10 k
        have h10 : (10 : Nat) ^ 9 = 1000000000 := by decide
        refine tr_region ?_
        refine op_pure (pu_move (OT.tmp rfl)) rfl rfl ?_
        refine op_pure (pu_move (OT.tmp rfl)) rfl rfl ?_
        refine op_pure (pu_bs_index (OT.tmp rfl) (OT.tmp rfl) Tryd.underlying9 (by first | omega | assumption | (simp; omega) | (simp [maxLen]; omega) | (simp [maxLen] at *; omega) | (simp; done) | decide) (by first | omega | assumption | (simp; omega) | (simp [maxLen]; omega) | (simp [maxLen] at *; omega) | (simp; done) | decide)) rfl rfl ?_
        refine op_pure (pu_lss (OT.tmp rfl) OT.const) rfl rfl ?_
        refine op_pure (pu_move (OT.tmp rfl)) rfl rfl ?_
        refine op_gu rfl rfl rfl (OT.gu_mk (OT.tmp rfl)) (fun hg => by (have hg1 := hg.2; (try simp only [decide_eq_true_eq, decide_eq_false_iff_not] at hg1); exact pu_move (by first | exact OT.tmp rfl | exact OT.gu (OT.tmp rfl) hg | exact OT.gu (OT.tmp rfl) hg.1))) rfl ?_
        refine op_gu rfl rfl rfl (OT.gu_mk (OT.tmp rfl)) (fun hg => by (have hg1 := hg.2; (try simp only [decide_eq_true_eq, decide_eq_false_iff_not] at hg1); exact pu_move (by first | exact OT.tmp rfl | exact OT.gu (OT.tmp rfl) hg | exact OT.gu (OT.tmp rfl) hg.1))) rfl ?_
        refine op_gu rfl rfl rfl (OT.gu_mk (OT.tmp rfl)) (fun hg => by (have hg1 := hg.2; (try simp only [decide_eq_true_eq, decide_eq_false_iff_not] at hg1); exact pu_bs_index (by first | exact OT.gu (OT.tmp rfl) hg | exact OT.gu (OT.tmp rfl) hg.1 | exact OT.tmp rfl) (by first | exact OT.gu (OT.tmp rfl) hg | exact OT.gu (OT.tmp rfl) hg.1 | exact OT.tmp rfl) Tryd.underlying9 (by first | omega | assumption | (simp; omega) | (simp [maxLen]; omega) | (simp [maxLen] at *; omega) | (simp; done) | decide) (by first | omega | assumption | (simp; omega) | (simp [maxLen]; omega) | (simp [maxLen] at *; omega) | (simp; done) | decide))) rfl ?_
        refine op_gu rfl rfl rfl (OT.gu_mk (OT.tmp rfl)) (fun hg => by (have hg1 := hg.2; (try simp only [decide_eq_true_eq, decide_eq_false_iff_not] at hg1); exact pu_gtr (by first | exact OT.gu (OT.tmp rfl) hg | exact OT.gu (OT.tmp rfl) hg.1 | exact OT.tmp rfl) OT.const)) rfl ?_
        refine op_pure (pu_pick_or (OT.tmp rfl) (by first | exact OT.tmp rfl | exact OT.gu_in (OT.tmp rfl) ⟨trivial, rfl⟩)) rfl rfl ?_
        refine tr_nil ?_
        refine then_normal ?_
        refine tr_cond (OT.tmp rfl) (fun c28 => ?_) (fun c28 => ?_)
        · try simp only [decide_eq_true_eq, decide_eq_false_iff_not, Bool.or_eq_true, Bool.and_eq_true, Bool.or_eq_false_iff, Bool.and_eq_false_iff, Bool.not_eq_true', Bool.not_eq_false', ne_eq, Classical.not_not] at c28
          have hisd := hd.1 c28
          refine tr_seq ?_
          -- region 8
          refine tr_env es_nil ?_
          refine tr_region ?_
          refine op_pure (pu_assign OT.const) rfl rfl ?_
          refine tr_nil ?_
          refine then_normal ?_
          refine tr_ret ?_
          refine then_ret ?_
          refine block_ret ?_
          refine then_ret ?_
          refine then_ret ?_
          refine block_ret ?_
          refine then_ret ?_
          exact ret_one .ret (.inl rfl) rfl () (OT.val (OT.tmp rfl) (congrArg (Value.int _) ((num_bad (by omega) hisd).symm))) trivial (by repeat (first | exact picks_nil | refine picks_cons 0 rfl ?_ | refine picks_cons 1 rfl ?_ | refine picks_cons 2 rfl ?_ | refine picks_cons 3 rfl ?_ | refine picks_cons 4 rfl ?_ | refine picks_cons 5 rfl ?_ | refine picks_cons 6 rfl ?_))
        · try simp only [decide_eq_true_eq, decide_eq_false_iff_not, Bool.or_eq_true, Bool.and_eq_true, Bool.or_eq_false_iff, Bool.and_eq_false_iff, Bool.not_eq_true', Bool.not_eq_false', ne_eq, Classical.not_not] at c28
          have hisd : isDig l[k] := Classical.byContradiction fun e => by have := hd.2 e; omega
          have hisd2 := hisd
          unfold isDig at hisd2
          have hw : IntKind.u8.wrap (at' (nums l) (k : Int) - 48) = (l[k].toNat : Int) - 48 := by rw [u8_wrap (by omega) (by omega)]; omega
          have hval : (m : Int) * 10 + IntKind.u8.wrap (at' (nums l) (k : Int) - 48) = ((m * 10 + (l[k].toNat - 48) : Nat) : Int) := by omega
          refine tr_skip ?_
          refine then_normal ?_
          -- region 9
          refine tr_env (es_cons (t := 0) (OT.tmp rfl) (es_cons (t := 3) (OT.tmp rfl) (es_cons (t := 4) (OT.tmp rfl) es_nil))) ?_
          refine tr_region ?_
          refine op_pure (pu_move (OT.tmp rfl)) rfl rfl ?_
          first
          | refine op_pure (pu_mul' (OT.tmp rfl) OT.const (by first | omega | assumption | (simp; omega) | (simp [maxLen]; omega) | (simp [maxLen] at *; omega) | (simp; done) | decide)) rfl rfl ?_
          | refine op_pure (pu_mul (OT.tmp rfl) OT.const) rfl rfl ?_
          refine op_pure (pu_move (OT.tmp rfl)) rfl rfl ?_
          refine op_pure (pu_move (OT.tmp rfl)) rfl rfl ?_
          refine op_pure (pu_bs_index (OT.tmp rfl) (OT.tmp rfl) Tryd.underlying9 (by first | omega | assumption | (simp; omega) | (simp [maxLen]; omega) | (simp [maxLen] at *; omega) | (simp; done) | decide) (by first | omega | assumption | (simp; omega) | (simp [maxLen]; omega) | (simp [maxLen] at *; omega) | (simp; done) | decide)) rfl rfl ?_
          first
          | refine op_pure (pu_sub' (OT.tmp rfl) OT.const (by first | omega | assumption | (simp; omega) | (simp [maxLen]; omega) | (simp [maxLen] at *; omega) | (simp; done) | decide)) rfl rfl ?_
          | refine op_pure (pu_sub (OT.tmp rfl) OT.const) rfl rfl ?_
          first
          | refine op_pure (pu_convert' (OT.tmp rfl) Tryd.underlying5 Tryd.underlying3 (by first | omega | assumption | (simp; omega) | (simp [maxLen]; omega) | (simp [maxLen] at *; omega) | (simp; done) | decide) (by first | omega | assumption | (simp; omega) | (simp [maxLen]; omega) | (simp [maxLen] at *; omega) | (simp; done) | decide) rfl) rfl rfl ?_
          | refine op_pure (pu_convert (OT.tmp rfl) Tryd.underlying5 Tryd.underlying3) rfl rfl ?_
          first
          | refine op_pure (pu_add' (OT.tmp rfl) (OT.tmp rfl) (by first | omega | assumption | (simp; omega) | (simp [maxLen]; omega) | (simp [maxLen] at *; omega) | (simp; done) | decide)) rfl rfl ?_
          | refine op_pure (pu_add (OT.tmp rfl) (OT.tmp rfl)) rfl rfl ?_
          refine op_pure (pu_assign (OT.tmp rfl)) rfl rfl ?_
          refine tr_nil ?_
          refine block_normal ?_
          refine then_normal ?_
          -- region 6
          refine tr_env (es_cons (t := 0) (OT.tmp rfl) (es_cons (t := 3) (OT.tmp rfl) (es_cons (t := 4) (OT.tmp rfl) es_nil))) ?_
          refine tr_region ?_
          refine op_pure (pu_move (OT.tmp rfl)) rfl rfl ?_
          first
          | refine op_pure (pu_add' (OT.tmp rfl) OT.const (by first | omega | assumption | (simp; omega) | (simp [maxLen]; omega) | (simp [maxLen] at *; omega) | (simp; done) | decide)) rfl rfl ?_
          | refine op_pure (pu_add (OT.tmp rfl) OT.const) rfl rfl ?_
          refine op_pure (pu_assign (OT.tmp rfl)) rfl rfl ?_
          refine tr_nil ?_
          refine then_normal ?_
          exact tr_again (k + 1, m * 10 + (l[k].toNat - 48)) ⟨(by show k + 1 ≤ l.length; omega), num_step (by omega) hisd hm, (by show m * 10 + (l[k].toNat - 48) < 10 ^ (k + 1); omega)⟩ (by first | omega | assumption | (simp; omega) | (simp [maxLen]; omega) | (simp [maxLen] at *; omega) | (simp; done) | decide) (es_append (es_cons (t := 4) (by first | exact OT.tmp rfl | exact OT.val (OT.tmp rfl) (congrArg (Value.int _) (by first | omega | (simp; omega) | simp))) (es_cons (t := 3) (OT.val (OT.tmp rfl) (congrArg (Value.int _) hval)) es_nil)) (es_cons (t := 0) (OT.tmp rfl) es_nil)) (own_picks (by repeat (first | exact picks_nil | refine picks_cons 0 rfl ?_ | refine picks_cons 1 rfl ?_ | refine picks_cons 2 rfl ?_ | refine picks_cons 3 rfl ?_ | refine picks_cons 4 rfl ?_ | refine picks_cons 5 rfl ?_ | refine picks_cons 6 rfl ?_)))
      · try simp only [decide_eq_true_eq, decide_eq_false_iff_not, Bool.or_eq_true, Bool.and_eq_true, Bool.or_eq_false_iff, Bool.and_eq_false_iff, Bool.not_eq_true', Bool.not_eq_false', ne_eq, Classical.not_not] at c16
        refine tr_exit ?_
        refine then_exit ?_
        refine then_exit ?_
        refine block_hit ?_
        refine then_normal ?_
        refine tr_seq ?_
        -- region 10
        refine tr_env (es_cons (t := 3) (OT.tmp rfl) es_nil) ?_
        obtain rfl : k = l.length := by omega
        rw [List.take_length] at hm
        refine tr_region ?_
        refine op_pure (pu_move (OT.tmp rfl)) rfl rfl ?_
        refine op_pure (pu_assign (OT.tmp rfl)) rfl rfl ?_
        refine tr_nil ?_
        refine then_normal ?_
        refine tr_ret ?_
        exact ret_one .ret (.inl rfl) rfl () (OT.val (OT.tmp rfl) (congrArg (Value.int _) ((num_end (by omega) (by omega) hm).symm))) trivial (by repeat (first | exact picks_nil | refine picks_cons 0 rfl ?_ | refine picks_cons 1 rfl ?_ | refine picks_cons 2 rfl ?_ | refine picks_cons 3 rfl ?_ | refine picks_cons 4 rfl ?_ | refine picks_cons 5 rfl ?_ | refine picks_cons 6 rfl ?_))
end Go.Proofs.YtoaeaclcbcpheaaDoor
