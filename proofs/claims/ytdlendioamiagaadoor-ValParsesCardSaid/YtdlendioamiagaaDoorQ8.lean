/- The texts Vl16, Vl17, Vl18, VlM, Vl19, VlN, VlQ, VlU, VlX, VlP, VlR, VlO, VlW, VlY, VlZ, Vl20, Vl21, Vl22, Vl23, Vl24, Vl25, Vl26, Vl27, Vl28, VlV of this claim, put together in their order. No condition of their own. -/
import Derived.Test.YtdlendioamiagaaDoorQ7
import Derived.ChangeKeysEq
import Derived.Laws.StructEq
import Derived.Lib.Bytealg
import Derived.Lib.Small
import Derived.Test.YtdlendioamiagaaDoorQ2
import Derived.Test.YtdlendioamiagaaDoorQ4
import Derived.Test.YtdlendioamiagaaDoorQ1
import Derived.Stop.LaidErr
import Derived.Lay
import Derived.MakeChecks
import Derived.RowKitTokens
import Derived.Lib.LaidU8T
/- Walks through the Go functions rhizomeref02.UTF8, rhizomeref02.Check, rhizomeref02.Encode, as typed contracts. -/
namespace Go.Proofs.YtdlendioamiagaaDoor
open Go Go.Gw Go.Vl
set_option linter.unusedVariables false
set_option linter.unusedSimpArgs false

set_option maxRecDepth 20000 in
/-- rhizome/rhizomeref02.UTF8 -/
theorem rUTF8_fn (l : List UInt8) (hl : l.length ≤ 100000) : Ct Tryd.prog 31 [BsT l] ([]) Unit (fun _ => BoolT (Lib.validD l)) (fun _ => []) (fun _ => True) := by
  refine fn_intro Tryd.func31 rfl rfl ?_
  intro H w
  refine tr_seq ?_
  -- region 0
  refine tr_env (es_cons (t := 0) (OT.tmp rfl) es_nil) ?_
  refine tr_region ?_
  refine op_pure (pu_assign OT.const) rfl rfl ?_
  refine tr_nil ?_
  refine then_normal ?_
  refine tr_seq ?_
  refine tr_seq ?_
  -- region 1
  refine tr_env (es_cons (t := 0) (OT.tmp rfl) es_nil) ?_
  refine tr_region ?_
  refine op_pure (pu_assign OT.const) rfl rfl ?_
  refine tr_nil ?_
  refine then_normal ?_
  refine tr_block ?_
  refine tr_loopK (σ := Nat) (es_cons (t := 0) (OT.tmp rfl) es_nil) (fun i => [(3, I64 (i : Int))]) (fun i => []) (fun i => i ≤ l.length ∧ Lib.validD (l.drop i) = Lib.validD l) (fun i => l.length - i) 0 ⟨Nat.zero_le _, by rw [List.drop_zero]⟩ ?_ (own_picks (by exact picks_nil)) ?_
  · exact (es_cons (t := 3) (by exact OT.tmp rfl) es_nil)
  · rintro i ⟨hi, hv⟩
    refine tr_seq ?_
    refine tr_seq ?_
    -- region 2
    refine tr_env (es_cons (t := 0) (OT.tmp rfl) (es_cons (t := 3) (OT.tmp rfl) es_nil)) ?_
    refine tr_region ?_
    refine op_pure (pu_move (OT.tmp rfl)) rfl rfl ?_
    refine op_pure (pu_move (OT.tmp rfl)) rfl rfl ?_
    refine op_pure (pu_len_bs Tryd.underlying9 (OT.tmp rfl)) rfl rfl ?_
    refine op_pure (pu_lss (OT.tmp rfl) (OT.tmp rfl)) rfl rfl ?_
    refine tr_nil ?_
    refine then_normal ?_
    refine tr_cond (OT.tmp rfl) (fun c9 => ?_) (fun c9 => ?_)
    · skip
      refine tr_skip ?_
      refine then_normal ?_
      refine tr_block ?_
      refine tr_seq ?_
      -- region 3
      refine tr_env (es_cons (t := 0) (OT.tmp rfl) (es_cons (t := 3) (OT.tmp rfl) es_nil)) ?_
      have hil : i < l.length := by simp at c9; omega
      have hne := drop_ne hil
      have hst := valid_step hne
      refine tr_region ?_
      refine op_pure (pu_move (OT.tmp rfl)) rfl rfl ?_
      refine op_pure (pu_move (OT.tmp rfl)) rfl rfl ?_
      refine op_acts (acts_call (rRune_fn l i (by omega) (by omega)) (show enters Tryd.prog 41 = true from by decide +kernel) (OTs.cons (OT.tmp rfl) (OTs.cons (OT.tmp rfl) OTs.nil)) (List.Perm.refl _)) (List.Perm.refl _) rfl rfl (fun _ _ => ?_)
      refine op_pure (pu_move (OT.tmp rfl)) rfl rfl ?_
      refine op_pure (pu_extract (OT.tmp rfl) rfl) rfl rfl ?_
      refine op_pure (pu_extract (OT.tmp rfl) rfl) rfl rfl ?_
      refine op_pure (pu_assign (OT.tmp rfl)) rfl rfl ?_
      refine op_pure (pu_assign (OT.tmp rfl)) rfl rfl ?_
      refine tr_nil ?_
      refine then_normal ?_
      refine tr_seq ?_
      refine tr_seq ?_
      -- region 4
      refine tr_env (es_cons (t := 0) (OT.tmp rfl) (es_cons (t := 3) (OT.tmp rfl) (es_cons (t := 4) (OT.tmp rfl) es_nil))) ?_
      skip
      refine tr_region ?_
      refine op_pure (pu_move (OT.tmp rfl)) rfl rfl ?_
      refine op_pure (pu_eql (OT.tmp rfl) OT.const) rfl rfl ?_
      refine tr_nil ?_
      refine then_normal ?_
      refine tr_cond (OT.tmp rfl) (fun c17 => ?_) (fun c17 => ?_)
      · skip
        have hb : badR (l.drop i) = true := by rcases refR_cases hne with ⟨h, _⟩ | ⟨_, h, h1, _⟩; exact h; rw [h] at c17; simp at c17; omega
        have hr : Lib.validD l = false := by rw [← hv, hst, hb]; rfl
        refine tr_seq ?_
        -- region 5
        refine tr_env es_nil ?_
        refine tr_region ?_
        refine op_pure (pu_assign OT.const) rfl rfl ?_
        refine tr_nil ?_
        refine then_normal ?_
        refine tr_ret ?_
        refine then_ret ?_
        refine block_ret ?_
        refine then_ret ?_
        refine block_ret ?_
        refine then_ret ?_
        exact ret_one .ret (.inl rfl) rfl () (OT.val (OT.tmp rfl) (congrArg Value.bool (hr.symm))) trivial (by exact picks_nil)
      · skip
        obtain ⟨hb, hrr, hw1, hw2⟩ : badR (l.drop i) = false ∧ refR (l.drop i) = (((rune (l.drop i)).2 : Int), ((rune (l.drop i)).1 : Int)) ∧ 1 ≤ (rune (l.drop i)).2 ∧ (rune (l.drop i)).2 ≤ (l.drop i).length := by rcases refR_cases hne with ⟨_, h⟩ | h; rw [h] at c17; simp at c17; exact h
        rw [List.length_drop] at hw2
        rw [hb, List.drop_drop] at hst
        rw [hrr]
        refine tr_skip ?_
        refine then_normal ?_
        -- region 6
        refine tr_env (es_cons (t := 0) (OT.tmp rfl) (es_cons (t := 3) (OT.tmp rfl) (es_cons (t := 4) (OT.tmp rfl) es_nil))) ?_
        refine tr_region ?_
        refine op_pure (pu_move (OT.tmp rfl)) rfl rfl ?_
        refine op_pure (pu_move (OT.tmp rfl)) rfl rfl ?_
        refine op_pure (pu_add' (OT.tmp rfl) (OT.tmp rfl) (by omega)) rfl rfl ?_
        refine op_pure (pu_assign (OT.tmp rfl)) rfl rfl ?_
        refine tr_nil ?_
        refine block_normal ?_
        refine then_normal ?_
        exact tr_again (i + (rune (l.drop i)).2) ⟨by omega, by rw [← hv, hst]; rfl⟩ (by omega) (es_append (es_cons (t := 3) (by exact OT.tmp rfl) es_nil) (es_cons (t := 0) (OT.tmp rfl) es_nil)) (own_picks (by exact picks_nil))
    · skip
      refine tr_exit ?_
      refine then_exit ?_
      refine then_exit ?_
      refine block_hit ?_
      refine then_normal ?_
      refine tr_seq ?_
      -- region 7
      refine tr_env es_nil ?_
      obtain rfl : i = l.length := by simp at c9; omega
      have hr : Lib.validD l = true := by rw [← hv, List.drop_length]; rfl
      refine tr_region ?_
      refine op_pure (pu_assign OT.const) rfl rfl ?_
      refine tr_nil ?_
      refine then_normal ?_
      refine tr_ret ?_
      exact ret_one .ret (.inl rfl) rfl () (OT.val (OT.tmp rfl) (congrArg Value.bool (hr.symm))) trivial (by exact picks_nil)
set_option maxRecDepth 20000 in
/-- rhizome/rhizomeref02.Check -/
theorem rCheck_fn (v : Vl) (hl : v.2.2.length ≤ 140737488351232) : Ct Tryd.prog 12 [kVl.T v] ([]) Unit (fun _ => I64 (checkV v)) (fun _ => []) (fun _ => True) := by
  refine fn_intro Tryd.func12 rfl rfl ?_
  intro H w
  refine tr_seq ?_
  -- region 0
  refine tr_env (es_cons (t := 0) (OT.tmp rfl) es_nil) ?_
  refine tr_region ?_
  refine op_acts (acts_box (d := kVl) (OT.tmp rfl)) (List.Perm.refl _) rfl rfl (fun g0_0 _ => ?_)
  refine op_pure (pu_assign OT.const) rfl rfl ?_
  refine tr_nil ?_
  refine then_normal ?_
  refine tr_seq ?_
  refine tr_seq ?_
  -- region 1
  refine tr_env (es_cons (t := 1) (OT.tmp rfl) es_nil) ?_
  refine tr_region ?_
  refine op_pure (pu_faddr (OT.tmp rfl) (show fieldOk Tryd.prog 23 0 0 false 1 = true from by decide +kernel)) rfl rfl ?_
  refine op_pure (pu_load_blk (OT.tmp rfl) (by exact mem_at 0 rfl) lv0 (show tyOk Tryd.prog 3 false 1 = true from by decide +kernel)) rfl rfl ?_
  refine op_pure (pu_eql (OT.tmp rfl) OT.const) rfl rfl ?_
  refine op_pure (pu_move (OT.tmp rfl)) rfl rfl ?_
  refine op_gu rfl rfl rfl (OT.gu_mk (OT.tmp rfl)) (fun hg => by (have hg1 := hg.2; (try simp only [decide_eq_true_eq, decide_eq_false_iff_not] at hg1); exact pu_faddr (by exact OT.tmp rfl) (show fieldOk Tryd.prog 23 0 0 false 1 = true from by decide +kernel))) rfl ?_
  refine op_gu rfl rfl rfl (OT.gu_mk (OT.tmp rfl)) (fun hg => by (have hg1 := hg.2; (try simp only [decide_eq_true_eq, decide_eq_false_iff_not] at hg1); exact pu_load_blk (by exact OT.gu (OT.tmp rfl) hg) (by exact mem_at 0 rfl) lv0 (show tyOk Tryd.prog 3 false 1 = true from by decide +kernel))) rfl ?_
  refine op_gu rfl rfl rfl (OT.gu_mk (OT.tmp rfl)) (fun hg => by (have hg1 := hg.2; (try simp only [decide_eq_true_eq, decide_eq_false_iff_not] at hg1); exact pu_eql (by exact OT.gu (OT.tmp rfl) hg) OT.const)) rfl ?_
  refine op_gu rfl rfl rfl (OT.gu_mk (OT.tmp rfl)) (fun hg => by (have hg1 := hg.2; (try simp only [decide_eq_true_eq, decide_eq_false_iff_not] at hg1); exact pu_move (by exact OT.gu (OT.tmp rfl) hg))) rfl ?_
  refine op_gu rfl rfl rfl (OT.tmp rfl) (fun hg => by (have hg1 := hg.2; (try simp only [decide_eq_true_eq, decide_eq_false_iff_not] at hg1); exact pu_faddr (by exact OT.tmp rfl) (show fieldOk Tryd.prog 23 1 1 false 1 = true from by decide +kernel))) rfl ?_
  refine op_gu rfl rfl rfl (OT.tmp rfl) (fun hg => by (have hg1 := hg.2; (try simp only [decide_eq_true_eq, decide_eq_false_iff_not] at hg1); exact pu_load_blk (by exact OT.gu (OT.tmp rfl) hg) (by exact mem_at 0 rfl) lv1 (show tyOk Tryd.prog 3 false 1 = true from by decide +kernel))) rfl ?_
  refine op_gu rfl rfl rfl (OT.tmp rfl) (fun hg => by (have hg1 := hg.2; (try simp only [decide_eq_true_eq, decide_eq_false_iff_not] at hg1); exact pu_eql (by exact OT.gu (OT.tmp rfl) hg) OT.const)) rfl ?_
  refine op_gu rfl rfl rfl (OT.tmp rfl) (fun hg => by (have hg1 := hg.2; (try simp only [decide_eq_true_eq, decide_eq_false_iff_not] at hg1); exact pu_move (by exact OT.gu (OT.tmp rfl) hg))) rfl ?_
  refine op_gu rfl rfl rfl (OT.tmp rfl) (fun hg => by (have hg1 := hg.2; (try simp only [decide_eq_true_eq, decide_eq_false_iff_not] at hg1); exact pu_faddr (by exact OT.tmp rfl) (show fieldOk Tryd.prog 23 1 1 false 1 = true from by decide +kernel))) rfl ?_
  refine op_gu rfl rfl rfl (OT.tmp rfl) (fun hg => by (have hg1 := hg.2; (try simp only [decide_eq_true_eq, decide_eq_false_iff_not] at hg1); exact pu_load_blk (by exact OT.gu (OT.tmp rfl) hg) (by exact mem_at 0 rfl) lv1 (show tyOk Tryd.prog 3 false 1 = true from by decide +kernel))) rfl ?_
  refine op_gu rfl rfl rfl (OT.tmp rfl) (fun hg => by (have hg1 := hg.2; (try simp only [decide_eq_true_eq, decide_eq_false_iff_not] at hg1); exact pu_eql (by exact OT.gu (OT.tmp rfl) hg) OT.const)) rfl ?_
  refine op_gu rfl rfl rfl (OT.tmp rfl) (fun hg => by (have hg1 := hg.2; (try simp only [decide_eq_true_eq, decide_eq_false_iff_not] at hg1); exact pu_pick_or_p hg (by exact OT.gu (OT.tmp rfl) hg) (OT.tmp rfl))) rfl ?_
  refine op_gu rfl rfl rfl (OT.gu_mk (OT.tmp rfl)) (fun hg => by (have hg1 := hg.2; (try simp only [decide_eq_true_eq, decide_eq_false_iff_not] at hg1); exact pu_pick_and_p hg (by exact OT.gu (OT.tmp rfl) hg) (OT.tmp rfl))) rfl ?_
  refine op_pure (pu_pick_or (OT.tmp rfl) (by exact OT.tmp rfl)) rfl rfl ?_
  refine tr_nil ?_
  refine then_normal ?_
  refine tr_cond (OT.tmp rfl) (fun c20 => ?_) (fun c20 => ?_)
  · skip
    refine tr_seq ?_
    -- region 2
    refine tr_env es_nil ?_
    refine tr_region ?_
    refine op_pure (pu_assign OT.const) rfl rfl ?_
    refine tr_nil ?_
    refine then_normal ?_
    refine tr_ret ?_
    refine then_ret ?_
    exact ret_one .ret (.inl rfl) rfl () (OT.val (OT.tmp rfl) (congrArg (Value.int _) (by (try simp only [Bool.and_eq_true, Bool.and_eq_false_iff, Bool.or_eq_true, Bool.or_eq_false_iff, Bool.not_eq_true', Bool.not_eq_false', decide_eq_true_eq, decide_eq_false_iff_not] at *); unfold checkV; (repeat' split) <;> first | rfl | (exfalso; omega) | (exfalso; simp_all; done)))) trivial (by exact picks_nil)
  · skip
    refine tr_skip ?_
    refine then_normal ?_
    refine tr_seq ?_
    refine tr_seq ?_
    -- region 3
    refine tr_env (es_cons (t := 1) (OT.tmp rfl) es_nil) ?_
    refine tr_region ?_
    refine op_pure (pu_faddr (OT.tmp rfl) (show fieldOk Tryd.prog 23 0 0 false 1 = true from by decide +kernel)) rfl rfl ?_
    refine op_pure (pu_load_blk (OT.tmp rfl) (by exact mem_at 0 rfl) lv0 (show tyOk Tryd.prog 3 false 1 = true from by decide +kernel)) rfl rfl ?_
    refine op_pure (pu_neq (OT.tmp rfl) OT.const) rfl rfl ?_
    refine tr_nil ?_
    refine then_normal ?_
    refine tr_cond (OT.tmp rfl) (fun c23 => ?_) (fun c23 => ?_)
    · skip
      refine tr_seq ?_
      -- region 4
      refine tr_env es_nil ?_
      refine tr_region ?_
      refine op_pure (pu_assign OT.const) rfl rfl ?_
      refine tr_nil ?_
      refine then_normal ?_
      refine tr_ret ?_
      refine then_ret ?_
      exact ret_one .ret (.inl rfl) rfl () (OT.val (OT.tmp rfl) (congrArg (Value.int _) (by (try simp only [Bool.and_eq_true, Bool.and_eq_false_iff, Bool.or_eq_true, Bool.or_eq_false_iff, Bool.not_eq_true', Bool.not_eq_false', decide_eq_true_eq, decide_eq_false_iff_not] at *); unfold checkV; (repeat' split) <;> first | rfl | (exfalso; omega) | (exfalso; simp_all; done)))) trivial (by exact picks_nil)
    · skip
      refine tr_skip ?_
      refine then_normal ?_
      refine tr_seq ?_
      refine tr_seq ?_
      -- region 5
      refine tr_env (es_cons (t := 1) (OT.tmp rfl) es_nil) ?_
      refine tr_region ?_
      refine op_pure (pu_faddr (OT.tmp rfl) (show fieldOk Tryd.prog 23 2 2 false 1 = true from by decide +kernel)) rfl rfl ?_
      refine op_pure (pu_load_blk (OT.tmp rfl) (by exact mem_at 0 rfl) lv2 (show tyOk Tryd.prog 9 false 1 = true from by decide +kernel)) rfl rfl ?_
      refine op_pure (pu_len_bs Tryd.underlying9 (OT.tmp rfl)) rfl rfl ?_
      refine op_pure (pu_gtr (OT.tmp rfl) OT.const) rfl rfl ?_
      refine tr_nil ?_
      refine then_normal ?_
      refine tr_cond (OT.tmp rfl) (fun c27 => ?_) (fun c27 => ?_)
      · skip
        refine tr_seq ?_
        -- region 6
        refine tr_env es_nil ?_
        refine tr_region ?_
        refine op_pure (pu_assign OT.const) rfl rfl ?_
        refine tr_nil ?_
        refine then_normal ?_
        refine tr_ret ?_
        refine then_ret ?_
        exact ret_one .ret (.inl rfl) rfl () (OT.val (OT.tmp rfl) (congrArg (Value.int _) (by (try simp only [Bool.and_eq_true, Bool.and_eq_false_iff, Bool.or_eq_true, Bool.or_eq_false_iff, Bool.not_eq_true', Bool.not_eq_false', decide_eq_true_eq, decide_eq_false_iff_not] at *); unfold checkV; (repeat' split) <;> first | rfl | (exfalso; omega) | (exfalso; simp_all; done)))) trivial (by exact picks_nil)
      · skip
        have hl64 : v.2.2.length ≤ 64 := by simp at c27; omega
        refine tr_skip ?_
        refine then_normal ?_
        refine tr_seq ?_
        refine tr_seq ?_
        -- region 7
        refine tr_env (es_cons (t := 1) (OT.tmp rfl) es_nil) ?_
        refine tr_region ?_
        refine op_pure (pu_faddr (OT.tmp rfl) (show fieldOk Tryd.prog 23 2 2 false 1 = true from by decide +kernel)) rfl rfl ?_
        refine op_pure (pu_load_blk (OT.tmp rfl) (by exact mem_at 0 rfl) lv2 (show tyOk Tryd.prog 9 false 1 = true from by decide +kernel)) rfl rfl ?_
        refine op_acts (acts_call (rUTF8_fn _ (by omega)) (show enters Tryd.prog 31 = true from by decide +kernel) (OTs.cons (OT.tmp rfl) OTs.nil) (List.Perm.refl _)) (List.Perm.refl _) rfl rfl (fun _ _ => ?_)
        refine op_pure (pu_not (OT.tmp rfl)) rfl rfl ?_
        refine tr_nil ?_
        refine then_normal ?_
        refine tr_cond (OT.tmp rfl) (fun c31 => ?_) (fun c31 => ?_)
        · skip
          refine tr_seq ?_
          -- region 8
          refine tr_env es_nil ?_
          refine tr_region ?_
          refine op_pure (pu_assign OT.const) rfl rfl ?_
          refine tr_nil ?_
          refine then_normal ?_
          refine tr_ret ?_
          refine then_ret ?_
          exact ret_one .ret (.inl rfl) rfl () (OT.val (OT.tmp rfl) (congrArg (Value.int _) (by (try simp only [Bool.and_eq_true, Bool.and_eq_false_iff, Bool.or_eq_true, Bool.or_eq_false_iff, Bool.not_eq_true', Bool.not_eq_false', decide_eq_true_eq, decide_eq_false_iff_not] at *); unfold checkV; (repeat' split) <;> first | rfl | (exfalso; omega) | (exfalso; simp_all; done)))) trivial (by exact picks_nil)
        · skip
          refine tr_skip ?_
          refine then_normal ?_
          refine tr_seq ?_
          -- region 9
          refine tr_env es_nil ?_
          refine tr_region ?_
          refine op_pure (pu_assign OT.const) rfl rfl ?_
          refine tr_nil ?_
          refine then_normal ?_
          refine tr_ret ?_
          exact ret_one .ret (.inl rfl) rfl () (OT.val (OT.tmp rfl) (congrArg (Value.int _) (by (try simp only [Bool.and_eq_true, Bool.and_eq_false_iff, Bool.or_eq_true, Bool.or_eq_false_iff, Bool.not_eq_true', Bool.not_eq_false', decide_eq_true_eq, decide_eq_false_iff_not] at *); unfold checkV; (repeat' split) <;> first | rfl | (exfalso; omega) | (exfalso; simp_all; done)))) trivial (by exact picks_nil)
end Go.Proofs.YtdlendioamiagaaDoor
/- Walks through the Go functions rhizomeref02.hex, rhizomeref01.Digits, as typed contracts. -/
namespace Go.Proofs.YtdlendioamiagaaDoor
open Go Go.Gw Go.Vl
set_option linter.unusedVariables false
set_option linter.unusedSimpArgs false

set_option maxRecDepth 20000 in
/-- rhizome/rhizomeref01.Digits -/
theorem Digits_fn (n : Int) (h0 : -9223372036854775808 ≤ n) (h1 : n ≤ 9223372036854775807) : Ct Tryd.prog 26 [I64 n] ([]) Unit (fun _ => BsT (Lib.itoa n)) (fun _ => []) (fun _ => True) := by
  refine fn_intro Tryd.func26 rfl rfl ?_
  intro H w
  refine tr_seq ?_
  -- region 0
  refine tr_env (es_cons (t := 0) (OT.tmp rfl) es_nil) ?_
  refine tr_region ?_
  refine op_pure (pu_assign OT.const) rfl rfl ?_
  refine tr_nil ?_
  refine then_normal ?_
  refine tr_seq ?_
  refine tr_seq ?_
  -- region 1
  refine tr_env (es_cons (t := 0) (OT.tmp rfl) es_nil) ?_
  refine tr_region ?_
  refine op_pure (pu_move (OT.tmp rfl)) rfl rfl ?_
  refine op_pure (pu_eql (OT.tmp rfl) OT.const) rfl rfl ?_
  refine tr_nil ?_
  refine then_normal ?_
  refine tr_cond (OT.tmp rfl) (fun c7 => ?_) (fun c7 => ?_)
  · skip
    obtain rfl : n = 0 := of_decide_eq_true c7
    have hr : [48] = Lib.itoa 0 := by rw [show (0 : Int) = ((0 : Nat) : Int) from rfl, Lib.itoa_nonneg, Lib.decDigits_one (by decide)]; rfl
    refine tr_seq ?_
    -- region 2
    refine tr_env es_nil ?_
    refine tr_region ?_
    refine op_pure (pu_assign OT.const) rfl rfl ?_
    refine tr_nil ?_
    refine then_normal ?_
    refine tr_ret ?_
    refine then_ret ?_
    exact ret_one .ret (.inl rfl) rfl () (OT.val (OT.tmp rfl) (congrArg Value.string (congrArg bs (hr)))) trivial (by exact picks_nil)
  · skip
    have hn0 : n ≠ 0 := of_decide_eq_false c7
    obtain ⟨gg, hgg⟩ : ∃ gg, decide (n < 0) = gg := ⟨_, rfl⟩
    obtain ⟨m, hm⟩ : ∃ m, n.natAbs = m := ⟨_, rfl⟩
    have hsz := sgz_of n
    rw [hgg, hm] at hsz
    have hm1 : 1 ≤ m := by omega
    have hm2 : m ≤ 9223372036854775808 := by omega
    have hit := itoa_sgz (g := gg) hm1
    rw [← hsz] at hit
    refine tr_skip ?_
    refine then_normal ?_
    refine tr_seq ?_
    -- region 3
    refine tr_env (es_cons (t := 0) (OT.tmp rfl) es_nil) ?_
    refine tr_region ?_
    refine op_pure (pu_assign OT.const) rfl rfl ?_
    refine tr_nil ?_
    refine then_normal ?_
    refine tr_seq ?_
    refine tr_seq ?_
    -- region 4
    refine tr_env (es_cons (t := 0) (OT.tmp rfl) (es_cons (t := 3) (OT.tmp rfl) es_nil)) ?_
    refine tr_region ?_
    refine op_pure (pu_move (OT.tmp rfl)) rfl rfl ?_
    refine op_pure (pu_assign (OT.tmp rfl)) rfl rfl ?_
    refine tr_nil ?_
    refine then_normal ?_
    refine tr_block ?_
    refine tr_loopK (σ := Nat × List UInt8) (es_cons (t := 0) (OT.tmp rfl) es_nil) (fun s => [(4, I64 (sgz gg s.1)), (3, BsT s.2)]) (fun s => []) (fun s => DigInv m s.1 s.2 ∧ s.1 ≤ m) (fun s => s.1) (m, []) ⟨dig_start hm1, Nat.le_refl _⟩ ?_ (own_picks (by exact picks_nil)) ?_
    · exact (es_cons (t := 4) (OT.val (OT.tmp rfl) (congrArg (Value.int _) hsz)) (es_cons (t := 3) (OT.tmp rfl) es_nil))
    · rintro ⟨k, s⟩ ⟨hI, hkm0⟩
      dsimp only at hI hkm0 ⊢
      refine tr_seq ?_
      refine tr_seq ?_
      -- region 5
      refine tr_env (es_cons (t := 0) (OT.tmp rfl) (es_cons (t := 3) (OT.tmp rfl) (es_cons (t := 4) (OT.tmp rfl) es_nil))) ?_
      refine tr_region ?_
      refine op_pure (pu_move (OT.tmp rfl)) rfl rfl ?_
      refine op_pure (pu_neq (OT.tmp rfl) OT.const) rfl rfl ?_
      refine tr_nil ?_
      refine then_normal ?_
      refine tr_cond (OT.tmp rfl) (fun c10 => ?_) (fun c10 => ?_)
      · skip
        refine tr_skip ?_
        refine then_normal ?_
        refine tr_seq ?_
        refine tr_block ?_
        refine tr_seq ?_
        -- region 7
        refine tr_env (es_cons (t := 0) (OT.tmp rfl) (es_cons (t := 3) (OT.tmp rfl) (es_cons (t := 4) (OT.tmp rfl) es_nil))) ?_
        have hk0 : 0 < k := by rcases Nat.eq_zero_or_pos k with rfl | h; (exfalso; revert c10; cases gg <;> simp [sgz]); exact h
        have hsl := dig_len hI hm2
        have hkm : k % 10 ≤ 9 := by omega
        refine tr_region ?_
        refine op_pure (pu_move (OT.tmp rfl)) rfl rfl ?_
        refine op_pure (pu_rem (OT.tmp rfl) OT.const (by omega)) rfl rfl ?_
        refine op_pure (pu_assign (OT.tmp rfl)) rfl rfl ?_
        refine tr_nil ?_
        refine then_normal ?_
        refine tr_joinK (σ := Unit) (es_cons (t := 0) (OT.tmp rfl) (es_cons (t := 3) (OT.tmp rfl) (es_cons (t := 4) (OT.tmp rfl) es_nil))) (fun _ => [(5, I64 ((k % 10 : Nat) : Int))]) (fun _ => []) (fun _ => True) ?_ ?_
        · skip
          refine tr_seq ?_
          -- region 8
          refine tr_env (es_cons (t := 0) (OT.tmp rfl) (es_cons (t := 3) (OT.tmp rfl) (es_cons (t := 4) (OT.tmp rfl) (es_cons (t := 5) (OT.tmp rfl) es_nil)))) ?_
          rw [sgz_mod]
          refine tr_region ?_
          refine op_pure (pu_move (OT.tmp rfl)) rfl rfl ?_
          refine op_pure (pu_lss (OT.tmp rfl) OT.const) rfl rfl ?_
          refine tr_nil ?_
          refine then_normal ?_
          refine tr_cond (OT.tmp rfl) (fun c16 => ?_) (fun c16 => ?_)
          · skip
            have hg1 : gg = true := by cases gg with | true => rfl | false => (exfalso; simp [sgz] at c16; omega)
            subst hg1
            -- region 9
            refine tr_env (es_cons (t := 0) (OT.tmp rfl) (es_cons (t := 3) (OT.tmp rfl) (es_cons (t := 4) (OT.tmp rfl) (es_cons (t := 5) (OT.tmp rfl) es_nil)))) ?_
            refine tr_region ?_
            refine op_pure (pu_move (OT.tmp rfl)) rfl rfl ?_
            refine op_pure (pu_neg (OT.tmp rfl) (by simp [sgz]; omega)) rfl rfl ?_
            refine op_pure (pu_assign (OT.tmp rfl)) rfl rfl ?_
            refine tr_nil ?_
            refine then_normal ?_
            exact tr_joined () trivial (es_append (es_cons (t := 5) (OT.val (OT.tmp rfl) (congrArg (Value.int _) (by simp [sgz]))) es_nil) (es_cons (t := 0) (OT.tmp rfl) (es_cons (t := 3) (OT.tmp rfl) (es_cons (t := 4) (OT.tmp rfl) es_nil)))) (own_picks (by exact picks_nil))
          · skip
            have hsm : sgz gg (k % 10) = ((k % 10 : Nat) : Int) := by cases gg with | false => rfl | true => (simp [sgz] at c16 ⊢; omega)
            refine tr_skip ?_
            refine then_normal ?_
            exact tr_joined () trivial (es_append (es_cons (t := 5) (OT.val (OT.tmp rfl) (congrArg (Value.int _) hsm)) es_nil) (es_cons (t := 0) (OT.tmp rfl) (es_cons (t := 3) (OT.tmp rfl) (es_cons (t := 4) (OT.tmp rfl) es_nil)))) (own_picks (by exact picks_nil))
        · rintro _ _
          -- region 10
          refine tr_env (es_cons (t := 0) (OT.tmp rfl) (es_cons (t := 3) (OT.tmp rfl) (es_cons (t := 4) (OT.tmp rfl) (es_cons (t := 5) (OT.tmp rfl) es_nil)))) ?_
          refine tr_region ?_
          refine op_pure (pu_move (OT.tmp rfl)) rfl rfl ?_
          refine op_pure (pu_add' OT.const (OT.tmp rfl) (by omega)) rfl rfl ?_
          refine op_pure (pu_convert (OT.tmp rfl) Tryd.underlying3 Tryd.underlying5) rfl rfl ?_
          refine op_acts (acts_lit (d := (kint .u8)) (v0 := 0) (show slTy Tryd.prog 26 5 1 1 = true from by decide +kernel) (show tyOk Tryd.prog 5 false 1 = true from by decide +kernel) z5 (show 1 * 1 ≤ 16777216 from by decide) (by decide) (fills_arr rfl rfl (by decide) (OT.tmp rfl) fills_nil)) (List.Perm.refl _) rfl rfl (fun _ _ => ?_)
          refine op_pure (pu_bytes_bs (OT.tmp rfl) Tryd.underlying26 Tryd.underlying5 Tryd.underlying9) rfl rfl ?_
          refine op_pure (pu_move (OT.tmp rfl)) rfl rfl ?_
          refine op_pure (pu_bs_add (OT.tmp rfl) (OT.tmp rfl) (by (simp; omega))) rfl rfl ?_
          refine op_pure (pu_assign (OT.tmp rfl)) rfl rfl ?_
          refine tr_nil ?_
          refine block_normal ?_
          refine then_normal ?_
          -- region 6
          refine tr_env (es_cons (t := 0) (OT.tmp rfl) (es_cons (t := 3) (OT.tmp rfl) (es_cons (t := 4) (OT.tmp rfl) es_nil))) ?_
          refine tr_region ?_
          refine op_pure (pu_move (OT.tmp rfl)) rfl rfl ?_
          refine op_pure (pu_quo (OT.tmp rfl) OT.const (by decide)) rfl rfl ?_
          refine op_pure (pu_assign (OT.tmp rfl)) rfl rfl ?_
          refine tr_nil ?_
          refine then_normal ?_
          exact tr_again (k / 10, UInt8.ofNat (48 + k % 10) :: s) ⟨dig_next hI hk0, by show k / 10 ≤ m; omega⟩ (by show k / 10 < k; omega) (es_append (es_cons (t := 4) (OT.val (OT.tmp rfl) (congrArg (Value.int _) (by rw [sgz_div]; exact sgz_wrap (by omega)))) (es_cons (t := 3) (OT.val (OT.tmp rfl) (congrArg Value.string (congrArg bs (show unnum [IntKind.u8.wrap (48 + ((k % 10 : Nat) : Int))] ++ s = _ by rw [dig_byte]; rfl)))) es_nil)) (es_cons (t := 0) (OT.tmp rfl) es_nil)) (own_picks (by exact picks_nil))
      · skip
        refine tr_exit ?_
        refine then_exit ?_
        refine then_exit ?_
        refine block_hit ?_
        refine then_normal ?_
        refine tr_seq ?_
        refine tr_seq ?_
        -- region 11
        refine tr_env (es_cons (t := 0) (OT.tmp rfl) (es_cons (t := 3) (OT.tmp rfl) es_nil)) ?_
        obtain rfl : k = 0 := by rcases Nat.eq_zero_or_pos k with h | h; exact h; (exfalso; revert c10; cases gg <;> simp [sgz] <;> omega)
        have he := dig_end hI
        have hsl := dig_len hI hm2
        refine tr_region ?_
        refine op_pure (pu_move (OT.tmp rfl)) rfl rfl ?_
        refine op_pure (pu_lss (OT.tmp rfl) OT.const) rfl rfl ?_
        refine tr_nil ?_
        refine then_normal ?_
        refine tr_cond (OT.tmp rfl) (fun c27 => ?_) (fun c27 => ?_)
        · skip
          have hr : [45] ++ s = Lib.itoa n := by rw [hit, ← hgg, c27, he]; rfl
          -- region 12
          refine tr_env (es_cons (t := 3) (OT.tmp rfl) es_nil) ?_
          refine tr_region ?_
          refine op_pure (pu_move (OT.tmp rfl)) rfl rfl ?_
          refine op_pure (pu_bs_add OT.const (OT.tmp rfl) (by (simp; omega))) rfl rfl ?_
          refine op_pure (pu_assign (OT.tmp rfl)) rfl rfl ?_
          refine tr_nil ?_
          refine then_normal ?_
          refine tr_seq ?_
          -- region 13
          refine tr_env (es_cons (t := 3) (OT.tmp rfl) es_nil) ?_
          refine tr_region ?_
          refine op_pure (pu_move (OT.tmp rfl)) rfl rfl ?_
          refine op_pure (pu_assign (OT.tmp rfl)) rfl rfl ?_
          refine tr_nil ?_
          refine then_normal ?_
          refine tr_ret ?_
          exact ret_one .ret (.inl rfl) rfl () (OT.val (OT.tmp rfl) (congrArg Value.string (congrArg bs (hr)))) trivial (by exact picks_nil)
        · skip
          have hr : s = Lib.itoa n := by rw [hit, ← hgg, c27, he]; rfl
          refine tr_skip ?_
          refine then_normal ?_
          refine tr_seq ?_
          -- region 13
          refine tr_env (es_cons (t := 3) (OT.tmp rfl) es_nil) ?_
          refine tr_region ?_
          refine op_pure (pu_move (OT.tmp rfl)) rfl rfl ?_
          refine op_pure (pu_assign (OT.tmp rfl)) rfl rfl ?_
          refine tr_nil ?_
          refine then_normal ?_
          refine tr_ret ?_
          exact ret_one .ret (.inl rfl) rfl () (OT.val (OT.tmp rfl) (congrArg Value.string (congrArg bs (hr)))) trivial (by exact picks_nil)
end Go.Proofs.YtdlendioamiagaaDoor
/- Walks through the Go functions rhizomeref02.Show, rhizomeref02.Bytes, as typed contracts. -/
namespace Go.Proofs.YtdlendioamiagaaDoor
open Go Go.Gw Go.Vl
set_option linter.unusedVariables false
set_option linter.unusedSimpArgs false
set_option maxRecDepth 20000 in
/-- rhizome/rhizomeref02.Bytes -/
theorem rBytes_fn (n : Nat) (hr : isRune (n : Int)) : Ct Tryd.prog 20 [I64 (n : Int)] ([]) Unit (fun _ => BsT (enc (n : Int))) (fun _ => []) (fun _ => True) := by
  refine fn_intro Tryd.func20 rfl rfl ?_
  intro H w
  refine tr_seq ?_
  -- region 0
  refine tr_env (es_cons (t := 0) (OT.tmp rfl) es_nil) ?_
  refine tr_region ?_
  refine op_pure (pu_assign OT.const) rfl rfl ?_
  refine tr_nil ?_
  refine then_normal ?_
  refine tr_seq ?_
  refine tr_seq ?_
  -- region 1
  refine tr_env (es_cons (t := 0) (OT.tmp rfl) es_nil) ?_
  refine tr_region ?_
  refine op_pure (pu_move (OT.tmp rfl)) rfl rfl ?_
  refine op_pure (pu_lss (OT.tmp rfl) OT.const) rfl rfl ?_
  refine tr_nil ?_
  refine then_normal ?_
  refine tr_cond (OT.tmp rfl) (fun c4 => ?_) (fun c4 => ?_)
  · skip
    have h4 := of_decide_eq_true c4
    refine tr_seq ?_
    -- region 2
    refine tr_env (es_cons (t := 0) (OT.tmp rfl) es_nil) ?_
    refine tr_region ?_
    refine op_pure (pu_move (OT.tmp rfl)) rfl rfl ?_
    refine op_pure (pu_convert (OT.tmp rfl) Tryd.underlying3 Tryd.underlying5) rfl rfl ?_
    refine op_acts (acts_lit (d := (kint .u8)) (v0 := 0) (show slTy Tryd.prog 26 5 1 1 = true from by decide +kernel) (show tyOk Tryd.prog 5 false 1 = true from by decide +kernel) z5 (show 1 * 1 ≤ 16777216 from by decide) (by decide) (fills_arr rfl rfl (by decide) (OT.tmp rfl) fills_nil)) (List.Perm.refl _) rfl rfl (fun _ _ => ?_)
    refine op_pure (pu_bytes_bs (OT.tmp rfl) Tryd.underlying26 Tryd.underlying5 Tryd.underlying9) rfl rfl ?_
    refine op_pure (pu_assign (OT.tmp rfl)) rfl rfl ?_
    refine tr_nil ?_
    refine then_normal ?_
    refine tr_ret ?_
    refine then_ret ?_
    exact ret_one .ret (.inl rfl) rfl () (OT.val (OT.tmp rfl) (congrArg Value.string (congrArg bs (by1 (by omega) (by omega))))) trivial (by exact picks_nil)
  · skip
    have h4 := of_decide_eq_false c4
    refine tr_skip ?_
    refine then_normal ?_
    refine tr_seq ?_
    refine tr_seq ?_
    -- region 3
    refine tr_env (es_cons (t := 0) (OT.tmp rfl) es_nil) ?_
    refine tr_region ?_
    refine op_pure (pu_move (OT.tmp rfl)) rfl rfl ?_
    refine op_pure (pu_lss (OT.tmp rfl) OT.const) rfl rfl ?_
    refine tr_nil ?_
    refine then_normal ?_
    refine tr_cond (OT.tmp rfl) (fun c10 => ?_) (fun c10 => ?_)
    · skip
      have h10 := of_decide_eq_true c10
      refine tr_seq ?_
      -- region 4
      refine tr_env (es_cons (t := 0) (OT.tmp rfl) es_nil) ?_
      refine tr_region ?_
      refine op_pure (pu_move (OT.tmp rfl)) rfl rfl ?_
      refine op_pure (pu_quo' (OT.tmp rfl) OT.const (by omega) (by omega)) rfl rfl ?_
      refine op_pure (pu_add' OT.const (OT.tmp rfl) (by omega)) rfl rfl ?_
      refine op_pure (pu_convert (OT.tmp rfl) Tryd.underlying3 Tryd.underlying5) rfl rfl ?_
      refine op_pure (pu_move (OT.tmp rfl)) rfl rfl ?_
      refine op_pure (pu_rem' (OT.tmp rfl) OT.const (by omega) (by omega)) rfl rfl ?_
      refine op_pure (pu_add' OT.const (OT.tmp rfl) (by omega)) rfl rfl ?_
      refine op_pure (pu_convert (OT.tmp rfl) Tryd.underlying3 Tryd.underlying5) rfl rfl ?_
      refine op_acts (acts_lit (d := (kint .u8)) (v0 := 0) (show slTy Tryd.prog 26 5 1 1 = true from by decide +kernel) (show tyOk Tryd.prog 5 false 1 = true from by decide +kernel) z5 (show 2 * 1 ≤ 16777216 from by decide) (by decide) (fills_arr rfl rfl (by decide) (OT.tmp rfl) (fills_arr rfl rfl (by decide) (OT.tmp rfl) fills_nil))) (List.Perm.refl _) rfl rfl (fun _ _ => ?_)
      refine op_pure (pu_bytes_bs (OT.tmp rfl) Tryd.underlying26 Tryd.underlying5 Tryd.underlying9) rfl rfl ?_
      refine op_pure (pu_assign (OT.tmp rfl)) rfl rfl ?_
      refine tr_nil ?_
      refine then_normal ?_
      refine tr_ret ?_
      refine then_ret ?_
      exact ret_one .ret (.inl rfl) rfl () (OT.val (OT.tmp rfl) (congrArg Value.string (congrArg bs (by2 (by omega) (by omega))))) trivial (by exact picks_nil)
    · skip
      have h10 := of_decide_eq_false c10
      refine tr_skip ?_
      refine then_normal ?_
      refine tr_seq ?_
      refine tr_seq ?_
      -- region 5
      refine tr_env (es_cons (t := 0) (OT.tmp rfl) es_nil) ?_
      refine tr_region ?_
      refine op_pure (pu_move (OT.tmp rfl)) rfl rfl ?_
      refine op_pure (pu_lss (OT.tmp rfl) OT.const) rfl rfl ?_
      refine tr_nil ?_
      refine then_normal ?_
      refine tr_cond (OT.tmp rfl) (fun c22 => ?_) (fun c22 => ?_)
      · skip
        have h22 := of_decide_eq_true c22
        refine tr_seq ?_
        -- region 6
        refine tr_env (es_cons (t := 0) (OT.tmp rfl) es_nil) ?_
        refine tr_region ?_
        refine op_pure (pu_move (OT.tmp rfl)) rfl rfl ?_
        refine op_pure (pu_quo' (OT.tmp rfl) OT.const (by omega) (by omega)) rfl rfl ?_
        refine op_pure (pu_add' OT.const (OT.tmp rfl) (by omega)) rfl rfl ?_
        refine op_pure (pu_convert (OT.tmp rfl) Tryd.underlying3 Tryd.underlying5) rfl rfl ?_
        refine op_pure (pu_move (OT.tmp rfl)) rfl rfl ?_
        refine op_pure (pu_quo' (OT.tmp rfl) OT.const (by omega) (by omega)) rfl rfl ?_
        refine op_pure (pu_rem' (OT.tmp rfl) OT.const (by omega) (by omega)) rfl rfl ?_
        refine op_pure (pu_add' OT.const (OT.tmp rfl) (by omega)) rfl rfl ?_
        refine op_pure (pu_convert (OT.tmp rfl) Tryd.underlying3 Tryd.underlying5) rfl rfl ?_
        refine op_pure (pu_move (OT.tmp rfl)) rfl rfl ?_
        refine op_pure (pu_rem' (OT.tmp rfl) OT.const (by omega) (by omega)) rfl rfl ?_
        refine op_pure (pu_add' OT.const (OT.tmp rfl) (by omega)) rfl rfl ?_
        refine op_pure (pu_convert (OT.tmp rfl) Tryd.underlying3 Tryd.underlying5) rfl rfl ?_
        refine op_acts (acts_lit (d := (kint .u8)) (v0 := 0) (show slTy Tryd.prog 26 5 1 1 = true from by decide +kernel) (show tyOk Tryd.prog 5 false 1 = true from by decide +kernel) z5 (show 3 * 1 ≤ 16777216 from by decide) (by decide) (fills_arr rfl rfl (by decide) (OT.tmp rfl) (fills_arr rfl rfl (by decide) (OT.tmp rfl) (fills_arr rfl rfl (by decide) (OT.tmp rfl) fills_nil)))) (List.Perm.refl _) rfl rfl (fun _ _ => ?_)
        refine op_pure (pu_bytes_bs (OT.tmp rfl) Tryd.underlying26 Tryd.underlying5 Tryd.underlying9) rfl rfl ?_
        refine op_pure (pu_assign (OT.tmp rfl)) rfl rfl ?_
        refine tr_nil ?_
        refine then_normal ?_
        refine tr_ret ?_
        refine then_ret ?_
        exact ret_one .ret (.inl rfl) rfl () (OT.val (OT.tmp rfl) (congrArg Value.string (congrArg bs (by3 hr (by omega) (by omega))))) trivial (by exact picks_nil)
      · skip
        have h22 := of_decide_eq_false c22
        refine tr_skip ?_
        refine then_normal ?_
        refine tr_seq ?_
        -- region 7
        refine tr_env (es_cons (t := 0) (OT.tmp rfl) es_nil) ?_
        refine tr_region ?_
        refine op_pure (pu_move (OT.tmp rfl)) rfl rfl ?_
        refine op_pure (pu_quo' (OT.tmp rfl) OT.const (by omega) (by omega)) rfl rfl ?_
        refine op_pure (pu_add' OT.const (OT.tmp rfl) (by omega)) rfl rfl ?_
        refine op_pure (pu_convert (OT.tmp rfl) Tryd.underlying3 Tryd.underlying5) rfl rfl ?_
        refine op_pure (pu_move (OT.tmp rfl)) rfl rfl ?_
        refine op_pure (pu_quo' (OT.tmp rfl) OT.const (by omega) (by omega)) rfl rfl ?_
        refine op_pure (pu_rem' (OT.tmp rfl) OT.const (by omega) (by omega)) rfl rfl ?_
        refine op_pure (pu_add' OT.const (OT.tmp rfl) (by omega)) rfl rfl ?_
        refine op_pure (pu_convert (OT.tmp rfl) Tryd.underlying3 Tryd.underlying5) rfl rfl ?_
        refine op_pure (pu_move (OT.tmp rfl)) rfl rfl ?_
        refine op_pure (pu_quo' (OT.tmp rfl) OT.const (by omega) (by omega)) rfl rfl ?_
        refine op_pure (pu_rem' (OT.tmp rfl) OT.const (by omega) (by omega)) rfl rfl ?_
        refine op_pure (pu_add' OT.const (OT.tmp rfl) (by omega)) rfl rfl ?_
        refine op_pure (pu_convert (OT.tmp rfl) Tryd.underlying3 Tryd.underlying5) rfl rfl ?_
        refine op_pure (pu_move (OT.tmp rfl)) rfl rfl ?_
        refine op_pure (pu_rem' (OT.tmp rfl) OT.const (by omega) (by omega)) rfl rfl ?_
        refine op_pure (pu_add' OT.const (OT.tmp rfl) (by omega)) rfl rfl ?_
        refine op_pure (pu_convert (OT.tmp rfl) Tryd.underlying3 Tryd.underlying5) rfl rfl ?_
        refine op_acts (acts_lit (d := (kint .u8)) (v0 := 0) (show slTy Tryd.prog 26 5 1 1 = true from by decide +kernel) (show tyOk Tryd.prog 5 false 1 = true from by decide +kernel) z5 (show 4 * 1 ≤ 16777216 from by decide) (by decide) (fills_arr rfl rfl (by decide) (OT.tmp rfl) (fills_arr rfl rfl (by decide) (OT.tmp rfl) (fills_arr rfl rfl (by decide) (OT.tmp rfl) (fills_arr rfl rfl (by decide) (OT.tmp rfl) fills_nil))))) (List.Perm.refl _) rfl rfl (fun _ _ => ?_)
        refine op_pure (pu_bytes_bs (OT.tmp rfl) Tryd.underlying26 Tryd.underlying5 Tryd.underlying9) rfl rfl ?_
        refine op_pure (pu_assign (OT.tmp rfl)) rfl rfl ?_
        refine tr_nil ?_
        refine then_normal ?_
        refine tr_ret ?_
        exact ret_one .ret (.inl rfl) rfl () (OT.val (OT.tmp rfl) (congrArg Value.string (congrArg bs (by4 (by omega) (by omega))))) trivial (by exact picks_nil)
end Go.Proofs.YtdlendioamiagaaDoor
/- Values of properties, plain: the document's examples. -/
namespace Go.Proofs.YtdlendioamiagaaDoor
open Go Go.Gw Go.Vl Go.Lib
set_option linter.unusedVariables false
set_option linter.unusedSimpArgs false
theorem aw1 : encR (1, 64, []) = [1, 128, 1] ∧ checkV (1, 64, []) = 0 := by
  have h0 : checkV (1, 64, []) = 0 := rfl
  refine ⟨?_, h0⟩
  rw [encR_ok h0]
  show 1 :: varint (zig 64) = _
  rw [show zig 64 = 128 from rfl, varint_big (by decide), show 128 / 128 = 1 from rfl, varint_small (by decide)]
  rfl
theorem rune1 {b : UInt8} {l : List UInt8} (h : b.toNat < 128) : rune (b :: l) = (b.toNat, 1) := decodeL_ascii b l h
theorem aw2 : showR (2, 0, [7, 34]) = [34, 92, 117, 123, 55, 125, 92, 34, 34] ∧ checkV (2, 0, [7, 34]) = 0 := by
  have hv : validD [7, 34] = true := by rw [validD_cons _ _ (by decide), validD_cons _ _ (by decide)]; rfl
  have h0 : checkV (2, 0, [7, 34]) = 0 := by unfold checkV; simp [hv]
  refine ⟨?_, h0⟩
  rw [showR_ok h0]
  show 34 :: showT [7, 34] ++ [34] = _
  rw [showT_step (by decide), rune1 (by decide)]
  show 34 :: (showC 7 ++ showT [34]) ++ [34] = _
  rw [showT_step (by decide), rune1 (by decide)]
  show 34 :: (showC 7 ++ (showC 34 ++ showT [])) ++ [34] = _
  rw [showT_nil]
  have h7 : showC 7 = [92, 117, 123] ++ hexL 7 ++ [125] := rfl
  rw [h7, hex_one (by decide)]
  rfl
theorem aw3 : parseR [34, 92, 117, 123, 48, 48, 52, 49, 125, 34] = ((2, 0, [65]), 0) := by
  have ht : textR [92, 117, 123, 48, 48, 52, 49, 125] = ([65], true) := by
    have hb : badT [92, 117, 123, 48, 48, 52, 49, 125] = false := by unfold badT badR; rw [rune1 (by decide)]; rfl
    have he : escP [117, 123, 48, 48, 52, 49, 125] = some (65, []) := by decide
    have h92 : (rune [92, 117, 123, 48, 48, 52, 49, 125]).1 = 92 := by rw [rune1 (by decide)]; rfl
    obtain ⟨_, h⟩ := textP_esc (l := [92, 117, 123, 48, 48, 52, 49, 125]) (by decide) hb h92 he
    rw [textP_nil] at h
    exact textR_some h
  have hv : checkV (2, 0, [65]) = 0 := by
    have hv : validD [65] = true := by rw [validD_cons _ _ (by decide)]; rfl
    unfold checkV; simp [hv]
  refine parseR_some ?_
  unfold parseV
  rw [if_neg (by decide), if_neg (by decide), if_pos (by decide)]
  have hi : innerL [34, 92, 117, 123, 48, 48, 52, 49, 125, 34] = [92, 117, 123, 48, 48, 52, 49, 125] := by decide
  rw [hi, ht, if_pos (by rw [hv]; rfl)]
theorem aw4 : parseR [45, 48] = ((0, 0, []), 6) := by
  refine parseR_none ?_
  unfold parseV
  rw [if_neg (by decide), if_neg (by decide), if_neg (by decide), if_neg]
  intro h
  rw [Bool.and_eq_true, decide_eq_true_eq] at h
  have h1 : atoiV [45, 48] = 0 := rfl
  rw [h1, show (0 : Int) = ((0 : Nat) : Int) from rfl, itoa_nonneg, decDigits_one (by decide)] at h
  exact absurd h.2 (by decide)
end Go.Proofs.YtdlendioamiagaaDoor
/- Walks through the Go functions rhizomelaw02.awake, rhizomelaw02.ValChecks, as typed contracts. -/
namespace Go.Proofs.YtdlendioamiagaaDoor
open Go Go.Gw Go.Vl
set_option linter.unusedVariables false
set_option linter.unusedSimpArgs false

set_option maxRecDepth 20000 in
/-- rhizome/rhizomelaw02.awake -/
theorem awake_fn {K0 : FH} {n0 : Nat} (hV : VarsV K0) : CtM K0 n0 Tryd.prog 11 [] ([]) Unit (fun _ => BoolT true) (fun _ => []) (fun _ => True) := by
  refine fn_introM Tryd.func11 rfl rfl ?_
  intro H w hK hn
  refine tr_seq ?_
  -- region 0
  refine tr_env es_nil ?_
  refine tr_region ?_
  refine op_pure (pu_assign OT.const) rfl rfl ?_
  refine tr_nil ?_
  refine then_normal ?_
  refine tr_seq ?_
  -- region 1
  refine tr_env es_nil ?_
  refine tr_region ?_
  refine op_pure (pu_build (d := kVl) (v0 := (0, 0, [])) (ps := [(0, 1), (1, 1), (2, 1)]) zVl (by kernel_rfl) rfl (fills_cons rfl lv0 OT.const (fills_cons rfl lv1 OT.const fills_nil))) rfl rfl ?_
  refine op_acts (acts_callM (Encode_fn (1, 64, []) hV (by decide) (by decide) (by decide)) (mk_in hK hn) (show enters Tryd.prog 13 = true from by decide +kernel) (OTs.cons (OT.tmp rfl) OTs.nil) (List.Perm.refl _)) (List.Perm.refl _) rfl rfl (fun _ _ => ?_)
  refine op_pure (pu_move (OT.tmp rfl)) rfl rfl ?_
  refine op_pure (pu_extract (OT.tmp rfl) rfl) rfl rfl ?_
  refine op_pure (pu_extract (OT.tmp rfl) rfl) rfl rfl ?_
  refine op_pure (pu_assign (OT.tmp rfl)) rfl rfl ?_
  refine op_pure (pu_assign (OT.tmp rfl)) rfl rfl ?_
  refine tr_nil ?_
  refine then_normal ?_
  refine tr_seq ?_
  -- region 2
  refine tr_env (es_cons (t := 1) (OT.tmp rfl) (es_cons (t := 2) (OT.tmp rfl) es_nil)) ?_
  refine tr_region ?_
  refine op_pure (pu_build (d := kVl) (v0 := (0, 0, [])) (ps := [(0, 1), (1, 1), (2, 1)]) zVl (by kernel_rfl) rfl (fills_cons rfl lv0 OT.const (fills_cons rfl lv2 OT.const fills_nil))) rfl rfl ?_
  refine op_acts (acts_callM (Show_fn (2, 0, [7, 34]) hV (by decide) (by decide) (by decide)) (mk_in hK hn) (show enters Tryd.prog 14 = true from by decide +kernel) (OTs.cons (OT.tmp rfl) OTs.nil) (List.Perm.refl _)) (List.Perm.refl _) rfl rfl (fun _ _ => ?_)
  refine op_pure (pu_move (OT.tmp rfl)) rfl rfl ?_
  refine op_pure (pu_extract (OT.tmp rfl) rfl) rfl rfl ?_
  refine op_pure (pu_extract (OT.tmp rfl) rfl) rfl rfl ?_
  refine op_pure (pu_assign (OT.tmp rfl)) rfl rfl ?_
  refine op_pure (pu_assign (OT.tmp rfl)) rfl rfl ?_
  refine tr_nil ?_
  refine then_normal ?_
  refine tr_seq ?_
  -- region 3
  refine tr_env (es_cons (t := 1) (OT.tmp rfl) (es_cons (t := 2) (OT.tmp rfl) (es_cons (t := 3) (OT.tmp rfl) (es_cons (t := 4) (OT.tmp rfl) es_nil)))) ?_
  refine tr_region ?_
  refine op_acts (acts_callM (Parse_fn _ hV (by decide)) (mk_in hK hn) (show enters Tryd.prog 18 = true from by decide +kernel) (OTs.cons OT.const OTs.nil) (List.Perm.refl _)) (List.Perm.refl _) rfl rfl (fun _ _ => ?_)
  refine op_pure (pu_move (OT.tmp rfl)) rfl rfl ?_
  refine op_pure (pu_extract (OT.tmp rfl) rfl) rfl rfl ?_
  refine op_pure (pu_extract (OT.tmp rfl) rfl) rfl rfl ?_
  refine op_acts (acts_alloc (zVl)) (List.Perm.refl _) rfl rfl (fun g3_4 _ => ?_)
  refine op_acts (acts_store_var (OT.tmp rfl) (OT.tmp rfl) (by exact perm_at 0 rfl) (show tyOk Tryd.prog 23 true 3 = true from by decide +kernel)) (by exact perm_at 0 rfl) rfl rfl (fun _ _ => ?_)
  refine op_pure (pu_assign (OT.tmp rfl)) rfl rfl ?_
  refine tr_nil ?_
  refine then_normal ?_
  refine tr_seq ?_
  -- region 4
  refine tr_env (es_cons (t := 1) (OT.tmp rfl) (es_cons (t := 2) (OT.tmp rfl) (es_cons (t := 3) (OT.tmp rfl) (es_cons (t := 4) (OT.tmp rfl) (es_cons (t := 5) (OT.tmp rfl) (es_cons (t := 6) (OT.tmp rfl) es_nil)))))) ?_
  refine tr_region ?_
  refine op_acts (acts_callM (Parse_fn _ hV (by decide)) (mk_in hK hn) (show enters Tryd.prog 18 = true from by decide +kernel) (OTs.cons OT.const OTs.nil) (List.Perm.refl _)) (List.Perm.refl _) rfl rfl (fun _ _ => ?_)
  refine op_pure (pu_move (OT.tmp rfl)) rfl rfl ?_
  refine op_pure (pu_extract (OT.tmp rfl) rfl) rfl rfl ?_
  refine op_pure (pu_extract (OT.tmp rfl) rfl) rfl rfl ?_
  refine op_acts (acts_alloc (zVl)) (List.Perm.refl _) rfl rfl (fun g4_4 _ => ?_)
  refine op_acts (acts_store_var (OT.tmp rfl) (OT.tmp rfl) (by exact perm_at 0 rfl) (show tyOk Tryd.prog 23 true 3 = true from by decide +kernel)) (by exact perm_at 0 rfl) rfl rfl (fun _ _ => ?_)
  refine op_pure (pu_assign (OT.tmp rfl)) rfl rfl ?_
  refine tr_nil ?_
  refine then_normal ?_
  refine tr_seq ?_
  -- region 5
  refine tr_env (es_cons (t := 1) (OT.tmp rfl) (es_cons (t := 2) (OT.tmp rfl) (es_cons (t := 3) (OT.tmp rfl) (es_cons (t := 4) (OT.tmp rfl) (es_cons (t := 5) (OT.tmp rfl) (es_cons (t := 6) (OT.tmp rfl) (es_cons (t := 8) (OT.tmp rfl) es_nil))))))) ?_
  refine tr_region ?_
  refine op_pure (pu_move (OT.tmp rfl)) rfl rfl ?_
  refine op_pure (pu_eql (OT.tmp rfl) OT.const) rfl rfl ?_
  refine op_pure (pu_move (OT.tmp rfl)) rfl rfl ?_
  refine op_gu rfl rfl rfl (OT.gu_mk (OT.tmp rfl)) (fun hg => by (have hg1 := hg.2; (try simp only [decide_eq_true_eq, decide_eq_false_iff_not] at hg1); exact pu_move (by exact OT.tmp rfl))) rfl ?_
  refine op_gu rfl rfl rfl (OT.gu_mk (OT.tmp rfl)) (fun hg => by (have hg1 := hg.2; (try simp only [decide_eq_true_eq, decide_eq_false_iff_not] at hg1); exact pu_bytes_bs (by exact OT.gu (OT.tmp rfl) hg) Tryd.underlying26 Tryd.underlying5 Tryd.underlying9)) rfl ?_
  refine op_gu rfl rfl rfl (OT.gu_mk (OT.tmp rfl)) (fun hg => by (have hg1 := hg.2; (try simp only [decide_eq_true_eq, decide_eq_false_iff_not] at hg1); exact pu_bs_eql (by exact OT.gu (OT.tmp rfl) hg) OT.const)) rfl ?_
  refine op_pure (pu_pick_and (OT.tmp rfl) (by exact OT.tmp rfl)) rfl rfl ?_
  refine op_pure (pu_move (OT.tmp rfl)) rfl rfl ?_
  refine op_gu rfl rfl rfl (OT.gu_mk (OT.tmp rfl)) (fun hg => by (have hg1 := hg.2; (try simp only [decide_eq_true_eq, decide_eq_false_iff_not] at hg1); exact pu_move (by exact OT.tmp rfl))) rfl ?_
  refine op_gu rfl rfl rfl (OT.gu_mk (OT.tmp rfl)) (fun hg => by (have hg1 := hg.2; (try simp only [decide_eq_true_eq, decide_eq_false_iff_not] at hg1); exact pu_eql (by exact OT.gu (OT.tmp rfl) hg) OT.const)) rfl ?_
  refine op_pure (pu_pick_and (OT.tmp rfl) (by exact OT.tmp rfl)) rfl rfl ?_
  refine op_pure (pu_move (OT.tmp rfl)) rfl rfl ?_
  refine op_gu rfl rfl rfl (OT.gu_mk (OT.tmp rfl)) (fun hg => by (have hg1 := hg.2; (try simp only [decide_eq_true_eq, decide_eq_false_iff_not] at hg1); exact pu_move (by exact OT.tmp rfl))) rfl ?_
  refine op_gu rfl rfl rfl (OT.gu_mk (OT.tmp rfl)) (fun hg => by (have hg1 := hg.2; (try simp only [decide_eq_true_eq, decide_eq_false_iff_not] at hg1); exact pu_bs_eql (by exact OT.gu (OT.tmp rfl) hg) OT.const)) rfl ?_
  refine op_pure (pu_pick_and (OT.tmp rfl) (by exact OT.tmp rfl)) rfl rfl ?_
  refine op_pure (pu_move (OT.tmp rfl)) rfl rfl ?_
  refine op_gu rfl rfl rfl (OT.gu_mk (OT.tmp rfl)) (fun hg => by (have hg1 := hg.2; (try simp only [decide_eq_true_eq, decide_eq_false_iff_not] at hg1); exact pu_move (by exact OT.tmp rfl))) rfl ?_
  refine op_gu rfl rfl rfl (OT.gu_mk (OT.tmp rfl)) (fun hg => by (have hg1 := hg.2; (try simp only [decide_eq_true_eq, decide_eq_false_iff_not] at hg1); exact pu_eql (by exact OT.gu (OT.tmp rfl) hg) OT.const)) rfl ?_
  refine op_pure (pu_pick_and (OT.tmp rfl) (by exact OT.tmp rfl)) rfl rfl ?_
  refine op_pure (pu_move (OT.tmp rfl)) rfl rfl ?_
  refine op_gu rfl rfl rfl (OT.gu_mk (OT.tmp rfl)) (fun hg => by (have hg1 := hg.2; (try simp only [decide_eq_true_eq, decide_eq_false_iff_not] at hg1); exact pu_faddr (by exact OT.tmp rfl) (show fieldOk Tryd.prog 23 2 2 false 1 = true from by decide +kernel))) rfl ?_
  refine op_gu rfl rfl rfl (OT.gu_mk (OT.tmp rfl)) (fun hg => by (have hg1 := hg.2; (try simp only [decide_eq_true_eq, decide_eq_false_iff_not] at hg1); exact pu_load_blk (by exact OT.gu (OT.tmp rfl) hg) (by exact mem_at 1 rfl) lv2 (show tyOk Tryd.prog 9 false 1 = true from by decide +kernel))) rfl ?_
  refine op_gu rfl rfl rfl (OT.gu_mk (OT.tmp rfl)) (fun hg => by (have hg1 := hg.2; (try simp only [decide_eq_true_eq, decide_eq_false_iff_not] at hg1); exact pu_bs_eql (by exact OT.gu (OT.tmp rfl) hg) OT.const)) rfl ?_
  refine op_pure (pu_pick_and (OT.tmp rfl) (by exact OT.tmp rfl)) rfl rfl ?_
  refine op_pure (pu_move (OT.tmp rfl)) rfl rfl ?_
  refine op_gu rfl rfl rfl (OT.gu_mk (OT.tmp rfl)) (fun hg => by (have hg1 := hg.2; (try simp only [decide_eq_true_eq, decide_eq_false_iff_not] at hg1); exact pu_move (by exact OT.tmp rfl))) rfl ?_
  refine op_gu rfl rfl rfl (OT.gu_mk (OT.tmp rfl)) (fun hg => by (have hg1 := hg.2; (try simp only [decide_eq_true_eq, decide_eq_false_iff_not] at hg1); exact pu_eql (by exact OT.gu (OT.tmp rfl) hg) OT.const)) rfl ?_
  refine op_pure (pu_pick_and (OT.tmp rfl) (by exact OT.tmp rfl)) rfl rfl ?_
  refine op_pure (pu_assign (OT.tmp rfl)) rfl rfl ?_
  refine tr_nil ?_
  refine then_normal ?_
  refine tr_ret ?_
  exact ret_one .ret (.inl rfl) rfl () (OT.val (OT.tmp rfl) (congrArg Value.bool (by rw [unnum_nums, aw1.1, aw1.2, aw2.1, aw2.2, aw3, aw4]; rfl))) trivial (by exact picks_nil)
end Go.Proofs.YtdlendioamiagaaDoor
/- Values of properties, plain: the first runes of a text. -/
namespace Go.Vl
open Go Go.Gw Go.Lib
set_option linter.unusedVariables false
set_option linter.unusedSimpArgs false
end Go.Vl
/- Values compared by '=='; their order, plain. -/
namespace Go.Proofs.YtdlendioamiagaaDoor
open Go Go.Gw Go.Vl
set_option linter.unusedVariables false
set_option linter.unusedSimpArgs false
theorem aggV {H : FH} {t : Vl} {a : Value} (h : (kVl.T t).p H a) : a = .agg #[.int .i64 t.1, .int .i64 t.2.1, .string (bs t.2.2)] := by
  obtain ⟨cs, ⟨c1, c2, h1, ⟨c3, c4, h3, h4, rfl⟩, rfl⟩, rfl⟩ := h
  have e1 : c1 = [Value.int .i64 t.1] := h1
  have e3 : c3 = [Value.int .i64 t.2.1] := h3
  have e4 : c4 = [Value.string (bs t.2.2)] := h4
  subst e1 e3 e4
  rfl
abbrev vv (t : Vl) : Array Value := #[.int .i64 t.1, .int .i64 t.2.1, .string (bs t.2.2)]
theorem run_equalVd (w : World) (d : Nat) (u v : Vl) : (Op.equalIn (d + 1 + 1) 23 (.agg (vv u)) (.agg (vv v))).run Tryd.prog w = .ok (decide (u = v)) w := by
  have hf : Tryd.prog.underlying 23 = some (.struct (Tryd.prog.fieldsOf 23)) := by unfold Program.fieldsOf; rw [Tryd.underlying23]
  have hp : Tryd.prog.stoodInHeld 23 = false := by decide +kernel
  rw [run_equalIn_agg w (d + 1) 23 _ _ hf hp]
  clear hf
  simp only [Program.fieldsOf, Tryd.underlying23]
  have k9 : Tryd.prog.plainKey 9 = true := by decide +kernel
  have k3 : Tryd.prog.plainKey 3 = true := by decide +kernel
  have u9 : Tryd.prog.underlying 9 = some .string := Tryd.underlying9
  have u3 : Tryd.prog.underlying 3 = some (.int .i64) := Tryd.underlying3
  have p0 : ∀ t : Vl, (part 3 (vv t) 0).run Tryd.prog w = .ok (.int .i64 t.1) w := fun t => run_part_plain w k3 rfl
  have p1 : ∀ t : Vl, (part 3 (vv t) 1).run Tryd.prog w = .ok (.int .i64 t.2.1) w := fun t => run_part_plain w k3 rfl
  have p2 : ∀ t : Vl, (part 9 (vv t) 2).run Tryd.prog w = .ok (.string (bs t.2.2)) w := fun t => run_part_plain w k9 rfl
  have e3 : ∀ (a b : Int), (Op.equalIn (d + 1) 3 (.int .i64 a) (.int .i64 b)).run Tryd.prog w = .ok (a == b) w := fun a b => run_equalIn_int w d 3 .i64 .i64 a b u3
  have e9 : ∀ (a b : List UInt8), (Op.equalIn (d + 1) 9 (.string (bs a)) (.string (bs b))).run Tryd.prog w = .ok (decide (a = b)) w := fun a b => by rw [run_equalIn_string w d 9 _ _ u9, beq_bs]
  obtain ⟨u0, u1, u2⟩ := u
  obtain ⟨v0, v1, v2⟩ := v
  simp only [Op.eqFields, show ("Kind" ≠ "_") from by decide, show ("Int" ≠ "_") from by decide, show ("Text" ≠ "_") from by decide, if_true, ne_eq, not_false_eq_true, Sem.run_bind, p0, p1, p2, e3, e9, Result.andThen_ok]
  by_cases h0 : u0 = v0
  · by_cases h1 : u1 = v1
    · by_cases h2 : u2 = v2 <;> simp [h0, h1, h2, p1, p2, e3, e9, Op.eqFields]
    · simp [h0, h1, p1, e3]
  · simp [h0]
theorem eqVl : EqOk Tryd.prog 23 kVl := fun H w u v a b x y ha hb => by
  rw [aggV ha, aggV hb]
  have hg : Tryd.prog.eqGuardType Tryd.prog.depth 23 = false := by decide +kernel
  refine ⟨run_eqGuard_agg w .eql 23 x y _ _ hg, run_eqGuard_agg w .neq 23 x y _ _ hg, ?_, ?_⟩
  · rw [run_eql_struct w 23, show (Op.equalIn 10000 23 (.agg (vv u)) (.agg (vv v))).run Tryd.prog w = _ from run_equalVd w 9998 u v]; rfl
  · rw [run_neq_struct w 23, show (Op.equalIn 10000 23 (.agg (vv u)) (.agg (vv v))).run Tryd.prog w = _ from run_equalVd w 9998 u v]; rfl
end Go.Proofs.YtdlendioamiagaaDoor
namespace Go.Vl
open Go Go.Gw Go.Lib
/-! ### The order of texts -/
/-! ### The order of values -/
end Go.Vl
/- Values of properties, plain: texts dressed with escapes are read back. -/
namespace Go.Vl
open Go Go.Gw Go.Lib
set_option linter.unusedVariables false
set_option linter.unusedSimpArgs false
theorem badT_of {l : List UInt8} {c w : Nat} (h : rune l = (c, w)) : badT l = (decide (c = 34) || decide (c < 32) || decide (c = 127) || decide (c = 65533 ∧ w = 1)) := by
  unfold badT badR; rw [h]
theorem index_at (c : UInt8) : ∀ (h r : List UInt8), c ∉ h → index (h ++ c :: r) [c] = h.length
  | [], r, _ => by
    rw [List.nil_append, index]; simp
  | b :: h, r, hn => by
    have h1 : c ≠ b := fun e => hn (e ▸ List.mem_cons_self)
    have h2 := index_at c h r fun e => hn (List.mem_cons_of_mem _ e)
    rw [List.cons_append, index, h2]
    have e1 : ([c].isPrefixOf (b :: (h ++ c :: r))) = false := by simp [List.isPrefixOf, h1]
    rw [e1]
    simp
theorem cut_at {c : UInt8} {h : List UInt8} (r : List UInt8) (hn : c ∉ h) : cut (h ++ c :: r) [c] = (h, r, true) := by
  unfold cut
  rw [index_at c h r hn, if_pos (by omega)]
  refine Prod.ext ?_ (Prod.ext ?_ rfl)
  · show List.take _ _ = _; simp
  · show List.drop _ _ = _
    rw [show ((h.length : Int)).toNat + [c].length = (h ++ [c]).length from by simp, show h ++ c :: r = (h ++ [c]) ++ r from by simp, List.drop_left]
theorem escU_hex {h : List UInt8} {n : Nat} (r : List UInt8) (h1 : 1 ≤ h.length) (h6 : h.length ≤ 6) (hn : (125 : UInt8) ∉ h) (hx : hexF 0 h = some n) (hr : isRune (n : Int)) : escU (117 :: 123 :: (h ++ 125 :: r)) = some (n, r) := by
  have hp : hasPrefix (117 :: 123 :: (h ++ 125 :: r)) [117, 123] = true := by simp [hasPrefix, List.isPrefixOf]
  have ht : trimPrefix (117 :: 123 :: (h ++ 125 :: r)) [117, 123] = h ++ 125 :: r := by unfold trimPrefix; rw [if_pos hp]; rfl
  have hb : braces (117 :: 123 :: (h ++ 125 :: r)) = (h, r, true) := by unfold braces; rw [ht, cut_at r hn]
  have hi : isRuneB n = true := by unfold isRuneB; unfold isRune at hr; exact decide_eq_true (by omega)
  unfold escU
  rw [hp, hb]
  have e1 : hexOf h = n := by unfold hexOf; rw [hx]; rfl
  simp [e1, hx, hi, h1, h6]
/-! ### hexadecimal digits of any case -/
theorem hexD_125 : hexD 125 = 99 := by decide
/-- Digits of a rune. -/
def HexOf (h : List UInt8) (n : Nat) : Prop := 1 ≤ h.length ∧ h.length ≤ 6 ∧ (125 : UInt8) ∉ h ∧ hexF 0 h = some n
/-! ### what is shown is read -/
theorem enc_asc {c : Nat} (h : c < 128) : enc (c : Int) = [UInt8.ofNat c] := by
  have e := enc_byte (b := UInt8.ofNat c) (by rw [UInt8.toNat_ofNat']; omega)
  rw [UInt8.toNat_ofNat', show c % 2 ^ 8 = c from by omega] at e
  exact e
end Go.Vl
/- Values of properties, plain: what is shown is parsed. -/
namespace Go.Proofs.YtdlendioamiagaaDoor
open Go Go.Gw Go.Vl Go.Lib
set_option linter.unusedVariables false
set_option linter.unusedSimpArgs false
/-! ### numbers -/
theorem pu_snoc {b : UInt8} (hb : 48 ≤ b.toNat ∧ b.toNat ≤ 57) : ∀ (l : List UInt8) (acc u : Nat), parseUint10 acc l = .ok u → u * 10 + (b.toNat - 48) ≤ 9223372036854775808 → parseUint10 acc (l ++ [b]) = .ok (u * 10 + (b.toNat - 48))
  | [], acc, u, h, hu => by
    injection h with h
    subst h
    rw [List.nil_append, parseUint10, if_pos hb, if_neg (by omega), if_neg (by omega), parseUint10]
  | c :: r, acc, u, h, hu => by
    rw [List.cons_append, parseUint10]
    rw [parseUint10] at h
    split at h
    · rename_i h1
      rw [if_pos h1]
      split at h
      · cases h
      · rename_i h2
        rw [if_neg h2]
        split at h
        · cases h
        · rename_i h3
          rw [if_neg h3]
          exact pu_snoc hb r _ u h hu
    · cases h
theorem dig_toNat {d : Nat} (h : d < 10) : (UInt8.ofNat (48 + d)).toNat = 48 + d := by rw [UInt8.toNat_ofNat']; omega
theorem dec_eq (k : Nat) : decDigits k = if k < 10 then [UInt8.ofNat (48 + k)] else decDigits (k / 10) ++ [UInt8.ofNat (48 + k % 10)] := by
  conv => lhs; rw [decDigits]
  split <;> rfl
theorem pu_dec (k : Nat) (hk : k ≤ 9223372036854775808) : parseUint10 0 (decDigits k) = .ok k := by
  induction k using Nat.strongRecOn with
  | ind k ih =>
    rw [dec_eq]
    by_cases h : k < 10
    · have e := dig_toNat h
      rw [if_pos h, parseUint10, e, if_pos (by omega), if_neg (by omega), if_neg (by omega), parseUint10]
      congr 1; omega
    · have e := dig_toNat (d := k % 10) (by omega)
      rw [if_neg h, pu_snoc (by omega) _ 0 (k / 10) (ih (k / 10) (by omega) (by omega)) (by omega), e]
      congr 1; omega
theorem dec_ne (k : Nat) : decDigits k ≠ [] := by
  rw [dec_eq]; split <;> simp
theorem dec_dig (k : Nat) : ∀ b ∈ decDigits k, 48 ≤ b.toNat ∧ b.toNat ≤ 57 := by
  induction k using Nat.strongRecOn with
  | ind k ih =>
    intro b hb
    rw [dec_eq] at hb
    split at hb
    · rename_i h
      rw [List.mem_singleton.1 hb, dig_toNat h]; omega
    · rename_i h
      rcases List.mem_append.1 hb with hb | hb
      · exact ih (k / 10) (by omega) b hb
      · rw [List.mem_singleton.1 hb, dig_toNat (d := k % 10) (by omega)]; omega
theorem itoa_cases (n : Int) : (0 ≤ n ∧ itoa n = decDigits n.natAbs) ∨ (n < 0 ∧ itoa n = 45 :: decDigits n.natAbs) := by
  by_cases h : n < 0
  · refine .inr ⟨h, ?_⟩
    have := itoa_neg n.natAbs (by omega)
    rw [← this, show -((n.natAbs : Nat) : Int) = n from by omega]
  · refine .inl ⟨by omega, ?_⟩
    have := itoa_nonneg n.natAbs
    rw [← this, show ((n.natAbs : Nat) : Int) = n from by omega]
theorem atoi_of_itoa {n : Int} (h0 : -9223372036854775808 ≤ n) (h1 : n ≤ 9223372036854775807) : atoiAll (itoa n) = .ok n := by
  have hp : parseMag (decDigits n.natAbs) = .ok n.natAbs := by
    unfold parseMag
    rw [if_neg (dec_ne _), pu_dec _ (by omega)]
  rcases itoa_cases n with ⟨hs, e⟩ | ⟨hs, e⟩
  · rw [e]
    cases hd : decDigits n.natAbs with
    | nil => exact absurd hd (dec_ne _)
    | cons c r =>
      have hc := dec_dig n.natAbs c (by rw [hd]; exact List.mem_cons_self)
      rw [atoiAll_plain c r (by omega) (by omega), ← hd, hp]
      simp only [signless]
      rw [if_neg (by omega)]
      congr 1; omega
  · rw [e, atoiAll_minus, hp]
    simp only [signed]
    rw [if_neg (by omega)]
    congr 1; omega
theorem itoa_head (n : Int) : ∃ c r, itoa n = c :: r ∧ (c.toNat = 45 ∨ (48 ≤ c.toNat ∧ c.toNat ≤ 57)) := by
  rcases itoa_cases n with ⟨hs, e⟩ | ⟨hs, e⟩
  · cases hd : decDigits n.natAbs with
    | nil => exact absurd hd (dec_ne _)
    | cons c r => exact ⟨c, r, by rw [e, hd], .inr (dec_dig n.natAbs c (by rw [hd]; exact List.mem_cons_self))⟩
  · exact ⟨45, _, e, .inl rfl⟩
theorem pfx_one (a c : UInt8) (r : List UInt8) : hasPrefix (c :: r) [a] = decide (a = c) := by
  show (a == c && ([] : List UInt8).isPrefixOf r) = _
  by_cases h : a = c <;> simp [h, List.isPrefixOf]
/-! ### texts -/
theorem inner_of (d : List UInt8) : quoted (34 :: (d ++ [34])) = true ∧ innerL (34 :: (d ++ [34])) = d := by
  have hp : hasPrefix (34 :: (d ++ [34])) [34] = true := by rw [pfx_one]; rfl
  have ht : trimPrefix (34 :: (d ++ [34])) [34] = d ++ [34] := by unfold trimPrefix; rw [if_pos hp]; rfl
  refine ⟨?_, ?_⟩
  · unfold quoted
    rw [hp, ht]
    unfold hasSuffix
    rw [Bool.true_and]
    exact List.isSuffixOf_iff_suffix.2 (List.suffix_append d [34])
  · unfold innerL
    rw [ht]; simp
end Go.Proofs.YtdlendioamiagaaDoor
/- Values of properties, plain: a text parsed as the document has it. -/
namespace Go.Vl
open Go Go.Gw Go.Lib
set_option linter.unusedVariables false
set_option linter.unusedSimpArgs false
/-! ### escapes -/
/-- At most so many digits: the number, how many. -/
def hrun : Nat → Nat → List UInt8 → Nat × Nat
  | 0, a, _ => (a, 0)
  | _ + 1, a, [] => (a, 0)
  | f + 1, a, b :: l => if hexD b < 16 then ((hrun f (a * 16 + hexD b) l).1, (hrun f (a * 16 + hexD b) l).2 + 1) else (a, 0)
theorem hrun_lt : ∀ (f a : Nat) (l : List UInt8), (hrun f a l).1 < (a + 1) * 16 ^ f ∧ (hrun f a l).2 ≤ f ∧ (hrun f a l).2 ≤ l.length
  | 0, a, l => by simp [hrun]
  | f + 1, a, [] => by
    simp only [hrun]
    refine ⟨?_, by omega, by omega⟩
    have : 1 ≤ 16 ^ (f + 1) := Nat.one_le_pow _ _ (by omega)
    have := Nat.mul_le_mul_left (a + 1) this
    omega
  | f + 1, a, b :: l => by
    rw [hrun]
    split
    · have h := hrun_lt f (a * 16 + hexD b) l
      have h2 : (a * 16 + hexD b + 1) * 16 ^ f ≤ (a + 1) * 16 * 16 ^ f := Nat.mul_le_mul_right _ (by omega)
      have h3 : (a + 1) * 16 * 16 ^ f = (a + 1) * 16 ^ (f + 1) := by rw [Nat.mul_assoc, Nat.pow_succ, Nat.mul_comm 16]
      simp only [List.length_cons]
      omega
    · refine ⟨?_, by simp, by simp⟩
      have : 1 ≤ 16 ^ (f + 1) := Nat.one_le_pow _ _ (by omega)
      have := Nat.mul_le_mul_left (a + 1) this
      show a < _
      omega
theorem hrun_says : ∀ (f a : Nat) (l : List UInt8), hexF a (l.take (hrun f a l).2) = some (hrun f a l).1
  | 0, a, l => by simp [hrun, hexF]
  | f + 1, a, [] => by simp [hrun, hexF]
  | f + 1, a, b :: l => by
    rw [hrun]
    split
    · rename_i h
      show hexF a (b :: l.take _) = _
      rw [hexF, if_pos h]
      exact hrun_says f (a * 16 + hexD b) l
    · simp [hexF]
theorem hrun_of : ∀ (h : List UInt8) (f a n : Nat) (r : List UInt8), hexF a h = some n → h.length ≤ f → hrun f a (h ++ 125 :: r) = (n, h.length)
  | [], f, a, n, r, hx, _ => by
    cases hx
    cases f with
    | zero => rfl
    | succ f => rw [List.nil_append, hrun, if_neg (by decide)]; rfl
  | b :: h, f, a, n, r, hx, hf => by
    rw [hexF] at hx
    split at hx
    · rename_i h1
      cases f with
      | zero => simp at hf
      | succ f =>
        rw [List.cons_append, hrun, if_pos h1, hrun_of h f _ n r hx (by simpa using hf)]
        rfl
    · cases hx
theorem hrun_dig : ∀ (f a : Nat) (l : List UInt8), ∀ b ∈ l.take (hrun f a l).2, hexD b < 16
  | 0, a, l => by simp [hrun]
  | f + 1, a, [] => by simp [hrun]
  | f + 1, a, b :: l => by
    rw [hrun]
    split
    · rename_i h
      intro c hc
      replace hc : c ∈ b :: l.take (hrun f (a * 16 + hexD b) l).2 := hc
      rcases List.mem_cons.1 hc with rfl | hc
      · exact h
      · exact hrun_dig f _ l c hc
    · simp
/-- The document's loop. -/
def HrAt (y : List UInt8) (j a : Nat) : Prop := j ≤ 6 ∧ j ≤ y.length ∧ a < 16 ^ j ∧ hrun 6 0 y = ((hrun (6 - j) a (y.drop j)).1, (hrun (6 - j) a (y.drop j)).2 + j)
theorem hrAt_0 (y : List UInt8) : HrAt y 0 0 := ⟨by omega, by omega, by decide, by simp⟩
theorem hrAt_next {y : List UInt8} {j a : Nat} (h : HrAt y j a) (h6 : j < 6) (hj : j < y.length) (hx : hexD y[j] < 16) : HrAt y (j + 1) (a * 16 + hexD y[j]) := by
  obtain ⟨_, _, h3, h4⟩ := h
  refine ⟨by omega, by omega, by rw [Nat.pow_succ]; omega, ?_⟩
  rw [h4, List.drop_eq_getElem_cons hj, show 6 - j = (6 - (j + 1)) + 1 from by omega, hrun, if_pos hx]
  refine Prod.ext rfl ?_
  show _ + 1 + j = _ + (j + 1)
  omega
theorem hrAt_end {y : List UInt8} {j a : Nat} (h : HrAt y j a) (he : ¬ (j < y.length ∧ j < 6 ∧ ∀ hj : j < y.length, hexD y[j] < 16)) : hrun 6 0 y = (a, j) := by
  obtain ⟨h1, h2, h3, h4⟩ := h
  have e : hrun (6 - j) a (y.drop j) = (a, 0) := by
    by_cases h6 : j < 6
    · rw [show 6 - j = (6 - (j + 1)) + 1 from by omega]
      by_cases hj : j < y.length
      · rw [List.drop_eq_getElem_cons hj, hrun, if_neg (fun h => he ⟨hj, h6, fun _ => h⟩)]
      · rw [List.drop_of_length_le (by omega)]; rfl
    · rw [show 6 - j = 0 from by omega]; rfl
  rw [h4, e]; simp
/-- An escape (behind its \): the rune, and how long it is with its \. -/
def refE : List UInt8 → Option (Nat × Nat)
  | [] => none
  | b :: r => if b.toNat = 34 ∨ b.toNat = 92 then some (b.toNat, 2) else if b.toNat = 110 then some (10, 2) else if b.toNat = 116 then some (9, 2) else if b.toNat ≠ 117 ∨ r.head?.map UInt8.toNat ≠ some 123 then none else if (hrun 6 0 (r.drop 1)).2 = 0 ∨ ((r.drop 1)[(hrun 6 0 (r.drop 1)).2]?).map UInt8.toNat ≠ some 125 ∨ ¬ isRune ((hrun 6 0 (r.drop 1)).1 : Int) then none else some ((hrun 6 0 (r.drop 1)).1, (hrun 6 0 (r.drop 1)).2 + 4)
theorem refE_cons (b : UInt8) (r : List UInt8) : refE (b :: r) = if b.toNat = 34 ∨ b.toNat = 92 then some (b.toNat, 2) else if b.toNat = 110 then some (10, 2) else if b.toNat = 116 then some (9, 2) else if b.toNat ≠ 117 ∨ r.head?.map UInt8.toNat ≠ some 123 then none else if (hrun 6 0 (r.drop 1)).2 = 0 ∨ ((r.drop 1)[(hrun 6 0 (r.drop 1)).2]?).map UInt8.toNat ≠ some 125 ∨ ¬ isRune ((hrun 6 0 (r.drop 1)).1 : Int) then none else some ((hrun 6 0 (r.drop 1)).1, (hrun 6 0 (r.drop 1)).2 + 4) := rfl
theorem u_of {b : UInt8} {k : Nat} (h : b.toNat = k) : b = UInt8.ofNat k := by rw [← h]; simp
/-- The long form. -/
def LongE (x : List UInt8) (n : Nat) (h r : List UInt8) : Prop := x = 117 :: 123 :: (h ++ 125 :: r) ∧ HexOf h n ∧ isRune (n : Int)
theorem escU_says {x r : List UInt8} {n : Nat} (h : escU x = some (n, r)) : ∃ d, LongE x n d r := by
  unfold escU at h
  split at h
  · rename_i hc
    simp only [Bool.and_eq_true, decide_eq_true_eq] at hc
    obtain ⟨⟨⟨⟨⟨h1, h2⟩, h3⟩, h4⟩, h5⟩, h6⟩ := hc
    obtain ⟨y, hy⟩ := List.isPrefixOf_iff_prefix.1 h1
    subst hy
    have ht : trimPrefix ([117, 123] ++ y) [117, 123] = y := by unfold trimPrefix; rw [if_pos h1]; rfl
    have hb : braces ([117, 123] ++ y) = cut y [125] := by unfold braces; rw [ht]
    rw [hb] at h h2 h3 h4 h5 h6
    cases h
    have h0 : 0 ≤ index y [125] := by
      unfold cut at h2
      split at h2
      · assumption
      · cases h2
    have hcut : cut y [125] = (y.take (index y [125]).toNat, y.drop ((index y [125]).toNat + 1), true) := by unfold cut; rw [if_pos h0]; rfl
    rcases index_spec y [125] with ⟨hi, _⟩ | ⟨i, hi, hil, ho, hno⟩
    · omega
    · rw [hi] at hcut
      have hr := (occAt_room ho).resolve_right (by simp)
      have hih : i < y.length := by
        have h9 : i + 1 ≤ y.length := by simpa using hr
        omega
      have hyi : y[i] = 125 := by
        have := occAt_head (c := 125) (t := []) rfl ho
        rw [List.getElem?_eq_getElem hih] at this
        exact Option.some.inj this
      have hn : (125 : UInt8) ∉ y.take i := fun hm => by
        obtain ⟨j, hj, he⟩ := List.getElem_of_mem hm
        have hj2 : j < i := by rw [List.length_take] at hj; omega
        rw [List.getElem_take] at he
        have := hno j hj2
        unfold occAt at this
        rw [List.drop_eq_getElem_cons (by omega), he] at this
        simp [List.isPrefixOf] at this
      rw [hcut] at h3 h4 h5 h6 ⊢
      replace h5 : (hexF 0 (y.take i)).isSome = true := h5
      obtain ⟨m, hm⟩ := Option.isSome_iff_exists.1 h5
      have e1 : hexOf (y.take i) = m := by unfold hexOf; rw [hm]; rfl
      refine ⟨y.take i, ?_, ⟨h3, h4, hn, by show _ = some (hexOf (y.take i)); rw [e1, hm]⟩, ?_⟩
      · show [117, 123] ++ y = 117 :: 123 :: (y.take i ++ 125 :: y.drop (i + 1))
        rw [← hyi, ← List.drop_eq_getElem_cons hih, List.take_append_drop]; rfl
      · have := of_decide_eq_true (show decide (hexOf (y.take i) < 55296 ∨ (57343 < hexOf (y.take i) ∧ hexOf (y.take i) ≤ 1114111)) = true from h6)
        show isRune ((hexOf (y.take i) : Nat) : Int)
        unfold isRune; omega
  · cases h
theorem escU_long {x d r : List UInt8} {n : Nat} (h : LongE x n d r) : escU x = some (n, r) := by
  obtain ⟨rfl, ⟨h1, h2, h3, h4⟩, h5⟩ := h
  exact escU_hex r h1 h2 h3 h4 h5
theorem refE_long {x d r : List UInt8} {n : Nat} (h : LongE x n d r) : refE x = some (n, d.length + 4) := by
  obtain ⟨rfl, ⟨h1, h2, h3, h4⟩, h5⟩ := h
  rw [refE_cons, if_neg (by decide), if_neg (by decide), if_neg (by decide), if_neg (by simp)]
  rw [show List.drop 1 (123 :: (d ++ 125 :: r)) = d ++ 125 :: r from rfl, hrun_of d 6 0 n r h4 h2]
  rw [if_neg]
  rintro (h | h | h)
  · have h : d.length = 0 := h
    omega
  · simp at h
  · exact h h5
theorem refE_says {b : UInt8} {x : List UInt8} {n m : Nat} (h : refE (b :: x) = some (n, m)) : ((b.toNat = 34 ∨ b.toNat = 92 ∨ b.toNat = 110 ∨ b.toNat = 116) ∧ m = 2 ∧ escP (b :: x) = some (n, x)) ∨ (¬ (b.toNat = 34 ∨ b.toNat = 92) ∧ b.toNat ≠ 110 ∧ b.toNat ≠ 116 ∧ ∃ d r, LongE (b :: x) n d r ∧ m = d.length + 4) := by
  rw [refE_cons] at h
  rw [escP_cons]
  split at h
  · rename_i h1; cases h; exact .inl ⟨by omega, rfl, by rw [if_pos h1]⟩
  · rename_i h1
    split at h
    · rename_i h2; cases h; exact .inl ⟨by omega, rfl, by rw [if_neg h1, if_pos h2]⟩
    · rename_i h2
      split at h
      · rename_i h3; cases h; exact .inl ⟨by omega, rfl, by rw [if_neg h1, if_neg h2, if_pos h3]⟩
      · rename_i h3
        split at h
        · cases h
        · rename_i h4
          split at h
          · cases h
          · rename_i h5
            cases h
            have h8 := Classical.byContradiction fun e => h5 (.inr (.inr e))
            have h7 := Classical.byContradiction fun e => h5 (.inr (.inl e))
            have h5 := fun e => h5 (.inl e)
            have h6 := Classical.byContradiction fun e => h4 (.inr e)
            have h4 := Classical.byContradiction fun e => h4 (.inl e)
            have eb := u_of h4
            cases x with
            | nil => cases h6
            | cons c y =>
              have ec : c = 123 := u_of (Option.some.inj h6)
              replace h7 : (y[(hrun 6 0 y).2]?).map UInt8.toNat = some 125 := h7
              replace h5 : ¬ (hrun 6 0 y).2 = 0 := h5
              replace h8 : isRune ((hrun 6 0 y).1 : Int) := h8
              obtain ⟨hl1, hl2, hl3⟩ := hrun_lt 6 0 y
              have hlt : (hrun 6 0 y).2 < y.length := by
                rcases Nat.lt_or_ge (hrun 6 0 y).2 y.length with h | h
                · exact h
                · rw [List.getElem?_eq_none h] at h7; cases h7
              have hy : y[(hrun 6 0 y).2] = 125 := by
                rw [List.getElem?_eq_getElem hlt] at h7
                exact u_of (Option.some.inj h7)
              have hnm : (125 : UInt8) ∉ y.take (hrun 6 0 y).2 := fun hm => by
                have := hrun_dig 6 0 y 125 hm
                rw [hexD_125] at this; omega
              have htl : (y.take (hrun 6 0 y).2).length = (hrun 6 0 y).2 := by rw [List.length_take]; omega
              refine .inr ⟨h1, h2, h3, y.take (hrun 6 0 y).2, y.drop ((hrun 6 0 y).2 + 1), ⟨?_, ⟨by omega, by omega, hnm, hrun_says 6 0 y⟩, h8⟩, by show (hrun 6 0 y).2 + 4 = _; omega⟩
              rw [← hy, ← List.drop_eq_getElem_cons hlt, List.take_append_drop, eb, ec]; rfl
theorem refE_esc {x : List UInt8} {n m : Nat} (h : refE x = some (n, m)) : 2 ≤ m ∧ m ≤ x.length + 1 ∧ isRune (n : Int) ∧ escP x = some (n, x.drop (m - 1)) := by
  cases x with
  | nil => cases h
  | cons b x =>
    rcases refE_says h with ⟨h1, rfl, h3⟩ | ⟨h1, h2, h3, d, r, h4, rfl⟩
    · exact ⟨by omega, by simp, (escP_some h3).1, h3⟩
    · have h5 := escU_long h4
      have e : escP (b :: x) = some (n, r) := by rw [escP_cons, if_neg h1, if_neg h2, if_neg h3, h5]
      obtain ⟨h6, h7, h8⟩ := h4
      have hl := congrArg List.length h6
      simp only [List.length_cons, List.length_append] at hl
      refine ⟨by omega, by simp only [List.length_cons]; omega, h8, ?_⟩
      rw [e, h6]
      show some (n, r) = some (n, (d ++ 125 :: r).drop (d.length + 1))
      rw [show d ++ 125 :: r = (d ++ [125]) ++ r from by simp, show d.length + 1 = (d ++ [125]).length from by simp, List.drop_left]
theorem esc_refE {x r : List UInt8} {n : Nat} (h : escP x = some (n, r)) : ∃ m, refE x = some (n, m) := by
  cases x with
  | nil => cases h
  | cons b x =>
    rw [escP_cons] at h
    rw [refE_cons]
    split at h
    · rename_i h1; cases h; exact ⟨2, by rw [if_pos h1]⟩
    · rename_i h1
      split at h
      · rename_i h2; cases h; exact ⟨2, by rw [if_neg h1, if_pos h2]⟩
      · rename_i h2
        split at h
        · rename_i h3; cases h; exact ⟨2, by rw [if_neg h1, if_neg h2, if_pos h3]⟩
        · obtain ⟨d, hd⟩ := escU_says h
          have := refE_long hd
          rw [refE_cons] at this
          exact ⟨_, this⟩
/-- An escape ahead of a text's last quote. -/
theorem esc_snoc {x r : List UInt8} {n : Nat} (hx : x ≠ []) : escP (x ++ [34]) = some (n, r ++ [34]) ↔ escP x = some (n, r) := by
  cases x with
  | nil => exact absurd rfl hx
  | cons b x =>
    rw [List.cons_append, escP_cons, escP_cons]
    split
    · constructor
      · intro h; injection h with h; injection h with h h2; rw [h, List.append_cancel_right h2]
      · intro h; injection h with h; injection h with h h2; rw [h, h2]
    · split
      · constructor
        · intro h; injection h with h; injection h with h h2; rw [h, List.append_cancel_right h2]
        · intro h; injection h with h; injection h with h h2; rw [h, h2]
      · split
        · constructor
          · intro h; injection h with h; injection h with h h2; rw [h, List.append_cancel_right h2]
          · intro h; injection h with h; injection h with h h2; rw [h, h2]
        · constructor
          · intro h
            obtain ⟨d, h1, h2, h3⟩ := escU_says h
            refine escU_long (d := d) ⟨?_, h2, h3⟩
            rw [← List.cons_append, show 117 :: 123 :: (d ++ 125 :: (r ++ [34])) = (117 :: 123 :: (d ++ 125 :: r)) ++ [34] from by simp] at h1
            exact List.append_cancel_right h1
          · intro h
            obtain ⟨d, h1, h2, h3⟩ := escU_says h
            refine escU_long (d := d) ⟨?_, h2, h3⟩
            rw [← List.cons_append, h1]; simp
theorem esc_ends {x r : List UInt8} {n : Nat} (hx : x ≠ []) (h : escP (x ++ [34]) = some (n, r)) : ∃ r', r = r' ++ [34] := by
  cases x with
  | nil => exact absurd rfl hx
  | cons b x =>
    rw [List.cons_append, escP_cons] at h
    split at h
    · cases h; exact ⟨x, rfl⟩
    · split at h
      · cases h; exact ⟨x, rfl⟩
      · split at h
        · cases h; exact ⟨x, rfl⟩
        · obtain ⟨d, h1, h2, h3⟩ := escU_says h
          cases hr : r.reverse with
          | nil =>
            exfalso
            have : r = [] := by rw [← List.reverse_reverse r, hr]; rfl
            subst this
            have := congrArg List.getLast? h1
            rw [← List.cons_append, List.getLast?_append, show 117 :: 123 :: (d ++ [125]) = (117 :: 123 :: d) ++ [125] from by simp, List.getLast?_append] at this
            simp at this
          | cons c q =>
            have er : r = q.reverse ++ [c] := by rw [← List.reverse_reverse r, hr]; simp
            subst er
            have := congrArg List.getLast? h1
            rw [← List.cons_append, List.getLast?_append, show 117 :: 123 :: (d ++ 125 :: (q.reverse ++ [c])) = (117 :: 123 :: (d ++ 125 :: q.reverse)) ++ [c] from by simp, List.getLast?_append] at this
            have : (34 : UInt8) = c := by simpa using this
            exact ⟨q.reverse, by rw [this]⟩
end Go.Vl
/- Values of properties, plain: the document's parse is the program's. -/
namespace Go.Vl
open Go Go.Gw Go.Lib
set_option linter.unusedVariables false
set_option linter.unusedSimpArgs false
theorem bt_snoc (x : List UInt8) (j : Nat) : bt (x ++ [34]) j = if j < x.length then bt x j else if j = x.length then 34 else 0 := by
  unfold bt
  by_cases h : j < x.length
  · rw [if_pos h]; simp [List.getD_eq_getElem?_getD, List.getElem?_append_left h]
  · rw [if_neg h]
    by_cases h2 : j = x.length
    · rw [if_pos h2, h2]; simp [List.getD_eq_getElem?_getD]
    · rw [if_neg h2]
      have : (x ++ [34])[j]? = none := List.getElem?_eq_none (by simp; omega)
      simp [List.getD_eq_getElem?_getD, this]
theorem bt_out {x : List UInt8} {j : Nat} (h : ¬ j < x.length) : bt x j = 0 := by
  unfold bt
  have : x[j]? = none := List.getElem?_eq_none (by omega)
  simp [List.getD_eq_getElem?_getD, this]
theorem rune_snoc {x : List UInt8} (hx : x ≠ []) : rune (x ++ [34]) = rune x := by
  have hl := List.length_pos_iff.2 hx
  have hll : (x ++ [34]).length = x.length + 1 := by simp
  rw [rune_bt, rune_bt, bt_snoc, bt_snoc, bt_snoc, bt_snoc, if_pos (show 0 < x.length from hl), hll]
  by_cases h1 : 1 < x.length
  · by_cases h2 : 2 < x.length
    · by_cases h3 : 3 < x.length
      · rw [if_pos h1, if_pos h2, if_pos h3]
        unfold decodeN
        repeat' split
        all_goals (first | (exfalso; omega) | rfl)
      · rw [if_pos h1, if_pos h2, if_neg h3, if_pos (by omega), bt_out h3]
        unfold decodeN
        repeat' split
        all_goals (first | (exfalso; omega) | rfl)
    · rw [if_pos h1, if_neg h2, if_pos (by omega), if_neg (by omega), if_neg (by omega), bt_out h2, bt_out (by omega : ¬ 3 < x.length)]
      unfold decodeN
      repeat' split
      all_goals (first | (exfalso; omega) | rfl)
  · rw [if_neg h1, if_pos (by omega), if_neg (by omega), if_neg (by omega), if_neg (by omega), if_neg (by omega), bt_out h1, bt_out (by omega : ¬ 2 < x.length), bt_out (by omega : ¬ 3 < x.length)]
    unfold decodeN
    repeat' split
    all_goals (first | (exfalso; omega) | rfl)
/-- The document's reading of a text (behind its first quote, with its last one). -/
def refT (y : List UInt8) : Option (List UInt8) := if h : y = [] then none else if bt y 0 = 34 then (if y.length = 1 then some [] else none) else if bt y 0 = 92 then
    (match refE (y.drop 1) with
    | none => none
    | some (n, m) => if h3 : (y.drop m).length < y.length then (refT (y.drop m)).map fun t => enc (n : Int) ++ t else none)
  else if (rune y).1 < 32 ∨ (rune y).1 = 127 ∨ badR y = true then none else (refT (y.drop (rune y).2)).map fun t => enc ((rune y).1 : Int) ++ t
termination_by y.length
decreasing_by
  · exact h3
  · have := rune_w h
    rw [List.length_drop]; omega
theorem refT_nil : refT [] = none := by rw [refT, dif_pos rfl]
theorem refT_34 {y : List UInt8} (h : y ≠ []) (h1 : bt y 0 = 34) : refT y = if y.length = 1 then some [] else none := by rw [refT, dif_neg h, if_pos h1]
theorem refT_92n {y : List UInt8} (h : y ≠ []) (h1 : bt y 0 = 92) (he : refE (y.drop 1) = none) : refT y = none := by rw [refT, dif_neg h, if_neg (by omega), if_pos h1, he]
theorem refT_92 {y : List UInt8} {n m : Nat} (h : y ≠ []) (h1 : bt y 0 = 92) (he : refE (y.drop 1) = some (n, m)) : refT y = (refT (y.drop m)).map fun t => enc (n : Int) ++ t := by
  have hm := (refE_esc he).1
  have hl := List.length_pos_iff.2 h
  rw [refT, dif_neg h, if_neg (by omega), if_pos h1, he]
  show (if h3 : (y.drop m).length < y.length then (refT (y.drop m)).map (fun t => enc (n : Int) ++ t) else none) = _
  rw [dif_pos (by rw [List.length_drop]; omega)]
theorem refT_bad {y : List UInt8} (h : y ≠ []) (h1 : bt y 0 ≠ 34) (h2 : bt y 0 ≠ 92) (hb : (rune y).1 < 32 ∨ (rune y).1 = 127 ∨ badR y = true) : refT y = none := by rw [refT, dif_neg h, if_neg h1, if_neg h2, if_pos hb]
theorem refT_run {y : List UInt8} (h : y ≠ []) (h1 : bt y 0 ≠ 34) (h2 : bt y 0 ≠ 92) (hb : ¬ ((rune y).1 < 32 ∨ (rune y).1 = 127 ∨ badR y = true)) : refT y = (refT (y.drop (rune y).2)).map fun t => enc ((rune y).1 : Int) ++ t := by rw [refT, dif_neg h, if_neg h1, if_neg h2, if_neg hb]
theorem rune_low2 {l : List UInt8} (h : (rune l).1 < 128) : (rune l).1 = bt l 0 := rune_low h
/-- What is read ends with a quote. -/
theorem refT_ends : ∀ (k : Nat) (y t : List UInt8), y.length ≤ k → refT y = some t → ∃ x, y = x ++ [34]
  | k, y, t, hk, h => by
    by_cases hy : y = []
    · subst hy; rw [refT_nil] at h; cases h
    · have hl := List.length_pos_iff.2 hy
      have hdrop : ∀ m, (∃ x, y.drop m = x ++ [34]) → ∃ x, y = x ++ [34] := by
        rintro m ⟨x, hx⟩
        exact ⟨y.take m ++ x, by rw [List.append_assoc, ← hx, List.take_append_drop]⟩
      cases k with
      | zero => omega
      | succ k =>
        by_cases h34 : bt y 0 = 34
        · rw [refT_34 hy h34] at h
          split at h
          · rename_i h1
            match y, h1 with
            | [b], _ =>
              have : b = 34 := u_of (k := 34) h34
              exact ⟨[], by rw [this]; rfl⟩
          · cases h
        · by_cases h92 : bt y 0 = 92
          · cases he : refE (y.drop 1) with
            | none => rw [refT_92n hy h92 he] at h; cases h
            | some p =>
              have hm := (refE_esc (n := p.1) (m := p.2) he).1
              rw [refT_92 (n := p.1) (m := p.2) hy h92 he] at h
              cases ht : refT (y.drop p.2) with
              | none => rw [ht] at h; cases h
              | some u => exact hdrop _ (refT_ends k _ u (by rw [List.length_drop]; omega) ht)
          · by_cases hb : (rune y).1 < 32 ∨ (rune y).1 = 127 ∨ badR y = true
            · rw [refT_bad hy h34 h92 hb] at h; cases h
            · have hw := rune_w hy
              rw [refT_run hy h34 h92 hb] at h
              cases ht : refT (y.drop (rune y).2) with
              | none => rw [ht] at h; cases h
              | some u => exact hdrop _ (refT_ends k _ u (by rw [List.length_drop]; omega) ht)
theorem refT_text : ∀ (k : Nat) (x : List UInt8), x.length ≤ k → refT (x ++ [34]) = textP x
  | k, x, hk => by
    by_cases hx : x = []
    · subst hx; rw [textP_nil, List.nil_append, refT_34 (by simp) rfl]; rfl
    · have hl := List.length_pos_iff.2 hx
      have hy : x ++ [34] ≠ [] := by simp
      have hb0 : bt (x ++ [34]) 0 = bt x 0 := by rw [bt_snoc, if_pos hl]
      have hrs := rune_snoc hx
      have hbs : badR (x ++ [34]) = badR x := by unfold badR; rw [hrs]
      have hlen : (x ++ [34]).length = x.length + 1 := by simp
      cases k with
      | zero => omega
      | succ k =>
        by_cases h34 : bt x 0 = 34
        · rw [refT_34 hy (by rw [hb0]; exact h34), if_neg (by omega), textP_bad hx]
          rw [badT_of (rune_asc (l := x) (by omega)), h34]; rfl
        · by_cases h92 : bt x 0 = 92
          · have hr1 : rune x = (92, 1) := by rw [rune_asc (l := x) (by omega), h92]
            have hbt : badT x = false := by rw [badT_of hr1]; decide
            have hd1 : (x ++ [34]).drop 1 = x.drop 1 ++ [34] := List.drop_append_of_le_length (by omega)
            by_cases hx1 : x.drop 1 = []
            · have he : escP (x.drop 1) = none := by rw [hx1]; rfl
              rw [textP_esc0 hx hbt (by rw [hr1]) he]
              have he2 : refE ((x ++ [34]).drop 1) = some (34, 2) := by rw [hd1, hx1]; rfl
              rw [refT_92 hy (by rw [hb0]; exact h92) he2]
              have hxl : x.length ≤ 1 := by have := congrArg List.length hx1; rw [List.length_drop] at this; simp at this; omega
              rw [List.drop_of_length_le (by omega), refT_nil]; rfl
            · cases he : refE ((x ++ [34]).drop 1) with
              | none =>
                rw [refT_92n hy (by rw [hb0]; exact h92) he]
                cases he2 : escP (x.drop 1) with
                | none => rw [textP_esc0 hx hbt (by rw [hr1]) he2]
                | some p =>
                  exfalso
                  have := (esc_snoc (r := p.2) (n := p.1) hx1).2 he2
                  rw [← hd1] at this
                  obtain ⟨m, hm⟩ := esc_refE this
                  rw [he] at hm; cases hm
              | some p =>
                obtain ⟨a1, a2, a3, a4⟩ := refE_esc (n := p.1) (m := p.2) he
                rw [refT_92 (n := p.1) (m := p.2) hy (by rw [hb0]; exact h92) he]
                rw [hd1] at a4
                obtain ⟨r', hr'⟩ := esc_ends hx1 a4
                rw [hr'] at a4
                have a5 := (esc_snoc hx1).1 a4
                obtain ⟨a6, a7⟩ := textP_esc hx hbt (by rw [hr1]) a5
                rw [a7]
                have e : (x ++ [34]).drop p.2 = r' ++ [34] := by
                  rw [← hr', ← hd1, List.drop_drop]; congr 1; omega
                rw [e, refT_text k r' (by omega)]
          · have hc34 : (rune x).1 ≠ 34 := fun h => h34 (by rw [← rune_low2 (by omega), h])
            have hc92 : (rune x).1 ≠ 92 := fun h => h92 (by rw [← rune_low2 (by omega), h])
            have hw := rune_w hx
            by_cases hb : (rune x).1 < 32 ∨ (rune x).1 = 127 ∨ badR x = true
            · rw [refT_bad hy (by rw [hb0]; exact h34) (by rw [hb0]; exact h92) (by rw [hrs, hbs]; exact hb), textP_bad hx]
              unfold badT
              rcases hb with h | h | h <;> simp [h]
            · have hbt : badT x = false := by
                simp only [not_or] at hb
                unfold badT
                simp only [Bool.or_eq_false_iff, decide_eq_false_iff_not]
                exact ⟨⟨⟨hc34, hb.1⟩, hb.2.1⟩, by simpa using hb.2.2⟩
              rw [refT_run hy (by rw [hb0]; exact h34) (by rw [hb0]; exact h92) (by rw [hrs, hbs]; exact hb), hrs, textP_plain hx hbt hc92, List.drop_append_of_le_length (by omega), refT_text k _ (by rw [List.length_drop]; omega)]
/-! ### the walk's values -/
def hexZ (z : Int) : Int := if 48 ≤ z ∧ z ≤ 57 then z - 48 else if 97 ≤ z ∧ z ≤ 102 then z - 87 else if 65 ≤ z ∧ z ≤ 70 then z - 55 else -1
theorem hexZ_is (b : UInt8) : hexZ (b.toNat : Int) = if hexD b < 16 then (hexD b : Int) else -1 := by
  unfold hexZ hexD
  repeat' split
  all_goals omega
theorem bt_get {y : List UInt8} {j : Nat} (h : j < y.length) : bt y j = (y[j]).toNat := by unfold bt; simp [List.getD_eq_getElem?_getD, h]
theorem at_get {l : List UInt8} {i j : Nat} (h : j < (l.drop i).length) {z : Int} (hz : z = ((i + j : Nat) : Int)) : at' (nums l) z = (((l.drop i)[j]).toNat : Int) := by
  rw [hz, bt_drop (by rw [List.length_drop] at h; omega), bt_get h]
def escZ (x : List UInt8) : Int × Int := match refE x with
  | some (n, m) => ((n : Int), (m : Int))
  | none => (0, 0)
theorem escZ_none {x : List UInt8} (h : refE x = none) : escZ x = (0, 0) := by unfold escZ; rw [h]
theorem escZ_some {x : List UInt8} {n m : Nat} (h : refE x = some (n, m)) : escZ x = ((n : Int), (m : Int)) := by unfold escZ; rw [h]
theorem refE_no {b : UInt8} {r : List UInt8} (h1 : ¬ (b.toNat = 34 ∨ b.toNat = 92)) (h2 : ¬ b.toNat = 110) (h3 : ¬ b.toNat = 116) (h : b.toNat ≠ 117 ∨ r = [] ∨ bt r 0 ≠ 123) : refE (b :: r) = none := by
  rw [refE_cons, if_neg h1, if_neg h2, if_neg h3, if_pos]
  rcases h with h | h | h
  · exact .inl h
  · subst h; exact .inr (by simp)
  · cases r with
    | nil => exact .inr (by simp)
    | cons c r => exact .inr (fun e => h (Option.some.inj e))
theorem refE_run {b c : UInt8} {y : List UInt8} {a j : Nat} (hb : b.toNat = 117) (hc : c.toNat = 123) (h : hrun 6 0 y = (a, j)) : refE (b :: c :: y) = if j = 0 ∨ (y[j]?).map UInt8.toNat ≠ some 125 ∨ ¬ isRune (a : Int) then none else some (a, j + 4) := by
  rw [refE_cons, if_neg (by omega), if_neg (by omega), if_neg (by omega), if_neg (by rw [show (c :: y).head? = some c from rfl]; simp [hb, hc]), show List.drop 1 (c :: y) = y from rfl, h]
theorem get_125 {y : List UInt8} {j : Nat} : (y[j]?).map UInt8.toNat = some 125 ↔ ∃ h : j < y.length, y[j].toNat = 125 := by
  by_cases h : j < y.length
  · rw [List.getElem?_eq_getElem h]
    simp [h]
  · rw [List.getElem?_eq_none (by omega)]
    simp [h]
/-! ### numbers -/
/-- The document's digits: the number, turned. -/
def zF : Int → List UInt8 → Option Int
  | a, [] => some a
  | a, b :: r => if b.toNat < 48 ∨ 57 < b.toNat then none else if a < (-(9223372036854775807 - ((b.toNat - 48 : Nat) : Int))).tdiv 10 - 1 then none else zF (IntKind.i64.wrap (IntKind.i64.wrap (a * 10) - ((b.toNat - 48 : Nat) : Int))) r
theorem zF_snoc (b : UInt8) : ∀ (l : List UInt8) (a : Int), zF a (l ++ [b]) = (zF a l).bind fun z => zF z [b]
  | [], a => rfl
  | c :: l, a => by
    rw [List.cons_append, zF, zF]
    split
    · rfl
    · split
      · rfl
      · exact zF_snoc b l _
theorem tdiv10 {x : Int} (h : 0 ≤ x) : (-x).tdiv 10 = -(x / 10) := by rw [Int.neg_tdiv, Int.tdiv_eq_ediv_of_nonneg h]
theorem wrap_in {x : Int} (h0 : -9223372036854775808 ≤ x) (h1 : x ≤ 9223372036854775807) : IntKind.i64.wrap x = x := by
  simp [IntKind.wrap, IntKind.bits, IntKind.signed]; omega
theorem zF_dec (k : Nat) (hk : k ≤ 9223372036854775808) : zF 0 (decDigits k) = some (-(k : Int)) := by
  induction k using Nat.strongRecOn with
  | ind k ih =>
    rw [Go.Proofs.YtdlendioamiagaaDoor.dec_eq]
    by_cases h : k < 10
    · have e := Go.Proofs.YtdlendioamiagaaDoor.dig_toNat h
      rw [if_pos h, zF, e, if_neg (by omega), tdiv10 (by omega), if_neg (by omega), zF, wrap_in (x := 0 * 10) (by omega) (by omega), wrap_in (by omega) (by omega)]
      congr 1; omega
    · have e := Go.Proofs.YtdlendioamiagaaDoor.dig_toNat (d := k % 10) (by omega)
      rw [if_neg h, zF_snoc, ih (k / 10) (by omega) (by omega)]
      show zF (-((k / 10 : Nat) : Int)) [UInt8.ofNat (48 + k % 10)] = _
      rw [zF, e, if_neg (by omega), tdiv10 (by omega), if_neg (by omega), zF, wrap_in (x := -((k / 10 : Nat) : Int) * 10) (by omega) (by omega), wrap_in (by omega) (by omega)]
      congr 1; omega
/-- Without its sign. -/
def unsig (l : List UInt8) : List UInt8 := if l.head? = some 45 then l.drop 1 else l
def NumOf (l : List UInt8) (n : Int) : Prop := -9223372036854775808 ≤ n ∧ n ≤ 9223372036854775807 ∧ itoa n = l
theorem numOf_dig {l : List UInt8} {n : Int} (h : NumOf l n) : unsig l = decDigits n.natAbs ∧ (0 ≤ n ↔ (unsig l).length = l.length) ∧ zF 0 (unsig l) = some (-(n.natAbs : Int)) ∧ 1 ≤ (unsig l).length ∧ (unsig l).length ≤ 19 := by
  obtain ⟨h0, h1, rfl⟩ := h
  have hz := zF_dec n.natAbs (by omega)
  have hl : (decDigits n.natAbs).length ≤ 19 := by rw [decDigits_length]; exact nDig_le 18 _ (by omega)
  have hl1 : 1 ≤ (decDigits n.natAbs).length := List.length_pos_iff.2 (Go.Proofs.YtdlendioamiagaaDoor.dec_ne _)
  have e : unsig (itoa n) = decDigits n.natAbs := by
    unfold unsig
    rcases Go.Proofs.YtdlendioamiagaaDoor.itoa_cases n with ⟨hs, e⟩ | ⟨hs, e⟩
    · rw [e, if_neg]
      intro h
      cases hd : decDigits n.natAbs with
      | nil => exact Go.Proofs.YtdlendioamiagaaDoor.dec_ne _ hd
      | cons c r =>
        have := Go.Proofs.YtdlendioamiagaaDoor.dec_dig n.natAbs c (by rw [hd]; exact List.mem_cons_self)
        rw [hd] at h
        have h : c = 45 := Option.some.inj h
        subst h
        revert this; decide
    · rw [e]; rfl
  refine ⟨e, ?_, by rw [e]; exact hz, by rw [e]; exact hl1, by rw [e]; exact hl⟩
  rw [e]
  rcases Go.Proofs.YtdlendioamiagaaDoor.itoa_cases n with ⟨hs, e2⟩ | ⟨hs, e2⟩
  · rw [e2]; simp [hs]
  · rw [e2, List.length_cons]
    constructor
    · intro h; omega
    · intro h; omega
/-- The document's number. -/
def signed2 (l : List UInt8) (z : Int) : Int := if (unsig l).length = l.length then IntKind.i64.wrap (-z) else z
theorem signed2_is {l : List UInt8} {n z : Int} (h : NumOf l n) (hz : zF 0 (unsig l) = some z) : signed2 l z = n := by
  obtain ⟨h1, h2, h3, _⟩ := numOf_dig h
  obtain ⟨h4, h5, h6⟩ := h
  rw [h3] at hz
  cases hz
  unfold signed2
  by_cases hn : 0 ≤ n
  · rw [if_pos (h2.1 hn), wrap_in (by omega) (by omega)]; omega
  · rw [if_neg (fun e => hn (h2.2 e))]; omega
end Go.Vl
namespace Go.Proofs.YtdlendioamiagaaDoor
open Go Go.Gw Go.Vl Go.Lib
def parseN (l : List UInt8) : Option Vl := if (atoiB l && decide (itoa (atoiV l) = l)) = true then some (1, atoiV l, []) else none
theorem parseN_of {l : List UInt8} {n : Int} (h : NumOf l n) : parseN l = some (1, n, []) := by
  obtain ⟨h0, h1, rfl⟩ := h
  have ha := atoi_of_itoa h0 h1
  have hv : atoiV (itoa n) = n := by unfold atoiV; rw [ha]
  have hb : atoiB (itoa n) = true := by unfold atoiB; rw [ha]
  unfold parseN
  rw [hv, hb, if_pos (by simp)]
theorem parseN_not {l : List UInt8} (h : ∀ n, ¬ NumOf l n) : parseN l = none := by
  unfold parseN
  rw [if_neg]
  intro hc
  simp only [Bool.and_eq_true, decide_eq_true_eq] at hc
  exact h (atoiV l) ⟨(atoiV_bounds l).1, (atoiV_bounds l).2, hc.2⟩
theorem parseN_len {l : List UInt8} (h : (unsig l).length < 1 ∨ 19 < (unsig l).length) : parseN l = none := parseN_not fun n hn => by
  have := numOf_dig hn
  omega
theorem parseN_zF {l : List UInt8} (h : zF 0 (unsig l) = none) : parseN l = none := parseN_not fun n hn => by
  have := (numOf_dig hn).2.2.1
  rw [h] at this; cases this
theorem parseN_off {l : List UInt8} {z : Int} (hz : zF 0 (unsig l) = some z) (h : itoa (signed2 l z) ≠ l) : parseN l = none := parseN_not fun n hn => h (by
  rw [signed2_is hn hz]; exact hn.2.2)
theorem parseN_on {l : List UInt8} {m : Int} (h0 : -9223372036854775808 ≤ m) (h1 : m ≤ 9223372036854775807) (h : itoa m = l) : parseN l = some (1, m, []) := parseN_of ⟨h0, h1, h⟩
theorem parseN_34 (u : List UInt8) : parseN (34 :: u) = none := parseN_not fun n hn => by
  obtain ⟨c, r, e, hc⟩ := itoa_head n
  have := hn.2.2
  rw [e] at this
  injection this with h1 h2
  subst h1
  revert hc; decide
theorem parseV_num {l : List UInt8} (h1 : l ≠ tru) (h2 : l ≠ fls) (h : l = [] ∨ bt l 0 ≠ 34) : parseV l = parseN l := by
  have hq : ¬ quoted l = true := by
    unfold quoted
    rcases h with rfl | h
    · decide
    · cases l with
      | nil => decide
      | cons c r =>
        rw [pfx_one, decide_eq_false (fun e => h (by subst e; rfl))]; simp
  unfold parseV
  rw [if_neg h1, if_neg h2, if_neg hq]; rfl
theorem parseV_text (u : List UInt8) : parseV (34 :: u) = (refT u).bind fun t => if checkV (2, 0, t) = 0 then some (2, 0, t) else none := by
  have h1 : 34 :: u ≠ tru := fun e => by cases e
  have h2 : 34 :: u ≠ fls := fun e => by cases e
  by_cases he : ∃ x, u = x ++ [34]
  · obtain ⟨x, rfl⟩ := he
    obtain ⟨hq, hi⟩ := inner_of x
    unfold parseV
    rw [if_neg h1, if_neg h2, if_pos hq, hi, refT_text x.length x (Nat.le_refl _)]
    cases ht : textP x with
    | none => rw [textR_none ht]; rfl
    | some t => rw [textR_some ht]; simp
  · have hr : refT u = none := by
      cases ht : refT u with
      | none => rfl
      | some t => exact absurd (refT_ends _ u t (Nat.le_refl _) ht) he
    have hq : ¬ quoted (34 :: u) = true := by
      unfold quoted
      have hp : hasPrefix (34 :: u) [34] = true := by rw [pfx_one]; rfl
      have ht : trimPrefix (34 :: u) [34] = u := by unfold trimPrefix; rw [if_pos hp]; rfl
      rw [hp, ht, Bool.true_and]
      unfold hasSuffix
      intro h
      obtain ⟨x, hx⟩ := List.isSuffixOf_iff_suffix.1 h
      exact he ⟨x, hx.symm⟩
    have := parseN_34 u
    rw [hr]
    unfold parseV
    rw [if_neg h1, if_neg h2, if_neg hq]
    exact this
end Go.Proofs.YtdlendioamiagaaDoor
/- Values of properties, plain: the document's number, step by step. -/
namespace Go.Vl
open Go Go.Gw Go.Lib
set_option linter.unusedVariables false
set_option linter.unusedSimpArgs false
theorem i64_bd (x : Int) : -9223372036854775808 ≤ IntKind.i64.wrap x ∧ IntKind.i64.wrap x ≤ 9223372036854775807 := by
  simp [IntKind.wrap, IntKind.bits, IntKind.signed]
  split <;> omega
def ZAt (d : List UInt8) (k : Nat) (z : Int) : Prop := k ≤ d.length ∧ (-9223372036854775808 ≤ z ∧ z ≤ 9223372036854775807) ∧ zF 0 d = zF z (d.drop k)
theorem zAt_0 (d : List UInt8) : ZAt d 0 0 := ⟨Nat.zero_le _, by omega, by rw [List.drop_zero]⟩
theorem zAt_bad {d : List UInt8} {k : Nat} {z : Int} (h : ZAt d k z) (hk : k < d.length) (hb : (d[k]).toNat < 48 ∨ 57 < (d[k]).toNat) : zF 0 d = none := by
  rw [h.2.2, List.drop_eq_getElem_cons hk, zF, if_pos hb]
theorem zAt_big {d : List UInt8} {k : Nat} {z : Int} (h : ZAt d k z) (hk : k < d.length) (hb : ¬ ((d[k]).toNat < 48 ∨ 57 < (d[k]).toNat)) (hz : z < (-(9223372036854775807 - (((d[k]).toNat - 48 : Nat) : Int))).tdiv 10 - 1) : zF 0 d = none := by
  rw [h.2.2, List.drop_eq_getElem_cons hk, zF, if_neg hb, if_pos hz]
theorem zAt_next {d : List UInt8} {k : Nat} {z : Int} (h : ZAt d k z) (hk : k < d.length) (hb : ¬ ((d[k]).toNat < 48 ∨ 57 < (d[k]).toNat)) (hz : ¬ z < (-(9223372036854775807 - (((d[k]).toNat - 48 : Nat) : Int))).tdiv 10 - 1) : ZAt d (k + 1) (IntKind.i64.wrap (IntKind.i64.wrap (z * 10) - (((d[k]).toNat - 48 : Nat) : Int))) := by
  refine ⟨by omega, i64_bd _, ?_⟩
  rw [h.2.2, List.drop_eq_getElem_cons hk, zF, if_neg hb, if_neg hz]
theorem zAt_end {d : List UInt8} {z : Int} (h : ZAt d d.length z) : zF 0 d = some z := by
  rw [h.2.2, List.drop_length]; rfl
theorem signed2_in {l d : List UInt8} {k : Nat} {z : Int} (h : ZAt d k z) : -9223372036854775808 ≤ signed2 l z ∧ signed2 l z ≤ 9223372036854775807 := by
  unfold signed2
  split
  · exact i64_bd _
  · exact h.2.1
theorem unsig_45 {l : List UInt8} (h : (decide (0 < (l.length : Int)) && decide (at' (nums l) 0 = 45)) = true) : unsig l = l.drop 1 := by
  cases l with
  | nil => simp at h
  | cons c r =>
    simp only [Bool.and_eq_true, decide_eq_true_eq] at h
    have h2 : ((c.toNat : Nat) : Int) = 45 := h.2
    have : c = 45 := u_of (k := 45) (by omega)
    unfold unsig
    rw [if_pos (by rw [this]; rfl)]
theorem unsig_no {l : List UInt8} (h : (decide (0 < (l.length : Int)) && decide (at' (nums l) 0 = 45)) = false) : unsig l = l := by
  cases l with
  | nil => rfl
  | cons c r =>
    unfold unsig
    rw [if_neg]
    intro e
    have e : c = 45 := Option.some.inj e
    subst e
    revert h
    rw [show at' (nums (45 :: r)) 0 = 45 from rfl]
    simp
theorem lim_is {x : Int} (h0 : 0 ≤ x) (h1 : x ≤ 9) : IntKind.i64.wrap ((-(9223372036854775807 - x)).tdiv 10) = (-(9223372036854775807 - x)).tdiv 10 ∧ -922337203685477581 ≤ (-(9223372036854775807 - x)).tdiv 10 ∧ (-(9223372036854775807 - x)).tdiv 10 ≤ 0 := by
  rw [tdiv10 (by omega)]
  exact ⟨wrap_in (by omega) (by omega), by omega, by omega⟩
/-- One step through a text. -/
def StepT (y : List UInt8) (n w : Int) : Prop := (w = 0 ∧ refT y = none) ∨ ∃ c m : Nat, n = c ∧ w = m ∧ 1 ≤ m ∧ m ≤ y.length ∧ isRune (c : Int) ∧ refT y = (refT (y.drop m)).map fun t => enc (c : Int) ++ t
theorem step_esc {y : List UInt8} (hy : y ≠ []) (h92 : bt y 0 = 92) : StepT y (escZ (y.drop 1)).1 (escZ (y.drop 1)).2 := by
  have hl := List.length_pos_iff.2 hy
  cases he : refE (y.drop 1) with
  | none => rw [escZ_none he]; exact .inl ⟨rfl, refT_92n hy h92 he⟩
  | some p =>
    obtain ⟨a1, a2, a3, _⟩ := refE_esc (n := p.1) (m := p.2) he
    rw [escZ_some (n := p.1) (m := p.2) he]
    rw [List.length_drop] at a2
    exact .inr ⟨p.1, p.2, rfl, rfl, by omega, by omega, a3, refT_92 (n := p.1) (m := p.2) hy h92 he⟩
theorem step_run {y : List UInt8} (hy : y ≠ []) (h34 : bt y 0 ≠ 34) (h92 : bt y 0 ≠ 92) : ((refR y).2 < 32 ∨ (refR y).2 = 127 → refT y = none) ∧ (¬ ((refR y).2 < 32 ∨ (refR y).2 = 127) → StepT y (refR y).2 (refR y).1) := by
  rcases refR_cases hy with ⟨h1, h2⟩ | ⟨h1, h2, h3, h4⟩
  · rw [h2]
    exact ⟨fun _ => refT_bad hy h34 h92 (.inr (.inr h1)), fun h => absurd (.inl (by show (0 : Int) < 32; omega)) h⟩
  · rw [h2]
    refine ⟨fun h => refT_bad hy h34 h92 ?_, fun h => .inr ⟨(rune y).1, (rune y).2, rfl, rfl, h3, h4, rune_is y, refT_run hy h34 h92 ?_⟩⟩
    · have h : (((rune y).1 : Nat) : Int) < 32 ∨ (((rune y).1 : Nat) : Int) = 127 := h
      omega
    · have h : ¬ ((((rune y).1 : Nat) : Int) < 32 ∨ (((rune y).1 : Nat) : Int) = 127) := h
      rintro (h5 | h5 | h5)
      · omega
      · omega
      · rw [h1] at h5; cases h5
end Go.Vl
namespace Go.Proofs.YtdlendioamiagaaDoor
open Go Go.Gw Go.Vl Go.Lib
theorem text_none {u y t : List UInt8} (hI : refT u = (refT y).map fun s => t ++ s) (h : refT y = none) : parseV (34 :: u) = none := by
  rw [parseV_text, hI, h]; rfl
theorem text_end {u y t : List UInt8} (hI : refT u = (refT y).map fun s => t ++ s) (hy : y ≠ []) (h34 : bt y 0 = 34) : (y.length = 1 ∧ checkV (2, 0, t) = 0 → parseV (34 :: u) = some (2, 0, t)) ∧ (¬ (y.length = 1 ∧ checkV (2, 0, t) = 0) → parseV (34 :: u) = none) := by
  have hr := refT_34 hy h34
  by_cases h1 : y.length = 1
  · rw [if_pos h1] at hr
    have e : parseV (34 :: u) = if checkV (2, 0, t) = 0 then some (2, 0, t) else none := by
      rw [parseV_text, hI, hr]
      show (if checkV (2, 0, t ++ []) = 0 then some (2, 0, t ++ []) else none) = _
      rw [List.append_nil]
    rw [e]
    exact ⟨fun h => if_pos h.2, fun h => if_neg fun h2 => h ⟨h1, h2⟩⟩
  · rw [if_neg h1] at hr
    exact ⟨fun h => absurd h.1 h1, fun _ => text_none hI hr⟩
end Go.Proofs.YtdlendioamiagaaDoor
/- Values of properties, plain: a value read from bytes. -/
namespace Go.Vl
open Go Go.Gw
set_option linter.unusedVariables false
set_option linter.unusedSimpArgs false
/-! ### bits -/
abbrev b0 (b : List UInt8) : Nat := (b.getD 0 0).toNat
abbrev b1 (b : List UInt8) : Nat := (b.getD 1 0).toNat
end Go.Vl
/- Values of properties, plain: a value read from bytes as the document reads it. -/
namespace Go.Vl
open Go Go.Gw
set_option linter.unusedVariables false
set_option linter.unusedSimpArgs false
end Go.Vl
/- Values of properties, plain: how many bytes a number at the end of its digits has; what is written and read again. -/
namespace Go.Vl
open Go Go.Gw
set_option linter.unusedVariables false
set_option linter.unusedSimpArgs false
end Go.Vl
namespace Go.Proofs.YtdlendioamiagaaDoor
open Go Go.Gw Go.Vl Go.Lib
end Go.Proofs.YtdlendioamiagaaDoor
/- Walks through the Go functions val.Cut, rhizomeref02.Cut, rhizomelaw02.ValCuts, as typed contracts. -/
namespace Go.Proofs.YtdlendioamiagaaDoor
open Go Go.Gw Go.Vl
set_option linter.unusedVariables false
set_option linter.unusedSimpArgs false

end Go.Proofs.YtdlendioamiagaaDoor
/- Walks through the Go functions cmp.Or[int], val.Same, val.Cmp, rhizomeref02.Cmp, rhizomelaw02.ValOrders, as typed contracts. -/
namespace Go.Proofs.YtdlendioamiagaaDoor
open Go Go.Gw Go.Vl
set_option linter.unusedVariables false
set_option linter.unusedSimpArgs false
end Go.Proofs.YtdlendioamiagaaDoor
/- Walks through the Go functions rhizomelaw02.hex, rhizomelaw02.ValDressed, as typed contracts. -/
namespace Go.Proofs.YtdlendioamiagaaDoor
open Go Go.Gw Go.Vl
set_option linter.unusedVariables false
set_option linter.unusedSimpArgs false
end Go.Proofs.YtdlendioamiagaaDoor
/- Walks through the Go functions val.number, val.Decode, as typed contracts. -/
namespace Go.Proofs.YtdlendioamiagaaDoor
open Go Go.Gw Go.Vl
set_option linter.unusedVariables false
set_option linter.unusedSimpArgs false
end Go.Proofs.YtdlendioamiagaaDoor
/- Walks through the Go functions rhizomeref02.Decode, rhizomelaw02.ValReads, as typed contracts. -/
namespace Go.Proofs.YtdlendioamiagaaDoor
open Go Go.Gw Go.Vl
set_option linter.unusedVariables false
set_option linter.unusedSimpArgs false

end Go.Proofs.YtdlendioamiagaaDoor
/- Walks through the Go functions rhizomelaw02.ValBack, as typed contracts. -/
namespace Go.Proofs.YtdlendioamiagaaDoor
open Go Go.Gw Go.Vl
set_option linter.unusedVariables false
set_option linter.unusedSimpArgs false

end Go.Proofs.YtdlendioamiagaaDoor
/- Walks through the Go functions rhizomelaw02.ValEnds, as typed contracts. -/
namespace Go.Proofs.YtdlendioamiagaaDoor
open Go Go.Gw Go.Vl
set_option linter.unusedVariables false
set_option linter.unusedSimpArgs false

end Go.Proofs.YtdlendioamiagaaDoor
/- Walks through the Go functions rhizomeref02.digit, rhizomeref02.escape, rhizomeref02.number, as typed contracts. -/
namespace Go.Proofs.YtdlendioamiagaaDoor
open Go Go.Gw Go.Vl
set_option linter.unusedVariables false
set_option linter.unusedSimpArgs false

set_option maxRecDepth 20000 in
/-- rhizome/rhizomeref02.digit -/
theorem rDigit_fn (z : Int) : Ct Tryd.prog 70 [IntT .u8 z] ([]) Unit (fun _ => I64 (hexZ z)) (fun _ => []) (fun _ => True) := by
  refine fn_intro Tryd.func70 rfl rfl ?_
  intro H w
  refine tr_seq ?_
  -- region 0
  refine tr_env (es_cons (t := 0) (OT.tmp rfl) es_nil) ?_
  refine tr_region ?_
  refine op_pure (pu_assign OT.const) rfl rfl ?_
  refine tr_nil ?_
  refine then_normal ?_
  refine tr_seq ?_
  refine tr_seq ?_
  -- region 1
  refine tr_env (es_cons (t := 0) (OT.tmp rfl) es_nil) ?_
  refine tr_region ?_
  refine op_pure (pu_move (OT.tmp rfl)) rfl rfl ?_
  refine op_pure (pu_geq (OT.tmp rfl) OT.const) rfl rfl ?_
  refine op_pure (pu_move (OT.tmp rfl)) rfl rfl ?_
  refine op_gu rfl rfl rfl (OT.gu_mk (OT.tmp rfl)) (fun hg => by (have hg1 := hg.2; (try simp only [decide_eq_true_eq, decide_eq_false_iff_not] at hg1); exact pu_move (by exact OT.tmp rfl))) rfl ?_
  refine op_gu rfl rfl rfl (OT.gu_mk (OT.tmp rfl)) (fun hg => by (have hg1 := hg.2; (try simp only [decide_eq_true_eq, decide_eq_false_iff_not] at hg1); exact pu_leq (by exact OT.gu (OT.tmp rfl) hg) OT.const)) rfl ?_
  refine op_pure (pu_pick_and (OT.tmp rfl) (by exact OT.tmp rfl)) rfl rfl ?_
  refine tr_nil ?_
  refine then_normal ?_
  refine tr_cond (OT.tmp rfl) (fun c8 => ?_) (fun c8 => ?_)
  · skip
    refine tr_seq ?_
    -- region 2
    refine tr_env (es_cons (t := 0) (OT.tmp rfl) es_nil) ?_
    refine tr_region ?_
    refine op_pure (pu_move (OT.tmp rfl)) rfl rfl ?_
    refine op_pure (pu_sub (OT.tmp rfl) OT.const) rfl rfl ?_
    refine op_pure (pu_convert (OT.tmp rfl) Tryd.underlying5 Tryd.underlying3) rfl rfl ?_
    refine op_pure (pu_assign (OT.tmp rfl)) rfl rfl ?_
    refine tr_nil ?_
    refine then_normal ?_
    refine tr_ret ?_
    refine then_ret ?_
    exact ret_one .ret (.inl rfl) rfl () (OT.val (OT.tmp rfl) (congrArg (Value.int _) (by unfold hexZ; simp [IntKind.wrap, IntKind.bits, IntKind.signed] at *; (repeat' split) <;> omega))) trivial (by exact picks_nil)
  · skip
    refine tr_skip ?_
    refine then_normal ?_
    refine tr_seq ?_
    refine tr_seq ?_
    -- region 3
    refine tr_env (es_cons (t := 0) (OT.tmp rfl) es_nil) ?_
    refine tr_region ?_
    refine op_pure (pu_move (OT.tmp rfl)) rfl rfl ?_
    refine op_pure (pu_geq (OT.tmp rfl) OT.const) rfl rfl ?_
    refine op_pure (pu_move (OT.tmp rfl)) rfl rfl ?_
    refine op_gu rfl rfl rfl (OT.gu_mk (OT.tmp rfl)) (fun hg => by (have hg1 := hg.2; (try simp only [decide_eq_true_eq, decide_eq_false_iff_not] at hg1); exact pu_move (by exact OT.tmp rfl))) rfl ?_
    refine op_gu rfl rfl rfl (OT.gu_mk (OT.tmp rfl)) (fun hg => by (have hg1 := hg.2; (try simp only [decide_eq_true_eq, decide_eq_false_iff_not] at hg1); exact pu_leq (by exact OT.gu (OT.tmp rfl) hg) OT.const)) rfl ?_
    refine op_pure (pu_pick_and (OT.tmp rfl) (by exact OT.tmp rfl)) rfl rfl ?_
    refine tr_nil ?_
    refine then_normal ?_
    refine tr_cond (OT.tmp rfl) (fun c17 => ?_) (fun c17 => ?_)
    · skip
      refine tr_seq ?_
      -- region 4
      refine tr_env (es_cons (t := 0) (OT.tmp rfl) es_nil) ?_
      refine tr_region ?_
      refine op_pure (pu_move (OT.tmp rfl)) rfl rfl ?_
      refine op_pure (pu_sub (OT.tmp rfl) OT.const) rfl rfl ?_
      refine op_pure (pu_convert (OT.tmp rfl) Tryd.underlying5 Tryd.underlying3) rfl rfl ?_
      refine op_pure (pu_add (OT.tmp rfl) OT.const) rfl rfl ?_
      refine op_pure (pu_assign (OT.tmp rfl)) rfl rfl ?_
      refine tr_nil ?_
      refine then_normal ?_
      refine tr_ret ?_
      refine then_ret ?_
      exact ret_one .ret (.inl rfl) rfl () (OT.val (OT.tmp rfl) (congrArg (Value.int _) (by unfold hexZ; simp [IntKind.wrap, IntKind.bits, IntKind.signed] at *; (repeat' split) <;> omega))) trivial (by exact picks_nil)
    · skip
      refine tr_skip ?_
      refine then_normal ?_
      refine tr_seq ?_
      refine tr_seq ?_
      -- region 5
      refine tr_env (es_cons (t := 0) (OT.tmp rfl) es_nil) ?_
      refine tr_region ?_
      refine op_pure (pu_move (OT.tmp rfl)) rfl rfl ?_
      refine op_pure (pu_geq (OT.tmp rfl) OT.const) rfl rfl ?_
      refine op_pure (pu_move (OT.tmp rfl)) rfl rfl ?_
      refine op_gu rfl rfl rfl (OT.gu_mk (OT.tmp rfl)) (fun hg => by (have hg1 := hg.2; (try simp only [decide_eq_true_eq, decide_eq_false_iff_not] at hg1); exact pu_move (by exact OT.tmp rfl))) rfl ?_
      refine op_gu rfl rfl rfl (OT.gu_mk (OT.tmp rfl)) (fun hg => by (have hg1 := hg.2; (try simp only [decide_eq_true_eq, decide_eq_false_iff_not] at hg1); exact pu_leq (by exact OT.gu (OT.tmp rfl) hg) OT.const)) rfl ?_
      refine op_pure (pu_pick_and (OT.tmp rfl) (by exact OT.tmp rfl)) rfl rfl ?_
      refine tr_nil ?_
      refine then_normal ?_
      refine tr_cond (OT.tmp rfl) (fun c27 => ?_) (fun c27 => ?_)
      · skip
        refine tr_seq ?_
        -- region 6
        refine tr_env (es_cons (t := 0) (OT.tmp rfl) es_nil) ?_
        refine tr_region ?_
        refine op_pure (pu_move (OT.tmp rfl)) rfl rfl ?_
        refine op_pure (pu_sub (OT.tmp rfl) OT.const) rfl rfl ?_
        refine op_pure (pu_convert (OT.tmp rfl) Tryd.underlying5 Tryd.underlying3) rfl rfl ?_
        refine op_pure (pu_add (OT.tmp rfl) OT.const) rfl rfl ?_
        refine op_pure (pu_assign (OT.tmp rfl)) rfl rfl ?_
        refine tr_nil ?_
        refine then_normal ?_
        refine tr_ret ?_
        refine then_ret ?_
        exact ret_one .ret (.inl rfl) rfl () (OT.val (OT.tmp rfl) (congrArg (Value.int _) (by unfold hexZ; simp [IntKind.wrap, IntKind.bits, IntKind.signed] at *; (repeat' split) <;> omega))) trivial (by exact picks_nil)
      · skip
        refine tr_skip ?_
        refine then_normal ?_
        refine tr_seq ?_
        -- region 7
        refine tr_env es_nil ?_
        refine tr_region ?_
        refine op_pure (pu_assign OT.const) rfl rfl ?_
        refine tr_nil ?_
        refine then_normal ?_
        refine tr_ret ?_
        exact ret_one .ret (.inl rfl) rfl () (OT.val (OT.tmp rfl) (congrArg (Value.int _) (by unfold hexZ; simp [IntKind.wrap, IntKind.bits, IntKind.signed] at *; (repeat' split) <;> omega))) trivial (by exact picks_nil)
set_option maxRecDepth 20000 in
/-- rhizome/rhizomeref02.escape -/
theorem rEscape_fn (l : List UInt8) (i : Nat) (hl : l.length ≤ 1000000) (hi : i ≤ 1000000) : Ct Tryd.prog 49 [BsT l, I64 (i : Int)] ([]) Unit (fun _ => TupT [I64 (escZ (l.drop (i + 1))).1, I64 (escZ (l.drop (i + 1))).2]) (fun _ => []) (fun _ => True) := by
  refine fn_intro Tryd.func49 rfl rfl ?_
  intro H w
  refine tr_seq ?_
  -- region 0
  refine tr_env (es_cons (t := 0) (OT.tmp rfl) (es_cons (t := 1) (OT.tmp rfl) es_nil)) ?_
  refine tr_region ?_
  refine op_pure (pu_assign OT.const) rfl rfl ?_
  refine op_pure (pu_assign OT.const) rfl rfl ?_
  refine tr_nil ?_
  refine then_normal ?_
  refine tr_seq ?_
  refine tr_seq ?_
  -- region 1
  refine tr_env (es_cons (t := 0) (OT.tmp rfl) (es_cons (t := 1) (OT.tmp rfl) es_nil)) ?_
  refine tr_region ?_
  refine op_pure (pu_move (OT.tmp rfl)) rfl rfl ?_
  refine op_pure (pu_add' (OT.tmp rfl) OT.const (by omega)) rfl rfl ?_
  refine op_pure (pu_move (OT.tmp rfl)) rfl rfl ?_
  refine op_pure (pu_len_bs Tryd.underlying9 (OT.tmp rfl)) rfl rfl ?_
  refine op_pure (pu_geq (OT.tmp rfl) (OT.tmp rfl)) rfl rfl ?_
  refine tr_nil ?_
  refine then_normal ?_
  refine tr_cond (OT.tmp rfl) (fun c12 => ?_) (fun c12 => ?_)
  · skip
    have hr : escZ (l.drop (i + 1)) = (0, 0) := by rw [List.drop_of_length_le (by simp at c12; omega)]; rfl
    refine tr_seq ?_
    -- region 2
    refine tr_env es_nil ?_
    refine tr_region ?_
    refine op_pure (pu_assign OT.const) rfl rfl ?_
    refine op_pure (pu_assign OT.const) rfl rfl ?_
    refine tr_nil ?_
    refine then_normal ?_
    refine tr_ret ?_
    refine then_ret ?_
    exact ret_two .ret (.inl rfl) rfl () (OT.val (OT.tmp rfl) (congrArg (Value.int _) (congrArg Prod.fst hr).symm)) (OT.val (OT.tmp rfl) (congrArg (Value.int _) (congrArg Prod.snd hr).symm)) (fun _ _ h => h) trivial (by exact picks_nil)
  · skip
    have hil : i + 1 < l.length := by simp at c12; omega
    obtain ⟨b, hb⟩ : ∃ b, l[i + 1] = b := ⟨_, rfl⟩
    obtain ⟨r, hrd⟩ : ∃ r, l.drop (i + 1 + 1) = r := ⟨_, rfl⟩
    have hdx : l.drop (i + 1) = b :: r := by rw [List.drop_eq_getElem_cons hil, hb, hrd]
    have hrl : r.length = l.length - (i + 2) := by rw [← hrd, List.length_drop]
    have hat : at' (nums l) ((i : Int) + 1) = (b.toNat : Int) := by rw [show (i : Int) + 1 = ((i + 1 : Nat) : Int) from rfl, at'_nat (by simpa using hil)]; simp [nums, hb]
    have hbl := b.toNat_lt
    rw [hdx]
    refine tr_skip ?_
    refine then_normal ?_
    refine tr_seq ?_
    refine tr_seq ?_
    -- region 3
    refine tr_env (es_cons (t := 0) (OT.tmp rfl) (es_cons (t := 1) (OT.tmp rfl) es_nil)) ?_
    refine tr_region ?_
    refine op_pure (pu_move (OT.tmp rfl)) rfl rfl ?_
    refine op_pure (pu_move (OT.tmp rfl)) rfl rfl ?_
    refine op_pure (pu_add' (OT.tmp rfl) OT.const (by omega)) rfl rfl ?_
    refine op_pure (pu_bs_index (OT.tmp rfl) (OT.tmp rfl) Tryd.underlying9 (by omega) (by omega)) rfl rfl ?_
    refine tr_nil ?_
    refine then_normal ?_
    refine tr_block ?_
    refine tr_seq ?_
    refine tr_seq ?_
    -- region 4
    refine tr_env (es_cons (t := 0) (OT.tmp rfl) (es_cons (t := 1) (OT.tmp rfl) (es_cons (t := 16) (OT.tmp rfl) es_nil))) ?_
    rw [hat]
    refine tr_region ?_
    refine op_pure (pu_eql (OT.tmp rfl) OT.const) rfl rfl ?_
    refine op_pure (pu_assign (OT.tmp rfl)) rfl rfl ?_
    refine tr_nil ?_
    refine then_normal ?_
    refine tr_cond (OT.tmp rfl) (fun c17 => ?_) (fun c17 => ?_)
    · skip
      refine tr_skip ?_
      refine then_normal ?_
      refine tr_cond (OT.tmp rfl) (fun c17 => ?_) (fun c17 => ?_)
      · skip
        refine tr_seq ?_
        -- region 6
        refine tr_env (es_cons (t := 0) (OT.tmp rfl) (es_cons (t := 1) (OT.tmp rfl) es_nil)) ?_
        have hb2 : b.toNat = 34 ∨ b.toNat = 92 := (by simp only [decide_eq_true_eq, decide_eq_false_iff_not] at *; omega)
        have hr := escZ_some (x := b :: r) (n := b.toNat) (m := 2) (by rw [refE_cons, if_pos hb2])
        refine tr_region ?_
        refine op_pure (pu_move (OT.tmp rfl)) rfl rfl ?_
        refine op_pure (pu_move (OT.tmp rfl)) rfl rfl ?_
        refine op_pure (pu_add' (OT.tmp rfl) OT.const (by omega)) rfl rfl ?_
        refine op_pure (pu_bs_index (OT.tmp rfl) (OT.tmp rfl) Tryd.underlying9 (by omega) (by omega)) rfl rfl ?_
        rw [hat]
        refine op_pure (pu_convert' (OT.tmp rfl) Tryd.underlying5 Tryd.underlying3 (by omega) (by omega) rfl) rfl rfl ?_
        refine op_pure (pu_assign (OT.tmp rfl)) rfl rfl ?_
        refine op_pure (pu_assign OT.const) rfl rfl ?_
        refine tr_nil ?_
        refine then_normal ?_
        refine tr_ret ?_
        refine block_ret ?_
        refine then_ret ?_
        exact ret_two .ret (.inl rfl) rfl () (OT.val (OT.tmp rfl) (congrArg (Value.int _) (congrArg Prod.fst hr).symm)) (OT.val (OT.tmp rfl) (congrArg (Value.int _) (congrArg Prod.snd hr).symm)) (fun _ _ h => h) trivial (by exact picks_nil)
      · skip
        refine tr_seq ?_
        -- region 7
        refine tr_env (es_cons (t := 0) (OT.tmp rfl) (es_cons (t := 1) (OT.tmp rfl) (es_cons (t := 16) (OT.tmp rfl) es_nil))) ?_
        refine tr_region ?_
        refine op_pure (pu_eql (OT.tmp rfl) OT.const) rfl rfl ?_
        refine op_pure (pu_assign (OT.tmp rfl)) rfl rfl ?_
        refine tr_nil ?_
        refine then_normal ?_
        refine tr_cond (OT.tmp rfl) (fun c25 => ?_) (fun c25 => ?_)
        · skip
          refine tr_seq ?_
          -- region 8
          refine tr_env es_nil ?_
          have hr := escZ_some (x := b :: r) (n := 10) (m := 2) (by rw [refE_cons, if_neg (by simp only [decide_eq_true_eq, decide_eq_false_iff_not] at *; omega), if_pos (by simp only [decide_eq_true_eq, decide_eq_false_iff_not] at *; omega)])
          refine tr_region ?_
          refine op_pure (pu_assign OT.const) rfl rfl ?_
          refine op_pure (pu_assign OT.const) rfl rfl ?_
          refine tr_nil ?_
          refine then_normal ?_
          refine tr_ret ?_
          refine block_ret ?_
          refine then_ret ?_
          exact ret_two .ret (.inl rfl) rfl () (OT.val (OT.tmp rfl) (congrArg (Value.int _) (congrArg Prod.fst hr).symm)) (OT.val (OT.tmp rfl) (congrArg (Value.int _) (congrArg Prod.snd hr).symm)) (fun _ _ h => h) trivial (by exact picks_nil)
        · skip
          refine tr_seq ?_
          -- region 9
          refine tr_env (es_cons (t := 0) (OT.tmp rfl) (es_cons (t := 1) (OT.tmp rfl) (es_cons (t := 16) (OT.tmp rfl) es_nil))) ?_
          refine tr_region ?_
          refine op_pure (pu_eql (OT.tmp rfl) OT.const) rfl rfl ?_
          refine op_pure (pu_assign (OT.tmp rfl)) rfl rfl ?_
          refine tr_nil ?_
          refine then_normal ?_
          refine tr_cond (OT.tmp rfl) (fun c27 => ?_) (fun c27 => ?_)
          · skip
            refine tr_seq ?_
            -- region 10
            refine tr_env es_nil ?_
            have hr := escZ_some (x := b :: r) (n := 9) (m := 2) (by rw [refE_cons, if_neg (by simp only [decide_eq_true_eq, decide_eq_false_iff_not] at *; omega), if_neg (by simp only [decide_eq_true_eq, decide_eq_false_iff_not] at *; omega), if_pos (by simp only [decide_eq_true_eq, decide_eq_false_iff_not] at *; omega)])
            refine tr_region ?_
            refine op_pure (pu_assign OT.const) rfl rfl ?_
            refine op_pure (pu_assign OT.const) rfl rfl ?_
            refine tr_nil ?_
            refine then_normal ?_
            refine tr_ret ?_
            refine block_ret ?_
            refine then_ret ?_
            exact ret_two .ret (.inl rfl) rfl () (OT.val (OT.tmp rfl) (congrArg (Value.int _) (congrArg Prod.fst hr).symm)) (OT.val (OT.tmp rfl) (congrArg (Value.int _) (congrArg Prod.snd hr).symm)) (fun _ _ h => h) trivial (by exact picks_nil)
          · skip
            refine tr_skip ?_
            refine block_normal ?_
            refine then_normal ?_
            refine tr_seq ?_
            refine tr_seq ?_
            -- region 11
            refine tr_env (es_cons (t := 0) (OT.tmp rfl) (es_cons (t := 1) (OT.tmp rfl) es_nil)) ?_
            have h34 : ¬ (b.toNat = 34 ∨ b.toNat = 92) := (by simp only [decide_eq_true_eq, decide_eq_false_iff_not] at *; omega)
            have h110 : ¬ b.toNat = 110 := (by simp only [decide_eq_true_eq, decide_eq_false_iff_not] at *; omega)
            have h116 : ¬ b.toNat = 116 := (by simp only [decide_eq_true_eq, decide_eq_false_iff_not] at *; omega)
            have hat2 : i + 2 < l.length → at' (nums l) ((i : Int) + 2) = (bt r 0 : Int) := fun h => by have h9 := bt_drop (l := l) (i := i + 2) (j := 0) (by omega); rw [show (i : Int) + 2 = ((i + 2 + 0 : Nat) : Int) from rfl, h9, hrd]
            refine tr_region ?_
            refine op_pure (pu_move (OT.tmp rfl)) rfl rfl ?_
            refine op_pure (pu_move (OT.tmp rfl)) rfl rfl ?_
            refine op_pure (pu_add' (OT.tmp rfl) OT.const (by omega)) rfl rfl ?_
            refine op_pure (pu_bs_index (OT.tmp rfl) (OT.tmp rfl) Tryd.underlying9 (by omega) (by omega)) rfl rfl ?_
            refine op_pure (pu_neq (OT.tmp rfl) OT.const) rfl rfl ?_
            refine op_pure (pu_move (OT.tmp rfl)) rfl rfl ?_
            refine op_gu rfl rfl rfl (OT.gu_mk (OT.tmp rfl)) (fun hg => by (have hg1 := hg.2; (try simp only [decide_eq_true_eq, decide_eq_false_iff_not] at hg1); exact pu_move (by exact OT.tmp rfl))) rfl ?_
            refine op_gu rfl rfl rfl (OT.gu_mk (OT.tmp rfl)) (fun hg => by (have hg1 := hg.2; (try simp only [decide_eq_true_eq, decide_eq_false_iff_not] at hg1); exact pu_add' (by exact OT.gu (OT.tmp rfl) hg) OT.const (by omega))) rfl ?_
            refine op_gu rfl rfl rfl (OT.gu_mk (OT.tmp rfl)) (fun hg => by (have hg1 := hg.2; (try simp only [decide_eq_true_eq, decide_eq_false_iff_not] at hg1); exact pu_move (by exact OT.tmp rfl))) rfl ?_
            refine op_gu rfl rfl rfl (OT.gu_mk (OT.tmp rfl)) (fun hg => by (have hg1 := hg.2; (try simp only [decide_eq_true_eq, decide_eq_false_iff_not] at hg1); exact pu_len_bs Tryd.underlying9 (by exact OT.gu (OT.tmp rfl) hg))) rfl ?_
            refine op_gu rfl rfl rfl (OT.gu_mk (OT.tmp rfl)) (fun hg => by (have hg1 := hg.2; (try simp only [decide_eq_true_eq, decide_eq_false_iff_not] at hg1); exact pu_geq (by exact OT.gu (OT.tmp rfl) hg) (by exact OT.gu (OT.tmp rfl) hg))) rfl ?_
            refine op_pure (pu_pick_or (OT.tmp rfl) (by exact OT.tmp rfl)) rfl rfl ?_
            refine op_pure (pu_move (OT.tmp rfl)) rfl rfl ?_
            refine op_gu rfl rfl rfl (OT.gu_mk (OT.tmp rfl)) (fun hg => by (have hg1 := hg.2; (try simp only [decide_eq_true_eq, decide_eq_false_iff_not] at hg1); exact pu_move (by exact OT.tmp rfl))) rfl ?_
            refine op_gu rfl rfl rfl (OT.gu_mk (OT.tmp rfl)) (fun hg => by (have hg1 := hg.2; (try simp only [decide_eq_true_eq, decide_eq_false_iff_not] at hg1); exact pu_move (by exact OT.tmp rfl))) rfl ?_
            refine op_gu rfl rfl rfl (OT.gu_mk (OT.tmp rfl)) (fun hg => by (have hg1 := hg.2; (try simp only [decide_eq_true_eq, decide_eq_false_iff_not] at hg1); exact pu_add' (by exact OT.gu (OT.tmp rfl) hg) OT.const (by omega))) rfl ?_
            refine op_gu rfl rfl rfl (OT.gu_mk (OT.tmp rfl)) (fun hg => by (have hg1 := hg.2; (try simp only [decide_eq_true_eq, decide_eq_false_iff_not] at hg1); exact pu_bs_index (by exact OT.gu (OT.tmp rfl) hg) (by exact OT.gu (OT.tmp rfl) hg) Tryd.underlying9 (by omega) (by (simp [maxLen] at *; omega)))) rfl ?_
            refine op_gu rfl rfl rfl (OT.gu_mk (OT.tmp rfl)) (fun hg => by (have hg1 := hg.2; (try simp only [decide_eq_true_eq, decide_eq_false_iff_not] at hg1); exact pu_neq (by exact OT.gu (OT.tmp rfl) hg) OT.const)) rfl ?_
            refine op_pure (pu_pick_or (OT.tmp rfl) (by exact OT.tmp rfl)) rfl rfl ?_
            refine tr_nil ?_
            refine then_normal ?_
            refine tr_cond (OT.tmp rfl) (fun c47 => ?_) (fun c47 => ?_)
            · skip
              have hno : b.toNat ≠ 117 ∨ r = [] ∨ bt r 0 ≠ 123 := by
                by_cases h2 : i + 2 < l.length
                · rw [hat, hat2 h2] at c47; simp at c47; omega
                · exact .inr (.inl (List.length_eq_zero_iff.1 (by omega)))
              have hr := escZ_none (refE_no h34 h110 h116 hno)
              refine tr_seq ?_
              -- region 12
              refine tr_env es_nil ?_
              refine tr_region ?_
              refine op_pure (pu_assign OT.const) rfl rfl ?_
              refine op_pure (pu_assign OT.const) rfl rfl ?_
              refine tr_nil ?_
              refine then_normal ?_
              refine tr_ret ?_
              refine then_ret ?_
              exact ret_two .ret (.inl rfl) rfl () (OT.val (OT.tmp rfl) (congrArg (Value.int _) (congrArg Prod.fst hr).symm)) (OT.val (OT.tmp rfl) (congrArg (Value.int _) (congrArg Prod.snd hr).symm)) (fun _ _ h => h) trivial (by exact picks_nil)
            · skip
              have hl2 : i + 2 < l.length := by simp at c47; omega
              rw [hat, hat2 hl2] at c47
              have h117 : b.toNat = 117 := by simp at c47; omega
              have h123 : bt r 0 = 123 := by simp at c47; omega
              obtain ⟨c, y, rfl⟩ : ∃ c y, r = c :: y := by
                cases r with
                | nil => simp at hrl; omega
                | cons c y => exact ⟨c, y, rfl⟩
              have hc3 : c.toNat = 123 := h123
              have hyd : l.drop (i + 3) = y := by
                have h9 := congrArg (List.drop 1) hrd
                rw [List.drop_drop] at h9
                exact h9
              have hyl : y.length = l.length - (i + 3) := by rw [← hyd, List.length_drop]
              have hatf : ∀ (j : Nat) (h : j < y.length), at' (nums l) ((i : Int) + 3 + (j : Int)) = ((y[j]).toNat : Int) := fun j h => by
                have h9 := at_get (l := l) (i := i + 3) (j := j) (by rw [hyd]; exact h) (z := (i : Int) + 3 + j) (by omega)
                simp only [hyd] at h9
                exact h9
              refine tr_skip ?_
              refine then_normal ?_
              refine tr_seq ?_
              -- region 13
              refine tr_env (es_cons (t := 0) (OT.tmp rfl) (es_cons (t := 1) (OT.tmp rfl) es_nil)) ?_
              refine tr_region ?_
              refine op_pure (pu_assign OT.const) rfl rfl ?_
              refine tr_nil ?_
              refine then_normal ?_
              refine tr_seq ?_
              -- region 14
              refine tr_env (es_cons (t := 0) (OT.tmp rfl) (es_cons (t := 1) (OT.tmp rfl) (es_cons (t := 6) (OT.tmp rfl) es_nil))) ?_
              refine tr_region ?_
              refine op_pure (pu_move (OT.tmp rfl)) rfl rfl ?_
              refine op_pure (pu_add' (OT.tmp rfl) OT.const (by omega)) rfl rfl ?_
              refine op_pure (pu_assign (OT.tmp rfl)) rfl rfl ?_
              refine tr_nil ?_
              refine then_normal ?_
              refine tr_seq ?_
              refine tr_block ?_
              refine tr_loopK (σ := Nat × Nat) (es_cons (t := 0) (OT.tmp rfl) (es_cons (t := 1) (OT.tmp rfl) es_nil)) (fun s => [(7, I64 ((i : Int) + 3 + (s.1 : Int))), (6, I64 (s.2 : Int))]) (fun s => []) (fun s => HrAt y s.1 s.2) (fun s => 6 - s.1) (0, 0) (hrAt_0 y) ?_ (own_picks (by exact picks_nil)) ?_
              · exact (es_cons (t := 7) (OT.val (OT.tmp rfl) (congrArg (Value.int _) (show (i : Int) + 3 = (i : Int) + 3 + ((0 : Nat) : Int) from by omega))) (es_cons (t := 6) (OT.tmp rfl) es_nil))
              · rintro ⟨j, a⟩ hH
                dsimp only at hH ⊢
                refine tr_seq ?_
                refine tr_seq ?_
                -- region 15
                refine tr_env (es_cons (t := 0) (OT.tmp rfl) (es_cons (t := 1) (OT.tmp rfl) (es_cons (t := 6) (OT.tmp rfl) (es_cons (t := 7) (OT.tmp rfl) es_nil)))) ?_
                have hab : a < 16777216 := Nat.lt_of_lt_of_le hH.2.2.1 (Nat.pow_le_pow_right (by omega) hH.1)
                have hj6 := hH.1
                refine tr_region ?_
                refine op_pure (pu_move (OT.tmp rfl)) rfl rfl ?_
                refine op_pure (pu_move (OT.tmp rfl)) rfl rfl ?_
                refine op_pure (pu_len_bs Tryd.underlying9 (OT.tmp rfl)) rfl rfl ?_
                refine op_pure (pu_lss (OT.tmp rfl) (OT.tmp rfl)) rfl rfl ?_
                refine op_pure (pu_move (OT.tmp rfl)) rfl rfl ?_
                refine op_gu rfl rfl rfl (OT.gu_mk (OT.tmp rfl)) (fun hg => by (have hg1 := hg.2; (try simp only [decide_eq_true_eq, decide_eq_false_iff_not] at hg1); exact pu_move (by exact OT.tmp rfl))) rfl ?_
                refine op_gu rfl rfl rfl (OT.gu_mk (OT.tmp rfl)) (fun hg => by (have hg1 := hg.2; (try simp only [decide_eq_true_eq, decide_eq_false_iff_not] at hg1); exact pu_move (by exact OT.tmp rfl))) rfl ?_
                refine op_gu rfl rfl rfl (OT.gu_mk (OT.tmp rfl)) (fun hg => by (have hg1 := hg.2; (try simp only [decide_eq_true_eq, decide_eq_false_iff_not] at hg1); exact pu_add' (by exact OT.gu (OT.tmp rfl) hg) OT.const (by omega))) rfl ?_
                refine op_gu rfl rfl rfl (OT.gu_mk (OT.tmp rfl)) (fun hg => by (have hg1 := hg.2; (try simp only [decide_eq_true_eq, decide_eq_false_iff_not] at hg1); exact pu_lss (by exact OT.gu (OT.tmp rfl) hg) (by exact OT.gu (OT.tmp rfl) hg))) rfl ?_
                refine op_pure (pu_pick_and (OT.tmp rfl) (by exact OT.tmp rfl)) rfl rfl ?_
                refine op_pure (pu_move (OT.tmp rfl)) rfl rfl ?_
                refine op_gu rfl rfl rfl (OT.gu_mk (OT.tmp rfl)) (fun hg => by (have hg1 := hg.2; (try simp only [decide_eq_true_eq, decide_eq_false_iff_not] at hg1); exact pu_move (by exact OT.tmp rfl))) rfl ?_
                refine op_gu rfl rfl rfl (OT.gu_mk (OT.tmp rfl)) (fun hg => by (have hg1 := hg.2; (try simp only [decide_eq_true_eq, decide_eq_false_iff_not] at hg1); exact pu_move (by exact OT.tmp rfl))) rfl ?_
                refine op_gu rfl rfl rfl (OT.gu_mk (OT.tmp rfl)) (fun hg => by (have hg1 := hg.2; (try simp only [decide_eq_true_eq, decide_eq_false_iff_not] at hg1); exact pu_bs_index (by exact OT.gu (OT.tmp rfl) hg) (by exact OT.gu (OT.tmp rfl) hg) Tryd.underlying9 (by omega) (by (simp [maxLen] at *; omega)))) rfl ?_
                refine op_gu_acts () rfl rfl rfl (OT.gu_mk (OT.tmp rfl)) (fun hg => by (have hg1 := hg.2; (try simp only [decide_eq_true_eq, decide_eq_false_iff_not] at hg1); exact acts_call (rDigit_fn _) (show enters Tryd.prog 70 = true from by decide +kernel) (OTs.cons (by exact OT.gu (OT.tmp rfl) hg) OTs.nil) (List.Perm.refl _))) rfl (fun _ _ => ?_)
                refine op_gu rfl rfl rfl (OT.gu_mk (OT.tmp rfl)) (fun hg => by (have hg1 := hg.2; (try simp only [decide_eq_true_eq, decide_eq_false_iff_not] at hg1); exact pu_geq (by exact OT.gu (OT.tmp rfl) hg) OT.const)) rfl ?_
                refine op_pure (pu_pick_and (OT.tmp rfl) (by exact OT.tmp rfl)) rfl rfl ?_
                refine tr_nil ?_
                refine then_normal ?_
                refine tr_cond (OT.tmp rfl) (fun c66 => ?_) (fun c66 => ?_)
                · skip
                  refine tr_skip ?_
                  refine then_normal ?_
                  refine tr_block ?_
                  refine tr_seq ?_
                  -- region 16
                  refine tr_env (es_cons (t := 0) (OT.tmp rfl) (es_cons (t := 1) (OT.tmp rfl) (es_cons (t := 6) (OT.tmp rfl) (es_cons (t := 7) (OT.tmp rfl) es_nil)))) ?_
                  have hjl : j < y.length := by simp at c66; omega
                  have h6 : j < 6 := by simp at c66; omega
                  have hatj := hatf j hjl
                  have hx : hexD y[j] < 16 := by
                    rcases Nat.lt_or_ge (hexD y[j]) 16 with h | h
                    · exact h
                    · exfalso; rw [hatj, hexZ_is, if_neg (by omega)] at c66; simp at c66
                  have hzj : hexZ (at' (nums l) ((i : Int) + 3 + (j : Int))) = (hexD y[j] : Int) := by rw [hatj, hexZ_is, if_pos hx]
                  refine tr_region ?_
                  refine op_pure (pu_move (OT.tmp rfl)) rfl rfl ?_
                  refine op_pure (pu_mul' (OT.tmp rfl) OT.const (by omega)) rfl rfl ?_
                  refine op_pure (pu_move (OT.tmp rfl)) rfl rfl ?_
                  refine op_pure (pu_move (OT.tmp rfl)) rfl rfl ?_
                  refine op_pure (pu_bs_index (OT.tmp rfl) (OT.tmp rfl) Tryd.underlying9 (by omega) (by omega)) rfl rfl ?_
                  refine op_acts (acts_call (rDigit_fn _) (show enters Tryd.prog 70 = true from by decide +kernel) (OTs.cons (OT.tmp rfl) OTs.nil) (List.Perm.refl _)) (List.Perm.refl _) rfl rfl (fun _ _ => ?_)
                  refine op_pure (pu_add' (OT.tmp rfl) (OT.tmp rfl) (by omega)) rfl rfl ?_
                  refine op_pure (pu_assign (OT.tmp rfl)) rfl rfl ?_
                  refine tr_nil ?_
                  refine then_normal ?_
                  -- region 17
                  refine tr_env (es_cons (t := 0) (OT.tmp rfl) (es_cons (t := 1) (OT.tmp rfl) (es_cons (t := 6) (OT.tmp rfl) (es_cons (t := 7) (OT.tmp rfl) es_nil)))) ?_
                  rw [hzj]
                  refine tr_region ?_
                  refine op_pure (pu_move (OT.tmp rfl)) rfl rfl ?_
                  refine op_pure (pu_add' (OT.tmp rfl) OT.const (by omega)) rfl rfl ?_
                  refine op_pure (pu_assign (OT.tmp rfl)) rfl rfl ?_
                  refine tr_nil ?_
                  refine block_normal ?_
                  refine then_normal ?_
                  exact tr_again (j + 1, a * 16 + hexD y[j]) (hrAt_next hH h6 hjl hx) (by show 6 - (j + 1) < 6 - j; omega) (es_append (es_cons (t := 7) (by exact OT.tmp rfl) (es_cons (t := 6) (by exact OT.tmp rfl) es_nil)) (es_cons (t := 0) (OT.tmp rfl) (es_cons (t := 1) (OT.tmp rfl) es_nil))) (own_picks (by exact picks_nil))
                · skip
                  refine tr_exit ?_
                  refine then_exit ?_
                  refine then_exit ?_
                  refine block_hit ?_
                  refine then_normal ?_
                  refine tr_seq ?_
                  refine tr_seq ?_
                  -- region 18
                  refine tr_env (es_cons (t := 0) (OT.tmp rfl) (es_cons (t := 1) (OT.tmp rfl) (es_cons (t := 6) (OT.tmp rfl) (es_cons (t := 7) (OT.tmp rfl) es_nil)))) ?_
                  have hend := hrAt_end hH (by
                    rintro ⟨q1, q2, q3⟩
                    rw [hatf j q1, hexZ_is, if_pos (q3 q1)] at c66
                    simp at c66
                    omega)
                  have heq := refE_run h117 hc3 hend
                  refine tr_region ?_
                  refine op_pure (pu_move (OT.tmp rfl)) rfl rfl ?_
                  refine op_pure (pu_move (OT.tmp rfl)) rfl rfl ?_
                  refine op_pure (pu_add' (OT.tmp rfl) OT.const (by omega)) rfl rfl ?_
                  refine op_pure (pu_eql (OT.tmp rfl) (OT.tmp rfl)) rfl rfl ?_
                  refine op_pure (pu_move (OT.tmp rfl)) rfl rfl ?_
                  refine op_gu rfl rfl rfl (OT.gu_mk (OT.tmp rfl)) (fun hg => by (have hg1 := hg.2; (try simp only [decide_eq_true_eq, decide_eq_false_iff_not] at hg1); exact pu_move (by exact OT.tmp rfl))) rfl ?_
                  refine op_gu rfl rfl rfl (OT.gu_mk (OT.tmp rfl)) (fun hg => by (have hg1 := hg.2; (try simp only [decide_eq_true_eq, decide_eq_false_iff_not] at hg1); exact pu_move (by exact OT.tmp rfl))) rfl ?_
                  refine op_gu rfl rfl rfl (OT.gu_mk (OT.tmp rfl)) (fun hg => by (have hg1 := hg.2; (try simp only [decide_eq_true_eq, decide_eq_false_iff_not] at hg1); exact pu_len_bs Tryd.underlying9 (by exact OT.gu (OT.tmp rfl) hg))) rfl ?_
                  refine op_gu rfl rfl rfl (OT.gu_mk (OT.tmp rfl)) (fun hg => by (have hg1 := hg.2; (try simp only [decide_eq_true_eq, decide_eq_false_iff_not] at hg1); exact pu_geq (by exact OT.gu (OT.tmp rfl) hg) (by exact OT.gu (OT.tmp rfl) hg))) rfl ?_
                  refine op_pure (pu_pick_or (OT.tmp rfl) (by exact OT.tmp rfl)) rfl rfl ?_
                  refine op_pure (pu_move (OT.tmp rfl)) rfl rfl ?_
                  refine op_gu rfl rfl rfl (OT.gu_mk (OT.tmp rfl)) (fun hg => by (have hg1 := hg.2; (try simp only [decide_eq_true_eq, decide_eq_false_iff_not] at hg1); exact pu_move (by exact OT.tmp rfl))) rfl ?_
                  refine op_gu rfl rfl rfl (OT.gu_mk (OT.tmp rfl)) (fun hg => by (have hg1 := hg.2; (try simp only [decide_eq_true_eq, decide_eq_false_iff_not] at hg1); exact pu_move (by exact OT.tmp rfl))) rfl ?_
                  refine op_gu rfl rfl rfl (OT.gu_mk (OT.tmp rfl)) (fun hg => by (have hg1 := hg.2; (try simp only [decide_eq_true_eq, decide_eq_false_iff_not] at hg1); exact pu_bs_index (by exact OT.gu (OT.tmp rfl) hg) (by exact OT.gu (OT.tmp rfl) hg) Tryd.underlying9 (by omega) (by (simp [maxLen] at *; omega)))) rfl ?_
                  refine op_gu rfl rfl rfl (OT.gu_mk (OT.tmp rfl)) (fun hg => by (have hg1 := hg.2; (try simp only [decide_eq_true_eq, decide_eq_false_iff_not] at hg1); exact pu_neq (by exact OT.gu (OT.tmp rfl) hg) OT.const)) rfl ?_
                  refine op_pure (pu_pick_or (OT.tmp rfl) (by exact OT.tmp rfl)) rfl rfl ?_
                  refine op_pure (pu_move (OT.tmp rfl)) rfl rfl ?_
                  refine op_gu rfl rfl rfl (OT.gu_mk (OT.tmp rfl)) (fun hg => by (have hg1 := hg.2; (try simp only [decide_eq_true_eq, decide_eq_false_iff_not] at hg1); exact pu_move (by exact OT.tmp rfl))) rfl ?_
                  refine op_gu rfl rfl rfl (OT.gu_mk (OT.tmp rfl)) (fun hg => by (have hg1 := hg.2; (try simp only [decide_eq_true_eq, decide_eq_false_iff_not] at hg1); exact pu_gtr (by exact OT.gu (OT.tmp rfl) hg) OT.const)) rfl ?_
                  refine op_pure (pu_pick_or (OT.tmp rfl) (by exact OT.tmp rfl)) rfl rfl ?_
                  refine op_pure (pu_move (OT.tmp rfl)) rfl rfl ?_
                  refine op_gu rfl rfl rfl (OT.gu_mk (OT.tmp rfl)) (fun hg => by (have hg1 := hg.2; (try simp only [decide_eq_true_eq, decide_eq_false_iff_not] at hg1); exact pu_move (by exact OT.tmp rfl))) rfl ?_
                  refine op_gu rfl rfl rfl (OT.gu_mk (OT.tmp rfl)) (fun hg => by (have hg1 := hg.2; (try simp only [decide_eq_true_eq, decide_eq_false_iff_not] at hg1); exact pu_geq (by exact OT.gu (OT.tmp rfl) hg) OT.const)) rfl ?_
                  refine op_gu rfl rfl rfl (OT.gu_mk (OT.tmp rfl)) (fun hg => by (have hg1 := hg.2; (try simp only [decide_eq_true_eq, decide_eq_false_iff_not] at hg1); exact pu_move (by exact OT.gu (OT.tmp rfl) hg))) rfl ?_
                  refine op_gu rfl rfl rfl (OT.tmp rfl) (fun hg => by (have hg1 := hg.2; (try simp only [decide_eq_true_eq, decide_eq_false_iff_not] at hg1); exact pu_move (by exact OT.tmp rfl))) rfl ?_
                  refine op_gu rfl rfl rfl (OT.tmp rfl) (fun hg => by (have hg1 := hg.2; (try simp only [decide_eq_true_eq, decide_eq_false_iff_not] at hg1); exact pu_leq (by exact OT.gu (OT.tmp rfl) hg) OT.const)) rfl ?_
                  refine op_gu rfl rfl rfl (OT.gu_mk (OT.tmp rfl)) (fun hg => by (have hg1 := hg.2; (try simp only [decide_eq_true_eq, decide_eq_false_iff_not] at hg1); exact pu_pick_and_p hg (by exact OT.gu (OT.tmp rfl) hg) (OT.tmp rfl))) rfl ?_
                  refine op_pure (pu_pick_or (OT.tmp rfl) (by exact OT.tmp rfl)) rfl rfl ?_
                  refine tr_nil ?_
                  refine then_normal ?_
                  refine tr_cond (OT.tmp rfl) (fun c103 => ?_) (fun c103 => ?_)
                  · skip
                    have hr := escZ_none (x := b :: c :: y) (by
                      rw [heq, if_pos]
                      refine Classical.byContradiction fun hc => ?_
                      have q1 := fun e => hc (.inl e)
                      have q2 := Classical.byContradiction fun e => hc (.inr (.inl e))
                      have q3 := Classical.byContradiction fun e => hc (.inr (.inr e))
                      obtain ⟨q4, q5⟩ := get_125.1 q2
                      rw [hatf j q4, q5] at c103
                      unfold isRune at q3
                      simp at c103
                      omega)
                    refine tr_seq ?_
                    -- region 19
                    refine tr_env es_nil ?_
                    refine tr_region ?_
                    refine op_pure (pu_assign OT.const) rfl rfl ?_
                    refine op_pure (pu_assign OT.const) rfl rfl ?_
                    refine tr_nil ?_
                    refine then_normal ?_
                    refine tr_ret ?_
                    refine then_ret ?_
                    exact ret_two .ret (.inl rfl) rfl () (OT.val (OT.tmp rfl) (congrArg (Value.int _) (congrArg Prod.fst hr).symm)) (OT.val (OT.tmp rfl) (congrArg (Value.int _) (congrArg Prod.snd hr).symm)) (fun _ _ h => h) trivial (by exact picks_nil)
                  · skip
                    have hjl : j < y.length := by simp at c103; omega
                    rw [hatf j hjl] at c103
                    simp only [Bool.or_eq_false_iff, Bool.and_eq_false_iff, decide_eq_false_iff_not, decide_eq_true_eq, ne_eq, Classical.not_not] at c103
                    have hr := escZ_some (x := b :: c :: y) (n := a) (m := j + 4) (by
                      rw [heq, if_neg]
                      rintro (h | h | h)
                      · omega
                      · exact h (get_125.2 ⟨hjl, by omega⟩)
                      · unfold isRune at h; omega)
                    refine tr_skip ?_
                    refine then_normal ?_
                    refine tr_seq ?_
                    -- region 20
                    refine tr_env (es_cons (t := 1) (OT.tmp rfl) (es_cons (t := 6) (OT.tmp rfl) (es_cons (t := 7) (OT.tmp rfl) es_nil))) ?_
                    refine tr_region ?_
                    refine op_pure (pu_move (OT.tmp rfl)) rfl rfl ?_
                    refine op_pure (pu_move (OT.tmp rfl)) rfl rfl ?_
                    refine op_pure (pu_add' (OT.tmp rfl) OT.const (by omega)) rfl rfl ?_
                    refine op_pure (pu_move (OT.tmp rfl)) rfl rfl ?_
                    refine op_pure (pu_sub' (OT.tmp rfl) (OT.tmp rfl) (by omega)) rfl rfl ?_
                    refine op_pure (pu_assign (OT.tmp rfl)) rfl rfl ?_
                    refine op_pure (pu_assign (OT.tmp rfl)) rfl rfl ?_
                    refine tr_nil ?_
                    refine then_normal ?_
                    refine tr_ret ?_
                    exact ret_two .ret (.inl rfl) rfl () (OT.val (OT.tmp rfl) (congrArg (Value.int _) (congrArg Prod.fst hr).symm)) (OT.val (OT.tmp rfl) (congrArg (Value.int _) (by rw [hr]; show _ = ((j + 4 : Nat) : Int); omega))) (fun _ _ h => h) trivial (by exact picks_nil)
    · skip
      -- region 5
      refine tr_env (es_cons (t := 0) (OT.tmp rfl) (es_cons (t := 1) (OT.tmp rfl) (es_cons (t := 16) (OT.tmp rfl) es_nil))) ?_
      refine tr_region ?_
      refine op_pure (pu_eql (OT.tmp rfl) OT.const) rfl rfl ?_
      refine op_pure (pu_assign (OT.tmp rfl)) rfl rfl ?_
      refine tr_nil ?_
      refine then_normal ?_
      refine tr_cond (OT.tmp rfl) (fun c17 => ?_) (fun c17 => ?_)
      · skip
        refine tr_seq ?_
        -- region 6
        refine tr_env (es_cons (t := 0) (OT.tmp rfl) (es_cons (t := 1) (OT.tmp rfl) es_nil)) ?_
        have hb2 : b.toNat = 34 ∨ b.toNat = 92 := (by simp only [decide_eq_true_eq, decide_eq_false_iff_not] at *; omega)
        have hr := escZ_some (x := b :: r) (n := b.toNat) (m := 2) (by rw [refE_cons, if_pos hb2])
        refine tr_region ?_
        refine op_pure (pu_move (OT.tmp rfl)) rfl rfl ?_
        refine op_pure (pu_move (OT.tmp rfl)) rfl rfl ?_
        refine op_pure (pu_add' (OT.tmp rfl) OT.const (by omega)) rfl rfl ?_
        refine op_pure (pu_bs_index (OT.tmp rfl) (OT.tmp rfl) Tryd.underlying9 (by omega) (by omega)) rfl rfl ?_
        rw [hat]
        refine op_pure (pu_convert' (OT.tmp rfl) Tryd.underlying5 Tryd.underlying3 (by omega) (by omega) rfl) rfl rfl ?_
        refine op_pure (pu_assign (OT.tmp rfl)) rfl rfl ?_
        refine op_pure (pu_assign OT.const) rfl rfl ?_
        refine tr_nil ?_
        refine then_normal ?_
        refine tr_ret ?_
        refine block_ret ?_
        refine then_ret ?_
        exact ret_two .ret (.inl rfl) rfl () (OT.val (OT.tmp rfl) (congrArg (Value.int _) (congrArg Prod.fst hr).symm)) (OT.val (OT.tmp rfl) (congrArg (Value.int _) (congrArg Prod.snd hr).symm)) (fun _ _ h => h) trivial (by exact picks_nil)
      · skip
        refine tr_seq ?_
        -- region 7
        refine tr_env (es_cons (t := 0) (OT.tmp rfl) (es_cons (t := 1) (OT.tmp rfl) (es_cons (t := 16) (OT.tmp rfl) es_nil))) ?_
        refine tr_region ?_
        refine op_pure (pu_eql (OT.tmp rfl) OT.const) rfl rfl ?_
        refine op_pure (pu_assign (OT.tmp rfl)) rfl rfl ?_
        refine tr_nil ?_
        refine then_normal ?_
        refine tr_cond (OT.tmp rfl) (fun c25 => ?_) (fun c25 => ?_)
        · skip
          refine tr_seq ?_
          -- region 8
          refine tr_env es_nil ?_
          have hr := escZ_some (x := b :: r) (n := 10) (m := 2) (by rw [refE_cons, if_neg (by simp only [decide_eq_true_eq, decide_eq_false_iff_not] at *; omega), if_pos (by simp only [decide_eq_true_eq, decide_eq_false_iff_not] at *; omega)])
          refine tr_region ?_
          refine op_pure (pu_assign OT.const) rfl rfl ?_
          refine op_pure (pu_assign OT.const) rfl rfl ?_
          refine tr_nil ?_
          refine then_normal ?_
          refine tr_ret ?_
          refine block_ret ?_
          refine then_ret ?_
          exact ret_two .ret (.inl rfl) rfl () (OT.val (OT.tmp rfl) (congrArg (Value.int _) (congrArg Prod.fst hr).symm)) (OT.val (OT.tmp rfl) (congrArg (Value.int _) (congrArg Prod.snd hr).symm)) (fun _ _ h => h) trivial (by exact picks_nil)
        · skip
          refine tr_seq ?_
          -- region 9
          refine tr_env (es_cons (t := 0) (OT.tmp rfl) (es_cons (t := 1) (OT.tmp rfl) (es_cons (t := 16) (OT.tmp rfl) es_nil))) ?_
          refine tr_region ?_
          refine op_pure (pu_eql (OT.tmp rfl) OT.const) rfl rfl ?_
          refine op_pure (pu_assign (OT.tmp rfl)) rfl rfl ?_
          refine tr_nil ?_
          refine then_normal ?_
          refine tr_cond (OT.tmp rfl) (fun c27 => ?_) (fun c27 => ?_)
          · skip
            refine tr_seq ?_
            -- region 10
            refine tr_env es_nil ?_
            have hr := escZ_some (x := b :: r) (n := 9) (m := 2) (by rw [refE_cons, if_neg (by simp only [decide_eq_true_eq, decide_eq_false_iff_not] at *; omega), if_neg (by simp only [decide_eq_true_eq, decide_eq_false_iff_not] at *; omega), if_pos (by simp only [decide_eq_true_eq, decide_eq_false_iff_not] at *; omega)])
            refine tr_region ?_
            refine op_pure (pu_assign OT.const) rfl rfl ?_
            refine op_pure (pu_assign OT.const) rfl rfl ?_
            refine tr_nil ?_
            refine then_normal ?_
            refine tr_ret ?_
            refine block_ret ?_
            refine then_ret ?_
            exact ret_two .ret (.inl rfl) rfl () (OT.val (OT.tmp rfl) (congrArg (Value.int _) (congrArg Prod.fst hr).symm)) (OT.val (OT.tmp rfl) (congrArg (Value.int _) (congrArg Prod.snd hr).symm)) (fun _ _ h => h) trivial (by exact picks_nil)
          · skip
            refine tr_skip ?_
            refine block_normal ?_
            refine then_normal ?_
            refine tr_seq ?_
            refine tr_seq ?_
            -- region 11
            refine tr_env (es_cons (t := 0) (OT.tmp rfl) (es_cons (t := 1) (OT.tmp rfl) es_nil)) ?_
            have h34 : ¬ (b.toNat = 34 ∨ b.toNat = 92) := (by simp only [decide_eq_true_eq, decide_eq_false_iff_not] at *; omega)
            have h110 : ¬ b.toNat = 110 := (by simp only [decide_eq_true_eq, decide_eq_false_iff_not] at *; omega)
            have h116 : ¬ b.toNat = 116 := (by simp only [decide_eq_true_eq, decide_eq_false_iff_not] at *; omega)
            have hat2 : i + 2 < l.length → at' (nums l) ((i : Int) + 2) = (bt r 0 : Int) := fun h => by have h9 := bt_drop (l := l) (i := i + 2) (j := 0) (by omega); rw [show (i : Int) + 2 = ((i + 2 + 0 : Nat) : Int) from rfl, h9, hrd]
            refine tr_region ?_
            refine op_pure (pu_move (OT.tmp rfl)) rfl rfl ?_
            refine op_pure (pu_move (OT.tmp rfl)) rfl rfl ?_
            refine op_pure (pu_add' (OT.tmp rfl) OT.const (by omega)) rfl rfl ?_
            refine op_pure (pu_bs_index (OT.tmp rfl) (OT.tmp rfl) Tryd.underlying9 (by omega) (by omega)) rfl rfl ?_
            refine op_pure (pu_neq (OT.tmp rfl) OT.const) rfl rfl ?_
            refine op_pure (pu_move (OT.tmp rfl)) rfl rfl ?_
            refine op_gu rfl rfl rfl (OT.gu_mk (OT.tmp rfl)) (fun hg => by (have hg1 := hg.2; (try simp only [decide_eq_true_eq, decide_eq_false_iff_not] at hg1); exact pu_move (by exact OT.tmp rfl))) rfl ?_
            refine op_gu rfl rfl rfl (OT.gu_mk (OT.tmp rfl)) (fun hg => by (have hg1 := hg.2; (try simp only [decide_eq_true_eq, decide_eq_false_iff_not] at hg1); exact pu_add' (by exact OT.gu (OT.tmp rfl) hg) OT.const (by omega))) rfl ?_
            refine op_gu rfl rfl rfl (OT.gu_mk (OT.tmp rfl)) (fun hg => by (have hg1 := hg.2; (try simp only [decide_eq_true_eq, decide_eq_false_iff_not] at hg1); exact pu_move (by exact OT.tmp rfl))) rfl ?_
            refine op_gu rfl rfl rfl (OT.gu_mk (OT.tmp rfl)) (fun hg => by (have hg1 := hg.2; (try simp only [decide_eq_true_eq, decide_eq_false_iff_not] at hg1); exact pu_len_bs Tryd.underlying9 (by exact OT.gu (OT.tmp rfl) hg))) rfl ?_
            refine op_gu rfl rfl rfl (OT.gu_mk (OT.tmp rfl)) (fun hg => by (have hg1 := hg.2; (try simp only [decide_eq_true_eq, decide_eq_false_iff_not] at hg1); exact pu_geq (by exact OT.gu (OT.tmp rfl) hg) (by exact OT.gu (OT.tmp rfl) hg))) rfl ?_
            refine op_pure (pu_pick_or (OT.tmp rfl) (by exact OT.tmp rfl)) rfl rfl ?_
            refine op_pure (pu_move (OT.tmp rfl)) rfl rfl ?_
            refine op_gu rfl rfl rfl (OT.gu_mk (OT.tmp rfl)) (fun hg => by (have hg1 := hg.2; (try simp only [decide_eq_true_eq, decide_eq_false_iff_not] at hg1); exact pu_move (by exact OT.tmp rfl))) rfl ?_
            refine op_gu rfl rfl rfl (OT.gu_mk (OT.tmp rfl)) (fun hg => by (have hg1 := hg.2; (try simp only [decide_eq_true_eq, decide_eq_false_iff_not] at hg1); exact pu_move (by exact OT.tmp rfl))) rfl ?_
            refine op_gu rfl rfl rfl (OT.gu_mk (OT.tmp rfl)) (fun hg => by (have hg1 := hg.2; (try simp only [decide_eq_true_eq, decide_eq_false_iff_not] at hg1); exact pu_add' (by exact OT.gu (OT.tmp rfl) hg) OT.const (by omega))) rfl ?_
            refine op_gu rfl rfl rfl (OT.gu_mk (OT.tmp rfl)) (fun hg => by (have hg1 := hg.2; (try simp only [decide_eq_true_eq, decide_eq_false_iff_not] at hg1); exact pu_bs_index (by exact OT.gu (OT.tmp rfl) hg) (by exact OT.gu (OT.tmp rfl) hg) Tryd.underlying9 (by omega) (by (simp [maxLen] at *; omega)))) rfl ?_
            refine op_gu rfl rfl rfl (OT.gu_mk (OT.tmp rfl)) (fun hg => by (have hg1 := hg.2; (try simp only [decide_eq_true_eq, decide_eq_false_iff_not] at hg1); exact pu_neq (by exact OT.gu (OT.tmp rfl) hg) OT.const)) rfl ?_
            refine op_pure (pu_pick_or (OT.tmp rfl) (by exact OT.tmp rfl)) rfl rfl ?_
            refine tr_nil ?_
            refine then_normal ?_
            refine tr_cond (OT.tmp rfl) (fun c47 => ?_) (fun c47 => ?_)
            · skip
              have hno : b.toNat ≠ 117 ∨ r = [] ∨ bt r 0 ≠ 123 := by
                by_cases h2 : i + 2 < l.length
                · rw [hat, hat2 h2] at c47; simp at c47; omega
                · exact .inr (.inl (List.length_eq_zero_iff.1 (by omega)))
              have hr := escZ_none (refE_no h34 h110 h116 hno)
              refine tr_seq ?_
              -- region 12
              refine tr_env es_nil ?_
              refine tr_region ?_
              refine op_pure (pu_assign OT.const) rfl rfl ?_
              refine op_pure (pu_assign OT.const) rfl rfl ?_
              refine tr_nil ?_
              refine then_normal ?_
              refine tr_ret ?_
              refine then_ret ?_
              exact ret_two .ret (.inl rfl) rfl () (OT.val (OT.tmp rfl) (congrArg (Value.int _) (congrArg Prod.fst hr).symm)) (OT.val (OT.tmp rfl) (congrArg (Value.int _) (congrArg Prod.snd hr).symm)) (fun _ _ h => h) trivial (by exact picks_nil)
            · skip
              have hl2 : i + 2 < l.length := by simp at c47; omega
              rw [hat, hat2 hl2] at c47
              have h117 : b.toNat = 117 := by simp at c47; omega
              have h123 : bt r 0 = 123 := by simp at c47; omega
              obtain ⟨c, y, rfl⟩ : ∃ c y, r = c :: y := by
                cases r with
                | nil => simp at hrl; omega
                | cons c y => exact ⟨c, y, rfl⟩
              have hc3 : c.toNat = 123 := h123
              have hyd : l.drop (i + 3) = y := by
                have h9 := congrArg (List.drop 1) hrd
                rw [List.drop_drop] at h9
                exact h9
              have hyl : y.length = l.length - (i + 3) := by rw [← hyd, List.length_drop]
              have hatf : ∀ (j : Nat) (h : j < y.length), at' (nums l) ((i : Int) + 3 + (j : Int)) = ((y[j]).toNat : Int) := fun j h => by
                have h9 := at_get (l := l) (i := i + 3) (j := j) (by rw [hyd]; exact h) (z := (i : Int) + 3 + j) (by omega)
                simp only [hyd] at h9
                exact h9
              refine tr_skip ?_
              refine then_normal ?_
              refine tr_seq ?_
              -- region 13
              refine tr_env (es_cons (t := 0) (OT.tmp rfl) (es_cons (t := 1) (OT.tmp rfl) es_nil)) ?_
              refine tr_region ?_
              refine op_pure (pu_assign OT.const) rfl rfl ?_
              refine tr_nil ?_
              refine then_normal ?_
              refine tr_seq ?_
              -- region 14
              refine tr_env (es_cons (t := 0) (OT.tmp rfl) (es_cons (t := 1) (OT.tmp rfl) (es_cons (t := 6) (OT.tmp rfl) es_nil))) ?_
              refine tr_region ?_
              refine op_pure (pu_move (OT.tmp rfl)) rfl rfl ?_
              refine op_pure (pu_add' (OT.tmp rfl) OT.const (by omega)) rfl rfl ?_
              refine op_pure (pu_assign (OT.tmp rfl)) rfl rfl ?_
              refine tr_nil ?_
              refine then_normal ?_
              refine tr_seq ?_
              refine tr_block ?_
              refine tr_loopK (σ := Nat × Nat) (es_cons (t := 0) (OT.tmp rfl) (es_cons (t := 1) (OT.tmp rfl) es_nil)) (fun s => [(7, I64 ((i : Int) + 3 + (s.1 : Int))), (6, I64 (s.2 : Int))]) (fun s => []) (fun s => HrAt y s.1 s.2) (fun s => 6 - s.1) (0, 0) (hrAt_0 y) ?_ (own_picks (by exact picks_nil)) ?_
              · exact (es_cons (t := 7) (OT.val (OT.tmp rfl) (congrArg (Value.int _) (show (i : Int) + 3 = (i : Int) + 3 + ((0 : Nat) : Int) from by omega))) (es_cons (t := 6) (OT.tmp rfl) es_nil))
              · rintro ⟨j, a⟩ hH
                dsimp only at hH ⊢
                refine tr_seq ?_
                refine tr_seq ?_
                -- region 15
                refine tr_env (es_cons (t := 0) (OT.tmp rfl) (es_cons (t := 1) (OT.tmp rfl) (es_cons (t := 6) (OT.tmp rfl) (es_cons (t := 7) (OT.tmp rfl) es_nil)))) ?_
                have hab : a < 16777216 := Nat.lt_of_lt_of_le hH.2.2.1 (Nat.pow_le_pow_right (by omega) hH.1)
                have hj6 := hH.1
                refine tr_region ?_
                refine op_pure (pu_move (OT.tmp rfl)) rfl rfl ?_
                refine op_pure (pu_move (OT.tmp rfl)) rfl rfl ?_
                refine op_pure (pu_len_bs Tryd.underlying9 (OT.tmp rfl)) rfl rfl ?_
                refine op_pure (pu_lss (OT.tmp rfl) (OT.tmp rfl)) rfl rfl ?_
                refine op_pure (pu_move (OT.tmp rfl)) rfl rfl ?_
                refine op_gu rfl rfl rfl (OT.gu_mk (OT.tmp rfl)) (fun hg => by (have hg1 := hg.2; (try simp only [decide_eq_true_eq, decide_eq_false_iff_not] at hg1); exact pu_move (by exact OT.tmp rfl))) rfl ?_
                refine op_gu rfl rfl rfl (OT.gu_mk (OT.tmp rfl)) (fun hg => by (have hg1 := hg.2; (try simp only [decide_eq_true_eq, decide_eq_false_iff_not] at hg1); exact pu_move (by exact OT.tmp rfl))) rfl ?_
                refine op_gu rfl rfl rfl (OT.gu_mk (OT.tmp rfl)) (fun hg => by (have hg1 := hg.2; (try simp only [decide_eq_true_eq, decide_eq_false_iff_not] at hg1); exact pu_add' (by exact OT.gu (OT.tmp rfl) hg) OT.const (by omega))) rfl ?_
                refine op_gu rfl rfl rfl (OT.gu_mk (OT.tmp rfl)) (fun hg => by (have hg1 := hg.2; (try simp only [decide_eq_true_eq, decide_eq_false_iff_not] at hg1); exact pu_lss (by exact OT.gu (OT.tmp rfl) hg) (by exact OT.gu (OT.tmp rfl) hg))) rfl ?_
                refine op_pure (pu_pick_and (OT.tmp rfl) (by exact OT.tmp rfl)) rfl rfl ?_
                refine op_pure (pu_move (OT.tmp rfl)) rfl rfl ?_
                refine op_gu rfl rfl rfl (OT.gu_mk (OT.tmp rfl)) (fun hg => by (have hg1 := hg.2; (try simp only [decide_eq_true_eq, decide_eq_false_iff_not] at hg1); exact pu_move (by exact OT.tmp rfl))) rfl ?_
                refine op_gu rfl rfl rfl (OT.gu_mk (OT.tmp rfl)) (fun hg => by (have hg1 := hg.2; (try simp only [decide_eq_true_eq, decide_eq_false_iff_not] at hg1); exact pu_move (by exact OT.tmp rfl))) rfl ?_
                refine op_gu rfl rfl rfl (OT.gu_mk (OT.tmp rfl)) (fun hg => by (have hg1 := hg.2; (try simp only [decide_eq_true_eq, decide_eq_false_iff_not] at hg1); exact pu_bs_index (by exact OT.gu (OT.tmp rfl) hg) (by exact OT.gu (OT.tmp rfl) hg) Tryd.underlying9 (by omega) (by (simp [maxLen] at *; omega)))) rfl ?_
                refine op_gu_acts () rfl rfl rfl (OT.gu_mk (OT.tmp rfl)) (fun hg => by (have hg1 := hg.2; (try simp only [decide_eq_true_eq, decide_eq_false_iff_not] at hg1); exact acts_call (rDigit_fn _) (show enters Tryd.prog 70 = true from by decide +kernel) (OTs.cons (by exact OT.gu (OT.tmp rfl) hg) OTs.nil) (List.Perm.refl _))) rfl (fun _ _ => ?_)
                refine op_gu rfl rfl rfl (OT.gu_mk (OT.tmp rfl)) (fun hg => by (have hg1 := hg.2; (try simp only [decide_eq_true_eq, decide_eq_false_iff_not] at hg1); exact pu_geq (by exact OT.gu (OT.tmp rfl) hg) OT.const)) rfl ?_
                refine op_pure (pu_pick_and (OT.tmp rfl) (by exact OT.tmp rfl)) rfl rfl ?_
                refine tr_nil ?_
                refine then_normal ?_
                refine tr_cond (OT.tmp rfl) (fun c66 => ?_) (fun c66 => ?_)
                · skip
                  refine tr_skip ?_
                  refine then_normal ?_
                  refine tr_block ?_
                  refine tr_seq ?_
                  -- region 16
                  refine tr_env (es_cons (t := 0) (OT.tmp rfl) (es_cons (t := 1) (OT.tmp rfl) (es_cons (t := 6) (OT.tmp rfl) (es_cons (t := 7) (OT.tmp rfl) es_nil)))) ?_
                  have hjl : j < y.length := by simp at c66; omega
                  have h6 : j < 6 := by simp at c66; omega
                  have hatj := hatf j hjl
                  have hx : hexD y[j] < 16 := by
                    rcases Nat.lt_or_ge (hexD y[j]) 16 with h | h
                    · exact h
                    · exfalso; rw [hatj, hexZ_is, if_neg (by omega)] at c66; simp at c66
                  have hzj : hexZ (at' (nums l) ((i : Int) + 3 + (j : Int))) = (hexD y[j] : Int) := by rw [hatj, hexZ_is, if_pos hx]
                  refine tr_region ?_
                  refine op_pure (pu_move (OT.tmp rfl)) rfl rfl ?_
                  refine op_pure (pu_mul' (OT.tmp rfl) OT.const (by omega)) rfl rfl ?_
                  refine op_pure (pu_move (OT.tmp rfl)) rfl rfl ?_
                  refine op_pure (pu_move (OT.tmp rfl)) rfl rfl ?_
                  refine op_pure (pu_bs_index (OT.tmp rfl) (OT.tmp rfl) Tryd.underlying9 (by omega) (by omega)) rfl rfl ?_
                  refine op_acts (acts_call (rDigit_fn _) (show enters Tryd.prog 70 = true from by decide +kernel) (OTs.cons (OT.tmp rfl) OTs.nil) (List.Perm.refl _)) (List.Perm.refl _) rfl rfl (fun _ _ => ?_)
                  refine op_pure (pu_add' (OT.tmp rfl) (OT.tmp rfl) (by omega)) rfl rfl ?_
                  refine op_pure (pu_assign (OT.tmp rfl)) rfl rfl ?_
                  refine tr_nil ?_
                  refine then_normal ?_
                  -- region 17
                  refine tr_env (es_cons (t := 0) (OT.tmp rfl) (es_cons (t := 1) (OT.tmp rfl) (es_cons (t := 6) (OT.tmp rfl) (es_cons (t := 7) (OT.tmp rfl) es_nil)))) ?_
                  rw [hzj]
                  refine tr_region ?_
                  refine op_pure (pu_move (OT.tmp rfl)) rfl rfl ?_
                  refine op_pure (pu_add' (OT.tmp rfl) OT.const (by omega)) rfl rfl ?_
                  refine op_pure (pu_assign (OT.tmp rfl)) rfl rfl ?_
                  refine tr_nil ?_
                  refine block_normal ?_
                  refine then_normal ?_
                  exact tr_again (j + 1, a * 16 + hexD y[j]) (hrAt_next hH h6 hjl hx) (by show 6 - (j + 1) < 6 - j; omega) (es_append (es_cons (t := 7) (by exact OT.tmp rfl) (es_cons (t := 6) (by exact OT.tmp rfl) es_nil)) (es_cons (t := 0) (OT.tmp rfl) (es_cons (t := 1) (OT.tmp rfl) es_nil))) (own_picks (by exact picks_nil))
                · skip
                  refine tr_exit ?_
                  refine then_exit ?_
                  refine then_exit ?_
                  refine block_hit ?_
                  refine then_normal ?_
                  refine tr_seq ?_
                  refine tr_seq ?_
                  -- region 18
                  refine tr_env (es_cons (t := 0) (OT.tmp rfl) (es_cons (t := 1) (OT.tmp rfl) (es_cons (t := 6) (OT.tmp rfl) (es_cons (t := 7) (OT.tmp rfl) es_nil)))) ?_
                  have hend := hrAt_end hH (by
                    rintro ⟨q1, q2, q3⟩
                    rw [hatf j q1, hexZ_is, if_pos (q3 q1)] at c66
                    simp at c66
                    omega)
                  have heq := refE_run h117 hc3 hend
                  refine tr_region ?_
                  refine op_pure (pu_move (OT.tmp rfl)) rfl rfl ?_
                  refine op_pure (pu_move (OT.tmp rfl)) rfl rfl ?_
                  refine op_pure (pu_add' (OT.tmp rfl) OT.const (by omega)) rfl rfl ?_
                  refine op_pure (pu_eql (OT.tmp rfl) (OT.tmp rfl)) rfl rfl ?_
                  refine op_pure (pu_move (OT.tmp rfl)) rfl rfl ?_
                  refine op_gu rfl rfl rfl (OT.gu_mk (OT.tmp rfl)) (fun hg => by (have hg1 := hg.2; (try simp only [decide_eq_true_eq, decide_eq_false_iff_not] at hg1); exact pu_move (by exact OT.tmp rfl))) rfl ?_
                  refine op_gu rfl rfl rfl (OT.gu_mk (OT.tmp rfl)) (fun hg => by (have hg1 := hg.2; (try simp only [decide_eq_true_eq, decide_eq_false_iff_not] at hg1); exact pu_move (by exact OT.tmp rfl))) rfl ?_
                  refine op_gu rfl rfl rfl (OT.gu_mk (OT.tmp rfl)) (fun hg => by (have hg1 := hg.2; (try simp only [decide_eq_true_eq, decide_eq_false_iff_not] at hg1); exact pu_len_bs Tryd.underlying9 (by exact OT.gu (OT.tmp rfl) hg))) rfl ?_
                  refine op_gu rfl rfl rfl (OT.gu_mk (OT.tmp rfl)) (fun hg => by (have hg1 := hg.2; (try simp only [decide_eq_true_eq, decide_eq_false_iff_not] at hg1); exact pu_geq (by exact OT.gu (OT.tmp rfl) hg) (by exact OT.gu (OT.tmp rfl) hg))) rfl ?_
                  refine op_pure (pu_pick_or (OT.tmp rfl) (by exact OT.tmp rfl)) rfl rfl ?_
                  refine op_pure (pu_move (OT.tmp rfl)) rfl rfl ?_
                  refine op_gu rfl rfl rfl (OT.gu_mk (OT.tmp rfl)) (fun hg => by (have hg1 := hg.2; (try simp only [decide_eq_true_eq, decide_eq_false_iff_not] at hg1); exact pu_move (by exact OT.tmp rfl))) rfl ?_
                  refine op_gu rfl rfl rfl (OT.gu_mk (OT.tmp rfl)) (fun hg => by (have hg1 := hg.2; (try simp only [decide_eq_true_eq, decide_eq_false_iff_not] at hg1); exact pu_move (by exact OT.tmp rfl))) rfl ?_
                  refine op_gu rfl rfl rfl (OT.gu_mk (OT.tmp rfl)) (fun hg => by (have hg1 := hg.2; (try simp only [decide_eq_true_eq, decide_eq_false_iff_not] at hg1); exact pu_bs_index (by exact OT.gu (OT.tmp rfl) hg) (by exact OT.gu (OT.tmp rfl) hg) Tryd.underlying9 (by omega) (by (simp [maxLen] at *; omega)))) rfl ?_
                  refine op_gu rfl rfl rfl (OT.gu_mk (OT.tmp rfl)) (fun hg => by (have hg1 := hg.2; (try simp only [decide_eq_true_eq, decide_eq_false_iff_not] at hg1); exact pu_neq (by exact OT.gu (OT.tmp rfl) hg) OT.const)) rfl ?_
                  refine op_pure (pu_pick_or (OT.tmp rfl) (by exact OT.tmp rfl)) rfl rfl ?_
                  refine op_pure (pu_move (OT.tmp rfl)) rfl rfl ?_
                  refine op_gu rfl rfl rfl (OT.gu_mk (OT.tmp rfl)) (fun hg => by (have hg1 := hg.2; (try simp only [decide_eq_true_eq, decide_eq_false_iff_not] at hg1); exact pu_move (by exact OT.tmp rfl))) rfl ?_
                  refine op_gu rfl rfl rfl (OT.gu_mk (OT.tmp rfl)) (fun hg => by (have hg1 := hg.2; (try simp only [decide_eq_true_eq, decide_eq_false_iff_not] at hg1); exact pu_gtr (by exact OT.gu (OT.tmp rfl) hg) OT.const)) rfl ?_
                  refine op_pure (pu_pick_or (OT.tmp rfl) (by exact OT.tmp rfl)) rfl rfl ?_
                  refine op_pure (pu_move (OT.tmp rfl)) rfl rfl ?_
                  refine op_gu rfl rfl rfl (OT.gu_mk (OT.tmp rfl)) (fun hg => by (have hg1 := hg.2; (try simp only [decide_eq_true_eq, decide_eq_false_iff_not] at hg1); exact pu_move (by exact OT.tmp rfl))) rfl ?_
                  refine op_gu rfl rfl rfl (OT.gu_mk (OT.tmp rfl)) (fun hg => by (have hg1 := hg.2; (try simp only [decide_eq_true_eq, decide_eq_false_iff_not] at hg1); exact pu_geq (by exact OT.gu (OT.tmp rfl) hg) OT.const)) rfl ?_
                  refine op_gu rfl rfl rfl (OT.gu_mk (OT.tmp rfl)) (fun hg => by (have hg1 := hg.2; (try simp only [decide_eq_true_eq, decide_eq_false_iff_not] at hg1); exact pu_move (by exact OT.gu (OT.tmp rfl) hg))) rfl ?_
                  refine op_gu rfl rfl rfl (OT.tmp rfl) (fun hg => by (have hg1 := hg.2; (try simp only [decide_eq_true_eq, decide_eq_false_iff_not] at hg1); exact pu_move (by exact OT.tmp rfl))) rfl ?_
                  refine op_gu rfl rfl rfl (OT.tmp rfl) (fun hg => by (have hg1 := hg.2; (try simp only [decide_eq_true_eq, decide_eq_false_iff_not] at hg1); exact pu_leq (by exact OT.gu (OT.tmp rfl) hg) OT.const)) rfl ?_
                  refine op_gu rfl rfl rfl (OT.gu_mk (OT.tmp rfl)) (fun hg => by (have hg1 := hg.2; (try simp only [decide_eq_true_eq, decide_eq_false_iff_not] at hg1); exact pu_pick_and_p hg (by exact OT.gu (OT.tmp rfl) hg) (OT.tmp rfl))) rfl ?_
                  refine op_pure (pu_pick_or (OT.tmp rfl) (by exact OT.tmp rfl)) rfl rfl ?_
                  refine tr_nil ?_
                  refine then_normal ?_
                  refine tr_cond (OT.tmp rfl) (fun c103 => ?_) (fun c103 => ?_)
                  · skip
                    have hr := escZ_none (x := b :: c :: y) (by
                      rw [heq, if_pos]
                      refine Classical.byContradiction fun hc => ?_
                      have q1 := fun e => hc (.inl e)
                      have q2 := Classical.byContradiction fun e => hc (.inr (.inl e))
                      have q3 := Classical.byContradiction fun e => hc (.inr (.inr e))
                      obtain ⟨q4, q5⟩ := get_125.1 q2
                      rw [hatf j q4, q5] at c103
                      unfold isRune at q3
                      simp at c103
                      omega)
                    refine tr_seq ?_
                    -- region 19
                    refine tr_env es_nil ?_
                    refine tr_region ?_
                    refine op_pure (pu_assign OT.const) rfl rfl ?_
                    refine op_pure (pu_assign OT.const) rfl rfl ?_
                    refine tr_nil ?_
                    refine then_normal ?_
                    refine tr_ret ?_
                    refine then_ret ?_
                    exact ret_two .ret (.inl rfl) rfl () (OT.val (OT.tmp rfl) (congrArg (Value.int _) (congrArg Prod.fst hr).symm)) (OT.val (OT.tmp rfl) (congrArg (Value.int _) (congrArg Prod.snd hr).symm)) (fun _ _ h => h) trivial (by exact picks_nil)
                  · skip
                    have hjl : j < y.length := by simp at c103; omega
                    rw [hatf j hjl] at c103
                    simp only [Bool.or_eq_false_iff, Bool.and_eq_false_iff, decide_eq_false_iff_not, decide_eq_true_eq, ne_eq, Classical.not_not] at c103
                    have hr := escZ_some (x := b :: c :: y) (n := a) (m := j + 4) (by
                      rw [heq, if_neg]
                      rintro (h | h | h)
                      · omega
                      · exact h (get_125.2 ⟨hjl, by omega⟩)
                      · unfold isRune at h; omega)
                    refine tr_skip ?_
                    refine then_normal ?_
                    refine tr_seq ?_
                    -- region 20
                    refine tr_env (es_cons (t := 1) (OT.tmp rfl) (es_cons (t := 6) (OT.tmp rfl) (es_cons (t := 7) (OT.tmp rfl) es_nil))) ?_
                    refine tr_region ?_
                    refine op_pure (pu_move (OT.tmp rfl)) rfl rfl ?_
                    refine op_pure (pu_move (OT.tmp rfl)) rfl rfl ?_
                    refine op_pure (pu_add' (OT.tmp rfl) OT.const (by omega)) rfl rfl ?_
                    refine op_pure (pu_move (OT.tmp rfl)) rfl rfl ?_
                    refine op_pure (pu_sub' (OT.tmp rfl) (OT.tmp rfl) (by omega)) rfl rfl ?_
                    refine op_pure (pu_assign (OT.tmp rfl)) rfl rfl ?_
                    refine op_pure (pu_assign (OT.tmp rfl)) rfl rfl ?_
                    refine tr_nil ?_
                    refine then_normal ?_
                    refine tr_ret ?_
                    exact ret_two .ret (.inl rfl) rfl () (OT.val (OT.tmp rfl) (congrArg (Value.int _) (congrArg Prod.fst hr).symm)) (OT.val (OT.tmp rfl) (congrArg (Value.int _) (by rw [hr]; show _ = ((j + 4 : Nat) : Int); omega))) (fun _ _ h => h) trivial (by exact picks_nil)
set_option maxRecDepth 20000 in
/-- rhizome/rhizomeref02.number -/
theorem rNumber_fn (l : List UInt8) (hl : l.length ≤ 1000000) : Ct Tryd.prog 48 [BsT l] ([]) (Vl × Bool) (fun r => TupT [kVl.T r.1, BoolT r.2]) (fun _ => []) (fun r => (r.2 = true → parseN l = some r.1) ∧ (r.2 = false → parseN l = none)) := by
  refine fn_intro Tryd.func48 rfl rfl ?_
  intro H w
  refine tr_seq ?_
  -- region 0
  refine tr_env (es_cons (t := 0) (OT.tmp rfl) es_nil) ?_
  refine tr_region ?_
  refine op_acts (acts_alloc (zVl)) (List.Perm.refl _) rfl rfl (fun g0_0 _ => ?_)
  refine op_pure (pu_assign OT.const) rfl rfl ?_
  refine tr_nil ?_
  refine then_normal ?_
  refine tr_seq ?_
  -- region 1
  refine tr_env (es_cons (t := 0) (OT.tmp rfl) (es_cons (t := 2) (OT.tmp rfl) es_nil)) ?_
  refine tr_region ?_
  refine op_pure (pu_move (OT.tmp rfl)) rfl rfl ?_
  refine op_pure (pu_assign (OT.tmp rfl)) rfl rfl ?_
  refine tr_nil ?_
  refine then_normal ?_
  refine tr_joinK (σ := List UInt8) (es_cons (t := 0) (OT.tmp rfl) (es_cons (t := 2) (OT.tmp rfl) es_nil)) (fun d => [(4, BsT d)]) (fun d => [BlkI g0_0 23 kVl (0, 0, [])]) (fun d => unsig l = d) ?_ ?_
  · skip
    refine tr_seq ?_
    -- region 2
    refine tr_env (es_cons (t := 0) (OT.tmp rfl) (es_cons (t := 2) (OT.tmp rfl) (es_cons (t := 4) (OT.tmp rfl) es_nil))) ?_
    refine tr_region ?_
    refine op_pure (pu_move (OT.tmp rfl)) rfl rfl ?_
    refine op_pure (pu_len_bs Tryd.underlying9 (OT.tmp rfl)) rfl rfl ?_
    refine op_pure (pu_gtr (OT.tmp rfl) OT.const) rfl rfl ?_
    refine op_pure (pu_move (OT.tmp rfl)) rfl rfl ?_
    refine op_gu rfl rfl rfl (OT.gu_mk (OT.tmp rfl)) (fun hg => by (have hg1 := hg.2; (try simp only [decide_eq_true_eq, decide_eq_false_iff_not] at hg1); exact pu_move (by exact OT.tmp rfl))) rfl ?_
    refine op_gu rfl rfl rfl (OT.gu_mk (OT.tmp rfl)) (fun hg => by (have hg1 := hg.2; (try simp only [decide_eq_true_eq, decide_eq_false_iff_not] at hg1); exact pu_bs_index (by exact OT.gu (OT.tmp rfl) hg) OT.const Tryd.underlying9 (by omega) (by omega))) rfl ?_
    refine op_gu rfl rfl rfl (OT.gu_mk (OT.tmp rfl)) (fun hg => by (have hg1 := hg.2; (try simp only [decide_eq_true_eq, decide_eq_false_iff_not] at hg1); exact pu_eql (by exact OT.gu (OT.tmp rfl) hg) OT.const)) rfl ?_
    refine op_pure (pu_pick_and (OT.tmp rfl) (by exact OT.tmp rfl)) rfl rfl ?_
    refine tr_nil ?_
    refine then_normal ?_
    refine tr_cond (OT.tmp rfl) (fun c16 => ?_) (fun c16 => ?_)
    · skip
      -- region 3
      refine tr_env (es_cons (t := 0) (OT.tmp rfl) (es_cons (t := 2) (OT.tmp rfl) es_nil)) ?_
      refine tr_region ?_
      refine op_pure (pu_move (OT.tmp rfl)) rfl rfl ?_
      refine op_pure (pu_bs_slice_lo (OT.tmp rfl) OT.const Tryd.underlying9 (by omega) (by (simp [maxLen] at *; omega))) rfl rfl ?_
      refine op_pure (pu_assign (OT.tmp rfl)) rfl rfl ?_
      refine tr_nil ?_
      refine then_normal ?_
      exact tr_joined (l.drop 1) (unsig_45 c16) (es_append (es_cons (t := 4) (by exact OT.tmp rfl) es_nil) (es_cons (t := 0) (OT.tmp rfl) (es_cons (t := 2) (OT.tmp rfl) es_nil))) (own_picks (by repeat (first | exact picks_nil | refine picks_cons 0 rfl ?_ | refine picks_cons 1 rfl ?_ | refine picks_cons 2 rfl ?_ | refine picks_cons 3 rfl ?_ | refine picks_cons 4 rfl ?_ | refine picks_cons 5 rfl ?_ | refine picks_cons 6 rfl ?_)))
    · skip
      refine tr_skip ?_
      refine then_normal ?_
      exact tr_joined l (unsig_no c16) (es_append (es_cons (t := 4) (by exact OT.tmp rfl) es_nil) (es_cons (t := 0) (OT.tmp rfl) (es_cons (t := 2) (OT.tmp rfl) es_nil))) (own_picks (by repeat (first | exact picks_nil | refine picks_cons 0 rfl ?_ | refine picks_cons 1 rfl ?_ | refine picks_cons 2 rfl ?_ | refine picks_cons 3 rfl ?_ | refine picks_cons 4 rfl ?_ | refine picks_cons 5 rfl ?_ | refine picks_cons 6 rfl ?_)))
  · rintro d hd
    refine tr_seq ?_
    refine tr_seq ?_
    -- region 4
    refine tr_env (es_cons (t := 0) (OT.tmp rfl) (es_cons (t := 2) (OT.tmp rfl) (es_cons (t := 4) (OT.tmp rfl) es_nil))) ?_
    refine tr_region ?_
    refine op_pure (pu_move (OT.tmp rfl)) rfl rfl ?_
    refine op_pure (pu_len_bs Tryd.underlying9 (OT.tmp rfl)) rfl rfl ?_
    refine op_pure (pu_eql (OT.tmp rfl) OT.const) rfl rfl ?_
    refine op_pure (pu_move (OT.tmp rfl)) rfl rfl ?_
    refine op_gu rfl rfl rfl (OT.gu_mk (OT.tmp rfl)) (fun hg => by (have hg1 := hg.2; (try simp only [decide_eq_true_eq, decide_eq_false_iff_not] at hg1); exact pu_move (by exact OT.tmp rfl))) rfl ?_
    refine op_gu rfl rfl rfl (OT.gu_mk (OT.tmp rfl)) (fun hg => by (have hg1 := hg.2; (try simp only [decide_eq_true_eq, decide_eq_false_iff_not] at hg1); exact pu_len_bs Tryd.underlying9 (by exact OT.gu (OT.tmp rfl) hg))) rfl ?_
    refine op_gu rfl rfl rfl (OT.gu_mk (OT.tmp rfl)) (fun hg => by (have hg1 := hg.2; (try simp only [decide_eq_true_eq, decide_eq_false_iff_not] at hg1); exact pu_gtr (by exact OT.gu (OT.tmp rfl) hg) OT.const)) rfl ?_
    refine op_pure (pu_pick_or (OT.tmp rfl) (by exact OT.tmp rfl)) rfl rfl ?_
    refine tr_nil ?_
    refine then_normal ?_
    refine tr_cond (OT.tmp rfl) (fun c26 => ?_) (fun c26 => ?_)
    · skip
      have hno : parseN l = none := parseN_len (by rw [hd]; simp only [Bool.or_eq_true, decide_eq_true_eq] at c26; omega)
      refine tr_seq ?_
      -- region 5
      refine tr_env (es_cons (t := 2) (OT.tmp rfl) es_nil) ?_
      refine tr_region ?_
      refine op_pure (pu_build (d := kVl) (v0 := (0, 0, [])) (ps := [(0, 1), (1, 1), (2, 1)]) zVl (by kernel_rfl) rfl fills_nil) rfl rfl ?_
      refine op_acts (acts_store_var (OT.tmp rfl) (OT.tmp rfl) (by exact perm_at 0 rfl) (show tyOk Tryd.prog 23 true 3 = true from by decide +kernel)) (by exact perm_at 0 rfl) rfl rfl (fun _ _ => ?_)
      refine op_pure (pu_assign OT.const) rfl rfl ?_
      refine tr_nil ?_
      refine then_normal ?_
      refine tr_ret ?_
      refine then_ret ?_
      exact ret_cell_tmp .ret (.inl rfl) rfl ((0, 0, []), false) (OT.tmp rfl) (by exact mem_at 0 rfl) (show tyOk Tryd.prog 23 true 3 = true from by decide +kernel) (OT.tmp rfl) (fun _ _ h => h) ⟨fun h => absurd h (by simp), fun _ => hno⟩ (by exact picks_nil)
    · skip
      have hdl : 1 ≤ d.length ∧ d.length ≤ 19 := by simp only [Bool.or_eq_false_iff, decide_eq_false_iff_not] at c26; omega
      refine tr_skip ?_
      refine then_normal ?_
      refine tr_seq ?_
      -- region 6
      refine tr_env (es_cons (t := 0) (OT.tmp rfl) (es_cons (t := 2) (OT.tmp rfl) (es_cons (t := 4) (OT.tmp rfl) es_nil))) ?_
      refine tr_region ?_
      refine op_pure (pu_assign OT.const) rfl rfl ?_
      refine tr_nil ?_
      refine then_normal ?_
      refine tr_seq ?_
      refine tr_seq ?_
      -- region 7
      refine tr_env (es_cons (t := 0) (OT.tmp rfl) (es_cons (t := 2) (OT.tmp rfl) (es_cons (t := 4) (OT.tmp rfl) (es_cons (t := 5) (OT.tmp rfl) es_nil)))) ?_
      refine tr_region ?_
      refine op_pure (pu_assign OT.const) rfl rfl ?_
      refine tr_nil ?_
      refine then_normal ?_
      refine tr_block ?_
      refine tr_loopK (σ := Nat × Int) (es_cons (t := 0) (OT.tmp rfl) (es_cons (t := 2) (OT.tmp rfl) (es_cons (t := 4) (OT.tmp rfl) es_nil))) (fun s => [(6, I64 (s.1 : Int)), (5, I64 s.2)]) (fun s => [BlkI g0_0 23 kVl (0, 0, [])]) (fun s => ZAt d s.1 s.2) (fun s => d.length - s.1) (0, 0) (zAt_0 d) ?_ (own_picks (by repeat (first | exact picks_nil | refine picks_cons 0 rfl ?_ | refine picks_cons 1 rfl ?_ | refine picks_cons 2 rfl ?_ | refine picks_cons 3 rfl ?_ | refine picks_cons 4 rfl ?_ | refine picks_cons 5 rfl ?_ | refine picks_cons 6 rfl ?_))) ?_
      · exact (es_cons (t := 6) (OT.tmp rfl) (es_cons (t := 5) (OT.tmp rfl) es_nil))
      · rintro ⟨k, z⟩ hz
        dsimp only at hz ⊢
        refine tr_seq ?_
        refine tr_seq ?_
        -- region 8
        refine tr_env (es_cons (t := 0) (OT.tmp rfl) (es_cons (t := 2) (OT.tmp rfl) (es_cons (t := 4) (OT.tmp rfl) (es_cons (t := 5) (OT.tmp rfl) (es_cons (t := 6) (OT.tmp rfl) es_nil))))) ?_
        refine tr_region ?_
        refine op_pure (pu_move (OT.tmp rfl)) rfl rfl ?_
        refine op_pure (pu_move (OT.tmp rfl)) rfl rfl ?_
        refine op_pure (pu_len_bs Tryd.underlying9 (OT.tmp rfl)) rfl rfl ?_
        refine op_pure (pu_lss (OT.tmp rfl) (OT.tmp rfl)) rfl rfl ?_
        refine tr_nil ?_
        refine then_normal ?_
        refine tr_cond (OT.tmp rfl) (fun c31 => ?_) (fun c31 => ?_)
        · skip
          refine tr_skip ?_
          refine then_normal ?_
          refine tr_seq ?_
          refine tr_block ?_
          refine tr_seq ?_
          refine tr_seq ?_
          -- region 10
          refine tr_env (es_cons (t := 0) (OT.tmp rfl) (es_cons (t := 2) (OT.tmp rfl) (es_cons (t := 4) (OT.tmp rfl) (es_cons (t := 5) (OT.tmp rfl) (es_cons (t := 6) (OT.tmp rfl) es_nil))))) ?_
          have hk2 : k < d.length := by simp at c31; omega
          have hat : at' (nums d) (k : Int) = ((d[k]).toNat : Int) := by rw [at'_nat (by simpa using hk2)]; simp [nums]
          have hbl := (d[k]).toNat_lt
          refine tr_region ?_
          refine op_pure (pu_move (OT.tmp rfl)) rfl rfl ?_
          refine op_pure (pu_move (OT.tmp rfl)) rfl rfl ?_
          refine op_pure (pu_bs_index (OT.tmp rfl) (OT.tmp rfl) Tryd.underlying9 (by omega) (by omega)) rfl rfl ?_
          refine op_pure (pu_lss (OT.tmp rfl) OT.const) rfl rfl ?_
          refine op_pure (pu_move (OT.tmp rfl)) rfl rfl ?_
          refine op_gu rfl rfl rfl (OT.gu_mk (OT.tmp rfl)) (fun hg => by (have hg1 := hg.2; (try simp only [decide_eq_true_eq, decide_eq_false_iff_not] at hg1); exact pu_move (by exact OT.tmp rfl))) rfl ?_
          refine op_gu rfl rfl rfl (OT.gu_mk (OT.tmp rfl)) (fun hg => by (have hg1 := hg.2; (try simp only [decide_eq_true_eq, decide_eq_false_iff_not] at hg1); exact pu_move (by exact OT.tmp rfl))) rfl ?_
          refine op_gu rfl rfl rfl (OT.gu_mk (OT.tmp rfl)) (fun hg => by (have hg1 := hg.2; (try simp only [decide_eq_true_eq, decide_eq_false_iff_not] at hg1); exact pu_bs_index (by exact OT.gu (OT.tmp rfl) hg) (by exact OT.gu (OT.tmp rfl) hg) Tryd.underlying9 (by omega) (by omega))) rfl ?_
          refine op_gu rfl rfl rfl (OT.gu_mk (OT.tmp rfl)) (fun hg => by (have hg1 := hg.2; (try simp only [decide_eq_true_eq, decide_eq_false_iff_not] at hg1); exact pu_gtr (by exact OT.gu (OT.tmp rfl) hg) OT.const)) rfl ?_
          refine op_pure (pu_pick_or (OT.tmp rfl) (by exact OT.tmp rfl)) rfl rfl ?_
          refine tr_nil ?_
          refine then_normal ?_
          refine tr_cond (OT.tmp rfl) (fun c43 => ?_) (fun c43 => ?_)
          · skip
            have hno : parseN l = none := parseN_zF (by rw [hd]; exact zAt_bad hz hk2 (by rw [hat] at c43; simp at c43; omega))
            refine tr_seq ?_
            -- region 11
            refine tr_env (es_cons (t := 2) (OT.tmp rfl) es_nil) ?_
            refine tr_region ?_
            refine op_pure (pu_build (d := kVl) (v0 := (0, 0, [])) (ps := [(0, 1), (1, 1), (2, 1)]) zVl (by kernel_rfl) rfl fills_nil) rfl rfl ?_
            refine op_acts (acts_store_var (OT.tmp rfl) (OT.tmp rfl) (by exact perm_at 0 rfl) (show tyOk Tryd.prog 23 true 3 = true from by decide +kernel)) (by exact perm_at 0 rfl) rfl rfl (fun _ _ => ?_)
            refine op_pure (pu_assign OT.const) rfl rfl ?_
            refine tr_nil ?_
            refine then_normal ?_
            refine tr_ret ?_
            refine then_ret ?_
            refine block_ret ?_
            refine then_ret ?_
            refine then_ret ?_
            refine block_ret ?_
            refine then_ret ?_
            exact ret_cell_tmp .ret (.inl rfl) rfl ((0, 0, []), false) (OT.tmp rfl) (by exact mem_at 0 rfl) (show tyOk Tryd.prog 23 true 3 = true from by decide +kernel) (OT.tmp rfl) (fun _ _ h => h) ⟨fun h => absurd h (by simp), fun _ => hno⟩ (by exact picks_nil)
          · skip
            have hdg : ¬ ((d[k]).toNat < 48 ∨ 57 < (d[k]).toNat) := by rw [hat] at c43; simp at c43; omega
            have hlim := lim_is (x := (((d[k]).toNat - 48 : Nat) : Int)) (by omega) (by omega)
            refine tr_skip ?_
            refine then_normal ?_
            refine tr_seq ?_
            -- region 12
            refine tr_env (es_cons (t := 0) (OT.tmp rfl) (es_cons (t := 2) (OT.tmp rfl) (es_cons (t := 4) (OT.tmp rfl) (es_cons (t := 5) (OT.tmp rfl) (es_cons (t := 6) (OT.tmp rfl) es_nil))))) ?_
            refine tr_region ?_
            refine op_pure (pu_move (OT.tmp rfl)) rfl rfl ?_
            refine op_pure (pu_move (OT.tmp rfl)) rfl rfl ?_
            refine op_pure (pu_bs_index (OT.tmp rfl) (OT.tmp rfl) Tryd.underlying9 (by omega) (by omega)) rfl rfl ?_
            rw [hat]
            refine op_pure (pu_sub (OT.tmp rfl) OT.const) rfl rfl ?_
            refine tr_as 48 (T := IntT .u8 (((d[k]).toNat - 48 : Nat) : Int)) (OT.val (OT.tmp rfl) (congrArg (Value.int _) (by simp [IntKind.wrap, IntKind.bits, IntKind.signed]; omega))) ?_
            refine op_pure (pu_convert' (OT.tmp rfl) Tryd.underlying5 Tryd.underlying3 (by omega) (by omega) rfl) rfl rfl ?_
            refine op_pure (pu_assign (OT.tmp rfl)) rfl rfl ?_
            refine tr_nil ?_
            refine then_normal ?_
            refine tr_seq ?_
            refine tr_seq ?_
            -- region 13
            refine tr_env (es_cons (t := 0) (OT.tmp rfl) (es_cons (t := 2) (OT.tmp rfl) (es_cons (t := 4) (OT.tmp rfl) (es_cons (t := 5) (OT.tmp rfl) (es_cons (t := 6) (OT.tmp rfl) (es_cons (t := 7) (OT.tmp rfl) es_nil)))))) ?_
            refine tr_region ?_
            refine op_pure (pu_move (OT.tmp rfl)) rfl rfl ?_
            refine op_pure (pu_move (OT.tmp rfl)) rfl rfl ?_
            refine op_pure (pu_sub' OT.const (OT.tmp rfl) (by omega)) rfl rfl ?_
            refine op_pure (pu_neg (OT.tmp rfl) (by omega)) rfl rfl ?_
            refine op_pure (pu_quo (OT.tmp rfl) OT.const (by omega)) rfl rfl ?_
            refine tr_as 54 (T := I64 ((-(9223372036854775807 - (((d[k]).toNat - 48 : Nat) : Int))).tdiv 10)) (OT.val (OT.tmp rfl) (congrArg (Value.int _) hlim.1)) ?_
            refine op_pure (pu_sub' (OT.tmp rfl) OT.const (by omega)) rfl rfl ?_
            refine op_pure (pu_lss (OT.tmp rfl) (OT.tmp rfl)) rfl rfl ?_
            refine tr_nil ?_
            refine then_normal ?_
            refine tr_cond (OT.tmp rfl) (fun c56 => ?_) (fun c56 => ?_)
            · skip
              have hno : parseN l = none := parseN_zF (by rw [hd]; exact zAt_big hz hk2 hdg (of_decide_eq_true c56))
              refine tr_seq ?_
              -- region 14
              refine tr_env (es_cons (t := 2) (OT.tmp rfl) es_nil) ?_
              refine tr_region ?_
              refine op_pure (pu_build (d := kVl) (v0 := (0, 0, [])) (ps := [(0, 1), (1, 1), (2, 1)]) zVl (by kernel_rfl) rfl fills_nil) rfl rfl ?_
              refine op_acts (acts_store_var (OT.tmp rfl) (OT.tmp rfl) (by exact perm_at 0 rfl) (show tyOk Tryd.prog 23 true 3 = true from by decide +kernel)) (by exact perm_at 0 rfl) rfl rfl (fun _ _ => ?_)
              refine op_pure (pu_assign OT.const) rfl rfl ?_
              refine tr_nil ?_
              refine then_normal ?_
              refine tr_ret ?_
              refine then_ret ?_
              refine block_ret ?_
              refine then_ret ?_
              refine then_ret ?_
              refine block_ret ?_
              refine then_ret ?_
              exact ret_cell_tmp .ret (.inl rfl) rfl ((0, 0, []), false) (OT.tmp rfl) (by exact mem_at 0 rfl) (show tyOk Tryd.prog 23 true 3 = true from by decide +kernel) (OT.tmp rfl) (fun _ _ h => h) ⟨fun h => absurd h (by simp), fun _ => hno⟩ (by exact picks_nil)
            · skip
              have hbg := of_decide_eq_false c56
              refine tr_skip ?_
              refine then_normal ?_
              -- region 15
              refine tr_env (es_cons (t := 0) (OT.tmp rfl) (es_cons (t := 2) (OT.tmp rfl) (es_cons (t := 4) (OT.tmp rfl) (es_cons (t := 5) (OT.tmp rfl) (es_cons (t := 6) (OT.tmp rfl) (es_cons (t := 7) (OT.tmp rfl) es_nil)))))) ?_
              refine tr_region ?_
              refine op_pure (pu_move (OT.tmp rfl)) rfl rfl ?_
              refine op_pure (pu_mul (OT.tmp rfl) OT.const) rfl rfl ?_
              refine op_pure (pu_move (OT.tmp rfl)) rfl rfl ?_
              refine op_pure (pu_sub (OT.tmp rfl) (OT.tmp rfl)) rfl rfl ?_
              refine op_pure (pu_assign (OT.tmp rfl)) rfl rfl ?_
              refine tr_nil ?_
              refine block_normal ?_
              refine then_normal ?_
              -- region 9
              refine tr_env (es_cons (t := 0) (OT.tmp rfl) (es_cons (t := 2) (OT.tmp rfl) (es_cons (t := 4) (OT.tmp rfl) (es_cons (t := 5) (OT.tmp rfl) (es_cons (t := 6) (OT.tmp rfl) es_nil))))) ?_
              refine tr_region ?_
              refine op_pure (pu_move (OT.tmp rfl)) rfl rfl ?_
              refine op_pure (pu_add' (OT.tmp rfl) OT.const (by omega)) rfl rfl ?_
              refine op_pure (pu_assign (OT.tmp rfl)) rfl rfl ?_
              refine tr_nil ?_
              refine then_normal ?_
              exact tr_again (k + 1, IntKind.i64.wrap (IntKind.i64.wrap (z * 10) - (((d[k]).toNat - 48 : Nat) : Int))) (zAt_next hz hk2 hdg hbg) (by show d.length - (k + 1) < d.length - k; omega) (es_append (es_cons (t := 6) (by exact OT.tmp rfl) (es_cons (t := 5) (by exact OT.tmp rfl) es_nil)) (es_cons (t := 0) (OT.tmp rfl) (es_cons (t := 2) (OT.tmp rfl) (es_cons (t := 4) (OT.tmp rfl) es_nil)))) (own_picks (by repeat (first | exact picks_nil | refine picks_cons 0 rfl ?_ | refine picks_cons 1 rfl ?_ | refine picks_cons 2 rfl ?_ | refine picks_cons 3 rfl ?_ | refine picks_cons 4 rfl ?_ | refine picks_cons 5 rfl ?_ | refine picks_cons 6 rfl ?_)))
        · skip
          obtain rfl : k = d.length := by have h9 := hz.1; simp at c31; omega
          have hzf := zAt_end hz
          have hzi := signed2_in (l := l) hz
          refine tr_exit ?_
          refine then_exit ?_
          refine then_exit ?_
          refine block_hit ?_
          refine then_normal ?_
          refine tr_joinK (σ := Int) (es_cons (t := 0) (OT.tmp rfl) (es_cons (t := 2) (OT.tmp rfl) es_nil)) (fun m => [(5, I64 m)]) (fun m => [BlkI g0_0 23 kVl (0, 0, [])]) (fun m => signed2 l z = m) ?_ ?_
          · skip
            refine tr_seq ?_
            -- region 16
            refine tr_env (es_cons (t := 0) (OT.tmp rfl) (es_cons (t := 2) (OT.tmp rfl) (es_cons (t := 4) (OT.tmp rfl) (es_cons (t := 5) (OT.tmp rfl) es_nil)))) ?_
            refine tr_region ?_
            refine op_pure (pu_move (OT.tmp rfl)) rfl rfl ?_
            refine op_pure (pu_len_bs Tryd.underlying9 (OT.tmp rfl)) rfl rfl ?_
            refine op_pure (pu_move (OT.tmp rfl)) rfl rfl ?_
            refine op_pure (pu_len_bs Tryd.underlying9 (OT.tmp rfl)) rfl rfl ?_
            refine op_pure (pu_eql (OT.tmp rfl) (OT.tmp rfl)) rfl rfl ?_
            refine tr_nil ?_
            refine then_normal ?_
            refine tr_cond (OT.tmp rfl) (fun c66 => ?_) (fun c66 => ?_)
            · skip
              -- region 17
              refine tr_env (es_cons (t := 0) (OT.tmp rfl) (es_cons (t := 2) (OT.tmp rfl) (es_cons (t := 5) (OT.tmp rfl) es_nil))) ?_
              refine tr_region ?_
              refine op_pure (pu_move (OT.tmp rfl)) rfl rfl ?_
              refine op_pure (pu_neg_w (OT.tmp rfl)) rfl rfl ?_
              refine op_pure (pu_assign (OT.tmp rfl)) rfl rfl ?_
              refine tr_nil ?_
              refine then_normal ?_
              exact tr_joined (IntKind.i64.wrap (-z)) (by unfold signed2; rw [hd, if_pos (by simp at c66; omega)]) (es_append (es_cons (t := 5) (by exact OT.tmp rfl) es_nil) (es_cons (t := 0) (OT.tmp rfl) (es_cons (t := 2) (OT.tmp rfl) es_nil))) (own_picks (by repeat (first | exact picks_nil | refine picks_cons 0 rfl ?_ | refine picks_cons 1 rfl ?_ | refine picks_cons 2 rfl ?_ | refine picks_cons 3 rfl ?_ | refine picks_cons 4 rfl ?_ | refine picks_cons 5 rfl ?_ | refine picks_cons 6 rfl ?_)))
            · skip
              refine tr_skip ?_
              refine then_normal ?_
              exact tr_joined z (by unfold signed2; rw [hd, if_neg (by simp at c66; omega)]) (es_append (es_cons (t := 5) (by exact OT.tmp rfl) es_nil) (es_cons (t := 0) (OT.tmp rfl) (es_cons (t := 2) (OT.tmp rfl) es_nil))) (own_picks (by repeat (first | exact picks_nil | refine picks_cons 0 rfl ?_ | refine picks_cons 1 rfl ?_ | refine picks_cons 2 rfl ?_ | refine picks_cons 3 rfl ?_ | refine picks_cons 4 rfl ?_ | refine picks_cons 5 rfl ?_ | refine picks_cons 6 rfl ?_)))
          · rintro m hm
            refine tr_seq ?_
            refine tr_seq ?_
            -- region 18
            refine tr_env (es_cons (t := 0) (OT.tmp rfl) (es_cons (t := 2) (OT.tmp rfl) (es_cons (t := 5) (OT.tmp rfl) es_nil))) ?_
            have hm0 : -9223372036854775808 ≤ m := by rw [← hm]; exact hzi.1
            have hm1 : m ≤ 9223372036854775807 := by rw [← hm]; exact hzi.2
            refine tr_region ?_
            refine op_pure (pu_move (OT.tmp rfl)) rfl rfl ?_
            refine op_acts (acts_call (Digits_fn m hm0 hm1) (show enters Tryd.prog 26 = true from by decide +kernel) (OTs.cons (OT.tmp rfl) OTs.nil) (List.Perm.refl _)) (List.Perm.refl _) rfl rfl (fun _ _ => ?_)
            refine op_pure (pu_move (OT.tmp rfl)) rfl rfl ?_
            refine op_pure (pu_bs_neq (OT.tmp rfl) (OT.tmp rfl)) rfl rfl ?_
            refine tr_nil ?_
            refine then_normal ?_
            refine tr_cond (OT.tmp rfl) (fun c72 => ?_) (fun c72 => ?_)
            · skip
              have hno : parseN l = none := parseN_off (z := z) (by rw [hd]; exact hzf) (by rw [hm]; simpa using c72)
              refine tr_seq ?_
              -- region 19
              refine tr_env (es_cons (t := 2) (OT.tmp rfl) es_nil) ?_
              refine tr_region ?_
              refine op_pure (pu_build (d := kVl) (v0 := (0, 0, [])) (ps := [(0, 1), (1, 1), (2, 1)]) zVl (by kernel_rfl) rfl fills_nil) rfl rfl ?_
              refine op_acts (acts_store_var (OT.tmp rfl) (OT.tmp rfl) (by exact perm_at 0 rfl) (show tyOk Tryd.prog 23 true 3 = true from by decide +kernel)) (by exact perm_at 0 rfl) rfl rfl (fun _ _ => ?_)
              refine op_pure (pu_assign OT.const) rfl rfl ?_
              refine tr_nil ?_
              refine then_normal ?_
              refine tr_ret ?_
              refine then_ret ?_
              exact ret_cell_tmp .ret (.inl rfl) rfl ((0, 0, []), false) (OT.tmp rfl) (by exact mem_at 0 rfl) (show tyOk Tryd.prog 23 true 3 = true from by decide +kernel) (OT.tmp rfl) (fun _ _ h => h) ⟨fun h => absurd h (by simp), fun _ => hno⟩ (by exact picks_nil)
            · skip
              have hyes : parseN l = some (1, m, []) := parseN_on hm0 hm1 (by simpa using c72)
              refine tr_skip ?_
              refine then_normal ?_
              refine tr_seq ?_
              -- region 20
              refine tr_env (es_cons (t := 2) (OT.tmp rfl) (es_cons (t := 5) (OT.tmp rfl) es_nil)) ?_
              refine tr_region ?_
              refine op_pure (pu_move (OT.tmp rfl)) rfl rfl ?_
              refine op_pure (pu_build (d := kVl) (v0 := (0, 0, [])) (ps := [(0, 1), (1, 1), (2, 1)]) zVl (by kernel_rfl) rfl (fills_cons rfl lv0 OT.const (fills_cons rfl lv1 (OT.tmp rfl) fills_nil))) rfl rfl ?_
              refine op_acts (acts_store_var (OT.tmp rfl) (OT.tmp rfl) (by exact perm_at 0 rfl) (show tyOk Tryd.prog 23 true 3 = true from by decide +kernel)) (by exact perm_at 0 rfl) rfl rfl (fun _ _ => ?_)
              refine op_pure (pu_assign OT.const) rfl rfl ?_
              refine tr_nil ?_
              refine then_normal ?_
              refine tr_ret ?_
              exact ret_cell_tmp .ret (.inl rfl) rfl ((1, m, []), true) (OT.tmp rfl) (by exact mem_at 0 rfl) (show tyOk Tryd.prog 23 true 3 = true from by decide +kernel) (OT.tmp rfl) (fun _ _ h => h) ⟨fun _ => hyes, fun h => absurd h (by simp)⟩ (by exact picks_nil)
end Go.Proofs.YtdlendioamiagaaDoor
/- Walks through the Go functions rhizomeref02.Parse, rhizomelaw02.ValParses, as typed contracts. -/
namespace Go.Proofs.YtdlendioamiagaaDoor
open Go Go.Gw Go.Vl
set_option linter.unusedVariables false
set_option linter.unusedSimpArgs false

set_option maxRecDepth 20000 in
/-- rhizome/rhizomeref02.Parse -/
theorem rParse_fn (l : List UInt8) (hl : l.length ≤ 200000) : Ct Tryd.prog 19 [BsT l] ([]) (Vl × Bool) (fun r => TupT [kVl.T r.1, BoolT r.2]) (fun _ => []) (fun r => (r.2 = true → parseV l = some r.1) ∧ (r.2 = false → parseV l = none)) := by
  refine fn_intro Tryd.func19 rfl rfl ?_
  intro H w
  refine tr_seq ?_
  -- region 0
  refine tr_env (es_cons (t := 0) (OT.tmp rfl) es_nil) ?_
  refine tr_region ?_
  refine op_acts (acts_alloc (zVl)) (List.Perm.refl _) rfl rfl (fun g0_0 _ => ?_)
  refine op_pure (pu_assign OT.const) rfl rfl ?_
  refine tr_nil ?_
  refine then_normal ?_
  refine tr_seq ?_
  refine tr_seq ?_
  -- region 1
  refine tr_env (es_cons (t := 0) (OT.tmp rfl) (es_cons (t := 2) (OT.tmp rfl) es_nil)) ?_
  refine tr_region ?_
  refine op_pure (pu_move (OT.tmp rfl)) rfl rfl ?_
  refine op_pure (pu_bs_eql (OT.tmp rfl) OT.const) rfl rfl ?_
  refine tr_nil ?_
  refine then_normal ?_
  refine tr_cond (OT.tmp rfl) (fun c10 => ?_) (fun c10 => ?_)
  · skip
    obtain rfl : l = tru := by simpa using c10
    refine tr_seq ?_
    -- region 2
    refine tr_env (es_cons (t := 2) (OT.tmp rfl) es_nil) ?_
    refine tr_region ?_
    refine op_pure (pu_build (d := kVl) (v0 := (0, 0, [])) (ps := [(0, 1), (1, 1), (2, 1)]) zVl (by kernel_rfl) rfl (fills_cons rfl lv0 OT.const (fills_cons rfl lv1 OT.const fills_nil))) rfl rfl ?_
    refine op_acts (acts_store_var (OT.tmp rfl) (OT.tmp rfl) (by exact perm_at 0 rfl) (show tyOk Tryd.prog 23 true 3 = true from by decide +kernel)) (by exact perm_at 0 rfl) rfl rfl (fun _ _ => ?_)
    refine op_pure (pu_assign OT.const) rfl rfl ?_
    refine tr_nil ?_
    refine then_normal ?_
    refine tr_ret ?_
    refine then_ret ?_
    exact ret_cell_tmp .ret (.inl rfl) rfl ((3, 1, []), true) (OT.tmp rfl) (by exact mem_at 0 rfl) (show tyOk Tryd.prog 23 true 3 = true from by decide +kernel) (OT.tmp rfl) (fun _ _ h => h) ⟨fun _ => if_pos rfl, fun h => absurd h (by simp)⟩ (by exact picks_nil)
  · skip
    have hn1 : l ≠ tru := by simpa using c10
    refine tr_skip ?_
    refine then_normal ?_
    refine tr_seq ?_
    refine tr_seq ?_
    -- region 3
    refine tr_env (es_cons (t := 0) (OT.tmp rfl) (es_cons (t := 2) (OT.tmp rfl) es_nil)) ?_
    refine tr_region ?_
    refine op_pure (pu_move (OT.tmp rfl)) rfl rfl ?_
    refine op_pure (pu_bs_eql (OT.tmp rfl) OT.const) rfl rfl ?_
    refine tr_nil ?_
    refine then_normal ?_
    refine tr_cond (OT.tmp rfl) (fun c13 => ?_) (fun c13 => ?_)
    · skip
      obtain rfl : l = fls := by simpa using c13
      refine tr_seq ?_
      -- region 4
      refine tr_env (es_cons (t := 2) (OT.tmp rfl) es_nil) ?_
      refine tr_region ?_
      refine op_pure (pu_build (d := kVl) (v0 := (0, 0, [])) (ps := [(0, 1), (1, 1), (2, 1)]) zVl (by kernel_rfl) rfl (fills_cons rfl lv0 OT.const fills_nil)) rfl rfl ?_
      refine op_acts (acts_store_var (OT.tmp rfl) (OT.tmp rfl) (by exact perm_at 0 rfl) (show tyOk Tryd.prog 23 true 3 = true from by decide +kernel)) (by exact perm_at 0 rfl) rfl rfl (fun _ _ => ?_)
      refine op_pure (pu_assign OT.const) rfl rfl ?_
      refine tr_nil ?_
      refine then_normal ?_
      refine tr_ret ?_
      refine then_ret ?_
      exact ret_cell_tmp .ret (.inl rfl) rfl ((3, 0, []), true) (OT.tmp rfl) (by exact mem_at 0 rfl) (show tyOk Tryd.prog 23 true 3 = true from by decide +kernel) (OT.tmp rfl) (fun _ _ h => h) ⟨fun _ => (by unfold parseV; rw [if_neg hn1, if_pos rfl]), fun h => absurd h (by simp)⟩ (by exact picks_nil)
    · skip
      have hn2 : l ≠ fls := by simpa using c13
      refine tr_skip ?_
      refine then_normal ?_
      refine tr_seq ?_
      refine tr_seq ?_
      -- region 5
      refine tr_env (es_cons (t := 0) (OT.tmp rfl) (es_cons (t := 2) (OT.tmp rfl) es_nil)) ?_
      refine tr_region ?_
      refine op_pure (pu_move (OT.tmp rfl)) rfl rfl ?_
      refine op_pure (pu_len_bs Tryd.underlying9 (OT.tmp rfl)) rfl rfl ?_
      refine op_pure (pu_eql (OT.tmp rfl) OT.const) rfl rfl ?_
      refine op_pure (pu_move (OT.tmp rfl)) rfl rfl ?_
      refine op_gu rfl rfl rfl (OT.gu_mk (OT.tmp rfl)) (fun hg => by (have hg1 := hg.2; (try simp only [decide_eq_true_eq, decide_eq_false_iff_not] at hg1); exact pu_move (by exact OT.tmp rfl))) rfl ?_
      refine op_gu rfl rfl rfl (OT.gu_mk (OT.tmp rfl)) (fun hg => by (have hg1 := hg.2; (try simp only [decide_eq_true_eq, decide_eq_false_iff_not] at hg1); exact pu_bs_index (by exact OT.gu (OT.tmp rfl) hg) OT.const Tryd.underlying9 (by omega) (by omega))) rfl ?_
      refine op_gu rfl rfl rfl (OT.gu_mk (OT.tmp rfl)) (fun hg => by (have hg1 := hg.2; (try simp only [decide_eq_true_eq, decide_eq_false_iff_not] at hg1); exact pu_neq (by exact OT.gu (OT.tmp rfl) hg) OT.const)) rfl ?_
      refine op_pure (pu_pick_or (OT.tmp rfl) (by exact OT.tmp rfl)) rfl rfl ?_
      refine tr_nil ?_
      refine then_normal ?_
      refine tr_cond (OT.tmp rfl) (fun c22 => ?_) (fun c22 => ?_)
      · skip
        have hpn : parseV l = parseN l := parseV_num hn1 hn2 (by
          cases l with
          | nil => exact .inl rfl
          | cons a r => exact .inr (by rw [show at' (nums (a :: r)) 0 = (bt (a :: r) 0 : Int) from rfl] at c22; simp at c22; omega))
        refine tr_seq ?_
        -- region 6
        refine tr_env (es_cons (t := 0) (OT.tmp rfl) (es_cons (t := 2) (OT.tmp rfl) es_nil)) ?_
        refine tr_region ?_
        refine op_pure (pu_move (OT.tmp rfl)) rfl rfl ?_
        refine op_acts (acts_call (rNumber_fn l (by omega)) (show enters Tryd.prog 48 = true from by decide +kernel) (OTs.cons (OT.tmp rfl) OTs.nil) (List.Perm.refl _)) (List.Perm.refl _) rfl rfl (fun r6_1 hr6_1 => ?_)
        refine op_pure (pu_extract (OT.tmp rfl) rfl) rfl rfl ?_
        refine op_pure (pu_extract (OT.tmp rfl) rfl) rfl rfl ?_
        refine op_acts (acts_store_var (OT.tmp rfl) (OT.tmp rfl) (by exact perm_at 0 rfl) (show tyOk Tryd.prog 23 true 3 = true from by decide +kernel)) (by exact perm_at 0 rfl) rfl rfl (fun _ _ => ?_)
        refine op_pure (pu_assign (OT.tmp rfl)) rfl rfl ?_
        refine tr_nil ?_
        refine then_normal ?_
        refine tr_ret ?_
        refine then_ret ?_
        exact ret_cell_tmp .ret (.inl rfl) rfl r6_1 (OT.tmp rfl) (by exact mem_at 0 rfl) (show tyOk Tryd.prog 23 true 3 = true from by decide +kernel) (OT.tmp rfl) (fun _ _ h => h) ⟨fun h => by rw [hpn]; exact hr6_1.1 h, fun h => by rw [hpn]; exact hr6_1.2 h⟩ (by exact picks_nil)
      · skip
        obtain ⟨u, rfl⟩ : ∃ u, l = 34 :: u := by
          cases l with
          | nil => simp at c22
          | cons a r =>
            rw [show at' (nums (a :: r)) 0 = (a.toNat : Int) from rfl] at c22
            have : a = 34 := u_of (k := 34) (by simp at c22; omega)
            exact ⟨r, by rw [this]⟩
        obtain ⟨l, hlv⟩ : ∃ l, (34 : UInt8) :: u = l := ⟨_, rfl⟩
        rw [hlv] at hl ⊢
        have hlu : l.drop 1 = u := by rw [← hlv]; rfl
        have hl1 : 1 ≤ l.length := by rw [← hlv]; simp
        refine tr_skip ?_
        refine then_normal ?_
        refine tr_seq ?_
        -- region 7
        refine tr_env (es_cons (t := 0) (OT.tmp rfl) (es_cons (t := 2) (OT.tmp rfl) es_nil)) ?_
        refine tr_region ?_
        refine op_pure (pu_assign OT.const) rfl rfl ?_
        refine tr_nil ?_
        refine then_normal ?_
        refine tr_seq ?_
        refine tr_seq ?_
        -- region 8
        refine tr_env (es_cons (t := 0) (OT.tmp rfl) (es_cons (t := 2) (OT.tmp rfl) (es_cons (t := 4) (OT.tmp rfl) es_nil))) ?_
        refine tr_region ?_
        refine op_pure (pu_assign OT.const) rfl rfl ?_
        refine tr_nil ?_
        refine then_normal ?_
        refine tr_block ?_
        refine tr_loopK (σ := Nat × List UInt8) (es_cons (t := 0) (OT.tmp rfl) (es_cons (t := 2) (OT.tmp rfl) es_nil)) (fun s => [(5, I64 (s.1 : Int)), (4, BsT s.2)]) (fun s => [BlkI g0_0 23 kVl (0, 0, [])]) (fun s => 1 ≤ s.1 ∧ s.1 ≤ l.length ∧ s.2.length ≤ 4 * s.1 ∧ refT u = (refT (l.drop s.1)).map fun t => s.2 ++ t) (fun s => l.length - s.1) (1, []) ⟨Nat.le_refl _, hl1, by show (0 : Nat) ≤ 4 * 1; omega, by rw [hlu]; simp⟩ ?_ (own_picks (by repeat (first | exact picks_nil | refine picks_cons 0 rfl ?_ | refine picks_cons 1 rfl ?_ | refine picks_cons 2 rfl ?_ | refine picks_cons 3 rfl ?_ | refine picks_cons 4 rfl ?_ | refine picks_cons 5 rfl ?_ | refine picks_cons 6 rfl ?_))) ?_
        · exact (es_cons (t := 5) (OT.tmp rfl) (es_cons (t := 4) (OT.tmp rfl) es_nil))
        · rintro ⟨i, t⟩ ⟨hi1, hil9, htl, hI⟩
          dsimp only at hi1 hil9 htl hI ⊢
          refine tr_seq ?_
          refine tr_seq ?_
          -- region 9
          refine tr_env (es_cons (t := 0) (OT.tmp rfl) (es_cons (t := 2) (OT.tmp rfl) (es_cons (t := 4) (OT.tmp rfl) (es_cons (t := 5) (OT.tmp rfl) es_nil)))) ?_
          refine tr_region ?_
          refine op_pure (pu_move (OT.tmp rfl)) rfl rfl ?_
          refine op_pure (pu_move (OT.tmp rfl)) rfl rfl ?_
          refine op_pure (pu_len_bs Tryd.underlying9 (OT.tmp rfl)) rfl rfl ?_
          refine op_pure (pu_lss (OT.tmp rfl) (OT.tmp rfl)) rfl rfl ?_
          refine tr_nil ?_
          refine then_normal ?_
          refine tr_cond (OT.tmp rfl) (fun c30 => ?_) (fun c30 => ?_)
          · skip
            refine tr_skip ?_
            refine then_normal ?_
            refine tr_block ?_
            refine tr_seq ?_
            refine tr_seq ?_
            -- region 10
            refine tr_env (es_cons (t := 0) (OT.tmp rfl) (es_cons (t := 2) (OT.tmp rfl) (es_cons (t := 4) (OT.tmp rfl) (es_cons (t := 5) (OT.tmp rfl) es_nil)))) ?_
            have hil : i < l.length := by simp at c30; omega
            obtain ⟨y, hyd⟩ : ∃ y, l.drop i = y := ⟨_, rfl⟩
            have hne : y ≠ [] := by rw [← hyd]; exact drop_ne hil
            have hyl : y.length = l.length - i := by rw [← hyd, List.length_drop]
            have hat : at' (nums l) (i : Int) = (bt y 0 : Int) := by have h9 := bt_drop (l := l) (i := i) (j := 0) (by omega); rw [hyd] at h9; exact h9
            rw [hyd] at hI
            refine tr_region ?_
            refine op_pure (pu_move (OT.tmp rfl)) rfl rfl ?_
            refine op_pure (pu_move (OT.tmp rfl)) rfl rfl ?_
            refine op_pure (pu_bs_index (OT.tmp rfl) (OT.tmp rfl) Tryd.underlying9 (by omega) (by omega)) rfl rfl ?_
            refine op_pure (pu_eql (OT.tmp rfl) OT.const) rfl rfl ?_
            refine tr_nil ?_
            refine then_normal ?_
            refine tr_cond (OT.tmp rfl) (fun c34 => ?_) (fun c34 => ?_)
            · skip
              rw [hat] at c34
              have h34 : bt y 0 = 34 := by simp at c34; omega
              obtain ⟨he1, he2⟩ := text_end hI hne h34
              rw [hlv] at he1 he2
              refine tr_seq ?_
              -- region 11
              refine tr_env (es_cons (t := 0) (OT.tmp rfl) (es_cons (t := 2) (OT.tmp rfl) (es_cons (t := 4) (OT.tmp rfl) (es_cons (t := 5) (OT.tmp rfl) es_nil)))) ?_
              refine tr_region ?_
              refine op_pure (pu_move (OT.tmp rfl)) rfl rfl ?_
              refine op_pure (pu_build (d := kVl) (v0 := (0, 0, [])) (ps := [(0, 1), (1, 1), (2, 1)]) zVl (by kernel_rfl) rfl (fills_cons rfl lv0 OT.const (fills_cons rfl lv2 (OT.tmp rfl) fills_nil))) rfl rfl ?_
              refine op_acts (acts_alloc (zVl)) (List.Perm.refl _) rfl rfl (fun g11_2 _ => ?_)
              refine op_acts (acts_store_var (OT.tmp rfl) (OT.tmp rfl) (by exact perm_at 0 rfl) (show tyOk Tryd.prog 23 true 3 = true from by decide +kernel)) (by exact perm_at 0 rfl) rfl rfl (fun _ _ => ?_)
              refine tr_nil ?_
              refine then_normal ?_
              refine tr_seq ?_
              -- region 12
              refine tr_env (es_cons (t := 0) (OT.tmp rfl) (es_cons (t := 2) (OT.tmp rfl) (es_cons (t := 5) (OT.tmp rfl) (es_cons (t := 6) (OT.tmp rfl) es_nil)))) ?_
              apply tr_anyW (p := 11) (Lf := fun c => cond c ([BlkI g0_0 23 kVl (2, 0, t), BlkI g11_2 23 kVl (2, 0, t)]) ([BlkI g11_2 23 kVl (2, 0, t), BlkI g0_0 23 kVl (0, 0, [])])) (by kernel_rfl) (m := 12) (ns := [[(6, none)], [(5, none)], [(0, none)], [(39, some 2)], [(40, some 3)], [(38, some 1), (41, some 4)], [(42, some 5)], [(6, none), (43, some 6)], [(43, some 6), (44, some 7)], [(43, some 6), (45, some 8)], [(43, some 6), (46, some 9)], [(2, none), (37, some 0)]]) (by kernel_rfl) (by kernel_rfl) (Ts := [_, _, _, _, _, _, _, _, _, _, _, _]) rfl
              case hops =>
                refine ⟨?_, ⟨?_, ⟨?_, ⟨?_, ⟨?_, ⟨?_, ⟨?_, ⟨?_, ⟨?_, ⟨?_, ⟨?_, ⟨?_, trivial⟩⟩⟩⟩⟩⟩⟩⟩⟩⟩⟩⟩
                · intro c hc; cases c
                  · exact ropw_of (rop_pure rfl (pu_load_var (OT.tmp rfl) (by exact mem_at 0 rfl) (show tyOk Tryd.prog 23 true 3 = true from by decide +kernel)))
                  · exact Bool.noConfusion (hc.symm.trans (by kernel_rfl : okFlag _ _ _ _ = false))
                · intro c hc; cases c
                  · exact ropw_of (rop_pure rfl (pu_move (OT.tmp rfl)))
                  · exact Bool.noConfusion (hc.symm.trans (by kernel_rfl : okFlag _ _ _ _ = false))
                · intro c hc; cases c
                  · exact ropw_of (rop_pure rfl (pu_move (OT.tmp rfl)))
                  · exact Bool.noConfusion (hc.symm.trans (by kernel_rfl : okFlag _ _ _ _ = false))
                · intro c hc; cases c
                  · exact ropw_of (rop_pure rfl (pu_len_bs Tryd.underlying9 (OT.tmp rfl)))
                  · exact Bool.noConfusion (hc.symm.trans (by kernel_rfl : okFlag _ _ _ _ = false))
                · intro c hc; cases c
                  · exact ropw_of (rop_pure rfl (pu_sub' (OT.tmp rfl) OT.const (by omega)))
                  · exact Bool.noConfusion (hc.symm.trans (by kernel_rfl : okFlag _ _ _ _ = false))
                · intro c hc; cases c
                  · exact ropw_of (rop_pure rfl (pu_eql (OT.tmp rfl) (OT.tmp rfl)))
                  · exact Bool.noConfusion (hc.symm.trans (by kernel_rfl : okFlag _ _ _ _ = false))
                · intro c hc; cases c
                  · exact ropw_of (rop_pure rfl (pu_move (OT.tmp rfl)))
                  · exact Bool.noConfusion (hc.symm.trans (by kernel_rfl : okFlag _ _ _ _ = false))
                · intro c hc; cases c
                  · exact ropw_of (rop_gu rfl rfl rfl (OT.gu_mk (OT.tmp rfl)) (fun hg => by (have hg1 := hg.2; exact rop_pure rfl (pu_load_var (by exact OT.tmp rfl) (by exact mem_at 0 rfl) (show tyOk Tryd.prog 23 true 3 = true from by decide +kernel)))))
                  · exact Bool.noConfusion (hc.symm.trans (by kernel_rfl : okFlag _ _ _ _ = false))
                · intro c hc; cases c
                  · exact ropw_of (rop_gu rfl rfl rfl (OT.gu_mk (OT.tmp rfl)) (fun hg => by (have hg1 := hg.2; exact rop_acts rfl (acts_call (rCheck_fn (2, 0, t) (by show t.length ≤ 140737488351232; omega)) (show enters Tryd.prog 12 = true from by decide +kernel) (OTs.cons (by exact OT.gu (OT.tmp rfl) hg) OTs.nil) (List.Perm.refl _)) (fun _ _ _ _ h => h))))
                  · exact Bool.noConfusion (hc.symm.trans (by kernel_rfl : okFlag _ _ _ _ = false))
                · intro c hc; cases c
                  · exact ropw_of (rop_gu rfl rfl rfl (OT.gu_mk (OT.tmp rfl)) (fun hg => by (have hg1 := hg.2; exact rop_pure rfl (pu_eql (by exact OT.gu (OT.tmp rfl) hg) OT.const))))
                  · exact ropw_of (rop_gu rfl rfl rfl (OT.gu_mk (OT.tmp rfl)) (fun hg => by (have hg1 := hg.2; exact rop_pure rfl (pu_eql (by exact OT.gu (OT.tmp rfl) hg) OT.const))))
                · intro c hc; cases c
                  · exact ropw_of (rop_pure rfl (pu_pick_and (OT.tmp rfl) (by exact OT.tmp rfl)))
                  · exact ropw_of (rop_pure rfl (pu_pick_and (OT.tmp rfl) (by exact OT.tmp rfl)))
                · intro c hc; cases c
                  · exact ropw_acts rfl (acts_store_var (OT.tmp rfl) (OT.tmp rfl) (by exact perm_at 1 rfl) (show tyOk Tryd.prog 23 true 3 = true from by decide +kernel)) (by exact perm_at 1 rfl) (fun _ => (by exact perm_at 0 rfl)) (fun _ _ _ _ h => h)
                  · exact Bool.noConfusion (hc.symm.trans (by kernel_rfl : okFlag _ _ _ _ = false))
              case h =>
                refine op_pure (pu_assign (OT.tmp rfl)) rfl rfl ?_
                refine tr_nil ?_
                refine then_normal ?_
                refine tr_ret ?_
                refine then_ret ?_
                refine block_ret ?_
                refine then_ret ?_
                refine block_ret ?_
                refine then_ret ?_
                exact ret_cell_tmp .ret (.inl rfl) rfl ((2, 0, t), (decide ((i : Int) = (l.length : Int) - 1) && decide (checkV (2, 0, t) = 0))) (OT.tmp rfl) (by exact mem_at 0 rfl) (show tyOk Tryd.prog 23 true 3 = true from by decide +kernel) (OT.tmp rfl) (fun _ _ h => h) ⟨fun h => he1 (by simp at h; exact ⟨by omega, h.2⟩), fun h => he2 (by rintro ⟨q1, q2⟩; rw [q2] at h; simp at h; omega)⟩ (by exact picks_nil)
            · skip
              rw [hat] at c34
              have h34 : bt y 0 ≠ 34 := by simp at c34; omega
              refine tr_skip ?_
              refine then_normal ?_
              refine tr_seq ?_
              -- region 13
              refine tr_env (es_cons (t := 0) (OT.tmp rfl) (es_cons (t := 2) (OT.tmp rfl) (es_cons (t := 4) (OT.tmp rfl) (es_cons (t := 5) (OT.tmp rfl) es_nil)))) ?_
              refine tr_region ?_
              refine op_pure (pu_move (OT.tmp rfl)) rfl rfl ?_
              refine op_pure (pu_move (OT.tmp rfl)) rfl rfl ?_
              refine op_acts (acts_call (rRune_fn l i (by omega) (by omega)) (show enters Tryd.prog 41 = true from by decide +kernel) (OTs.cons (OT.tmp rfl) (OTs.cons (OT.tmp rfl) OTs.nil)) (List.Perm.refl _)) (List.Perm.refl _) rfl rfl (fun _ _ => ?_)
              refine op_pure (pu_move (OT.tmp rfl)) rfl rfl ?_
              refine op_pure (pu_extract (OT.tmp rfl) rfl) rfl rfl ?_
              refine op_pure (pu_extract (OT.tmp rfl) rfl) rfl rfl ?_
              refine op_pure (pu_assign (OT.tmp rfl)) rfl rfl ?_
              refine op_pure (pu_assign (OT.tmp rfl)) rfl rfl ?_
              refine tr_nil ?_
              refine then_normal ?_
              refine tr_joinK (σ := Int × Int) (es_cons (t := 0) (OT.tmp rfl) (es_cons (t := 2) (OT.tmp rfl) (es_cons (t := 4) (OT.tmp rfl) (es_cons (t := 5) (OT.tmp rfl) es_nil)))) (fun s => [(8, I64 s.1), (7, I64 s.2)]) (fun s => [BlkI g0_0 23 kVl (0, 0, [])]) (fun s => StepT y s.1 s.2) ?_ ?_
              · skip
                refine tr_seq ?_
                -- region 14
                refine tr_env (es_cons (t := 0) (OT.tmp rfl) (es_cons (t := 2) (OT.tmp rfl) (es_cons (t := 4) (OT.tmp rfl) (es_cons (t := 5) (OT.tmp rfl) (es_cons (t := 7) (OT.tmp rfl) (es_cons (t := 8) (OT.tmp rfl) es_nil)))))) ?_
                rw [hyd]
                refine tr_region ?_
                refine op_pure (pu_move (OT.tmp rfl)) rfl rfl ?_
                refine op_pure (pu_move (OT.tmp rfl)) rfl rfl ?_
                refine op_pure (pu_bs_index (OT.tmp rfl) (OT.tmp rfl) Tryd.underlying9 (by omega) (by omega)) rfl rfl ?_
                refine op_pure (pu_eql (OT.tmp rfl) OT.const) rfl rfl ?_
                refine tr_nil ?_
                refine then_normal ?_
                refine tr_cond (OT.tmp rfl) (fun c57 => ?_) (fun c57 => ?_)
                · skip
                  rw [hat] at c57
                  have h92 : bt y 0 = 92 := by simp at c57; omega
                  have hstep := step_esc hne h92
                  have hyd1 : l.drop (i + 1) = y.drop 1 := by rw [← hyd, List.drop_drop]
                  -- region 15
                  refine tr_env (es_cons (t := 0) (OT.tmp rfl) (es_cons (t := 2) (OT.tmp rfl) (es_cons (t := 4) (OT.tmp rfl) (es_cons (t := 5) (OT.tmp rfl) es_nil)))) ?_
                  refine tr_region ?_
                  refine op_pure (pu_move (OT.tmp rfl)) rfl rfl ?_
                  refine op_pure (pu_move (OT.tmp rfl)) rfl rfl ?_
                  refine op_acts (acts_call (rEscape_fn l i (by omega) (by omega)) (show enters Tryd.prog 49 = true from by decide +kernel) (OTs.cons (OT.tmp rfl) (OTs.cons (OT.tmp rfl) OTs.nil)) (List.Perm.refl _)) (List.Perm.refl _) rfl rfl (fun _ _ => ?_)
                  refine op_pure (pu_move (OT.tmp rfl)) rfl rfl ?_
                  refine op_pure (pu_extract (OT.tmp rfl) rfl) rfl rfl ?_
                  refine op_pure (pu_extract (OT.tmp rfl) rfl) rfl rfl ?_
                  refine op_pure (pu_assign (OT.tmp rfl)) rfl rfl ?_
                  refine op_pure (pu_assign (OT.tmp rfl)) rfl rfl ?_
                  refine tr_nil ?_
                  rw [hyd1]
                  refine then_normal ?_
                  exact tr_joined ((escZ (y.drop 1)).1, (escZ (y.drop 1)).2) hstep (es_append (es_cons (t := 8) (by exact OT.tmp rfl) (es_cons (t := 7) (by exact OT.tmp rfl) es_nil)) (es_cons (t := 0) (OT.tmp rfl) (es_cons (t := 2) (OT.tmp rfl) (es_cons (t := 4) (OT.tmp rfl) (es_cons (t := 5) (OT.tmp rfl) es_nil))))) (own_picks (by repeat (first | exact picks_nil | refine picks_cons 0 rfl ?_ | refine picks_cons 1 rfl ?_ | refine picks_cons 2 rfl ?_ | refine picks_cons 3 rfl ?_ | refine picks_cons 4 rfl ?_ | refine picks_cons 5 rfl ?_ | refine picks_cons 6 rfl ?_)))
                · skip
                  rw [hat] at c57
                  have h92 : bt y 0 ≠ 92 := by simp at c57; omega
                  obtain ⟨hs1, hs2⟩ := step_run hne h34 h92
                  refine tr_seq ?_
                  -- region 16
                  refine tr_env (es_cons (t := 0) (OT.tmp rfl) (es_cons (t := 2) (OT.tmp rfl) (es_cons (t := 4) (OT.tmp rfl) (es_cons (t := 5) (OT.tmp rfl) (es_cons (t := 7) (OT.tmp rfl) (es_cons (t := 8) (OT.tmp rfl) es_nil)))))) ?_
                  refine tr_region ?_
                  refine op_pure (pu_move (OT.tmp rfl)) rfl rfl ?_
                  refine op_pure (pu_lss (OT.tmp rfl) OT.const) rfl rfl ?_
                  refine op_pure (pu_move (OT.tmp rfl)) rfl rfl ?_
                  refine op_gu rfl rfl rfl (OT.gu_mk (OT.tmp rfl)) (fun hg => by (have hg1 := hg.2; (try simp only [decide_eq_true_eq, decide_eq_false_iff_not] at hg1); exact pu_move (by exact OT.tmp rfl))) rfl ?_
                  refine op_gu rfl rfl rfl (OT.gu_mk (OT.tmp rfl)) (fun hg => by (have hg1 := hg.2; (try simp only [decide_eq_true_eq, decide_eq_false_iff_not] at hg1); exact pu_eql (by exact OT.gu (OT.tmp rfl) hg) OT.const)) rfl ?_
                  refine op_pure (pu_pick_or (OT.tmp rfl) (by exact OT.tmp rfl)) rfl rfl ?_
                  refine tr_nil ?_
                  refine then_normal ?_
                  refine tr_cond (OT.tmp rfl) (fun c69 => ?_) (fun c69 => ?_)
                  · skip
                    have hno : parseV l = none := by rw [← hlv]; exact text_none hI (hs1 (by simp only [Bool.or_eq_true, decide_eq_true_eq] at c69; exact c69))
                    refine tr_seq ?_
                    -- region 17
                    refine tr_env (es_cons (t := 2) (OT.tmp rfl) es_nil) ?_
                    refine tr_region ?_
                    refine op_pure (pu_build (d := kVl) (v0 := (0, 0, [])) (ps := [(0, 1), (1, 1), (2, 1)]) zVl (by kernel_rfl) rfl fills_nil) rfl rfl ?_
                    refine op_acts (acts_store_var (OT.tmp rfl) (OT.tmp rfl) (by exact perm_at 0 rfl) (show tyOk Tryd.prog 23 true 3 = true from by decide +kernel)) (by exact perm_at 0 rfl) rfl rfl (fun _ _ => ?_)
                    refine op_pure (pu_assign OT.const) rfl rfl ?_
                    refine tr_nil ?_
                    refine then_normal ?_
                    refine tr_ret ?_
                    refine then_ret ?_
                    refine block_ret ?_
                    refine then_ret ?_
                    refine block_ret ?_
                    refine then_ret ?_
                    exact ret_cell_tmp .ret (.inl rfl) rfl ((0, 0, []), false) (OT.tmp rfl) (by exact mem_at 0 rfl) (show tyOk Tryd.prog 23 true 3 = true from by decide +kernel) (OT.tmp rfl) (fun _ _ h => h) ⟨fun h => absurd h (by simp), fun _ => hno⟩ (by exact picks_nil)
                  · skip
                    have hstep := hs2 (by simp only [Bool.or_eq_false_iff, decide_eq_false_iff_not] at c69; omega)
                    refine tr_skip ?_
                    refine then_normal ?_
                    exact tr_joined ((refR y).2, (refR y).1) hstep (es_append (es_cons (t := 8) (by exact OT.tmp rfl) (es_cons (t := 7) (by exact OT.tmp rfl) es_nil)) (es_cons (t := 0) (OT.tmp rfl) (es_cons (t := 2) (OT.tmp rfl) (es_cons (t := 4) (OT.tmp rfl) (es_cons (t := 5) (OT.tmp rfl) es_nil))))) (own_picks (by repeat (first | exact picks_nil | refine picks_cons 0 rfl ?_ | refine picks_cons 1 rfl ?_ | refine picks_cons 2 rfl ?_ | refine picks_cons 3 rfl ?_ | refine picks_cons 4 rfl ?_ | refine picks_cons 5 rfl ?_ | refine picks_cons 6 rfl ?_)))
              · rintro ⟨n, w2⟩ hst
                dsimp only at hst ⊢
                refine tr_seq ?_
                refine tr_seq ?_
                -- region 18
                refine tr_env (es_cons (t := 0) (OT.tmp rfl) (es_cons (t := 2) (OT.tmp rfl) (es_cons (t := 4) (OT.tmp rfl) (es_cons (t := 5) (OT.tmp rfl) (es_cons (t := 7) (OT.tmp rfl) (es_cons (t := 8) (OT.tmp rfl) es_nil)))))) ?_
                refine tr_region ?_
                refine op_pure (pu_move (OT.tmp rfl)) rfl rfl ?_
                refine op_pure (pu_eql (OT.tmp rfl) OT.const) rfl rfl ?_
                refine tr_nil ?_
                refine then_normal ?_
                refine tr_cond (OT.tmp rfl) (fun c72 => ?_) (fun c72 => ?_)
                · skip
                  have hno : parseV l = none := by
                    rw [← hlv]
                    rcases hst with ⟨_, h⟩ | ⟨c, m, h1, h2, h3, _⟩
                    · exact text_none hI h
                    · exfalso; simp at c72; omega
                  refine tr_seq ?_
                  -- region 19
                  refine tr_env (es_cons (t := 2) (OT.tmp rfl) es_nil) ?_
                  refine tr_region ?_
                  refine op_pure (pu_build (d := kVl) (v0 := (0, 0, [])) (ps := [(0, 1), (1, 1), (2, 1)]) zVl (by kernel_rfl) rfl fills_nil) rfl rfl ?_
                  refine op_acts (acts_store_var (OT.tmp rfl) (OT.tmp rfl) (by exact perm_at 0 rfl) (show tyOk Tryd.prog 23 true 3 = true from by decide +kernel)) (by exact perm_at 0 rfl) rfl rfl (fun _ _ => ?_)
                  refine op_pure (pu_assign OT.const) rfl rfl ?_
                  refine tr_nil ?_
                  refine then_normal ?_
                  refine tr_ret ?_
                  refine then_ret ?_
                  refine block_ret ?_
                  refine then_ret ?_
                  refine block_ret ?_
                  refine then_ret ?_
                  exact ret_cell_tmp .ret (.inl rfl) rfl ((0, 0, []), false) (OT.tmp rfl) (by exact mem_at 0 rfl) (show tyOk Tryd.prog 23 true 3 = true from by decide +kernel) (OT.tmp rfl) (fun _ _ h => h) ⟨fun h => absurd h (by simp), fun _ => hno⟩ (by exact picks_nil)
                · skip
                  obtain ⟨c, m, rfl, rfl, hm1, hmy, hcr, hst⟩ : ∃ c m : Nat, n = c ∧ w2 = m ∧ 1 ≤ m ∧ m ≤ y.length ∧ isRune (c : Int) ∧ refT y = (refT (y.drop m)).map fun t => enc (c : Int) ++ t := by
                    rcases hst with ⟨h, _⟩ | h
                    · exfalso; simp at c72; omega
                    · exact h
                  have hel := enc_len (c : Int)
                  refine tr_skip ?_
                  refine then_normal ?_
                  refine tr_seq ?_
                  -- region 20
                  refine tr_env (es_cons (t := 0) (OT.tmp rfl) (es_cons (t := 2) (OT.tmp rfl) (es_cons (t := 4) (OT.tmp rfl) (es_cons (t := 5) (OT.tmp rfl) (es_cons (t := 7) (OT.tmp rfl) (es_cons (t := 8) (OT.tmp rfl) es_nil)))))) ?_
                  refine tr_region ?_
                  refine op_pure (pu_move (OT.tmp rfl)) rfl rfl ?_
                  refine op_pure (pu_move (OT.tmp rfl)) rfl rfl ?_
                  refine op_acts (acts_call (rBytes_fn c hcr) (show enters Tryd.prog 20 = true from by decide +kernel) (OTs.cons (OT.tmp rfl) OTs.nil) (List.Perm.refl _)) (List.Perm.refl _) rfl rfl (fun _ _ => ?_)
                  refine op_pure (pu_bs_add (OT.tmp rfl) (OT.tmp rfl) (by omega)) rfl rfl ?_
                  refine op_pure (pu_assign (OT.tmp rfl)) rfl rfl ?_
                  refine tr_nil ?_
                  refine then_normal ?_
                  -- region 21
                  refine tr_env (es_cons (t := 0) (OT.tmp rfl) (es_cons (t := 2) (OT.tmp rfl) (es_cons (t := 4) (OT.tmp rfl) (es_cons (t := 5) (OT.tmp rfl) (es_cons (t := 7) (OT.tmp rfl) es_nil))))) ?_
                  refine tr_region ?_
                  refine op_pure (pu_move (OT.tmp rfl)) rfl rfl ?_
                  refine op_pure (pu_move (OT.tmp rfl)) rfl rfl ?_
                  refine op_pure (pu_add' (OT.tmp rfl) (OT.tmp rfl) (by omega)) rfl rfl ?_
                  refine op_pure (pu_assign (OT.tmp rfl)) rfl rfl ?_
                  refine tr_nil ?_
                  refine block_normal ?_
                  refine then_normal ?_
                  exact tr_again (i + m, t ++ enc (c : Int)) ⟨by show 1 ≤ i + m; omega, by show i + m ≤ l.length; omega, by show (t ++ enc (c : Int)).length ≤ 4 * (i + m); rw [List.length_append]; omega, by show refT u = (refT (l.drop (i + m))).map fun s => (t ++ enc (c : Int)) ++ s; rw [hI, hst, map_app, ← hyd, List.drop_drop]⟩ (by show l.length - (i + m) < l.length - i; omega) (es_append (es_cons (t := 5) (OT.val (OT.tmp rfl) (congrArg (Value.int _) (show (i : Int) + (m : Int) = ((i + m : Nat) : Int) from by omega))) (es_cons (t := 4) (by exact OT.tmp rfl) es_nil)) (es_cons (t := 0) (OT.tmp rfl) (es_cons (t := 2) (OT.tmp rfl) es_nil))) (own_picks (by repeat (first | exact picks_nil | refine picks_cons 0 rfl ?_ | refine picks_cons 1 rfl ?_ | refine picks_cons 2 rfl ?_ | refine picks_cons 3 rfl ?_ | refine picks_cons 4 rfl ?_ | refine picks_cons 5 rfl ?_ | refine picks_cons 6 rfl ?_)))
          · skip
            have hno : parseV l = none := by rw [← hlv]; exact text_none hI (by rw [List.drop_of_length_le (by simp at c30; omega), refT_nil])
            refine tr_exit ?_
            refine then_exit ?_
            refine then_exit ?_
            refine block_hit ?_
            refine then_normal ?_
            refine tr_seq ?_
            -- region 22
            refine tr_env (es_cons (t := 2) (OT.tmp rfl) es_nil) ?_
            refine tr_region ?_
            refine op_pure (pu_build (d := kVl) (v0 := (0, 0, [])) (ps := [(0, 1), (1, 1), (2, 1)]) zVl (by kernel_rfl) rfl fills_nil) rfl rfl ?_
            refine op_acts (acts_store_var (OT.tmp rfl) (OT.tmp rfl) (by exact perm_at 0 rfl) (show tyOk Tryd.prog 23 true 3 = true from by decide +kernel)) (by exact perm_at 0 rfl) rfl rfl (fun _ _ => ?_)
            refine op_pure (pu_assign OT.const) rfl rfl ?_
            refine tr_nil ?_
            refine then_normal ?_
            refine tr_ret ?_
            exact ret_cell_tmp .ret (.inl rfl) rfl ((0, 0, []), false) (OT.tmp rfl) (by exact mem_at 0 rfl) (show tyOk Tryd.prog 23 true 3 = true from by decide +kernel) (OT.tmp rfl) (fun _ _ h => h) ⟨fun h => absurd h (by simp), fun _ => hno⟩ (by exact picks_nil)
set_option maxRecDepth 20000 in
/-- rhizome/rhizomelaw02.ValParses -/
theorem ValParses_fn {K0 : FH} {n0 : Nat} (l : List UInt8) (hV : VarsV K0) (hl0 : l.length ≤ 140737488351232) : CtM K0 n0 Tryd.prog 4 [BsT l] ([]) Unit (fun _ => BoolT true) (fun _ => []) (fun _ => True) := by
  refine fn_introM Tryd.func4 rfl rfl ?_
  intro H w hK hn
  refine tr_seq ?_
  -- region 0
  refine tr_env (es_cons (t := 0) (OT.tmp rfl) es_nil) ?_
  refine tr_region ?_
  refine op_pure (pu_assign OT.const) rfl rfl ?_
  refine tr_nil ?_
  refine then_normal ?_
  refine tr_seq ?_
  refine tr_seq ?_
  -- region 1
  refine tr_env (es_cons (t := 0) (OT.tmp rfl) es_nil) ?_
  refine tr_region ?_
  refine op_acts (acts_callM (awake_fn hV) (mk_in hK hn) (show enters Tryd.prog 11 = true from by decide +kernel) OTs.nil (List.Perm.refl _)) (List.Perm.refl _) rfl rfl (fun _ _ => ?_)
  refine op_pure (pu_not (OT.tmp rfl)) rfl rfl ?_
  refine op_pure (pu_move (OT.tmp rfl)) rfl rfl ?_
  refine op_gu rfl rfl rfl (OT.gu_mk (OT.tmp rfl)) (fun hg => by (have hg1 := hg.2; (try simp only [decide_eq_true_eq, decide_eq_false_iff_not] at hg1); exact pu_move (by exact OT.tmp rfl))) rfl ?_
  refine op_gu rfl rfl rfl (OT.gu_mk (OT.tmp rfl)) (fun hg => by (have hg1 := hg.2; (try simp only [decide_eq_true_eq, decide_eq_false_iff_not] at hg1); exact pu_len_bs Tryd.underlying9 (by exact OT.gu (OT.tmp rfl) hg))) rfl ?_
  refine op_gu rfl rfl rfl (OT.gu_mk (OT.tmp rfl)) (fun hg => by (have hg1 := hg.2; (try simp only [decide_eq_true_eq, decide_eq_false_iff_not] at hg1); exact pu_gtr (by exact OT.gu (OT.tmp rfl) hg) OT.const)) rfl ?_
  refine op_pure (pu_pick_or (OT.tmp rfl) (by exact OT.tmp rfl)) rfl rfl ?_
  refine tr_nil ?_
  refine then_normal ?_
  refine tr_cond (OT.tmp rfl) (fun c13 => ?_) (fun c13 => ?_)
  · skip
    refine tr_seq ?_
    -- region 2
    refine tr_env es_nil ?_
    refine tr_region ?_
    refine op_acts (acts_callM (awake_fn hV) (mk_in hK hn) (show enters Tryd.prog 11 = true from by decide +kernel) OTs.nil (List.Perm.refl _)) (List.Perm.refl _) rfl rfl (fun _ _ => ?_)
    refine op_pure (pu_assign (OT.tmp rfl)) rfl rfl ?_
    refine tr_nil ?_
    refine then_normal ?_
    refine tr_ret ?_
    refine then_ret ?_
    exact ret_one .ret (.inl rfl) rfl () (OT.val (OT.tmp rfl) (congrArg Value.bool (rfl))) trivial (by exact picks_nil)
  · skip
    have hl : l.length ≤ 2000 := by simp at c13; omega
    refine tr_skip ?_
    refine then_normal ?_
    refine tr_seq ?_
    -- region 3
    refine tr_env (es_cons (t := 0) (OT.tmp rfl) es_nil) ?_
    refine tr_region ?_
    refine op_pure (pu_move (OT.tmp rfl)) rfl rfl ?_
    refine op_acts (acts_callM (Parse_fn l hV (by omega)) (mk_in hK hn) (show enters Tryd.prog 18 = true from by decide +kernel) (OTs.cons (OT.tmp rfl) OTs.nil) (List.Perm.refl _)) (List.Perm.refl _) rfl rfl (fun _ _ => ?_)
    refine op_pure (pu_move (OT.tmp rfl)) rfl rfl ?_
    refine op_pure (pu_extract (OT.tmp rfl) rfl) rfl rfl ?_
    refine op_pure (pu_extract (OT.tmp rfl) rfl) rfl rfl ?_
    refine op_acts (acts_alloc (zVl)) (List.Perm.refl _) rfl rfl (fun g3_5 _ => ?_)
    refine op_acts (acts_store_var (OT.tmp rfl) (OT.tmp rfl) (by exact perm_at 0 rfl) (show tyOk Tryd.prog 23 true 3 = true from by decide +kernel)) (by exact perm_at 0 rfl) rfl rfl (fun _ _ => ?_)
    refine op_pure (pu_assign (OT.tmp rfl)) rfl rfl ?_
    refine tr_nil ?_
    refine then_normal ?_
    refine tr_seq ?_
    -- region 4
    refine tr_env (es_cons (t := 0) (OT.tmp rfl) (es_cons (t := 3) (OT.tmp rfl) (es_cons (t := 4) (OT.tmp rfl) es_nil))) ?_
    refine tr_region ?_
    refine op_pure (pu_move (OT.tmp rfl)) rfl rfl ?_
    refine op_acts (acts_call (rParse_fn l (by omega)) (show enters Tryd.prog 19 = true from by decide +kernel) (OTs.cons (OT.tmp rfl) OTs.nil) (List.Perm.refl _)) (List.Perm.refl _) rfl rfl (fun r4_1 hr4_1 => ?_)
    refine op_pure (pu_move (OT.tmp rfl)) rfl rfl ?_
    refine op_pure (pu_extract (OT.tmp rfl) rfl) rfl rfl ?_
    refine op_pure (pu_extract (OT.tmp rfl) rfl) rfl rfl ?_
    refine op_acts (acts_alloc (zVl)) (List.Perm.refl _) rfl rfl (fun g4_5 _ => ?_)
    refine op_acts (acts_store_var (OT.tmp rfl) (OT.tmp rfl) (by exact perm_at 0 rfl) (show tyOk Tryd.prog 23 true 3 = true from by decide +kernel)) (by exact perm_at 0 rfl) rfl rfl (fun _ _ => ?_)
    refine op_pure (pu_assign (OT.tmp rfl)) rfl rfl ?_
    refine tr_nil ?_
    refine then_normal ?_
    refine tr_seq ?_
    refine tr_seq ?_
    -- region 5
    refine tr_env (es_cons (t := 3) (OT.tmp rfl) (es_cons (t := 4) (OT.tmp rfl) (es_cons (t := 5) (OT.tmp rfl) (es_cons (t := 6) (OT.tmp rfl) es_nil)))) ?_
    refine tr_region ?_
    refine op_pure (pu_move (OT.tmp rfl)) rfl rfl ?_
    refine op_pure (pu_not (OT.tmp rfl)) rfl rfl ?_
    refine tr_nil ?_
    refine then_normal ?_
    refine tr_cond (OT.tmp rfl) (fun c26 => ?_) (fun c26 => ?_)
    · skip
      have hp := parseR_none (hr4_1.2 (by simpa using c26))
      rw [hp]
      refine tr_seq ?_
      -- region 6
      refine tr_env (es_cons (t := 3) (OT.tmp rfl) (es_cons (t := 4) (OT.tmp rfl) es_nil)) ?_
      refine tr_region ?_
      refine op_pure (pu_move (OT.tmp rfl)) rfl rfl ?_
      refine op_pure (pu_eql (OT.tmp rfl) OT.const) rfl rfl ?_
      refine op_pure (pu_move (OT.tmp rfl)) rfl rfl ?_
      refine op_gu rfl rfl rfl (OT.gu_mk (OT.tmp rfl)) (fun hg => by (have hg1 := hg.2; (try simp only [decide_eq_true_eq, decide_eq_false_iff_not] at hg1); exact pu_load_var (by exact OT.tmp rfl) (by exact mem_at 1 rfl) (show tyOk Tryd.prog 23 true 3 = true from by decide +kernel))) rfl ?_
      refine op_gu rfl rfl rfl (OT.gu_mk (OT.tmp rfl)) (fun hg => by (have hg1 := hg.2; (try simp only [decide_eq_true_eq, decide_eq_false_iff_not] at hg1); exact pu_build (d := kVl) (v0 := (0, 0, [])) (ps := [(0, 1), (1, 1), (2, 1)]) zVl (by kernel_rfl) rfl fills_nil)) rfl ?_
      refine op_gu rfl rfl rfl (OT.gu_mk (OT.tmp rfl)) (fun hg => by (have hg1 := hg.2; (try simp only [decide_eq_true_eq, decide_eq_false_iff_not] at hg1); exact pu_eq_of eqVl (by exact OT.gu (OT.tmp rfl) hg) (by exact OT.gu (OT.tmp rfl) hg))) rfl ?_
      refine op_pure (pu_pick_and (OT.tmp rfl) (by exact OT.tmp rfl)) rfl rfl ?_
      refine op_pure (pu_assign (OT.tmp rfl)) rfl rfl ?_
      refine tr_nil ?_
      refine then_normal ?_
      refine tr_ret ?_
      refine then_ret ?_
      exact ret_one .ret (.inl rfl) rfl () (OT.val (OT.tmp rfl) (congrArg Value.bool (by simp))) trivial (by exact picks_nil)
    · skip
      have hp := parseR_some (hr4_1.1 (by simpa using c26))
      rw [hp]
      refine tr_skip ?_
      refine then_normal ?_
      refine tr_seq ?_
      -- region 7
      refine tr_env (es_cons (t := 3) (OT.tmp rfl) (es_cons (t := 4) (OT.tmp rfl) (es_cons (t := 5) (OT.tmp rfl) es_nil))) ?_
      refine tr_region ?_
      refine op_pure (pu_move (OT.tmp rfl)) rfl rfl ?_
      refine op_pure (pu_eql (OT.tmp rfl) OT.const) rfl rfl ?_
      refine op_pure (pu_move (OT.tmp rfl)) rfl rfl ?_
      refine op_gu rfl rfl rfl (OT.gu_mk (OT.tmp rfl)) (fun hg => by (have hg1 := hg.2; (try simp only [decide_eq_true_eq, decide_eq_false_iff_not] at hg1); exact pu_load_var (by exact OT.tmp rfl) (by exact mem_at 1 rfl) (show tyOk Tryd.prog 23 true 3 = true from by decide +kernel))) rfl ?_
      refine op_gu rfl rfl rfl (OT.gu_mk (OT.tmp rfl)) (fun hg => by (have hg1 := hg.2; (try simp only [decide_eq_true_eq, decide_eq_false_iff_not] at hg1); exact pu_load_var (by exact OT.tmp rfl) (by exact mem_at 0 rfl) (show tyOk Tryd.prog 23 true 3 = true from by decide +kernel))) rfl ?_
      refine op_gu rfl rfl rfl (OT.gu_mk (OT.tmp rfl)) (fun hg => by (have hg1 := hg.2; (try simp only [decide_eq_true_eq, decide_eq_false_iff_not] at hg1); exact pu_eq_of eqVl (by exact OT.gu (OT.tmp rfl) hg) (by exact OT.gu (OT.tmp rfl) hg))) rfl ?_
      refine op_pure (pu_pick_and (OT.tmp rfl) (by exact OT.tmp rfl)) rfl rfl ?_
      refine op_pure (pu_assign (OT.tmp rfl)) rfl rfl ?_
      refine tr_nil ?_
      refine then_normal ?_
      refine tr_ret ?_
      exact ret_one .ret (.inl rfl) rfl () (OT.val (OT.tmp rfl) (congrArg Value.bool (by simp))) trivial (by exact picks_nil)
end Go.Proofs.YtdlendioamiagaaDoor
/- The package-level variables that the rows list: what they hold in whatever world meets the list; one world that meets it. -/
namespace Go.Proofs.YtdlendioamiagaaDoor
open Go Go.Gw Go.Vl Go.RowKit
set_option linter.unusedVariables false
abbrev laidL : List (String × DataW Unit) := Rows.valChecksRow.laid
/-- The name of the sentinels' type. -/
abbrev errName : String := match (Rows.laid_strconv_ErrSyntax : DataW Unit) with
  | .iface n _ => n
  | _ => ""
theorem rowE (u : TypeId) (h : Tryd.prog.typeName? 3 u = some errName) : u = 142 :=
  typeName_ptr_named (nm := "errors.errorString") (by kernel_rfl) (by kernel_rfl) (by decide) u (h.trans (congrArg some (by decide)))
abbrev tzName : String := (laidL.getD 1 ("", .nil)).1
def tzTab : List Int := [0, 1, 56, 2, 57, 49, 28, 3, 61, 58, 42, 50, 38, 29, 17, 4, 62, 47, 59, 36, 45, 43, 51, 22, 53, 39, 33, 30, 24, 18, 12, 5, 63, 55, 48, 27, 60, 41, 37, 16, 46, 35, 44, 21, 52, 32, 23, 11, 54, 26, 40, 15, 34, 20, 31, 10, 25, 14, 19, 9, 13, 8, 7, 6]
theorem u8x : Go.Proofs.U8Extra Tryd.prog Tryd.lValid_ren where
  n3 := by kernel_rfl
  y3 := by kernel_rfl
  n4 := by kernel_rfl
  y4 := by kernel_rfl
  c5 := by kernel_rfl
  c119 := by kernel_rfl
  c138 := by kernel_rfl
theorem vars_of {W : World} (hS : W.ShapedOpen Tryd.prog) (hL : laidMet Tryd.prog laidL W) : VarsV (heapOf W) where
  tab := fun w ho => by
    have hT : Lib.TabIs Tryd.prog W Tryd.tabName .u64 Lib.pow10Tab := Lib.tabIs_of_head (g := 3) (t := 126) (e := 64) (n := 20) (by kernel_rfl) (by kernel_rfl) Tryd.underlying126 Tryd.underlying64 (by kernel_rfl) (by kernel_rfl) hL.tail.tail
    exact var_on hT ho
  syn := by
    obtain ⟨a0, s0, hv0, _⟩ := laid_sentinel (g := 4) (ti := 70) (tp := 142) (te := 144) (ts := 9) hL.tail.tail.tail.tail.tail (by kernel_rfl) (by kernel_rfl) Tryd.underlying70 rowE Tryd.underlying142 Tryd.underlying144 rfl rfl Tryd.underlying9 (by kernel_rfl) (by kernel_rfl)
    exact ⟨_, _, fun w ho => var_on hv0 ho⟩
  rng := by
    obtain ⟨a0, s0, hv0, _⟩ := laid_sentinel (g := 5) (ti := 70) (tp := 142) (te := 144) (ts := 9) hL.tail.tail.tail.tail (by kernel_rfl) (by kernel_rfl) Tryd.underlying70 rowE Tryd.underlying142 Tryd.underlying144 rfl rfl Tryd.underlying9 (by kernel_rfl) (by kernel_rfl)
    exact ⟨_, _, fun w ho => var_on hv0 ho⟩
  len := by
    obtain ⟨m, hm⟩ : ∃ m, W.cell? ⟨Tryd.lCut_ren.g 1, 0, none⟩ = some (.int .i64 m) := cell_of_shapedOpen_int (zero := #[.int .i64 0]) (t := 3) hS (of_decide_eq_true (by kernel_rfl)) (by kernel_rfl) rfl (by kernel_rfl) (by kernel_rfl) Tryd.underlying3
    exact ⟨m, fun w ho => cell_on hm ho⟩
  utf := fun w ho => by
    have h3 := Go.Lib.laidMet.reads hL (n := "unicode/utf8.first") (d := Rows.laid_unicode_utf8_first) (by simp [laidL, Rows.valChecksRow])
    have h4 := Go.Lib.laidMet.reads hL (n := "unicode/utf8.acceptRanges") (d := Rows.laid_unicode_utf8_acceptRanges) (by simp [laidL, Rows.valChecksRow])
    rw [show (Rows.laid_unicode_utf8_first : DataW Unit) = Lib.firstData from by kernel_rfl] at h3
    rw [show (Rows.laid_unicode_utf8_acceptRanges : DataW Unit) = Lib.acceptData from by kernel_rfl] at h4
    have hT := Go.Proofs.utf8Tabs_of_readsT (Go.Proofs.U8Types.of196 Tryd.lValid) u8x h3 h4
    exact ⟨fun c hc => cell_on (hT.1 c hc) ho, fun i hi => ⟨cell_on (hT.2 i hi).1 ho, cell_on (hT.2 i hi).2 ho⟩⟩
  syc := by
    obtain ⟨a0, s0, hv0, _⟩ := laid_sentinel (g := 4) (ti := 70) (tp := 142) (te := 144) (ts := 9) hL.tail.tail.tail.tail.tail (by kernel_rfl) (by kernel_rfl) Tryd.underlying70 rowE Tryd.underlying142 Tryd.underlying144 rfl rfl Tryd.underlying9 (by kernel_rfl) (by kernel_rfl)
    have key : ∀ w, On (heapOf W) w → w.cell? ⟨4, 0, none⟩ = some (.iface 142 (.pointer (some a0))) := fun w ho => by
      have h0 := World.var?_cell (g := 4) (by kernel_rfl) (var_on hv0 ho) 0
      simpa using h0
    exact ⟨_, .inr ⟨_, _, rfl⟩, key⟩
  tz := fun w ho => by
    have hT : Lib.TabIs Tryd.prog W tzName .u8 tzTab := Lib.tabIs_of_head (g := 7) (t := 146) (e := 5) (n := 64) (by kernel_rfl) (by kernel_rfl) Tryd.underlying146 Tryd.underlying5 (by kernel_rfl) (by kernel_rfl) hL.tail
    have h0 := World.var?_cell (g := 7) (by kernel_rfl) (var_on hT ho) 15
    exact h0
theorem plain_all (w : World) : laidMetH Tryd.prog laidL w = laidMet Tryd.prog laidL w := MakeChecks.laidMetH_plain _ _ _ (by kernel_rfl)
theorem shp (os : Os) : (World.laidAll Tryd.prog os laidL).Shaped Tryd.prog := World.shaped_of_ZipB (by kernel_rfl) (by kernel_rfl)
theorem met (os : Os) (args : Array Value) : laidMet Tryd.prog laidL ((World.laidAll Tryd.prog os laidL).forCall (fun _ _ => 0) ⟨#[], args, []⟩).memory := laidMet_laidAll _ (by kernel_rfl) (by kernel_rfl)
end Go.Proofs.YtdlendioamiagaaDoor
