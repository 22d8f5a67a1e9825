/- The texts Vl16, Vl17, Vl18, VlM, Vl19, VlN, VlQ, VlU, VlX, VlW, VlY, Vl20, Vl21, Vl22, Vl23, Vl24, VlV of this claim, put together in their order. No condition of their own. -/
import Derived.Test.YtdlendioamiagaaDoorQ7
import Derived.ChangeKeysEq
import Derived.Laws.StructEq
import Derived.Lib.Bytealg
import Derived.Lib.Small
import Derived.Test.YtdlendioamiagaaDoorQ1
import Derived.Test.YtdlendioamiagaaDoorQ4
import Derived.Stop.LaidErr
import Derived.Lay
import Derived.MakeChecks
import Derived.RowKitTokens
import Derived.Lib.LaidU8T
/- Walks through the Go functions rhizomeref02.UTF8, rhizomeref02.Check, rhizomeref02.Encode, as typed contracts. -/
namespace Go.Proofs.YtdlendioamiagaaDoor
open Go Go.Gw Go.Vl
set_option linter.unusedVariables false
set_option linter.unusedSimpArgs false

set_option maxRecDepth 20000 in
/-- rhizome/rhizomeref02.UTF8 -/
theorem rUTF8_fn (l : List UInt8) (hl : l.length ≤ 100000) : Ct Tryd.prog 31 [BsT l] ([]) Unit (fun _ => BoolT (Lib.validD l)) (fun _ => []) (fun _ => True) := by
  refine fn_intro Tryd.func31 rfl rfl ?_
  intro H w
  refine tr_seq ?_
  -- region 0
  refine tr_env (es_cons (t := 0) (OT.tmp rfl) es_nil) ?_
  refine tr_region ?_
  refine op_pure (pu_assign OT.const) rfl rfl ?_
  refine tr_nil ?_
  refine then_normal ?_
  refine tr_seq ?_
  refine tr_seq ?_
  -- region 1
  refine tr_env (es_cons (t := 0) (OT.tmp rfl) es_nil) ?_
  refine tr_region ?_
  refine op_pure (pu_assign OT.const) rfl rfl ?_
  refine tr_nil ?_
  refine then_normal ?_
  refine tr_block ?_
  refine tr_loopK (σ := Nat) (es_cons (t := 0) (OT.tmp rfl) es_nil) (fun i => [(3, I64 (i : Int))]) (fun i => []) (fun i => i ≤ l.length ∧ Lib.validD (l.drop i) = Lib.validD l) (fun i => l.length - i) 0 ⟨Nat.zero_le _, by rw [List.drop_zero]⟩ ?_ (own_picks (by exact picks_nil)) ?_
  · exact (es_cons (t := 3) (by exact OT.tmp rfl) es_nil)
  · rintro i ⟨hi, hv⟩
    refine tr_seq ?_
    refine tr_seq ?_
    -- region 2
    refine tr_env (es_cons (t := 0) (OT.tmp rfl) (es_cons (t := 3) (OT.tmp rfl) es_nil)) ?_
    refine tr_region ?_
    refine op_pure (pu_move (OT.tmp rfl)) rfl rfl ?_
    refine op_pure (pu_move (OT.tmp rfl)) rfl rfl ?_
    refine op_pure (pu_len_bs Tryd.underlying9 (OT.tmp rfl)) rfl rfl ?_
    refine op_pure (pu_lss (OT.tmp rfl) (OT.tmp rfl)) rfl rfl ?_
    refine tr_nil ?_
    refine then_normal ?_
    refine tr_cond (OT.tmp rfl) (fun c9 => ?_) (fun c9 => ?_)
    · skip
      refine tr_skip ?_
      refine then_normal ?_
      refine tr_block ?_
      refine tr_seq ?_
      -- region 3
      refine tr_env (es_cons (t := 0) (OT.tmp rfl) (es_cons (t := 3) (OT.tmp rfl) es_nil)) ?_
      have hil : i < l.length := by simp at c9; omega
      have hne := drop_ne hil
      have hst := valid_step hne
      refine tr_region ?_
      refine op_pure (pu_move (OT.tmp rfl)) rfl rfl ?_
      refine op_pure (pu_move (OT.tmp rfl)) rfl rfl ?_
      refine op_acts (acts_call (rRune_fn l i (by omega) (by omega)) (show enters Tryd.prog 41 = true from by decide +kernel) (OTs.cons (OT.tmp rfl) (OTs.cons (OT.tmp rfl) OTs.nil)) (List.Perm.refl _)) (List.Perm.refl _) rfl rfl (fun _ _ => ?_)
      refine op_pure (pu_move (OT.tmp rfl)) rfl rfl ?_
      refine op_pure (pu_extract (OT.tmp rfl) rfl) rfl rfl ?_
      refine op_pure (pu_extract (OT.tmp rfl) rfl) rfl rfl ?_
      refine op_pure (pu_assign (OT.tmp rfl)) rfl rfl ?_
      refine op_pure (pu_assign (OT.tmp rfl)) rfl rfl ?_
      refine tr_nil ?_
      refine then_normal ?_
      refine tr_seq ?_
      refine tr_seq ?_
      -- region 4
      refine tr_env (es_cons (t := 0) (OT.tmp rfl) (es_cons (t := 3) (OT.tmp rfl) (es_cons (t := 4) (OT.tmp rfl) es_nil))) ?_
      skip
      refine tr_region ?_
      refine op_pure (pu_move (OT.tmp rfl)) rfl rfl ?_
      refine op_pure (pu_eql (OT.tmp rfl) OT.const) rfl rfl ?_
      refine tr_nil ?_
      refine then_normal ?_
      refine tr_cond (OT.tmp rfl) (fun c17 => ?_) (fun c17 => ?_)
      · skip
        have hb : badR (l.drop i) = true := by rcases refR_cases hne with ⟨h, _⟩ | ⟨_, h, h1, _⟩; exact h; rw [h] at c17; simp at c17; omega
        have hr : Lib.validD l = false := by rw [← hv, hst, hb]; rfl
        refine tr_seq ?_
        -- region 5
        refine tr_env es_nil ?_
        refine tr_region ?_
        refine op_pure (pu_assign OT.const) rfl rfl ?_
        refine tr_nil ?_
        refine then_normal ?_
        refine tr_ret ?_
        refine then_ret ?_
        refine block_ret ?_
        refine then_ret ?_
        refine block_ret ?_
        refine then_ret ?_
        exact ret_one .ret (.inl rfl) rfl () (OT.val (OT.tmp rfl) (congrArg Value.bool (hr.symm))) trivial (by exact picks_nil)
      · skip
        obtain ⟨hb, hrr, hw1, hw2⟩ : badR (l.drop i) = false ∧ refR (l.drop i) = (((rune (l.drop i)).2 : Int), ((rune (l.drop i)).1 : Int)) ∧ 1 ≤ (rune (l.drop i)).2 ∧ (rune (l.drop i)).2 ≤ (l.drop i).length := by rcases refR_cases hne with ⟨_, h⟩ | h; rw [h] at c17; simp at c17; exact h
        rw [List.length_drop] at hw2
        rw [hb, List.drop_drop] at hst
        rw [hrr]
        refine tr_skip ?_
        refine then_normal ?_
        -- region 6
        refine tr_env (es_cons (t := 0) (OT.tmp rfl) (es_cons (t := 3) (OT.tmp rfl) (es_cons (t := 4) (OT.tmp rfl) es_nil))) ?_
        refine tr_region ?_
        refine op_pure (pu_move (OT.tmp rfl)) rfl rfl ?_
        refine op_pure (pu_move (OT.tmp rfl)) rfl rfl ?_
        refine op_pure (pu_add' (OT.tmp rfl) (OT.tmp rfl) (by omega)) rfl rfl ?_
        refine op_pure (pu_assign (OT.tmp rfl)) rfl rfl ?_
        refine tr_nil ?_
        refine block_normal ?_
        refine then_normal ?_
        exact tr_again (i + (rune (l.drop i)).2) ⟨by omega, by rw [← hv, hst]; rfl⟩ (by omega) (es_append (es_cons (t := 3) (by exact OT.tmp rfl) es_nil) (es_cons (t := 0) (OT.tmp rfl) es_nil)) (own_picks (by exact picks_nil))
    · skip
      refine tr_exit ?_
      refine then_exit ?_
      refine then_exit ?_
      refine block_hit ?_
      refine then_normal ?_
      refine tr_seq ?_
      -- region 7
      refine tr_env es_nil ?_
      obtain rfl : i = l.length := by simp at c9; omega
      have hr : Lib.validD l = true := by rw [← hv, List.drop_length]; rfl
      refine tr_region ?_
      refine op_pure (pu_assign OT.const) rfl rfl ?_
      refine tr_nil ?_
      refine then_normal ?_
      refine tr_ret ?_
      exact ret_one .ret (.inl rfl) rfl () (OT.val (OT.tmp rfl) (congrArg Value.bool (hr.symm))) trivial (by exact picks_nil)
set_option maxRecDepth 20000 in
/-- rhizome/rhizomeref02.Check -/
theorem rCheck_fn (v : Vl) (hl : v.2.2.length ≤ 140737488351232) : Ct Tryd.prog 12 [kVl.T v] ([]) Unit (fun _ => I64 (checkV v)) (fun _ => []) (fun _ => True) := by
  refine fn_intro Tryd.func12 rfl rfl ?_
  intro H w
  refine tr_seq ?_
  -- region 0
  refine tr_env (es_cons (t := 0) (OT.tmp rfl) es_nil) ?_
  refine tr_region ?_
  refine op_acts (acts_box (d := kVl) (OT.tmp rfl)) (List.Perm.refl _) rfl rfl (fun g0_0 _ => ?_)
  refine op_pure (pu_assign OT.const) rfl rfl ?_
  refine tr_nil ?_
  refine then_normal ?_
  refine tr_seq ?_
  refine tr_seq ?_
  -- region 1
  refine tr_env (es_cons (t := 1) (OT.tmp rfl) es_nil) ?_
  refine tr_region ?_
  refine op_pure (pu_faddr (OT.tmp rfl) (show fieldOk Tryd.prog 23 0 0 false 1 = true from by decide +kernel)) rfl rfl ?_
  refine op_pure (pu_load_blk (OT.tmp rfl) (by exact mem_at 0 rfl) lv0 (show tyOk Tryd.prog 3 false 1 = true from by decide +kernel)) rfl rfl ?_
  refine op_pure (pu_eql (OT.tmp rfl) OT.const) rfl rfl ?_
  refine op_pure (pu_move (OT.tmp rfl)) rfl rfl ?_
  refine op_gu rfl rfl rfl (OT.gu_mk (OT.tmp rfl)) (fun hg => by (have hg1 := hg.2; (try simp only [decide_eq_true_eq, decide_eq_false_iff_not] at hg1); exact pu_faddr (by exact OT.tmp rfl) (show fieldOk Tryd.prog 23 0 0 false 1 = true from by decide +kernel))) rfl ?_
  refine op_gu rfl rfl rfl (OT.gu_mk (OT.tmp rfl)) (fun hg => by (have hg1 := hg.2; (try simp only [decide_eq_true_eq, decide_eq_false_iff_not] at hg1); exact pu_load_blk (by exact OT.gu (OT.tmp rfl) hg) (by exact mem_at 0 rfl) lv0 (show tyOk Tryd.prog 3 false 1 = true from by decide +kernel))) rfl ?_
  refine op_gu rfl rfl rfl (OT.gu_mk (OT.tmp rfl)) (fun hg => by (have hg1 := hg.2; (try simp only [decide_eq_true_eq, decide_eq_false_iff_not] at hg1); exact pu_eql (by exact OT.gu (OT.tmp rfl) hg) OT.const)) rfl ?_
  refine op_gu rfl rfl rfl (OT.gu_mk (OT.tmp rfl)) (fun hg => by (have hg1 := hg.2; (try simp only [decide_eq_true_eq, decide_eq_false_iff_not] at hg1); exact pu_move (by exact OT.gu (OT.tmp rfl) hg))) rfl ?_
  refine op_gu rfl rfl rfl (OT.tmp rfl) (fun hg => by (have hg1 := hg.2; (try simp only [decide_eq_true_eq, decide_eq_false_iff_not] at hg1); exact pu_faddr (by exact OT.tmp rfl) (show fieldOk Tryd.prog 23 1 1 false 1 = true from by decide +kernel))) rfl ?_
  refine op_gu rfl rfl rfl (OT.tmp rfl) (fun hg => by (have hg1 := hg.2; (try simp only [decide_eq_true_eq, decide_eq_false_iff_not] at hg1); exact pu_load_blk (by exact OT.gu (OT.tmp rfl) hg) (by exact mem_at 0 rfl) lv1 (show tyOk Tryd.prog 3 false 1 = true from by decide +kernel))) rfl ?_
  refine op_gu rfl rfl rfl (OT.tmp rfl) (fun hg => by (have hg1 := hg.2; (try simp only [decide_eq_true_eq, decide_eq_false_iff_not] at hg1); exact pu_eql (by exact OT.gu (OT.tmp rfl) hg) OT.const)) rfl ?_
  refine op_gu rfl rfl rfl (OT.tmp rfl) (fun hg => by (have hg1 := hg.2; (try simp only [decide_eq_true_eq, decide_eq_false_iff_not] at hg1); exact pu_move (by exact OT.gu (OT.tmp rfl) hg))) rfl ?_
  refine op_gu rfl rfl rfl (OT.tmp rfl) (fun hg => by (have hg1 := hg.2; (try simp only [decide_eq_true_eq, decide_eq_false_iff_not] at hg1); exact pu_faddr (by exact OT.tmp rfl) (show fieldOk Tryd.prog 23 1 1 false 1 = true from by decide +kernel))) rfl ?_
  refine op_gu rfl rfl rfl (OT.tmp rfl) (fun hg => by (have hg1 := hg.2; (try simp only [decide_eq_true_eq, decide_eq_false_iff_not] at hg1); exact pu_load_blk (by exact OT.gu (OT.tmp rfl) hg) (by exact mem_at 0 rfl) lv1 (show tyOk Tryd.prog 3 false 1 = true from by decide +kernel))) rfl ?_
  refine op_gu rfl rfl rfl (OT.tmp rfl) (fun hg => by (have hg1 := hg.2; (try simp only [decide_eq_true_eq, decide_eq_false_iff_not] at hg1); exact pu_eql (by exact OT.gu (OT.tmp rfl) hg) OT.const)) rfl ?_
  refine op_gu rfl rfl rfl (OT.tmp rfl) (fun hg => by (have hg1 := hg.2; (try simp only [decide_eq_true_eq, decide_eq_false_iff_not] at hg1); exact pu_pick_or_p hg (by exact OT.gu (OT.tmp rfl) hg) (OT.tmp rfl))) rfl ?_
  refine op_gu rfl rfl rfl (OT.gu_mk (OT.tmp rfl)) (fun hg => by (have hg1 := hg.2; (try simp only [decide_eq_true_eq, decide_eq_false_iff_not] at hg1); exact pu_pick_and_p hg (by exact OT.gu (OT.tmp rfl) hg) (OT.tmp rfl))) rfl ?_
  refine op_pure (pu_pick_or (OT.tmp rfl) (by exact OT.tmp rfl)) rfl rfl ?_
  refine tr_nil ?_
  refine then_normal ?_
  refine tr_cond (OT.tmp rfl) (fun c20 => ?_) (fun c20 => ?_)
  · skip
    refine tr_seq ?_
    -- region 2
    refine tr_env es_nil ?_
    refine tr_region ?_
    refine op_pure (pu_assign OT.const) rfl rfl ?_
    refine tr_nil ?_
    refine then_normal ?_
    refine tr_ret ?_
    refine then_ret ?_
    exact ret_one .ret (.inl rfl) rfl () (OT.val (OT.tmp rfl) (congrArg (Value.int _) (by (try simp only [Bool.and_eq_true, Bool.and_eq_false_iff, Bool.or_eq_true, Bool.or_eq_false_iff, Bool.not_eq_true', Bool.not_eq_false', decide_eq_true_eq, decide_eq_false_iff_not] at *); unfold checkV; (repeat' split) <;> first | rfl | (exfalso; omega) | (exfalso; simp_all; done)))) trivial (by exact picks_nil)
  · skip
    refine tr_skip ?_
    refine then_normal ?_
    refine tr_seq ?_
    refine tr_seq ?_
    -- region 3
    refine tr_env (es_cons (t := 1) (OT.tmp rfl) es_nil) ?_
    refine tr_region ?_
    refine op_pure (pu_faddr (OT.tmp rfl) (show fieldOk Tryd.prog 23 0 0 false 1 = true from by decide +kernel)) rfl rfl ?_
    refine op_pure (pu_load_blk (OT.tmp rfl) (by exact mem_at 0 rfl) lv0 (show tyOk Tryd.prog 3 false 1 = true from by decide +kernel)) rfl rfl ?_
    refine op_pure (pu_neq (OT.tmp rfl) OT.const) rfl rfl ?_
    refine tr_nil ?_
    refine then_normal ?_
    refine tr_cond (OT.tmp rfl) (fun c23 => ?_) (fun c23 => ?_)
    · skip
      refine tr_seq ?_
      -- region 4
      refine tr_env es_nil ?_
      refine tr_region ?_
      refine op_pure (pu_assign OT.const) rfl rfl ?_
      refine tr_nil ?_
      refine then_normal ?_
      refine tr_ret ?_
      refine then_ret ?_
      exact ret_one .ret (.inl rfl) rfl () (OT.val (OT.tmp rfl) (congrArg (Value.int _) (by (try simp only [Bool.and_eq_true, Bool.and_eq_false_iff, Bool.or_eq_true, Bool.or_eq_false_iff, Bool.not_eq_true', Bool.not_eq_false', decide_eq_true_eq, decide_eq_false_iff_not] at *); unfold checkV; (repeat' split) <;> first | rfl | (exfalso; omega) | (exfalso; simp_all; done)))) trivial (by exact picks_nil)
    · skip
      refine tr_skip ?_
      refine then_normal ?_
      refine tr_seq ?_
      refine tr_seq ?_
      -- region 5
      refine tr_env (es_cons (t := 1) (OT.tmp rfl) es_nil) ?_
      refine tr_region ?_
      refine op_pure (pu_faddr (OT.tmp rfl) (show fieldOk Tryd.prog 23 2 2 false 1 = true from by decide +kernel)) rfl rfl ?_
      refine op_pure (pu_load_blk (OT.tmp rfl) (by exact mem_at 0 rfl) lv2 (show tyOk Tryd.prog 9 false 1 = true from by decide +kernel)) rfl rfl ?_
      refine op_pure (pu_len_bs Tryd.underlying9 (OT.tmp rfl)) rfl rfl ?_
      refine op_pure (pu_gtr (OT.tmp rfl) OT.const) rfl rfl ?_
      refine tr_nil ?_
      refine then_normal ?_
      refine tr_cond (OT.tmp rfl) (fun c27 => ?_) (fun c27 => ?_)
      · skip
        refine tr_seq ?_
        -- region 6
        refine tr_env es_nil ?_
        refine tr_region ?_
        refine op_pure (pu_assign OT.const) rfl rfl ?_
        refine tr_nil ?_
        refine then_normal ?_
        refine tr_ret ?_
        refine then_ret ?_
        exact ret_one .ret (.inl rfl) rfl () (OT.val (OT.tmp rfl) (congrArg (Value.int _) (by (try simp only [Bool.and_eq_true, Bool.and_eq_false_iff, Bool.or_eq_true, Bool.or_eq_false_iff, Bool.not_eq_true', Bool.not_eq_false', decide_eq_true_eq, decide_eq_false_iff_not] at *); unfold checkV; (repeat' split) <;> first | rfl | (exfalso; omega) | (exfalso; simp_all; done)))) trivial (by exact picks_nil)
      · skip
        have hl64 : v.2.2.length ≤ 64 := by simp at c27; omega
        refine tr_skip ?_
        refine then_normal ?_
        refine tr_seq ?_
        refine tr_seq ?_
        -- region 7
        refine tr_env (es_cons (t := 1) (OT.tmp rfl) es_nil) ?_
        refine tr_region ?_
        refine op_pure (pu_faddr (OT.tmp rfl) (show fieldOk Tryd.prog 23 2 2 false 1 = true from by decide +kernel)) rfl rfl ?_
        refine op_pure (pu_load_blk (OT.tmp rfl) (by exact mem_at 0 rfl) lv2 (show tyOk Tryd.prog 9 false 1 = true from by decide +kernel)) rfl rfl ?_
        refine op_acts (acts_call (rUTF8_fn _ (by omega)) (show enters Tryd.prog 31 = true from by decide +kernel) (OTs.cons (OT.tmp rfl) OTs.nil) (List.Perm.refl _)) (List.Perm.refl _) rfl rfl (fun _ _ => ?_)
        refine op_pure (pu_not (OT.tmp rfl)) rfl rfl ?_
        refine tr_nil ?_
        refine then_normal ?_
        refine tr_cond (OT.tmp rfl) (fun c31 => ?_) (fun c31 => ?_)
        · skip
          refine tr_seq ?_
          -- region 8
          refine tr_env es_nil ?_
          refine tr_region ?_
          refine op_pure (pu_assign OT.const) rfl rfl ?_
          refine tr_nil ?_
          refine then_normal ?_
          refine tr_ret ?_
          refine then_ret ?_
          exact ret_one .ret (.inl rfl) rfl () (OT.val (OT.tmp rfl) (congrArg (Value.int _) (by (try simp only [Bool.and_eq_true, Bool.and_eq_false_iff, Bool.or_eq_true, Bool.or_eq_false_iff, Bool.not_eq_true', Bool.not_eq_false', decide_eq_true_eq, decide_eq_false_iff_not] at *); unfold checkV; (repeat' split) <;> first | rfl | (exfalso; omega) | (exfalso; simp_all; done)))) trivial (by exact picks_nil)
        · skip
          refine tr_skip ?_
          refine then_normal ?_
          refine tr_seq ?_
          -- region 9
          refine tr_env es_nil ?_
          refine tr_region ?_
          refine op_pure (pu_assign OT.const) rfl rfl ?_
          refine tr_nil ?_
          refine then_normal ?_
          refine tr_ret ?_
          exact ret_one .ret (.inl rfl) rfl () (OT.val (OT.tmp rfl) (congrArg (Value.int _) (by (try simp only [Bool.and_eq_true, Bool.and_eq_false_iff, Bool.or_eq_true, Bool.or_eq_false_iff, Bool.not_eq_true', Bool.not_eq_false', decide_eq_true_eq, decide_eq_false_iff_not] at *); unfold checkV; (repeat' split) <;> first | rfl | (exfalso; omega) | (exfalso; simp_all; done)))) trivial (by exact picks_nil)
set_option maxRecDepth 20000 in
/-- rhizome/rhizomeref02.Encode -/
theorem rEncode_fn (v : Vl) (hc : checkV v = 0) (hi0 : -9223372036854775808 ≤ v.2.1) (hi1 : v.2.1 ≤ 9223372036854775807) : Ct Tryd.prog 16 [kVl.T v] ([]) Unit (fun _ => SlT (kint .u8) (nums (encV v))) (fun _ => []) (fun _ => True) := by
  refine fn_intro Tryd.func16 rfl rfl ?_
  intro H w
  have hcase := check_ok hc
  have hz64 := zig_lt hi0 hi1
  refine tr_seq ?_
  -- region 0
  refine tr_env (es_cons (t := 0) (OT.tmp rfl) es_nil) ?_
  refine tr_region ?_
  refine op_acts (acts_box (d := kVl) (OT.tmp rfl)) (List.Perm.refl _) rfl rfl (fun g0_0 _ => ?_)
  refine op_pure (pu_assign OT.const) rfl rfl ?_
  refine tr_nil ?_
  refine then_normal ?_
  refine tr_seq ?_
  refine tr_seq ?_
  -- region 1
  refine tr_env (es_cons (t := 1) (OT.tmp rfl) es_nil) ?_
  refine tr_region ?_
  refine op_pure (pu_faddr (OT.tmp rfl) (show fieldOk Tryd.prog 23 0 0 false 1 = true from by decide +kernel)) rfl rfl ?_
  refine op_pure (pu_load_blk (OT.tmp rfl) (by exact mem_at 0 rfl) lv0 (show tyOk Tryd.prog 3 false 1 = true from by decide +kernel)) rfl rfl ?_
  refine op_pure (pu_eql (OT.tmp rfl) OT.const) rfl rfl ?_
  refine tr_nil ?_
  refine then_normal ?_
  refine tr_cond (OT.tmp rfl) (fun c7 => ?_) (fun c7 => ?_)
  · skip
    have hk : v.1 = 3 := of_decide_eq_true c7
    have hi : v.2.1 = 0 ∨ v.2.1 = 1 := by omega
    have hev : encV v = [3, UInt8.ofNat v.2.1.toNat] := if_pos hk
    refine tr_seq ?_
    -- region 2
    refine tr_env (es_cons (t := 1) (OT.tmp rfl) es_nil) ?_
    refine tr_region ?_
    refine op_pure (pu_faddr (OT.tmp rfl) (show fieldOk Tryd.prog 23 1 1 false 1 = true from by decide +kernel)) rfl rfl ?_
    refine op_pure (pu_load_blk (OT.tmp rfl) (by exact mem_at 0 rfl) lv1 (show tyOk Tryd.prog 3 false 1 = true from by decide +kernel)) rfl rfl ?_
    refine op_pure (pu_convert (OT.tmp rfl) Tryd.underlying3 Tryd.underlying5) rfl rfl ?_
    refine op_acts (acts_lit_own (d := (kint .u8)) (v0 := 0) (show slTy Tryd.prog 26 5 1 1 = true from by decide +kernel) (show tyOk Tryd.prog 5 false 1 = true from by decide +kernel) z5 (show 2 * 1 ≤ 16777216 from by decide) (by decide) (fills_arr rfl rfl (by decide) OT.const (fills_arr rfl rfl (by decide) (OT.tmp rfl) fills_nil))) (List.Perm.refl _) rfl rfl (fun v2_3 _ => ?_)
    refine op_pure (pu_assign (OT.tmp rfl)) rfl rfl ?_
    refine tr_nil ?_
    refine tr_freeze (by exact perm_at 0 rfl) 2 (OT.tmp rfl) ?_
    refine then_normal ?_
    refine tr_ret ?_
    refine then_ret ?_
    exact ret_one .ret (.inl rfl) rfl () (OT.eq (OT.tmp rfl) (congrArg (SlT (kint .u8)) (by rw [hev]; rcases hi with h | h <;> rw [h] <;> rfl))) trivial (by exact picks_nil)
  · skip
    refine tr_skip ?_
    refine then_normal ?_
    refine tr_seq ?_
    refine tr_seq ?_
    -- region 3
    refine tr_env (es_cons (t := 1) (OT.tmp rfl) es_nil) ?_
    refine tr_region ?_
    refine op_pure (pu_faddr (OT.tmp rfl) (show fieldOk Tryd.prog 23 0 0 false 1 = true from by decide +kernel)) rfl rfl ?_
    refine op_pure (pu_load_blk (OT.tmp rfl) (by exact mem_at 0 rfl) lv0 (show tyOk Tryd.prog 3 false 1 = true from by decide +kernel)) rfl rfl ?_
    refine op_pure (pu_eql (OT.tmp rfl) OT.const) rfl rfl ?_
    refine tr_nil ?_
    refine then_normal ?_
    refine tr_cond (OT.tmp rfl) (fun c14 => ?_) (fun c14 => ?_)
    · skip
      have hk : v.1 = 2 := of_decide_eq_true c14
      have hlt : v.2.2.length ≤ 64 := by omega
      have hev : encV v = 2 :: UInt8.ofNat v.2.2.length :: v.2.2 := by unfold encV; rw [if_neg (by omega), if_pos hk]
      refine tr_seq ?_
      -- region 4
      refine tr_env (es_cons (t := 1) (OT.tmp rfl) es_nil) ?_
      refine tr_region ?_
      refine op_pure (pu_faddr (OT.tmp rfl) (show fieldOk Tryd.prog 23 2 2 false 1 = true from by decide +kernel)) rfl rfl ?_
      refine op_pure (pu_load_blk (OT.tmp rfl) (by exact mem_at 0 rfl) lv2 (show tyOk Tryd.prog 9 false 1 = true from by decide +kernel)) rfl rfl ?_
      refine op_pure (pu_len_bs Tryd.underlying9 (OT.tmp rfl)) rfl rfl ?_
      refine op_pure (pu_convert (OT.tmp rfl) Tryd.underlying3 Tryd.underlying5) rfl rfl ?_
      refine op_acts (acts_lit_own (d := (kint .u8)) (v0 := 0) (show slTy Tryd.prog 26 5 1 1 = true from by decide +kernel) (show tyOk Tryd.prog 5 false 1 = true from by decide +kernel) z5 (show 2 * 1 ≤ 16777216 from by decide) (by decide) (fills_arr rfl rfl (by decide) OT.const (fills_arr rfl rfl (by decide) (OT.tmp rfl) fills_nil))) (List.Perm.refl _) rfl rfl (fun v4_4 _ => ?_)
      refine op_pure (pu_faddr (OT.tmp rfl) (show fieldOk Tryd.prog 23 2 2 false 1 = true from by decide +kernel)) rfl rfl ?_
      refine op_pure (pu_load_blk (OT.tmp rfl) (by exact mem_at 1 rfl) lv2 (show tyOk Tryd.prog 9 false 1 = true from by decide +kernel)) rfl rfl ?_
      refine op_acts (acts_append_bs (OT.tmp rfl) (by exact perm_at 0 rfl) (OT.tmp rfl) (show slTy Tryd.prog 26 5 1 1 = true from by decide +kernel) (by kernel_rfl) Tryd.underlying9 (by (simp; omega)) (by (simp [maxLen]; omega))) (by exact perm_at 0 rfl) rfl rfl (fun v4_7 _ => ?_)
      refine op_pure (pu_assign (OT.tmp rfl)) rfl rfl ?_
      refine tr_nil ?_
      refine tr_freeze (by exact perm_at 0 rfl) 2 (OT.tmp rfl) ?_
      refine then_normal ?_
      refine tr_ret ?_
      refine then_ret ?_
      exact ret_one .ret (.inl rfl) rfl () (OT.eq (OT.tmp rfl) (congrArg (SlT (kint .u8)) (by rw [hev]; show [2, IntKind.u8.wrap (v.2.2.length : Int)] ++ nums v.2.2 = nums (2 :: UInt8.ofNat v.2.2.length :: v.2.2); rw [wrapk (by omega)]; rfl))) trivial (by exact picks_nil)
    · skip
      have h2 := of_decide_eq_false c14
      have h3 := of_decide_eq_false c7
      have hk : v.1 = 1 := by omega
      have hev : encV v = 1 :: varint (zig v.2.1) := by unfold encV; rw [if_neg (by omega), if_neg (by omega)]
      refine tr_skip ?_
      refine then_normal ?_
      refine tr_seq ?_
      -- region 5
      refine tr_env (es_cons (t := 1) (OT.tmp rfl) es_nil) ?_
      refine tr_region ?_
      refine op_pure (pu_faddr (OT.tmp rfl) (show fieldOk Tryd.prog 23 1 1 false 1 = true from by decide +kernel)) rfl rfl ?_
      refine op_pure (pu_load_blk (OT.tmp rfl) (by exact mem_at 0 rfl) lv1 (show tyOk Tryd.prog 3 false 1 = true from by decide +kernel)) rfl rfl ?_
      refine op_pure (pu_convert (OT.tmp rfl) Tryd.underlying3 Tryd.underlying64) rfl rfl ?_
      refine op_pure (pu_mul (OT.tmp rfl) OT.const) rfl rfl ?_
      refine op_pure (pu_assign (OT.tmp rfl)) rfl rfl ?_
      refine tr_nil ?_
      refine then_normal ?_
      refine tr_joinK (σ := Unit) es_nil (fun _ => [(3, IntT .u64 (zig v.2.1 : Int))]) (fun _ => [BlkI g0_0 23 kVl v]) (fun _ => True) ?_ ?_
      · skip
        refine tr_seq ?_
        -- region 6
        refine tr_env (es_cons (t := 1) (OT.tmp rfl) (es_cons (t := 3) (OT.tmp rfl) es_nil)) ?_
        refine tr_region ?_
        refine op_pure (pu_faddr (OT.tmp rfl) (show fieldOk Tryd.prog 23 1 1 false 1 = true from by decide +kernel)) rfl rfl ?_
        refine op_pure (pu_load_blk (OT.tmp rfl) (by exact mem_at 0 rfl) lv1 (show tyOk Tryd.prog 3 false 1 = true from by decide +kernel)) rfl rfl ?_
        refine op_pure (pu_lss (OT.tmp rfl) OT.const) rfl rfl ?_
        refine tr_nil ?_
        refine then_normal ?_
        refine tr_cond (OT.tmp rfl) (fun c29 => ?_) (fun c29 => ?_)
        · skip
          -- region 7
          refine tr_env (es_cons (t := 1) (OT.tmp rfl) es_nil) ?_
          have hneg := of_decide_eq_true c29
          refine tr_region ?_
          refine op_pure (pu_faddr (OT.tmp rfl) (show fieldOk Tryd.prog 23 1 1 false 1 = true from by decide +kernel)) rfl rfl ?_
          refine op_pure (pu_load_blk (OT.tmp rfl) (by exact mem_at 0 rfl) lv1 (show tyOk Tryd.prog 3 false 1 = true from by decide +kernel)) rfl rfl ?_
          refine op_pure (pu_add' (OT.tmp rfl) OT.const (by omega)) rfl rfl ?_
          refine op_pure (pu_neg (OT.tmp rfl) (by omega)) rfl rfl ?_
          refine op_pure (pu_convert (OT.tmp rfl) Tryd.underlying3 Tryd.underlying64) rfl rfl ?_
          refine op_pure (pu_mul (OT.tmp rfl) OT.const) rfl rfl ?_
          refine op_pure (pu_add (OT.tmp rfl) OT.const) rfl rfl ?_
          refine op_pure (pu_assign (OT.tmp rfl)) rfl rfl ?_
          refine tr_nil ?_
          refine then_normal ?_
          exact tr_joined () trivial (es_append (es_cons (t := 3) (OT.val (OT.tmp rfl) (congrArg (Value.int _) (zig_neg hi0 (of_decide_eq_true c29)))) es_nil) es_nil) (own_picks (by repeat (first | exact picks_nil | refine picks_cons 0 rfl ?_ | refine picks_cons 1 rfl ?_ | refine picks_cons 2 rfl ?_ | refine picks_cons 3 rfl ?_ | refine picks_cons 4 rfl ?_ | refine picks_cons 5 rfl ?_ | refine picks_cons 6 rfl ?_)))
        · skip
          refine tr_skip ?_
          refine then_normal ?_
          exact tr_joined () trivial (es_append (es_cons (t := 3) (OT.val (OT.tmp rfl) (congrArg (Value.int _) (zig_pos hi1 (of_decide_eq_false c29)))) es_nil) es_nil) (own_picks (by repeat (first | exact picks_nil | refine picks_cons 0 rfl ?_ | refine picks_cons 1 rfl ?_ | refine picks_cons 2 rfl ?_ | refine picks_cons 3 rfl ?_ | refine picks_cons 4 rfl ?_ | refine picks_cons 5 rfl ?_ | refine picks_cons 6 rfl ?_)))
      · rintro _ _
        refine tr_seq ?_
        -- region 8
        refine tr_env (es_cons (t := 3) (OT.tmp rfl) es_nil) ?_
        refine tr_region ?_
        refine op_acts (acts_lit_own (d := (kint .u8)) (v0 := 0) (show slTy Tryd.prog 26 5 1 1 = true from by decide +kernel) (show tyOk Tryd.prog 5 false 1 = true from by decide +kernel) z5 (show 1 * 1 ≤ 16777216 from by decide) (by decide) (fills_arr rfl rfl (by decide) OT.const fills_nil)) (List.Perm.refl _) rfl rfl (fun v8_0 _ => ?_)
        refine op_pure (pu_assign (OT.tmp rfl)) rfl rfl ?_
        refine tr_nil ?_
        refine then_normal ?_
        refine tr_seq ?_
        refine tr_block ?_
        refine tr_loopK (σ := Nat × Value × List UInt8) es_nil (fun s => [(3, IntT .u64 (s.1 : Int)), (4, IsV s.2.1)]) (fun s => [OwnI 5 (kint .u8) s.2.1 (nums s.2.2), BlkI g0_0 23 kVl v]) (fun s => s.1 < 18446744073709551616 ∧ s.2.2 ++ varint s.1 = encV v ∧ s.2.2.length ≤ 20) (fun s => s.1) (zig v.2.1, v8_0, [1]) ⟨hz64, by rw [hev]; rfl, by show (1 : Nat) ≤ 20; omega⟩ ?_ (own_picks (picks_cons 0 rfl (picks_cons 0 rfl picks_nil))) ?_
        · exact (es_cons (t := 3) (OT.tmp rfl) (es_cons (t := 4) (OT.tmp rfl) es_nil))
        · rintro ⟨n, u, out⟩ ⟨hn64, hout, hol⟩
          dsimp only at hn64 hout hol ⊢
          refine tr_seq ?_
          refine tr_seq ?_
          -- region 9
          refine tr_env (es_cons (t := 3) (OT.tmp rfl) (es_cons (t := 4) (OT.tmp rfl) es_nil)) ?_
          refine tr_region ?_
          refine op_pure (pu_move (OT.tmp rfl)) rfl rfl ?_
          refine op_pure (pu_gtr (OT.tmp rfl) OT.const) rfl rfl ?_
          refine tr_nil ?_
          refine then_normal ?_
          refine tr_cond (OT.tmp rfl) (fun c39 => ?_) (fun c39 => ?_)
          · skip
            refine tr_skip ?_
            refine then_normal ?_
            refine tr_block ?_
            refine tr_seq ?_
            -- region 10
            refine tr_env (es_cons (t := 3) (OT.tmp rfl) (es_cons (t := 4) (OT.tmp rfl) es_nil)) ?_
            refine tr_region ?_
            refine op_pure (pu_move (OT.tmp rfl)) rfl rfl ?_
            refine op_pure (pu_move (OT.tmp rfl)) rfl rfl ?_
            refine op_pure (pu_rem' (OT.tmp rfl) OT.const (by omega) (by decide)) rfl rfl ?_
            refine op_pure (pu_convert (OT.tmp rfl) Tryd.underlying64 Tryd.underlying5) rfl rfl ?_
            refine op_pure (pu_add (OT.tmp rfl) OT.const) rfl rfl ?_
            refine op_acts (acts_lit (d := (kint .u8)) (v0 := 0) (show slTy Tryd.prog 26 5 1 1 = true from by decide +kernel) (show tyOk Tryd.prog 5 false 1 = true from by decide +kernel) z5 (show 1 * 1 ≤ 16777216 from by decide) (by decide) (fills_arr rfl rfl (by decide) (OT.tmp rfl) fills_nil)) (List.Perm.refl _) rfl rfl (fun _ _ => ?_)
            refine op_acts (acts_append (OT.tmp rfl) (by exact perm_at 0 rfl) (OT.tmp rfl) (show slTy Tryd.prog 26 5 1 1 = true from by decide +kernel) (by (simp; omega)) (by (simp [maxLen]; omega))) (by exact perm_at 0 rfl) rfl rfl (fun v10_6 _ => ?_)
            refine op_pure (pu_assign (OT.tmp rfl)) rfl rfl ?_
            refine tr_nil ?_
            have hn8 : ¬ n < 128 := by simp at c39; omega
            refine then_normal ?_
            -- region 11
            refine tr_env (es_cons (t := 3) (OT.tmp rfl) (es_cons (t := 4) (OT.tmp rfl) es_nil)) ?_
            refine tr_region ?_
            refine op_pure (pu_move (OT.tmp rfl)) rfl rfl ?_
            refine op_pure (pu_quo (OT.tmp rfl) OT.const (by decide)) rfl rfl ?_
            refine op_pure (pu_assign (OT.tmp rfl)) rfl rfl ?_
            refine tr_nil ?_
            refine block_normal ?_
            refine then_normal ?_
            exact tr_again (n / 128, v10_6, out ++ [UInt8.ofNat (n % 128 + 128)]) ⟨by show n / 128 < _; omega, by show (out ++ _) ++ varint (n / 128) = _; rw [← hout, varint_big hn8, List.append_assoc]; rfl, by have h20 := congrArg List.length hout; have h21 := (varint_ten hz64).2; have h22 := (varint_ten (n := n / 128) (by omega)).1; rw [varint_big hn8, hev] at h20; simp at h20; show (out ++ [_]).length ≤ 20; simp; omega⟩ (by show n / 128 < n; omega) (es_append (es_cons (t := 3) (OT.val (OT.tmp rfl) (congrArg (Value.int _) (quo128 hn64))) (es_cons (t := 4) (OT.tmp rfl) es_nil)) es_nil) (own_picks (by rw [nums_app, nums_one, ← rem128]; exact (by repeat (first | exact picks_nil | refine picks_cons 0 rfl ?_ | refine picks_cons 1 rfl ?_ | refine picks_cons 2 rfl ?_ | refine picks_cons 3 rfl ?_ | refine picks_cons 4 rfl ?_ | refine picks_cons 5 rfl ?_ | refine picks_cons 6 rfl ?_))))
          · skip
            refine tr_exit ?_
            refine then_exit ?_
            refine then_exit ?_
            refine block_hit ?_
            refine then_normal ?_
            refine tr_seq ?_
            -- region 12
            refine tr_env (es_cons (t := 3) (OT.tmp rfl) (es_cons (t := 4) (OT.tmp rfl) es_nil)) ?_
            refine tr_region ?_
            refine op_pure (pu_move (OT.tmp rfl)) rfl rfl ?_
            refine op_pure (pu_move (OT.tmp rfl)) rfl rfl ?_
            refine op_pure (pu_convert (OT.tmp rfl) Tryd.underlying64 Tryd.underlying5) rfl rfl ?_
            refine op_acts (acts_lit (d := (kint .u8)) (v0 := 0) (show slTy Tryd.prog 26 5 1 1 = true from by decide +kernel) (show tyOk Tryd.prog 5 false 1 = true from by decide +kernel) z5 (show 1 * 1 ≤ 16777216 from by decide) (by decide) (fills_arr rfl rfl (by decide) (OT.tmp rfl) fills_nil)) (List.Perm.refl _) rfl rfl (fun _ _ => ?_)
            refine op_acts (acts_append (OT.tmp rfl) (by exact perm_at 0 rfl) (OT.tmp rfl) (show slTy Tryd.prog 26 5 1 1 = true from by decide +kernel) (by (simp; omega)) (by (simp [maxLen]; omega))) (by exact perm_at 0 rfl) rfl rfl (fun v12_4 _ => ?_)
            refine op_pure (pu_assign (OT.tmp rfl)) rfl rfl ?_
            refine tr_nil ?_
            have hn8 : n < 128 := by simp at c39; omega
            refine tr_freeze (by exact perm_at 0 rfl) 2 (OT.tmp rfl) ?_
            refine then_normal ?_
            refine tr_ret ?_
            exact ret_one .ret (.inl rfl) rfl () (OT.eq (OT.tmp rfl) (congrArg (SlT (kint .u8)) (by rw [← hout, varint_small hn8, nums_app]; show _ ++ [_] = _ ++ [_]; rw [wrapk (by omega)]))) trivial (by exact picks_nil)
end Go.Proofs.YtdlendioamiagaaDoor
/- Walks through the Go functions rhizomeref02.hex, rhizomeref01.Digits, as typed contracts. -/
namespace Go.Proofs.YtdlendioamiagaaDoor
open Go Go.Gw Go.Vl
set_option linter.unusedVariables false
set_option linter.unusedSimpArgs false

end Go.Proofs.YtdlendioamiagaaDoor
/- Walks through the Go functions rhizomeref02.Show, rhizomeref02.Bytes, as typed contracts. -/
namespace Go.Proofs.YtdlendioamiagaaDoor
open Go Go.Gw Go.Vl
set_option linter.unusedVariables false
set_option linter.unusedSimpArgs false
end Go.Proofs.YtdlendioamiagaaDoor
/- Values of properties, plain: the document's examples. -/
namespace Go.Proofs.YtdlendioamiagaaDoor
open Go Go.Gw Go.Vl Go.Lib
set_option linter.unusedVariables false
set_option linter.unusedSimpArgs false
theorem aw1 : encR (1, 64, []) = [1, 128, 1] ∧ checkV (1, 64, []) = 0 := by
  have h0 : checkV (1, 64, []) = 0 := rfl
  refine ⟨?_, h0⟩
  rw [encR_ok h0]
  show 1 :: varint (zig 64) = _
  rw [show zig 64 = 128 from rfl, varint_big (by decide), show 128 / 128 = 1 from rfl, varint_small (by decide)]
  rfl
theorem rune1 {b : UInt8} {l : List UInt8} (h : b.toNat < 128) : rune (b :: l) = (b.toNat, 1) := decodeL_ascii b l h
theorem aw2 : showR (2, 0, [7, 34]) = [34, 92, 117, 123, 55, 125, 92, 34, 34] ∧ checkV (2, 0, [7, 34]) = 0 := by
  have hv : validD [7, 34] = true := by rw [validD_cons _ _ (by decide), validD_cons _ _ (by decide)]; rfl
  have h0 : checkV (2, 0, [7, 34]) = 0 := by unfold checkV; simp [hv]
  refine ⟨?_, h0⟩
  rw [showR_ok h0]
  show 34 :: showT [7, 34] ++ [34] = _
  rw [showT_step (by decide), rune1 (by decide)]
  show 34 :: (showC 7 ++ showT [34]) ++ [34] = _
  rw [showT_step (by decide), rune1 (by decide)]
  show 34 :: (showC 7 ++ (showC 34 ++ showT [])) ++ [34] = _
  rw [showT_nil]
  have h7 : showC 7 = [92, 117, 123] ++ hexL 7 ++ [125] := rfl
  rw [h7, hex_one (by decide)]
  rfl
theorem aw3 : parseR [34, 92, 117, 123, 48, 48, 52, 49, 125, 34] = ((2, 0, [65]), 0) := by
  have ht : textR [92, 117, 123, 48, 48, 52, 49, 125] = ([65], true) := by
    have hb : badT [92, 117, 123, 48, 48, 52, 49, 125] = false := by unfold badT badR; rw [rune1 (by decide)]; rfl
    have he : escP [117, 123, 48, 48, 52, 49, 125] = some (65, []) := by decide
    have h92 : (rune [92, 117, 123, 48, 48, 52, 49, 125]).1 = 92 := by rw [rune1 (by decide)]; rfl
    obtain ⟨_, h⟩ := textP_esc (l := [92, 117, 123, 48, 48, 52, 49, 125]) (by decide) hb h92 he
    rw [textP_nil] at h
    exact textR_some h
  have hv : checkV (2, 0, [65]) = 0 := by
    have hv : validD [65] = true := by rw [validD_cons _ _ (by decide)]; rfl
    unfold checkV; simp [hv]
  refine parseR_some ?_
  unfold parseV
  rw [if_neg (by decide), if_neg (by decide), if_pos (by decide)]
  have hi : innerL [34, 92, 117, 123, 48, 48, 52, 49, 125, 34] = [92, 117, 123, 48, 48, 52, 49, 125] := by decide
  rw [hi, ht, if_pos (by rw [hv]; rfl)]
theorem aw4 : parseR [45, 48] = ((0, 0, []), 6) := by
  refine parseR_none ?_
  unfold parseV
  rw [if_neg (by decide), if_neg (by decide), if_neg (by decide), if_neg]
  intro h
  rw [Bool.and_eq_true, decide_eq_true_eq] at h
  have h1 : atoiV [45, 48] = 0 := rfl
  rw [h1, show (0 : Int) = ((0 : Nat) : Int) from rfl, itoa_nonneg, decDigits_one (by decide)] at h
  exact absurd h.2 (by decide)
end Go.Proofs.YtdlendioamiagaaDoor
/- Walks through the Go functions rhizomelaw02.awake, rhizomelaw02.ValChecks, as typed contracts. -/
namespace Go.Proofs.YtdlendioamiagaaDoor
open Go Go.Gw Go.Vl
set_option linter.unusedVariables false
set_option linter.unusedSimpArgs false

set_option maxRecDepth 20000 in
/-- rhizome/rhizomelaw02.awake -/
theorem awake_fn {K0 : FH} {n0 : Nat} (hV : VarsV K0) : CtM K0 n0 Tryd.prog 11 [] ([]) Unit (fun _ => BoolT true) (fun _ => []) (fun _ => True) := by
  refine fn_introM Tryd.func11 rfl rfl ?_
  intro H w hK hn
  refine tr_seq ?_
  -- region 0
  refine tr_env es_nil ?_
  refine tr_region ?_
  refine op_pure (pu_assign OT.const) rfl rfl ?_
  refine tr_nil ?_
  refine then_normal ?_
  refine tr_seq ?_
  -- region 1
  refine tr_env es_nil ?_
  refine tr_region ?_
  refine op_pure (pu_build (d := kVl) (v0 := (0, 0, [])) (ps := [(0, 1), (1, 1), (2, 1)]) zVl (by kernel_rfl) rfl (fills_cons rfl lv0 OT.const (fills_cons rfl lv1 OT.const fills_nil))) rfl rfl ?_
  refine op_acts (acts_callM (Encode_fn (1, 64, []) hV (by decide) (by decide) (by decide)) (mk_in hK hn) (show enters Tryd.prog 13 = true from by decide +kernel) (OTs.cons (OT.tmp rfl) OTs.nil) (List.Perm.refl _)) (List.Perm.refl _) rfl rfl (fun _ _ => ?_)
  refine op_pure (pu_move (OT.tmp rfl)) rfl rfl ?_
  refine op_pure (pu_extract (OT.tmp rfl) rfl) rfl rfl ?_
  refine op_pure (pu_extract (OT.tmp rfl) rfl) rfl rfl ?_
  refine op_pure (pu_assign (OT.tmp rfl)) rfl rfl ?_
  refine op_pure (pu_assign (OT.tmp rfl)) rfl rfl ?_
  refine tr_nil ?_
  refine then_normal ?_
  refine tr_seq ?_
  -- region 2
  refine tr_env (es_cons (t := 1) (OT.tmp rfl) (es_cons (t := 2) (OT.tmp rfl) es_nil)) ?_
  refine tr_region ?_
  refine op_pure (pu_build (d := kVl) (v0 := (0, 0, [])) (ps := [(0, 1), (1, 1), (2, 1)]) zVl (by kernel_rfl) rfl (fills_cons rfl lv0 OT.const (fills_cons rfl lv2 OT.const fills_nil))) rfl rfl ?_
  refine op_acts (acts_callM (Show_fn (2, 0, [7, 34]) hV (by decide) (by decide) (by decide)) (mk_in hK hn) (show enters Tryd.prog 14 = true from by decide +kernel) (OTs.cons (OT.tmp rfl) OTs.nil) (List.Perm.refl _)) (List.Perm.refl _) rfl rfl (fun _ _ => ?_)
  refine op_pure (pu_move (OT.tmp rfl)) rfl rfl ?_
  refine op_pure (pu_extract (OT.tmp rfl) rfl) rfl rfl ?_
  refine op_pure (pu_extract (OT.tmp rfl) rfl) rfl rfl ?_
  refine op_pure (pu_assign (OT.tmp rfl)) rfl rfl ?_
  refine op_pure (pu_assign (OT.tmp rfl)) rfl rfl ?_
  refine tr_nil ?_
  refine then_normal ?_
  refine tr_seq ?_
  -- region 3
  refine tr_env (es_cons (t := 1) (OT.tmp rfl) (es_cons (t := 2) (OT.tmp rfl) (es_cons (t := 3) (OT.tmp rfl) (es_cons (t := 4) (OT.tmp rfl) es_nil)))) ?_
  refine tr_region ?_
  refine op_acts (acts_callM (Parse_fn _ hV (by decide)) (mk_in hK hn) (show enters Tryd.prog 18 = true from by decide +kernel) (OTs.cons OT.const OTs.nil) (List.Perm.refl _)) (List.Perm.refl _) rfl rfl (fun _ _ => ?_)
  refine op_pure (pu_move (OT.tmp rfl)) rfl rfl ?_
  refine op_pure (pu_extract (OT.tmp rfl) rfl) rfl rfl ?_
  refine op_pure (pu_extract (OT.tmp rfl) rfl) rfl rfl ?_
  refine op_acts (acts_alloc (zVl)) (List.Perm.refl _) rfl rfl (fun g3_4 _ => ?_)
  refine op_acts (acts_store_var (OT.tmp rfl) (OT.tmp rfl) (by exact perm_at 0 rfl) (show tyOk Tryd.prog 23 true 3 = true from by decide +kernel)) (by exact perm_at 0 rfl) rfl rfl (fun _ _ => ?_)
  refine op_pure (pu_assign (OT.tmp rfl)) rfl rfl ?_
  refine tr_nil ?_
  refine then_normal ?_
  refine tr_seq ?_
  -- region 4
  refine tr_env (es_cons (t := 1) (OT.tmp rfl) (es_cons (t := 2) (OT.tmp rfl) (es_cons (t := 3) (OT.tmp rfl) (es_cons (t := 4) (OT.tmp rfl) (es_cons (t := 5) (OT.tmp rfl) (es_cons (t := 6) (OT.tmp rfl) es_nil)))))) ?_
  refine tr_region ?_
  refine op_acts (acts_callM (Parse_fn _ hV (by decide)) (mk_in hK hn) (show enters Tryd.prog 18 = true from by decide +kernel) (OTs.cons OT.const OTs.nil) (List.Perm.refl _)) (List.Perm.refl _) rfl rfl (fun _ _ => ?_)
  refine op_pure (pu_move (OT.tmp rfl)) rfl rfl ?_
  refine op_pure (pu_extract (OT.tmp rfl) rfl) rfl rfl ?_
  refine op_pure (pu_extract (OT.tmp rfl) rfl) rfl rfl ?_
  refine op_acts (acts_alloc (zVl)) (List.Perm.refl _) rfl rfl (fun g4_4 _ => ?_)
  refine op_acts (acts_store_var (OT.tmp rfl) (OT.tmp rfl) (by exact perm_at 0 rfl) (show tyOk Tryd.prog 23 true 3 = true from by decide +kernel)) (by exact perm_at 0 rfl) rfl rfl (fun _ _ => ?_)
  refine op_pure (pu_assign (OT.tmp rfl)) rfl rfl ?_
  refine tr_nil ?_
  refine then_normal ?_
  refine tr_seq ?_
  -- region 5
  refine tr_env (es_cons (t := 1) (OT.tmp rfl) (es_cons (t := 2) (OT.tmp rfl) (es_cons (t := 3) (OT.tmp rfl) (es_cons (t := 4) (OT.tmp rfl) (es_cons (t := 5) (OT.tmp rfl) (es_cons (t := 6) (OT.tmp rfl) (es_cons (t := 8) (OT.tmp rfl) es_nil))))))) ?_
  refine tr_region ?_
  refine op_pure (pu_move (OT.tmp rfl)) rfl rfl ?_
  refine op_pure (pu_eql (OT.tmp rfl) OT.const) rfl rfl ?_
  refine op_pure (pu_move (OT.tmp rfl)) rfl rfl ?_
  refine op_gu rfl rfl rfl (OT.gu_mk (OT.tmp rfl)) (fun hg => by (have hg1 := hg.2; (try simp only [decide_eq_true_eq, decide_eq_false_iff_not] at hg1); exact pu_move (by exact OT.tmp rfl))) rfl ?_
  refine op_gu rfl rfl rfl (OT.gu_mk (OT.tmp rfl)) (fun hg => by (have hg1 := hg.2; (try simp only [decide_eq_true_eq, decide_eq_false_iff_not] at hg1); exact pu_bytes_bs (by exact OT.gu (OT.tmp rfl) hg) Tryd.underlying26 Tryd.underlying5 Tryd.underlying9)) rfl ?_
  refine op_gu rfl rfl rfl (OT.gu_mk (OT.tmp rfl)) (fun hg => by (have hg1 := hg.2; (try simp only [decide_eq_true_eq, decide_eq_false_iff_not] at hg1); exact pu_bs_eql (by exact OT.gu (OT.tmp rfl) hg) OT.const)) rfl ?_
  refine op_pure (pu_pick_and (OT.tmp rfl) (by exact OT.tmp rfl)) rfl rfl ?_
  refine op_pure (pu_move (OT.tmp rfl)) rfl rfl ?_
  refine op_gu rfl rfl rfl (OT.gu_mk (OT.tmp rfl)) (fun hg => by (have hg1 := hg.2; (try simp only [decide_eq_true_eq, decide_eq_false_iff_not] at hg1); exact pu_move (by exact OT.tmp rfl))) rfl ?_
  refine op_gu rfl rfl rfl (OT.gu_mk (OT.tmp rfl)) (fun hg => by (have hg1 := hg.2; (try simp only [decide_eq_true_eq, decide_eq_false_iff_not] at hg1); exact pu_eql (by exact OT.gu (OT.tmp rfl) hg) OT.const)) rfl ?_
  refine op_pure (pu_pick_and (OT.tmp rfl) (by exact OT.tmp rfl)) rfl rfl ?_
  refine op_pure (pu_move (OT.tmp rfl)) rfl rfl ?_
  refine op_gu rfl rfl rfl (OT.gu_mk (OT.tmp rfl)) (fun hg => by (have hg1 := hg.2; (try simp only [decide_eq_true_eq, decide_eq_false_iff_not] at hg1); exact pu_move (by exact OT.tmp rfl))) rfl ?_
  refine op_gu rfl rfl rfl (OT.gu_mk (OT.tmp rfl)) (fun hg => by (have hg1 := hg.2; (try simp only [decide_eq_true_eq, decide_eq_false_iff_not] at hg1); exact pu_bs_eql (by exact OT.gu (OT.tmp rfl) hg) OT.const)) rfl ?_
  refine op_pure (pu_pick_and (OT.tmp rfl) (by exact OT.tmp rfl)) rfl rfl ?_
  refine op_pure (pu_move (OT.tmp rfl)) rfl rfl ?_
  refine op_gu rfl rfl rfl (OT.gu_mk (OT.tmp rfl)) (fun hg => by (have hg1 := hg.2; (try simp only [decide_eq_true_eq, decide_eq_false_iff_not] at hg1); exact pu_move (by exact OT.tmp rfl))) rfl ?_
  refine op_gu rfl rfl rfl (OT.gu_mk (OT.tmp rfl)) (fun hg => by (have hg1 := hg.2; (try simp only [decide_eq_true_eq, decide_eq_false_iff_not] at hg1); exact pu_eql (by exact OT.gu (OT.tmp rfl) hg) OT.const)) rfl ?_
  refine op_pure (pu_pick_and (OT.tmp rfl) (by exact OT.tmp rfl)) rfl rfl ?_
  refine op_pure (pu_move (OT.tmp rfl)) rfl rfl ?_
  refine op_gu rfl rfl rfl (OT.gu_mk (OT.tmp rfl)) (fun hg => by (have hg1 := hg.2; (try simp only [decide_eq_true_eq, decide_eq_false_iff_not] at hg1); exact pu_faddr (by exact OT.tmp rfl) (show fieldOk Tryd.prog 23 2 2 false 1 = true from by decide +kernel))) rfl ?_
  refine op_gu rfl rfl rfl (OT.gu_mk (OT.tmp rfl)) (fun hg => by (have hg1 := hg.2; (try simp only [decide_eq_true_eq, decide_eq_false_iff_not] at hg1); exact pu_load_blk (by exact OT.gu (OT.tmp rfl) hg) (by exact mem_at 1 rfl) lv2 (show tyOk Tryd.prog 9 false 1 = true from by decide +kernel))) rfl ?_
  refine op_gu rfl rfl rfl (OT.gu_mk (OT.tmp rfl)) (fun hg => by (have hg1 := hg.2; (try simp only [decide_eq_true_eq, decide_eq_false_iff_not] at hg1); exact pu_bs_eql (by exact OT.gu (OT.tmp rfl) hg) OT.const)) rfl ?_
  refine op_pure (pu_pick_and (OT.tmp rfl) (by exact OT.tmp rfl)) rfl rfl ?_
  refine op_pure (pu_move (OT.tmp rfl)) rfl rfl ?_
  refine op_gu rfl rfl rfl (OT.gu_mk (OT.tmp rfl)) (fun hg => by (have hg1 := hg.2; (try simp only [decide_eq_true_eq, decide_eq_false_iff_not] at hg1); exact pu_move (by exact OT.tmp rfl))) rfl ?_
  refine op_gu rfl rfl rfl (OT.gu_mk (OT.tmp rfl)) (fun hg => by (have hg1 := hg.2; (try simp only [decide_eq_true_eq, decide_eq_false_iff_not] at hg1); exact pu_eql (by exact OT.gu (OT.tmp rfl) hg) OT.const)) rfl ?_
  refine op_pure (pu_pick_and (OT.tmp rfl) (by exact OT.tmp rfl)) rfl rfl ?_
  refine op_pure (pu_assign (OT.tmp rfl)) rfl rfl ?_
  refine tr_nil ?_
  refine then_normal ?_
  refine tr_ret ?_
  exact ret_one .ret (.inl rfl) rfl () (OT.val (OT.tmp rfl) (congrArg Value.bool (by rw [unnum_nums, aw1.1, aw1.2, aw2.1, aw2.2, aw3, aw4]; rfl))) trivial (by exact picks_nil)
end Go.Proofs.YtdlendioamiagaaDoor
/- Values of properties, plain: the first runes of a text. -/
namespace Go.Vl
open Go Go.Gw Go.Lib
set_option linter.unusedVariables false
set_option linter.unusedSimpArgs false
end Go.Vl
/- Values compared by '=='; their order, plain. -/
namespace Go.Proofs.YtdlendioamiagaaDoor
open Go Go.Gw Go.Vl
set_option linter.unusedVariables false
set_option linter.unusedSimpArgs false
theorem aggV {H : FH} {t : Vl} {a : Value} (h : (kVl.T t).p H a) : a = .agg #[.int .i64 t.1, .int .i64 t.2.1, .string (bs t.2.2)] := by
  obtain ⟨cs, ⟨c1, c2, h1, ⟨c3, c4, h3, h4, rfl⟩, rfl⟩, rfl⟩ := h
  have e1 : c1 = [Value.int .i64 t.1] := h1
  have e3 : c3 = [Value.int .i64 t.2.1] := h3
  have e4 : c4 = [Value.string (bs t.2.2)] := h4
  subst e1 e3 e4
  rfl
abbrev vv (t : Vl) : Array Value := #[.int .i64 t.1, .int .i64 t.2.1, .string (bs t.2.2)]
theorem run_equalVd (w : World) (d : Nat) (u v : Vl) : (Op.equalIn (d + 1 + 1) 23 (.agg (vv u)) (.agg (vv v))).run Tryd.prog w = .ok (decide (u = v)) w := by
  have hf : Tryd.prog.underlying 23 = some (.struct (Tryd.prog.fieldsOf 23)) := by unfold Program.fieldsOf; rw [Tryd.underlying23]
  have hp : Tryd.prog.stoodInHeld 23 = false := by decide +kernel
  rw [run_equalIn_agg w (d + 1) 23 _ _ hf hp]
  clear hf
  simp only [Program.fieldsOf, Tryd.underlying23]
  have k9 : Tryd.prog.plainKey 9 = true := by decide +kernel
  have k3 : Tryd.prog.plainKey 3 = true := by decide +kernel
  have u9 : Tryd.prog.underlying 9 = some .string := Tryd.underlying9
  have u3 : Tryd.prog.underlying 3 = some (.int .i64) := Tryd.underlying3
  have p0 : ∀ t : Vl, (part 3 (vv t) 0).run Tryd.prog w = .ok (.int .i64 t.1) w := fun t => run_part_plain w k3 rfl
  have p1 : ∀ t : Vl, (part 3 (vv t) 1).run Tryd.prog w = .ok (.int .i64 t.2.1) w := fun t => run_part_plain w k3 rfl
  have p2 : ∀ t : Vl, (part 9 (vv t) 2).run Tryd.prog w = .ok (.string (bs t.2.2)) w := fun t => run_part_plain w k9 rfl
  have e3 : ∀ (a b : Int), (Op.equalIn (d + 1) 3 (.int .i64 a) (.int .i64 b)).run Tryd.prog w = .ok (a == b) w := fun a b => run_equalIn_int w d 3 .i64 .i64 a b u3
  have e9 : ∀ (a b : List UInt8), (Op.equalIn (d + 1) 9 (.string (bs a)) (.string (bs b))).run Tryd.prog w = .ok (decide (a = b)) w := fun a b => by rw [run_equalIn_string w d 9 _ _ u9, beq_bs]
  obtain ⟨u0, u1, u2⟩ := u
  obtain ⟨v0, v1, v2⟩ := v
  simp only [Op.eqFields, show ("Kind" ≠ "_") from by decide, show ("Int" ≠ "_") from by decide, show ("Text" ≠ "_") from by decide, if_true, ne_eq, not_false_eq_true, Sem.run_bind, p0, p1, p2, e3, e9, Result.andThen_ok]
  by_cases h0 : u0 = v0
  · by_cases h1 : u1 = v1
    · by_cases h2 : u2 = v2 <;> simp [h0, h1, h2, p1, p2, e3, e9, Op.eqFields]
    · simp [h0, h1, p1, e3]
  · simp [h0]
theorem eqVl : EqOk Tryd.prog 23 kVl := fun H w u v a b x y ha hb => by
  rw [aggV ha, aggV hb]
  have hg : Tryd.prog.eqGuardType Tryd.prog.depth 23 = false := by decide +kernel
  refine ⟨run_eqGuard_agg w .eql 23 x y _ _ hg, run_eqGuard_agg w .neq 23 x y _ _ hg, ?_, ?_⟩
  · rw [run_eql_struct w 23, show (Op.equalIn 10000 23 (.agg (vv u)) (.agg (vv v))).run Tryd.prog w = _ from run_equalVd w 9998 u v]; rfl
  · rw [run_neq_struct w 23, show (Op.equalIn 10000 23 (.agg (vv u)) (.agg (vv v))).run Tryd.prog w = _ from run_equalVd w 9998 u v]; rfl
end Go.Proofs.YtdlendioamiagaaDoor
namespace Go.Vl
open Go Go.Gw Go.Lib
/-! ### The order of texts -/
/-! ### The order of values -/
end Go.Vl
/- Values of properties, plain: texts dressed with escapes are read back. -/
namespace Go.Vl
open Go Go.Gw Go.Lib
set_option linter.unusedVariables false
set_option linter.unusedSimpArgs false
/-! ### hexadecimal digits of any case -/
/-! ### what is shown is read -/
theorem enc_asc {c : Nat} (h : c < 128) : enc (c : Int) = [UInt8.ofNat c] := by
  have e := enc_byte (b := UInt8.ofNat c) (by rw [UInt8.toNat_ofNat']; omega)
  rw [UInt8.toNat_ofNat', show c % 2 ^ 8 = c from by omega] at e
  exact e
end Go.Vl
/- Values of properties, plain: what is shown is parsed. -/
namespace Go.Proofs.YtdlendioamiagaaDoor
open Go Go.Gw Go.Vl Go.Lib
set_option linter.unusedVariables false
set_option linter.unusedSimpArgs false
/-! ### numbers -/
/-! ### texts -/
end Go.Proofs.YtdlendioamiagaaDoor
/- Values of properties, plain: a value read from bytes. -/
namespace Go.Vl
open Go Go.Gw
set_option linter.unusedVariables false
set_option linter.unusedSimpArgs false
/-- The number that bytes begin with (i groups of seven bits stand ahead), and how many they are. -/
def rd : Nat → List UInt8 → Option (Nat × Nat)
  | _, [] => none
  | i, x :: l => if (i = 9 ∧ 1 < x.toNat) ∨ (0 < i ∧ x.toNat = 0) then none else if x.toNat < 128 then some (x.toNat, 1) else (rd (i + 1) l).map fun p => (x.toNat - 128 + 128 * p.1, p.2 + 1)
theorem rd_none {i : Nat} {x : UInt8} {l : List UInt8} (h : (i = 9 ∧ 1 < x.toNat) ∨ (0 < i ∧ x.toNat = 0)) : rd i (x :: l) = none := by rw [rd, if_pos h]
theorem rd_last {i : Nat} {x : UInt8} {l : List UInt8} (h : ¬ ((i = 9 ∧ 1 < x.toNat) ∨ (0 < i ∧ x.toNat = 0))) (h1 : x.toNat < 128) : rd i (x :: l) = some (x.toNat, 1) := by rw [rd, if_neg h, if_pos h1]
theorem rd_more {i : Nat} {x : UInt8} {l : List UInt8} (h : ¬ ((i = 9 ∧ 1 < x.toNat) ∨ (0 < i ∧ x.toNat = 0))) (h1 : ¬ x.toNat < 128) : rd i (x :: l) = (rd (i + 1) l).map fun p => (x.toNat - 128 + 128 * p.1, p.2 + 1) := by rw [rd, if_neg h, if_neg h1]
theorem ofNat_lt {n : Nat} (h : n < 256) : (UInt8.ofNat n).toNat = n := by rw [UInt8.toNat_ofNat']; omega
/-- What is written is read, whatever stands behind. -/
theorem rd_varint : ∀ (k i n : Nat) (r : List UInt8), i + k = 9 → n < 2 ^ (7 * k + 1) → (0 < i → 0 < n) → rd i (varint n ++ r) = some (n, (varint n).length)
  | k, i, n, r, hik, hn, hi => by
    by_cases h : n < 128
    · rw [varint_small h, List.singleton_append, rd_last]
      · rw [ofNat_lt (by omega)]; rfl
      · rw [ofNat_lt (by omega)]
        rintro (⟨h1, h2⟩ | ⟨h1, h2⟩)
        · have : k = 0 := by omega
          subst this
          simp at hn; omega
        · have := hi h1; omega
      · rw [ofNat_lt (by omega)]; exact h
    · cases k with
      | zero => simp at hn; omega
      | succ k =>
        have e := ofNat_lt (n := n % 128 + 128) (by omega)
        have hp : 2 ^ (7 * (k + 1) + 1) = 128 * 2 ^ (7 * k + 1) := by rw [show 7 * (k + 1) + 1 = 7 * k + 1 + 7 from by omega, Nat.pow_add]; omega
        rw [varint_big h, List.cons_append, rd_more (by rw [e]; omega) (by rw [e]; omega), e, rd_varint k (i + 1) (n / 128) r (by omega) (by omega) (by omega)]
        refine congrArg some (Prod.ext ?_ ?_)
        · show n % 128 + 128 - 128 + 128 * (n / 128) = n
          omega
        · show _ = _
          rw [List.length_cons]
/-- What is read was written so. -/
theorem rd_says : ∀ (k i : Nat) (l : List UInt8) (n c : Nat), i + k = 9 → rd i l = some (n, c) → n < 2 ^ (7 * k + 1) ∧ (0 < i → 0 < n) ∧ ∃ r, l = varint n ++ r ∧ c = (varint n).length
  | k, i, [], n, c, hik, h => by cases h
  | k, i, x :: l, n, c, hik, h => by
    by_cases h1 : (i = 9 ∧ 1 < x.toNat) ∨ (0 < i ∧ x.toNat = 0)
    · rw [rd_none h1] at h; cases h
    · by_cases h2 : x.toNat < 128
      · rw [rd_last h1 h2] at h
        cases h
        have hx : UInt8.ofNat x.toNat = x := by simp
        refine ⟨?_, fun h3 => by omega, l, by rw [varint_small h2, hx]; rfl, by rw [varint_small h2]; rfl⟩
        cases k with
        | zero => simp; omega
        | succ k =>
          have hp : 2 ^ (7 * (k + 1) + 1) = 256 * 2 ^ (7 * k) := by rw [show 7 * (k + 1) + 1 = 7 * k + 8 from by omega, Nat.pow_add]; omega
          have : 0 < 2 ^ (7 * k) := Nat.two_pow_pos _
          omega
      · rw [rd_more h1 h2] at h
        cases k with
        | zero =>
          exfalso
          have : x.toNat ≤ 1 := by omega
          omega
        | succ k =>
          cases hr : rd (i + 1) l with
          | none => rw [hr] at h; cases h
          | some p =>
            rw [hr] at h
            obtain ⟨a1, a2, r, a3, a4⟩ := rd_says k (i + 1) l p.1 p.2 (by omega) hr
            have hb := x.toNat_lt
            have a5 := a2 (by omega)
            cases h
            have hp : 2 ^ (7 * (k + 1) + 1) = 128 * 2 ^ (7 * k + 1) := by rw [show 7 * (k + 1) + 1 = 7 * k + 1 + 7 from by omega, Nat.pow_add]; omega
            have e1 : (x.toNat - 128 + 128 * p.1) / 128 = p.1 := by omega
            have e2 : (x.toNat - 128 + 128 * p.1) % 128 + 128 = x.toNat := by omega
            have hx : UInt8.ofNat x.toNat = x := by simp
            refine ⟨by omega, fun _ => by omega, r, ?_, ?_⟩
            · rw [varint_big (by omega), e1, e2, hx, a3]; rfl
            · rw [varint_big (by omega), e1, List.length_cons, ← a4]
theorem rd_back {n : Nat} (h : n < 18446744073709551616) (r : List UInt8) : rd 0 (varint n ++ r) = some (n, (varint n).length) := rd_varint 9 0 n r rfl h (by omega)
theorem rd_is {l : List UInt8} {n c : Nat} (h : rd 0 l = some (n, c)) : n < 18446744073709551616 ∧ ∃ r, l = varint n ++ r ∧ c = (varint n).length := by
  obtain ⟨a, _, b⟩ := rd_says 9 0 l n c rfl h
  exact ⟨a, b⟩
/-- A number of its zigzag form. -/
def unzig (n : Nat) : Int := if n % 2 = 1 then -((n / 2 : Nat) : Int) - 1 else ((n / 2 : Nat) : Int)
theorem unzig_zig (i : Int) : unzig (zig i) = i := by
  unfold unzig zig
  split <;> split <;> omega
theorem zig_unzig (n : Nat) : zig (unzig n) = n := by
  unfold unzig zig
  split <;> split <;> omega
theorem unzig_bd {n : Nat} (h : n < 18446744073709551616) : -9223372036854775808 ≤ unzig n ∧ unzig n ≤ 9223372036854775807 := by
  unfold unzig
  split <;> omega
/-! ### bits -/
set_option maxRecDepth 40000 in
theorem and127_tab : ∀ x : Fin 256, bitsV .and .u8 ((x.val : Nat) : Int) 127 = ((x.val % 128 : Nat) : Int) := by decide
theorem and127 {x : Nat} (h : x < 256) : bitsV .and .u8 (x : Int) 127 = ((x % 128 : Nat) : Int) := and127_tab ⟨x, h⟩
theorem or_put {n i x : Nat} (hi : i ≤ 9) (h9 : i = 9 → x ≤ 1) (hn : n < 2 ^ (7 * i)) (hx : x < 128) : bitsV .or .u64 (n : Int) (IntKind.u64.wrap ((x : Int) * 2 ^ min (Int.toNat (7 * (i : Int))) IntKind.u64.bits)) = ((n + 2 ^ (7 * i) * x : Nat) : Int) ∧ n + 2 ^ (7 * i) * x < 18446744073709551616 ∧ n + 2 ^ (7 * i) * x < 2 ^ (7 * (i + 1)) := by
  have hb : 2 ^ (7 * i) * x + 2 ^ (7 * i) ≤ 18446744073709551616 := by
    by_cases h : i = 9
    · subst h
      have := h9 rfl
      have e : (2 : Nat) ^ (7 * 9) = 9223372036854775808 := by decide
      rw [e]
      have : 9223372036854775808 * x ≤ 9223372036854775808 * 1 := Nat.mul_le_mul_left _ this
      omega
    · have e1 : 2 ^ (7 * i) * (x + 1) ≤ 2 ^ (7 * i) * 128 := Nat.mul_le_mul_left _ (by omega)
      have e2 : 2 ^ (7 * i) ≤ 2 ^ (7 * 8) := Nat.pow_le_pow_right (by omega) (by omega)
      have e3 : (2 : Nat) ^ (7 * 8) = 72057594037927936 := by decide
      rw [Nat.mul_add] at e1
      omega
  have hp : 0 < 2 ^ (7 * i) := Nat.two_pow_pos _
  have h2 : 2 ^ (7 * (i + 1)) = 2 ^ (7 * i) * 128 := by rw [Nat.mul_add 7 i 1, Nat.pow_add]
  have e1 : 2 ^ (7 * i) * (x + 1) ≤ 2 ^ (7 * i) * 128 := Nat.mul_le_mul_left _ (by omega)
  rw [Nat.mul_add] at e1
  have ew : IntKind.u64.wrap ((x : Int) * 2 ^ min (Int.toNat (7 * (i : Int))) IntKind.u64.bits) = ((2 ^ (7 * i) * x : Nat) : Int) := by
    rw [show min (Int.toNat (7 * (i : Int))) IntKind.u64.bits = 7 * i from by show min _ 64 = _; omega]
    have e : (x : Int) * 2 ^ (7 * i) = ((2 ^ (7 * i) * x : Nat) : Int) := by rw [Nat.mul_comm (2 ^ (7 * i)) x]; push_cast; rfl
    rw [e]
    exact wrap64 (by omega) (by omega)
  refine ⟨?_, by omega, by omega⟩
  rw [ew, or64 (by omega) (by omega), Nat.or_comm, ← Nat.two_pow_add_eq_or_of_lt hn, Nat.add_comm]
theorem and1 {n : Nat} (h : n < 18446744073709551616) : bitsV .and .u64 (n : Int) 1 = ((n % 2 : Nat) : Int) := by
  have := and64 (x := n) (y := 1) h (by decide)
  rw [Nat.and_one_is_mod] at this
  exact this
theorem shr1 (n : Nat) : (n : Int).fdiv (2 ^ min (Int.toNat 1) IntKind.u64.bits) = ((n / 2 : Nat) : Int) := by
  rw [show (2 : Int) ^ min (Int.toNat 1) IntKind.u64.bits = 2 from rfl, Int.fdiv_eq_ediv_of_nonneg _ (by decide)]
  omega
theorem xor_i64 {a : Nat} (h : a < 9223372036854775808) : bitsV .xor .i64 (a : Int) 0 = (a : Int) ∧ bitsV .xor .i64 (a : Int) (-1) = -(a : Int) - 1 := by
  have w : ∀ x : Int, IntKind.i64.wrap x = (x + 9223372036854775808) % 18446744073709551616 - 9223372036854775808 := fun x => by simp [IntKind.wrap, IntKind.bits, IntKind.signed]; split <;> omega
  refine ⟨?_, ?_⟩
  · show IntKind.i64.wrap (((BitVec.ofInt 64 (a : Int)) ^^^ (BitVec.ofInt 64 (0 : Int))).toNat : Int) = _
    rw [BitVec.toNat_xor, ofInt_u64 a (by omega), show (BitVec.ofInt 64 (0 : Int)).toNat = 0 from by decide, Nat.xor_zero, w]
    omega
  · show IntKind.i64.wrap (((BitVec.ofInt 64 (a : Int)) ^^^ (BitVec.ofInt 64 (-1 : Int))).toNat : Int) = _
    rw [BitVec.toNat_xor, ofInt_u64 a (by omega), show (BitVec.ofInt 64 (-1 : Int)).toNat = 2 ^ 64 - 1 from by decide, ones_xor _ (by omega), w]
    omega
theorem last_xor {n : Nat} (h : n < 18446744073709551616) : bitsV .xor .i64 ((n / 2 : Nat) : Int) (-((n % 2 : Nat) : Int)) = unzig n := by
  have := xor_i64 (a := n / 2) (by omega)
  unfold unzig
  by_cases h1 : n % 2 = 1
  · rw [if_pos h1, h1]; exact this.2
  · rw [if_neg h1, show n % 2 = 0 from by omega]; exact this.1
theorem half_i {n : Nat} (h : n < 18446744073709551616) : IntKind.i64.wrap ((n : Int).fdiv (2 ^ min (Int.toNat 1) IntKind.u64.bits)) = ((n / 2 : Nat) : Int) := by
  rw [shr1]
  simp [IntKind.wrap, IntKind.bits, IntKind.signed]; omega
theorem low_i {n : Nat} (h : n < 18446744073709551616) : IntKind.i64.wrap (bitsV .and .u64 (n : Int) 1) = ((n % 2 : Nat) : Int) := by
  rw [and1 h]
  simp [IntKind.wrap, IntKind.bits, IntKind.signed]; omega
/-- The program's answer. -/
def numR (l : List UInt8) : Int × Int := match rd 0 l with
  | some (n, k) => (unzig n, (k : Int))
  | none => (0, 0)
theorem numR_none {l : List UInt8} (h : rd 0 l = none) : numR l = (0, 0) := by unfold numR; rw [h]
theorem numR_some {l : List UInt8} {n k : Nat} (h : rd 0 l = some (n, k)) : numR l = (unzig n, (k : Int)) := by unfold numR; rw [h]
/-- The program's loop: n is what i bytes said. -/
def RdAt (b : List UInt8) (i n : Nat) : Prop := i ≤ b.length ∧ i ≤ 9 ∧ n < 2 ^ (7 * i) ∧ rd 0 b = (rd i (b.drop i)).map fun p => (n + 2 ^ (7 * i) * p.1, p.2 + i)
theorem rdAt_0 (b : List UInt8) : RdAt b 0 0 := ⟨Nat.zero_le _, by omega, by decide, by rw [List.drop_zero]; simp⟩
theorem rdAt_end {b : List UInt8} {n : Nat} (h : RdAt b b.length n) : rd 0 b = none := by
  obtain ⟨_, _, _, h⟩ := h
  rw [h, List.drop_length]; rfl
theorem rdAt_bad {b : List UInt8} {i n : Nat} (h : RdAt b i n) (hi : i < b.length) (hb : (i = 9 ∧ 1 < b[i].toNat) ∨ (0 < i ∧ b[i].toNat = 0)) : rd 0 b = none := by
  obtain ⟨_, _, _, h⟩ := h
  rw [h, List.drop_eq_getElem_cons hi, rd_none hb]; rfl
theorem rdAt_last {b : List UInt8} {i n : Nat} (h : RdAt b i n) (hi : i < b.length) (hb : ¬ ((i = 9 ∧ 1 < b[i].toNat) ∨ (0 < i ∧ b[i].toNat = 0))) (hl : b[i].toNat < 128) : rd 0 b = some (n + 2 ^ (7 * i) * (b[i].toNat % 128), 1 + i) := by
  obtain ⟨_, _, _, h⟩ := h
  rw [h, List.drop_eq_getElem_cons hi, rd_last hb hl, Nat.mod_eq_of_lt hl]; rfl
theorem rdAt_next {b : List UInt8} {i n : Nat} (h : RdAt b i n) (hi : i < b.length) (hb : ¬ ((i = 9 ∧ 1 < b[i].toNat) ∨ (0 < i ∧ b[i].toNat = 0))) (hl : ¬ b[i].toNat < 128) (hn : n + 2 ^ (7 * i) * (b[i].toNat % 128) < 2 ^ (7 * (i + 1))) : RdAt b (i + 1) (n + 2 ^ (7 * i) * (b[i].toNat % 128)) := by
  obtain ⟨_, h9, _, h⟩ := h
  have hx := b[i].toNat_lt
  refine ⟨by omega, by omega, hn, ?_⟩
  rw [h, List.drop_eq_getElem_cons hi, rd_more hb hl]
  cases rd (i + 1) (b.drop (i + 1)) with
  | none => rfl
  | some p =>
    refine congrArg some (Prod.ext ?_ ?_)
    · show n + 2 ^ (7 * i) * (b[i].toNat - 128 + 128 * p.1) = n + 2 ^ (7 * i) * (b[i].toNat % 128) + 2 ^ (7 * (i + 1)) * p.1
      rw [show b[i].toNat % 128 = b[i].toNat - 128 from by omega, Nat.mul_add, Nat.mul_add 7 i 1, Nat.pow_add, Nat.mul_assoc, Nat.add_assoc]
    · show p.2 + 1 + i = p.2 + (i + 1)
      omega
/-- The value that bytes begin with, and how many they are. -/
def cand (b : List UInt8) : Option (Vl × Nat) := if b.length < 2 then none else if (b.getD 0 0).toNat = 3 then some ((3, ((b.getD 1 0).toNat : Int), []), 2) else if (b.getD 0 0).toNat = 2 then (if b.length < 2 + (b.getD 1 0).toNat then none else some ((2, 0, (b.drop 2).take (b.getD 1 0).toNat), 2 + (b.getD 1 0).toNat)) else (rd 0 (b.drop 1)).map fun p => ((((b.getD 0 0).toNat : Int), unzig p.1, []), p.2 + 1)
def decV (b : List UInt8) : Option (Vl × Nat) := match cand b with
  | some (v, k) => if checkV v = 0 then some (v, k) else none
  | none => none
theorem decV_none {b : List UInt8} (h : cand b = none) : decV b = none := by unfold decV; rw [h]
theorem decV_bad {b : List UInt8} {v : Vl} {k : Nat} (h : cand b = some (v, k)) (hc : checkV v ≠ 0) : decV b = none := by unfold decV; rw [h]; exact if_neg hc
theorem decV_ok {b : List UInt8} {v : Vl} {k : Nat} (h : cand b = some (v, k)) (hc : checkV v = 0) : decV b = some (v, k) := by unfold decV; rw [h]; exact if_pos hc
/-- What is read: a good value, plain, whose bytes stand there. -/
theorem decV_says {b : List UInt8} {v : Vl} {k : Nat} (h : decV b = some (v, k)) : checkV v = 0 ∧ plainV v = v ∧ (-9223372036854775808 ≤ v.2.1 ∧ v.2.1 ≤ 9223372036854775807) ∧ k = (encV v).length ∧ ∃ r, b = encV v ++ r := by
  unfold decV at h
  cases hc : cand b with
  | none => rw [hc] at h; cases h
  | some p =>
    rw [hc] at h
    obtain ⟨u, j⟩ := p
    replace h : (if checkV u = 0 then some (u, j) else none) = some (v, k) := h
    split at h
    · rename_i hu
      cases h
      refine ⟨hu, ?_⟩
      unfold cand at hc
      split at hc
      · cases hc
      · rename_i hl
        match b, hl with
        | [], hl => exact absurd (by decide) hl
        | [_], hl => exact absurd (by simp) hl
        | x :: y :: b, _ =>
          have hx : UInt8.ofNat x.toNat = x := by simp
          have hy : UInt8.ofNat y.toNat = y := by simp
          have hyl := y.toNat_lt
          simp only [List.getD_cons_zero, List.getD_cons_succ, List.length_cons] at hc
          split at hc
          · rename_i h3
            cases hc
            have ex : x = 3 := by rw [← hx, h3]; rfl
            refine ⟨rfl, ⟨by show _ ≤ ((y.toNat : Nat) : Int); omega, by show ((y.toNat : Nat) : Int) ≤ _; omega⟩, by unfold encV; rw [if_pos rfl]; rfl, b, ?_⟩
            unfold encV
            rw [if_pos rfl]
            show _ = [3, UInt8.ofNat ((y.toNat : Nat) : Int).toNat] ++ b
            rw [show ((y.toNat : Nat) : Int).toNat = y.toNat from rfl, hy, ex]; rfl
          · rename_i h3
            split at hc
            · rename_i h2
              split at hc
              · cases hc
              · rename_i hl2
                cases hc
                have ex : x = 2 := by rw [← hx, h2]; rfl
                have et : (List.take y.toNat (List.drop 2 (x :: y :: b))) = b.take y.toNat := rfl
                have elen : (b.take y.toNat).length = y.toNat := by rw [List.length_take]; omega
                refine ⟨rfl, ⟨by show _ ≤ (0 : Int); omega, by show (0 : Int) ≤ _; omega⟩, ?_, b.drop y.toNat, ?_⟩
                · unfold encV
                  rw [if_neg (show ¬ (2 : Int) = 3 by decide), if_pos rfl]
                  show _ = (b.take y.toNat).length + 1 + 1
                  rw [elen]; omega
                · unfold encV
                  rw [if_neg (show ¬ (2 : Int) = 3 by decide), if_pos rfl]
                  show _ = 2 :: UInt8.ofNat (b.take y.toNat).length :: (b.take y.toNat ++ b.drop y.toNat)
                  rw [elen, hy, ex, List.take_append_drop]
            · rename_i h2
              cases hr : rd 0 (List.drop 1 (x :: y :: b)) with
              | none => rw [hr] at hc; cases hc
              | some p =>
                rw [hr] at hc
                cases hc
                obtain ⟨a1, r, a2, a3⟩ := rd_is (n := p.1) (c := p.2) hr
                have hk : ((x.toNat : Nat) : Int) = 1 := by
                  rcases check_ok hu with h | ⟨h, _⟩ | ⟨h, _⟩
                  · exact h
                  · have h : ((x.toNat : Nat) : Int) = 3 := h
                    omega
                  · have h : ((x.toNat : Nat) : Int) = 2 := h
                    omega
                have ex : x = 1 := by rw [← hx, show x.toNat = 1 from by omega]; rfl
                have hz := unzig_bd a1
                have ee : encV (((x.toNat : Nat) : Int), unzig p.1, []) = 1 :: varint p.1 := by
                  unfold encV
                  rw [if_neg (show ¬ ((x.toNat : Nat) : Int) = 3 by omega), if_neg (show ¬ ((x.toNat : Nat) : Int) = 2 by omega)]
                  show 1 :: varint (zig (unzig p.1)) = _
                  rw [zig_unzig]
                refine ⟨?_, hz, ?_, r, ?_⟩
                · unfold plainV; rw [if_neg (show ¬ ((x.toNat : Nat) : Int) = 2 by omega)]
                · rw [ee, List.length_cons, a3]
                · rw [ee, List.cons_append, ← a2, ex]; rfl
    · cases h
/-- What is written is read, whatever stands behind. -/
theorem decV_enc {v : Vl} (h : checkV v = 0) (h0 : -9223372036854775808 ≤ v.2.1) (h1 : v.2.1 ≤ 9223372036854775807) (r : List UInt8) : decV (encV v ++ r) = some (plainV v, (encV v).length) := by
  unfold encV plainV
  rcases check_ok h with h2 | ⟨h2, h3⟩ | ⟨h2, h3, h4⟩
  · rw [if_neg (show ¬ v.1 = 3 by omega), if_neg (show ¬ v.1 = 2 by omega), if_neg (show ¬ v.1 = 2 by omega), h2]
    have hz := rd_back (zig_lt h0 h1) r
    refine decV_ok (v := (1, v.2.1, [])) ?_ rfl
    unfold cand
    have hl := (varint_ten (zig_lt h0 h1)).1
    rw [if_neg (by rw [List.cons_append, List.length_cons, List.length_append]; omega), show (1 :: varint (zig v.2.1) ++ r).getD 0 0 = 1 from rfl, if_neg (show ¬ (1 : UInt8).toNat = 3 by decide), if_neg (show ¬ (1 : UInt8).toNat = 2 by decide), show List.drop 1 (1 :: varint (zig v.2.1) ++ r) = varint (zig v.2.1) ++ r from rfl, hz]
    show some ((((1 : UInt8).toNat : Int), unzig (zig v.2.1), []), (varint (zig v.2.1)).length + 1) = _
    rw [unzig_zig]
    rfl
  · rw [if_pos h2, if_neg (show ¬ v.1 = 2 by omega), h2]
    rcases h3 with h3 | h3
    · rw [h3]; exact decV_ok (v := (3, 0, [])) (k := 2) rfl rfl
    · rw [h3]; exact decV_ok (v := (3, 1, [])) (k := 2) rfl rfl
  · rw [if_neg (show ¬ v.1 = 3 by omega), if_pos h2, if_pos h2]
    have e := ofNat_lt (n := v.2.2.length) (by omega)
    refine decV_ok (v := (2, 0, v.2.2)) ?_ ?_
    · unfold cand
      simp only [List.cons_append, List.getD_cons_zero, List.getD_cons_succ, e, List.length_cons, List.length_append]
      rw [if_neg (by omega), if_neg (by decide), if_pos (by decide), if_neg (by omega)]
      rw [show List.drop 2 (2 :: UInt8.ofNat v.2.2.length :: (v.2.2 ++ r)) = v.2.2 ++ r from rfl, List.take_left, Nat.add_comm]
    · unfold checkV
      rw [if_neg (show ¬ (2 : Int) = 1 by decide), if_neg (show ¬ (2 : Int) = 3 by decide), if_pos rfl, if_neg (show ¬ 64 < v.2.2.length by omega), if_pos h4]
/-- Two readings that both say what decV says are one. -/
theorem decV_iff {b : List UInt8} {v : Vl} {r : List UInt8} (h : checkV v = 0) (hp : plainV v = v) (h0 : -9223372036854775808 ≤ v.2.1) (h1 : v.2.1 ≤ 9223372036854775807) (hb : b = encV v ++ r) : decV b = some (v, (encV v).length) := by
  rw [hb, decV_enc h h0 h1, hp]
def decR (b : List UInt8) : Vl × Int × Int := match decV b with
  | some (v, k) => (v, (k : Int), 0)
  | none => ((0, 0, []), 0, 6)
theorem decR_some {b : List UInt8} {v : Vl} {k : Nat} (h : decV b = some (v, k)) : decR b = (v, (k : Int), 0) := by unfold decR; rw [h]
theorem decR_none {b : List UInt8} (h : decV b = none) : decR b = ((0, 0, []), 0, 6) := by unfold decR; rw [h]
theorem numR_zero {l : List UInt8} (h : (numR l).2 = 0) : rd 0 l = none := by
  cases e : rd 0 l with
  | none => rfl
  | some p =>
    exfalso
    obtain ⟨n, k⟩ := p
    rw [numR_some e] at h
    obtain ⟨h1, r, _, h3⟩ := rd_is e
    have := (varint_ten h1).1
    have h : (k : Int) = 0 := h
    omega
theorem numR_pos {l : List UInt8} (h : (numR l).2 ≠ 0) : ∃ n k : Nat, rd 0 l = some (n, k) ∧ numR l = (unzig n, (k : Int)) ∧ k ≤ 10 := by
  cases e : rd 0 l with
  | none => exact absurd (by rw [numR_none e]) h
  | some p =>
    obtain ⟨n, k⟩ := p
    obtain ⟨h1, r, _, h3⟩ := rd_is e
    have := (varint_ten h1).2
    exact ⟨n, k, rfl, numR_some e, by omega⟩
abbrev b0 (b : List UInt8) : Nat := (b.getD 0 0).toNat
abbrev b1 (b : List UInt8) : Nat := (b.getD 1 0).toNat
theorem at_b {b : List UInt8} {i : Nat} (h : i < b.length) : at' (nums b) (i : Int) = ((b.getD i 0).toNat : Int) := by
  rw [at'_nat (by simpa using h)]
  simp [nums, List.getD_eq_getElem?_getD, h]
theorem b_lt (b : List UInt8) (i : Nat) : (b.getD i 0).toNat < 256 := (b.getD i 0).toNat_lt
theorem cand_short {b : List UInt8} (h : b.length < 2) : cand b = none := by unfold cand; rw [if_pos h]
theorem cand_3 {b : List UInt8} (h : ¬ b.length < 2) (h3 : b0 b = 3) : cand b = some ((3, (b1 b : Int), []), 2) := by unfold cand; rw [if_neg h, if_pos h3]
theorem cand_2n {b : List UInt8} (h : ¬ b.length < 2) (h3 : b0 b = 2) (hl : b.length < 2 + b1 b) : cand b = none := by unfold cand; rw [if_neg h, if_neg (show ¬ b0 b = 3 by omega), if_pos h3, if_pos hl]
theorem cand_2 {b : List UInt8} (h : ¬ b.length < 2) (h3 : b0 b = 2) (hl : ¬ b.length < 2 + b1 b) : cand b = some ((2, 0, (b.drop 2).take (b1 b)), 2 + b1 b) := by unfold cand; rw [if_neg h, if_neg (show ¬ b0 b = 3 by omega), if_pos h3, if_neg hl]
theorem cand_n {b : List UInt8} (h : ¬ b.length < 2) (h3 : b0 b ≠ 3) (h2 : b0 b ≠ 2) : cand b = (rd 0 (b.drop 1)).map fun p => (((b0 b : Int), unzig p.1, []), p.2 + 1) := by unfold cand; rw [if_neg h, if_neg h3, if_neg h2]
theorem cut2 (b : List UInt8) (k : Nat) : unnum (List.drop (Int.toNat 2) (List.take (Int.toNat (2 + (k : Int))) (nums b))) = (b.drop 2).take k := by
  rw [show Int.toNat (2 + (k : Int)) = 2 + k from by omega, show Int.toNat 2 = 2 from rfl, show List.drop 2 (List.take (2 + k) (nums b)) = nums (List.drop 2 (List.take (2 + k) b)) from by simp [nums, List.map_take, List.map_drop], unnum_nums, List.drop_take, show 2 + k - 2 = k from by omega]
theorem wrap_k {k : Nat} (h : k ≤ 10) : IntKind.i64.wrap ((k : Int) + 1) = ((k + 1 : Nat) : Int) := by
  simp [IntKind.wrap, IntKind.bits, IntKind.signed]; omega
end Go.Vl
/- Values of properties, plain: a value read from bytes as the document reads it. -/
namespace Go.Vl
open Go Go.Gw
set_option linter.unusedVariables false
set_option linter.unusedSimpArgs false
abbrev M64 : Nat := 18446744073709551616
def nx (n p x : Nat) : Nat := (n + x % 128 * p % M64) % M64
def rn : Nat → Nat → Nat → List UInt8 → Int
  | _, _, _, [] => 0
  | i, n, p, x :: l => if 10 < i then 0 else if x.toNat < 128 then unzig (nx n p x.toNat) else rn (i + 1) (nx n p x.toNat) (p * 128 % M64) l
theorem rn_far {i n p : Nat} {l : List UInt8} (h : 10 < i) : rn i n p l = 0 := by
  cases l with
  | nil => rfl
  | cons x l => rw [rn, if_pos h]
theorem rn_last {i n p : Nat} {x : UInt8} {l : List UInt8} (h : ¬ 10 < i) (h1 : x.toNat < 128) : rn i n p (x :: l) = unzig (nx n p x.toNat) := by rw [rn, if_neg h, if_pos h1]
theorem rn_more {i n p : Nat} {x : UInt8} {l : List UInt8} (h : ¬ 10 < i) (h1 : ¬ x.toNat < 128) : rn i n p (x :: l) = rn (i + 1) (nx n p x.toNat) (p * 128 % M64) l := by rw [rn, if_neg h, if_neg h1]
theorem nx_lt (n p x : Nat) : nx n p x < M64 := Nat.mod_lt _ (by decide)
theorem rn_bd (l : List UInt8) : ∀ i n p : Nat, -9223372036854775808 ≤ rn i n p l ∧ rn i n p l ≤ 9223372036854775807 := by
  induction l with
  | nil => intro i n p; exact ⟨by show _ ≤ (0 : Int); omega, by show (0 : Int) ≤ _; omega⟩
  | cons x l ih =>
    intro i n p
    rw [rn]
    split
    · omega
    · split
      · exact unzig_bd (nx_lt _ _ _)
      · exact ih _ _ _
theorem rn_varint (r : List UInt8) (m : Nat) : ∀ j n : Nat, j ≤ 9 → n + 2 ^ (7 * j) * m < M64 → rn (j + 1) n (2 ^ (7 * j)) (varint m ++ r) = unzig (n + 2 ^ (7 * j) * m) := by
  induction m using Nat.strongRecOn with
  | ind m ih =>
    intro j n hj hn
    have hm : M64 = 18446744073709551616 := rfl
    rw [hm] at hn
    by_cases h : m < 128
    · have e := ofNat_lt (n := m) (by omega)
      rw [varint_small h, List.singleton_append, rn_last (by omega) (by rw [e]; exact h), e]
      congr 1
      unfold nx
      rw [Nat.mod_eq_of_lt h, Nat.mul_comm m, hm, Nat.mod_eq_of_lt (a := 2 ^ (7 * j) * m) (by omega), Nat.mod_eq_of_lt hn]
    · have e := ofNat_lt (n := m % 128 + 128) (by omega)
      have hp : 2 ^ (7 * (j + 1)) = 2 ^ (7 * j) * 128 := by rw [Nat.mul_add 7 j 1, Nat.pow_add]
      have h1 : 2 ^ (7 * j) * 128 ≤ 2 ^ (7 * j) * m := Nat.mul_le_mul_left _ (by omega)
      have hj8 : j ≤ 8 := by
        rcases Nat.lt_or_ge j 9 with h9 | h9
        · omega
        · exfalso
          have : 2 ^ (7 * 9) ≤ 2 ^ (7 * j) := Nat.pow_le_pow_right (by omega) (by omega)
          have e9 : (2 : Nat) ^ (7 * 9) = 9223372036854775808 := by decide
          omega
      have hd : 2 ^ (7 * j) * m = 2 ^ (7 * j) * (m % 128) + 2 ^ (7 * j) * 128 * (m / 128) := by
        rw [Nat.mul_assoc, ← Nat.mul_add, Nat.add_comm (m % 128), Nat.div_add_mod]
      have enx : nx n (2 ^ (7 * j)) (m % 128 + 128) = n + 2 ^ (7 * j) * (m % 128) := by
        unfold nx
        rw [show (m % 128 + 128) % 128 = m % 128 from by omega, Nat.mul_comm (m % 128), hm, Nat.mod_eq_of_lt (a := 2 ^ (7 * j) * (m % 128)) (by omega), Nat.mod_eq_of_lt (by omega)]
      rw [varint_big h, List.cons_append, rn_more (by omega) (by rw [e]; omega), e, enx, Nat.mod_eq_of_lt (a := 2 ^ (7 * j) * 128) (by omega), ← hp, ih (m / 128) (by omega) (j + 1) _ (by omega) (by rw [hp, hm]; omega)]
      congr 1
      rw [hp]; omega
/-- The document's candidate. -/
def refC (b : List UInt8) : Vl := if b0 b = 1 then (1, rn 1 0 1 (b.drop 1), []) else if b0 b = 2 then (2, 0, (b.drop 2).take (b1 b)) else if b0 b = 3 then (3, (b1 b : Int), []) else ((b0 b : Int), 0, [])
theorem refC_1 {b : List UInt8} {x : Int} (h : b0 b = 1) (hx : rn 1 0 1 (b.drop 1) = x) : refC b = ((b0 b : Int), x, []) := by unfold refC; rw [if_pos h, hx, h]; rfl
theorem refC_2 {b : List UInt8} (h : b0 b = 2) : refC b = ((b0 b : Int), 0, (b.drop 2).take (b1 b)) := by unfold refC; rw [if_neg (by omega), if_pos h, h]; rfl
theorem refC_3 {b : List UInt8} (h : b0 b = 3) : refC b = ((b0 b : Int), (b1 b : Int), []) := by unfold refC; rw [if_neg (by omega), if_neg (by omega), if_pos h, h]; rfl
theorem refC_0 {b : List UInt8} (h1 : b0 b ≠ 1) (h2 : b0 b ≠ 2) (h3 : b0 b ≠ 3) : refC b = ((b0 b : Int), 0, []) := by unfold refC; rw [if_neg h1, if_neg h2, if_neg h3]
theorem refC_plain (b : List UInt8) : plainV (refC b) = refC b := by
  unfold refC plainV
  split
  · rfl
  · split
    · rfl
    · split
      · rfl
      · rw [if_neg (show ¬ ((b0 b : Nat) : Int) = 2 by omega)]
theorem refC_bd (b : List UInt8) : -9223372036854775808 ≤ (refC b).2.1 ∧ (refC b).2.1 ≤ 9223372036854775807 := by
  have hb := b_lt b 1
  unfold refC
  split
  · exact rn_bd _ _ _ _
  · split
    · exact ⟨by show _ ≤ (0 : Int); omega, by show (0 : Int) ≤ _; omega⟩
    · split
      · exact ⟨by show _ ≤ ((b1 b : Nat) : Int); omega, by show ((b1 b : Nat) : Int) ≤ _; unfold b1; omega⟩
      · exact ⟨by show _ ≤ (0 : Int); omega, by show (0 : Int) ≤ _; omega⟩
theorem refC_enc {v : Vl} (h : checkV v = 0) (h0 : -9223372036854775808 ≤ v.2.1) (h1 : v.2.1 ≤ 9223372036854775807) (r : List UInt8) : refC (encV v ++ r) = plainV v := by
  unfold encV plainV
  rcases check_ok h with h2 | ⟨h2, h3⟩ | ⟨h2, h3, h4⟩
  · rw [if_neg (show ¬ v.1 = 3 by omega), if_neg (show ¬ v.1 = 2 by omega), if_neg (show ¬ v.1 = 2 by omega), h2]
    unfold refC
    have hb0 : b0 (1 :: varint (zig v.2.1) ++ r) = 1 := rfl
    rw [if_pos hb0]
    have e := rn_varint r (zig v.2.1) 0 0 (by omega) (by have := zig_lt h0 h1; simpa using this)
    have e2 : rn 1 0 1 (varint (zig v.2.1) ++ r) = unzig (zig v.2.1) := by simpa using e
    rw [show List.drop 1 (1 :: varint (zig v.2.1) ++ r) = varint (zig v.2.1) ++ r from rfl, e2, unzig_zig]
  · rw [if_pos h2, if_neg (show ¬ v.1 = 2 by omega), h2]
    rcases h3 with h3 | h3
    · rw [h3]; rfl
    · rw [h3]; rfl
  · rw [if_neg (show ¬ v.1 = 3 by omega), if_pos h2, if_pos h2]
    have e := ofNat_lt (n := v.2.2.length) (by omega)
    unfold refC
    have hb0 : b0 (2 :: UInt8.ofNat v.2.2.length :: v.2.2 ++ r) = 2 := rfl
    have hb1 : b1 (2 :: UInt8.ofNat v.2.2.length :: v.2.2 ++ r) = v.2.2.length := e
    rw [if_neg (by rw [hb0]; decide), if_pos hb0, hb1, show List.drop 2 (2 :: UInt8.ofNat v.2.2.length :: v.2.2 ++ r) = v.2.2 ++ r from rfl, List.take_left]
/-- What the program reads is the document's candidate. -/
theorem decV_ref {b : List UInt8} {v : Vl} {k : Nat} (h : decV b = some (v, k)) : checkV (refC b) = 0 ∧ ∃ r, b = encV (refC b) ++ r := by
  obtain ⟨a1, a2, ⟨a3, a4⟩, a5, r, a6⟩ := decV_says h
  have e : refC b = v := by rw [a6, refC_enc a1 a3 a4, a2]
  rw [e]
  exact ⟨a1, r, a6⟩
theorem decR_bad {b : List UInt8} (h : checkV (refC b) ≠ 0) : decR b = ((0, 0, []), 0, 6) := by
  refine decR_none ?_
  cases hd : decV b with
  | none => rfl
  | some p => exact absurd (decV_ref (v := p.1) (k := p.2) hd).1 h
theorem decR_off {b : List UInt8} (h : ¬ ∃ r, b = encV (refC b) ++ r) : decR b = ((0, 0, []), 0, 6) := by
  refine decR_none ?_
  cases hd : decV b with
  | none => rfl
  | some p => exact absurd (decV_ref (v := p.1) (k := p.2) hd).2 h
theorem decR_good {b r : List UInt8} (h : checkV (refC b) = 0) (hb : b = encV (refC b) ++ r) : decR b = (refC b, ((encV (refC b)).length : Int), 0) := decR_some (decV_iff h (refC_plain b) (refC_bd b).1 (refC_bd b).2 hb)
/-- The document's loop. -/
def RnAt (b : List UInt8) (i n p : Nat) : Prop := 1 ≤ i ∧ i ≤ 11 ∧ i ≤ b.length ∧ n < M64 ∧ p < M64 ∧ rn 1 0 1 (b.drop 1) = rn i n p (b.drop i)
theorem rnAt_0 {b : List UInt8} (h : ¬ b.length < 2) : RnAt b 1 0 1 := ⟨by omega, by omega, by omega, by decide, by decide, rfl⟩
theorem rnAt_end {b : List UInt8} {i n p : Nat} (h : RnAt b i n p) (hi : ¬ (i < b.length ∧ i ≤ 10)) : rn 1 0 1 (b.drop 1) = 0 := by
  obtain ⟨_, _, h3, _, _, h⟩ := h
  rw [h]
  by_cases h1 : i < b.length
  · exact rn_far (by omega)
  · rw [List.drop_of_length_le (by omega)]; rfl
theorem rnAt_last {b : List UInt8} {i n p : Nat} (h : RnAt b i n p) (hi : i < b.length ∧ i ≤ 10) (hx : b[i].toNat < 128) : rn 1 0 1 (b.drop 1) = unzig (nx n p b[i].toNat) := by
  obtain ⟨_, _, _, _, _, h⟩ := h
  rw [h, List.drop_eq_getElem_cons hi.1, rn_last (by omega) hx]
theorem rnAt_next {b : List UInt8} {i n p : Nat} (h : RnAt b i n p) (hi : i < b.length ∧ i ≤ 10) (hx : ¬ b[i].toNat < 128) : RnAt b (i + 1) (nx n p b[i].toNat) (p * 128 % M64) := by
  obtain ⟨_, _, _, _, _, h⟩ := h
  refine ⟨by omega, by omega, by omega, nx_lt _ _ _, Nat.mod_lt _ (by decide), ?_⟩
  rw [h, List.drop_eq_getElem_cons hi.1, rn_more (by omega) hx]
theorem wrapM {x : Int} (h : 0 ≤ x) : IntKind.u64.wrap x = ((x.toNat % M64 : Nat) : Int) := by
  simp [IntKind.wrap, IntKind.bits, IntKind.signed]; omega
theorem nx_is (n p x : Nat) : IntKind.u64.wrap ((n : Int) + IntKind.u64.wrap (((x % 128 : Nat) : Int) * (p : Int))) = ((nx n p x : Nat) : Int) := by
  rw [show ((x % 128 : Nat) : Int) * (p : Int) = ((x % 128 * p : Nat) : Int) from by push_cast; rfl]
  have e1 : IntKind.u64.wrap ((x % 128 * p : Nat) : Int) = ((x % 128 * p % M64 : Nat) : Int) := by rw [wrapM (by omega)]; rfl
  rw [e1, wrapM (by omega)]
  congr 1
theorem px_is (p : Nat) : IntKind.u64.wrap ((p : Int) * 128) = ((p * 128 % M64 : Nat) : Int) := by
  rw [wrapM (by omega)]
  congr 2
theorem half_v {n : Nat} (h : n < M64) : IntKind.i64.wrap (IntKind.u64.wrap ((n : Int).tdiv 2)) = ((n / 2 : Nat) : Int) := by
  have hm : M64 = 18446744073709551616 := rfl
  rw [Int.tdiv_eq_ediv_of_nonneg (by omega), wrap64 (by omega) (by omega)]
  simp [IntKind.wrap, IntKind.bits, IntKind.signed]; omega
theorem take_pre {b l : List UInt8} (h : b.take l.length = l) : ∃ r, b = l ++ r := ⟨b.drop l.length, by conv => lhs; rw [← List.take_append_drop l.length b, h]⟩
theorem pre_take {b l r : List UInt8} (h : b = l ++ r) : l.length ≤ b.length ∧ b.take l.length = l := by
  rw [h]
  exact ⟨by simp, by simp⟩
theorem unnum_take (b l : List UInt8) : unnum (List.take (Int.toNat ((nums l).length : Int)) (nums b)) = b.take l.length := by
  rw [show Int.toNat ((nums l).length : Int) = l.length from by simp [nums], show List.take l.length (nums b) = nums (b.take l.length) from by simp [nums, List.map_take], unnum_nums]
theorem encV_len (v : Vl) : 1 ≤ (encV v).length := by
  unfold encV
  split
  · simp
  · split <;> simp
theorem decR_two (b : List UInt8) : (∃ (v : Vl) (k : Int), decR b = (v, k, 0) ∧ 0 < k) ∨ decR b = ((0, 0, []), 0, 6) := by
  cases h : decV b with
  | none => exact .inr (decR_none h)
  | some p =>
    obtain ⟨_, _, _, h5, _⟩ := decV_says (v := p.1) (k := p.2) h
    have := encV_len p.1
    exact .inl ⟨p.1, p.2, decR_some h, by omega⟩
theorem nums_of {xs : List Int} (h : ∀ x ∈ xs, 0 ≤ x ∧ x < 256) : ∃ b : List UInt8, xs = nums b := by
  induction xs with
  | nil => exact ⟨[], rfl⟩
  | cons x xs ih =>
    obtain ⟨b, hb⟩ := ih fun y hy => h y (List.mem_cons_of_mem _ hy)
    have hx := h x List.mem_cons_self
    refine ⟨UInt8.ofNat x.toNat :: b, ?_⟩
    rw [hb]
    show _ = ((UInt8.ofNat x.toNat).toNat : Int) :: nums b
    rw [ofNat_lt (by omega), show ((x.toNat : Nat) : Int) = x from by omega]
end Go.Vl
/- Walks through the Go functions val.Cut, rhizomeref02.Cut, rhizomelaw02.ValCuts, as typed contracts. -/
namespace Go.Proofs.YtdlendioamiagaaDoor
open Go Go.Gw Go.Vl
set_option linter.unusedVariables false
set_option linter.unusedSimpArgs false

end Go.Proofs.YtdlendioamiagaaDoor
/- Walks through the Go functions cmp.Or[int], val.Same, val.Cmp, rhizomeref02.Cmp, rhizomelaw02.ValOrders, as typed contracts. -/
namespace Go.Proofs.YtdlendioamiagaaDoor
open Go Go.Gw Go.Vl
set_option linter.unusedVariables false
set_option linter.unusedSimpArgs false
end Go.Proofs.YtdlendioamiagaaDoor
/- Walks through the Go functions rhizomelaw02.hex, rhizomelaw02.ValDressed, as typed contracts. -/
namespace Go.Proofs.YtdlendioamiagaaDoor
open Go Go.Gw Go.Vl
set_option linter.unusedVariables false
set_option linter.unusedSimpArgs false
end Go.Proofs.YtdlendioamiagaaDoor
/- Walks through the Go functions val.number, val.Decode, as typed contracts. -/
namespace Go.Proofs.YtdlendioamiagaaDoor
open Go Go.Gw Go.Vl
set_option linter.unusedVariables false
set_option linter.unusedSimpArgs false
set_option maxRecDepth 20000 in
/-- rhizome/val.number -/
theorem number_fn (b : List UInt8) (hl : b.length ≤ 1000000) : Ct Tryd.prog 51 [SlT (kint .u8) (nums b)] ([]) Unit (fun _ => TupT [I64 (numR b).1, I64 (numR b).2]) (fun _ => []) (fun _ => True) := by
  refine fn_intro Tryd.func51 rfl rfl ?_
  intro H w
  refine tr_seq ?_
  -- region 0
  refine tr_env (es_cons (t := 0) (OT.tmp rfl) es_nil) ?_
  refine tr_region ?_
  refine op_pure (pu_assign OT.const) rfl rfl ?_
  refine op_pure (pu_assign OT.const) rfl rfl ?_
  refine tr_nil ?_
  refine then_normal ?_
  refine tr_seq ?_
  -- region 1
  refine tr_env (es_cons (t := 0) (OT.tmp rfl) es_nil) ?_
  refine tr_region ?_
  refine op_pure (pu_assign OT.const) rfl rfl ?_
  refine tr_nil ?_
  refine then_normal ?_
  refine tr_seq ?_
  refine tr_seq ?_
  -- region 2
  refine tr_env (es_cons (t := 0) (OT.tmp rfl) (es_cons (t := 4) (OT.tmp rfl) es_nil)) ?_
  refine tr_region ?_
  refine op_pure (pu_move (OT.tmp rfl)) rfl rfl ?_
  refine op_pure (pu_len_sl (OT.tmp rfl) Tryd.underlying26) rfl rfl ?_
  refine op_pure (pu_move OT.const) rfl rfl ?_
  refine tr_nil ?_
  refine then_normal ?_
  refine tr_block ?_
  refine tr_loopK (σ := Nat × Nat) (es_cons (t := 7) (OT.tmp rfl) (es_cons (t := 8) (OT.tmp rfl) es_nil)) (fun s => [(9, I64 (s.1 : Int)), (4, IntT .u64 (s.2 : Int))]) (fun s => []) (fun s => RdAt b s.1 s.2) (fun s => b.length - s.1) (0, 0) (rdAt_0 b) ?_ (own_picks (by exact picks_nil)) ?_
  · exact (es_cons (t := 9) (OT.tmp rfl) (es_cons (t := 4) (OT.tmp rfl) es_nil))
  · rintro ⟨i, n⟩ hR
    dsimp only at hR ⊢
    refine tr_seq ?_
    -- region 3
    refine tr_env (es_cons (t := 4) (OT.tmp rfl) (es_cons (t := 7) (OT.tmp rfl) (es_cons (t := 8) (OT.tmp rfl) (es_cons (t := 9) (OT.tmp rfl) es_nil)))) ?_
    refine tr_region ?_
    refine op_pure (pu_lss (OT.tmp rfl) (OT.tmp rfl)) rfl rfl ?_
    refine tr_nil ?_
    refine then_normal ?_
    refine tr_seq ?_
    refine tr_cond (OT.tmp rfl) (fun c10 => ?_) (fun c10 => ?_)
    · skip
      refine tr_skip ?_
      refine then_normal ?_
      refine tr_seq ?_
      refine tr_block ?_
      refine tr_seq ?_
      -- region 4
      refine tr_env (es_cons (t := 4) (OT.tmp rfl) (es_cons (t := 7) (OT.tmp rfl) (es_cons (t := 8) (OT.tmp rfl) (es_cons (t := 9) (OT.tmp rfl) es_nil)))) ?_
      have hi2 : i < b.length := by simp at c10; omega
      have hat : at' (nums b) (i : Int) = (b[i].toNat : Int) := by rw [at'_nat (by simpa using hi2)]; simp [nums]
      have hbl := b[i].toNat_lt
      have hi9 := hR.2.1
      refine tr_region ?_
      refine op_pure (pu_move (OT.tmp rfl)) rfl rfl ?_
      refine op_pure (pu_index (OT.tmp rfl) (OT.tmp rfl) Tryd.underlying26 (show tyOk Tryd.prog 5 false 1 = true from by decide +kernel) (by omega) (by (simp; omega))) rfl rfl ?_
      refine op_pure (pu_load (OT.tmp rfl) (show tyOk Tryd.prog 5 false 1 = true from by decide +kernel)) rfl rfl ?_
      refine op_pure (pu_assign (OT.tmp rfl)) rfl rfl ?_
      refine op_pure (pu_assign (OT.tmp rfl)) rfl rfl ?_
      refine tr_nil ?_
      refine then_normal ?_
      refine tr_seq ?_
      refine tr_seq ?_
      -- region 5
      refine tr_env (es_cons (t := 4) (OT.tmp rfl) (es_cons (t := 5) (OT.tmp rfl) (es_cons (t := 6) (OT.tmp rfl) (es_cons (t := 7) (OT.tmp rfl) (es_cons (t := 8) (OT.tmp rfl) (es_cons (t := 9) (OT.tmp rfl) es_nil)))))) ?_
      rw [hat]
      refine tr_region ?_
      refine op_pure (pu_move (OT.tmp rfl)) rfl rfl ?_
      refine op_pure (pu_eql (OT.tmp rfl) OT.const) rfl rfl ?_
      refine op_pure (pu_move (OT.tmp rfl)) rfl rfl ?_
      refine op_gu rfl rfl rfl (OT.gu_mk (OT.tmp rfl)) (fun hg => by (have hg1 := hg.2; (try simp only [decide_eq_true_eq, decide_eq_false_iff_not] at hg1); exact pu_move (by exact OT.tmp rfl))) rfl ?_
      refine op_gu rfl rfl rfl (OT.gu_mk (OT.tmp rfl)) (fun hg => by (have hg1 := hg.2; (try simp only [decide_eq_true_eq, decide_eq_false_iff_not] at hg1); exact pu_gtr (by exact OT.gu (OT.tmp rfl) hg) OT.const)) rfl ?_
      refine op_pure (pu_pick_and (OT.tmp rfl) (by exact OT.tmp rfl)) rfl rfl ?_
      refine op_pure (pu_move (OT.tmp rfl)) rfl rfl ?_
      refine op_gu rfl rfl rfl (OT.gu_mk (OT.tmp rfl)) (fun hg => by (have hg1 := hg.2; (try simp only [decide_eq_true_eq, decide_eq_false_iff_not] at hg1); exact pu_move (by exact OT.tmp rfl))) rfl ?_
      refine op_gu rfl rfl rfl (OT.gu_mk (OT.tmp rfl)) (fun hg => by (have hg1 := hg.2; (try simp only [decide_eq_true_eq, decide_eq_false_iff_not] at hg1); exact pu_gtr (by exact OT.gu (OT.tmp rfl) hg) OT.const)) rfl ?_
      refine op_gu rfl rfl rfl (OT.gu_mk (OT.tmp rfl)) (fun hg => by (have hg1 := hg.2; (try simp only [decide_eq_true_eq, decide_eq_false_iff_not] at hg1); exact pu_move (by exact OT.gu (OT.tmp rfl) hg))) rfl ?_
      refine op_gu rfl rfl rfl (OT.tmp rfl) (fun hg => by (have hg1 := hg.2; (try simp only [decide_eq_true_eq, decide_eq_false_iff_not] at hg1); exact pu_move (by exact OT.tmp rfl))) rfl ?_
      refine op_gu rfl rfl rfl (OT.tmp rfl) (fun hg => by (have hg1 := hg.2; (try simp only [decide_eq_true_eq, decide_eq_false_iff_not] at hg1); exact pu_eql (by exact OT.gu (OT.tmp rfl) hg) OT.const)) rfl ?_
      refine op_gu rfl rfl rfl (OT.gu_mk (OT.tmp rfl)) (fun hg => by (have hg1 := hg.2; (try simp only [decide_eq_true_eq, decide_eq_false_iff_not] at hg1); exact pu_pick_and_p hg (by exact OT.gu (OT.tmp rfl) hg) (OT.tmp rfl))) rfl ?_
      refine op_pure (pu_pick_or (OT.tmp rfl) (by exact OT.tmp rfl)) rfl rfl ?_
      refine tr_nil ?_
      refine then_normal ?_
      refine tr_cond (OT.tmp rfl) (fun c27 => ?_) (fun c27 => ?_)
      · skip
        have hbad : (i = 9 ∧ 1 < b[i].toNat) ∨ (0 < i ∧ b[i].toNat = 0) := by simp at c27; omega
        have hr := numR_none (rdAt_bad hR hi2 hbad)
        refine tr_seq ?_
        -- region 6
        refine tr_env es_nil ?_
        refine tr_region ?_
        refine op_pure (pu_assign OT.const) rfl rfl ?_
        refine op_pure (pu_assign OT.const) rfl rfl ?_
        refine tr_nil ?_
        refine then_normal ?_
        refine tr_ret ?_
        refine then_ret ?_
        refine block_ret ?_
        refine then_ret ?_
        refine then_ret ?_
        refine block_ret ?_
        refine then_ret ?_
        exact ret_two .ret (.inl rfl) rfl () (OT.val (OT.tmp rfl) (congrArg (Value.int _) (by rw [hr]))) (OT.val (OT.tmp rfl) (congrArg (Value.int _) (by rw [hr]))) (fun _ _ h => h) trivial (by exact picks_nil)
      · skip
        have hgood : ¬ ((i = 9 ∧ 1 < b[i].toNat) ∨ (0 < i ∧ b[i].toNat = 0)) := by simp at c27; omega
        obtain ⟨ho1, ho2, ho3⟩ := or_put (n := n) (i := i) (x := b[i].toNat % 128) hi9 (by omega) hR.2.2.1 (by omega)
        refine tr_skip ?_
        refine then_normal ?_
        refine tr_seq ?_
        -- region 7
        refine tr_env (es_cons (t := 4) (OT.tmp rfl) (es_cons (t := 5) (OT.tmp rfl) (es_cons (t := 6) (OT.tmp rfl) (es_cons (t := 7) (OT.tmp rfl) (es_cons (t := 8) (OT.tmp rfl) (es_cons (t := 9) (OT.tmp rfl) es_nil)))))) ?_
        refine tr_region ?_
        refine op_pure (pu_move (OT.tmp rfl)) rfl rfl ?_
        refine op_pure (pu_move (OT.tmp rfl)) rfl rfl ?_
        refine op_pure (pu_bits (OT.tmp rfl) OT.const (by simp)) rfl rfl ?_
        refine tr_as 30 (T := IntT .u8 ((b[i].toNat % 128 : Nat) : Int)) (OT.val (OT.tmp rfl) (congrArg (Value.int _) (and127 hbl))) ?_
        refine op_pure (pu_convert' (OT.tmp rfl) Tryd.underlying5 Tryd.underlying64 (by omega) (by omega) rfl) rfl rfl ?_
        refine op_pure (pu_move (OT.tmp rfl)) rfl rfl ?_
        refine op_pure (pu_mul' OT.const (OT.tmp rfl) (by omega)) rfl rfl ?_
        refine op_pure (pu_shl (OT.tmp rfl) (OT.tmp rfl) (by omega)) rfl rfl ?_
        refine op_pure (pu_bits (OT.tmp rfl) (OT.tmp rfl) (by simp)) rfl rfl ?_
        refine tr_as 35 (T := IntT .u64 ((n + 2 ^ (7 * i) * (b[i].toNat % 128) : Nat) : Int)) (OT.val (OT.tmp rfl) (congrArg (Value.int _) ho1)) ?_
        refine op_pure (pu_assign (OT.tmp rfl)) rfl rfl ?_
        refine tr_nil ?_
        refine then_normal ?_
        refine tr_seq ?_
        -- region 8
        refine tr_env (es_cons (t := 4) (OT.tmp rfl) (es_cons (t := 5) (OT.tmp rfl) (es_cons (t := 6) (OT.tmp rfl) (es_cons (t := 7) (OT.tmp rfl) (es_cons (t := 8) (OT.tmp rfl) (es_cons (t := 9) (OT.tmp rfl) es_nil)))))) ?_
        refine tr_region ?_
        refine op_pure (pu_move (OT.tmp rfl)) rfl rfl ?_
        refine op_pure (pu_lss (OT.tmp rfl) OT.const) rfl rfl ?_
        refine tr_nil ?_
        refine then_normal ?_
        refine tr_cond (OT.tmp rfl) (fun c37 => ?_) (fun c37 => ?_)
        · skip
          have hlt : b[i].toNat < 128 := by simp at c37; omega
          have hr := numR_some (rdAt_last hR hi2 hgood hlt)
          refine tr_seq ?_
          -- region 9
          refine tr_env (es_cons (t := 4) (OT.tmp rfl) (es_cons (t := 5) (OT.tmp rfl) es_nil)) ?_
          refine tr_region ?_
          refine op_pure (pu_move (OT.tmp rfl)) rfl rfl ?_
          refine op_pure (pu_shr (OT.tmp rfl) OT.const (by omega)) rfl rfl ?_
          refine op_pure (pu_convert (OT.tmp rfl) Tryd.underlying64 Tryd.underlying3) rfl rfl ?_
          refine op_pure (pu_move (OT.tmp rfl)) rfl rfl ?_
          refine op_pure (pu_bits (OT.tmp rfl) OT.const (by simp)) rfl rfl ?_
          refine op_pure (pu_convert (OT.tmp rfl) Tryd.underlying64 Tryd.underlying3) rfl rfl ?_
          refine tr_as 40 (T := I64 (((n + 2 ^ (7 * i) * (b[i].toNat % 128)) / 2 : Nat) : Int)) (OT.val (OT.tmp rfl) (congrArg (Value.int _) (half_i ho2))) (tr_as 43 (T := I64 (((n + 2 ^ (7 * i) * (b[i].toNat % 128)) % 2 : Nat) : Int)) (OT.val (OT.tmp rfl) (congrArg (Value.int _) (low_i ho2))) ?_)
          refine op_pure (pu_neg (OT.tmp rfl) (by omega)) rfl rfl ?_
          refine op_pure (pu_bits (OT.tmp rfl) (OT.tmp rfl) (by simp)) rfl rfl ?_
          refine op_pure (pu_move (OT.tmp rfl)) rfl rfl ?_
          refine op_pure (pu_add' (OT.tmp rfl) OT.const (by omega)) rfl rfl ?_
          refine op_pure (pu_assign (OT.tmp rfl)) rfl rfl ?_
          refine op_pure (pu_assign (OT.tmp rfl)) rfl rfl ?_
          refine tr_nil ?_
          refine then_normal ?_
          refine tr_ret ?_
          refine block_ret ?_
          refine then_ret ?_
          refine then_ret ?_
          refine block_ret ?_
          refine then_ret ?_
          exact ret_two .ret (.inl rfl) rfl () (OT.val (OT.tmp rfl) (congrArg (Value.int _) (by rw [hr]; exact last_xor ho2))) (OT.val (OT.tmp rfl) (congrArg (Value.int _) (by rw [hr]; show (i : Int) + 1 = ((1 + i : Nat) : Int); omega))) (fun _ _ h => h) trivial (by exact picks_nil)
        · skip
          have hlt : ¬ b[i].toNat < 128 := by simp at c37; omega
          refine tr_skip ?_
          refine block_normal ?_
          refine then_normal ?_
          -- region 10
          refine tr_env (es_cons (t := 4) (OT.tmp rfl) (es_cons (t := 7) (OT.tmp rfl) (es_cons (t := 8) (OT.tmp rfl) (es_cons (t := 9) (OT.tmp rfl) es_nil)))) ?_
          refine tr_region ?_
          refine op_pure (pu_add' (OT.tmp rfl) OT.const (by omega)) rfl rfl ?_
          refine op_pure (pu_move (OT.tmp rfl)) rfl rfl ?_
          refine tr_nil ?_
          refine then_normal ?_
          exact tr_again (i + 1, n + 2 ^ (7 * i) * (b[i].toNat % 128)) (rdAt_next hR hi2 hgood hlt ho3) (by show b.length - (i + 1) < b.length - i; omega) (es_append (es_cons (t := 9) (by exact OT.tmp rfl) (es_cons (t := 4) (by exact OT.tmp rfl) es_nil)) (es_cons (t := 7) (OT.tmp rfl) (es_cons (t := 8) (OT.tmp rfl) es_nil))) (own_picks (by exact picks_nil))
    · skip
      refine tr_exit ?_
      refine then_exit ?_
      refine then_exit ?_
      refine block_hit ?_
      refine then_normal ?_
      refine tr_seq ?_
      -- region 11
      refine tr_env es_nil ?_
      obtain rfl : i = b.length := by have := hR.1; simp at c10; omega
      have hr := numR_none (rdAt_end hR)
      refine tr_region ?_
      refine op_pure (pu_assign OT.const) rfl rfl ?_
      refine op_pure (pu_assign OT.const) rfl rfl ?_
      refine tr_nil ?_
      refine then_normal ?_
      refine tr_ret ?_
      exact ret_two .ret (.inl rfl) rfl () (OT.val (OT.tmp rfl) (congrArg (Value.int _) (by rw [hr]))) (OT.val (OT.tmp rfl) (congrArg (Value.int _) (by rw [hr]))) (fun _ _ h => h) trivial (by exact picks_nil)
set_option maxRecDepth 20000 in
/-- rhizome/val.Decode -/
theorem Decode_fn {K0 : FH} {n0 : Nat} (b : List UInt8) (hV : VarsV K0) (hl : b.length ≤ 1000000) : CtM K0 n0 Tryd.prog 24 [SlT (kint .u8) (nums b)] ([]) Unit (fun _ => TupT [kVl.T (decR b).1, I64 (decR b).2.1, I64 (decR b).2.2]) (fun _ => []) (fun _ => True) := by
  refine fn_introM Tryd.func24 rfl rfl ?_
  intro H w hK hn
  refine tr_seq ?_
  -- region 0
  refine tr_env (es_cons (t := 0) (OT.tmp rfl) es_nil) ?_
  refine tr_region ?_
  refine op_acts (acts_alloc (zVl)) (List.Perm.refl _) rfl rfl (fun g0_0 _ => ?_)
  refine op_pure (pu_assign OT.const) rfl rfl ?_
  refine op_pure (pu_assign OT.const) rfl rfl ?_
  refine tr_nil ?_
  refine then_normal ?_
  refine tr_seq ?_
  refine tr_seq ?_
  -- region 1
  refine tr_env (es_cons (t := 0) (OT.tmp rfl) (es_cons (t := 2) (OT.tmp rfl) es_nil)) ?_
  refine tr_region ?_
  refine op_pure (pu_move (OT.tmp rfl)) rfl rfl ?_
  refine op_pure (pu_len_sl (OT.tmp rfl) Tryd.underlying26) rfl rfl ?_
  refine op_pure (pu_lss (OT.tmp rfl) OT.const) rfl rfl ?_
  refine tr_nil ?_
  refine then_normal ?_
  refine tr_cond (OT.tmp rfl) (fun c11 => ?_) (fun c11 => ?_)
  · skip
    have hs : b.length < 2 := by simp at c11; omega
    have hr := decR_none (decV_none (cand_short hs))
    refine tr_seq ?_
    -- region 2
    refine tr_env (es_cons (t := 2) (OT.tmp rfl) es_nil) ?_
    refine tr_region ?_
    refine op_pure (pu_build (d := kVl) (v0 := (0, 0, [])) (ps := [(0, 1), (1, 1), (2, 1)]) zVl (by kernel_rfl) rfl fills_nil) rfl rfl ?_
    refine op_acts (acts_store_var (OT.tmp rfl) (OT.tmp rfl) (by exact perm_at 0 rfl) (show tyOk Tryd.prog 23 true 3 = true from by decide +kernel)) (by exact perm_at 0 rfl) rfl rfl (fun _ _ => ?_)
    refine op_pure (pu_assign OT.const) rfl rfl ?_
    refine op_pure (pu_assign OT.const) rfl rfl ?_
    refine tr_nil ?_
    refine then_normal ?_
    refine tr_ret ?_
    refine then_ret ?_
    exact ret_cell_tmp2 .ret (.inl rfl) rfl () (OT.tmp rfl) (by exact mem_at 0 rfl) (show tyOk Tryd.prog 23 true 3 = true from by decide +kernel) (OT.val (OT.tmp rfl) (congrArg (Value.int _) (congrArg (fun p => p.2.1) hr).symm)) (OT.val (OT.tmp rfl) (congrArg (Value.int _) (congrArg (fun p => p.2.2) hr).symm)) (fun _ _ h => (by rw [hr] at h ⊢; exact h)) trivial (by exact picks_nil)
  · skip
    have hs : ¬ b.length < 2 := by simp at c11; omega
    have h0 : at' (nums b) 0 = ((b0 b : Nat) : Int) := at_b (i := 0) (by omega)
    have h1 : at' (nums b) 1 = ((b1 b : Nat) : Int) := at_b (i := 1) (by omega)
    have hb0 : b0 b < 256 := b_lt b 0
    have hb1 : b1 b < 256 := b_lt b 1
    refine tr_skip ?_
    refine then_normal ?_
    refine tr_seq ?_
    -- region 3
    refine tr_env (es_cons (t := 0) (OT.tmp rfl) (es_cons (t := 2) (OT.tmp rfl) es_nil)) ?_
    refine tr_region ?_
    refine op_pure (pu_move (OT.tmp rfl)) rfl rfl ?_
    refine op_pure (pu_index (OT.tmp rfl) OT.const Tryd.underlying26 (show tyOk Tryd.prog 5 false 1 = true from by decide +kernel) (by omega) (by (simp; omega))) rfl rfl ?_
    refine op_pure (pu_load (OT.tmp rfl) (show tyOk Tryd.prog 5 false 1 = true from by decide +kernel)) rfl rfl ?_
    refine op_pure (pu_convert' (OT.tmp rfl) Tryd.underlying5 Tryd.underlying3 (by omega) (by omega) rfl) rfl rfl ?_
    refine op_pure (pu_build (d := kVl) (v0 := (0, 0, [])) (ps := [(0, 1), (1, 1), (2, 1)]) zVl (by kernel_rfl) rfl (fills_cons rfl lv0 (OT.tmp rfl) fills_nil)) rfl rfl ?_
    refine op_acts (acts_alloc (zVl)) (List.Perm.refl _) rfl rfl (fun g3_5 _ => ?_)
    refine op_acts (acts_store_var (OT.tmp rfl) (OT.tmp rfl) (by exact perm_at 0 rfl) (show tyOk Tryd.prog 23 true 3 = true from by decide +kernel)) (by exact perm_at 0 rfl) rfl rfl (fun _ _ => ?_)
    refine tr_nil ?_
    refine then_normal ?_
    refine tr_seq ?_
    -- region 4
    refine tr_env (es_cons (t := 0) (OT.tmp rfl) (es_cons (t := 2) (OT.tmp rfl) (es_cons (t := 5) (OT.tmp rfl) es_nil))) ?_
    rw [h0]
    refine tr_region ?_
    refine op_pure (pu_assign OT.const) rfl rfl ?_
    refine tr_nil ?_
    refine then_normal ?_
    refine tr_joinK (σ := Vl × Nat) (es_cons (t := 2) (OT.tmp rfl) (es_cons (t := 5) (OT.tmp rfl) es_nil)) (fun s => [(6, I64 (s.2 : Int))]) (fun s => [BlkI g3_5 23 kVl s.1, BlkI g0_0 23 kVl (0, 0, [])]) (fun s => cand b = some (s.1, s.2) ∧ s.1.2.2.length ≤ 255) ?_ ?_
    · skip
      refine tr_seq ?_
      -- region 5
      refine tr_env (es_cons (t := 0) (OT.tmp rfl) (es_cons (t := 2) (OT.tmp rfl) (es_cons (t := 5) (OT.tmp rfl) (es_cons (t := 6) (OT.tmp rfl) es_nil)))) ?_
      refine tr_region ?_
      refine op_pure (pu_faddr (OT.tmp rfl) (show fieldOk Tryd.prog 23 0 0 false 1 = true from by decide +kernel)) rfl rfl ?_
      refine op_pure (pu_load_blk (OT.tmp rfl) (by exact mem_at 0 rfl) lv0 (show tyOk Tryd.prog 3 false 1 = true from by decide +kernel)) rfl rfl ?_
      refine tr_nil ?_
      refine then_normal ?_
      refine tr_block ?_
      refine tr_seq ?_
      -- region 10
      refine tr_env (es_cons (t := 0) (OT.tmp rfl) (es_cons (t := 2) (OT.tmp rfl) (es_cons (t := 5) (OT.tmp rfl) (es_cons (t := 6) (OT.tmp rfl) (es_cons (t := 19) (OT.tmp rfl) es_nil))))) ?_
      refine tr_region ?_
      refine op_pure (pu_eql (OT.tmp rfl) OT.const) rfl rfl ?_
      refine op_pure (pu_assign (OT.tmp rfl)) rfl rfl ?_
      refine tr_nil ?_
      refine then_normal ?_
      refine tr_cond (OT.tmp rfl) (fun c33 => ?_) (fun c33 => ?_)
      · skip
        have h3 : b0 b = 3 := by have h9 := of_decide_eq_true c33; omega
        -- region 11
        refine tr_env (es_cons (t := 0) (OT.tmp rfl) (es_cons (t := 2) (OT.tmp rfl) (es_cons (t := 5) (OT.tmp rfl) (es_cons (t := 6) (OT.tmp rfl) es_nil)))) ?_
        refine tr_region ?_
        refine op_pure (pu_move (OT.tmp rfl)) rfl rfl ?_
        refine op_pure (pu_index (OT.tmp rfl) OT.const Tryd.underlying26 (show tyOk Tryd.prog 5 false 1 = true from by decide +kernel) (by omega) (by (simp; omega))) rfl rfl ?_
        refine op_pure (pu_load (OT.tmp rfl) (show tyOk Tryd.prog 5 false 1 = true from by decide +kernel)) rfl rfl ?_
        refine op_pure (pu_convert' (OT.tmp rfl) Tryd.underlying5 Tryd.underlying3 (by omega) (by omega) rfl) rfl rfl ?_
        refine op_pure (pu_faddr (OT.tmp rfl) (show fieldOk Tryd.prog 23 1 1 false 1 = true from by decide +kernel)) rfl rfl ?_
        refine op_acts (acts_store_blk (OT.tmp rfl) (OT.tmp rfl) (by exact perm_at 0 rfl) lv1 (show tyOk Tryd.prog 3 false 1 = true from by decide +kernel)) (by exact perm_at 0 rfl) rfl rfl (fun _ _ => ?_)
        refine tr_nil ?_
        refine block_normal ?_
        refine then_normal ?_
        rw [h1]
        exact tr_joined (((b0 b : Int), (b1 b : Int), []), 2) ⟨by rw [cand_3 hs h3, h3]; rfl, by show (0 : Nat) ≤ 255; omega⟩ (es_append (es_cons (t := 6) (by exact OT.tmp rfl) es_nil) (es_cons (t := 2) (OT.tmp rfl) (es_cons (t := 5) (OT.tmp rfl) es_nil))) (own_picks (by repeat (first | exact picks_nil | refine picks_cons 0 rfl ?_ | refine picks_cons 1 rfl ?_ | refine picks_cons 2 rfl ?_ | refine picks_cons 3 rfl ?_ | refine picks_cons 4 rfl ?_ | refine picks_cons 5 rfl ?_ | refine picks_cons 6 rfl ?_)))
      · skip
        have h3 : b0 b ≠ 3 := by have h9 := of_decide_eq_false c33; omega
        refine tr_seq ?_
        -- region 12
        refine tr_env (es_cons (t := 0) (OT.tmp rfl) (es_cons (t := 2) (OT.tmp rfl) (es_cons (t := 5) (OT.tmp rfl) (es_cons (t := 6) (OT.tmp rfl) (es_cons (t := 19) (OT.tmp rfl) es_nil))))) ?_
        refine tr_region ?_
        refine op_pure (pu_eql (OT.tmp rfl) OT.const) rfl rfl ?_
        refine op_pure (pu_assign (OT.tmp rfl)) rfl rfl ?_
        refine tr_nil ?_
        refine then_normal ?_
        refine tr_cond (OT.tmp rfl) (fun c40 => ?_) (fun c40 => ?_)
        · skip
          have h2 : b0 b = 2 := by have h9 := of_decide_eq_true c40; omega
          refine tr_seq ?_
          -- region 13
          refine tr_env (es_cons (t := 0) (OT.tmp rfl) (es_cons (t := 2) (OT.tmp rfl) (es_cons (t := 5) (OT.tmp rfl) (es_cons (t := 6) (OT.tmp rfl) es_nil)))) ?_
          refine tr_region ?_
          refine op_pure (pu_move (OT.tmp rfl)) rfl rfl ?_
          refine op_pure (pu_move (OT.tmp rfl)) rfl rfl ?_
          refine op_pure (pu_index (OT.tmp rfl) OT.const Tryd.underlying26 (show tyOk Tryd.prog 5 false 1 = true from by decide +kernel) (by omega) (by (simp; omega))) rfl rfl ?_
          refine op_pure (pu_load (OT.tmp rfl) (show tyOk Tryd.prog 5 false 1 = true from by decide +kernel)) rfl rfl ?_
          refine op_pure (pu_convert' (OT.tmp rfl) Tryd.underlying5 Tryd.underlying3 (by omega) (by omega) rfl) rfl rfl ?_
          refine op_pure (pu_add' (OT.tmp rfl) (OT.tmp rfl) (by omega)) rfl rfl ?_
          refine op_pure (pu_assign (OT.tmp rfl)) rfl rfl ?_
          refine tr_nil ?_
          refine then_normal ?_
          refine tr_seq ?_
          refine tr_seq ?_
          -- region 14
          refine tr_env (es_cons (t := 0) (OT.tmp rfl) (es_cons (t := 2) (OT.tmp rfl) (es_cons (t := 5) (OT.tmp rfl) (es_cons (t := 6) (OT.tmp rfl) es_nil)))) ?_
          rw [h1]
          refine tr_region ?_
          refine op_pure (pu_move (OT.tmp rfl)) rfl rfl ?_
          refine op_pure (pu_move (OT.tmp rfl)) rfl rfl ?_
          refine op_pure (pu_len_sl (OT.tmp rfl) Tryd.underlying26) rfl rfl ?_
          refine op_pure (pu_gtr (OT.tmp rfl) (OT.tmp rfl)) rfl rfl ?_
          refine tr_nil ?_
          refine then_normal ?_
          refine tr_cond (OT.tmp rfl) (fun c51 => ?_) (fun c51 => ?_)
          · skip
            have hr := decR_none (decV_none (cand_2n hs h2 (by simp at c51; omega)))
            refine tr_seq ?_
            -- region 15
            refine tr_env (es_cons (t := 2) (OT.tmp rfl) es_nil) ?_
            refine tr_region ?_
            refine op_pure (pu_build (d := kVl) (v0 := (0, 0, [])) (ps := [(0, 1), (1, 1), (2, 1)]) zVl (by kernel_rfl) rfl fills_nil) rfl rfl ?_
            refine op_acts (acts_store_var (OT.tmp rfl) (OT.tmp rfl) (by exact perm_at 1 rfl) (show tyOk Tryd.prog 23 true 3 = true from by decide +kernel)) (by exact perm_at 1 rfl) rfl rfl (fun _ _ => ?_)
            refine op_pure (pu_assign OT.const) rfl rfl ?_
            refine op_pure (pu_assign OT.const) rfl rfl ?_
            refine tr_nil ?_
            refine then_normal ?_
            refine tr_ret ?_
            refine then_ret ?_
            refine block_ret ?_
            refine then_ret ?_
            exact ret_cell_tmp2 .ret (.inl rfl) rfl () (OT.tmp rfl) (by exact mem_at 0 rfl) (show tyOk Tryd.prog 23 true 3 = true from by decide +kernel) (OT.val (OT.tmp rfl) (congrArg (Value.int _) (congrArg (fun p => p.2.1) hr).symm)) (OT.val (OT.tmp rfl) (congrArg (Value.int _) (congrArg (fun p => p.2.2) hr).symm)) (fun _ _ h => (by rw [hr] at h ⊢; exact h)) trivial (by exact picks_nil)
          · skip
            have h2l : ¬ b.length < 2 + b1 b := by simp at c51; omega
            refine tr_skip ?_
            refine then_normal ?_
            -- region 16
            refine tr_env (es_cons (t := 0) (OT.tmp rfl) (es_cons (t := 2) (OT.tmp rfl) (es_cons (t := 5) (OT.tmp rfl) (es_cons (t := 6) (OT.tmp rfl) es_nil)))) ?_
            refine tr_region ?_
            refine op_pure (pu_move (OT.tmp rfl)) rfl rfl ?_
            refine op_pure (pu_move (OT.tmp rfl)) rfl rfl ?_
            refine op_pure (pu_slice (OT.tmp rfl) OT.const (OT.tmp rfl) Tryd.underlying26 (show tyOk Tryd.prog 5 false 1 = true from by decide +kernel) (by omega) (by omega) (by (simp; omega))) rfl rfl ?_
            refine op_pure (pu_bytes_bs (OT.tmp rfl) Tryd.underlying26 Tryd.underlying5 Tryd.underlying9) rfl rfl ?_
            refine tr_as 56 (T := BsT ((b.drop 2).take (b1 b))) (OT.val (OT.tmp rfl) (congrArg Value.string (congrArg bs (cut2 b (b1 b))))) ?_
            refine op_pure (pu_faddr (OT.tmp rfl) (show fieldOk Tryd.prog 23 2 2 false 1 = true from by decide +kernel)) rfl rfl ?_
            refine op_acts (acts_store_blk (OT.tmp rfl) (OT.tmp rfl) (by exact perm_at 0 rfl) lv2 (show tyOk Tryd.prog 9 false 1 = true from by decide +kernel)) (by exact perm_at 0 rfl) rfl rfl (fun _ _ => ?_)
            refine tr_nil ?_
            refine block_normal ?_
            refine then_normal ?_
            exact tr_joined (((b0 b : Int), 0, (b.drop 2).take (b1 b)), 2 + b1 b) ⟨by rw [cand_2 hs h2 h2l, h2]; rfl, by show (List.take _ _).length ≤ 255; rw [List.length_take]; omega⟩ (es_append (es_cons (t := 6) (by exact OT.tmp rfl) es_nil) (es_cons (t := 2) (OT.tmp rfl) (es_cons (t := 5) (OT.tmp rfl) es_nil))) (own_picks (by repeat (first | exact picks_nil | refine picks_cons 0 rfl ?_ | refine picks_cons 1 rfl ?_ | refine picks_cons 2 rfl ?_ | refine picks_cons 3 rfl ?_ | refine picks_cons 4 rfl ?_ | refine picks_cons 5 rfl ?_ | refine picks_cons 6 rfl ?_)))
        · skip
          have h2 : b0 b ≠ 2 := by have h9 := of_decide_eq_false c40; omega
          refine tr_seq ?_
          -- region 6
          refine tr_env (es_cons (t := 0) (OT.tmp rfl) (es_cons (t := 2) (OT.tmp rfl) (es_cons (t := 5) (OT.tmp rfl) es_nil))) ?_
          refine tr_region ?_
          refine op_pure (pu_move (OT.tmp rfl)) rfl rfl ?_
          refine op_pure (pu_slice_lo (OT.tmp rfl) OT.const Tryd.underlying26 (show tyOk Tryd.prog 5 false 1 = true from by decide +kernel) (by omega) (by (simp; omega))) rfl rfl ?_
          refine tr_as 22 (T := SlT (kint .u8) (nums (b.drop 1))) (OT.eq (OT.tmp rfl) (congrArg (SlT (kint .u8)) (by simp [nums, List.map_drop]))) ?_
          refine op_acts (acts_call (number_fn (b.drop 1) (by simp; omega)) (show enters Tryd.prog 51 = true from by decide +kernel) (OTs.cons (OT.tmp rfl) OTs.nil) (List.Perm.refl _)) (List.Perm.refl _) rfl rfl (fun _ _ => ?_)
          refine op_pure (pu_move (OT.tmp rfl)) rfl rfl ?_
          refine op_pure (pu_extract (OT.tmp rfl) rfl) rfl rfl ?_
          refine op_pure (pu_extract (OT.tmp rfl) rfl) rfl rfl ?_
          refine op_pure (pu_assign (OT.tmp rfl)) rfl rfl ?_
          refine op_pure (pu_assign (OT.tmp rfl)) rfl rfl ?_
          refine tr_nil ?_
          refine then_normal ?_
          refine tr_seq ?_
          -- region 7
          refine tr_env (es_cons (t := 2) (OT.tmp rfl) (es_cons (t := 5) (OT.tmp rfl) (es_cons (t := 7) (OT.tmp rfl) (es_cons (t := 8) (OT.tmp rfl) es_nil)))) ?_
          refine tr_region ?_
          refine op_pure (pu_move (OT.tmp rfl)) rfl rfl ?_
          refine op_pure (pu_move (OT.tmp rfl)) rfl rfl ?_
          refine op_pure (pu_add (OT.tmp rfl) OT.const) rfl rfl ?_
          refine op_pure (pu_faddr (OT.tmp rfl) (show fieldOk Tryd.prog 23 1 1 false 1 = true from by decide +kernel)) rfl rfl ?_
          refine op_acts (acts_store_blk (OT.tmp rfl) (OT.tmp rfl) (by exact perm_at 0 rfl) lv1 (show tyOk Tryd.prog 3 false 1 = true from by decide +kernel)) (by exact perm_at 0 rfl) rfl rfl (fun _ _ => ?_)
          refine op_pure (pu_assign (OT.tmp rfl)) rfl rfl ?_
          refine tr_nil ?_
          refine then_normal ?_
          refine tr_seq ?_
          -- region 8
          refine tr_env (es_cons (t := 2) (OT.tmp rfl) (es_cons (t := 5) (OT.tmp rfl) (es_cons (t := 6) (OT.tmp rfl) (es_cons (t := 8) (OT.tmp rfl) es_nil)))) ?_
          refine tr_region ?_
          refine op_pure (pu_move (OT.tmp rfl)) rfl rfl ?_
          refine op_pure (pu_eql (OT.tmp rfl) OT.const) rfl rfl ?_
          refine tr_nil ?_
          refine then_normal ?_
          refine tr_cond (OT.tmp rfl) (fun c31 => ?_) (fun c31 => ?_)
          · skip
            have hr := decR_none (decV_none (by rw [cand_n hs h3 h2, numR_zero (by simpa using c31)]; rfl))
            refine tr_seq ?_
            -- region 9
            refine tr_env (es_cons (t := 2) (OT.tmp rfl) es_nil) ?_
            refine tr_region ?_
            refine op_pure (pu_build (d := kVl) (v0 := (0, 0, [])) (ps := [(0, 1), (1, 1), (2, 1)]) zVl (by kernel_rfl) rfl fills_nil) rfl rfl ?_
            refine op_acts (acts_store_var (OT.tmp rfl) (OT.tmp rfl) (by exact perm_at 1 rfl) (show tyOk Tryd.prog 23 true 3 = true from by decide +kernel)) (by exact perm_at 1 rfl) rfl rfl (fun _ _ => ?_)
            refine op_pure (pu_assign OT.const) rfl rfl ?_
            refine op_pure (pu_assign OT.const) rfl rfl ?_
            refine tr_nil ?_
            refine then_normal ?_
            refine tr_ret ?_
            refine block_ret ?_
            refine then_ret ?_
            exact ret_cell_tmp2 .ret (.inl rfl) rfl () (OT.tmp rfl) (by exact mem_at 0 rfl) (show tyOk Tryd.prog 23 true 3 = true from by decide +kernel) (OT.val (OT.tmp rfl) (congrArg (Value.int _) (congrArg (fun p => p.2.1) hr).symm)) (OT.val (OT.tmp rfl) (congrArg (Value.int _) (congrArg (fun p => p.2.2) hr).symm)) (fun _ _ h => (by rw [hr] at h ⊢; exact h)) trivial (by exact picks_nil)
          · skip
            obtain ⟨n, k, hn1, hn2, hk10⟩ := numR_pos (l := b.drop 1) (by simpa using c31)
            rw [hn2]
            refine tr_skip ?_
            refine block_normal ?_
            refine then_normal ?_
            exact tr_joined (((b0 b : Int), unzig n, []), k + 1) ⟨by rw [cand_n hs h3 h2, hn1]; rfl, by show (0 : Nat) ≤ 255; omega⟩ (es_append (es_cons (t := 6) (OT.val (OT.tmp rfl) (congrArg (Value.int _) (wrap_k hk10))) es_nil) (es_cons (t := 2) (OT.tmp rfl) (es_cons (t := 5) (OT.tmp rfl) es_nil))) (own_picks (by repeat (first | exact picks_nil | refine picks_cons 0 rfl ?_ | refine picks_cons 1 rfl ?_ | refine picks_cons 2 rfl ?_ | refine picks_cons 3 rfl ?_ | refine picks_cons 4 rfl ?_ | refine picks_cons 5 rfl ?_ | refine picks_cons 6 rfl ?_)))
    · rintro ⟨v, u⟩ hcd
      dsimp only at hcd ⊢
      refine tr_seq ?_
      refine tr_seq ?_
      -- region 17
      refine tr_env (es_cons (t := 2) (OT.tmp rfl) (es_cons (t := 5) (OT.tmp rfl) (es_cons (t := 6) (OT.tmp rfl) es_nil))) ?_
      refine tr_region ?_
      refine op_pure (pu_load_var (OT.tmp rfl) (by exact mem_at 0 rfl) (show tyOk Tryd.prog 23 true 3 = true from by decide +kernel)) rfl rfl ?_
      refine op_acts (acts_callM (Check_fn v hV (by omega)) (mk_in hK hn) (show enters Tryd.prog 15 = true from by decide +kernel) (OTs.cons (OT.tmp rfl) OTs.nil) (List.Perm.refl _)) (List.Perm.refl _) rfl rfl (fun _ _ => ?_)
      refine op_pure (pu_neq (OT.tmp rfl) OT.const) rfl rfl ?_
      refine tr_nil ?_
      refine then_normal ?_
      refine tr_cond (OT.tmp rfl) (fun c60 => ?_) (fun c60 => ?_)
      · skip
        have hr := decR_none (decV_bad hcd.1 (by simpa using c60))
        refine tr_seq ?_
        -- region 18
        refine tr_env (es_cons (t := 2) (OT.tmp rfl) es_nil) ?_
        refine tr_region ?_
        refine op_pure (pu_build (d := kVl) (v0 := (0, 0, [])) (ps := [(0, 1), (1, 1), (2, 1)]) zVl (by kernel_rfl) rfl fills_nil) rfl rfl ?_
        refine op_acts (acts_store_var (OT.tmp rfl) (OT.tmp rfl) (by exact perm_at 1 rfl) (show tyOk Tryd.prog 23 true 3 = true from by decide +kernel)) (by exact perm_at 1 rfl) rfl rfl (fun _ _ => ?_)
        refine op_pure (pu_assign OT.const) rfl rfl ?_
        refine op_pure (pu_assign OT.const) rfl rfl ?_
        refine tr_nil ?_
        refine then_normal ?_
        refine tr_ret ?_
        refine then_ret ?_
        exact ret_cell_tmp2 .ret (.inl rfl) rfl () (OT.tmp rfl) (by exact mem_at 0 rfl) (show tyOk Tryd.prog 23 true 3 = true from by decide +kernel) (OT.val (OT.tmp rfl) (congrArg (Value.int _) (congrArg (fun p => p.2.1) hr).symm)) (OT.val (OT.tmp rfl) (congrArg (Value.int _) (congrArg (fun p => p.2.2) hr).symm)) (fun _ _ h => (by rw [hr] at h ⊢; exact h)) trivial (by exact picks_nil)
      · skip
        have hr := decR_some (decV_ok hcd.1 (by simpa using c60))
        refine tr_skip ?_
        refine then_normal ?_
        refine tr_seq ?_
        -- region 19
        refine tr_env (es_cons (t := 2) (OT.tmp rfl) (es_cons (t := 5) (OT.tmp rfl) (es_cons (t := 6) (OT.tmp rfl) es_nil))) ?_
        refine tr_region ?_
        refine op_pure (pu_load_var (OT.tmp rfl) (by exact mem_at 0 rfl) (show tyOk Tryd.prog 23 true 3 = true from by decide +kernel)) rfl rfl ?_
        refine op_pure (pu_move (OT.tmp rfl)) rfl rfl ?_
        refine op_acts (acts_store_var (OT.tmp rfl) (OT.tmp rfl) (by exact perm_at 1 rfl) (show tyOk Tryd.prog 23 true 3 = true from by decide +kernel)) (by exact perm_at 1 rfl) rfl rfl (fun _ _ => ?_)
        refine op_pure (pu_assign (OT.tmp rfl)) rfl rfl ?_
        refine op_pure (pu_assign OT.const) rfl rfl ?_
        refine tr_nil ?_
        refine then_normal ?_
        refine tr_ret ?_
        exact ret_cell_tmp2 .ret (.inl rfl) rfl () (OT.tmp rfl) (by exact mem_at 0 rfl) (show tyOk Tryd.prog 23 true 3 = true from by decide +kernel) (OT.val (OT.tmp rfl) (congrArg (Value.int _) (congrArg (fun p => p.2.1) hr).symm)) (OT.val (OT.tmp rfl) (congrArg (Value.int _) (congrArg (fun p => p.2.2) hr).symm)) (fun _ _ h => (by rw [hr] at h ⊢; exact h)) trivial (by exact picks_nil)
end Go.Proofs.YtdlendioamiagaaDoor
/- Walks through the Go functions rhizomeref02.Decode, rhizomelaw02.ValReads, as typed contracts. -/
namespace Go.Proofs.YtdlendioamiagaaDoor
open Go Go.Gw Go.Vl
set_option linter.unusedVariables false
set_option linter.unusedSimpArgs false

set_option maxRecDepth 20000 in
/-- rhizome/rhizomeref02.Decode -/
theorem rDecode_fn (b : List UInt8) (hl : b.length ≤ 1000000) : Ct Tryd.prog 25 [SlT (kint .u8) (nums b)] ([]) Unit (fun _ => TupT [kVl.T (decR b).1, I64 (decR b).2.1]) (fun _ => []) (fun _ => True) := by
  refine fn_intro Tryd.func25 rfl rfl ?_
  intro H w
  refine tr_seq ?_
  -- region 0
  refine tr_env (es_cons (t := 0) (OT.tmp rfl) es_nil) ?_
  refine tr_region ?_
  refine op_acts (acts_alloc (zVl)) (List.Perm.refl _) rfl rfl (fun g0_0 _ => ?_)
  refine op_pure (pu_assign OT.const) rfl rfl ?_
  refine tr_nil ?_
  refine then_normal ?_
  refine tr_seq ?_
  refine tr_seq ?_
  -- region 1
  refine tr_env (es_cons (t := 0) (OT.tmp rfl) (es_cons (t := 2) (OT.tmp rfl) es_nil)) ?_
  refine tr_region ?_
  refine op_pure (pu_move (OT.tmp rfl)) rfl rfl ?_
  refine op_pure (pu_len_sl (OT.tmp rfl) Tryd.underlying26) rfl rfl ?_
  refine op_pure (pu_lss (OT.tmp rfl) OT.const) rfl rfl ?_
  refine tr_nil ?_
  refine then_normal ?_
  refine tr_cond (OT.tmp rfl) (fun c11 => ?_) (fun c11 => ?_)
  · skip
    have hs : b.length < 2 := by simp at c11; omega
    have hr := decR_none (decV_none (cand_short hs))
    refine tr_seq ?_
    -- region 2
    refine tr_env (es_cons (t := 2) (OT.tmp rfl) es_nil) ?_
    refine tr_region ?_
    refine op_pure (pu_build (d := kVl) (v0 := (0, 0, [])) (ps := [(0, 1), (1, 1), (2, 1)]) zVl (by kernel_rfl) rfl fills_nil) rfl rfl ?_
    refine op_acts (acts_store_var (OT.tmp rfl) (OT.tmp rfl) (by exact perm_at 0 rfl) (show tyOk Tryd.prog 23 true 3 = true from by decide +kernel)) (by exact perm_at 0 rfl) rfl rfl (fun _ _ => ?_)
    refine op_pure (pu_assign OT.const) rfl rfl ?_
    refine tr_nil ?_
    refine then_normal ?_
    refine tr_ret ?_
    refine then_ret ?_
    exact ret_cell_tmp .ret (.inl rfl) rfl () (OT.tmp rfl) (by exact mem_at 0 rfl) (show tyOk Tryd.prog 23 true 3 = true from by decide +kernel) (OT.val (OT.tmp rfl) (congrArg (Value.int _) (congrArg (fun p => p.2.1) hr).symm)) (fun _ _ h => (by rw [hr] at h ⊢; exact h)) trivial (by exact picks_nil)
  · skip
    have hs : ¬ b.length < 2 := by simp at c11; omega
    have h0 : at' (nums b) 0 = ((b0 b : Nat) : Int) := at_b (i := 0) (by omega)
    have h1 : at' (nums b) 1 = ((b1 b : Nat) : Int) := at_b (i := 1) (by omega)
    have hb0 : b0 b < 256 := b_lt b 0
    have hb1 : b1 b < 256 := b_lt b 1
    refine tr_skip ?_
    refine then_normal ?_
    refine tr_seq ?_
    -- region 3
    refine tr_env (es_cons (t := 0) (OT.tmp rfl) (es_cons (t := 2) (OT.tmp rfl) es_nil)) ?_
    refine tr_region ?_
    refine op_pure (pu_move (OT.tmp rfl)) rfl rfl ?_
    refine op_pure (pu_index (OT.tmp rfl) OT.const Tryd.underlying26 (show tyOk Tryd.prog 5 false 1 = true from by decide +kernel) (by omega) (by (simp; omega))) rfl rfl ?_
    refine op_pure (pu_load (OT.tmp rfl) (show tyOk Tryd.prog 5 false 1 = true from by decide +kernel)) rfl rfl ?_
    refine op_pure (pu_convert' (OT.tmp rfl) Tryd.underlying5 Tryd.underlying3 (by omega) (by omega) rfl) rfl rfl ?_
    refine op_pure (pu_build (d := kVl) (v0 := (0, 0, [])) (ps := [(0, 1), (1, 1), (2, 1)]) zVl (by kernel_rfl) rfl (fills_cons rfl lv0 (OT.tmp rfl) fills_nil)) rfl rfl ?_
    refine op_acts (acts_alloc (zVl)) (List.Perm.refl _) rfl rfl (fun g3_5 _ => ?_)
    refine op_acts (acts_store_var (OT.tmp rfl) (OT.tmp rfl) (by exact perm_at 0 rfl) (show tyOk Tryd.prog 23 true 3 = true from by decide +kernel)) (by exact perm_at 0 rfl) rfl rfl (fun _ _ => ?_)
    refine tr_nil ?_
    refine then_normal ?_
    refine tr_joinK (σ := Vl) (es_cons (t := 0) (OT.tmp rfl) (es_cons (t := 2) (OT.tmp rfl) (es_cons (t := 4) (OT.tmp rfl) es_nil))) (fun v => []) (fun v => [BlkI g3_5 23 kVl v, BlkI g0_0 23 kVl (0, 0, [])]) (fun v => refC b = v ∧ v.2.2.length ≤ 255) ?_ ?_
    · skip
      refine tr_seq ?_
      -- region 4
      refine tr_env (es_cons (t := 0) (OT.tmp rfl) (es_cons (t := 2) (OT.tmp rfl) (es_cons (t := 4) (OT.tmp rfl) es_nil))) ?_
      rw [h0]
      refine tr_region ?_
      refine op_pure (pu_faddr (OT.tmp rfl) (show fieldOk Tryd.prog 23 0 0 false 1 = true from by decide +kernel)) rfl rfl ?_
      refine op_pure (pu_load_blk (OT.tmp rfl) (by exact mem_at 0 rfl) lv0 (show tyOk Tryd.prog 3 false 1 = true from by decide +kernel)) rfl rfl ?_
      refine tr_nil ?_
      refine then_normal ?_
      refine tr_block ?_
      refine tr_seq ?_
      -- region 5
      refine tr_env (es_cons (t := 0) (OT.tmp rfl) (es_cons (t := 2) (OT.tmp rfl) (es_cons (t := 4) (OT.tmp rfl) (es_cons (t := 19) (OT.tmp rfl) es_nil)))) ?_
      refine tr_region ?_
      refine op_pure (pu_eql (OT.tmp rfl) OT.const) rfl rfl ?_
      refine op_pure (pu_assign (OT.tmp rfl)) rfl rfl ?_
      refine tr_nil ?_
      refine then_normal ?_
      refine tr_cond (OT.tmp rfl) (fun c20 => ?_) (fun c20 => ?_)
      · skip
        have k1 : b0 b = 1 := by have h9 := of_decide_eq_true c20; omega
        refine tr_seq ?_
        -- region 6
        refine tr_env (es_cons (t := 0) (OT.tmp rfl) (es_cons (t := 2) (OT.tmp rfl) (es_cons (t := 4) (OT.tmp rfl) es_nil))) ?_
        refine tr_region ?_
        refine op_pure (pu_assign OT.const) rfl rfl ?_
        refine op_pure (pu_assign OT.const) rfl rfl ?_
        refine tr_nil ?_
        refine then_normal ?_
        refine tr_seq ?_
        -- region 7
        refine tr_env (es_cons (t := 0) (OT.tmp rfl) (es_cons (t := 2) (OT.tmp rfl) (es_cons (t := 4) (OT.tmp rfl) (es_cons (t := 5) (OT.tmp rfl) (es_cons (t := 6) (OT.tmp rfl) es_nil))))) ?_
        refine tr_region ?_
        refine op_pure (pu_assign OT.const) rfl rfl ?_
        refine tr_nil ?_
        refine then_normal ?_
        refine tr_block ?_
        refine tr_loopK (σ := Nat × Nat × Nat) (es_cons (t := 0) (OT.tmp rfl) (es_cons (t := 2) (OT.tmp rfl) (es_cons (t := 4) (OT.tmp rfl) es_nil))) (fun s => [(7, I64 (s.1 : Int)), (5, IntT .u64 (s.2.1 : Int)), (6, IntT .u64 (s.2.2 : Int))]) (fun s => [BlkI g3_5 23 kVl ((b0 b : Int), 0, []), BlkI g0_0 23 kVl (0, 0, [])]) (fun s => RnAt b s.1 s.2.1 s.2.2) (fun s => b.length - s.1) (1, 0, 1) (rnAt_0 hs) ?_ (own_picks (by repeat (first | exact picks_nil | refine picks_cons 0 rfl ?_ | refine picks_cons 1 rfl ?_ | refine picks_cons 2 rfl ?_ | refine picks_cons 3 rfl ?_ | refine picks_cons 4 rfl ?_ | refine picks_cons 5 rfl ?_ | refine picks_cons 6 rfl ?_))) ?_
        · exact (es_cons (t := 7) (OT.tmp rfl) (es_cons (t := 5) (OT.tmp rfl) (es_cons (t := 6) (OT.tmp rfl) es_nil)))
        · rintro ⟨i, n, p⟩ hR
          dsimp only at hR ⊢
          refine tr_seq ?_
          refine tr_seq ?_
          -- region 8
          refine tr_env (es_cons (t := 0) (OT.tmp rfl) (es_cons (t := 2) (OT.tmp rfl) (es_cons (t := 4) (OT.tmp rfl) (es_cons (t := 5) (OT.tmp rfl) (es_cons (t := 6) (OT.tmp rfl) (es_cons (t := 7) (OT.tmp rfl) es_nil)))))) ?_
          refine tr_region ?_
          refine op_pure (pu_move (OT.tmp rfl)) rfl rfl ?_
          refine op_pure (pu_move (OT.tmp rfl)) rfl rfl ?_
          refine op_pure (pu_len_sl (OT.tmp rfl) Tryd.underlying26) rfl rfl ?_
          refine op_pure (pu_lss (OT.tmp rfl) (OT.tmp rfl)) rfl rfl ?_
          refine op_pure (pu_move (OT.tmp rfl)) rfl rfl ?_
          refine op_gu rfl rfl rfl (OT.gu_mk (OT.tmp rfl)) (fun hg => by (have hg1 := hg.2; (try simp only [decide_eq_true_eq, decide_eq_false_iff_not] at hg1); exact pu_move (by exact OT.tmp rfl))) rfl ?_
          refine op_gu rfl rfl rfl (OT.gu_mk (OT.tmp rfl)) (fun hg => by (have hg1 := hg.2; (try simp only [decide_eq_true_eq, decide_eq_false_iff_not] at hg1); exact pu_leq (by exact OT.gu (OT.tmp rfl) hg) OT.const)) rfl ?_
          refine op_pure (pu_pick_and (OT.tmp rfl) (by exact OT.tmp rfl)) rfl rfl ?_
          refine tr_nil ?_
          refine then_normal ?_
          refine tr_cond (OT.tmp rfl) (fun c29 => ?_) (fun c29 => ?_)
          · skip
            refine tr_skip ?_
            refine then_normal ?_
            refine tr_seq ?_
            refine tr_block ?_
            refine tr_seq ?_
            -- region 10
            refine tr_env (es_cons (t := 0) (OT.tmp rfl) (es_cons (t := 2) (OT.tmp rfl) (es_cons (t := 4) (OT.tmp rfl) (es_cons (t := 5) (OT.tmp rfl) (es_cons (t := 6) (OT.tmp rfl) (es_cons (t := 7) (OT.tmp rfl) es_nil)))))) ?_
            have hi2 : i < b.length ∧ i ≤ 10 := by simp at c29; omega
            have hat : at' (nums b) (i : Int) = (b[i].toNat : Int) := by rw [at'_nat (by simpa using hi2.1)]; simp [nums]
            have hbl := b[i].toNat_lt
            have hn64 : n < 18446744073709551616 := hR.2.2.2.1
            have hp64 : p < 18446744073709551616 := hR.2.2.2.2.1
            refine tr_region ?_
            refine op_pure (pu_move (OT.tmp rfl)) rfl rfl ?_
            refine op_pure (pu_move (OT.tmp rfl)) rfl rfl ?_
            refine op_pure (pu_move (OT.tmp rfl)) rfl rfl ?_
            refine op_pure (pu_index (OT.tmp rfl) (OT.tmp rfl) Tryd.underlying26 (show tyOk Tryd.prog 5 false 1 = true from by decide +kernel) (by omega) (by (simp; omega))) rfl rfl ?_
            refine op_pure (pu_load (OT.tmp rfl) (show tyOk Tryd.prog 5 false 1 = true from by decide +kernel)) rfl rfl ?_
            refine op_pure (pu_rem' (OT.tmp rfl) OT.const (by omega) (by omega)) rfl rfl ?_
            refine op_pure (pu_convert' (OT.tmp rfl) Tryd.underlying5 Tryd.underlying64 (by omega) (by omega) rfl) rfl rfl ?_
            refine op_pure (pu_move (OT.tmp rfl)) rfl rfl ?_
            refine op_pure (pu_mul (OT.tmp rfl) (OT.tmp rfl)) rfl rfl ?_
            refine op_pure (pu_add (OT.tmp rfl) (OT.tmp rfl)) rfl rfl ?_
            refine op_pure (pu_assign (OT.tmp rfl)) rfl rfl ?_
            refine tr_nil ?_
            refine then_normal ?_
            refine tr_seq ?_
            -- region 11
            refine tr_env (es_cons (t := 0) (OT.tmp rfl) (es_cons (t := 2) (OT.tmp rfl) (es_cons (t := 4) (OT.tmp rfl) (es_cons (t := 5) (OT.tmp rfl) (es_cons (t := 6) (OT.tmp rfl) (es_cons (t := 7) (OT.tmp rfl) es_nil)))))) ?_
            rw [hat]
            obtain ⟨m, hm⟩ : ∃ m, nx n p b[i].toNat = m := ⟨_, rfl⟩
            have hmM : m < 18446744073709551616 := by rw [← hm]; exact nx_lt _ _ _
            refine tr_as 5 (T := IntT .u64 (m : Int)) (OT.val (OT.tmp rfl) (congrArg (Value.int _) (by rw [← hm]; exact nx_is n p b[i].toNat))) ?_
            refine tr_region ?_
            refine op_pure (pu_move (OT.tmp rfl)) rfl rfl ?_
            refine op_pure (pu_mul (OT.tmp rfl) OT.const) rfl rfl ?_
            refine op_pure (pu_assign (OT.tmp rfl)) rfl rfl ?_
            refine tr_nil ?_
            refine then_normal ?_
            refine tr_seq ?_
            -- region 12
            refine tr_env (es_cons (t := 0) (OT.tmp rfl) (es_cons (t := 2) (OT.tmp rfl) (es_cons (t := 4) (OT.tmp rfl) (es_cons (t := 5) (OT.tmp rfl) (es_cons (t := 6) (OT.tmp rfl) (es_cons (t := 7) (OT.tmp rfl) es_nil)))))) ?_
            refine tr_region ?_
            refine op_pure (pu_move (OT.tmp rfl)) rfl rfl ?_
            refine op_pure (pu_move (OT.tmp rfl)) rfl rfl ?_
            refine op_pure (pu_index (OT.tmp rfl) (OT.tmp rfl) Tryd.underlying26 (show tyOk Tryd.prog 5 false 1 = true from by decide +kernel) (by omega) (by (simp; omega))) rfl rfl ?_
            refine op_pure (pu_load (OT.tmp rfl) (show tyOk Tryd.prog 5 false 1 = true from by decide +kernel)) rfl rfl ?_
            refine op_pure (pu_lss (OT.tmp rfl) OT.const) rfl rfl ?_
            refine tr_nil ?_
            refine then_normal ?_
            refine tr_cond (OT.tmp rfl) (fun c48 => ?_) (fun c48 => ?_)
            · skip
              have hlt : b[i].toNat < 128 := by rw [hat] at c48; simp at c48; omega
              have hrn := rnAt_last hR hi2 hlt
              rw [hm] at hrn
              refine tr_seq ?_
              -- region 13
              refine tr_env (es_cons (t := 0) (OT.tmp rfl) (es_cons (t := 2) (OT.tmp rfl) (es_cons (t := 4) (OT.tmp rfl) (es_cons (t := 5) (OT.tmp rfl) es_nil)))) ?_
              refine tr_region ?_
              refine op_pure (pu_move (OT.tmp rfl)) rfl rfl ?_
              refine op_pure (pu_quo (OT.tmp rfl) OT.const (by omega)) rfl rfl ?_
              refine op_pure (pu_convert (OT.tmp rfl) Tryd.underlying64 Tryd.underlying3) rfl rfl ?_
              refine tr_as 51 (T := I64 ((m / 2 : Nat) : Int)) (OT.val (OT.tmp rfl) (congrArg (Value.int _) (half_v hmM))) ?_
              refine op_pure (pu_faddr (OT.tmp rfl) (show fieldOk Tryd.prog 23 1 1 false 1 = true from by decide +kernel)) rfl rfl ?_
              refine op_acts (acts_store_blk (OT.tmp rfl) (OT.tmp rfl) (by exact perm_at 0 rfl) lv1 (show tyOk Tryd.prog 3 false 1 = true from by decide +kernel)) (by exact perm_at 0 rfl) rfl rfl (fun _ _ => ?_)
              refine tr_nil ?_
              refine then_normal ?_
              refine tr_seq ?_
              refine tr_seq ?_
              -- region 14
              refine tr_env (es_cons (t := 0) (OT.tmp rfl) (es_cons (t := 2) (OT.tmp rfl) (es_cons (t := 4) (OT.tmp rfl) (es_cons (t := 5) (OT.tmp rfl) es_nil)))) ?_
              refine tr_region ?_
              refine op_pure (pu_move (OT.tmp rfl)) rfl rfl ?_
              refine op_pure (pu_rem' (OT.tmp rfl) OT.const (by omega) (by omega)) rfl rfl ?_
              refine op_pure (pu_eql (OT.tmp rfl) OT.const) rfl rfl ?_
              refine tr_nil ?_
              refine then_normal ?_
              refine tr_cond (OT.tmp rfl) (fun c55 => ?_) (fun c55 => ?_)
              · skip
                have ho : m % 2 = 1 := by simp at c55; omega
                -- region 15
                refine tr_env (es_cons (t := 0) (OT.tmp rfl) (es_cons (t := 2) (OT.tmp rfl) (es_cons (t := 4) (OT.tmp rfl) es_nil))) ?_
                refine tr_region ?_
                refine op_pure (pu_faddr (OT.tmp rfl) (show fieldOk Tryd.prog 23 1 1 false 1 = true from by decide +kernel)) rfl rfl ?_
                refine op_pure (pu_load_blk (OT.tmp rfl) (by exact mem_at 0 rfl) lv1 (show tyOk Tryd.prog 3 false 1 = true from by decide +kernel)) rfl rfl ?_
                refine tr_as 57 (T := I64 ((m / 2 : Nat) : Int)) (OT.tmp rfl) ?_
                refine op_pure (pu_neg (OT.tmp rfl) (by omega)) rfl rfl ?_
                refine op_pure (pu_sub' (OT.tmp rfl) OT.const (by omega)) rfl rfl ?_
                refine op_pure (pu_faddr (OT.tmp rfl) (show fieldOk Tryd.prog 23 1 1 false 1 = true from by decide +kernel)) rfl rfl ?_
                refine op_acts (acts_store_blk (OT.tmp rfl) (OT.tmp rfl) (by exact perm_at 0 rfl) lv1 (show tyOk Tryd.prog 3 false 1 = true from by decide +kernel)) (by exact perm_at 0 rfl) rfl rfl (fun _ _ => ?_)
                refine tr_nil ?_
                refine then_normal ?_
                refine tr_exit ?_
                refine block_pass rfl ?_
                refine then_exit ?_
                refine then_exit ?_
                refine block_hit ?_
                refine block_normal ?_
                refine then_normal ?_
                exact tr_joined ((b0 b : Int), -((m / 2 : Nat) : Int) - 1, []) ⟨refC_1 k1 (by rw [hrn]; unfold unzig; rw [if_pos ho]), by show (0 : Nat) ≤ 255; omega⟩ (es_append es_nil (es_cons (t := 0) (OT.tmp rfl) (es_cons (t := 2) (OT.tmp rfl) (es_cons (t := 4) (OT.tmp rfl) es_nil)))) (own_picks (by repeat (first | exact picks_nil | refine picks_cons 0 rfl ?_ | refine picks_cons 1 rfl ?_ | refine picks_cons 2 rfl ?_ | refine picks_cons 3 rfl ?_ | refine picks_cons 4 rfl ?_ | refine picks_cons 5 rfl ?_ | refine picks_cons 6 rfl ?_)))
              · skip
                have ho : ¬ m % 2 = 1 := by simp at c55; omega
                refine tr_skip ?_
                refine then_normal ?_
                refine tr_exit ?_
                refine block_pass rfl ?_
                refine then_exit ?_
                refine then_exit ?_
                refine block_hit ?_
                refine block_normal ?_
                refine then_normal ?_
                exact tr_joined ((b0 b : Int), ((m / 2 : Nat) : Int), []) ⟨refC_1 k1 (by rw [hrn]; unfold unzig; rw [if_neg ho]), by show (0 : Nat) ≤ 255; omega⟩ (es_append es_nil (es_cons (t := 0) (OT.tmp rfl) (es_cons (t := 2) (OT.tmp rfl) (es_cons (t := 4) (OT.tmp rfl) es_nil)))) (own_picks (by repeat (first | exact picks_nil | refine picks_cons 0 rfl ?_ | refine picks_cons 1 rfl ?_ | refine picks_cons 2 rfl ?_ | refine picks_cons 3 rfl ?_ | refine picks_cons 4 rfl ?_ | refine picks_cons 5 rfl ?_ | refine picks_cons 6 rfl ?_)))
            · skip
              have hlt : ¬ b[i].toNat < 128 := by rw [hat] at c48; simp at c48; omega
              refine tr_skip ?_
              refine block_normal ?_
              refine then_normal ?_
              -- region 9
              refine tr_env (es_cons (t := 0) (OT.tmp rfl) (es_cons (t := 2) (OT.tmp rfl) (es_cons (t := 4) (OT.tmp rfl) (es_cons (t := 5) (OT.tmp rfl) (es_cons (t := 6) (OT.tmp rfl) (es_cons (t := 7) (OT.tmp rfl) es_nil)))))) ?_
              refine tr_region ?_
              refine op_pure (pu_move (OT.tmp rfl)) rfl rfl ?_
              refine op_pure (pu_add' (OT.tmp rfl) OT.const (by omega)) rfl rfl ?_
              refine op_pure (pu_assign (OT.tmp rfl)) rfl rfl ?_
              refine tr_nil ?_
              refine then_normal ?_
              exact tr_again (i + 1, m, p * 128 % M64) (by have h9 := rnAt_next hR hi2 hlt; rw [hm] at h9; exact h9) (by show b.length - (i + 1) < b.length - i; omega) (es_append (es_cons (t := 7) (by exact OT.tmp rfl) (es_cons (t := 5) (by exact OT.tmp rfl) (es_cons (t := 6) (OT.val (OT.tmp rfl) (congrArg (Value.int _) (px_is p))) es_nil))) (es_cons (t := 0) (OT.tmp rfl) (es_cons (t := 2) (OT.tmp rfl) (es_cons (t := 4) (OT.tmp rfl) es_nil)))) (own_picks (by repeat (first | exact picks_nil | refine picks_cons 0 rfl ?_ | refine picks_cons 1 rfl ?_ | refine picks_cons 2 rfl ?_ | refine picks_cons 3 rfl ?_ | refine picks_cons 4 rfl ?_ | refine picks_cons 5 rfl ?_ | refine picks_cons 6 rfl ?_)))
          · skip
            have hi2 : ¬ (i < b.length ∧ i ≤ 10) := by simp at c29; omega
            refine tr_exit ?_
            refine then_exit ?_
            refine then_exit ?_
            refine block_hit ?_
            refine block_normal ?_
            refine then_normal ?_
            exact tr_joined ((b0 b : Int), 0, []) ⟨refC_1 k1 (rnAt_end hR hi2), by show (0 : Nat) ≤ 255; omega⟩ (es_append es_nil (es_cons (t := 0) (OT.tmp rfl) (es_cons (t := 2) (OT.tmp rfl) (es_cons (t := 4) (OT.tmp rfl) es_nil)))) (own_picks (by repeat (first | exact picks_nil | refine picks_cons 0 rfl ?_ | refine picks_cons 1 rfl ?_ | refine picks_cons 2 rfl ?_ | refine picks_cons 3 rfl ?_ | refine picks_cons 4 rfl ?_ | refine picks_cons 5 rfl ?_ | refine picks_cons 6 rfl ?_)))
      · skip
        have k1 : b0 b ≠ 1 := by have h9 := of_decide_eq_false c20; omega
        refine tr_seq ?_
        -- region 16
        refine tr_env (es_cons (t := 0) (OT.tmp rfl) (es_cons (t := 2) (OT.tmp rfl) (es_cons (t := 4) (OT.tmp rfl) (es_cons (t := 19) (OT.tmp rfl) es_nil)))) ?_
        refine tr_region ?_
        refine op_pure (pu_eql (OT.tmp rfl) OT.const) rfl rfl ?_
        refine op_pure (pu_assign (OT.tmp rfl)) rfl rfl ?_
        refine tr_nil ?_
        refine then_normal ?_
        refine tr_cond (OT.tmp rfl) (fun c61 => ?_) (fun c61 => ?_)
        · skip
          have k2 : b0 b = 2 := by have h9 := of_decide_eq_true c61; omega
          refine tr_seq ?_
          refine tr_seq ?_
          -- region 17
          refine tr_env (es_cons (t := 0) (OT.tmp rfl) (es_cons (t := 2) (OT.tmp rfl) (es_cons (t := 4) (OT.tmp rfl) es_nil))) ?_
          refine tr_region ?_
          refine op_pure (pu_move (OT.tmp rfl)) rfl rfl ?_
          refine op_pure (pu_index (OT.tmp rfl) OT.const Tryd.underlying26 (show tyOk Tryd.prog 5 false 1 = true from by decide +kernel) (by omega) (by (simp; omega))) rfl rfl ?_
          refine op_pure (pu_load (OT.tmp rfl) (show tyOk Tryd.prog 5 false 1 = true from by decide +kernel)) rfl rfl ?_
          refine op_pure (pu_convert' (OT.tmp rfl) Tryd.underlying5 Tryd.underlying3 (by omega) (by omega) rfl) rfl rfl ?_
          refine op_pure (pu_add' OT.const (OT.tmp rfl) (by omega)) rfl rfl ?_
          refine op_pure (pu_move (OT.tmp rfl)) rfl rfl ?_
          refine op_pure (pu_len_sl (OT.tmp rfl) Tryd.underlying26) rfl rfl ?_
          refine op_pure (pu_gtr (OT.tmp rfl) (OT.tmp rfl)) rfl rfl ?_
          refine tr_nil ?_
          refine then_normal ?_
          refine tr_cond (OT.tmp rfl) (fun c70 => ?_) (fun c70 => ?_)
          · skip
            have hr := decR_none (decV_none (cand_2n hs k2 (by rw [h1] at c70; simp at c70; omega)))
            refine tr_seq ?_
            -- region 18
            refine tr_env (es_cons (t := 2) (OT.tmp rfl) es_nil) ?_
            refine tr_region ?_
            refine op_pure (pu_build (d := kVl) (v0 := (0, 0, [])) (ps := [(0, 1), (1, 1), (2, 1)]) zVl (by kernel_rfl) rfl fills_nil) rfl rfl ?_
            refine op_acts (acts_store_var (OT.tmp rfl) (OT.tmp rfl) (by exact perm_at 1 rfl) (show tyOk Tryd.prog 23 true 3 = true from by decide +kernel)) (by exact perm_at 1 rfl) rfl rfl (fun _ _ => ?_)
            refine op_pure (pu_assign OT.const) rfl rfl ?_
            refine tr_nil ?_
            refine then_normal ?_
            refine tr_ret ?_
            refine then_ret ?_
            refine block_ret ?_
            refine then_ret ?_
            exact ret_cell_tmp .ret (.inl rfl) rfl () (OT.tmp rfl) (by exact mem_at 0 rfl) (show tyOk Tryd.prog 23 true 3 = true from by decide +kernel) (OT.val (OT.tmp rfl) (congrArg (Value.int _) (congrArg (fun p => p.2.1) hr).symm)) (fun _ _ h => (by rw [hr] at h ⊢; exact h)) trivial (by exact picks_nil)
          · skip
            have h2l : ¬ b.length < 2 + b1 b := by rw [h1] at c70; simp at c70; omega
            refine tr_skip ?_
            refine then_normal ?_
            -- region 19
            refine tr_env (es_cons (t := 0) (OT.tmp rfl) (es_cons (t := 2) (OT.tmp rfl) (es_cons (t := 4) (OT.tmp rfl) es_nil))) ?_
            refine tr_region ?_
            refine op_pure (pu_move (OT.tmp rfl)) rfl rfl ?_
            refine op_pure (pu_move (OT.tmp rfl)) rfl rfl ?_
            refine op_pure (pu_index (OT.tmp rfl) OT.const Tryd.underlying26 (show tyOk Tryd.prog 5 false 1 = true from by decide +kernel) (by omega) (by (simp; omega))) rfl rfl ?_
            refine op_pure (pu_load (OT.tmp rfl) (show tyOk Tryd.prog 5 false 1 = true from by decide +kernel)) rfl rfl ?_
            refine op_pure (pu_convert' (OT.tmp rfl) Tryd.underlying5 Tryd.underlying3 (by omega) (by omega) rfl) rfl rfl ?_
            refine op_pure (pu_add' OT.const (OT.tmp rfl) (by omega)) rfl rfl ?_
            refine op_pure (pu_slice (OT.tmp rfl) OT.const (OT.tmp rfl) Tryd.underlying26 (show tyOk Tryd.prog 5 false 1 = true from by decide +kernel) (by omega) (by omega) (by (simp; omega))) rfl rfl ?_
            refine op_pure (pu_bytes_bs (OT.tmp rfl) Tryd.underlying26 Tryd.underlying5 Tryd.underlying9) rfl rfl ?_
            refine tr_as 79 (T := BsT ((b.drop 2).take (b1 b))) (OT.val (OT.tmp rfl) (congrArg Value.string (congrArg bs (by rw [h1]; exact cut2 b (b1 b))))) ?_
            refine op_pure (pu_faddr (OT.tmp rfl) (show fieldOk Tryd.prog 23 2 2 false 1 = true from by decide +kernel)) rfl rfl ?_
            refine op_acts (acts_store_blk (OT.tmp rfl) (OT.tmp rfl) (by exact perm_at 0 rfl) lv2 (show tyOk Tryd.prog 9 false 1 = true from by decide +kernel)) (by exact perm_at 0 rfl) rfl rfl (fun _ _ => ?_)
            refine tr_nil ?_
            refine block_normal ?_
            refine then_normal ?_
            exact tr_joined ((b0 b : Int), 0, (b.drop 2).take (b1 b)) ⟨refC_2 k2, by show (List.take _ _).length ≤ 255; rw [List.length_take]; omega⟩ (es_append es_nil (es_cons (t := 0) (OT.tmp rfl) (es_cons (t := 2) (OT.tmp rfl) (es_cons (t := 4) (OT.tmp rfl) es_nil)))) (own_picks (by repeat (first | exact picks_nil | refine picks_cons 0 rfl ?_ | refine picks_cons 1 rfl ?_ | refine picks_cons 2 rfl ?_ | refine picks_cons 3 rfl ?_ | refine picks_cons 4 rfl ?_ | refine picks_cons 5 rfl ?_ | refine picks_cons 6 rfl ?_)))
        · skip
          have k2 : b0 b ≠ 2 := by have h9 := of_decide_eq_false c61; omega
          refine tr_seq ?_
          -- region 20
          refine tr_env (es_cons (t := 0) (OT.tmp rfl) (es_cons (t := 2) (OT.tmp rfl) (es_cons (t := 4) (OT.tmp rfl) (es_cons (t := 19) (OT.tmp rfl) es_nil)))) ?_
          refine tr_region ?_
          refine op_pure (pu_eql (OT.tmp rfl) OT.const) rfl rfl ?_
          refine op_pure (pu_assign (OT.tmp rfl)) rfl rfl ?_
          refine tr_nil ?_
          refine then_normal ?_
          refine tr_cond (OT.tmp rfl) (fun c81 => ?_) (fun c81 => ?_)
          · skip
            have k3 : b0 b = 3 := by have h9 := of_decide_eq_true c81; omega
            -- region 21
            refine tr_env (es_cons (t := 0) (OT.tmp rfl) (es_cons (t := 2) (OT.tmp rfl) (es_cons (t := 4) (OT.tmp rfl) es_nil))) ?_
            refine tr_region ?_
            refine op_pure (pu_move (OT.tmp rfl)) rfl rfl ?_
            refine op_pure (pu_index (OT.tmp rfl) OT.const Tryd.underlying26 (show tyOk Tryd.prog 5 false 1 = true from by decide +kernel) (by omega) (by (simp; omega))) rfl rfl ?_
            refine op_pure (pu_load (OT.tmp rfl) (show tyOk Tryd.prog 5 false 1 = true from by decide +kernel)) rfl rfl ?_
            refine op_pure (pu_convert' (OT.tmp rfl) Tryd.underlying5 Tryd.underlying3 (by omega) (by omega) rfl) rfl rfl ?_
            refine op_pure (pu_faddr (OT.tmp rfl) (show fieldOk Tryd.prog 23 1 1 false 1 = true from by decide +kernel)) rfl rfl ?_
            refine op_acts (acts_store_blk (OT.tmp rfl) (OT.tmp rfl) (by exact perm_at 0 rfl) lv1 (show tyOk Tryd.prog 3 false 1 = true from by decide +kernel)) (by exact perm_at 0 rfl) rfl rfl (fun _ _ => ?_)
            refine tr_nil ?_
            refine block_normal ?_
            refine then_normal ?_
            rw [h1]
            exact tr_joined ((b0 b : Int), (b1 b : Int), []) ⟨refC_3 k3, by show (0 : Nat) ≤ 255; omega⟩ (es_append es_nil (es_cons (t := 0) (OT.tmp rfl) (es_cons (t := 2) (OT.tmp rfl) (es_cons (t := 4) (OT.tmp rfl) es_nil)))) (own_picks (by repeat (first | exact picks_nil | refine picks_cons 0 rfl ?_ | refine picks_cons 1 rfl ?_ | refine picks_cons 2 rfl ?_ | refine picks_cons 3 rfl ?_ | refine picks_cons 4 rfl ?_ | refine picks_cons 5 rfl ?_ | refine picks_cons 6 rfl ?_)))
          · skip
            have k3 : b0 b ≠ 3 := by have h9 := of_decide_eq_false c81; omega
            refine tr_skip ?_
            refine block_normal ?_
            refine then_normal ?_
            exact tr_joined ((b0 b : Int), 0, []) ⟨refC_0 k1 k2 k3, by show (0 : Nat) ≤ 255; omega⟩ (es_append es_nil (es_cons (t := 0) (OT.tmp rfl) (es_cons (t := 2) (OT.tmp rfl) (es_cons (t := 4) (OT.tmp rfl) es_nil)))) (own_picks (by repeat (first | exact picks_nil | refine picks_cons 0 rfl ?_ | refine picks_cons 1 rfl ?_ | refine picks_cons 2 rfl ?_ | refine picks_cons 3 rfl ?_ | refine picks_cons 4 rfl ?_ | refine picks_cons 5 rfl ?_ | refine picks_cons 6 rfl ?_)))
    · rintro v hvr
      refine tr_seq ?_
      refine tr_seq ?_
      -- region 22
      refine tr_env (es_cons (t := 0) (OT.tmp rfl) (es_cons (t := 2) (OT.tmp rfl) (es_cons (t := 4) (OT.tmp rfl) es_nil))) ?_
      refine tr_region ?_
      refine op_pure (pu_load_var (OT.tmp rfl) (by exact mem_at 0 rfl) (show tyOk Tryd.prog 23 true 3 = true from by decide +kernel)) rfl rfl ?_
      refine op_acts (acts_call (rCheck_fn v (by omega)) (show enters Tryd.prog 12 = true from by decide +kernel) (OTs.cons (OT.tmp rfl) OTs.nil) (List.Perm.refl _)) (List.Perm.refl _) rfl rfl (fun _ _ => ?_)
      refine op_pure (pu_neq (OT.tmp rfl) OT.const) rfl rfl ?_
      refine tr_nil ?_
      refine then_normal ?_
      refine tr_cond (OT.tmp rfl) (fun c90 => ?_) (fun c90 => ?_)
      · skip
        have hr := decR_bad (b := b) (by rw [hvr.1]; simpa using c90)
        refine tr_seq ?_
        -- region 23
        refine tr_env (es_cons (t := 2) (OT.tmp rfl) es_nil) ?_
        refine tr_region ?_
        refine op_pure (pu_build (d := kVl) (v0 := (0, 0, [])) (ps := [(0, 1), (1, 1), (2, 1)]) zVl (by kernel_rfl) rfl fills_nil) rfl rfl ?_
        refine op_acts (acts_store_var (OT.tmp rfl) (OT.tmp rfl) (by exact perm_at 1 rfl) (show tyOk Tryd.prog 23 true 3 = true from by decide +kernel)) (by exact perm_at 1 rfl) rfl rfl (fun _ _ => ?_)
        refine op_pure (pu_assign OT.const) rfl rfl ?_
        refine tr_nil ?_
        refine then_normal ?_
        refine tr_ret ?_
        refine then_ret ?_
        exact ret_cell_tmp .ret (.inl rfl) rfl () (OT.tmp rfl) (by exact mem_at 0 rfl) (show tyOk Tryd.prog 23 true 3 = true from by decide +kernel) (OT.val (OT.tmp rfl) (congrArg (Value.int _) (congrArg (fun p => p.2.1) hr).symm)) (fun _ _ h => (by rw [hr] at h ⊢; exact h)) trivial (by exact picks_nil)
      · skip
        have hc0 : checkV v = 0 := by simpa using c90
        refine tr_skip ?_
        refine then_normal ?_
        refine tr_seq ?_
        -- region 24
        refine tr_env (es_cons (t := 0) (OT.tmp rfl) (es_cons (t := 2) (OT.tmp rfl) (es_cons (t := 4) (OT.tmp rfl) es_nil))) ?_
        refine tr_region ?_
        refine op_pure (pu_load_var (OT.tmp rfl) (by exact mem_at 0 rfl) (show tyOk Tryd.prog 23 true 3 = true from by decide +kernel)) rfl rfl ?_
        refine op_acts (acts_call (rEncode_fn v hc0 (by rw [← hvr.1]; exact (refC_bd b).1) (by rw [← hvr.1]; exact (refC_bd b).2)) (show enters Tryd.prog 16 = true from by decide +kernel) (OTs.cons (OT.tmp rfl) OTs.nil) (List.Perm.refl _)) (List.Perm.refl _) rfl rfl (fun _ _ => ?_)
        refine op_pure (pu_assign (OT.tmp rfl)) rfl rfl ?_
        refine tr_nil ?_
        refine then_normal ?_
        refine tr_seq ?_
        refine tr_seq ?_
        -- region 25
        refine tr_env (es_cons (t := 0) (OT.tmp rfl) (es_cons (t := 2) (OT.tmp rfl) (es_cons (t := 4) (OT.tmp rfl) (es_cons (t := 8) (OT.tmp rfl) es_nil)))) ?_
        apply tr_any (m := 13) (ns := [[(8, none)], [(94, some 0)], [(0, none)], [(96, some 2)], [(95, some 1), (97, some 3)], [(98, some 4)], [(8, none), (99, some 5)], [(99, some 5), (100, some 6)], [(0, none), (99, some 5)], [(8, none), (99, some 5)], [(99, some 5), (103, some 9)], [(99, some 5), (102, some 8), (104, some 10)], [(99, some 5), (105, some 11)]]) (by kernel_rfl) (by kernel_rfl) (Ts := [_, _, _, _, _, _, _, _, _, _, _, _, _]) rfl
        case hops =>
          refine ⟨?_, ⟨?_, ⟨?_, ⟨?_, ⟨?_, ⟨?_, ⟨?_, ⟨?_, ⟨?_, ⟨?_, ⟨?_, ⟨?_, ⟨?_, trivial⟩⟩⟩⟩⟩⟩⟩⟩⟩⟩⟩⟩⟩
          · exact rop_pure rfl (pu_move (OT.tmp rfl))
          · exact rop_pure rfl (pu_len_sl (OT.tmp rfl) Tryd.underlying26)
          · exact rop_pure rfl (pu_move (OT.tmp rfl))
          · exact rop_pure rfl (pu_len_sl (OT.tmp rfl) Tryd.underlying26)
          · exact rop_pure rfl (pu_gtr (OT.tmp rfl) (OT.tmp rfl))
          · exact rop_pure rfl (pu_move (OT.tmp rfl))
          · exact rop_gu rfl rfl rfl (OT.gu_mk (OT.tmp rfl)) (fun hg => by (have hg1 := hg.2; exact rop_pure rfl (pu_move (by exact OT.tmp rfl))))
          · exact rop_gu rfl rfl rfl (OT.gu_mk (OT.tmp rfl)) (fun hg => by (have hg1 := hg.2; exact rop_pure rfl (pu_bytes_bs (by exact OT.gu (OT.tmp rfl) hg) Tryd.underlying26 Tryd.underlying5 Tryd.underlying9)))
          · exact rop_gu rfl rfl rfl (OT.gu_mk (OT.tmp rfl)) (fun hg => by (have hg1 := hg.2; exact rop_pure rfl (pu_move (by exact OT.tmp rfl))))
          · exact rop_gu rfl rfl rfl (OT.gu_mk (OT.tmp rfl)) (fun hg => by (have hg1 := hg.2; exact rop_pure rfl (pu_move (by exact OT.tmp rfl))))
          · exact rop_gu rfl rfl rfl (OT.gu_mk (OT.tmp rfl)) (fun hg => by (have hg1 := hg.2; exact rop_pure rfl (pu_len_sl (by exact OT.gu (OT.tmp rfl) hg) Tryd.underlying26)))
          · exact rop_gu rfl rfl rfl (OT.gu_mk (OT.tmp rfl)) (fun hg => by (have hg1 := hg.2; exact rop_pure rfl (pu_slice_hi (by exact OT.gu (OT.tmp rfl) hg) (by exact OT.gu (OT.tmp rfl) hg) Tryd.underlying26 (show tyOk Tryd.prog 5 false 1 = true from by decide +kernel) (by omega) (by (simp [maxLen] at *; omega)))))
          · exact rop_gu rfl rfl rfl (OT.gu_mk (OT.tmp rfl)) (fun hg => by (have hg1 := hg.2; exact rop_pure rfl (pu_bytes_bs (by exact OT.gu (OT.tmp rfl) hg) Tryd.underlying26 Tryd.underlying5 Tryd.underlying9)))
        case h =>
          refine op_gu rfl rfl rfl (OT.gu_mk (OT.tmp rfl)) (fun hg => by (have hg1 := hg.2; (try simp only [decide_eq_true_eq, decide_eq_false_iff_not] at hg1); exact pu_bs_neq (by exact OT.gu (OT.tmp rfl) hg) (by exact OT.gu (OT.tmp rfl) hg))) rfl ?_
          refine op_pure (pu_pick_or (OT.tmp rfl) (by exact OT.tmp rfl)) rfl rfl ?_
          refine tr_nil ?_
          refine then_normal ?_
          refine tr_cond (OT.tmp rfl) (fun c108 => ?_) (fun c108 => ?_)
          · skip
            have hr : decR b = ((0, 0, []), 0, 6) := decR_off (by rintro ⟨r, hb⟩; rw [hvr.1] at hb; obtain ⟨q1, q2⟩ := pre_take hb; rw [unnum_nums, unnum_take, q2] at c108; simp at c108; omega)
            refine tr_seq ?_
            -- region 26
            refine tr_env (es_cons (t := 2) (OT.tmp rfl) es_nil) ?_
            refine tr_region ?_
            refine op_pure (pu_build (d := kVl) (v0 := (0, 0, [])) (ps := [(0, 1), (1, 1), (2, 1)]) zVl (by kernel_rfl) rfl fills_nil) rfl rfl ?_
            refine op_acts (acts_store_var (OT.tmp rfl) (OT.tmp rfl) (by exact perm_at 1 rfl) (show tyOk Tryd.prog 23 true 3 = true from by decide +kernel)) (by exact perm_at 1 rfl) rfl rfl (fun _ _ => ?_)
            refine op_pure (pu_assign OT.const) rfl rfl ?_
            refine tr_nil ?_
            refine then_normal ?_
            refine tr_ret ?_
            refine then_ret ?_
            exact ret_cell_tmp .ret (.inl rfl) rfl () (OT.tmp rfl) (by exact mem_at 0 rfl) (show tyOk Tryd.prog 23 true 3 = true from by decide +kernel) (OT.val (OT.tmp rfl) (congrArg (Value.int _) (congrArg (fun p => p.2.1) hr).symm)) (fun _ _ h => (by rw [hr] at h ⊢; exact h)) trivial (by exact picks_nil)
          · skip
            rw [unnum_nums, unnum_take] at c108
            obtain ⟨r, hb⟩ := take_pre (b := b) (l := encV v) (by simp at c108; exact c108.2.symm)
            have hr := decR_good (b := b) (r := r) (by rw [hvr.1]; exact hc0) (by rw [hvr.1]; exact hb)
            rw [hvr.1] at hr
            refine tr_skip ?_
            refine then_normal ?_
            refine tr_seq ?_
            -- region 27
            refine tr_env (es_cons (t := 2) (OT.tmp rfl) (es_cons (t := 4) (OT.tmp rfl) (es_cons (t := 8) (OT.tmp rfl) es_nil))) ?_
            refine tr_region ?_
            refine op_pure (pu_load_var (OT.tmp rfl) (by exact mem_at 0 rfl) (show tyOk Tryd.prog 23 true 3 = true from by decide +kernel)) rfl rfl ?_
            refine op_pure (pu_move (OT.tmp rfl)) rfl rfl ?_
            refine op_pure (pu_len_sl (OT.tmp rfl) Tryd.underlying26) rfl rfl ?_
            refine op_acts (acts_store_var (OT.tmp rfl) (OT.tmp rfl) (by exact perm_at 1 rfl) (show tyOk Tryd.prog 23 true 3 = true from by decide +kernel)) (by exact perm_at 1 rfl) rfl rfl (fun _ _ => ?_)
            refine op_pure (pu_assign (OT.tmp rfl)) rfl rfl ?_
            refine tr_nil ?_
            refine then_normal ?_
            refine tr_ret ?_
            exact ret_cell_tmp .ret (.inl rfl) rfl () (OT.tmp rfl) (by exact mem_at 0 rfl) (show tyOk Tryd.prog 23 true 3 = true from by decide +kernel) (OT.val (OT.tmp rfl) (congrArg (Value.int _) (show ((nums (encV v)).length : Int) = (decR b).2.1 from by rw [hr]; simp [nums]))) (fun _ _ h => (by rw [hr] at h ⊢; exact h)) trivial (by exact picks_nil)
set_option maxRecDepth 20000 in
/-- rhizome/rhizomelaw02.ValReads -/
theorem ValReads_fn {K0 : FH} {n0 : Nat} (b : List UInt8) (hV : VarsV K0) : CtM K0 n0 Tryd.prog 7 [SlT (kint .u8) (nums b)] ([]) Unit (fun _ => BoolT true) (fun _ => []) (fun _ => True) := by
  refine fn_introM Tryd.func7 rfl rfl ?_
  intro H w hK hn
  refine tr_seq ?_
  -- region 0
  refine tr_env (es_cons (t := 0) (OT.tmp rfl) es_nil) ?_
  refine tr_region ?_
  refine op_pure (pu_assign OT.const) rfl rfl ?_
  refine tr_nil ?_
  refine then_normal ?_
  refine tr_seq ?_
  refine tr_seq ?_
  -- region 1
  refine tr_env (es_cons (t := 0) (OT.tmp rfl) es_nil) ?_
  refine tr_region ?_
  refine op_acts (acts_callM (awake_fn hV) (mk_in hK hn) (show enters Tryd.prog 11 = true from by decide +kernel) OTs.nil (List.Perm.refl _)) (List.Perm.refl _) rfl rfl (fun _ _ => ?_)
  refine op_pure (pu_not (OT.tmp rfl)) rfl rfl ?_
  refine op_pure (pu_move (OT.tmp rfl)) rfl rfl ?_
  refine op_gu rfl rfl rfl (OT.gu_mk (OT.tmp rfl)) (fun hg => by (have hg1 := hg.2; (try simp only [decide_eq_true_eq, decide_eq_false_iff_not] at hg1); exact pu_move (by exact OT.tmp rfl))) rfl ?_
  refine op_gu rfl rfl rfl (OT.gu_mk (OT.tmp rfl)) (fun hg => by (have hg1 := hg.2; (try simp only [decide_eq_true_eq, decide_eq_false_iff_not] at hg1); exact pu_len_sl (by exact OT.gu (OT.tmp rfl) hg) Tryd.underlying26)) rfl ?_
  refine op_gu rfl rfl rfl (OT.gu_mk (OT.tmp rfl)) (fun hg => by (have hg1 := hg.2; (try simp only [decide_eq_true_eq, decide_eq_false_iff_not] at hg1); exact pu_gtr (by exact OT.gu (OT.tmp rfl) hg) OT.const)) rfl ?_
  refine op_pure (pu_pick_or (OT.tmp rfl) (by exact OT.tmp rfl)) rfl rfl ?_
  refine tr_nil ?_
  refine then_normal ?_
  refine tr_cond (OT.tmp rfl) (fun c15 => ?_) (fun c15 => ?_)
  · skip
    refine tr_seq ?_
    -- region 2
    refine tr_env es_nil ?_
    refine tr_region ?_
    refine op_acts (acts_callM (awake_fn hV) (mk_in hK hn) (show enters Tryd.prog 11 = true from by decide +kernel) OTs.nil (List.Perm.refl _)) (List.Perm.refl _) rfl rfl (fun _ _ => ?_)
    refine op_pure (pu_assign (OT.tmp rfl)) rfl rfl ?_
    refine tr_nil ?_
    refine then_normal ?_
    refine tr_ret ?_
    refine then_ret ?_
    exact ret_one .ret (.inl rfl) rfl () (OT.val (OT.tmp rfl) (congrArg Value.bool (rfl))) trivial (by exact picks_nil)
  · skip
    have hl : b.length ≤ 2000 := by simp at c15; omega
    refine tr_skip ?_
    refine then_normal ?_
    refine tr_seq ?_
    -- region 3
    refine tr_env (es_cons (t := 0) (OT.tmp rfl) es_nil) ?_
    refine tr_region ?_
    refine op_acts (acts_lit_own (d := (kint .u8)) (v0 := 0) (show slTy Tryd.prog 26 5 1 1 = true from by decide +kernel) (show tyOk Tryd.prog 5 false 1 = true from by decide +kernel) z5 (show 0 * 1 ≤ 16777216 from by decide) (by decide) fills_nil) (List.Perm.refl _) rfl rfl (fun v3_0 _ => ?_)
    refine op_pure (pu_move (OT.tmp rfl)) rfl rfl ?_
    refine op_acts (acts_append (OT.tmp rfl) (by exact perm_at 0 rfl) (OT.tmp rfl) (show slTy Tryd.prog 26 5 1 1 = true from by decide +kernel) (by (simp; omega)) (by (simp [maxLen]; omega))) (by exact perm_at 0 rfl) rfl rfl (fun v3_2 _ => ?_)
    refine op_pure (pu_assign (OT.tmp rfl)) rfl rfl ?_
    refine tr_nil ?_
    refine tr_freeze (by exact perm_at 0 rfl) 3 (OT.tmp rfl) ?_
    refine tr_as 3 (T := SlT (kint .u8) (nums b)) (OT.tmp rfl) ?_
    refine then_normal ?_
    refine tr_seq ?_
    -- region 4
    refine tr_env (es_cons (t := 0) (OT.tmp rfl) (es_cons (t := 3) (OT.tmp rfl) es_nil)) ?_
    refine tr_region ?_
    refine op_pure (pu_move (OT.tmp rfl)) rfl rfl ?_
    refine op_acts (acts_callM (Decode_fn b hV (by omega)) (mk_in hK hn) (show enters Tryd.prog 24 = true from by decide +kernel) (OTs.cons (OT.tmp rfl) OTs.nil) (List.Perm.refl _)) (List.Perm.refl _) rfl rfl (fun _ _ => ?_)
    refine op_pure (pu_move (OT.tmp rfl)) rfl rfl ?_
    refine op_pure (pu_extract (OT.tmp rfl) rfl) rfl rfl ?_
    refine op_pure (pu_extract (OT.tmp rfl) rfl) rfl rfl ?_
    refine op_pure (pu_extract (OT.tmp rfl) rfl) rfl rfl ?_
    refine op_acts (acts_alloc (zVl)) (List.Perm.refl _) rfl rfl (fun g4_6 _ => ?_)
    refine op_acts (acts_store_var (OT.tmp rfl) (OT.tmp rfl) (by exact perm_at 0 rfl) (show tyOk Tryd.prog 23 true 3 = true from by decide +kernel)) (by exact perm_at 0 rfl) rfl rfl (fun _ _ => ?_)
    refine op_pure (pu_assign (OT.tmp rfl)) rfl rfl ?_
    refine op_pure (pu_assign (OT.tmp rfl)) rfl rfl ?_
    refine tr_nil ?_
    refine then_normal ?_
    refine tr_seq ?_
    -- region 5
    refine tr_env (es_cons (t := 0) (OT.tmp rfl) (es_cons (t := 3) (OT.tmp rfl) (es_cons (t := 4) (OT.tmp rfl) (es_cons (t := 5) (OT.tmp rfl) (es_cons (t := 6) (OT.tmp rfl) es_nil))))) ?_
    refine tr_region ?_
    refine op_pure (pu_move (OT.tmp rfl)) rfl rfl ?_
    refine op_acts (acts_call (rDecode_fn b (by omega)) (show enters Tryd.prog 25 = true from by decide +kernel) (OTs.cons (OT.tmp rfl) OTs.nil) (List.Perm.refl _)) (List.Perm.refl _) rfl rfl (fun _ _ => ?_)
    refine op_pure (pu_move (OT.tmp rfl)) rfl rfl ?_
    refine op_pure (pu_extract (OT.tmp rfl) rfl) rfl rfl ?_
    refine op_pure (pu_extract (OT.tmp rfl) rfl) rfl rfl ?_
    refine op_acts (acts_alloc (zVl)) (List.Perm.refl _) rfl rfl (fun g5_5 _ => ?_)
    refine op_acts (acts_store_var (OT.tmp rfl) (OT.tmp rfl) (by exact perm_at 0 rfl) (show tyOk Tryd.prog 23 true 3 = true from by decide +kernel)) (by exact perm_at 0 rfl) rfl rfl (fun _ _ => ?_)
    refine op_pure (pu_assign (OT.tmp rfl)) rfl rfl ?_
    refine tr_nil ?_
    refine then_normal ?_
    refine tr_seq ?_
    -- region 6
    refine tr_env (es_cons (t := 0) (OT.tmp rfl) (es_cons (t := 3) (OT.tmp rfl) (es_cons (t := 4) (OT.tmp rfl) (es_cons (t := 5) (OT.tmp rfl) (es_cons (t := 6) (OT.tmp rfl) (es_cons (t := 7) (OT.tmp rfl) (es_cons (t := 8) (OT.tmp rfl) es_nil))))))) ?_
    have h2 := decR_two b
    obtain ⟨R, hR⟩ : ∃ R, decR b = R := ⟨_, rfl⟩
    rw [hR] at h2 ⊢
    refine tr_region ?_
    refine op_pure (pu_load_var (OT.tmp rfl) (by exact mem_at 1 rfl) (show tyOk Tryd.prog 23 true 3 = true from by decide +kernel)) rfl rfl ?_
    refine op_pure (pu_load_var (OT.tmp rfl) (by exact mem_at 0 rfl) (show tyOk Tryd.prog 23 true 3 = true from by decide +kernel)) rfl rfl ?_
    refine op_pure (pu_eq_of eqVl (OT.tmp rfl) (OT.tmp rfl)) rfl rfl ?_
    refine op_pure (pu_move (OT.tmp rfl)) rfl rfl ?_
    refine op_gu rfl rfl rfl (OT.gu_mk (OT.tmp rfl)) (fun hg => by (have hg1 := hg.2; (try simp only [decide_eq_true_eq, decide_eq_false_iff_not] at hg1); exact pu_move (by exact OT.tmp rfl))) rfl ?_
    refine op_gu rfl rfl rfl (OT.gu_mk (OT.tmp rfl)) (fun hg => by (have hg1 := hg.2; (try simp only [decide_eq_true_eq, decide_eq_false_iff_not] at hg1); exact pu_move (by exact OT.tmp rfl))) rfl ?_
    refine op_gu rfl rfl rfl (OT.gu_mk (OT.tmp rfl)) (fun hg => by (have hg1 := hg.2; (try simp only [decide_eq_true_eq, decide_eq_false_iff_not] at hg1); exact pu_eql (by exact OT.gu (OT.tmp rfl) hg) (by exact OT.gu (OT.tmp rfl) hg))) rfl ?_
    refine op_pure (pu_pick_and (OT.tmp rfl) (by exact OT.tmp rfl)) rfl rfl ?_
    refine op_pure (pu_move (OT.tmp rfl)) rfl rfl ?_
    refine op_gu rfl rfl rfl (OT.gu_mk (OT.tmp rfl)) (fun hg => by (have hg1 := hg.2; (try simp only [decide_eq_true_eq, decide_eq_false_iff_not] at hg1); exact pu_move (by exact OT.tmp rfl))) rfl ?_
    refine op_gu rfl rfl rfl (OT.gu_mk (OT.tmp rfl)) (fun hg => by (have hg1 := hg.2; (try simp only [decide_eq_true_eq, decide_eq_false_iff_not] at hg1); exact pu_eql (by exact OT.gu (OT.tmp rfl) hg) OT.const)) rfl ?_
    refine op_gu rfl rfl rfl (OT.gu_mk (OT.tmp rfl)) (fun hg => by (have hg1 := hg.2; (try simp only [decide_eq_true_eq, decide_eq_false_iff_not] at hg1); exact pu_move (by exact OT.tmp rfl))) rfl ?_
    refine op_gu rfl rfl rfl (OT.gu_mk (OT.tmp rfl)) (fun hg => by (have hg1 := hg.2; (try simp only [decide_eq_true_eq, decide_eq_false_iff_not] at hg1); exact pu_gtr (by exact OT.gu (OT.tmp rfl) hg) OT.const)) rfl ?_
    refine op_gu rfl rfl rfl (OT.gu_mk (OT.tmp rfl)) (fun hg => by (have hg1 := hg.2; (try simp only [decide_eq_true_eq, decide_eq_false_iff_not] at hg1); exact pu_bool_eql (by exact OT.gu (OT.tmp rfl) hg) (by exact OT.gu (OT.tmp rfl) hg) Tryd.underlying4)) rfl ?_
    refine op_pure (pu_pick_and (OT.tmp rfl) (by exact OT.tmp rfl)) rfl rfl ?_
    refine op_pure (pu_move (OT.tmp rfl)) rfl rfl ?_
    refine op_gu rfl rfl rfl (OT.gu_mk (OT.tmp rfl)) (fun hg => by (have hg1 := hg.2; (try simp only [decide_eq_true_eq, decide_eq_false_iff_not] at hg1); exact pu_move (by exact OT.tmp rfl))) rfl ?_
    refine op_gu rfl rfl rfl (OT.gu_mk (OT.tmp rfl)) (fun hg => by (have hg1 := hg.2; (try simp only [decide_eq_true_eq, decide_eq_false_iff_not] at hg1); exact pu_gtr (by exact OT.gu (OT.tmp rfl) hg) OT.const)) rfl ?_
    refine op_gu rfl rfl rfl (OT.gu_mk (OT.tmp rfl)) (fun hg => by (have hg1 := hg.2; (try simp only [decide_eq_true_eq, decide_eq_false_iff_not] at hg1); exact pu_move (by exact OT.gu (OT.tmp rfl) hg))) rfl ?_
    refine op_gu rfl rfl rfl (OT.tmp rfl) (fun hg => by (have hg1 := hg.2; (try simp only [decide_eq_true_eq, decide_eq_false_iff_not] at hg1); exact pu_move (by exact OT.tmp rfl))) rfl ?_
    refine op_gu rfl rfl rfl (OT.tmp rfl) (fun hg => by (have hg1 := hg.2; (try simp only [decide_eq_true_eq, decide_eq_false_iff_not] at hg1); exact pu_eql (by exact OT.gu (OT.tmp rfl) hg) OT.const)) rfl ?_
    refine op_gu rfl rfl rfl (OT.gu_mk (OT.tmp rfl)) (fun hg => by (have hg1 := hg.2; (try simp only [decide_eq_true_eq, decide_eq_false_iff_not] at hg1); exact pu_pick_or_p hg (by exact OT.gu (OT.tmp rfl) hg) (OT.tmp rfl))) rfl ?_
    refine op_pure (pu_pick_and (OT.tmp rfl) (by exact OT.tmp rfl)) rfl rfl ?_
    refine op_pure (pu_move (OT.tmp rfl)) rfl rfl ?_
    refine op_gu rfl rfl rfl (OT.gu_mk (OT.tmp rfl)) (fun hg => by (have hg1 := hg.2; (try simp only [decide_eq_true_eq, decide_eq_false_iff_not] at hg1); exact pu_move (by exact OT.tmp rfl))) rfl ?_
    refine op_gu rfl rfl rfl (OT.gu_mk (OT.tmp rfl)) (fun hg => by (have hg1 := hg.2; (try simp only [decide_eq_true_eq, decide_eq_false_iff_not] at hg1); exact pu_bytes_bs (by exact OT.gu (OT.tmp rfl) hg) Tryd.underlying26 Tryd.underlying5 Tryd.underlying9)) rfl ?_
    refine op_gu rfl rfl rfl (OT.gu_mk (OT.tmp rfl)) (fun hg => by (have hg1 := hg.2; (try simp only [decide_eq_true_eq, decide_eq_false_iff_not] at hg1); exact pu_move (by exact OT.tmp rfl))) rfl ?_
    refine op_gu rfl rfl rfl (OT.gu_mk (OT.tmp rfl)) (fun hg => by (have hg1 := hg.2; (try simp only [decide_eq_true_eq, decide_eq_false_iff_not] at hg1); exact pu_bytes_bs (by exact OT.gu (OT.tmp rfl) hg) Tryd.underlying26 Tryd.underlying5 Tryd.underlying9)) rfl ?_
    refine op_gu rfl rfl rfl (OT.gu_mk (OT.tmp rfl)) (fun hg => by (have hg1 := hg.2; (try simp only [decide_eq_true_eq, decide_eq_false_iff_not] at hg1); exact pu_bs_eql (by exact OT.gu (OT.tmp rfl) hg) (by exact OT.gu (OT.tmp rfl) hg))) rfl ?_
    refine op_pure (pu_pick_and (OT.tmp rfl) (by exact OT.tmp rfl)) rfl rfl ?_
    refine op_pure (pu_assign (OT.tmp rfl)) rfl rfl ?_
    refine tr_nil ?_
    refine then_normal ?_
    refine tr_ret ?_
    exact ret_one .ret (.inl rfl) rfl () (OT.val (OT.tmp rfl) (congrArg Value.bool (by rcases h2 with ⟨v, k, h, hk⟩ | h <;> rw [h] <;> simp <;> omega))) trivial (by exact picks_nil)
end Go.Proofs.YtdlendioamiagaaDoor
/- The package-level variables that the rows list: what they hold in whatever world meets the list; one world that meets it. -/
namespace Go.Proofs.YtdlendioamiagaaDoor
open Go Go.Gw Go.Vl Go.RowKit
set_option linter.unusedVariables false
abbrev laidL : List (String × DataW Unit) := Rows.valChecksRow.laid
/-- The name of the sentinels' type. -/
abbrev errName : String := match (Rows.laid_strconv_ErrSyntax : DataW Unit) with
  | .iface n _ => n
  | _ => ""
theorem rowE (u : TypeId) (h : Tryd.prog.typeName? 3 u = some errName) : u = 142 :=
  typeName_ptr_named (nm := "errors.errorString") (by kernel_rfl) (by kernel_rfl) (by decide) u (h.trans (congrArg some (by decide)))
abbrev tzName : String := (laidL.getD 1 ("", .nil)).1
def tzTab : List Int := [0, 1, 56, 2, 57, 49, 28, 3, 61, 58, 42, 50, 38, 29, 17, 4, 62, 47, 59, 36, 45, 43, 51, 22, 53, 39, 33, 30, 24, 18, 12, 5, 63, 55, 48, 27, 60, 41, 37, 16, 46, 35, 44, 21, 52, 32, 23, 11, 54, 26, 40, 15, 34, 20, 31, 10, 25, 14, 19, 9, 13, 8, 7, 6]
theorem u8x : Go.Proofs.U8Extra Tryd.prog Tryd.lValid_ren where
  n3 := by kernel_rfl
  y3 := by kernel_rfl
  n4 := by kernel_rfl
  y4 := by kernel_rfl
  c5 := by kernel_rfl
  c119 := by kernel_rfl
  c138 := by kernel_rfl
theorem vars_of {W : World} (hS : W.ShapedOpen Tryd.prog) (hL : laidMet Tryd.prog laidL W) : VarsV (heapOf W) where
  tab := fun w ho => by
    have hT : Lib.TabIs Tryd.prog W Tryd.tabName .u64 Lib.pow10Tab := Lib.tabIs_of_head (g := 3) (t := 126) (e := 64) (n := 20) (by kernel_rfl) (by kernel_rfl) Tryd.underlying126 Tryd.underlying64 (by kernel_rfl) (by kernel_rfl) hL.tail.tail
    exact var_on hT ho
  syn := by
    obtain ⟨a0, s0, hv0, _⟩ := laid_sentinel (g := 4) (ti := 70) (tp := 142) (te := 144) (ts := 9) hL.tail.tail.tail.tail.tail (by kernel_rfl) (by kernel_rfl) Tryd.underlying70 rowE Tryd.underlying142 Tryd.underlying144 rfl rfl Tryd.underlying9 (by kernel_rfl) (by kernel_rfl)
    exact ⟨_, _, fun w ho => var_on hv0 ho⟩
  rng := by
    obtain ⟨a0, s0, hv0, _⟩ := laid_sentinel (g := 5) (ti := 70) (tp := 142) (te := 144) (ts := 9) hL.tail.tail.tail.tail (by kernel_rfl) (by kernel_rfl) Tryd.underlying70 rowE Tryd.underlying142 Tryd.underlying144 rfl rfl Tryd.underlying9 (by kernel_rfl) (by kernel_rfl)
    exact ⟨_, _, fun w ho => var_on hv0 ho⟩
  len := by
    obtain ⟨m, hm⟩ : ∃ m, W.cell? ⟨Tryd.lCut_ren.g 1, 0, none⟩ = some (.int .i64 m) := cell_of_shapedOpen_int (zero := #[.int .i64 0]) (t := 3) hS (of_decide_eq_true (by kernel_rfl)) (by kernel_rfl) rfl (by kernel_rfl) (by kernel_rfl) Tryd.underlying3
    exact ⟨m, fun w ho => cell_on hm ho⟩
  utf := fun w ho => by
    have h3 := Go.Lib.laidMet.reads hL (n := "unicode/utf8.first") (d := Rows.laid_unicode_utf8_first) (by simp [laidL, Rows.valChecksRow])
    have h4 := Go.Lib.laidMet.reads hL (n := "unicode/utf8.acceptRanges") (d := Rows.laid_unicode_utf8_acceptRanges) (by simp [laidL, Rows.valChecksRow])
    rw [show (Rows.laid_unicode_utf8_first : DataW Unit) = Lib.firstData from by kernel_rfl] at h3
    rw [show (Rows.laid_unicode_utf8_acceptRanges : DataW Unit) = Lib.acceptData from by kernel_rfl] at h4
    have hT := Go.Proofs.utf8Tabs_of_readsT (Go.Proofs.U8Types.of196 Tryd.lValid) u8x h3 h4
    exact ⟨fun c hc => cell_on (hT.1 c hc) ho, fun i hi => ⟨cell_on (hT.2 i hi).1 ho, cell_on (hT.2 i hi).2 ho⟩⟩
  syc := by
    obtain ⟨a0, s0, hv0, _⟩ := laid_sentinel (g := 4) (ti := 70) (tp := 142) (te := 144) (ts := 9) hL.tail.tail.tail.tail.tail (by kernel_rfl) (by kernel_rfl) Tryd.underlying70 rowE Tryd.underlying142 Tryd.underlying144 rfl rfl Tryd.underlying9 (by kernel_rfl) (by kernel_rfl)
    have key : ∀ w, On (heapOf W) w → w.cell? ⟨4, 0, none⟩ = some (.iface 142 (.pointer (some a0))) := fun w ho => by
      have h0 := World.var?_cell (g := 4) (by kernel_rfl) (var_on hv0 ho) 0
      simpa using h0
    exact ⟨_, .inr ⟨_, _, rfl⟩, key⟩
  tz := fun w ho => by
    have hT : Lib.TabIs Tryd.prog W tzName .u8 tzTab := Lib.tabIs_of_head (g := 7) (t := 146) (e := 5) (n := 64) (by kernel_rfl) (by kernel_rfl) Tryd.underlying146 Tryd.underlying5 (by kernel_rfl) (by kernel_rfl) hL.tail
    have h0 := World.var?_cell (g := 7) (by kernel_rfl) (var_on hT ho) 15
    exact h0
theorem plain_all (w : World) : laidMetH Tryd.prog laidL w = laidMet Tryd.prog laidL w := MakeChecks.laidMetH_plain _ _ _ (by kernel_rfl)
theorem shp (os : Os) : (World.laidAll Tryd.prog os laidL).Shaped Tryd.prog := World.shaped_of_ZipB (by kernel_rfl) (by kernel_rfl)
theorem met (os : Os) (args : Array Value) : laidMet Tryd.prog laidL ((World.laidAll Tryd.prog os laidL).forCall (fun _ _ => 0) ⟨#[], args, []⟩).memory := laidMet_laidAll _ (by kernel_rfl) (by kernel_rfl)
end Go.Proofs.YtdlendioamiagaaDoor
