/- The texts Vl16, Vl17, Vl18, VlM, Vl19, VlV of this claim, put together in their order. No condition of their own. -/
import Derived.Test.YtdlendioamiagaaDoorQ7
import Derived.Test.YtdlendioamiagaaDoorQ4
import Derived.Test.YtdlendioamiagaaDoorQ1
import Derived.Stop.LaidErr
import Derived.Lay
import Derived.MakeChecks
import Derived.RowKitTokens
import Derived.Lib.LaidU8T
/- Walks through the Go functions rhizomeref02.UTF8, rhizomeref02.Check, rhizomeref02.Encode, as typed contracts. -/
namespace Go.Proofs.YtdlendioamiagaaDoor
open Go Go.Gw Go.Vl
set_option linter.unusedVariables false
set_option linter.unusedSimpArgs false

set_option maxRecDepth 20000 in
/-- rhizome/rhizomeref02.UTF8 -/
theorem rUTF8_fn (l : List UInt8) (hl : l.length ≤ 100000) : Ct Tryd.prog 31 [BsT l] ([]) Unit (fun _ => BoolT (Lib.validD l)) (fun _ => []) (fun _ => True) := by
  refine fn_intro Tryd.func31 rfl rfl ?_
  intro H w
  refine tr_seq ?_
  -- region 0
  refine tr_env (es_cons (t := 0) (OT.tmp rfl) es_nil) ?_
  refine tr_region ?_
  refine op_pure (pu_assign OT.const) rfl rfl ?_
  refine tr_nil ?_
  refine then_normal ?_
  refine tr_seq ?_
  refine tr_seq ?_
  -- region 1
  refine tr_env (es_cons (t := 0) (OT.tmp rfl) es_nil) ?_
  refine tr_region ?_
  refine op_pure (pu_assign OT.const) rfl rfl ?_
  refine tr_nil ?_
  refine then_normal ?_
  refine tr_block ?_
  refine tr_loopK (σ := Nat) (es_cons (t := 0) (OT.tmp rfl) es_nil) (fun i => [(3, I64 (i : Int))]) (fun i => []) (fun i => i ≤ l.length ∧ Lib.validD (l.drop i) = Lib.validD l) (fun i => l.length - i) 0 ⟨Nat.zero_le _, by rw [List.drop_zero]⟩ ?_ (own_picks (by exact picks_nil)) ?_
  · exact (es_cons (t := 3) (by exact OT.tmp rfl) es_nil)
  · rintro i ⟨hi, hv⟩
    refine tr_seq ?_
    refine tr_seq ?_
    -- region 2
    refine tr_env (es_cons (t := 0) (OT.tmp rfl) (es_cons (t := 3) (OT.tmp rfl) es_nil)) ?_
    refine tr_region ?_
    refine op_pure (pu_move (OT.tmp rfl)) rfl rfl ?_
    refine op_pure (pu_move (OT.tmp rfl)) rfl rfl ?_
    refine op_pure (pu_len_bs Tryd.underlying9 (OT.tmp rfl)) rfl rfl ?_
    refine op_pure (pu_lss (OT.tmp rfl) (OT.tmp rfl)) rfl rfl ?_
    refine tr_nil ?_
    refine then_normal ?_
    refine tr_cond (OT.tmp rfl) (fun c9 => ?_) (fun c9 => ?_)
    · skip
      refine tr_skip ?_
      refine then_normal ?_
      refine tr_block ?_
      refine tr_seq ?_
      -- region 3
      refine tr_env (es_cons (t := 0) (OT.tmp rfl) (es_cons (t := 3) (OT.tmp rfl) es_nil)) ?_
      have hil : i < l.length := by simp at c9; omega
      have hne := drop_ne hil
      have hst := valid_step hne
      refine tr_region ?_
      refine op_pure (pu_move (OT.tmp rfl)) rfl rfl ?_
      refine op_pure (pu_move (OT.tmp rfl)) rfl rfl ?_
      refine op_acts (acts_call (rRune_fn l i (by omega) (by omega)) (show enters Tryd.prog 41 = true from by decide +kernel) (OTs.cons (OT.tmp rfl) (OTs.cons (OT.tmp rfl) OTs.nil)) (List.Perm.refl _)) (List.Perm.refl _) rfl rfl (fun _ _ => ?_)
      refine op_pure (pu_move (OT.tmp rfl)) rfl rfl ?_
      refine op_pure (pu_extract (OT.tmp rfl) rfl) rfl rfl ?_
      refine op_pure (pu_extract (OT.tmp rfl) rfl) rfl rfl ?_
      refine op_pure (pu_assign (OT.tmp rfl)) rfl rfl ?_
      refine op_pure (pu_assign (OT.tmp rfl)) rfl rfl ?_
      refine tr_nil ?_
      refine then_normal ?_
      refine tr_seq ?_
      refine tr_seq ?_
      -- region 4
      refine tr_env (es_cons (t := 0) (OT.tmp rfl) (es_cons (t := 3) (OT.tmp rfl) (es_cons (t := 4) (OT.tmp rfl) es_nil))) ?_
      skip
      refine tr_region ?_
      refine op_pure (pu_move (OT.tmp rfl)) rfl rfl ?_
      refine op_pure (pu_eql (OT.tmp rfl) OT.const) rfl rfl ?_
      refine tr_nil ?_
      refine then_normal ?_
      refine tr_cond (OT.tmp rfl) (fun c17 => ?_) (fun c17 => ?_)
      · skip
        have hb : badR (l.drop i) = true := by rcases refR_cases hne with ⟨h, _⟩ | ⟨_, h, h1, _⟩; exact h; rw [h] at c17; simp at c17; omega
        have hr : Lib.validD l = false := by rw [← hv, hst, hb]; rfl
        refine tr_seq ?_
        -- region 5
        refine tr_env es_nil ?_
        refine tr_region ?_
        refine op_pure (pu_assign OT.const) rfl rfl ?_
        refine tr_nil ?_
        refine then_normal ?_
        refine tr_ret ?_
        refine then_ret ?_
        refine block_ret ?_
        refine then_ret ?_
        refine block_ret ?_
        refine then_ret ?_
        exact ret_one .ret (.inl rfl) rfl () (OT.val (OT.tmp rfl) (congrArg Value.bool (hr.symm))) trivial (by exact picks_nil)
      · skip
        obtain ⟨hb, hrr, hw1, hw2⟩ : badR (l.drop i) = false ∧ refR (l.drop i) = (((rune (l.drop i)).2 : Int), ((rune (l.drop i)).1 : Int)) ∧ 1 ≤ (rune (l.drop i)).2 ∧ (rune (l.drop i)).2 ≤ (l.drop i).length := by rcases refR_cases hne with ⟨_, h⟩ | h; rw [h] at c17; simp at c17; exact h
        rw [List.length_drop] at hw2
        rw [hb, List.drop_drop] at hst
        rw [hrr]
        refine tr_skip ?_
        refine then_normal ?_
        -- region 6
        refine tr_env (es_cons (t := 0) (OT.tmp rfl) (es_cons (t := 3) (OT.tmp rfl) (es_cons (t := 4) (OT.tmp rfl) es_nil))) ?_
        refine tr_region ?_
        refine op_pure (pu_move (OT.tmp rfl)) rfl rfl ?_
        refine op_pure (pu_move (OT.tmp rfl)) rfl rfl ?_
        refine op_pure (pu_add' (OT.tmp rfl) (OT.tmp rfl) (by omega)) rfl rfl ?_
        refine op_pure (pu_assign (OT.tmp rfl)) rfl rfl ?_
        refine tr_nil ?_
        refine block_normal ?_
        refine then_normal ?_
        exact tr_again (i + (rune (l.drop i)).2) ⟨by omega, by rw [← hv, hst]; rfl⟩ (by omega) (es_append (es_cons (t := 3) (by exact OT.tmp rfl) es_nil) (es_cons (t := 0) (OT.tmp rfl) es_nil)) (own_picks (by exact picks_nil))
    · skip
      refine tr_exit ?_
      refine then_exit ?_
      refine then_exit ?_
      refine block_hit ?_
      refine then_normal ?_
      refine tr_seq ?_
      -- region 7
      refine tr_env es_nil ?_
      obtain rfl : i = l.length := by simp at c9; omega
      have hr : Lib.validD l = true := by rw [← hv, List.drop_length]; rfl
      refine tr_region ?_
      refine op_pure (pu_assign OT.const) rfl rfl ?_
      refine tr_nil ?_
      refine then_normal ?_
      refine tr_ret ?_
      exact ret_one .ret (.inl rfl) rfl () (OT.val (OT.tmp rfl) (congrArg Value.bool (hr.symm))) trivial (by exact picks_nil)
set_option maxRecDepth 20000 in
/-- rhizome/rhizomeref02.Check -/
theorem rCheck_fn (v : Vl) (hl : v.2.2.length ≤ 140737488351232) : Ct Tryd.prog 12 [kVl.T v] ([]) Unit (fun _ => I64 (checkV v)) (fun _ => []) (fun _ => True) := by
  refine fn_intro Tryd.func12 rfl rfl ?_
  intro H w
  refine tr_seq ?_
  -- region 0
  refine tr_env (es_cons (t := 0) (OT.tmp rfl) es_nil) ?_
  refine tr_region ?_
  refine op_acts (acts_box (d := kVl) (OT.tmp rfl)) (List.Perm.refl _) rfl rfl (fun g0_0 _ => ?_)
  refine op_pure (pu_assign OT.const) rfl rfl ?_
  refine tr_nil ?_
  refine then_normal ?_
  refine tr_seq ?_
  refine tr_seq ?_
  -- region 1
  refine tr_env (es_cons (t := 1) (OT.tmp rfl) es_nil) ?_
  refine tr_region ?_
  refine op_pure (pu_faddr (OT.tmp rfl) (show fieldOk Tryd.prog 23 0 0 false 1 = true from by decide +kernel)) rfl rfl ?_
  refine op_pure (pu_load_blk (OT.tmp rfl) (by exact mem_at 0 rfl) lv0 (show tyOk Tryd.prog 3 false 1 = true from by decide +kernel)) rfl rfl ?_
  refine op_pure (pu_eql (OT.tmp rfl) OT.const) rfl rfl ?_
  refine op_pure (pu_move (OT.tmp rfl)) rfl rfl ?_
  refine op_gu rfl rfl rfl (OT.gu_mk (OT.tmp rfl)) (fun hg => by (have hg1 := hg.2; (try simp only [decide_eq_true_eq, decide_eq_false_iff_not] at hg1); exact pu_faddr (by exact OT.tmp rfl) (show fieldOk Tryd.prog 23 0 0 false 1 = true from by decide +kernel))) rfl ?_
  refine op_gu rfl rfl rfl (OT.gu_mk (OT.tmp rfl)) (fun hg => by (have hg1 := hg.2; (try simp only [decide_eq_true_eq, decide_eq_false_iff_not] at hg1); exact pu_load_blk (by exact OT.gu (OT.tmp rfl) hg) (by exact mem_at 0 rfl) lv0 (show tyOk Tryd.prog 3 false 1 = true from by decide +kernel))) rfl ?_
  refine op_gu rfl rfl rfl (OT.gu_mk (OT.tmp rfl)) (fun hg => by (have hg1 := hg.2; (try simp only [decide_eq_true_eq, decide_eq_false_iff_not] at hg1); exact pu_eql (by exact OT.gu (OT.tmp rfl) hg) OT.const)) rfl ?_
  refine op_gu rfl rfl rfl (OT.gu_mk (OT.tmp rfl)) (fun hg => by (have hg1 := hg.2; (try simp only [decide_eq_true_eq, decide_eq_false_iff_not] at hg1); exact pu_move (by exact OT.gu (OT.tmp rfl) hg))) rfl ?_
  refine op_gu rfl rfl rfl (OT.tmp rfl) (fun hg => by (have hg1 := hg.2; (try simp only [decide_eq_true_eq, decide_eq_false_iff_not] at hg1); exact pu_faddr (by exact OT.tmp rfl) (show fieldOk Tryd.prog 23 1 1 false 1 = true from by decide +kernel))) rfl ?_
  refine op_gu rfl rfl rfl (OT.tmp rfl) (fun hg => by (have hg1 := hg.2; (try simp only [decide_eq_true_eq, decide_eq_false_iff_not] at hg1); exact pu_load_blk (by exact OT.gu (OT.tmp rfl) hg) (by exact mem_at 0 rfl) lv1 (show tyOk Tryd.prog 3 false 1 = true from by decide +kernel))) rfl ?_
  refine op_gu rfl rfl rfl (OT.tmp rfl) (fun hg => by (have hg1 := hg.2; (try simp only [decide_eq_true_eq, decide_eq_false_iff_not] at hg1); exact pu_eql (by exact OT.gu (OT.tmp rfl) hg) OT.const)) rfl ?_
  refine op_gu rfl rfl rfl (OT.tmp rfl) (fun hg => by (have hg1 := hg.2; (try simp only [decide_eq_true_eq, decide_eq_false_iff_not] at hg1); exact pu_move (by exact OT.gu (OT.tmp rfl) hg))) rfl ?_
  refine op_gu rfl rfl rfl (OT.tmp rfl) (fun hg => by (have hg1 := hg.2; (try simp only [decide_eq_true_eq, decide_eq_false_iff_not] at hg1); exact pu_faddr (by exact OT.tmp rfl) (show fieldOk Tryd.prog 23 1 1 false 1 = true from by decide +kernel))) rfl ?_
  refine op_gu rfl rfl rfl (OT.tmp rfl) (fun hg => by (have hg1 := hg.2; (try simp only [decide_eq_true_eq, decide_eq_false_iff_not] at hg1); exact pu_load_blk (by exact OT.gu (OT.tmp rfl) hg) (by exact mem_at 0 rfl) lv1 (show tyOk Tryd.prog 3 false 1 = true from by decide +kernel))) rfl ?_
  refine op_gu rfl rfl rfl (OT.tmp rfl) (fun hg => by (have hg1 := hg.2; (try simp only [decide_eq_true_eq, decide_eq_false_iff_not] at hg1); exact pu_eql (by exact OT.gu (OT.tmp rfl) hg) OT.const)) rfl ?_
  refine op_gu rfl rfl rfl (OT.tmp rfl) (fun hg => by (have hg1 := hg.2; (try simp only [decide_eq_true_eq, decide_eq_false_iff_not] at hg1); exact pu_pick_or_p hg (by exact OT.gu (OT.tmp rfl) hg) (OT.tmp rfl))) rfl ?_
  refine op_gu rfl rfl rfl (OT.gu_mk (OT.tmp rfl)) (fun hg => by (have hg1 := hg.2; (try simp only [decide_eq_true_eq, decide_eq_false_iff_not] at hg1); exact pu_pick_and_p hg (by exact OT.gu (OT.tmp rfl) hg) (OT.tmp rfl))) rfl ?_
  refine op_pure (pu_pick_or (OT.tmp rfl) (by exact OT.tmp rfl)) rfl rfl ?_
  refine tr_nil ?_
  refine then_normal ?_
  refine tr_cond (OT.tmp rfl) (fun c20 => ?_) (fun c20 => ?_)
  · skip
    refine tr_seq ?_
    -- region 2
    refine tr_env es_nil ?_
    refine tr_region ?_
    refine op_pure (pu_assign OT.const) rfl rfl ?_
    refine tr_nil ?_
    refine then_normal ?_
    refine tr_ret ?_
    refine then_ret ?_
    exact ret_one .ret (.inl rfl) rfl () (OT.val (OT.tmp rfl) (congrArg (Value.int _) (by (try simp only [Bool.and_eq_true, Bool.and_eq_false_iff, Bool.or_eq_true, Bool.or_eq_false_iff, Bool.not_eq_true', Bool.not_eq_false', decide_eq_true_eq, decide_eq_false_iff_not] at *); unfold checkV; (repeat' split) <;> first | rfl | (exfalso; omega) | (exfalso; simp_all; done)))) trivial (by exact picks_nil)
  · skip
    refine tr_skip ?_
    refine then_normal ?_
    refine tr_seq ?_
    refine tr_seq ?_
    -- region 3
    refine tr_env (es_cons (t := 1) (OT.tmp rfl) es_nil) ?_
    refine tr_region ?_
    refine op_pure (pu_faddr (OT.tmp rfl) (show fieldOk Tryd.prog 23 0 0 false 1 = true from by decide +kernel)) rfl rfl ?_
    refine op_pure (pu_load_blk (OT.tmp rfl) (by exact mem_at 0 rfl) lv0 (show tyOk Tryd.prog 3 false 1 = true from by decide +kernel)) rfl rfl ?_
    refine op_pure (pu_neq (OT.tmp rfl) OT.const) rfl rfl ?_
    refine tr_nil ?_
    refine then_normal ?_
    refine tr_cond (OT.tmp rfl) (fun c23 => ?_) (fun c23 => ?_)
    · skip
      refine tr_seq ?_
      -- region 4
      refine tr_env es_nil ?_
      refine tr_region ?_
      refine op_pure (pu_assign OT.const) rfl rfl ?_
      refine tr_nil ?_
      refine then_normal ?_
      refine tr_ret ?_
      refine then_ret ?_
      exact ret_one .ret (.inl rfl) rfl () (OT.val (OT.tmp rfl) (congrArg (Value.int _) (by (try simp only [Bool.and_eq_true, Bool.and_eq_false_iff, Bool.or_eq_true, Bool.or_eq_false_iff, Bool.not_eq_true', Bool.not_eq_false', decide_eq_true_eq, decide_eq_false_iff_not] at *); unfold checkV; (repeat' split) <;> first | rfl | (exfalso; omega) | (exfalso; simp_all; done)))) trivial (by exact picks_nil)
    · skip
      refine tr_skip ?_
      refine then_normal ?_
      refine tr_seq ?_
      refine tr_seq ?_
      -- region 5
      refine tr_env (es_cons (t := 1) (OT.tmp rfl) es_nil) ?_
      refine tr_region ?_
      refine op_pure (pu_faddr (OT.tmp rfl) (show fieldOk Tryd.prog 23 2 2 false 1 = true from by decide +kernel)) rfl rfl ?_
      refine op_pure (pu_load_blk (OT.tmp rfl) (by exact mem_at 0 rfl) lv2 (show tyOk Tryd.prog 9 false 1 = true from by decide +kernel)) rfl rfl ?_
      refine op_pure (pu_len_bs Tryd.underlying9 (OT.tmp rfl)) rfl rfl ?_
      refine op_pure (pu_gtr (OT.tmp rfl) OT.const) rfl rfl ?_
      refine tr_nil ?_
      refine then_normal ?_
      refine tr_cond (OT.tmp rfl) (fun c27 => ?_) (fun c27 => ?_)
      · skip
        refine tr_seq ?_
        -- region 6
        refine tr_env es_nil ?_
        refine tr_region ?_
        refine op_pure (pu_assign OT.const) rfl rfl ?_
        refine tr_nil ?_
        refine then_normal ?_
        refine tr_ret ?_
        refine then_ret ?_
        exact ret_one .ret (.inl rfl) rfl () (OT.val (OT.tmp rfl) (congrArg (Value.int _) (by (try simp only [Bool.and_eq_true, Bool.and_eq_false_iff, Bool.or_eq_true, Bool.or_eq_false_iff, Bool.not_eq_true', Bool.not_eq_false', decide_eq_true_eq, decide_eq_false_iff_not] at *); unfold checkV; (repeat' split) <;> first | rfl | (exfalso; omega) | (exfalso; simp_all; done)))) trivial (by exact picks_nil)
      · skip
        have hl64 : v.2.2.length ≤ 64 := by simp at c27; omega
        refine tr_skip ?_
        refine then_normal ?_
        refine tr_seq ?_
        refine tr_seq ?_
        -- region 7
        refine tr_env (es_cons (t := 1) (OT.tmp rfl) es_nil) ?_
        refine tr_region ?_
        refine op_pure (pu_faddr (OT.tmp rfl) (show fieldOk Tryd.prog 23 2 2 false 1 = true from by decide +kernel)) rfl rfl ?_
        refine op_pure (pu_load_blk (OT.tmp rfl) (by exact mem_at 0 rfl) lv2 (show tyOk Tryd.prog 9 false 1 = true from by decide +kernel)) rfl rfl ?_
        refine op_acts (acts_call (rUTF8_fn _ (by omega)) (show enters Tryd.prog 31 = true from by decide +kernel) (OTs.cons (OT.tmp rfl) OTs.nil) (List.Perm.refl _)) (List.Perm.refl _) rfl rfl (fun _ _ => ?_)
        refine op_pure (pu_not (OT.tmp rfl)) rfl rfl ?_
        refine tr_nil ?_
        refine then_normal ?_
        refine tr_cond (OT.tmp rfl) (fun c31 => ?_) (fun c31 => ?_)
        · skip
          refine tr_seq ?_
          -- region 8
          refine tr_env es_nil ?_
          refine tr_region ?_
          refine op_pure (pu_assign OT.const) rfl rfl ?_
          refine tr_nil ?_
          refine then_normal ?_
          refine tr_ret ?_
          refine then_ret ?_
          exact ret_one .ret (.inl rfl) rfl () (OT.val (OT.tmp rfl) (congrArg (Value.int _) (by (try simp only [Bool.and_eq_true, Bool.and_eq_false_iff, Bool.or_eq_true, Bool.or_eq_false_iff, Bool.not_eq_true', Bool.not_eq_false', decide_eq_true_eq, decide_eq_false_iff_not] at *); unfold checkV; (repeat' split) <;> first | rfl | (exfalso; omega) | (exfalso; simp_all; done)))) trivial (by exact picks_nil)
        · skip
          refine tr_skip ?_
          refine then_normal ?_
          refine tr_seq ?_
          -- region 9
          refine tr_env es_nil ?_
          refine tr_region ?_
          refine op_pure (pu_assign OT.const) rfl rfl ?_
          refine tr_nil ?_
          refine then_normal ?_
          refine tr_ret ?_
          exact ret_one .ret (.inl rfl) rfl () (OT.val (OT.tmp rfl) (congrArg (Value.int _) (by (try simp only [Bool.and_eq_true, Bool.and_eq_false_iff, Bool.or_eq_true, Bool.or_eq_false_iff, Bool.not_eq_true', Bool.not_eq_false', decide_eq_true_eq, decide_eq_false_iff_not] at *); unfold checkV; (repeat' split) <;> first | rfl | (exfalso; omega) | (exfalso; simp_all; done)))) trivial (by exact picks_nil)
set_option maxRecDepth 20000 in
/-- rhizome/rhizomeref02.Encode -/
theorem rEncode_fn (v : Vl) (hc : checkV v = 0) (hi0 : -9223372036854775808 ≤ v.2.1) (hi1 : v.2.1 ≤ 9223372036854775807) : Ct Tryd.prog 16 [kVl.T v] ([]) Unit (fun _ => SlT (kint .u8) (nums (encV v))) (fun _ => []) (fun _ => True) := by
  refine fn_intro Tryd.func16 rfl rfl ?_
  intro H w
  have hcase := check_ok hc
  have hz64 := zig_lt hi0 hi1
  refine tr_seq ?_
  -- region 0
  refine tr_env (es_cons (t := 0) (OT.tmp rfl) es_nil) ?_
  refine tr_region ?_
  refine op_acts (acts_box (d := kVl) (OT.tmp rfl)) (List.Perm.refl _) rfl rfl (fun g0_0 _ => ?_)
  refine op_pure (pu_assign OT.const) rfl rfl ?_
  refine tr_nil ?_
  refine then_normal ?_
  refine tr_seq ?_
  refine tr_seq ?_
  -- region 1
  refine tr_env (es_cons (t := 1) (OT.tmp rfl) es_nil) ?_
  refine tr_region ?_
  refine op_pure (pu_faddr (OT.tmp rfl) (show fieldOk Tryd.prog 23 0 0 false 1 = true from by decide +kernel)) rfl rfl ?_
  refine op_pure (pu_load_blk (OT.tmp rfl) (by exact mem_at 0 rfl) lv0 (show tyOk Tryd.prog 3 false 1 = true from by decide +kernel)) rfl rfl ?_
  refine op_pure (pu_eql (OT.tmp rfl) OT.const) rfl rfl ?_
  refine tr_nil ?_
  refine then_normal ?_
  refine tr_cond (OT.tmp rfl) (fun c7 => ?_) (fun c7 => ?_)
  · skip
    have hk : v.1 = 3 := of_decide_eq_true c7
    have hi : v.2.1 = 0 ∨ v.2.1 = 1 := by omega
    have hev : encV v = [3, UInt8.ofNat v.2.1.toNat] := if_pos hk
    refine tr_seq ?_
    -- region 2
    refine tr_env (es_cons (t := 1) (OT.tmp rfl) es_nil) ?_
    refine tr_region ?_
    refine op_pure (pu_faddr (OT.tmp rfl) (show fieldOk Tryd.prog 23 1 1 false 1 = true from by decide +kernel)) rfl rfl ?_
    refine op_pure (pu_load_blk (OT.tmp rfl) (by exact mem_at 0 rfl) lv1 (show tyOk Tryd.prog 3 false 1 = true from by decide +kernel)) rfl rfl ?_
    refine op_pure (pu_convert (OT.tmp rfl) Tryd.underlying3 Tryd.underlying5) rfl rfl ?_
    refine op_acts (acts_lit_own (d := (kint .u8)) (v0 := 0) (show slTy Tryd.prog 26 5 1 1 = true from by decide +kernel) (show tyOk Tryd.prog 5 false 1 = true from by decide +kernel) z5 (show 2 * 1 ≤ 16777216 from by decide) (by decide) (fills_arr rfl rfl (by decide) OT.const (fills_arr rfl rfl (by decide) (OT.tmp rfl) fills_nil))) (List.Perm.refl _) rfl rfl (fun v2_3 _ => ?_)
    refine op_pure (pu_assign (OT.tmp rfl)) rfl rfl ?_
    refine tr_nil ?_
    refine tr_freeze (by exact perm_at 0 rfl) 2 (OT.tmp rfl) ?_
    refine then_normal ?_
    refine tr_ret ?_
    refine then_ret ?_
    exact ret_one .ret (.inl rfl) rfl () (OT.eq (OT.tmp rfl) (congrArg (SlT (kint .u8)) (by rw [hev]; rcases hi with h | h <;> rw [h] <;> rfl))) trivial (by exact picks_nil)
  · skip
    refine tr_skip ?_
    refine then_normal ?_
    refine tr_seq ?_
    refine tr_seq ?_
    -- region 3
    refine tr_env (es_cons (t := 1) (OT.tmp rfl) es_nil) ?_
    refine tr_region ?_
    refine op_pure (pu_faddr (OT.tmp rfl) (show fieldOk Tryd.prog 23 0 0 false 1 = true from by decide +kernel)) rfl rfl ?_
    refine op_pure (pu_load_blk (OT.tmp rfl) (by exact mem_at 0 rfl) lv0 (show tyOk Tryd.prog 3 false 1 = true from by decide +kernel)) rfl rfl ?_
    refine op_pure (pu_eql (OT.tmp rfl) OT.const) rfl rfl ?_
    refine tr_nil ?_
    refine then_normal ?_
    refine tr_cond (OT.tmp rfl) (fun c14 => ?_) (fun c14 => ?_)
    · skip
      have hk : v.1 = 2 := of_decide_eq_true c14
      have hlt : v.2.2.length ≤ 64 := by omega
      have hev : encV v = 2 :: UInt8.ofNat v.2.2.length :: v.2.2 := by unfold encV; rw [if_neg (by omega), if_pos hk]
      refine tr_seq ?_
      -- region 4
      refine tr_env (es_cons (t := 1) (OT.tmp rfl) es_nil) ?_
      refine tr_region ?_
      refine op_pure (pu_faddr (OT.tmp rfl) (show fieldOk Tryd.prog 23 2 2 false 1 = true from by decide +kernel)) rfl rfl ?_
      refine op_pure (pu_load_blk (OT.tmp rfl) (by exact mem_at 0 rfl) lv2 (show tyOk Tryd.prog 9 false 1 = true from by decide +kernel)) rfl rfl ?_
      refine op_pure (pu_len_bs Tryd.underlying9 (OT.tmp rfl)) rfl rfl ?_
      refine op_pure (pu_convert (OT.tmp rfl) Tryd.underlying3 Tryd.underlying5) rfl rfl ?_
      refine op_acts (acts_lit_own (d := (kint .u8)) (v0 := 0) (show slTy Tryd.prog 26 5 1 1 = true from by decide +kernel) (show tyOk Tryd.prog 5 false 1 = true from by decide +kernel) z5 (show 2 * 1 ≤ 16777216 from by decide) (by decide) (fills_arr rfl rfl (by decide) OT.const (fills_arr rfl rfl (by decide) (OT.tmp rfl) fills_nil))) (List.Perm.refl _) rfl rfl (fun v4_4 _ => ?_)
      refine op_pure (pu_faddr (OT.tmp rfl) (show fieldOk Tryd.prog 23 2 2 false 1 = true from by decide +kernel)) rfl rfl ?_
      refine op_pure (pu_load_blk (OT.tmp rfl) (by exact mem_at 1 rfl) lv2 (show tyOk Tryd.prog 9 false 1 = true from by decide +kernel)) rfl rfl ?_
      refine op_acts (acts_append_bs (OT.tmp rfl) (by exact perm_at 0 rfl) (OT.tmp rfl) (show slTy Tryd.prog 26 5 1 1 = true from by decide +kernel) (by kernel_rfl) Tryd.underlying9 (by (simp; omega)) (by (simp [maxLen]; omega))) (by exact perm_at 0 rfl) rfl rfl (fun v4_7 _ => ?_)
      refine op_pure (pu_assign (OT.tmp rfl)) rfl rfl ?_
      refine tr_nil ?_
      refine tr_freeze (by exact perm_at 0 rfl) 2 (OT.tmp rfl) ?_
      refine then_normal ?_
      refine tr_ret ?_
      refine then_ret ?_
      exact ret_one .ret (.inl rfl) rfl () (OT.eq (OT.tmp rfl) (congrArg (SlT (kint .u8)) (by rw [hev]; show [2, IntKind.u8.wrap (v.2.2.length : Int)] ++ nums v.2.2 = nums (2 :: UInt8.ofNat v.2.2.length :: v.2.2); rw [wrapk (by omega)]; rfl))) trivial (by exact picks_nil)
    · skip
      have h2 := of_decide_eq_false c14
      have h3 := of_decide_eq_false c7
      have hk : v.1 = 1 := by omega
      have hev : encV v = 1 :: varint (zig v.2.1) := by unfold encV; rw [if_neg (by omega), if_neg (by omega)]
      refine tr_skip ?_
      refine then_normal ?_
      refine tr_seq ?_
      -- region 5
      refine tr_env (es_cons (t := 1) (OT.tmp rfl) es_nil) ?_
      refine tr_region ?_
      refine op_pure (pu_faddr (OT.tmp rfl) (show fieldOk Tryd.prog 23 1 1 false 1 = true from by decide +kernel)) rfl rfl ?_
      refine op_pure (pu_load_blk (OT.tmp rfl) (by exact mem_at 0 rfl) lv1 (show tyOk Tryd.prog 3 false 1 = true from by decide +kernel)) rfl rfl ?_
      refine op_pure (pu_convert (OT.tmp rfl) Tryd.underlying3 Tryd.underlying64) rfl rfl ?_
      refine op_pure (pu_mul (OT.tmp rfl) OT.const) rfl rfl ?_
      refine op_pure (pu_assign (OT.tmp rfl)) rfl rfl ?_
      refine tr_nil ?_
      refine then_normal ?_
      refine tr_joinK (σ := Unit) es_nil (fun _ => [(3, IntT .u64 (zig v.2.1 : Int))]) (fun _ => [BlkI g0_0 23 kVl v]) (fun _ => True) ?_ ?_
      · skip
        refine tr_seq ?_
        -- region 6
        refine tr_env (es_cons (t := 1) (OT.tmp rfl) (es_cons (t := 3) (OT.tmp rfl) es_nil)) ?_
        refine tr_region ?_
        refine op_pure (pu_faddr (OT.tmp rfl) (show fieldOk Tryd.prog 23 1 1 false 1 = true from by decide +kernel)) rfl rfl ?_
        refine op_pure (pu_load_blk (OT.tmp rfl) (by exact mem_at 0 rfl) lv1 (show tyOk Tryd.prog 3 false 1 = true from by decide +kernel)) rfl rfl ?_
        refine op_pure (pu_lss (OT.tmp rfl) OT.const) rfl rfl ?_
        refine tr_nil ?_
        refine then_normal ?_
        refine tr_cond (OT.tmp rfl) (fun c29 => ?_) (fun c29 => ?_)
        · skip
          -- region 7
          refine tr_env (es_cons (t := 1) (OT.tmp rfl) es_nil) ?_
          have hneg := of_decide_eq_true c29
          refine tr_region ?_
          refine op_pure (pu_faddr (OT.tmp rfl) (show fieldOk Tryd.prog 23 1 1 false 1 = true from by decide +kernel)) rfl rfl ?_
          refine op_pure (pu_load_blk (OT.tmp rfl) (by exact mem_at 0 rfl) lv1 (show tyOk Tryd.prog 3 false 1 = true from by decide +kernel)) rfl rfl ?_
          refine op_pure (pu_add' (OT.tmp rfl) OT.const (by omega)) rfl rfl ?_
          refine op_pure (pu_neg (OT.tmp rfl) (by omega)) rfl rfl ?_
          refine op_pure (pu_convert (OT.tmp rfl) Tryd.underlying3 Tryd.underlying64) rfl rfl ?_
          refine op_pure (pu_mul (OT.tmp rfl) OT.const) rfl rfl ?_
          refine op_pure (pu_add (OT.tmp rfl) OT.const) rfl rfl ?_
          refine op_pure (pu_assign (OT.tmp rfl)) rfl rfl ?_
          refine tr_nil ?_
          refine then_normal ?_
          exact tr_joined () trivial (es_append (es_cons (t := 3) (OT.val (OT.tmp rfl) (congrArg (Value.int _) (zig_neg hi0 (of_decide_eq_true c29)))) es_nil) es_nil) (own_picks (by repeat (first | exact picks_nil | refine picks_cons 0 rfl ?_ | refine picks_cons 1 rfl ?_ | refine picks_cons 2 rfl ?_ | refine picks_cons 3 rfl ?_ | refine picks_cons 4 rfl ?_ | refine picks_cons 5 rfl ?_ | refine picks_cons 6 rfl ?_)))
        · skip
          refine tr_skip ?_
          refine then_normal ?_
          exact tr_joined () trivial (es_append (es_cons (t := 3) (OT.val (OT.tmp rfl) (congrArg (Value.int _) (zig_pos hi1 (of_decide_eq_false c29)))) es_nil) es_nil) (own_picks (by repeat (first | exact picks_nil | refine picks_cons 0 rfl ?_ | refine picks_cons 1 rfl ?_ | refine picks_cons 2 rfl ?_ | refine picks_cons 3 rfl ?_ | refine picks_cons 4 rfl ?_ | refine picks_cons 5 rfl ?_ | refine picks_cons 6 rfl ?_)))
      · rintro _ _
        refine tr_seq ?_
        -- region 8
        refine tr_env (es_cons (t := 3) (OT.tmp rfl) es_nil) ?_
        refine tr_region ?_
        refine op_acts (acts_lit_own (d := (kint .u8)) (v0 := 0) (show slTy Tryd.prog 26 5 1 1 = true from by decide +kernel) (show tyOk Tryd.prog 5 false 1 = true from by decide +kernel) z5 (show 1 * 1 ≤ 16777216 from by decide) (by decide) (fills_arr rfl rfl (by decide) OT.const fills_nil)) (List.Perm.refl _) rfl rfl (fun v8_0 _ => ?_)
        refine op_pure (pu_assign (OT.tmp rfl)) rfl rfl ?_
        refine tr_nil ?_
        refine then_normal ?_
        refine tr_seq ?_
        refine tr_block ?_
        refine tr_loopK (σ := Nat × Value × List UInt8) es_nil (fun s => [(3, IntT .u64 (s.1 : Int)), (4, IsV s.2.1)]) (fun s => [OwnI 5 (kint .u8) s.2.1 (nums s.2.2), BlkI g0_0 23 kVl v]) (fun s => s.1 < 18446744073709551616 ∧ s.2.2 ++ varint s.1 = encV v ∧ s.2.2.length ≤ 20) (fun s => s.1) (zig v.2.1, v8_0, [1]) ⟨hz64, by rw [hev]; rfl, by show (1 : Nat) ≤ 20; omega⟩ ?_ (own_picks (picks_cons 0 rfl (picks_cons 0 rfl picks_nil))) ?_
        · exact (es_cons (t := 3) (OT.tmp rfl) (es_cons (t := 4) (OT.tmp rfl) es_nil))
        · rintro ⟨n, u, out⟩ ⟨hn64, hout, hol⟩
          dsimp only at hn64 hout hol ⊢
          refine tr_seq ?_
          refine tr_seq ?_
          -- region 9
          refine tr_env (es_cons (t := 3) (OT.tmp rfl) (es_cons (t := 4) (OT.tmp rfl) es_nil)) ?_
          refine tr_region ?_
          refine op_pure (pu_move (OT.tmp rfl)) rfl rfl ?_
          refine op_pure (pu_gtr (OT.tmp rfl) OT.const) rfl rfl ?_
          refine tr_nil ?_
          refine then_normal ?_
          refine tr_cond (OT.tmp rfl) (fun c39 => ?_) (fun c39 => ?_)
          · skip
            refine tr_skip ?_
            refine then_normal ?_
            refine tr_block ?_
            refine tr_seq ?_
            -- region 10
            refine tr_env (es_cons (t := 3) (OT.tmp rfl) (es_cons (t := 4) (OT.tmp rfl) es_nil)) ?_
            refine tr_region ?_
            refine op_pure (pu_move (OT.tmp rfl)) rfl rfl ?_
            refine op_pure (pu_move (OT.tmp rfl)) rfl rfl ?_
            refine op_pure (pu_rem' (OT.tmp rfl) OT.const (by omega) (by decide)) rfl rfl ?_
            refine op_pure (pu_convert (OT.tmp rfl) Tryd.underlying64 Tryd.underlying5) rfl rfl ?_
            refine op_pure (pu_add (OT.tmp rfl) OT.const) rfl rfl ?_
            refine op_acts (acts_lit (d := (kint .u8)) (v0 := 0) (show slTy Tryd.prog 26 5 1 1 = true from by decide +kernel) (show tyOk Tryd.prog 5 false 1 = true from by decide +kernel) z5 (show 1 * 1 ≤ 16777216 from by decide) (by decide) (fills_arr rfl rfl (by decide) (OT.tmp rfl) fills_nil)) (List.Perm.refl _) rfl rfl (fun _ _ => ?_)
            refine op_acts (acts_append (OT.tmp rfl) (by exact perm_at 0 rfl) (OT.tmp rfl) (show slTy Tryd.prog 26 5 1 1 = true from by decide +kernel) (by (simp; omega)) (by (simp [maxLen]; omega))) (by exact perm_at 0 rfl) rfl rfl (fun v10_6 _ => ?_)
            refine op_pure (pu_assign (OT.tmp rfl)) rfl rfl ?_
            refine tr_nil ?_
            have hn8 : ¬ n < 128 := by simp at c39; omega
            refine then_normal ?_
            -- region 11
            refine tr_env (es_cons (t := 3) (OT.tmp rfl) (es_cons (t := 4) (OT.tmp rfl) es_nil)) ?_
            refine tr_region ?_
            refine op_pure (pu_move (OT.tmp rfl)) rfl rfl ?_
            refine op_pure (pu_quo (OT.tmp rfl) OT.const (by decide)) rfl rfl ?_
            refine op_pure (pu_assign (OT.tmp rfl)) rfl rfl ?_
            refine tr_nil ?_
            refine block_normal ?_
            refine then_normal ?_
            exact tr_again (n / 128, v10_6, out ++ [UInt8.ofNat (n % 128 + 128)]) ⟨by show n / 128 < _; omega, by show (out ++ _) ++ varint (n / 128) = _; rw [← hout, varint_big hn8, List.append_assoc]; rfl, by have h20 := congrArg List.length hout; have h21 := (varint_ten hz64).2; have h22 := (varint_ten (n := n / 128) (by omega)).1; rw [varint_big hn8, hev] at h20; simp at h20; show (out ++ [_]).length ≤ 20; simp; omega⟩ (by show n / 128 < n; omega) (es_append (es_cons (t := 3) (OT.val (OT.tmp rfl) (congrArg (Value.int _) (quo128 hn64))) (es_cons (t := 4) (OT.tmp rfl) es_nil)) es_nil) (own_picks (by rw [nums_app, nums_one, ← rem128]; exact (by repeat (first | exact picks_nil | refine picks_cons 0 rfl ?_ | refine picks_cons 1 rfl ?_ | refine picks_cons 2 rfl ?_ | refine picks_cons 3 rfl ?_ | refine picks_cons 4 rfl ?_ | refine picks_cons 5 rfl ?_ | refine picks_cons 6 rfl ?_))))
          · skip
            refine tr_exit ?_
            refine then_exit ?_
            refine then_exit ?_
            refine block_hit ?_
            refine then_normal ?_
            refine tr_seq ?_
            -- region 12
            refine tr_env (es_cons (t := 3) (OT.tmp rfl) (es_cons (t := 4) (OT.tmp rfl) es_nil)) ?_
            refine tr_region ?_
            refine op_pure (pu_move (OT.tmp rfl)) rfl rfl ?_
            refine op_pure (pu_move (OT.tmp rfl)) rfl rfl ?_
            refine op_pure (pu_convert (OT.tmp rfl) Tryd.underlying64 Tryd.underlying5) rfl rfl ?_
            refine op_acts (acts_lit (d := (kint .u8)) (v0 := 0) (show slTy Tryd.prog 26 5 1 1 = true from by decide +kernel) (show tyOk Tryd.prog 5 false 1 = true from by decide +kernel) z5 (show 1 * 1 ≤ 16777216 from by decide) (by decide) (fills_arr rfl rfl (by decide) (OT.tmp rfl) fills_nil)) (List.Perm.refl _) rfl rfl (fun _ _ => ?_)
            refine op_acts (acts_append (OT.tmp rfl) (by exact perm_at 0 rfl) (OT.tmp rfl) (show slTy Tryd.prog 26 5 1 1 = true from by decide +kernel) (by (simp; omega)) (by (simp [maxLen]; omega))) (by exact perm_at 0 rfl) rfl rfl (fun v12_4 _ => ?_)
            refine op_pure (pu_assign (OT.tmp rfl)) rfl rfl ?_
            refine tr_nil ?_
            have hn8 : n < 128 := by simp at c39; omega
            refine tr_freeze (by exact perm_at 0 rfl) 2 (OT.tmp rfl) ?_
            refine then_normal ?_
            refine tr_ret ?_
            exact ret_one .ret (.inl rfl) rfl () (OT.eq (OT.tmp rfl) (congrArg (SlT (kint .u8)) (by rw [← hout, varint_small hn8, nums_app]; show _ ++ [_] = _ ++ [_]; rw [wrapk (by omega)]))) trivial (by exact picks_nil)
end Go.Proofs.YtdlendioamiagaaDoor
/- Walks through the Go functions rhizomeref02.hex, rhizomeref01.Digits, as typed contracts. -/
namespace Go.Proofs.YtdlendioamiagaaDoor
open Go Go.Gw Go.Vl
set_option linter.unusedVariables false
set_option linter.unusedSimpArgs false

set_option maxRecDepth 20000 in
/-- rhizome/rhizomeref02.hex -/
theorem rHex_fn (n : Nat) (h : n < 128) : Ct Tryd.prog 42 [I64 (n : Int)] ([]) Unit (fun _ => BsT (hexL n)) (fun _ => []) (fun _ => True) := by
  refine fn_intro Tryd.func42 rfl rfl ?_
  intro H w
  refine tr_seq ?_
  -- region 0
  refine tr_env (es_cons (t := 0) (OT.tmp rfl) es_nil) ?_
  refine tr_region ?_
  refine op_pure (pu_assign OT.const) rfl rfl ?_
  refine tr_nil ?_
  refine then_normal ?_
  refine tr_seq ?_
  -- region 1
  refine tr_env (es_cons (t := 0) (OT.tmp rfl) es_nil) ?_
  refine tr_region ?_
  refine op_pure (pu_assign OT.const) rfl rfl ?_
  refine tr_nil ?_
  refine then_normal ?_
  refine tr_seq ?_
  refine tr_block ?_
  refine tr_loopK (σ := Bool) es_nil (fun b => [(0, I64 (leftH n b : Int)), (3, BsT (sH n b))]) (fun b => []) (fun b => b = true → 16 ≤ n) (fun b => (if b then 0 else 1)) false (fun h => by cases h) ?_ (own_picks (by exact picks_nil)) ?_
  · exact (es_cons (t := 0) (OT.tmp rfl) (es_cons (t := 3) (OT.tmp rfl) es_nil))
  · rintro b hb1
    refine tr_seq ?_
    refine tr_seq ?_
    -- region 2
    refine tr_env (es_cons (t := 0) (OT.tmp rfl) (es_cons (t := 3) (OT.tmp rfl) es_nil)) ?_
    refine tr_region ?_
    refine op_pure (pu_move (OT.tmp rfl)) rfl rfl ?_
    refine op_pure (pu_gtr (OT.tmp rfl) OT.const) rfl rfl ?_
    refine op_pure (pu_move (OT.tmp rfl)) rfl rfl ?_
    refine op_gu rfl rfl rfl (OT.gu_mk (OT.tmp rfl)) (fun hg => by (have hg1 := hg.2; (try simp only [decide_eq_true_eq, decide_eq_false_iff_not] at hg1); exact pu_move (by exact OT.tmp rfl))) rfl ?_
    refine op_gu rfl rfl rfl (OT.gu_mk (OT.tmp rfl)) (fun hg => by (have hg1 := hg.2; (try simp only [decide_eq_true_eq, decide_eq_false_iff_not] at hg1); exact pu_bs_eql (by exact OT.gu (OT.tmp rfl) hg) OT.const)) rfl ?_
    refine op_pure (pu_pick_or (OT.tmp rfl) (by exact OT.tmp rfl)) rfl rfl ?_
    refine tr_nil ?_
    refine then_normal ?_
    refine tr_cond (OT.tmp rfl) (fun c9 => ?_) (fun c9 => ?_)
    · skip
      refine tr_skip ?_
      refine then_normal ?_
      refine tr_block ?_
      refine tr_seq ?_
      -- region 3
      refine tr_env (es_cons (t := 0) (OT.tmp rfl) (es_cons (t := 3) (OT.tmp rfl) es_nil)) ?_
      obtain rfl : b = false := by cases b with | false => rfl | true => (exfalso; simp [sH, leftH] at c9; omega)
      refine tr_as 0 (T := I64 (n : Int)) (OT.tmp rfl) (tr_as 3 (T := BsT []) (OT.tmp rfl) ?_)
      refine tr_region ?_
      refine op_pure (pu_move (OT.tmp rfl)) rfl rfl ?_
      refine op_pure (pu_rem' (OT.tmp rfl) OT.const (by omega) (by omega)) rfl rfl ?_
      refine op_pure (pu_bs_index OT.const (OT.tmp rfl) Tryd.underlying9 (by omega) (by (simp; omega))) rfl rfl ?_
      have hdx := dig16_at (n := n % 16) (by omega)
      refine tr_as 12 (T := IntT .u8 ((dig (n % 16)).toNat : Int)) (OT.val (OT.tmp rfl) (congrArg (Value.int _) ((show at' (nums digs16) ((n : Int) % 16) = _ from by rw [show (n : Int) % 16 = ((n % 16 : Nat) : Int) from by omega]; exact hdx.1)))) ?_
      refine op_pure (pu_rune_str (OT.tmp rfl) Tryd.underlying5 Tryd.underlying9 (by omega)) rfl rfl ?_
      refine tr_as 13 (T := BsT [dig (n % 16)]) (OT.val (OT.tmp rfl) (congrArg Value.string (congrArg bs (enc_byte hdx.2)))) ?_
      refine op_pure (pu_move (OT.tmp rfl)) rfl rfl ?_
      refine op_pure (pu_bs_add (OT.tmp rfl) (OT.tmp rfl) (by (simp; done))) rfl rfl ?_
      refine op_pure (pu_assign (OT.tmp rfl)) rfl rfl ?_
      refine tr_nil ?_
      refine then_normal ?_
      refine tr_seq ?_
      -- region 4
      refine tr_env (es_cons (t := 0) (OT.tmp rfl) (es_cons (t := 3) (OT.tmp rfl) es_nil)) ?_
      refine tr_region ?_
      refine op_pure (pu_move (OT.tmp rfl)) rfl rfl ?_
      refine op_pure (pu_quo' (OT.tmp rfl) OT.const (by omega) (by omega)) rfl rfl ?_
      refine op_pure (pu_assign (OT.tmp rfl)) rfl rfl ?_
      refine tr_nil ?_
      refine then_normal ?_
      refine tr_seq ?_
      -- region 5
      refine tr_env (es_cons (t := 0) (OT.tmp rfl) (es_cons (t := 3) (OT.tmp rfl) es_nil)) ?_
      refine tr_region ?_
      refine op_pure (pu_move (OT.tmp rfl)) rfl rfl ?_
      refine op_pure (pu_eql (OT.tmp rfl) OT.const) rfl rfl ?_
      refine tr_nil ?_
      refine then_normal ?_
      refine tr_cond (OT.tmp rfl) (fun c19 => ?_) (fun c19 => ?_)
      · skip
        have hr : [dig (n % 16)] ++ [] = hexL n := by rw [hex_one (by have h9 := of_decide_eq_true c19; omega), show n % 16 = n from by have h9 := of_decide_eq_true c19; omega]; rfl
        refine tr_seq ?_
        -- region 6
        refine tr_env (es_cons (t := 3) (OT.tmp rfl) es_nil) ?_
        refine tr_region ?_
        refine op_pure (pu_move (OT.tmp rfl)) rfl rfl ?_
        refine op_pure (pu_assign (OT.tmp rfl)) rfl rfl ?_
        refine tr_nil ?_
        refine then_normal ?_
        refine tr_ret ?_
        refine block_ret ?_
        refine then_ret ?_
        refine block_ret ?_
        refine then_ret ?_
        exact ret_one .ret (.inl rfl) rfl () (OT.val (OT.tmp rfl) (congrArg Value.string (congrArg bs (hr)))) trivial (by exact picks_nil)
      · skip
        have hn16 : 16 ≤ n := by have h9 := of_decide_eq_false c19; omega
        refine tr_skip ?_
        refine block_normal ?_
        refine then_normal ?_
        exact tr_again true (fun _ => hn16) (by decide) (es_append (es_cons (t := 0) (OT.val (OT.tmp rfl) (congrArg (Value.int _) (show (n : Int) / 16 = ((n / 16 : Nat) : Int) from by omega))) (es_cons (t := 3) (OT.tmp rfl) es_nil)) es_nil) (own_picks (by exact picks_nil))
    · skip
      obtain rfl : b = true := by cases b with | true => rfl | false => (exfalso; simp [sH] at c9)
      have hn16 := hb1 rfl
      refine tr_exit ?_
      refine then_exit ?_
      refine then_exit ?_
      refine block_hit ?_
      refine then_normal ?_
      refine tr_seq ?_
      -- region 7
      refine tr_env (es_cons (t := 0) (OT.tmp rfl) (es_cons (t := 3) (OT.tmp rfl) es_nil)) ?_
      refine tr_as 0 (T := I64 ((n / 16 : Nat) : Int)) (OT.tmp rfl) (tr_as 3 (T := BsT [dig (n % 16)]) (OT.tmp rfl) ?_)
      have hr : [dig (n / 16)] ++ [dig (n % 16)] = hexL n := by rw [hex_two hn16 (by omega)]; rfl
      refine tr_region ?_
      refine op_pure (pu_move (OT.tmp rfl)) rfl rfl ?_
      refine op_pure (pu_bs_index OT.const (OT.tmp rfl) Tryd.underlying9 (by omega) (by (simp; omega))) rfl rfl ?_
      have hdx := dig16_at (n := n / 16) (by omega)
      refine tr_as 22 (T := IntT .u8 ((dig (n / 16)).toNat : Int)) (OT.val (OT.tmp rfl) (congrArg (Value.int _) (hdx.1))) ?_
      refine op_pure (pu_rune_str (OT.tmp rfl) Tryd.underlying5 Tryd.underlying9 (by omega)) rfl rfl ?_
      refine tr_as 23 (T := BsT [dig (n / 16)]) (OT.val (OT.tmp rfl) (congrArg Value.string (congrArg bs (enc_byte hdx.2)))) ?_
      refine op_pure (pu_move (OT.tmp rfl)) rfl rfl ?_
      refine op_pure (pu_bs_add (OT.tmp rfl) (OT.tmp rfl) (by (simp; done))) rfl rfl ?_
      refine op_pure (pu_assign (OT.tmp rfl)) rfl rfl ?_
      refine tr_nil ?_
      refine then_normal ?_
      refine tr_ret ?_
      exact ret_one .ret (.inl rfl) rfl () (OT.val (OT.tmp rfl) (congrArg Value.string (congrArg bs (hr)))) trivial (by exact picks_nil)
set_option maxRecDepth 20000 in
/-- rhizome/rhizomeref01.Digits -/
theorem Digits_fn (n : Int) (h0 : -9223372036854775808 ≤ n) (h1 : n ≤ 9223372036854775807) : Ct Tryd.prog 26 [I64 n] ([]) Unit (fun _ => BsT (Lib.itoa n)) (fun _ => []) (fun _ => True) := by
  refine fn_intro Tryd.func26 rfl rfl ?_
  intro H w
  refine tr_seq ?_
  -- region 0
  refine tr_env (es_cons (t := 0) (OT.tmp rfl) es_nil) ?_
  refine tr_region ?_
  refine op_pure (pu_assign OT.const) rfl rfl ?_
  refine tr_nil ?_
  refine then_normal ?_
  refine tr_seq ?_
  refine tr_seq ?_
  -- region 1
  refine tr_env (es_cons (t := 0) (OT.tmp rfl) es_nil) ?_
  refine tr_region ?_
  refine op_pure (pu_move (OT.tmp rfl)) rfl rfl ?_
  refine op_pure (pu_eql (OT.tmp rfl) OT.const) rfl rfl ?_
  refine tr_nil ?_
  refine then_normal ?_
  refine tr_cond (OT.tmp rfl) (fun c7 => ?_) (fun c7 => ?_)
  · skip
    obtain rfl : n = 0 := of_decide_eq_true c7
    have hr : [48] = Lib.itoa 0 := by rw [show (0 : Int) = ((0 : Nat) : Int) from rfl, Lib.itoa_nonneg, Lib.decDigits_one (by decide)]; rfl
    refine tr_seq ?_
    -- region 2
    refine tr_env es_nil ?_
    refine tr_region ?_
    refine op_pure (pu_assign OT.const) rfl rfl ?_
    refine tr_nil ?_
    refine then_normal ?_
    refine tr_ret ?_
    refine then_ret ?_
    exact ret_one .ret (.inl rfl) rfl () (OT.val (OT.tmp rfl) (congrArg Value.string (congrArg bs (hr)))) trivial (by exact picks_nil)
  · skip
    have hn0 : n ≠ 0 := of_decide_eq_false c7
    obtain ⟨gg, hgg⟩ : ∃ gg, decide (n < 0) = gg := ⟨_, rfl⟩
    obtain ⟨m, hm⟩ : ∃ m, n.natAbs = m := ⟨_, rfl⟩
    have hsz := sgz_of n
    rw [hgg, hm] at hsz
    have hm1 : 1 ≤ m := by omega
    have hm2 : m ≤ 9223372036854775808 := by omega
    have hit := itoa_sgz (g := gg) hm1
    rw [← hsz] at hit
    refine tr_skip ?_
    refine then_normal ?_
    refine tr_seq ?_
    -- region 3
    refine tr_env (es_cons (t := 0) (OT.tmp rfl) es_nil) ?_
    refine tr_region ?_
    refine op_pure (pu_assign OT.const) rfl rfl ?_
    refine tr_nil ?_
    refine then_normal ?_
    refine tr_seq ?_
    refine tr_seq ?_
    -- region 4
    refine tr_env (es_cons (t := 0) (OT.tmp rfl) (es_cons (t := 3) (OT.tmp rfl) es_nil)) ?_
    refine tr_region ?_
    refine op_pure (pu_move (OT.tmp rfl)) rfl rfl ?_
    refine op_pure (pu_assign (OT.tmp rfl)) rfl rfl ?_
    refine tr_nil ?_
    refine then_normal ?_
    refine tr_block ?_
    refine tr_loopK (σ := Nat × List UInt8) (es_cons (t := 0) (OT.tmp rfl) es_nil) (fun s => [(4, I64 (sgz gg s.1)), (3, BsT s.2)]) (fun s => []) (fun s => DigInv m s.1 s.2 ∧ s.1 ≤ m) (fun s => s.1) (m, []) ⟨dig_start hm1, Nat.le_refl _⟩ ?_ (own_picks (by exact picks_nil)) ?_
    · exact (es_cons (t := 4) (OT.val (OT.tmp rfl) (congrArg (Value.int _) hsz)) (es_cons (t := 3) (OT.tmp rfl) es_nil))
    · rintro ⟨k, s⟩ ⟨hI, hkm0⟩
      dsimp only at hI hkm0 ⊢
      refine tr_seq ?_
      refine tr_seq ?_
      -- region 5
      refine tr_env (es_cons (t := 0) (OT.tmp rfl) (es_cons (t := 3) (OT.tmp rfl) (es_cons (t := 4) (OT.tmp rfl) es_nil))) ?_
      refine tr_region ?_
      refine op_pure (pu_move (OT.tmp rfl)) rfl rfl ?_
      refine op_pure (pu_neq (OT.tmp rfl) OT.const) rfl rfl ?_
      refine tr_nil ?_
      refine then_normal ?_
      refine tr_cond (OT.tmp rfl) (fun c10 => ?_) (fun c10 => ?_)
      · skip
        refine tr_skip ?_
        refine then_normal ?_
        refine tr_seq ?_
        refine tr_block ?_
        refine tr_seq ?_
        -- region 7
        refine tr_env (es_cons (t := 0) (OT.tmp rfl) (es_cons (t := 3) (OT.tmp rfl) (es_cons (t := 4) (OT.tmp rfl) es_nil))) ?_
        have hk0 : 0 < k := by rcases Nat.eq_zero_or_pos k with rfl | h; (exfalso; revert c10; cases gg <;> simp [sgz]); exact h
        have hsl := dig_len hI hm2
        have hkm : k % 10 ≤ 9 := by omega
        refine tr_region ?_
        refine op_pure (pu_move (OT.tmp rfl)) rfl rfl ?_
        refine op_pure (pu_rem (OT.tmp rfl) OT.const (by omega)) rfl rfl ?_
        refine op_pure (pu_assign (OT.tmp rfl)) rfl rfl ?_
        refine tr_nil ?_
        refine then_normal ?_
        refine tr_joinK (σ := Unit) (es_cons (t := 0) (OT.tmp rfl) (es_cons (t := 3) (OT.tmp rfl) (es_cons (t := 4) (OT.tmp rfl) es_nil))) (fun _ => [(5, I64 ((k % 10 : Nat) : Int))]) (fun _ => []) (fun _ => True) ?_ ?_
        · skip
          refine tr_seq ?_
          -- region 8
          refine tr_env (es_cons (t := 0) (OT.tmp rfl) (es_cons (t := 3) (OT.tmp rfl) (es_cons (t := 4) (OT.tmp rfl) (es_cons (t := 5) (OT.tmp rfl) es_nil)))) ?_
          rw [sgz_mod]
          refine tr_region ?_
          refine op_pure (pu_move (OT.tmp rfl)) rfl rfl ?_
          refine op_pure (pu_lss (OT.tmp rfl) OT.const) rfl rfl ?_
          refine tr_nil ?_
          refine then_normal ?_
          refine tr_cond (OT.tmp rfl) (fun c16 => ?_) (fun c16 => ?_)
          · skip
            have hg1 : gg = true := by cases gg with | true => rfl | false => (exfalso; simp [sgz] at c16; omega)
            subst hg1
            -- region 9
            refine tr_env (es_cons (t := 0) (OT.tmp rfl) (es_cons (t := 3) (OT.tmp rfl) (es_cons (t := 4) (OT.tmp rfl) (es_cons (t := 5) (OT.tmp rfl) es_nil)))) ?_
            refine tr_region ?_
            refine op_pure (pu_move (OT.tmp rfl)) rfl rfl ?_
            refine op_pure (pu_neg (OT.tmp rfl) (by simp [sgz]; omega)) rfl rfl ?_
            refine op_pure (pu_assign (OT.tmp rfl)) rfl rfl ?_
            refine tr_nil ?_
            refine then_normal ?_
            exact tr_joined () trivial (es_append (es_cons (t := 5) (OT.val (OT.tmp rfl) (congrArg (Value.int _) (by simp [sgz]))) es_nil) (es_cons (t := 0) (OT.tmp rfl) (es_cons (t := 3) (OT.tmp rfl) (es_cons (t := 4) (OT.tmp rfl) es_nil)))) (own_picks (by exact picks_nil))
          · skip
            have hsm : sgz gg (k % 10) = ((k % 10 : Nat) : Int) := by cases gg with | false => rfl | true => (simp [sgz] at c16 ⊢; omega)
            refine tr_skip ?_
            refine then_normal ?_
            exact tr_joined () trivial (es_append (es_cons (t := 5) (OT.val (OT.tmp rfl) (congrArg (Value.int _) hsm)) es_nil) (es_cons (t := 0) (OT.tmp rfl) (es_cons (t := 3) (OT.tmp rfl) (es_cons (t := 4) (OT.tmp rfl) es_nil)))) (own_picks (by exact picks_nil))
        · rintro _ _
          -- region 10
          refine tr_env (es_cons (t := 0) (OT.tmp rfl) (es_cons (t := 3) (OT.tmp rfl) (es_cons (t := 4) (OT.tmp rfl) (es_cons (t := 5) (OT.tmp rfl) es_nil)))) ?_
          refine tr_region ?_
          refine op_pure (pu_move (OT.tmp rfl)) rfl rfl ?_
          refine op_pure (pu_add' OT.const (OT.tmp rfl) (by omega)) rfl rfl ?_
          refine op_pure (pu_convert (OT.tmp rfl) Tryd.underlying3 Tryd.underlying5) rfl rfl ?_
          refine op_acts (acts_lit (d := (kint .u8)) (v0 := 0) (show slTy Tryd.prog 26 5 1 1 = true from by decide +kernel) (show tyOk Tryd.prog 5 false 1 = true from by decide +kernel) z5 (show 1 * 1 ≤ 16777216 from by decide) (by decide) (fills_arr rfl rfl (by decide) (OT.tmp rfl) fills_nil)) (List.Perm.refl _) rfl rfl (fun _ _ => ?_)
          refine op_pure (pu_bytes_bs (OT.tmp rfl) Tryd.underlying26 Tryd.underlying5 Tryd.underlying9) rfl rfl ?_
          refine op_pure (pu_move (OT.tmp rfl)) rfl rfl ?_
          refine op_pure (pu_bs_add (OT.tmp rfl) (OT.tmp rfl) (by (simp; omega))) rfl rfl ?_
          refine op_pure (pu_assign (OT.tmp rfl)) rfl rfl ?_
          refine tr_nil ?_
          refine block_normal ?_
          refine then_normal ?_
          -- region 6
          refine tr_env (es_cons (t := 0) (OT.tmp rfl) (es_cons (t := 3) (OT.tmp rfl) (es_cons (t := 4) (OT.tmp rfl) es_nil))) ?_
          refine tr_region ?_
          refine op_pure (pu_move (OT.tmp rfl)) rfl rfl ?_
          refine op_pure (pu_quo (OT.tmp rfl) OT.const (by decide)) rfl rfl ?_
          refine op_pure (pu_assign (OT.tmp rfl)) rfl rfl ?_
          refine tr_nil ?_
          refine then_normal ?_
          exact tr_again (k / 10, UInt8.ofNat (48 + k % 10) :: s) ⟨dig_next hI hk0, by show k / 10 ≤ m; omega⟩ (by show k / 10 < k; omega) (es_append (es_cons (t := 4) (OT.val (OT.tmp rfl) (congrArg (Value.int _) (by rw [sgz_div]; exact sgz_wrap (by omega)))) (es_cons (t := 3) (OT.val (OT.tmp rfl) (congrArg Value.string (congrArg bs (show unnum [IntKind.u8.wrap (48 + ((k % 10 : Nat) : Int))] ++ s = _ by rw [dig_byte]; rfl)))) es_nil)) (es_cons (t := 0) (OT.tmp rfl) es_nil)) (own_picks (by exact picks_nil))
      · skip
        refine tr_exit ?_
        refine then_exit ?_
        refine then_exit ?_
        refine block_hit ?_
        refine then_normal ?_
        refine tr_seq ?_
        refine tr_seq ?_
        -- region 11
        refine tr_env (es_cons (t := 0) (OT.tmp rfl) (es_cons (t := 3) (OT.tmp rfl) es_nil)) ?_
        obtain rfl : k = 0 := by rcases Nat.eq_zero_or_pos k with h | h; exact h; (exfalso; revert c10; cases gg <;> simp [sgz] <;> omega)
        have he := dig_end hI
        have hsl := dig_len hI hm2
        refine tr_region ?_
        refine op_pure (pu_move (OT.tmp rfl)) rfl rfl ?_
        refine op_pure (pu_lss (OT.tmp rfl) OT.const) rfl rfl ?_
        refine tr_nil ?_
        refine then_normal ?_
        refine tr_cond (OT.tmp rfl) (fun c27 => ?_) (fun c27 => ?_)
        · skip
          have hr : [45] ++ s = Lib.itoa n := by rw [hit, ← hgg, c27, he]; rfl
          -- region 12
          refine tr_env (es_cons (t := 3) (OT.tmp rfl) es_nil) ?_
          refine tr_region ?_
          refine op_pure (pu_move (OT.tmp rfl)) rfl rfl ?_
          refine op_pure (pu_bs_add OT.const (OT.tmp rfl) (by (simp; omega))) rfl rfl ?_
          refine op_pure (pu_assign (OT.tmp rfl)) rfl rfl ?_
          refine tr_nil ?_
          refine then_normal ?_
          refine tr_seq ?_
          -- region 13
          refine tr_env (es_cons (t := 3) (OT.tmp rfl) es_nil) ?_
          refine tr_region ?_
          refine op_pure (pu_move (OT.tmp rfl)) rfl rfl ?_
          refine op_pure (pu_assign (OT.tmp rfl)) rfl rfl ?_
          refine tr_nil ?_
          refine then_normal ?_
          refine tr_ret ?_
          exact ret_one .ret (.inl rfl) rfl () (OT.val (OT.tmp rfl) (congrArg Value.string (congrArg bs (hr)))) trivial (by exact picks_nil)
        · skip
          have hr : s = Lib.itoa n := by rw [hit, ← hgg, c27, he]; rfl
          refine tr_skip ?_
          refine then_normal ?_
          refine tr_seq ?_
          -- region 13
          refine tr_env (es_cons (t := 3) (OT.tmp rfl) es_nil) ?_
          refine tr_region ?_
          refine op_pure (pu_move (OT.tmp rfl)) rfl rfl ?_
          refine op_pure (pu_assign (OT.tmp rfl)) rfl rfl ?_
          refine tr_nil ?_
          refine then_normal ?_
          refine tr_ret ?_
          exact ret_one .ret (.inl rfl) rfl () (OT.val (OT.tmp rfl) (congrArg Value.string (congrArg bs (hr)))) trivial (by exact picks_nil)
end Go.Proofs.YtdlendioamiagaaDoor
/- Walks through the Go functions rhizomeref02.Show, rhizomeref02.Bytes, as typed contracts. -/
namespace Go.Proofs.YtdlendioamiagaaDoor
open Go Go.Gw Go.Vl
set_option linter.unusedVariables false
set_option linter.unusedSimpArgs false
theorem show_rune {t : List UInt8} {i : Nat} (h : i < t.length) (hv : Lib.validD (t.drop i) = true) : ∃ c w : Nat, refR (t.drop i) = ((w : Int), (c : Int)) ∧ 1 ≤ w ∧ i + w ≤ t.length ∧ isRune (c : Int) ∧ (t.drop i).take w = enc (c : Int) ∧ showT (t.drop i) = showC c ++ showT (t.drop (i + w)) ∧ Lib.validD (t.drop (i + w)) = true ∧ rune (t.drop i) = (c, w) := by
  have hne := drop_ne h
  have hs := valid_step hne
  rw [hv] at hs
  rcases refR_cases hne with ⟨hb, _⟩ | ⟨hb, hr, h1, h2⟩
  · rw [hb] at hs; cases hs
  · rw [hb] at hs
    rw [List.length_drop] at h2
    refine ⟨(rune (t.drop i)).1, (rune (t.drop i)).2, hr, h1, by omega, rune_is _, (enc_rune hne hb).symm, ?_, ?_, rfl⟩
    · rw [showT_step hne, List.drop_drop]
    · rw [List.drop_drop] at hs; simpa using hs.symm

set_option maxRecDepth 20000 in
/-- rhizome/rhizomeref02.Show -/
theorem rShow_fn (v : Vl) (hc0 : checkV v = 0) (hi0 : -9223372036854775808 ≤ v.2.1) (hi1 : v.2.1 ≤ 9223372036854775807) : Ct Tryd.prog 17 [kVl.T v] ([]) Unit (fun _ => BsT (showV v)) (fun _ => []) (fun _ => True) := by
  refine fn_intro Tryd.func17 rfl rfl ?_
  intro H w
  have hcase := check_ok hc0
  refine tr_seq ?_
  -- region 0
  refine tr_env (es_cons (t := 0) (OT.tmp rfl) es_nil) ?_
  refine tr_region ?_
  refine op_acts (acts_box (d := kVl) (OT.tmp rfl)) (List.Perm.refl _) rfl rfl (fun g0_0 _ => ?_)
  refine op_pure (pu_assign OT.const) rfl rfl ?_
  refine tr_nil ?_
  refine then_normal ?_
  refine tr_seq ?_
  refine tr_seq ?_
  -- region 1
  refine tr_env (es_cons (t := 1) (OT.tmp rfl) es_nil) ?_
  refine tr_region ?_
  refine op_pure (pu_faddr (OT.tmp rfl) (show fieldOk Tryd.prog 23 0 0 false 1 = true from by decide +kernel)) rfl rfl ?_
  refine op_pure (pu_load_blk (OT.tmp rfl) (by exact mem_at 0 rfl) lv0 (show tyOk Tryd.prog 3 false 1 = true from by decide +kernel)) rfl rfl ?_
  refine op_pure (pu_eql (OT.tmp rfl) OT.const) rfl rfl ?_
  refine tr_nil ?_
  refine then_normal ?_
  refine tr_cond (OT.tmp rfl) (fun c10 => ?_) (fun c10 => ?_)
  · skip
    have hev : showV v = Lib.itoa v.2.1 := if_pos (of_decide_eq_true c10)
    refine tr_seq ?_
    -- region 2
    refine tr_env (es_cons (t := 1) (OT.tmp rfl) es_nil) ?_
    refine tr_region ?_
    refine op_pure (pu_faddr (OT.tmp rfl) (show fieldOk Tryd.prog 23 1 1 false 1 = true from by decide +kernel)) rfl rfl ?_
    refine op_pure (pu_load_blk (OT.tmp rfl) (by exact mem_at 0 rfl) lv1 (show tyOk Tryd.prog 3 false 1 = true from by decide +kernel)) rfl rfl ?_
    refine op_acts (acts_call (Digits_fn _ hi0 hi1) (show enters Tryd.prog 26 = true from by decide +kernel) (OTs.cons (OT.tmp rfl) OTs.nil) (List.Perm.refl _)) (List.Perm.refl _) rfl rfl (fun _ _ => ?_)
    refine op_pure (pu_assign (OT.tmp rfl)) rfl rfl ?_
    refine tr_nil ?_
    refine then_normal ?_
    refine tr_ret ?_
    refine then_ret ?_
    exact ret_one .ret (.inl rfl) rfl () (OT.val (OT.tmp rfl) (congrArg Value.string (congrArg bs (hev.symm)))) trivial (by exact picks_nil)
  · skip
    refine tr_skip ?_
    refine then_normal ?_
    refine tr_seq ?_
    refine tr_seq ?_
    -- region 3
    refine tr_env (es_cons (t := 1) (OT.tmp rfl) es_nil) ?_
    refine tr_region ?_
    refine op_pure (pu_faddr (OT.tmp rfl) (show fieldOk Tryd.prog 23 0 0 false 1 = true from by decide +kernel)) rfl rfl ?_
    refine op_pure (pu_load_blk (OT.tmp rfl) (by exact mem_at 0 rfl) lv0 (show tyOk Tryd.prog 3 false 1 = true from by decide +kernel)) rfl rfl ?_
    refine op_pure (pu_eql (OT.tmp rfl) OT.const) rfl rfl ?_
    refine tr_nil ?_
    refine then_normal ?_
    refine tr_cond (OT.tmp rfl) (fun c16 => ?_) (fun c16 => ?_)
    · skip
      have hk : v.1 = 3 := of_decide_eq_true c16
      have hev : showV v = Lib.formatBool (decide (v.2.1 = 1)) := by unfold showV; rw [if_neg (by omega), if_pos hk]
      refine tr_seq ?_
      refine tr_seq ?_
      -- region 4
      refine tr_env (es_cons (t := 1) (OT.tmp rfl) es_nil) ?_
      refine tr_region ?_
      refine op_pure (pu_faddr (OT.tmp rfl) (show fieldOk Tryd.prog 23 1 1 false 1 = true from by decide +kernel)) rfl rfl ?_
      refine op_pure (pu_load_blk (OT.tmp rfl) (by exact mem_at 0 rfl) lv1 (show tyOk Tryd.prog 3 false 1 = true from by decide +kernel)) rfl rfl ?_
      refine op_pure (pu_eql (OT.tmp rfl) OT.const) rfl rfl ?_
      refine tr_nil ?_
      refine then_normal ?_
      refine tr_cond (OT.tmp rfl) (fun c19 => ?_) (fun c19 => ?_)
      · skip
        refine tr_seq ?_
        -- region 5
        refine tr_env es_nil ?_
        refine tr_region ?_
        refine op_pure (pu_assign OT.const) rfl rfl ?_
        refine tr_nil ?_
        refine then_normal ?_
        refine tr_ret ?_
        refine then_ret ?_
        refine then_ret ?_
        exact ret_one .ret (.inl rfl) rfl () (OT.val (OT.tmp rfl) (congrArg Value.string (congrArg bs (by rw [hev, show decide (v.2.1 = 1) = true from c19]; rfl)))) trivial (by exact picks_nil)
      · skip
        refine tr_skip ?_
        refine then_normal ?_
        refine tr_seq ?_
        -- region 6
        refine tr_env es_nil ?_
        refine tr_region ?_
        refine op_pure (pu_assign OT.const) rfl rfl ?_
        refine tr_nil ?_
        refine then_normal ?_
        refine tr_ret ?_
        refine then_ret ?_
        exact ret_one .ret (.inl rfl) rfl () (OT.val (OT.tmp rfl) (congrArg Value.string (congrArg bs (by rw [hev, show decide (v.2.1 = 1) = false from c19]; rfl)))) trivial (by exact picks_nil)
    · skip
      refine tr_skip ?_
      refine then_normal ?_
      refine tr_seq ?_
      -- region 7
      refine tr_env (es_cons (t := 1) (OT.tmp rfl) es_nil) ?_
      have h1 := of_decide_eq_false c10
      have h3 := of_decide_eq_false c16
      have hk : v.1 = 2 := by omega
      have hlt : v.2.2.length ≤ 64 := by omega
      have hvv : Lib.validD v.2.2 = true := by rcases hcase with h | h | h; omega; omega; exact h.2.2
      have hev : showV v = 34 :: showT v.2.2 ++ [34] := by unfold showV; rw [if_neg (by omega), if_neg (by omega)]
      have hsl := showT_len 64 v.2.2 hlt
      refine tr_region ?_
      refine op_pure (pu_assign OT.const) rfl rfl ?_
      refine tr_nil ?_
      refine then_normal ?_
      refine tr_seq ?_
      refine tr_seq ?_
      -- region 8
      refine tr_env (es_cons (t := 1) (OT.tmp rfl) (es_cons (t := 3) (OT.tmp rfl) es_nil)) ?_
      refine tr_region ?_
      refine op_pure (pu_assign OT.const) rfl rfl ?_
      refine tr_nil ?_
      refine then_normal ?_
      refine tr_block ?_
      refine tr_loopK (σ := Nat × List UInt8) (es_cons (t := 1) (OT.tmp rfl) es_nil) (fun s => [(4, I64 (s.1 : Int)), (3, BsT s.2)]) (fun s => [BlkI g0_0 23 kVl v]) (fun s => s.1 ≤ v.2.2.length ∧ Lib.validD (v.2.2.drop s.1) = true ∧ s.2 ++ showT (v.2.2.drop s.1) = 34 :: showT v.2.2) (fun s => v.2.2.length - s.1) (0, [34]) ⟨Nat.zero_le _, hvv, rfl⟩ ?_ (own_picks (by repeat (first | exact picks_nil | refine picks_cons 0 rfl ?_ | refine picks_cons 1 rfl ?_ | refine picks_cons 2 rfl ?_ | refine picks_cons 3 rfl ?_ | refine picks_cons 4 rfl ?_ | refine picks_cons 5 rfl ?_ | refine picks_cons 6 rfl ?_))) ?_
      · exact (es_cons (t := 4) (OT.tmp rfl) (es_cons (t := 3) (OT.tmp rfl) es_nil))
      · rintro ⟨i, out⟩ ⟨hi, hv, hout⟩
        dsimp only at hi hv hout ⊢
        refine tr_seq ?_
        refine tr_seq ?_
        -- region 9
        refine tr_env (es_cons (t := 1) (OT.tmp rfl) (es_cons (t := 3) (OT.tmp rfl) (es_cons (t := 4) (OT.tmp rfl) es_nil))) ?_
        refine tr_region ?_
        refine op_pure (pu_move (OT.tmp rfl)) rfl rfl ?_
        refine op_pure (pu_faddr (OT.tmp rfl) (show fieldOk Tryd.prog 23 2 2 false 1 = true from by decide +kernel)) rfl rfl ?_
        refine op_pure (pu_load_blk (OT.tmp rfl) (by exact mem_at 0 rfl) lv2 (show tyOk Tryd.prog 9 false 1 = true from by decide +kernel)) rfl rfl ?_
        refine op_pure (pu_len_bs Tryd.underlying9 (OT.tmp rfl)) rfl rfl ?_
        refine op_pure (pu_lss (OT.tmp rfl) (OT.tmp rfl)) rfl rfl ?_
        refine tr_nil ?_
        refine then_normal ?_
        refine tr_cond (OT.tmp rfl) (fun c24 => ?_) (fun c24 => ?_)
        · skip
          refine tr_skip ?_
          refine then_normal ?_
          refine tr_block ?_
          refine tr_seq ?_
          -- region 10
          refine tr_env (es_cons (t := 1) (OT.tmp rfl) (es_cons (t := 3) (OT.tmp rfl) (es_cons (t := 4) (OT.tmp rfl) es_nil))) ?_
          have hil : i < v.2.2.length := by simp at c24; omega
          obtain ⟨c, w, hrr, hw1, hw2, hci, hen, hst, hvw, _⟩ := show_rune hil hv
          have hel := enc_len (c : Int)
          have hol : out.length ≤ 400 := by have h9 := congrArg List.length hout; simp at h9; omega
          have hsc := showC_len c
          refine tr_region ?_
          refine op_pure (pu_faddr (OT.tmp rfl) (show fieldOk Tryd.prog 23 2 2 false 1 = true from by decide +kernel)) rfl rfl ?_
          refine op_pure (pu_load_blk (OT.tmp rfl) (by exact mem_at 0 rfl) lv2 (show tyOk Tryd.prog 9 false 1 = true from by decide +kernel)) rfl rfl ?_
          refine op_pure (pu_move (OT.tmp rfl)) rfl rfl ?_
          refine op_acts (acts_call (rRune_fn v.2.2 i (by omega) (by omega)) (show enters Tryd.prog 41 = true from by decide +kernel) (OTs.cons (OT.tmp rfl) (OTs.cons (OT.tmp rfl) OTs.nil)) (List.Perm.refl _)) (List.Perm.refl _) rfl rfl (fun _ _ => ?_)
          refine op_pure (pu_move (OT.tmp rfl)) rfl rfl ?_
          refine op_pure (pu_extract (OT.tmp rfl) rfl) rfl rfl ?_
          refine op_pure (pu_extract (OT.tmp rfl) rfl) rfl rfl ?_
          refine op_pure (pu_assign (OT.tmp rfl)) rfl rfl ?_
          refine op_pure (pu_assign (OT.tmp rfl)) rfl rfl ?_
          refine tr_nil ?_
          refine then_normal ?_
          refine tr_seq ?_
          -- region 11
          refine tr_env (es_cons (t := 1) (OT.tmp rfl) (es_cons (t := 3) (OT.tmp rfl) (es_cons (t := 4) (OT.tmp rfl) (es_cons (t := 5) (OT.tmp rfl) (es_cons (t := 6) (OT.tmp rfl) es_nil))))) ?_
          rw [hrr]
          refine tr_region ?_
          refine op_pure (pu_faddr (OT.tmp rfl) (show fieldOk Tryd.prog 23 2 2 false 1 = true from by decide +kernel)) rfl rfl ?_
          refine op_pure (pu_load_blk (OT.tmp rfl) (by exact mem_at 0 rfl) lv2 (show tyOk Tryd.prog 9 false 1 = true from by decide +kernel)) rfl rfl ?_
          refine op_pure (pu_move (OT.tmp rfl)) rfl rfl ?_
          refine op_pure (pu_move (OT.tmp rfl)) rfl rfl ?_
          refine op_pure (pu_move (OT.tmp rfl)) rfl rfl ?_
          refine op_pure (pu_add' (OT.tmp rfl) (OT.tmp rfl) (by omega)) rfl rfl ?_
          refine op_pure (pu_bs_slice (OT.tmp rfl) (OT.tmp rfl) (OT.tmp rfl) Tryd.underlying9 (by omega) (by omega) (by omega)) rfl rfl ?_
          refine tr_as 38 (T := BsT (enc (c : Int))) (OT.val (OT.tmp rfl) (congrArg Value.string (congrArg bs (show _ = enc (c : Int) from by rw [← hen, List.drop_take]; congr 1; omega)))) ?_
          refine op_pure (pu_assign (OT.tmp rfl)) rfl rfl ?_
          refine tr_nil ?_
          refine then_normal ?_
          refine tr_joinK (σ := Unit) (es_cons (t := 1) (OT.tmp rfl) (es_cons (t := 3) (OT.tmp rfl) (es_cons (t := 4) (OT.tmp rfl) (es_cons (t := 5) (OT.tmp rfl) (es_cons (t := 6) (OT.tmp rfl) es_nil))))) (fun _ => [(7, BsT (o1 c))]) (fun _ => [BlkI g0_0 23 kVl v]) (fun _ => True) ?_ ?_
          · skip
            refine tr_seq ?_
            -- region 12
            refine tr_env (es_cons (t := 1) (OT.tmp rfl) (es_cons (t := 3) (OT.tmp rfl) (es_cons (t := 4) (OT.tmp rfl) (es_cons (t := 5) (OT.tmp rfl) (es_cons (t := 6) (OT.tmp rfl) (es_cons (t := 7) (OT.tmp rfl) es_nil)))))) ?_
            refine tr_region ?_
            refine op_pure (pu_move (OT.tmp rfl)) rfl rfl ?_
            refine op_pure (pu_eql (OT.tmp rfl) OT.const) rfl rfl ?_
            refine op_pure (pu_move (OT.tmp rfl)) rfl rfl ?_
            refine op_gu rfl rfl rfl (OT.gu_mk (OT.tmp rfl)) (fun hg => by (have hg1 := hg.2; (try simp only [decide_eq_true_eq, decide_eq_false_iff_not] at hg1); exact pu_move (by exact OT.tmp rfl))) rfl ?_
            refine op_gu rfl rfl rfl (OT.gu_mk (OT.tmp rfl)) (fun hg => by (have hg1 := hg.2; (try simp only [decide_eq_true_eq, decide_eq_false_iff_not] at hg1); exact pu_eql (by exact OT.gu (OT.tmp rfl) hg) OT.const)) rfl ?_
            refine op_pure (pu_pick_or (OT.tmp rfl) (by exact OT.tmp rfl)) rfl rfl ?_
            refine tr_nil ?_
            refine then_normal ?_
            refine tr_cond (OT.tmp rfl) (fun c44 => ?_) (fun c44 => ?_)
            · skip
              -- region 13
              refine tr_env (es_cons (t := 1) (OT.tmp rfl) (es_cons (t := 3) (OT.tmp rfl) (es_cons (t := 4) (OT.tmp rfl) (es_cons (t := 5) (OT.tmp rfl) (es_cons (t := 6) (OT.tmp rfl) (es_cons (t := 7) (OT.tmp rfl) es_nil)))))) ?_
              refine tr_region ?_
              refine op_pure (pu_move (OT.tmp rfl)) rfl rfl ?_
              refine op_pure (pu_bs_add OT.const (OT.tmp rfl) (by (simp; omega))) rfl rfl ?_
              refine op_pure (pu_assign (OT.tmp rfl)) rfl rfl ?_
              refine tr_nil ?_
              refine then_normal ?_
              exact tr_joined () trivial (es_append (es_cons (t := 7) (OT.val (OT.tmp rfl) (congrArg Value.string (congrArg bs (show _ = o1 c from by unfold o1; rw [if_pos (by have h9 := c44; simp at h9; omega)]; rfl)))) es_nil) (es_cons (t := 1) (OT.tmp rfl) (es_cons (t := 3) (OT.tmp rfl) (es_cons (t := 4) (OT.tmp rfl) (es_cons (t := 5) (OT.tmp rfl) (es_cons (t := 6) (OT.tmp rfl) es_nil)))))) (own_picks (by repeat (first | exact picks_nil | refine picks_cons 0 rfl ?_ | refine picks_cons 1 rfl ?_ | refine picks_cons 2 rfl ?_ | refine picks_cons 3 rfl ?_ | refine picks_cons 4 rfl ?_ | refine picks_cons 5 rfl ?_ | refine picks_cons 6 rfl ?_)))
            · skip
              refine tr_skip ?_
              refine then_normal ?_
              exact tr_joined () trivial (es_append (es_cons (t := 7) (OT.val (OT.tmp rfl) (congrArg Value.string (congrArg bs (show _ = o1 c from by unfold o1; rw [if_neg (by have h9 := c44; simp at h9; omega)])))) es_nil) (es_cons (t := 1) (OT.tmp rfl) (es_cons (t := 3) (OT.tmp rfl) (es_cons (t := 4) (OT.tmp rfl) (es_cons (t := 5) (OT.tmp rfl) (es_cons (t := 6) (OT.tmp rfl) es_nil)))))) (own_picks (by repeat (first | exact picks_nil | refine picks_cons 0 rfl ?_ | refine picks_cons 1 rfl ?_ | refine picks_cons 2 rfl ?_ | refine picks_cons 3 rfl ?_ | refine picks_cons 4 rfl ?_ | refine picks_cons 5 rfl ?_ | refine picks_cons 6 rfl ?_)))
          · rintro _ _
            refine tr_joinK (σ := Unit) (es_cons (t := 1) (OT.tmp rfl) (es_cons (t := 3) (OT.tmp rfl) (es_cons (t := 4) (OT.tmp rfl) (es_cons (t := 5) (OT.tmp rfl) (es_cons (t := 6) (OT.tmp rfl) es_nil))))) (fun _ => [(7, BsT (o2 c))]) (fun _ => [BlkI g0_0 23 kVl v]) (fun _ => True) ?_ ?_
            · skip
              refine tr_seq ?_
              -- region 14
              refine tr_env (es_cons (t := 1) (OT.tmp rfl) (es_cons (t := 3) (OT.tmp rfl) (es_cons (t := 4) (OT.tmp rfl) (es_cons (t := 5) (OT.tmp rfl) (es_cons (t := 6) (OT.tmp rfl) (es_cons (t := 7) (OT.tmp rfl) es_nil)))))) ?_
              refine tr_region ?_
              refine op_pure (pu_move (OT.tmp rfl)) rfl rfl ?_
              refine op_pure (pu_lss (OT.tmp rfl) OT.const) rfl rfl ?_
              refine op_pure (pu_move (OT.tmp rfl)) rfl rfl ?_
              refine op_gu rfl rfl rfl (OT.gu_mk (OT.tmp rfl)) (fun hg => by (have hg1 := hg.2; (try simp only [decide_eq_true_eq, decide_eq_false_iff_not] at hg1); exact pu_move (by exact OT.tmp rfl))) rfl ?_
              refine op_gu rfl rfl rfl (OT.gu_mk (OT.tmp rfl)) (fun hg => by (have hg1 := hg.2; (try simp only [decide_eq_true_eq, decide_eq_false_iff_not] at hg1); exact pu_eql (by exact OT.gu (OT.tmp rfl) hg) OT.const)) rfl ?_
              refine op_pure (pu_pick_or (OT.tmp rfl) (by exact OT.tmp rfl)) rfl rfl ?_
              refine tr_nil ?_
              refine then_normal ?_
              refine tr_cond (OT.tmp rfl) (fun c52 => ?_) (fun c52 => ?_)
              · skip
                -- region 15
                refine tr_env (es_cons (t := 1) (OT.tmp rfl) (es_cons (t := 3) (OT.tmp rfl) (es_cons (t := 4) (OT.tmp rfl) (es_cons (t := 5) (OT.tmp rfl) (es_cons (t := 6) (OT.tmp rfl) es_nil))))) ?_
                have hcl : c < 128 := by have h9 := c52; simp at h9; omega
                have hxl := hex_len hcl
                refine tr_region ?_
                refine op_pure (pu_move (OT.tmp rfl)) rfl rfl ?_
                refine op_acts (acts_call (rHex_fn c (by omega)) (show enters Tryd.prog 42 = true from by decide +kernel) (OTs.cons (OT.tmp rfl) OTs.nil) (List.Perm.refl _)) (List.Perm.refl _) rfl rfl (fun _ _ => ?_)
                refine op_pure (pu_bs_add OT.const (OT.tmp rfl) (by (simp; omega))) rfl rfl ?_
                refine op_pure (pu_bs_add (OT.tmp rfl) OT.const (by (simp; omega))) rfl rfl ?_
                refine op_pure (pu_assign (OT.tmp rfl)) rfl rfl ?_
                refine tr_nil ?_
                refine then_normal ?_
                exact tr_joined () trivial (es_append (es_cons (t := 7) (OT.val (OT.tmp rfl) (congrArg Value.string (congrArg bs (show _ = o2 c from by unfold o2; rw [if_pos (by have h9 := c52; simp at h9; omega)])))) es_nil) (es_cons (t := 1) (OT.tmp rfl) (es_cons (t := 3) (OT.tmp rfl) (es_cons (t := 4) (OT.tmp rfl) (es_cons (t := 5) (OT.tmp rfl) (es_cons (t := 6) (OT.tmp rfl) es_nil)))))) (own_picks (by repeat (first | exact picks_nil | refine picks_cons 0 rfl ?_ | refine picks_cons 1 rfl ?_ | refine picks_cons 2 rfl ?_ | refine picks_cons 3 rfl ?_ | refine picks_cons 4 rfl ?_ | refine picks_cons 5 rfl ?_ | refine picks_cons 6 rfl ?_)))
              · skip
                refine tr_skip ?_
                refine then_normal ?_
                exact tr_joined () trivial (es_append (es_cons (t := 7) (OT.val (OT.tmp rfl) (congrArg Value.string (congrArg bs (show _ = o2 c from by unfold o2; rw [if_neg (by have h9 := c52; simp at h9; omega)])))) es_nil) (es_cons (t := 1) (OT.tmp rfl) (es_cons (t := 3) (OT.tmp rfl) (es_cons (t := 4) (OT.tmp rfl) (es_cons (t := 5) (OT.tmp rfl) (es_cons (t := 6) (OT.tmp rfl) es_nil)))))) (own_picks (by repeat (first | exact picks_nil | refine picks_cons 0 rfl ?_ | refine picks_cons 1 rfl ?_ | refine picks_cons 2 rfl ?_ | refine picks_cons 3 rfl ?_ | refine picks_cons 4 rfl ?_ | refine picks_cons 5 rfl ?_ | refine picks_cons 6 rfl ?_)))
            · rintro _ _
              refine tr_joinK (σ := Unit) (es_cons (t := 1) (OT.tmp rfl) (es_cons (t := 3) (OT.tmp rfl) (es_cons (t := 4) (OT.tmp rfl) (es_cons (t := 5) (OT.tmp rfl) (es_cons (t := 6) (OT.tmp rfl) es_nil))))) (fun _ => [(7, BsT (o3 c))]) (fun _ => [BlkI g0_0 23 kVl v]) (fun _ => True) ?_ ?_
              · skip
                refine tr_seq ?_
                -- region 16
                refine tr_env (es_cons (t := 1) (OT.tmp rfl) (es_cons (t := 3) (OT.tmp rfl) (es_cons (t := 4) (OT.tmp rfl) (es_cons (t := 5) (OT.tmp rfl) (es_cons (t := 6) (OT.tmp rfl) (es_cons (t := 7) (OT.tmp rfl) es_nil)))))) ?_
                refine tr_region ?_
                refine op_pure (pu_move (OT.tmp rfl)) rfl rfl ?_
                refine op_pure (pu_eql (OT.tmp rfl) OT.const) rfl rfl ?_
                refine tr_nil ?_
                refine then_normal ?_
                refine tr_cond (OT.tmp rfl) (fun c58 => ?_) (fun c58 => ?_)
                · skip
                  -- region 17
                  refine tr_env (es_cons (t := 1) (OT.tmp rfl) (es_cons (t := 3) (OT.tmp rfl) (es_cons (t := 4) (OT.tmp rfl) (es_cons (t := 5) (OT.tmp rfl) (es_cons (t := 6) (OT.tmp rfl) es_nil))))) ?_
                  refine tr_region ?_
                  refine op_pure (pu_assign OT.const) rfl rfl ?_
                  refine tr_nil ?_
                  refine then_normal ?_
                  exact tr_joined () trivial (es_append (es_cons (t := 7) (OT.val (OT.tmp rfl) (congrArg Value.string (congrArg bs (show _ = o3 c from by unfold o3; rw [if_pos (by have h9 := c58; simp at h9; omega)])))) es_nil) (es_cons (t := 1) (OT.tmp rfl) (es_cons (t := 3) (OT.tmp rfl) (es_cons (t := 4) (OT.tmp rfl) (es_cons (t := 5) (OT.tmp rfl) (es_cons (t := 6) (OT.tmp rfl) es_nil)))))) (own_picks (by repeat (first | exact picks_nil | refine picks_cons 0 rfl ?_ | refine picks_cons 1 rfl ?_ | refine picks_cons 2 rfl ?_ | refine picks_cons 3 rfl ?_ | refine picks_cons 4 rfl ?_ | refine picks_cons 5 rfl ?_ | refine picks_cons 6 rfl ?_)))
                · skip
                  refine tr_skip ?_
                  refine then_normal ?_
                  exact tr_joined () trivial (es_append (es_cons (t := 7) (OT.val (OT.tmp rfl) (congrArg Value.string (congrArg bs (show _ = o3 c from by unfold o3; rw [if_neg (by have h9 := c58; simp at h9; omega)])))) es_nil) (es_cons (t := 1) (OT.tmp rfl) (es_cons (t := 3) (OT.tmp rfl) (es_cons (t := 4) (OT.tmp rfl) (es_cons (t := 5) (OT.tmp rfl) (es_cons (t := 6) (OT.tmp rfl) es_nil)))))) (own_picks (by repeat (first | exact picks_nil | refine picks_cons 0 rfl ?_ | refine picks_cons 1 rfl ?_ | refine picks_cons 2 rfl ?_ | refine picks_cons 3 rfl ?_ | refine picks_cons 4 rfl ?_ | refine picks_cons 5 rfl ?_ | refine picks_cons 6 rfl ?_)))
              · rintro _ _
                refine tr_joinK (σ := Unit) (es_cons (t := 1) (OT.tmp rfl) (es_cons (t := 3) (OT.tmp rfl) (es_cons (t := 4) (OT.tmp rfl) (es_cons (t := 5) (OT.tmp rfl) es_nil)))) (fun _ => [(7, BsT (o4 c))]) (fun _ => [BlkI g0_0 23 kVl v]) (fun _ => True) ?_ ?_
                · skip
                  refine tr_seq ?_
                  -- region 18
                  refine tr_env (es_cons (t := 1) (OT.tmp rfl) (es_cons (t := 3) (OT.tmp rfl) (es_cons (t := 4) (OT.tmp rfl) (es_cons (t := 5) (OT.tmp rfl) (es_cons (t := 6) (OT.tmp rfl) (es_cons (t := 7) (OT.tmp rfl) es_nil)))))) ?_
                  refine tr_region ?_
                  refine op_pure (pu_move (OT.tmp rfl)) rfl rfl ?_
                  refine op_pure (pu_eql (OT.tmp rfl) OT.const) rfl rfl ?_
                  refine tr_nil ?_
                  refine then_normal ?_
                  refine tr_cond (OT.tmp rfl) (fun c60 => ?_) (fun c60 => ?_)
                  · skip
                    -- region 19
                    refine tr_env (es_cons (t := 1) (OT.tmp rfl) (es_cons (t := 3) (OT.tmp rfl) (es_cons (t := 4) (OT.tmp rfl) (es_cons (t := 5) (OT.tmp rfl) es_nil)))) ?_
                    refine tr_region ?_
                    refine op_pure (pu_assign OT.const) rfl rfl ?_
                    refine tr_nil ?_
                    refine then_normal ?_
                    exact tr_joined () trivial (es_append (es_cons (t := 7) (OT.val (OT.tmp rfl) (congrArg Value.string (congrArg bs (show _ = o4 c from by unfold o4; rw [if_pos (by have h9 := c60; simp at h9; omega)])))) es_nil) (es_cons (t := 1) (OT.tmp rfl) (es_cons (t := 3) (OT.tmp rfl) (es_cons (t := 4) (OT.tmp rfl) (es_cons (t := 5) (OT.tmp rfl) es_nil))))) (own_picks (by repeat (first | exact picks_nil | refine picks_cons 0 rfl ?_ | refine picks_cons 1 rfl ?_ | refine picks_cons 2 rfl ?_ | refine picks_cons 3 rfl ?_ | refine picks_cons 4 rfl ?_ | refine picks_cons 5 rfl ?_ | refine picks_cons 6 rfl ?_)))
                  · skip
                    refine tr_skip ?_
                    refine then_normal ?_
                    exact tr_joined () trivial (es_append (es_cons (t := 7) (OT.val (OT.tmp rfl) (congrArg Value.string (congrArg bs (show _ = o4 c from by unfold o4; rw [if_neg (by have h9 := c60; simp at h9; omega)])))) es_nil) (es_cons (t := 1) (OT.tmp rfl) (es_cons (t := 3) (OT.tmp rfl) (es_cons (t := 4) (OT.tmp rfl) (es_cons (t := 5) (OT.tmp rfl) es_nil))))) (own_picks (by repeat (first | exact picks_nil | refine picks_cons 0 rfl ?_ | refine picks_cons 1 rfl ?_ | refine picks_cons 2 rfl ?_ | refine picks_cons 3 rfl ?_ | refine picks_cons 4 rfl ?_ | refine picks_cons 5 rfl ?_ | refine picks_cons 6 rfl ?_)))
                · rintro _ _
                  refine tr_seq ?_
                  -- region 20
                  refine tr_env (es_cons (t := 1) (OT.tmp rfl) (es_cons (t := 3) (OT.tmp rfl) (es_cons (t := 4) (OT.tmp rfl) (es_cons (t := 5) (OT.tmp rfl) (es_cons (t := 7) (OT.tmp rfl) es_nil))))) ?_
                  rw [o4_show]
                  refine tr_region ?_
                  refine op_pure (pu_move (OT.tmp rfl)) rfl rfl ?_
                  refine op_pure (pu_move (OT.tmp rfl)) rfl rfl ?_
                  refine op_pure (pu_bs_add (OT.tmp rfl) (OT.tmp rfl) (by omega)) rfl rfl ?_
                  refine op_pure (pu_assign (OT.tmp rfl)) rfl rfl ?_
                  refine tr_nil ?_
                  refine then_normal ?_
                  -- region 21
                  refine tr_env (es_cons (t := 1) (OT.tmp rfl) (es_cons (t := 3) (OT.tmp rfl) (es_cons (t := 4) (OT.tmp rfl) (es_cons (t := 5) (OT.tmp rfl) es_nil)))) ?_
                  refine tr_region ?_
                  refine op_pure (pu_move (OT.tmp rfl)) rfl rfl ?_
                  refine op_pure (pu_move (OT.tmp rfl)) rfl rfl ?_
                  refine op_pure (pu_add' (OT.tmp rfl) (OT.tmp rfl) (by omega)) rfl rfl ?_
                  refine op_pure (pu_assign (OT.tmp rfl)) rfl rfl ?_
                  refine tr_nil ?_
                  refine block_normal ?_
                  refine then_normal ?_
                  exact tr_again (i + w, out ++ showC c) ⟨hw2, hvw, by show (out ++ showC c) ++ showT (v.2.2.drop (i + w)) = _; rw [← hout, hst, List.append_assoc]⟩ (by show v.2.2.length - (i + w) < v.2.2.length - i; omega) (es_append (es_cons (t := 4) (OT.val (OT.tmp rfl) (congrArg (Value.int _) (show (i : Int) + (w : Int) = ((i + w : Nat) : Int) from by omega))) (es_cons (t := 3) (OT.tmp rfl) es_nil)) (es_cons (t := 1) (OT.tmp rfl) es_nil)) (own_picks (by repeat (first | exact picks_nil | refine picks_cons 0 rfl ?_ | refine picks_cons 1 rfl ?_ | refine picks_cons 2 rfl ?_ | refine picks_cons 3 rfl ?_ | refine picks_cons 4 rfl ?_ | refine picks_cons 5 rfl ?_ | refine picks_cons 6 rfl ?_)))
        · skip
          refine tr_exit ?_
          refine then_exit ?_
          refine then_exit ?_
          refine block_hit ?_
          refine then_normal ?_
          refine tr_seq ?_
          -- region 22
          refine tr_env (es_cons (t := 3) (OT.tmp rfl) es_nil) ?_
          obtain rfl : i = v.2.2.length := by simp at c24; omega
          rw [List.drop_length, showT_nil, List.append_nil] at hout
          have hol : out.length ≤ 400 := by have h9 := congrArg List.length hout; simp at h9; omega
          refine tr_region ?_
          refine op_pure (pu_move (OT.tmp rfl)) rfl rfl ?_
          refine op_pure (pu_bs_add (OT.tmp rfl) OT.const (by (simp; omega))) rfl rfl ?_
          refine op_pure (pu_assign (OT.tmp rfl)) rfl rfl ?_
          refine tr_nil ?_
          refine then_normal ?_
          refine tr_ret ?_
          exact ret_one .ret (.inl rfl) rfl () (OT.val (OT.tmp rfl) (congrArg Value.string (congrArg bs (by rw [hev, ← hout])))) trivial (by exact picks_nil)
end Go.Proofs.YtdlendioamiagaaDoor
/- Values of properties, plain: the document's examples. -/
namespace Go.Proofs.YtdlendioamiagaaDoor
open Go Go.Gw Go.Vl Go.Lib
set_option linter.unusedVariables false
set_option linter.unusedSimpArgs false
theorem aw1 : encR (1, 64, []) = [1, 128, 1] ∧ checkV (1, 64, []) = 0 := by
  have h0 : checkV (1, 64, []) = 0 := rfl
  refine ⟨?_, h0⟩
  rw [encR_ok h0]
  show 1 :: varint (zig 64) = _
  rw [show zig 64 = 128 from rfl, varint_big (by decide), show 128 / 128 = 1 from rfl, varint_small (by decide)]
  rfl
theorem rune1 {b : UInt8} {l : List UInt8} (h : b.toNat < 128) : rune (b :: l) = (b.toNat, 1) := decodeL_ascii b l h
theorem aw2 : showR (2, 0, [7, 34]) = [34, 92, 117, 123, 55, 125, 92, 34, 34] ∧ checkV (2, 0, [7, 34]) = 0 := by
  have hv : validD [7, 34] = true := by rw [validD_cons _ _ (by decide), validD_cons _ _ (by decide)]; rfl
  have h0 : checkV (2, 0, [7, 34]) = 0 := by unfold checkV; simp [hv]
  refine ⟨?_, h0⟩
  rw [showR_ok h0]
  show 34 :: showT [7, 34] ++ [34] = _
  rw [showT_step (by decide), rune1 (by decide)]
  show 34 :: (showC 7 ++ showT [34]) ++ [34] = _
  rw [showT_step (by decide), rune1 (by decide)]
  show 34 :: (showC 7 ++ (showC 34 ++ showT [])) ++ [34] = _
  rw [showT_nil]
  have h7 : showC 7 = [92, 117, 123] ++ hexL 7 ++ [125] := rfl
  rw [h7, hex_one (by decide)]
  rfl
theorem aw3 : parseR [34, 92, 117, 123, 48, 48, 52, 49, 125, 34] = ((2, 0, [65]), 0) := by
  have ht : textR [92, 117, 123, 48, 48, 52, 49, 125] = ([65], true) := by
    have hb : badT [92, 117, 123, 48, 48, 52, 49, 125] = false := by unfold badT badR; rw [rune1 (by decide)]; rfl
    have he : escP [117, 123, 48, 48, 52, 49, 125] = some (65, []) := by decide
    have h92 : (rune [92, 117, 123, 48, 48, 52, 49, 125]).1 = 92 := by rw [rune1 (by decide)]; rfl
    obtain ⟨_, h⟩ := textP_esc (l := [92, 117, 123, 48, 48, 52, 49, 125]) (by decide) hb h92 he
    rw [textP_nil] at h
    exact textR_some h
  have hv : checkV (2, 0, [65]) = 0 := by
    have hv : validD [65] = true := by rw [validD_cons _ _ (by decide)]; rfl
    unfold checkV; simp [hv]
  refine parseR_some ?_
  unfold parseV
  rw [if_neg (by decide), if_neg (by decide), if_pos (by decide)]
  have hi : innerL [34, 92, 117, 123, 48, 48, 52, 49, 125, 34] = [92, 117, 123, 48, 48, 52, 49, 125] := by decide
  rw [hi, ht, if_pos (by rw [hv]; rfl)]
theorem aw4 : parseR [45, 48] = ((0, 0, []), 6) := by
  refine parseR_none ?_
  unfold parseV
  rw [if_neg (by decide), if_neg (by decide), if_neg (by decide), if_neg]
  intro h
  rw [Bool.and_eq_true, decide_eq_true_eq] at h
  have h1 : atoiV [45, 48] = 0 := rfl
  rw [h1, show (0 : Int) = ((0 : Nat) : Int) from rfl, itoa_nonneg, decDigits_one (by decide)] at h
  exact absurd h.2 (by decide)
end Go.Proofs.YtdlendioamiagaaDoor
/- Walks through the Go functions rhizomelaw02.awake, rhizomelaw02.ValChecks, as typed contracts. -/
namespace Go.Proofs.YtdlendioamiagaaDoor
open Go Go.Gw Go.Vl
set_option linter.unusedVariables false
set_option linter.unusedSimpArgs false

set_option maxRecDepth 20000 in
/-- rhizome/rhizomelaw02.awake -/
theorem awake_fn {K0 : FH} {n0 : Nat} (hV : VarsV K0) : CtM K0 n0 Tryd.prog 11 [] ([]) Unit (fun _ => BoolT true) (fun _ => []) (fun _ => True) := by
  refine fn_introM Tryd.func11 rfl rfl ?_
  intro H w hK hn
  refine tr_seq ?_
  -- region 0
  refine tr_env es_nil ?_
  refine tr_region ?_
  refine op_pure (pu_assign OT.const) rfl rfl ?_
  refine tr_nil ?_
  refine then_normal ?_
  refine tr_seq ?_
  -- region 1
  refine tr_env es_nil ?_
  refine tr_region ?_
  refine op_pure (pu_build (d := kVl) (v0 := (0, 0, [])) (ps := [(0, 1), (1, 1), (2, 1)]) zVl (by kernel_rfl) rfl (fills_cons rfl lv0 OT.const (fills_cons rfl lv1 OT.const fills_nil))) rfl rfl ?_
  refine op_acts (acts_callM (Encode_fn (1, 64, []) hV (by decide) (by decide) (by decide)) (mk_in hK hn) (show enters Tryd.prog 13 = true from by decide +kernel) (OTs.cons (OT.tmp rfl) OTs.nil) (List.Perm.refl _)) (List.Perm.refl _) rfl rfl (fun _ _ => ?_)
  refine op_pure (pu_move (OT.tmp rfl)) rfl rfl ?_
  refine op_pure (pu_extract (OT.tmp rfl) rfl) rfl rfl ?_
  refine op_pure (pu_extract (OT.tmp rfl) rfl) rfl rfl ?_
  refine op_pure (pu_assign (OT.tmp rfl)) rfl rfl ?_
  refine op_pure (pu_assign (OT.tmp rfl)) rfl rfl ?_
  refine tr_nil ?_
  refine then_normal ?_
  refine tr_seq ?_
  -- region 2
  refine tr_env (es_cons (t := 1) (OT.tmp rfl) (es_cons (t := 2) (OT.tmp rfl) es_nil)) ?_
  refine tr_region ?_
  refine op_pure (pu_build (d := kVl) (v0 := (0, 0, [])) (ps := [(0, 1), (1, 1), (2, 1)]) zVl (by kernel_rfl) rfl (fills_cons rfl lv0 OT.const (fills_cons rfl lv2 OT.const fills_nil))) rfl rfl ?_
  refine op_acts (acts_callM (Show_fn (2, 0, [7, 34]) hV (by decide) (by decide) (by decide)) (mk_in hK hn) (show enters Tryd.prog 14 = true from by decide +kernel) (OTs.cons (OT.tmp rfl) OTs.nil) (List.Perm.refl _)) (List.Perm.refl _) rfl rfl (fun _ _ => ?_)
  refine op_pure (pu_move (OT.tmp rfl)) rfl rfl ?_
  refine op_pure (pu_extract (OT.tmp rfl) rfl) rfl rfl ?_
  refine op_pure (pu_extract (OT.tmp rfl) rfl) rfl rfl ?_
  refine op_pure (pu_assign (OT.tmp rfl)) rfl rfl ?_
  refine op_pure (pu_assign (OT.tmp rfl)) rfl rfl ?_
  refine tr_nil ?_
  refine then_normal ?_
  refine tr_seq ?_
  -- region 3
  refine tr_env (es_cons (t := 1) (OT.tmp rfl) (es_cons (t := 2) (OT.tmp rfl) (es_cons (t := 3) (OT.tmp rfl) (es_cons (t := 4) (OT.tmp rfl) es_nil)))) ?_
  refine tr_region ?_
  refine op_acts (acts_callM (Parse_fn _ hV (by decide)) (mk_in hK hn) (show enters Tryd.prog 18 = true from by decide +kernel) (OTs.cons OT.const OTs.nil) (List.Perm.refl _)) (List.Perm.refl _) rfl rfl (fun _ _ => ?_)
  refine op_pure (pu_move (OT.tmp rfl)) rfl rfl ?_
  refine op_pure (pu_extract (OT.tmp rfl) rfl) rfl rfl ?_
  refine op_pure (pu_extract (OT.tmp rfl) rfl) rfl rfl ?_
  refine op_acts (acts_alloc (zVl)) (List.Perm.refl _) rfl rfl (fun g3_4 _ => ?_)
  refine op_acts (acts_store_var (OT.tmp rfl) (OT.tmp rfl) (by exact perm_at 0 rfl) (show tyOk Tryd.prog 23 true 3 = true from by decide +kernel)) (by exact perm_at 0 rfl) rfl rfl (fun _ _ => ?_)
  refine op_pure (pu_assign (OT.tmp rfl)) rfl rfl ?_
  refine tr_nil ?_
  refine then_normal ?_
  refine tr_seq ?_
  -- region 4
  refine tr_env (es_cons (t := 1) (OT.tmp rfl) (es_cons (t := 2) (OT.tmp rfl) (es_cons (t := 3) (OT.tmp rfl) (es_cons (t := 4) (OT.tmp rfl) (es_cons (t := 5) (OT.tmp rfl) (es_cons (t := 6) (OT.tmp rfl) es_nil)))))) ?_
  refine tr_region ?_
  refine op_acts (acts_callM (Parse_fn _ hV (by decide)) (mk_in hK hn) (show enters Tryd.prog 18 = true from by decide +kernel) (OTs.cons OT.const OTs.nil) (List.Perm.refl _)) (List.Perm.refl _) rfl rfl (fun _ _ => ?_)
  refine op_pure (pu_move (OT.tmp rfl)) rfl rfl ?_
  refine op_pure (pu_extract (OT.tmp rfl) rfl) rfl rfl ?_
  refine op_pure (pu_extract (OT.tmp rfl) rfl) rfl rfl ?_
  refine op_acts (acts_alloc (zVl)) (List.Perm.refl _) rfl rfl (fun g4_4 _ => ?_)
  refine op_acts (acts_store_var (OT.tmp rfl) (OT.tmp rfl) (by exact perm_at 0 rfl) (show tyOk Tryd.prog 23 true 3 = true from by decide +kernel)) (by exact perm_at 0 rfl) rfl rfl (fun _ _ => ?_)
  refine op_pure (pu_assign (OT.tmp rfl)) rfl rfl ?_
  refine tr_nil ?_
  refine then_normal ?_
  refine tr_seq ?_
  -- region 5
  refine tr_env (es_cons (t := 1) (OT.tmp rfl) (es_cons (t := 2) (OT.tmp rfl) (es_cons (t := 3) (OT.tmp rfl) (es_cons (t := 4) (OT.tmp rfl) (es_cons (t := 5) (OT.tmp rfl) (es_cons (t := 6) (OT.tmp rfl) (es_cons (t := 8) (OT.tmp rfl) es_nil))))))) ?_
  refine tr_region ?_
  refine op_pure (pu_move (OT.tmp rfl)) rfl rfl ?_
  refine op_pure (pu_eql (OT.tmp rfl) OT.const) rfl rfl ?_
  refine op_pure (pu_move (OT.tmp rfl)) rfl rfl ?_
  refine op_gu rfl rfl rfl (OT.gu_mk (OT.tmp rfl)) (fun hg => by (have hg1 := hg.2; (try simp only [decide_eq_true_eq, decide_eq_false_iff_not] at hg1); exact pu_move (by exact OT.tmp rfl))) rfl ?_
  refine op_gu rfl rfl rfl (OT.gu_mk (OT.tmp rfl)) (fun hg => by (have hg1 := hg.2; (try simp only [decide_eq_true_eq, decide_eq_false_iff_not] at hg1); exact pu_bytes_bs (by exact OT.gu (OT.tmp rfl) hg) Tryd.underlying26 Tryd.underlying5 Tryd.underlying9)) rfl ?_
  refine op_gu rfl rfl rfl (OT.gu_mk (OT.tmp rfl)) (fun hg => by (have hg1 := hg.2; (try simp only [decide_eq_true_eq, decide_eq_false_iff_not] at hg1); exact pu_bs_eql (by exact OT.gu (OT.tmp rfl) hg) OT.const)) rfl ?_
  refine op_pure (pu_pick_and (OT.tmp rfl) (by exact OT.tmp rfl)) rfl rfl ?_
  refine op_pure (pu_move (OT.tmp rfl)) rfl rfl ?_
  refine op_gu rfl rfl rfl (OT.gu_mk (OT.tmp rfl)) (fun hg => by (have hg1 := hg.2; (try simp only [decide_eq_true_eq, decide_eq_false_iff_not] at hg1); exact pu_move (by exact OT.tmp rfl))) rfl ?_
  refine op_gu rfl rfl rfl (OT.gu_mk (OT.tmp rfl)) (fun hg => by (have hg1 := hg.2; (try simp only [decide_eq_true_eq, decide_eq_false_iff_not] at hg1); exact pu_eql (by exact OT.gu (OT.tmp rfl) hg) OT.const)) rfl ?_
  refine op_pure (pu_pick_and (OT.tmp rfl) (by exact OT.tmp rfl)) rfl rfl ?_
  refine op_pure (pu_move (OT.tmp rfl)) rfl rfl ?_
  refine op_gu rfl rfl rfl (OT.gu_mk (OT.tmp rfl)) (fun hg => by (have hg1 := hg.2; (try simp only [decide_eq_true_eq, decide_eq_false_iff_not] at hg1); exact pu_move (by exact OT.tmp rfl))) rfl ?_
  refine op_gu rfl rfl rfl (OT.gu_mk (OT.tmp rfl)) (fun hg => by (have hg1 := hg.2; (try simp only [decide_eq_true_eq, decide_eq_false_iff_not] at hg1); exact pu_bs_eql (by exact OT.gu (OT.tmp rfl) hg) OT.const)) rfl ?_
  refine op_pure (pu_pick_and (OT.tmp rfl) (by exact OT.tmp rfl)) rfl rfl ?_
  refine op_pure (pu_move (OT.tmp rfl)) rfl rfl ?_
  refine op_gu rfl rfl rfl (OT.gu_mk (OT.tmp rfl)) (fun hg => by (have hg1 := hg.2; (try simp only [decide_eq_true_eq, decide_eq_false_iff_not] at hg1); exact pu_move (by exact OT.tmp rfl))) rfl ?_
  refine op_gu rfl rfl rfl (OT.gu_mk (OT.tmp rfl)) (fun hg => by (have hg1 := hg.2; (try simp only [decide_eq_true_eq, decide_eq_false_iff_not] at hg1); exact pu_eql (by exact OT.gu (OT.tmp rfl) hg) OT.const)) rfl ?_
  refine op_pure (pu_pick_and (OT.tmp rfl) (by exact OT.tmp rfl)) rfl rfl ?_
  refine op_pure (pu_move (OT.tmp rfl)) rfl rfl ?_
  refine op_gu rfl rfl rfl (OT.gu_mk (OT.tmp rfl)) (fun hg => by (have hg1 := hg.2; (try simp only [decide_eq_true_eq, decide_eq_false_iff_not] at hg1); exact pu_faddr (by exact OT.tmp rfl) (show fieldOk Tryd.prog 23 2 2 false 1 = true from by decide +kernel))) rfl ?_
  refine op_gu rfl rfl rfl (OT.gu_mk (OT.tmp rfl)) (fun hg => by (have hg1 := hg.2; (try simp only [decide_eq_true_eq, decide_eq_false_iff_not] at hg1); exact pu_load_blk (by exact OT.gu (OT.tmp rfl) hg) (by exact mem_at 1 rfl) lv2 (show tyOk Tryd.prog 9 false 1 = true from by decide +kernel))) rfl ?_
  refine op_gu rfl rfl rfl (OT.gu_mk (OT.tmp rfl)) (fun hg => by (have hg1 := hg.2; (try simp only [decide_eq_true_eq, decide_eq_false_iff_not] at hg1); exact pu_bs_eql (by exact OT.gu (OT.tmp rfl) hg) OT.const)) rfl ?_
  refine op_pure (pu_pick_and (OT.tmp rfl) (by exact OT.tmp rfl)) rfl rfl ?_
  refine op_pure (pu_move (OT.tmp rfl)) rfl rfl ?_
  refine op_gu rfl rfl rfl (OT.gu_mk (OT.tmp rfl)) (fun hg => by (have hg1 := hg.2; (try simp only [decide_eq_true_eq, decide_eq_false_iff_not] at hg1); exact pu_move (by exact OT.tmp rfl))) rfl ?_
  refine op_gu rfl rfl rfl (OT.gu_mk (OT.tmp rfl)) (fun hg => by (have hg1 := hg.2; (try simp only [decide_eq_true_eq, decide_eq_false_iff_not] at hg1); exact pu_eql (by exact OT.gu (OT.tmp rfl) hg) OT.const)) rfl ?_
  refine op_pure (pu_pick_and (OT.tmp rfl) (by exact OT.tmp rfl)) rfl rfl ?_
  refine op_pure (pu_assign (OT.tmp rfl)) rfl rfl ?_
  refine tr_nil ?_
  refine then_normal ?_
  refine tr_ret ?_
  exact ret_one .ret (.inl rfl) rfl () (OT.val (OT.tmp rfl) (congrArg Value.bool (by rw [unnum_nums, aw1.1, aw1.2, aw2.1, aw2.2, aw3, aw4]; rfl))) trivial (by exact picks_nil)
set_option maxRecDepth 20000 in
/-- rhizome/rhizomelaw02.ValChecks -/
theorem ValChecks_fn {K0 : FH} {n0 : Nat} (v : Vl) (hV : VarsV K0) (hl : v.2.2.length ≤ 140737488351232) (hi0 : -9223372036854775808 ≤ v.2.1) (hi1 : v.2.1 ≤ 9223372036854775807) : CtM K0 n0 Tryd.prog 3 [kVl.T v] ([]) Unit (fun _ => BoolT true) (fun _ => []) (fun _ => True) := by
  refine fn_introM Tryd.func3 rfl rfl ?_
  intro H w hK hn
  refine tr_seq ?_
  -- region 0
  refine tr_env (es_cons (t := 0) (OT.tmp rfl) es_nil) ?_
  refine tr_region ?_
  refine op_acts (acts_box (d := kVl) (OT.tmp rfl)) (List.Perm.refl _) rfl rfl (fun g0_0 _ => ?_)
  refine op_pure (pu_assign OT.const) rfl rfl ?_
  refine tr_nil ?_
  refine then_normal ?_
  refine tr_seq ?_
  refine tr_seq ?_
  -- region 1
  refine tr_env (es_cons (t := 1) (OT.tmp rfl) es_nil) ?_
  refine tr_region ?_
  refine op_acts (acts_callM (awake_fn hV) (mk_in hK hn) (show enters Tryd.prog 11 = true from by decide +kernel) OTs.nil (List.Perm.refl _)) (List.Perm.refl _) rfl rfl (fun _ _ => ?_)
  refine op_pure (pu_not (OT.tmp rfl)) rfl rfl ?_
  refine op_pure (pu_move (OT.tmp rfl)) rfl rfl ?_
  refine op_gu rfl rfl rfl (OT.gu_mk (OT.tmp rfl)) (fun hg => by (have hg1 := hg.2; (try simp only [decide_eq_true_eq, decide_eq_false_iff_not] at hg1); exact pu_faddr (by exact OT.tmp rfl) (show fieldOk Tryd.prog 23 2 2 false 1 = true from by decide +kernel))) rfl ?_
  refine op_gu rfl rfl rfl (OT.gu_mk (OT.tmp rfl)) (fun hg => by (have hg1 := hg.2; (try simp only [decide_eq_true_eq, decide_eq_false_iff_not] at hg1); exact pu_load_blk (by exact OT.gu (OT.tmp rfl) hg) (by exact mem_at 0 rfl) lv2 (show tyOk Tryd.prog 9 false 1 = true from by decide +kernel))) rfl ?_
  refine op_gu rfl rfl rfl (OT.gu_mk (OT.tmp rfl)) (fun hg => by (have hg1 := hg.2; (try simp only [decide_eq_true_eq, decide_eq_false_iff_not] at hg1); exact pu_len_bs Tryd.underlying9 (by exact OT.gu (OT.tmp rfl) hg))) rfl ?_
  refine op_gu rfl rfl rfl (OT.gu_mk (OT.tmp rfl)) (fun hg => by (have hg1 := hg.2; (try simp only [decide_eq_true_eq, decide_eq_false_iff_not] at hg1); exact pu_gtr (by exact OT.gu (OT.tmp rfl) hg) OT.const)) rfl ?_
  refine op_pure (pu_pick_or (OT.tmp rfl) (by exact OT.tmp rfl)) rfl rfl ?_
  refine tr_nil ?_
  refine then_normal ?_
  refine tr_cond (OT.tmp rfl) (fun c15 => ?_) (fun c15 => ?_)
  · skip
    refine tr_seq ?_
    -- region 2
    refine tr_env es_nil ?_
    refine tr_region ?_
    refine op_acts (acts_callM (awake_fn hV) (mk_in hK hn) (show enters Tryd.prog 11 = true from by decide +kernel) OTs.nil (List.Perm.refl _)) (List.Perm.refl _) rfl rfl (fun _ _ => ?_)
    refine op_pure (pu_assign (OT.tmp rfl)) rfl rfl ?_
    refine tr_nil ?_
    refine then_normal ?_
    refine tr_ret ?_
    refine then_ret ?_
    exact ret_one .ret (.inl rfl) rfl () (OT.val (OT.tmp rfl) (congrArg Value.bool (rfl))) trivial (by exact picks_nil)
  · skip
    refine tr_skip ?_
    refine then_normal ?_
    refine tr_seq ?_
    -- region 3
    refine tr_env (es_cons (t := 1) (OT.tmp rfl) es_nil) ?_
    refine tr_region ?_
    refine op_pure (pu_load_var (OT.tmp rfl) (by exact mem_at 0 rfl) (show tyOk Tryd.prog 23 true 3 = true from by decide +kernel)) rfl rfl ?_
    refine op_acts (acts_call (rCheck_fn v (by omega)) (show enters Tryd.prog 12 = true from by decide +kernel) (OTs.cons (OT.tmp rfl) OTs.nil) (List.Perm.refl _)) (List.Perm.refl _) rfl rfl (fun _ _ => ?_)
    refine op_pure (pu_assign (OT.tmp rfl)) rfl rfl ?_
    refine tr_nil ?_
    refine then_normal ?_
    refine tr_seq ?_
    -- region 4
    refine tr_env (es_cons (t := 1) (OT.tmp rfl) (es_cons (t := 3) (OT.tmp rfl) es_nil)) ?_
    refine tr_region ?_
    refine op_pure (pu_load_var (OT.tmp rfl) (by exact mem_at 0 rfl) (show tyOk Tryd.prog 23 true 3 = true from by decide +kernel)) rfl rfl ?_
    refine op_acts (acts_callM (Encode_fn v hV (by omega) hi0 hi1) (mk_in hK hn) (show enters Tryd.prog 13 = true from by decide +kernel) (OTs.cons (OT.tmp rfl) OTs.nil) (List.Perm.refl _)) (List.Perm.refl _) rfl rfl (fun _ _ => ?_)
    refine op_pure (pu_move (OT.tmp rfl)) rfl rfl ?_
    refine op_pure (pu_extract (OT.tmp rfl) rfl) rfl rfl ?_
    refine op_pure (pu_extract (OT.tmp rfl) rfl) rfl rfl ?_
    refine op_pure (pu_assign (OT.tmp rfl)) rfl rfl ?_
    refine op_pure (pu_assign (OT.tmp rfl)) rfl rfl ?_
    refine tr_nil ?_
    refine then_normal ?_
    refine tr_seq ?_
    -- region 5
    refine tr_env (es_cons (t := 1) (OT.tmp rfl) (es_cons (t := 3) (OT.tmp rfl) (es_cons (t := 4) (OT.tmp rfl) (es_cons (t := 5) (OT.tmp rfl) es_nil)))) ?_
    refine tr_region ?_
    refine op_pure (pu_load_var (OT.tmp rfl) (by exact mem_at 0 rfl) (show tyOk Tryd.prog 23 true 3 = true from by decide +kernel)) rfl rfl ?_
    refine op_acts (acts_callM (Show_fn v hV (by omega) hi0 hi1) (mk_in hK hn) (show enters Tryd.prog 14 = true from by decide +kernel) (OTs.cons (OT.tmp rfl) OTs.nil) (List.Perm.refl _)) (List.Perm.refl _) rfl rfl (fun _ _ => ?_)
    refine op_pure (pu_move (OT.tmp rfl)) rfl rfl ?_
    refine op_pure (pu_extract (OT.tmp rfl) rfl) rfl rfl ?_
    refine op_pure (pu_extract (OT.tmp rfl) rfl) rfl rfl ?_
    refine op_pure (pu_assign (OT.tmp rfl)) rfl rfl ?_
    refine op_pure (pu_assign (OT.tmp rfl)) rfl rfl ?_
    refine tr_nil ?_
    refine then_normal ?_
    refine tr_seq ?_
    refine tr_seq ?_
    -- region 6
    refine tr_env (es_cons (t := 1) (OT.tmp rfl) (es_cons (t := 3) (OT.tmp rfl) (es_cons (t := 4) (OT.tmp rfl) (es_cons (t := 5) (OT.tmp rfl) (es_cons (t := 6) (OT.tmp rfl) (es_cons (t := 7) (OT.tmp rfl) es_nil)))))) ?_
    refine tr_region ?_
    refine op_pure (pu_load_var (OT.tmp rfl) (by exact mem_at 0 rfl) (show tyOk Tryd.prog 23 true 3 = true from by decide +kernel)) rfl rfl ?_
    refine op_acts (acts_callM (Check_fn v hV (by omega)) (mk_in hK hn) (show enters Tryd.prog 15 = true from by decide +kernel) (OTs.cons (OT.tmp rfl) OTs.nil) (List.Perm.refl _)) (List.Perm.refl _) rfl rfl (fun _ _ => ?_)
    refine op_pure (pu_move (OT.tmp rfl)) rfl rfl ?_
    refine op_pure (pu_neq (OT.tmp rfl) (OT.tmp rfl)) rfl rfl ?_
    refine op_pure (pu_move (OT.tmp rfl)) rfl rfl ?_
    refine op_gu rfl rfl rfl (OT.gu_mk (OT.tmp rfl)) (fun hg => by (have hg1 := hg.2; (try simp only [decide_eq_true_eq, decide_eq_false_iff_not] at hg1); exact pu_move (by exact OT.tmp rfl))) rfl ?_
    refine op_gu rfl rfl rfl (OT.gu_mk (OT.tmp rfl)) (fun hg => by (have hg1 := hg.2; (try simp only [decide_eq_true_eq, decide_eq_false_iff_not] at hg1); exact pu_move (by exact OT.tmp rfl))) rfl ?_
    refine op_gu rfl rfl rfl (OT.gu_mk (OT.tmp rfl)) (fun hg => by (have hg1 := hg.2; (try simp only [decide_eq_true_eq, decide_eq_false_iff_not] at hg1); exact pu_neq (by exact OT.gu (OT.tmp rfl) hg) (by exact OT.gu (OT.tmp rfl) hg))) rfl ?_
    refine op_pure (pu_pick_or (OT.tmp rfl) (by exact OT.tmp rfl)) rfl rfl ?_
    refine op_pure (pu_move (OT.tmp rfl)) rfl rfl ?_
    refine op_gu rfl rfl rfl (OT.gu_mk (OT.tmp rfl)) (fun hg => by (have hg1 := hg.2; (try simp only [decide_eq_true_eq, decide_eq_false_iff_not] at hg1); exact pu_move (by exact OT.tmp rfl))) rfl ?_
    refine op_gu rfl rfl rfl (OT.gu_mk (OT.tmp rfl)) (fun hg => by (have hg1 := hg.2; (try simp only [decide_eq_true_eq, decide_eq_false_iff_not] at hg1); exact pu_move (by exact OT.tmp rfl))) rfl ?_
    refine op_gu rfl rfl rfl (OT.gu_mk (OT.tmp rfl)) (fun hg => by (have hg1 := hg.2; (try simp only [decide_eq_true_eq, decide_eq_false_iff_not] at hg1); exact pu_neq (by exact OT.gu (OT.tmp rfl) hg) (by exact OT.gu (OT.tmp rfl) hg))) rfl ?_
    refine op_pure (pu_pick_or (OT.tmp rfl) (by exact OT.tmp rfl)) rfl rfl ?_
    refine tr_nil ?_
    refine then_normal ?_
    refine tr_cond (OT.tmp rfl) (fun c42 => ?_) (fun c42 => ?_)
    · skip
      exact absurd c42 (by simp) --done
    · skip
      refine tr_skip ?_
      refine then_normal ?_
      refine tr_seq ?_
      refine tr_seq ?_
      -- region 8
      refine tr_env (es_cons (t := 1) (OT.tmp rfl) (es_cons (t := 3) (OT.tmp rfl) (es_cons (t := 4) (OT.tmp rfl) (es_cons (t := 6) (OT.tmp rfl) es_nil)))) ?_
      refine tr_region ?_
      refine op_pure (pu_move (OT.tmp rfl)) rfl rfl ?_
      refine op_pure (pu_neq (OT.tmp rfl) OT.const) rfl rfl ?_
      refine tr_nil ?_
      refine then_normal ?_
      refine tr_cond (OT.tmp rfl) (fun c44 => ?_) (fun c44 => ?_)
      · skip
        have hbad : checkV v ≠ 0 := of_decide_eq_true c44
        refine tr_seq ?_
        -- region 9
        refine tr_env (es_cons (t := 4) (OT.tmp rfl) (es_cons (t := 6) (OT.tmp rfl) es_nil)) ?_
        refine tr_region ?_
        refine op_pure (pu_move (OT.tmp rfl)) rfl rfl ?_
        refine op_pure (pu_len_sl (OT.tmp rfl) Tryd.underlying26) rfl rfl ?_
        refine op_pure (pu_eql (OT.tmp rfl) OT.const) rfl rfl ?_
        refine op_pure (pu_move (OT.tmp rfl)) rfl rfl ?_
        refine op_gu rfl rfl rfl (OT.gu_mk (OT.tmp rfl)) (fun hg => by (have hg1 := hg.2; (try simp only [decide_eq_true_eq, decide_eq_false_iff_not] at hg1); exact pu_move (by exact OT.tmp rfl))) rfl ?_
        refine op_gu rfl rfl rfl (OT.gu_mk (OT.tmp rfl)) (fun hg => by (have hg1 := hg.2; (try simp only [decide_eq_true_eq, decide_eq_false_iff_not] at hg1); exact pu_bs_eql (by exact OT.gu (OT.tmp rfl) hg) OT.const)) rfl ?_
        refine op_pure (pu_pick_and (OT.tmp rfl) (by exact OT.tmp rfl)) rfl rfl ?_
        refine op_pure (pu_assign (OT.tmp rfl)) rfl rfl ?_
        refine tr_nil ?_
        refine then_normal ?_
        refine tr_ret ?_
        refine then_ret ?_
        exact ret_one .ret (.inl rfl) rfl () (OT.val (OT.tmp rfl) (congrArg Value.bool (by rw [encR_bad hbad, showR_bad hbad]; rfl))) trivial (by exact picks_nil)
      · skip
        have hc0 : checkV v = 0 := by have h9 := of_decide_eq_false c44; omega
        refine tr_skip ?_
        refine then_normal ?_
        refine tr_seq ?_
        -- region 10
        refine tr_env (es_cons (t := 1) (OT.tmp rfl) (es_cons (t := 4) (OT.tmp rfl) (es_cons (t := 6) (OT.tmp rfl) es_nil))) ?_
        apply tr_any (m := 10) (ns := [[(4, none)], [(52, some 0)], [(1, none)], [(54, some 2)], [(55, some 3)], [(53, some 1), (56, some 4)], [(57, some 5)], [(6, none), (58, some 6)], [(1, none), (58, some 6)], [(58, some 6), (60, some 8)]]) (by kernel_rfl) (by kernel_rfl) (Ts := [_, _, _, _, _, _, _, _, _, _]) rfl
        case hops =>
          refine ⟨?_, ⟨?_, ⟨?_, ⟨?_, ⟨?_, ⟨?_, ⟨?_, ⟨?_, ⟨?_, ⟨?_, trivial⟩⟩⟩⟩⟩⟩⟩⟩⟩⟩
          · exact rop_pure rfl (pu_move (OT.tmp rfl))
          · exact rop_pure rfl (pu_bytes_bs (OT.tmp rfl) Tryd.underlying26 Tryd.underlying5 Tryd.underlying9)
          · exact rop_pure rfl (pu_load_var (OT.tmp rfl) (by exact mem_at 0 rfl) (show tyOk Tryd.prog 23 true 3 = true from by decide +kernel))
          · exact rop_acts rfl (acts_call (rEncode_fn v hc0 hi0 hi1) (show enters Tryd.prog 16 = true from by decide +kernel) (OTs.cons (OT.tmp rfl) OTs.nil) (List.Perm.refl _)) (fun _ _ _ _ h => h)
          · exact rop_pure rfl (pu_bytes_bs (OT.tmp rfl) Tryd.underlying26 Tryd.underlying5 Tryd.underlying9)
          · exact rop_pure rfl (pu_bs_eql (OT.tmp rfl) (OT.tmp rfl))
          · exact rop_pure rfl (pu_move (OT.tmp rfl))
          · exact rop_gu rfl rfl rfl (OT.gu_mk (OT.tmp rfl)) (fun hg => by (have hg1 := hg.2; exact rop_pure rfl (pu_move (by exact OT.tmp rfl))))
          · exact rop_gu rfl rfl rfl (OT.gu_mk (OT.tmp rfl)) (fun hg => by (have hg1 := hg.2; exact rop_pure rfl (pu_load_var (by exact OT.tmp rfl) (by exact mem_at 0 rfl) (show tyOk Tryd.prog 23 true 3 = true from by decide +kernel))))
          · exact rop_gu rfl rfl rfl (OT.gu_mk (OT.tmp rfl)) (fun hg => by (have hg1 := hg.2; exact rop_acts rfl (acts_call (rShow_fn v hc0 hi0 hi1) (show enters Tryd.prog 17 = true from by decide +kernel) (OTs.cons (by exact OT.gu (OT.tmp rfl) hg) OTs.nil) (List.Perm.refl _)) (fun _ _ _ _ h => h)))
        case h =>
          refine op_gu rfl rfl rfl (OT.gu_mk (OT.tmp rfl)) (fun hg => by (have hg1 := hg.2; (try simp only [decide_eq_true_eq, decide_eq_false_iff_not] at hg1); exact pu_bs_eql (by exact OT.gu (OT.tmp rfl) hg) (by exact OT.gu (OT.tmp rfl) hg))) rfl ?_
          refine op_pure (pu_pick_and (OT.tmp rfl) (by exact OT.tmp rfl)) rfl rfl ?_
          refine op_pure (pu_assign (OT.tmp rfl)) rfl rfl ?_
          refine tr_nil ?_
          refine then_normal ?_
          refine tr_ret ?_
          exact ret_one .ret (.inl rfl) rfl () (OT.val (OT.tmp rfl) (congrArg Value.bool (by rw [unnum_nums, unnum_nums, encR_ok hc0, showR_ok hc0]; simp))) trivial (by exact picks_nil)
end Go.Proofs.YtdlendioamiagaaDoor
/- The package-level variables that the rows list: what they hold in whatever world meets the list; one world that meets it. -/
namespace Go.Proofs.YtdlendioamiagaaDoor
open Go Go.Gw Go.Vl Go.RowKit
set_option linter.unusedVariables false
abbrev laidL : List (String × DataW Unit) := Rows.valChecksRow.laid
/-- The name of the sentinels' type. -/
abbrev errName : String := match (Rows.laid_strconv_ErrSyntax : DataW Unit) with
  | .iface n _ => n
  | _ => ""
theorem rowE (u : TypeId) (h : Tryd.prog.typeName? 3 u = some errName) : u = 142 :=
  typeName_ptr_named (nm := "errors.errorString") (by kernel_rfl) (by kernel_rfl) (by decide) u (h.trans (congrArg some (by decide)))
abbrev tzName : String := (laidL.getD 1 ("", .nil)).1
def tzTab : List Int := [0, 1, 56, 2, 57, 49, 28, 3, 61, 58, 42, 50, 38, 29, 17, 4, 62, 47, 59, 36, 45, 43, 51, 22, 53, 39, 33, 30, 24, 18, 12, 5, 63, 55, 48, 27, 60, 41, 37, 16, 46, 35, 44, 21, 52, 32, 23, 11, 54, 26, 40, 15, 34, 20, 31, 10, 25, 14, 19, 9, 13, 8, 7, 6]
theorem u8x : Go.Proofs.U8Extra Tryd.prog Tryd.lValid_ren where
  n3 := by kernel_rfl
  y3 := by kernel_rfl
  n4 := by kernel_rfl
  y4 := by kernel_rfl
  c5 := by kernel_rfl
  c119 := by kernel_rfl
  c138 := by kernel_rfl
theorem vars_of {W : World} (hS : W.ShapedOpen Tryd.prog) (hL : laidMet Tryd.prog laidL W) : VarsV (heapOf W) where
  tab := fun w ho => by
    have hT : Lib.TabIs Tryd.prog W Tryd.tabName .u64 Lib.pow10Tab := Lib.tabIs_of_head (g := 3) (t := 126) (e := 64) (n := 20) (by kernel_rfl) (by kernel_rfl) Tryd.underlying126 Tryd.underlying64 (by kernel_rfl) (by kernel_rfl) hL.tail.tail
    exact var_on hT ho
  syn := by
    obtain ⟨a0, s0, hv0, _⟩ := laid_sentinel (g := 4) (ti := 70) (tp := 142) (te := 144) (ts := 9) hL.tail.tail.tail.tail.tail (by kernel_rfl) (by kernel_rfl) Tryd.underlying70 rowE Tryd.underlying142 Tryd.underlying144 rfl rfl Tryd.underlying9 (by kernel_rfl) (by kernel_rfl)
    exact ⟨_, _, fun w ho => var_on hv0 ho⟩
  rng := by
    obtain ⟨a0, s0, hv0, _⟩ := laid_sentinel (g := 5) (ti := 70) (tp := 142) (te := 144) (ts := 9) hL.tail.tail.tail.tail (by kernel_rfl) (by kernel_rfl) Tryd.underlying70 rowE Tryd.underlying142 Tryd.underlying144 rfl rfl Tryd.underlying9 (by kernel_rfl) (by kernel_rfl)
    exact ⟨_, _, fun w ho => var_on hv0 ho⟩
  len := by
    obtain ⟨m, hm⟩ : ∃ m, W.cell? ⟨Tryd.lCut_ren.g 1, 0, none⟩ = some (.int .i64 m) := cell_of_shapedOpen_int (zero := #[.int .i64 0]) (t := 3) hS (of_decide_eq_true (by kernel_rfl)) (by kernel_rfl) rfl (by kernel_rfl) (by kernel_rfl) Tryd.underlying3
    exact ⟨m, fun w ho => cell_on hm ho⟩
  utf := fun w ho => by
    have h3 := Go.Lib.laidMet.reads hL (n := "unicode/utf8.first") (d := Rows.laid_unicode_utf8_first) (by simp [laidL, Rows.valChecksRow])
    have h4 := Go.Lib.laidMet.reads hL (n := "unicode/utf8.acceptRanges") (d := Rows.laid_unicode_utf8_acceptRanges) (by simp [laidL, Rows.valChecksRow])
    rw [show (Rows.laid_unicode_utf8_first : DataW Unit) = Lib.firstData from by kernel_rfl] at h3
    rw [show (Rows.laid_unicode_utf8_acceptRanges : DataW Unit) = Lib.acceptData from by kernel_rfl] at h4
    have hT := Go.Proofs.utf8Tabs_of_readsT (Go.Proofs.U8Types.of196 Tryd.lValid) u8x h3 h4
    exact ⟨fun c hc => cell_on (hT.1 c hc) ho, fun i hi => ⟨cell_on (hT.2 i hi).1 ho, cell_on (hT.2 i hi).2 ho⟩⟩
  syc := by
    obtain ⟨a0, s0, hv0, _⟩ := laid_sentinel (g := 4) (ti := 70) (tp := 142) (te := 144) (ts := 9) hL.tail.tail.tail.tail.tail (by kernel_rfl) (by kernel_rfl) Tryd.underlying70 rowE Tryd.underlying142 Tryd.underlying144 rfl rfl Tryd.underlying9 (by kernel_rfl) (by kernel_rfl)
    have key : ∀ w, On (heapOf W) w → w.cell? ⟨4, 0, none⟩ = some (.iface 142 (.pointer (some a0))) := fun w ho => by
      have h0 := World.var?_cell (g := 4) (by kernel_rfl) (var_on hv0 ho) 0
      simpa using h0
    exact ⟨_, .inr ⟨_, _, rfl⟩, key⟩
  tz := fun w ho => by
    have hT : Lib.TabIs Tryd.prog W tzName .u8 tzTab := Lib.tabIs_of_head (g := 7) (t := 146) (e := 5) (n := 64) (by kernel_rfl) (by kernel_rfl) Tryd.underlying146 Tryd.underlying5 (by kernel_rfl) (by kernel_rfl) hL.tail
    have h0 := World.var?_cell (g := 7) (by kernel_rfl) (var_on hT ho) 15
    exact h0
theorem plain_all (w : World) : laidMetH Tryd.prog laidL w = laidMet Tryd.prog laidL w := MakeChecks.laidMetH_plain _ _ _ (by kernel_rfl)
theorem shp (os : Os) : (World.laidAll Tryd.prog os laidL).Shaped Tryd.prog := World.shaped_of_ZipB (by kernel_rfl) (by kernel_rfl)
theorem met (os : Os) (args : Array Value) : laidMet Tryd.prog laidL ((World.laidAll Tryd.prog os laidL).forCall (fun _ _ => 0) ⟨#[], args, []⟩).memory := laidMet_laidAll _ (by kernel_rfl) (by kernel_rfl)
end Go.Proofs.YtdlendioamiagaaDoor
