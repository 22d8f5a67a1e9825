/- The texts Vl16, Vl17, Vl18, VlM, Vl19, VlN, VlQ, Vl20, Vl21, VlV of this claim, put together in their order. No condition of their own. -/
import Derived.Test.YtdlendioamiagaaDoorQ7
import Derived.ChangeKeysEq
import Derived.Laws.StructEq
import Derived.Lib.Bytealg
import Derived.Lib.Small
import Derived.Test.YtdlendioamiagaaDoorQ1
import Derived.Test.YtdlendioamiagaaDoorQ4
import Derived.Stop.LaidErr
import Derived.Lay
import Derived.MakeChecks
import Derived.RowKitTokens
import Derived.Lib.LaidU8T
/- Walks through the Go functions rhizomeref02.UTF8, rhizomeref02.Check, rhizomeref02.Encode, as typed contracts. -/
namespace Go.Proofs.YtdlendioamiagaaDoor
open Go Go.Gw Go.Vl
set_option linter.unusedVariables false
set_option linter.unusedSimpArgs false

set_option maxRecDepth 20000 in
/-- rhizome/rhizomeref02.UTF8 -/
theorem rUTF8_fn (l : List UInt8) (hl : l.length ≤ 100000) : Ct Tryd.prog 31 [BsT l] ([]) Unit (fun _ => BoolT (Lib.validD l)) (fun _ => []) (fun _ => True) := by
  refine fn_intro Tryd.func31 rfl rfl ?_
  intro H w
  refine tr_seq ?_
  -- region 0
  refine tr_env (es_cons (t := 0) (OT.tmp rfl) es_nil) ?_
  refine tr_region ?_
  refine op_pure (pu_assign OT.const) rfl rfl ?_
  refine tr_nil ?_
  refine then_normal ?_
  refine tr_seq ?_
  refine tr_seq ?_
  -- region 1
  refine tr_env (es_cons (t := 0) (OT.tmp rfl) es_nil) ?_
  refine tr_region ?_
  refine op_pure (pu_assign OT.const) rfl rfl ?_
  refine tr_nil ?_
  refine then_normal ?_
  refine tr_block ?_
  refine tr_loopK (σ := Nat) (es_cons (t := 0) (OT.tmp rfl) es_nil) (fun i => [(3, I64 (i : Int))]) (fun i => []) (fun i => i ≤ l.length ∧ Lib.validD (l.drop i) = Lib.validD l) (fun i => l.length - i) 0 ⟨Nat.zero_le _, by rw [List.drop_zero]⟩ ?_ (own_picks (by exact picks_nil)) ?_
  · exact (es_cons (t := 3) (by exact OT.tmp rfl) es_nil)
  · rintro i ⟨hi, hv⟩
    refine tr_seq ?_
    refine tr_seq ?_
    -- region 2
    refine tr_env (es_cons (t := 0) (OT.tmp rfl) (es_cons (t := 3) (OT.tmp rfl) es_nil)) ?_
    refine tr_region ?_
    refine op_pure (pu_move (OT.tmp rfl)) rfl rfl ?_
    refine op_pure (pu_move (OT.tmp rfl)) rfl rfl ?_
    refine op_pure (pu_len_bs Tryd.underlying9 (OT.tmp rfl)) rfl rfl ?_
    refine op_pure (pu_lss (OT.tmp rfl) (OT.tmp rfl)) rfl rfl ?_
    refine tr_nil ?_
    refine then_normal ?_
    refine tr_cond (OT.tmp rfl) (fun c9 => ?_) (fun c9 => ?_)
    · skip
      refine tr_skip ?_
      refine then_normal ?_
      refine tr_block ?_
      refine tr_seq ?_
      -- region 3
      refine tr_env (es_cons (t := 0) (OT.tmp rfl) (es_cons (t := 3) (OT.tmp rfl) es_nil)) ?_
      have hil : i < l.length := by simp at c9; omega
      have hne := drop_ne hil
      have hst := valid_step hne
      refine tr_region ?_
      refine op_pure (pu_move (OT.tmp rfl)) rfl rfl ?_
      refine op_pure (pu_move (OT.tmp rfl)) rfl rfl ?_
      refine op_acts (acts_call (rRune_fn l i (by omega) (by omega)) (show enters Tryd.prog 41 = true from by decide +kernel) (OTs.cons (OT.tmp rfl) (OTs.cons (OT.tmp rfl) OTs.nil)) (List.Perm.refl _)) (List.Perm.refl _) rfl rfl (fun _ _ => ?_)
      refine op_pure (pu_move (OT.tmp rfl)) rfl rfl ?_
      refine op_pure (pu_extract (OT.tmp rfl) rfl) rfl rfl ?_
      refine op_pure (pu_extract (OT.tmp rfl) rfl) rfl rfl ?_
      refine op_pure (pu_assign (OT.tmp rfl)) rfl rfl ?_
      refine op_pure (pu_assign (OT.tmp rfl)) rfl rfl ?_
      refine tr_nil ?_
      refine then_normal ?_
      refine tr_seq ?_
      refine tr_seq ?_
      -- region 4
      refine tr_env (es_cons (t := 0) (OT.tmp rfl) (es_cons (t := 3) (OT.tmp rfl) (es_cons (t := 4) (OT.tmp rfl) es_nil))) ?_
      skip
      refine tr_region ?_
      refine op_pure (pu_move (OT.tmp rfl)) rfl rfl ?_
      refine op_pure (pu_eql (OT.tmp rfl) OT.const) rfl rfl ?_
      refine tr_nil ?_
      refine then_normal ?_
      refine tr_cond (OT.tmp rfl) (fun c17 => ?_) (fun c17 => ?_)
      · skip
        have hb : badR (l.drop i) = true := by rcases refR_cases hne with ⟨h, _⟩ | ⟨_, h, h1, _⟩; exact h; rw [h] at c17; simp at c17; omega
        have hr : Lib.validD l = false := by rw [← hv, hst, hb]; rfl
        refine tr_seq ?_
        -- region 5
        refine tr_env es_nil ?_
        refine tr_region ?_
        refine op_pure (pu_assign OT.const) rfl rfl ?_
        refine tr_nil ?_
        refine then_normal ?_
        refine tr_ret ?_
        refine then_ret ?_
        refine block_ret ?_
        refine then_ret ?_
        refine block_ret ?_
        refine then_ret ?_
        exact ret_one .ret (.inl rfl) rfl () (OT.val (OT.tmp rfl) (congrArg Value.bool (hr.symm))) trivial (by exact picks_nil)
      · skip
        obtain ⟨hb, hrr, hw1, hw2⟩ : badR (l.drop i) = false ∧ refR (l.drop i) = (((rune (l.drop i)).2 : Int), ((rune (l.drop i)).1 : Int)) ∧ 1 ≤ (rune (l.drop i)).2 ∧ (rune (l.drop i)).2 ≤ (l.drop i).length := by rcases refR_cases hne with ⟨_, h⟩ | h; rw [h] at c17; simp at c17; exact h
        rw [List.length_drop] at hw2
        rw [hb, List.drop_drop] at hst
        rw [hrr]
        refine tr_skip ?_
        refine then_normal ?_
        -- region 6
        refine tr_env (es_cons (t := 0) (OT.tmp rfl) (es_cons (t := 3) (OT.tmp rfl) (es_cons (t := 4) (OT.tmp rfl) es_nil))) ?_
        refine tr_region ?_
        refine op_pure (pu_move (OT.tmp rfl)) rfl rfl ?_
        refine op_pure (pu_move (OT.tmp rfl)) rfl rfl ?_
        refine op_pure (pu_add' (OT.tmp rfl) (OT.tmp rfl) (by omega)) rfl rfl ?_
        refine op_pure (pu_assign (OT.tmp rfl)) rfl rfl ?_
        refine tr_nil ?_
        refine block_normal ?_
        refine then_normal ?_
        exact tr_again (i + (rune (l.drop i)).2) ⟨by omega, by rw [← hv, hst]; rfl⟩ (by omega) (es_append (es_cons (t := 3) (by exact OT.tmp rfl) es_nil) (es_cons (t := 0) (OT.tmp rfl) es_nil)) (own_picks (by exact picks_nil))
    · skip
      refine tr_exit ?_
      refine then_exit ?_
      refine then_exit ?_
      refine block_hit ?_
      refine then_normal ?_
      refine tr_seq ?_
      -- region 7
      refine tr_env es_nil ?_
      obtain rfl : i = l.length := by simp at c9; omega
      have hr : Lib.validD l = true := by rw [← hv, List.drop_length]; rfl
      refine tr_region ?_
      refine op_pure (pu_assign OT.const) rfl rfl ?_
      refine tr_nil ?_
      refine then_normal ?_
      refine tr_ret ?_
      exact ret_one .ret (.inl rfl) rfl () (OT.val (OT.tmp rfl) (congrArg Value.bool (hr.symm))) trivial (by exact picks_nil)
set_option maxRecDepth 20000 in
/-- rhizome/rhizomeref02.Check -/
theorem rCheck_fn (v : Vl) (hl : v.2.2.length ≤ 140737488351232) : Ct Tryd.prog 12 [kVl.T v] ([]) Unit (fun _ => I64 (checkV v)) (fun _ => []) (fun _ => True) := by
  refine fn_intro Tryd.func12 rfl rfl ?_
  intro H w
  refine tr_seq ?_
  -- region 0
  refine tr_env (es_cons (t := 0) (OT.tmp rfl) es_nil) ?_
  refine tr_region ?_
  refine op_acts (acts_box (d := kVl) (OT.tmp rfl)) (List.Perm.refl _) rfl rfl (fun g0_0 _ => ?_)
  refine op_pure (pu_assign OT.const) rfl rfl ?_
  refine tr_nil ?_
  refine then_normal ?_
  refine tr_seq ?_
  refine tr_seq ?_
  -- region 1
  refine tr_env (es_cons (t := 1) (OT.tmp rfl) es_nil) ?_
  refine tr_region ?_
  refine op_pure (pu_faddr (OT.tmp rfl) (show fieldOk Tryd.prog 23 0 0 false 1 = true from by decide +kernel)) rfl rfl ?_
  refine op_pure (pu_load_blk (OT.tmp rfl) (by exact mem_at 0 rfl) lv0 (show tyOk Tryd.prog 3 false 1 = true from by decide +kernel)) rfl rfl ?_
  refine op_pure (pu_eql (OT.tmp rfl) OT.const) rfl rfl ?_
  refine op_pure (pu_move (OT.tmp rfl)) rfl rfl ?_
  refine op_gu rfl rfl rfl (OT.gu_mk (OT.tmp rfl)) (fun hg => by (have hg1 := hg.2; (try simp only [decide_eq_true_eq, decide_eq_false_iff_not] at hg1); exact pu_faddr (by exact OT.tmp rfl) (show fieldOk Tryd.prog 23 0 0 false 1 = true from by decide +kernel))) rfl ?_
  refine op_gu rfl rfl rfl (OT.gu_mk (OT.tmp rfl)) (fun hg => by (have hg1 := hg.2; (try simp only [decide_eq_true_eq, decide_eq_false_iff_not] at hg1); exact pu_load_blk (by exact OT.gu (OT.tmp rfl) hg) (by exact mem_at 0 rfl) lv0 (show tyOk Tryd.prog 3 false 1 = true from by decide +kernel))) rfl ?_
  refine op_gu rfl rfl rfl (OT.gu_mk (OT.tmp rfl)) (fun hg => by (have hg1 := hg.2; (try simp only [decide_eq_true_eq, decide_eq_false_iff_not] at hg1); exact pu_eql (by exact OT.gu (OT.tmp rfl) hg) OT.const)) rfl ?_
  refine op_gu rfl rfl rfl (OT.gu_mk (OT.tmp rfl)) (fun hg => by (have hg1 := hg.2; (try simp only [decide_eq_true_eq, decide_eq_false_iff_not] at hg1); exact pu_move (by exact OT.gu (OT.tmp rfl) hg))) rfl ?_
  refine op_gu rfl rfl rfl (OT.tmp rfl) (fun hg => by (have hg1 := hg.2; (try simp only [decide_eq_true_eq, decide_eq_false_iff_not] at hg1); exact pu_faddr (by exact OT.tmp rfl) (show fieldOk Tryd.prog 23 1 1 false 1 = true from by decide +kernel))) rfl ?_
  refine op_gu rfl rfl rfl (OT.tmp rfl) (fun hg => by (have hg1 := hg.2; (try simp only [decide_eq_true_eq, decide_eq_false_iff_not] at hg1); exact pu_load_blk (by exact OT.gu (OT.tmp rfl) hg) (by exact mem_at 0 rfl) lv1 (show tyOk Tryd.prog 3 false 1 = true from by decide +kernel))) rfl ?_
  refine op_gu rfl rfl rfl (OT.tmp rfl) (fun hg => by (have hg1 := hg.2; (try simp only [decide_eq_true_eq, decide_eq_false_iff_not] at hg1); exact pu_eql (by exact OT.gu (OT.tmp rfl) hg) OT.const)) rfl ?_
  refine op_gu rfl rfl rfl (OT.tmp rfl) (fun hg => by (have hg1 := hg.2; (try simp only [decide_eq_true_eq, decide_eq_false_iff_not] at hg1); exact pu_move (by exact OT.gu (OT.tmp rfl) hg))) rfl ?_
  refine op_gu rfl rfl rfl (OT.tmp rfl) (fun hg => by (have hg1 := hg.2; (try simp only [decide_eq_true_eq, decide_eq_false_iff_not] at hg1); exact pu_faddr (by exact OT.tmp rfl) (show fieldOk Tryd.prog 23 1 1 false 1 = true from by decide +kernel))) rfl ?_
  refine op_gu rfl rfl rfl (OT.tmp rfl) (fun hg => by (have hg1 := hg.2; (try simp only [decide_eq_true_eq, decide_eq_false_iff_not] at hg1); exact pu_load_blk (by exact OT.gu (OT.tmp rfl) hg) (by exact mem_at 0 rfl) lv1 (show tyOk Tryd.prog 3 false 1 = true from by decide +kernel))) rfl ?_
  refine op_gu rfl rfl rfl (OT.tmp rfl) (fun hg => by (have hg1 := hg.2; (try simp only [decide_eq_true_eq, decide_eq_false_iff_not] at hg1); exact pu_eql (by exact OT.gu (OT.tmp rfl) hg) OT.const)) rfl ?_
  refine op_gu rfl rfl rfl (OT.tmp rfl) (fun hg => by (have hg1 := hg.2; (try simp only [decide_eq_true_eq, decide_eq_false_iff_not] at hg1); exact pu_pick_or_p hg (by exact OT.gu (OT.tmp rfl) hg) (OT.tmp rfl))) rfl ?_
  refine op_gu rfl rfl rfl (OT.gu_mk (OT.tmp rfl)) (fun hg => by (have hg1 := hg.2; (try simp only [decide_eq_true_eq, decide_eq_false_iff_not] at hg1); exact pu_pick_and_p hg (by exact OT.gu (OT.tmp rfl) hg) (OT.tmp rfl))) rfl ?_
  refine op_pure (pu_pick_or (OT.tmp rfl) (by exact OT.tmp rfl)) rfl rfl ?_
  refine tr_nil ?_
  refine then_normal ?_
  refine tr_cond (OT.tmp rfl) (fun c20 => ?_) (fun c20 => ?_)
  · skip
    refine tr_seq ?_
    -- region 2
    refine tr_env es_nil ?_
    refine tr_region ?_
    refine op_pure (pu_assign OT.const) rfl rfl ?_
    refine tr_nil ?_
    refine then_normal ?_
    refine tr_ret ?_
    refine then_ret ?_
    exact ret_one .ret (.inl rfl) rfl () (OT.val (OT.tmp rfl) (congrArg (Value.int _) (by (try simp only [Bool.and_eq_true, Bool.and_eq_false_iff, Bool.or_eq_true, Bool.or_eq_false_iff, Bool.not_eq_true', Bool.not_eq_false', decide_eq_true_eq, decide_eq_false_iff_not] at *); unfold checkV; (repeat' split) <;> first | rfl | (exfalso; omega) | (exfalso; simp_all; done)))) trivial (by exact picks_nil)
  · skip
    refine tr_skip ?_
    refine then_normal ?_
    refine tr_seq ?_
    refine tr_seq ?_
    -- region 3
    refine tr_env (es_cons (t := 1) (OT.tmp rfl) es_nil) ?_
    refine tr_region ?_
    refine op_pure (pu_faddr (OT.tmp rfl) (show fieldOk Tryd.prog 23 0 0 false 1 = true from by decide +kernel)) rfl rfl ?_
    refine op_pure (pu_load_blk (OT.tmp rfl) (by exact mem_at 0 rfl) lv0 (show tyOk Tryd.prog 3 false 1 = true from by decide +kernel)) rfl rfl ?_
    refine op_pure (pu_neq (OT.tmp rfl) OT.const) rfl rfl ?_
    refine tr_nil ?_
    refine then_normal ?_
    refine tr_cond (OT.tmp rfl) (fun c23 => ?_) (fun c23 => ?_)
    · skip
      refine tr_seq ?_
      -- region 4
      refine tr_env es_nil ?_
      refine tr_region ?_
      refine op_pure (pu_assign OT.const) rfl rfl ?_
      refine tr_nil ?_
      refine then_normal ?_
      refine tr_ret ?_
      refine then_ret ?_
      exact ret_one .ret (.inl rfl) rfl () (OT.val (OT.tmp rfl) (congrArg (Value.int _) (by (try simp only [Bool.and_eq_true, Bool.and_eq_false_iff, Bool.or_eq_true, Bool.or_eq_false_iff, Bool.not_eq_true', Bool.not_eq_false', decide_eq_true_eq, decide_eq_false_iff_not] at *); unfold checkV; (repeat' split) <;> first | rfl | (exfalso; omega) | (exfalso; simp_all; done)))) trivial (by exact picks_nil)
    · skip
      refine tr_skip ?_
      refine then_normal ?_
      refine tr_seq ?_
      refine tr_seq ?_
      -- region 5
      refine tr_env (es_cons (t := 1) (OT.tmp rfl) es_nil) ?_
      refine tr_region ?_
      refine op_pure (pu_faddr (OT.tmp rfl) (show fieldOk Tryd.prog 23 2 2 false 1 = true from by decide +kernel)) rfl rfl ?_
      refine op_pure (pu_load_blk (OT.tmp rfl) (by exact mem_at 0 rfl) lv2 (show tyOk Tryd.prog 9 false 1 = true from by decide +kernel)) rfl rfl ?_
      refine op_pure (pu_len_bs Tryd.underlying9 (OT.tmp rfl)) rfl rfl ?_
      refine op_pure (pu_gtr (OT.tmp rfl) OT.const) rfl rfl ?_
      refine tr_nil ?_
      refine then_normal ?_
      refine tr_cond (OT.tmp rfl) (fun c27 => ?_) (fun c27 => ?_)
      · skip
        refine tr_seq ?_
        -- region 6
        refine tr_env es_nil ?_
        refine tr_region ?_
        refine op_pure (pu_assign OT.const) rfl rfl ?_
        refine tr_nil ?_
        refine then_normal ?_
        refine tr_ret ?_
        refine then_ret ?_
        exact ret_one .ret (.inl rfl) rfl () (OT.val (OT.tmp rfl) (congrArg (Value.int _) (by (try simp only [Bool.and_eq_true, Bool.and_eq_false_iff, Bool.or_eq_true, Bool.or_eq_false_iff, Bool.not_eq_true', Bool.not_eq_false', decide_eq_true_eq, decide_eq_false_iff_not] at *); unfold checkV; (repeat' split) <;> first | rfl | (exfalso; omega) | (exfalso; simp_all; done)))) trivial (by exact picks_nil)
      · skip
        have hl64 : v.2.2.length ≤ 64 := by simp at c27; omega
        refine tr_skip ?_
        refine then_normal ?_
        refine tr_seq ?_
        refine tr_seq ?_
        -- region 7
        refine tr_env (es_cons (t := 1) (OT.tmp rfl) es_nil) ?_
        refine tr_region ?_
        refine op_pure (pu_faddr (OT.tmp rfl) (show fieldOk Tryd.prog 23 2 2 false 1 = true from by decide +kernel)) rfl rfl ?_
        refine op_pure (pu_load_blk (OT.tmp rfl) (by exact mem_at 0 rfl) lv2 (show tyOk Tryd.prog 9 false 1 = true from by decide +kernel)) rfl rfl ?_
        refine op_acts (acts_call (rUTF8_fn _ (by omega)) (show enters Tryd.prog 31 = true from by decide +kernel) (OTs.cons (OT.tmp rfl) OTs.nil) (List.Perm.refl _)) (List.Perm.refl _) rfl rfl (fun _ _ => ?_)
        refine op_pure (pu_not (OT.tmp rfl)) rfl rfl ?_
        refine tr_nil ?_
        refine then_normal ?_
        refine tr_cond (OT.tmp rfl) (fun c31 => ?_) (fun c31 => ?_)
        · skip
          refine tr_seq ?_
          -- region 8
          refine tr_env es_nil ?_
          refine tr_region ?_
          refine op_pure (pu_assign OT.const) rfl rfl ?_
          refine tr_nil ?_
          refine then_normal ?_
          refine tr_ret ?_
          refine then_ret ?_
          exact ret_one .ret (.inl rfl) rfl () (OT.val (OT.tmp rfl) (congrArg (Value.int _) (by (try simp only [Bool.and_eq_true, Bool.and_eq_false_iff, Bool.or_eq_true, Bool.or_eq_false_iff, Bool.not_eq_true', Bool.not_eq_false', decide_eq_true_eq, decide_eq_false_iff_not] at *); unfold checkV; (repeat' split) <;> first | rfl | (exfalso; omega) | (exfalso; simp_all; done)))) trivial (by exact picks_nil)
        · skip
          refine tr_skip ?_
          refine then_normal ?_
          refine tr_seq ?_
          -- region 9
          refine tr_env es_nil ?_
          refine tr_region ?_
          refine op_pure (pu_assign OT.const) rfl rfl ?_
          refine tr_nil ?_
          refine then_normal ?_
          refine tr_ret ?_
          exact ret_one .ret (.inl rfl) rfl () (OT.val (OT.tmp rfl) (congrArg (Value.int _) (by (try simp only [Bool.and_eq_true, Bool.and_eq_false_iff, Bool.or_eq_true, Bool.or_eq_false_iff, Bool.not_eq_true', Bool.not_eq_false', decide_eq_true_eq, decide_eq_false_iff_not] at *); unfold checkV; (repeat' split) <;> first | rfl | (exfalso; omega) | (exfalso; simp_all; done)))) trivial (by exact picks_nil)
end Go.Proofs.YtdlendioamiagaaDoor
/- Walks through the Go functions rhizomeref02.hex, rhizomeref01.Digits, as typed contracts. -/
namespace Go.Proofs.YtdlendioamiagaaDoor
open Go Go.Gw Go.Vl
set_option linter.unusedVariables false
set_option linter.unusedSimpArgs false

end Go.Proofs.YtdlendioamiagaaDoor
/- Walks through the Go functions rhizomeref02.Show, rhizomeref02.Bytes, as typed contracts. -/
namespace Go.Proofs.YtdlendioamiagaaDoor
open Go Go.Gw Go.Vl
set_option linter.unusedVariables false
set_option linter.unusedSimpArgs false
end Go.Proofs.YtdlendioamiagaaDoor
/- Values of properties, plain: the document's examples. -/
namespace Go.Proofs.YtdlendioamiagaaDoor
open Go Go.Gw Go.Vl Go.Lib
set_option linter.unusedVariables false
set_option linter.unusedSimpArgs false
theorem aw1 : encR (1, 64, []) = [1, 128, 1] ∧ checkV (1, 64, []) = 0 := by
  have h0 : checkV (1, 64, []) = 0 := rfl
  refine ⟨?_, h0⟩
  rw [encR_ok h0]
  show 1 :: varint (zig 64) = _
  rw [show zig 64 = 128 from rfl, varint_big (by decide), show 128 / 128 = 1 from rfl, varint_small (by decide)]
  rfl
theorem rune1 {b : UInt8} {l : List UInt8} (h : b.toNat < 128) : rune (b :: l) = (b.toNat, 1) := decodeL_ascii b l h
theorem aw2 : showR (2, 0, [7, 34]) = [34, 92, 117, 123, 55, 125, 92, 34, 34] ∧ checkV (2, 0, [7, 34]) = 0 := by
  have hv : validD [7, 34] = true := by rw [validD_cons _ _ (by decide), validD_cons _ _ (by decide)]; rfl
  have h0 : checkV (2, 0, [7, 34]) = 0 := by unfold checkV; simp [hv]
  refine ⟨?_, h0⟩
  rw [showR_ok h0]
  show 34 :: showT [7, 34] ++ [34] = _
  rw [showT_step (by decide), rune1 (by decide)]
  show 34 :: (showC 7 ++ showT [34]) ++ [34] = _
  rw [showT_step (by decide), rune1 (by decide)]
  show 34 :: (showC 7 ++ (showC 34 ++ showT [])) ++ [34] = _
  rw [showT_nil]
  have h7 : showC 7 = [92, 117, 123] ++ hexL 7 ++ [125] := rfl
  rw [h7, hex_one (by decide)]
  rfl
theorem aw3 : parseR [34, 92, 117, 123, 48, 48, 52, 49, 125, 34] = ((2, 0, [65]), 0) := by
  have ht : textR [92, 117, 123, 48, 48, 52, 49, 125] = ([65], true) := by
    have hb : badT [92, 117, 123, 48, 48, 52, 49, 125] = false := by unfold badT badR; rw [rune1 (by decide)]; rfl
    have he : escP [117, 123, 48, 48, 52, 49, 125] = some (65, []) := by decide
    have h92 : (rune [92, 117, 123, 48, 48, 52, 49, 125]).1 = 92 := by rw [rune1 (by decide)]; rfl
    obtain ⟨_, h⟩ := textP_esc (l := [92, 117, 123, 48, 48, 52, 49, 125]) (by decide) hb h92 he
    rw [textP_nil] at h
    exact textR_some h
  have hv : checkV (2, 0, [65]) = 0 := by
    have hv : validD [65] = true := by rw [validD_cons _ _ (by decide)]; rfl
    unfold checkV; simp [hv]
  refine parseR_some ?_
  unfold parseV
  rw [if_neg (by decide), if_neg (by decide), if_pos (by decide)]
  have hi : innerL [34, 92, 117, 123, 48, 48, 52, 49, 125, 34] = [92, 117, 123, 48, 48, 52, 49, 125] := by decide
  rw [hi, ht, if_pos (by rw [hv]; rfl)]
theorem aw4 : parseR [45, 48] = ((0, 0, []), 6) := by
  refine parseR_none ?_
  unfold parseV
  rw [if_neg (by decide), if_neg (by decide), if_neg (by decide), if_neg]
  intro h
  rw [Bool.and_eq_true, decide_eq_true_eq] at h
  have h1 : atoiV [45, 48] = 0 := rfl
  rw [h1, show (0 : Int) = ((0 : Nat) : Int) from rfl, itoa_nonneg, decDigits_one (by decide)] at h
  exact absurd h.2 (by decide)
end Go.Proofs.YtdlendioamiagaaDoor
/- Walks through the Go functions rhizomelaw02.awake, rhizomelaw02.ValChecks, as typed contracts. -/
namespace Go.Proofs.YtdlendioamiagaaDoor
open Go Go.Gw Go.Vl
set_option linter.unusedVariables false
set_option linter.unusedSimpArgs false

set_option maxRecDepth 20000 in
/-- rhizome/rhizomelaw02.awake -/
theorem awake_fn {K0 : FH} {n0 : Nat} (hV : VarsV K0) : CtM K0 n0 Tryd.prog 11 [] ([]) Unit (fun _ => BoolT true) (fun _ => []) (fun _ => True) := by
  refine fn_introM Tryd.func11 rfl rfl ?_
  intro H w hK hn
  refine tr_seq ?_
  -- region 0
  refine tr_env es_nil ?_
  refine tr_region ?_
  refine op_pure (pu_assign OT.const) rfl rfl ?_
  refine tr_nil ?_
  refine then_normal ?_
  refine tr_seq ?_
  -- region 1
  refine tr_env es_nil ?_
  refine tr_region ?_
  refine op_pure (pu_build (d := kVl) (v0 := (0, 0, [])) (ps := [(0, 1), (1, 1), (2, 1)]) zVl (by kernel_rfl) rfl (fills_cons rfl lv0 OT.const (fills_cons rfl lv1 OT.const fills_nil))) rfl rfl ?_
  refine op_acts (acts_callM (Encode_fn (1, 64, []) hV (by decide) (by decide) (by decide)) (mk_in hK hn) (show enters Tryd.prog 13 = true from by decide +kernel) (OTs.cons (OT.tmp rfl) OTs.nil) (List.Perm.refl _)) (List.Perm.refl _) rfl rfl (fun _ _ => ?_)
  refine op_pure (pu_move (OT.tmp rfl)) rfl rfl ?_
  refine op_pure (pu_extract (OT.tmp rfl) rfl) rfl rfl ?_
  refine op_pure (pu_extract (OT.tmp rfl) rfl) rfl rfl ?_
  refine op_pure (pu_assign (OT.tmp rfl)) rfl rfl ?_
  refine op_pure (pu_assign (OT.tmp rfl)) rfl rfl ?_
  refine tr_nil ?_
  refine then_normal ?_
  refine tr_seq ?_
  -- region 2
  refine tr_env (es_cons (t := 1) (OT.tmp rfl) (es_cons (t := 2) (OT.tmp rfl) es_nil)) ?_
  refine tr_region ?_
  refine op_pure (pu_build (d := kVl) (v0 := (0, 0, [])) (ps := [(0, 1), (1, 1), (2, 1)]) zVl (by kernel_rfl) rfl (fills_cons rfl lv0 OT.const (fills_cons rfl lv2 OT.const fills_nil))) rfl rfl ?_
  refine op_acts (acts_callM (Show_fn (2, 0, [7, 34]) hV (by decide) (by decide) (by decide)) (mk_in hK hn) (show enters Tryd.prog 14 = true from by decide +kernel) (OTs.cons (OT.tmp rfl) OTs.nil) (List.Perm.refl _)) (List.Perm.refl _) rfl rfl (fun _ _ => ?_)
  refine op_pure (pu_move (OT.tmp rfl)) rfl rfl ?_
  refine op_pure (pu_extract (OT.tmp rfl) rfl) rfl rfl ?_
  refine op_pure (pu_extract (OT.tmp rfl) rfl) rfl rfl ?_
  refine op_pure (pu_assign (OT.tmp rfl)) rfl rfl ?_
  refine op_pure (pu_assign (OT.tmp rfl)) rfl rfl ?_
  refine tr_nil ?_
  refine then_normal ?_
  refine tr_seq ?_
  -- region 3
  refine tr_env (es_cons (t := 1) (OT.tmp rfl) (es_cons (t := 2) (OT.tmp rfl) (es_cons (t := 3) (OT.tmp rfl) (es_cons (t := 4) (OT.tmp rfl) es_nil)))) ?_
  refine tr_region ?_
  refine op_acts (acts_callM (Parse_fn _ hV (by decide)) (mk_in hK hn) (show enters Tryd.prog 18 = true from by decide +kernel) (OTs.cons OT.const OTs.nil) (List.Perm.refl _)) (List.Perm.refl _) rfl rfl (fun _ _ => ?_)
  refine op_pure (pu_move (OT.tmp rfl)) rfl rfl ?_
  refine op_pure (pu_extract (OT.tmp rfl) rfl) rfl rfl ?_
  refine op_pure (pu_extract (OT.tmp rfl) rfl) rfl rfl ?_
  refine op_acts (acts_alloc (zVl)) (List.Perm.refl _) rfl rfl (fun g3_4 _ => ?_)
  refine op_acts (acts_store_var (OT.tmp rfl) (OT.tmp rfl) (by exact perm_at 0 rfl) (show tyOk Tryd.prog 23 true 3 = true from by decide +kernel)) (by exact perm_at 0 rfl) rfl rfl (fun _ _ => ?_)
  refine op_pure (pu_assign (OT.tmp rfl)) rfl rfl ?_
  refine tr_nil ?_
  refine then_normal ?_
  refine tr_seq ?_
  -- region 4
  refine tr_env (es_cons (t := 1) (OT.tmp rfl) (es_cons (t := 2) (OT.tmp rfl) (es_cons (t := 3) (OT.tmp rfl) (es_cons (t := 4) (OT.tmp rfl) (es_cons (t := 5) (OT.tmp rfl) (es_cons (t := 6) (OT.tmp rfl) es_nil)))))) ?_
  refine tr_region ?_
  refine op_acts (acts_callM (Parse_fn _ hV (by decide)) (mk_in hK hn) (show enters Tryd.prog 18 = true from by decide +kernel) (OTs.cons OT.const OTs.nil) (List.Perm.refl _)) (List.Perm.refl _) rfl rfl (fun _ _ => ?_)
  refine op_pure (pu_move (OT.tmp rfl)) rfl rfl ?_
  refine op_pure (pu_extract (OT.tmp rfl) rfl) rfl rfl ?_
  refine op_pure (pu_extract (OT.tmp rfl) rfl) rfl rfl ?_
  refine op_acts (acts_alloc (zVl)) (List.Perm.refl _) rfl rfl (fun g4_4 _ => ?_)
  refine op_acts (acts_store_var (OT.tmp rfl) (OT.tmp rfl) (by exact perm_at 0 rfl) (show tyOk Tryd.prog 23 true 3 = true from by decide +kernel)) (by exact perm_at 0 rfl) rfl rfl (fun _ _ => ?_)
  refine op_pure (pu_assign (OT.tmp rfl)) rfl rfl ?_
  refine tr_nil ?_
  refine then_normal ?_
  refine tr_seq ?_
  -- region 5
  refine tr_env (es_cons (t := 1) (OT.tmp rfl) (es_cons (t := 2) (OT.tmp rfl) (es_cons (t := 3) (OT.tmp rfl) (es_cons (t := 4) (OT.tmp rfl) (es_cons (t := 5) (OT.tmp rfl) (es_cons (t := 6) (OT.tmp rfl) (es_cons (t := 8) (OT.tmp rfl) es_nil))))))) ?_
  refine tr_region ?_
  refine op_pure (pu_move (OT.tmp rfl)) rfl rfl ?_
  refine op_pure (pu_eql (OT.tmp rfl) OT.const) rfl rfl ?_
  refine op_pure (pu_move (OT.tmp rfl)) rfl rfl ?_
  refine op_gu rfl rfl rfl (OT.gu_mk (OT.tmp rfl)) (fun hg => by (have hg1 := hg.2; (try simp only [decide_eq_true_eq, decide_eq_false_iff_not] at hg1); exact pu_move (by exact OT.tmp rfl))) rfl ?_
  refine op_gu rfl rfl rfl (OT.gu_mk (OT.tmp rfl)) (fun hg => by (have hg1 := hg.2; (try simp only [decide_eq_true_eq, decide_eq_false_iff_not] at hg1); exact pu_bytes_bs (by exact OT.gu (OT.tmp rfl) hg) Tryd.underlying26 Tryd.underlying5 Tryd.underlying9)) rfl ?_
  refine op_gu rfl rfl rfl (OT.gu_mk (OT.tmp rfl)) (fun hg => by (have hg1 := hg.2; (try simp only [decide_eq_true_eq, decide_eq_false_iff_not] at hg1); exact pu_bs_eql (by exact OT.gu (OT.tmp rfl) hg) OT.const)) rfl ?_
  refine op_pure (pu_pick_and (OT.tmp rfl) (by exact OT.tmp rfl)) rfl rfl ?_
  refine op_pure (pu_move (OT.tmp rfl)) rfl rfl ?_
  refine op_gu rfl rfl rfl (OT.gu_mk (OT.tmp rfl)) (fun hg => by (have hg1 := hg.2; (try simp only [decide_eq_true_eq, decide_eq_false_iff_not] at hg1); exact pu_move (by exact OT.tmp rfl))) rfl ?_
  refine op_gu rfl rfl rfl (OT.gu_mk (OT.tmp rfl)) (fun hg => by (have hg1 := hg.2; (try simp only [decide_eq_true_eq, decide_eq_false_iff_not] at hg1); exact pu_eql (by exact OT.gu (OT.tmp rfl) hg) OT.const)) rfl ?_
  refine op_pure (pu_pick_and (OT.tmp rfl) (by exact OT.tmp rfl)) rfl rfl ?_
  refine op_pure (pu_move (OT.tmp rfl)) rfl rfl ?_
  refine op_gu rfl rfl rfl (OT.gu_mk (OT.tmp rfl)) (fun hg => by (have hg1 := hg.2; (try simp only [decide_eq_true_eq, decide_eq_false_iff_not] at hg1); exact pu_move (by exact OT.tmp rfl))) rfl ?_
  refine op_gu rfl rfl rfl (OT.gu_mk (OT.tmp rfl)) (fun hg => by (have hg1 := hg.2; (try simp only [decide_eq_true_eq, decide_eq_false_iff_not] at hg1); exact pu_bs_eql (by exact OT.gu (OT.tmp rfl) hg) OT.const)) rfl ?_
  refine op_pure (pu_pick_and (OT.tmp rfl) (by exact OT.tmp rfl)) rfl rfl ?_
  refine op_pure (pu_move (OT.tmp rfl)) rfl rfl ?_
  refine op_gu rfl rfl rfl (OT.gu_mk (OT.tmp rfl)) (fun hg => by (have hg1 := hg.2; (try simp only [decide_eq_true_eq, decide_eq_false_iff_not] at hg1); exact pu_move (by exact OT.tmp rfl))) rfl ?_
  refine op_gu rfl rfl rfl (OT.gu_mk (OT.tmp rfl)) (fun hg => by (have hg1 := hg.2; (try simp only [decide_eq_true_eq, decide_eq_false_iff_not] at hg1); exact pu_eql (by exact OT.gu (OT.tmp rfl) hg) OT.const)) rfl ?_
  refine op_pure (pu_pick_and (OT.tmp rfl) (by exact OT.tmp rfl)) rfl rfl ?_
  refine op_pure (pu_move (OT.tmp rfl)) rfl rfl ?_
  refine op_gu rfl rfl rfl (OT.gu_mk (OT.tmp rfl)) (fun hg => by (have hg1 := hg.2; (try simp only [decide_eq_true_eq, decide_eq_false_iff_not] at hg1); exact pu_faddr (by exact OT.tmp rfl) (show fieldOk Tryd.prog 23 2 2 false 1 = true from by decide +kernel))) rfl ?_
  refine op_gu rfl rfl rfl (OT.gu_mk (OT.tmp rfl)) (fun hg => by (have hg1 := hg.2; (try simp only [decide_eq_true_eq, decide_eq_false_iff_not] at hg1); exact pu_load_blk (by exact OT.gu (OT.tmp rfl) hg) (by exact mem_at 1 rfl) lv2 (show tyOk Tryd.prog 9 false 1 = true from by decide +kernel))) rfl ?_
  refine op_gu rfl rfl rfl (OT.gu_mk (OT.tmp rfl)) (fun hg => by (have hg1 := hg.2; (try simp only [decide_eq_true_eq, decide_eq_false_iff_not] at hg1); exact pu_bs_eql (by exact OT.gu (OT.tmp rfl) hg) OT.const)) rfl ?_
  refine op_pure (pu_pick_and (OT.tmp rfl) (by exact OT.tmp rfl)) rfl rfl ?_
  refine op_pure (pu_move (OT.tmp rfl)) rfl rfl ?_
  refine op_gu rfl rfl rfl (OT.gu_mk (OT.tmp rfl)) (fun hg => by (have hg1 := hg.2; (try simp only [decide_eq_true_eq, decide_eq_false_iff_not] at hg1); exact pu_move (by exact OT.tmp rfl))) rfl ?_
  refine op_gu rfl rfl rfl (OT.gu_mk (OT.tmp rfl)) (fun hg => by (have hg1 := hg.2; (try simp only [decide_eq_true_eq, decide_eq_false_iff_not] at hg1); exact pu_eql (by exact OT.gu (OT.tmp rfl) hg) OT.const)) rfl ?_
  refine op_pure (pu_pick_and (OT.tmp rfl) (by exact OT.tmp rfl)) rfl rfl ?_
  refine op_pure (pu_assign (OT.tmp rfl)) rfl rfl ?_
  refine tr_nil ?_
  refine then_normal ?_
  refine tr_ret ?_
  exact ret_one .ret (.inl rfl) rfl () (OT.val (OT.tmp rfl) (congrArg Value.bool (by rw [unnum_nums, aw1.1, aw1.2, aw2.1, aw2.2, aw3, aw4]; rfl))) trivial (by exact picks_nil)
end Go.Proofs.YtdlendioamiagaaDoor
/- Values of properties, plain: the first runes of a text. -/
namespace Go.Vl
open Go Go.Gw Go.Lib
set_option linter.unusedVariables false
set_option linter.unusedSimpArgs false
end Go.Vl
/- Values compared by '=='; their order, plain. -/
namespace Go.Proofs.YtdlendioamiagaaDoor
open Go Go.Gw Go.Vl
set_option linter.unusedVariables false
set_option linter.unusedSimpArgs false
theorem aggV {H : FH} {t : Vl} {a : Value} (h : (kVl.T t).p H a) : a = .agg #[.int .i64 t.1, .int .i64 t.2.1, .string (bs t.2.2)] := by
  obtain ⟨cs, ⟨c1, c2, h1, ⟨c3, c4, h3, h4, rfl⟩, rfl⟩, rfl⟩ := h
  have e1 : c1 = [Value.int .i64 t.1] := h1
  have e3 : c3 = [Value.int .i64 t.2.1] := h3
  have e4 : c4 = [Value.string (bs t.2.2)] := h4
  subst e1 e3 e4
  rfl
abbrev vv (t : Vl) : Array Value := #[.int .i64 t.1, .int .i64 t.2.1, .string (bs t.2.2)]
theorem run_equalVd (w : World) (d : Nat) (u v : Vl) : (Op.equalIn (d + 1 + 1) 23 (.agg (vv u)) (.agg (vv v))).run Tryd.prog w = .ok (decide (u = v)) w := by
  have hf : Tryd.prog.underlying 23 = some (.struct (Tryd.prog.fieldsOf 23)) := by unfold Program.fieldsOf; rw [Tryd.underlying23]
  have hp : Tryd.prog.stoodInHeld 23 = false := by decide +kernel
  rw [run_equalIn_agg w (d + 1) 23 _ _ hf hp]
  clear hf
  simp only [Program.fieldsOf, Tryd.underlying23]
  have k9 : Tryd.prog.plainKey 9 = true := by decide +kernel
  have k3 : Tryd.prog.plainKey 3 = true := by decide +kernel
  have u9 : Tryd.prog.underlying 9 = some .string := Tryd.underlying9
  have u3 : Tryd.prog.underlying 3 = some (.int .i64) := Tryd.underlying3
  have p0 : ∀ t : Vl, (part 3 (vv t) 0).run Tryd.prog w = .ok (.int .i64 t.1) w := fun t => run_part_plain w k3 rfl
  have p1 : ∀ t : Vl, (part 3 (vv t) 1).run Tryd.prog w = .ok (.int .i64 t.2.1) w := fun t => run_part_plain w k3 rfl
  have p2 : ∀ t : Vl, (part 9 (vv t) 2).run Tryd.prog w = .ok (.string (bs t.2.2)) w := fun t => run_part_plain w k9 rfl
  have e3 : ∀ (a b : Int), (Op.equalIn (d + 1) 3 (.int .i64 a) (.int .i64 b)).run Tryd.prog w = .ok (a == b) w := fun a b => run_equalIn_int w d 3 .i64 .i64 a b u3
  have e9 : ∀ (a b : List UInt8), (Op.equalIn (d + 1) 9 (.string (bs a)) (.string (bs b))).run Tryd.prog w = .ok (decide (a = b)) w := fun a b => by rw [run_equalIn_string w d 9 _ _ u9, beq_bs]
  obtain ⟨u0, u1, u2⟩ := u
  obtain ⟨v0, v1, v2⟩ := v
  simp only [Op.eqFields, show ("Kind" ≠ "_") from by decide, show ("Int" ≠ "_") from by decide, show ("Text" ≠ "_") from by decide, if_true, ne_eq, not_false_eq_true, Sem.run_bind, p0, p1, p2, e3, e9, Result.andThen_ok]
  by_cases h0 : u0 = v0
  · by_cases h1 : u1 = v1
    · by_cases h2 : u2 = v2 <;> simp [h0, h1, h2, p1, p2, e3, e9, Op.eqFields]
    · simp [h0, h1, p1, e3]
  · simp [h0]
theorem eqVl : EqOk Tryd.prog 23 kVl := fun H w u v a b x y ha hb => by
  rw [aggV ha, aggV hb]
  have hg : Tryd.prog.eqGuardType Tryd.prog.depth 23 = false := by decide +kernel
  refine ⟨run_eqGuard_agg w .eql 23 x y _ _ hg, run_eqGuard_agg w .neq 23 x y _ _ hg, ?_, ?_⟩
  · rw [run_eql_struct w 23, show (Op.equalIn 10000 23 (.agg (vv u)) (.agg (vv v))).run Tryd.prog w = _ from run_equalVd w 9998 u v]; rfl
  · rw [run_neq_struct w 23, show (Op.equalIn 10000 23 (.agg (vv u)) (.agg (vv v))).run Tryd.prog w = _ from run_equalVd w 9998 u v]; rfl
end Go.Proofs.YtdlendioamiagaaDoor
namespace Go.Vl
open Go Go.Gw Go.Lib
/-! ### The order of texts -/
theorem cmpB_less : ∀ a b : List UInt8, compareBytes a b = if Op.bytesLess a b then -1 else if a = b then 0 else 1
  | [], [] => rfl
  | [], _ :: _ => rfl
  | _ :: _, [] => by simp [compareBytes, Op.bytesLess]
  | a :: x, b :: y => by
    rw [compareBytes, cmpB_less x y, show Op.bytesLess (a :: x) (b :: y) = (decide (a < b) || (a == b && Op.bytesLess x y)) from rfl]
    by_cases h1 : a < b
    · simp [h1]
    · by_cases h2 : b < a
      · have h3 : a ≠ b := fun e => by subst e; exact absurd h2 (UInt8.lt_irrefl a)
        simp [h1, h2, h3]
      · have h3 : a = b := by
          apply UInt8.toNat_inj.1
          have e1 : ¬ a.toNat < b.toNat := fun h => h1 (UInt8.lt_iff_toNat_lt.2 h)
          have e2 : ¬ b.toNat < a.toNat := fun h => h2 (UInt8.lt_iff_toNat_lt.2 h)
          omega
        subst h3
        simp [h1]
theorem cmpB_anti : ∀ a b : List UInt8, compareBytes b a = -compareBytes a b
  | [], [] => rfl
  | [], _ :: _ => rfl
  | _ :: _, [] => rfl
  | a :: x, b :: y => by
    rw [compareBytes, compareBytes]
    by_cases h1 : a < b
    · have h2 : ¬ b < a := fun h => UInt8.lt_irrefl a (UInt8.lt_trans h1 h)
      simp [h1, h2]
    · by_cases h2 : b < a
      · simp [h1, h2]
      · simp [h1, h2]; exact cmpB_anti x y
theorem cmpB_eq (a b : List UInt8) : compareBytes a b = 0 ↔ a = b := by
  induction a generalizing b with
  | nil => cases b <;> simp [compareBytes]
  | cons a x ih =>
    cases b with
    | nil => simp [compareBytes]
    | cons b y =>
      rw [compareBytes]
      by_cases h1 : a < b
      · have : a ≠ b := fun e => by subst e; exact UInt8.lt_irrefl a h1
        simp [h1, this]
      · by_cases h2 : b < a
        · have : a ≠ b := fun e => by subst e; exact UInt8.lt_irrefl a h2
          simp [h1, h2, this]
        · have h3 : a = b := by
            apply UInt8.toNat_inj.1
            have e1 : ¬ a.toNat < b.toNat := fun h => h1 (UInt8.lt_iff_toNat_lt.2 h)
            have e2 : ¬ b.toNat < a.toNat := fun h => h2 (UInt8.lt_iff_toNat_lt.2 h)
            omega
          subst h3
          simp [h1, ih]
theorem cmpB_trans : ∀ a b c : List UInt8, compareBytes a b ≤ 0 → compareBytes b c ≤ 0 → compareBytes a c ≤ 0
  | [], _, [], _, _ => by simp [compareBytes]
  | [], _, _ :: _, _, _ => by simp [compareBytes]
  | _ :: _, [], _, h, _ => by simp [compareBytes] at h
  | _ :: _, _ :: _, [], _, h => by simp [compareBytes] at h
  | a :: x, b :: y, c :: z, h1, h2 => by
    rw [compareBytes] at h1 h2 ⊢
    have ha := @UInt8.lt_iff_toNat_lt a b
    have hb := @UInt8.lt_iff_toNat_lt b c
    have hc := @UInt8.lt_iff_toNat_lt a c
    have ha' := @UInt8.lt_iff_toNat_lt b a
    have hb' := @UInt8.lt_iff_toNat_lt c b
    have hc' := @UInt8.lt_iff_toNat_lt c a
    by_cases l1 : a < b
    · by_cases l2 : b < c
      · rw [if_pos (hc.2 (by rw [ha] at l1; rw [hb] at l2; omega))]; decide
      · rw [if_neg l2] at h2
        by_cases l3 : c < b
        · rw [if_pos l3] at h2; omega
        · rw [if_pos (hc.2 (by rw [ha] at l1; rw [hb] at l2; rw [hb'] at l3; omega))]; decide
    · rw [if_neg l1] at h1
      by_cases l3 : b < a
      · rw [if_pos l3] at h1; omega
      · rw [if_neg l3] at h1
        by_cases l2 : b < c
        · rw [if_pos (hc.2 (by rw [ha] at l1; rw [ha'] at l3; rw [hb] at l2; omega))]; decide
        · rw [if_neg l2] at h2
          by_cases l4 : c < b
          · rw [if_pos l4] at h2; omega
          · rw [if_neg l4] at h2
            rw [if_neg (fun h => by rw [hc] at h; rw [ha] at l1; rw [ha'] at l3; rw [hb] at l2; rw [hb'] at l4; omega), if_neg (fun h => by rw [hc'] at h; rw [ha] at l1; rw [ha'] at l3; rw [hb] at l2; rw [hb'] at l4; omega)]
            exact cmpB_trans x y z h1 h2
/-! ### The order of values -/
theorem cmpI (x y : Int) : compareInt x y = if x < y then -1 else if x = y then 0 else 1 := by
  unfold compareInt
  repeat' split
  all_goals omega
def orL : List Int → Int
  | [] => 0
  | x :: l => if x ≠ 0 then x else orL l
def cmpP (x y : Vl) : Int := orL [compareInt x.1 y.1, compareInt x.2.1 y.2.1, compareBytes x.2.2 y.2.2]
def cmpV (x y : Vl) : Int := cmpP (plainV x) (plainV y)
def sameV (x y : Vl) : Bool := decide (plainV x = plainV y)
def lessP (x y : Vl) : Bool := decide (x.1 < y.1) || (decide (x.1 = y.1) && (decide (x.2.1 < y.2.1) || (decide (x.2.1 = y.2.1) && Op.bytesLess x.2.2 y.2.2)))
def refP (x y : Vl) : Int := if lessP x y = true then -1 else if x = y then 0 else 1
theorem cmpP_def (x y : Vl) : cmpP x y = if compareInt x.1 y.1 ≠ 0 then compareInt x.1 y.1 else if compareInt x.2.1 y.2.1 ≠ 0 then compareInt x.2.1 y.2.1 else compareBytes x.2.2 y.2.2 := by
  unfold cmpP
  show (if _ then _ else if _ then _ else if _ then _ else (0 : Int)) = _
  by_cases h : compareBytes x.2.2 y.2.2 = 0
  · rw [h]; simp
  · simp [h]
theorem cmpP_ref (x y : Vl) : cmpP x y = refP x y := by
  rw [cmpP_def, cmpI, cmpI, cmpB_less]
  unfold refP lessP
  obtain ⟨a, b, c⟩ := x
  obtain ⟨a', b', c'⟩ := y
  simp only [Prod.mk.injEq, Bool.or_eq_true, Bool.and_eq_true, decide_eq_true_eq]
  by_cases h1 : a < a'
  · simp [h1]
  · by_cases h2 : a = a'
    · subst h2
      by_cases h3 : b < b'
      · simp [h3]
      · by_cases h4 : b = b'
        · subst h4; simp
        · simp [h3, h4]
    · simp [h1, h2]
theorem cmpP_anti (x y : Vl) : cmpP y x = -cmpP x y := by
  rw [cmpP_def, cmpP_def, cmpB_anti x.2.2 y.2.2, cmpI, cmpI, cmpI, cmpI]
  repeat' split
  all_goals omega
theorem cmpP_zero (x y : Vl) : cmpP x y = 0 ↔ x = y := by
  rw [cmpP_def, cmpI, cmpI]
  have h := cmpB_eq x.2.2 y.2.2
  obtain ⟨a, b, c⟩ := x
  obtain ⟨a', b', c'⟩ := y
  simp only [Prod.mk.injEq] at *
  by_cases h1 : a < a'
  · simp [h1]; omega
  · by_cases h2 : a = a'
    · subst h2
      by_cases h3 : b < b'
      · simp [h3]; omega
      · by_cases h4 : b = b'
        · subst h4; simpa using h
        · simp [h3, h4]
    · simp [h1, h2]
theorem cmpP_le (x y : Vl) : cmpP x y ≤ 0 ↔ (x.1 < y.1 ∨ (x.1 = y.1 ∧ (x.2.1 < y.2.1 ∨ (x.2.1 = y.2.1 ∧ compareBytes x.2.2 y.2.2 ≤ 0)))) := by
  rw [cmpP_def, cmpI, cmpI]
  by_cases h1 : x.1 < y.1
  · simp [h1]
  · by_cases h2 : x.1 = y.1
    · rw [if_neg h1, if_pos h2]
      by_cases h3 : x.2.1 < y.2.1
      · simp [h1, h2, h3]
      · by_cases h4 : x.2.1 = y.2.1
        · simp [h2, h4]
        · simp [h2, h3, h4]
    · simp [h1, h2]
theorem cmpP_trans (x y z : Vl) (h1 : cmpP x y ≤ 0) (h2 : cmpP y z ≤ 0) : cmpP x z ≤ 0 := by
  rw [cmpP_le] at *
  rcases h1 with h1 | ⟨h1, h3⟩ <;> rcases h2 with h2 | ⟨h2, h4⟩
  · exact .inl (by omega)
  · exact .inl (by omega)
  · exact .inl (by omega)
  · refine .inr ⟨by omega, ?_⟩
    rcases h3 with h3 | ⟨h3, h5⟩ <;> rcases h4 with h4 | ⟨h4, h6⟩
    · exact .inl (by omega)
    · exact .inl (by omega)
    · exact .inl (by omega)
    · exact .inr ⟨by omega, cmpB_trans _ _ _ h5 h6⟩
/-- Of two texts. -/
theorem cmp_text {x y : Vl} (hx : x.1 = 2) (hy : y.1 = 2) : (cmpV x y < 0) ↔ Op.bytesLess x.2.2 y.2.2 = true := by
  unfold cmpV plainV
  rw [if_pos hx, if_pos hy, cmpP_def, cmpI, cmpI, cmpB_less]
  simp only [Int.lt_irrefl, if_false, if_true, ne_eq, not_true_eq_false]
  by_cases h : Op.bytesLess x.2.2 y.2.2 = true
  · rw [if_pos h]; simp [h]
  · rw [if_neg h]
    constructor
    · intro h2; split at h2 <;> omega
    · intro h2; exact absurd h2 h
theorem cmpV_bd (x y : Vl) : -1 ≤ cmpV x y ∧ cmpV x y ≤ 1 := by
  unfold cmpV; rw [cmpP_ref]; unfold refP
  repeat' split
  all_goals omega
end Go.Vl
/- Walks through the Go functions val.Cut, rhizomeref02.Cut, rhizomelaw02.ValCuts, as typed contracts. -/
namespace Go.Proofs.YtdlendioamiagaaDoor
open Go Go.Gw Go.Vl
set_option linter.unusedVariables false
set_option linter.unusedSimpArgs false

end Go.Proofs.YtdlendioamiagaaDoor
/- Walks through the Go functions cmp.Or[int], val.Same, val.Cmp, rhizomeref02.Cmp, rhizomelaw02.ValOrders, as typed contracts. -/
namespace Go.Proofs.YtdlendioamiagaaDoor
open Go Go.Gw Go.Vl
set_option linter.unusedVariables false
set_option linter.unusedSimpArgs false
theorem orders_end (a b c : Vl) : (decide (0 < cmpV a b) || decide (0 < cmpV b c) || decide (cmpV a c ≤ 0)) = true := by
  by_cases h1 : 0 < cmpV a b
  · simp [h1]
  · by_cases h2 : 0 < cmpV b c
    · simp [h2]
    · have := cmpP_trans (plainV a) (plainV b) (plainV c) (by unfold cmpV at h1; omega) (by unfold cmpV at h2; omega)
      simp [show cmpV a c ≤ 0 from this]
theorem zI3 : ZeroOf Tryd.prog 3 (kint .i64) 0 := ⟨.int .i64 0, by kernel_rfl, fun H => rfl⟩
theorem z60 : ZeroOf Tryd.prog 60 (karr 3 kVl) (List.replicate 3 (0, 0, [])) := ⟨.agg #[.int .i64 0, .int .i64 0, .string (bs []), .int .i64 0, .int .i64 0, .string (bs []), .int .i64 0, .int .i64 0, .string (bs [])], by kernel_rfl, fun H => ⟨[.int .i64 0, .int .i64 0, .string (bs []), .int .i64 0, .int .i64 0, .string (bs []), .int .i64 0, .int .i64 0, .string (bs [])], ⟨rfl, rfl, fun j x h => by
  match j, h with
  | 0, h => cases h; exact ⟨[.int .i64 0], [.int .i64 0, .string (bs [])], rfl, ⟨[.int .i64 0], [.string (bs [])], rfl, rfl, rfl⟩, rfl⟩
  | 1, h => cases h; exact ⟨[.int .i64 0], [.int .i64 0, .string (bs [])], rfl, ⟨[.int .i64 0], [.string (bs [])], rfl, rfl, rfl⟩, rfl⟩
  | 2, h => cases h; exact ⟨[.int .i64 0], [.int .i64 0, .string (bs [])], rfl, ⟨[.int .i64 0], [.string (bs [])], rfl, rfl, rfl⟩, rfl⟩⟩, rfl⟩⟩
theorem or_step {xs : List Int} {k : Nat} (h : k < xs.length) (h0 : xs[k] = 0) : orL (xs.drop k) = orL (xs.drop (k + 1)) := by
  rw [List.drop_eq_getElem_cons h]
  show (if _ then _ else _) = _
  rw [h0]; rfl
theorem or_hit {xs : List Int} {k : Nat} (h : k < xs.length) (h0 : xs[k] ≠ 0) : orL (xs.drop k) = xs[k] := by
  rw [List.drop_eq_getElem_cons h]
  exact if_pos h0

set_option maxRecDepth 20000 in
/-- cmp.Or[int] -/
theorem or_fn (xs : List Int) (hl : xs.length ≤ 1000000) : Ct Tryd.prog 53 [SlT (kint .i64) xs] ([]) Unit (fun _ => I64 (orL xs)) (fun _ => []) (fun _ => True) := by
  refine fn_intro Tryd.func53 rfl rfl ?_
  intro H w
  refine tr_seq ?_
  -- region 0
  refine tr_env (es_cons (t := 0) (OT.tmp rfl) es_nil) ?_
  refine tr_region ?_
  refine op_pure (pu_assign OT.const) rfl rfl ?_
  refine tr_nil ?_
  refine then_normal ?_
  refine tr_seq ?_
  -- region 1
  refine tr_env (es_cons (t := 0) (OT.tmp rfl) es_nil) ?_
  refine tr_region ?_
  refine op_pure (pu_assign OT.const) rfl rfl ?_
  refine tr_nil ?_
  refine then_normal ?_
  refine tr_seq ?_
  refine tr_seq ?_
  -- region 2
  refine tr_env (es_cons (t := 0) (OT.tmp rfl) (es_cons (t := 3) (OT.tmp rfl) es_nil)) ?_
  refine tr_region ?_
  refine op_pure (pu_move (OT.tmp rfl)) rfl rfl ?_
  refine op_pure (pu_len_sl (OT.tmp rfl) Tryd.underlying103) rfl rfl ?_
  refine op_pure (pu_move OT.const) rfl rfl ?_
  refine tr_nil ?_
  refine then_normal ?_
  refine tr_block ?_
  refine tr_loopK (σ := Nat) (es_cons (t := 3) (OT.tmp rfl) (es_cons (t := 6) (OT.tmp rfl) (es_cons (t := 7) (OT.tmp rfl) es_nil))) (fun k => [(8, I64 (k : Int))]) (fun k => []) (fun k => k ≤ xs.length ∧ orL (xs.drop k) = orL xs) (fun k => xs.length - k) 0 ⟨Nat.zero_le _, by rw [List.drop_zero]⟩ ?_ (own_picks (by exact picks_nil)) ?_
  · exact (es_cons (t := 8) (by exact OT.tmp rfl) es_nil)
  · rintro k ⟨hk, ho⟩
    refine tr_seq ?_
    -- region 3
    refine tr_env (es_cons (t := 3) (OT.tmp rfl) (es_cons (t := 6) (OT.tmp rfl) (es_cons (t := 7) (OT.tmp rfl) (es_cons (t := 8) (OT.tmp rfl) es_nil)))) ?_
    refine tr_region ?_
    refine op_pure (pu_lss (OT.tmp rfl) (OT.tmp rfl)) rfl rfl ?_
    refine tr_nil ?_
    refine then_normal ?_
    refine tr_seq ?_
    refine tr_cond (OT.tmp rfl) (fun c9 => ?_) (fun c9 => ?_)
    · skip
      refine tr_skip ?_
      refine then_normal ?_
      refine tr_seq ?_
      refine tr_block ?_
      refine tr_seq ?_
      -- region 4
      refine tr_env (es_cons (t := 3) (OT.tmp rfl) (es_cons (t := 6) (OT.tmp rfl) (es_cons (t := 7) (OT.tmp rfl) (es_cons (t := 8) (OT.tmp rfl) es_nil)))) ?_
      have hk2 : k < xs.length := by simp at c9; omega
      have hat := at'_nat hk2
      refine tr_region ?_
      refine op_pure (pu_index (OT.tmp rfl) (OT.tmp rfl) Tryd.underlying103 (show tyOk Tryd.prog 3 false 1 = true from by decide +kernel) (by omega) (by omega)) rfl rfl ?_
      refine op_pure (pu_load (OT.tmp rfl) (show tyOk Tryd.prog 3 false 1 = true from by decide +kernel)) rfl rfl ?_
      refine op_pure (pu_assign (OT.tmp rfl)) rfl rfl ?_
      refine tr_nil ?_
      refine then_normal ?_
      refine tr_seq ?_
      -- region 5
      refine tr_env (es_cons (t := 3) (OT.tmp rfl) (es_cons (t := 5) (OT.tmp rfl) (es_cons (t := 6) (OT.tmp rfl) (es_cons (t := 7) (OT.tmp rfl) (es_cons (t := 8) (OT.tmp rfl) es_nil))))) ?_
      rw [hat]
      refine tr_region ?_
      refine op_pure (pu_move (OT.tmp rfl)) rfl rfl ?_
      refine op_pure (pu_move (OT.tmp rfl)) rfl rfl ?_
      refine op_pure (pu_neq (OT.tmp rfl) (OT.tmp rfl)) rfl rfl ?_
      refine tr_nil ?_
      refine then_normal ?_
      refine tr_cond (OT.tmp rfl) (fun c14 => ?_) (fun c14 => ?_)
      · skip
        have hr : orL xs = xs[k] := by rw [← ho, or_hit hk2 (of_decide_eq_true c14)]
        refine tr_seq ?_
        -- region 6
        refine tr_env (es_cons (t := 5) (OT.tmp rfl) es_nil) ?_
        refine tr_region ?_
        refine op_pure (pu_move (OT.tmp rfl)) rfl rfl ?_
        refine op_pure (pu_assign (OT.tmp rfl)) rfl rfl ?_
        refine tr_nil ?_
        refine then_normal ?_
        refine tr_ret ?_
        refine block_ret ?_
        refine then_ret ?_
        refine then_ret ?_
        refine block_ret ?_
        refine then_ret ?_
        exact ret_one .ret (.inl rfl) rfl () (OT.val (OT.tmp rfl) (congrArg (Value.int _) (hr.symm))) trivial (by exact picks_nil)
      · skip
        have hst := or_step hk2 (by have h9 := of_decide_eq_false c14; omega)
        refine tr_skip ?_
        refine block_normal ?_
        refine then_normal ?_
        -- region 7
        refine tr_env (es_cons (t := 3) (OT.tmp rfl) (es_cons (t := 6) (OT.tmp rfl) (es_cons (t := 7) (OT.tmp rfl) (es_cons (t := 8) (OT.tmp rfl) es_nil)))) ?_
        refine tr_region ?_
        refine op_pure (pu_add' (OT.tmp rfl) OT.const (by omega)) rfl rfl ?_
        refine op_pure (pu_move (OT.tmp rfl)) rfl rfl ?_
        refine tr_nil ?_
        refine then_normal ?_
        exact tr_again (k + 1) ⟨by omega, by rw [← ho, hst]⟩ (by omega) (es_append (es_cons (t := 8) (by exact OT.tmp rfl) es_nil) (es_cons (t := 3) (OT.tmp rfl) (es_cons (t := 6) (OT.tmp rfl) (es_cons (t := 7) (OT.tmp rfl) es_nil)))) (own_picks (by exact picks_nil))
    · skip
      refine tr_exit ?_
      refine then_exit ?_
      refine then_exit ?_
      refine block_hit ?_
      refine then_normal ?_
      refine tr_seq ?_
      -- region 8
      refine tr_env (es_cons (t := 3) (OT.tmp rfl) es_nil) ?_
      obtain rfl : k = xs.length := by simp at c9; omega
      have hr : orL xs = 0 := by rw [← ho, List.drop_length]; rfl
      refine tr_region ?_
      refine op_pure (pu_move (OT.tmp rfl)) rfl rfl ?_
      refine op_pure (pu_assign (OT.tmp rfl)) rfl rfl ?_
      refine tr_nil ?_
      refine then_normal ?_
      refine tr_ret ?_
      exact ret_one .ret (.inl rfl) rfl () (OT.val (OT.tmp rfl) (congrArg (Value.int _) (hr.symm))) trivial (by exact picks_nil)
set_option maxRecDepth 20000 in
/-- rhizome/val.Same -/
theorem Same_fn (x y : Vl) : Ct Tryd.prog 28 [kVl.T x, kVl.T y] ([]) Unit (fun _ => BoolT (sameV x y)) (fun _ => []) (fun _ => True) := by
  refine fn_intro Tryd.func28 rfl rfl ?_
  intro H w
  refine tr_seq ?_
  -- region 0
  refine tr_env (es_cons (t := 0) (OT.tmp rfl) (es_cons (t := 1) (OT.tmp rfl) es_nil)) ?_
  refine tr_region ?_
  refine op_acts (acts_box (d := kVl) (OT.tmp rfl)) (List.Perm.refl _) rfl rfl (fun g0_0 _ => ?_)
  refine op_acts (acts_box (d := kVl) (OT.tmp rfl)) (List.Perm.refl _) rfl rfl (fun g0_1 _ => ?_)
  refine op_pure (pu_assign OT.const) rfl rfl ?_
  refine tr_nil ?_
  refine then_normal ?_
  refine tr_seq ?_
  -- region 1
  refine tr_env (es_cons (t := 2) (OT.tmp rfl) (es_cons (t := 3) (OT.tmp rfl) es_nil)) ?_
  apply tr_any (m := 3) (ns := [[(2, none)], [(5, some 0)], [(3, none)]]) (by kernel_rfl) (by kernel_rfl) (Ts := [_, _, _]) rfl
  case hops =>
    refine ⟨?_, ⟨?_, ⟨?_, trivial⟩⟩⟩
    · exact rop_pure rfl (pu_load_var (OT.tmp rfl) (by exact mem_at 1 rfl) (show tyOk Tryd.prog 23 true 3 = true from by decide +kernel))
    · exact rop_acts rfl (acts_call (plain_fn _) (show enters Tryd.prog 52 = true from by decide +kernel) (OTs.cons (OT.tmp rfl) OTs.nil) (List.Perm.refl _)) (fun _ _ _ _ h => h)
    · exact rop_pure rfl (pu_load_var (OT.tmp rfl) (by exact mem_at 0 rfl) (show tyOk Tryd.prog 23 true 3 = true from by decide +kernel))
  case h =>
    refine op_acts (acts_call (plain_fn _) (show enters Tryd.prog 52 = true from by decide +kernel) (OTs.cons (OT.tmp rfl) OTs.nil) (List.Perm.refl _)) (List.Perm.refl _) rfl rfl (fun _ _ => ?_)
    refine op_pure (pu_eq_of eqVl (OT.tmp rfl) (OT.tmp rfl)) rfl rfl ?_
    refine op_pure (pu_assign (OT.tmp rfl)) rfl rfl ?_
    refine tr_nil ?_
    refine then_normal ?_
    refine tr_ret ?_
    exact ret_one .ret (.inl rfl) rfl () (OT.tmp rfl) trivial (by exact picks_nil)
set_option maxRecDepth 20000 in
/-- rhizome/val.Cmp -/
theorem Cmp_fn {K0 : FH} {n0 : Nat} (x y : Vl) : CtM K0 n0 Tryd.prog 29 [kVl.T x, kVl.T y] ([]) Unit (fun _ => I64 (cmpV x y)) (fun _ => []) (fun _ => True) := by
  refine fn_introM Tryd.func29 rfl rfl ?_
  intro H w hK hn
  refine tr_seq ?_
  -- region 0
  refine tr_env (es_cons (t := 0) (OT.tmp rfl) (es_cons (t := 1) (OT.tmp rfl) es_nil)) ?_
  refine tr_region ?_
  refine op_acts (acts_box (d := kVl) (OT.tmp rfl)) (List.Perm.refl _) rfl rfl (fun g0_0 _ => ?_)
  refine op_acts (acts_box (d := kVl) (OT.tmp rfl)) (List.Perm.refl _) rfl rfl (fun g0_1 _ => ?_)
  refine op_pure (pu_assign OT.const) rfl rfl ?_
  refine tr_nil ?_
  refine then_normal ?_
  refine tr_seq ?_
  -- region 1
  refine tr_env (es_cons (t := 2) (OT.tmp rfl) (es_cons (t := 3) (OT.tmp rfl) es_nil)) ?_
  apply tr_any (m := 3) (ns := [[(2, none)], [(5, some 0)], [(3, none)]]) (by kernel_rfl) (by kernel_rfl) (Ts := [_, _, _]) rfl
  case hops =>
    refine ⟨?_, ⟨?_, ⟨?_, trivial⟩⟩⟩
    · exact rop_pure rfl (pu_load_var (OT.tmp rfl) (by exact mem_at 1 rfl) (show tyOk Tryd.prog 23 true 3 = true from by decide +kernel))
    · exact rop_acts rfl (acts_call (plain_fn _) (show enters Tryd.prog 52 = true from by decide +kernel) (OTs.cons (OT.tmp rfl) OTs.nil) (List.Perm.refl _)) (fun _ _ _ _ h => h)
    · exact rop_pure rfl (pu_load_var (OT.tmp rfl) (by exact mem_at 0 rfl) (show tyOk Tryd.prog 23 true 3 = true from by decide +kernel))
  case h =>
    refine op_acts (acts_call (plain_fn _) (show enters Tryd.prog 52 = true from by decide +kernel) (OTs.cons (OT.tmp rfl) OTs.nil) (List.Perm.refl _)) (List.Perm.refl _) rfl rfl (fun _ _ => ?_)
    refine op_acts (acts_store_var (OT.tmp rfl) (OT.tmp rfl) (by exact perm_at 1 rfl) (show tyOk Tryd.prog 23 true 3 = true from by decide +kernel)) (by exact perm_at 1 rfl) rfl rfl (fun _ _ => ?_)
    refine op_acts (acts_store_var (OT.tmp rfl) (OT.tmp rfl) (by exact perm_at 1 rfl) (show tyOk Tryd.prog 23 true 3 = true from by decide +kernel)) (by exact perm_at 1 rfl) rfl rfl (fun _ _ => ?_)
    refine tr_nil ?_
    refine then_normal ?_
    refine tr_seq ?_
    -- region 2
    refine tr_env (es_cons (t := 2) (OT.tmp rfl) (es_cons (t := 3) (OT.tmp rfl) es_nil)) ?_
    apply tr_any (m := 14) (ns := [[(2, none)], [(9, some 0)], [(3, none)], [(11, some 2)], [(10, some 1), (12, some 3)], [(2, none)], [(14, some 5)], [(3, none)], [(16, some 7)], [(15, some 6), (17, some 8)], [(2, none)], [(19, some 10)], [(3, none)], [(21, some 12)]]) (by kernel_rfl) (by kernel_rfl) (Ts := [_, _, _, _, _, _, _, _, _, _, _, _, _, _]) rfl
    case hops =>
      refine ⟨?_, ⟨?_, ⟨?_, ⟨?_, ⟨?_, ⟨?_, ⟨?_, ⟨?_, ⟨?_, ⟨?_, ⟨?_, ⟨?_, ⟨?_, ⟨?_, trivial⟩⟩⟩⟩⟩⟩⟩⟩⟩⟩⟩⟩⟩⟩
      · exact rop_pure rfl (pu_faddr (OT.tmp rfl) (show fieldOk Tryd.prog 23 0 0 false 1 = true from by decide +kernel))
      · exact rop_pure rfl (pu_load_blk (OT.tmp rfl) (by exact mem_at 1 rfl) lv0 (show tyOk Tryd.prog 3 false 1 = true from by decide +kernel))
      · exact rop_pure rfl (pu_faddr (OT.tmp rfl) (show fieldOk Tryd.prog 23 0 0 false 1 = true from by decide +kernel))
      · exact rop_pure rfl (pu_load_blk (OT.tmp rfl) (by exact mem_at 0 rfl) lv0 (show tyOk Tryd.prog 3 false 1 = true from by decide +kernel))
      · exact rop_acts rfl (acts_callM (Compare_ct _ _) (mk_in hK hn) (show enters Tryd.prog 54 = true from by decide +kernel) (OTs.cons (OT.tmp rfl) (OTs.cons (OT.tmp rfl) OTs.nil)) (List.Perm.refl _)) (fun _ _ _ _ h => h)
      · exact rop_pure rfl (pu_faddr (OT.tmp rfl) (show fieldOk Tryd.prog 23 1 1 false 1 = true from by decide +kernel))
      · exact rop_pure rfl (pu_load_blk (OT.tmp rfl) (by exact mem_at 1 rfl) lv1 (show tyOk Tryd.prog 3 false 1 = true from by decide +kernel))
      · exact rop_pure rfl (pu_faddr (OT.tmp rfl) (show fieldOk Tryd.prog 23 1 1 false 1 = true from by decide +kernel))
      · exact rop_pure rfl (pu_load_blk (OT.tmp rfl) (by exact mem_at 0 rfl) lv1 (show tyOk Tryd.prog 3 false 1 = true from by decide +kernel))
      · exact rop_acts rfl (acts_callM (Compare_ct _ _) (mk_in hK hn) (show enters Tryd.prog 54 = true from by decide +kernel) (OTs.cons (OT.tmp rfl) (OTs.cons (OT.tmp rfl) OTs.nil)) (List.Perm.refl _)) (fun _ _ _ _ h => h)
      · exact rop_pure rfl (pu_faddr (OT.tmp rfl) (show fieldOk Tryd.prog 23 2 2 false 1 = true from by decide +kernel))
      · exact rop_pure rfl (pu_load_blk (OT.tmp rfl) (by exact mem_at 1 rfl) lv2 (show tyOk Tryd.prog 9 false 1 = true from by decide +kernel))
      · exact rop_pure rfl (pu_faddr (OT.tmp rfl) (show fieldOk Tryd.prog 23 2 2 false 1 = true from by decide +kernel))
      · exact rop_pure rfl (pu_load_blk (OT.tmp rfl) (by exact mem_at 0 rfl) lv2 (show tyOk Tryd.prog 9 false 1 = true from by decide +kernel))
    case h =>
      refine op_acts (acts_callM (StrCompare_ct _ _) (mk_in hK hn) (show enters Tryd.prog 55 = true from by decide +kernel) (OTs.cons (OT.tmp rfl) (OTs.cons (OT.tmp rfl) OTs.nil)) (List.Perm.refl _)) (List.Perm.refl _) rfl rfl (fun _ _ => ?_)
      refine op_acts (acts_lit (d := (kint .i64)) (v0 := 0) (show slTy Tryd.prog 103 3 1 8 = true from by decide +kernel) (show tyOk Tryd.prog 3 false 1 = true from by decide +kernel) zI3 (show 3 * 1 ≤ 16777216 from by decide) (by decide) (fills_arr rfl rfl (by decide) (OT.tmp rfl) (fills_arr rfl rfl (by decide) (OT.tmp rfl) (fills_arr rfl rfl (by decide) (OT.tmp rfl) fills_nil)))) (List.Perm.refl _) rfl rfl (fun _ _ => ?_)
      refine op_acts (acts_call (or_fn _ (by simp)) (show enters Tryd.prog 53 = true from by decide +kernel) (OTs.cons (OT.tmp rfl) OTs.nil) (List.Perm.refl _)) (List.Perm.refl _) rfl rfl (fun _ _ => ?_)
      refine op_pure (pu_assign (OT.tmp rfl)) rfl rfl ?_
      refine tr_nil ?_
      refine then_normal ?_
      refine tr_ret ?_
      exact ret_one .ret (.inl rfl) rfl () (OT.tmp rfl) trivial (by exact picks_nil)
set_option maxRecDepth 20000 in
/-- rhizome/rhizomeref02.Cmp -/
theorem rCmp_fn (x y : Vl) : Ct Tryd.prog 30 [kVl.T x, kVl.T y] ([]) Unit (fun _ => I64 (cmpV x y)) (fun _ => []) (fun _ => True) := by
  refine fn_intro Tryd.func30 rfl rfl ?_
  intro H w
  refine tr_seq ?_
  -- region 0
  refine tr_env (es_cons (t := 0) (OT.tmp rfl) (es_cons (t := 1) (OT.tmp rfl) es_nil)) ?_
  refine tr_region ?_
  refine op_acts (acts_box (d := kVl) (OT.tmp rfl)) (List.Perm.refl _) rfl rfl (fun g0_0 _ => ?_)
  refine op_acts (acts_box (d := kVl) (OT.tmp rfl)) (List.Perm.refl _) rfl rfl (fun g0_1 _ => ?_)
  refine op_pure (pu_assign OT.const) rfl rfl ?_
  refine tr_nil ?_
  refine then_normal ?_
  refine tr_seq ?_
  -- region 1
  refine tr_env (es_cons (t := 2) (OT.tmp rfl) (es_cons (t := 3) (OT.tmp rfl) es_nil)) ?_
  refine tr_region ?_
  refine op_pure (pu_load_var (OT.tmp rfl) (by exact mem_at 1 rfl) (show tyOk Tryd.prog 23 true 3 = true from by decide +kernel)) rfl rfl ?_
  refine op_acts (acts_call (rPlain_fn _) (show enters Tryd.prog 27 = true from by decide +kernel) (OTs.cons (OT.tmp rfl) OTs.nil) (List.Perm.refl _)) (List.Perm.refl _) rfl rfl (fun _ _ => ?_)
  refine op_acts (acts_store_var (OT.tmp rfl) (OT.tmp rfl) (by exact perm_at 1 rfl) (show tyOk Tryd.prog 23 true 3 = true from by decide +kernel)) (by exact perm_at 1 rfl) rfl rfl (fun _ _ => ?_)
  refine tr_nil ?_
  refine then_normal ?_
  refine tr_seq ?_
  -- region 2
  refine tr_env (es_cons (t := 2) (OT.tmp rfl) (es_cons (t := 3) (OT.tmp rfl) es_nil)) ?_
  refine tr_region ?_
  refine op_pure (pu_load_var (OT.tmp rfl) (by exact mem_at 1 rfl) (show tyOk Tryd.prog 23 true 3 = true from by decide +kernel)) rfl rfl ?_
  refine op_acts (acts_call (rPlain_fn _) (show enters Tryd.prog 27 = true from by decide +kernel) (OTs.cons (OT.tmp rfl) OTs.nil) (List.Perm.refl _)) (List.Perm.refl _) rfl rfl (fun _ _ => ?_)
  refine op_acts (acts_store_var (OT.tmp rfl) (OT.tmp rfl) (by exact perm_at 1 rfl) (show tyOk Tryd.prog 23 true 3 = true from by decide +kernel)) (by exact perm_at 1 rfl) rfl rfl (fun _ _ => ?_)
  refine tr_nil ?_
  refine then_normal ?_
  refine tr_seq ?_
  -- region 3
  refine tr_env (es_cons (t := 2) (OT.tmp rfl) (es_cons (t := 3) (OT.tmp rfl) es_nil)) ?_
  obtain ⟨p, hp⟩ : ∃ p, plainV x = p := ⟨_, rfl⟩
  obtain ⟨q, hq⟩ : ∃ q, plainV y = q := ⟨_, rfl⟩
  rw [hp, hq]
  refine tr_region ?_
  refine op_pure (pu_faddr (OT.tmp rfl) (show fieldOk Tryd.prog 23 0 0 false 1 = true from by decide +kernel)) rfl rfl ?_
  refine op_pure (pu_load_blk (OT.tmp rfl) (by exact mem_at 1 rfl) lv0 (show tyOk Tryd.prog 3 false 1 = true from by decide +kernel)) rfl rfl ?_
  refine op_pure (pu_faddr (OT.tmp rfl) (show fieldOk Tryd.prog 23 0 0 false 1 = true from by decide +kernel)) rfl rfl ?_
  refine op_pure (pu_load_blk (OT.tmp rfl) (by exact mem_at 0 rfl) lv0 (show tyOk Tryd.prog 3 false 1 = true from by decide +kernel)) rfl rfl ?_
  refine op_pure (pu_lss (OT.tmp rfl) (OT.tmp rfl)) rfl rfl ?_
  refine op_pure (pu_move (OT.tmp rfl)) rfl rfl ?_
  refine op_gu rfl rfl rfl (OT.gu_mk (OT.tmp rfl)) (fun hg => by (have hg1 := hg.2; (try simp only [decide_eq_true_eq, decide_eq_false_iff_not] at hg1); exact pu_faddr (by exact OT.tmp rfl) (show fieldOk Tryd.prog 23 0 0 false 1 = true from by decide +kernel))) rfl ?_
  refine op_gu rfl rfl rfl (OT.gu_mk (OT.tmp rfl)) (fun hg => by (have hg1 := hg.2; (try simp only [decide_eq_true_eq, decide_eq_false_iff_not] at hg1); exact pu_load_blk (by exact OT.gu (OT.tmp rfl) hg) (by exact mem_at 1 rfl) lv0 (show tyOk Tryd.prog 3 false 1 = true from by decide +kernel))) rfl ?_
  refine op_gu rfl rfl rfl (OT.gu_mk (OT.tmp rfl)) (fun hg => by (have hg1 := hg.2; (try simp only [decide_eq_true_eq, decide_eq_false_iff_not] at hg1); exact pu_faddr (by exact OT.tmp rfl) (show fieldOk Tryd.prog 23 0 0 false 1 = true from by decide +kernel))) rfl ?_
  refine op_gu rfl rfl rfl (OT.gu_mk (OT.tmp rfl)) (fun hg => by (have hg1 := hg.2; (try simp only [decide_eq_true_eq, decide_eq_false_iff_not] at hg1); exact pu_load_blk (by exact OT.gu (OT.tmp rfl) hg) (by exact mem_at 0 rfl) lv0 (show tyOk Tryd.prog 3 false 1 = true from by decide +kernel))) rfl ?_
  refine op_gu rfl rfl rfl (OT.gu_mk (OT.tmp rfl)) (fun hg => by (have hg1 := hg.2; (try simp only [decide_eq_true_eq, decide_eq_false_iff_not] at hg1); exact pu_eql (by exact OT.gu (OT.tmp rfl) hg) (by exact OT.gu (OT.tmp rfl) hg))) rfl ?_
  refine op_gu rfl rfl rfl (OT.gu_mk (OT.tmp rfl)) (fun hg => by (have hg1 := hg.2; (try simp only [decide_eq_true_eq, decide_eq_false_iff_not] at hg1); exact pu_move (by exact OT.gu (OT.tmp rfl) hg))) rfl ?_
  refine op_gu rfl rfl rfl (OT.tmp rfl) (fun hg => by (have hg1 := hg.2; (try simp only [decide_eq_true_eq, decide_eq_false_iff_not] at hg1); exact pu_faddr (by exact OT.tmp rfl) (show fieldOk Tryd.prog 23 1 1 false 1 = true from by decide +kernel))) rfl ?_
  refine op_gu rfl rfl rfl (OT.tmp rfl) (fun hg => by (have hg1 := hg.2; (try simp only [decide_eq_true_eq, decide_eq_false_iff_not] at hg1); exact pu_load_blk (by exact OT.gu (OT.tmp rfl) hg) (by exact mem_at 1 rfl) lv1 (show tyOk Tryd.prog 3 false 1 = true from by decide +kernel))) rfl ?_
  refine op_gu rfl rfl rfl (OT.tmp rfl) (fun hg => by (have hg1 := hg.2; (try simp only [decide_eq_true_eq, decide_eq_false_iff_not] at hg1); exact pu_faddr (by exact OT.tmp rfl) (show fieldOk Tryd.prog 23 1 1 false 1 = true from by decide +kernel))) rfl ?_
  refine op_gu rfl rfl rfl (OT.tmp rfl) (fun hg => by (have hg1 := hg.2; (try simp only [decide_eq_true_eq, decide_eq_false_iff_not] at hg1); exact pu_load_blk (by exact OT.gu (OT.tmp rfl) hg) (by exact mem_at 0 rfl) lv1 (show tyOk Tryd.prog 3 false 1 = true from by decide +kernel))) rfl ?_
  refine op_gu rfl rfl rfl (OT.tmp rfl) (fun hg => by (have hg1 := hg.2; (try simp only [decide_eq_true_eq, decide_eq_false_iff_not] at hg1); exact pu_lss (by exact OT.gu (OT.tmp rfl) hg) (by exact OT.gu (OT.tmp rfl) hg))) rfl ?_
  refine op_gu rfl rfl rfl (OT.tmp rfl) (fun hg => by (have hg1 := hg.2; (try simp only [decide_eq_true_eq, decide_eq_false_iff_not] at hg1); exact pu_move (by exact OT.gu (OT.tmp rfl) hg))) rfl ?_
  refine op_gu rfl rfl rfl (OT.tmp rfl) (fun hg => by (have hg1 := hg.2; (try simp only [decide_eq_true_eq, decide_eq_false_iff_not] at hg1); exact pu_faddr (by exact OT.tmp rfl) (show fieldOk Tryd.prog 23 1 1 false 1 = true from by decide +kernel))) rfl ?_
  refine op_gu rfl rfl rfl (OT.tmp rfl) (fun hg => by (have hg1 := hg.2; (try simp only [decide_eq_true_eq, decide_eq_false_iff_not] at hg1); exact pu_load_blk (by exact OT.gu (OT.tmp rfl) hg) (by exact mem_at 1 rfl) lv1 (show tyOk Tryd.prog 3 false 1 = true from by decide +kernel))) rfl ?_
  refine op_gu rfl rfl rfl (OT.tmp rfl) (fun hg => by (have hg1 := hg.2; (try simp only [decide_eq_true_eq, decide_eq_false_iff_not] at hg1); exact pu_faddr (by exact OT.tmp rfl) (show fieldOk Tryd.prog 23 1 1 false 1 = true from by decide +kernel))) rfl ?_
  refine op_gu rfl rfl rfl (OT.tmp rfl) (fun hg => by (have hg1 := hg.2; (try simp only [decide_eq_true_eq, decide_eq_false_iff_not] at hg1); exact pu_load_blk (by exact OT.gu (OT.tmp rfl) hg) (by exact mem_at 0 rfl) lv1 (show tyOk Tryd.prog 3 false 1 = true from by decide +kernel))) rfl ?_
  refine op_gu rfl rfl rfl (OT.tmp rfl) (fun hg => by (have hg1 := hg.2; (try simp only [decide_eq_true_eq, decide_eq_false_iff_not] at hg1); exact pu_eql (by exact OT.gu (OT.tmp rfl) hg) (by exact OT.gu (OT.tmp rfl) hg))) rfl ?_
  refine op_gu rfl rfl rfl (OT.tmp rfl) (fun hg => by (have hg1 := hg.2; (try simp only [decide_eq_true_eq, decide_eq_false_iff_not] at hg1); exact pu_move (by exact OT.gu (OT.tmp rfl) hg))) rfl ?_
  refine op_gu rfl rfl rfl (OT.tmp rfl) (fun hg => by (have hg1 := hg.2; (try simp only [decide_eq_true_eq, decide_eq_false_iff_not] at hg1); exact pu_faddr (by exact OT.tmp rfl) (show fieldOk Tryd.prog 23 2 2 false 1 = true from by decide +kernel))) rfl ?_
  refine op_gu rfl rfl rfl (OT.tmp rfl) (fun hg => by (have hg1 := hg.2; (try simp only [decide_eq_true_eq, decide_eq_false_iff_not] at hg1); exact pu_load_blk (by exact OT.gu (OT.tmp rfl) hg) (by exact mem_at 1 rfl) lv2 (show tyOk Tryd.prog 9 false 1 = true from by decide +kernel))) rfl ?_
  refine op_gu rfl rfl rfl (OT.tmp rfl) (fun hg => by (have hg1 := hg.2; (try simp only [decide_eq_true_eq, decide_eq_false_iff_not] at hg1); exact pu_faddr (by exact OT.tmp rfl) (show fieldOk Tryd.prog 23 2 2 false 1 = true from by decide +kernel))) rfl ?_
  refine op_gu rfl rfl rfl (OT.tmp rfl) (fun hg => by (have hg1 := hg.2; (try simp only [decide_eq_true_eq, decide_eq_false_iff_not] at hg1); exact pu_load_blk (by exact OT.gu (OT.tmp rfl) hg) (by exact mem_at 0 rfl) lv2 (show tyOk Tryd.prog 9 false 1 = true from by decide +kernel))) rfl ?_
  refine op_gu rfl rfl rfl (OT.tmp rfl) (fun hg => by (have hg1 := hg.2; (try simp only [decide_eq_true_eq, decide_eq_false_iff_not] at hg1); exact pu_bs_lss (by exact OT.gu (OT.tmp rfl) hg) (by exact OT.gu (OT.tmp rfl) hg))) rfl ?_
  refine op_gu rfl rfl rfl (OT.tmp rfl) (fun hg => by (have hg1 := hg.2; (try simp only [decide_eq_true_eq, decide_eq_false_iff_not] at hg1); exact pu_pick_and_p hg (by exact OT.gu (OT.tmp rfl) hg) (OT.tmp rfl))) rfl ?_
  refine op_gu rfl rfl rfl (OT.tmp rfl) (fun hg => by (have hg1 := hg.2; (try simp only [decide_eq_true_eq, decide_eq_false_iff_not] at hg1); exact pu_pick_or_p hg (by exact OT.gu (OT.tmp rfl) hg) (OT.tmp rfl))) rfl ?_
  refine op_gu rfl rfl rfl (OT.gu_mk (OT.tmp rfl)) (fun hg => by (have hg1 := hg.2; (try simp only [decide_eq_true_eq, decide_eq_false_iff_not] at hg1); exact pu_pick_and_p hg (by exact OT.gu (OT.tmp rfl) hg) (OT.tmp rfl))) rfl ?_
  refine op_pure (pu_pick_or (OT.tmp rfl) (by exact OT.tmp rfl)) rfl rfl ?_
  refine op_pure (pu_assign (OT.tmp rfl)) rfl rfl ?_
  refine tr_nil ?_
  refine then_normal ?_
  refine tr_seq ?_
  refine tr_seq ?_
  -- region 4
  refine tr_env (es_cons (t := 2) (OT.tmp rfl) (es_cons (t := 3) (OT.tmp rfl) (es_cons (t := 5) (OT.tmp rfl) es_nil))) ?_
  have hcv : cmpV x y = refP p q := by unfold cmpV; rw [hp, hq, cmpP_ref]
  refine tr_region ?_
  refine op_pure (pu_move (OT.tmp rfl)) rfl rfl ?_
  refine tr_nil ?_
  refine then_normal ?_
  refine tr_cond (OT.tmp rfl) (fun c43 => ?_) (fun c43 => ?_)
  · skip
    have hr : refP p q = -1 := if_pos c43
    refine tr_seq ?_
    -- region 5
    refine tr_env es_nil ?_
    refine tr_region ?_
    refine op_pure (pu_assign OT.const) rfl rfl ?_
    refine tr_nil ?_
    refine then_normal ?_
    refine tr_ret ?_
    refine then_ret ?_
    exact ret_one .ret (.inl rfl) rfl () (OT.val (OT.tmp rfl) (congrArg (Value.int _) (by rw [hcv, hr]))) trivial (by exact picks_nil)
  · skip
    have hl : ¬ lessP p q = true := by have h9 : lessP p q = false := c43; rw [h9]; simp
    refine tr_skip ?_
    refine then_normal ?_
    refine tr_seq ?_
    refine tr_seq ?_
    -- region 6
    refine tr_env (es_cons (t := 2) (OT.tmp rfl) (es_cons (t := 3) (OT.tmp rfl) es_nil)) ?_
    refine tr_region ?_
    refine op_pure (pu_load_var (OT.tmp rfl) (by exact mem_at 1 rfl) (show tyOk Tryd.prog 23 true 3 = true from by decide +kernel)) rfl rfl ?_
    refine op_pure (pu_load_var (OT.tmp rfl) (by exact mem_at 0 rfl) (show tyOk Tryd.prog 23 true 3 = true from by decide +kernel)) rfl rfl ?_
    refine op_pure (pu_eq_of eqVl (OT.tmp rfl) (OT.tmp rfl)) rfl rfl ?_
    refine tr_nil ?_
    refine then_normal ?_
    refine tr_cond (OT.tmp rfl) (fun c46 => ?_) (fun c46 => ?_)
    · skip
      have hr : refP p q = 0 := by unfold refP; rw [if_neg hl, if_pos (of_decide_eq_true c46)]
      refine tr_seq ?_
      -- region 7
      refine tr_env es_nil ?_
      refine tr_region ?_
      refine op_pure (pu_assign OT.const) rfl rfl ?_
      refine tr_nil ?_
      refine then_normal ?_
      refine tr_ret ?_
      refine then_ret ?_
      exact ret_one .ret (.inl rfl) rfl () (OT.val (OT.tmp rfl) (congrArg (Value.int _) (by rw [hcv, hr]))) trivial (by exact picks_nil)
    · skip
      have hr : refP p q = 1 := by unfold refP; rw [if_neg hl, if_neg (of_decide_eq_false c46)]
      refine tr_skip ?_
      refine then_normal ?_
      refine tr_seq ?_
      -- region 8
      refine tr_env es_nil ?_
      refine tr_region ?_
      refine op_pure (pu_assign OT.const) rfl rfl ?_
      refine tr_nil ?_
      refine then_normal ?_
      refine tr_ret ?_
      exact ret_one .ret (.inl rfl) rfl () (OT.val (OT.tmp rfl) (congrArg (Value.int _) (by rw [hcv, hr]))) trivial (by exact picks_nil)
set_option maxRecDepth 20000 in
/-- rhizome/rhizomelaw02.ValOrders -/
theorem ValOrders_fn {K0 : FH} {n0 : Nat} (a b c : Vl) (hV : VarsV K0) (ha : a.2.2.length ≤ 140737488351232) (hb : b.2.2.length ≤ 140737488351232) (hc : c.2.2.length ≤ 140737488351232) : CtM K0 n0 Tryd.prog 10 [kVl.T a, kVl.T b, kVl.T c] ([]) Unit (fun _ => BoolT true) (fun _ => []) (fun _ => True) := by
  refine fn_introM Tryd.func10 rfl rfl ?_
  intro H w hK hn
  refine tr_seq ?_
  -- region 0
  refine tr_env (es_cons (t := 0) (OT.tmp rfl) (es_cons (t := 1) (OT.tmp rfl) (es_cons (t := 2) (OT.tmp rfl) es_nil))) ?_
  refine tr_region ?_
  refine op_acts (acts_box (d := kVl) (OT.tmp rfl)) (List.Perm.refl _) rfl rfl (fun g0_0 _ => ?_)
  refine op_acts (acts_box (d := kVl) (OT.tmp rfl)) (List.Perm.refl _) rfl rfl (fun g0_1 _ => ?_)
  refine op_acts (acts_box (d := kVl) (OT.tmp rfl)) (List.Perm.refl _) rfl rfl (fun g0_2 _ => ?_)
  refine op_pure (pu_assign OT.const) rfl rfl ?_
  refine tr_nil ?_
  refine then_normal ?_
  refine tr_seq ?_
  refine tr_seq ?_
  -- region 1
  refine tr_env (es_cons (t := 3) (OT.tmp rfl) (es_cons (t := 4) (OT.tmp rfl) (es_cons (t := 5) (OT.tmp rfl) es_nil))) ?_
  refine tr_region ?_
  refine op_acts (acts_callM (awake_fn hV) (mk_in hK hn) (show enters Tryd.prog 11 = true from by decide +kernel) OTs.nil (List.Perm.refl _)) (List.Perm.refl _) rfl rfl (fun _ _ => ?_)
  refine op_pure (pu_not (OT.tmp rfl)) rfl rfl ?_
  refine tr_nil ?_
  refine then_normal ?_
  refine tr_cond (OT.tmp rfl) (fun c11 => ?_) (fun c11 => ?_)
  · skip
    exact absurd c11 (by simp) --done
  · skip
    refine tr_skip ?_
    refine then_normal ?_
    refine tr_seq ?_
    refine tr_seq ?_
    -- region 3
    refine tr_env (es_cons (t := 3) (OT.tmp rfl) (es_cons (t := 4) (OT.tmp rfl) (es_cons (t := 5) (OT.tmp rfl) es_nil))) ?_
    refine tr_region ?_
    refine op_pure (pu_load_var (OT.tmp rfl) (by exact mem_at 2 rfl) (show tyOk Tryd.prog 23 true 3 = true from by decide +kernel)) rfl rfl ?_
    refine op_pure (pu_load_var (OT.tmp rfl) (by exact mem_at 1 rfl) (show tyOk Tryd.prog 23 true 3 = true from by decide +kernel)) rfl rfl ?_
    refine op_pure (pu_load_var (OT.tmp rfl) (by exact mem_at 0 rfl) (show tyOk Tryd.prog 23 true 3 = true from by decide +kernel)) rfl rfl ?_
    refine op_pure (pu_build_arr (d := (karr 3 kVl)) (v0 := (List.replicate 3 (0, 0, []))) (agg := true) Tryd.underlying60 (show tyOk Tryd.prog 23 true 3 = true from by decide +kernel) z60 rfl (fills_arr rfl rfl (by decide) (OT.tmp rfl) (fills_arr rfl rfl (by decide) (OT.tmp rfl) (fills_arr rfl rfl (by decide) (OT.tmp rfl) fills_nil)))) rfl rfl ?_
    refine op_pure (pu_move OT.const) rfl rfl ?_
    refine tr_nil ?_
    refine then_normal ?_
    refine tr_block ?_
    refine tr_loopK (σ := Nat) (es_cons (t := 3) (OT.tmp rfl) (es_cons (t := 4) (OT.tmp rfl) (es_cons (t := 5) (OT.tmp rfl) (es_cons (t := 15) (OT.tmp rfl) es_nil)))) (fun j => [(16, I64 (j : Int))]) (fun j => [BlkI g0_2 23 kVl c, BlkI g0_1 23 kVl b, BlkI g0_0 23 kVl a]) (fun j => j ≤ 3) (fun j => 3 - j) 0 (Nat.zero_le _) ?_ (own_picks (by repeat (first | exact picks_nil | refine picks_cons 0 rfl ?_ | refine picks_cons 1 rfl ?_ | refine picks_cons 2 rfl ?_ | refine picks_cons 3 rfl ?_ | refine picks_cons 4 rfl ?_ | refine picks_cons 5 rfl ?_ | refine picks_cons 6 rfl ?_))) ?_
    · exact (es_cons (t := 16) (OT.tmp rfl) es_nil)
    · rintro j hj
      refine tr_seq ?_
      -- region 4
      refine tr_env (es_cons (t := 3) (OT.tmp rfl) (es_cons (t := 4) (OT.tmp rfl) (es_cons (t := 5) (OT.tmp rfl) (es_cons (t := 15) (OT.tmp rfl) (es_cons (t := 16) (OT.tmp rfl) es_nil))))) ?_
      refine tr_region ?_
      refine op_pure (pu_lss (OT.tmp rfl) OT.const) rfl rfl ?_
      refine tr_nil ?_
      refine then_normal ?_
      refine tr_seq ?_
      refine tr_cond (OT.tmp rfl) (fun c17 => ?_) (fun c17 => ?_)
      · skip
        refine tr_skip ?_
        refine then_normal ?_
        refine tr_seq ?_
        refine tr_block ?_
        refine tr_seq ?_
        -- region 5
        refine tr_env (es_cons (t := 3) (OT.tmp rfl) (es_cons (t := 4) (OT.tmp rfl) (es_cons (t := 5) (OT.tmp rfl) (es_cons (t := 15) (OT.tmp rfl) (es_cons (t := 16) (OT.tmp rfl) es_nil))))) ?_
        have hj3 : j < 3 := by simp at c17; omega
        obtain ⟨v, hv⟩ : ∃ v, at' [a, b, c] (j : Int) = v := ⟨_, rfl⟩
        have hvl : v.2.2.length ≤ 140737488351232 := by
          have hj : j = 0 ∨ j = 1 ∨ j = 2 := by omega
          rcases hj with rfl | rfl | rfl
          · rw [← hv]; exact ha
          · rw [← hv]; exact hb
          · rw [← hv]; exact hc
        refine tr_region ?_
        refine op_pure (pu_index_agg (OT.tmp rfl) (OT.tmp rfl) Tryd.underlying60 (show tyOk Tryd.prog 23 true 3 = true from by decide +kernel) (by omega) (by omega)) rfl rfl ?_
        refine tr_as 18 (T := kVl.T v) (OT.eq (OT.tmp rfl) (congrArg kVl.T (show at' _ _ = v from hv))) ?_
        refine op_acts (acts_alloc (zVl)) (List.Perm.refl _) rfl rfl (fun g5_1 _ => ?_)
        refine op_acts (acts_store_var (OT.tmp rfl) (OT.tmp rfl) (by exact perm_at 0 rfl) (show tyOk Tryd.prog 23 true 3 = true from by decide +kernel)) (by exact perm_at 0 rfl) rfl rfl (fun _ _ => ?_)
        refine tr_nil ?_
        refine then_normal ?_
        refine tr_seq ?_
        -- region 6
        refine tr_env (es_cons (t := 3) (OT.tmp rfl) (es_cons (t := 4) (OT.tmp rfl) (es_cons (t := 5) (OT.tmp rfl) (es_cons (t := 8) (OT.tmp rfl) (es_cons (t := 15) (OT.tmp rfl) (es_cons (t := 16) (OT.tmp rfl) es_nil)))))) ?_
        refine tr_region ?_
        refine op_pure (pu_load_var (OT.tmp rfl) (by exact mem_at 0 rfl) (show tyOk Tryd.prog 23 true 3 = true from by decide +kernel)) rfl rfl ?_
        refine op_acts (acts_call (rCheck_fn v hvl) (show enters Tryd.prog 12 = true from by decide +kernel) (OTs.cons (OT.tmp rfl) OTs.nil) (List.Perm.refl _)) (List.Perm.refl _) rfl rfl (fun _ _ => ?_)
        refine op_pure (pu_neq (OT.tmp rfl) OT.const) rfl rfl ?_
        refine tr_nil ?_
        refine then_normal ?_
        refine tr_cond (OT.tmp rfl) (fun c21 => ?_) (fun c21 => ?_)
        · skip
          refine tr_seq ?_
          -- region 7
          refine tr_env es_nil ?_
          refine tr_region ?_
          refine op_pure (pu_assign OT.const) rfl rfl ?_
          refine tr_nil ?_
          refine then_normal ?_
          refine tr_ret ?_
          refine block_ret ?_
          refine then_ret ?_
          refine then_ret ?_
          refine block_ret ?_
          refine then_ret ?_
          exact ret_one .ret (.inl rfl) rfl () (OT.val (OT.tmp rfl) (congrArg Value.bool (rfl))) trivial (by exact picks_nil)
        · skip
          refine tr_skip ?_
          refine block_normal ?_
          refine then_normal ?_
          -- region 8
          refine tr_env (es_cons (t := 3) (OT.tmp rfl) (es_cons (t := 4) (OT.tmp rfl) (es_cons (t := 5) (OT.tmp rfl) (es_cons (t := 15) (OT.tmp rfl) (es_cons (t := 16) (OT.tmp rfl) es_nil))))) ?_
          refine tr_region ?_
          refine op_pure (pu_add' (OT.tmp rfl) OT.const (by omega)) rfl rfl ?_
          refine op_pure (pu_move (OT.tmp rfl)) rfl rfl ?_
          refine tr_nil ?_
          refine then_normal ?_
          exact tr_again (j + 1) (by omega) (by omega) (es_append (es_cons (t := 16) (by exact OT.tmp rfl) es_nil) (es_cons (t := 3) (OT.tmp rfl) (es_cons (t := 4) (OT.tmp rfl) (es_cons (t := 5) (OT.tmp rfl) (es_cons (t := 15) (OT.tmp rfl) es_nil))))) (own_picks (by repeat (first | exact picks_nil | refine picks_cons 0 rfl ?_ | refine picks_cons 1 rfl ?_ | refine picks_cons 2 rfl ?_ | refine picks_cons 3 rfl ?_ | refine picks_cons 4 rfl ?_ | refine picks_cons 5 rfl ?_ | refine picks_cons 6 rfl ?_)))
      · skip
        refine tr_exit ?_
        refine then_exit ?_
        refine then_exit ?_
        refine block_hit ?_
        refine then_normal ?_
        refine tr_seq ?_
        -- region 9
        refine tr_env (es_cons (t := 3) (OT.tmp rfl) (es_cons (t := 4) (OT.tmp rfl) (es_cons (t := 5) (OT.tmp rfl) es_nil))) ?_
        refine tr_region ?_
        refine op_pure (pu_load_var (OT.tmp rfl) (by exact mem_at 2 rfl) (show tyOk Tryd.prog 23 true 3 = true from by decide +kernel)) rfl rfl ?_
        refine op_pure (pu_load_var (OT.tmp rfl) (by exact mem_at 1 rfl) (show tyOk Tryd.prog 23 true 3 = true from by decide +kernel)) rfl rfl ?_
        refine op_acts (acts_callM (Cmp_fn _ _) (mk_in hK hn) (show enters Tryd.prog 29 = true from by decide +kernel) (OTs.cons (OT.tmp rfl) (OTs.cons (OT.tmp rfl) OTs.nil)) (List.Perm.refl _)) (List.Perm.refl _) rfl rfl (fun _ _ => ?_)
        refine op_pure (pu_assign (OT.tmp rfl)) rfl rfl ?_
        refine tr_nil ?_
        refine then_normal ?_
        refine tr_seq ?_
        refine tr_seq ?_
        -- region 10
        refine tr_env (es_cons (t := 3) (OT.tmp rfl) (es_cons (t := 4) (OT.tmp rfl) (es_cons (t := 5) (OT.tmp rfl) (es_cons (t := 9) (OT.tmp rfl) es_nil)))) ?_
        have hbd := cmpV_bd a b
        refine tr_region ?_
        refine op_pure (pu_move (OT.tmp rfl)) rfl rfl ?_
        refine op_pure (pu_load_var (OT.tmp rfl) (by exact mem_at 2 rfl) (show tyOk Tryd.prog 23 true 3 = true from by decide +kernel)) rfl rfl ?_
        refine op_pure (pu_load_var (OT.tmp rfl) (by exact mem_at 1 rfl) (show tyOk Tryd.prog 23 true 3 = true from by decide +kernel)) rfl rfl ?_
        refine op_acts (acts_call (rCmp_fn _ _) (show enters Tryd.prog 30 = true from by decide +kernel) (OTs.cons (OT.tmp rfl) (OTs.cons (OT.tmp rfl) OTs.nil)) (List.Perm.refl _)) (List.Perm.refl _) rfl rfl (fun _ _ => ?_)
        refine op_pure (pu_neq (OT.tmp rfl) (OT.tmp rfl)) rfl rfl ?_
        refine op_pure (pu_move (OT.tmp rfl)) rfl rfl ?_
        refine op_gu rfl rfl rfl (OT.gu_mk (OT.tmp rfl)) (fun hg => by (have hg1 := hg.2; (try simp only [decide_eq_true_eq, decide_eq_false_iff_not] at hg1); exact pu_load_var (by exact OT.tmp rfl) (by exact mem_at 1 rfl) (show tyOk Tryd.prog 23 true 3 = true from by decide +kernel))) rfl ?_
        refine op_gu rfl rfl rfl (OT.gu_mk (OT.tmp rfl)) (fun hg => by (have hg1 := hg.2; (try simp only [decide_eq_true_eq, decide_eq_false_iff_not] at hg1); exact pu_load_var (by exact OT.tmp rfl) (by exact mem_at 2 rfl) (show tyOk Tryd.prog 23 true 3 = true from by decide +kernel))) rfl ?_
        refine op_gu_acts () rfl rfl rfl (OT.gu_mk (OT.tmp rfl)) (fun hg => by (have hg1 := hg.2; (try simp only [decide_eq_true_eq, decide_eq_false_iff_not] at hg1); exact acts_callM (Cmp_fn _ _) (mk_in hK hn) (show enters Tryd.prog 29 = true from by decide +kernel) (OTs.cons (by exact OT.gu (OT.tmp rfl) hg) (OTs.cons (by exact OT.gu (OT.tmp rfl) hg) OTs.nil)) (List.Perm.refl _))) rfl (fun _ _ => ?_)
        refine op_gu rfl rfl rfl (OT.gu_mk (OT.tmp rfl)) (fun hg => by (have hg1 := hg.2; (try simp only [decide_eq_true_eq, decide_eq_false_iff_not] at hg1); exact pu_move (by exact OT.tmp rfl))) rfl ?_
        refine op_gu rfl rfl rfl (OT.gu_mk (OT.tmp rfl)) (fun hg => by (have hg1 := hg.2; (try simp only [decide_eq_true_eq, decide_eq_false_iff_not] at hg1); exact pu_neg (by exact OT.gu (OT.tmp rfl) hg) (by omega))) rfl ?_
        refine op_gu rfl rfl rfl (OT.gu_mk (OT.tmp rfl)) (fun hg => by (have hg1 := hg.2; (try simp only [decide_eq_true_eq, decide_eq_false_iff_not] at hg1); exact pu_neq (by exact OT.gu (OT.tmp rfl) hg) (by exact OT.gu (OT.tmp rfl) hg))) rfl ?_
        refine op_pure (pu_pick_or (OT.tmp rfl) (by exact OT.tmp rfl)) rfl rfl ?_
        refine op_pure (pu_move (OT.tmp rfl)) rfl rfl ?_
        refine op_gu rfl rfl rfl (OT.gu_mk (OT.tmp rfl)) (fun hg => by (have hg1 := hg.2; (try simp only [decide_eq_true_eq, decide_eq_false_iff_not] at hg1); exact pu_move (by exact OT.tmp rfl))) rfl ?_
        refine op_gu rfl rfl rfl (OT.gu_mk (OT.tmp rfl)) (fun hg => by (have hg1 := hg.2; (try simp only [decide_eq_true_eq, decide_eq_false_iff_not] at hg1); exact pu_eql (by exact OT.gu (OT.tmp rfl) hg) OT.const)) rfl ?_
        refine op_gu rfl rfl rfl (OT.gu_mk (OT.tmp rfl)) (fun hg => by (have hg1 := hg.2; (try simp only [decide_eq_true_eq, decide_eq_false_iff_not] at hg1); exact pu_load_var (by exact OT.tmp rfl) (by exact mem_at 2 rfl) (show tyOk Tryd.prog 23 true 3 = true from by decide +kernel))) rfl ?_
        refine op_gu rfl rfl rfl (OT.gu_mk (OT.tmp rfl)) (fun hg => by (have hg1 := hg.2; (try simp only [decide_eq_true_eq, decide_eq_false_iff_not] at hg1); exact pu_load_var (by exact OT.tmp rfl) (by exact mem_at 1 rfl) (show tyOk Tryd.prog 23 true 3 = true from by decide +kernel))) rfl ?_
        refine op_gu_acts () rfl rfl rfl (OT.gu_mk (OT.tmp rfl)) (fun hg => by (have hg1 := hg.2; (try simp only [decide_eq_true_eq, decide_eq_false_iff_not] at hg1); exact acts_call (Same_fn _ _) (show enters Tryd.prog 28 = true from by decide +kernel) (OTs.cons (by exact OT.gu (OT.tmp rfl) hg) (OTs.cons (by exact OT.gu (OT.tmp rfl) hg) OTs.nil)) (List.Perm.refl _))) rfl (fun _ _ => ?_)
        refine op_gu rfl rfl rfl (OT.gu_mk (OT.tmp rfl)) (fun hg => by (have hg1 := hg.2; (try simp only [decide_eq_true_eq, decide_eq_false_iff_not] at hg1); exact pu_bool_ne (by exact OT.gu (OT.tmp rfl) hg) (by exact OT.gu (OT.tmp rfl) hg) Tryd.underlying4)) rfl ?_
        refine op_pure (pu_pick_or (OT.tmp rfl) (by exact OT.tmp rfl)) rfl rfl ?_
        refine tr_nil ?_
        refine then_normal ?_
        refine tr_cond (OT.tmp rfl) (fun c46 => ?_) (fun c46 => ?_)
        · skip
          exfalso; have e1 : cmpV b a = -cmpV a b := cmpP_anti _ _; have e2 : decide (cmpV a b = 0) = sameV a b := by unfold sameV cmpV; exact decide_eq_decide.2 (cmpP_zero _ _)
          rw [e1, e2] at c46; simp at c46 --done
        · skip
          refine tr_skip ?_
          refine then_normal ?_
          refine tr_seq ?_
          refine tr_seq ?_
          -- region 12
          refine tr_env (es_cons (t := 3) (OT.tmp rfl) (es_cons (t := 4) (OT.tmp rfl) (es_cons (t := 5) (OT.tmp rfl) (es_cons (t := 9) (OT.tmp rfl) es_nil)))) ?_
          refine tr_region ?_
          refine op_pure (pu_faddr (OT.tmp rfl) (show fieldOk Tryd.prog 23 0 0 false 1 = true from by decide +kernel)) rfl rfl ?_
          refine op_pure (pu_load_blk (OT.tmp rfl) (by exact mem_at 2 rfl) lv0 (show tyOk Tryd.prog 3 false 1 = true from by decide +kernel)) rfl rfl ?_
          refine op_pure (pu_eql (OT.tmp rfl) OT.const) rfl rfl ?_
          refine op_pure (pu_move (OT.tmp rfl)) rfl rfl ?_
          refine op_gu rfl rfl rfl (OT.gu_mk (OT.tmp rfl)) (fun hg => by (have hg1 := hg.2; (try simp only [decide_eq_true_eq, decide_eq_false_iff_not] at hg1); exact pu_faddr (by exact OT.tmp rfl) (show fieldOk Tryd.prog 23 0 0 false 1 = true from by decide +kernel))) rfl ?_
          refine op_gu rfl rfl rfl (OT.gu_mk (OT.tmp rfl)) (fun hg => by (have hg1 := hg.2; (try simp only [decide_eq_true_eq, decide_eq_false_iff_not] at hg1); exact pu_load_blk (by exact OT.gu (OT.tmp rfl) hg) (by exact mem_at 1 rfl) lv0 (show tyOk Tryd.prog 3 false 1 = true from by decide +kernel))) rfl ?_
          refine op_gu rfl rfl rfl (OT.gu_mk (OT.tmp rfl)) (fun hg => by (have hg1 := hg.2; (try simp only [decide_eq_true_eq, decide_eq_false_iff_not] at hg1); exact pu_eql (by exact OT.gu (OT.tmp rfl) hg) OT.const)) rfl ?_
          refine op_pure (pu_pick_and (OT.tmp rfl) (by exact OT.tmp rfl)) rfl rfl ?_
          refine op_pure (pu_move (OT.tmp rfl)) rfl rfl ?_
          refine op_gu rfl rfl rfl (OT.gu_mk (OT.tmp rfl)) (fun hg => by (have hg1 := hg.2; (try simp only [decide_eq_true_eq, decide_eq_false_iff_not] at hg1); exact pu_faddr (by exact OT.tmp rfl) (show fieldOk Tryd.prog 23 2 2 false 1 = true from by decide +kernel))) rfl ?_
          refine op_gu rfl rfl rfl (OT.gu_mk (OT.tmp rfl)) (fun hg => by (have hg1 := hg.2; (try simp only [decide_eq_true_eq, decide_eq_false_iff_not] at hg1); exact pu_load_blk (by exact OT.gu (OT.tmp rfl) hg) (by exact mem_at 2 rfl) lv2 (show tyOk Tryd.prog 9 false 1 = true from by decide +kernel))) rfl ?_
          refine op_gu rfl rfl rfl (OT.gu_mk (OT.tmp rfl)) (fun hg => by (have hg1 := hg.2; (try simp only [decide_eq_true_eq, decide_eq_false_iff_not] at hg1); exact pu_faddr (by exact OT.tmp rfl) (show fieldOk Tryd.prog 23 2 2 false 1 = true from by decide +kernel))) rfl ?_
          refine op_gu rfl rfl rfl (OT.gu_mk (OT.tmp rfl)) (fun hg => by (have hg1 := hg.2; (try simp only [decide_eq_true_eq, decide_eq_false_iff_not] at hg1); exact pu_load_blk (by exact OT.gu (OT.tmp rfl) hg) (by exact mem_at 1 rfl) lv2 (show tyOk Tryd.prog 9 false 1 = true from by decide +kernel))) rfl ?_
          refine op_gu rfl rfl rfl (OT.gu_mk (OT.tmp rfl)) (fun hg => by (have hg1 := hg.2; (try simp only [decide_eq_true_eq, decide_eq_false_iff_not] at hg1); exact pu_bs_lss (by exact OT.gu (OT.tmp rfl) hg) (by exact OT.gu (OT.tmp rfl) hg))) rfl ?_
          refine op_gu rfl rfl rfl (OT.gu_mk (OT.tmp rfl)) (fun hg => by (have hg1 := hg.2; (try simp only [decide_eq_true_eq, decide_eq_false_iff_not] at hg1); exact pu_move (by exact OT.tmp rfl))) rfl ?_
          refine op_gu rfl rfl rfl (OT.gu_mk (OT.tmp rfl)) (fun hg => by (have hg1 := hg.2; (try simp only [decide_eq_true_eq, decide_eq_false_iff_not] at hg1); exact pu_lss (by exact OT.gu (OT.tmp rfl) hg) OT.const)) rfl ?_
          refine op_gu rfl rfl rfl (OT.gu_mk (OT.tmp rfl)) (fun hg => by (have hg1 := hg.2; (try simp only [decide_eq_true_eq, decide_eq_false_iff_not] at hg1); exact pu_bool_ne (by exact OT.gu (OT.tmp rfl) hg) (by exact OT.gu (OT.tmp rfl) hg) Tryd.underlying4)) rfl ?_
          refine op_pure (pu_pick_and (OT.tmp rfl) (by exact OT.tmp rfl)) rfl rfl ?_
          refine tr_nil ?_
          refine then_normal ?_
          refine tr_cond (OT.tmp rfl) (fun c64 => ?_) (fun c64 => ?_)
          · skip
            exfalso; simp only [Bool.and_eq_true, decide_eq_true_eq, bne_iff_ne, ne_eq] at c64
            have e3 := cmp_text c64.1.1 c64.1.2
            have e4 := c64.2
            simp_all --done
          · skip
            refine tr_skip ?_
            refine then_normal ?_
            refine tr_seq ?_
            -- region 14
            refine tr_env (es_cons (t := 3) (OT.tmp rfl) (es_cons (t := 4) (OT.tmp rfl) (es_cons (t := 5) (OT.tmp rfl) (es_cons (t := 9) (OT.tmp rfl) es_nil)))) ?_
            refine tr_region ?_
            refine op_pure (pu_move (OT.tmp rfl)) rfl rfl ?_
            refine op_pure (pu_gtr (OT.tmp rfl) OT.const) rfl rfl ?_
            refine op_pure (pu_move (OT.tmp rfl)) rfl rfl ?_
            refine op_gu rfl rfl rfl (OT.gu_mk (OT.tmp rfl)) (fun hg => by (have hg1 := hg.2; (try simp only [decide_eq_true_eq, decide_eq_false_iff_not] at hg1); exact pu_load_var (by exact OT.tmp rfl) (by exact mem_at 1 rfl) (show tyOk Tryd.prog 23 true 3 = true from by decide +kernel))) rfl ?_
            refine op_gu rfl rfl rfl (OT.gu_mk (OT.tmp rfl)) (fun hg => by (have hg1 := hg.2; (try simp only [decide_eq_true_eq, decide_eq_false_iff_not] at hg1); exact pu_load_var (by exact OT.tmp rfl) (by exact mem_at 0 rfl) (show tyOk Tryd.prog 23 true 3 = true from by decide +kernel))) rfl ?_
            refine op_gu_acts () rfl rfl rfl (OT.gu_mk (OT.tmp rfl)) (fun hg => by (have hg1 := hg.2; (try simp only [decide_eq_true_eq, decide_eq_false_iff_not] at hg1); exact acts_callM (Cmp_fn _ _) (mk_in hK hn) (show enters Tryd.prog 29 = true from by decide +kernel) (OTs.cons (by exact OT.gu (OT.tmp rfl) hg) (OTs.cons (by exact OT.gu (OT.tmp rfl) hg) OTs.nil)) (List.Perm.refl _))) rfl (fun _ _ => ?_)
            refine op_gu rfl rfl rfl (OT.gu_mk (OT.tmp rfl)) (fun hg => by (have hg1 := hg.2; (try simp only [decide_eq_true_eq, decide_eq_false_iff_not] at hg1); exact pu_gtr (by exact OT.gu (OT.tmp rfl) hg) OT.const)) rfl ?_
            refine op_pure (pu_pick_or (OT.tmp rfl) (by exact OT.tmp rfl)) rfl rfl ?_
            refine op_pure (pu_move (OT.tmp rfl)) rfl rfl ?_
            refine op_gu rfl rfl rfl (OT.gu_mk (OT.tmp rfl)) (fun hg => by (have hg1 := hg.2; (try simp only [decide_eq_true_eq, decide_eq_false_iff_not] at hg1); exact pu_load_var (by exact OT.tmp rfl) (by exact mem_at 2 rfl) (show tyOk Tryd.prog 23 true 3 = true from by decide +kernel))) rfl ?_
            refine op_gu rfl rfl rfl (OT.gu_mk (OT.tmp rfl)) (fun hg => by (have hg1 := hg.2; (try simp only [decide_eq_true_eq, decide_eq_false_iff_not] at hg1); exact pu_load_var (by exact OT.tmp rfl) (by exact mem_at 0 rfl) (show tyOk Tryd.prog 23 true 3 = true from by decide +kernel))) rfl ?_
            refine op_gu_acts () rfl rfl rfl (OT.gu_mk (OT.tmp rfl)) (fun hg => by (have hg1 := hg.2; (try simp only [decide_eq_true_eq, decide_eq_false_iff_not] at hg1); exact acts_callM (Cmp_fn _ _) (mk_in hK hn) (show enters Tryd.prog 29 = true from by decide +kernel) (OTs.cons (by exact OT.gu (OT.tmp rfl) hg) (OTs.cons (by exact OT.gu (OT.tmp rfl) hg) OTs.nil)) (List.Perm.refl _))) rfl (fun _ _ => ?_)
            refine op_gu rfl rfl rfl (OT.gu_mk (OT.tmp rfl)) (fun hg => by (have hg1 := hg.2; (try simp only [decide_eq_true_eq, decide_eq_false_iff_not] at hg1); exact pu_leq (by exact OT.gu (OT.tmp rfl) hg) OT.const)) rfl ?_
            refine op_pure (pu_pick_or (OT.tmp rfl) (by exact OT.tmp rfl)) rfl rfl ?_
            refine op_pure (pu_assign (OT.tmp rfl)) rfl rfl ?_
            refine tr_nil ?_
            refine then_normal ?_
            refine tr_ret ?_
            exact ret_one .ret (.inl rfl) rfl () (OT.val (OT.tmp rfl) (congrArg Value.bool (orders_end a b c))) trivial (by exact picks_nil)
end Go.Proofs.YtdlendioamiagaaDoor
/- The package-level variables that the rows list: what they hold in whatever world meets the list; one world that meets it. -/
namespace Go.Proofs.YtdlendioamiagaaDoor
open Go Go.Gw Go.Vl Go.RowKit
set_option linter.unusedVariables false
abbrev laidL : List (String × DataW Unit) := Rows.valChecksRow.laid
/-- The name of the sentinels' type. -/
abbrev errName : String := match (Rows.laid_strconv_ErrSyntax : DataW Unit) with
  | .iface n _ => n
  | _ => ""
theorem rowE (u : TypeId) (h : Tryd.prog.typeName? 3 u = some errName) : u = 142 :=
  typeName_ptr_named (nm := "errors.errorString") (by kernel_rfl) (by kernel_rfl) (by decide) u (h.trans (congrArg some (by decide)))
abbrev tzName : String := (laidL.getD 1 ("", .nil)).1
def tzTab : List Int := [0, 1, 56, 2, 57, 49, 28, 3, 61, 58, 42, 50, 38, 29, 17, 4, 62, 47, 59, 36, 45, 43, 51, 22, 53, 39, 33, 30, 24, 18, 12, 5, 63, 55, 48, 27, 60, 41, 37, 16, 46, 35, 44, 21, 52, 32, 23, 11, 54, 26, 40, 15, 34, 20, 31, 10, 25, 14, 19, 9, 13, 8, 7, 6]
theorem u8x : Go.Proofs.U8Extra Tryd.prog Tryd.lValid_ren where
  n3 := by kernel_rfl
  y3 := by kernel_rfl
  n4 := by kernel_rfl
  y4 := by kernel_rfl
  c5 := by kernel_rfl
  c119 := by kernel_rfl
  c138 := by kernel_rfl
theorem vars_of {W : World} (hS : W.ShapedOpen Tryd.prog) (hL : laidMet Tryd.prog laidL W) : VarsV (heapOf W) where
  tab := fun w ho => by
    have hT : Lib.TabIs Tryd.prog W Tryd.tabName .u64 Lib.pow10Tab := Lib.tabIs_of_head (g := 3) (t := 126) (e := 64) (n := 20) (by kernel_rfl) (by kernel_rfl) Tryd.underlying126 Tryd.underlying64 (by kernel_rfl) (by kernel_rfl) hL.tail.tail
    exact var_on hT ho
  syn := by
    obtain ⟨a0, s0, hv0, _⟩ := laid_sentinel (g := 4) (ti := 70) (tp := 142) (te := 144) (ts := 9) hL.tail.tail.tail.tail.tail (by kernel_rfl) (by kernel_rfl) Tryd.underlying70 rowE Tryd.underlying142 Tryd.underlying144 rfl rfl Tryd.underlying9 (by kernel_rfl) (by kernel_rfl)
    exact ⟨_, _, fun w ho => var_on hv0 ho⟩
  rng := by
    obtain ⟨a0, s0, hv0, _⟩ := laid_sentinel (g := 5) (ti := 70) (tp := 142) (te := 144) (ts := 9) hL.tail.tail.tail.tail (by kernel_rfl) (by kernel_rfl) Tryd.underlying70 rowE Tryd.underlying142 Tryd.underlying144 rfl rfl Tryd.underlying9 (by kernel_rfl) (by kernel_rfl)
    exact ⟨_, _, fun w ho => var_on hv0 ho⟩
  len := by
    obtain ⟨m, hm⟩ : ∃ m, W.cell? ⟨Tryd.lCut_ren.g 1, 0, none⟩ = some (.int .i64 m) := cell_of_shapedOpen_int (zero := #[.int .i64 0]) (t := 3) hS (of_decide_eq_true (by kernel_rfl)) (by kernel_rfl) rfl (by kernel_rfl) (by kernel_rfl) Tryd.underlying3
    exact ⟨m, fun w ho => cell_on hm ho⟩
  utf := fun w ho => by
    have h3 := Go.Lib.laidMet.reads hL (n := "unicode/utf8.first") (d := Rows.laid_unicode_utf8_first) (by simp [laidL, Rows.valChecksRow])
    have h4 := Go.Lib.laidMet.reads hL (n := "unicode/utf8.acceptRanges") (d := Rows.laid_unicode_utf8_acceptRanges) (by simp [laidL, Rows.valChecksRow])
    rw [show (Rows.laid_unicode_utf8_first : DataW Unit) = Lib.firstData from by kernel_rfl] at h3
    rw [show (Rows.laid_unicode_utf8_acceptRanges : DataW Unit) = Lib.acceptData from by kernel_rfl] at h4
    have hT := Go.Proofs.utf8Tabs_of_readsT (Go.Proofs.U8Types.of196 Tryd.lValid) u8x h3 h4
    exact ⟨fun c hc => cell_on (hT.1 c hc) ho, fun i hi => ⟨cell_on (hT.2 i hi).1 ho, cell_on (hT.2 i hi).2 ho⟩⟩
  syc := by
    obtain ⟨a0, s0, hv0, _⟩ := laid_sentinel (g := 4) (ti := 70) (tp := 142) (te := 144) (ts := 9) hL.tail.tail.tail.tail.tail (by kernel_rfl) (by kernel_rfl) Tryd.underlying70 rowE Tryd.underlying142 Tryd.underlying144 rfl rfl Tryd.underlying9 (by kernel_rfl) (by kernel_rfl)
    have key : ∀ w, On (heapOf W) w → w.cell? ⟨4, 0, none⟩ = some (.iface 142 (.pointer (some a0))) := fun w ho => by
      have h0 := World.var?_cell (g := 4) (by kernel_rfl) (var_on hv0 ho) 0
      simpa using h0
    exact ⟨_, .inr ⟨_, _, rfl⟩, key⟩
  tz := fun w ho => by
    have hT : Lib.TabIs Tryd.prog W tzName .u8 tzTab := Lib.tabIs_of_head (g := 7) (t := 146) (e := 5) (n := 64) (by kernel_rfl) (by kernel_rfl) Tryd.underlying146 Tryd.underlying5 (by kernel_rfl) (by kernel_rfl) hL.tail
    have h0 := World.var?_cell (g := 7) (by kernel_rfl) (var_on hT ho) 15
    exact h0
theorem plain_all (w : World) : laidMetH Tryd.prog laidL w = laidMet Tryd.prog laidL w := MakeChecks.laidMetH_plain _ _ _ (by kernel_rfl)
theorem shp (os : Os) : (World.laidAll Tryd.prog os laidL).Shaped Tryd.prog := World.shaped_of_ZipB (by kernel_rfl) (by kernel_rfl)
theorem met (os : Os) (args : Array Value) : laidMet Tryd.prog laidL ((World.laidAll Tryd.prog os laidL).forCall (fun _ _ => 0) ⟨#[], args, []⟩).memory := laidMet_laidAll _ (by kernel_rfl) (by kernel_rfl)
end Go.Proofs.YtdlendioamiagaaDoor
