/- The texts Vl5, Vl6, VlC of this claim, put together in their order. No condition of their own. -/
import Derived.Test.YtdlendioamiagaaDoorQ2
import Derived.Test.YtdlendioamiagaaDoorQ4
/- Walks through the Go functions val.Check, val.plain, rhizomeref02.Plain, as typed contracts. -/
namespace Go.Proofs.YtdlendioamiagaaDoor
open Go Go.Gw Go.Vl
set_option linter.unusedVariables false
set_option linter.unusedSimpArgs false
theorem flat3 (a b c : List Int) : [a, b, c].flatten = a ++ (b ++ c) := by simp
theorem wrapk {k : Nat} (h : k < 256) : IntKind.u8.wrap (k : Int) = ((UInt8.ofNat k).toNat : Int) := by
  rw [wrap8, UInt8.toNat_ofNat']
  omega

set_option maxRecDepth 20000 in
/-- rhizome/val.Check -/
theorem Check_fn {K0 : FH} {n0 : Nat} (v : Vl) (hV : VarsV K0) (hl : v.2.2.length ≤ 140737488351232) : CtM K0 n0 Tryd.prog 15 [kVl.T v] ([]) Unit (fun _ => I64 (checkV v)) (fun _ => []) (fun _ => True) := by
  refine fn_introM Tryd.func15 rfl rfl ?_
  intro H w hK hn
  refine tr_seq ?_
  -- region 0
  refine tr_env (es_cons (t := 0) (OT.tmp rfl) es_nil) ?_
  refine tr_region ?_
  refine op_acts (acts_box (d := kVl) (OT.tmp rfl)) (List.Perm.refl _) rfl rfl (fun g0_0 _ => ?_)
  refine op_pure (pu_assign OT.const) rfl rfl ?_
  refine tr_nil ?_
  refine then_normal ?_
  refine tr_seq ?_
  refine tr_seq ?_
  -- region 1
  refine tr_env (es_cons (t := 1) (OT.tmp rfl) es_nil) ?_
  refine tr_region ?_
  refine op_pure (pu_faddr (OT.tmp rfl) (show fieldOk Tryd.prog 23 0 0 false 1 = true from by decide +kernel)) rfl rfl ?_
  refine op_pure (pu_load_blk (OT.tmp rfl) (by exact mem_at 0 rfl) lv0 (show tyOk Tryd.prog 3 false 1 = true from by decide +kernel)) rfl rfl ?_
  refine tr_nil ?_
  refine then_normal ?_
  refine tr_block ?_
  refine tr_seq ?_
  -- region 3
  refine tr_env (es_cons (t := 1) (OT.tmp rfl) (es_cons (t := 4) (OT.tmp rfl) es_nil)) ?_
  refine tr_region ?_
  refine op_pure (pu_eql (OT.tmp rfl) OT.const) rfl rfl ?_
  refine op_pure (pu_assign (OT.tmp rfl)) rfl rfl ?_
  refine tr_nil ?_
  refine then_normal ?_
  refine tr_cond (OT.tmp rfl) (fun c5 => ?_) (fun c5 => ?_)
  · skip
    refine tr_skip ?_
    refine block_normal ?_
    refine then_normal ?_
    refine tr_seq ?_
    -- region 12
    refine tr_env es_nil ?_
    refine tr_region ?_
    refine op_pure (pu_assign OT.const) rfl rfl ?_
    refine tr_nil ?_
    refine then_normal ?_
    refine tr_ret ?_
    exact ret_one .ret (.inl rfl) rfl () (OT.val (OT.tmp rfl) (congrArg (Value.int _) (by (try simp only [Bool.and_eq_true, Bool.and_eq_false_iff, Bool.or_eq_true, Bool.or_eq_false_iff, Bool.not_eq_true', Bool.not_eq_false', decide_eq_true_eq, decide_eq_false_iff_not] at *); unfold checkV; (repeat' split) <;> first | rfl | (exfalso; omega) | (exfalso; simp_all; done)))) trivial (by exact picks_nil)
  · skip
    refine tr_seq ?_
    -- region 4
    refine tr_env (es_cons (t := 1) (OT.tmp rfl) (es_cons (t := 4) (OT.tmp rfl) es_nil)) ?_
    refine tr_region ?_
    refine op_pure (pu_eql (OT.tmp rfl) OT.const) rfl rfl ?_
    refine op_pure (pu_assign (OT.tmp rfl)) rfl rfl ?_
    refine tr_nil ?_
    refine then_normal ?_
    refine tr_cond (OT.tmp rfl) (fun c7 => ?_) (fun c7 => ?_)
    · skip
      refine tr_seq ?_
      -- region 5
      refine tr_env (es_cons (t := 1) (OT.tmp rfl) es_nil) ?_
      refine tr_region ?_
      refine op_pure (pu_faddr (OT.tmp rfl) (show fieldOk Tryd.prog 23 1 1 false 1 = true from by decide +kernel)) rfl rfl ?_
      refine op_pure (pu_load_blk (OT.tmp rfl) (by exact mem_at 0 rfl) lv1 (show tyOk Tryd.prog 3 false 1 = true from by decide +kernel)) rfl rfl ?_
      refine op_pure (pu_neq (OT.tmp rfl) OT.const) rfl rfl ?_
      refine op_pure (pu_move (OT.tmp rfl)) rfl rfl ?_
      refine op_gu rfl rfl rfl (OT.gu_mk (OT.tmp rfl)) (fun hg => by (have hg1 := hg.2; (try simp only [decide_eq_true_eq, decide_eq_false_iff_not] at hg1); exact pu_faddr (by exact OT.tmp rfl) (show fieldOk Tryd.prog 23 1 1 false 1 = true from by decide +kernel))) rfl ?_
      refine op_gu rfl rfl rfl (OT.gu_mk (OT.tmp rfl)) (fun hg => by (have hg1 := hg.2; (try simp only [decide_eq_true_eq, decide_eq_false_iff_not] at hg1); exact pu_load_blk (by exact OT.gu (OT.tmp rfl) hg) (by exact mem_at 0 rfl) lv1 (show tyOk Tryd.prog 3 false 1 = true from by decide +kernel))) rfl ?_
      refine op_gu rfl rfl rfl (OT.gu_mk (OT.tmp rfl)) (fun hg => by (have hg1 := hg.2; (try simp only [decide_eq_true_eq, decide_eq_false_iff_not] at hg1); exact pu_neq (by exact OT.gu (OT.tmp rfl) hg) OT.const)) rfl ?_
      refine op_pure (pu_pick_and (OT.tmp rfl) (by exact OT.tmp rfl)) rfl rfl ?_
      refine tr_nil ?_
      refine then_normal ?_
      refine tr_cond (OT.tmp rfl) (fun c16 => ?_) (fun c16 => ?_)
      · skip
        refine tr_seq ?_
        -- region 6
        refine tr_env es_nil ?_
        refine tr_region ?_
        refine op_pure (pu_assign OT.const) rfl rfl ?_
        refine tr_nil ?_
        refine then_normal ?_
        refine tr_ret ?_
        refine block_ret ?_
        refine then_ret ?_
        exact ret_one .ret (.inl rfl) rfl () (OT.val (OT.tmp rfl) (congrArg (Value.int _) (by (try simp only [Bool.and_eq_true, Bool.and_eq_false_iff, Bool.or_eq_true, Bool.or_eq_false_iff, Bool.not_eq_true', Bool.not_eq_false', decide_eq_true_eq, decide_eq_false_iff_not] at *); unfold checkV; (repeat' split) <;> first | rfl | (exfalso; omega) | (exfalso; simp_all; done)))) trivial (by exact picks_nil)
      · skip
        refine tr_skip ?_
        refine block_normal ?_
        refine then_normal ?_
        refine tr_seq ?_
        -- region 12
        refine tr_env es_nil ?_
        refine tr_region ?_
        refine op_pure (pu_assign OT.const) rfl rfl ?_
        refine tr_nil ?_
        refine then_normal ?_
        refine tr_ret ?_
        exact ret_one .ret (.inl rfl) rfl () (OT.val (OT.tmp rfl) (congrArg (Value.int _) (by (try simp only [Bool.and_eq_true, Bool.and_eq_false_iff, Bool.or_eq_true, Bool.or_eq_false_iff, Bool.not_eq_true', Bool.not_eq_false', decide_eq_true_eq, decide_eq_false_iff_not] at *); unfold checkV; (repeat' split) <;> first | rfl | (exfalso; omega) | (exfalso; simp_all; done)))) trivial (by exact picks_nil)
    · skip
      refine tr_seq ?_
      -- region 7
      refine tr_env (es_cons (t := 1) (OT.tmp rfl) (es_cons (t := 4) (OT.tmp rfl) es_nil)) ?_
      refine tr_region ?_
      refine op_pure (pu_eql (OT.tmp rfl) OT.const) rfl rfl ?_
      refine op_pure (pu_assign (OT.tmp rfl)) rfl rfl ?_
      refine tr_nil ?_
      refine then_normal ?_
      refine tr_cond (OT.tmp rfl) (fun c17 => ?_) (fun c17 => ?_)
      · skip
        refine tr_seq ?_
        refine tr_seq ?_
        -- region 8
        refine tr_env (es_cons (t := 1) (OT.tmp rfl) es_nil) ?_
        refine tr_region ?_
        refine op_pure (pu_faddr (OT.tmp rfl) (show fieldOk Tryd.prog 23 2 2 false 1 = true from by decide +kernel)) rfl rfl ?_
        refine op_pure (pu_load_blk (OT.tmp rfl) (by exact mem_at 0 rfl) lv2 (show tyOk Tryd.prog 9 false 1 = true from by decide +kernel)) rfl rfl ?_
        refine op_pure (pu_len_bs Tryd.underlying9 (OT.tmp rfl)) rfl rfl ?_
        refine op_pure (pu_gtr (OT.tmp rfl) OT.const) rfl rfl ?_
        refine tr_nil ?_
        refine then_normal ?_
        refine tr_cond (OT.tmp rfl) (fun c22 => ?_) (fun c22 => ?_)
        · skip
          refine tr_seq ?_
          -- region 9
          refine tr_env es_nil ?_
          refine tr_region ?_
          refine op_pure (pu_assign OT.const) rfl rfl ?_
          refine tr_nil ?_
          refine then_normal ?_
          refine tr_ret ?_
          refine then_ret ?_
          refine block_ret ?_
          refine then_ret ?_
          exact ret_one .ret (.inl rfl) rfl () (OT.val (OT.tmp rfl) (congrArg (Value.int _) (by (try simp only [Bool.and_eq_true, Bool.and_eq_false_iff, Bool.or_eq_true, Bool.or_eq_false_iff, Bool.not_eq_true', Bool.not_eq_false', decide_eq_true_eq, decide_eq_false_iff_not] at *); unfold checkV; (repeat' split) <;> first | rfl | (exfalso; omega) | (exfalso; simp_all; done)))) trivial (by exact picks_nil)
        · skip
          refine tr_skip ?_
          refine then_normal ?_
          refine tr_seq ?_
          -- region 10
          refine tr_env (es_cons (t := 1) (OT.tmp rfl) es_nil) ?_
          refine tr_region ?_
          refine op_pure (pu_faddr (OT.tmp rfl) (show fieldOk Tryd.prog 23 2 2 false 1 = true from by decide +kernel)) rfl rfl ?_
          refine op_pure (pu_load_blk (OT.tmp rfl) (by exact mem_at 0 rfl) lv2 (show tyOk Tryd.prog 9 false 1 = true from by decide +kernel)) rfl rfl ?_
          refine op_acts (acts_callM (Valid_ct hV _ (by omega)) (mk_in hK hn) (show enters Tryd.prog 40 = true from by decide +kernel) (OTs.cons (OT.tmp rfl) OTs.nil) (List.Perm.refl _)) (List.Perm.refl _) rfl rfl (fun _ _ => ?_)
          refine op_pure (pu_not (OT.tmp rfl)) rfl rfl ?_
          refine tr_nil ?_
          refine then_normal ?_
          refine tr_cond (OT.tmp rfl) (fun c26 => ?_) (fun c26 => ?_)
          · skip
            refine tr_seq ?_
            -- region 11
            refine tr_env es_nil ?_
            refine tr_region ?_
            refine op_pure (pu_assign OT.const) rfl rfl ?_
            refine tr_nil ?_
            refine then_normal ?_
            refine tr_ret ?_
            refine block_ret ?_
            refine then_ret ?_
            exact ret_one .ret (.inl rfl) rfl () (OT.val (OT.tmp rfl) (congrArg (Value.int _) (by (try simp only [Bool.and_eq_true, Bool.and_eq_false_iff, Bool.or_eq_true, Bool.or_eq_false_iff, Bool.not_eq_true', Bool.not_eq_false', decide_eq_true_eq, decide_eq_false_iff_not] at *); unfold checkV; (repeat' split) <;> first | rfl | (exfalso; omega) | (exfalso; simp_all; done)))) trivial (by exact picks_nil)
          · skip
            refine tr_skip ?_
            refine block_normal ?_
            refine then_normal ?_
            refine tr_seq ?_
            -- region 12
            refine tr_env es_nil ?_
            refine tr_region ?_
            refine op_pure (pu_assign OT.const) rfl rfl ?_
            refine tr_nil ?_
            refine then_normal ?_
            refine tr_ret ?_
            exact ret_one .ret (.inl rfl) rfl () (OT.val (OT.tmp rfl) (congrArg (Value.int _) (by (try simp only [Bool.and_eq_true, Bool.and_eq_false_iff, Bool.or_eq_true, Bool.or_eq_false_iff, Bool.not_eq_true', Bool.not_eq_false', decide_eq_true_eq, decide_eq_false_iff_not] at *); unfold checkV; (repeat' split) <;> first | rfl | (exfalso; omega) | (exfalso; simp_all; done)))) trivial (by exact picks_nil)
      · skip
        refine tr_seq ?_
        -- region 2
        refine tr_env es_nil ?_
        refine tr_region ?_
        refine op_pure (pu_assign OT.const) rfl rfl ?_
        refine tr_nil ?_
        refine then_normal ?_
        refine tr_ret ?_
        refine block_ret ?_
        refine then_ret ?_
        exact ret_one .ret (.inl rfl) rfl () (OT.val (OT.tmp rfl) (congrArg (Value.int _) (by (try simp only [Bool.and_eq_true, Bool.and_eq_false_iff, Bool.or_eq_true, Bool.or_eq_false_iff, Bool.not_eq_true', Bool.not_eq_false', decide_eq_true_eq, decide_eq_false_iff_not] at *); unfold checkV; (repeat' split) <;> first | rfl | (exfalso; omega) | (exfalso; simp_all; done)))) trivial (by exact picks_nil)
end Go.Proofs.YtdlendioamiagaaDoor
/- Walks through the Go functions val.Encode, as typed contracts. -/
namespace Go.Proofs.YtdlendioamiagaaDoor
open Go Go.Gw Go.Vl
set_option linter.unusedVariables false
set_option linter.unusedSimpArgs false
theorem nil_slt {α : Type} {d : Kd α} {H : FH} {u : Value} (h : (IsV nilS).p H u) : (SlT d []).p H u := by rw [show u = nilS from h]; exact nil_sl
/-- What Encode gives. -/
def encR (v : Vl) : List UInt8 := if checkV v = 0 then encV v else []
theorem encR_bad {v : Vl} (h : checkV v ≠ 0) : encR v = [] := if_neg h
theorem encR_ok {v : Vl} (h : checkV v = 0) : encR v = encV v := if_pos h
theorem lowb (n : Nat) : bitsV .or .u8 (IntKind.u8.wrap (n : Int)) 128 = ((UInt8.ofNat (n % 128 + 128)).toNat : Int) := by
  rw [low_or, UInt8.toNat_ofNat']
  omega

set_option maxRecDepth 20000 in
/-- rhizome/val.Encode -/
theorem Encode_fn {K0 : FH} {n0 : Nat} (v : Vl) (hV : VarsV K0) (hl : v.2.2.length ≤ 140737488351232) (hi0 : -9223372036854775808 ≤ v.2.1) (hi1 : v.2.1 ≤ 9223372036854775807) : CtM K0 n0 Tryd.prog 13 [kVl.T v] ([]) Unit (fun _ => TupT [SlT (kint .u8) (nums (encR v)), I64 (checkV v)]) (fun _ => []) (fun _ => True) := by
  refine fn_introM Tryd.func13 rfl rfl ?_
  intro H w hK hn
  refine tr_seq ?_
  -- region 0
  refine tr_env (es_cons (t := 0) (OT.tmp rfl) es_nil) ?_
  refine tr_region ?_
  refine op_acts (acts_box (d := kVl) (OT.tmp rfl)) (List.Perm.refl _) rfl rfl (fun g0_0 _ => ?_)
  refine op_pure (pu_assign OT.const) rfl rfl ?_
  refine op_pure (pu_assign OT.const) rfl rfl ?_
  refine tr_nil ?_
  refine then_normal ?_
  refine tr_seq ?_
  refine tr_seq ?_
  -- region 1
  refine tr_env (es_cons (t := 1) (OT.tmp rfl) es_nil) ?_
  refine tr_region ?_
  refine op_pure (pu_load_var (OT.tmp rfl) (by exact mem_at 0 rfl) (show tyOk Tryd.prog 23 true 3 = true from by decide +kernel)) rfl rfl ?_
  refine op_acts (acts_callM (Check_fn v hV hl) (mk_in hK hn) (show enters Tryd.prog 15 = true from by decide +kernel) (OTs.cons (OT.tmp rfl) OTs.nil) (List.Perm.refl _)) (List.Perm.refl _) rfl rfl (fun _ _ => ?_)
  refine op_pure (pu_assign (OT.tmp rfl)) rfl rfl ?_
  refine tr_nil ?_
  refine then_normal ?_
  refine tr_seq ?_
  -- region 2
  refine tr_env (es_cons (t := 1) (OT.tmp rfl) (es_cons (t := 4) (OT.tmp rfl) es_nil)) ?_
  refine tr_region ?_
  refine op_pure (pu_move (OT.tmp rfl)) rfl rfl ?_
  refine op_pure (pu_neq (OT.tmp rfl) OT.const) rfl rfl ?_
  refine tr_nil ?_
  refine then_normal ?_
  refine tr_cond (OT.tmp rfl) (fun c10 => ?_) (fun c10 => ?_)
  · skip
    have hr0 := encR_bad (v := v) (by simpa using c10)
    refine tr_seq ?_
    -- region 3
    refine tr_env (es_cons (t := 4) (OT.tmp rfl) es_nil) ?_
    refine tr_region ?_
    refine op_pure (pu_move (OT.tmp rfl)) rfl rfl ?_
    refine op_pure (pu_assign OT.const) rfl rfl ?_
    refine op_pure (pu_assign (OT.tmp rfl)) rfl rfl ?_
    refine tr_nil ?_
    refine then_normal ?_
    refine tr_ret ?_
    refine then_ret ?_
    exact ret_two .ret (.inl rfl) rfl () (OT.conv (OT.tmp rfl) (fun H u h => by rw [hr0]; exact nil_slt h)) (OT.tmp rfl) (fun _ _ h => h) trivial (by exact picks_nil)
  · skip
    have hc0 : checkV v = 0 := by simpa using c10
    have hr1 := encR_ok hc0
    have hcase := check_ok hc0
    refine tr_skip ?_
    refine then_normal ?_
    refine tr_seq ?_
    -- region 4
    refine tr_env (es_cons (t := 1) (OT.tmp rfl) es_nil) ?_
    refine tr_region ?_
    refine op_pure (pu_faddr (OT.tmp rfl) (show fieldOk Tryd.prog 23 0 0 false 1 = true from by decide +kernel)) rfl rfl ?_
    refine op_pure (pu_load_blk (OT.tmp rfl) (by exact mem_at 0 rfl) lv0 (show tyOk Tryd.prog 3 false 1 = true from by decide +kernel)) rfl rfl ?_
    refine op_pure (pu_convert (OT.tmp rfl) Tryd.underlying3 Tryd.underlying5) rfl rfl ?_
    refine op_acts (acts_lit_own (d := (kint .u8)) (v0 := 0) (show slTy Tryd.prog 26 5 1 1 = true from by decide +kernel) (show tyOk Tryd.prog 5 false 1 = true from by decide +kernel) z5 (show 1 * 1 ≤ 16777216 from by decide) (by decide) (fills_arr rfl rfl (by decide) (OT.tmp rfl) fills_nil)) (List.Perm.refl _) rfl rfl (fun v4_3 _ => ?_)
    refine op_pure (pu_assign (OT.tmp rfl)) rfl rfl ?_
    refine tr_nil ?_
    refine then_normal ?_
    refine tr_seq ?_
    refine tr_seq ?_
    -- region 5
    refine tr_env (es_cons (t := 1) (OT.tmp rfl) (es_cons (t := 5) (OT.tmp rfl) es_nil)) ?_
    refine tr_region ?_
    refine op_pure (pu_faddr (OT.tmp rfl) (show fieldOk Tryd.prog 23 0 0 false 1 = true from by decide +kernel)) rfl rfl ?_
    refine op_pure (pu_load_blk (OT.tmp rfl) (by exact mem_at 1 rfl) lv0 (show tyOk Tryd.prog 3 false 1 = true from by decide +kernel)) rfl rfl ?_
    refine tr_nil ?_
    refine then_normal ?_
    refine tr_block ?_
    refine tr_seq ?_
    -- region 6
    refine tr_env (es_cons (t := 1) (OT.tmp rfl) (es_cons (t := 5) (OT.tmp rfl) (es_cons (t := 17) (OT.tmp rfl) es_nil))) ?_
    refine tr_region ?_
    refine op_pure (pu_eql (OT.tmp rfl) OT.const) rfl rfl ?_
    refine op_pure (pu_assign (OT.tmp rfl)) rfl rfl ?_
    refine tr_nil ?_
    refine then_normal ?_
    refine tr_cond (OT.tmp rfl) (fun c18 => ?_) (fun c18 => ?_)
    · skip
      have hk : v.1 = 3 := of_decide_eq_true c18
      have hi : v.2.1 = 0 ∨ v.2.1 = 1 := by omega
      have hev : encV v = [3, UInt8.ofNat v.2.1.toNat] := if_pos hk
      refine tr_seq ?_
      -- region 7
      refine tr_env (es_cons (t := 1) (OT.tmp rfl) (es_cons (t := 5) (OT.tmp rfl) es_nil)) ?_
      refine tr_region ?_
      refine op_pure (pu_move (OT.tmp rfl)) rfl rfl ?_
      refine op_pure (pu_faddr (OT.tmp rfl) (show fieldOk Tryd.prog 23 1 1 false 1 = true from by decide +kernel)) rfl rfl ?_
      refine op_pure (pu_load_blk (OT.tmp rfl) (by exact mem_at 1 rfl) lv1 (show tyOk Tryd.prog 3 false 1 = true from by decide +kernel)) rfl rfl ?_
      refine op_pure (pu_convert (OT.tmp rfl) Tryd.underlying3 Tryd.underlying5) rfl rfl ?_
      refine op_acts (acts_lit (d := (kint .u8)) (v0 := 0) (show slTy Tryd.prog 26 5 1 1 = true from by decide +kernel) (show tyOk Tryd.prog 5 false 1 = true from by decide +kernel) z5 (show 1 * 1 ≤ 16777216 from by decide) (by decide) (fills_arr rfl rfl (by decide) (OT.tmp rfl) fills_nil)) (List.Perm.refl _) rfl rfl (fun _ _ => ?_)
      refine op_acts (acts_append (OT.tmp rfl) (by exact perm_at 0 rfl) (OT.tmp rfl) (show slTy Tryd.prog 26 5 1 1 = true from by decide +kernel) (by (simp; done)) (by (simp [maxLen]; done))) (by exact perm_at 0 rfl) rfl rfl (fun v7_5 _ => ?_)
      refine op_pure (pu_assign (OT.tmp rfl)) rfl rfl ?_
      refine op_pure (pu_assign OT.const) rfl rfl ?_
      refine tr_nil ?_
      refine tr_freeze (by exact perm_at 0 rfl) 2 (OT.tmp rfl) ?_
      refine then_normal ?_
      refine tr_ret ?_
      refine block_ret ?_
      refine then_ret ?_
      exact ret_two .ret (.inl rfl) rfl () (OT.eq (OT.tmp rfl) (congrArg (SlT (kint .u8)) (by rw [hr1, hev, hk]; rcases hi with h | h <;> rw [h] <;> rfl))) (OT.val (OT.tmp rfl) (congrArg (Value.int _) (hc0.symm))) (fun _ _ h => h) trivial (by exact picks_nil)
    · skip
      refine tr_seq ?_
      -- region 8
      refine tr_env (es_cons (t := 1) (OT.tmp rfl) (es_cons (t := 5) (OT.tmp rfl) (es_cons (t := 17) (OT.tmp rfl) es_nil))) ?_
      refine tr_region ?_
      refine op_pure (pu_eql (OT.tmp rfl) OT.const) rfl rfl ?_
      refine op_pure (pu_assign (OT.tmp rfl)) rfl rfl ?_
      refine tr_nil ?_
      refine then_normal ?_
      refine tr_cond (OT.tmp rfl) (fun c26 => ?_) (fun c26 => ?_)
      · skip
        have hk : v.1 = 2 := of_decide_eq_true c26
        have hlt : v.2.2.length ≤ 64 := by omega
        have hev : encV v = 2 :: UInt8.ofNat v.2.2.length :: v.2.2 := by unfold encV; rw [if_neg (by omega), if_pos hk]
        refine tr_seq ?_
        -- region 9
        refine tr_env (es_cons (t := 1) (OT.tmp rfl) (es_cons (t := 5) (OT.tmp rfl) es_nil)) ?_
        skip
        refine tr_region ?_
        refine op_pure (pu_move (OT.tmp rfl)) rfl rfl ?_
        refine op_pure (pu_faddr (OT.tmp rfl) (show fieldOk Tryd.prog 23 2 2 false 1 = true from by decide +kernel)) rfl rfl ?_
        refine op_pure (pu_load_blk (OT.tmp rfl) (by exact mem_at 1 rfl) lv2 (show tyOk Tryd.prog 9 false 1 = true from by decide +kernel)) rfl rfl ?_
        refine op_pure (pu_len_bs Tryd.underlying9 (OT.tmp rfl)) rfl rfl ?_
        refine op_pure (pu_convert (OT.tmp rfl) Tryd.underlying3 Tryd.underlying5) rfl rfl ?_
        refine op_acts (acts_lit (d := (kint .u8)) (v0 := 0) (show slTy Tryd.prog 26 5 1 1 = true from by decide +kernel) (show tyOk Tryd.prog 5 false 1 = true from by decide +kernel) z5 (show 1 * 1 ≤ 16777216 from by decide) (by decide) (fills_arr rfl rfl (by decide) (OT.tmp rfl) fills_nil)) (List.Perm.refl _) rfl rfl (fun _ _ => ?_)
        refine op_pure (pu_faddr (OT.tmp rfl) (show fieldOk Tryd.prog 23 2 2 false 1 = true from by decide +kernel)) rfl rfl ?_
        refine op_pure (pu_load_blk (OT.tmp rfl) (by exact mem_at 1 rfl) lv2 (show tyOk Tryd.prog 9 false 1 = true from by decide +kernel)) rfl rfl ?_
        refine op_acts (acts_bs_bytes (OT.tmp rfl) Tryd.underlying9 Tryd.underlying26 Tryd.underlying5 (by (simp [maxLen]; omega))) (List.Perm.refl _) rfl rfl (fun _ _ => ?_)
        refine tr_freeze (by exact perm_at 0 rfl) 28 (OT.tmp rfl) ?_
        refine op_acts (acts_lit (d := (ksl (kint .u8))) (v0 := []) (show slTy Tryd.prog 88 26 1 24 = true from by decide +kernel) (show tyOk Tryd.prog 26 false 1 = true from by decide +kernel) zBs (show 3 * 1 ≤ 16777216 from by decide) (by decide) (fills_arr rfl rfl (by decide) (OT.tmp rfl) (fills_arr rfl rfl (by decide) (OT.tmp rfl) (fills_arr rfl rfl (by decide) (OT.tmp rfl) fills_nil)))) (List.Perm.refl _) rfl rfl (fun _ _ => ?_)
        refine op_acts (acts_call (ConcatB_fn _ (by simp) (by simp; omega)) (show enters Tryd.prog 32 = true from by decide +kernel) (OTs.cons (OT.tmp rfl) OTs.nil) (List.Perm.refl _)) (List.Perm.refl _) rfl rfl (fun v9_10 _ => ?_)
        refine op_pure (pu_assign (OT.tmp rfl)) rfl rfl ?_
        refine op_pure (pu_assign OT.const) rfl rfl ?_
        refine tr_nil ?_
        refine tr_freeze (by exact perm_at 0 rfl) 2 (OT.tmp rfl) ?_
        refine then_normal ?_
        refine tr_ret ?_
        refine block_ret ?_
        refine then_ret ?_
        exact ret_two .ret (.inl rfl) rfl () (OT.eq (OT.tmp rfl) (congrArg (SlT (kint .u8)) (by rw [hr1, hev]; exact (flat3 [IntKind.u8.wrap v.1] [IntKind.u8.wrap (v.2.2.length : Int)] (nums v.2.2)).trans (by rw [wrapk (by omega), hk, show IntKind.u8.wrap 2 = 2 from by decide]; rfl)))) (OT.val (OT.tmp rfl) (congrArg (Value.int _) (hc0.symm))) (fun _ _ h => h) trivial (by exact picks_nil)
      · skip
        have hk : v.1 = 1 := by have h3 := of_decide_eq_false c18; have h2 := of_decide_eq_false c26; omega
        have hev : encV v = 1 :: varint (zig v.2.1) := by unfold encV; rw [if_neg (by omega), if_neg (by omega)]
        refine tr_skip ?_
        refine block_normal ?_
        refine then_normal ?_
        refine tr_seq ?_
        -- region 10
        refine tr_env (es_cons (t := 1) (OT.tmp rfl) (es_cons (t := 5) (OT.tmp rfl) es_nil)) ?_
        refine tr_region ?_
        refine op_pure (pu_faddr (OT.tmp rfl) (show fieldOk Tryd.prog 23 1 1 false 1 = true from by decide +kernel)) rfl rfl ?_
        refine op_pure (pu_load_blk (OT.tmp rfl) (by exact mem_at 1 rfl) lv1 (show tyOk Tryd.prog 3 false 1 = true from by decide +kernel)) rfl rfl ?_
        refine op_pure (pu_convert (OT.tmp rfl) Tryd.underlying3 Tryd.underlying64) rfl rfl ?_
        refine op_pure (pu_shl (OT.tmp rfl) OT.const (by omega)) rfl rfl ?_
        refine op_pure (pu_faddr (OT.tmp rfl) (show fieldOk Tryd.prog 23 1 1 false 1 = true from by decide +kernel)) rfl rfl ?_
        refine op_pure (pu_load_blk (OT.tmp rfl) (by exact mem_at 1 rfl) lv1 (show tyOk Tryd.prog 3 false 1 = true from by decide +kernel)) rfl rfl ?_
        refine op_pure (pu_shr (OT.tmp rfl) OT.const (by omega)) rfl rfl ?_
        refine op_pure (pu_convert (OT.tmp rfl) Tryd.underlying3 Tryd.underlying64) rfl rfl ?_
        refine op_pure (pu_bits (OT.tmp rfl) (OT.tmp rfl) (by simp)) rfl rfl ?_
        refine op_pure (pu_assign (OT.tmp rfl)) rfl rfl ?_
        refine tr_nil ?_
        refine then_normal ?_
        refine tr_seq ?_
        refine tr_block ?_
        have e0 : [IntKind.u8.wrap v.1] = nums [1] := by rw [hk]; decide
        refine tr_loopK (σ := Nat × Value × List UInt8) es_nil (fun s => [(6, IntT .u64 (s.1 : Int)), (5, IsV s.2.1)]) (fun s => [OwnI 5 (kint .u8) s.2.1 (nums s.2.2), BlkI g0_0 23 kVl v]) (fun s => s.1 < 18446744073709551616 ∧ s.2.2 ++ varint s.1 = encV v ∧ s.2.2.length ≤ 20) (fun s => s.1) (zig v.2.1, v4_3, [1]) ⟨zig_lt hi0 hi1, by rw [hev]; rfl, by show (1 : Nat) ≤ 20; omega⟩ ?_ (own_picks (by rw [← e0]; exact picks_cons 0 rfl (picks_cons 0 rfl picks_nil))) ?_
        · exact (es_cons (t := 6) (OT.val (OT.tmp rfl) (congrArg (Value.int _) (zig_eq hi0 hi1).1)) (es_cons (t := 5) (OT.tmp rfl) es_nil))
        · rintro ⟨n, u, out⟩ ⟨hn64, hout, hol⟩
          dsimp only at hn64 hout hol ⊢
          refine tr_seq ?_
          refine tr_seq ?_
          -- region 11
          refine tr_env (es_cons (t := 5) (OT.tmp rfl) (es_cons (t := 6) (OT.tmp rfl) es_nil)) ?_
          refine tr_region ?_
          refine op_pure (pu_move (OT.tmp rfl)) rfl rfl ?_
          refine op_pure (pu_geq (OT.tmp rfl) OT.const) rfl rfl ?_
          refine tr_nil ?_
          refine then_normal ?_
          refine tr_cond (OT.tmp rfl) (fun c49 => ?_) (fun c49 => ?_)
          · skip
            refine tr_skip ?_
            refine then_normal ?_
            refine tr_seq ?_
            refine tr_block ?_
            -- region 13
            refine tr_env (es_cons (t := 5) (OT.tmp rfl) (es_cons (t := 6) (OT.tmp rfl) es_nil)) ?_
            refine tr_region ?_
            refine op_pure (pu_move (OT.tmp rfl)) rfl rfl ?_
            refine op_pure (pu_move (OT.tmp rfl)) rfl rfl ?_
            refine op_pure (pu_convert (OT.tmp rfl) Tryd.underlying64 Tryd.underlying5) rfl rfl ?_
            refine op_pure (pu_bits (OT.tmp rfl) OT.const (by simp)) rfl rfl ?_
            refine op_acts (acts_lit (d := (kint .u8)) (v0 := 0) (show slTy Tryd.prog 26 5 1 1 = true from by decide +kernel) (show tyOk Tryd.prog 5 false 1 = true from by decide +kernel) z5 (show 1 * 1 ≤ 16777216 from by decide) (by decide) (fills_arr rfl rfl (by decide) (OT.tmp rfl) fills_nil)) (List.Perm.refl _) rfl rfl (fun _ _ => ?_)
            refine op_acts (acts_append (OT.tmp rfl) (by exact perm_at 0 rfl) (OT.tmp rfl) (show slTy Tryd.prog 26 5 1 1 = true from by decide +kernel) (by (simp; omega)) (by (simp [maxLen]; omega))) (by exact perm_at 0 rfl) rfl rfl (fun v13_5 _ => ?_)
            refine op_pure (pu_assign (OT.tmp rfl)) rfl rfl ?_
            refine tr_nil ?_
            have hn8 : ¬ n < 128 := by simp at c49; omega
            refine block_normal ?_
            refine then_normal ?_
            -- region 12
            refine tr_env (es_cons (t := 5) (OT.tmp rfl) (es_cons (t := 6) (OT.tmp rfl) es_nil)) ?_
            refine tr_region ?_
            refine op_pure (pu_move (OT.tmp rfl)) rfl rfl ?_
            refine op_pure (pu_shr (OT.tmp rfl) OT.const (by omega)) rfl rfl ?_
            refine op_pure (pu_assign (OT.tmp rfl)) rfl rfl ?_
            refine tr_nil ?_
            refine then_normal ?_
            exact tr_again (n / 128, v13_5, out ++ [UInt8.ofNat (n % 128 + 128)]) ⟨by show n / 128 < _; omega, by show (out ++ _) ++ varint (n / 128) = _; rw [← hout, varint_big hn8, List.append_assoc]; rfl, by have h20 := congrArg List.length hout; have h21 := (varint_ten (zig_lt hi0 hi1)).2; have h22 := (varint_ten (n := n / 128) (by omega)).1; rw [varint_big hn8, hev] at h20; simp at h20; show (out ++ [_]).length ≤ 20; simp; omega⟩ (by show n / 128 < n; omega) (es_append (es_cons (t := 6) (OT.val (OT.tmp rfl) (congrArg (Value.int _) (shr7 n))) (es_cons (t := 5) (OT.tmp rfl) es_nil)) es_nil) (own_picks (by rw [nums_app, nums_one, ← lowb]; exact (by repeat (first | exact picks_nil | refine picks_cons 0 rfl ?_ | refine picks_cons 1 rfl ?_ | refine picks_cons 2 rfl ?_ | refine picks_cons 3 rfl ?_ | refine picks_cons 4 rfl ?_ | refine picks_cons 5 rfl ?_ | refine picks_cons 6 rfl ?_))))
          · skip
            refine tr_exit ?_
            refine then_exit ?_
            refine then_exit ?_
            refine block_hit ?_
            refine then_normal ?_
            refine tr_seq ?_
            -- region 14
            refine tr_env (es_cons (t := 5) (OT.tmp rfl) (es_cons (t := 6) (OT.tmp rfl) es_nil)) ?_
            have hn8 : n < 128 := by simp at c49; omega
            refine tr_region ?_
            refine op_pure (pu_move (OT.tmp rfl)) rfl rfl ?_
            refine op_pure (pu_move (OT.tmp rfl)) rfl rfl ?_
            refine op_pure (pu_convert (OT.tmp rfl) Tryd.underlying64 Tryd.underlying5) rfl rfl ?_
            refine op_acts (acts_lit (d := (kint .u8)) (v0 := 0) (show slTy Tryd.prog 26 5 1 1 = true from by decide +kernel) (show tyOk Tryd.prog 5 false 1 = true from by decide +kernel) z5 (show 1 * 1 ≤ 16777216 from by decide) (by decide) (fills_arr rfl rfl (by decide) (OT.tmp rfl) fills_nil)) (List.Perm.refl _) rfl rfl (fun _ _ => ?_)
            refine op_acts (acts_append (OT.tmp rfl) (by exact perm_at 0 rfl) (OT.tmp rfl) (show slTy Tryd.prog 26 5 1 1 = true from by decide +kernel) (by (simp; omega)) (by (simp [maxLen]; omega))) (by exact perm_at 0 rfl) rfl rfl (fun v14_4 _ => ?_)
            refine op_pure (pu_assign (OT.tmp rfl)) rfl rfl ?_
            refine op_pure (pu_assign OT.const) rfl rfl ?_
            refine tr_nil ?_
            refine tr_freeze (by exact perm_at 0 rfl) 2 (OT.tmp rfl) ?_
            refine then_normal ?_
            refine tr_ret ?_
            exact ret_two .ret (.inl rfl) rfl () (OT.eq (OT.tmp rfl) (congrArg (SlT (kint .u8)) (by rw [hr1, ← hout, varint_small hn8, nums_app]; show _ ++ [_] = _ ++ [_]; rw [wrapk (by omega)]))) (OT.val (OT.tmp rfl) (congrArg (Value.int _) (hc0.symm))) (fun _ _ h => h) trivial (by exact picks_nil)
end Go.Proofs.YtdlendioamiagaaDoor
/- Values of properties, plain: hexadecimal digits. -/
namespace Go.Vl
open Go Go.Gw
set_option linter.unusedVariables false
set_option linter.unusedSimpArgs false
def digs : List UInt8 := [48, 49, 50, 51, 52, 53, 54, 55, 56, 57, 97, 98, 99, 100, 101, 102, 103, 104, 105, 106, 107, 108, 109, 110, 111, 112, 113, 114, 115, 116, 117, 118, 119, 120, 121, 122]
/-- The digit of a number below 36. -/
def dig (n : Nat) : UInt8 := digs.getD n 0
set_option maxRecDepth 20000 in
theorem dig_tab : ∀ n : Fin 36, at' (nums digs) ((n.val : Nat) : Int) = ((dig n.val).toNat : Int) := by decide
theorem dig_ix {i : Int} {n : Nat} (hi : i = n) (h : n < 36) : at' (nums digs) i = ((dig n).toNat : Int) := by subst hi; exact dig_tab ⟨n, h⟩
theorem and15 {n : Nat} (h : n < 18446744073709551616) : bitsV .and .u64 (n : Int) 15 = ((n % 16 : Nat) : Int) := by
  have := and64 (x := n) (y := 15) h (by decide)
  rw [nat_mask4] at this
  exact this
theorem shr4 (n : Nat) : (n : Int).fdiv (2 ^ min (Int.toNat 4) IntKind.u64.bits) = ((n / 16 : Nat) : Int) := by
  rw [show (2 : Int) ^ min (Int.toNat 4) IntKind.u64.bits = 16 from rfl, Int.fdiv_eq_ediv_of_nonneg _ (by decide)]
  omega
/-- A number in hexadecimal. -/
def hexL (n : Nat) : List UInt8 := if n < 16 then [dig n] else hexL (n / 16) ++ [dig (n % 16)]
termination_by n
decreasing_by omega
theorem hex_one {n : Nat} (h : n < 16) : hexL n = [dig n] := by rw [hexL, if_pos h]
theorem hex_two {n : Nat} (h0 : 16 ≤ n) (h : n < 256) : hexL n = [dig (n / 16), dig (n % 16)] := by
  rw [hexL, if_neg (by omega), hex_one (by omega)]; rfl
/-- The array of 65 bytes while n is written: b: one digit is there. -/
def bufH (n : Nat) (b : Bool) : List Int := if b then (List.replicate 65 (0 : Int)).set 64 ((dig (n % 16)).toNat : Int) else List.replicate 65 0
def leftH (n : Nat) (b : Bool) : Nat := if b then n / 16 else n
def atH (b : Bool) : Int := if b then 64 else 65
theorem buf_end (n : Nat) (b : Bool) (h : n < 256) (hb : b = true ↔ 16 ≤ n) : ((bufH n b).set ((atH b - 1).toNat) ((dig (leftH n b)).toNat : Int)).drop ((atH b - 1).toNat) = nums (hexL n) := by
  cases b with
  | false =>
    rw [hex_one (by have : ¬ 16 ≤ n := fun e => by have := hb.2 e; cases this
                    omega)]
    rfl
  | true =>
    rw [hex_two (hb.1 rfl) h]
    rfl
end Go.Vl
