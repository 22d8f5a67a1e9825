/- Walks through the Go functions rhizomelaw19.awake, rhizomelaw19.TokenChecks, rhizomelaw19.TokenWrites, rhizomelaw19.TokenReads, as typed contracts. -/
import Derived.Test.YtoaeaclcbcpheaaDoorTkE
namespace Go.Proofs.YtoaeaclcbcpheaaDoor
open Go Go.Gw Go.Tk
set_option linter.unusedVariables false
set_option linter.unusedSimpArgs false
theorem check_vals (l : List UInt8) : 97 ≤ at' (nums (checkL l)) 0 ∧ at' (nums (checkL l)) 0 ≤ 122 ∧ 97 ≤ at' (nums (checkL l)) 1 ∧ at' (nums (checkL l)) 1 ≤ 122 := by
  have h0 := nums_at (l := checkL l) (k := 0) (by rw [check_len]; omega)
  have h1 := nums_at (l := checkL l) (k := 1) (by rw [check_len]; omega)
  have l0 := check_low l _ (List.getElem_mem (l := checkL l) (n := 0) (by rw [check_len]; omega))
  have l1 := check_low l _ (List.getElem_mem (l := checkL l) (n := 1) (by rw [check_len]; omega))
  have e0 : at' (nums (checkL l)) 0 = at' (nums (checkL l)) ((0 : Nat) : Int) := rfl
  have e1 : at' (nums (checkL l)) 1 = at' (nums (checkL l)) ((1 : Nat) : Int) := rfl
  rw [e0, e1, h0, h1]
  simp [isLow] at l0 l1
  omega

set_option maxRecDepth 20000 in
/-- rhizome/rhizomelaw19.awake -/
theorem awake_fn {K0 : FH} {n0 : Nat} (hV : VarsK K0) : CtM K0 n0 Tryd.prog 8 [] ([]) Unit (fun _ => BoolT true) (fun _ => []) (fun _ => True) := by
  refine fn_introM Tryd.func8 rfl rfl ?_
  intro H w hK hn
  have hT0l : T0.1.length ≤ 1000000 := by decide
  have htl : (textL T0).length ≤ 900000 := by rw [text_len, body_T0]; decide
  have ht : T0 = ([102], 1, 12) := rfl
  refine tr_seq ?_
  -- region 0
  refine tr_env es_nil ?_
  refine tr_region ?_
  refine op_pure (pu_assign OT.const) rfl rfl ?_
  refine tr_nil ?_
  refine then_normal ?_
  refine tr_seq ?_
  -- region 1
  refine tr_env es_nil ?_
  refine tr_region ?_
  refine op_pure (pu_build (d := kTok) (v0 := zeroT) (ps := [(0, 1), (1, 1), (2, 1)]) z23 (by kernel_rfl) rfl (fills_cons rfl lt0 OT.const (fills_cons rfl lt1 OT.const (fills_cons rfl lt2 OT.const fills_nil)))) rfl rfl ?_
  rw [← ht]
  refine op_acts (acts_callM (Encode_fn _ hV (by first | assumption | omega)) (mk_in hK hn) (show enters Tryd.prog 9 = true from by decide +kernel) (OTs.cons (OT.tmp rfl) OTs.nil) (List.Perm.refl _)) (List.Perm.refl _) rfl rfl (fun _ _ => ?_)
  refine op_pure (pu_move (OT.tmp rfl)) rfl rfl ?_
  refine op_pure (pu_extract (OT.tmp rfl) rfl) rfl rfl ?_
  refine op_pure (pu_extract (OT.tmp rfl) rfl) rfl rfl ?_
  refine op_pure (pu_assign (OT.tmp rfl)) rfl rfl ?_
  refine op_pure (pu_assign (OT.tmp rfl)) rfl rfl ?_
  refine tr_nil ?_
  refine then_normal ?_
  refine tr_seq ?_
  -- region 2
  refine tr_env (es_cons (t := 1) (OT.tmp rfl) (es_cons (t := 2) (OT.tmp rfl) es_nil)) ?_
  rw [enc_T0, encE_T0]
  refine tr_region ?_
  refine op_pure (pu_move (OT.tmp rfl)) rfl rfl ?_
  refine op_acts (acts_callM (Decode_fn _ hV (by first | assumption | omega | decide | (simp; omega))) (mk_in hK hn) (show enters Tryd.prog 11 = true from by decide +kernel) (OTs.cons (OT.tmp rfl) OTs.nil) (List.Perm.refl _)) (List.Perm.refl _) rfl rfl (fun _ _ => ?_)
  refine op_pure (pu_move (OT.tmp rfl)) rfl rfl ?_
  refine op_pure (pu_extract (OT.tmp rfl) rfl) rfl rfl ?_
  refine op_pure (pu_extract (OT.tmp rfl) rfl) rfl rfl ?_
  refine op_acts (acts_alloc (z23)) (List.Perm.refl _) rfl rfl (fun g2_5 _ => ?_)
  first
  | refine op_acts (acts_store_var (OT.tmp rfl) (OT.tmp rfl) (by first | exact perm_at 0 rfl | exact perm_at 1 rfl | exact perm_at 2 rfl | exact perm_at 3 rfl | exact perm_at 4 rfl | exact perm_at 5 rfl) (show tyOk Tryd.prog 23 true 3 = true from by decide +kernel)) (by first | exact perm_at 0 rfl | exact perm_at 1 rfl | exact perm_at 2 rfl | exact perm_at 3 rfl | exact perm_at 4 rfl | exact perm_at 5 rfl) rfl rfl (fun _ _ => ?_)
  | refine op_acts (acts_store_own0 (OT.tmp rfl) (OT.tmp rfl) (by first | exact perm_at 0 rfl | exact perm_at 1 rfl | exact perm_at 2 rfl | exact perm_at 3 rfl | exact perm_at 4 rfl | exact perm_at 5 rfl) (by first | omega | assumption | (simp; omega) | (simp [maxLen]; omega) | (simp [maxLen] at *; omega) | (simp; done) | decide) (by first | omega | assumption | (simp; omega) | (simp [maxLen]; omega) | (simp [maxLen] at *; omega) | (simp; done) | decide) (show tyOk Tryd.prog 23 true 3 = true from by decide +kernel)) (by first | exact perm_at 0 rfl | exact perm_at 1 rfl | exact perm_at 2 rfl | exact perm_at 3 rfl | exact perm_at 4 rfl | exact perm_at 5 rfl) rfl rfl (fun _ _ => ?_)
  | refine op_acts (acts_store_arr (OT.tmp rfl) (OT.tmp rfl) (by first | exact perm_at 0 rfl | exact perm_at 1 rfl | exact perm_at 2 rfl | exact perm_at 3 rfl | exact perm_at 4 rfl | exact perm_at 5 rfl) (show tyOk Tryd.prog 23 true 3 = true from by decide +kernel) (by first | omega | assumption | (simp; omega) | (simp [maxLen]; omega) | (simp [maxLen] at *; omega) | (simp; done) | decide) (by first | omega | assumption | (simp; omega) | (simp [maxLen]; omega) | (simp [maxLen] at *; omega) | (simp; done) | decide)) (by first | exact perm_at 0 rfl | exact perm_at 1 rfl | exact perm_at 2 rfl | exact perm_at 3 rfl | exact perm_at 4 rfl | exact perm_at 5 rfl) rfl rfl (fun _ _ => ?_)
  refine op_pure (pu_assign (OT.tmp rfl)) rfl rfl ?_
  refine tr_nil ?_
  refine then_normal ?_
  refine tr_seq ?_
  -- region 3
  refine tr_env (es_cons (t := 1) (OT.tmp rfl) (es_cons (t := 2) (OT.tmp rfl) (es_cons (t := 3) (OT.tmp rfl) (es_cons (t := 4) (OT.tmp rfl) es_nil)))) ?_
  rw [decT_text good_T0, decE_text good_T0]
  refine tr_region ?_
  refine op_pure (pu_move (OT.tmp rfl)) rfl rfl ?_
  refine op_pure (pu_eql (OT.tmp rfl) OT.const) rfl rfl ?_
  refine op_pure (pu_move (OT.tmp rfl)) rfl rfl ?_
  refine op_gu rfl rfl rfl (OT.gu_mk (OT.tmp rfl)) (fun hg => by (have hg1 := hg.2; (try simp only [decide_eq_true_eq, decide_eq_false_iff_not] at hg1); exact pu_move (by first | exact OT.tmp rfl | exact OT.gu (OT.tmp rfl) hg | exact OT.gu (OT.tmp rfl) hg.1))) rfl ?_
  refine op_gu_acts () rfl rfl rfl (OT.gu_mk (OT.tmp rfl)) (fun hg => by (have hg1 := hg.2; (try simp only [decide_eq_true_eq, decide_eq_false_iff_not] at hg1); exact acts_call (Check_fn _ (by first | assumption | omega | decide | (simp; omega))) (show enters Tryd.prog 14 = true from by decide +kernel) (OTs.cons OT.const OTs.nil) (List.Perm.refl _))) rfl (fun _ _ => ?_)
  first
  | refine op_gu rfl rfl rfl (OT.gu_mk (OT.tmp rfl)) (fun hg => by (have hg1 := hg.2; (try simp only [decide_eq_true_eq, decide_eq_false_iff_not] at hg1); exact pu_bs_add OT.const (by first | exact OT.gu (OT.tmp rfl) hg | exact OT.gu (OT.tmp rfl) hg.1 | exact OT.tmp rfl) (by first | omega | assumption | (simp; omega) | (simp [maxLen]; omega) | (simp [maxLen] at *; omega) | (simp; done) | decide))) rfl ?_
  | refine op_gu rfl rfl rfl (OT.gu_mk (OT.tmp rfl)) (fun hg => by (have hg1 := hg.2; (try simp only [decide_eq_true_eq, decide_eq_false_iff_not] at hg1); exact pu_str_add OT.const (by first | exact OT.gu (OT.tmp rfl) hg | exact OT.gu (OT.tmp rfl) hg.1 | exact OT.tmp rfl) (by first | omega | assumption | (simp; omega) | (simp [maxLen]; omega) | (simp [maxLen] at *; omega) | (simp; done) | decide))) rfl ?_
  first
  | refine op_gu rfl rfl rfl (OT.gu_mk (OT.tmp rfl)) (fun hg => by (have hg1 := hg.2; (try simp only [decide_eq_true_eq, decide_eq_false_iff_not] at hg1); exact pu_bs_eql (by first | exact OT.gu (OT.tmp rfl) hg | exact OT.gu (OT.tmp rfl) hg.1 | exact OT.tmp rfl) (by first | exact OT.gu (OT.tmp rfl) hg | exact OT.gu (OT.tmp rfl) hg.1 | exact OT.tmp rfl))) rfl ?_
  | refine op_gu rfl rfl rfl (OT.gu_mk (OT.tmp rfl)) (fun hg => by (have hg1 := hg.2; (try simp only [decide_eq_true_eq, decide_eq_false_iff_not] at hg1); exact pu_str_eql (by first | exact OT.gu (OT.tmp rfl) hg | exact OT.gu (OT.tmp rfl) hg.1 | exact OT.tmp rfl) (by first | exact OT.gu (OT.tmp rfl) hg | exact OT.gu (OT.tmp rfl) hg.1 | exact OT.tmp rfl))) rfl ?_
  refine op_pure (pu_pick_and (OT.tmp rfl) (by first | exact OT.tmp rfl | exact OT.gu_in (OT.tmp rfl) ⟨trivial, rfl⟩)) rfl rfl ?_
  refine op_pure (pu_move (OT.tmp rfl)) rfl rfl ?_
  refine op_gu rfl rfl rfl (OT.gu_mk (OT.tmp rfl)) (fun hg => by (have hg1 := hg.2; (try simp only [decide_eq_true_eq, decide_eq_false_iff_not] at hg1); exact pu_move (by first | exact OT.tmp rfl | exact OT.gu (OT.tmp rfl) hg | exact OT.gu (OT.tmp rfl) hg.1))) rfl ?_
  refine op_gu rfl rfl rfl (OT.gu_mk (OT.tmp rfl)) (fun hg => by (have hg1 := hg.2; (try simp only [decide_eq_true_eq, decide_eq_false_iff_not] at hg1); exact pu_eql (by first | exact OT.gu (OT.tmp rfl) hg | exact OT.gu (OT.tmp rfl) hg.1 | exact OT.tmp rfl) OT.const)) rfl ?_
  refine op_pure (pu_pick_and (OT.tmp rfl) (by first | exact OT.tmp rfl | exact OT.gu_in (OT.tmp rfl) ⟨trivial, rfl⟩)) rfl rfl ?_
  refine op_pure (pu_move (OT.tmp rfl)) rfl rfl ?_
  first
  | refine op_gu rfl rfl rfl (OT.gu_mk (OT.tmp rfl)) (fun hg => by (have hg1 := hg.2; (try simp only [decide_eq_true_eq, decide_eq_false_iff_not] at hg1); exact pu_load (by first | exact OT.tmp rfl | exact OT.gu (OT.tmp rfl) hg | exact OT.gu (OT.tmp rfl) hg.1) (show tyOk Tryd.prog 23 true 3 = true from by decide +kernel))) rfl ?_
  | refine op_gu rfl rfl rfl (OT.gu_mk (OT.tmp rfl)) (fun hg => by (have hg1 := hg.2; (try simp only [decide_eq_true_eq, decide_eq_false_iff_not] at hg1); exact pu_load_var (by first | exact OT.tmp rfl | exact OT.gu (OT.tmp rfl) hg | exact OT.gu (OT.tmp rfl) hg.1) (by first | exact mem_at 0 rfl | exact mem_at 1 rfl | exact mem_at 2 rfl | exact mem_at 3 rfl | exact mem_at 4 rfl | exact mem_at 5 rfl) (show tyOk Tryd.prog 23 true 3 = true from by decide +kernel))) rfl ?_
  | refine op_gu rfl rfl rfl (OT.gu_mk (OT.tmp rfl)) (fun hg => by (have hg1 := hg.2; (try simp only [decide_eq_true_eq, decide_eq_false_iff_not] at hg1); exact pu_load_own0 (by first | exact OT.tmp rfl | exact OT.gu (OT.tmp rfl) hg | exact OT.gu (OT.tmp rfl) hg.1) (by first | exact mem_at 0 rfl | exact mem_at 1 rfl | exact mem_at 2 rfl | exact mem_at 3 rfl | exact mem_at 4 rfl | exact mem_at 5 rfl) (by first | omega | assumption | (simp; omega) | (simp [maxLen]; omega) | (simp [maxLen] at *; omega) | (simp; done) | decide) (by first | omega | assumption | (simp; omega) | (simp [maxLen]; omega) | (simp [maxLen] at *; omega) | (simp; done) | decide) (show tyOk Tryd.prog 23 true 3 = true from by decide +kernel))) rfl ?_
  | refine op_gu rfl rfl rfl (OT.gu_mk (OT.tmp rfl)) (fun hg => by (have hg1 := hg.2; (try simp only [decide_eq_true_eq, decide_eq_false_iff_not] at hg1); exact pu_load_arr (by first | exact OT.tmp rfl | exact OT.gu (OT.tmp rfl) hg | exact OT.gu (OT.tmp rfl) hg.1) (by first | exact mem_at 0 rfl | exact mem_at 1 rfl | exact mem_at 2 rfl | exact mem_at 3 rfl | exact mem_at 4 rfl | exact mem_at 5 rfl) (show tyOk Tryd.prog 23 true 3 = true from by decide +kernel) (by first | omega | assumption | (simp; omega) | (simp [maxLen]; omega) | (simp [maxLen] at *; omega) | (simp; done) | decide) (by first | omega | assumption | (simp; omega) | (simp [maxLen]; omega) | (simp [maxLen] at *; omega) | (simp; done) | decide))) rfl ?_
  | refine op_gu rfl rfl rfl (OT.gu_mk (OT.tmp rfl)) (fun hg => by (have hg1 := hg.2; (try simp only [decide_eq_true_eq, decide_eq_false_iff_not] at hg1); exact pu_load_p0 (by first | exact OT.tmp rfl | exact OT.gu (OT.tmp rfl) hg | exact OT.gu (OT.tmp rfl) hg.1) (by first | exact mem_at 0 rfl | exact mem_at 1 rfl | exact mem_at 2 rfl | exact mem_at 3 rfl | exact mem_at 4 rfl | exact mem_at 5 rfl) (show tyOk Tryd.prog 23 true 3 = true from by decide +kernel))) rfl ?_
  | refine op_gu rfl rfl rfl (OT.gu_mk (OT.tmp rfl)) (fun hg => by (have hg1 := hg.2; (try simp only [decide_eq_true_eq, decide_eq_false_iff_not] at hg1); exact pu_load_p1 (by first | exact OT.tmp rfl | exact OT.gu (OT.tmp rfl) hg | exact OT.gu (OT.tmp rfl) hg.1) (by first | exact mem_at 0 rfl | exact mem_at 1 rfl | exact mem_at 2 rfl | exact mem_at 3 rfl | exact mem_at 4 rfl | exact mem_at 5 rfl) (show tyOk Tryd.prog 23 true 3 = true from by decide +kernel))) rfl ?_
  | refine op_gu rfl rfl rfl (OT.gu_mk (OT.tmp rfl)) (fun hg => by (have hg1 := hg.2; (try simp only [decide_eq_true_eq, decide_eq_false_iff_not] at hg1); exact pu_load_q (by first | exact OT.tmp rfl | exact OT.gu (OT.tmp rfl) hg | exact OT.gu (OT.tmp rfl) hg.1) (by first | exact mem_at 0 rfl | exact mem_at 1 rfl | exact mem_at 2 rfl | exact mem_at 3 rfl | exact mem_at 4 rfl | exact mem_at 5 rfl) (by first | omega | assumption | (simp; omega) | (simp [maxLen]; omega) | (simp [maxLen] at *; omega) | (simp; done) | decide) (by first | omega | assumption | (simp; omega) | (simp [maxLen]; omega) | (simp [maxLen] at *; omega) | (simp; done) | decide) (show tyOk Tryd.prog 23 true 3 = true from by decide +kernel))) rfl ?_
  refine op_gu rfl rfl rfl (OT.gu_mk (OT.tmp rfl)) (fun hg => by (have hg1 := hg.2; (try simp only [decide_eq_true_eq, decide_eq_false_iff_not] at hg1); exact pu_build (d := kTok) (v0 := zeroT) (ps := [(0, 1), (1, 1), (2, 1)]) z23 (by kernel_rfl) rfl (fills_cons rfl lt0 OT.const (fills_cons rfl lt1 OT.const (fills_cons rfl lt2 OT.const fills_nil))))) rfl ?_
  refine op_gu rfl rfl rfl (OT.gu_mk (OT.tmp rfl)) (fun hg => by (have hg1 := hg.2; (try simp only [decide_eq_true_eq, decide_eq_false_iff_not] at hg1); exact pu_eq_of eq23 (by first | exact OT.gu (OT.tmp rfl) hg | exact OT.gu (OT.tmp rfl) hg.1 | exact OT.tmp rfl) (by first | exact OT.gu (OT.tmp rfl) hg | exact OT.gu (OT.tmp rfl) hg.1 | exact OT.tmp rfl))) rfl ?_
  refine op_pure (pu_pick_and (OT.tmp rfl) (by first | exact OT.tmp rfl | exact OT.gu_in (OT.tmp rfl) ⟨trivial, rfl⟩)) rfl rfl ?_
  refine op_pure (pu_assign (OT.tmp rfl)) rfl rfl ?_
  refine tr_nil ?_
  refine then_normal ?_
  refine tr_ret ?_
  exact ret_one .ret (.inl rfl) rfl () (OT.val (OT.tmp rfl) (congrArg Value.bool (by rw [← text_T0]; simp; exact ht))) trivial (by repeat (first | exact picks_nil | refine picks_cons 0 rfl ?_ | refine picks_cons 1 rfl ?_ | refine picks_cons 2 rfl ?_ | refine picks_cons 3 rfl ?_ | refine picks_cons 4 rfl ?_ | refine picks_cons 5 rfl ?_ | refine picks_cons 6 rfl ?_))
set_option maxRecDepth 20000 in
/-- rhizome/rhizomelaw19.TokenChecks -/
theorem TokenChecks_fn {K0 : FH} {n0 : Nat} (l : List UInt8) (hV : VarsK K0) (hm : l.length ≤ maxLen) : CtM K0 n0 Tryd.prog 5 [BsT l] ([]) Unit (fun _ => BoolT true) (fun _ => []) (fun _ => True) := by
  refine fn_introM Tryd.func5 rfl rfl ?_
  intro H w hK hn
  unfold maxLen at hm
  have hc2 : (checkL l).length = 2 := rfl
  refine tr_seq ?_
  -- region 0
  refine tr_env (es_cons (t := 0) (OT.tmp rfl) es_nil) ?_
  refine tr_region ?_
  refine op_pure (pu_assign OT.const) rfl rfl ?_
  refine tr_nil ?_
  refine then_normal ?_
  refine tr_seq ?_
  refine tr_seq ?_
  -- region 1
  refine tr_env (es_cons (t := 0) (OT.tmp rfl) es_nil) ?_
  refine tr_region ?_
  refine op_acts (acts_callM (awake_fn hV) (mk_in hK hn) (show enters Tryd.prog 8 = true from by decide +kernel) OTs.nil (List.Perm.refl _)) (List.Perm.refl _) rfl rfl (fun _ _ => ?_)
  refine op_pure (pu_not (OT.tmp rfl)) rfl rfl ?_
  refine op_pure (pu_move (OT.tmp rfl)) rfl rfl ?_
  refine op_gu rfl rfl rfl (OT.gu_mk (OT.tmp rfl)) (fun hg => by (have hg1 := hg.2; (try simp only [decide_eq_true_eq, decide_eq_false_iff_not] at hg1); exact pu_move (by first | exact OT.tmp rfl | exact OT.gu (OT.tmp rfl) hg | exact OT.gu (OT.tmp rfl) hg.1))) rfl ?_
  first
  | refine op_gu rfl rfl rfl (OT.gu_mk (OT.tmp rfl)) (fun hg => by (have hg1 := hg.2; (try simp only [decide_eq_true_eq, decide_eq_false_iff_not] at hg1); exact pu_len_bs Tryd.underlying9 (by first | exact OT.gu (OT.tmp rfl) hg | exact OT.gu (OT.tmp rfl) hg.1 | exact OT.tmp rfl))) rfl ?_
  | refine op_gu rfl rfl rfl (OT.gu_mk (OT.tmp rfl)) (fun hg => by (have hg1 := hg.2; (try simp only [decide_eq_true_eq, decide_eq_false_iff_not] at hg1); exact pu_len_str Tryd.underlying9 (by first | exact OT.gu (OT.tmp rfl) hg | exact OT.gu (OT.tmp rfl) hg.1 | exact OT.tmp rfl))) rfl ?_
  refine op_gu rfl rfl rfl (OT.gu_mk (OT.tmp rfl)) (fun hg => by (have hg1 := hg.2; (try simp only [decide_eq_true_eq, decide_eq_false_iff_not] at hg1); exact pu_gtr (by first | exact OT.gu (OT.tmp rfl) hg | exact OT.gu (OT.tmp rfl) hg.1 | exact OT.tmp rfl) OT.const)) rfl ?_
  refine op_pure (pu_pick_or (OT.tmp rfl) (by first | exact OT.tmp rfl | exact OT.gu_in (OT.tmp rfl) ⟨trivial, rfl⟩)) rfl rfl ?_
  refine tr_nil ?_
  refine then_normal ?_
  refine tr_cond (OT.tmp rfl) (fun c10 => ?_) (fun c10 => ?_)
  · skip
    refine tr_seq ?_
    -- region 2
    refine tr_env es_nil ?_
    refine tr_region ?_
    refine op_acts (acts_callM (awake_fn hV) (mk_in hK hn) (show enters Tryd.prog 8 = true from by decide +kernel) OTs.nil (List.Perm.refl _)) (List.Perm.refl _) rfl rfl (fun _ _ => ?_)
    refine op_pure (pu_assign (OT.tmp rfl)) rfl rfl ?_
    refine tr_nil ?_
    refine then_normal ?_
    refine tr_ret ?_
    refine then_ret ?_
    exact ret_one .ret (.inl rfl) rfl () (OT.val (OT.tmp rfl) (congrArg Value.bool (rfl))) trivial (by repeat (first | exact picks_nil | refine picks_cons 0 rfl ?_ | refine picks_cons 1 rfl ?_ | refine picks_cons 2 rfl ?_ | refine picks_cons 3 rfl ?_ | refine picks_cons 4 rfl ?_ | refine picks_cons 5 rfl ?_ | refine picks_cons 6 rfl ?_))
  · skip
    have hl3 : l.length ≤ 3000 := by have h9 : (l.length : Int) ≤ 3000 := (by simpa using c10); omega
    have hv := check_vals l
    refine tr_skip ?_
    refine then_normal ?_
    refine tr_seq ?_
    -- region 3
    refine tr_env (es_cons (t := 0) (OT.tmp rfl) es_nil) ?_
    refine tr_region ?_
    refine op_pure (pu_move (OT.tmp rfl)) rfl rfl ?_
    refine op_acts (acts_call (Check_fn _ (by first | assumption | omega | decide | (simp; omega))) (show enters Tryd.prog 14 = true from by decide +kernel) (OTs.cons (OT.tmp rfl) OTs.nil) (List.Perm.refl _)) (List.Perm.refl _) rfl rfl (fun _ _ => ?_)
    refine op_pure (pu_assign (OT.tmp rfl)) rfl rfl ?_
    refine tr_nil ?_
    refine then_normal ?_
    refine tr_seq ?_
    -- region 4
    refine tr_env (es_cons (t := 0) (OT.tmp rfl) (es_cons (t := 3) (OT.tmp rfl) es_nil)) ?_
    refine tr_region ?_
    refine op_pure (pu_move (OT.tmp rfl)) rfl rfl ?_
    refine op_pure (pu_move (OT.tmp rfl)) rfl rfl ?_
    refine op_acts (acts_call (rCheck_fn _ (by first | assumption | omega | decide | (simp; omega))) (show enters Tryd.prog 15 = true from by decide +kernel) (OTs.cons (OT.tmp rfl) OTs.nil) (List.Perm.refl _)) (List.Perm.refl _) rfl rfl (fun _ _ => ?_)
    first
    | refine op_pure (pu_bs_eql (OT.tmp rfl) (OT.tmp rfl)) rfl rfl ?_
    | refine op_pure (pu_str_eql (OT.tmp rfl) (OT.tmp rfl)) rfl rfl ?_
    refine op_pure (pu_move (OT.tmp rfl)) rfl rfl ?_
    refine op_gu rfl rfl rfl (OT.gu_mk (OT.tmp rfl)) (fun hg => by (have hg1 := hg.2; (try simp only [decide_eq_true_eq, decide_eq_false_iff_not] at hg1); exact pu_move (by first | exact OT.tmp rfl | exact OT.gu (OT.tmp rfl) hg | exact OT.gu (OT.tmp rfl) hg.1))) rfl ?_
    first
    | refine op_gu rfl rfl rfl (OT.gu_mk (OT.tmp rfl)) (fun hg => by (have hg1 := hg.2; (try simp only [decide_eq_true_eq, decide_eq_false_iff_not] at hg1); exact pu_len_bs Tryd.underlying9 (by first | exact OT.gu (OT.tmp rfl) hg | exact OT.gu (OT.tmp rfl) hg.1 | exact OT.tmp rfl))) rfl ?_
    | refine op_gu rfl rfl rfl (OT.gu_mk (OT.tmp rfl)) (fun hg => by (have hg1 := hg.2; (try simp only [decide_eq_true_eq, decide_eq_false_iff_not] at hg1); exact pu_len_str Tryd.underlying9 (by first | exact OT.gu (OT.tmp rfl) hg | exact OT.gu (OT.tmp rfl) hg.1 | exact OT.tmp rfl))) rfl ?_
    refine op_gu rfl rfl rfl (OT.gu_mk (OT.tmp rfl)) (fun hg => by (have hg1 := hg.2; (try simp only [decide_eq_true_eq, decide_eq_false_iff_not] at hg1); exact pu_eql (by first | exact OT.gu (OT.tmp rfl) hg | exact OT.gu (OT.tmp rfl) hg.1 | exact OT.tmp rfl) OT.const)) rfl ?_
    refine op_pure (pu_pick_and (OT.tmp rfl) (by first | exact OT.tmp rfl | exact OT.gu_in (OT.tmp rfl) ⟨trivial, rfl⟩)) rfl rfl ?_
    refine op_pure (pu_move (OT.tmp rfl)) rfl rfl ?_
    refine op_gu rfl rfl rfl (OT.gu_mk (OT.tmp rfl)) (fun hg => by (have hg1 := hg.2; (try simp only [decide_eq_true_eq, decide_eq_false_iff_not] at hg1); exact pu_move (by first | exact OT.tmp rfl | exact OT.gu (OT.tmp rfl) hg | exact OT.gu (OT.tmp rfl) hg.1))) rfl ?_
    refine op_gu rfl rfl rfl (OT.gu_mk (OT.tmp rfl)) (fun hg => by (have hg1 := hg.2; (try simp only [decide_eq_true_eq, decide_eq_false_iff_not] at hg1); exact pu_bs_index (by first | exact OT.gu (OT.tmp rfl) hg | exact OT.gu (OT.tmp rfl) hg.1 | exact OT.tmp rfl) OT.const Tryd.underlying9 (by first | omega | assumption | (simp; omega) | (simp [maxLen]; omega) | (simp [maxLen] at *; omega) | (simp; done) | decide) (by first | omega | assumption | (simp; omega) | (simp [maxLen]; omega) | (simp [maxLen] at *; omega) | (simp; done) | decide))) rfl ?_
    refine op_gu rfl rfl rfl (OT.gu_mk (OT.tmp rfl)) (fun hg => by (have hg1 := hg.2; (try simp only [decide_eq_true_eq, decide_eq_false_iff_not] at hg1); exact pu_geq (by first | exact OT.gu (OT.tmp rfl) hg | exact OT.gu (OT.tmp rfl) hg.1 | exact OT.tmp rfl) OT.const)) rfl ?_
    refine op_pure (pu_pick_and (OT.tmp rfl) (by first | exact OT.tmp rfl | exact OT.gu_in (OT.tmp rfl) ⟨trivial, rfl⟩)) rfl rfl ?_
    refine op_pure (pu_move (OT.tmp rfl)) rfl rfl ?_
    refine op_gu rfl rfl rfl (OT.gu_mk (OT.tmp rfl)) (fun hg => by (have hg1 := hg.2; (try simp only [decide_eq_true_eq, decide_eq_false_iff_not] at hg1); exact pu_move (by first | exact OT.tmp rfl | exact OT.gu (OT.tmp rfl) hg | exact OT.gu (OT.tmp rfl) hg.1))) rfl ?_
    refine op_gu rfl rfl rfl (OT.gu_mk (OT.tmp rfl)) (fun hg => by (have hg1 := hg.2; (try simp only [decide_eq_true_eq, decide_eq_false_iff_not] at hg1); exact pu_bs_index (by first | exact OT.gu (OT.tmp rfl) hg | exact OT.gu (OT.tmp rfl) hg.1 | exact OT.tmp rfl) OT.const Tryd.underlying9 (by first | omega | assumption | (simp; omega) | (simp [maxLen]; omega) | (simp [maxLen] at *; omega) | (simp; done) | decide) (by first | omega | assumption | (simp; omega) | (simp [maxLen]; omega) | (simp [maxLen] at *; omega) | (simp; done) | decide))) rfl ?_
    refine op_gu rfl rfl rfl (OT.gu_mk (OT.tmp rfl)) (fun hg => by (have hg1 := hg.2; (try simp only [decide_eq_true_eq, decide_eq_false_iff_not] at hg1); exact pu_leq (by first | exact OT.gu (OT.tmp rfl) hg | exact OT.gu (OT.tmp rfl) hg.1 | exact OT.tmp rfl) OT.const)) rfl ?_
    refine op_pure (pu_pick_and (OT.tmp rfl) (by first | exact OT.tmp rfl | exact OT.gu_in (OT.tmp rfl) ⟨trivial, rfl⟩)) rfl rfl ?_
    refine op_pure (pu_move (OT.tmp rfl)) rfl rfl ?_
    refine op_gu rfl rfl rfl (OT.gu_mk (OT.tmp rfl)) (fun hg => by (have hg1 := hg.2; (try simp only [decide_eq_true_eq, decide_eq_false_iff_not] at hg1); exact pu_move (by first | exact OT.tmp rfl | exact OT.gu (OT.tmp rfl) hg | exact OT.gu (OT.tmp rfl) hg.1))) rfl ?_
    refine op_gu rfl rfl rfl (OT.gu_mk (OT.tmp rfl)) (fun hg => by (have hg1 := hg.2; (try simp only [decide_eq_true_eq, decide_eq_false_iff_not] at hg1); exact pu_bs_index (by first | exact OT.gu (OT.tmp rfl) hg | exact OT.gu (OT.tmp rfl) hg.1 | exact OT.tmp rfl) OT.const Tryd.underlying9 (by first | omega | assumption | (simp; omega) | (simp [maxLen]; omega) | (simp [maxLen] at *; omega) | (simp; done) | decide) (by first | omega | assumption | (simp; omega) | (simp [maxLen]; omega) | (simp [maxLen] at *; omega) | (simp; done) | decide))) rfl ?_
    refine op_gu rfl rfl rfl (OT.gu_mk (OT.tmp rfl)) (fun hg => by (have hg1 := hg.2; (try simp only [decide_eq_true_eq, decide_eq_false_iff_not] at hg1); exact pu_geq (by first | exact OT.gu (OT.tmp rfl) hg | exact OT.gu (OT.tmp rfl) hg.1 | exact OT.tmp rfl) OT.const)) rfl ?_
    refine op_pure (pu_pick_and (OT.tmp rfl) (by first | exact OT.tmp rfl | exact OT.gu_in (OT.tmp rfl) ⟨trivial, rfl⟩)) rfl rfl ?_
    refine op_pure (pu_move (OT.tmp rfl)) rfl rfl ?_
    refine op_gu rfl rfl rfl (OT.gu_mk (OT.tmp rfl)) (fun hg => by (have hg1 := hg.2; (try simp only [decide_eq_true_eq, decide_eq_false_iff_not] at hg1); exact pu_move (by first | exact OT.tmp rfl | exact OT.gu (OT.tmp rfl) hg | exact OT.gu (OT.tmp rfl) hg.1))) rfl ?_
    refine op_gu rfl rfl rfl (OT.gu_mk (OT.tmp rfl)) (fun hg => by (have hg1 := hg.2; (try simp only [decide_eq_true_eq, decide_eq_false_iff_not] at hg1); exact pu_bs_index (by first | exact OT.gu (OT.tmp rfl) hg | exact OT.gu (OT.tmp rfl) hg.1 | exact OT.tmp rfl) OT.const Tryd.underlying9 (by first | omega | assumption | (simp; omega) | (simp [maxLen]; omega) | (simp [maxLen] at *; omega) | (simp; done) | decide) (by first | omega | assumption | (simp; omega) | (simp [maxLen]; omega) | (simp [maxLen] at *; omega) | (simp; done) | decide))) rfl ?_
    refine op_gu rfl rfl rfl (OT.gu_mk (OT.tmp rfl)) (fun hg => by (have hg1 := hg.2; (try simp only [decide_eq_true_eq, decide_eq_false_iff_not] at hg1); exact pu_leq (by first | exact OT.gu (OT.tmp rfl) hg | exact OT.gu (OT.tmp rfl) hg.1 | exact OT.tmp rfl) OT.const)) rfl ?_
    refine op_pure (pu_pick_and (OT.tmp rfl) (by first | exact OT.tmp rfl | exact OT.gu_in (OT.tmp rfl) ⟨trivial, rfl⟩)) rfl rfl ?_
    refine op_pure (pu_assign (OT.tmp rfl)) rfl rfl ?_
    refine tr_nil ?_
    refine then_normal ?_
    refine tr_ret ?_
    exact ret_one .ret (.inl rfl) rfl () (OT.val (OT.tmp rfl) (congrArg Value.bool (by rw [decide_eq_true hv.1, decide_eq_true hv.2.1, decide_eq_true hv.2.2.1, decide_eq_true hv.2.2.2, hc2]; simp))) trivial (by repeat (first | exact picks_nil | refine picks_cons 0 rfl ?_ | refine picks_cons 1 rfl ?_ | refine picks_cons 2 rfl ?_ | refine picks_cons 3 rfl ?_ | refine picks_cons 4 rfl ?_ | refine picks_cons 5 rfl ?_ | refine picks_cons 6 rfl ?_))
set_option maxRecDepth 20000 in
/-- rhizome/rhizomelaw19.TokenWrites -/
theorem TokenWrites_fn {K0 : FH} {n0 : Nat} (t : Tok) (hV : VarsK K0) (hm : t.1.length ≤ maxLen) : CtM K0 n0 Tryd.prog 3 [kTok.T t] ([]) Unit (fun _ => BoolT true) (fun _ => []) (fun _ => True) := by
  refine fn_introM Tryd.func3 rfl rfl ?_
  intro H w hK hn
  unfold maxLen at hm
  have hel := enc_len t
  refine tr_seq ?_
  -- region 0
  refine tr_env (es_cons (t := 0) (OT.tmp rfl) es_nil) ?_
  refine tr_region ?_
  first
  | refine op_acts (acts_box (d := kTok) (OT.tmp rfl)) (List.Perm.refl _) rfl rfl (fun g0_0 _ => ?_)
  | refine op_acts (acts_box (OT.tmp rfl)) (List.Perm.refl _) rfl rfl (fun g0_0 _ => ?_)
  refine op_pure (pu_assign OT.const) rfl rfl ?_
  refine tr_nil ?_
  refine then_normal ?_
  refine tr_seq ?_
  refine tr_seq ?_
  -- region 1
  refine tr_env (es_cons (t := 1) (OT.tmp rfl) es_nil) ?_
  refine tr_region ?_
  refine op_acts (acts_callM (awake_fn hV) (mk_in hK hn) (show enters Tryd.prog 8 = true from by decide +kernel) OTs.nil (List.Perm.refl _)) (List.Perm.refl _) rfl rfl (fun _ _ => ?_)
  refine op_pure (pu_not (OT.tmp rfl)) rfl rfl ?_
  refine op_pure (pu_move (OT.tmp rfl)) rfl rfl ?_
  first
  | refine op_gu rfl rfl rfl (OT.gu_mk (OT.tmp rfl)) (fun hg => by (have hg1 := hg.2; (try simp only [decide_eq_true_eq, decide_eq_false_iff_not] at hg1); exact pu_faddr (by first | exact OT.tmp rfl | exact OT.gu (OT.tmp rfl) hg | exact OT.gu (OT.tmp rfl) hg.1) (show fieldOk Tryd.prog 23 0 0 false 1 = true from by decide +kernel))) rfl ?_
  | refine op_gu rfl rfl rfl (OT.gu_mk (OT.tmp rfl)) (fun hg => by (have hg1 := hg.2; (try simp only [decide_eq_true_eq, decide_eq_false_iff_not] at hg1); exact pu_faddr_at (by first | exact OT.tmp rfl | exact OT.gu (OT.tmp rfl) hg | exact OT.gu (OT.tmp rfl) hg.1) lt0 (show fieldOk Tryd.prog 23 0 0 false 1 = true from by decide +kernel))) rfl ?_
  first
  | refine op_gu rfl rfl rfl (OT.gu_mk (OT.tmp rfl)) (fun hg => by (have hg1 := hg.2; (try simp only [decide_eq_true_eq, decide_eq_false_iff_not] at hg1); exact pu_load (by first | exact OT.gu (OT.tmp rfl) hg | exact OT.gu (OT.tmp rfl) hg.1 | exact OT.tmp rfl) (show tyOk Tryd.prog 9 false 1 = true from by decide +kernel))) rfl ?_
  | refine op_gu rfl rfl rfl (OT.gu_mk (OT.tmp rfl)) (fun hg => by (have hg1 := hg.2; (try simp only [decide_eq_true_eq, decide_eq_false_iff_not] at hg1); exact pu_load_var (by first | exact OT.gu (OT.tmp rfl) hg | exact OT.gu (OT.tmp rfl) hg.1 | exact OT.tmp rfl) (by first | exact mem_at 0 rfl | exact mem_at 1 rfl | exact mem_at 2 rfl | exact mem_at 3 rfl | exact mem_at 4 rfl | exact mem_at 5 rfl) (show tyOk Tryd.prog 9 false 1 = true from by decide +kernel))) rfl ?_
  | refine op_gu rfl rfl rfl (OT.gu_mk (OT.tmp rfl)) (fun hg => by (have hg1 := hg.2; (try simp only [decide_eq_true_eq, decide_eq_false_iff_not] at hg1); exact pu_load_own0 (by first | exact OT.gu (OT.tmp rfl) hg | exact OT.gu (OT.tmp rfl) hg.1 | exact OT.tmp rfl) (by first | exact mem_at 0 rfl | exact mem_at 1 rfl | exact mem_at 2 rfl | exact mem_at 3 rfl | exact mem_at 4 rfl | exact mem_at 5 rfl) (by first | omega | assumption | (simp; omega) | (simp [maxLen]; omega) | (simp [maxLen] at *; omega) | (simp; done) | decide) (by first | omega | assumption | (simp; omega) | (simp [maxLen]; omega) | (simp [maxLen] at *; omega) | (simp; done) | decide) (show tyOk Tryd.prog 9 false 1 = true from by decide +kernel))) rfl ?_
  | refine op_gu rfl rfl rfl (OT.gu_mk (OT.tmp rfl)) (fun hg => by (have hg1 := hg.2; (try simp only [decide_eq_true_eq, decide_eq_false_iff_not] at hg1); exact pu_load_arr (by first | exact OT.gu (OT.tmp rfl) hg | exact OT.gu (OT.tmp rfl) hg.1 | exact OT.tmp rfl) (by first | exact mem_at 0 rfl | exact mem_at 1 rfl | exact mem_at 2 rfl | exact mem_at 3 rfl | exact mem_at 4 rfl | exact mem_at 5 rfl) (show tyOk Tryd.prog 9 false 1 = true from by decide +kernel) (by first | omega | assumption | (simp; omega) | (simp [maxLen]; omega) | (simp [maxLen] at *; omega) | (simp; done) | decide) (by first | omega | assumption | (simp; omega) | (simp [maxLen]; omega) | (simp [maxLen] at *; omega) | (simp; done) | decide))) rfl ?_
  | refine op_gu rfl rfl rfl (OT.gu_mk (OT.tmp rfl)) (fun hg => by (have hg1 := hg.2; (try simp only [decide_eq_true_eq, decide_eq_false_iff_not] at hg1); exact pu_load_p0 (by first | exact OT.gu (OT.tmp rfl) hg | exact OT.gu (OT.tmp rfl) hg.1 | exact OT.tmp rfl) (by first | exact mem_at 0 rfl | exact mem_at 1 rfl | exact mem_at 2 rfl | exact mem_at 3 rfl | exact mem_at 4 rfl | exact mem_at 5 rfl) (show tyOk Tryd.prog 9 false 1 = true from by decide +kernel))) rfl ?_
  | refine op_gu rfl rfl rfl (OT.gu_mk (OT.tmp rfl)) (fun hg => by (have hg1 := hg.2; (try simp only [decide_eq_true_eq, decide_eq_false_iff_not] at hg1); exact pu_load_p1 (by first | exact OT.gu (OT.tmp rfl) hg | exact OT.gu (OT.tmp rfl) hg.1 | exact OT.tmp rfl) (by first | exact mem_at 0 rfl | exact mem_at 1 rfl | exact mem_at 2 rfl | exact mem_at 3 rfl | exact mem_at 4 rfl | exact mem_at 5 rfl) (show tyOk Tryd.prog 9 false 1 = true from by decide +kernel))) rfl ?_
  | refine op_gu rfl rfl rfl (OT.gu_mk (OT.tmp rfl)) (fun hg => by (have hg1 := hg.2; (try simp only [decide_eq_true_eq, decide_eq_false_iff_not] at hg1); exact pu_load_q (by first | exact OT.gu (OT.tmp rfl) hg | exact OT.gu (OT.tmp rfl) hg.1 | exact OT.tmp rfl) (by first | exact mem_at 0 rfl | exact mem_at 1 rfl | exact mem_at 2 rfl | exact mem_at 3 rfl | exact mem_at 4 rfl | exact mem_at 5 rfl) (by first | omega | assumption | (simp; omega) | (simp [maxLen]; omega) | (simp [maxLen] at *; omega) | (simp; done) | decide) (by first | omega | assumption | (simp; omega) | (simp [maxLen]; omega) | (simp [maxLen] at *; omega) | (simp; done) | decide) (show tyOk Tryd.prog 9 false 1 = true from by decide +kernel))) rfl ?_
  | refine op_gu rfl rfl rfl (OT.gu_mk (OT.tmp rfl)) (fun hg => by (have hg1 := hg.2; (try simp only [decide_eq_true_eq, decide_eq_false_iff_not] at hg1); exact pu_load_blk (by first | exact OT.gu (OT.tmp rfl) hg | exact OT.gu (OT.tmp rfl) hg.1 | exact OT.tmp rfl) (by first | exact mem_at 0 rfl | exact mem_at 1 rfl | exact mem_at 2 rfl | exact mem_at 3 rfl | exact mem_at 4 rfl | exact mem_at 5 rfl) lt0 (show tyOk Tryd.prog 9 false 1 = true from by decide +kernel))) rfl ?_
  first
  | refine op_gu rfl rfl rfl (OT.gu_mk (OT.tmp rfl)) (fun hg => by (have hg1 := hg.2; (try simp only [decide_eq_true_eq, decide_eq_false_iff_not] at hg1); exact pu_len_bs Tryd.underlying9 (by first | exact OT.gu (OT.tmp rfl) hg | exact OT.gu (OT.tmp rfl) hg.1 | exact OT.tmp rfl))) rfl ?_
  | refine op_gu rfl rfl rfl (OT.gu_mk (OT.tmp rfl)) (fun hg => by (have hg1 := hg.2; (try simp only [decide_eq_true_eq, decide_eq_false_iff_not] at hg1); exact pu_len_str Tryd.underlying9 (by first | exact OT.gu (OT.tmp rfl) hg | exact OT.gu (OT.tmp rfl) hg.1 | exact OT.tmp rfl))) rfl ?_
  refine op_gu rfl rfl rfl (OT.gu_mk (OT.tmp rfl)) (fun hg => by (have hg1 := hg.2; (try simp only [decide_eq_true_eq, decide_eq_false_iff_not] at hg1); exact pu_gtr (by first | exact OT.gu (OT.tmp rfl) hg | exact OT.gu (OT.tmp rfl) hg.1 | exact OT.tmp rfl) OT.const)) rfl ?_
  refine op_pure (pu_pick_or (OT.tmp rfl) (by first | exact OT.tmp rfl | exact OT.gu_in (OT.tmp rfl) ⟨trivial, rfl⟩)) rfl rfl ?_
  refine tr_nil ?_
  refine then_normal ?_
  refine tr_cond (OT.tmp rfl) (fun c15 => ?_) (fun c15 => ?_)
  · skip
    refine tr_seq ?_
    -- region 2
    refine tr_env es_nil ?_
    refine tr_region ?_
    refine op_acts (acts_callM (awake_fn hV) (mk_in hK hn) (show enters Tryd.prog 8 = true from by decide +kernel) OTs.nil (List.Perm.refl _)) (List.Perm.refl _) rfl rfl (fun _ _ => ?_)
    refine op_pure (pu_assign (OT.tmp rfl)) rfl rfl ?_
    refine tr_nil ?_
    refine then_normal ?_
    refine tr_ret ?_
    refine then_ret ?_
    exact ret_one .ret (.inl rfl) rfl () (OT.val (OT.tmp rfl) (congrArg Value.bool (rfl))) trivial (by repeat (first | exact picks_nil | refine picks_cons 0 rfl ?_ | refine picks_cons 1 rfl ?_ | refine picks_cons 2 rfl ?_ | refine picks_cons 3 rfl ?_ | refine picks_cons 4 rfl ?_ | refine picks_cons 5 rfl ?_ | refine picks_cons 6 rfl ?_))
  · skip
    have hl5 : t.1.length ≤ 500 := by have h9 : (t.1.length : Int) ≤ 500 := (by simpa using c15); omega
    refine tr_skip ?_
    refine then_normal ?_
    refine tr_seq ?_
    -- region 3
    refine tr_env (es_cons (t := 1) (OT.tmp rfl) es_nil) ?_
    refine tr_region ?_
    first
    | refine op_pure (pu_load (OT.tmp rfl) (show tyOk Tryd.prog 23 true 3 = true from by decide +kernel)) rfl rfl ?_
    | refine op_pure (pu_load_var (OT.tmp rfl) (by first | exact mem_at 0 rfl | exact mem_at 1 rfl | exact mem_at 2 rfl | exact mem_at 3 rfl | exact mem_at 4 rfl | exact mem_at 5 rfl) (show tyOk Tryd.prog 23 true 3 = true from by decide +kernel)) rfl rfl ?_
    | refine op_pure (pu_load_own0 (OT.tmp rfl) (by first | exact mem_at 0 rfl | exact mem_at 1 rfl | exact mem_at 2 rfl | exact mem_at 3 rfl | exact mem_at 4 rfl | exact mem_at 5 rfl) (by first | omega | assumption | (simp; omega) | (simp [maxLen]; omega) | (simp [maxLen] at *; omega) | (simp; done) | decide) (by first | omega | assumption | (simp; omega) | (simp [maxLen]; omega) | (simp [maxLen] at *; omega) | (simp; done) | decide) (show tyOk Tryd.prog 23 true 3 = true from by decide +kernel)) rfl rfl ?_
    | refine op_pure (pu_load_arr (OT.tmp rfl) (by first | exact mem_at 0 rfl | exact mem_at 1 rfl | exact mem_at 2 rfl | exact mem_at 3 rfl | exact mem_at 4 rfl | exact mem_at 5 rfl) (show tyOk Tryd.prog 23 true 3 = true from by decide +kernel) (by first | omega | assumption | (simp; omega) | (simp [maxLen]; omega) | (simp [maxLen] at *; omega) | (simp; done) | decide) (by first | omega | assumption | (simp; omega) | (simp [maxLen]; omega) | (simp [maxLen] at *; omega) | (simp; done) | decide)) rfl rfl ?_
    | refine op_pure (pu_load_p0 (OT.tmp rfl) (by first | exact mem_at 0 rfl | exact mem_at 1 rfl | exact mem_at 2 rfl | exact mem_at 3 rfl | exact mem_at 4 rfl | exact mem_at 5 rfl) (show tyOk Tryd.prog 23 true 3 = true from by decide +kernel)) rfl rfl ?_
    | refine op_pure (pu_load_p1 (OT.tmp rfl) (by first | exact mem_at 0 rfl | exact mem_at 1 rfl | exact mem_at 2 rfl | exact mem_at 3 rfl | exact mem_at 4 rfl | exact mem_at 5 rfl) (show tyOk Tryd.prog 23 true 3 = true from by decide +kernel)) rfl rfl ?_
    | refine op_pure (pu_load_q (OT.tmp rfl) (by first | exact mem_at 0 rfl | exact mem_at 1 rfl | exact mem_at 2 rfl | exact mem_at 3 rfl | exact mem_at 4 rfl | exact mem_at 5 rfl) (by first | omega | assumption | (simp; omega) | (simp [maxLen]; omega) | (simp [maxLen] at *; omega) | (simp; done) | decide) (by first | omega | assumption | (simp; omega) | (simp [maxLen]; omega) | (simp [maxLen] at *; omega) | (simp; done) | decide) (show tyOk Tryd.prog 23 true 3 = true from by decide +kernel)) rfl rfl ?_
    refine op_acts (acts_callM (Encode_fn _ hV (by first | assumption | omega)) (mk_in hK hn) (show enters Tryd.prog 9 = true from by decide +kernel) (OTs.cons (OT.tmp rfl) OTs.nil) (List.Perm.refl _)) (List.Perm.refl _) rfl rfl (fun _ _ => ?_)
    refine op_pure (pu_move (OT.tmp rfl)) rfl rfl ?_
    refine op_pure (pu_extract (OT.tmp rfl) rfl) rfl rfl ?_
    refine op_pure (pu_extract (OT.tmp rfl) rfl) rfl rfl ?_
    refine op_pure (pu_assign (OT.tmp rfl)) rfl rfl ?_
    refine op_pure (pu_assign (OT.tmp rfl)) rfl rfl ?_
    refine tr_nil ?_
    refine then_normal ?_
    refine tr_seq ?_
    -- region 4
    refine tr_env (es_cons (t := 1) (OT.tmp rfl) (es_cons (t := 3) (OT.tmp rfl) (es_cons (t := 4) (OT.tmp rfl) es_nil))) ?_
    refine tr_region ?_
    first
    | refine op_pure (pu_faddr (OT.tmp rfl) (show fieldOk Tryd.prog 23 0 0 false 1 = true from by decide +kernel)) rfl rfl ?_
    | refine op_pure (pu_faddr_at (OT.tmp rfl) lt0 (show fieldOk Tryd.prog 23 0 0 false 1 = true from by decide +kernel)) rfl rfl ?_
    first
    | refine op_pure (pu_load (OT.tmp rfl) (show tyOk Tryd.prog 9 false 1 = true from by decide +kernel)) rfl rfl ?_
    | refine op_pure (pu_load_var (OT.tmp rfl) (by first | exact mem_at 0 rfl | exact mem_at 1 rfl | exact mem_at 2 rfl | exact mem_at 3 rfl | exact mem_at 4 rfl | exact mem_at 5 rfl) (show tyOk Tryd.prog 9 false 1 = true from by decide +kernel)) rfl rfl ?_
    | refine op_pure (pu_load_own0 (OT.tmp rfl) (by first | exact mem_at 0 rfl | exact mem_at 1 rfl | exact mem_at 2 rfl | exact mem_at 3 rfl | exact mem_at 4 rfl | exact mem_at 5 rfl) (by first | omega | assumption | (simp; omega) | (simp [maxLen]; omega) | (simp [maxLen] at *; omega) | (simp; done) | decide) (by first | omega | assumption | (simp; omega) | (simp [maxLen]; omega) | (simp [maxLen] at *; omega) | (simp; done) | decide) (show tyOk Tryd.prog 9 false 1 = true from by decide +kernel)) rfl rfl ?_
    | refine op_pure (pu_load_arr (OT.tmp rfl) (by first | exact mem_at 0 rfl | exact mem_at 1 rfl | exact mem_at 2 rfl | exact mem_at 3 rfl | exact mem_at 4 rfl | exact mem_at 5 rfl) (show tyOk Tryd.prog 9 false 1 = true from by decide +kernel) (by first | omega | assumption | (simp; omega) | (simp [maxLen]; omega) | (simp [maxLen] at *; omega) | (simp; done) | decide) (by first | omega | assumption | (simp; omega) | (simp [maxLen]; omega) | (simp [maxLen] at *; omega) | (simp; done) | decide)) rfl rfl ?_
    | refine op_pure (pu_load_p0 (OT.tmp rfl) (by first | exact mem_at 0 rfl | exact mem_at 1 rfl | exact mem_at 2 rfl | exact mem_at 3 rfl | exact mem_at 4 rfl | exact mem_at 5 rfl) (show tyOk Tryd.prog 9 false 1 = true from by decide +kernel)) rfl rfl ?_
    | refine op_pure (pu_load_p1 (OT.tmp rfl) (by first | exact mem_at 0 rfl | exact mem_at 1 rfl | exact mem_at 2 rfl | exact mem_at 3 rfl | exact mem_at 4 rfl | exact mem_at 5 rfl) (show tyOk Tryd.prog 9 false 1 = true from by decide +kernel)) rfl rfl ?_
    | refine op_pure (pu_load_q (OT.tmp rfl) (by first | exact mem_at 0 rfl | exact mem_at 1 rfl | exact mem_at 2 rfl | exact mem_at 3 rfl | exact mem_at 4 rfl | exact mem_at 5 rfl) (by first | omega | assumption | (simp; omega) | (simp [maxLen]; omega) | (simp [maxLen] at *; omega) | (simp; done) | decide) (by first | omega | assumption | (simp; omega) | (simp [maxLen]; omega) | (simp [maxLen] at *; omega) | (simp; done) | decide) (show tyOk Tryd.prog 9 false 1 = true from by decide +kernel)) rfl rfl ?_
    | refine op_pure (pu_load_blk (OT.tmp rfl) (by first | exact mem_at 0 rfl | exact mem_at 1 rfl | exact mem_at 2 rfl | exact mem_at 3 rfl | exact mem_at 4 rfl | exact mem_at 5 rfl) lt0 (show tyOk Tryd.prog 9 false 1 = true from by decide +kernel)) rfl rfl ?_
    first
    | refine op_pure (pu_faddr (OT.tmp rfl) (show fieldOk Tryd.prog 23 1 1 false 1 = true from by decide +kernel)) rfl rfl ?_
    | refine op_pure (pu_faddr_at (OT.tmp rfl) lt1 (show fieldOk Tryd.prog 23 1 1 false 1 = true from by decide +kernel)) rfl rfl ?_
    first
    | refine op_pure (pu_load (OT.tmp rfl) (show tyOk Tryd.prog 3 false 1 = true from by decide +kernel)) rfl rfl ?_
    | refine op_pure (pu_load_var (OT.tmp rfl) (by first | exact mem_at 0 rfl | exact mem_at 1 rfl | exact mem_at 2 rfl | exact mem_at 3 rfl | exact mem_at 4 rfl | exact mem_at 5 rfl) (show tyOk Tryd.prog 3 false 1 = true from by decide +kernel)) rfl rfl ?_
    | refine op_pure (pu_load_own0 (OT.tmp rfl) (by first | exact mem_at 0 rfl | exact mem_at 1 rfl | exact mem_at 2 rfl | exact mem_at 3 rfl | exact mem_at 4 rfl | exact mem_at 5 rfl) (by first | omega | assumption | (simp; omega) | (simp [maxLen]; omega) | (simp [maxLen] at *; omega) | (simp; done) | decide) (by first | omega | assumption | (simp; omega) | (simp [maxLen]; omega) | (simp [maxLen] at *; omega) | (simp; done) | decide) (show tyOk Tryd.prog 3 false 1 = true from by decide +kernel)) rfl rfl ?_
    | refine op_pure (pu_load_arr (OT.tmp rfl) (by first | exact mem_at 0 rfl | exact mem_at 1 rfl | exact mem_at 2 rfl | exact mem_at 3 rfl | exact mem_at 4 rfl | exact mem_at 5 rfl) (show tyOk Tryd.prog 3 false 1 = true from by decide +kernel) (by first | omega | assumption | (simp; omega) | (simp [maxLen]; omega) | (simp [maxLen] at *; omega) | (simp; done) | decide) (by first | omega | assumption | (simp; omega) | (simp [maxLen]; omega) | (simp [maxLen] at *; omega) | (simp; done) | decide)) rfl rfl ?_
    | refine op_pure (pu_load_p0 (OT.tmp rfl) (by first | exact mem_at 0 rfl | exact mem_at 1 rfl | exact mem_at 2 rfl | exact mem_at 3 rfl | exact mem_at 4 rfl | exact mem_at 5 rfl) (show tyOk Tryd.prog 3 false 1 = true from by decide +kernel)) rfl rfl ?_
    | refine op_pure (pu_load_p1 (OT.tmp rfl) (by first | exact mem_at 0 rfl | exact mem_at 1 rfl | exact mem_at 2 rfl | exact mem_at 3 rfl | exact mem_at 4 rfl | exact mem_at 5 rfl) (show tyOk Tryd.prog 3 false 1 = true from by decide +kernel)) rfl rfl ?_
    | refine op_pure (pu_load_q (OT.tmp rfl) (by first | exact mem_at 0 rfl | exact mem_at 1 rfl | exact mem_at 2 rfl | exact mem_at 3 rfl | exact mem_at 4 rfl | exact mem_at 5 rfl) (by first | omega | assumption | (simp; omega) | (simp [maxLen]; omega) | (simp [maxLen] at *; omega) | (simp; done) | decide) (by first | omega | assumption | (simp; omega) | (simp [maxLen]; omega) | (simp [maxLen] at *; omega) | (simp; done) | decide) (show tyOk Tryd.prog 3 false 1 = true from by decide +kernel)) rfl rfl ?_
    | refine op_pure (pu_load_blk (OT.tmp rfl) (by first | exact mem_at 0 rfl | exact mem_at 1 rfl | exact mem_at 2 rfl | exact mem_at 3 rfl | exact mem_at 4 rfl | exact mem_at 5 rfl) lt1 (show tyOk Tryd.prog 3 false 1 = true from by decide +kernel)) rfl rfl ?_
    | refine op_pure (pu_load_blk (OT.tmp rfl) (by first | exact mem_at 0 rfl | exact mem_at 1 rfl | exact mem_at 2 rfl | exact mem_at 3 rfl | exact mem_at 4 rfl | exact mem_at 5 rfl) lt2 (show tyOk Tryd.prog 3 false 1 = true from by decide +kernel)) rfl rfl ?_
    first
    | refine op_pure (pu_faddr (OT.tmp rfl) (show fieldOk Tryd.prog 23 2 2 false 1 = true from by decide +kernel)) rfl rfl ?_
    | refine op_pure (pu_faddr_at (OT.tmp rfl) lt2 (show fieldOk Tryd.prog 23 2 2 false 1 = true from by decide +kernel)) rfl rfl ?_
    first
    | refine op_pure (pu_load (OT.tmp rfl) (show tyOk Tryd.prog 3 false 1 = true from by decide +kernel)) rfl rfl ?_
    | refine op_pure (pu_load_var (OT.tmp rfl) (by first | exact mem_at 0 rfl | exact mem_at 1 rfl | exact mem_at 2 rfl | exact mem_at 3 rfl | exact mem_at 4 rfl | exact mem_at 5 rfl) (show tyOk Tryd.prog 3 false 1 = true from by decide +kernel)) rfl rfl ?_
    | refine op_pure (pu_load_own0 (OT.tmp rfl) (by first | exact mem_at 0 rfl | exact mem_at 1 rfl | exact mem_at 2 rfl | exact mem_at 3 rfl | exact mem_at 4 rfl | exact mem_at 5 rfl) (by first | omega | assumption | (simp; omega) | (simp [maxLen]; omega) | (simp [maxLen] at *; omega) | (simp; done) | decide) (by first | omega | assumption | (simp; omega) | (simp [maxLen]; omega) | (simp [maxLen] at *; omega) | (simp; done) | decide) (show tyOk Tryd.prog 3 false 1 = true from by decide +kernel)) rfl rfl ?_
    | refine op_pure (pu_load_arr (OT.tmp rfl) (by first | exact mem_at 0 rfl | exact mem_at 1 rfl | exact mem_at 2 rfl | exact mem_at 3 rfl | exact mem_at 4 rfl | exact mem_at 5 rfl) (show tyOk Tryd.prog 3 false 1 = true from by decide +kernel) (by first | omega | assumption | (simp; omega) | (simp [maxLen]; omega) | (simp [maxLen] at *; omega) | (simp; done) | decide) (by first | omega | assumption | (simp; omega) | (simp [maxLen]; omega) | (simp [maxLen] at *; omega) | (simp; done) | decide)) rfl rfl ?_
    | refine op_pure (pu_load_p0 (OT.tmp rfl) (by first | exact mem_at 0 rfl | exact mem_at 1 rfl | exact mem_at 2 rfl | exact mem_at 3 rfl | exact mem_at 4 rfl | exact mem_at 5 rfl) (show tyOk Tryd.prog 3 false 1 = true from by decide +kernel)) rfl rfl ?_
    | refine op_pure (pu_load_p1 (OT.tmp rfl) (by first | exact mem_at 0 rfl | exact mem_at 1 rfl | exact mem_at 2 rfl | exact mem_at 3 rfl | exact mem_at 4 rfl | exact mem_at 5 rfl) (show tyOk Tryd.prog 3 false 1 = true from by decide +kernel)) rfl rfl ?_
    | refine op_pure (pu_load_q (OT.tmp rfl) (by first | exact mem_at 0 rfl | exact mem_at 1 rfl | exact mem_at 2 rfl | exact mem_at 3 rfl | exact mem_at 4 rfl | exact mem_at 5 rfl) (by first | omega | assumption | (simp; omega) | (simp [maxLen]; omega) | (simp [maxLen] at *; omega) | (simp; done) | decide) (by first | omega | assumption | (simp; omega) | (simp [maxLen]; omega) | (simp [maxLen] at *; omega) | (simp; done) | decide) (show tyOk Tryd.prog 3 false 1 = true from by decide +kernel)) rfl rfl ?_
    | refine op_pure (pu_load_blk (OT.tmp rfl) (by first | exact mem_at 0 rfl | exact mem_at 1 rfl | exact mem_at 2 rfl | exact mem_at 3 rfl | exact mem_at 4 rfl | exact mem_at 5 rfl) lt1 (show tyOk Tryd.prog 3 false 1 = true from by decide +kernel)) rfl rfl ?_
    | refine op_pure (pu_load_blk (OT.tmp rfl) (by first | exact mem_at 0 rfl | exact mem_at 1 rfl | exact mem_at 2 rfl | exact mem_at 3 rfl | exact mem_at 4 rfl | exact mem_at 5 rfl) lt2 (show tyOk Tryd.prog 3 false 1 = true from by decide +kernel)) rfl rfl ?_
    refine op_pure (pu_build (d := kTok) (v0 := zeroT) (ps := [(0, 1), (1, 1), (2, 1)]) z28 (by kernel_rfl) rfl (fills_cons rfl lt0 (OT.tmp rfl) (fills_cons rfl lt1 (OT.tmp rfl) (fills_cons rfl lt2 (OT.tmp rfl) fills_nil)))) rfl rfl ?_
    refine tr_as 28 (T := kTok.T t) (OT.tmp rfl) ?_
    refine op_acts (acts_alloc (z28)) (List.Perm.refl _) rfl rfl (fun g4_7 _ => ?_)
    first
    | refine op_acts (acts_store_var (OT.tmp rfl) (OT.tmp rfl) (by first | exact perm_at 0 rfl | exact perm_at 1 rfl | exact perm_at 2 rfl | exact perm_at 3 rfl | exact perm_at 4 rfl | exact perm_at 5 rfl) (show tyOk Tryd.prog 28 true 3 = true from by decide +kernel)) (by first | exact perm_at 0 rfl | exact perm_at 1 rfl | exact perm_at 2 rfl | exact perm_at 3 rfl | exact perm_at 4 rfl | exact perm_at 5 rfl) rfl rfl (fun _ _ => ?_)
    | refine op_acts (acts_store_own0 (OT.tmp rfl) (OT.tmp rfl) (by first | exact perm_at 0 rfl | exact perm_at 1 rfl | exact perm_at 2 rfl | exact perm_at 3 rfl | exact perm_at 4 rfl | exact perm_at 5 rfl) (by first | omega | assumption | (simp; omega) | (simp [maxLen]; omega) | (simp [maxLen] at *; omega) | (simp; done) | decide) (by first | omega | assumption | (simp; omega) | (simp [maxLen]; omega) | (simp [maxLen] at *; omega) | (simp; done) | decide) (show tyOk Tryd.prog 28 true 3 = true from by decide +kernel)) (by first | exact perm_at 0 rfl | exact perm_at 1 rfl | exact perm_at 2 rfl | exact perm_at 3 rfl | exact perm_at 4 rfl | exact perm_at 5 rfl) rfl rfl (fun _ _ => ?_)
    | refine op_acts (acts_store_arr (OT.tmp rfl) (OT.tmp rfl) (by first | exact perm_at 0 rfl | exact perm_at 1 rfl | exact perm_at 2 rfl | exact perm_at 3 rfl | exact perm_at 4 rfl | exact perm_at 5 rfl) (show tyOk Tryd.prog 28 true 3 = true from by decide +kernel) (by first | omega | assumption | (simp; omega) | (simp [maxLen]; omega) | (simp [maxLen] at *; omega) | (simp; done) | decide) (by first | omega | assumption | (simp; omega) | (simp [maxLen]; omega) | (simp [maxLen] at *; omega) | (simp; done) | decide)) (by first | exact perm_at 0 rfl | exact perm_at 1 rfl | exact perm_at 2 rfl | exact perm_at 3 rfl | exact perm_at 4 rfl | exact perm_at 5 rfl) rfl rfl (fun _ _ => ?_)
    refine tr_nil ?_
    refine then_normal ?_
    refine tr_seq ?_
    refine tr_seq ?_
    -- region 5
    refine tr_env (es_cons (t := 1) (OT.tmp rfl) (es_cons (t := 3) (OT.tmp rfl) (es_cons (t := 4) (OT.tmp rfl) (es_cons (t := 5) (OT.tmp rfl) es_nil)))) ?_
    refine tr_region ?_
    first
    | refine op_pure (pu_load (OT.tmp rfl) (show tyOk Tryd.prog 28 true 3 = true from by decide +kernel)) rfl rfl ?_
    | refine op_pure (pu_load_var (OT.tmp rfl) (by first | exact mem_at 0 rfl | exact mem_at 1 rfl | exact mem_at 2 rfl | exact mem_at 3 rfl | exact mem_at 4 rfl | exact mem_at 5 rfl) (show tyOk Tryd.prog 28 true 3 = true from by decide +kernel)) rfl rfl ?_
    | refine op_pure (pu_load_own0 (OT.tmp rfl) (by first | exact mem_at 0 rfl | exact mem_at 1 rfl | exact mem_at 2 rfl | exact mem_at 3 rfl | exact mem_at 4 rfl | exact mem_at 5 rfl) (by first | omega | assumption | (simp; omega) | (simp [maxLen]; omega) | (simp [maxLen] at *; omega) | (simp; done) | decide) (by first | omega | assumption | (simp; omega) | (simp [maxLen]; omega) | (simp [maxLen] at *; omega) | (simp; done) | decide) (show tyOk Tryd.prog 28 true 3 = true from by decide +kernel)) rfl rfl ?_
    | refine op_pure (pu_load_arr (OT.tmp rfl) (by first | exact mem_at 0 rfl | exact mem_at 1 rfl | exact mem_at 2 rfl | exact mem_at 3 rfl | exact mem_at 4 rfl | exact mem_at 5 rfl) (show tyOk Tryd.prog 28 true 3 = true from by decide +kernel) (by first | omega | assumption | (simp; omega) | (simp [maxLen]; omega) | (simp [maxLen] at *; omega) | (simp; done) | decide) (by first | omega | assumption | (simp; omega) | (simp [maxLen]; omega) | (simp [maxLen] at *; omega) | (simp; done) | decide)) rfl rfl ?_
    | refine op_pure (pu_load_p0 (OT.tmp rfl) (by first | exact mem_at 0 rfl | exact mem_at 1 rfl | exact mem_at 2 rfl | exact mem_at 3 rfl | exact mem_at 4 rfl | exact mem_at 5 rfl) (show tyOk Tryd.prog 28 true 3 = true from by decide +kernel)) rfl rfl ?_
    | refine op_pure (pu_load_p1 (OT.tmp rfl) (by first | exact mem_at 0 rfl | exact mem_at 1 rfl | exact mem_at 2 rfl | exact mem_at 3 rfl | exact mem_at 4 rfl | exact mem_at 5 rfl) (show tyOk Tryd.prog 28 true 3 = true from by decide +kernel)) rfl rfl ?_
    | refine op_pure (pu_load_q (OT.tmp rfl) (by first | exact mem_at 0 rfl | exact mem_at 1 rfl | exact mem_at 2 rfl | exact mem_at 3 rfl | exact mem_at 4 rfl | exact mem_at 5 rfl) (by first | omega | assumption | (simp; omega) | (simp [maxLen]; omega) | (simp [maxLen] at *; omega) | (simp; done) | decide) (by first | omega | assumption | (simp; omega) | (simp [maxLen]; omega) | (simp [maxLen] at *; omega) | (simp; done) | decide) (show tyOk Tryd.prog 28 true 3 = true from by decide +kernel)) rfl rfl ?_
    refine op_acts (acts_call (Good_fn _ (by first | assumption | omega)) (show enters Tryd.prog 10 = true from by decide +kernel) (OTs.cons (OT.tmp rfl) OTs.nil) (List.Perm.refl _)) (List.Perm.refl _) rfl rfl (fun _ _ => ?_)
    refine op_pure (pu_not (OT.tmp rfl)) rfl rfl ?_
    refine tr_nil ?_
    refine then_normal ?_
    refine tr_cond (OT.tmp rfl) (fun c31 => ?_) (fun c31 => ?_)
    · skip
      have hno : goodB t = false := by simpa using c31
      have hz : encT t = [] := by rw [encT, hno]; rfl
      have hz2 : encE t = 1 := by rw [encE, hno]; rfl
      refine tr_seq ?_
      -- region 6
      refine tr_env (es_cons (t := 3) (OT.tmp rfl) (es_cons (t := 4) (OT.tmp rfl) es_nil)) ?_
      refine tr_region ?_
      refine op_pure (pu_move (OT.tmp rfl)) rfl rfl ?_
      refine op_pure (pu_eql (OT.tmp rfl) OT.const) rfl rfl ?_
      refine op_pure (pu_move (OT.tmp rfl)) rfl rfl ?_
      refine op_gu rfl rfl rfl (OT.gu_mk (OT.tmp rfl)) (fun hg => by (have hg1 := hg.2; (try simp only [decide_eq_true_eq, decide_eq_false_iff_not] at hg1); exact pu_move (by first | exact OT.tmp rfl | exact OT.gu (OT.tmp rfl) hg | exact OT.gu (OT.tmp rfl) hg.1))) rfl ?_
      first
      | refine op_gu rfl rfl rfl (OT.gu_mk (OT.tmp rfl)) (fun hg => by (have hg1 := hg.2; (try simp only [decide_eq_true_eq, decide_eq_false_iff_not] at hg1); exact pu_bs_eql (by first | exact OT.gu (OT.tmp rfl) hg | exact OT.gu (OT.tmp rfl) hg.1 | exact OT.tmp rfl) OT.const)) rfl ?_
      | refine op_gu rfl rfl rfl (OT.gu_mk (OT.tmp rfl)) (fun hg => by (have hg1 := hg.2; (try simp only [decide_eq_true_eq, decide_eq_false_iff_not] at hg1); exact pu_str_eql (by first | exact OT.gu (OT.tmp rfl) hg | exact OT.gu (OT.tmp rfl) hg.1 | exact OT.tmp rfl) OT.const)) rfl ?_
      refine op_pure (pu_pick_and (OT.tmp rfl) (by first | exact OT.tmp rfl | exact OT.gu_in (OT.tmp rfl) ⟨trivial, rfl⟩)) rfl rfl ?_
      refine op_pure (pu_assign (OT.tmp rfl)) rfl rfl ?_
      refine tr_nil ?_
      refine then_normal ?_
      refine tr_ret ?_
      refine then_ret ?_
      exact ret_one .ret (.inl rfl) rfl () (OT.val (OT.tmp rfl) (congrArg Value.bool (by rw [hz, hz2]; rfl))) trivial (by repeat (first | exact picks_nil | refine picks_cons 0 rfl ?_ | refine picks_cons 1 rfl ?_ | refine picks_cons 2 rfl ?_ | refine picks_cons 3 rfl ?_ | refine picks_cons 4 rfl ?_ | refine picks_cons 5 rfl ?_ | refine picks_cons 6 rfl ?_))
    · skip
      have hgt : goodB t = true := by simpa using c31
      have hz := encT_good hgt
      have hz2 := encE_good hgt
      have hz3 := decT_text hgt
      have hz4 := decE_text hgt
      refine tr_skip ?_
      refine then_normal ?_
      refine tr_seq ?_
      -- region 7
      refine tr_env (es_cons (t := 1) (OT.tmp rfl) (es_cons (t := 3) (OT.tmp rfl) (es_cons (t := 4) (OT.tmp rfl) (es_cons (t := 5) (OT.tmp rfl) es_nil)))) ?_
      refine tr_region ?_
      refine op_pure (pu_move (OT.tmp rfl)) rfl rfl ?_
      refine op_acts (acts_callM (Decode_fn _ hV (by first | assumption | omega | decide | (simp; omega))) (mk_in hK hn) (show enters Tryd.prog 11 = true from by decide +kernel) (OTs.cons (OT.tmp rfl) OTs.nil) (List.Perm.refl _)) (List.Perm.refl _) rfl rfl (fun _ _ => ?_)
      refine op_pure (pu_move (OT.tmp rfl)) rfl rfl ?_
      refine op_pure (pu_extract (OT.tmp rfl) rfl) rfl rfl ?_
      refine op_pure (pu_extract (OT.tmp rfl) rfl) rfl rfl ?_
      refine op_acts (acts_alloc (z23)) (List.Perm.refl _) rfl rfl (fun g7_5 _ => ?_)
      first
      | refine op_acts (acts_store_var (OT.tmp rfl) (OT.tmp rfl) (by first | exact perm_at 0 rfl | exact perm_at 1 rfl | exact perm_at 2 rfl | exact perm_at 3 rfl | exact perm_at 4 rfl | exact perm_at 5 rfl) (show tyOk Tryd.prog 23 true 3 = true from by decide +kernel)) (by first | exact perm_at 0 rfl | exact perm_at 1 rfl | exact perm_at 2 rfl | exact perm_at 3 rfl | exact perm_at 4 rfl | exact perm_at 5 rfl) rfl rfl (fun _ _ => ?_)
      | refine op_acts (acts_store_own0 (OT.tmp rfl) (OT.tmp rfl) (by first | exact perm_at 0 rfl | exact perm_at 1 rfl | exact perm_at 2 rfl | exact perm_at 3 rfl | exact perm_at 4 rfl | exact perm_at 5 rfl) (by first | omega | assumption | (simp; omega) | (simp [maxLen]; omega) | (simp [maxLen] at *; omega) | (simp; done) | decide) (by first | omega | assumption | (simp; omega) | (simp [maxLen]; omega) | (simp [maxLen] at *; omega) | (simp; done) | decide) (show tyOk Tryd.prog 23 true 3 = true from by decide +kernel)) (by first | exact perm_at 0 rfl | exact perm_at 1 rfl | exact perm_at 2 rfl | exact perm_at 3 rfl | exact perm_at 4 rfl | exact perm_at 5 rfl) rfl rfl (fun _ _ => ?_)
      | refine op_acts (acts_store_arr (OT.tmp rfl) (OT.tmp rfl) (by first | exact perm_at 0 rfl | exact perm_at 1 rfl | exact perm_at 2 rfl | exact perm_at 3 rfl | exact perm_at 4 rfl | exact perm_at 5 rfl) (show tyOk Tryd.prog 23 true 3 = true from by decide +kernel) (by first | omega | assumption | (simp; omega) | (simp [maxLen]; omega) | (simp [maxLen] at *; omega) | (simp; done) | decide) (by first | omega | assumption | (simp; omega) | (simp [maxLen]; omega) | (simp [maxLen] at *; omega) | (simp; done) | decide)) (by first | exact perm_at 0 rfl | exact perm_at 1 rfl | exact perm_at 2 rfl | exact perm_at 3 rfl | exact perm_at 4 rfl | exact perm_at 5 rfl) rfl rfl (fun _ _ => ?_)
      refine op_pure (pu_assign (OT.tmp rfl)) rfl rfl ?_
      refine tr_nil ?_
      refine then_normal ?_
      refine tr_seq ?_
      -- region 8
      refine tr_env (es_cons (t := 1) (OT.tmp rfl) (es_cons (t := 3) (OT.tmp rfl) (es_cons (t := 4) (OT.tmp rfl) (es_cons (t := 5) (OT.tmp rfl) (es_cons (t := 6) (OT.tmp rfl) (es_cons (t := 7) (OT.tmp rfl) es_nil)))))) ?_
      refine tr_region ?_
      refine op_pure (pu_move (OT.tmp rfl)) rfl rfl ?_
      refine op_pure (pu_eql (OT.tmp rfl) OT.const) rfl rfl ?_
      refine op_pure (pu_move (OT.tmp rfl)) rfl rfl ?_
      refine op_gu rfl rfl rfl (OT.gu_mk (OT.tmp rfl)) (fun hg => by (have hg1 := hg.2; (try simp only [decide_eq_true_eq, decide_eq_false_iff_not] at hg1); exact pu_move (by first | exact OT.tmp rfl | exact OT.gu (OT.tmp rfl) hg | exact OT.gu (OT.tmp rfl) hg.1))) rfl ?_
      first
      | refine op_gu rfl rfl rfl (OT.gu_mk (OT.tmp rfl)) (fun hg => by (have hg1 := hg.2; (try simp only [decide_eq_true_eq, decide_eq_false_iff_not] at hg1); exact pu_load (by first | exact OT.tmp rfl | exact OT.gu (OT.tmp rfl) hg | exact OT.gu (OT.tmp rfl) hg.1) (show tyOk Tryd.prog 28 true 3 = true from by decide +kernel))) rfl ?_
      | refine op_gu rfl rfl rfl (OT.gu_mk (OT.tmp rfl)) (fun hg => by (have hg1 := hg.2; (try simp only [decide_eq_true_eq, decide_eq_false_iff_not] at hg1); exact pu_load_var (by first | exact OT.tmp rfl | exact OT.gu (OT.tmp rfl) hg | exact OT.gu (OT.tmp rfl) hg.1) (by first | exact mem_at 0 rfl | exact mem_at 1 rfl | exact mem_at 2 rfl | exact mem_at 3 rfl | exact mem_at 4 rfl | exact mem_at 5 rfl) (show tyOk Tryd.prog 28 true 3 = true from by decide +kernel))) rfl ?_
      | refine op_gu rfl rfl rfl (OT.gu_mk (OT.tmp rfl)) (fun hg => by (have hg1 := hg.2; (try simp only [decide_eq_true_eq, decide_eq_false_iff_not] at hg1); exact pu_load_own0 (by first | exact OT.tmp rfl | exact OT.gu (OT.tmp rfl) hg | exact OT.gu (OT.tmp rfl) hg.1) (by first | exact mem_at 0 rfl | exact mem_at 1 rfl | exact mem_at 2 rfl | exact mem_at 3 rfl | exact mem_at 4 rfl | exact mem_at 5 rfl) (by first | omega | assumption | (simp; omega) | (simp [maxLen]; omega) | (simp [maxLen] at *; omega) | (simp; done) | decide) (by first | omega | assumption | (simp; omega) | (simp [maxLen]; omega) | (simp [maxLen] at *; omega) | (simp; done) | decide) (show tyOk Tryd.prog 28 true 3 = true from by decide +kernel))) rfl ?_
      | refine op_gu rfl rfl rfl (OT.gu_mk (OT.tmp rfl)) (fun hg => by (have hg1 := hg.2; (try simp only [decide_eq_true_eq, decide_eq_false_iff_not] at hg1); exact pu_load_arr (by first | exact OT.tmp rfl | exact OT.gu (OT.tmp rfl) hg | exact OT.gu (OT.tmp rfl) hg.1) (by first | exact mem_at 0 rfl | exact mem_at 1 rfl | exact mem_at 2 rfl | exact mem_at 3 rfl | exact mem_at 4 rfl | exact mem_at 5 rfl) (show tyOk Tryd.prog 28 true 3 = true from by decide +kernel) (by first | omega | assumption | (simp; omega) | (simp [maxLen]; omega) | (simp [maxLen] at *; omega) | (simp; done) | decide) (by first | omega | assumption | (simp; omega) | (simp [maxLen]; omega) | (simp [maxLen] at *; omega) | (simp; done) | decide))) rfl ?_
      | refine op_gu rfl rfl rfl (OT.gu_mk (OT.tmp rfl)) (fun hg => by (have hg1 := hg.2; (try simp only [decide_eq_true_eq, decide_eq_false_iff_not] at hg1); exact pu_load_p0 (by first | exact OT.tmp rfl | exact OT.gu (OT.tmp rfl) hg | exact OT.gu (OT.tmp rfl) hg.1) (by first | exact mem_at 0 rfl | exact mem_at 1 rfl | exact mem_at 2 rfl | exact mem_at 3 rfl | exact mem_at 4 rfl | exact mem_at 5 rfl) (show tyOk Tryd.prog 28 true 3 = true from by decide +kernel))) rfl ?_
      | refine op_gu rfl rfl rfl (OT.gu_mk (OT.tmp rfl)) (fun hg => by (have hg1 := hg.2; (try simp only [decide_eq_true_eq, decide_eq_false_iff_not] at hg1); exact pu_load_p1 (by first | exact OT.tmp rfl | exact OT.gu (OT.tmp rfl) hg | exact OT.gu (OT.tmp rfl) hg.1) (by first | exact mem_at 0 rfl | exact mem_at 1 rfl | exact mem_at 2 rfl | exact mem_at 3 rfl | exact mem_at 4 rfl | exact mem_at 5 rfl) (show tyOk Tryd.prog 28 true 3 = true from by decide +kernel))) rfl ?_
      | refine op_gu rfl rfl rfl (OT.gu_mk (OT.tmp rfl)) (fun hg => by (have hg1 := hg.2; (try simp only [decide_eq_true_eq, decide_eq_false_iff_not] at hg1); exact pu_load_q (by first | exact OT.tmp rfl | exact OT.gu (OT.tmp rfl) hg | exact OT.gu (OT.tmp rfl) hg.1) (by first | exact mem_at 0 rfl | exact mem_at 1 rfl | exact mem_at 2 rfl | exact mem_at 3 rfl | exact mem_at 4 rfl | exact mem_at 5 rfl) (by first | omega | assumption | (simp; omega) | (simp [maxLen]; omega) | (simp [maxLen] at *; omega) | (simp; done) | decide) (by first | omega | assumption | (simp; omega) | (simp [maxLen]; omega) | (simp [maxLen] at *; omega) | (simp; done) | decide) (show tyOk Tryd.prog 28 true 3 = true from by decide +kernel))) rfl ?_
      refine op_gu_acts () rfl rfl rfl (OT.gu_mk (OT.tmp rfl)) (fun hg => by (have hg1 := hg.2; (try simp only [decide_eq_true_eq, decide_eq_false_iff_not] at hg1); exact acts_call (Text_fn _ (by assumption)) (show enters Tryd.prog 12 = true from by decide +kernel) (OTs.cons (by first | exact OT.gu (OT.tmp rfl) hg | exact OT.gu (OT.tmp rfl) hg.1 | exact OT.tmp rfl) OTs.nil) (List.Perm.refl _))) rfl (fun _ _ => ?_)
      first
      | refine op_gu rfl rfl rfl (OT.gu_mk (OT.tmp rfl)) (fun hg => by (have hg1 := hg.2; (try simp only [decide_eq_true_eq, decide_eq_false_iff_not] at hg1); exact pu_bs_eql (by first | exact OT.gu (OT.tmp rfl) hg | exact OT.gu (OT.tmp rfl) hg.1 | exact OT.tmp rfl) (by first | exact OT.gu (OT.tmp rfl) hg | exact OT.gu (OT.tmp rfl) hg.1 | exact OT.tmp rfl))) rfl ?_
      | refine op_gu rfl rfl rfl (OT.gu_mk (OT.tmp rfl)) (fun hg => by (have hg1 := hg.2; (try simp only [decide_eq_true_eq, decide_eq_false_iff_not] at hg1); exact pu_str_eql (by first | exact OT.gu (OT.tmp rfl) hg | exact OT.gu (OT.tmp rfl) hg.1 | exact OT.tmp rfl) (by first | exact OT.gu (OT.tmp rfl) hg | exact OT.gu (OT.tmp rfl) hg.1 | exact OT.tmp rfl))) rfl ?_
      refine op_pure (pu_pick_and (OT.tmp rfl) (by first | exact OT.tmp rfl | exact OT.gu_in (OT.tmp rfl) ⟨trivial, rfl⟩)) rfl rfl ?_
      refine op_pure (pu_move (OT.tmp rfl)) rfl rfl ?_
      refine op_gu rfl rfl rfl (OT.gu_mk (OT.tmp rfl)) (fun hg => by (have hg1 := hg.2; (try simp only [decide_eq_true_eq, decide_eq_false_iff_not] at hg1); exact pu_move (by first | exact OT.tmp rfl | exact OT.gu (OT.tmp rfl) hg | exact OT.gu (OT.tmp rfl) hg.1))) rfl ?_
      refine op_gu rfl rfl rfl (OT.gu_mk (OT.tmp rfl)) (fun hg => by (have hg1 := hg.2; (try simp only [decide_eq_true_eq, decide_eq_false_iff_not] at hg1); exact pu_eql (by first | exact OT.gu (OT.tmp rfl) hg | exact OT.gu (OT.tmp rfl) hg.1 | exact OT.tmp rfl) OT.const)) rfl ?_
      refine op_pure (pu_pick_and (OT.tmp rfl) (by first | exact OT.tmp rfl | exact OT.gu_in (OT.tmp rfl) ⟨trivial, rfl⟩)) rfl rfl ?_
      refine op_pure (pu_move (OT.tmp rfl)) rfl rfl ?_
      first
      | refine op_gu rfl rfl rfl (OT.gu_mk (OT.tmp rfl)) (fun hg => by (have hg1 := hg.2; (try simp only [decide_eq_true_eq, decide_eq_false_iff_not] at hg1); exact pu_load (by first | exact OT.tmp rfl | exact OT.gu (OT.tmp rfl) hg | exact OT.gu (OT.tmp rfl) hg.1) (show tyOk Tryd.prog 23 true 3 = true from by decide +kernel))) rfl ?_
      | refine op_gu rfl rfl rfl (OT.gu_mk (OT.tmp rfl)) (fun hg => by (have hg1 := hg.2; (try simp only [decide_eq_true_eq, decide_eq_false_iff_not] at hg1); exact pu_load_var (by first | exact OT.tmp rfl | exact OT.gu (OT.tmp rfl) hg | exact OT.gu (OT.tmp rfl) hg.1) (by first | exact mem_at 0 rfl | exact mem_at 1 rfl | exact mem_at 2 rfl | exact mem_at 3 rfl | exact mem_at 4 rfl | exact mem_at 5 rfl) (show tyOk Tryd.prog 23 true 3 = true from by decide +kernel))) rfl ?_
      | refine op_gu rfl rfl rfl (OT.gu_mk (OT.tmp rfl)) (fun hg => by (have hg1 := hg.2; (try simp only [decide_eq_true_eq, decide_eq_false_iff_not] at hg1); exact pu_load_own0 (by first | exact OT.tmp rfl | exact OT.gu (OT.tmp rfl) hg | exact OT.gu (OT.tmp rfl) hg.1) (by first | exact mem_at 0 rfl | exact mem_at 1 rfl | exact mem_at 2 rfl | exact mem_at 3 rfl | exact mem_at 4 rfl | exact mem_at 5 rfl) (by first | omega | assumption | (simp; omega) | (simp [maxLen]; omega) | (simp [maxLen] at *; omega) | (simp; done) | decide) (by first | omega | assumption | (simp; omega) | (simp [maxLen]; omega) | (simp [maxLen] at *; omega) | (simp; done) | decide) (show tyOk Tryd.prog 23 true 3 = true from by decide +kernel))) rfl ?_
      | refine op_gu rfl rfl rfl (OT.gu_mk (OT.tmp rfl)) (fun hg => by (have hg1 := hg.2; (try simp only [decide_eq_true_eq, decide_eq_false_iff_not] at hg1); exact pu_load_arr (by first | exact OT.tmp rfl | exact OT.gu (OT.tmp rfl) hg | exact OT.gu (OT.tmp rfl) hg.1) (by first | exact mem_at 0 rfl | exact mem_at 1 rfl | exact mem_at 2 rfl | exact mem_at 3 rfl | exact mem_at 4 rfl | exact mem_at 5 rfl) (show tyOk Tryd.prog 23 true 3 = true from by decide +kernel) (by first | omega | assumption | (simp; omega) | (simp [maxLen]; omega) | (simp [maxLen] at *; omega) | (simp; done) | decide) (by first | omega | assumption | (simp; omega) | (simp [maxLen]; omega) | (simp [maxLen] at *; omega) | (simp; done) | decide))) rfl ?_
      | refine op_gu rfl rfl rfl (OT.gu_mk (OT.tmp rfl)) (fun hg => by (have hg1 := hg.2; (try simp only [decide_eq_true_eq, decide_eq_false_iff_not] at hg1); exact pu_load_p0 (by first | exact OT.tmp rfl | exact OT.gu (OT.tmp rfl) hg | exact OT.gu (OT.tmp rfl) hg.1) (by first | exact mem_at 0 rfl | exact mem_at 1 rfl | exact mem_at 2 rfl | exact mem_at 3 rfl | exact mem_at 4 rfl | exact mem_at 5 rfl) (show tyOk Tryd.prog 23 true 3 = true from by decide +kernel))) rfl ?_
      | refine op_gu rfl rfl rfl (OT.gu_mk (OT.tmp rfl)) (fun hg => by (have hg1 := hg.2; (try simp only [decide_eq_true_eq, decide_eq_false_iff_not] at hg1); exact pu_load_p1 (by first | exact OT.tmp rfl | exact OT.gu (OT.tmp rfl) hg | exact OT.gu (OT.tmp rfl) hg.1) (by first | exact mem_at 0 rfl | exact mem_at 1 rfl | exact mem_at 2 rfl | exact mem_at 3 rfl | exact mem_at 4 rfl | exact mem_at 5 rfl) (show tyOk Tryd.prog 23 true 3 = true from by decide +kernel))) rfl ?_
      | refine op_gu rfl rfl rfl (OT.gu_mk (OT.tmp rfl)) (fun hg => by (have hg1 := hg.2; (try simp only [decide_eq_true_eq, decide_eq_false_iff_not] at hg1); exact pu_load_q (by first | exact OT.tmp rfl | exact OT.gu (OT.tmp rfl) hg | exact OT.gu (OT.tmp rfl) hg.1) (by first | exact mem_at 0 rfl | exact mem_at 1 rfl | exact mem_at 2 rfl | exact mem_at 3 rfl | exact mem_at 4 rfl | exact mem_at 5 rfl) (by first | omega | assumption | (simp; omega) | (simp [maxLen]; omega) | (simp [maxLen] at *; omega) | (simp; done) | decide) (by first | omega | assumption | (simp; omega) | (simp [maxLen]; omega) | (simp [maxLen] at *; omega) | (simp; done) | decide) (show tyOk Tryd.prog 23 true 3 = true from by decide +kernel))) rfl ?_
      first
      | refine op_gu rfl rfl rfl (OT.gu_mk (OT.tmp rfl)) (fun hg => by (have hg1 := hg.2; (try simp only [decide_eq_true_eq, decide_eq_false_iff_not] at hg1); exact pu_load (by first | exact OT.tmp rfl | exact OT.gu (OT.tmp rfl) hg | exact OT.gu (OT.tmp rfl) hg.1) (show tyOk Tryd.prog 23 true 3 = true from by decide +kernel))) rfl ?_
      | refine op_gu rfl rfl rfl (OT.gu_mk (OT.tmp rfl)) (fun hg => by (have hg1 := hg.2; (try simp only [decide_eq_true_eq, decide_eq_false_iff_not] at hg1); exact pu_load_var (by first | exact OT.tmp rfl | exact OT.gu (OT.tmp rfl) hg | exact OT.gu (OT.tmp rfl) hg.1) (by first | exact mem_at 0 rfl | exact mem_at 1 rfl | exact mem_at 2 rfl | exact mem_at 3 rfl | exact mem_at 4 rfl | exact mem_at 5 rfl) (show tyOk Tryd.prog 23 true 3 = true from by decide +kernel))) rfl ?_
      | refine op_gu rfl rfl rfl (OT.gu_mk (OT.tmp rfl)) (fun hg => by (have hg1 := hg.2; (try simp only [decide_eq_true_eq, decide_eq_false_iff_not] at hg1); exact pu_load_own0 (by first | exact OT.tmp rfl | exact OT.gu (OT.tmp rfl) hg | exact OT.gu (OT.tmp rfl) hg.1) (by first | exact mem_at 0 rfl | exact mem_at 1 rfl | exact mem_at 2 rfl | exact mem_at 3 rfl | exact mem_at 4 rfl | exact mem_at 5 rfl) (by first | omega | assumption | (simp; omega) | (simp [maxLen]; omega) | (simp [maxLen] at *; omega) | (simp; done) | decide) (by first | omega | assumption | (simp; omega) | (simp [maxLen]; omega) | (simp [maxLen] at *; omega) | (simp; done) | decide) (show tyOk Tryd.prog 23 true 3 = true from by decide +kernel))) rfl ?_
      | refine op_gu rfl rfl rfl (OT.gu_mk (OT.tmp rfl)) (fun hg => by (have hg1 := hg.2; (try simp only [decide_eq_true_eq, decide_eq_false_iff_not] at hg1); exact pu_load_arr (by first | exact OT.tmp rfl | exact OT.gu (OT.tmp rfl) hg | exact OT.gu (OT.tmp rfl) hg.1) (by first | exact mem_at 0 rfl | exact mem_at 1 rfl | exact mem_at 2 rfl | exact mem_at 3 rfl | exact mem_at 4 rfl | exact mem_at 5 rfl) (show tyOk Tryd.prog 23 true 3 = true from by decide +kernel) (by first | omega | assumption | (simp; omega) | (simp [maxLen]; omega) | (simp [maxLen] at *; omega) | (simp; done) | decide) (by first | omega | assumption | (simp; omega) | (simp [maxLen]; omega) | (simp [maxLen] at *; omega) | (simp; done) | decide))) rfl ?_
      | refine op_gu rfl rfl rfl (OT.gu_mk (OT.tmp rfl)) (fun hg => by (have hg1 := hg.2; (try simp only [decide_eq_true_eq, decide_eq_false_iff_not] at hg1); exact pu_load_p0 (by first | exact OT.tmp rfl | exact OT.gu (OT.tmp rfl) hg | exact OT.gu (OT.tmp rfl) hg.1) (by first | exact mem_at 0 rfl | exact mem_at 1 rfl | exact mem_at 2 rfl | exact mem_at 3 rfl | exact mem_at 4 rfl | exact mem_at 5 rfl) (show tyOk Tryd.prog 23 true 3 = true from by decide +kernel))) rfl ?_
      | refine op_gu rfl rfl rfl (OT.gu_mk (OT.tmp rfl)) (fun hg => by (have hg1 := hg.2; (try simp only [decide_eq_true_eq, decide_eq_false_iff_not] at hg1); exact pu_load_p1 (by first | exact OT.tmp rfl | exact OT.gu (OT.tmp rfl) hg | exact OT.gu (OT.tmp rfl) hg.1) (by first | exact mem_at 0 rfl | exact mem_at 1 rfl | exact mem_at 2 rfl | exact mem_at 3 rfl | exact mem_at 4 rfl | exact mem_at 5 rfl) (show tyOk Tryd.prog 23 true 3 = true from by decide +kernel))) rfl ?_
      | refine op_gu rfl rfl rfl (OT.gu_mk (OT.tmp rfl)) (fun hg => by (have hg1 := hg.2; (try simp only [decide_eq_true_eq, decide_eq_false_iff_not] at hg1); exact pu_load_q (by first | exact OT.tmp rfl | exact OT.gu (OT.tmp rfl) hg | exact OT.gu (OT.tmp rfl) hg.1) (by first | exact mem_at 0 rfl | exact mem_at 1 rfl | exact mem_at 2 rfl | exact mem_at 3 rfl | exact mem_at 4 rfl | exact mem_at 5 rfl) (by first | omega | assumption | (simp; omega) | (simp [maxLen]; omega) | (simp [maxLen] at *; omega) | (simp; done) | decide) (by first | omega | assumption | (simp; omega) | (simp [maxLen]; omega) | (simp [maxLen] at *; omega) | (simp; done) | decide) (show tyOk Tryd.prog 23 true 3 = true from by decide +kernel))) rfl ?_
      refine op_gu rfl rfl rfl (OT.gu_mk (OT.tmp rfl)) (fun hg => by (have hg1 := hg.2; (try simp only [decide_eq_true_eq, decide_eq_false_iff_not] at hg1); exact pu_eq_of eq23 (by first | exact OT.gu (OT.tmp rfl) hg | exact OT.gu (OT.tmp rfl) hg.1 | exact OT.tmp rfl) (by first | exact OT.gu (OT.tmp rfl) hg | exact OT.gu (OT.tmp rfl) hg.1 | exact OT.tmp rfl))) rfl ?_
      refine op_pure (pu_pick_and (OT.tmp rfl) (by first | exact OT.tmp rfl | exact OT.gu_in (OT.tmp rfl) ⟨trivial, rfl⟩)) rfl rfl ?_
      refine op_pure (pu_assign (OT.tmp rfl)) rfl rfl ?_
      refine tr_nil ?_
      refine then_normal ?_
      refine tr_ret ?_
      exact ret_one .ret (.inl rfl) rfl () (OT.val (OT.tmp rfl) (congrArg Value.bool (by rw [hz, hz2, hz3, hz4]; simp))) trivial (by repeat (first | exact picks_nil | refine picks_cons 0 rfl ?_ | refine picks_cons 1 rfl ?_ | refine picks_cons 2 rfl ?_ | refine picks_cons 3 rfl ?_ | refine picks_cons 4 rfl ?_ | refine picks_cons 5 rfl ?_ | refine picks_cons 6 rfl ?_))
set_option maxRecDepth 20000 in
/-- rhizome/rhizomelaw19.TokenReads -/
theorem TokenReads_fn {K0 : FH} {n0 : Nat} (l : List UInt8) (hV : VarsK K0) (hm : l.length ≤ maxLen) : CtM K0 n0 Tryd.prog 4 [BsT l] ([]) Unit (fun _ => BoolT true) (fun _ => []) (fun _ => True) := by
  refine fn_introM Tryd.func4 rfl rfl ?_
  intro H w hK hn
  unfold maxLen at hm
  refine tr_seq ?_
  -- region 0
  refine tr_env (es_cons (t := 0) (OT.tmp rfl) es_nil) ?_
  refine tr_region ?_
  refine op_pure (pu_assign OT.const) rfl rfl ?_
  refine tr_nil ?_
  refine then_normal ?_
  refine tr_seq ?_
  refine tr_seq ?_
  -- region 1
  refine tr_env (es_cons (t := 0) (OT.tmp rfl) es_nil) ?_
  refine tr_region ?_
  refine op_acts (acts_callM (awake_fn hV) (mk_in hK hn) (show enters Tryd.prog 8 = true from by decide +kernel) OTs.nil (List.Perm.refl _)) (List.Perm.refl _) rfl rfl (fun _ _ => ?_)
  refine op_pure (pu_not (OT.tmp rfl)) rfl rfl ?_
  refine op_pure (pu_move (OT.tmp rfl)) rfl rfl ?_
  refine op_gu rfl rfl rfl (OT.gu_mk (OT.tmp rfl)) (fun hg => by (have hg1 := hg.2; (try simp only [decide_eq_true_eq, decide_eq_false_iff_not] at hg1); exact pu_move (by first | exact OT.tmp rfl | exact OT.gu (OT.tmp rfl) hg | exact OT.gu (OT.tmp rfl) hg.1))) rfl ?_
  first
  | refine op_gu rfl rfl rfl (OT.gu_mk (OT.tmp rfl)) (fun hg => by (have hg1 := hg.2; (try simp only [decide_eq_true_eq, decide_eq_false_iff_not] at hg1); exact pu_len_bs Tryd.underlying9 (by first | exact OT.gu (OT.tmp rfl) hg | exact OT.gu (OT.tmp rfl) hg.1 | exact OT.tmp rfl))) rfl ?_
  | refine op_gu rfl rfl rfl (OT.gu_mk (OT.tmp rfl)) (fun hg => by (have hg1 := hg.2; (try simp only [decide_eq_true_eq, decide_eq_false_iff_not] at hg1); exact pu_len_str Tryd.underlying9 (by first | exact OT.gu (OT.tmp rfl) hg | exact OT.gu (OT.tmp rfl) hg.1 | exact OT.tmp rfl))) rfl ?_
  refine op_gu rfl rfl rfl (OT.gu_mk (OT.tmp rfl)) (fun hg => by (have hg1 := hg.2; (try simp only [decide_eq_true_eq, decide_eq_false_iff_not] at hg1); exact pu_gtr (by first | exact OT.gu (OT.tmp rfl) hg | exact OT.gu (OT.tmp rfl) hg.1 | exact OT.tmp rfl) OT.const)) rfl ?_
  refine op_pure (pu_pick_or (OT.tmp rfl) (by first | exact OT.tmp rfl | exact OT.gu_in (OT.tmp rfl) ⟨trivial, rfl⟩)) rfl rfl ?_
  refine tr_nil ?_
  refine then_normal ?_
  refine tr_cond (OT.tmp rfl) (fun c15 => ?_) (fun c15 => ?_)
  · skip
    refine tr_seq ?_
    -- region 2
    refine tr_env es_nil ?_
    refine tr_region ?_
    refine op_acts (acts_callM (awake_fn hV) (mk_in hK hn) (show enters Tryd.prog 8 = true from by decide +kernel) OTs.nil (List.Perm.refl _)) (List.Perm.refl _) rfl rfl (fun _ _ => ?_)
    refine op_pure (pu_assign (OT.tmp rfl)) rfl rfl ?_
    refine tr_nil ?_
    refine then_normal ?_
    refine tr_ret ?_
    refine then_ret ?_
    exact ret_one .ret (.inl rfl) rfl () (OT.val (OT.tmp rfl) (congrArg Value.bool (rfl))) trivial (by repeat (first | exact picks_nil | refine picks_cons 0 rfl ?_ | refine picks_cons 1 rfl ?_ | refine picks_cons 2 rfl ?_ | refine picks_cons 3 rfl ?_ | refine picks_cons 4 rfl ?_ | refine picks_cons 5 rfl ?_ | refine picks_cons 6 rfl ?_))
  · skip
    have hl3 : l.length ≤ 3000 := by have h9 : (l.length : Int) ≤ 3000 := (by simpa using c15); omega
    refine tr_skip ?_
    refine then_normal ?_
    refine tr_seq ?_
    -- region 3
    refine tr_env (es_cons (t := 0) (OT.tmp rfl) es_nil) ?_
    refine tr_region ?_
    refine op_pure (pu_move (OT.tmp rfl)) rfl rfl ?_
    refine op_acts (acts_callM (Decode_fn _ hV (by first | assumption | omega | decide | (simp; omega))) (mk_in hK hn) (show enters Tryd.prog 11 = true from by decide +kernel) (OTs.cons (OT.tmp rfl) OTs.nil) (List.Perm.refl _)) (List.Perm.refl _) rfl rfl (fun _ _ => ?_)
    refine op_pure (pu_move (OT.tmp rfl)) rfl rfl ?_
    refine op_pure (pu_extract (OT.tmp rfl) rfl) rfl rfl ?_
    refine op_pure (pu_extract (OT.tmp rfl) rfl) rfl rfl ?_
    refine op_acts (acts_alloc (z23)) (List.Perm.refl _) rfl rfl (fun g3_5 _ => ?_)
    first
    | refine op_acts (acts_store_var (OT.tmp rfl) (OT.tmp rfl) (by first | exact perm_at 0 rfl | exact perm_at 1 rfl | exact perm_at 2 rfl | exact perm_at 3 rfl | exact perm_at 4 rfl | exact perm_at 5 rfl) (show tyOk Tryd.prog 23 true 3 = true from by decide +kernel)) (by first | exact perm_at 0 rfl | exact perm_at 1 rfl | exact perm_at 2 rfl | exact perm_at 3 rfl | exact perm_at 4 rfl | exact perm_at 5 rfl) rfl rfl (fun _ _ => ?_)
    | refine op_acts (acts_store_own0 (OT.tmp rfl) (OT.tmp rfl) (by first | exact perm_at 0 rfl | exact perm_at 1 rfl | exact perm_at 2 rfl | exact perm_at 3 rfl | exact perm_at 4 rfl | exact perm_at 5 rfl) (by first | omega | assumption | (simp; omega) | (simp [maxLen]; omega) | (simp [maxLen] at *; omega) | (simp; done) | decide) (by first | omega | assumption | (simp; omega) | (simp [maxLen]; omega) | (simp [maxLen] at *; omega) | (simp; done) | decide) (show tyOk Tryd.prog 23 true 3 = true from by decide +kernel)) (by first | exact perm_at 0 rfl | exact perm_at 1 rfl | exact perm_at 2 rfl | exact perm_at 3 rfl | exact perm_at 4 rfl | exact perm_at 5 rfl) rfl rfl (fun _ _ => ?_)
    | refine op_acts (acts_store_arr (OT.tmp rfl) (OT.tmp rfl) (by first | exact perm_at 0 rfl | exact perm_at 1 rfl | exact perm_at 2 rfl | exact perm_at 3 rfl | exact perm_at 4 rfl | exact perm_at 5 rfl) (show tyOk Tryd.prog 23 true 3 = true from by decide +kernel) (by first | omega | assumption | (simp; omega) | (simp [maxLen]; omega) | (simp [maxLen] at *; omega) | (simp; done) | decide) (by first | omega | assumption | (simp; omega) | (simp [maxLen]; omega) | (simp [maxLen] at *; omega) | (simp; done) | decide)) (by first | exact perm_at 0 rfl | exact perm_at 1 rfl | exact perm_at 2 rfl | exact perm_at 3 rfl | exact perm_at 4 rfl | exact perm_at 5 rfl) rfl rfl (fun _ _ => ?_)
    refine op_pure (pu_assign (OT.tmp rfl)) rfl rfl ?_
    refine tr_nil ?_
    refine then_normal ?_
    refine tr_seq ?_
    -- region 4
    refine tr_env (es_cons (t := 0) (OT.tmp rfl) (es_cons (t := 3) (OT.tmp rfl) (es_cons (t := 4) (OT.tmp rfl) es_nil))) ?_
    refine tr_region ?_
    refine op_pure (pu_move (OT.tmp rfl)) rfl rfl ?_
    refine op_acts (acts_call (rDecode_fn _ (by first | assumption | omega)) (show enters Tryd.prog 13 = true from by decide +kernel) (OTs.cons (OT.tmp rfl) OTs.nil) (List.Perm.refl _)) (List.Perm.refl _) rfl rfl (fun _ _ => ?_)
    refine op_pure (pu_move (OT.tmp rfl)) rfl rfl ?_
    refine op_pure (pu_extract (OT.tmp rfl) rfl) rfl rfl ?_
    refine op_pure (pu_extract (OT.tmp rfl) rfl) rfl rfl ?_
    refine op_acts (acts_alloc (z28)) (List.Perm.refl _) rfl rfl (fun g4_5 _ => ?_)
    first
    | refine op_acts (acts_store_var (OT.tmp rfl) (OT.tmp rfl) (by first | exact perm_at 0 rfl | exact perm_at 1 rfl | exact perm_at 2 rfl | exact perm_at 3 rfl | exact perm_at 4 rfl | exact perm_at 5 rfl) (show tyOk Tryd.prog 28 true 3 = true from by decide +kernel)) (by first | exact perm_at 0 rfl | exact perm_at 1 rfl | exact perm_at 2 rfl | exact perm_at 3 rfl | exact perm_at 4 rfl | exact perm_at 5 rfl) rfl rfl (fun _ _ => ?_)
    | refine op_acts (acts_store_own0 (OT.tmp rfl) (OT.tmp rfl) (by first | exact perm_at 0 rfl | exact perm_at 1 rfl | exact perm_at 2 rfl | exact perm_at 3 rfl | exact perm_at 4 rfl | exact perm_at 5 rfl) (by first | omega | assumption | (simp; omega) | (simp [maxLen]; omega) | (simp [maxLen] at *; omega) | (simp; done) | decide) (by first | omega | assumption | (simp; omega) | (simp [maxLen]; omega) | (simp [maxLen] at *; omega) | (simp; done) | decide) (show tyOk Tryd.prog 28 true 3 = true from by decide +kernel)) (by first | exact perm_at 0 rfl | exact perm_at 1 rfl | exact perm_at 2 rfl | exact perm_at 3 rfl | exact perm_at 4 rfl | exact perm_at 5 rfl) rfl rfl (fun _ _ => ?_)
    | refine op_acts (acts_store_arr (OT.tmp rfl) (OT.tmp rfl) (by first | exact perm_at 0 rfl | exact perm_at 1 rfl | exact perm_at 2 rfl | exact perm_at 3 rfl | exact perm_at 4 rfl | exact perm_at 5 rfl) (show tyOk Tryd.prog 28 true 3 = true from by decide +kernel) (by first | omega | assumption | (simp; omega) | (simp [maxLen]; omega) | (simp [maxLen] at *; omega) | (simp; done) | decide) (by first | omega | assumption | (simp; omega) | (simp [maxLen]; omega) | (simp [maxLen] at *; omega) | (simp; done) | decide)) (by first | exact perm_at 0 rfl | exact perm_at 1 rfl | exact perm_at 2 rfl | exact perm_at 3 rfl | exact perm_at 4 rfl | exact perm_at 5 rfl) rfl rfl (fun _ _ => ?_)
    refine op_pure (pu_assign (OT.tmp rfl)) rfl rfl ?_
    refine tr_nil ?_
    refine then_normal ?_
    refine tr_seq ?_
    refine tr_seq ?_
    -- region 5
    refine tr_env (es_cons (t := 0) (OT.tmp rfl) (es_cons (t := 3) (OT.tmp rfl) (es_cons (t := 4) (OT.tmp rfl) (es_cons (t := 5) (OT.tmp rfl) (es_cons (t := 6) (OT.tmp rfl) es_nil))))) ?_
    refine tr_region ?_
    refine op_pure (pu_move (OT.tmp rfl)) rfl rfl ?_
    refine op_pure (pu_not (OT.tmp rfl)) rfl rfl ?_
    refine tr_nil ?_
    refine then_normal ?_
    refine tr_cond (OT.tmp rfl) (fun c28 => ?_) (fun c28 => ?_)
    · skip
      have hno : decOk l = false := by rw [← ref_dec]; simpa using c28
      have hz : decT l = zeroT := by rw [decT, hno]; rfl
      have hz2 : decE l = 190 := by rw [decE, hno]; rfl
      refine tr_seq ?_
      -- region 6
      refine tr_env (es_cons (t := 3) (OT.tmp rfl) (es_cons (t := 4) (OT.tmp rfl) es_nil)) ?_
      refine tr_region ?_
      refine op_pure (pu_move (OT.tmp rfl)) rfl rfl ?_
      refine op_pure (pu_eql (OT.tmp rfl) OT.const) rfl rfl ?_
      refine op_pure (pu_move (OT.tmp rfl)) rfl rfl ?_
      first
      | refine op_gu rfl rfl rfl (OT.gu_mk (OT.tmp rfl)) (fun hg => by (have hg1 := hg.2; (try simp only [decide_eq_true_eq, decide_eq_false_iff_not] at hg1); exact pu_load (by first | exact OT.tmp rfl | exact OT.gu (OT.tmp rfl) hg | exact OT.gu (OT.tmp rfl) hg.1) (show tyOk Tryd.prog 23 true 3 = true from by decide +kernel))) rfl ?_
      | refine op_gu rfl rfl rfl (OT.gu_mk (OT.tmp rfl)) (fun hg => by (have hg1 := hg.2; (try simp only [decide_eq_true_eq, decide_eq_false_iff_not] at hg1); exact pu_load_var (by first | exact OT.tmp rfl | exact OT.gu (OT.tmp rfl) hg | exact OT.gu (OT.tmp rfl) hg.1) (by first | exact mem_at 0 rfl | exact mem_at 1 rfl | exact mem_at 2 rfl | exact mem_at 3 rfl | exact mem_at 4 rfl | exact mem_at 5 rfl) (show tyOk Tryd.prog 23 true 3 = true from by decide +kernel))) rfl ?_
      | refine op_gu rfl rfl rfl (OT.gu_mk (OT.tmp rfl)) (fun hg => by (have hg1 := hg.2; (try simp only [decide_eq_true_eq, decide_eq_false_iff_not] at hg1); exact pu_load_own0 (by first | exact OT.tmp rfl | exact OT.gu (OT.tmp rfl) hg | exact OT.gu (OT.tmp rfl) hg.1) (by first | exact mem_at 0 rfl | exact mem_at 1 rfl | exact mem_at 2 rfl | exact mem_at 3 rfl | exact mem_at 4 rfl | exact mem_at 5 rfl) (by first | omega | assumption | (simp; omega) | (simp [maxLen]; omega) | (simp [maxLen] at *; omega) | (simp; done) | decide) (by first | omega | assumption | (simp; omega) | (simp [maxLen]; omega) | (simp [maxLen] at *; omega) | (simp; done) | decide) (show tyOk Tryd.prog 23 true 3 = true from by decide +kernel))) rfl ?_
      | refine op_gu rfl rfl rfl (OT.gu_mk (OT.tmp rfl)) (fun hg => by (have hg1 := hg.2; (try simp only [decide_eq_true_eq, decide_eq_false_iff_not] at hg1); exact pu_load_arr (by first | exact OT.tmp rfl | exact OT.gu (OT.tmp rfl) hg | exact OT.gu (OT.tmp rfl) hg.1) (by first | exact mem_at 0 rfl | exact mem_at 1 rfl | exact mem_at 2 rfl | exact mem_at 3 rfl | exact mem_at 4 rfl | exact mem_at 5 rfl) (show tyOk Tryd.prog 23 true 3 = true from by decide +kernel) (by first | omega | assumption | (simp; omega) | (simp [maxLen]; omega) | (simp [maxLen] at *; omega) | (simp; done) | decide) (by first | omega | assumption | (simp; omega) | (simp [maxLen]; omega) | (simp [maxLen] at *; omega) | (simp; done) | decide))) rfl ?_
      | refine op_gu rfl rfl rfl (OT.gu_mk (OT.tmp rfl)) (fun hg => by (have hg1 := hg.2; (try simp only [decide_eq_true_eq, decide_eq_false_iff_not] at hg1); exact pu_load_p0 (by first | exact OT.tmp rfl | exact OT.gu (OT.tmp rfl) hg | exact OT.gu (OT.tmp rfl) hg.1) (by first | exact mem_at 0 rfl | exact mem_at 1 rfl | exact mem_at 2 rfl | exact mem_at 3 rfl | exact mem_at 4 rfl | exact mem_at 5 rfl) (show tyOk Tryd.prog 23 true 3 = true from by decide +kernel))) rfl ?_
      | refine op_gu rfl rfl rfl (OT.gu_mk (OT.tmp rfl)) (fun hg => by (have hg1 := hg.2; (try simp only [decide_eq_true_eq, decide_eq_false_iff_not] at hg1); exact pu_load_p1 (by first | exact OT.tmp rfl | exact OT.gu (OT.tmp rfl) hg | exact OT.gu (OT.tmp rfl) hg.1) (by first | exact mem_at 0 rfl | exact mem_at 1 rfl | exact mem_at 2 rfl | exact mem_at 3 rfl | exact mem_at 4 rfl | exact mem_at 5 rfl) (show tyOk Tryd.prog 23 true 3 = true from by decide +kernel))) rfl ?_
      | refine op_gu rfl rfl rfl (OT.gu_mk (OT.tmp rfl)) (fun hg => by (have hg1 := hg.2; (try simp only [decide_eq_true_eq, decide_eq_false_iff_not] at hg1); exact pu_load_q (by first | exact OT.tmp rfl | exact OT.gu (OT.tmp rfl) hg | exact OT.gu (OT.tmp rfl) hg.1) (by first | exact mem_at 0 rfl | exact mem_at 1 rfl | exact mem_at 2 rfl | exact mem_at 3 rfl | exact mem_at 4 rfl | exact mem_at 5 rfl) (by first | omega | assumption | (simp; omega) | (simp [maxLen]; omega) | (simp [maxLen] at *; omega) | (simp; done) | decide) (by first | omega | assumption | (simp; omega) | (simp [maxLen]; omega) | (simp [maxLen] at *; omega) | (simp; done) | decide) (show tyOk Tryd.prog 23 true 3 = true from by decide +kernel))) rfl ?_
      refine op_gu rfl rfl rfl (OT.gu_mk (OT.tmp rfl)) (fun hg => by (have hg1 := hg.2; (try simp only [decide_eq_true_eq, decide_eq_false_iff_not] at hg1); exact pu_build (d := kTok) (v0 := zeroT) (ps := [(0, 1), (1, 1), (2, 1)]) z23 (by kernel_rfl) rfl fills_nil)) rfl ?_
      refine op_gu rfl rfl rfl (OT.gu_mk (OT.tmp rfl)) (fun hg => by (have hg1 := hg.2; (try simp only [decide_eq_true_eq, decide_eq_false_iff_not] at hg1); exact pu_eq_of eq23 (by first | exact OT.gu (OT.tmp rfl) hg | exact OT.gu (OT.tmp rfl) hg.1 | exact OT.tmp rfl) (by first | exact OT.gu (OT.tmp rfl) hg | exact OT.gu (OT.tmp rfl) hg.1 | exact OT.tmp rfl))) rfl ?_
      refine op_pure (pu_pick_and (OT.tmp rfl) (by first | exact OT.tmp rfl | exact OT.gu_in (OT.tmp rfl) ⟨trivial, rfl⟩)) rfl rfl ?_
      refine op_pure (pu_assign (OT.tmp rfl)) rfl rfl ?_
      refine tr_nil ?_
      refine then_normal ?_
      refine tr_ret ?_
      refine then_ret ?_
      exact ret_one .ret (.inl rfl) rfl () (OT.val (OT.tmp rfl) (congrArg Value.bool (by rw [hz, hz2]; rfl))) trivial (by repeat (first | exact picks_nil | refine picks_cons 0 rfl ?_ | refine picks_cons 1 rfl ?_ | refine picks_cons 2 rfl ?_ | refine picks_cons 3 rfl ?_ | refine picks_cons 4 rfl ?_ | refine picks_cons 5 rfl ?_ | refine picks_cons 6 rfl ?_))
    · skip
      have hyes : decOk l = true := by rw [← ref_dec]; simpa using c28
      have hg := dec_good hyes
      have hz : decT l = tokOf l := by rw [decT, hyes]; rfl
      have hz2 : decE l = 0 := by rw [decE, hyes]; rfl
      have hz3 : refT l = tokOf l := by rw [refT, ref_dec, hyes]; exact ref_tok hyes
      have hz4 := encT_good hg.1
      have hz5 := encE_good hg.1
      have hgl := (good_iff.1 hg.1).1.2.1
      rw [hz, hz3]
      refine tr_skip ?_
      refine then_normal ?_
      refine tr_seq ?_
      -- region 7
      refine tr_env (es_cons (t := 0) (OT.tmp rfl) (es_cons (t := 3) (OT.tmp rfl) (es_cons (t := 4) (OT.tmp rfl) (es_cons (t := 5) (OT.tmp rfl) es_nil)))) ?_
      refine tr_region ?_
      first
      | refine op_pure (pu_load (OT.tmp rfl) (show tyOk Tryd.prog 23 true 3 = true from by decide +kernel)) rfl rfl ?_
      | refine op_pure (pu_load_var (OT.tmp rfl) (by first | exact mem_at 0 rfl | exact mem_at 1 rfl | exact mem_at 2 rfl | exact mem_at 3 rfl | exact mem_at 4 rfl | exact mem_at 5 rfl) (show tyOk Tryd.prog 23 true 3 = true from by decide +kernel)) rfl rfl ?_
      | refine op_pure (pu_load_own0 (OT.tmp rfl) (by first | exact mem_at 0 rfl | exact mem_at 1 rfl | exact mem_at 2 rfl | exact mem_at 3 rfl | exact mem_at 4 rfl | exact mem_at 5 rfl) (by first | omega | assumption | (simp; omega) | (simp [maxLen]; omega) | (simp [maxLen] at *; omega) | (simp; done) | decide) (by first | omega | assumption | (simp; omega) | (simp [maxLen]; omega) | (simp [maxLen] at *; omega) | (simp; done) | decide) (show tyOk Tryd.prog 23 true 3 = true from by decide +kernel)) rfl rfl ?_
      | refine op_pure (pu_load_arr (OT.tmp rfl) (by first | exact mem_at 0 rfl | exact mem_at 1 rfl | exact mem_at 2 rfl | exact mem_at 3 rfl | exact mem_at 4 rfl | exact mem_at 5 rfl) (show tyOk Tryd.prog 23 true 3 = true from by decide +kernel) (by first | omega | assumption | (simp; omega) | (simp [maxLen]; omega) | (simp [maxLen] at *; omega) | (simp; done) | decide) (by first | omega | assumption | (simp; omega) | (simp [maxLen]; omega) | (simp [maxLen] at *; omega) | (simp; done) | decide)) rfl rfl ?_
      | refine op_pure (pu_load_p0 (OT.tmp rfl) (by first | exact mem_at 0 rfl | exact mem_at 1 rfl | exact mem_at 2 rfl | exact mem_at 3 rfl | exact mem_at 4 rfl | exact mem_at 5 rfl) (show tyOk Tryd.prog 23 true 3 = true from by decide +kernel)) rfl rfl ?_
      | refine op_pure (pu_load_p1 (OT.tmp rfl) (by first | exact mem_at 0 rfl | exact mem_at 1 rfl | exact mem_at 2 rfl | exact mem_at 3 rfl | exact mem_at 4 rfl | exact mem_at 5 rfl) (show tyOk Tryd.prog 23 true 3 = true from by decide +kernel)) rfl rfl ?_
      | refine op_pure (pu_load_q (OT.tmp rfl) (by first | exact mem_at 0 rfl | exact mem_at 1 rfl | exact mem_at 2 rfl | exact mem_at 3 rfl | exact mem_at 4 rfl | exact mem_at 5 rfl) (by first | omega | assumption | (simp; omega) | (simp [maxLen]; omega) | (simp [maxLen] at *; omega) | (simp; done) | decide) (by first | omega | assumption | (simp; omega) | (simp [maxLen]; omega) | (simp [maxLen] at *; omega) | (simp; done) | decide) (show tyOk Tryd.prog 23 true 3 = true from by decide +kernel)) rfl rfl ?_
      refine op_acts (acts_callM (Encode_fn _ hV (by first | assumption | omega)) (mk_in hK hn) (show enters Tryd.prog 9 = true from by decide +kernel) (OTs.cons (OT.tmp rfl) OTs.nil) (List.Perm.refl _)) (List.Perm.refl _) rfl rfl (fun _ _ => ?_)
      refine op_pure (pu_move (OT.tmp rfl)) rfl rfl ?_
      refine op_pure (pu_extract (OT.tmp rfl) rfl) rfl rfl ?_
      refine op_pure (pu_extract (OT.tmp rfl) rfl) rfl rfl ?_
      refine op_pure (pu_assign (OT.tmp rfl)) rfl rfl ?_
      refine op_pure (pu_assign (OT.tmp rfl)) rfl rfl ?_
      refine tr_nil ?_
      refine then_normal ?_
      refine tr_seq ?_
      -- region 8
      refine tr_env (es_cons (t := 0) (OT.tmp rfl) (es_cons (t := 3) (OT.tmp rfl) (es_cons (t := 4) (OT.tmp rfl) (es_cons (t := 5) (OT.tmp rfl) (es_cons (t := 7) (OT.tmp rfl) (es_cons (t := 8) (OT.tmp rfl) es_nil)))))) ?_
      refine tr_region ?_
      refine op_pure (pu_move (OT.tmp rfl)) rfl rfl ?_
      refine op_pure (pu_eql (OT.tmp rfl) OT.const) rfl rfl ?_
      refine op_pure (pu_move (OT.tmp rfl)) rfl rfl ?_
      first
      | refine op_gu rfl rfl rfl (OT.gu_mk (OT.tmp rfl)) (fun hg => by (have hg1 := hg.2; (try simp only [decide_eq_true_eq, decide_eq_false_iff_not] at hg1); exact pu_faddr (by first | exact OT.tmp rfl | exact OT.gu (OT.tmp rfl) hg | exact OT.gu (OT.tmp rfl) hg.1) (show fieldOk Tryd.prog 23 0 0 false 1 = true from by decide +kernel))) rfl ?_
      | refine op_gu rfl rfl rfl (OT.gu_mk (OT.tmp rfl)) (fun hg => by (have hg1 := hg.2; (try simp only [decide_eq_true_eq, decide_eq_false_iff_not] at hg1); exact pu_faddr_at (by first | exact OT.tmp rfl | exact OT.gu (OT.tmp rfl) hg | exact OT.gu (OT.tmp rfl) hg.1) lt0 (show fieldOk Tryd.prog 23 0 0 false 1 = true from by decide +kernel))) rfl ?_
      first
      | refine op_gu rfl rfl rfl (OT.gu_mk (OT.tmp rfl)) (fun hg => by (have hg1 := hg.2; (try simp only [decide_eq_true_eq, decide_eq_false_iff_not] at hg1); exact pu_load (by first | exact OT.gu (OT.tmp rfl) hg | exact OT.gu (OT.tmp rfl) hg.1 | exact OT.tmp rfl) (show tyOk Tryd.prog 9 false 1 = true from by decide +kernel))) rfl ?_
      | refine op_gu rfl rfl rfl (OT.gu_mk (OT.tmp rfl)) (fun hg => by (have hg1 := hg.2; (try simp only [decide_eq_true_eq, decide_eq_false_iff_not] at hg1); exact pu_load_var (by first | exact OT.gu (OT.tmp rfl) hg | exact OT.gu (OT.tmp rfl) hg.1 | exact OT.tmp rfl) (by first | exact mem_at 0 rfl | exact mem_at 1 rfl | exact mem_at 2 rfl | exact mem_at 3 rfl | exact mem_at 4 rfl | exact mem_at 5 rfl) (show tyOk Tryd.prog 9 false 1 = true from by decide +kernel))) rfl ?_
      | refine op_gu rfl rfl rfl (OT.gu_mk (OT.tmp rfl)) (fun hg => by (have hg1 := hg.2; (try simp only [decide_eq_true_eq, decide_eq_false_iff_not] at hg1); exact pu_load_own0 (by first | exact OT.gu (OT.tmp rfl) hg | exact OT.gu (OT.tmp rfl) hg.1 | exact OT.tmp rfl) (by first | exact mem_at 0 rfl | exact mem_at 1 rfl | exact mem_at 2 rfl | exact mem_at 3 rfl | exact mem_at 4 rfl | exact mem_at 5 rfl) (by first | omega | assumption | (simp; omega) | (simp [maxLen]; omega) | (simp [maxLen] at *; omega) | (simp; done) | decide) (by first | omega | assumption | (simp; omega) | (simp [maxLen]; omega) | (simp [maxLen] at *; omega) | (simp; done) | decide) (show tyOk Tryd.prog 9 false 1 = true from by decide +kernel))) rfl ?_
      | refine op_gu rfl rfl rfl (OT.gu_mk (OT.tmp rfl)) (fun hg => by (have hg1 := hg.2; (try simp only [decide_eq_true_eq, decide_eq_false_iff_not] at hg1); exact pu_load_arr (by first | exact OT.gu (OT.tmp rfl) hg | exact OT.gu (OT.tmp rfl) hg.1 | exact OT.tmp rfl) (by first | exact mem_at 0 rfl | exact mem_at 1 rfl | exact mem_at 2 rfl | exact mem_at 3 rfl | exact mem_at 4 rfl | exact mem_at 5 rfl) (show tyOk Tryd.prog 9 false 1 = true from by decide +kernel) (by first | omega | assumption | (simp; omega) | (simp [maxLen]; omega) | (simp [maxLen] at *; omega) | (simp; done) | decide) (by first | omega | assumption | (simp; omega) | (simp [maxLen]; omega) | (simp [maxLen] at *; omega) | (simp; done) | decide))) rfl ?_
      | refine op_gu rfl rfl rfl (OT.gu_mk (OT.tmp rfl)) (fun hg => by (have hg1 := hg.2; (try simp only [decide_eq_true_eq, decide_eq_false_iff_not] at hg1); exact pu_load_p0 (by first | exact OT.gu (OT.tmp rfl) hg | exact OT.gu (OT.tmp rfl) hg.1 | exact OT.tmp rfl) (by first | exact mem_at 0 rfl | exact mem_at 1 rfl | exact mem_at 2 rfl | exact mem_at 3 rfl | exact mem_at 4 rfl | exact mem_at 5 rfl) (show tyOk Tryd.prog 9 false 1 = true from by decide +kernel))) rfl ?_
      | refine op_gu rfl rfl rfl (OT.gu_mk (OT.tmp rfl)) (fun hg => by (have hg1 := hg.2; (try simp only [decide_eq_true_eq, decide_eq_false_iff_not] at hg1); exact pu_load_p1 (by first | exact OT.gu (OT.tmp rfl) hg | exact OT.gu (OT.tmp rfl) hg.1 | exact OT.tmp rfl) (by first | exact mem_at 0 rfl | exact mem_at 1 rfl | exact mem_at 2 rfl | exact mem_at 3 rfl | exact mem_at 4 rfl | exact mem_at 5 rfl) (show tyOk Tryd.prog 9 false 1 = true from by decide +kernel))) rfl ?_
      | refine op_gu rfl rfl rfl (OT.gu_mk (OT.tmp rfl)) (fun hg => by (have hg1 := hg.2; (try simp only [decide_eq_true_eq, decide_eq_false_iff_not] at hg1); exact pu_load_q (by first | exact OT.gu (OT.tmp rfl) hg | exact OT.gu (OT.tmp rfl) hg.1 | exact OT.tmp rfl) (by first | exact mem_at 0 rfl | exact mem_at 1 rfl | exact mem_at 2 rfl | exact mem_at 3 rfl | exact mem_at 4 rfl | exact mem_at 5 rfl) (by first | omega | assumption | (simp; omega) | (simp [maxLen]; omega) | (simp [maxLen] at *; omega) | (simp; done) | decide) (by first | omega | assumption | (simp; omega) | (simp [maxLen]; omega) | (simp [maxLen] at *; omega) | (simp; done) | decide) (show tyOk Tryd.prog 9 false 1 = true from by decide +kernel))) rfl ?_
      | refine op_gu rfl rfl rfl (OT.gu_mk (OT.tmp rfl)) (fun hg => by (have hg1 := hg.2; (try simp only [decide_eq_true_eq, decide_eq_false_iff_not] at hg1); exact pu_load_blk (by first | exact OT.gu (OT.tmp rfl) hg | exact OT.gu (OT.tmp rfl) hg.1 | exact OT.tmp rfl) (by first | exact mem_at 0 rfl | exact mem_at 1 rfl | exact mem_at 2 rfl | exact mem_at 3 rfl | exact mem_at 4 rfl | exact mem_at 5 rfl) lt0 (show tyOk Tryd.prog 9 false 1 = true from by decide +kernel))) rfl ?_
      first
      | refine op_gu rfl rfl rfl (OT.gu_mk (OT.tmp rfl)) (fun hg => by (have hg1 := hg.2; (try simp only [decide_eq_true_eq, decide_eq_false_iff_not] at hg1); exact pu_faddr (by first | exact OT.tmp rfl | exact OT.gu (OT.tmp rfl) hg | exact OT.gu (OT.tmp rfl) hg.1) (show fieldOk Tryd.prog 28 0 0 false 1 = true from by decide +kernel))) rfl ?_
      | refine op_gu rfl rfl rfl (OT.gu_mk (OT.tmp rfl)) (fun hg => by (have hg1 := hg.2; (try simp only [decide_eq_true_eq, decide_eq_false_iff_not] at hg1); exact pu_faddr_at (by first | exact OT.tmp rfl | exact OT.gu (OT.tmp rfl) hg | exact OT.gu (OT.tmp rfl) hg.1) lt0 (show fieldOk Tryd.prog 28 0 0 false 1 = true from by decide +kernel))) rfl ?_
      first
      | refine op_gu rfl rfl rfl (OT.gu_mk (OT.tmp rfl)) (fun hg => by (have hg1 := hg.2; (try simp only [decide_eq_true_eq, decide_eq_false_iff_not] at hg1); exact pu_load (by first | exact OT.gu (OT.tmp rfl) hg | exact OT.gu (OT.tmp rfl) hg.1 | exact OT.tmp rfl) (show tyOk Tryd.prog 9 false 1 = true from by decide +kernel))) rfl ?_
      | refine op_gu rfl rfl rfl (OT.gu_mk (OT.tmp rfl)) (fun hg => by (have hg1 := hg.2; (try simp only [decide_eq_true_eq, decide_eq_false_iff_not] at hg1); exact pu_load_var (by first | exact OT.gu (OT.tmp rfl) hg | exact OT.gu (OT.tmp rfl) hg.1 | exact OT.tmp rfl) (by first | exact mem_at 0 rfl | exact mem_at 1 rfl | exact mem_at 2 rfl | exact mem_at 3 rfl | exact mem_at 4 rfl | exact mem_at 5 rfl) (show tyOk Tryd.prog 9 false 1 = true from by decide +kernel))) rfl ?_
      | refine op_gu rfl rfl rfl (OT.gu_mk (OT.tmp rfl)) (fun hg => by (have hg1 := hg.2; (try simp only [decide_eq_true_eq, decide_eq_false_iff_not] at hg1); exact pu_load_own0 (by first | exact OT.gu (OT.tmp rfl) hg | exact OT.gu (OT.tmp rfl) hg.1 | exact OT.tmp rfl) (by first | exact mem_at 0 rfl | exact mem_at 1 rfl | exact mem_at 2 rfl | exact mem_at 3 rfl | exact mem_at 4 rfl | exact mem_at 5 rfl) (by first | omega | assumption | (simp; omega) | (simp [maxLen]; omega) | (simp [maxLen] at *; omega) | (simp; done) | decide) (by first | omega | assumption | (simp; omega) | (simp [maxLen]; omega) | (simp [maxLen] at *; omega) | (simp; done) | decide) (show tyOk Tryd.prog 9 false 1 = true from by decide +kernel))) rfl ?_
      | refine op_gu rfl rfl rfl (OT.gu_mk (OT.tmp rfl)) (fun hg => by (have hg1 := hg.2; (try simp only [decide_eq_true_eq, decide_eq_false_iff_not] at hg1); exact pu_load_arr (by first | exact OT.gu (OT.tmp rfl) hg | exact OT.gu (OT.tmp rfl) hg.1 | exact OT.tmp rfl) (by first | exact mem_at 0 rfl | exact mem_at 1 rfl | exact mem_at 2 rfl | exact mem_at 3 rfl | exact mem_at 4 rfl | exact mem_at 5 rfl) (show tyOk Tryd.prog 9 false 1 = true from by decide +kernel) (by first | omega | assumption | (simp; omega) | (simp [maxLen]; omega) | (simp [maxLen] at *; omega) | (simp; done) | decide) (by first | omega | assumption | (simp; omega) | (simp [maxLen]; omega) | (simp [maxLen] at *; omega) | (simp; done) | decide))) rfl ?_
      | refine op_gu rfl rfl rfl (OT.gu_mk (OT.tmp rfl)) (fun hg => by (have hg1 := hg.2; (try simp only [decide_eq_true_eq, decide_eq_false_iff_not] at hg1); exact pu_load_p0 (by first | exact OT.gu (OT.tmp rfl) hg | exact OT.gu (OT.tmp rfl) hg.1 | exact OT.tmp rfl) (by first | exact mem_at 0 rfl | exact mem_at 1 rfl | exact mem_at 2 rfl | exact mem_at 3 rfl | exact mem_at 4 rfl | exact mem_at 5 rfl) (show tyOk Tryd.prog 9 false 1 = true from by decide +kernel))) rfl ?_
      | refine op_gu rfl rfl rfl (OT.gu_mk (OT.tmp rfl)) (fun hg => by (have hg1 := hg.2; (try simp only [decide_eq_true_eq, decide_eq_false_iff_not] at hg1); exact pu_load_p1 (by first | exact OT.gu (OT.tmp rfl) hg | exact OT.gu (OT.tmp rfl) hg.1 | exact OT.tmp rfl) (by first | exact mem_at 0 rfl | exact mem_at 1 rfl | exact mem_at 2 rfl | exact mem_at 3 rfl | exact mem_at 4 rfl | exact mem_at 5 rfl) (show tyOk Tryd.prog 9 false 1 = true from by decide +kernel))) rfl ?_
      | refine op_gu rfl rfl rfl (OT.gu_mk (OT.tmp rfl)) (fun hg => by (have hg1 := hg.2; (try simp only [decide_eq_true_eq, decide_eq_false_iff_not] at hg1); exact pu_load_q (by first | exact OT.gu (OT.tmp rfl) hg | exact OT.gu (OT.tmp rfl) hg.1 | exact OT.tmp rfl) (by first | exact mem_at 0 rfl | exact mem_at 1 rfl | exact mem_at 2 rfl | exact mem_at 3 rfl | exact mem_at 4 rfl | exact mem_at 5 rfl) (by first | omega | assumption | (simp; omega) | (simp [maxLen]; omega) | (simp [maxLen] at *; omega) | (simp; done) | decide) (by first | omega | assumption | (simp; omega) | (simp [maxLen]; omega) | (simp [maxLen] at *; omega) | (simp; done) | decide) (show tyOk Tryd.prog 9 false 1 = true from by decide +kernel))) rfl ?_
      | refine op_gu rfl rfl rfl (OT.gu_mk (OT.tmp rfl)) (fun hg => by (have hg1 := hg.2; (try simp only [decide_eq_true_eq, decide_eq_false_iff_not] at hg1); exact pu_load_blk (by first | exact OT.gu (OT.tmp rfl) hg | exact OT.gu (OT.tmp rfl) hg.1 | exact OT.tmp rfl) (by first | exact mem_at 0 rfl | exact mem_at 1 rfl | exact mem_at 2 rfl | exact mem_at 3 rfl | exact mem_at 4 rfl | exact mem_at 5 rfl) lt0 (show tyOk Tryd.prog 9 false 1 = true from by decide +kernel))) rfl ?_
      first
      | refine op_gu rfl rfl rfl (OT.gu_mk (OT.tmp rfl)) (fun hg => by (have hg1 := hg.2; (try simp only [decide_eq_true_eq, decide_eq_false_iff_not] at hg1); exact pu_bs_eql (by first | exact OT.gu (OT.tmp rfl) hg | exact OT.gu (OT.tmp rfl) hg.1 | exact OT.tmp rfl) (by first | exact OT.gu (OT.tmp rfl) hg | exact OT.gu (OT.tmp rfl) hg.1 | exact OT.tmp rfl))) rfl ?_
      | refine op_gu rfl rfl rfl (OT.gu_mk (OT.tmp rfl)) (fun hg => by (have hg1 := hg.2; (try simp only [decide_eq_true_eq, decide_eq_false_iff_not] at hg1); exact pu_str_eql (by first | exact OT.gu (OT.tmp rfl) hg | exact OT.gu (OT.tmp rfl) hg.1 | exact OT.tmp rfl) (by first | exact OT.gu (OT.tmp rfl) hg | exact OT.gu (OT.tmp rfl) hg.1 | exact OT.tmp rfl))) rfl ?_
      refine op_pure (pu_pick_and (OT.tmp rfl) (by first | exact OT.tmp rfl | exact OT.gu_in (OT.tmp rfl) ⟨trivial, rfl⟩)) rfl rfl ?_
      refine op_pure (pu_move (OT.tmp rfl)) rfl rfl ?_
      first
      | refine op_gu rfl rfl rfl (OT.gu_mk (OT.tmp rfl)) (fun hg => by (have hg1 := hg.2; (try simp only [decide_eq_true_eq, decide_eq_false_iff_not] at hg1); exact pu_faddr (by first | exact OT.tmp rfl | exact OT.gu (OT.tmp rfl) hg | exact OT.gu (OT.tmp rfl) hg.1) (show fieldOk Tryd.prog 23 1 1 false 1 = true from by decide +kernel))) rfl ?_
      | refine op_gu rfl rfl rfl (OT.gu_mk (OT.tmp rfl)) (fun hg => by (have hg1 := hg.2; (try simp only [decide_eq_true_eq, decide_eq_false_iff_not] at hg1); exact pu_faddr_at (by first | exact OT.tmp rfl | exact OT.gu (OT.tmp rfl) hg | exact OT.gu (OT.tmp rfl) hg.1) lt1 (show fieldOk Tryd.prog 23 1 1 false 1 = true from by decide +kernel))) rfl ?_
      first
      | refine op_gu rfl rfl rfl (OT.gu_mk (OT.tmp rfl)) (fun hg => by (have hg1 := hg.2; (try simp only [decide_eq_true_eq, decide_eq_false_iff_not] at hg1); exact pu_load (by first | exact OT.gu (OT.tmp rfl) hg | exact OT.gu (OT.tmp rfl) hg.1 | exact OT.tmp rfl) (show tyOk Tryd.prog 3 false 1 = true from by decide +kernel))) rfl ?_
      | refine op_gu rfl rfl rfl (OT.gu_mk (OT.tmp rfl)) (fun hg => by (have hg1 := hg.2; (try simp only [decide_eq_true_eq, decide_eq_false_iff_not] at hg1); exact pu_load_var (by first | exact OT.gu (OT.tmp rfl) hg | exact OT.gu (OT.tmp rfl) hg.1 | exact OT.tmp rfl) (by first | exact mem_at 0 rfl | exact mem_at 1 rfl | exact mem_at 2 rfl | exact mem_at 3 rfl | exact mem_at 4 rfl | exact mem_at 5 rfl) (show tyOk Tryd.prog 3 false 1 = true from by decide +kernel))) rfl ?_
      | refine op_gu rfl rfl rfl (OT.gu_mk (OT.tmp rfl)) (fun hg => by (have hg1 := hg.2; (try simp only [decide_eq_true_eq, decide_eq_false_iff_not] at hg1); exact pu_load_own0 (by first | exact OT.gu (OT.tmp rfl) hg | exact OT.gu (OT.tmp rfl) hg.1 | exact OT.tmp rfl) (by first | exact mem_at 0 rfl | exact mem_at 1 rfl | exact mem_at 2 rfl | exact mem_at 3 rfl | exact mem_at 4 rfl | exact mem_at 5 rfl) (by first | omega | assumption | (simp; omega) | (simp [maxLen]; omega) | (simp [maxLen] at *; omega) | (simp; done) | decide) (by first | omega | assumption | (simp; omega) | (simp [maxLen]; omega) | (simp [maxLen] at *; omega) | (simp; done) | decide) (show tyOk Tryd.prog 3 false 1 = true from by decide +kernel))) rfl ?_
      | refine op_gu rfl rfl rfl (OT.gu_mk (OT.tmp rfl)) (fun hg => by (have hg1 := hg.2; (try simp only [decide_eq_true_eq, decide_eq_false_iff_not] at hg1); exact pu_load_arr (by first | exact OT.gu (OT.tmp rfl) hg | exact OT.gu (OT.tmp rfl) hg.1 | exact OT.tmp rfl) (by first | exact mem_at 0 rfl | exact mem_at 1 rfl | exact mem_at 2 rfl | exact mem_at 3 rfl | exact mem_at 4 rfl | exact mem_at 5 rfl) (show tyOk Tryd.prog 3 false 1 = true from by decide +kernel) (by first | omega | assumption | (simp; omega) | (simp [maxLen]; omega) | (simp [maxLen] at *; omega) | (simp; done) | decide) (by first | omega | assumption | (simp; omega) | (simp [maxLen]; omega) | (simp [maxLen] at *; omega) | (simp; done) | decide))) rfl ?_
      | refine op_gu rfl rfl rfl (OT.gu_mk (OT.tmp rfl)) (fun hg => by (have hg1 := hg.2; (try simp only [decide_eq_true_eq, decide_eq_false_iff_not] at hg1); exact pu_load_p0 (by first | exact OT.gu (OT.tmp rfl) hg | exact OT.gu (OT.tmp rfl) hg.1 | exact OT.tmp rfl) (by first | exact mem_at 0 rfl | exact mem_at 1 rfl | exact mem_at 2 rfl | exact mem_at 3 rfl | exact mem_at 4 rfl | exact mem_at 5 rfl) (show tyOk Tryd.prog 3 false 1 = true from by decide +kernel))) rfl ?_
      | refine op_gu rfl rfl rfl (OT.gu_mk (OT.tmp rfl)) (fun hg => by (have hg1 := hg.2; (try simp only [decide_eq_true_eq, decide_eq_false_iff_not] at hg1); exact pu_load_p1 (by first | exact OT.gu (OT.tmp rfl) hg | exact OT.gu (OT.tmp rfl) hg.1 | exact OT.tmp rfl) (by first | exact mem_at 0 rfl | exact mem_at 1 rfl | exact mem_at 2 rfl | exact mem_at 3 rfl | exact mem_at 4 rfl | exact mem_at 5 rfl) (show tyOk Tryd.prog 3 false 1 = true from by decide +kernel))) rfl ?_
      | refine op_gu rfl rfl rfl (OT.gu_mk (OT.tmp rfl)) (fun hg => by (have hg1 := hg.2; (try simp only [decide_eq_true_eq, decide_eq_false_iff_not] at hg1); exact pu_load_q (by first | exact OT.gu (OT.tmp rfl) hg | exact OT.gu (OT.tmp rfl) hg.1 | exact OT.tmp rfl) (by first | exact mem_at 0 rfl | exact mem_at 1 rfl | exact mem_at 2 rfl | exact mem_at 3 rfl | exact mem_at 4 rfl | exact mem_at 5 rfl) (by first | omega | assumption | (simp; omega) | (simp [maxLen]; omega) | (simp [maxLen] at *; omega) | (simp; done) | decide) (by first | omega | assumption | (simp; omega) | (simp [maxLen]; omega) | (simp [maxLen] at *; omega) | (simp; done) | decide) (show tyOk Tryd.prog 3 false 1 = true from by decide +kernel))) rfl ?_
      | refine op_gu rfl rfl rfl (OT.gu_mk (OT.tmp rfl)) (fun hg => by (have hg1 := hg.2; (try simp only [decide_eq_true_eq, decide_eq_false_iff_not] at hg1); exact pu_load_blk (by first | exact OT.gu (OT.tmp rfl) hg | exact OT.gu (OT.tmp rfl) hg.1 | exact OT.tmp rfl) (by first | exact mem_at 0 rfl | exact mem_at 1 rfl | exact mem_at 2 rfl | exact mem_at 3 rfl | exact mem_at 4 rfl | exact mem_at 5 rfl) lt1 (show tyOk Tryd.prog 3 false 1 = true from by decide +kernel))) rfl ?_
      | refine op_gu rfl rfl rfl (OT.gu_mk (OT.tmp rfl)) (fun hg => by (have hg1 := hg.2; (try simp only [decide_eq_true_eq, decide_eq_false_iff_not] at hg1); exact pu_load_blk (by first | exact OT.gu (OT.tmp rfl) hg | exact OT.gu (OT.tmp rfl) hg.1 | exact OT.tmp rfl) (by first | exact mem_at 0 rfl | exact mem_at 1 rfl | exact mem_at 2 rfl | exact mem_at 3 rfl | exact mem_at 4 rfl | exact mem_at 5 rfl) lt2 (show tyOk Tryd.prog 3 false 1 = true from by decide +kernel))) rfl ?_
      first
      | refine op_gu rfl rfl rfl (OT.gu_mk (OT.tmp rfl)) (fun hg => by (have hg1 := hg.2; (try simp only [decide_eq_true_eq, decide_eq_false_iff_not] at hg1); exact pu_faddr (by first | exact OT.tmp rfl | exact OT.gu (OT.tmp rfl) hg | exact OT.gu (OT.tmp rfl) hg.1) (show fieldOk Tryd.prog 28 1 1 false 1 = true from by decide +kernel))) rfl ?_
      | refine op_gu rfl rfl rfl (OT.gu_mk (OT.tmp rfl)) (fun hg => by (have hg1 := hg.2; (try simp only [decide_eq_true_eq, decide_eq_false_iff_not] at hg1); exact pu_faddr_at (by first | exact OT.tmp rfl | exact OT.gu (OT.tmp rfl) hg | exact OT.gu (OT.tmp rfl) hg.1) lt1 (show fieldOk Tryd.prog 28 1 1 false 1 = true from by decide +kernel))) rfl ?_
      first
      | refine op_gu rfl rfl rfl (OT.gu_mk (OT.tmp rfl)) (fun hg => by (have hg1 := hg.2; (try simp only [decide_eq_true_eq, decide_eq_false_iff_not] at hg1); exact pu_load (by first | exact OT.gu (OT.tmp rfl) hg | exact OT.gu (OT.tmp rfl) hg.1 | exact OT.tmp rfl) (show tyOk Tryd.prog 3 false 1 = true from by decide +kernel))) rfl ?_
      | refine op_gu rfl rfl rfl (OT.gu_mk (OT.tmp rfl)) (fun hg => by (have hg1 := hg.2; (try simp only [decide_eq_true_eq, decide_eq_false_iff_not] at hg1); exact pu_load_var (by first | exact OT.gu (OT.tmp rfl) hg | exact OT.gu (OT.tmp rfl) hg.1 | exact OT.tmp rfl) (by first | exact mem_at 0 rfl | exact mem_at 1 rfl | exact mem_at 2 rfl | exact mem_at 3 rfl | exact mem_at 4 rfl | exact mem_at 5 rfl) (show tyOk Tryd.prog 3 false 1 = true from by decide +kernel))) rfl ?_
      | refine op_gu rfl rfl rfl (OT.gu_mk (OT.tmp rfl)) (fun hg => by (have hg1 := hg.2; (try simp only [decide_eq_true_eq, decide_eq_false_iff_not] at hg1); exact pu_load_own0 (by first | exact OT.gu (OT.tmp rfl) hg | exact OT.gu (OT.tmp rfl) hg.1 | exact OT.tmp rfl) (by first | exact mem_at 0 rfl | exact mem_at 1 rfl | exact mem_at 2 rfl | exact mem_at 3 rfl | exact mem_at 4 rfl | exact mem_at 5 rfl) (by first | omega | assumption | (simp; omega) | (simp [maxLen]; omega) | (simp [maxLen] at *; omega) | (simp; done) | decide) (by first | omega | assumption | (simp; omega) | (simp [maxLen]; omega) | (simp [maxLen] at *; omega) | (simp; done) | decide) (show tyOk Tryd.prog 3 false 1 = true from by decide +kernel))) rfl ?_
      | refine op_gu rfl rfl rfl (OT.gu_mk (OT.tmp rfl)) (fun hg => by (have hg1 := hg.2; (try simp only [decide_eq_true_eq, decide_eq_false_iff_not] at hg1); exact pu_load_arr (by first | exact OT.gu (OT.tmp rfl) hg | exact OT.gu (OT.tmp rfl) hg.1 | exact OT.tmp rfl) (by first | exact mem_at 0 rfl | exact mem_at 1 rfl | exact mem_at 2 rfl | exact mem_at 3 rfl | exact mem_at 4 rfl | exact mem_at 5 rfl) (show tyOk Tryd.prog 3 false 1 = true from by decide +kernel) (by first | omega | assumption | (simp; omega) | (simp [maxLen]; omega) | (simp [maxLen] at *; omega) | (simp; done) | decide) (by first | omega | assumption | (simp; omega) | (simp [maxLen]; omega) | (simp [maxLen] at *; omega) | (simp; done) | decide))) rfl ?_
      | refine op_gu rfl rfl rfl (OT.gu_mk (OT.tmp rfl)) (fun hg => by (have hg1 := hg.2; (try simp only [decide_eq_true_eq, decide_eq_false_iff_not] at hg1); exact pu_load_p0 (by first | exact OT.gu (OT.tmp rfl) hg | exact OT.gu (OT.tmp rfl) hg.1 | exact OT.tmp rfl) (by first | exact mem_at 0 rfl | exact mem_at 1 rfl | exact mem_at 2 rfl | exact mem_at 3 rfl | exact mem_at 4 rfl | exact mem_at 5 rfl) (show tyOk Tryd.prog 3 false 1 = true from by decide +kernel))) rfl ?_
      | refine op_gu rfl rfl rfl (OT.gu_mk (OT.tmp rfl)) (fun hg => by (have hg1 := hg.2; (try simp only [decide_eq_true_eq, decide_eq_false_iff_not] at hg1); exact pu_load_p1 (by first | exact OT.gu (OT.tmp rfl) hg | exact OT.gu (OT.tmp rfl) hg.1 | exact OT.tmp rfl) (by first | exact mem_at 0 rfl | exact mem_at 1 rfl | exact mem_at 2 rfl | exact mem_at 3 rfl | exact mem_at 4 rfl | exact mem_at 5 rfl) (show tyOk Tryd.prog 3 false 1 = true from by decide +kernel))) rfl ?_
      | refine op_gu rfl rfl rfl (OT.gu_mk (OT.tmp rfl)) (fun hg => by (have hg1 := hg.2; (try simp only [decide_eq_true_eq, decide_eq_false_iff_not] at hg1); exact pu_load_q (by first | exact OT.gu (OT.tmp rfl) hg | exact OT.gu (OT.tmp rfl) hg.1 | exact OT.tmp rfl) (by first | exact mem_at 0 rfl | exact mem_at 1 rfl | exact mem_at 2 rfl | exact mem_at 3 rfl | exact mem_at 4 rfl | exact mem_at 5 rfl) (by first | omega | assumption | (simp; omega) | (simp [maxLen]; omega) | (simp [maxLen] at *; omega) | (simp; done) | decide) (by first | omega | assumption | (simp; omega) | (simp [maxLen]; omega) | (simp [maxLen] at *; omega) | (simp; done) | decide) (show tyOk Tryd.prog 3 false 1 = true from by decide +kernel))) rfl ?_
      | refine op_gu rfl rfl rfl (OT.gu_mk (OT.tmp rfl)) (fun hg => by (have hg1 := hg.2; (try simp only [decide_eq_true_eq, decide_eq_false_iff_not] at hg1); exact pu_load_blk (by first | exact OT.gu (OT.tmp rfl) hg | exact OT.gu (OT.tmp rfl) hg.1 | exact OT.tmp rfl) (by first | exact mem_at 0 rfl | exact mem_at 1 rfl | exact mem_at 2 rfl | exact mem_at 3 rfl | exact mem_at 4 rfl | exact mem_at 5 rfl) lt1 (show tyOk Tryd.prog 3 false 1 = true from by decide +kernel))) rfl ?_
      | refine op_gu rfl rfl rfl (OT.gu_mk (OT.tmp rfl)) (fun hg => by (have hg1 := hg.2; (try simp only [decide_eq_true_eq, decide_eq_false_iff_not] at hg1); exact pu_load_blk (by first | exact OT.gu (OT.tmp rfl) hg | exact OT.gu (OT.tmp rfl) hg.1 | exact OT.tmp rfl) (by first | exact mem_at 0 rfl | exact mem_at 1 rfl | exact mem_at 2 rfl | exact mem_at 3 rfl | exact mem_at 4 rfl | exact mem_at 5 rfl) lt2 (show tyOk Tryd.prog 3 false 1 = true from by decide +kernel))) rfl ?_
      refine op_gu rfl rfl rfl (OT.gu_mk (OT.tmp rfl)) (fun hg => by (have hg1 := hg.2; (try simp only [decide_eq_true_eq, decide_eq_false_iff_not] at hg1); exact pu_eql (by first | exact OT.gu (OT.tmp rfl) hg | exact OT.gu (OT.tmp rfl) hg.1 | exact OT.tmp rfl) (by first | exact OT.gu (OT.tmp rfl) hg | exact OT.gu (OT.tmp rfl) hg.1 | exact OT.tmp rfl))) rfl ?_
      refine op_pure (pu_pick_and (OT.tmp rfl) (by first | exact OT.tmp rfl | exact OT.gu_in (OT.tmp rfl) ⟨trivial, rfl⟩)) rfl rfl ?_
      refine op_pure (pu_move (OT.tmp rfl)) rfl rfl ?_
      first
      | refine op_gu rfl rfl rfl (OT.gu_mk (OT.tmp rfl)) (fun hg => by (have hg1 := hg.2; (try simp only [decide_eq_true_eq, decide_eq_false_iff_not] at hg1); exact pu_faddr (by first | exact OT.tmp rfl | exact OT.gu (OT.tmp rfl) hg | exact OT.gu (OT.tmp rfl) hg.1) (show fieldOk Tryd.prog 23 2 2 false 1 = true from by decide +kernel))) rfl ?_
      | refine op_gu rfl rfl rfl (OT.gu_mk (OT.tmp rfl)) (fun hg => by (have hg1 := hg.2; (try simp only [decide_eq_true_eq, decide_eq_false_iff_not] at hg1); exact pu_faddr_at (by first | exact OT.tmp rfl | exact OT.gu (OT.tmp rfl) hg | exact OT.gu (OT.tmp rfl) hg.1) lt2 (show fieldOk Tryd.prog 23 2 2 false 1 = true from by decide +kernel))) rfl ?_
      first
      | refine op_gu rfl rfl rfl (OT.gu_mk (OT.tmp rfl)) (fun hg => by (have hg1 := hg.2; (try simp only [decide_eq_true_eq, decide_eq_false_iff_not] at hg1); exact pu_load (by first | exact OT.gu (OT.tmp rfl) hg | exact OT.gu (OT.tmp rfl) hg.1 | exact OT.tmp rfl) (show tyOk Tryd.prog 3 false 1 = true from by decide +kernel))) rfl ?_
      | refine op_gu rfl rfl rfl (OT.gu_mk (OT.tmp rfl)) (fun hg => by (have hg1 := hg.2; (try simp only [decide_eq_true_eq, decide_eq_false_iff_not] at hg1); exact pu_load_var (by first | exact OT.gu (OT.tmp rfl) hg | exact OT.gu (OT.tmp rfl) hg.1 | exact OT.tmp rfl) (by first | exact mem_at 0 rfl | exact mem_at 1 rfl | exact mem_at 2 rfl | exact mem_at 3 rfl | exact mem_at 4 rfl | exact mem_at 5 rfl) (show tyOk Tryd.prog 3 false 1 = true from by decide +kernel))) rfl ?_
      | refine op_gu rfl rfl rfl (OT.gu_mk (OT.tmp rfl)) (fun hg => by (have hg1 := hg.2; (try simp only [decide_eq_true_eq, decide_eq_false_iff_not] at hg1); exact pu_load_own0 (by first | exact OT.gu (OT.tmp rfl) hg | exact OT.gu (OT.tmp rfl) hg.1 | exact OT.tmp rfl) (by first | exact mem_at 0 rfl | exact mem_at 1 rfl | exact mem_at 2 rfl | exact mem_at 3 rfl | exact mem_at 4 rfl | exact mem_at 5 rfl) (by first | omega | assumption | (simp; omega) | (simp [maxLen]; omega) | (simp [maxLen] at *; omega) | (simp; done) | decide) (by first | omega | assumption | (simp; omega) | (simp [maxLen]; omega) | (simp [maxLen] at *; omega) | (simp; done) | decide) (show tyOk Tryd.prog 3 false 1 = true from by decide +kernel))) rfl ?_
      | refine op_gu rfl rfl rfl (OT.gu_mk (OT.tmp rfl)) (fun hg => by (have hg1 := hg.2; (try simp only [decide_eq_true_eq, decide_eq_false_iff_not] at hg1); exact pu_load_arr (by first | exact OT.gu (OT.tmp rfl) hg | exact OT.gu (OT.tmp rfl) hg.1 | exact OT.tmp rfl) (by first | exact mem_at 0 rfl | exact mem_at 1 rfl | exact mem_at 2 rfl | exact mem_at 3 rfl | exact mem_at 4 rfl | exact mem_at 5 rfl) (show tyOk Tryd.prog 3 false 1 = true from by decide +kernel) (by first | omega | assumption | (simp; omega) | (simp [maxLen]; omega) | (simp [maxLen] at *; omega) | (simp; done) | decide) (by first | omega | assumption | (simp; omega) | (simp [maxLen]; omega) | (simp [maxLen] at *; omega) | (simp; done) | decide))) rfl ?_
      | refine op_gu rfl rfl rfl (OT.gu_mk (OT.tmp rfl)) (fun hg => by (have hg1 := hg.2; (try simp only [decide_eq_true_eq, decide_eq_false_iff_not] at hg1); exact pu_load_p0 (by first | exact OT.gu (OT.tmp rfl) hg | exact OT.gu (OT.tmp rfl) hg.1 | exact OT.tmp rfl) (by first | exact mem_at 0 rfl | exact mem_at 1 rfl | exact mem_at 2 rfl | exact mem_at 3 rfl | exact mem_at 4 rfl | exact mem_at 5 rfl) (show tyOk Tryd.prog 3 false 1 = true from by decide +kernel))) rfl ?_
      | refine op_gu rfl rfl rfl (OT.gu_mk (OT.tmp rfl)) (fun hg => by (have hg1 := hg.2; (try simp only [decide_eq_true_eq, decide_eq_false_iff_not] at hg1); exact pu_load_p1 (by first | exact OT.gu (OT.tmp rfl) hg | exact OT.gu (OT.tmp rfl) hg.1 | exact OT.tmp rfl) (by first | exact mem_at 0 rfl | exact mem_at 1 rfl | exact mem_at 2 rfl | exact mem_at 3 rfl | exact mem_at 4 rfl | exact mem_at 5 rfl) (show tyOk Tryd.prog 3 false 1 = true from by decide +kernel))) rfl ?_
      | refine op_gu rfl rfl rfl (OT.gu_mk (OT.tmp rfl)) (fun hg => by (have hg1 := hg.2; (try simp only [decide_eq_true_eq, decide_eq_false_iff_not] at hg1); exact pu_load_q (by first | exact OT.gu (OT.tmp rfl) hg | exact OT.gu (OT.tmp rfl) hg.1 | exact OT.tmp rfl) (by first | exact mem_at 0 rfl | exact mem_at 1 rfl | exact mem_at 2 rfl | exact mem_at 3 rfl | exact mem_at 4 rfl | exact mem_at 5 rfl) (by first | omega | assumption | (simp; omega) | (simp [maxLen]; omega) | (simp [maxLen] at *; omega) | (simp; done) | decide) (by first | omega | assumption | (simp; omega) | (simp [maxLen]; omega) | (simp [maxLen] at *; omega) | (simp; done) | decide) (show tyOk Tryd.prog 3 false 1 = true from by decide +kernel))) rfl ?_
      | refine op_gu rfl rfl rfl (OT.gu_mk (OT.tmp rfl)) (fun hg => by (have hg1 := hg.2; (try simp only [decide_eq_true_eq, decide_eq_false_iff_not] at hg1); exact pu_load_blk (by first | exact OT.gu (OT.tmp rfl) hg | exact OT.gu (OT.tmp rfl) hg.1 | exact OT.tmp rfl) (by first | exact mem_at 0 rfl | exact mem_at 1 rfl | exact mem_at 2 rfl | exact mem_at 3 rfl | exact mem_at 4 rfl | exact mem_at 5 rfl) lt1 (show tyOk Tryd.prog 3 false 1 = true from by decide +kernel))) rfl ?_
      | refine op_gu rfl rfl rfl (OT.gu_mk (OT.tmp rfl)) (fun hg => by (have hg1 := hg.2; (try simp only [decide_eq_true_eq, decide_eq_false_iff_not] at hg1); exact pu_load_blk (by first | exact OT.gu (OT.tmp rfl) hg | exact OT.gu (OT.tmp rfl) hg.1 | exact OT.tmp rfl) (by first | exact mem_at 0 rfl | exact mem_at 1 rfl | exact mem_at 2 rfl | exact mem_at 3 rfl | exact mem_at 4 rfl | exact mem_at 5 rfl) lt2 (show tyOk Tryd.prog 3 false 1 = true from by decide +kernel))) rfl ?_
      first
      | refine op_gu rfl rfl rfl (OT.gu_mk (OT.tmp rfl)) (fun hg => by (have hg1 := hg.2; (try simp only [decide_eq_true_eq, decide_eq_false_iff_not] at hg1); exact pu_faddr (by first | exact OT.tmp rfl | exact OT.gu (OT.tmp rfl) hg | exact OT.gu (OT.tmp rfl) hg.1) (show fieldOk Tryd.prog 28 2 2 false 1 = true from by decide +kernel))) rfl ?_
      | refine op_gu rfl rfl rfl (OT.gu_mk (OT.tmp rfl)) (fun hg => by (have hg1 := hg.2; (try simp only [decide_eq_true_eq, decide_eq_false_iff_not] at hg1); exact pu_faddr_at (by first | exact OT.tmp rfl | exact OT.gu (OT.tmp rfl) hg | exact OT.gu (OT.tmp rfl) hg.1) lt2 (show fieldOk Tryd.prog 28 2 2 false 1 = true from by decide +kernel))) rfl ?_
      first
      | refine op_gu rfl rfl rfl (OT.gu_mk (OT.tmp rfl)) (fun hg => by (have hg1 := hg.2; (try simp only [decide_eq_true_eq, decide_eq_false_iff_not] at hg1); exact pu_load (by first | exact OT.gu (OT.tmp rfl) hg | exact OT.gu (OT.tmp rfl) hg.1 | exact OT.tmp rfl) (show tyOk Tryd.prog 3 false 1 = true from by decide +kernel))) rfl ?_
      | refine op_gu rfl rfl rfl (OT.gu_mk (OT.tmp rfl)) (fun hg => by (have hg1 := hg.2; (try simp only [decide_eq_true_eq, decide_eq_false_iff_not] at hg1); exact pu_load_var (by first | exact OT.gu (OT.tmp rfl) hg | exact OT.gu (OT.tmp rfl) hg.1 | exact OT.tmp rfl) (by first | exact mem_at 0 rfl | exact mem_at 1 rfl | exact mem_at 2 rfl | exact mem_at 3 rfl | exact mem_at 4 rfl | exact mem_at 5 rfl) (show tyOk Tryd.prog 3 false 1 = true from by decide +kernel))) rfl ?_
      | refine op_gu rfl rfl rfl (OT.gu_mk (OT.tmp rfl)) (fun hg => by (have hg1 := hg.2; (try simp only [decide_eq_true_eq, decide_eq_false_iff_not] at hg1); exact pu_load_own0 (by first | exact OT.gu (OT.tmp rfl) hg | exact OT.gu (OT.tmp rfl) hg.1 | exact OT.tmp rfl) (by first | exact mem_at 0 rfl | exact mem_at 1 rfl | exact mem_at 2 rfl | exact mem_at 3 rfl | exact mem_at 4 rfl | exact mem_at 5 rfl) (by first | omega | assumption | (simp; omega) | (simp [maxLen]; omega) | (simp [maxLen] at *; omega) | (simp; done) | decide) (by first | omega | assumption | (simp; omega) | (simp [maxLen]; omega) | (simp [maxLen] at *; omega) | (simp; done) | decide) (show tyOk Tryd.prog 3 false 1 = true from by decide +kernel))) rfl ?_
      | refine op_gu rfl rfl rfl (OT.gu_mk (OT.tmp rfl)) (fun hg => by (have hg1 := hg.2; (try simp only [decide_eq_true_eq, decide_eq_false_iff_not] at hg1); exact pu_load_arr (by first | exact OT.gu (OT.tmp rfl) hg | exact OT.gu (OT.tmp rfl) hg.1 | exact OT.tmp rfl) (by first | exact mem_at 0 rfl | exact mem_at 1 rfl | exact mem_at 2 rfl | exact mem_at 3 rfl | exact mem_at 4 rfl | exact mem_at 5 rfl) (show tyOk Tryd.prog 3 false 1 = true from by decide +kernel) (by first | omega | assumption | (simp; omega) | (simp [maxLen]; omega) | (simp [maxLen] at *; omega) | (simp; done) | decide) (by first | omega | assumption | (simp; omega) | (simp [maxLen]; omega) | (simp [maxLen] at *; omega) | (simp; done) | decide))) rfl ?_
      | refine op_gu rfl rfl rfl (OT.gu_mk (OT.tmp rfl)) (fun hg => by (have hg1 := hg.2; (try simp only [decide_eq_true_eq, decide_eq_false_iff_not] at hg1); exact pu_load_p0 (by first | exact OT.gu (OT.tmp rfl) hg | exact OT.gu (OT.tmp rfl) hg.1 | exact OT.tmp rfl) (by first | exact mem_at 0 rfl | exact mem_at 1 rfl | exact mem_at 2 rfl | exact mem_at 3 rfl | exact mem_at 4 rfl | exact mem_at 5 rfl) (show tyOk Tryd.prog 3 false 1 = true from by decide +kernel))) rfl ?_
      | refine op_gu rfl rfl rfl (OT.gu_mk (OT.tmp rfl)) (fun hg => by (have hg1 := hg.2; (try simp only [decide_eq_true_eq, decide_eq_false_iff_not] at hg1); exact pu_load_p1 (by first | exact OT.gu (OT.tmp rfl) hg | exact OT.gu (OT.tmp rfl) hg.1 | exact OT.tmp rfl) (by first | exact mem_at 0 rfl | exact mem_at 1 rfl | exact mem_at 2 rfl | exact mem_at 3 rfl | exact mem_at 4 rfl | exact mem_at 5 rfl) (show tyOk Tryd.prog 3 false 1 = true from by decide +kernel))) rfl ?_
      | refine op_gu rfl rfl rfl (OT.gu_mk (OT.tmp rfl)) (fun hg => by (have hg1 := hg.2; (try simp only [decide_eq_true_eq, decide_eq_false_iff_not] at hg1); exact pu_load_q (by first | exact OT.gu (OT.tmp rfl) hg | exact OT.gu (OT.tmp rfl) hg.1 | exact OT.tmp rfl) (by first | exact mem_at 0 rfl | exact mem_at 1 rfl | exact mem_at 2 rfl | exact mem_at 3 rfl | exact mem_at 4 rfl | exact mem_at 5 rfl) (by first | omega | assumption | (simp; omega) | (simp [maxLen]; omega) | (simp [maxLen] at *; omega) | (simp; done) | decide) (by first | omega | assumption | (simp; omega) | (simp [maxLen]; omega) | (simp [maxLen] at *; omega) | (simp; done) | decide) (show tyOk Tryd.prog 3 false 1 = true from by decide +kernel))) rfl ?_
      | refine op_gu rfl rfl rfl (OT.gu_mk (OT.tmp rfl)) (fun hg => by (have hg1 := hg.2; (try simp only [decide_eq_true_eq, decide_eq_false_iff_not] at hg1); exact pu_load_blk (by first | exact OT.gu (OT.tmp rfl) hg | exact OT.gu (OT.tmp rfl) hg.1 | exact OT.tmp rfl) (by first | exact mem_at 0 rfl | exact mem_at 1 rfl | exact mem_at 2 rfl | exact mem_at 3 rfl | exact mem_at 4 rfl | exact mem_at 5 rfl) lt1 (show tyOk Tryd.prog 3 false 1 = true from by decide +kernel))) rfl ?_
      | refine op_gu rfl rfl rfl (OT.gu_mk (OT.tmp rfl)) (fun hg => by (have hg1 := hg.2; (try simp only [decide_eq_true_eq, decide_eq_false_iff_not] at hg1); exact pu_load_blk (by first | exact OT.gu (OT.tmp rfl) hg | exact OT.gu (OT.tmp rfl) hg.1 | exact OT.tmp rfl) (by first | exact mem_at 0 rfl | exact mem_at 1 rfl | exact mem_at 2 rfl | exact mem_at 3 rfl | exact mem_at 4 rfl | exact mem_at 5 rfl) lt2 (show tyOk Tryd.prog 3 false 1 = true from by decide +kernel))) rfl ?_
      refine op_gu rfl rfl rfl (OT.gu_mk (OT.tmp rfl)) (fun hg => by (have hg1 := hg.2; (try simp only [decide_eq_true_eq, decide_eq_false_iff_not] at hg1); exact pu_eql (by first | exact OT.gu (OT.tmp rfl) hg | exact OT.gu (OT.tmp rfl) hg.1 | exact OT.tmp rfl) (by first | exact OT.gu (OT.tmp rfl) hg | exact OT.gu (OT.tmp rfl) hg.1 | exact OT.tmp rfl))) rfl ?_
      refine op_pure (pu_pick_and (OT.tmp rfl) (by first | exact OT.tmp rfl | exact OT.gu_in (OT.tmp rfl) ⟨trivial, rfl⟩)) rfl rfl ?_
      refine op_pure (pu_move (OT.tmp rfl)) rfl rfl ?_
      refine op_gu rfl rfl rfl (OT.gu_mk (OT.tmp rfl)) (fun hg => by (have hg1 := hg.2; (try simp only [decide_eq_true_eq, decide_eq_false_iff_not] at hg1); exact pu_move (by first | exact OT.tmp rfl | exact OT.gu (OT.tmp rfl) hg | exact OT.gu (OT.tmp rfl) hg.1))) rfl ?_
      refine op_gu rfl rfl rfl (OT.gu_mk (OT.tmp rfl)) (fun hg => by (have hg1 := hg.2; (try simp only [decide_eq_true_eq, decide_eq_false_iff_not] at hg1); exact pu_eql (by first | exact OT.gu (OT.tmp rfl) hg | exact OT.gu (OT.tmp rfl) hg.1 | exact OT.tmp rfl) OT.const)) rfl ?_
      refine op_pure (pu_pick_and (OT.tmp rfl) (by first | exact OT.tmp rfl | exact OT.gu_in (OT.tmp rfl) ⟨trivial, rfl⟩)) rfl rfl ?_
      refine op_pure (pu_move (OT.tmp rfl)) rfl rfl ?_
      refine op_gu rfl rfl rfl (OT.gu_mk (OT.tmp rfl)) (fun hg => by (have hg1 := hg.2; (try simp only [decide_eq_true_eq, decide_eq_false_iff_not] at hg1); exact pu_move (by first | exact OT.tmp rfl | exact OT.gu (OT.tmp rfl) hg | exact OT.gu (OT.tmp rfl) hg.1))) rfl ?_
      refine op_gu rfl rfl rfl (OT.gu_mk (OT.tmp rfl)) (fun hg => by (have hg1 := hg.2; (try simp only [decide_eq_true_eq, decide_eq_false_iff_not] at hg1); exact pu_move (by first | exact OT.tmp rfl | exact OT.gu (OT.tmp rfl) hg | exact OT.gu (OT.tmp rfl) hg.1))) rfl ?_
      first
      | refine op_gu rfl rfl rfl (OT.gu_mk (OT.tmp rfl)) (fun hg => by (have hg1 := hg.2; (try simp only [decide_eq_true_eq, decide_eq_false_iff_not] at hg1); exact pu_bs_eql (by first | exact OT.gu (OT.tmp rfl) hg | exact OT.gu (OT.tmp rfl) hg.1 | exact OT.tmp rfl) (by first | exact OT.gu (OT.tmp rfl) hg | exact OT.gu (OT.tmp rfl) hg.1 | exact OT.tmp rfl))) rfl ?_
      | refine op_gu rfl rfl rfl (OT.gu_mk (OT.tmp rfl)) (fun hg => by (have hg1 := hg.2; (try simp only [decide_eq_true_eq, decide_eq_false_iff_not] at hg1); exact pu_str_eql (by first | exact OT.gu (OT.tmp rfl) hg | exact OT.gu (OT.tmp rfl) hg.1 | exact OT.tmp rfl) (by first | exact OT.gu (OT.tmp rfl) hg | exact OT.gu (OT.tmp rfl) hg.1 | exact OT.tmp rfl))) rfl ?_
      refine op_pure (pu_pick_and (OT.tmp rfl) (by first | exact OT.tmp rfl | exact OT.gu_in (OT.tmp rfl) ⟨trivial, rfl⟩)) rfl rfl ?_
      refine op_pure (pu_assign (OT.tmp rfl)) rfl rfl ?_
      refine tr_nil ?_
      refine then_normal ?_
      refine tr_ret ?_
      exact ret_one .ret (.inl rfl) rfl () (OT.val (OT.tmp rfl) (congrArg Value.bool (by rw [hz2, hz4, hz5, hg.2]; simp))) trivial (by repeat (first | exact picks_nil | refine picks_cons 0 rfl ?_ | refine picks_cons 1 rfl ?_ | refine picks_cons 2 rfl ?_ | refine picks_cons 3 rfl ?_ | refine picks_cons 4 rfl ?_ | refine picks_cons 5 rfl ?_ | refine picks_cons 6 rfl ?_))
end Go.Proofs.YtoaeaclcbcpheaaDoor
