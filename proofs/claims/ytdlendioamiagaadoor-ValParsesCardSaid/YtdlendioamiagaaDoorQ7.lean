/- The texts Vl7, VlD, Vl8, VlE, Vl9, VlF, Vl10, Vl11, VlG, Vl12, VlH, Vl13, VlI, Vl14, VlJ, Vl15, VlL of this claim, put together in their order. No condition of their own. -/
import Derived.Test.YtdlendioamiagaaDoorQ5
import Derived.Test.YtdlendioamiagaaDoorQ6
import Derived.Test.YtdlendioamiagaaDoorQ1
import Derived.Lib.MapLaws
import Derived.Lib.ItoaMem
import Derived.Lib.Small
import Derived.Lib.Bytealg
import Derived.Test.YtdlendioamiagaaDoorQ2
import Derived.Lib.IndexMore
import Derived.Test.YtdlendioamiagaaDoorQ4
import Derived.Lib.AtoiAllCases
/- Walks through the Go functions strconv.isPowerOfTwo, strconv.formatBits, as typed contracts. -/
namespace Go.Proofs.YtdlendioamiagaaDoor
open Go Go.Gw Go.Vl
set_option linter.unusedVariables false
set_option linter.unusedSimpArgs false
theorem z65 : ZeroOf Tryd.prog 127 (karr 65 (kint .u8)) (List.replicate 65 0) := ⟨.agg (Array.replicate 65 (.int .u8 0)), by kernel_rfl, fun H => ⟨List.replicate 65 (.int .u8 0), ⟨rfl, rfl, fun j x h => by
  have hj : j < 65 := by have := (List.getElem?_eq_some_iff.1 h).1; simpa using this
  rw [List.getElem?_replicate, if_pos hj] at h
  cases h
  show ((List.replicate 65 (Value.int .u8 0)).drop (j * 1)).take 1 = [Value.int .u8 0]
  rw [Nat.mul_one, List.drop_replicate, List.take_replicate, show min 1 (65 - j) = 1 from by omega]
  rfl⟩, rfl⟩⟩

set_option maxRecDepth 20000 in
/-- internal/strconv.isPowerOfTwo -/
theorem pow2_fn  : Ct Tryd.prog 99 [I64 16] ([]) Unit (fun _ => BoolT true) (fun _ => []) (fun _ => True) := by
  refine fn_intro Tryd.func99 rfl rfl ?_
  intro H w
  refine tr_seq ?_
  -- region 0
  refine tr_env (es_cons (t := 0) (OT.tmp rfl) es_nil) ?_
  refine tr_region ?_
  refine op_pure (pu_assign OT.const) rfl rfl ?_
  refine tr_nil ?_
  refine then_normal ?_
  refine tr_seq ?_
  -- region 1
  refine tr_env (es_cons (t := 0) (OT.tmp rfl) es_nil) ?_
  refine tr_region ?_
  refine op_pure (pu_move (OT.tmp rfl)) rfl rfl ?_
  refine op_pure (pu_move (OT.tmp rfl)) rfl rfl ?_
  refine op_pure (pu_sub' (OT.tmp rfl) OT.const (by omega)) rfl rfl ?_
  refine op_pure (pu_bits (OT.tmp rfl) (OT.tmp rfl) (by simp)) rfl rfl ?_
  refine op_pure (pu_eql (OT.tmp rfl) OT.const) rfl rfl ?_
  refine op_pure (pu_assign (OT.tmp rfl)) rfl rfl ?_
  refine tr_nil ?_
  refine then_normal ?_
  refine tr_ret ?_
  exact ret_one .ret (.inl rfl) rfl () (OT.val (OT.tmp rfl) (congrArg Value.bool (by decide))) trivial (by exact picks_nil)
set_option maxRecDepth 20000 in
/-- internal/strconv.formatBits -/
theorem hexBits_fn {K0 : FH} {n0 : Nat} (n : Nat) (hV : VarsV K0) (h : n < 128) : CtM K0 n0 Tryd.prog 79 [IsV nilS, IntT .u64 (n : Int), I64 16, BoolT false, BoolT false] ([]) Unit (fun _ => TupT [IsV nilS, BsT (hexL n)]) (fun _ => []) (fun _ => True) := by
  refine fn_introM Tryd.func79 rfl rfl ?_
  intro H w hK hn
  refine tr_seq ?_
  -- region 0
  refine tr_env (es_cons (t := 0) (OT.tmp rfl) (es_cons (t := 1) (OT.tmp rfl) (es_cons (t := 2) (OT.tmp rfl) (es_cons (t := 3) (OT.tmp rfl) (es_cons (t := 4) (OT.tmp rfl) es_nil))))) ?_
  refine tr_region ?_
  refine op_pure (pu_assign OT.const) rfl rfl ?_
  refine op_pure (pu_assign OT.const) rfl rfl ?_
  refine tr_nil ?_
  refine then_normal ?_
  refine tr_seq ?_
  refine tr_seq ?_
  -- region 1
  refine tr_env (es_cons (t := 0) (OT.tmp rfl) (es_cons (t := 1) (OT.tmp rfl) (es_cons (t := 2) (OT.tmp rfl) (es_cons (t := 3) (OT.tmp rfl) (es_cons (t := 4) (OT.tmp rfl) (es_cons (t := 10) (OT.tmp rfl) (es_cons (t := 11) (OT.tmp rfl) es_nil))))))) ?_
  refine tr_region ?_
  refine op_pure (pu_move (OT.tmp rfl)) rfl rfl ?_
  refine op_pure (pu_lss (OT.tmp rfl) OT.const) rfl rfl ?_
  refine op_pure (pu_move (OT.tmp rfl)) rfl rfl ?_
  refine op_gu rfl rfl rfl (OT.gu_mk (OT.tmp rfl)) (fun hg => by (have hg1 := hg.2; (try simp only [decide_eq_true_eq, decide_eq_false_iff_not] at hg1); exact pu_move (by exact OT.tmp rfl))) rfl ?_
  refine op_gu rfl rfl rfl (OT.gu_mk (OT.tmp rfl)) (fun hg => by (have hg1 := hg.2; (try simp only [decide_eq_true_eq, decide_eq_false_iff_not] at hg1); exact pu_eql (by exact OT.gu (OT.tmp rfl) hg) OT.const)) rfl ?_
  refine op_pure (pu_pick_or (OT.tmp rfl) (by exact OT.tmp rfl)) rfl rfl ?_
  refine op_pure (pu_move (OT.tmp rfl)) rfl rfl ?_
  refine op_gu rfl rfl rfl (OT.gu_mk (OT.tmp rfl)) (fun hg => by (have hg1 := hg.2; (try simp only [decide_eq_true_eq, decide_eq_false_iff_not] at hg1); exact pu_move (by exact OT.tmp rfl))) rfl ?_
  refine op_gu rfl rfl rfl (OT.gu_mk (OT.tmp rfl)) (fun hg => by (have hg1 := hg.2; (try simp only [decide_eq_true_eq, decide_eq_false_iff_not] at hg1); exact pu_gtr (by exact OT.gu (OT.tmp rfl) hg) OT.const)) rfl ?_
  refine op_pure (pu_pick_or (OT.tmp rfl) (by exact OT.tmp rfl)) rfl rfl ?_
  refine tr_nil ?_
  refine then_normal ?_
  refine tr_cond (OT.tmp rfl) (fun c28 => ?_) (fun c28 => ?_)
  · skip
    exact absurd c28 (by simp) --done
  · skip
    refine tr_skip ?_
    refine then_normal ?_
    refine tr_seq ?_
    -- region 3
    refine tr_env (es_cons (t := 0) (OT.tmp rfl) (es_cons (t := 1) (OT.tmp rfl) (es_cons (t := 2) (OT.tmp rfl) (es_cons (t := 3) (OT.tmp rfl) (es_cons (t := 4) (OT.tmp rfl) (es_cons (t := 10) (OT.tmp rfl) (es_cons (t := 11) (OT.tmp rfl) es_nil))))))) ?_
    refine tr_region ?_
    refine op_acts (acts_alloc z65) (List.Perm.refl _) rfl rfl (fun g3_0 _ => ?_)
    refine tr_nil ?_
    refine then_normal ?_
    refine tr_seq ?_
    -- region 4
    refine tr_env (es_cons (t := 0) (OT.tmp rfl) (es_cons (t := 1) (OT.tmp rfl) (es_cons (t := 2) (OT.tmp rfl) (es_cons (t := 3) (OT.tmp rfl) (es_cons (t := 4) (OT.tmp rfl) (es_cons (t := 10) (OT.tmp rfl) (es_cons (t := 11) (OT.tmp rfl) (es_cons (t := 12) (OT.tmp rfl) es_nil)))))))) ?_
    refine tr_region ?_
    refine op_pure (pu_assign OT.const) rfl rfl ?_
    refine tr_nil ?_
    refine then_normal ?_
    refine tr_seq ?_
    refine tr_seq ?_
    -- region 5
    refine tr_env (es_cons (t := 0) (OT.tmp rfl) (es_cons (t := 1) (OT.tmp rfl) (es_cons (t := 2) (OT.tmp rfl) (es_cons (t := 3) (OT.tmp rfl) (es_cons (t := 4) (OT.tmp rfl) (es_cons (t := 10) (OT.tmp rfl) (es_cons (t := 11) (OT.tmp rfl) (es_cons (t := 12) (OT.tmp rfl) (es_cons (t := 13) (OT.tmp rfl) es_nil))))))))) ?_
    refine tr_region ?_
    refine op_pure (pu_move (OT.tmp rfl)) rfl rfl ?_
    refine tr_nil ?_
    refine then_normal ?_
    refine tr_cond (OT.tmp rfl) (fun c30 => ?_) (fun c30 => ?_)
    · skip
      exact absurd c30 (by simp) --done
    · skip
      refine tr_skip ?_
      refine then_normal ?_
      refine tr_seq ?_
      refine tr_seq ?_
      -- region 7
      refine tr_env (es_cons (t := 0) (OT.tmp rfl) (es_cons (t := 1) (OT.tmp rfl) (es_cons (t := 2) (OT.tmp rfl) (es_cons (t := 3) (OT.tmp rfl) (es_cons (t := 4) (OT.tmp rfl) (es_cons (t := 10) (OT.tmp rfl) (es_cons (t := 11) (OT.tmp rfl) (es_cons (t := 12) (OT.tmp rfl) (es_cons (t := 13) (OT.tmp rfl) es_nil))))))))) ?_
      refine tr_region ?_
      refine op_pure (pu_move (OT.tmp rfl)) rfl rfl ?_
      refine op_acts (acts_call pow2_fn (show enters Tryd.prog 99 = true from by decide +kernel) (OTs.cons (OT.tmp rfl) OTs.nil) (List.Perm.refl _)) (List.Perm.refl _) rfl rfl (fun _ _ => ?_)
      refine tr_nil ?_
      refine then_normal ?_
      refine tr_cond (OT.tmp rfl) (fun c34 => ?_) (fun c34 => ?_)
      · skip
        refine tr_seq ?_
        -- region 8
        refine tr_env (es_cons (t := 0) (OT.tmp rfl) (es_cons (t := 1) (OT.tmp rfl) (es_cons (t := 2) (OT.tmp rfl) (es_cons (t := 3) (OT.tmp rfl) (es_cons (t := 4) (OT.tmp rfl) (es_cons (t := 10) (OT.tmp rfl) (es_cons (t := 11) (OT.tmp rfl) (es_cons (t := 12) (OT.tmp rfl) (es_cons (t := 13) (OT.tmp rfl) es_nil))))))))) ?_
        refine tr_region ?_
        refine op_pure (pu_move (OT.tmp rfl)) rfl rfl ?_
        refine op_pure (pu_convert' (OT.tmp rfl) Tryd.underlying3 Tryd.underlying55 (by omega) (by omega) rfl) rfl rfl ?_
        refine op_acts (acts_callM (Tz16_ct hV) (mk_in hK hn) (show enters Tryd.prog 100 = true from by decide +kernel) (OTs.cons (OT.tmp rfl) OTs.nil) (List.Perm.refl _)) (List.Perm.refl _) rfl rfl (fun _ _ => ?_)
        refine op_pure (pu_convert' (OT.tmp rfl) Tryd.underlying3 Tryd.underlying55 (by omega) (by omega) rfl) rfl rfl ?_
        refine op_pure (pu_assign (OT.tmp rfl)) rfl rfl ?_
        refine tr_nil ?_
        refine then_normal ?_
        refine tr_seq ?_
        -- region 9
        refine tr_env (es_cons (t := 0) (OT.tmp rfl) (es_cons (t := 1) (OT.tmp rfl) (es_cons (t := 2) (OT.tmp rfl) (es_cons (t := 3) (OT.tmp rfl) (es_cons (t := 4) (OT.tmp rfl) (es_cons (t := 10) (OT.tmp rfl) (es_cons (t := 11) (OT.tmp rfl) (es_cons (t := 12) (OT.tmp rfl) (es_cons (t := 13) (OT.tmp rfl) (es_cons (t := 14) (OT.tmp rfl) es_nil)))))))))) ?_
        refine tr_region ?_
        refine op_pure (pu_move (OT.tmp rfl)) rfl rfl ?_
        refine op_pure (pu_convert' (OT.tmp rfl) Tryd.underlying3 Tryd.underlying64 (by omega) (by omega) rfl) rfl rfl ?_
        refine op_pure (pu_assign (OT.tmp rfl)) rfl rfl ?_
        refine tr_nil ?_
        refine then_normal ?_
        refine tr_seq ?_
        -- region 10
        refine tr_env (es_cons (t := 0) (OT.tmp rfl) (es_cons (t := 1) (OT.tmp rfl) (es_cons (t := 2) (OT.tmp rfl) (es_cons (t := 3) (OT.tmp rfl) (es_cons (t := 4) (OT.tmp rfl) (es_cons (t := 10) (OT.tmp rfl) (es_cons (t := 11) (OT.tmp rfl) (es_cons (t := 12) (OT.tmp rfl) (es_cons (t := 13) (OT.tmp rfl) (es_cons (t := 14) (OT.tmp rfl) (es_cons (t := 15) (OT.tmp rfl) es_nil))))))))))) ?_
        refine tr_region ?_
        refine op_pure (pu_move (OT.tmp rfl)) rfl rfl ?_
        refine op_pure (pu_convert' (OT.tmp rfl) Tryd.underlying3 Tryd.underlying55 (by omega) (by omega) rfl) rfl rfl ?_
        refine op_pure (pu_sub (OT.tmp rfl) OT.const) rfl rfl ?_
        refine op_pure (pu_assign (OT.tmp rfl)) rfl rfl ?_
        refine tr_nil ?_
        refine then_normal ?_
        refine tr_seq ?_
        refine tr_block ?_
        refine tr_loopK (σ := Bool) (es_cons (t := 0) (OT.tmp rfl) (es_cons (t := 3) (OT.tmp rfl) (es_cons (t := 4) (OT.tmp rfl) (es_cons (t := 10) (OT.tmp rfl) (es_cons (t := 11) (OT.tmp rfl) (es_cons (t := 12) (OT.tmp rfl) (es_cons (t := 14) (OT.tmp rfl) (es_cons (t := 15) (OT.tmp rfl) (es_cons (t := 16) (OT.tmp rfl) es_nil))))))))) (fun b => [(1, IntT .u64 (leftH n b : Int)), (13, I64 (atH b))]) (fun b => [BlkI g3_0 127 (karr 65 (kint .u8)) (bufH n b)]) (fun b => b = true → 16 ≤ n) (fun b => leftH n b) false (fun h => by cases h) ?_ (own_picks (by repeat (first | exact picks_nil | refine picks_cons 0 rfl ?_ | refine picks_cons 1 rfl ?_ | refine picks_cons 2 rfl ?_ | refine picks_cons 3 rfl ?_ | refine picks_cons 4 rfl ?_ | refine picks_cons 5 rfl ?_ | refine picks_cons 6 rfl ?_))) ?_
        · exact (es_cons (t := 1) (OT.tmp rfl) (es_cons (t := 13) (OT.tmp rfl) es_nil))
        · rintro b hb1
          refine tr_seq ?_
          refine tr_seq ?_
          -- region 11
          refine tr_env (es_cons (t := 0) (OT.tmp rfl) (es_cons (t := 1) (OT.tmp rfl) (es_cons (t := 3) (OT.tmp rfl) (es_cons (t := 4) (OT.tmp rfl) (es_cons (t := 10) (OT.tmp rfl) (es_cons (t := 11) (OT.tmp rfl) (es_cons (t := 12) (OT.tmp rfl) (es_cons (t := 13) (OT.tmp rfl) (es_cons (t := 14) (OT.tmp rfl) (es_cons (t := 15) (OT.tmp rfl) (es_cons (t := 16) (OT.tmp rfl) es_nil))))))))))) ?_
          refine tr_region ?_
          refine op_pure (pu_move (OT.tmp rfl)) rfl rfl ?_
          refine op_pure (pu_move (OT.tmp rfl)) rfl rfl ?_
          refine op_pure (pu_geq (OT.tmp rfl) (OT.tmp rfl)) rfl rfl ?_
          refine tr_nil ?_
          refine then_normal ?_
          refine tr_cond (OT.tmp rfl) (fun c46 => ?_) (fun c46 => ?_)
          · skip
            refine tr_skip ?_
            refine then_normal ?_
            refine tr_block ?_
            refine tr_seq ?_
            -- region 12
            refine tr_env (es_cons (t := 0) (OT.tmp rfl) (es_cons (t := 1) (OT.tmp rfl) (es_cons (t := 3) (OT.tmp rfl) (es_cons (t := 4) (OT.tmp rfl) (es_cons (t := 10) (OT.tmp rfl) (es_cons (t := 11) (OT.tmp rfl) (es_cons (t := 12) (OT.tmp rfl) (es_cons (t := 13) (OT.tmp rfl) (es_cons (t := 14) (OT.tmp rfl) (es_cons (t := 15) (OT.tmp rfl) (es_cons (t := 16) (OT.tmp rfl) es_nil))))))))))) ?_
            obtain rfl : b = false := by cases b with | false => rfl | true => (exfalso; simp [leftH] at c46; omega)
            have hn16 : 16 ≤ n := by simp [leftH] at c46; omega
            refine tr_region ?_
            refine op_pure (pu_move (OT.tmp rfl)) rfl rfl ?_
            refine op_pure (pu_sub' (OT.tmp rfl) OT.const (by decide)) rfl rfl ?_
            refine op_pure (pu_assign (OT.tmp rfl)) rfl rfl ?_
            refine tr_nil ?_
            refine then_normal ?_
            refine tr_seq ?_
            -- region 13
            refine tr_env (es_cons (t := 0) (OT.tmp rfl) (es_cons (t := 1) (OT.tmp rfl) (es_cons (t := 3) (OT.tmp rfl) (es_cons (t := 4) (OT.tmp rfl) (es_cons (t := 10) (OT.tmp rfl) (es_cons (t := 11) (OT.tmp rfl) (es_cons (t := 12) (OT.tmp rfl) (es_cons (t := 13) (OT.tmp rfl) (es_cons (t := 14) (OT.tmp rfl) (es_cons (t := 15) (OT.tmp rfl) (es_cons (t := 16) (OT.tmp rfl) es_nil))))))))))) ?_
            refine tr_region ?_
            refine op_pure (pu_move (OT.tmp rfl)) rfl rfl ?_
            refine op_pure (pu_move (OT.tmp rfl)) rfl rfl ?_
            refine op_pure (pu_move (OT.tmp rfl)) rfl rfl ?_
            refine op_pure (pu_bits (OT.tmp rfl) (OT.tmp rfl) (by simp)) rfl rfl ?_
            refine tr_as 52 (T := IntT .u64 ((n % 16 : Nat) : Int)) (OT.val (OT.tmp rfl) (congrArg (Value.int _) (by rw [show IntKind.u64.wrap (16 - 1) = 15 from by decide]; exact and15 (n := n) (by omega)))) ?_
            refine op_pure (pu_bs_index OT.const (OT.tmp rfl) Tryd.underlying9 (by omega) (by (simp; omega))) rfl rfl ?_
            refine tr_as 53 (T := IntT .u8 ((dig (n % 16)).toNat : Int)) (OT.val (OT.tmp rfl) (congrArg (Value.int _) (dig_ix (rfl) (by omega)))) ?_
            refine op_pure (pu_index_var (OT.tmp rfl) (by exact mem_at 0 rfl) (OT.tmp rfl) Tryd.underlying127 (show tyOk Tryd.prog 5 false 1 = true from by decide +kernel) (by decide) (by decide)) rfl rfl ?_
            refine op_acts (acts_store_arr (OT.tmp rfl) (OT.tmp rfl) (by exact perm_at 0 rfl) (show tyOk Tryd.prog 5 false 1 = true from by decide +kernel) (by decide) (by decide)) (by exact perm_at 0 rfl) rfl rfl (fun _ _ => ?_)
            refine tr_nil ?_
            refine then_normal ?_
            -- region 14
            refine tr_env (es_cons (t := 0) (OT.tmp rfl) (es_cons (t := 1) (OT.tmp rfl) (es_cons (t := 3) (OT.tmp rfl) (es_cons (t := 4) (OT.tmp rfl) (es_cons (t := 10) (OT.tmp rfl) (es_cons (t := 11) (OT.tmp rfl) (es_cons (t := 12) (OT.tmp rfl) (es_cons (t := 13) (OT.tmp rfl) (es_cons (t := 14) (OT.tmp rfl) (es_cons (t := 15) (OT.tmp rfl) (es_cons (t := 16) (OT.tmp rfl) es_nil))))))))))) ?_
            refine tr_region ?_
            refine op_pure (pu_move (OT.tmp rfl)) rfl rfl ?_
            refine op_pure (pu_move (OT.tmp rfl)) rfl rfl ?_
            refine op_pure (pu_shr (OT.tmp rfl) (OT.tmp rfl) (by omega)) rfl rfl ?_
            refine op_pure (pu_assign (OT.tmp rfl)) rfl rfl ?_
            refine tr_nil ?_
            refine block_normal ?_
            refine then_normal ?_
            exact tr_again true (fun _ => hn16) (by show n / 16 < n; omega) (es_append (es_cons (t := 1) (OT.val (OT.tmp rfl) (congrArg (Value.int _) (shr4 n))) (es_cons (t := 13) (OT.tmp rfl) es_nil)) (es_cons (t := 0) (OT.tmp rfl) (es_cons (t := 3) (OT.tmp rfl) (es_cons (t := 4) (OT.tmp rfl) (es_cons (t := 10) (OT.tmp rfl) (es_cons (t := 11) (OT.tmp rfl) (es_cons (t := 12) (OT.tmp rfl) (es_cons (t := 14) (OT.tmp rfl) (es_cons (t := 15) (OT.tmp rfl) (es_cons (t := 16) (OT.tmp rfl) es_nil)))))))))) (own_picks (by repeat (first | exact picks_nil | refine picks_cons 0 rfl ?_ | refine picks_cons 1 rfl ?_ | refine picks_cons 2 rfl ?_ | refine picks_cons 3 rfl ?_ | refine picks_cons 4 rfl ?_ | refine picks_cons 5 rfl ?_ | refine picks_cons 6 rfl ?_)))
          · skip
            refine tr_exit ?_
            refine then_exit ?_
            refine then_exit ?_
            refine block_hit ?_
            refine then_normal ?_
            refine tr_seq ?_
            -- region 15
            refine tr_env (es_cons (t := 0) (OT.tmp rfl) (es_cons (t := 1) (OT.tmp rfl) (es_cons (t := 3) (OT.tmp rfl) (es_cons (t := 4) (OT.tmp rfl) (es_cons (t := 10) (OT.tmp rfl) (es_cons (t := 11) (OT.tmp rfl) (es_cons (t := 12) (OT.tmp rfl) (es_cons (t := 13) (OT.tmp rfl) es_nil)))))))) ?_
            have hb : b = true ↔ 16 ≤ n := ⟨hb1, fun e => by cases b with | true => rfl | false => (exfalso; simp [leftH] at c46; omega)⟩
            have hlh : leftH n b < 16 := by simp at c46; omega
            have hat : 64 ≤ atH b ∧ atH b ≤ 65 := by cases b <;> simp [atH]
            refine tr_region ?_
            refine op_pure (pu_move (OT.tmp rfl)) rfl rfl ?_
            refine op_pure (pu_sub' (OT.tmp rfl) OT.const (by omega)) rfl rfl ?_
            refine op_pure (pu_assign (OT.tmp rfl)) rfl rfl ?_
            refine tr_nil ?_
            refine then_normal ?_
            -- region 16
            refine tr_env (es_cons (t := 0) (OT.tmp rfl) (es_cons (t := 1) (OT.tmp rfl) (es_cons (t := 3) (OT.tmp rfl) (es_cons (t := 4) (OT.tmp rfl) (es_cons (t := 10) (OT.tmp rfl) (es_cons (t := 11) (OT.tmp rfl) (es_cons (t := 12) (OT.tmp rfl) (es_cons (t := 13) (OT.tmp rfl) es_nil)))))))) ?_
            refine tr_region ?_
            refine op_pure (pu_move (OT.tmp rfl)) rfl rfl ?_
            refine op_pure (pu_move (OT.tmp rfl)) rfl rfl ?_
            refine op_pure (pu_bs_index OT.const (OT.tmp rfl) Tryd.underlying9 (by omega) (by (simp; omega))) rfl rfl ?_
            refine tr_as 62 (T := IntT .u8 ((dig (leftH n b)).toNat : Int)) (OT.val (OT.tmp rfl) (congrArg (Value.int _) (dig_ix (rfl) (by omega)))) ?_
            refine op_pure (pu_index_var (OT.tmp rfl) (by exact mem_at 0 rfl) (OT.tmp rfl) Tryd.underlying127 (show tyOk Tryd.prog 5 false 1 = true from by decide +kernel) (by omega) (by omega)) rfl rfl ?_
            refine op_acts (acts_store_arr (OT.tmp rfl) (OT.tmp rfl) (by exact perm_at 0 rfl) (show tyOk Tryd.prog 5 false 1 = true from by decide +kernel) (by omega) (by omega)) (by exact perm_at 0 rfl) rfl rfl (fun _ _ => ?_)
            refine tr_nil ?_
            refine then_normal ?_
            refine tr_seq ?_
            refine tr_seq ?_
            -- region 25
            refine tr_env (es_cons (t := 0) (OT.tmp rfl) (es_cons (t := 3) (OT.tmp rfl) (es_cons (t := 4) (OT.tmp rfl) (es_cons (t := 10) (OT.tmp rfl) (es_cons (t := 11) (OT.tmp rfl) (es_cons (t := 12) (OT.tmp rfl) (es_cons (t := 13) (OT.tmp rfl) es_nil))))))) ?_
            refine tr_region ?_
            refine op_pure (pu_move (OT.tmp rfl)) rfl rfl ?_
            refine tr_nil ?_
            refine then_normal ?_
            refine tr_cond (OT.tmp rfl) (fun c89 => ?_) (fun c89 => ?_)
            · skip
              exact absurd c89 (by simp) --done
            · skip
              refine tr_skip ?_
              refine then_normal ?_
              refine tr_seq ?_
              refine tr_seq ?_
              -- region 28
              refine tr_env (es_cons (t := 0) (OT.tmp rfl) (es_cons (t := 4) (OT.tmp rfl) (es_cons (t := 10) (OT.tmp rfl) (es_cons (t := 11) (OT.tmp rfl) (es_cons (t := 12) (OT.tmp rfl) (es_cons (t := 13) (OT.tmp rfl) es_nil)))))) ?_
              refine tr_region ?_
              refine op_pure (pu_move (OT.tmp rfl)) rfl rfl ?_
              refine tr_nil ?_
              refine then_normal ?_
              refine tr_cond (OT.tmp rfl) (fun c94 => ?_) (fun c94 => ?_)
              · skip
                exact absurd c94 (by simp) --done
              · skip
                refine tr_skip ?_
                refine then_normal ?_
                refine tr_seq ?_
                -- region 30
                refine tr_env (es_cons (t := 10) (OT.tmp rfl) (es_cons (t := 12) (OT.tmp rfl) (es_cons (t := 13) (OT.tmp rfl) es_nil))) ?_
                refine tr_region ?_
                refine op_pure (pu_move (OT.tmp rfl)) rfl rfl ?_
                refine op_acts (acts_slice_arr_lo (d := (kint .u8)) (OT.tmp rfl) (by exact perm_at 0 rfl) (OT.tmp rfl) Tryd.underlying127 (show tyOk Tryd.prog 5 false 1 = true from by decide +kernel) (by omega) (by omega) (by decide)) (by exact perm_at 0 rfl) rfl rfl (fun _ _ => ?_)
                refine tr_as 100 (T := SlT (kint .u8) (nums (hexL n))) (OT.eq (OT.tmp rfl) (congrArg (SlT (kint .u8)) (buf_end n b (by omega) hb))) ?_
                refine op_pure (pu_bytes_bs (OT.tmp rfl) Tryd.underlying26 Tryd.underlying5 Tryd.underlying9) rfl rfl ?_
                refine op_pure (pu_assign (OT.tmp rfl)) rfl rfl ?_
                refine tr_nil ?_
                refine then_normal ?_
                refine tr_ret ?_
                exact ret_two .ret (.inl rfl) rfl () (OT.tmp rfl) (OT.val (OT.tmp rfl) (congrArg Value.string (congrArg bs (unnum_nums (hexL n))))) (fun _ _ h => h) trivial (by exact picks_nil)
      · skip
        exact absurd c34 (by simp) --done
end Go.Proofs.YtdlendioamiagaaDoor
/- Values of properties, plain: runes read and written; a text as it is shown. -/
namespace Go.Vl
open Go Go.Gw Go.Lib
set_option linter.unusedVariables false
set_option linter.unusedSimpArgs false
theorem decodeN_rune (n b0 b1 b2 b3 : Nat) : isRune ((decodeN n b0 b1 b2 b3).1 : Int) := by
  unfold decodeN isRune
  repeat' split
  all_goals (simp only []; omega)
theorem rune_is (l : List UInt8) : isRune ((rune l).1 : Int) := by
  unfold rune; rw [decodeL_N]; exact decodeN_rune _ _ _ _ _
theorem rune_w {l : List UInt8} (h : l ≠ []) : 1 ≤ (rune l).2 ∧ (rune l).2 ≤ l.length := ⟨decodeL_width l, decodeL_le l h⟩
/-- No rune is read. -/
def badR (l : List UInt8) : Bool := decide ((rune l).1 = 65533 ∧ (rune l).2 = 1)
theorem valid_step {l : List UInt8} (h : l ≠ []) : validD l = (!badR l && validD (l.drop (rune l).2)) := by
  rw [validD_step l h]
  unfold badR
  by_cases hb : (decodeL l).1 = 65533 ∧ (decodeL l).2 = 1
  · rw [if_pos hb, decide_eq_true (show (rune l).1 = 65533 ∧ (rune l).2 = 1 from hb)]; rfl
  · rw [if_neg hb, decide_eq_false (show ¬ ((rune l).1 = 65533 ∧ (rune l).2 = 1) from hb)]; rfl
theorem of_byte {z : Int} (h0 : 0 ≤ z) (h1 : z < 256) : (z.toNat.toUInt8).toNat = z.toNat := by
  show (UInt8.ofNat z.toNat).toNat = _
  rw [UInt8.toNat_ofNat']; omega
/-! ### How a text is shown -/
def showC (c : Nat) : List UInt8 := if c = 34 ∨ c = 92 then [92, UInt8.ofNat c] else if c = 10 then [92, 110] else if c = 9 then [92, 116] else if c < 32 ∨ c = 127 then [92, 117, 123] ++ hexL c ++ [125] else enc c
def showT (l : List UInt8) : List UInt8 := if h : l = [] then [] else showC (rune l).1 ++ showT (l.drop (rune l).2)
termination_by l.length
decreasing_by
  have := rune_w h
  rw [List.length_drop]; omega
theorem showT_nil : showT [] = [] := by rw [showT, dif_pos rfl]
theorem showT_step {l : List UInt8} (h : l ≠ []) : showT l = showC (rune l).1 ++ showT (l.drop (rune l).2) := by rw [showT, dif_neg h]
theorem hex_len {c : Nat} (h : c < 128) : (hexL c).length ≤ 2 := by
  by_cases h1 : c < 16
  · rw [hex_one h1]; simp
  · rw [hex_two (by omega) (by omega)]; simp
theorem enc_len (c : Int) : 1 ≤ (enc c).length ∧ (enc c).length ≤ 4 := by
  unfold enc encodeRune; rw [List.length_map]; exact encodeRuneZ_length c
theorem showC_len (c : Nat) : (showC c).length ≤ 6 := by
  unfold showC
  repeat' split
  · simp
  · simp
  · simp
  · rename_i h; have := hex_len (c := c) (by omega); simp; omega
  · have := (enc_len c).2; omega
theorem showT_len : ∀ (n : Nat) (l : List UInt8), l.length ≤ n → (showT l).length ≤ 6 * l.length
  | n, l, hn => by
    by_cases h : l = []
    · subst h; rw [showT_nil]; simp
    · have hw := rune_w h
      cases n with
      | zero => have := List.length_pos_iff.2 h; omega
      | succ n =>
        rw [showT_step h, List.length_append]
        have h1 := showT_len n (l.drop (rune l).2) (by rw [List.length_drop]; omega)
        have h2 := showC_len (rune l).1
        rw [List.length_drop] at h1
        omega
def showV (v : Vl) : List UInt8 := if v.1 = 1 then itoa v.2.1 else if v.1 = 3 then formatBool (decide (v.2.1 = 1)) else 34 :: showT v.2.2 ++ [34]
def showR (v : Vl) : List UInt8 := if checkV v = 0 then showV v else []
/-- One step of the shown text. -/
theorem show_next {t : List UInt8} {q : Nat} (h : q < t.length) : showT (t.drop q) = showC (rune (t.drop q)).1 ++ showT (t.drop (q + (rune (t.drop q)).2)) ∧ q + (rune (t.drop q)).2 ≤ t.length ∧ 1 ≤ (rune (t.drop q)).2 := by
  have hne : t.drop q ≠ [] := fun e => by have := congrArg List.length e; simp at this; omega
  have hw := rune_w hne
  rw [List.length_drop] at hw
  refine ⟨?_, by omega, hw.1⟩
  rw [showT_step hne, List.drop_drop]
end Go.Vl
/- Walks through the Go functions strconv.FormatInt, strconv.FormatInt, strings.Clone, val.Show, as typed contracts. -/
namespace Go.Proofs.YtdlendioamiagaaDoor
open Go Go.Gw Go.Vl
set_option linter.unusedVariables false
set_option linter.unusedSimpArgs false
theorem showR_bad {v : Vl} (h : checkV v ≠ 0) : showR v = [] := if_neg h
theorem showR_ok {v : Vl} (h : checkV v = 0) : showR v = showV v := if_pos h
theorem enc_asc {c : Nat} (h : c < 128) : enc (c : Int) = [UInt8.ofNat c] := by
  unfold enc Lib.encodeRune
  rw [Lib.encodeRuneZ_one (by omega) (by omega)]
  rfl

set_option maxRecDepth 20000 in
/-- internal/strconv.FormatInt -/
theorem fmtI_fn {K0 : FH} {n0 : Nat} (n : Nat) (hV : VarsV K0) (h : n < 128) : CtM K0 n0 Tryd.prog 61 [IntT .i64 (n : Int), I64 16] ([]) Unit (fun _ => BsT (hexL n)) (fun _ => []) (fun _ => True) := by
  refine fn_introM Tryd.func61 rfl rfl ?_
  intro H w hK hn
  refine tr_seq ?_
  -- region 0
  refine tr_env (es_cons (t := 0) (OT.tmp rfl) (es_cons (t := 1) (OT.tmp rfl) es_nil)) ?_
  refine tr_region ?_
  refine op_pure (pu_assign OT.const) rfl rfl ?_
  refine tr_nil ?_
  refine then_normal ?_
  refine tr_seq ?_
  refine tr_seq ?_
  -- region 1
  refine tr_env (es_cons (t := 0) (OT.tmp rfl) (es_cons (t := 1) (OT.tmp rfl) es_nil)) ?_
  refine tr_region ?_
  refine op_pure (pu_move (OT.tmp rfl)) rfl rfl ?_
  refine op_pure (pu_eql (OT.tmp rfl) OT.const) rfl rfl ?_
  refine tr_nil ?_
  refine then_normal ?_
  refine tr_cond (OT.tmp rfl) (fun c11 => ?_) (fun c11 => ?_)
  · skip
    exact absurd c11 (by simp) --done
  · skip
    refine tr_skip ?_
    refine then_normal ?_
    refine tr_seq ?_
    -- region 14
    refine tr_env (es_cons (t := 0) (OT.tmp rfl) (es_cons (t := 1) (OT.tmp rfl) es_nil)) ?_
    refine tr_region ?_
    refine op_pure (pu_move (OT.tmp rfl)) rfl rfl ?_
    refine op_pure (pu_convert' (OT.tmp rfl) Tryd.underlying2 Tryd.underlying64 (by omega) (by omega) rfl) rfl rfl ?_
    refine op_pure (pu_move (OT.tmp rfl)) rfl rfl ?_
    refine op_pure (pu_move (OT.tmp rfl)) rfl rfl ?_
    refine op_pure (pu_lss (OT.tmp rfl) OT.const) rfl rfl ?_
    refine op_acts (acts_callM (hexBits_fn n hV h) (mk_in hK hn) (show enters Tryd.prog 79 = true from by decide +kernel) (OTs.cons OT.const (OTs.cons (OT.tmp rfl) (OTs.cons (OT.tmp rfl) (OTs.cons (OT.tmp rfl) (OTs.cons OT.const OTs.nil))))) (List.Perm.refl _)) (List.Perm.refl _) rfl rfl (fun _ _ => ?_)
    refine tr_as 49 (T := BoolT false) (OT.val (OT.tmp rfl) (congrArg Value.bool (by simp))) ?_
    refine op_pure (pu_move (OT.tmp rfl)) rfl rfl ?_
    refine op_pure (pu_extract (OT.tmp rfl) rfl) rfl rfl ?_
    refine op_pure (pu_extract (OT.tmp rfl) rfl) rfl rfl ?_
    refine op_pure (pu_assign (OT.tmp rfl)) rfl rfl ?_
    refine op_pure (pu_assign (OT.tmp rfl)) rfl rfl ?_
    refine tr_nil ?_
    refine then_normal ?_
    refine tr_seq ?_
    -- region 15
    refine tr_env (es_cons (t := 9) (OT.tmp rfl) es_nil) ?_
    refine tr_region ?_
    refine op_pure (pu_move (OT.tmp rfl)) rfl rfl ?_
    refine op_pure (pu_assign (OT.tmp rfl)) rfl rfl ?_
    refine tr_nil ?_
    refine then_normal ?_
    refine tr_ret ?_
    exact ret_one .ret (.inl rfl) rfl () (OT.tmp rfl) trivial (by exact picks_nil)
set_option maxRecDepth 20000 in
/-- strconv.FormatInt -/
theorem fmtInt_fn {K0 : FH} {n0 : Nat} (n : Nat) (hV : VarsV K0) (h : n < 128) : CtM K0 n0 Tryd.prog 38 [IntT .i64 (n : Int), I64 16] ([]) Unit (fun _ => BsT (hexL n)) (fun _ => []) (fun _ => True) := by
  refine fn_introM Tryd.func38 rfl rfl ?_
  intro H w hK hn
  refine tr_seq ?_
  -- region 0
  refine tr_env (es_cons (t := 0) (OT.tmp rfl) (es_cons (t := 1) (OT.tmp rfl) es_nil)) ?_
  refine tr_region ?_
  refine op_pure (pu_assign OT.const) rfl rfl ?_
  refine tr_nil ?_
  refine then_normal ?_
  refine tr_seq ?_
  -- region 1
  refine tr_env (es_cons (t := 0) (OT.tmp rfl) (es_cons (t := 1) (OT.tmp rfl) es_nil)) ?_
  refine tr_region ?_
  refine op_pure (pu_move (OT.tmp rfl)) rfl rfl ?_
  refine op_pure (pu_move (OT.tmp rfl)) rfl rfl ?_
  refine op_acts (acts_callM (fmtI_fn n hV h) (mk_in hK hn) (show enters Tryd.prog 61 = true from by decide +kernel) (OTs.cons (OT.tmp rfl) (OTs.cons (OT.tmp rfl) OTs.nil)) (List.Perm.refl _)) (List.Perm.refl _) rfl rfl (fun _ _ => ?_)
  refine op_pure (pu_assign (OT.tmp rfl)) rfl rfl ?_
  refine tr_nil ?_
  refine then_normal ?_
  refine tr_ret ?_
  exact ret_one .ret (.inl rfl) rfl () (OT.tmp rfl) trivial (by exact picks_nil)
set_option maxRecDepth 20000 in
/-- rhizome/val.Show -/
theorem Show_fn {K0 : FH} {n0 : Nat} (v : Vl) (hV : VarsV K0) (hl : v.2.2.length ≤ 140737488351232) (hi0 : -9223372036854775808 ≤ v.2.1) (hi1 : v.2.1 ≤ 9223372036854775807) : CtM K0 n0 Tryd.prog 14 [kVl.T v] ([]) Unit (fun _ => TupT [BsT (showR v), I64 (checkV v)]) (fun _ => []) (fun _ => True) := by
  refine fn_introM Tryd.func14 rfl rfl ?_
  intro H w hK hn
  refine tr_seq ?_
  -- region 0
  refine tr_env (es_cons (t := 0) (OT.tmp rfl) es_nil) ?_
  refine tr_region ?_
  refine op_acts (acts_box (d := kVl) (OT.tmp rfl)) (List.Perm.refl _) rfl rfl (fun g0_0 _ => ?_)
  refine op_pure (pu_assign OT.const) rfl rfl ?_
  refine op_pure (pu_assign OT.const) rfl rfl ?_
  refine tr_nil ?_
  refine then_normal ?_
  refine tr_seq ?_
  refine tr_seq ?_
  -- region 1
  refine tr_env (es_cons (t := 1) (OT.tmp rfl) es_nil) ?_
  refine tr_region ?_
  refine op_pure (pu_load_var (OT.tmp rfl) (by exact mem_at 0 rfl) (show tyOk Tryd.prog 23 true 3 = true from by decide +kernel)) rfl rfl ?_
  refine op_acts (acts_callM (Check_fn v hV hl) (mk_in hK hn) (show enters Tryd.prog 15 = true from by decide +kernel) (OTs.cons (OT.tmp rfl) OTs.nil) (List.Perm.refl _)) (List.Perm.refl _) rfl rfl (fun _ _ => ?_)
  refine op_pure (pu_assign (OT.tmp rfl)) rfl rfl ?_
  refine tr_nil ?_
  refine then_normal ?_
  refine tr_seq ?_
  -- region 2
  refine tr_env (es_cons (t := 1) (OT.tmp rfl) (es_cons (t := 4) (OT.tmp rfl) es_nil)) ?_
  refine tr_region ?_
  refine op_pure (pu_move (OT.tmp rfl)) rfl rfl ?_
  refine op_pure (pu_neq (OT.tmp rfl) OT.const) rfl rfl ?_
  refine tr_nil ?_
  refine then_normal ?_
  refine tr_cond (OT.tmp rfl) (fun c11 => ?_) (fun c11 => ?_)
  · skip
    have hr0 := showR_bad (v := v) (by simpa using c11)
    refine tr_seq ?_
    -- region 3
    refine tr_env (es_cons (t := 4) (OT.tmp rfl) es_nil) ?_
    refine tr_region ?_
    refine op_pure (pu_move (OT.tmp rfl)) rfl rfl ?_
    refine op_pure (pu_assign OT.const) rfl rfl ?_
    refine op_pure (pu_assign (OT.tmp rfl)) rfl rfl ?_
    refine tr_nil ?_
    refine then_normal ?_
    refine tr_ret ?_
    refine then_ret ?_
    exact ret_two .ret (.inl rfl) rfl () (OT.val (OT.tmp rfl) (congrArg Value.string (congrArg bs hr0.symm))) (OT.tmp rfl) (fun _ _ h => h) trivial (by exact picks_nil)
  · skip
    have hc0 : checkV v = 0 := by simpa using c11
    have hr1 := showR_ok hc0
    have hcase := check_ok hc0
    refine tr_skip ?_
    refine then_normal ?_
    refine tr_seq ?_
    refine tr_seq ?_
    -- region 4
    refine tr_env (es_cons (t := 1) (OT.tmp rfl) es_nil) ?_
    refine tr_region ?_
    refine op_pure (pu_faddr (OT.tmp rfl) (show fieldOk Tryd.prog 23 0 0 false 1 = true from by decide +kernel)) rfl rfl ?_
    refine op_pure (pu_load_blk (OT.tmp rfl) (by exact mem_at 0 rfl) lv0 (show tyOk Tryd.prog 3 false 1 = true from by decide +kernel)) rfl rfl ?_
    refine tr_nil ?_
    refine then_normal ?_
    refine tr_block ?_
    refine tr_seq ?_
    -- region 5
    refine tr_env (es_cons (t := 1) (OT.tmp rfl) (es_cons (t := 14) (OT.tmp rfl) es_nil)) ?_
    refine tr_region ?_
    refine op_pure (pu_eql (OT.tmp rfl) OT.const) rfl rfl ?_
    refine op_pure (pu_assign (OT.tmp rfl)) rfl rfl ?_
    refine tr_nil ?_
    refine then_normal ?_
    refine tr_cond (OT.tmp rfl) (fun c15 => ?_) (fun c15 => ?_)
    · skip
      have hev : showV v = Lib.itoa v.2.1 := if_pos (of_decide_eq_true c15)
      refine tr_seq ?_
      -- region 6
      refine tr_env (es_cons (t := 1) (OT.tmp rfl) es_nil) ?_
      refine tr_region ?_
      refine op_pure (pu_faddr (OT.tmp rfl) (show fieldOk Tryd.prog 23 1 1 false 1 = true from by decide +kernel)) rfl rfl ?_
      refine op_pure (pu_load_blk (OT.tmp rfl) (by exact mem_at 0 rfl) lv1 (show tyOk Tryd.prog 3 false 1 = true from by decide +kernel)) rfl rfl ?_
      refine op_acts (acts_callM (Itoa_ct hV _ (by omega) (by omega)) (mk_in hK hn) (show enters Tryd.prog 33 = true from by decide +kernel) (OTs.cons (OT.tmp rfl) OTs.nil) (List.Perm.refl _)) (List.Perm.refl _) rfl rfl (fun _ _ => ?_)
      refine op_pure (pu_assign (OT.tmp rfl)) rfl rfl ?_
      refine op_pure (pu_assign OT.const) rfl rfl ?_
      refine tr_nil ?_
      refine then_normal ?_
      refine tr_ret ?_
      refine block_ret ?_
      refine then_ret ?_
      exact ret_two .ret (.inl rfl) rfl () (OT.val (OT.tmp rfl) (congrArg Value.string (congrArg bs (by rw [hr1, hev])))) (OT.val (OT.tmp rfl) (congrArg (Value.int _) hc0.symm)) (fun _ _ h => h) trivial (by exact picks_nil)
    · skip
      refine tr_seq ?_
      -- region 7
      refine tr_env (es_cons (t := 1) (OT.tmp rfl) (es_cons (t := 14) (OT.tmp rfl) es_nil)) ?_
      refine tr_region ?_
      refine op_pure (pu_eql (OT.tmp rfl) OT.const) rfl rfl ?_
      refine op_pure (pu_assign (OT.tmp rfl)) rfl rfl ?_
      refine tr_nil ?_
      refine then_normal ?_
      refine tr_cond (OT.tmp rfl) (fun c20 => ?_) (fun c20 => ?_)
      · skip
        have hk : v.1 = 3 := of_decide_eq_true c20
        have hev : showV v = Lib.formatBool (decide (v.2.1 = 1)) := by unfold showV; rw [if_neg (by omega), if_pos hk]
        refine tr_seq ?_
        -- region 8
        refine tr_env (es_cons (t := 1) (OT.tmp rfl) es_nil) ?_
        refine tr_region ?_
        refine op_pure (pu_faddr (OT.tmp rfl) (show fieldOk Tryd.prog 23 1 1 false 1 = true from by decide +kernel)) rfl rfl ?_
        refine op_pure (pu_load_blk (OT.tmp rfl) (by exact mem_at 0 rfl) lv1 (show tyOk Tryd.prog 3 false 1 = true from by decide +kernel)) rfl rfl ?_
        refine op_pure (pu_eql (OT.tmp rfl) OT.const) rfl rfl ?_
        refine op_acts (acts_callM (FormatBool_ct _) (mk_in hK hn) (show enters Tryd.prog 34 = true from by decide +kernel) (OTs.cons (OT.tmp rfl) OTs.nil) (List.Perm.refl _)) (List.Perm.refl _) rfl rfl (fun _ _ => ?_)
        refine op_pure (pu_assign (OT.tmp rfl)) rfl rfl ?_
        refine op_pure (pu_assign OT.const) rfl rfl ?_
        refine tr_nil ?_
        refine then_normal ?_
        refine tr_ret ?_
        refine block_ret ?_
        refine then_ret ?_
        exact ret_two .ret (.inl rfl) rfl () (OT.val (OT.tmp rfl) (congrArg Value.string (congrArg bs (by rw [hr1, hev])))) (OT.val (OT.tmp rfl) (congrArg (Value.int _) hc0.symm)) (fun _ _ h => h) trivial (by exact picks_nil)
      · skip
        refine tr_skip ?_
        refine block_normal ?_
        refine then_normal ?_
        refine tr_seq ?_
        -- region 9
        refine tr_env (es_cons (t := 1) (OT.tmp rfl) es_nil) ?_
        have h1 := of_decide_eq_false c15
        have h3 := of_decide_eq_false c20
        have hk : v.1 = 2 := by omega
        have hlt : v.2.2.length ≤ 64 := by omega
        have hev : showV v = 34 :: showT v.2.2 ++ [34] := by unfold showV; rw [if_neg (by omega), if_neg (by omega)]
        have hsl := showT_len 64 v.2.2 hlt
        refine tr_region ?_
        refine op_acts (acts_alloc zBld) (List.Perm.refl _) rfl rfl (fun g9_0 _ => ?_)
        refine tr_nil ?_
        refine then_normal ?_
        refine tr_seq ?_
        -- region 10
        refine tr_env (es_cons (t := 1) (OT.tmp rfl) (es_cons (t := 5) (OT.tmp rfl) es_nil)) ?_
        refine tr_nilItem 5 (kint .u8) ?_
        refine tr_region ?_
        refine op_acts (acts_call (wByte_fn g9_0 (.pointer none) nilS [] 34 (.inl rfl) (by simp)) (show enters Tryd.prog 35 = true from by decide +kernel) (OTs.cons (OT.tmp rfl) (OTs.cons OT.const OTs.nil)) (by exact perm2_at 1 0 rfl rfl)) (by exact perm2_at 1 0 rfl rfl) rfl rfl (fun u10 _ => ?_)
        refine tr_nil ?_
        refine then_normal ?_
        refine tr_seq ?_
        refine tr_seq ?_
        -- region 11
        refine tr_env (es_cons (t := 1) (OT.tmp rfl) (es_cons (t := 5) (OT.tmp rfl) es_nil)) ?_
        refine tr_region ?_
        refine op_pure (pu_faddr (OT.tmp rfl) (show fieldOk Tryd.prog 23 2 2 false 1 = true from by decide +kernel)) rfl rfl ?_
        refine op_pure (pu_load_blk (OT.tmp rfl) (by exact mem_at 2 rfl) lv2 (show tyOk Tryd.prog 9 false 1 = true from by decide +kernel)) rfl rfl ?_
        refine op_acts (acts_range_bs Tryd.underlying9 (OT.tmp rfl)) (List.Perm.refl _) rfl rfl (fun g11_2 _ => ?_)
        refine tr_nil ?_
        refine then_normal ?_
        refine tr_block ?_
        refine tr_loopK (σ := Nat × Value × List UInt8) (es_cons (t := 5) (OT.tmp rfl) (es_cons (t := 29) (OT.tmp rfl) es_nil)) (fun s => []) (fun s => [ItI g11_2 v.2.2 s.1, BlkI g9_0 68 kBld (pt g9_0 0, s.2.1), OwnI 5 (kint .u8) s.2.1 (nums s.2.2), BlkI g0_0 23 kVl v]) (fun s => s.1 ≤ v.2.2.length ∧ s.2.2 ++ showT (v.2.2.drop s.1) = 34 :: showT v.2.2) (fun s => v.2.2.length - s.1) (0, u10, [34]) ⟨Nat.zero_le _, rfl⟩ ?_ (own_picks (by repeat (first | exact picks_nil | refine picks_cons 0 rfl ?_ | refine picks_cons 1 rfl ?_ | refine picks_cons 2 rfl ?_ | refine picks_cons 3 rfl ?_ | refine picks_cons 4 rfl ?_ | refine picks_cons 5 rfl ?_ | refine picks_cons 6 rfl ?_))) ?_
        · exact es_nil
        · rintro ⟨q, u, out⟩ ⟨hq0, hout⟩
          dsimp only at hq0 hout ⊢
          refine tr_seq ?_
          -- region 12
          refine tr_env (es_cons (t := 5) (OT.tmp rfl) (es_cons (t := 29) (OT.tmp rfl) es_nil)) ?_
          refine tr_region ?_
          refine op_acts (acts_next_bs (OT.tmp rfl) (by exact perm_at 0 rfl)) (by exact perm_at 0 rfl) rfl rfl (fun _ _ => ?_)
          refine op_pure (pu_next0 (OT.tmp rfl)) rfl rfl ?_
          refine tr_nil ?_
          refine then_normal ?_
          refine tr_seq ?_
          refine tr_cond (OT.tmp rfl) (fun c31 => ?_) (fun c31 => ?_)
          · skip
            refine tr_skip ?_
            refine then_normal ?_
            refine tr_block ?_
            refine tr_seq ?_
            -- region 13
            refine tr_env (es_cons (t := 5) (OT.tmp rfl) (es_cons (t := 29) (OT.tmp rfl) (es_cons (t := 30) (OT.tmp rfl) es_nil))) ?_
            have hq : q < v.2.2.length := by simpa using c31
            obtain ⟨hs, hw2, hw1⟩ := show_next hq
            have hci := rune_is (v.2.2.drop q)
            obtain ⟨c, hc⟩ : ∃ c, (rune (v.2.2.drop q)).1 = c := ⟨_, rfl⟩
            rw [hc] at hci
            have hol : out.length ≤ 400 := by have h9 := congrArg List.length hout; simp at h9; omega
            refine tr_region ?_
            refine op_pure (pu_next2 (by assumption) (OT.tmp rfl)) rfl rfl ?_
            refine op_pure (pu_assign (OT.tmp rfl)) rfl rfl ?_
            refine tr_nil ?_
            refine then_normal ?_
            refine tr_block ?_
            refine tr_seq ?_
            -- region 15
            refine tr_env (es_cons (t := 5) (OT.tmp rfl) (es_cons (t := 7) (OT.tmp rfl) (es_cons (t := 29) (OT.tmp rfl) es_nil))) ?_
            rw [hc]
            refine tr_region ?_
            refine op_pure (pu_move (OT.tmp rfl)) rfl rfl ?_
            refine op_pure (pu_eql (OT.tmp rfl) OT.const) rfl rfl ?_
            refine op_pure (pu_move (OT.tmp rfl)) rfl rfl ?_
            refine op_gu rfl rfl rfl (OT.gu_mk (OT.tmp rfl)) (fun hg => by (have hg1 := hg.2; (try simp only [decide_eq_true_eq, decide_eq_false_iff_not] at hg1); exact pu_move (by exact OT.tmp rfl))) rfl ?_
            refine op_gu rfl rfl rfl (OT.gu_mk (OT.tmp rfl)) (fun hg => by (have hg1 := hg.2; (try simp only [decide_eq_true_eq, decide_eq_false_iff_not] at hg1); exact pu_eql (by exact OT.gu (OT.tmp rfl) hg) OT.const)) rfl ?_
            refine op_pure (pu_pick_or (OT.tmp rfl) (by exact OT.tmp rfl)) rfl rfl ?_
            refine op_pure (pu_assign (OT.tmp rfl)) rfl rfl ?_
            refine tr_nil ?_
            refine then_normal ?_
            refine tr_cond (OT.tmp rfl) (fun c35 => ?_) (fun c35 => ?_)
            · skip
              have hcc : c = 34 ∨ c = 92 := by simp at c35; omega
              have hX : showC c = [92] ++ enc c := by unfold showC; rw [if_pos hcc, enc_asc (by omega)]; rfl
              refine tr_seq ?_
              -- region 16
              refine tr_env (es_cons (t := 5) (OT.tmp rfl) (es_cons (t := 7) (OT.tmp rfl) (es_cons (t := 29) (OT.tmp rfl) es_nil))) ?_
              refine tr_region ?_
              refine op_acts (acts_call (wByte_fn g9_0 (pt g9_0 0) u out 92 (.inr rfl) (by omega)) (show enters Tryd.prog 35 = true from by decide +kernel) (OTs.cons (OT.tmp rfl) (OTs.cons OT.const OTs.nil)) (by exact perm2_at 1 1 rfl rfl)) (by exact perm2_at 1 1 rfl rfl) rfl rfl (fun u16 _ => ?_)
              refine tr_nil ?_
              refine then_normal ?_
              -- region 17
              refine tr_env (es_cons (t := 5) (OT.tmp rfl) (es_cons (t := 7) (OT.tmp rfl) (es_cons (t := 29) (OT.tmp rfl) es_nil))) ?_
              refine tr_region ?_
              refine op_pure (pu_move (OT.tmp rfl)) rfl rfl ?_
              refine op_acts (acts_call (wRune_fn g9_0 (pt g9_0 0) u16 (out ++ [92]) c (.inr rfl) (by simp; omega) hci) (show enters Tryd.prog 36 = true from by decide +kernel) (OTs.cons (OT.tmp rfl) (OTs.cons (OT.tmp rfl) OTs.nil)) (by exact perm2_at 0 0 rfl rfl)) (by exact perm2_at 0 0 rfl rfl) rfl rfl (fun u17 _ => ?_)
              refine tr_nil ?_
              refine block_normal ?_
              refine block_normal ?_
              refine then_normal ?_
              exact tr_again (q + (rune (v.2.2.drop q)).2, u17, out ++ ([92] ++ enc c)) ⟨by show q + _ ≤ _; exact hw2, by show (out ++ ([92] ++ enc c)) ++ showT (v.2.2.drop (q + (rune (v.2.2.drop q)).2)) = _; rw [← hout, hs, hc, hX, List.append_assoc]⟩ (by show v.2.2.length - (q + _) < v.2.2.length - q; omega) (es_append es_nil (es_cons (t := 5) (OT.tmp rfl) (es_cons (t := 29) (OT.tmp rfl) es_nil))) (own_picks (by rw [nextP_lt hq, show out ++ [92] ++ enc (c : Int) = out ++ ([92] ++ enc (c : Int)) from List.append_assoc _ _ _]; exact (by repeat (first | exact picks_nil | refine picks_cons 0 rfl ?_ | refine picks_cons 1 rfl ?_ | refine picks_cons 2 rfl ?_ | refine picks_cons 3 rfl ?_ | refine picks_cons 4 rfl ?_ | refine picks_cons 5 rfl ?_ | refine picks_cons 6 rfl ?_))))
            · skip
              refine tr_seq ?_
              -- region 18
              refine tr_env (es_cons (t := 5) (OT.tmp rfl) (es_cons (t := 7) (OT.tmp rfl) (es_cons (t := 29) (OT.tmp rfl) es_nil))) ?_
              refine tr_region ?_
              refine op_pure (pu_move (OT.tmp rfl)) rfl rfl ?_
              refine op_pure (pu_eql (OT.tmp rfl) OT.const) rfl rfl ?_
              refine op_pure (pu_assign (OT.tmp rfl)) rfl rfl ?_
              refine tr_nil ?_
              refine then_normal ?_
              refine tr_cond (OT.tmp rfl) (fun c45 => ?_) (fun c45 => ?_)
              · skip
                have hcc : c = 10 := by simp at c45; omega
                have hX : showC c = [92, 110] := by subst hcc; rfl
                -- region 19
                refine tr_env (es_cons (t := 5) (OT.tmp rfl) (es_cons (t := 29) (OT.tmp rfl) es_nil)) ?_
                refine tr_region ?_
                refine op_acts (acts_call (wStr_fn g9_0 (pt g9_0 0) u out [92, 110] (.inr rfl) (by omega) (by simp)) (show enters Tryd.prog 37 = true from by decide +kernel) (OTs.cons (OT.tmp rfl) (OTs.cons OT.const OTs.nil)) (by exact perm2_at 1 1 rfl rfl)) (by exact perm2_at 1 1 rfl rfl) rfl rfl (fun u19 _ => ?_)
                refine tr_nil ?_
                refine block_normal ?_
                refine block_normal ?_
                refine then_normal ?_
                exact tr_again (q + (rune (v.2.2.drop q)).2, u19, out ++ [92, 110]) ⟨by show q + _ ≤ _; exact hw2, by show (out ++ [92, 110]) ++ showT (v.2.2.drop (q + (rune (v.2.2.drop q)).2)) = _; rw [← hout, hs, hc, hX, List.append_assoc]⟩ (by show v.2.2.length - (q + _) < v.2.2.length - q; omega) (es_append es_nil (es_cons (t := 5) (OT.tmp rfl) (es_cons (t := 29) (OT.tmp rfl) es_nil))) (own_picks (by rw [nextP_lt hq]; exact (by repeat (first | exact picks_nil | refine picks_cons 0 rfl ?_ | refine picks_cons 1 rfl ?_ | refine picks_cons 2 rfl ?_ | refine picks_cons 3 rfl ?_ | refine picks_cons 4 rfl ?_ | refine picks_cons 5 rfl ?_ | refine picks_cons 6 rfl ?_))))
              · skip
                refine tr_seq ?_
                -- region 20
                refine tr_env (es_cons (t := 5) (OT.tmp rfl) (es_cons (t := 7) (OT.tmp rfl) (es_cons (t := 29) (OT.tmp rfl) es_nil))) ?_
                refine tr_region ?_
                refine op_pure (pu_move (OT.tmp rfl)) rfl rfl ?_
                refine op_pure (pu_eql (OT.tmp rfl) OT.const) rfl rfl ?_
                refine op_pure (pu_assign (OT.tmp rfl)) rfl rfl ?_
                refine tr_nil ?_
                refine then_normal ?_
                refine tr_cond (OT.tmp rfl) (fun c49 => ?_) (fun c49 => ?_)
                · skip
                  have hcc : c = 9 := by simp at c49; omega
                  have hX : showC c = [92, 116] := by subst hcc; rfl
                  -- region 21
                  refine tr_env (es_cons (t := 5) (OT.tmp rfl) (es_cons (t := 29) (OT.tmp rfl) es_nil)) ?_
                  refine tr_region ?_
                  refine op_acts (acts_call (wStr_fn g9_0 (pt g9_0 0) u out [92, 116] (.inr rfl) (by omega) (by simp)) (show enters Tryd.prog 37 = true from by decide +kernel) (OTs.cons (OT.tmp rfl) (OTs.cons OT.const OTs.nil)) (by exact perm2_at 1 1 rfl rfl)) (by exact perm2_at 1 1 rfl rfl) rfl rfl (fun u21 _ => ?_)
                  refine tr_nil ?_
                  refine block_normal ?_
                  refine block_normal ?_
                  refine then_normal ?_
                  exact tr_again (q + (rune (v.2.2.drop q)).2, u21, out ++ [92, 116]) ⟨by show q + _ ≤ _; exact hw2, by show (out ++ [92, 116]) ++ showT (v.2.2.drop (q + (rune (v.2.2.drop q)).2)) = _; rw [← hout, hs, hc, hX, List.append_assoc]⟩ (by show v.2.2.length - (q + _) < v.2.2.length - q; omega) (es_append es_nil (es_cons (t := 5) (OT.tmp rfl) (es_cons (t := 29) (OT.tmp rfl) es_nil))) (own_picks (by rw [nextP_lt hq]; exact (by repeat (first | exact picks_nil | refine picks_cons 0 rfl ?_ | refine picks_cons 1 rfl ?_ | refine picks_cons 2 rfl ?_ | refine picks_cons 3 rfl ?_ | refine picks_cons 4 rfl ?_ | refine picks_cons 5 rfl ?_ | refine picks_cons 6 rfl ?_))))
                · skip
                  refine tr_seq ?_
                  -- region 22
                  refine tr_env (es_cons (t := 5) (OT.tmp rfl) (es_cons (t := 7) (OT.tmp rfl) (es_cons (t := 29) (OT.tmp rfl) es_nil))) ?_
                  refine tr_region ?_
                  refine op_pure (pu_move (OT.tmp rfl)) rfl rfl ?_
                  refine op_pure (pu_lss (OT.tmp rfl) OT.const) rfl rfl ?_
                  refine op_pure (pu_move (OT.tmp rfl)) rfl rfl ?_
                  refine op_gu rfl rfl rfl (OT.gu_mk (OT.tmp rfl)) (fun hg => by (have hg1 := hg.2; (try simp only [decide_eq_true_eq, decide_eq_false_iff_not] at hg1); exact pu_move (by exact OT.tmp rfl))) rfl ?_
                  refine op_gu rfl rfl rfl (OT.gu_mk (OT.tmp rfl)) (fun hg => by (have hg1 := hg.2; (try simp only [decide_eq_true_eq, decide_eq_false_iff_not] at hg1); exact pu_eql (by exact OT.gu (OT.tmp rfl) hg) OT.const)) rfl ?_
                  refine op_pure (pu_pick_or (OT.tmp rfl) (by exact OT.tmp rfl)) rfl rfl ?_
                  refine op_pure (pu_assign (OT.tmp rfl)) rfl rfl ?_
                  refine tr_nil ?_
                  refine then_normal ?_
                  refine tr_cond (OT.tmp rfl) (fun c53 => ?_) (fun c53 => ?_)
                  · skip
                    have hcc : c < 32 ∨ c = 127 := by simp at c53; omega
                    have hX : showC c = [92, 117, 123] ++ hexL c ++ [125] := by simp at c35 c45 c49; unfold showC; rw [if_neg (by omega), if_neg (by omega), if_neg (by omega), if_pos hcc]
                    have hxl := hex_len (c := c) (by omega)
                    -- region 23
                    refine tr_env (es_cons (t := 5) (OT.tmp rfl) (es_cons (t := 7) (OT.tmp rfl) (es_cons (t := 29) (OT.tmp rfl) es_nil))) ?_
                    refine tr_region ?_
                    refine op_pure (pu_move (OT.tmp rfl)) rfl rfl ?_
                    refine op_pure (pu_convert' (OT.tmp rfl) Tryd.underlying21 Tryd.underlying2 (by omega) (by omega) rfl) rfl rfl ?_
                    refine op_acts (acts_callM (fmtInt_fn c hV (by omega)) (mk_in hK hn) (show enters Tryd.prog 38 = true from by decide +kernel) (OTs.cons (OT.tmp rfl) (OTs.cons OT.const OTs.nil)) (List.Perm.refl _)) (List.Perm.refl _) rfl rfl (fun _ _ => ?_)
                    refine op_pure (pu_bs_add OT.const (OT.tmp rfl) (by (simp; omega))) rfl rfl ?_
                    refine op_pure (pu_bs_add (OT.tmp rfl) OT.const (by (simp; omega))) rfl rfl ?_
                    refine op_acts (acts_call (wStr_fn g9_0 (pt g9_0 0) u out ([92, 117, 123] ++ hexL c ++ [125]) (.inr rfl) (by omega) (by simp; omega)) (show enters Tryd.prog 37 = true from by decide +kernel) (OTs.cons (OT.tmp rfl) (OTs.cons (OT.tmp rfl) OTs.nil)) (by exact perm2_at 1 1 rfl rfl)) (by exact perm2_at 1 1 rfl rfl) rfl rfl (fun u23 _ => ?_)
                    refine tr_nil ?_
                    refine block_normal ?_
                    refine block_normal ?_
                    refine then_normal ?_
                    exact tr_again (q + (rune (v.2.2.drop q)).2, u23, out ++ ([92, 117, 123] ++ hexL c ++ [125])) ⟨by show q + _ ≤ _; exact hw2, by show (out ++ ([92, 117, 123] ++ hexL c ++ [125])) ++ showT (v.2.2.drop (q + (rune (v.2.2.drop q)).2)) = _; rw [← hout, hs, hc, hX, List.append_assoc]⟩ (by show v.2.2.length - (q + _) < v.2.2.length - q; omega) (es_append es_nil (es_cons (t := 5) (OT.tmp rfl) (es_cons (t := 29) (OT.tmp rfl) es_nil))) (own_picks (by rw [nextP_lt hq]; exact (by repeat (first | exact picks_nil | refine picks_cons 0 rfl ?_ | refine picks_cons 1 rfl ?_ | refine picks_cons 2 rfl ?_ | refine picks_cons 3 rfl ?_ | refine picks_cons 4 rfl ?_ | refine picks_cons 5 rfl ?_ | refine picks_cons 6 rfl ?_))))
                  · skip
                    have hX : showC c = enc c := by simp at c35 c45 c49 c53; unfold showC; rw [if_neg (by omega), if_neg (by omega), if_neg (by omega), if_neg (by omega)]
                    -- region 14
                    refine tr_env (es_cons (t := 5) (OT.tmp rfl) (es_cons (t := 7) (OT.tmp rfl) (es_cons (t := 29) (OT.tmp rfl) es_nil))) ?_
                    refine tr_region ?_
                    refine op_pure (pu_move (OT.tmp rfl)) rfl rfl ?_
                    refine op_acts (acts_call (wRune_fn g9_0 (pt g9_0 0) u out c (.inr rfl) (by omega) hci) (show enters Tryd.prog 36 = true from by decide +kernel) (OTs.cons (OT.tmp rfl) (OTs.cons (OT.tmp rfl) OTs.nil)) (by exact perm2_at 1 1 rfl rfl)) (by exact perm2_at 1 1 rfl rfl) rfl rfl (fun u14 _ => ?_)
                    refine tr_nil ?_
                    refine block_normal ?_
                    refine block_normal ?_
                    refine then_normal ?_
                    exact tr_again (q + (rune (v.2.2.drop q)).2, u14, out ++ enc c) ⟨by show q + _ ≤ _; exact hw2, by show (out ++ enc c) ++ showT (v.2.2.drop (q + (rune (v.2.2.drop q)).2)) = _; rw [← hout, hs, hc, hX, List.append_assoc]⟩ (by show v.2.2.length - (q + _) < v.2.2.length - q; omega) (es_append es_nil (es_cons (t := 5) (OT.tmp rfl) (es_cons (t := 29) (OT.tmp rfl) es_nil))) (own_picks (by rw [nextP_lt hq]; exact (by repeat (first | exact picks_nil | refine picks_cons 0 rfl ?_ | refine picks_cons 1 rfl ?_ | refine picks_cons 2 rfl ?_ | refine picks_cons 3 rfl ?_ | refine picks_cons 4 rfl ?_ | refine picks_cons 5 rfl ?_ | refine picks_cons 6 rfl ?_))))
          · skip
            refine tr_exit ?_
            refine then_exit ?_
            refine then_exit ?_
            refine block_hit ?_
            refine then_normal ?_
            refine tr_seq ?_
            -- region 24
            refine tr_env (es_cons (t := 5) (OT.tmp rfl) es_nil) ?_
            obtain rfl : q = v.2.2.length := by simp at c31; omega
            rw [List.drop_length, showT_nil, List.append_nil] at hout
            have hol : out.length ≤ 400 := by have h9 := congrArg List.length hout; simp at h9; omega
            refine tr_region ?_
            refine op_acts (acts_call (wByte_fn g9_0 (pt g9_0 0) u out 34 (.inr rfl) (by omega)) (show enters Tryd.prog 35 = true from by decide +kernel) (OTs.cons (OT.tmp rfl) (OTs.cons OT.const OTs.nil)) (by exact perm2_at 1 1 rfl rfl)) (by exact perm2_at 1 1 rfl rfl) rfl rfl (fun u24 _ => ?_)
            refine tr_nil ?_
            refine then_normal ?_
            refine tr_seq ?_
            -- region 25
            refine tr_env (es_cons (t := 5) (OT.tmp rfl) es_nil) ?_
            refine tr_region ?_
            refine op_acts (acts_call (bStr_fn g9_0 (pt g9_0 0) u24 (out ++ [34]) (by simp; omega) (by simp)) (show enters Tryd.prog 39 = true from by decide +kernel) (OTs.cons (OT.tmp rfl) OTs.nil) (by exact perm2_at 0 0 rfl rfl)) (by exact perm2_at 0 0 rfl rfl) rfl rfl (fun _ _ => ?_)
            refine op_pure (pu_assign (OT.tmp rfl)) rfl rfl ?_
            refine op_pure (pu_assign OT.const) rfl rfl ?_
            refine tr_nil ?_
            refine then_normal ?_
            refine tr_ret ?_
            exact ret_two .ret (.inl rfl) rfl () (OT.val (OT.tmp rfl) (congrArg Value.string (congrArg bs (by rw [hr1, hev, ← hout])))) (OT.val (OT.tmp rfl) (congrArg (Value.int _) hc0.symm)) (fun _ _ h => h) trivial (by exact picks_nil)
end Go.Proofs.YtdlendioamiagaaDoor
/- Values of properties, plain: hexadecimal digits read. -/
namespace Go.Vl
open Go Go.Gw Go.Lib
set_option linter.unusedVariables false
set_option linter.unusedSimpArgs false
/-- A hexadecimal digit's number; 16 and more: it is none. -/
def hexD (b : UInt8) : Nat := if 48 ≤ b.toNat ∧ b.toNat ≤ 57 then b.toNat - 48 else if 97 ≤ b.toNat ∧ b.toNat ≤ 102 then b.toNat - 87 else if 65 ≤ b.toNat ∧ b.toNat ≤ 70 then b.toNat - 55 else 99
def hexF : Nat → List UInt8 → Option Nat
  | acc, [] => some acc
  | acc, b :: l => if hexD b < 16 then hexF (acc * 16 + hexD b) l else none
theorem hexF_snoc : ∀ (l : List UInt8) (acc : Nat) (b : UInt8), hexF acc (l ++ [b]) = (hexF acc l).bind fun n => if hexD b < 16 then some (n * 16 + hexD b) else none
  | [], acc, b => by simp [hexF]
  | a :: l, acc, b => by
    rw [List.cons_append, hexF, hexF]
    split
    · exact hexF_snoc l _ b
    · rfl
theorem hexF_bad : ∀ (l r : List UInt8) (acc : Nat), hexF acc l = none → hexF acc (l ++ r) = none
  | [], r, acc, h => by cases h
  | a :: l, r, acc, h => by
    rw [List.cons_append, hexF]
    rw [hexF] at h
    split
    · rename_i h1; rw [if_pos h1] at h; exact hexF_bad l r _ h
    · rfl
theorem hexF_lt : ∀ (l : List UInt8) (acc n : Nat), hexF acc l = some n → n < (acc + 1) * 16 ^ l.length
  | [], acc, n, h => by cases h; simp
  | a :: l, acc, n, h => by
    rw [hexF] at h
    split at h
    · have := hexF_lt l _ n h
      rw [List.length_cons, Nat.pow_succ]
      have h2 : (acc * 16 + hexD a + 1) * 16 ^ l.length ≤ (acc + 1) * 16 * 16 ^ l.length := Nat.mul_le_mul_right _ (by omega)
      have h3 : (acc + 1) * 16 * 16 ^ l.length = (acc + 1) * (16 ^ l.length * 16) := by rw [Nat.mul_assoc, Nat.mul_comm 16]
      omega
    · cases h
/-- The lower case of a byte, as strconv has it. -/
theorem lower_tab : ∀ x : Fin 256, bitsV .or .u8 ((x.val : Nat) : Int) 32 = (if x.val / 32 % 2 = 1 then (x.val : Int) else x.val + 32) := by
  set_option maxRecDepth 40000 in decide
theorem lower_is (b : UInt8) : bitsV .or .u8 (b.toNat : Int) 32 = (if b.toNat / 32 % 2 = 1 then (b.toNat : Int) else b.toNat + 32) := lower_tab ⟨b.toNat, b.toNat_lt⟩
def lowB (b : UInt8) : Int := if b.toNat / 32 % 2 = 1 then (b.toNat : Int) else b.toNat + 32
theorem hex_low {b : UInt8} (h : ¬ (48 ≤ b.toNat ∧ b.toNat ≤ 57)) (h1 : 97 ≤ lowB b) (h2 : lowB b ≤ 122) : (hexD b < 16 → lowB b - 97 + 10 = hexD b) ∧ (16 ≤ hexD b → 16 ≤ lowB b - 97 + 10) := by
  unfold lowB at *
  have := b.toNat_lt
  unfold hexD
  rw [if_neg h]
  split at h1
  all_goals (repeat' split)
  all_goals omega
theorem hex_not {b : UInt8} (h : ¬ (48 ≤ b.toNat ∧ b.toNat ≤ 57)) (h1 : ¬ (97 ≤ lowB b ∧ lowB b ≤ 122)) : 16 ≤ hexD b := by
  unfold lowB at *
  have := b.toNat_lt
  unfold hexD
  rw [if_neg h]
  split at h1
  all_goals (repeat' split)
  all_goals omega
end Go.Vl
/- Walks through the Go functions strconv.lower, strconv.ParseUint, as typed contracts. -/
namespace Go.Proofs.YtdlendioamiagaaDoor
open Go Go.Gw Go.Vl
set_option linter.unusedVariables false
set_option linter.unusedSimpArgs false
def hexN (l : List UInt8) : Nat := (hexF 0 l).getD 0
def hexOk (l : List UInt8) : Bool := (hexF 0 l).isSome
abbrev synV : Value := .iface 119 (.int .i64 2)
def hexE (l : List UInt8) : Value := if hexOk l then .nilIface else synV
theorem take_hex {l : List UInt8} {k acc : Nat} (h : k < l.length) (hi : hexF 0 (l.take k) = some acc) : hexF 0 (l.take (k + 1)) = if hexD l[k] < 16 then some (acc * 16 + hexD l[k]) else none := by
  rw [List.take_succ_eq_append_getElem h, hexF_snoc, hi]; rfl
theorem hex_none {l : List UInt8} {k acc : Nat} (h : k < l.length) (hi : hexF 0 (l.take k) = some acc) (hd : ¬ hexD l[k] < 16) : hexF 0 l = none := by
  have h1 := take_hex h hi
  rw [if_neg hd] at h1
  have := hexF_bad _ (l.drop (k + 1)) 0 h1
  rwa [List.take_append_drop] at this
theorem at_nums {l : List UInt8} {k : Nat} (h : k < l.length) : at' (nums l) (k : Int) = (l[k].toNat : Int) := by
  rw [at'_nat (by simpa using h)]; simp
theorem pow_le6 {k : Nat} (h : k ≤ 6) : 16 ^ k ≤ 16777216 := Nat.le_trans (Nat.pow_le_pow_right (by omega) h) (by decide)

set_option maxRecDepth 20000 in
/-- internal/strconv.lower -/
theorem lower_fn (b : UInt8) : Ct Tryd.prog 113 [IntT .u8 (b.toNat : Int)] ([]) Unit (fun _ => IntT .u8 (lowB b)) (fun _ => []) (fun _ => True) := by
  refine fn_intro Tryd.func113 rfl rfl ?_
  intro H w
  refine tr_seq ?_
  -- region 0
  refine tr_env (es_cons (t := 0) (OT.tmp rfl) es_nil) ?_
  refine tr_region ?_
  refine op_pure (pu_assign OT.const) rfl rfl ?_
  refine tr_nil ?_
  refine then_normal ?_
  refine tr_seq ?_
  -- region 1
  refine tr_env (es_cons (t := 0) (OT.tmp rfl) es_nil) ?_
  refine tr_region ?_
  refine op_pure (pu_move (OT.tmp rfl)) rfl rfl ?_
  refine op_pure (pu_bits (OT.tmp rfl) OT.const (by simp)) rfl rfl ?_
  refine op_pure (pu_assign (OT.tmp rfl)) rfl rfl ?_
  refine tr_nil ?_
  refine then_normal ?_
  refine tr_ret ?_
  exact ret_one .ret (.inl rfl) rfl () (OT.val (OT.tmp rfl) (congrArg (Value.int _) (lower_is b))) trivial (by exact picks_nil)
set_option maxRecDepth 20000 in
/-- internal/strconv.ParseUint -/
theorem pUint_fn (l : List UInt8) (hl0 : 1 ≤ l.length) (hl : l.length ≤ 6) : Ct Tryd.prog 105 [BsT l, I64 16, I64 32] ([]) Unit (fun _ => TupT [IntT .u64 (hexN l : Int), IsV (hexE l)]) (fun _ => []) (fun _ => True) := by
  refine fn_intro Tryd.func105 rfl rfl ?_
  intro H w
  refine tr_seq ?_
  -- region 0
  refine tr_env (es_cons (t := 0) (OT.tmp rfl) (es_cons (t := 1) (OT.tmp rfl) (es_cons (t := 2) (OT.tmp rfl) es_nil))) ?_
  refine tr_region ?_
  refine op_pure (pu_assign OT.const) rfl rfl ?_
  refine op_pure (pu_assign OT.const) rfl rfl ?_
  refine tr_nil ?_
  refine then_normal ?_
  refine tr_seq ?_
  refine tr_seq ?_
  -- region 1
  refine tr_env (es_cons (t := 0) (OT.tmp rfl) (es_cons (t := 1) (OT.tmp rfl) (es_cons (t := 2) (OT.tmp rfl) es_nil))) ?_
  refine tr_region ?_
  refine op_pure (pu_move (OT.tmp rfl)) rfl rfl ?_
  refine op_pure (pu_bs_eql (OT.tmp rfl) OT.const) rfl rfl ?_
  refine tr_nil ?_
  refine then_normal ?_
  refine tr_cond (OT.tmp rfl) (fun c19 => ?_) (fun c19 => ?_)
  · skip
    exfalso; simp at c19; rw [c19] at hl0; simp at hl0 --done
  · skip
    refine tr_skip ?_
    refine then_normal ?_
    refine tr_seq ?_
    -- region 3
    refine tr_env (es_cons (t := 0) (OT.tmp rfl) (es_cons (t := 1) (OT.tmp rfl) (es_cons (t := 2) (OT.tmp rfl) es_nil))) ?_
    refine tr_region ?_
    refine op_pure (pu_move (OT.tmp rfl)) rfl rfl ?_
    refine op_pure (pu_eql (OT.tmp rfl) OT.const) rfl rfl ?_
    refine op_pure (pu_assign (OT.tmp rfl)) rfl rfl ?_
    refine tr_nil ?_
    refine then_normal ?_
    refine tr_seq ?_
    -- region 4
    refine tr_env (es_cons (t := 0) (OT.tmp rfl) (es_cons (t := 1) (OT.tmp rfl) (es_cons (t := 2) (OT.tmp rfl) (es_cons (t := 8) (OT.tmp rfl) es_nil)))) ?_
    refine tr_region ?_
    refine op_pure (pu_move (OT.tmp rfl)) rfl rfl ?_
    refine op_pure (pu_assign (OT.tmp rfl)) rfl rfl ?_
    refine tr_nil ?_
    refine then_normal ?_
    refine tr_seq ?_
    refine tr_block ?_
    refine tr_seq ?_
    -- region 6
    refine tr_env (es_cons (t := 0) (OT.tmp rfl) (es_cons (t := 1) (OT.tmp rfl) (es_cons (t := 2) (OT.tmp rfl) (es_cons (t := 8) (OT.tmp rfl) (es_cons (t := 9) (OT.tmp rfl) es_nil))))) ?_
    refine tr_region ?_
    refine op_pure (pu_move (OT.tmp rfl)) rfl rfl ?_
    refine op_pure (pu_leq OT.const (OT.tmp rfl)) rfl rfl ?_
    refine op_pure (pu_move (OT.tmp rfl)) rfl rfl ?_
    refine op_gu rfl rfl rfl (OT.gu_mk (OT.tmp rfl)) (fun hg => by (have hg1 := hg.2; (try simp only [decide_eq_true_eq, decide_eq_false_iff_not] at hg1); exact pu_move (by exact OT.tmp rfl))) rfl ?_
    refine op_gu rfl rfl rfl (OT.gu_mk (OT.tmp rfl)) (fun hg => by (have hg1 := hg.2; (try simp only [decide_eq_true_eq, decide_eq_false_iff_not] at hg1); exact pu_leq (by exact OT.gu (OT.tmp rfl) hg) OT.const)) rfl ?_
    refine op_pure (pu_pick_and (OT.tmp rfl) (by exact OT.tmp rfl)) rfl rfl ?_
    refine op_pure (pu_assign (OT.tmp rfl)) rfl rfl ?_
    refine tr_nil ?_
    refine then_normal ?_
    refine tr_cond (OT.tmp rfl) (fun c25 => ?_) (fun c25 => ?_)
    · skip
      refine tr_skip ?_
      refine block_normal ?_
      refine then_normal ?_
      refine tr_seq ?_
      refine tr_seq ?_
      -- region 21
      refine tr_env (es_cons (t := 0) (OT.tmp rfl) (es_cons (t := 1) (OT.tmp rfl) (es_cons (t := 2) (OT.tmp rfl) (es_cons (t := 8) (OT.tmp rfl) (es_cons (t := 9) (OT.tmp rfl) es_nil))))) ?_
      refine tr_region ?_
      refine op_pure (pu_move (OT.tmp rfl)) rfl rfl ?_
      refine op_pure (pu_eql (OT.tmp rfl) OT.const) rfl rfl ?_
      refine tr_nil ?_
      refine then_normal ?_
      refine tr_cond (OT.tmp rfl) (fun c77 => ?_) (fun c77 => ?_)
      · skip
        exact absurd c77 (by simp) --done
      · skip
        refine tr_seq ?_
        -- region 23
        refine tr_env (es_cons (t := 0) (OT.tmp rfl) (es_cons (t := 1) (OT.tmp rfl) (es_cons (t := 2) (OT.tmp rfl) (es_cons (t := 8) (OT.tmp rfl) (es_cons (t := 9) (OT.tmp rfl) es_nil))))) ?_
        refine tr_region ?_
        refine op_pure (pu_move (OT.tmp rfl)) rfl rfl ?_
        refine op_pure (pu_lss (OT.tmp rfl) OT.const) rfl rfl ?_
        refine op_pure (pu_move (OT.tmp rfl)) rfl rfl ?_
        refine op_gu rfl rfl rfl (OT.gu_mk (OT.tmp rfl)) (fun hg => by (have hg1 := hg.2; (try simp only [decide_eq_true_eq, decide_eq_false_iff_not] at hg1); exact pu_move (by exact OT.tmp rfl))) rfl ?_
        refine op_gu rfl rfl rfl (OT.gu_mk (OT.tmp rfl)) (fun hg => by (have hg1 := hg.2; (try simp only [decide_eq_true_eq, decide_eq_false_iff_not] at hg1); exact pu_gtr (by exact OT.gu (OT.tmp rfl) hg) OT.const)) rfl ?_
        refine op_pure (pu_pick_or (OT.tmp rfl) (by exact OT.tmp rfl)) rfl rfl ?_
        refine tr_nil ?_
        refine then_normal ?_
        refine tr_cond (OT.tmp rfl) (fun c83 => ?_) (fun c83 => ?_)
        · skip
          exact absurd c83 (by simp) --done
        · skip
          refine tr_skip ?_
          refine then_normal ?_
          refine tr_seq ?_
          -- region 25
          refine tr_env (es_cons (t := 0) (OT.tmp rfl) (es_cons (t := 1) (OT.tmp rfl) (es_cons (t := 2) (OT.tmp rfl) (es_cons (t := 8) (OT.tmp rfl) (es_cons (t := 9) (OT.tmp rfl) es_nil))))) ?_
          refine tr_region ?_
          refine op_pure (pu_assign OT.const) rfl rfl ?_
          refine tr_nil ?_
          refine then_normal ?_
          refine tr_seq ?_
          refine tr_seq ?_
          -- region 26
          refine tr_env (es_cons (t := 0) (OT.tmp rfl) (es_cons (t := 1) (OT.tmp rfl) (es_cons (t := 2) (OT.tmp rfl) (es_cons (t := 8) (OT.tmp rfl) (es_cons (t := 9) (OT.tmp rfl) es_nil))))) ?_
          refine tr_region ?_
          refine op_pure (pu_move (OT.tmp rfl)) rfl rfl ?_
          refine tr_nil ?_
          refine then_normal ?_
          refine tr_block ?_
          refine tr_seq ?_
          -- region 28
          refine tr_env (es_cons (t := 0) (OT.tmp rfl) (es_cons (t := 1) (OT.tmp rfl) (es_cons (t := 2) (OT.tmp rfl) (es_cons (t := 8) (OT.tmp rfl) (es_cons (t := 9) (OT.tmp rfl) (es_cons (t := 85) (OT.tmp rfl) es_nil)))))) ?_
          refine tr_region ?_
          refine op_pure (pu_eql (OT.tmp rfl) OT.const) rfl rfl ?_
          refine op_pure (pu_assign (OT.tmp rfl)) rfl rfl ?_
          refine tr_nil ?_
          refine then_normal ?_
          refine tr_cond (OT.tmp rfl) (fun c90 => ?_) (fun c90 => ?_)
          · skip
            exact absurd c90 (by simp) --done
          · skip
            refine tr_seq ?_
            -- region 30
            refine tr_env (es_cons (t := 0) (OT.tmp rfl) (es_cons (t := 1) (OT.tmp rfl) (es_cons (t := 2) (OT.tmp rfl) (es_cons (t := 8) (OT.tmp rfl) (es_cons (t := 9) (OT.tmp rfl) (es_cons (t := 85) (OT.tmp rfl) es_nil)))))) ?_
            refine tr_region ?_
            refine op_pure (pu_eql (OT.tmp rfl) OT.const) rfl rfl ?_
            refine op_pure (pu_assign (OT.tmp rfl)) rfl rfl ?_
            refine tr_nil ?_
            refine then_normal ?_
            refine tr_cond (OT.tmp rfl) (fun c92 => ?_) (fun c92 => ?_)
            · skip
              -- region 31
              refine tr_env (es_cons (t := 0) (OT.tmp rfl) (es_cons (t := 1) (OT.tmp rfl) (es_cons (t := 2) (OT.tmp rfl) (es_cons (t := 8) (OT.tmp rfl) (es_cons (t := 9) (OT.tmp rfl) es_nil))))) ?_
              refine tr_region ?_
              refine op_pure (pu_assign OT.const) rfl rfl ?_
              refine tr_nil ?_
              refine block_normal ?_
              refine then_normal ?_
              refine tr_seq ?_
              -- region 32
              refine tr_env (es_cons (t := 0) (OT.tmp rfl) (es_cons (t := 1) (OT.tmp rfl) (es_cons (t := 2) (OT.tmp rfl) (es_cons (t := 8) (OT.tmp rfl) (es_cons (t := 9) (OT.tmp rfl) (es_cons (t := 10) (OT.tmp rfl) es_nil)))))) ?_
              refine tr_region ?_
              refine op_pure (pu_move (OT.tmp rfl)) rfl rfl ?_
              refine op_pure (pu_convert' (OT.tmp rfl) Tryd.underlying3 Tryd.underlying55 (by omega) (by omega) rfl) rfl rfl ?_
              refine op_pure (pu_shl OT.const (OT.tmp rfl) (by omega)) rfl rfl ?_
              refine op_pure (pu_sub (OT.tmp rfl) OT.const) rfl rfl ?_
              refine op_pure (pu_assign (OT.tmp rfl)) rfl rfl ?_
              refine tr_nil ?_
              refine then_normal ?_
              refine tr_seq ?_
              -- region 33
              refine tr_env (es_cons (t := 0) (OT.tmp rfl) (es_cons (t := 1) (OT.tmp rfl) (es_cons (t := 8) (OT.tmp rfl) (es_cons (t := 9) (OT.tmp rfl) (es_cons (t := 10) (OT.tmp rfl) (es_cons (t := 11) (OT.tmp rfl) es_nil)))))) ?_
              refine tr_as 11 (T := IntT .u64 4294967295) (OT.val (OT.tmp rfl) (congrArg (Value.int _) (by decide))) ?_
              refine tr_region ?_
              refine op_pure (pu_assign OT.const) rfl rfl ?_
              refine tr_nil ?_
              refine then_normal ?_
              refine tr_seq ?_
              -- region 34
              refine tr_env (es_cons (t := 0) (OT.tmp rfl) (es_cons (t := 1) (OT.tmp rfl) (es_cons (t := 8) (OT.tmp rfl) (es_cons (t := 9) (OT.tmp rfl) (es_cons (t := 10) (OT.tmp rfl) (es_cons (t := 11) (OT.tmp rfl) (es_cons (t := 12) (OT.tmp rfl) es_nil))))))) ?_
              refine tr_region ?_
              refine op_pure (pu_assign OT.const) rfl rfl ?_
              refine tr_nil ?_
              refine then_normal ?_
              refine tr_seq ?_
              refine tr_seq ?_
              -- region 35
              refine tr_env (es_cons (t := 0) (OT.tmp rfl) (es_cons (t := 1) (OT.tmp rfl) (es_cons (t := 8) (OT.tmp rfl) (es_cons (t := 9) (OT.tmp rfl) (es_cons (t := 10) (OT.tmp rfl) (es_cons (t := 11) (OT.tmp rfl) (es_cons (t := 12) (OT.tmp rfl) (es_cons (t := 13) (OT.tmp rfl) es_nil)))))))) ?_
              refine tr_region ?_
              refine op_pure (pu_move (OT.tmp rfl)) rfl rfl ?_
              refine op_acts (acts_bs_bytes (OT.tmp rfl) Tryd.underlying9 Tryd.underlying26 Tryd.underlying5 (by (simp [maxLen]; omega))) (List.Perm.refl _) rfl rfl (fun _ _ => ?_)
              refine op_pure (pu_len_sl (OT.tmp rfl) Tryd.underlying26) rfl rfl ?_
              refine op_pure (pu_move OT.const) rfl rfl ?_
              refine tr_nil ?_
              refine then_normal ?_
              refine tr_block ?_
              refine tr_loopK (σ := Nat × Nat) (es_cons (t := 1) (OT.tmp rfl) (es_cons (t := 8) (OT.tmp rfl) (es_cons (t := 9) (OT.tmp rfl) (es_cons (t := 10) (OT.tmp rfl) (es_cons (t := 11) (OT.tmp rfl) (es_cons (t := 99) (OT.tmp rfl) (es_cons (t := 100) (OT.tmp rfl) es_nil))))))) (fun s => [(101, I64 (s.1 : Int)), (13, IntT .u64 (s.2 : Int)), (12, BoolT false)]) (fun s => []) (fun s => s.1 ≤ l.length ∧ hexF 0 (l.take s.1) = some s.2) (fun s => l.length - s.1) (0, 0) ⟨Nat.zero_le _, rfl⟩ ?_ (own_picks (by exact picks_nil)) ?_
              · exact (es_cons (t := 101) (by exact OT.tmp rfl) (es_cons (t := 13) (by exact OT.tmp rfl) (es_cons (t := 12) (by exact OT.tmp rfl) es_nil)))
              · rintro ⟨k, acc⟩ ⟨hk, hi⟩
                dsimp only at hk hi ⊢
                refine tr_seq ?_
                -- region 36
                refine tr_env (es_cons (t := 1) (OT.tmp rfl) (es_cons (t := 8) (OT.tmp rfl) (es_cons (t := 9) (OT.tmp rfl) (es_cons (t := 10) (OT.tmp rfl) (es_cons (t := 11) (OT.tmp rfl) (es_cons (t := 12) (OT.tmp rfl) (es_cons (t := 13) (OT.tmp rfl) (es_cons (t := 99) (OT.tmp rfl) (es_cons (t := 100) (OT.tmp rfl) (es_cons (t := 101) (OT.tmp rfl) es_nil)))))))))) ?_
                refine tr_region ?_
                refine op_pure (pu_lss (OT.tmp rfl) (OT.tmp rfl)) rfl rfl ?_
                refine tr_nil ?_
                refine then_normal ?_
                refine tr_seq ?_
                refine tr_cond (OT.tmp rfl) (fun c102 => ?_) (fun c102 => ?_)
                · skip
                  refine tr_skip ?_
                  refine then_normal ?_
                  refine tr_seq ?_
                  refine tr_block ?_
                  refine tr_seq ?_
                  -- region 37
                  refine tr_env (es_cons (t := 1) (OT.tmp rfl) (es_cons (t := 8) (OT.tmp rfl) (es_cons (t := 9) (OT.tmp rfl) (es_cons (t := 10) (OT.tmp rfl) (es_cons (t := 11) (OT.tmp rfl) (es_cons (t := 12) (OT.tmp rfl) (es_cons (t := 13) (OT.tmp rfl) (es_cons (t := 99) (OT.tmp rfl) (es_cons (t := 100) (OT.tmp rfl) (es_cons (t := 101) (OT.tmp rfl) es_nil)))))))))) ?_
                  have hkl : k < l.length := by simp at c102; omega
                  obtain ⟨b, hb⟩ : ∃ b, l[k] = b := ⟨_, rfl⟩
                  have hat := at_nums hkl
                  rw [hb] at hat
                  have htk := take_hex hkl hi
                  have hnb := hex_none hkl hi
                  rw [hb] at htk hnb
                  have hbl := b.toNat_lt
                  have hap := hexF_lt _ _ _ hi
                  rw [List.length_take, Nat.min_eq_left (by omega)] at hap
                  have hp6 := pow_le6 (k := k) (by omega)
                  refine tr_region ?_
                  refine op_pure (pu_index (OT.tmp rfl) (OT.tmp rfl) Tryd.underlying26 (show tyOk Tryd.prog 5 false 1 = true from by decide +kernel) (by omega) (by (simp; omega))) rfl rfl ?_
                  refine op_pure (pu_load (OT.tmp rfl) (show tyOk Tryd.prog 5 false 1 = true from by decide +kernel)) rfl rfl ?_
                  refine op_pure (pu_assign (OT.tmp rfl)) rfl rfl ?_
                  refine tr_nil ?_
                  refine then_normal ?_
                  refine tr_seq ?_
                  -- region 38
                  refine tr_env (es_cons (t := 1) (OT.tmp rfl) (es_cons (t := 8) (OT.tmp rfl) (es_cons (t := 9) (OT.tmp rfl) (es_cons (t := 10) (OT.tmp rfl) (es_cons (t := 11) (OT.tmp rfl) (es_cons (t := 12) (OT.tmp rfl) (es_cons (t := 13) (OT.tmp rfl) (es_cons (t := 15) (OT.tmp rfl) (es_cons (t := 99) (OT.tmp rfl) (es_cons (t := 100) (OT.tmp rfl) (es_cons (t := 101) (OT.tmp rfl) es_nil))))))))))) ?_
                  rw [hat]
                  refine tr_region ?_
                  refine op_pure (pu_assign OT.const) rfl rfl ?_
                  refine tr_nil ?_
                  refine then_normal ?_
                  refine tr_joinK (σ := Int) (es_cons (t := 1) (OT.tmp rfl) (es_cons (t := 8) (OT.tmp rfl) (es_cons (t := 9) (OT.tmp rfl) (es_cons (t := 10) (OT.tmp rfl) (es_cons (t := 11) (OT.tmp rfl) (es_cons (t := 13) (OT.tmp rfl) (es_cons (t := 99) (OT.tmp rfl) (es_cons (t := 100) (OT.tmp rfl) (es_cons (t := 101) (OT.tmp rfl) es_nil))))))))) (fun d => [(16, IntT .u8 d), (12, BoolT false)]) (fun d => []) (fun d => 0 ≤ d ∧ d < 256 ∧ (hexD b < 16 → d = hexD b) ∧ (16 ≤ hexD b → 16 ≤ d)) ?_ ?_
                  · skip
                    refine tr_block ?_
                    refine tr_seq ?_
                    -- region 40
                    refine tr_env (es_cons (t := 1) (OT.tmp rfl) (es_cons (t := 8) (OT.tmp rfl) (es_cons (t := 9) (OT.tmp rfl) (es_cons (t := 10) (OT.tmp rfl) (es_cons (t := 11) (OT.tmp rfl) (es_cons (t := 12) (OT.tmp rfl) (es_cons (t := 13) (OT.tmp rfl) (es_cons (t := 15) (OT.tmp rfl) (es_cons (t := 99) (OT.tmp rfl) (es_cons (t := 100) (OT.tmp rfl) (es_cons (t := 101) (OT.tmp rfl) es_nil))))))))))) ?_
                    refine tr_region ?_
                    refine op_pure (pu_move (OT.tmp rfl)) rfl rfl ?_
                    refine op_pure (pu_eql (OT.tmp rfl) OT.const) rfl rfl ?_
                    refine op_pure (pu_move (OT.tmp rfl)) rfl rfl ?_
                    refine op_gu rfl rfl rfl (OT.gu_mk (OT.tmp rfl)) (fun hg => by (have hg1 := hg.2; (try simp only [decide_eq_true_eq, decide_eq_false_iff_not] at hg1); exact pu_move (by exact OT.tmp rfl))) rfl ?_
                    refine op_pure (pu_pick_and (OT.tmp rfl) (by exact OT.tmp rfl)) rfl rfl ?_
                    refine op_pure (pu_assign (OT.tmp rfl)) rfl rfl ?_
                    refine tr_nil ?_
                    refine then_normal ?_
                    refine tr_cond (OT.tmp rfl) (fun c106 => ?_) (fun c106 => ?_)
                    · skip
                      exfalso; simp at c106 --done
                    · skip
                      refine tr_seq ?_
                      -- region 42
                      refine tr_env (es_cons (t := 1) (OT.tmp rfl) (es_cons (t := 8) (OT.tmp rfl) (es_cons (t := 9) (OT.tmp rfl) (es_cons (t := 10) (OT.tmp rfl) (es_cons (t := 11) (OT.tmp rfl) (es_cons (t := 12) (OT.tmp rfl) (es_cons (t := 13) (OT.tmp rfl) (es_cons (t := 15) (OT.tmp rfl) (es_cons (t := 99) (OT.tmp rfl) (es_cons (t := 100) (OT.tmp rfl) (es_cons (t := 101) (OT.tmp rfl) es_nil))))))))))) ?_
                      refine tr_region ?_
                      refine op_pure (pu_move (OT.tmp rfl)) rfl rfl ?_
                      refine op_pure (pu_leq OT.const (OT.tmp rfl)) rfl rfl ?_
                      refine op_pure (pu_move (OT.tmp rfl)) rfl rfl ?_
                      refine op_gu rfl rfl rfl (OT.gu_mk (OT.tmp rfl)) (fun hg => by (have hg1 := hg.2; (try simp only [decide_eq_true_eq, decide_eq_false_iff_not] at hg1); exact pu_move (by exact OT.tmp rfl))) rfl ?_
                      refine op_gu rfl rfl rfl (OT.gu_mk (OT.tmp rfl)) (fun hg => by (have hg1 := hg.2; (try simp only [decide_eq_true_eq, decide_eq_false_iff_not] at hg1); exact pu_leq (by exact OT.gu (OT.tmp rfl) hg) OT.const)) rfl ?_
                      refine op_pure (pu_pick_and (OT.tmp rfl) (by exact OT.tmp rfl)) rfl rfl ?_
                      refine op_pure (pu_assign (OT.tmp rfl)) rfl rfl ?_
                      refine tr_nil ?_
                      refine then_normal ?_
                      refine tr_cond (OT.tmp rfl) (fun c112 => ?_) (fun c112 => ?_)
                      · skip
                        have hd : 48 ≤ b.toNat ∧ b.toNat ≤ 57 := by simp at c112; omega
                        have hdd : hexD b = b.toNat - 48 := if_pos hd
                        -- region 43
                        refine tr_env (es_cons (t := 1) (OT.tmp rfl) (es_cons (t := 8) (OT.tmp rfl) (es_cons (t := 9) (OT.tmp rfl) (es_cons (t := 10) (OT.tmp rfl) (es_cons (t := 11) (OT.tmp rfl) (es_cons (t := 12) (OT.tmp rfl) (es_cons (t := 13) (OT.tmp rfl) (es_cons (t := 15) (OT.tmp rfl) (es_cons (t := 99) (OT.tmp rfl) (es_cons (t := 100) (OT.tmp rfl) (es_cons (t := 101) (OT.tmp rfl) es_nil))))))))))) ?_
                        refine tr_region ?_
                        refine op_pure (pu_move (OT.tmp rfl)) rfl rfl ?_
                        refine op_pure (pu_sub (OT.tmp rfl) OT.const) rfl rfl ?_
                        refine op_pure (pu_assign (OT.tmp rfl)) rfl rfl ?_
                        refine tr_nil ?_
                        refine block_normal ?_
                        refine then_normal ?_
                        exact tr_joined ((b.toNat : Int) - 48) ⟨by omega, by omega, by omega, by omega⟩ (es_append (es_cons (t := 16) (OT.val (OT.tmp rfl) (congrArg (Value.int _) (by simp [IntKind.wrap, IntKind.bits, IntKind.signed]; omega))) (es_cons (t := 12) (OT.tmp rfl) es_nil)) (es_cons (t := 1) (OT.tmp rfl) (es_cons (t := 8) (OT.tmp rfl) (es_cons (t := 9) (OT.tmp rfl) (es_cons (t := 10) (OT.tmp rfl) (es_cons (t := 11) (OT.tmp rfl) (es_cons (t := 13) (OT.tmp rfl) (es_cons (t := 99) (OT.tmp rfl) (es_cons (t := 100) (OT.tmp rfl) (es_cons (t := 101) (OT.tmp rfl) es_nil)))))))))) (own_picks (by exact picks_nil))
                      · skip
                        have hd : ¬ (48 ≤ b.toNat ∧ b.toNat ≤ 57) := by simp at c112; omega
                        refine tr_seq ?_
                        -- region 44
                        refine tr_env (es_cons (t := 1) (OT.tmp rfl) (es_cons (t := 8) (OT.tmp rfl) (es_cons (t := 9) (OT.tmp rfl) (es_cons (t := 10) (OT.tmp rfl) (es_cons (t := 11) (OT.tmp rfl) (es_cons (t := 12) (OT.tmp rfl) (es_cons (t := 13) (OT.tmp rfl) (es_cons (t := 15) (OT.tmp rfl) (es_cons (t := 99) (OT.tmp rfl) (es_cons (t := 100) (OT.tmp rfl) (es_cons (t := 101) (OT.tmp rfl) es_nil))))))))))) ?_
                        refine tr_region ?_
                        refine op_pure (pu_move (OT.tmp rfl)) rfl rfl ?_
                        refine op_acts (acts_call (lower_fn b) (show enters Tryd.prog 113 = true from by decide +kernel) (OTs.cons (OT.tmp rfl) OTs.nil) (List.Perm.refl _)) (List.Perm.refl _) rfl rfl (fun _ _ => ?_)
                        refine op_pure (pu_leq OT.const (OT.tmp rfl)) rfl rfl ?_
                        refine op_pure (pu_move (OT.tmp rfl)) rfl rfl ?_
                        refine op_gu rfl rfl rfl (OT.gu_mk (OT.tmp rfl)) (fun hg => by (have hg1 := hg.2; (try simp only [decide_eq_true_eq, decide_eq_false_iff_not] at hg1); exact pu_move (by exact OT.tmp rfl))) rfl ?_
                        refine op_gu_acts () rfl rfl rfl (OT.gu_mk (OT.tmp rfl)) (fun hg => by (have hg1 := hg.2; (try simp only [decide_eq_true_eq, decide_eq_false_iff_not] at hg1); exact acts_call (lower_fn b) (show enters Tryd.prog 113 = true from by decide +kernel) (OTs.cons (by exact OT.gu (OT.tmp rfl) hg) OTs.nil) (List.Perm.refl _))) rfl (fun _ _ => ?_)
                        refine op_gu rfl rfl rfl (OT.gu_mk (OT.tmp rfl)) (fun hg => by (have hg1 := hg.2; (try simp only [decide_eq_true_eq, decide_eq_false_iff_not] at hg1); exact pu_leq (by exact OT.gu (OT.tmp rfl) hg) OT.const)) rfl ?_
                        refine op_pure (pu_pick_and (OT.tmp rfl) (by exact OT.tmp rfl)) rfl rfl ?_
                        refine op_pure (pu_assign (OT.tmp rfl)) rfl rfl ?_
                        refine tr_nil ?_
                        refine then_normal ?_
                        refine tr_cond (OT.tmp rfl) (fun c121 => ?_) (fun c121 => ?_)
                        · skip
                          have hlo : 97 ≤ lowB b ∧ lowB b ≤ 122 := by simp at c121; omega
                          have hlx := hex_low hd hlo.1 hlo.2
                          -- region 45
                          refine tr_env (es_cons (t := 1) (OT.tmp rfl) (es_cons (t := 8) (OT.tmp rfl) (es_cons (t := 9) (OT.tmp rfl) (es_cons (t := 10) (OT.tmp rfl) (es_cons (t := 11) (OT.tmp rfl) (es_cons (t := 12) (OT.tmp rfl) (es_cons (t := 13) (OT.tmp rfl) (es_cons (t := 15) (OT.tmp rfl) (es_cons (t := 99) (OT.tmp rfl) (es_cons (t := 100) (OT.tmp rfl) (es_cons (t := 101) (OT.tmp rfl) es_nil))))))))))) ?_
                          refine tr_region ?_
                          refine op_pure (pu_move (OT.tmp rfl)) rfl rfl ?_
                          refine op_acts (acts_call (lower_fn b) (show enters Tryd.prog 113 = true from by decide +kernel) (OTs.cons (OT.tmp rfl) OTs.nil) (List.Perm.refl _)) (List.Perm.refl _) rfl rfl (fun _ _ => ?_)
                          refine op_pure (pu_sub (OT.tmp rfl) OT.const) rfl rfl ?_
                          refine op_pure (pu_add (OT.tmp rfl) OT.const) rfl rfl ?_
                          refine op_pure (pu_assign (OT.tmp rfl)) rfl rfl ?_
                          refine tr_nil ?_
                          refine block_normal ?_
                          refine then_normal ?_
                          exact tr_joined (lowB b - 97 + 10) ⟨by omega, by omega, by omega, by omega⟩ (es_append (es_cons (t := 16) (OT.val (OT.tmp rfl) (congrArg (Value.int _) (by simp [IntKind.wrap, IntKind.bits, IntKind.signed]; omega))) (es_cons (t := 12) (OT.tmp rfl) es_nil)) (es_cons (t := 1) (OT.tmp rfl) (es_cons (t := 8) (OT.tmp rfl) (es_cons (t := 9) (OT.tmp rfl) (es_cons (t := 10) (OT.tmp rfl) (es_cons (t := 11) (OT.tmp rfl) (es_cons (t := 13) (OT.tmp rfl) (es_cons (t := 99) (OT.tmp rfl) (es_cons (t := 100) (OT.tmp rfl) (es_cons (t := 101) (OT.tmp rfl) es_nil)))))))))) (own_picks (by exact picks_nil))
                        · skip
                          have hlo : ¬ (97 ≤ lowB b ∧ lowB b ≤ 122) := by simp at c121; omega
                          have hno := hnb (by have := hex_not hd hlo; omega)
                          refine tr_seq ?_
                          -- region 39
                          refine tr_env es_nil ?_
                          refine tr_region ?_
                          refine op_pure (pu_makeIface OT.const Tryd.underlying119 rfl) rfl rfl ?_
                          refine op_pure (pu_assign OT.const) rfl rfl ?_
                          refine op_pure (pu_assign (OT.tmp rfl)) rfl rfl ?_
                          refine tr_nil ?_
                          refine then_normal ?_
                          refine tr_ret ?_
                          refine block_ret ?_
                          refine then_ret ?_
                          refine block_ret ?_
                          refine then_ret ?_
                          refine then_ret ?_
                          refine block_ret ?_
                          refine then_ret ?_
                          exact ret_two .ret (.inl rfl) rfl () (OT.val (OT.tmp rfl) (congrArg (Value.int _) (by unfold hexN; rw [hno]; rfl))) (OT.val (OT.tmp rfl) (by unfold hexE hexOk; rw [hno]; rfl)) (fun _ _ h => h) trivial (by exact picks_nil)
                  · rintro d hdv
                    refine tr_seq ?_
                    refine tr_seq ?_
                    -- region 46
                    refine tr_env (es_cons (t := 1) (OT.tmp rfl) (es_cons (t := 8) (OT.tmp rfl) (es_cons (t := 9) (OT.tmp rfl) (es_cons (t := 10) (OT.tmp rfl) (es_cons (t := 11) (OT.tmp rfl) (es_cons (t := 12) (OT.tmp rfl) (es_cons (t := 13) (OT.tmp rfl) (es_cons (t := 16) (OT.tmp rfl) (es_cons (t := 99) (OT.tmp rfl) (es_cons (t := 100) (OT.tmp rfl) (es_cons (t := 101) (OT.tmp rfl) es_nil))))))))))) ?_
                    skip
                    refine tr_region ?_
                    refine op_pure (pu_move (OT.tmp rfl)) rfl rfl ?_
                    refine op_pure (pu_move (OT.tmp rfl)) rfl rfl ?_
                    refine op_pure (pu_convert (OT.tmp rfl) Tryd.underlying3 Tryd.underlying5) rfl rfl ?_
                    refine op_pure (pu_geq (OT.tmp rfl) (OT.tmp rfl)) rfl rfl ?_
                    refine tr_nil ?_
                    refine then_normal ?_
                    refine tr_cond (OT.tmp rfl) (fun c137 => ?_) (fun c137 => ?_)
                    · skip
                      have hno := hnb (by have h9 := c137; rw [show IntKind.u8.wrap 16 = 16 from by decide] at h9; simp at h9; omega)
                      refine tr_seq ?_
                      -- region 47
                      refine tr_env es_nil ?_
                      refine tr_region ?_
                      refine op_pure (pu_makeIface OT.const Tryd.underlying119 rfl) rfl rfl ?_
                      refine op_pure (pu_assign OT.const) rfl rfl ?_
                      refine op_pure (pu_assign (OT.tmp rfl)) rfl rfl ?_
                      refine tr_nil ?_
                      refine then_normal ?_
                      refine tr_ret ?_
                      refine then_ret ?_
                      refine block_ret ?_
                      refine then_ret ?_
                      refine then_ret ?_
                      refine block_ret ?_
                      refine then_ret ?_
                      exact ret_two .ret (.inl rfl) rfl () (OT.val (OT.tmp rfl) (congrArg (Value.int _) (by unfold hexN; rw [hno]; rfl))) (OT.val (OT.tmp rfl) (by unfold hexE hexOk; rw [hno]; rfl)) (fun _ _ h => h) trivial (by exact picks_nil)
                    · skip
                      have hd16 : hexD b < 16 ∧ d = hexD b := by have h9 := c137; rw [show IntKind.u8.wrap 16 = 16 from by decide] at h9; simp at h9; omega
                      obtain ⟨hd16, rfl⟩ := hd16
                      rw [if_pos hd16] at htk
                      refine tr_skip ?_
                      refine then_normal ?_
                      refine tr_seq ?_
                      refine tr_seq ?_
                      -- region 48
                      refine tr_env (es_cons (t := 1) (OT.tmp rfl) (es_cons (t := 8) (OT.tmp rfl) (es_cons (t := 9) (OT.tmp rfl) (es_cons (t := 10) (OT.tmp rfl) (es_cons (t := 11) (OT.tmp rfl) (es_cons (t := 12) (OT.tmp rfl) (es_cons (t := 13) (OT.tmp rfl) (es_cons (t := 16) (OT.tmp rfl) (es_cons (t := 99) (OT.tmp rfl) (es_cons (t := 100) (OT.tmp rfl) (es_cons (t := 101) (OT.tmp rfl) es_nil))))))))))) ?_
                      refine tr_region ?_
                      refine op_pure (pu_move (OT.tmp rfl)) rfl rfl ?_
                      refine op_pure (pu_move (OT.tmp rfl)) rfl rfl ?_
                      refine op_pure (pu_geq (OT.tmp rfl) (OT.tmp rfl)) rfl rfl ?_
                      refine tr_nil ?_
                      refine then_normal ?_
                      refine tr_cond (OT.tmp rfl) (fun c141 => ?_) (fun c141 => ?_)
                      · skip
                        exfalso; simp at c141; omega --done
                      · skip
                        refine tr_skip ?_
                        refine then_normal ?_
                        refine tr_seq ?_
                        -- region 50
                        refine tr_env (es_cons (t := 1) (OT.tmp rfl) (es_cons (t := 8) (OT.tmp rfl) (es_cons (t := 9) (OT.tmp rfl) (es_cons (t := 10) (OT.tmp rfl) (es_cons (t := 11) (OT.tmp rfl) (es_cons (t := 12) (OT.tmp rfl) (es_cons (t := 13) (OT.tmp rfl) (es_cons (t := 16) (OT.tmp rfl) (es_cons (t := 99) (OT.tmp rfl) (es_cons (t := 100) (OT.tmp rfl) (es_cons (t := 101) (OT.tmp rfl) es_nil))))))))))) ?_
                        refine tr_region ?_
                        refine op_pure (pu_move (OT.tmp rfl)) rfl rfl ?_
                        refine op_pure (pu_move (OT.tmp rfl)) rfl rfl ?_
                        refine op_pure (pu_convert' (OT.tmp rfl) Tryd.underlying3 Tryd.underlying64 (by omega) (by omega) rfl) rfl rfl ?_
                        refine op_pure (pu_mul (OT.tmp rfl) (OT.tmp rfl)) rfl rfl ?_
                        refine op_pure (pu_assign (OT.tmp rfl)) rfl rfl ?_
                        refine tr_nil ?_
                        refine then_normal ?_
                        refine tr_seq ?_
                        -- region 51
                        refine tr_env (es_cons (t := 1) (OT.tmp rfl) (es_cons (t := 8) (OT.tmp rfl) (es_cons (t := 9) (OT.tmp rfl) (es_cons (t := 10) (OT.tmp rfl) (es_cons (t := 11) (OT.tmp rfl) (es_cons (t := 12) (OT.tmp rfl) (es_cons (t := 13) (OT.tmp rfl) (es_cons (t := 16) (OT.tmp rfl) (es_cons (t := 99) (OT.tmp rfl) (es_cons (t := 100) (OT.tmp rfl) (es_cons (t := 101) (OT.tmp rfl) es_nil))))))))))) ?_
                        refine tr_region ?_
                        refine op_pure (pu_move (OT.tmp rfl)) rfl rfl ?_
                        refine op_pure (pu_move (OT.tmp rfl)) rfl rfl ?_
                        refine op_pure (pu_convert' (OT.tmp rfl) Tryd.underlying5 Tryd.underlying64 (by omega) (by omega) rfl) rfl rfl ?_
                        refine op_pure (pu_add (OT.tmp rfl) (OT.tmp rfl)) rfl rfl ?_
                        refine op_pure (pu_assign (OT.tmp rfl)) rfl rfl ?_
                        refine tr_nil ?_
                        refine then_normal ?_
                        refine tr_seq ?_
                        refine tr_seq ?_
                        -- region 52
                        refine tr_env (es_cons (t := 1) (OT.tmp rfl) (es_cons (t := 8) (OT.tmp rfl) (es_cons (t := 9) (OT.tmp rfl) (es_cons (t := 10) (OT.tmp rfl) (es_cons (t := 11) (OT.tmp rfl) (es_cons (t := 12) (OT.tmp rfl) (es_cons (t := 13) (OT.tmp rfl) (es_cons (t := 17) (OT.tmp rfl) (es_cons (t := 99) (OT.tmp rfl) (es_cons (t := 100) (OT.tmp rfl) (es_cons (t := 101) (OT.tmp rfl) es_nil))))))))))) ?_
                        refine tr_region ?_
                        refine op_pure (pu_move (OT.tmp rfl)) rfl rfl ?_
                        refine op_pure (pu_move (OT.tmp rfl)) rfl rfl ?_
                        refine op_pure (pu_lss (OT.tmp rfl) (OT.tmp rfl)) rfl rfl ?_
                        refine op_pure (pu_move (OT.tmp rfl)) rfl rfl ?_
                        refine op_gu rfl rfl rfl (OT.gu_mk (OT.tmp rfl)) (fun hg => by (have hg1 := hg.2; (try simp only [decide_eq_true_eq, decide_eq_false_iff_not] at hg1); exact pu_move (by exact OT.tmp rfl))) rfl ?_
                        refine op_gu rfl rfl rfl (OT.gu_mk (OT.tmp rfl)) (fun hg => by (have hg1 := hg.2; (try simp only [decide_eq_true_eq, decide_eq_false_iff_not] at hg1); exact pu_move (by exact OT.tmp rfl))) rfl ?_
                        refine op_gu rfl rfl rfl (OT.gu_mk (OT.tmp rfl)) (fun hg => by (have hg1 := hg.2; (try simp only [decide_eq_true_eq, decide_eq_false_iff_not] at hg1); exact pu_gtr (by exact OT.gu (OT.tmp rfl) hg) (by exact OT.gu (OT.tmp rfl) hg))) rfl ?_
                        refine op_pure (pu_pick_or (OT.tmp rfl) (by exact OT.tmp rfl)) rfl rfl ?_
                        refine tr_nil ?_
                        refine then_normal ?_
                        refine tr_cond (OT.tmp rfl) (fun c159 => ?_) (fun c159 => ?_)
                        · skip
                          exfalso; simp [IntKind.wrap, IntKind.bits, IntKind.signed] at c159; omega --done
                        · skip
                          refine tr_skip ?_
                          refine then_normal ?_
                          -- region 54
                          refine tr_env (es_cons (t := 1) (OT.tmp rfl) (es_cons (t := 8) (OT.tmp rfl) (es_cons (t := 9) (OT.tmp rfl) (es_cons (t := 10) (OT.tmp rfl) (es_cons (t := 11) (OT.tmp rfl) (es_cons (t := 12) (OT.tmp rfl) (es_cons (t := 17) (OT.tmp rfl) (es_cons (t := 99) (OT.tmp rfl) (es_cons (t := 100) (OT.tmp rfl) (es_cons (t := 101) (OT.tmp rfl) es_nil)))))))))) ?_
                          refine tr_region ?_
                          refine op_pure (pu_move (OT.tmp rfl)) rfl rfl ?_
                          refine op_pure (pu_assign (OT.tmp rfl)) rfl rfl ?_
                          refine tr_nil ?_
                          refine block_normal ?_
                          refine then_normal ?_
                          -- region 55
                          refine tr_env (es_cons (t := 1) (OT.tmp rfl) (es_cons (t := 8) (OT.tmp rfl) (es_cons (t := 9) (OT.tmp rfl) (es_cons (t := 10) (OT.tmp rfl) (es_cons (t := 11) (OT.tmp rfl) (es_cons (t := 12) (OT.tmp rfl) (es_cons (t := 13) (OT.tmp rfl) (es_cons (t := 99) (OT.tmp rfl) (es_cons (t := 100) (OT.tmp rfl) (es_cons (t := 101) (OT.tmp rfl) es_nil)))))))))) ?_
                          refine tr_region ?_
                          refine op_pure (pu_add' (OT.tmp rfl) OT.const (by omega)) rfl rfl ?_
                          refine op_pure (pu_move (OT.tmp rfl)) rfl rfl ?_
                          refine tr_nil ?_
                          refine then_normal ?_
                          exact tr_again (k + 1, acc * 16 + hexD b) ⟨by show k + 1 ≤ _; omega, htk⟩ (by show l.length - (k + 1) < l.length - k; omega) (es_append (es_cons (t := 101) (by exact OT.tmp rfl) (es_cons (t := 13) (OT.val (OT.tmp rfl) (congrArg (Value.int _) (by simp [IntKind.wrap, IntKind.bits, IntKind.signed]; omega))) (es_cons (t := 12) (OT.tmp rfl) es_nil))) (es_cons (t := 1) (OT.tmp rfl) (es_cons (t := 8) (OT.tmp rfl) (es_cons (t := 9) (OT.tmp rfl) (es_cons (t := 10) (OT.tmp rfl) (es_cons (t := 11) (OT.tmp rfl) (es_cons (t := 99) (OT.tmp rfl) (es_cons (t := 100) (OT.tmp rfl) es_nil)))))))) (own_picks (by exact picks_nil))
                · skip
                  refine tr_exit ?_
                  refine then_exit ?_
                  refine then_exit ?_
                  refine block_hit ?_
                  refine then_normal ?_
                  refine tr_seq ?_
                  refine tr_seq ?_
                  -- region 56
                  refine tr_env (es_cons (t := 9) (OT.tmp rfl) (es_cons (t := 12) (OT.tmp rfl) (es_cons (t := 13) (OT.tmp rfl) es_nil))) ?_
                  refine tr_region ?_
                  refine op_pure (pu_move (OT.tmp rfl)) rfl rfl ?_
                  refine op_pure (pu_move (OT.tmp rfl)) rfl rfl ?_
                  refine op_gu rfl rfl rfl (OT.gu_mk (OT.tmp rfl)) (fun hg => by (have hg1 := hg.2; (try simp only [decide_eq_true_eq, decide_eq_false_iff_not] at hg1); exact pu_move (by exact OT.tmp rfl))) rfl ?_
                  refine op_gu rfl rfl rfl (OT.gu_mk (OT.tmp rfl)) (fun hg => by (have hg1 := hg.2; (try simp only [decide_eq_true_eq, decide_eq_false_iff_not] at hg1); exact (absurd hg1 (by simp) : Pure _ _ _ _ (BoolT true)))) rfl ?_
                  refine op_gu rfl rfl rfl (OT.gu_mk (OT.tmp rfl)) (fun hg => by (have hg1 := hg.2; (try simp only [decide_eq_true_eq, decide_eq_false_iff_not] at hg1); exact pu_not (by exact OT.gu (OT.tmp rfl) hg))) rfl ?_
                  refine op_pure (pu_pick_and (OT.tmp rfl) (by exact OT.tmp rfl)) rfl rfl ?_
                  refine tr_nil ?_
                  refine then_normal ?_
                  refine tr_cond (OT.tmp rfl) (fun c169 => ?_) (fun c169 => ?_)
                  · skip
                    exfalso; simp at c169 --done
                  · skip
                    refine tr_skip ?_
                    refine then_normal ?_
                    refine tr_seq ?_
                    -- region 58
                    refine tr_env (es_cons (t := 13) (OT.tmp rfl) es_nil) ?_
                    obtain rfl : k = l.length := by simp at c102; omega
                    rw [List.take_length] at hi
                    refine tr_region ?_
                    refine op_pure (pu_move (OT.tmp rfl)) rfl rfl ?_
                    refine op_pure (pu_assign (OT.tmp rfl)) rfl rfl ?_
                    refine op_pure (pu_assign OT.const) rfl rfl ?_
                    refine tr_nil ?_
                    refine then_normal ?_
                    refine tr_ret ?_
                    exact ret_two .ret (.inl rfl) rfl () (OT.val (OT.tmp rfl) (congrArg (Value.int _) (by unfold hexN; rw [hi]; rfl))) (OT.val (OT.tmp rfl) (by unfold hexE hexOk; rw [hi]; rfl)) (fun _ _ h => h) trivial (by exact picks_nil)
            · skip
              exact absurd c92 (by simp) --done
    · skip
      exact absurd c25 (by simp) --done
end Go.Proofs.YtdlendioamiagaaDoor
/- Values of properties, plain: the signs + - _ sought in a text. -/
namespace Go.Vl
open Go Go.Gw Go.Lib
set_option linter.unusedVariables false
set_option linter.unusedSimpArgs false
abbrev sgn : List UInt8 := [43, 45, 95]
theorem idx_none {c : UInt8} : ∀ {l : List UInt8}, c ∉ l → indexByte l c = -1
  | [], _ => rfl
  | b :: l, h => by
    have h1 : (b == c) = false := by simp; exact fun e => h (e ▸ List.mem_cons_self)
    rw [indexByte, h1, idx_none fun e => h (List.mem_cons_of_mem _ e)]
    rfl
theorem idx_some {c : UInt8} : ∀ {l : List UInt8}, 0 ≤ indexByte l c → c ∈ l := fun {l} h => Classical.byContradiction fun e => by rw [idx_none e] at h; omega
theorem sgn_byte {c : UInt8} (h : c ∈ sgn) : c.toNat < 128 ∧ hexD c = 99 := by
  rcases List.mem_cons.1 h with rfl | h
  · decide
  rcases List.mem_cons.1 h with rfl | h
  · decide
  rw [List.mem_singleton.1 h]; decide
/-- The last byte of a rune above 127. -/
theorem enc_last {c : Int} (h : isRune c) (h1 : 128 ≤ c) : 2 ≤ (enc c).length ∧ ∀ b, (enc c)[(enc c).length - 1]? = some b → 128 ≤ b.toNat := by
  by_cases h2 : c ≤ 2047
  · have e : enc c = [(192 + c / 64).toNat.toUInt8, (128 + c % 64).toNat.toUInt8] := by unfold enc encodeRune; rw [encodeRuneZ_two (by omega) (by omega)]; rfl
    rw [e]
    refine ⟨by simp, fun b hb => ?_⟩
    cases hb
    rw [of_byte (by omega) (by omega)]; omega
  by_cases h3 : c ≤ 65535
  · have e : enc c = [(224 + c / 4096).toNat.toUInt8, (128 + c / 64 % 64).toNat.toUInt8, (128 + c % 64).toNat.toUInt8] := by unfold enc encodeRune; rw [encodeRuneZ_three (by omega)]; rfl
    rw [e]
    refine ⟨by simp, fun b hb => ?_⟩
    cases hb
    rw [of_byte (by omega) (by omega)]; omega
  · have e : enc c = [(240 + c / 262144).toNat.toUInt8, (128 + c / 4096 % 64).toNat.toUInt8, (128 + c / 64 % 64).toNat.toUInt8, (128 + c % 64).toNat.toUInt8] := by unfold enc encodeRune; rw [encodeRuneZ_four (by omega) (by omega)]; rfl
    rw [e]
    refine ⟨by simp, fun b hb => ?_⟩
    cases hb
    rw [of_byte (by omega) (by omega)]; omega
/-- What IndexRune gives in these signs. -/
def ixr (c : Nat) : Int := if c < 128 then indexByte sgn (UInt8.ofNat c) else -1
theorem decodeN_low {n b0 b1 b2 b3 : Nat} (h : (decodeN n b0 b1 b2 b3).1 < 128) : (decodeN n b0 b1 b2 b3).1 = b0 := by
  unfold decodeN at *
  repeat' split at h
  all_goals (simp only [] at h; try omega)
  rename_i h1
  rw [if_pos h1]
theorem rune_low {l : List UInt8} (h : (rune l).1 < 128) : (rune l).1 = (l.getD 0 0).toNat := by
  unfold rune at *
  rw [decodeL_N] at *
  exact decodeN_low h
/-- A sign is no digit. -/
theorem ixr_not {l : List UInt8} {q : Nat} (hq : q < l.length) (h : 0 ≤ ixr (rune (l.drop q)).1) : hexF 0 l = none := by
  unfold ixr at h
  split at h
  · rename_i h1
    have h2 := rune_low h1
    rw [h2] at h
    have h3 := sgn_byte (idx_some h)
    have h4 : (l.drop q).getD 0 0 = l[q] := by simp [List.getD_eq_getElem?_getD, hq]
    rw [h4] at h3
    have h5 : UInt8.ofNat (l[q]).toNat = l[q] := by simp
    rw [h5] at h3
    have h6 : ∀ acc, hexF acc (l.drop q) = none := fun acc => by
      rw [List.drop_eq_getElem_cons hq, hexF, if_neg (by omega)]
    have h7 : ∀ (a : List UInt8) (acc : Nat) (r : List UInt8), (∀ x, hexF x r = none) → hexF acc (a ++ r) = none := by
      intro a
      induction a with
      | nil => intro acc r h; exact h acc
      | cons x a ih =>
        intro acc r h
        rw [List.cons_append, hexF]
        split
        · exact ih _ r h
        · rfl
    have := h7 (l.take q) 0 (l.drop q) h6
    rwa [List.take_append_drop] at this
  · omega
/-- Is a sign among the runes? -/
def anyR (l : List UInt8) : Bool := if h : l = [] then false else decide (0 ≤ ixr (rune l).1) || anyR (l.drop (rune l).2)
termination_by l.length
decreasing_by
  have := rune_w h
  rw [List.length_drop]; omega
theorem anyR_nil : anyR [] = false := by rw [anyR, dif_pos rfl]
theorem anyR_step {l : List UInt8} {q : Nat} (h : q < l.length) : anyR (l.drop q) = (decide (0 ≤ ixr (rune (l.drop q)).1) || anyR (l.drop (q + (rune (l.drop q)).2))) := by
  have hne : l.drop q ≠ [] := fun e => by have := congrArg List.length e; simp at this; omega
  rw [anyR, dif_neg hne, List.drop_drop]
theorem anyR_not (l : List UInt8) : ∀ (n q : Nat), l.length ≤ q + n → anyR (l.drop q) = true → hexF 0 l = none
  | 0, q, hn, h => by rw [List.drop_of_length_le (by omega), anyR_nil] at h; cases h
  | n + 1, q, hn, h => by
    by_cases hq : q < l.length
    · rw [anyR_step hq, Bool.or_eq_true] at h
      rcases h with h | h
      · exact ixr_not hq (of_decide_eq_true h)
      · have hne : l.drop q ≠ [] := fun e => by have := congrArg List.length e; simp at this; omega
        have := (rune_w hne).1
        exact anyR_not l n _ (by omega) h
    · rw [List.drop_of_length_le (by omega), anyR_nil] at h; cases h
theorem any_not {l : List UInt8} (h : anyR l = true) : hexF 0 l = none := anyR_not l l.length 0 (by omega) (by rw [List.drop_zero]; exact h)
end Go.Vl
/- Walks through the Go functions strings.IndexRune, as typed contracts. -/
namespace Go.Proofs.YtdlendioamiagaaDoor
open Go Go.Gw Go.Vl
set_option linter.unusedVariables false
set_option linter.unusedSimpArgs false
theorem rune_sgn : ∀ q : Fin 3, (rune (sgn.drop q.val)).1 < 128 ∧ (rune (sgn.drop q.val)).2 = 1 := by decide
theorem at_sgn {i : Nat} (h : i < 3) : at' (nums sgn) (i : Int) < 128 := by
  have : ∀ q : Fin 3, at' (nums sgn) ((q.val : Nat) : Int) < 128 := by decide
  exact this ⟨i, h⟩
theorem at_last {c : Int} (h : isRune c) (h1 : 128 ≤ c) : 128 ≤ at' (nums (enc c)) (((enc c).length : Int) - 1) := by
  obtain ⟨h2, h3⟩ := enc_last h h1
  have e : ((enc c).length : Int) - 1 = (((enc c).length - 1 : Nat) : Int) := by omega
  rw [e, at_nums (by omega)]
  have := h3 _ (List.getElem?_eq_getElem (by omega : (enc c).length - 1 < (enc c).length))
  omega
theorem idx_high {n : Int} (h : 128 ≤ n) (h2 : n < 256) (k : Nat) : Lib.indexByte (sgn.drop k) n.toNat.toUInt8 = -1 := by
  refine idx_none fun e => ?_
  have h1 := (sgn_byte (List.mem_of_mem_drop e)).1
  rw [of_byte (by omega) h2] at h1
  omega
theorem at_lt {l : List UInt8} {i : Int} : at' (nums l) i < 256 := by
  unfold at' nums
  rw [List.getD_eq_getElem?_getD, List.getElem?_map]
  cases l[i.toNat]? with
  | none => decide
  | some b => have := b.toNat_lt; show ((b.toNat : Nat) : Int) < 256; omega

set_option maxRecDepth 20000 in
/-- strings.IndexRune -/
theorem ixRune_fn {K0 : FH} {n0 : Nat} (c : Nat) (hc : isRune (c : Int)) : CtM K0 n0 Tryd.prog 109 [BsT sgn, IntT .i32 (c : Int)] ([]) Unit (fun _ => I64 (ixr c)) (fun _ => []) (fun _ => True) := by
  refine fn_introM Tryd.func109 rfl rfl ?_
  intro H w hK hn
  refine tr_seq ?_
  -- region 0
  refine tr_env (es_cons (t := 0) (OT.tmp rfl) (es_cons (t := 1) (OT.tmp rfl) es_nil)) ?_
  refine tr_region ?_
  refine op_pure (pu_assign OT.const) rfl rfl ?_
  refine tr_nil ?_
  refine then_normal ?_
  refine tr_block ?_
  refine tr_seq ?_
  -- region 34
  refine tr_env (es_cons (t := 0) (OT.tmp rfl) (es_cons (t := 1) (OT.tmp rfl) es_nil)) ?_
  refine tr_region ?_
  refine op_pure (pu_move (OT.tmp rfl)) rfl rfl ?_
  refine op_pure (pu_leq OT.const (OT.tmp rfl)) rfl rfl ?_
  refine op_pure (pu_move (OT.tmp rfl)) rfl rfl ?_
  refine op_gu rfl rfl rfl (OT.gu_mk (OT.tmp rfl)) (fun hg => by (have hg1 := hg.2; (try simp only [decide_eq_true_eq, decide_eq_false_iff_not] at hg1); exact pu_move (by exact OT.tmp rfl))) rfl ?_
  refine op_gu rfl rfl rfl (OT.gu_mk (OT.tmp rfl)) (fun hg => by (have hg1 := hg.2; (try simp only [decide_eq_true_eq, decide_eq_false_iff_not] at hg1); exact pu_lss (by exact OT.gu (OT.tmp rfl) hg) OT.const)) rfl ?_
  refine op_pure (pu_pick_and (OT.tmp rfl) (by exact OT.tmp rfl)) rfl rfl ?_
  refine op_pure (pu_assign (OT.tmp rfl)) rfl rfl ?_
  refine tr_nil ?_
  refine then_normal ?_
  refine tr_cond (OT.tmp rfl) (fun c160 => ?_) (fun c160 => ?_)
  · skip
    have hc128 : c < 128 := by simp at c160; omega
    refine tr_seq ?_
    -- region 35
    refine tr_env (es_cons (t := 0) (OT.tmp rfl) (es_cons (t := 1) (OT.tmp rfl) es_nil)) ?_
    refine tr_region ?_
    refine op_pure (pu_move (OT.tmp rfl)) rfl rfl ?_
    refine op_pure (pu_move (OT.tmp rfl)) rfl rfl ?_
    refine op_pure (pu_convert (OT.tmp rfl) Tryd.underlying21 Tryd.underlying5) rfl rfl ?_
    refine op_acts (acts_callM (IndexByte_ct sgn (IntKind.u8.wrap (c : Int))) (mk_in hK hn) (show enters Tryd.prog 115 = true from by decide +kernel) (OTs.cons (OT.tmp rfl) (OTs.cons (OT.tmp rfl) OTs.nil)) (List.Perm.refl _)) (List.Perm.refl _) rfl rfl (fun _ _ => ?_)
    refine op_pure (pu_assign (OT.tmp rfl)) rfl rfl ?_
    refine tr_nil ?_
    refine then_normal ?_
    refine tr_ret ?_
    refine block_ret ?_
    exact ret_one .ret (.inl rfl) rfl () (OT.val (OT.tmp rfl) (congrArg (Value.int _) (by unfold ixr; rw [if_pos hc128, wrap8]; show Lib.indexByte sgn (UInt8.ofNat ((c : Int) % 256).toNat) = _; rw [show ((c : Int) % 256).toNat = c from by omega]))) trivial (by exact picks_nil)
  · skip
    have hc128 : ¬ c < 128 := by simp at c160; omega
    have hx : ixr c = -1 := if_neg hc128
    obtain ⟨hel, _⟩ := enc_last hc (by omega)
    have hll := enc_len (c : Int)
    have hal := at_last hc (by omega)
    refine tr_seq ?_
    -- region 36
    refine tr_env (es_cons (t := 0) (OT.tmp rfl) (es_cons (t := 1) (OT.tmp rfl) es_nil)) ?_
    refine tr_region ?_
    refine op_pure (pu_move (OT.tmp rfl)) rfl rfl ?_
    refine op_pure (pu_eql (OT.tmp rfl) OT.const) rfl rfl ?_
    refine op_pure (pu_assign (OT.tmp rfl)) rfl rfl ?_
    refine tr_nil ?_
    refine then_normal ?_
    refine tr_cond (OT.tmp rfl) (fun c171 => ?_) (fun c171 => ?_)
    · skip
      refine tr_seq ?_
      refine tr_seq ?_
      -- region 37
      refine tr_env (es_cons (t := 0) (OT.tmp rfl) es_nil) ?_
      refine tr_region ?_
      refine op_pure (pu_move (OT.tmp rfl)) rfl rfl ?_
      refine op_acts (acts_range_bs Tryd.underlying9 (OT.tmp rfl)) (List.Perm.refl _) rfl rfl (fun g37_1 _ => ?_)
      refine tr_nil ?_
      refine then_normal ?_
      refine tr_block ?_
      refine tr_loopK (σ := Nat) (es_cons (t := 175) (OT.tmp rfl) es_nil) (fun q => []) (fun q => [ItI g37_1 sgn q]) (fun q => q ≤ 3) (fun q => 3 - q) 0 (Nat.zero_le _) ?_ (own_picks (by repeat (first | exact picks_nil | refine picks_cons 0 rfl ?_ | refine picks_cons 1 rfl ?_ | refine picks_cons 2 rfl ?_ | refine picks_cons 3 rfl ?_ | refine picks_cons 4 rfl ?_ | refine picks_cons 5 rfl ?_ | refine picks_cons 6 rfl ?_))) ?_
      · exact es_nil
      · rintro q hq
        refine tr_seq ?_
        -- region 38
        refine tr_env (es_cons (t := 175) (OT.tmp rfl) es_nil) ?_
        refine tr_region ?_
        refine op_acts (acts_next_bs (OT.tmp rfl) (by exact perm_at 0 rfl)) (by exact perm_at 0 rfl) rfl rfl (fun _ _ => ?_)
        refine op_pure (pu_next0 (OT.tmp rfl)) rfl rfl ?_
        refine tr_nil ?_
        refine then_normal ?_
        refine tr_seq ?_
        refine tr_cond (OT.tmp rfl) (fun c177 => ?_) (fun c177 => ?_)
        · skip
          refine tr_skip ?_
          refine then_normal ?_
          refine tr_block ?_
          refine tr_seq ?_
          -- region 39
          refine tr_env (es_cons (t := 175) (OT.tmp rfl) (es_cons (t := 176) (OT.tmp rfl) es_nil)) ?_
          have h9 : q < 3 := by simpa using c177
          obtain ⟨h8a, h8b⟩ : (rune (List.drop q sgn)).1 < 128 ∧ (rune (List.drop q sgn)).2 = 1 := rune_sgn ⟨q, h9⟩
          have hnx : nextP sgn q = q + 1 := by rw [nextP_lt h9, h8b]
          refine tr_region ?_
          refine op_pure (pu_next1 (by assumption) (OT.tmp rfl)) rfl rfl ?_
          refine op_pure (pu_next2 (by assumption) (OT.tmp rfl)) rfl rfl ?_
          refine op_pure (pu_assign (OT.tmp rfl)) rfl rfl ?_
          refine op_pure (pu_assign (OT.tmp rfl)) rfl rfl ?_
          refine tr_nil ?_
          refine then_normal ?_
          refine tr_seq ?_
          -- region 40
          refine tr_env (es_cons (t := 5) (OT.tmp rfl) (es_cons (t := 6) (OT.tmp rfl) (es_cons (t := 175) (OT.tmp rfl) es_nil))) ?_
          refine tr_region ?_
          refine op_pure (pu_move (OT.tmp rfl)) rfl rfl ?_
          refine op_pure (pu_eql (OT.tmp rfl) OT.const) rfl rfl ?_
          refine tr_nil ?_
          refine then_normal ?_
          refine tr_cond (OT.tmp rfl) (fun c181 => ?_) (fun c181 => ?_)
          · skip
            exfalso; simp at c181; omega --done
          · skip
            refine tr_skip ?_
            refine block_normal ?_
            refine then_normal ?_
            exact tr_again (nextP sgn q) (by rw [hnx]; omega) (by rw [hnx]; omega) (es_append es_nil (es_cons (t := 175) (OT.tmp rfl) es_nil)) (own_picks (by repeat (first | exact picks_nil | refine picks_cons 0 rfl ?_ | refine picks_cons 1 rfl ?_ | refine picks_cons 2 rfl ?_ | refine picks_cons 3 rfl ?_ | refine picks_cons 4 rfl ?_ | refine picks_cons 5 rfl ?_ | refine picks_cons 6 rfl ?_)))
        · skip
          refine tr_exit ?_
          refine then_exit ?_
          refine then_exit ?_
          refine block_hit ?_
          refine then_normal ?_
          refine tr_seq ?_
          -- region 42
          refine tr_env es_nil ?_
          refine tr_region ?_
          refine op_pure (pu_assign OT.const) rfl rfl ?_
          refine tr_nil ?_
          refine then_normal ?_
          refine tr_ret ?_
          refine block_ret ?_
          exact ret_one .ret (.inl rfl) rfl () (OT.val (OT.tmp rfl) (congrArg (Value.int _) (hx.symm))) trivial (by exact picks_nil)
    · skip
      refine tr_seq ?_
      -- region 43
      refine tr_env (es_cons (t := 0) (OT.tmp rfl) (es_cons (t := 1) (OT.tmp rfl) es_nil)) ?_
      refine tr_region ?_
      refine op_pure (pu_move (OT.tmp rfl)) rfl rfl ?_
      refine op_acts (acts_callM (ValidRune_ct (c : Int)) (mk_in hK hn) (show enters Tryd.prog 89 = true from by decide +kernel) (OTs.cons (OT.tmp rfl) OTs.nil) (List.Perm.refl _)) (List.Perm.refl _) rfl rfl (fun _ _ => ?_)
      refine op_pure (pu_not (OT.tmp rfl)) rfl rfl ?_
      refine op_pure (pu_assign (OT.tmp rfl)) rfl rfl ?_
      refine tr_nil ?_
      refine then_normal ?_
      refine tr_cond (OT.tmp rfl) (fun c183 => ?_) (fun c183 => ?_)
      · skip
        exfalso; simp [Lib.validRune] at c183; omega --done
      · skip
        refine tr_scope ?_
        refine tr_seq ?_
        -- region 1
        refine tr_env (es_cons (t := 0) (OT.tmp rfl) (es_cons (t := 1) (OT.tmp rfl) es_nil)) ?_
        refine tr_region ?_
        refine op_pure (pu_move (OT.tmp rfl)) rfl rfl ?_
        refine op_pure (pu_rune_str (OT.tmp rfl) Tryd.underlying21 Tryd.underlying9 hc) rfl rfl ?_
        refine tr_as 18 (T := BsT (enc (c : Int))) (OT.tmp rfl) ?_
        refine op_pure (pu_assign (OT.tmp rfl)) rfl rfl ?_
        refine tr_nil ?_
        refine then_normal ?_
        refine tr_seq ?_
        -- region 2
        refine tr_env (es_cons (t := 0) (OT.tmp rfl) (es_cons (t := 7) (OT.tmp rfl) es_nil)) ?_
        refine tr_region ?_
        refine op_pure (pu_move (OT.tmp rfl)) rfl rfl ?_
        refine op_pure (pu_len_bs Tryd.underlying9 (OT.tmp rfl)) rfl rfl ?_
        refine op_pure (pu_sub' (OT.tmp rfl) OT.const (by omega)) rfl rfl ?_
        refine op_pure (pu_assign (OT.tmp rfl)) rfl rfl ?_
        refine tr_nil ?_
        refine then_normal ?_
        refine tr_seq ?_
        -- region 3
        refine tr_env (es_cons (t := 0) (OT.tmp rfl) (es_cons (t := 7) (OT.tmp rfl) (es_cons (t := 8) (OT.tmp rfl) es_nil))) ?_
        refine tr_region ?_
        refine op_pure (pu_move (OT.tmp rfl)) rfl rfl ?_
        refine op_pure (pu_assign (OT.tmp rfl)) rfl rfl ?_
        refine tr_nil ?_
        refine then_normal ?_
        refine tr_seq ?_
        -- region 4
        refine tr_env (es_cons (t := 0) (OT.tmp rfl) (es_cons (t := 7) (OT.tmp rfl) (es_cons (t := 8) (OT.tmp rfl) (es_cons (t := 9) (OT.tmp rfl) es_nil)))) ?_
        refine tr_region ?_
        refine op_pure (pu_assign OT.const) rfl rfl ?_
        refine tr_nil ?_
        refine then_normal ?_
        refine tr_seq ?_
        refine tr_block ?_
        refine tr_loopK (σ := Unit) (es_cons (t := 0) (OT.tmp rfl) (es_cons (t := 7) (OT.tmp rfl) (es_cons (t := 8) (OT.tmp rfl) es_nil))) (fun _ => [(9, I64 (((enc c).length : Int) - 1)), (10, I64 0)]) (fun _ => []) (fun _ => True) (fun _ => 0) () trivial ?_ (own_picks (by exact picks_nil)) ?_
        · exact (es_cons (t := 9) (by exact OT.tmp rfl) (es_cons (t := 10) (by exact OT.tmp rfl) es_nil))
        · rintro _ _
          refine tr_seq ?_
          refine tr_seq ?_
          -- region 5
          refine tr_env (es_cons (t := 0) (OT.tmp rfl) (es_cons (t := 7) (OT.tmp rfl) (es_cons (t := 8) (OT.tmp rfl) (es_cons (t := 9) (OT.tmp rfl) es_nil)))) ?_
          refine tr_region ?_
          refine op_pure (pu_move (OT.tmp rfl)) rfl rfl ?_
          refine op_pure (pu_move (OT.tmp rfl)) rfl rfl ?_
          refine op_pure (pu_len_bs Tryd.underlying9 (OT.tmp rfl)) rfl rfl ?_
          refine op_pure (pu_lss (OT.tmp rfl) (OT.tmp rfl)) rfl rfl ?_
          refine tr_nil ?_
          refine then_normal ?_
          refine tr_cond (OT.tmp rfl) (fun c26 => ?_) (fun c26 => ?_)
          · skip
            refine tr_skip ?_
            refine then_normal ?_
            refine tr_block ?_
            refine tr_scope ?_
            refine tr_seq ?_
            refine tr_seq ?_
            -- region 6
            refine tr_env (es_cons (t := 0) (OT.tmp rfl) (es_cons (t := 7) (OT.tmp rfl) (es_cons (t := 8) (OT.tmp rfl) (es_cons (t := 9) (OT.tmp rfl) es_nil)))) ?_
            apply tr_any (m := 6) (ns := [[(0, none)], [(9, none)], [(27, some 0), (28, some 1)], [(7, none)], [(8, none)], [(30, some 3), (31, some 4)]]) (by kernel_rfl) (by kernel_rfl) (Ts := [_, _, _, _, _, _]) rfl
            case hops =>
              refine ⟨?_, ⟨?_, ⟨?_, ⟨?_, ⟨?_, ⟨?_, trivial⟩⟩⟩⟩⟩⟩
              · exact rop_pure rfl (pu_move (OT.tmp rfl))
              · exact rop_pure rfl (pu_move (OT.tmp rfl))
              · exact rop_pure rfl (pu_bs_index (OT.tmp rfl) (OT.tmp rfl) Tryd.underlying9 (by omega) (by (simp [maxLen] at *; omega)))
              · exact rop_pure rfl (pu_move (OT.tmp rfl))
              · exact rop_pure rfl (pu_move (OT.tmp rfl))
              · exact rop_pure rfl (pu_bs_index (OT.tmp rfl) (OT.tmp rfl) Tryd.underlying9 (by omega) (by omega))
            case h =>
              refine op_pure (pu_neq (OT.tmp rfl) (OT.tmp rfl)) rfl rfl ?_
              refine tr_nil ?_
              refine then_normal ?_
              refine tr_cond (OT.tmp rfl) (fun c33 => ?_) (fun c33 => ?_)
              · skip
                refine tr_seq ?_
                -- region 7
                refine tr_env (es_cons (t := 0) (OT.tmp rfl) (es_cons (t := 7) (OT.tmp rfl) (es_cons (t := 8) (OT.tmp rfl) (es_cons (t := 9) (OT.tmp rfl) es_nil)))) ?_
                apply tr_any (m := 7) (ns := [[(0, none)], [(9, none)], [(35, some 1)], [(34, some 0), (36, some 2)], [(7, none)], [(8, none)], [(38, some 4), (39, some 5)]]) (by kernel_rfl) (by kernel_rfl) (Ts := [_, _, _, _, _, _, _]) rfl
                case hops =>
                  refine ⟨?_, ⟨?_, ⟨?_, ⟨?_, ⟨?_, ⟨?_, ⟨?_, trivial⟩⟩⟩⟩⟩⟩⟩
                  · exact rop_pure rfl (pu_move (OT.tmp rfl))
                  · exact rop_pure rfl (pu_move (OT.tmp rfl))
                  · exact rop_pure rfl (pu_add' (OT.tmp rfl) OT.const (by omega))
                  · exact rop_pure rfl (pu_bs_slice_lo (OT.tmp rfl) (OT.tmp rfl) Tryd.underlying9 (by omega) (by (simp [maxLen] at *; omega)))
                  · exact rop_pure rfl (pu_move (OT.tmp rfl))
                  · exact rop_pure rfl (pu_move (OT.tmp rfl))
                  · exact rop_pure rfl (pu_bs_index (OT.tmp rfl) (OT.tmp rfl) Tryd.underlying9 (by omega) (by omega))
                case h =>
                  refine op_acts (acts_callM (IndexByte_ct _ _) (mk_in hK hn) (show enters Tryd.prog 115 = true from by decide +kernel) (OTs.cons (OT.tmp rfl) (OTs.cons (OT.tmp rfl) OTs.nil)) (List.Perm.refl _)) (List.Perm.refl _) rfl rfl (fun _ _ => ?_)
                  refine op_pure (pu_assign (OT.tmp rfl)) rfl rfl ?_
                  refine tr_nil ?_
                  refine then_normal ?_
                  refine tr_seq ?_
                  refine tr_seq ?_
                  -- region 8
                  refine tr_env (es_cons (t := 0) (OT.tmp rfl) (es_cons (t := 7) (OT.tmp rfl) (es_cons (t := 8) (OT.tmp rfl) (es_cons (t := 9) (OT.tmp rfl) (es_cons (t := 11) (OT.tmp rfl) es_nil))))) ?_
                  refine tr_region ?_
                  refine op_pure (pu_move (OT.tmp rfl)) rfl rfl ?_
                  refine op_pure (pu_lss (OT.tmp rfl) OT.const) rfl rfl ?_
                  refine tr_nil ?_
                  refine then_normal ?_
                  refine tr_cond (OT.tmp rfl) (fun c43 => ?_) (fun c43 => ?_)
                  · skip
                    refine tr_seq ?_
                    -- region 9
                    refine tr_env es_nil ?_
                    refine tr_region ?_
                    refine op_pure (pu_assign OT.const) rfl rfl ?_
                    refine tr_nil ?_
                    refine then_normal ?_
                    refine tr_ret ?_
                    refine then_ret ?_
                    refine then_ret ?_
                    refine scope_ret ?_
                    refine block_ret ?_
                    refine then_ret ?_
                    refine block_ret ?_
                    refine then_ret ?_
                    refine scope_ret ?_
                    refine block_ret ?_
                    exact ret_one .ret (.inl rfl) rfl () (OT.val (OT.tmp rfl) (congrArg (Value.int _) (hx.symm))) trivial (by exact picks_nil)
                  · skip
                    exfalso; simp at c43; rw [idx_high hal at_lt] at c43; omega --done
              · skip
                exfalso
                have h9 := at_sgn (i := (enc c).length - 1) (by simp at c26; omega)
                have e9 : (((enc c).length - 1 : Nat) : Int) = ((enc c).length : Int) - 1 := by omega
                rw [e9] at h9
                simp only [ne_eq, decide_eq_false_iff_not, Classical.not_not] at c33
                omega --done
          · skip
            refine tr_exit ?_
            refine then_exit ?_
            refine then_exit ?_
            refine block_hit ?_
            refine then_normal ?_
            refine tr_seq ?_
            refine tr_seq ?_
            -- region 19
            refine tr_env es_nil ?_
            refine tr_region ?_
            refine op_pure (pu_assign OT.const) rfl rfl ?_
            refine tr_nil ?_
            refine then_normal ?_
            refine tr_ret ?_
            refine then_ret ?_
            refine scope_ret ?_
            refine block_ret ?_
            exact ret_one .ret (.inl rfl) rfl () (OT.val (OT.tmp rfl) (congrArg (Value.int _) (hx.symm))) trivial (by exact picks_nil)
end Go.Proofs.YtdlendioamiagaaDoor
/- Walks through the Go functions strings.shouldUseASCIISet, strings.IndexAny, strings.ContainsAny, as typed contracts. -/
namespace Go.Proofs.YtdlendioamiagaaDoor
open Go Go.Gw Go.Vl
set_option linter.unusedVariables false
set_option linter.unusedSimpArgs false

set_option maxRecDepth 20000 in
/-- strings.shouldUseASCIISet -/
theorem useSet_fn (n : Int) : Ct Tryd.prog 110 [I64 n] ([]) Unit (fun _ => BoolT (decide (8 < n))) (fun _ => []) (fun _ => True) := by
  refine fn_intro Tryd.func110 rfl rfl ?_
  intro H w
  refine tr_seq ?_
  -- region 0
  refine tr_env (es_cons (t := 0) (OT.tmp rfl) es_nil) ?_
  refine tr_region ?_
  refine op_pure (pu_assign OT.const) rfl rfl ?_
  refine tr_nil ?_
  refine then_normal ?_
  refine tr_seq ?_
  -- region 1
  refine tr_env (es_cons (t := 0) (OT.tmp rfl) es_nil) ?_
  refine tr_region ?_
  refine op_pure (pu_move (OT.tmp rfl)) rfl rfl ?_
  refine op_pure (pu_gtr (OT.tmp rfl) OT.const) rfl rfl ?_
  refine op_pure (pu_assign (OT.tmp rfl)) rfl rfl ?_
  refine tr_nil ?_
  refine then_normal ?_
  refine tr_ret ?_
  exact ret_one .ret (.inl rfl) rfl () (OT.tmp rfl) trivial (by exact picks_nil)
set_option maxRecDepth 20000 in
/-- strings.IndexAny -/
theorem ixAny_fn {K0 : FH} {n0 : Nat} (l : List UInt8) (hl : l.length ≤ 6) : CtM K0 n0 Tryd.prog 104 [BsT l, BsT sgn] ([]) Int (fun r => I64 r) (fun _ => []) (fun r => decide (0 ≤ r) = anyR l) := by
  refine fn_introM Tryd.func104 rfl rfl ?_
  intro H w hK hn
  refine tr_seq ?_
  -- region 0
  refine tr_env (es_cons (t := 0) (OT.tmp rfl) (es_cons (t := 1) (OT.tmp rfl) es_nil)) ?_
  refine tr_region ?_
  refine op_pure (pu_assign OT.const) rfl rfl ?_
  refine tr_nil ?_
  refine then_normal ?_
  refine tr_seq ?_
  refine tr_seq ?_
  -- region 1
  refine tr_env (es_cons (t := 0) (OT.tmp rfl) (es_cons (t := 1) (OT.tmp rfl) es_nil)) ?_
  refine tr_region ?_
  refine op_pure (pu_move (OT.tmp rfl)) rfl rfl ?_
  refine op_pure (pu_bs_eql (OT.tmp rfl) OT.const) rfl rfl ?_
  refine tr_nil ?_
  refine then_normal ?_
  refine tr_cond (OT.tmp rfl) (fun c12 => ?_) (fun c12 => ?_)
  · skip
    exact absurd c12 (by simp) --done
  · skip
    refine tr_skip ?_
    refine then_normal ?_
    refine tr_seq ?_
    refine tr_seq ?_
    -- region 3
    refine tr_env (es_cons (t := 0) (OT.tmp rfl) (es_cons (t := 1) (OT.tmp rfl) es_nil)) ?_
    refine tr_region ?_
    refine op_pure (pu_move (OT.tmp rfl)) rfl rfl ?_
    refine op_pure (pu_len_bs Tryd.underlying9 (OT.tmp rfl)) rfl rfl ?_
    refine op_pure (pu_eql (OT.tmp rfl) OT.const) rfl rfl ?_
    refine tr_nil ?_
    refine then_normal ?_
    refine tr_cond (OT.tmp rfl) (fun c15 => ?_) (fun c15 => ?_)
    · skip
      exact absurd c15 (by simp) --done
    · skip
      refine tr_skip ?_
      refine then_normal ?_
      refine tr_seq ?_
      refine tr_seq ?_
      -- region 8
      refine tr_env (es_cons (t := 0) (OT.tmp rfl) (es_cons (t := 1) (OT.tmp rfl) es_nil)) ?_
      refine tr_region ?_
      refine op_pure (pu_move (OT.tmp rfl)) rfl rfl ?_
      refine op_pure (pu_len_bs Tryd.underlying9 (OT.tmp rfl)) rfl rfl ?_
      refine op_acts (acts_call (useSet_fn _) (show enters Tryd.prog 110 = true from by decide +kernel) (OTs.cons (OT.tmp rfl) OTs.nil) (List.Perm.refl _)) (List.Perm.refl _) rfl rfl (fun _ _ => ?_)
      refine tr_nil ?_
      refine then_normal ?_
      refine tr_cond (OT.tmp rfl) (fun c26 => ?_) (fun c26 => ?_)
      · skip
        exfalso; simp at c26; omega --done
      · skip
        refine tr_skip ?_
        refine then_normal ?_
        refine tr_seq ?_
        refine tr_seq ?_
        -- region 17
        refine tr_env (es_cons (t := 0) (OT.tmp rfl) (es_cons (t := 1) (OT.tmp rfl) es_nil)) ?_
        refine tr_region ?_
        refine op_pure (pu_move (OT.tmp rfl)) rfl rfl ?_
        refine op_acts (acts_range_bs Tryd.underlying9 (OT.tmp rfl)) (List.Perm.refl _) rfl rfl (fun g17_1 _ => ?_)
        refine tr_nil ?_
        refine then_normal ?_
        refine tr_block ?_
        refine tr_loopK (σ := Nat) (es_cons (t := 1) (OT.tmp rfl) (es_cons (t := 45) (OT.tmp rfl) es_nil)) (fun q => []) (fun q => [ItI g17_1 l q]) (fun q => q ≤ l.length ∧ anyR (l.drop q) = anyR l) (fun q => l.length - q) 0 ⟨Nat.zero_le _, by rw [List.drop_zero]⟩ ?_ (own_picks (by repeat (first | exact picks_nil | refine picks_cons 0 rfl ?_ | refine picks_cons 1 rfl ?_ | refine picks_cons 2 rfl ?_ | refine picks_cons 3 rfl ?_ | refine picks_cons 4 rfl ?_ | refine picks_cons 5 rfl ?_ | refine picks_cons 6 rfl ?_))) ?_
        · exact es_nil
        · rintro q ⟨hq, hany⟩
          refine tr_seq ?_
          -- region 18
          refine tr_env (es_cons (t := 1) (OT.tmp rfl) (es_cons (t := 45) (OT.tmp rfl) es_nil)) ?_
          refine tr_region ?_
          refine op_acts (acts_next_bs (OT.tmp rfl) (by exact perm_at 0 rfl)) (by exact perm_at 0 rfl) rfl rfl (fun _ _ => ?_)
          refine op_pure (pu_next0 (OT.tmp rfl)) rfl rfl ?_
          refine tr_nil ?_
          refine then_normal ?_
          refine tr_seq ?_
          refine tr_cond (OT.tmp rfl) (fun c47 => ?_) (fun c47 => ?_)
          · skip
            refine tr_skip ?_
            refine then_normal ?_
            refine tr_block ?_
            refine tr_seq ?_
            -- region 19
            refine tr_env (es_cons (t := 1) (OT.tmp rfl) (es_cons (t := 45) (OT.tmp rfl) (es_cons (t := 46) (OT.tmp rfl) es_nil))) ?_
            have hq0 : q < l.length := by simpa using c47
            have hci := rune_is (l.drop q)
            have hne : l.drop q ≠ [] := fun e => by have h9 := congrArg List.length e; simp at h9; omega
            have hw := rune_w hne
            rw [List.length_drop] at hw
            refine tr_region ?_
            refine op_pure (pu_next1 (by assumption) (OT.tmp rfl)) rfl rfl ?_
            refine op_pure (pu_next2 (by assumption) (OT.tmp rfl)) rfl rfl ?_
            refine op_pure (pu_assign (OT.tmp rfl)) rfl rfl ?_
            refine op_pure (pu_assign (OT.tmp rfl)) rfl rfl ?_
            refine tr_nil ?_
            refine then_normal ?_
            refine tr_seq ?_
            -- region 20
            refine tr_env (es_cons (t := 1) (OT.tmp rfl) (es_cons (t := 9) (OT.tmp rfl) (es_cons (t := 10) (OT.tmp rfl) (es_cons (t := 45) (OT.tmp rfl) es_nil)))) ?_
            refine tr_region ?_
            refine op_pure (pu_move (OT.tmp rfl)) rfl rfl ?_
            refine op_pure (pu_move (OT.tmp rfl)) rfl rfl ?_
            refine op_acts (acts_callM (ixRune_fn (rune (l.drop q)).1 hci) (mk_in hK hn) (show enters Tryd.prog 109 = true from by decide +kernel) (OTs.cons (OT.tmp rfl) (OTs.cons (OT.tmp rfl) OTs.nil)) (List.Perm.refl _)) (List.Perm.refl _) rfl rfl (fun _ _ => ?_)
            refine op_pure (pu_geq (OT.tmp rfl) OT.const) rfl rfl ?_
            refine tr_nil ?_
            refine then_normal ?_
            refine tr_cond (OT.tmp rfl) (fun c53 => ?_) (fun c53 => ?_)
            · skip
              refine tr_seq ?_
              -- region 21
              refine tr_env (es_cons (t := 9) (OT.tmp rfl) es_nil) ?_
              refine tr_region ?_
              refine op_pure (pu_move (OT.tmp rfl)) rfl rfl ?_
              refine op_pure (pu_assign (OT.tmp rfl)) rfl rfl ?_
              refine tr_nil ?_
              refine then_normal ?_
              refine tr_ret ?_
              refine block_ret ?_
              refine then_ret ?_
              refine block_ret ?_
              refine then_ret ?_
              exact ret_one .ret (.inl rfl) rfl (q : Int) (OT.tmp rfl) (by rw [← hany, anyR_step hq0, c53]; simp) (by exact picks_nil)
            · skip
              have hx9 : decide (0 ≤ ixr (rune (l.drop q)).1) = false := c53
              refine tr_skip ?_
              refine block_normal ?_
              refine then_normal ?_
              exact tr_again (nextP l q) ⟨by rw [nextP_lt hq0]; omega, by rw [nextP_lt hq0, ← hany, anyR_step hq0, hx9]; rfl⟩ (by rw [nextP_lt hq0]; omega) (es_append es_nil (es_cons (t := 1) (OT.tmp rfl) (es_cons (t := 45) (OT.tmp rfl) es_nil))) (own_picks (by repeat (first | exact picks_nil | refine picks_cons 0 rfl ?_ | refine picks_cons 1 rfl ?_ | refine picks_cons 2 rfl ?_ | refine picks_cons 3 rfl ?_ | refine picks_cons 4 rfl ?_ | refine picks_cons 5 rfl ?_ | refine picks_cons 6 rfl ?_)))
          · skip
            refine tr_exit ?_
            refine then_exit ?_
            refine then_exit ?_
            refine block_hit ?_
            refine then_normal ?_
            refine tr_seq ?_
            -- region 22
            refine tr_env es_nil ?_
            refine tr_region ?_
            refine op_pure (pu_assign OT.const) rfl rfl ?_
            refine tr_nil ?_
            refine then_normal ?_
            refine tr_ret ?_
            exact ret_one .ret (.inl rfl) rfl (-1) (OT.tmp rfl) (by obtain rfl : q = l.length := (by simp at c47; omega); rw [← hany, List.drop_length, anyR_nil]; rfl) (by exact picks_nil)
set_option maxRecDepth 20000 in
/-- strings.ContainsAny -/
theorem hasAny_fn {K0 : FH} {n0 : Nat} (l : List UInt8) (hl : l.length ≤ 6) : CtM K0 n0 Tryd.prog 87 [BsT l, BsT sgn] ([]) Unit (fun _ => BoolT (anyR l)) (fun _ => []) (fun _ => True) := by
  refine fn_introM Tryd.func87 rfl rfl ?_
  intro H w hK hn
  refine tr_seq ?_
  -- region 0
  refine tr_env (es_cons (t := 0) (OT.tmp rfl) (es_cons (t := 1) (OT.tmp rfl) es_nil)) ?_
  refine tr_region ?_
  refine op_pure (pu_assign OT.const) rfl rfl ?_
  refine tr_nil ?_
  refine then_normal ?_
  refine tr_seq ?_
  -- region 1
  refine tr_env (es_cons (t := 0) (OT.tmp rfl) (es_cons (t := 1) (OT.tmp rfl) es_nil)) ?_
  refine tr_region ?_
  refine op_pure (pu_move (OT.tmp rfl)) rfl rfl ?_
  refine op_pure (pu_move (OT.tmp rfl)) rfl rfl ?_
  refine op_acts (acts_callM (ixAny_fn _ (by omega)) (mk_in hK hn) (show enters Tryd.prog 104 = true from by decide +kernel) (OTs.cons (OT.tmp rfl) (OTs.cons (OT.tmp rfl) OTs.nil)) (List.Perm.refl _)) (List.Perm.refl _) rfl rfl (fun i1_2 hi1_2 => ?_)
  refine op_pure (pu_geq (OT.tmp rfl) OT.const) rfl rfl ?_
  refine op_pure (pu_assign (OT.tmp rfl)) rfl rfl ?_
  refine tr_nil ?_
  refine then_normal ?_
  refine tr_ret ?_
  exact ret_one .ret (.inl rfl) rfl () (OT.val (OT.tmp rfl) (congrArg Value.bool (hi1_2))) trivial (by exact picks_nil)
end Go.Proofs.YtdlendioamiagaaDoor
/- Values of properties, plain: escapes and texts as the program reads them. -/
namespace Go.Vl
open Go Go.Gw Go.Lib
set_option linter.unusedVariables false
set_option linter.unusedSimpArgs false
abbrev hexOf (l : List UInt8) : Nat := (hexF 0 l).getD 0
def isRuneB (c : Nat) : Bool := decide (c < 55296 ∨ (57343 < c ∧ c ≤ 1114111))
/-- What stands between u{ and }, and what is behind it. -/
def braces (l : List UInt8) : List UInt8 × List UInt8 × Bool := cut (trimPrefix l [117, 123]) [125]
def escU (l : List UInt8) : Option (Nat × List UInt8) := if (hasPrefix l [117, 123] && (braces l).2.2 && decide (1 ≤ (braces l).1.length) && decide ((braces l).1.length ≤ 6) && (hexF 0 (braces l).1).isSome && isRuneB (hexOf (braces l).1)) = true then some (hexOf (braces l).1, (braces l).2.1) else none
/-- The rune of an escape (behind its \), and what is behind it. -/
def escP : List UInt8 → Option (Nat × List UInt8)
  | [] => none
  | b :: r => if b.toNat = 34 ∨ b.toNat = 92 then some (b.toNat, r) else if b.toNat = 110 then some (10, r) else if b.toNat = 116 then some (9, r) else escU (b :: r)
theorem escP_cons (b : UInt8) (r : List UInt8) : escP (b :: r) = if b.toNat = 34 ∨ b.toNat = 92 then some (b.toNat, r) else if b.toNat = 110 then some (10, r) else if b.toNat = 116 then some (9, r) else escU (b :: r) := rfl
def escR (l : List UInt8) : Int × List UInt8 := match escP l with
  | some (c, r) => ((c : Int), r)
  | none => (-1, [])
theorem escR_some {l r : List UInt8} {c : Nat} (h : escP l = some (c, r)) : escR l = ((c : Int), r) := by unfold escR; rw [h]
theorem escR_none {l : List UInt8} (h : escP l = none) : escR l = (-1, []) := by unfold escR; rw [h]
theorem hex6 {l : List UInt8} (h : l.length ≤ 6) : hexOf l < 16777216 := by
  unfold hexOf
  cases e : hexF 0 l with
  | none => decide
  | some n =>
    have h1 := hexF_lt l 0 n e
    have h2 : 16 ^ l.length ≤ 16 ^ 6 := Nat.pow_le_pow_right (by omega) h
    show n < _
    omega
theorem escU_bad {l : List UInt8} (h : (!hasPrefix l [117, 123] || !(braces l).2.2 || decide (((braces l).1.length : Int) < 1) || decide (6 < ((braces l).1.length : Int)) || anyR (braces l).1) = true) : escU l = none := by
  unfold escU
  rw [if_neg]
  intro hc
  simp only [Bool.and_eq_true, decide_eq_true_eq] at hc
  obtain ⟨⟨⟨⟨⟨h1, h2⟩, h3⟩, h4⟩, h5⟩, h6⟩ := hc
  simp only [Bool.or_eq_true, Bool.not_eq_true', decide_eq_true_eq] at h
  rcases h with (((h | h) | h) | h) | h
  · rw [h1] at h; cases h
  · rw [h2] at h; cases h
  · omega
  · omega
  · rw [any_not h] at h5; cases h5
theorem escU_good {l : List UInt8} (h : (!hasPrefix l [117, 123] || !(braces l).2.2 || decide (((braces l).1.length : Int) < 1) || decide (6 < ((braces l).1.length : Int)) || anyR (braces l).1) = false) : hasPrefix l [117, 123] = true ∧ (braces l).2.2 = true ∧ 1 ≤ (braces l).1.length ∧ (braces l).1.length ≤ 6 := by
  simp only [Bool.or_eq_false_iff, Bool.not_eq_false', decide_eq_false_iff_not] at h
  obtain ⟨⟨⟨⟨h1, h2⟩, h3⟩, h4⟩, h5⟩ := h
  exact ⟨h1, h2, by omega, by omega⟩
theorem escU_end {l : List UInt8} (h : hasPrefix l [117, 123] = true ∧ (braces l).2.2 = true ∧ 1 ≤ (braces l).1.length ∧ (braces l).1.length ≤ 6) : escU l = if ((hexF 0 (braces l).1).isSome && isRuneB (hexOf (braces l).1)) = true then some (hexOf (braces l).1, (braces l).2.1) else none := by
  unfold escU
  rw [h.1, h.2.1, decide_eq_true h.2.2.1, decide_eq_true h.2.2.2]
  simp only [Bool.true_and]
theorem valid_rune {c : Nat} (h : c < 16777216) : validRune (IntKind.i32.wrap (c : Int)) = isRuneB c := by
  have e : IntKind.i32.wrap (c : Int) = c := by simp [IntKind.wrap, IntKind.bits, IntKind.signed]; omega
  rw [e]
  unfold validRune isRuneB
  congr 1
  apply propext
  omega
end Go.Vl
/- Walks through the Go functions strconv.ParseUint, val.escape, as typed contracts. -/
namespace Go.Proofs.YtdlendioamiagaaDoor
open Go Go.Gw Go.Vl
set_option linter.unusedVariables false
set_option linter.unusedSimpArgs false
theorem hexE_err {l : List UInt8} : ∀ (H : FH) (u : Value), (IsV (hexE l)).p H u → (ErrT (hexOk l)).p H u := fun H u h => by
  have h : u = hexE l := h
  subst h
  unfold hexE ErrT
  cases hexOk l
  · exact ⟨_, _, rfl⟩
  · rfl

set_option maxRecDepth 20000 in
/-- strconv.ParseUint -/
theorem ParseU_fn {K0 : FH} {n0 : Nat} (l : List UInt8) (hV : VarsV K0) (hl0 : 1 ≤ l.length) (hl : l.length ≤ 6) : CtM K0 n0 Tryd.prog 88 [BsT l, I64 16, I64 32] ([]) Unit (fun _ => TupT [IntT .u64 (hexN l : Int), ErrT (hexOk l)]) (fun _ => []) (fun _ => True) := by
  refine fn_introM Tryd.func88 rfl rfl ?_
  intro H w hK hn
  refine tr_seq ?_
  -- region 0
  refine tr_env (es_cons (t := 0) (OT.tmp rfl) (es_cons (t := 1) (OT.tmp rfl) (es_cons (t := 2) (OT.tmp rfl) es_nil))) ?_
  refine tr_region ?_
  refine op_pure (pu_assign OT.const) rfl rfl ?_
  refine op_pure (pu_assign OT.const) rfl rfl ?_
  refine tr_nil ?_
  refine then_normal ?_
  refine tr_seq ?_
  -- region 1
  refine tr_env (es_cons (t := 0) (OT.tmp rfl) (es_cons (t := 1) (OT.tmp rfl) (es_cons (t := 2) (OT.tmp rfl) es_nil))) ?_
  refine tr_region ?_
  refine op_pure (pu_move (OT.tmp rfl)) rfl rfl ?_
  refine op_pure (pu_move (OT.tmp rfl)) rfl rfl ?_
  refine op_pure (pu_move (OT.tmp rfl)) rfl rfl ?_
  refine op_acts (acts_call (pUint_fn l (by omega) (by omega)) (show enters Tryd.prog 105 = true from by decide +kernel) (OTs.cons (OT.tmp rfl) (OTs.cons (OT.tmp rfl) (OTs.cons (OT.tmp rfl) OTs.nil))) (List.Perm.refl _)) (List.Perm.refl _) rfl rfl (fun _ _ => ?_)
  refine op_pure (pu_move (OT.tmp rfl)) rfl rfl ?_
  refine op_pure (pu_extract (OT.tmp rfl) rfl) rfl rfl ?_
  refine op_pure (pu_extract (OT.tmp rfl) rfl) rfl rfl ?_
  refine op_pure (pu_assign (OT.tmp rfl)) rfl rfl ?_
  refine op_pure (pu_assign (OT.tmp rfl)) rfl rfl ?_
  refine tr_nil ?_
  refine then_normal ?_
  refine tr_seq ?_
  refine tr_seq ?_
  -- region 2
  refine tr_env (es_cons (t := 0) (OT.tmp rfl) (es_cons (t := 1) (OT.tmp rfl) (es_cons (t := 2) (OT.tmp rfl) (es_cons (t := 8) (OT.tmp rfl) (es_cons (t := 9) (OT.tmp rfl) es_nil))))) ?_
  refine tr_region ?_
  refine op_pure (pu_move (OT.tmp rfl)) rfl rfl ?_
  refine tr_as 17 (T := ErrT (hexOk l)) (OT.conv (OT.tmp rfl) (hexE_err)) ?_
  refine op_pure (pu_err_neq (OT.tmp rfl) Tryd.underlying70) rfl rfl ?_
  refine tr_nil ?_
  refine then_normal ?_
  refine tr_cond (OT.tmp rfl) (fun c18 => ?_) (fun c18 => ?_)
  · skip
    refine tr_seq ?_
    -- region 3
    refine tr_env (es_cons (t := 0) (OT.tmp rfl) (es_cons (t := 1) (OT.tmp rfl) (es_cons (t := 2) (OT.tmp rfl) (es_cons (t := 8) (OT.tmp rfl) (es_cons (t := 9) (OT.tmp rfl) es_nil))))) ?_
    have hno : hexOk l = false := by simpa using c18
    refine tr_as 9 (T := IsV synV) (OT.val (OT.tmp rfl) (by unfold hexE; rw [hno]; rfl)) ?_
    refine tr_region ?_
    refine op_pure (pu_move (OT.tmp rfl)) rfl rfl ?_
    refine op_pure (pu_move (OT.tmp rfl)) rfl rfl ?_
    refine op_pure (pu_move (OT.tmp rfl)) rfl rfl ?_
    refine op_pure (pu_move (OT.tmp rfl)) rfl rfl ?_
    refine op_pure (pu_move (OT.tmp rfl)) rfl rfl ?_
    refine op_acts (acts_callM (ToError_ct hV _ _ _ _ (by omega)) (mk_in hK hn) (show enters Tryd.prog 69 = true from by decide +kernel) (OTs.cons OT.const (OTs.cons (OT.tmp rfl) (OTs.cons (OT.tmp rfl) (OTs.cons (OT.tmp rfl) (OTs.cons (OT.tmp rfl) OTs.nil))))) (List.Perm.refl _)) (List.Perm.refl _) rfl rfl (fun _ _ => ?_)
    refine op_pure (pu_assign (OT.tmp rfl)) rfl rfl ?_
    refine op_pure (pu_assign (OT.tmp rfl)) rfl rfl ?_
    refine tr_nil ?_
    refine then_normal ?_
    refine tr_ret ?_
    refine then_ret ?_
    exact ret_two .ret (.inl rfl) rfl () (OT.tmp rfl) (OT.eq (OT.tmp rfl) (congrArg ErrT hno.symm)) (fun _ _ h => h) trivial (by exact picks_nil)
  · skip
    refine tr_skip ?_
    refine then_normal ?_
    refine tr_seq ?_
    -- region 4
    refine tr_env (es_cons (t := 8) (OT.tmp rfl) es_nil) ?_
    have hyes : hexOk l = true := by simpa using c18
    refine tr_region ?_
    refine op_pure (pu_move (OT.tmp rfl)) rfl rfl ?_
    refine op_pure (pu_assign (OT.tmp rfl)) rfl rfl ?_
    refine op_pure (pu_assign OT.const) rfl rfl ?_
    refine tr_nil ?_
    refine then_normal ?_
    refine tr_ret ?_
    exact ret_two .ret (.inl rfl) rfl () (OT.tmp rfl) (OT.conv (OT.tmp rfl) (fun H u h => by rw [hyes]; exact h)) (fun _ _ h => h) trivial (by exact picks_nil)
set_option maxRecDepth 20000 in
/-- rhizome/val.escape -/
theorem escape_fn {K0 : FH} {n0 : Nat} (l : List UInt8) (hV : VarsV K0) (hl : l.length ≤ 1000000) : CtM K0 n0 Tryd.prog 67 [BsT l] ([]) Unit (fun _ => TupT [IntT .i32 (escR l).1, BsT (escR l).2]) (fun _ => []) (fun _ => True) := by
  refine fn_introM Tryd.func67 rfl rfl ?_
  intro H w hK hn
  refine tr_seq ?_
  -- region 0
  refine tr_env (es_cons (t := 0) (OT.tmp rfl) es_nil) ?_
  refine tr_region ?_
  refine op_pure (pu_assign OT.const) rfl rfl ?_
  refine op_pure (pu_assign OT.const) rfl rfl ?_
  refine tr_nil ?_
  refine then_normal ?_
  refine tr_seq ?_
  refine tr_seq ?_
  -- region 1
  refine tr_env (es_cons (t := 0) (OT.tmp rfl) es_nil) ?_
  refine tr_region ?_
  refine op_pure (pu_move (OT.tmp rfl)) rfl rfl ?_
  refine op_pure (pu_bs_eql (OT.tmp rfl) OT.const) rfl rfl ?_
  refine tr_nil ?_
  refine then_normal ?_
  refine tr_cond (OT.tmp rfl) (fun c11 => ?_) (fun c11 => ?_)
  · skip
    obtain rfl : l = [] := by simpa using c11
    have hr := escR_none (l := []) rfl
    refine tr_seq ?_
    -- region 2
    refine tr_env es_nil ?_
    refine tr_region ?_
    refine op_pure (pu_assign OT.const) rfl rfl ?_
    refine op_pure (pu_assign OT.const) rfl rfl ?_
    refine tr_nil ?_
    refine then_normal ?_
    refine tr_ret ?_
    refine then_ret ?_
    exact ret_two .ret (.inl rfl) rfl () (OT.val (OT.tmp rfl) (congrArg (Value.int _) (congrArg Prod.fst hr).symm)) (OT.val (OT.tmp rfl) (congrArg Value.string (congrArg bs (congrArg Prod.snd hr).symm))) (fun _ _ h => h) trivial (by exact picks_nil)
  · skip
    obtain ⟨b, r, rfl⟩ : ∃ b r, l = b :: r := by
      cases l with
      | nil => simp at c11
      | cons b r => exact ⟨b, r, rfl⟩
    have hat : at' (nums (b :: r)) 0 = (b.toNat : Int) := rfl
    have hbl := b.toNat_lt
    refine tr_skip ?_
    refine then_normal ?_
    refine tr_seq ?_
    refine tr_seq ?_
    -- region 3
    refine tr_env (es_cons (t := 0) (OT.tmp rfl) es_nil) ?_
    refine tr_region ?_
    refine op_pure (pu_move (OT.tmp rfl)) rfl rfl ?_
    refine op_pure (pu_bs_index (OT.tmp rfl) OT.const Tryd.underlying9 (by omega) (by (simp; done))) rfl rfl ?_
    refine tr_nil ?_
    refine then_normal ?_
    refine tr_block ?_
    refine tr_seq ?_
    refine tr_seq ?_
    -- region 4
    refine tr_env (es_cons (t := 0) (OT.tmp rfl) (es_cons (t := 13) (OT.tmp rfl) es_nil)) ?_
    rw [hat]
    refine tr_region ?_
    refine op_pure (pu_eql (OT.tmp rfl) OT.const) rfl rfl ?_
    refine op_pure (pu_assign (OT.tmp rfl)) rfl rfl ?_
    refine tr_nil ?_
    refine then_normal ?_
    refine tr_cond (OT.tmp rfl) (fun c14 => ?_) (fun c14 => ?_)
    · skip
      refine tr_skip ?_
      refine then_normal ?_
      refine tr_cond (OT.tmp rfl) (fun c14 => ?_) (fun c14 => ?_)
      · skip
        refine tr_seq ?_
        -- region 6
        refine tr_env (es_cons (t := 0) (OT.tmp rfl) es_nil) ?_
        have hb : b.toNat = 34 ∨ b.toNat = 92 := (by simp only [decide_eq_true_eq, decide_eq_false_iff_not] at *; omega)
        have hr := escR_some (l := b :: r) (c := b.toNat) (r := r) (if_pos hb)
        apply tr_any (m := 6) (ns := [[(0, none)], [(17, some 0)], [(18, some 1)], [(0, none)], [(20, some 3)], [(19, some 2)]]) (by kernel_rfl) (by kernel_rfl) (Ts := [_, _, _, _, _, _]) rfl
        case hops =>
          refine ⟨?_, ⟨?_, ⟨?_, ⟨?_, ⟨?_, ⟨?_, trivial⟩⟩⟩⟩⟩⟩
          · exact rop_pure rfl (pu_move (OT.tmp rfl))
          · exact rop_pure rfl (pu_bs_index (OT.tmp rfl) OT.const Tryd.underlying9 (by omega) (by (simp; done)))
          · exact rop_pure rfl (pu_convert (OT.tmp rfl) Tryd.underlying5 Tryd.underlying21)
          · exact rop_pure rfl (pu_move (OT.tmp rfl))
          · exact rop_pure rfl (pu_bs_slice_lo (OT.tmp rfl) OT.const Tryd.underlying9 (by omega) (by (simp; omega)))
          · exact rop_pure rfl (pu_assign (OT.tmp rfl))
        case h =>
          refine op_pure (pu_assign (OT.tmp rfl)) rfl rfl ?_
          refine tr_nil ?_
          refine then_normal ?_
          refine tr_ret ?_
          refine block_ret ?_
          refine then_ret ?_
          exact ret_two .ret (.inl rfl) rfl () (OT.val (OT.tmp rfl) (congrArg (Value.int _) ((show IntKind.i32.wrap (b.toNat : Int) = (b.toNat : Int) from (by simp [IntKind.wrap, IntKind.bits, IntKind.signed]; omega)).trans (congrArg Prod.fst hr).symm))) (OT.val (OT.tmp rfl) (congrArg Value.string (congrArg bs (congrArg Prod.snd hr).symm))) (fun _ _ h => h) trivial (by exact picks_nil)
      · skip
        refine tr_seq ?_
        -- region 7
        refine tr_env (es_cons (t := 0) (OT.tmp rfl) (es_cons (t := 13) (OT.tmp rfl) es_nil)) ?_
        refine tr_region ?_
        refine op_pure (pu_eql (OT.tmp rfl) OT.const) rfl rfl ?_
        refine op_pure (pu_assign (OT.tmp rfl)) rfl rfl ?_
        refine tr_nil ?_
        refine then_normal ?_
        refine tr_cond (OT.tmp rfl) (fun c22 => ?_) (fun c22 => ?_)
        · skip
          refine tr_seq ?_
          -- region 8
          refine tr_env (es_cons (t := 0) (OT.tmp rfl) es_nil) ?_
          have hr := escR_some (l := b :: r) (c := 10) (r := r) (by rw [escP_cons, if_neg (by simp only [decide_eq_true_eq, decide_eq_false_iff_not] at *; omega), if_pos (by simp only [decide_eq_true_eq, decide_eq_false_iff_not] at *; omega)])
          apply tr_any (m := 3) (ns := [[(0, none)], [(24, some 0)], []]) (by kernel_rfl) (by kernel_rfl) (Ts := [_, _, _]) rfl
          case hops =>
            refine ⟨?_, ⟨?_, ⟨?_, trivial⟩⟩⟩
            · exact rop_pure rfl (pu_move (OT.tmp rfl))
            · exact rop_pure rfl (pu_bs_slice_lo (OT.tmp rfl) OT.const Tryd.underlying9 (by omega) (by (simp; omega)))
            · exact rop_pure rfl (pu_assign OT.const)
          case h =>
            refine op_pure (pu_assign (OT.tmp rfl)) rfl rfl ?_
            refine tr_nil ?_
            refine then_normal ?_
            refine tr_ret ?_
            refine block_ret ?_
            refine then_ret ?_
            exact ret_two .ret (.inl rfl) rfl () (OT.val (OT.tmp rfl) (congrArg (Value.int _) (congrArg Prod.fst hr).symm)) (OT.val (OT.tmp rfl) (congrArg Value.string (congrArg bs (congrArg Prod.snd hr).symm))) (fun _ _ h => h) trivial (by exact picks_nil)
        · skip
          refine tr_seq ?_
          -- region 9
          refine tr_env (es_cons (t := 0) (OT.tmp rfl) (es_cons (t := 13) (OT.tmp rfl) es_nil)) ?_
          refine tr_region ?_
          refine op_pure (pu_eql (OT.tmp rfl) OT.const) rfl rfl ?_
          refine op_pure (pu_assign (OT.tmp rfl)) rfl rfl ?_
          refine tr_nil ?_
          refine then_normal ?_
          refine tr_cond (OT.tmp rfl) (fun c26 => ?_) (fun c26 => ?_)
          · skip
            refine tr_seq ?_
            -- region 10
            refine tr_env (es_cons (t := 0) (OT.tmp rfl) es_nil) ?_
            have hr := escR_some (l := b :: r) (c := 9) (r := r) (by rw [escP_cons, if_neg (by simp only [decide_eq_true_eq, decide_eq_false_iff_not] at *; omega), if_neg (by simp only [decide_eq_true_eq, decide_eq_false_iff_not] at *; omega), if_pos (by simp only [decide_eq_true_eq, decide_eq_false_iff_not] at *; omega)])
            apply tr_any (m := 3) (ns := [[(0, none)], [(28, some 0)], []]) (by kernel_rfl) (by kernel_rfl) (Ts := [_, _, _]) rfl
            case hops =>
              refine ⟨?_, ⟨?_, ⟨?_, trivial⟩⟩⟩
              · exact rop_pure rfl (pu_move (OT.tmp rfl))
              · exact rop_pure rfl (pu_bs_slice_lo (OT.tmp rfl) OT.const Tryd.underlying9 (by omega) (by (simp; omega)))
              · exact rop_pure rfl (pu_assign OT.const)
            case h =>
              refine op_pure (pu_assign (OT.tmp rfl)) rfl rfl ?_
              refine tr_nil ?_
              refine then_normal ?_
              refine tr_ret ?_
              refine block_ret ?_
              refine then_ret ?_
              exact ret_two .ret (.inl rfl) rfl () (OT.val (OT.tmp rfl) (congrArg (Value.int _) (congrArg Prod.fst hr).symm)) (OT.val (OT.tmp rfl) (congrArg Value.string (congrArg bs (congrArg Prod.snd hr).symm))) (fun _ _ h => h) trivial (by exact picks_nil)
          · skip
            refine tr_skip ?_
            refine block_normal ?_
            refine then_normal ?_
            refine tr_seq ?_
            -- region 11
            refine tr_env (es_cons (t := 0) (OT.tmp rfl) es_nil) ?_
            have h34 : ¬ (b.toNat = 34 ∨ b.toNat = 92) := (by simp only [decide_eq_true_eq, decide_eq_false_iff_not] at *; omega)
            have h110 : ¬ b.toNat = 110 := (by simp only [decide_eq_true_eq, decide_eq_false_iff_not] at *; omega)
            have h116 : ¬ b.toNat = 116 := (by simp only [decide_eq_true_eq, decide_eq_false_iff_not] at *; omega)
            have hcl : (Lib.trimPrefix (b :: r) [117, 123]).length < 4294967281 := by unfold Lib.trimPrefix; split <;> simp at * <;> omega
            refine tr_region ?_
            refine op_pure (pu_move (OT.tmp rfl)) rfl rfl ?_
            refine op_acts (acts_callM (CutPrefix_ct _ _) (mk_in hK hn) (show enters Tryd.prog 44 = true from by decide +kernel) (OTs.cons (OT.tmp rfl) (OTs.cons OT.const OTs.nil)) (List.Perm.refl _)) (List.Perm.refl _) rfl rfl (fun _ _ => ?_)
            refine op_pure (pu_move (OT.tmp rfl)) rfl rfl ?_
            refine op_pure (pu_extract (OT.tmp rfl) rfl) rfl rfl ?_
            refine op_pure (pu_extract (OT.tmp rfl) rfl) rfl rfl ?_
            refine op_pure (pu_assign (OT.tmp rfl)) rfl rfl ?_
            refine op_pure (pu_assign (OT.tmp rfl)) rfl rfl ?_
            refine tr_nil ?_
            refine then_normal ?_
            refine tr_seq ?_
            -- region 12
            refine tr_env (es_cons (t := 4) (OT.tmp rfl) (es_cons (t := 5) (OT.tmp rfl) es_nil)) ?_
            refine tr_region ?_
            refine op_pure (pu_move (OT.tmp rfl)) rfl rfl ?_
            refine op_acts (acts_callM (Cut_ct hV _ _ hcl) (mk_in hK hn) (show enters Tryd.prog 86 = true from by decide +kernel) (OTs.cons (OT.tmp rfl) (OTs.cons OT.const OTs.nil)) (List.Perm.refl _)) (List.Perm.refl _) rfl rfl (fun _ _ => ?_)
            refine op_pure (pu_move (OT.tmp rfl)) rfl rfl ?_
            refine op_pure (pu_extract (OT.tmp rfl) rfl) rfl rfl ?_
            refine op_pure (pu_extract (OT.tmp rfl) rfl) rfl rfl ?_
            refine op_pure (pu_extract (OT.tmp rfl) rfl) rfl rfl ?_
            refine op_pure (pu_assign (OT.tmp rfl)) rfl rfl ?_
            refine op_pure (pu_assign (OT.tmp rfl)) rfl rfl ?_
            refine op_pure (pu_assign (OT.tmp rfl)) rfl rfl ?_
            refine tr_nil ?_
            refine then_normal ?_
            refine tr_seq ?_
            refine tr_seq ?_
            -- region 13
            refine tr_env (es_cons (t := 4) (OT.tmp rfl) (es_cons (t := 5) (OT.tmp rfl) (es_cons (t := 6) (OT.tmp rfl) (es_cons (t := 7) (OT.tmp rfl) es_nil)))) ?_
            refine tr_region ?_
            refine op_pure (pu_move (OT.tmp rfl)) rfl rfl ?_
            refine op_pure (pu_not (OT.tmp rfl)) rfl rfl ?_
            refine op_pure (pu_move (OT.tmp rfl)) rfl rfl ?_
            refine op_gu rfl rfl rfl (OT.gu_mk (OT.tmp rfl)) (fun hg => by (have hg1 := hg.2; (try simp only [decide_eq_true_eq, decide_eq_false_iff_not] at hg1); exact pu_move (by exact OT.tmp rfl))) rfl ?_
            refine op_gu rfl rfl rfl (OT.gu_mk (OT.tmp rfl)) (fun hg => by (have hg1 := hg.2; (try simp only [decide_eq_true_eq, decide_eq_false_iff_not] at hg1); exact pu_not (by exact OT.gu (OT.tmp rfl) hg))) rfl ?_
            refine op_pure (pu_pick_or (OT.tmp rfl) (by exact OT.tmp rfl)) rfl rfl ?_
            refine op_pure (pu_move (OT.tmp rfl)) rfl rfl ?_
            refine op_gu rfl rfl rfl (OT.gu_mk (OT.tmp rfl)) (fun hg => by (have hg1 := hg.2; (try simp only [decide_eq_true_eq, decide_eq_false_iff_not] at hg1); exact pu_move (by exact OT.tmp rfl))) rfl ?_
            refine op_gu rfl rfl rfl (OT.gu_mk (OT.tmp rfl)) (fun hg => by (have hg1 := hg.2; (try simp only [decide_eq_true_eq, decide_eq_false_iff_not] at hg1); exact pu_len_bs Tryd.underlying9 (by exact OT.gu (OT.tmp rfl) hg))) rfl ?_
            refine op_gu rfl rfl rfl (OT.gu_mk (OT.tmp rfl)) (fun hg => by (have hg1 := hg.2; (try simp only [decide_eq_true_eq, decide_eq_false_iff_not] at hg1); exact pu_lss (by exact OT.gu (OT.tmp rfl) hg) OT.const)) rfl ?_
            refine op_pure (pu_pick_or (OT.tmp rfl) (by exact OT.tmp rfl)) rfl rfl ?_
            refine op_pure (pu_move (OT.tmp rfl)) rfl rfl ?_
            refine op_gu rfl rfl rfl (OT.gu_mk (OT.tmp rfl)) (fun hg => by (have hg1 := hg.2; (try simp only [decide_eq_true_eq, decide_eq_false_iff_not] at hg1); exact pu_move (by exact OT.tmp rfl))) rfl ?_
            refine op_gu rfl rfl rfl (OT.gu_mk (OT.tmp rfl)) (fun hg => by (have hg1 := hg.2; (try simp only [decide_eq_true_eq, decide_eq_false_iff_not] at hg1); exact pu_len_bs Tryd.underlying9 (by exact OT.gu (OT.tmp rfl) hg))) rfl ?_
            refine op_gu rfl rfl rfl (OT.gu_mk (OT.tmp rfl)) (fun hg => by (have hg1 := hg.2; (try simp only [decide_eq_true_eq, decide_eq_false_iff_not] at hg1); exact pu_gtr (by exact OT.gu (OT.tmp rfl) hg) OT.const)) rfl ?_
            refine op_pure (pu_pick_or (OT.tmp rfl) (by exact OT.tmp rfl)) rfl rfl ?_
            refine op_pure (pu_move (OT.tmp rfl)) rfl rfl ?_
            refine op_gu rfl rfl rfl (OT.gu_mk (OT.tmp rfl)) (fun hg => by (have hg1 := hg.2; (try simp only [decide_eq_true_eq, decide_eq_false_iff_not] at hg1); exact pu_move (by exact OT.tmp rfl))) rfl ?_
            refine op_gu_acts () rfl rfl rfl (OT.gu_mk (OT.tmp rfl)) (fun hg => by (have hg1 := hg.2; (try simp only [decide_eq_true_eq, decide_eq_false_iff_not] at hg1); exact acts_callM (hasAny_fn (braces (b :: r)).1 (by simp only [Bool.or_eq_false_iff, decide_eq_false_iff_not] at hg1; have h9 := hg1.2; show (Lib.cut (Lib.trimPrefix (b :: r) [117, 123]) [125]).1.length ≤ 6; omega)) (mk_in hK hn) (show enters Tryd.prog 87 = true from by decide +kernel) (OTs.cons (by exact OT.gu (OT.tmp rfl) hg) (OTs.cons OT.const OTs.nil)) (List.Perm.refl _))) rfl (fun _ _ => ?_)
            refine op_pure (pu_pick_or (OT.tmp rfl) (by exact OT.tmp rfl)) rfl rfl ?_
            refine tr_nil ?_
            refine then_normal ?_
            refine tr_cond (OT.tmp rfl) (fun c60 => ?_) (fun c60 => ?_)
            · skip
              have hr := escR_none (l := b :: r) (by rw [escP_cons, if_neg h34, if_neg h110, if_neg h116]; exact escU_bad c60)
              refine tr_seq ?_
              -- region 14
              refine tr_env es_nil ?_
              refine tr_region ?_
              refine op_pure (pu_assign OT.const) rfl rfl ?_
              refine op_pure (pu_assign OT.const) rfl rfl ?_
              refine tr_nil ?_
              refine then_normal ?_
              refine tr_ret ?_
              refine then_ret ?_
              exact ret_two .ret (.inl rfl) rfl () (OT.val (OT.tmp rfl) (congrArg (Value.int _) (congrArg Prod.fst hr).symm)) (OT.val (OT.tmp rfl) (congrArg Value.string (congrArg bs (congrArg Prod.snd hr).symm))) (fun _ _ h => h) trivial (by exact picks_nil)
            · skip
              have hg := escU_good c60
              have hgl1 := hg.2.2.1
              have hgl6 := hg.2.2.2
              have hue := escU_end hg
              have hvr := valid_rune (hex6 hgl6)
              refine tr_skip ?_
              refine then_normal ?_
              refine tr_seq ?_
              -- region 15
              refine tr_env (es_cons (t := 4) (OT.tmp rfl) (es_cons (t := 6) (OT.tmp rfl) es_nil)) ?_
              refine tr_region ?_
              refine op_pure (pu_move (OT.tmp rfl)) rfl rfl ?_
              refine op_acts (acts_callM (ParseU_fn (braces (b :: r)).1 hV hgl1 hgl6) (mk_in hK hn) (show enters Tryd.prog 88 = true from by decide +kernel) (OTs.cons (OT.tmp rfl) (OTs.cons OT.const (OTs.cons OT.const OTs.nil))) (List.Perm.refl _)) (List.Perm.refl _) rfl rfl (fun _ _ => ?_)
              refine op_pure (pu_move (OT.tmp rfl)) rfl rfl ?_
              refine op_pure (pu_extract (OT.tmp rfl) rfl) rfl rfl ?_
              refine op_pure (pu_extract (OT.tmp rfl) rfl) rfl rfl ?_
              refine op_pure (pu_assign (OT.tmp rfl)) rfl rfl ?_
              refine op_pure (pu_assign (OT.tmp rfl)) rfl rfl ?_
              refine tr_nil ?_
              refine then_normal ?_
              refine tr_seq ?_
              refine tr_seq ?_
              -- region 16
              refine tr_env (es_cons (t := 6) (OT.tmp rfl) (es_cons (t := 8) (OT.tmp rfl) (es_cons (t := 9) (OT.tmp rfl) es_nil))) ?_
              refine tr_region ?_
              refine op_pure (pu_move (OT.tmp rfl)) rfl rfl ?_
              refine op_pure (pu_err_neq (OT.tmp rfl) Tryd.underlying70) rfl rfl ?_
              refine op_pure (pu_move (OT.tmp rfl)) rfl rfl ?_
              refine op_gu rfl rfl rfl (OT.gu_mk (OT.tmp rfl)) (fun hg => by (have hg1 := hg.2; (try simp only [decide_eq_true_eq, decide_eq_false_iff_not] at hg1); exact pu_move (by exact OT.tmp rfl))) rfl ?_
              refine op_gu rfl rfl rfl (OT.gu_mk (OT.tmp rfl)) (fun hg => by (have hg1 := hg.2; (try simp only [decide_eq_true_eq, decide_eq_false_iff_not] at hg1); exact pu_convert (by exact OT.gu (OT.tmp rfl) hg) Tryd.underlying64 Tryd.underlying21)) rfl ?_
              refine op_gu_acts () rfl rfl rfl (OT.gu_mk (OT.tmp rfl)) (fun hg => by (have hg1 := hg.2; (try simp only [decide_eq_true_eq, decide_eq_false_iff_not] at hg1); exact acts_callM (ValidRune_ct _) (mk_in hK hn) (show enters Tryd.prog 89 = true from by decide +kernel) (OTs.cons (by exact OT.gu (OT.tmp rfl) hg) OTs.nil) (List.Perm.refl _))) rfl (fun _ _ => ?_)
              refine op_gu rfl rfl rfl (OT.gu_mk (OT.tmp rfl)) (fun hg => by (have hg1 := hg.2; (try simp only [decide_eq_true_eq, decide_eq_false_iff_not] at hg1); exact pu_not (by exact OT.gu (OT.tmp rfl) hg))) rfl ?_
              refine op_pure (pu_pick_or (OT.tmp rfl) (by exact OT.tmp rfl)) rfl rfl ?_
              refine tr_nil ?_
              refine then_normal ?_
              refine tr_cond (OT.tmp rfl) (fun c73 => ?_) (fun c73 => ?_)
              · skip
                have hr := escR_none (l := b :: r) (by rw [escP_cons, if_neg h34, if_neg h110, if_neg h116]; exact (by rw [hue, if_neg]; rw [← hvr]; show ¬ ((hexOk (braces (b :: r)).1 && Lib.validRune (IntKind.i32.wrap (hexN (braces (b :: r)).1 : Int))) = true); simp only [Bool.or_eq_true, Bool.not_eq_true'] at c73; simp only [Bool.and_eq_true, not_and, Bool.not_eq_true]; rcases c73 with h | h; exact (fun e => absurd (h.symm.trans e) (by simp)); exact (fun _ => h)))
                refine tr_seq ?_
                -- region 17
                refine tr_env es_nil ?_
                refine tr_region ?_
                refine op_pure (pu_assign OT.const) rfl rfl ?_
                refine op_pure (pu_assign OT.const) rfl rfl ?_
                refine tr_nil ?_
                refine then_normal ?_
                refine tr_ret ?_
                refine then_ret ?_
                exact ret_two .ret (.inl rfl) rfl () (OT.val (OT.tmp rfl) (congrArg (Value.int _) (congrArg Prod.fst hr).symm)) (OT.val (OT.tmp rfl) (congrArg Value.string (congrArg bs (congrArg Prod.snd hr).symm))) (fun _ _ h => h) trivial (by exact picks_nil)
              · skip
                have hr := escR_some (l := b :: r) (c := hexOf (braces (b :: r)).1) (r := (braces (b :: r)).2.1) (by rw [escP_cons, if_neg h34, if_neg h110, if_neg h116, hue, if_pos]; rw [← hvr]; show (hexOk (braces (b :: r)).1 && Lib.validRune (IntKind.i32.wrap (hexN (braces (b :: r)).1 : Int))) = true; simp only [Bool.or_eq_false_iff, Bool.not_eq_false'] at c73; rw [c73.1, c73.2]; rfl)
                refine tr_skip ?_
                refine then_normal ?_
                refine tr_seq ?_
                -- region 18
                refine tr_env (es_cons (t := 6) (OT.tmp rfl) (es_cons (t := 8) (OT.tmp rfl) es_nil)) ?_
                refine tr_region ?_
                refine op_pure (pu_move (OT.tmp rfl)) rfl rfl ?_
                refine op_pure (pu_convert (OT.tmp rfl) Tryd.underlying64 Tryd.underlying21) rfl rfl ?_
                refine op_pure (pu_move (OT.tmp rfl)) rfl rfl ?_
                refine op_pure (pu_assign (OT.tmp rfl)) rfl rfl ?_
                refine op_pure (pu_assign (OT.tmp rfl)) rfl rfl ?_
                refine tr_nil ?_
                refine then_normal ?_
                refine tr_ret ?_
                exact ret_two .ret (.inl rfl) rfl () (OT.val (OT.tmp rfl) (congrArg (Value.int _) ((show IntKind.i32.wrap (hexN (braces (b :: r)).1 : Int) = ((hexOf (braces (b :: r)).1 : Nat) : Int) from (by have h9 := hex6 hg.2.2.2; show IntKind.i32.wrap ((hexOf (braces (b :: r)).1 : Nat) : Int) = _; simp [IntKind.wrap, IntKind.bits, IntKind.signed]; omega)).trans (congrArg Prod.fst hr).symm))) (OT.val (OT.tmp rfl) (congrArg Value.string (congrArg bs (congrArg Prod.snd hr).symm))) (fun _ _ h => h) trivial (by exact picks_nil)
    · skip
      -- region 5
      refine tr_env (es_cons (t := 0) (OT.tmp rfl) (es_cons (t := 13) (OT.tmp rfl) es_nil)) ?_
      refine tr_region ?_
      refine op_pure (pu_eql (OT.tmp rfl) OT.const) rfl rfl ?_
      refine op_pure (pu_assign (OT.tmp rfl)) rfl rfl ?_
      refine tr_nil ?_
      refine then_normal ?_
      refine tr_cond (OT.tmp rfl) (fun c14 => ?_) (fun c14 => ?_)
      · skip
        refine tr_seq ?_
        -- region 6
        refine tr_env (es_cons (t := 0) (OT.tmp rfl) es_nil) ?_
        have hb : b.toNat = 34 ∨ b.toNat = 92 := (by simp only [decide_eq_true_eq, decide_eq_false_iff_not] at *; omega)
        have hr := escR_some (l := b :: r) (c := b.toNat) (r := r) (if_pos hb)
        apply tr_any (m := 6) (ns := [[(0, none)], [(17, some 0)], [(18, some 1)], [(0, none)], [(20, some 3)], [(19, some 2)]]) (by kernel_rfl) (by kernel_rfl) (Ts := [_, _, _, _, _, _]) rfl
        case hops =>
          refine ⟨?_, ⟨?_, ⟨?_, ⟨?_, ⟨?_, ⟨?_, trivial⟩⟩⟩⟩⟩⟩
          · exact rop_pure rfl (pu_move (OT.tmp rfl))
          · exact rop_pure rfl (pu_bs_index (OT.tmp rfl) OT.const Tryd.underlying9 (by omega) (by (simp; done)))
          · exact rop_pure rfl (pu_convert (OT.tmp rfl) Tryd.underlying5 Tryd.underlying21)
          · exact rop_pure rfl (pu_move (OT.tmp rfl))
          · exact rop_pure rfl (pu_bs_slice_lo (OT.tmp rfl) OT.const Tryd.underlying9 (by omega) (by (simp; omega)))
          · exact rop_pure rfl (pu_assign (OT.tmp rfl))
        case h =>
          refine op_pure (pu_assign (OT.tmp rfl)) rfl rfl ?_
          refine tr_nil ?_
          refine then_normal ?_
          refine tr_ret ?_
          refine block_ret ?_
          refine then_ret ?_
          exact ret_two .ret (.inl rfl) rfl () (OT.val (OT.tmp rfl) (congrArg (Value.int _) ((show IntKind.i32.wrap (b.toNat : Int) = (b.toNat : Int) from (by simp [IntKind.wrap, IntKind.bits, IntKind.signed]; omega)).trans (congrArg Prod.fst hr).symm))) (OT.val (OT.tmp rfl) (congrArg Value.string (congrArg bs (congrArg Prod.snd hr).symm))) (fun _ _ h => h) trivial (by exact picks_nil)
      · skip
        refine tr_seq ?_
        -- region 7
        refine tr_env (es_cons (t := 0) (OT.tmp rfl) (es_cons (t := 13) (OT.tmp rfl) es_nil)) ?_
        refine tr_region ?_
        refine op_pure (pu_eql (OT.tmp rfl) OT.const) rfl rfl ?_
        refine op_pure (pu_assign (OT.tmp rfl)) rfl rfl ?_
        refine tr_nil ?_
        refine then_normal ?_
        refine tr_cond (OT.tmp rfl) (fun c22 => ?_) (fun c22 => ?_)
        · skip
          refine tr_seq ?_
          -- region 8
          refine tr_env (es_cons (t := 0) (OT.tmp rfl) es_nil) ?_
          have hr := escR_some (l := b :: r) (c := 10) (r := r) (by rw [escP_cons, if_neg (by simp only [decide_eq_true_eq, decide_eq_false_iff_not] at *; omega), if_pos (by simp only [decide_eq_true_eq, decide_eq_false_iff_not] at *; omega)])
          apply tr_any (m := 3) (ns := [[(0, none)], [(24, some 0)], []]) (by kernel_rfl) (by kernel_rfl) (Ts := [_, _, _]) rfl
          case hops =>
            refine ⟨?_, ⟨?_, ⟨?_, trivial⟩⟩⟩
            · exact rop_pure rfl (pu_move (OT.tmp rfl))
            · exact rop_pure rfl (pu_bs_slice_lo (OT.tmp rfl) OT.const Tryd.underlying9 (by omega) (by (simp; omega)))
            · exact rop_pure rfl (pu_assign OT.const)
          case h =>
            refine op_pure (pu_assign (OT.tmp rfl)) rfl rfl ?_
            refine tr_nil ?_
            refine then_normal ?_
            refine tr_ret ?_
            refine block_ret ?_
            refine then_ret ?_
            exact ret_two .ret (.inl rfl) rfl () (OT.val (OT.tmp rfl) (congrArg (Value.int _) (congrArg Prod.fst hr).symm)) (OT.val (OT.tmp rfl) (congrArg Value.string (congrArg bs (congrArg Prod.snd hr).symm))) (fun _ _ h => h) trivial (by exact picks_nil)
        · skip
          refine tr_seq ?_
          -- region 9
          refine tr_env (es_cons (t := 0) (OT.tmp rfl) (es_cons (t := 13) (OT.tmp rfl) es_nil)) ?_
          refine tr_region ?_
          refine op_pure (pu_eql (OT.tmp rfl) OT.const) rfl rfl ?_
          refine op_pure (pu_assign (OT.tmp rfl)) rfl rfl ?_
          refine tr_nil ?_
          refine then_normal ?_
          refine tr_cond (OT.tmp rfl) (fun c26 => ?_) (fun c26 => ?_)
          · skip
            refine tr_seq ?_
            -- region 10
            refine tr_env (es_cons (t := 0) (OT.tmp rfl) es_nil) ?_
            have hr := escR_some (l := b :: r) (c := 9) (r := r) (by rw [escP_cons, if_neg (by simp only [decide_eq_true_eq, decide_eq_false_iff_not] at *; omega), if_neg (by simp only [decide_eq_true_eq, decide_eq_false_iff_not] at *; omega), if_pos (by simp only [decide_eq_true_eq, decide_eq_false_iff_not] at *; omega)])
            apply tr_any (m := 3) (ns := [[(0, none)], [(28, some 0)], []]) (by kernel_rfl) (by kernel_rfl) (Ts := [_, _, _]) rfl
            case hops =>
              refine ⟨?_, ⟨?_, ⟨?_, trivial⟩⟩⟩
              · exact rop_pure rfl (pu_move (OT.tmp rfl))
              · exact rop_pure rfl (pu_bs_slice_lo (OT.tmp rfl) OT.const Tryd.underlying9 (by omega) (by (simp; omega)))
              · exact rop_pure rfl (pu_assign OT.const)
            case h =>
              refine op_pure (pu_assign (OT.tmp rfl)) rfl rfl ?_
              refine tr_nil ?_
              refine then_normal ?_
              refine tr_ret ?_
              refine block_ret ?_
              refine then_ret ?_
              exact ret_two .ret (.inl rfl) rfl () (OT.val (OT.tmp rfl) (congrArg (Value.int _) (congrArg Prod.fst hr).symm)) (OT.val (OT.tmp rfl) (congrArg Value.string (congrArg bs (congrArg Prod.snd hr).symm))) (fun _ _ h => h) trivial (by exact picks_nil)
          · skip
            refine tr_skip ?_
            refine block_normal ?_
            refine then_normal ?_
            refine tr_seq ?_
            -- region 11
            refine tr_env (es_cons (t := 0) (OT.tmp rfl) es_nil) ?_
            have h34 : ¬ (b.toNat = 34 ∨ b.toNat = 92) := (by simp only [decide_eq_true_eq, decide_eq_false_iff_not] at *; omega)
            have h110 : ¬ b.toNat = 110 := (by simp only [decide_eq_true_eq, decide_eq_false_iff_not] at *; omega)
            have h116 : ¬ b.toNat = 116 := (by simp only [decide_eq_true_eq, decide_eq_false_iff_not] at *; omega)
            have hcl : (Lib.trimPrefix (b :: r) [117, 123]).length < 4294967281 := by unfold Lib.trimPrefix; split <;> simp at * <;> omega
            refine tr_region ?_
            refine op_pure (pu_move (OT.tmp rfl)) rfl rfl ?_
            refine op_acts (acts_callM (CutPrefix_ct _ _) (mk_in hK hn) (show enters Tryd.prog 44 = true from by decide +kernel) (OTs.cons (OT.tmp rfl) (OTs.cons OT.const OTs.nil)) (List.Perm.refl _)) (List.Perm.refl _) rfl rfl (fun _ _ => ?_)
            refine op_pure (pu_move (OT.tmp rfl)) rfl rfl ?_
            refine op_pure (pu_extract (OT.tmp rfl) rfl) rfl rfl ?_
            refine op_pure (pu_extract (OT.tmp rfl) rfl) rfl rfl ?_
            refine op_pure (pu_assign (OT.tmp rfl)) rfl rfl ?_
            refine op_pure (pu_assign (OT.tmp rfl)) rfl rfl ?_
            refine tr_nil ?_
            refine then_normal ?_
            refine tr_seq ?_
            -- region 12
            refine tr_env (es_cons (t := 4) (OT.tmp rfl) (es_cons (t := 5) (OT.tmp rfl) es_nil)) ?_
            refine tr_region ?_
            refine op_pure (pu_move (OT.tmp rfl)) rfl rfl ?_
            refine op_acts (acts_callM (Cut_ct hV _ _ hcl) (mk_in hK hn) (show enters Tryd.prog 86 = true from by decide +kernel) (OTs.cons (OT.tmp rfl) (OTs.cons OT.const OTs.nil)) (List.Perm.refl _)) (List.Perm.refl _) rfl rfl (fun _ _ => ?_)
            refine op_pure (pu_move (OT.tmp rfl)) rfl rfl ?_
            refine op_pure (pu_extract (OT.tmp rfl) rfl) rfl rfl ?_
            refine op_pure (pu_extract (OT.tmp rfl) rfl) rfl rfl ?_
            refine op_pure (pu_extract (OT.tmp rfl) rfl) rfl rfl ?_
            refine op_pure (pu_assign (OT.tmp rfl)) rfl rfl ?_
            refine op_pure (pu_assign (OT.tmp rfl)) rfl rfl ?_
            refine op_pure (pu_assign (OT.tmp rfl)) rfl rfl ?_
            refine tr_nil ?_
            refine then_normal ?_
            refine tr_seq ?_
            refine tr_seq ?_
            -- region 13
            refine tr_env (es_cons (t := 4) (OT.tmp rfl) (es_cons (t := 5) (OT.tmp rfl) (es_cons (t := 6) (OT.tmp rfl) (es_cons (t := 7) (OT.tmp rfl) es_nil)))) ?_
            refine tr_region ?_
            refine op_pure (pu_move (OT.tmp rfl)) rfl rfl ?_
            refine op_pure (pu_not (OT.tmp rfl)) rfl rfl ?_
            refine op_pure (pu_move (OT.tmp rfl)) rfl rfl ?_
            refine op_gu rfl rfl rfl (OT.gu_mk (OT.tmp rfl)) (fun hg => by (have hg1 := hg.2; (try simp only [decide_eq_true_eq, decide_eq_false_iff_not] at hg1); exact pu_move (by exact OT.tmp rfl))) rfl ?_
            refine op_gu rfl rfl rfl (OT.gu_mk (OT.tmp rfl)) (fun hg => by (have hg1 := hg.2; (try simp only [decide_eq_true_eq, decide_eq_false_iff_not] at hg1); exact pu_not (by exact OT.gu (OT.tmp rfl) hg))) rfl ?_
            refine op_pure (pu_pick_or (OT.tmp rfl) (by exact OT.tmp rfl)) rfl rfl ?_
            refine op_pure (pu_move (OT.tmp rfl)) rfl rfl ?_
            refine op_gu rfl rfl rfl (OT.gu_mk (OT.tmp rfl)) (fun hg => by (have hg1 := hg.2; (try simp only [decide_eq_true_eq, decide_eq_false_iff_not] at hg1); exact pu_move (by exact OT.tmp rfl))) rfl ?_
            refine op_gu rfl rfl rfl (OT.gu_mk (OT.tmp rfl)) (fun hg => by (have hg1 := hg.2; (try simp only [decide_eq_true_eq, decide_eq_false_iff_not] at hg1); exact pu_len_bs Tryd.underlying9 (by exact OT.gu (OT.tmp rfl) hg))) rfl ?_
            refine op_gu rfl rfl rfl (OT.gu_mk (OT.tmp rfl)) (fun hg => by (have hg1 := hg.2; (try simp only [decide_eq_true_eq, decide_eq_false_iff_not] at hg1); exact pu_lss (by exact OT.gu (OT.tmp rfl) hg) OT.const)) rfl ?_
            refine op_pure (pu_pick_or (OT.tmp rfl) (by exact OT.tmp rfl)) rfl rfl ?_
            refine op_pure (pu_move (OT.tmp rfl)) rfl rfl ?_
            refine op_gu rfl rfl rfl (OT.gu_mk (OT.tmp rfl)) (fun hg => by (have hg1 := hg.2; (try simp only [decide_eq_true_eq, decide_eq_false_iff_not] at hg1); exact pu_move (by exact OT.tmp rfl))) rfl ?_
            refine op_gu rfl rfl rfl (OT.gu_mk (OT.tmp rfl)) (fun hg => by (have hg1 := hg.2; (try simp only [decide_eq_true_eq, decide_eq_false_iff_not] at hg1); exact pu_len_bs Tryd.underlying9 (by exact OT.gu (OT.tmp rfl) hg))) rfl ?_
            refine op_gu rfl rfl rfl (OT.gu_mk (OT.tmp rfl)) (fun hg => by (have hg1 := hg.2; (try simp only [decide_eq_true_eq, decide_eq_false_iff_not] at hg1); exact pu_gtr (by exact OT.gu (OT.tmp rfl) hg) OT.const)) rfl ?_
            refine op_pure (pu_pick_or (OT.tmp rfl) (by exact OT.tmp rfl)) rfl rfl ?_
            refine op_pure (pu_move (OT.tmp rfl)) rfl rfl ?_
            refine op_gu rfl rfl rfl (OT.gu_mk (OT.tmp rfl)) (fun hg => by (have hg1 := hg.2; (try simp only [decide_eq_true_eq, decide_eq_false_iff_not] at hg1); exact pu_move (by exact OT.tmp rfl))) rfl ?_
            refine op_gu_acts () rfl rfl rfl (OT.gu_mk (OT.tmp rfl)) (fun hg => by (have hg1 := hg.2; (try simp only [decide_eq_true_eq, decide_eq_false_iff_not] at hg1); exact acts_callM (hasAny_fn (braces (b :: r)).1 (by simp only [Bool.or_eq_false_iff, decide_eq_false_iff_not] at hg1; have h9 := hg1.2; show (Lib.cut (Lib.trimPrefix (b :: r) [117, 123]) [125]).1.length ≤ 6; omega)) (mk_in hK hn) (show enters Tryd.prog 87 = true from by decide +kernel) (OTs.cons (by exact OT.gu (OT.tmp rfl) hg) (OTs.cons OT.const OTs.nil)) (List.Perm.refl _))) rfl (fun _ _ => ?_)
            refine op_pure (pu_pick_or (OT.tmp rfl) (by exact OT.tmp rfl)) rfl rfl ?_
            refine tr_nil ?_
            refine then_normal ?_
            refine tr_cond (OT.tmp rfl) (fun c60 => ?_) (fun c60 => ?_)
            · skip
              have hr := escR_none (l := b :: r) (by rw [escP_cons, if_neg h34, if_neg h110, if_neg h116]; exact escU_bad c60)
              refine tr_seq ?_
              -- region 14
              refine tr_env es_nil ?_
              refine tr_region ?_
              refine op_pure (pu_assign OT.const) rfl rfl ?_
              refine op_pure (pu_assign OT.const) rfl rfl ?_
              refine tr_nil ?_
              refine then_normal ?_
              refine tr_ret ?_
              refine then_ret ?_
              exact ret_two .ret (.inl rfl) rfl () (OT.val (OT.tmp rfl) (congrArg (Value.int _) (congrArg Prod.fst hr).symm)) (OT.val (OT.tmp rfl) (congrArg Value.string (congrArg bs (congrArg Prod.snd hr).symm))) (fun _ _ h => h) trivial (by exact picks_nil)
            · skip
              have hg := escU_good c60
              have hgl1 := hg.2.2.1
              have hgl6 := hg.2.2.2
              have hue := escU_end hg
              have hvr := valid_rune (hex6 hgl6)
              refine tr_skip ?_
              refine then_normal ?_
              refine tr_seq ?_
              -- region 15
              refine tr_env (es_cons (t := 4) (OT.tmp rfl) (es_cons (t := 6) (OT.tmp rfl) es_nil)) ?_
              refine tr_region ?_
              refine op_pure (pu_move (OT.tmp rfl)) rfl rfl ?_
              refine op_acts (acts_callM (ParseU_fn (braces (b :: r)).1 hV hgl1 hgl6) (mk_in hK hn) (show enters Tryd.prog 88 = true from by decide +kernel) (OTs.cons (OT.tmp rfl) (OTs.cons OT.const (OTs.cons OT.const OTs.nil))) (List.Perm.refl _)) (List.Perm.refl _) rfl rfl (fun _ _ => ?_)
              refine op_pure (pu_move (OT.tmp rfl)) rfl rfl ?_
              refine op_pure (pu_extract (OT.tmp rfl) rfl) rfl rfl ?_
              refine op_pure (pu_extract (OT.tmp rfl) rfl) rfl rfl ?_
              refine op_pure (pu_assign (OT.tmp rfl)) rfl rfl ?_
              refine op_pure (pu_assign (OT.tmp rfl)) rfl rfl ?_
              refine tr_nil ?_
              refine then_normal ?_
              refine tr_seq ?_
              refine tr_seq ?_
              -- region 16
              refine tr_env (es_cons (t := 6) (OT.tmp rfl) (es_cons (t := 8) (OT.tmp rfl) (es_cons (t := 9) (OT.tmp rfl) es_nil))) ?_
              refine tr_region ?_
              refine op_pure (pu_move (OT.tmp rfl)) rfl rfl ?_
              refine op_pure (pu_err_neq (OT.tmp rfl) Tryd.underlying70) rfl rfl ?_
              refine op_pure (pu_move (OT.tmp rfl)) rfl rfl ?_
              refine op_gu rfl rfl rfl (OT.gu_mk (OT.tmp rfl)) (fun hg => by (have hg1 := hg.2; (try simp only [decide_eq_true_eq, decide_eq_false_iff_not] at hg1); exact pu_move (by exact OT.tmp rfl))) rfl ?_
              refine op_gu rfl rfl rfl (OT.gu_mk (OT.tmp rfl)) (fun hg => by (have hg1 := hg.2; (try simp only [decide_eq_true_eq, decide_eq_false_iff_not] at hg1); exact pu_convert (by exact OT.gu (OT.tmp rfl) hg) Tryd.underlying64 Tryd.underlying21)) rfl ?_
              refine op_gu_acts () rfl rfl rfl (OT.gu_mk (OT.tmp rfl)) (fun hg => by (have hg1 := hg.2; (try simp only [decide_eq_true_eq, decide_eq_false_iff_not] at hg1); exact acts_callM (ValidRune_ct _) (mk_in hK hn) (show enters Tryd.prog 89 = true from by decide +kernel) (OTs.cons (by exact OT.gu (OT.tmp rfl) hg) OTs.nil) (List.Perm.refl _))) rfl (fun _ _ => ?_)
              refine op_gu rfl rfl rfl (OT.gu_mk (OT.tmp rfl)) (fun hg => by (have hg1 := hg.2; (try simp only [decide_eq_true_eq, decide_eq_false_iff_not] at hg1); exact pu_not (by exact OT.gu (OT.tmp rfl) hg))) rfl ?_
              refine op_pure (pu_pick_or (OT.tmp rfl) (by exact OT.tmp rfl)) rfl rfl ?_
              refine tr_nil ?_
              refine then_normal ?_
              refine tr_cond (OT.tmp rfl) (fun c73 => ?_) (fun c73 => ?_)
              · skip
                have hr := escR_none (l := b :: r) (by rw [escP_cons, if_neg h34, if_neg h110, if_neg h116]; exact (by rw [hue, if_neg]; rw [← hvr]; show ¬ ((hexOk (braces (b :: r)).1 && Lib.validRune (IntKind.i32.wrap (hexN (braces (b :: r)).1 : Int))) = true); simp only [Bool.or_eq_true, Bool.not_eq_true'] at c73; simp only [Bool.and_eq_true, not_and, Bool.not_eq_true]; rcases c73 with h | h; exact (fun e => absurd (h.symm.trans e) (by simp)); exact (fun _ => h)))
                refine tr_seq ?_
                -- region 17
                refine tr_env es_nil ?_
                refine tr_region ?_
                refine op_pure (pu_assign OT.const) rfl rfl ?_
                refine op_pure (pu_assign OT.const) rfl rfl ?_
                refine tr_nil ?_
                refine then_normal ?_
                refine tr_ret ?_
                refine then_ret ?_
                exact ret_two .ret (.inl rfl) rfl () (OT.val (OT.tmp rfl) (congrArg (Value.int _) (congrArg Prod.fst hr).symm)) (OT.val (OT.tmp rfl) (congrArg Value.string (congrArg bs (congrArg Prod.snd hr).symm))) (fun _ _ h => h) trivial (by exact picks_nil)
              · skip
                have hr := escR_some (l := b :: r) (c := hexOf (braces (b :: r)).1) (r := (braces (b :: r)).2.1) (by rw [escP_cons, if_neg h34, if_neg h110, if_neg h116, hue, if_pos]; rw [← hvr]; show (hexOk (braces (b :: r)).1 && Lib.validRune (IntKind.i32.wrap (hexN (braces (b :: r)).1 : Int))) = true; simp only [Bool.or_eq_false_iff, Bool.not_eq_false'] at c73; rw [c73.1, c73.2]; rfl)
                refine tr_skip ?_
                refine then_normal ?_
                refine tr_seq ?_
                -- region 18
                refine tr_env (es_cons (t := 6) (OT.tmp rfl) (es_cons (t := 8) (OT.tmp rfl) es_nil)) ?_
                refine tr_region ?_
                refine op_pure (pu_move (OT.tmp rfl)) rfl rfl ?_
                refine op_pure (pu_convert (OT.tmp rfl) Tryd.underlying64 Tryd.underlying21) rfl rfl ?_
                refine op_pure (pu_move (OT.tmp rfl)) rfl rfl ?_
                refine op_pure (pu_assign (OT.tmp rfl)) rfl rfl ?_
                refine op_pure (pu_assign (OT.tmp rfl)) rfl rfl ?_
                refine tr_nil ?_
                refine then_normal ?_
                refine tr_ret ?_
                exact ret_two .ret (.inl rfl) rfl () (OT.val (OT.tmp rfl) (congrArg (Value.int _) ((show IntKind.i32.wrap (hexN (braces (b :: r)).1 : Int) = ((hexOf (braces (b :: r)).1 : Nat) : Int) from (by have h9 := hex6 hg.2.2.2; show IntKind.i32.wrap ((hexOf (braces (b :: r)).1 : Nat) : Int) = _; simp [IntKind.wrap, IntKind.bits, IntKind.signed]; omega)).trans (congrArg Prod.fst hr).symm))) (OT.val (OT.tmp rfl) (congrArg Value.string (congrArg bs (congrArg Prod.snd hr).symm))) (fun _ _ h => h) trivial (by exact picks_nil)
end Go.Proofs.YtdlendioamiagaaDoor
/- Values of properties, plain: a text between its quotes, as the program reads it. -/
namespace Go.Vl
open Go Go.Gw Go.Lib
set_option linter.unusedVariables false
set_option linter.unusedSimpArgs false
theorem escU_some {l r : List UInt8} {c : Nat} (h : escU l = some (c, r)) : isRune (c : Int) ∧ r.length ≤ l.length := by
  unfold escU at h
  split at h
  · rename_i hc
    cases h
    simp only [Bool.and_eq_true] at hc
    refine ⟨?_, ?_⟩
    · have := hc.2
      unfold isRuneB at this
      have := of_decide_eq_true this
      unfold isRune; omega
    · have h1 : (trimPrefix l [117, 123]).length ≤ l.length := by unfold trimPrefix; split <;> simp
      have h2 : ∀ s p : List UInt8, (cut s p).2.1.length ≤ s.length := fun s p => by unfold cut; split <;> simp
      exact Nat.le_trans (h2 _ _) h1
  · cases h
theorem escP_some {l r : List UInt8} {c : Nat} (h : escP l = some (c, r)) : isRune (c : Int) ∧ r.length ≤ l.length := by
  cases l with
  | nil => cases h
  | cons b l =>
    have hb := b.toNat_lt
    rw [escP_cons] at h
    split at h
    · cases h; exact ⟨by unfold isRune; omega, by simp⟩
    · split at h
      · cases h; exact ⟨by unfold isRune; omega, by simp⟩
      · split at h
        · cases h; exact ⟨by unfold isRune; omega, by simp⟩
        · exact escU_some h
theorem escR_ge {l : List UInt8} (h : ¬ (escR l).1 < 0) : ∃ c r, escP l = some (c, r) := by
  unfold escR at h
  cases e : escP l with
  | none => rw [e] at h; exact absurd (by decide) h
  | some p => exact ⟨p.1, p.2, rfl⟩
theorem escR_lt {l : List UInt8} (h : (escR l).1 < 0) : escP l = none := by
  cases e : escP l with
  | none => rfl
  | some p =>
    exfalso
    unfold escR at h
    rw [e] at h
    have : ((p.1 : Nat) : Int) < 0 := h
    omega
/-- A rune that may not stand there as itself. -/
def badT (l : List UInt8) : Bool := decide ((rune l).1 = 34) || decide ((rune l).1 < 32) || decide ((rune l).1 = 127) || badR l
def textP (l : List UInt8) : Option (List UInt8) := if h : l = [] then some [] else if badT l = true then none else if (rune l).1 = 92 then
    (match escP (l.drop 1) with
    | none => none
    | some (c, r) => if h3 : r.length < l.length then (textP r).map fun t => enc (c : Int) ++ t else none)
  else (textP (l.drop (rune l).2)).map fun t => enc ((rune l).1 : Int) ++ t
termination_by l.length
decreasing_by
  · exact h3
  · have := rune_w h
    rw [List.length_drop]; omega
theorem textP_nil : textP [] = some [] := by rw [textP, dif_pos rfl]
theorem textP_bad {l : List UInt8} (h : l ≠ []) (hb : badT l = true) : textP l = none := by rw [textP, dif_neg h, if_pos hb]
theorem textP_esc0 {l : List UInt8} (h : l ≠ []) (hb : badT l = false) (h92 : (rune l).1 = 92) (he : escP (l.drop 1) = none) : textP l = none := by
  rw [textP, dif_neg h, if_neg (by rw [hb]; simp), if_pos h92, he]
theorem textP_esc {l r : List UInt8} {c : Nat} (h : l ≠ []) (hb : badT l = false) (h92 : (rune l).1 = 92) (he : escP (l.drop 1) = some (c, r)) : r.length < l.length ∧ textP l = (textP r).map fun t => enc (c : Int) ++ t := by
  have h1 := (escP_some he).2
  have h2 := List.length_pos_iff.2 h
  rw [List.length_drop] at h1
  have h3 : r.length < l.length := by omega
  refine ⟨h3, ?_⟩
  rw [textP, dif_neg h, if_neg (by rw [hb]; simp), if_pos h92, he]
  show (if h3 : r.length < l.length then (textP r).map (fun t => enc (c : Int) ++ t) else none) = _
  rw [dif_pos h3]
theorem textP_plain {l : List UInt8} (h : l ≠ []) (hb : badT l = false) (h92 : (rune l).1 ≠ 92) : textP l = (textP (l.drop (rune l).2)).map fun t => enc ((rune l).1 : Int) ++ t := by
  rw [textP, dif_neg h, if_neg (by rw [hb]; simp), if_neg h92]
def textR (l : List UInt8) : List UInt8 × Bool := match textP l with
  | some t => (t, true)
  | none => ([], false)
theorem textR_none {l : List UInt8} (h : textP l = none) : textR l = ([], false) := by unfold textR; rw [h]
theorem textR_some {l t : List UInt8} (h : textP l = some t) : textR l = (t, true) := by unfold textR; rw [h]
theorem textP_len : ∀ (n : Nat) (l t : List UInt8), l.length ≤ n → textP l = some t → t.length ≤ 4 * l.length
  | n, l, t, hn, h => by
    by_cases hl : l = []
    · subst hl; rw [textP_nil] at h; cases h; simp
    · have h1 := List.length_pos_iff.2 hl
      cases n with
      | zero => omega
      | succ n =>
        by_cases hb : badT l = true
        · rw [textP_bad hl hb] at h; cases h
        · have hb : badT l = false := by simpa using hb
          by_cases h92 : (rune l).1 = 92
          · cases he : escP (l.drop 1) with
            | none => rw [textP_esc0 hl hb h92 he] at h; cases h
            | some p =>
              obtain ⟨hr, hs⟩ := textP_esc hl hb h92 (c := p.1) (r := p.2) he
              rw [hs] at h
              cases ht : textP p.2 with
              | none => rw [ht] at h; cases h
              | some u =>
                rw [ht] at h; cases h
                have := textP_len n p.2 u (by omega) ht
                have := (enc_len (p.1 : Int)).2
                rw [List.length_append]; omega
          · have hw := rune_w hl
            rw [textP_plain hl hb h92] at h
            cases ht : textP (l.drop (rune l).2) with
            | none => rw [ht] at h; cases h
            | some u =>
              rw [ht] at h; cases h
              have h3 := textP_len n (l.drop (rune l).2) u (by rw [List.length_drop]; omega) ht
              have := (enc_len ((rune l).1 : Int)).2
              rw [List.length_drop] at h3
              rw [List.length_append]; omega
theorem textR_len {l : List UInt8} {k : Nat} (h : 4 * l.length ≤ k) : (textR l).1.length ≤ k := by
  unfold textR
  cases e : textP l with
  | none => simp
  | some t => exact Nat.le_trans (textP_len l.length l t (Nat.le_refl _) e) h
/-- The program's test. -/
theorem badT_eq {l : List UInt8} (h : l ≠ []) : (decide (((rune l).1 : Int) = 34) || decide (((rune l).1 : Int) < 32) || decide (((rune l).1 : Int) = 127) || (decide (((rune l).1 : Int) = 65533) && decide (((rune l).2 : Int) < 2))) = badT l := by
  have hw := rune_w h
  unfold badT badR
  rw [show decide (((rune l).1 : Int) = 34) = decide ((rune l).1 = 34) from decide_eq_decide.2 (by omega), show decide (((rune l).1 : Int) < 32) = decide ((rune l).1 < 32) from decide_eq_decide.2 (by omega), show decide (((rune l).1 : Int) = 127) = decide ((rune l).1 = 127) from decide_eq_decide.2 (by omega)]
  congr 1
  rw [← Bool.decide_and]
  exact decide_eq_decide.2 (by omega)
theorem map_app {o : Option (List UInt8)} {a b : List UInt8} : (o.map fun t => b ++ t).map (fun t => a ++ t) = o.map fun t => (a ++ b) ++ t := by
  cases o <;> simp
end Go.Vl
/- Walks through the Go functions val.text, as typed contracts. -/
namespace Go.Proofs.YtdlendioamiagaaDoor
open Go Go.Gw Go.Vl
set_option linter.unusedVariables false
set_option linter.unusedSimpArgs false

set_option maxRecDepth 20000 in
/-- rhizome/val.text -/
theorem text_fn {K0 : FH} {n0 : Nat} (l : List UInt8) (hV : VarsV K0) (hl : l.length ≤ 200000) : CtM K0 n0 Tryd.prog 46 [BsT l] ([]) Unit (fun _ => TupT [BsT (textR l).1, BoolT (textR l).2]) (fun _ => []) (fun _ => True) := by
  refine fn_introM Tryd.func46 rfl rfl ?_
  intro H w hK hn
  refine tr_seq ?_
  -- region 0
  refine tr_env (es_cons (t := 0) (OT.tmp rfl) es_nil) ?_
  refine tr_region ?_
  refine op_pure (pu_assign OT.const) rfl rfl ?_
  refine op_pure (pu_assign OT.const) rfl rfl ?_
  refine tr_nil ?_
  refine then_normal ?_
  refine tr_seq ?_
  -- region 1
  refine tr_env (es_cons (t := 0) (OT.tmp rfl) es_nil) ?_
  refine tr_region ?_
  refine op_acts (acts_alloc zBld) (List.Perm.refl _) rfl rfl (fun g1_0 _ => ?_)
  refine tr_nil ?_
  refine then_normal ?_
  refine tr_seq ?_
  refine tr_block ?_
  refine tr_nilItem 5 (kint .u8) ?_
  refine tr_loopK (σ := List UInt8 × Value × Value × List UInt8) (es_cons (t := 4) (OT.tmp rfl) es_nil) (fun s => [(0, BsT s.1)]) (fun s => [BlkI g1_0 68 kBld (s.2.1, s.2.2.1), OwnI 5 (kint .u8) s.2.2.1 (nums s.2.2.2)]) (fun s => adr g1_0 s.2.1 ∧ (s.2.2.2 = [] → s.2.2.1 = nilS) ∧ s.2.2.2.length + 4 * s.1.length ≤ 4 * l.length ∧ textP l = (textP s.1).map fun t => s.2.2.2 ++ t) (fun s => s.1.length) (l, .pointer none, nilS, []) ⟨.inl rfl, fun _ => rfl, by simp, by simp⟩ ?_ (own_picks (by repeat (first | exact picks_nil | refine picks_cons 0 rfl ?_ | refine picks_cons 1 rfl ?_ | refine picks_cons 2 rfl ?_ | refine picks_cons 3 rfl ?_ | refine picks_cons 4 rfl ?_ | refine picks_cons 5 rfl ?_ | refine picks_cons 6 rfl ?_))) ?_
  · exact (es_cons (t := 0) (OT.tmp rfl) es_nil)
  · rintro ⟨l', p, u, out⟩ ⟨hp, hu, hol, htx⟩
    dsimp only at hp hu hol htx ⊢
    refine tr_seq ?_
    refine tr_seq ?_
    -- region 2
    refine tr_env (es_cons (t := 0) (OT.tmp rfl) (es_cons (t := 4) (OT.tmp rfl) es_nil)) ?_
    refine tr_region ?_
    refine op_pure (pu_move (OT.tmp rfl)) rfl rfl ?_
    refine op_pure (pu_bs_neq (OT.tmp rfl) OT.const) rfl rfl ?_
    refine tr_nil ?_
    refine then_normal ?_
    refine tr_cond (OT.tmp rfl) (fun c8 => ?_) (fun c8 => ?_)
    · skip
      refine tr_skip ?_
      refine then_normal ?_
      refine tr_block ?_
      refine tr_seq ?_
      -- region 3
      refine tr_env (es_cons (t := 0) (OT.tmp rfl) (es_cons (t := 4) (OT.tmp rfl) es_nil)) ?_
      have hne : l' ≠ [] := by simpa using c8
      have hw := rune_w hne
      have hci := rune_is l'
      refine tr_region ?_
      refine op_pure (pu_move (OT.tmp rfl)) rfl rfl ?_
      refine op_acts (acts_callM (Decode_ct hV l' hne) (mk_in hK hn) (show enters Tryd.prog 66 = true from by decide +kernel) (OTs.cons (OT.tmp rfl) OTs.nil) (List.Perm.refl _)) (List.Perm.refl _) rfl rfl (fun _ _ => ?_)
      refine op_pure (pu_move (OT.tmp rfl)) rfl rfl ?_
      refine op_pure (pu_extract (OT.tmp rfl) rfl) rfl rfl ?_
      refine op_pure (pu_extract (OT.tmp rfl) rfl) rfl rfl ?_
      refine op_pure (pu_assign (OT.tmp rfl)) rfl rfl ?_
      refine op_pure (pu_assign (OT.tmp rfl)) rfl rfl ?_
      refine tr_nil ?_
      refine then_normal ?_
      refine tr_seq ?_
      refine tr_block ?_
      refine tr_seq ?_
      -- region 5
      refine tr_env (es_cons (t := 0) (OT.tmp rfl) (es_cons (t := 4) (OT.tmp rfl) (es_cons (t := 5) (OT.tmp rfl) (es_cons (t := 6) (OT.tmp rfl) es_nil)))) ?_
      refine tr_region ?_
      refine op_pure (pu_move (OT.tmp rfl)) rfl rfl ?_
      refine op_pure (pu_eql (OT.tmp rfl) OT.const) rfl rfl ?_
      refine op_pure (pu_move (OT.tmp rfl)) rfl rfl ?_
      refine op_gu rfl rfl rfl (OT.gu_mk (OT.tmp rfl)) (fun hg => by (have hg1 := hg.2; (try simp only [decide_eq_true_eq, decide_eq_false_iff_not] at hg1); exact pu_move (by exact OT.tmp rfl))) rfl ?_
      refine op_gu rfl rfl rfl (OT.gu_mk (OT.tmp rfl)) (fun hg => by (have hg1 := hg.2; (try simp only [decide_eq_true_eq, decide_eq_false_iff_not] at hg1); exact pu_lss (by exact OT.gu (OT.tmp rfl) hg) OT.const)) rfl ?_
      refine op_pure (pu_pick_or (OT.tmp rfl) (by exact OT.tmp rfl)) rfl rfl ?_
      refine op_pure (pu_move (OT.tmp rfl)) rfl rfl ?_
      refine op_gu rfl rfl rfl (OT.gu_mk (OT.tmp rfl)) (fun hg => by (have hg1 := hg.2; (try simp only [decide_eq_true_eq, decide_eq_false_iff_not] at hg1); exact pu_move (by exact OT.tmp rfl))) rfl ?_
      refine op_gu rfl rfl rfl (OT.gu_mk (OT.tmp rfl)) (fun hg => by (have hg1 := hg.2; (try simp only [decide_eq_true_eq, decide_eq_false_iff_not] at hg1); exact pu_eql (by exact OT.gu (OT.tmp rfl) hg) OT.const)) rfl ?_
      refine op_pure (pu_pick_or (OT.tmp rfl) (by exact OT.tmp rfl)) rfl rfl ?_
      refine op_pure (pu_move (OT.tmp rfl)) rfl rfl ?_
      refine op_gu rfl rfl rfl (OT.gu_mk (OT.tmp rfl)) (fun hg => by (have hg1 := hg.2; (try simp only [decide_eq_true_eq, decide_eq_false_iff_not] at hg1); exact pu_move (by exact OT.tmp rfl))) rfl ?_
      refine op_gu rfl rfl rfl (OT.gu_mk (OT.tmp rfl)) (fun hg => by (have hg1 := hg.2; (try simp only [decide_eq_true_eq, decide_eq_false_iff_not] at hg1); exact pu_eql (by exact OT.gu (OT.tmp rfl) hg) OT.const)) rfl ?_
      refine op_gu rfl rfl rfl (OT.gu_mk (OT.tmp rfl)) (fun hg => by (have hg1 := hg.2; (try simp only [decide_eq_true_eq, decide_eq_false_iff_not] at hg1); exact pu_move (by exact OT.gu (OT.tmp rfl) hg))) rfl ?_
      refine op_gu rfl rfl rfl (OT.tmp rfl) (fun hg => by (have hg1 := hg.2; (try simp only [decide_eq_true_eq, decide_eq_false_iff_not] at hg1); exact pu_move (by exact OT.tmp rfl))) rfl ?_
      refine op_gu rfl rfl rfl (OT.tmp rfl) (fun hg => by (have hg1 := hg.2; (try simp only [decide_eq_true_eq, decide_eq_false_iff_not] at hg1); exact pu_lss (by exact OT.gu (OT.tmp rfl) hg) OT.const)) rfl ?_
      refine op_gu rfl rfl rfl (OT.gu_mk (OT.tmp rfl)) (fun hg => by (have hg1 := hg.2; (try simp only [decide_eq_true_eq, decide_eq_false_iff_not] at hg1); exact pu_pick_and_p hg (by exact OT.gu (OT.tmp rfl) hg) (OT.tmp rfl))) rfl ?_
      refine op_pure (pu_pick_or (OT.tmp rfl) (by exact OT.tmp rfl)) rfl rfl ?_
      refine op_pure (pu_assign (OT.tmp rfl)) rfl rfl ?_
      refine tr_nil ?_
      refine then_normal ?_
      refine tr_cond (OT.tmp rfl) (fun c17 => ?_) (fun c17 => ?_)
      · skip
        have hbad : badT l' = true := by rw [← badT_eq hne]; exact c17
        have hr := textR_none (by rw [htx, textP_bad hne hbad]; rfl)
        refine tr_seq ?_
        -- region 6
        refine tr_env es_nil ?_
        refine tr_region ?_
        refine op_pure (pu_assign OT.const) rfl rfl ?_
        refine op_pure (pu_assign OT.const) rfl rfl ?_
        refine tr_nil ?_
        refine then_normal ?_
        refine tr_ret ?_
        refine block_ret ?_
        refine then_ret ?_
        refine block_ret ?_
        refine then_ret ?_
        refine block_ret ?_
        refine then_ret ?_
        exact ret_two .ret (.inl rfl) rfl () (OT.val (OT.tmp rfl) (congrArg Value.string (congrArg bs (congrArg Prod.fst hr).symm))) (OT.val (OT.tmp rfl) (congrArg Value.bool (congrArg Prod.snd hr).symm)) (fun _ _ h => h) trivial (by exact picks_nil)
      · skip
        have hbad : badT l' = false := by rw [← badT_eq hne]; exact c17
        refine tr_seq ?_
        -- region 7
        refine tr_env (es_cons (t := 0) (OT.tmp rfl) (es_cons (t := 4) (OT.tmp rfl) (es_cons (t := 5) (OT.tmp rfl) (es_cons (t := 6) (OT.tmp rfl) es_nil)))) ?_
        refine tr_region ?_
        refine op_pure (pu_move (OT.tmp rfl)) rfl rfl ?_
        refine op_pure (pu_eql (OT.tmp rfl) OT.const) rfl rfl ?_
        refine op_pure (pu_assign (OT.tmp rfl)) rfl rfl ?_
        refine tr_nil ?_
        refine then_normal ?_
        refine tr_cond (OT.tmp rfl) (fun c36 => ?_) (fun c36 => ?_)
        · skip
          have h92 : (rune l').1 = 92 := by simp at c36; omega
          refine tr_seq ?_
          -- region 8
          refine tr_env (es_cons (t := 0) (OT.tmp rfl) (es_cons (t := 4) (OT.tmp rfl) es_nil)) ?_
          refine tr_region ?_
          refine op_pure (pu_move (OT.tmp rfl)) rfl rfl ?_
          refine op_pure (pu_bs_slice_lo (OT.tmp rfl) OT.const Tryd.underlying9 (by omega) (by omega)) rfl rfl ?_
          refine op_acts (acts_callM (escape_fn (l'.drop 1) hV (by rw [List.length_drop]; omega)) (mk_in hK hn) (show enters Tryd.prog 67 = true from by decide +kernel) (OTs.cons (OT.tmp rfl) OTs.nil) (List.Perm.refl _)) (List.Perm.refl _) rfl rfl (fun _ _ => ?_)
          refine op_pure (pu_move (OT.tmp rfl)) rfl rfl ?_
          refine op_pure (pu_extract (OT.tmp rfl) rfl) rfl rfl ?_
          refine op_pure (pu_extract (OT.tmp rfl) rfl) rfl rfl ?_
          refine op_pure (pu_assign (OT.tmp rfl)) rfl rfl ?_
          refine op_pure (pu_assign (OT.tmp rfl)) rfl rfl ?_
          refine tr_nil ?_
          refine then_normal ?_
          refine tr_seq ?_
          -- region 9
          refine tr_env (es_cons (t := 0) (OT.tmp rfl) (es_cons (t := 4) (OT.tmp rfl) (es_cons (t := 5) (OT.tmp rfl) es_nil))) ?_
          refine tr_region ?_
          refine op_pure (pu_move (OT.tmp rfl)) rfl rfl ?_
          refine op_pure (pu_lss (OT.tmp rfl) OT.const) rfl rfl ?_
          refine tr_nil ?_
          refine then_normal ?_
          refine tr_cond (OT.tmp rfl) (fun c46 => ?_) (fun c46 => ?_)
          · skip
            have hr := textR_none (by rw [htx, textP_esc0 hne hbad h92 (escR_lt (of_decide_eq_true c46))]; rfl)
            refine tr_seq ?_
            -- region 10
            refine tr_env es_nil ?_
            refine tr_region ?_
            refine op_pure (pu_assign OT.const) rfl rfl ?_
            refine op_pure (pu_assign OT.const) rfl rfl ?_
            refine tr_nil ?_
            refine then_normal ?_
            refine tr_ret ?_
            refine block_ret ?_
            refine then_ret ?_
            refine block_ret ?_
            refine then_ret ?_
            refine block_ret ?_
            refine then_ret ?_
            exact ret_two .ret (.inl rfl) rfl () (OT.val (OT.tmp rfl) (congrArg Value.string (congrArg bs (congrArg Prod.fst hr).symm))) (OT.val (OT.tmp rfl) (congrArg Value.bool (congrArg Prod.snd hr).symm)) (fun _ _ h => h) trivial (by exact picks_nil)
          · skip
            obtain ⟨c', r', he⟩ := escR_ge (of_decide_eq_false c46)
            have her := escR_some he
            rw [her]
            obtain ⟨hrl, hst⟩ := textP_esc hne hbad h92 he
            have hcr := (escP_some he).1
            refine tr_skip ?_
            refine block_normal ?_
            refine then_normal ?_
            -- region 11
            refine tr_env (es_cons (t := 0) (OT.tmp rfl) (es_cons (t := 4) (OT.tmp rfl) (es_cons (t := 5) (OT.tmp rfl) es_nil))) ?_
            refine tr_region ?_
            refine op_pure (pu_move (OT.tmp rfl)) rfl rfl ?_
            refine op_acts (acts_call (wRune_fn g1_0 p u out _ hp (by omega) hcr) (show enters Tryd.prog 36 = true from by decide +kernel) (OTs.cons (OT.tmp rfl) (OTs.cons (OT.tmp rfl) OTs.nil)) (by exact perm2_at 0 0 rfl rfl)) (by exact perm2_at 0 0 rfl rfl) rfl rfl (fun u11 _ => ?_)
            refine tr_nil ?_
            refine block_normal ?_
            refine then_normal ?_
            exact tr_again (r', pt g1_0 0, u11, out ++ enc (c' : Int)) ⟨.inr rfl, fun e => by have h9 := (enc_len (c' : Int)).1; have h8 := congrArg List.length e; simp at h8; rw [h8.2] at h9; simp at h9, by show (out ++ enc (c' : Int)).length + 4 * (r').length ≤ _; have h9 := (enc_len (c' : Int)).2; simp; omega, by show textP l = (textP (r')).map fun t => (out ++ enc (c' : Int)) ++ t; rw [htx, hst, map_app]⟩ (by show (r').length < l'.length; omega) (es_append (es_cons (t := 0) (by exact OT.tmp rfl) es_nil) (es_cons (t := 4) (OT.tmp rfl) es_nil)) (own_picks (by repeat (first | exact picks_nil | refine picks_cons 0 rfl ?_ | refine picks_cons 1 rfl ?_ | refine picks_cons 2 rfl ?_ | refine picks_cons 3 rfl ?_ | refine picks_cons 4 rfl ?_ | refine picks_cons 5 rfl ?_ | refine picks_cons 6 rfl ?_)))
        · skip
          have h92 : (rune l').1 ≠ 92 := by simp at c36; omega
          have hst := textP_plain hne hbad h92
          have hcr := hci
          have hdl : (l'.drop (rune l').2).length + 1 ≤ l'.length := by rw [List.length_drop]; omega
          -- region 4
          refine tr_env (es_cons (t := 0) (OT.tmp rfl) (es_cons (t := 4) (OT.tmp rfl) (es_cons (t := 5) (OT.tmp rfl) (es_cons (t := 6) (OT.tmp rfl) es_nil)))) ?_
          refine tr_region ?_
          refine op_pure (pu_move (OT.tmp rfl)) rfl rfl ?_
          refine op_pure (pu_move (OT.tmp rfl)) rfl rfl ?_
          refine op_pure (pu_bs_slice_lo (OT.tmp rfl) (OT.tmp rfl) Tryd.underlying9 (by omega) (by omega)) rfl rfl ?_
          refine op_pure (pu_assign (OT.tmp rfl)) rfl rfl ?_
          refine tr_nil ?_
          refine block_normal ?_
          refine then_normal ?_
          -- region 11
          refine tr_env (es_cons (t := 0) (OT.tmp rfl) (es_cons (t := 4) (OT.tmp rfl) (es_cons (t := 5) (OT.tmp rfl) es_nil))) ?_
          refine tr_region ?_
          refine op_pure (pu_move (OT.tmp rfl)) rfl rfl ?_
          refine op_acts (acts_call (wRune_fn g1_0 p u out _ hp (by omega) hcr) (show enters Tryd.prog 36 = true from by decide +kernel) (OTs.cons (OT.tmp rfl) (OTs.cons (OT.tmp rfl) OTs.nil)) (by exact perm2_at 0 0 rfl rfl)) (by exact perm2_at 0 0 rfl rfl) rfl rfl (fun u11 _ => ?_)
          refine tr_nil ?_
          refine block_normal ?_
          refine then_normal ?_
          exact tr_again (l'.drop (rune l').2, pt g1_0 0, u11, out ++ enc ((rune l').1 : Int)) ⟨.inr rfl, fun e => by have h9 := (enc_len ((rune l').1 : Int)).1; have h8 := congrArg List.length e; simp at h8; rw [h8.2] at h9; simp at h9, by show (out ++ enc ((rune l').1 : Int)).length + 4 * (l'.drop (rune l').2).length ≤ _; have h9 := (enc_len ((rune l').1 : Int)).2; simp; omega, by show textP l = (textP (l'.drop (rune l').2)).map fun t => (out ++ enc ((rune l').1 : Int)) ++ t; rw [htx, hst, map_app]⟩ (by show (l'.drop (rune l').2).length < l'.length; omega) (es_append (es_cons (t := 0) (by exact OT.tmp rfl) es_nil) (es_cons (t := 4) (OT.tmp rfl) es_nil)) (own_picks (by repeat (first | exact picks_nil | refine picks_cons 0 rfl ?_ | refine picks_cons 1 rfl ?_ | refine picks_cons 2 rfl ?_ | refine picks_cons 3 rfl ?_ | refine picks_cons 4 rfl ?_ | refine picks_cons 5 rfl ?_ | refine picks_cons 6 rfl ?_)))
    · skip
      refine tr_exit ?_
      refine then_exit ?_
      refine then_exit ?_
      refine block_hit ?_
      refine then_normal ?_
      refine tr_seq ?_
      -- region 12
      refine tr_env (es_cons (t := 4) (OT.tmp rfl) es_nil) ?_
      obtain rfl : l' = [] := by simpa using c8
      have hto : textP l = some out := by rw [htx, textP_nil]; simp
      have hr := textR_some hto
      refine tr_region ?_
      refine op_acts (acts_call (bStr_fn g1_0 p u out (by omega) hu) (show enters Tryd.prog 39 = true from by decide +kernel) (OTs.cons (OT.tmp rfl) OTs.nil) (by exact perm2_at 0 0 rfl rfl)) (by exact perm2_at 0 0 rfl rfl) rfl rfl (fun _ _ => ?_)
      refine op_pure (pu_assign (OT.tmp rfl)) rfl rfl ?_
      refine op_pure (pu_assign OT.const) rfl rfl ?_
      refine tr_nil ?_
      refine then_normal ?_
      refine tr_ret ?_
      exact ret_two .ret (.inl rfl) rfl () (OT.val (OT.tmp rfl) (congrArg Value.string (congrArg bs (congrArg Prod.fst hr).symm))) (OT.val (OT.tmp rfl) (congrArg Value.bool (congrArg Prod.snd hr).symm)) (fun _ _ h => h) trivial (by exact picks_nil)
end Go.Proofs.YtdlendioamiagaaDoor
/- Values of properties, plain: a value's text as the program reads it. -/
namespace Go.Proofs.YtdlendioamiagaaDoor
open Go Go.Gw Go.Vl Go.Lib
set_option linter.unusedVariables false
set_option linter.unusedSimpArgs false
abbrev tru : List UInt8 := [116, 114, 117, 101]
abbrev fls : List UInt8 := [102, 97, 108, 115, 101]
theorem atoiV_bounds (l : List UInt8) : -9223372036854775808 ≤ atoiV l ∧ atoiV l ≤ 9223372036854775807 := by
  unfold atoiV
  cases h : atoiAll l with
  | ok v => exact atoiAll_bounds h
  | «syntax» => exact ⟨by show _ ≤ (0 : Int); omega, by show (0 : Int) ≤ _; omega⟩
  | range => show _ ≤ atoiSat l ∧ atoiSat l ≤ _; unfold atoiSat; split <;> omega
/-- Between the quotes. -/
abbrev innerL (l : List UInt8) : List UInt8 := (trimPrefix l [34]).take ((trimPrefix l [34]).length - 1)
def quoted (l : List UInt8) : Bool := hasPrefix l [34] && hasSuffix (trimPrefix l [34]) [34]
def parseV (l : List UInt8) : Option Vl := if l = tru then some (3, 1, []) else if l = fls then some (3, 0, []) else if quoted l = true then (if ((textR (innerL l)).2 && decide (checkV (2, 0, (textR (innerL l)).1) = 0)) = true then some (2, 0, (textR (innerL l)).1) else none) else if (atoiB l && decide (itoa (atoiV l) = l)) = true then some (1, atoiV l, []) else none
def parseR (l : List UInt8) : Vl × Int := match parseV l with
  | some v => (v, 0)
  | none => ((0, 0, []), 6)
theorem parseR_some {l : List UInt8} {v : Vl} (h : parseV l = some v) : parseR l = (v, 0) := by unfold parseR; rw [h]
theorem parseR_none {l : List UInt8} (h : parseV l = none) : parseR l = ((0, 0, []), 6) := by unfold parseR; rw [h]
theorem parse_bool {l : List UInt8} (h : l = tru ∨ l = fls) : ∃ c, l.take 1 = [c] ∧ parseR l = ((3, indexByte [102, 116] c, []), 0) := by
  rcases h with rfl | rfl
  · exact ⟨116, rfl, by rw [parseR_some (v := (3, 1, [])) (if_pos rfl)]; rfl⟩
  · exact ⟨102, rfl, by rw [parseR_some (v := (3, 0, [])) (by unfold parseV; rw [if_neg (by decide), if_pos rfl])]; rfl⟩
theorem quoted_len {l : List UInt8} (h : quoted l = true) : 1 ≤ (trimPrefix l [34]).length ∧ (trimPrefix l [34]).length ≤ l.length := by
  unfold quoted at h
  rw [Bool.and_eq_true] at h
  refine ⟨?_, by unfold trimPrefix; split <;> simp⟩
  have h2 := h.2
  unfold hasSuffix at h2
  obtain ⟨t, ht⟩ := List.isSuffixOf_iff_suffix.1 h2
  rw [← ht]; simp
end Go.Proofs.YtdlendioamiagaaDoor
/- Walks through the Go functions val.Parse, as typed contracts. -/
namespace Go.Proofs.YtdlendioamiagaaDoor
open Go Go.Gw Go.Vl
set_option linter.unusedVariables false
set_option linter.unusedSimpArgs false

set_option maxRecDepth 20000 in
/-- rhizome/val.Parse -/
theorem Parse_fn {K0 : FH} {n0 : Nat} (l : List UInt8) (hV : VarsV K0) (hl : l.length ≤ 200000) : CtM K0 n0 Tryd.prog 18 [BsT l] ([]) Unit (fun _ => TupT [kVl.T (parseR l).1, I64 (parseR l).2]) (fun _ => []) (fun _ => True) := by
  refine fn_introM Tryd.func18 rfl rfl ?_
  intro H w hK hn
  refine tr_seq ?_
  -- region 0
  refine tr_env (es_cons (t := 0) (OT.tmp rfl) es_nil) ?_
  refine tr_region ?_
  refine op_acts (acts_alloc (zVl)) (List.Perm.refl _) rfl rfl (fun g0_0 _ => ?_)
  refine op_pure (pu_assign OT.const) rfl rfl ?_
  refine tr_nil ?_
  refine then_normal ?_
  refine tr_seq ?_
  refine tr_seq ?_
  -- region 1
  refine tr_env (es_cons (t := 0) (OT.tmp rfl) (es_cons (t := 2) (OT.tmp rfl) es_nil)) ?_
  refine tr_region ?_
  refine op_pure (pu_move (OT.tmp rfl)) rfl rfl ?_
  refine op_pure (pu_bs_eql (OT.tmp rfl) OT.const) rfl rfl ?_
  refine op_pure (pu_move (OT.tmp rfl)) rfl rfl ?_
  refine op_gu rfl rfl rfl (OT.gu_mk (OT.tmp rfl)) (fun hg => by (have hg1 := hg.2; (try simp only [decide_eq_true_eq, decide_eq_false_iff_not] at hg1); exact pu_move (by exact OT.tmp rfl))) rfl ?_
  refine op_gu rfl rfl rfl (OT.gu_mk (OT.tmp rfl)) (fun hg => by (have hg1 := hg.2; (try simp only [decide_eq_true_eq, decide_eq_false_iff_not] at hg1); exact pu_bs_eql (by exact OT.gu (OT.tmp rfl) hg) OT.const)) rfl ?_
  refine op_pure (pu_pick_or (OT.tmp rfl) (by exact OT.tmp rfl)) rfl rfl ?_
  refine tr_nil ?_
  refine then_normal ?_
  refine tr_cond (OT.tmp rfl) (fun c16 => ?_) (fun c16 => ?_)
  · skip
    obtain ⟨c, hc, hr⟩ := parse_bool (l := l) (by simpa using c16)
    have hl1 : 1 ≤ l.length := by have h9 := congrArg List.length hc; simp at h9; omega
    refine tr_seq ?_
    -- region 2
    refine tr_env (es_cons (t := 0) (OT.tmp rfl) (es_cons (t := 2) (OT.tmp rfl) es_nil)) ?_
    refine tr_region ?_
    refine op_pure (pu_move (OT.tmp rfl)) rfl rfl ?_
    refine op_pure (pu_bs_slice_hi (OT.tmp rfl) OT.const Tryd.underlying9 (by omega) (by omega)) rfl rfl ?_
    refine tr_as 18 (T := BsT [c]) (OT.val (OT.tmp rfl) (congrArg Value.string (congrArg bs hc))) ?_
    refine op_acts (acts_callM (Index1_ct [102, 116] c) (mk_in hK hn) (show enters Tryd.prog 43 = true from by decide +kernel) (OTs.cons OT.const (OTs.cons (OT.tmp rfl) OTs.nil)) (List.Perm.refl _)) (List.Perm.refl _) rfl rfl (fun _ _ => ?_)
    refine op_pure (pu_build (d := kVl) (v0 := (0, 0, [])) (ps := [(0, 1), (1, 1), (2, 1)]) zVl (by kernel_rfl) rfl (fills_cons rfl lv0 OT.const (fills_cons rfl lv1 (OT.tmp rfl) fills_nil))) rfl rfl ?_
    refine op_acts (acts_store_var (OT.tmp rfl) (OT.tmp rfl) (by exact perm_at 0 rfl) (show tyOk Tryd.prog 23 true 3 = true from by decide +kernel)) (by exact perm_at 0 rfl) rfl rfl (fun _ _ => ?_)
    refine op_pure (pu_assign OT.const) rfl rfl ?_
    refine tr_nil ?_
    refine then_normal ?_
    refine tr_ret ?_
    refine then_ret ?_
    exact ret_cell_tmp .ret (.inl rfl) rfl () (OT.tmp rfl) (by exact mem_at 0 rfl) (show tyOk Tryd.prog 23 true 3 = true from by decide +kernel) (OT.val (OT.tmp rfl) (congrArg (Value.int _) (congrArg Prod.snd hr).symm)) (fun _ _ h => (by rw [hr] at h ⊢; exact h)) trivial (by exact picks_nil)
  · skip
    have hnt : ¬ l = tru ∧ ¬ l = fls := by simpa using c16
    have htl : (Lib.trimPrefix l [34]).length ≤ 281474976710656 := by have h9 : (Lib.trimPrefix l [34]).length ≤ l.length := (by unfold Lib.trimPrefix; split <;> simp); omega
    refine tr_skip ?_
    refine then_normal ?_
    refine tr_seq ?_
    refine tr_seq ?_
    -- region 3
    refine tr_env (es_cons (t := 0) (OT.tmp rfl) (es_cons (t := 2) (OT.tmp rfl) es_nil)) ?_
    refine tr_region ?_
    refine op_pure (pu_move (OT.tmp rfl)) rfl rfl ?_
    refine op_acts (acts_callM (CutPrefix_ct l [34]) (mk_in hK hn) (show enters Tryd.prog 44 = true from by decide +kernel) (OTs.cons (OT.tmp rfl) (OTs.cons OT.const OTs.nil)) (List.Perm.refl _)) (List.Perm.refl _) rfl rfl (fun _ _ => ?_)
    refine op_pure (pu_move (OT.tmp rfl)) rfl rfl ?_
    refine op_pure (pu_extract (OT.tmp rfl) rfl) rfl rfl ?_
    refine op_pure (pu_extract (OT.tmp rfl) rfl) rfl rfl ?_
    refine op_pure (pu_assign (OT.tmp rfl)) rfl rfl ?_
    refine op_pure (pu_assign (OT.tmp rfl)) rfl rfl ?_
    refine tr_nil ?_
    refine then_normal ?_
    refine tr_seq ?_
    -- region 4
    refine tr_env (es_cons (t := 0) (OT.tmp rfl) (es_cons (t := 2) (OT.tmp rfl) (es_cons (t := 4) (OT.tmp rfl) (es_cons (t := 5) (OT.tmp rfl) es_nil)))) ?_
    refine tr_region ?_
    refine op_pure (pu_move (OT.tmp rfl)) rfl rfl ?_
    refine op_pure (pu_move (OT.tmp rfl)) rfl rfl ?_
    refine op_gu rfl rfl rfl (OT.gu_mk (OT.tmp rfl)) (fun hg => by (have hg1 := hg.2; (try simp only [decide_eq_true_eq, decide_eq_false_iff_not] at hg1); exact pu_move (by exact OT.tmp rfl))) rfl ?_
    refine op_gu_acts () rfl rfl rfl (OT.gu_mk (OT.tmp rfl)) (fun hg => by (have hg1 := hg.2; (try simp only [decide_eq_true_eq, decide_eq_false_iff_not] at hg1); exact acts_callM (HasSuffix_ct (Lib.trimPrefix l [34]) [34] htl) (mk_in hK hn) (show enters Tryd.prog 45 = true from by decide +kernel) (OTs.cons (by exact OT.gu (OT.tmp rfl) hg) (OTs.cons OT.const OTs.nil)) (List.Perm.refl _))) rfl (fun _ _ => ?_)
    refine op_pure (pu_pick_and (OT.tmp rfl) (by exact OT.tmp rfl)) rfl rfl ?_
    refine tr_nil ?_
    refine then_normal ?_
    refine tr_cond (OT.tmp rfl) (fun c30 => ?_) (fun c30 => ?_)
    · skip
      have hq : quoted l = true := c30
      obtain ⟨hq1, hq2⟩ := quoted_len hq
      have hil : (innerL l).length ≤ 200000 := by rw [List.length_take]; omega
      have htx : (textR (innerL l)).1.length ≤ 140737488351232 := textR_len (by omega)
      refine tr_seq ?_
      -- region 5
      refine tr_env (es_cons (t := 2) (OT.tmp rfl) (es_cons (t := 4) (OT.tmp rfl) es_nil)) ?_
      refine tr_region ?_
      refine op_pure (pu_move (OT.tmp rfl)) rfl rfl ?_
      refine op_pure (pu_move (OT.tmp rfl)) rfl rfl ?_
      refine op_pure (pu_len_bs Tryd.underlying9 (OT.tmp rfl)) rfl rfl ?_
      refine op_pure (pu_sub' (OT.tmp rfl) OT.const (by omega)) rfl rfl ?_
      refine op_pure (pu_bs_slice_hi (OT.tmp rfl) (OT.tmp rfl) Tryd.underlying9 (by omega) (by omega)) rfl rfl ?_
      refine tr_as 36 (T := BsT (innerL l)) (OT.val (OT.tmp rfl) (congrArg Value.string (congrArg bs (show List.take _ _ = _ from by congr 1; omega)))) ?_
      refine op_acts (acts_callM (text_fn (innerL l) hV (by omega)) (mk_in hK hn) (show enters Tryd.prog 46 = true from by decide +kernel) (OTs.cons (OT.tmp rfl) OTs.nil) (List.Perm.refl _)) (List.Perm.refl _) rfl rfl (fun _ _ => ?_)
      refine op_pure (pu_move (OT.tmp rfl)) rfl rfl ?_
      refine op_pure (pu_extract (OT.tmp rfl) rfl) rfl rfl ?_
      refine op_pure (pu_extract (OT.tmp rfl) rfl) rfl rfl ?_
      refine op_pure (pu_assign (OT.tmp rfl)) rfl rfl ?_
      refine op_pure (pu_assign (OT.tmp rfl)) rfl rfl ?_
      refine tr_nil ?_
      refine then_normal ?_
      refine tr_seq ?_
      -- region 6
      refine tr_env (es_cons (t := 2) (OT.tmp rfl) (es_cons (t := 6) (OT.tmp rfl) (es_cons (t := 7) (OT.tmp rfl) es_nil))) ?_
      refine tr_region ?_
      refine op_pure (pu_move (OT.tmp rfl)) rfl rfl ?_
      refine op_pure (pu_build (d := kVl) (v0 := (0, 0, [])) (ps := [(0, 1), (1, 1), (2, 1)]) zVl (by kernel_rfl) rfl (fills_cons rfl lv0 OT.const (fills_cons rfl lv2 (OT.tmp rfl) fills_nil))) rfl rfl ?_
      refine op_acts (acts_alloc (zVl)) (List.Perm.refl _) rfl rfl (fun g6_2 _ => ?_)
      refine op_acts (acts_store_var (OT.tmp rfl) (OT.tmp rfl) (by exact perm_at 0 rfl) (show tyOk Tryd.prog 23 true 3 = true from by decide +kernel)) (by exact perm_at 0 rfl) rfl rfl (fun _ _ => ?_)
      refine tr_nil ?_
      refine then_normal ?_
      refine tr_seq ?_
      refine tr_seq ?_
      -- region 7
      refine tr_env (es_cons (t := 2) (OT.tmp rfl) (es_cons (t := 7) (OT.tmp rfl) (es_cons (t := 8) (OT.tmp rfl) es_nil))) ?_
      refine tr_region ?_
      refine op_pure (pu_move (OT.tmp rfl)) rfl rfl ?_
      refine op_pure (pu_move (OT.tmp rfl)) rfl rfl ?_
      refine op_gu rfl rfl rfl (OT.gu_mk (OT.tmp rfl)) (fun hg => by (have hg1 := hg.2; (try simp only [decide_eq_true_eq, decide_eq_false_iff_not] at hg1); exact pu_load_var (by exact OT.tmp rfl) (by exact mem_at 0 rfl) (show tyOk Tryd.prog 23 true 3 = true from by decide +kernel))) rfl ?_
      refine op_gu_acts () rfl rfl rfl (OT.gu_mk (OT.tmp rfl)) (fun hg => by (have hg1 := hg.2; (try simp only [decide_eq_true_eq, decide_eq_false_iff_not] at hg1); exact acts_callM (Check_fn (2, 0, (textR (innerL l)).1) hV htx) (mk_in hK hn) (show enters Tryd.prog 15 = true from by decide +kernel) (OTs.cons (by exact OT.gu (OT.tmp rfl) hg) OTs.nil) (List.Perm.refl _))) rfl (fun _ _ => ?_)
      refine op_gu rfl rfl rfl (OT.gu_mk (OT.tmp rfl)) (fun hg => by (have hg1 := hg.2; (try simp only [decide_eq_true_eq, decide_eq_false_iff_not] at hg1); exact pu_eql (by exact OT.gu (OT.tmp rfl) hg) OT.const)) rfl ?_
      refine op_pure (pu_pick_and (OT.tmp rfl) (by exact OT.tmp rfl)) rfl rfl ?_
      refine tr_nil ?_
      refine then_normal ?_
      refine tr_cond (OT.tmp rfl) (fun c47 => ?_) (fun c47 => ?_)
      · skip
        have hr := parseR_some (l := l) (v := (2, 0, (textR (innerL l)).1)) (by unfold parseV; rw [if_neg hnt.1, if_neg hnt.2, if_pos hq, if_pos c47])
        refine tr_seq ?_
        -- region 8
        refine tr_env (es_cons (t := 2) (OT.tmp rfl) (es_cons (t := 8) (OT.tmp rfl) es_nil)) ?_
        refine tr_region ?_
        refine op_pure (pu_load_var (OT.tmp rfl) (by exact mem_at 0 rfl) (show tyOk Tryd.prog 23 true 3 = true from by decide +kernel)) rfl rfl ?_
        refine op_acts (acts_store_var (OT.tmp rfl) (OT.tmp rfl) (by exact perm_at 1 rfl) (show tyOk Tryd.prog 23 true 3 = true from by decide +kernel)) (by exact perm_at 1 rfl) rfl rfl (fun _ _ => ?_)
        refine op_pure (pu_assign OT.const) rfl rfl ?_
        refine tr_nil ?_
        refine then_normal ?_
        refine tr_ret ?_
        refine then_ret ?_
        refine then_ret ?_
        exact ret_cell_tmp .ret (.inl rfl) rfl () (OT.tmp rfl) (by exact mem_at 0 rfl) (show tyOk Tryd.prog 23 true 3 = true from by decide +kernel) (OT.val (OT.tmp rfl) (congrArg (Value.int _) (congrArg Prod.snd hr).symm)) (fun _ _ h => (by rw [hr] at h ⊢; exact h)) trivial (by exact picks_nil)
      · skip
        have hr := parseR_none (l := l) (by unfold parseV; rw [if_neg hnt.1, if_neg hnt.2, if_pos hq, if_neg (by rw [show ((textR (innerL l)).2 && decide (checkV (2, 0, (textR (innerL l)).1) = 0)) = false from c47]; simp)])
        refine tr_skip ?_
        refine then_normal ?_
        refine tr_seq ?_
        -- region 9
        refine tr_env (es_cons (t := 2) (OT.tmp rfl) es_nil) ?_
        refine tr_region ?_
        refine op_pure (pu_build (d := kVl) (v0 := (0, 0, [])) (ps := [(0, 1), (1, 1), (2, 1)]) zVl (by kernel_rfl) rfl fills_nil) rfl rfl ?_
        refine op_acts (acts_store_var (OT.tmp rfl) (OT.tmp rfl) (by exact perm_at 1 rfl) (show tyOk Tryd.prog 23 true 3 = true from by decide +kernel)) (by exact perm_at 1 rfl) rfl rfl (fun _ _ => ?_)
        refine op_pure (pu_assign OT.const) rfl rfl ?_
        refine tr_nil ?_
        refine then_normal ?_
        refine tr_ret ?_
        refine then_ret ?_
        exact ret_cell_tmp .ret (.inl rfl) rfl () (OT.tmp rfl) (by exact mem_at 0 rfl) (show tyOk Tryd.prog 23 true 3 = true from by decide +kernel) (OT.val (OT.tmp rfl) (congrArg (Value.int _) (congrArg Prod.snd hr).symm)) (fun _ _ h => (by rw [hr] at h ⊢; exact h)) trivial (by exact picks_nil)
    · skip
      have hq : quoted l = false := c30
      refine tr_skip ?_
      refine then_normal ?_
      refine tr_seq ?_
      -- region 10
      refine tr_env (es_cons (t := 0) (OT.tmp rfl) (es_cons (t := 2) (OT.tmp rfl) es_nil)) ?_
      refine tr_region ?_
      refine op_pure (pu_move (OT.tmp rfl)) rfl rfl ?_
      refine op_acts (acts_callM (Atoi_ct hV l (by omega)) (mk_in hK hn) (show enters Tryd.prog 47 = true from by decide +kernel) (OTs.cons (OT.tmp rfl) OTs.nil) (List.Perm.refl _)) (List.Perm.refl _) rfl rfl (fun _ _ => ?_)
      refine op_pure (pu_move (OT.tmp rfl)) rfl rfl ?_
      refine op_pure (pu_extract (OT.tmp rfl) rfl) rfl rfl ?_
      refine op_pure (pu_extract (OT.tmp rfl) rfl) rfl rfl ?_
      refine op_pure (pu_assign (OT.tmp rfl)) rfl rfl ?_
      refine op_pure (pu_assign (OT.tmp rfl)) rfl rfl ?_
      refine tr_nil ?_
      refine then_normal ?_
      refine tr_seq ?_
      refine tr_seq ?_
      -- region 11
      refine tr_env (es_cons (t := 0) (OT.tmp rfl) (es_cons (t := 2) (OT.tmp rfl) (es_cons (t := 9) (OT.tmp rfl) (es_cons (t := 10) (OT.tmp rfl) es_nil)))) ?_
      refine tr_region ?_
      refine op_pure (pu_move (OT.tmp rfl)) rfl rfl ?_
      refine op_pure (pu_err_neq (OT.tmp rfl) Tryd.underlying70) rfl rfl ?_
      refine op_pure (pu_move (OT.tmp rfl)) rfl rfl ?_
      refine op_gu rfl rfl rfl (OT.gu_mk (OT.tmp rfl)) (fun hg => by (have hg1 := hg.2; (try simp only [decide_eq_true_eq, decide_eq_false_iff_not] at hg1); exact pu_move (by exact OT.tmp rfl))) rfl ?_
      refine op_gu_acts () rfl rfl rfl (OT.gu_mk (OT.tmp rfl)) (fun hg => by (have hg1 := hg.2; (try simp only [decide_eq_true_eq, decide_eq_false_iff_not] at hg1); exact acts_callM (Itoa_ct hV (atoiV l) (atoiV_bounds l).1 (atoiV_bounds l).2) (mk_in hK hn) (show enters Tryd.prog 33 = true from by decide +kernel) (OTs.cons (by exact OT.gu (OT.tmp rfl) hg) OTs.nil) (List.Perm.refl _))) rfl (fun _ _ => ?_)
      refine op_gu rfl rfl rfl (OT.gu_mk (OT.tmp rfl)) (fun hg => by (have hg1 := hg.2; (try simp only [decide_eq_true_eq, decide_eq_false_iff_not] at hg1); exact pu_move (by exact OT.tmp rfl))) rfl ?_
      refine op_gu rfl rfl rfl (OT.gu_mk (OT.tmp rfl)) (fun hg => by (have hg1 := hg.2; (try simp only [decide_eq_true_eq, decide_eq_false_iff_not] at hg1); exact pu_bs_neq (by exact OT.gu (OT.tmp rfl) hg) (by exact OT.gu (OT.tmp rfl) hg))) rfl ?_
      refine op_pure (pu_pick_or (OT.tmp rfl) (by exact OT.tmp rfl)) rfl rfl ?_
      refine tr_nil ?_
      refine then_normal ?_
      refine tr_cond (OT.tmp rfl) (fun c62 => ?_) (fun c62 => ?_)
      · skip
        have hr := parseR_none (l := l) (by unfold parseV; rw [if_neg hnt.1, if_neg hnt.2, if_neg (by rw [hq]; simp), if_neg (by intro h9; simp at c62 h9; rcases c62 with h | h; rw [h9.1] at h; cases h; exact h h9.2)])
        refine tr_seq ?_
        -- region 12
        refine tr_env (es_cons (t := 2) (OT.tmp rfl) es_nil) ?_
        refine tr_region ?_
        refine op_pure (pu_build (d := kVl) (v0 := (0, 0, [])) (ps := [(0, 1), (1, 1), (2, 1)]) zVl (by kernel_rfl) rfl fills_nil) rfl rfl ?_
        refine op_acts (acts_store_var (OT.tmp rfl) (OT.tmp rfl) (by exact perm_at 0 rfl) (show tyOk Tryd.prog 23 true 3 = true from by decide +kernel)) (by exact perm_at 0 rfl) rfl rfl (fun _ _ => ?_)
        refine op_pure (pu_assign OT.const) rfl rfl ?_
        refine tr_nil ?_
        refine then_normal ?_
        refine tr_ret ?_
        refine then_ret ?_
        exact ret_cell_tmp .ret (.inl rfl) rfl () (OT.tmp rfl) (by exact mem_at 0 rfl) (show tyOk Tryd.prog 23 true 3 = true from by decide +kernel) (OT.val (OT.tmp rfl) (congrArg (Value.int _) (congrArg Prod.snd hr).symm)) (fun _ _ h => (by rw [hr] at h ⊢; exact h)) trivial (by exact picks_nil)
      · skip
        have hr := parseR_some (l := l) (v := (1, atoiV l, [])) (by unfold parseV; rw [if_neg hnt.1, if_neg hnt.2, if_neg (by rw [hq]; simp), if_pos (by simp at c62 ⊢; exact c62)])
        refine tr_skip ?_
        refine then_normal ?_
        refine tr_seq ?_
        -- region 13
        refine tr_env (es_cons (t := 2) (OT.tmp rfl) (es_cons (t := 9) (OT.tmp rfl) es_nil)) ?_
        refine tr_region ?_
        refine op_pure (pu_move (OT.tmp rfl)) rfl rfl ?_
        refine op_pure (pu_build (d := kVl) (v0 := (0, 0, [])) (ps := [(0, 1), (1, 1), (2, 1)]) zVl (by kernel_rfl) rfl (fills_cons rfl lv0 OT.const (fills_cons rfl lv1 (OT.tmp rfl) fills_nil))) rfl rfl ?_
        refine op_acts (acts_store_var (OT.tmp rfl) (OT.tmp rfl) (by exact perm_at 0 rfl) (show tyOk Tryd.prog 23 true 3 = true from by decide +kernel)) (by exact perm_at 0 rfl) rfl rfl (fun _ _ => ?_)
        refine op_pure (pu_assign OT.const) rfl rfl ?_
        refine tr_nil ?_
        refine then_normal ?_
        refine tr_ret ?_
        exact ret_cell_tmp .ret (.inl rfl) rfl () (OT.tmp rfl) (by exact mem_at 0 rfl) (show tyOk Tryd.prog 23 true 3 = true from by decide +kernel) (OT.val (OT.tmp rfl) (congrArg (Value.int _) (congrArg Prod.snd hr).symm)) (fun _ _ h => (by rw [hr] at h ⊢; exact h)) trivial (by exact picks_nil)
end Go.Proofs.YtdlendioamiagaaDoor
/- Values of properties, plain: a rune as the document reads it. -/
namespace Go.Vl
open Go Go.Gw Go.Lib
set_option linter.unusedVariables false
set_option linter.unusedSimpArgs false
def bt (l : List UInt8) (j : Nat) : Nat := (l.getD j 0).toNat
theorem bt_lt (l : List UInt8) (j : Nat) : bt l j < 256 := (l.getD j 0).toNat_lt
/-- How many bytes, and which number; 0: none. -/
def refR (l : List UInt8) : Int × Int := if l = [] then (0, 0) else if badR l = true then (0, 0) else (((rune l).2 : Int), ((rune l).1 : Int))
def valN (n0 : Nat) (l : List UInt8) : Nat → Nat
  | 0 => n0
  | k + 1 => valN n0 l k * 64 + bt l (k + 1) - 128
def cont (l : List UInt8) (j : Nat) : Prop := 128 ≤ bt l j ∧ bt l j ≤ 191
theorem rune_bt (l : List UInt8) : rune l = decodeN l.length (bt l 0) (bt l 1) (bt l 2) (bt l 3) := decodeL_N l
theorem rune_asc {l : List UInt8} (h : bt l 0 < 128) : rune l = (bt l 0, 1) := by
  rw [rune_bt]; unfold decodeN; rw [if_pos h]
theorem rune_none {l : List UInt8} (h : 128 ≤ bt l 0) (h1 : bt l 0 < 194 ∨ 245 ≤ bt l 0) : rune l = (65533, 1) := by
  rw [rune_bt]; exact decodeN_bad _ _ _ _ _ (by have := bt_lt l 0; omega)
/-- A lead byte: size, its own part, the least number. -/
def cls (b sz n0 least : Nat) : Prop := (194 ≤ b ∧ b < 224 ∧ sz = 2 ∧ n0 = b - 192 ∧ least = 128) ∨ (224 ≤ b ∧ b < 240 ∧ sz = 3 ∧ n0 = b - 224 ∧ least = 2048) ∨ (240 ≤ b ∧ b < 245 ∧ sz = 4 ∧ n0 = b - 240 ∧ least = 65536)
theorem cls_short {l : List UInt8} {sz n0 least : Nat} (h : cls (bt l 0) sz n0 least) (hs : l.length < sz) : rune l = (65533, 1) := by
  rw [rune_bt]
  unfold decodeN
  rcases h with h | h | h
  all_goals (repeat' split)
  all_goals (first | rfl | omega)
theorem cls_cont {l : List UInt8} {sz n0 least j : Nat} (h : cls (bt l 0) sz n0 least) (h1 : 1 ≤ j) (hj : j < sz) (hc : ¬ cont l j) : rune l = (65533, 1) := by
  rw [rune_bt]
  unfold decodeN
  unfold cont at hc
  have hj4 : j = 1 ∨ j = 2 ∨ j = 3 := by unfold cls at h; omega
  have b1 := bt_lt l 1
  have b2 := bt_lt l 2
  have b3 := bt_lt l 3
  rcases h with h | h | h <;> rcases hj4 with rfl | rfl | rfl
  all_goals (repeat' split)
  all_goals (first | rfl | omega)
theorem cls_all {l : List UInt8} {sz n0 least : Nat} (h : cls (bt l 0) sz n0 least) (hs : sz ≤ l.length) (hc : ∀ j, 1 ≤ j → j < sz → cont l j) : rune l = if valN n0 l (sz - 1) < least ∨ 1114111 < valN n0 l (sz - 1) ∨ (55296 ≤ valN n0 l (sz - 1) ∧ valN n0 l (sz - 1) ≤ 57343) then (65533, 1) else (valN n0 l (sz - 1), sz) := by
  rw [rune_bt]
  unfold cont at hc
  rcases h with ⟨h1, h2, rfl, h4, rfl⟩ | ⟨h1, h2, rfl, h4, rfl⟩ | ⟨h1, h2, rfl, h4, rfl⟩
  · have c1 := hc 1 (by omega) (by omega)
    have hv : valN n0 l (2 - 1) = (bt l 0 - 192) * 64 + bt l 1 - 128 := by show n0 * 64 + bt l 1 - 128 = _; rw [h4]
    rw [hv]
    unfold decodeN
    rw [if_neg (by omega), if_pos ⟨by omega, by omega, by omega⟩, if_pos (by omega), if_neg (by omega)]
    refine Prod.ext ?_ rfl
    show _ = _
    omega
  · have c1 := hc 1 (by omega) (by omega)
    have c2 := hc 2 (by omega) (by omega)
    have hv : valN n0 l (3 - 1) = ((bt l 0 - 224) * 64 + bt l 1 - 128) * 64 + bt l 2 - 128 := by show (n0 * 64 + bt l 1 - 128) * 64 + bt l 2 - 128 = _; rw [h4]
    rw [hv]
    unfold decodeN
    rw [if_neg (by omega), if_neg (by omega), if_pos ⟨by omega, ⟨by omega, by omega⟩, by omega, by omega⟩]
    by_cases hb : ((bt l 0 - 224) * 64 + bt l 1 - 128) * 64 + bt l 2 - 128 < 2048 ∨ 1114111 < ((bt l 0 - 224) * 64 + bt l 1 - 128) * 64 + bt l 2 - 128 ∨ (55296 ≤ ((bt l 0 - 224) * 64 + bt l 1 - 128) * 64 + bt l 2 - 128 ∧ ((bt l 0 - 224) * 64 + bt l 1 - 128) * 64 + bt l 2 - 128 ≤ 57343)
    · rw [if_pos hb, if_neg (by omega)]
    · rw [if_neg hb, if_pos (by omega)]
      refine Prod.ext ?_ rfl
      show _ = _
      omega
  · have c1 := hc 1 (by omega) (by omega)
    have c2 := hc 2 (by omega) (by omega)
    have c3 := hc 3 (by omega) (by omega)
    have hv : valN n0 l (4 - 1) = (((bt l 0 - 240) * 64 + bt l 1 - 128) * 64 + bt l 2 - 128) * 64 + bt l 3 - 128 := by show ((n0 * 64 + bt l 1 - 128) * 64 + bt l 2 - 128) * 64 + bt l 3 - 128 = _; rw [h4]
    rw [hv]
    unfold decodeN
    rw [if_neg (by omega), if_neg (by omega), if_neg (by omega), if_pos ⟨by omega, ⟨by omega, by omega⟩, ⟨by omega, by omega⟩, by omega, by omega⟩]
    by_cases hb : (((bt l 0 - 240) * 64 + bt l 1 - 128) * 64 + bt l 2 - 128) * 64 + bt l 3 - 128 < 65536 ∨ 1114111 < (((bt l 0 - 240) * 64 + bt l 1 - 128) * 64 + bt l 2 - 128) * 64 + bt l 3 - 128 ∨ (55296 ≤ (((bt l 0 - 240) * 64 + bt l 1 - 128) * 64 + bt l 2 - 128) * 64 + bt l 3 - 128 ∧ (((bt l 0 - 240) * 64 + bt l 1 - 128) * 64 + bt l 2 - 128) * 64 + bt l 3 - 128 ≤ 57343)
    · rw [if_pos hb, if_neg (by omega)]
    · rw [if_neg hb, if_pos (by omega)]
      refine Prod.ext ?_ rfl
      show _ = _
      omega
theorem refR_bad {l : List UInt8} (h : rune l = (65533, 1)) : refR l = (0, 0) := by
  unfold refR badR
  rw [h]
  split
  · rfl
  · rw [if_pos (by decide)]
theorem refR_good {l : List UInt8} {n w : Nat} (hne : l ≠ []) (h : rune l = (n, w)) (hb : n ≠ 65533 ∨ w ≠ 1) : refR l = ((w : Int), (n : Int)) := by
  unfold refR badR
  rw [if_neg hne, h, if_neg (by simp only [decide_eq_true_eq]; omega)]
theorem valN_le {n0 : Nat} {l : List UInt8} (h : n0 < 32) : ∀ k, valN n0 l k + 3 ≤ 35 * 64 ^ k
  | 0 => by show n0 + 3 ≤ 35 * 1; omega
  | k + 1 => by
    have := valN_le (l := l) h k
    have hb := bt_lt l (k + 1)
    rw [Nat.pow_succ]
    show valN n0 l k * 64 + bt l (k + 1) - 128 + 3 ≤ _
    omega
theorem valN_small {n0 : Nat} {l : List UInt8} (h : n0 < 32) {k : Nat} (hk : k ≤ 3) : valN n0 l k ≤ 9175040 := by
  have h1 := valN_le (l := l) h k
  have h2 : 64 ^ k ≤ 64 ^ 3 := Nat.pow_le_pow_right (by omega) hk
  omega
theorem bt_drop {l : List UInt8} {i j : Nat} (h : i + j < l.length) : at' (nums l) (((i + j : Nat)) : Int) = (bt (l.drop i) j : Int) := by
  rw [at'_nat (by simpa using h)]
  unfold bt
  simp [List.getD_eq_getElem?_getD, h]
end Go.Vl
/- Walks through the Go functions rhizomeref02.Rune, as typed contracts. -/
namespace Go.Proofs.YtdlendioamiagaaDoor
open Go Go.Gw Go.Vl
set_option linter.unusedVariables false
set_option linter.unusedSimpArgs false

set_option maxRecDepth 20000 in
/-- rhizome/rhizomeref02.Rune -/
theorem rRune_fn (l : List UInt8) (i : Nat) (hl : l.length ≤ 1000000) (hi : i ≤ 1000000) : Ct Tryd.prog 41 [BsT l, I64 (i : Int)] ([]) Unit (fun _ => TupT [I64 (refR (l.drop i)).1, I64 (refR (l.drop i)).2]) (fun _ => []) (fun _ => True) := by
  refine fn_intro Tryd.func41 rfl rfl ?_
  intro H w
  refine tr_seq ?_
  -- region 0
  refine tr_env (es_cons (t := 0) (OT.tmp rfl) (es_cons (t := 1) (OT.tmp rfl) es_nil)) ?_
  refine tr_region ?_
  refine op_pure (pu_assign OT.const) rfl rfl ?_
  refine op_pure (pu_assign OT.const) rfl rfl ?_
  refine tr_nil ?_
  refine then_normal ?_
  refine tr_seq ?_
  refine tr_seq ?_
  -- region 1
  refine tr_env (es_cons (t := 0) (OT.tmp rfl) (es_cons (t := 1) (OT.tmp rfl) es_nil)) ?_
  refine tr_region ?_
  refine op_pure (pu_move (OT.tmp rfl)) rfl rfl ?_
  refine op_pure (pu_move (OT.tmp rfl)) rfl rfl ?_
  refine op_pure (pu_len_bs Tryd.underlying9 (OT.tmp rfl)) rfl rfl ?_
  refine op_pure (pu_geq (OT.tmp rfl) (OT.tmp rfl)) rfl rfl ?_
  refine tr_nil ?_
  refine then_normal ?_
  refine tr_cond (OT.tmp rfl) (fun c15 => ?_) (fun c15 => ?_)
  · skip
    have hr : refR (l.drop i) = (0, 0) := by rw [List.drop_of_length_le (by simp at c15; omega)]; rfl
    refine tr_seq ?_
    -- region 2
    refine tr_env es_nil ?_
    refine tr_region ?_
    refine op_pure (pu_assign OT.const) rfl rfl ?_
    refine op_pure (pu_assign OT.const) rfl rfl ?_
    refine tr_nil ?_
    refine then_normal ?_
    refine tr_ret ?_
    refine then_ret ?_
    exact ret_two .ret (.inl rfl) rfl () (OT.val (OT.tmp rfl) (congrArg (Value.int _) (congrArg Prod.fst hr).symm)) (OT.val (OT.tmp rfl) (congrArg (Value.int _) (congrArg Prod.snd hr).symm)) (fun _ _ h => h) trivial (by exact picks_nil)
  · skip
    have hil : i < l.length := by simp at c15; omega
    obtain ⟨l', hl'⟩ : ∃ l', l.drop i = l' := ⟨_, rfl⟩
    have hll : l'.length = l.length - i := by rw [← hl', List.length_drop]
    have hne : l' ≠ [] := fun e => by rw [e] at hll; simp at hll; omega
    have hb0 : at' (nums l) (i : Int) = (bt l' 0 : Int) := by rw [← hl']; exact bt_drop (j := 0) hil
    have hbl := bt_lt l' 0
    rw [hl']
    refine tr_skip ?_
    refine then_normal ?_
    refine tr_seq ?_
    -- region 3
    refine tr_env (es_cons (t := 0) (OT.tmp rfl) (es_cons (t := 1) (OT.tmp rfl) es_nil)) ?_
    refine tr_region ?_
    refine op_pure (pu_move (OT.tmp rfl)) rfl rfl ?_
    refine op_pure (pu_move (OT.tmp rfl)) rfl rfl ?_
    refine op_pure (pu_bs_index (OT.tmp rfl) (OT.tmp rfl) Tryd.underlying9 (by omega) (by omega)) rfl rfl ?_
    refine op_pure (pu_convert' (OT.tmp rfl) Tryd.underlying5 Tryd.underlying3 (by omega) (by omega) rfl) rfl rfl ?_
    refine op_pure (pu_assign (OT.tmp rfl)) rfl rfl ?_
    refine tr_nil ?_
    refine then_normal ?_
    refine tr_seq ?_
    -- region 4
    refine tr_env (es_cons (t := 0) (OT.tmp rfl) (es_cons (t := 1) (OT.tmp rfl) (es_cons (t := 6) (OT.tmp rfl) es_nil))) ?_
    rw [hb0]
    refine tr_region ?_
    refine op_pure (pu_move (OT.tmp rfl)) rfl rfl ?_
    refine op_pure (pu_assign OT.const) rfl rfl ?_
    refine op_pure (pu_assign (OT.tmp rfl)) rfl rfl ?_
    refine op_pure (pu_assign OT.const) rfl rfl ?_
    refine tr_nil ?_
    refine then_normal ?_
    refine tr_joinK (σ := Nat × Nat × Nat) (es_cons (t := 0) (OT.tmp rfl) (es_cons (t := 1) (OT.tmp rfl) es_nil)) (fun s => [(7, I64 (s.1 : Int)), (8, I64 (s.2.1 : Int)), (9, I64 (s.2.2 : Int))]) (fun s => []) (fun s => cls (bt l' 0) s.1 s.2.1 s.2.2) ?_ ?_
    · skip
      refine tr_block ?_
      refine tr_seq ?_
      -- region 6
      refine tr_env (es_cons (t := 0) (OT.tmp rfl) (es_cons (t := 1) (OT.tmp rfl) (es_cons (t := 6) (OT.tmp rfl) es_nil))) ?_
      refine tr_region ?_
      refine op_pure (pu_move (OT.tmp rfl)) rfl rfl ?_
      refine op_pure (pu_lss (OT.tmp rfl) OT.const) rfl rfl ?_
      refine op_pure (pu_assign (OT.tmp rfl)) rfl rfl ?_
      refine tr_nil ?_
      refine then_normal ?_
      refine tr_cond (OT.tmp rfl) (fun c21 => ?_) (fun c21 => ?_)
      · skip
        have hr := refR_good hne (rune_asc (l := l') (by simp at c21; omega)) (.inl (by simp at c21; omega))
        refine tr_seq ?_
        -- region 7
        refine tr_env (es_cons (t := 6) (OT.tmp rfl) es_nil) ?_
        refine tr_region ?_
        refine op_pure (pu_move (OT.tmp rfl)) rfl rfl ?_
        refine op_pure (pu_assign OT.const) rfl rfl ?_
        refine op_pure (pu_assign (OT.tmp rfl)) rfl rfl ?_
        refine tr_nil ?_
        refine then_normal ?_
        refine tr_ret ?_
        refine block_ret ?_
        refine then_ret ?_
        exact ret_two .ret (.inl rfl) rfl () (OT.val (OT.tmp rfl) (congrArg (Value.int _) (congrArg Prod.fst hr).symm)) (OT.val (OT.tmp rfl) (congrArg (Value.int _) (congrArg Prod.snd hr).symm)) (fun _ _ h => h) trivial (by exact picks_nil)
      · skip
        refine tr_seq ?_
        -- region 8
        refine tr_env (es_cons (t := 0) (OT.tmp rfl) (es_cons (t := 1) (OT.tmp rfl) (es_cons (t := 6) (OT.tmp rfl) es_nil))) ?_
        refine tr_region ?_
        refine op_pure (pu_move (OT.tmp rfl)) rfl rfl ?_
        refine op_pure (pu_geq (OT.tmp rfl) OT.const) rfl rfl ?_
        refine op_pure (pu_move (OT.tmp rfl)) rfl rfl ?_
        refine op_gu rfl rfl rfl (OT.gu_mk (OT.tmp rfl)) (fun hg => by (have hg1 := hg.2; (try simp only [decide_eq_true_eq, decide_eq_false_iff_not] at hg1); exact pu_move (by exact OT.tmp rfl))) rfl ?_
        refine op_gu rfl rfl rfl (OT.gu_mk (OT.tmp rfl)) (fun hg => by (have hg1 := hg.2; (try simp only [decide_eq_true_eq, decide_eq_false_iff_not] at hg1); exact pu_lss (by exact OT.gu (OT.tmp rfl) hg) OT.const)) rfl ?_
        refine op_pure (pu_pick_and (OT.tmp rfl) (by exact OT.tmp rfl)) rfl rfl ?_
        refine op_pure (pu_assign (OT.tmp rfl)) rfl rfl ?_
        refine tr_nil ?_
        refine then_normal ?_
        refine tr_cond (OT.tmp rfl) (fun c25 => ?_) (fun c25 => ?_)
        · skip
          -- region 9
          refine tr_env (es_cons (t := 0) (OT.tmp rfl) (es_cons (t := 1) (OT.tmp rfl) (es_cons (t := 6) (OT.tmp rfl) es_nil))) ?_
          refine tr_region ?_
          refine op_pure (pu_move (OT.tmp rfl)) rfl rfl ?_
          refine op_pure (pu_sub' (OT.tmp rfl) OT.const (by omega)) rfl rfl ?_
          refine op_pure (pu_assign OT.const) rfl rfl ?_
          refine op_pure (pu_assign (OT.tmp rfl)) rfl rfl ?_
          refine op_pure (pu_assign OT.const) rfl rfl ?_
          refine tr_nil ?_
          refine block_normal ?_
          refine then_normal ?_
          exact tr_joined (2, bt l' 0 - 192, 128) (by unfold cls; simp at c25; simp; omega) (es_append (es_cons (t := 7) (OT.tmp rfl) (es_cons (t := 8) (OT.val (OT.tmp rfl) (congrArg (Value.int _) (by simp at c25; show _ = ((bt l' 0 - 192 : Nat) : Int); omega))) (es_cons (t := 9) (OT.tmp rfl) es_nil))) (es_cons (t := 0) (OT.tmp rfl) (es_cons (t := 1) (OT.tmp rfl) es_nil))) (own_picks (by exact picks_nil))
        · skip
          refine tr_seq ?_
          -- region 10
          refine tr_env (es_cons (t := 0) (OT.tmp rfl) (es_cons (t := 1) (OT.tmp rfl) (es_cons (t := 6) (OT.tmp rfl) es_nil))) ?_
          refine tr_region ?_
          refine op_pure (pu_move (OT.tmp rfl)) rfl rfl ?_
          refine op_pure (pu_geq (OT.tmp rfl) OT.const) rfl rfl ?_
          refine op_pure (pu_move (OT.tmp rfl)) rfl rfl ?_
          refine op_gu rfl rfl rfl (OT.gu_mk (OT.tmp rfl)) (fun hg => by (have hg1 := hg.2; (try simp only [decide_eq_true_eq, decide_eq_false_iff_not] at hg1); exact pu_move (by exact OT.tmp rfl))) rfl ?_
          refine op_gu rfl rfl rfl (OT.gu_mk (OT.tmp rfl)) (fun hg => by (have hg1 := hg.2; (try simp only [decide_eq_true_eq, decide_eq_false_iff_not] at hg1); exact pu_lss (by exact OT.gu (OT.tmp rfl) hg) OT.const)) rfl ?_
          refine op_pure (pu_pick_and (OT.tmp rfl) (by exact OT.tmp rfl)) rfl rfl ?_
          refine op_pure (pu_assign (OT.tmp rfl)) rfl rfl ?_
          refine tr_nil ?_
          refine then_normal ?_
          refine tr_cond (OT.tmp rfl) (fun c34 => ?_) (fun c34 => ?_)
          · skip
            -- region 11
            refine tr_env (es_cons (t := 0) (OT.tmp rfl) (es_cons (t := 1) (OT.tmp rfl) (es_cons (t := 6) (OT.tmp rfl) es_nil))) ?_
            refine tr_region ?_
            refine op_pure (pu_move (OT.tmp rfl)) rfl rfl ?_
            refine op_pure (pu_sub' (OT.tmp rfl) OT.const (by omega)) rfl rfl ?_
            refine op_pure (pu_assign OT.const) rfl rfl ?_
            refine op_pure (pu_assign (OT.tmp rfl)) rfl rfl ?_
            refine op_pure (pu_assign OT.const) rfl rfl ?_
            refine tr_nil ?_
            refine block_normal ?_
            refine then_normal ?_
            exact tr_joined (3, bt l' 0 - 224, 2048) (by unfold cls; simp at c34; simp; omega) (es_append (es_cons (t := 7) (OT.tmp rfl) (es_cons (t := 8) (OT.val (OT.tmp rfl) (congrArg (Value.int _) (by simp at c34; show _ = ((bt l' 0 - 224 : Nat) : Int); omega))) (es_cons (t := 9) (OT.tmp rfl) es_nil))) (es_cons (t := 0) (OT.tmp rfl) (es_cons (t := 1) (OT.tmp rfl) es_nil))) (own_picks (by exact picks_nil))
          · skip
            refine tr_seq ?_
            -- region 12
            refine tr_env (es_cons (t := 0) (OT.tmp rfl) (es_cons (t := 1) (OT.tmp rfl) (es_cons (t := 6) (OT.tmp rfl) es_nil))) ?_
            refine tr_region ?_
            refine op_pure (pu_move (OT.tmp rfl)) rfl rfl ?_
            refine op_pure (pu_geq (OT.tmp rfl) OT.const) rfl rfl ?_
            refine op_pure (pu_move (OT.tmp rfl)) rfl rfl ?_
            refine op_gu rfl rfl rfl (OT.gu_mk (OT.tmp rfl)) (fun hg => by (have hg1 := hg.2; (try simp only [decide_eq_true_eq, decide_eq_false_iff_not] at hg1); exact pu_move (by exact OT.tmp rfl))) rfl ?_
            refine op_gu rfl rfl rfl (OT.gu_mk (OT.tmp rfl)) (fun hg => by (have hg1 := hg.2; (try simp only [decide_eq_true_eq, decide_eq_false_iff_not] at hg1); exact pu_lss (by exact OT.gu (OT.tmp rfl) hg) OT.const)) rfl ?_
            refine op_pure (pu_pick_and (OT.tmp rfl) (by exact OT.tmp rfl)) rfl rfl ?_
            refine op_pure (pu_assign (OT.tmp rfl)) rfl rfl ?_
            refine tr_nil ?_
            refine then_normal ?_
            refine tr_cond (OT.tmp rfl) (fun c43 => ?_) (fun c43 => ?_)
            · skip
              -- region 13
              refine tr_env (es_cons (t := 0) (OT.tmp rfl) (es_cons (t := 1) (OT.tmp rfl) (es_cons (t := 6) (OT.tmp rfl) es_nil))) ?_
              refine tr_region ?_
              refine op_pure (pu_move (OT.tmp rfl)) rfl rfl ?_
              refine op_pure (pu_sub' (OT.tmp rfl) OT.const (by omega)) rfl rfl ?_
              refine op_pure (pu_assign OT.const) rfl rfl ?_
              refine op_pure (pu_assign (OT.tmp rfl)) rfl rfl ?_
              refine op_pure (pu_assign OT.const) rfl rfl ?_
              refine tr_nil ?_
              refine block_normal ?_
              refine then_normal ?_
              exact tr_joined (4, bt l' 0 - 240, 65536) (by unfold cls; simp at c43; simp; omega) (es_append (es_cons (t := 7) (OT.tmp rfl) (es_cons (t := 8) (OT.val (OT.tmp rfl) (congrArg (Value.int _) (by simp at c43; show _ = ((bt l' 0 - 240 : Nat) : Int); omega))) (es_cons (t := 9) (OT.tmp rfl) es_nil))) (es_cons (t := 0) (OT.tmp rfl) (es_cons (t := 1) (OT.tmp rfl) es_nil))) (own_picks (by exact picks_nil))
            · skip
              refine tr_seq ?_
              -- region 5
              refine tr_env es_nil ?_
              have hr := refR_bad (rune_none (l := l') (by simp at c21; omega) (by simp at c25 c34 c43; omega))
              refine tr_region ?_
              refine op_pure (pu_assign OT.const) rfl rfl ?_
              refine op_pure (pu_assign OT.const) rfl rfl ?_
              refine tr_nil ?_
              refine then_normal ?_
              refine tr_ret ?_
              refine block_ret ?_
              refine then_ret ?_
              exact ret_two .ret (.inl rfl) rfl () (OT.val (OT.tmp rfl) (congrArg (Value.int _) (congrArg Prod.fst hr).symm)) (OT.val (OT.tmp rfl) (congrArg (Value.int _) (congrArg Prod.snd hr).symm)) (fun _ _ h => h) trivial (by exact picks_nil)
    · rintro ⟨sz, n0, least⟩ hcl
      dsimp only at hcl ⊢
      refine tr_seq ?_
      refine tr_seq ?_
      -- region 14
      refine tr_env (es_cons (t := 0) (OT.tmp rfl) (es_cons (t := 1) (OT.tmp rfl) (es_cons (t := 7) (OT.tmp rfl) (es_cons (t := 8) (OT.tmp rfl) (es_cons (t := 9) (OT.tmp rfl) es_nil))))) ?_
      have hsz : 2 ≤ sz ∧ sz ≤ 4 ∧ n0 < 32 := by unfold cls at hcl; omega
      refine tr_region ?_
      refine op_pure (pu_move (OT.tmp rfl)) rfl rfl ?_
      refine op_pure (pu_move (OT.tmp rfl)) rfl rfl ?_
      refine op_pure (pu_add' (OT.tmp rfl) (OT.tmp rfl) (by omega)) rfl rfl ?_
      refine op_pure (pu_move (OT.tmp rfl)) rfl rfl ?_
      refine op_pure (pu_len_bs Tryd.underlying9 (OT.tmp rfl)) rfl rfl ?_
      refine op_pure (pu_gtr (OT.tmp rfl) (OT.tmp rfl)) rfl rfl ?_
      refine tr_nil ?_
      refine then_normal ?_
      refine tr_cond (OT.tmp rfl) (fun c57 => ?_) (fun c57 => ?_)
      · skip
        have hr := refR_bad (cls_short hcl (by simp at c57; omega))
        refine tr_seq ?_
        -- region 15
        refine tr_env es_nil ?_
        refine tr_region ?_
        refine op_pure (pu_assign OT.const) rfl rfl ?_
        refine op_pure (pu_assign OT.const) rfl rfl ?_
        refine tr_nil ?_
        refine then_normal ?_
        refine tr_ret ?_
        refine then_ret ?_
        exact ret_two .ret (.inl rfl) rfl () (OT.val (OT.tmp rfl) (congrArg (Value.int _) (congrArg Prod.fst hr).symm)) (OT.val (OT.tmp rfl) (congrArg (Value.int _) (congrArg Prod.snd hr).symm)) (fun _ _ h => h) trivial (by exact picks_nil)
      · skip
        have hsl : sz ≤ l'.length := by simp at c57; omega
        refine tr_skip ?_
        refine then_normal ?_
        refine tr_seq ?_
        refine tr_seq ?_
        -- region 16
        refine tr_env (es_cons (t := 0) (OT.tmp rfl) (es_cons (t := 1) (OT.tmp rfl) (es_cons (t := 7) (OT.tmp rfl) (es_cons (t := 8) (OT.tmp rfl) (es_cons (t := 9) (OT.tmp rfl) es_nil))))) ?_
        refine tr_region ?_
        refine op_pure (pu_assign OT.const) rfl rfl ?_
        refine tr_nil ?_
        refine then_normal ?_
        refine tr_block ?_
        refine tr_loopK (σ := Nat) (es_cons (t := 0) (OT.tmp rfl) (es_cons (t := 1) (OT.tmp rfl) (es_cons (t := 7) (OT.tmp rfl) (es_cons (t := 9) (OT.tmp rfl) es_nil)))) (fun j => [(10, I64 ((j : Int) + 1)), (8, I64 (valN n0 l' j : Int))]) (fun j => []) (fun j => j + 1 ≤ sz ∧ ∀ k, 1 ≤ k → k ≤ j → cont l' k) (fun j => sz - j) 0 ⟨by omega, fun k h1 h2 => by omega⟩ ?_ (own_picks (by exact picks_nil)) ?_
        · exact (es_cons (t := 10) (OT.tmp rfl) (es_cons (t := 8) (OT.tmp rfl) es_nil))
        · rintro j ⟨hj, hc⟩
          refine tr_seq ?_
          refine tr_seq ?_
          -- region 17
          refine tr_env (es_cons (t := 0) (OT.tmp rfl) (es_cons (t := 1) (OT.tmp rfl) (es_cons (t := 7) (OT.tmp rfl) (es_cons (t := 8) (OT.tmp rfl) (es_cons (t := 9) (OT.tmp rfl) (es_cons (t := 10) (OT.tmp rfl) es_nil)))))) ?_
          refine tr_region ?_
          refine op_pure (pu_move (OT.tmp rfl)) rfl rfl ?_
          refine op_pure (pu_move (OT.tmp rfl)) rfl rfl ?_
          refine op_pure (pu_lss (OT.tmp rfl) (OT.tmp rfl)) rfl rfl ?_
          refine tr_nil ?_
          refine then_normal ?_
          refine tr_cond (OT.tmp rfl) (fun c60 => ?_) (fun c60 => ?_)
          · skip
            refine tr_skip ?_
            refine then_normal ?_
            refine tr_seq ?_
            refine tr_block ?_
            refine tr_seq ?_
            -- region 19
            refine tr_env (es_cons (t := 0) (OT.tmp rfl) (es_cons (t := 1) (OT.tmp rfl) (es_cons (t := 7) (OT.tmp rfl) (es_cons (t := 8) (OT.tmp rfl) (es_cons (t := 9) (OT.tmp rfl) (es_cons (t := 10) (OT.tmp rfl) es_nil)))))) ?_
            have hjs : j + 1 < sz := by simp at c60; omega
            have hbj : at' (nums l) ((i : Int) + ((j : Int) + 1)) = (bt l' (j + 1) : Int) := by
              have h9 := bt_drop (l := l) (i := i) (j := j + 1) (by omega)
              rw [hl'] at h9
              rw [← h9]; congr 1
            have hvs := valN_small (n0 := n0) (l := l') hsz.2.2 (k := j) (by omega)
            have hbt := bt_lt l' (j + 1)
            refine tr_region ?_
            refine op_pure (pu_move (OT.tmp rfl)) rfl rfl ?_
            refine op_pure (pu_move (OT.tmp rfl)) rfl rfl ?_
            refine op_pure (pu_move (OT.tmp rfl)) rfl rfl ?_
            refine op_pure (pu_add' (OT.tmp rfl) (OT.tmp rfl) (by omega)) rfl rfl ?_
            refine op_pure (pu_bs_index (OT.tmp rfl) (OT.tmp rfl) Tryd.underlying9 (by omega) (by omega)) rfl rfl ?_
            refine op_pure (pu_convert' (OT.tmp rfl) Tryd.underlying5 Tryd.underlying3 (by omega) (by omega) rfl) rfl rfl ?_
            refine op_pure (pu_assign (OT.tmp rfl)) rfl rfl ?_
            refine tr_nil ?_
            refine then_normal ?_
            refine tr_seq ?_
            refine tr_seq ?_
            -- region 20
            refine tr_env (es_cons (t := 0) (OT.tmp rfl) (es_cons (t := 1) (OT.tmp rfl) (es_cons (t := 7) (OT.tmp rfl) (es_cons (t := 8) (OT.tmp rfl) (es_cons (t := 9) (OT.tmp rfl) (es_cons (t := 10) (OT.tmp rfl) (es_cons (t := 11) (OT.tmp rfl) es_nil))))))) ?_
            rw [hbj]
            refine tr_region ?_
            refine op_pure (pu_move (OT.tmp rfl)) rfl rfl ?_
            refine op_pure (pu_lss (OT.tmp rfl) OT.const) rfl rfl ?_
            refine op_pure (pu_move (OT.tmp rfl)) rfl rfl ?_
            refine op_gu rfl rfl rfl (OT.gu_mk (OT.tmp rfl)) (fun hg => by (have hg1 := hg.2; (try simp only [decide_eq_true_eq, decide_eq_false_iff_not] at hg1); exact pu_move (by exact OT.tmp rfl))) rfl ?_
            refine op_gu rfl rfl rfl (OT.gu_mk (OT.tmp rfl)) (fun hg => by (have hg1 := hg.2; (try simp only [decide_eq_true_eq, decide_eq_false_iff_not] at hg1); exact pu_gtr (by exact OT.gu (OT.tmp rfl) hg) OT.const)) rfl ?_
            refine op_pure (pu_pick_or (OT.tmp rfl) (by exact OT.tmp rfl)) rfl rfl ?_
            refine tr_nil ?_
            refine then_normal ?_
            refine tr_cond (OT.tmp rfl) (fun c74 => ?_) (fun c74 => ?_)
            · skip
              have hr := refR_bad (cls_cont hcl (j := j + 1) (by omega) hjs (by unfold cont; simp at c74; omega))
              refine tr_seq ?_
              -- region 21
              refine tr_env es_nil ?_
              refine tr_region ?_
              refine op_pure (pu_assign OT.const) rfl rfl ?_
              refine op_pure (pu_assign OT.const) rfl rfl ?_
              refine tr_nil ?_
              refine then_normal ?_
              refine tr_ret ?_
              refine then_ret ?_
              refine block_ret ?_
              refine then_ret ?_
              refine then_ret ?_
              refine block_ret ?_
              refine then_ret ?_
              exact ret_two .ret (.inl rfl) rfl () (OT.val (OT.tmp rfl) (congrArg (Value.int _) (congrArg Prod.fst hr).symm)) (OT.val (OT.tmp rfl) (congrArg (Value.int _) (congrArg Prod.snd hr).symm)) (fun _ _ h => h) trivial (by exact picks_nil)
            · skip
              have hcj : cont l' (j + 1) := by unfold cont; simp at c74; omega
              have hcj2 := hcj.1
              refine tr_skip ?_
              refine then_normal ?_
              -- region 22
              refine tr_env (es_cons (t := 0) (OT.tmp rfl) (es_cons (t := 1) (OT.tmp rfl) (es_cons (t := 7) (OT.tmp rfl) (es_cons (t := 8) (OT.tmp rfl) (es_cons (t := 9) (OT.tmp rfl) (es_cons (t := 10) (OT.tmp rfl) (es_cons (t := 11) (OT.tmp rfl) es_nil))))))) ?_
              refine tr_region ?_
              refine op_pure (pu_move (OT.tmp rfl)) rfl rfl ?_
              refine op_pure (pu_mul' (OT.tmp rfl) OT.const (by omega)) rfl rfl ?_
              refine op_pure (pu_move (OT.tmp rfl)) rfl rfl ?_
              refine op_pure (pu_add' (OT.tmp rfl) (OT.tmp rfl) (by omega)) rfl rfl ?_
              refine op_pure (pu_sub' (OT.tmp rfl) OT.const (by omega)) rfl rfl ?_
              refine op_pure (pu_assign (OT.tmp rfl)) rfl rfl ?_
              refine tr_nil ?_
              refine block_normal ?_
              refine then_normal ?_
              -- region 18
              refine tr_env (es_cons (t := 0) (OT.tmp rfl) (es_cons (t := 1) (OT.tmp rfl) (es_cons (t := 7) (OT.tmp rfl) (es_cons (t := 8) (OT.tmp rfl) (es_cons (t := 9) (OT.tmp rfl) (es_cons (t := 10) (OT.tmp rfl) es_nil)))))) ?_
              refine tr_region ?_
              refine op_pure (pu_move (OT.tmp rfl)) rfl rfl ?_
              refine op_pure (pu_add' (OT.tmp rfl) OT.const (by omega)) rfl rfl ?_
              refine op_pure (pu_assign (OT.tmp rfl)) rfl rfl ?_
              refine tr_nil ?_
              refine then_normal ?_
              exact tr_again (j + 1) ⟨by omega, fun k h1 h2 => by rcases Nat.lt_or_ge k (j + 1) with h | h; exact hc k h1 (by omega); rw [show k = j + 1 from by omega]; exact hcj⟩ (by omega) (es_append (es_cons (t := 10) (OT.tmp rfl) (es_cons (t := 8) (OT.val (OT.tmp rfl) (congrArg (Value.int _) (show _ = ((valN n0 l' j * 64 + bt l' (j + 1) - 128 : Nat) : Int) from by omega))) es_nil)) (es_cons (t := 0) (OT.tmp rfl) (es_cons (t := 1) (OT.tmp rfl) (es_cons (t := 7) (OT.tmp rfl) (es_cons (t := 9) (OT.tmp rfl) es_nil))))) (own_picks (by exact picks_nil))
          · skip
            refine tr_exit ?_
            refine then_exit ?_
            refine then_exit ?_
            refine block_hit ?_
            refine then_normal ?_
            refine tr_seq ?_
            refine tr_seq ?_
            -- region 23
            refine tr_env (es_cons (t := 7) (OT.tmp rfl) (es_cons (t := 8) (OT.tmp rfl) (es_cons (t := 9) (OT.tmp rfl) es_nil))) ?_
            obtain rfl : j = sz - 1 := by simp at c60; omega
            have hall := cls_all hcl hsl (fun k h1 h2 => hc k h1 (by omega))
            have hvs := valN_small (n0 := n0) (l := l') hsz.2.2 (k := sz - 1) (by omega)
            refine tr_region ?_
            refine op_pure (pu_move (OT.tmp rfl)) rfl rfl ?_
            refine op_pure (pu_move (OT.tmp rfl)) rfl rfl ?_
            refine op_pure (pu_lss (OT.tmp rfl) (OT.tmp rfl)) rfl rfl ?_
            refine op_pure (pu_move (OT.tmp rfl)) rfl rfl ?_
            refine op_gu rfl rfl rfl (OT.gu_mk (OT.tmp rfl)) (fun hg => by (have hg1 := hg.2; (try simp only [decide_eq_true_eq, decide_eq_false_iff_not] at hg1); exact pu_move (by exact OT.tmp rfl))) rfl ?_
            refine op_gu rfl rfl rfl (OT.gu_mk (OT.tmp rfl)) (fun hg => by (have hg1 := hg.2; (try simp only [decide_eq_true_eq, decide_eq_false_iff_not] at hg1); exact pu_gtr (by exact OT.gu (OT.tmp rfl) hg) OT.const)) rfl ?_
            refine op_pure (pu_pick_or (OT.tmp rfl) (by exact OT.tmp rfl)) rfl rfl ?_
            refine op_pure (pu_move (OT.tmp rfl)) rfl rfl ?_
            refine op_gu rfl rfl rfl (OT.gu_mk (OT.tmp rfl)) (fun hg => by (have hg1 := hg.2; (try simp only [decide_eq_true_eq, decide_eq_false_iff_not] at hg1); exact pu_move (by exact OT.tmp rfl))) rfl ?_
            refine op_gu rfl rfl rfl (OT.gu_mk (OT.tmp rfl)) (fun hg => by (have hg1 := hg.2; (try simp only [decide_eq_true_eq, decide_eq_false_iff_not] at hg1); exact pu_geq (by exact OT.gu (OT.tmp rfl) hg) OT.const)) rfl ?_
            refine op_gu rfl rfl rfl (OT.gu_mk (OT.tmp rfl)) (fun hg => by (have hg1 := hg.2; (try simp only [decide_eq_true_eq, decide_eq_false_iff_not] at hg1); exact pu_move (by exact OT.gu (OT.tmp rfl) hg))) rfl ?_
            refine op_gu rfl rfl rfl (OT.tmp rfl) (fun hg => by (have hg1 := hg.2; (try simp only [decide_eq_true_eq, decide_eq_false_iff_not] at hg1); exact pu_move (by exact OT.tmp rfl))) rfl ?_
            refine op_gu rfl rfl rfl (OT.tmp rfl) (fun hg => by (have hg1 := hg.2; (try simp only [decide_eq_true_eq, decide_eq_false_iff_not] at hg1); exact pu_leq (by exact OT.gu (OT.tmp rfl) hg) OT.const)) rfl ?_
            refine op_gu rfl rfl rfl (OT.gu_mk (OT.tmp rfl)) (fun hg => by (have hg1 := hg.2; (try simp only [decide_eq_true_eq, decide_eq_false_iff_not] at hg1); exact pu_pick_and_p hg (by exact OT.gu (OT.tmp rfl) hg) (OT.tmp rfl))) rfl ?_
            refine op_pure (pu_pick_or (OT.tmp rfl) (by exact OT.tmp rfl)) rfl rfl ?_
            refine tr_nil ?_
            refine then_normal ?_
            refine tr_cond (OT.tmp rfl) (fun c94 => ?_) (fun c94 => ?_)
            · skip
              have hr := refR_bad (by rw [hall, if_pos (by simp at c94; omega)])
              refine tr_seq ?_
              -- region 24
              refine tr_env es_nil ?_
              refine tr_region ?_
              refine op_pure (pu_assign OT.const) rfl rfl ?_
              refine op_pure (pu_assign OT.const) rfl rfl ?_
              refine tr_nil ?_
              refine then_normal ?_
              refine tr_ret ?_
              refine then_ret ?_
              exact ret_two .ret (.inl rfl) rfl () (OT.val (OT.tmp rfl) (congrArg (Value.int _) (congrArg Prod.fst hr).symm)) (OT.val (OT.tmp rfl) (congrArg (Value.int _) (congrArg Prod.snd hr).symm)) (fun _ _ h => h) trivial (by exact picks_nil)
            · skip
              have hr := refR_good hne (by rw [hall, if_neg (by simp at c94; omega)]) (.inr (by omega))
              refine tr_skip ?_
              refine then_normal ?_
              refine tr_seq ?_
              -- region 25
              refine tr_env (es_cons (t := 7) (OT.tmp rfl) (es_cons (t := 8) (OT.tmp rfl) es_nil)) ?_
              refine tr_region ?_
              refine op_pure (pu_move (OT.tmp rfl)) rfl rfl ?_
              refine op_pure (pu_move (OT.tmp rfl)) rfl rfl ?_
              refine op_pure (pu_assign (OT.tmp rfl)) rfl rfl ?_
              refine op_pure (pu_assign (OT.tmp rfl)) rfl rfl ?_
              refine tr_nil ?_
              refine then_normal ?_
              refine tr_ret ?_
              exact ret_two .ret (.inl rfl) rfl () (OT.val (OT.tmp rfl) (congrArg (Value.int _) (congrArg Prod.fst hr).symm)) (OT.val (OT.tmp rfl) (congrArg (Value.int _) (congrArg Prod.snd hr).symm)) (fun _ _ h => h) trivial (by exact picks_nil)
end Go.Proofs.YtdlendioamiagaaDoor
/- Values of properties, plain: the document's steps through a text, its digits. -/
namespace Go.Vl
open Go Go.Gw Go.Lib
set_option linter.unusedVariables false
set_option linter.unusedSimpArgs false
theorem refR_cases {l : List UInt8} (h : l ≠ []) : (badR l = true ∧ refR l = (0, 0)) ∨ (badR l = false ∧ refR l = (((rune l).2 : Int), ((rune l).1 : Int)) ∧ 1 ≤ (rune l).2 ∧ (rune l).2 ≤ l.length) := by
  cases hb : badR l with
  | true => exact .inl ⟨rfl, by unfold refR; rw [if_neg h, if_pos hb]⟩
  | false => exact .inr ⟨rfl, by unfold refR; rw [if_neg h, hb]; simp, rune_w h⟩
theorem drop_ne {l : List UInt8} {i : Nat} (h : i < l.length) : l.drop i ≠ [] := fun e => by have := congrArg List.length e; simp at this; omega
/-! ### decimal digits, of any number -/
def DigInv (n k : Nat) (s : List UInt8) : Prop := (k = 0 ∧ s = decDigits n) ∨ (0 < k ∧ decDigits n = decDigits k ++ s)
theorem dig_start {n : Nat} (h : 0 < n) : DigInv n n [] := .inr ⟨h, by simp⟩
theorem dig_next {n k : Nat} {s : List UInt8} (h : DigInv n k s) (hk : 0 < k) : DigInv n (k / 10) (UInt8.ofNat (48 + k % 10) :: s) := by
  rcases h with ⟨h, _⟩ | ⟨_, h⟩
  · omega
  · have e : decDigits k = if h : k < 10 then [UInt8.ofNat (48 + k)] else decDigits (k / 10) ++ [UInt8.ofNat (48 + k % 10)] := by conv => lhs; rw [decDigits]
    rw [e] at h
    split at h
    · rename_i h10
      rw [show k / 10 = 0 from by omega, show k % 10 = k from by omega]
      exact .inl ⟨rfl, by rw [h]; rfl⟩
    · exact .inr ⟨by omega, by rw [h]; simp⟩
theorem dig_end {n : Nat} {s : List UInt8} (h : DigInv n 0 s) : s = decDigits n := by
  rcases h with ⟨_, h⟩ | ⟨h, _⟩
  · exact h
  · omega
theorem nDig_le : ∀ (k u : Nat), u < 10 ^ (k + 1) → nDigits u ≤ k + 1
  | 0, u, h => by rw [nDigits_small (by simpa using h)]; omega
  | k + 1, u, h => by
    by_cases h1 : u < 10
    · rw [nDigits_small h1]; omega
    · rw [nDigits_big h1]
      have : u / 10 < 10 ^ (k + 1) := by rw [Nat.pow_succ] at h; omega
      have := nDig_le k (u / 10) this
      omega
theorem dig_len {n k : Nat} {s : List UInt8} (h : DigInv n k s) (hn : n ≤ 9223372036854775808) : s.length ≤ 19 := by
  have h1 : (decDigits n).length ≤ 19 := by rw [decDigits_length]; exact nDig_le 18 n (Nat.lt_of_le_of_lt hn (by decide))
  rcases h with ⟨_, h⟩ | ⟨_, h⟩
  · rw [h]; exact h1
  · rw [h, List.length_append] at h1; omega
/-- k, or -k. -/
def sgz (g : Bool) (k : Nat) : Int := if g then -(k : Int) else k
theorem sgz_mod (g : Bool) (k : Nat) : (sgz g k).tmod 10 = sgz g (k % 10) := by
  cases g
  · show ((k : Int)).tmod 10 = ((k % 10 : Nat) : Int)
    rw [Int.tmod_eq_emod_of_nonneg (by omega)]; omega
  · show (-(k : Int)).tmod 10 = -((k % 10 : Nat) : Int)
    rw [Int.neg_tmod, Int.tmod_eq_emod_of_nonneg (by omega)]; omega
theorem sgz_div (g : Bool) (k : Nat) : (sgz g k).tdiv 10 = sgz g (k / 10) := by
  cases g
  · show ((k : Int)).tdiv 10 = ((k / 10 : Nat) : Int)
    rw [Int.tdiv_eq_ediv_of_nonneg (by omega)]; omega
  · show (-(k : Int)).tdiv 10 = -((k / 10 : Nat) : Int)
    rw [Int.neg_tdiv, Int.tdiv_eq_ediv_of_nonneg (by omega)]; omega
theorem sgz_wrap {g : Bool} {k : Nat} (h : k ≤ 922337203685477580) : IntKind.i64.wrap (sgz g k) = sgz g k := by
  cases g <;> simp [sgz, IntKind.wrap, IntKind.bits, IntKind.signed] <;> omega
theorem sgz_of (n : Int) : n = sgz (decide (n < 0)) n.natAbs := by
  by_cases h : n < 0
  · rw [decide_eq_true h]; show n = -(n.natAbs : Int); omega
  · rw [decide_eq_false h]; show n = (n.natAbs : Int); omega
theorem itoa_sgz {g : Bool} {k : Nat} (h : 1 ≤ k) : itoa (sgz g k) = if g then 45 :: decDigits k else decDigits k := by
  cases g
  · exact itoa_nonneg k
  · exact itoa_neg k h
theorem dig_byte (k : Nat) : unnum [IntKind.u8.wrap (48 + ((k % 10 : Nat) : Int))] = [UInt8.ofNat (48 + k % 10)] := by
  rw [wrap8]
  show [UInt8.ofNat ((48 + ((k % 10 : Nat) : Int)) % 256).toNat] = _
  rw [show ((48 + ((k % 10 : Nat) : Int)) % 256).toNat = 48 + k % 10 from by omega]
/-! ### hexadecimal digits -/
theorem enc_byte {b : UInt8} (h : b.toNat < 128) : enc (b.toNat : Int) = [b] := by
  unfold enc encodeRune
  rw [encodeRuneZ_one (by omega) (by omega)]
  show [UInt8.ofNat (b.toNat : Int).toNat] = _
  simp
/-! ### a number's zigzag form, as the document has it -/
/-! ### one rune as it is shown, step by step -/
def o1 (c : Nat) : List UInt8 := if c = 34 ∨ c = 92 then 92 :: enc c else enc c
def o2 (c : Nat) : List UInt8 := if c < 32 ∨ c = 127 then [92, 117, 123] ++ hexL c ++ [125] else o1 c
/-! ### a rune's bytes, as the document has them -/
theorem ub {x : Int} (h0 : 0 ≤ x) (h1 : x < 256) : UInt8.ofNat (IntKind.u8.wrap x).toNat = x.toNat.toUInt8 := by
  rw [wrap8, Int.emod_eq_of_lt h0 h1]
theorem by1 {n : Int} (h0 : 0 ≤ n) (h : n < 128) : unnum [IntKind.u8.wrap n] = enc n := by
  unfold enc encodeRune
  rw [encodeRuneZ_one h0 (by omega)]
  show [UInt8.ofNat (IntKind.u8.wrap n).toNat] = [n.toNat.toUInt8]
  rw [ub (by omega) (by omega)]
theorem by2 {n : Int} (h0 : 128 ≤ n) (h : n < 2048) : unnum [IntKind.u8.wrap (192 + n / 64), IntKind.u8.wrap (128 + n % 64)] = enc n := by
  unfold enc encodeRune
  rw [encodeRuneZ_two h0 (by omega)]
  show [UInt8.ofNat (IntKind.u8.wrap (192 + n / 64)).toNat, UInt8.ofNat (IntKind.u8.wrap (128 + n % 64)).toNat] = [(192 + n / 64).toNat.toUInt8, (128 + n % 64).toNat.toUInt8]
  rw [ub (by omega) (by omega), ub (by omega) (by omega)]
theorem by3 {n : Int} (h : isRune n) (h0 : 2048 ≤ n) (h1 : n < 65536) : unnum [IntKind.u8.wrap (224 + n / 4096), IntKind.u8.wrap (128 + n / 64 % 64), IntKind.u8.wrap (128 + n % 64)] = enc n := by
  unfold enc encodeRune
  rw [encodeRuneZ_three (by omega)]
  show [UInt8.ofNat (IntKind.u8.wrap (224 + n / 4096)).toNat, UInt8.ofNat (IntKind.u8.wrap (128 + n / 64 % 64)).toNat, UInt8.ofNat (IntKind.u8.wrap (128 + n % 64)).toNat] = [(224 + n / 4096).toNat.toUInt8, (128 + n / 64 % 64).toNat.toUInt8, (128 + n % 64).toNat.toUInt8]
  rw [ub (by omega) (by omega), ub (by omega) (by omega), ub (by omega) (by omega)]
theorem by4 {n : Int} (h0 : 65536 ≤ n) (h1 : n ≤ 1114111) : unnum [IntKind.u8.wrap (240 + n / 262144), IntKind.u8.wrap (128 + n / 4096 % 64), IntKind.u8.wrap (128 + n / 64 % 64), IntKind.u8.wrap (128 + n % 64)] = enc n := by
  unfold enc encodeRune
  rw [encodeRuneZ_four (by omega) (by omega)]
  show [UInt8.ofNat (IntKind.u8.wrap (240 + n / 262144)).toNat, UInt8.ofNat (IntKind.u8.wrap (128 + n / 4096 % 64)).toNat, UInt8.ofNat (IntKind.u8.wrap (128 + n / 64 % 64)).toNat, UInt8.ofNat (IntKind.u8.wrap (128 + n % 64)).toNat] = [(240 + n / 262144).toNat.toUInt8, (128 + n / 4096 % 64).toNat.toUInt8, (128 + n / 64 % 64).toNat.toUInt8, (128 + n % 64).toNat.toUInt8]
  rw [ub (by omega) (by omega), ub (by omega) (by omega), ub (by omega) (by omega), ub (by omega) (by omega)]
end Go.Vl
