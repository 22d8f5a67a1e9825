/- Walks through the Go functions rhizomelaw10.TupleDiffs, as typed contracts. -/
import Derived.Test.YtloblpklkhepbaaTu14
import Derived.Test.YtloblpklkhepbaaG24
namespace Go.Proofs.Ytloblpklkhepbaa
open Go Go.Gw Go.So Go.Tu
set_option linter.unusedVariables false
set_option linter.unusedSimpArgs false
theorem diff_few {a b : List Tp} (h1 : Few a) (h2 : Few b) : Small (diffR a b).1.1 ∧ Small (diffR a b).1.2 := ⟨(Few.diff1 h1 h2).1.small, (Few.diff1 h1 h2).2.small⟩

set_option maxHeartbeats 1000000 in
set_option maxRecDepth 20000 in
/-- rhizome/rhizomelaw10.TupleDiffs -/
theorem TupleDiffs_fn (a b : List Tp) : Ct Try.prog 8 [SlT kT a, SlT kT b] ([]) Unit (fun _ => BoolT true) (fun _ => []) (fun _ => True) := by
  refine fn_intro Try.func8 rfl rfl ?_
  intro H w
  refine tr_seq ?_
  -- region 0
  refine tr_env (es_cons (t := 0) (OT.tmp rfl) (es_cons (t := 1) (OT.tmp rfl) es_nil)) ?_
  refine tr_region ?_
  refine op_pure (pu_assign OT.const) rfl rfl ?_
  refine tr_nil ?_
  refine then_normal ?_
  refine tr_seq ?_
  refine tr_seq ?_
  -- region 1
  refine tr_env (es_cons (t := 0) (OT.tmp rfl) (es_cons (t := 1) (OT.tmp rfl) es_nil)) ?_
  refine tr_region ?_
  refine op_acts (acts_call awake_fn (show enters Try.prog 20 = true from by decide +kernel) OTs.nil (List.Perm.refl _)) (List.Perm.refl _) rfl rfl (fun _ _ => ?_)
  refine op_pure (pu_not (by exact OT.tmp rfl)) rfl rfl ?_
  refine op_pure (pu_move (by exact OT.tmp rfl)) rfl rfl ?_
  refine op_gu_yes rfl rfl rfl (OT.tmp rfl) ?_
  refine op_pure (pu_move (by exact OT.tmp rfl)) rfl rfl ?_
  refine op_gu_yes rfl rfl rfl (OT.tmp rfl) ?_
  refine op_pure (pu_move (by exact OT.tmp rfl)) rfl rfl ?_
  refine op_gu_yes rfl rfl rfl (OT.tmp rfl) ?_
  refine op_acts (acts_lit (d := kL) (v0 := []) (show slTy Try.prog 77 40 1 24 = true from by decide +kernel) (show tyOk Try.prog 40 false 1 = true from by decide +kernel) z40 (show 2 * 1 ≤ 16777216 from by decide) (by decide) (fills_arr rfl rfl (by decide) (by exact OT.tmp rfl) (fills_arr rfl rfl (by decide) (by exact OT.tmp rfl) fills_nil))) (List.Perm.refl _) rfl rfl (fun _ _ => ?_)
  refine op_gu_yes rfl rfl rfl (OT.tmp rfl) ?_
  refine op_acts (acts_call (few_fn [a, b] (by simp)) (show enters Try.prog 21 = true from by decide +kernel) (OTs.cons (by exact OT.tmp rfl) OTs.nil) (List.Perm.refl _)) (List.Perm.refl _) rfl rfl (fun _ _ => ?_)
  refine op_gu_yes rfl rfl rfl (OT.tmp rfl) ?_
  refine op_pure (pu_not (by exact OT.tmp rfl)) rfl rfl ?_
  refine op_pure (pu_pick_or (by exact OT.tmp rfl) (by exact OT.gu_in (OT.tmp rfl) ⟨trivial, rfl⟩)) rfl rfl ?_
  refine tr_nil ?_
  refine then_normal ?_
  refine tr_cond ((by exact OT.tmp rfl)) (fun c19 => ?_) (fun c19 => ?_)
  · skip
    refine tr_seq ?_
    -- region 2
    refine tr_env es_nil ?_
    refine tr_region ?_
    refine op_acts (acts_call awake_fn (show enters Try.prog 20 = true from by decide +kernel) OTs.nil (List.Perm.refl _)) (List.Perm.refl _) rfl rfl (fun _ _ => ?_)
    refine op_pure (pu_assign (by exact OT.tmp rfl)) rfl rfl ?_
    refine tr_nil ?_
    refine then_normal ?_
    refine tr_ret ?_
    refine then_ret ?_
    exact ret_one .ret (.inl rfl) rfl () (OT.tmp rfl) trivial (by exact picks_nil)
  · skip
    have hf : fewB [a, b] = true := by simpa using c19
    have fa : Few a := few_Few hf (by simp)
    have fb : Few b := few_Few hf (by simp)
    have hd := diff_few fa fb
    have hd1 := hd.1.1
    have hd2 := hd.2.1
    refine tr_skip ?_
    refine then_normal ?_
    refine tr_seq ?_
    -- region 3
    refine tr_env (es_cons (t := 0) (OT.tmp rfl) (es_cons (t := 1) (OT.tmp rfl) es_nil)) ?_
    refine tr_region ?_
    refine op_pure (pu_move (by exact OT.tmp rfl)) rfl rfl ?_
    refine op_acts (acts_call (Own_fn a fa.small) (show enters Try.prog 27 = true from by decide +kernel) (OTs.cons (by exact OT.tmp rfl) OTs.nil) (List.Perm.refl _)) (List.Perm.refl _) rfl rfl (fun _ _ => ?_)
    refine op_pure (pu_move (by exact OT.tmp rfl)) rfl rfl ?_
    refine op_acts (acts_call (Own_fn b fb.small) (show enters Try.prog 27 = true from by decide +kernel) (OTs.cons (by exact OT.tmp rfl) OTs.nil) (List.Perm.refl _)) (List.Perm.refl _) rfl rfl (fun _ _ => ?_)
    refine op_pure (pu_assign (by exact OT.tmp rfl)) rfl rfl ?_
    refine op_pure (pu_assign (by exact OT.tmp rfl)) rfl rfl ?_
    refine tr_nil ?_
    refine then_normal ?_
    refine tr_seq ?_
    -- region 4
    refine tr_env (es_cons (t := 0) (OT.tmp rfl) (es_cons (t := 1) (OT.tmp rfl) (es_cons (t := 5) (OT.tmp rfl) (es_cons (t := 6) (OT.tmp rfl) es_nil)))) ?_
    refine tr_mark fun K hsK hnK => ?_
    refine tr_region ?_
    refine op_pure (pu_move (by exact OT.tmp rfl)) rfl rfl ?_
    refine op_pure (pu_move (by exact OT.tmp rfl)) rfl rfl ?_
    refine op_acts (acts_callM (Diff_fn (K0 := K) (n0 := w.heap.size) a b fa.small fb.small) (mk_of (OT.tmp (t := 0) rfl)) (show enters Try.prog 28 = true from by decide +kernel) (OTs.cons (by exact OT.unmark (OT.tmp rfl)) (OTs.cons (by exact OT.unmark (OT.tmp rfl)) OTs.nil)) (List.Perm.refl _)) (List.Perm.refl _) rfl rfl (fun _ _ => ?_)
    refine op_pure (pu_move (by exact OT.tmp rfl)) rfl rfl ?_
    refine op_pure (pu_extract (by exact OT.tmp rfl) rfl) rfl rfl ?_
    refine op_pure (pu_extract (by exact OT.tmp rfl) rfl) rfl rfl ?_
    refine op_acts (acts_alloc (z44f (K0 := K) (n0 := w.heap.size))) (List.Perm.refl _) rfl rfl (fun g4_6 _ => ?_)
    refine op_acts (acts_store_var (by exact OT.tmp rfl) (by exact OT.tmp rfl) (by exact perm_at 0 rfl) (show tyOk Try.prog 44 true 2 = true from by decide +kernel)) (by exact perm_at 0 rfl) rfl rfl (fun _ _ => ?_)
    refine op_pure (pu_assign (by exact OT.tmp rfl)) rfl rfl ?_
    refine tr_nil ?_
    refine then_normal ?_
    refine tr_seq ?_
    -- region 5
    refine tr_env (es_cons (t := 0) (OT.tmp rfl) (es_cons (t := 1) (OT.tmp rfl) (es_cons (t := 5) (OT.tmp rfl) (es_cons (t := 6) (OT.tmp rfl) (es_cons (t := 7) (OT.tmp rfl) (es_cons (t := 8) (OT.tmp rfl) es_nil)))))) ?_
    refine tr_region ?_
    refine op_pure (pu_move (by exact OT.tmp rfl)) rfl rfl ?_
    refine op_pure (pu_move (by exact OT.tmp rfl)) rfl rfl ?_
    refine op_acts (acts_call (rDiff_fn a b fa.small fb.small) (show enters Try.prog 29 = true from by decide +kernel) (OTs.cons (by exact OT.unmark (OT.tmp rfl)) (OTs.cons (by exact OT.unmark (OT.tmp rfl)) OTs.nil)) (List.Perm.refl _)) (List.Perm.refl _) rfl rfl (fun _ _ => ?_)
    refine op_pure (pu_move (by exact OT.tmp rfl)) rfl rfl ?_
    refine op_pure (pu_extract (by exact OT.tmp rfl) rfl) rfl rfl ?_
    refine op_pure (pu_extract (by exact OT.tmp rfl) rfl) rfl rfl ?_
    refine op_acts (acts_alloc (z44)) (List.Perm.refl _) rfl rfl (fun g5_6 _ => ?_)
    refine op_acts (acts_store_var (by exact OT.tmp rfl) (by exact OT.tmp rfl) (by exact perm_at 0 rfl) (show tyOk Try.prog 44 true 2 = true from by decide +kernel)) (by exact perm_at 0 rfl) rfl rfl (fun _ _ => ?_)
    refine op_pure (pu_assign (by exact OT.tmp rfl)) rfl rfl ?_
    refine tr_nil ?_
    refine then_normal ?_
    refine tr_seq ?_
    refine tr_seq ?_
    -- region 6
    refine tr_env (es_cons (t := 0) (OT.tmp rfl) (es_cons (t := 1) (OT.tmp rfl) (es_cons (t := 5) (OT.tmp rfl) (es_cons (t := 6) (OT.tmp rfl) (es_cons (t := 7) (OT.tmp rfl) (es_cons (t := 8) (OT.tmp rfl) (es_cons (t := 9) (OT.tmp rfl) (es_cons (t := 10) (OT.tmp rfl) es_nil)))))))) ?_
    apply tr_any (m := 20) (ns := [[(8, none)], [(10, none)], [(37, some 0), (38, some 1)], [(39, some 2)], [(7, none), (40, some 3)], [(9, none), (40, some 3)], [(40, some 3), (41, some 4), (42, some 5)], [(40, some 3), (43, some 6)], [(40, some 3), (44, some 7)], [(45, some 8)], [(7, none), (46, some 9)], [(46, some 9), (47, some 10)], [(9, none), (46, some 9)], [(46, some 9), (49, some 12)], [(46, some 9), (50, some 13)], [(9, none), (46, some 9)], [(46, some 9), (52, some 15)], [(46, some 9), (53, some 16)], [(46, some 9), (51, some 14), (54, some 17)], [(46, some 9), (55, some 18)]]) (by kernel_rfl) (by kernel_rfl) (Ts := [_, _, _, _, _, _, _, _, _, _, _, _, _, _, _, _, _, _, _, _]) rfl
    case hops =>
      refine ⟨?_, ⟨?_, ⟨?_, ⟨?_, ⟨?_, ⟨?_, ⟨?_, ⟨?_, ⟨?_, ⟨?_, ⟨?_, ⟨?_, ⟨?_, ⟨?_, ⟨?_, ⟨?_, ⟨?_, ⟨?_, ⟨?_, ⟨?_, trivial⟩⟩⟩⟩⟩⟩⟩⟩⟩⟩⟩⟩⟩⟩⟩⟩⟩⟩⟩⟩
      · exact rop_pure rfl (pu_move (by exact OT.tmp rfl))
      · exact rop_pure rfl (pu_move (by exact OT.tmp rfl))
      · exact rop_pure rfl (Pure.val (pu_neq (OT.tmp rfl) (OT.tmp rfl)) (show Value.bool (decide ((diffR a b).2 ≠ (diffR a b).2)) = .bool false from congrArg Value.bool (by simp)))
      · exact rop_pure rfl (pu_move (by exact OT.tmp rfl))
      · exact rop_gu rfl rfl rfl (OT.gu_mk (OT.tmp rfl)) (fun hg => rop_pure rfl (pu_load_var (d := kDF K w.heap.size) (OT.tmp rfl) (by exact mem_at 1 rfl) (show tyOk Try.prog 44 true 2 = true from by decide +kernel)))
      · exact rop_gu rfl rfl rfl (OT.gu_mk (OT.tmp rfl)) (fun hg => rop_pure rfl (pu_load_var (d := kD) (OT.tmp rfl) (by exact mem_at 0 rfl) (show tyOk Try.prog 44 true 2 = true from by decide +kernel)))
      · exact rop_gu rfl rfl rfl (OT.gu_mk (OT.tmp rfl)) (fun hg => by (have hg1 := hg.2; exact rop_acts rfl (acts_call (SameDelta_self (diffR a b).1 hd.1 hd.2) (show enters Try.prog 26 = true from by decide +kernel) (OTs.cons (kDF_T (OT.gu (OT.tmp rfl) hg)) (OTs.cons (OT.gu (OT.tmp rfl) hg) OTs.nil)) (List.Perm.refl _)) (fun _ _ _ _ h => h)))
      · exact rop_gu rfl rfl rfl (OT.gu_mk (OT.tmp rfl)) (fun hg => by (have hg1 := hg.2; exact rop_pure rfl (pu_not (by exact OT.gu (OT.tmp rfl) hg))))
      · exact rop_pure rfl (pu_pick_or (by exact OT.tmp rfl) (by exact OT.tmp rfl))
      · exact rop_pure rfl (pu_move (by exact OT.tmp rfl))
      · exact rop_gu rfl rfl rfl (OT.gu_mk (OT.tmp rfl)) (fun hg => rop_pure rfl (pu_load_var (d := kDF K w.heap.size) (OT.tmp rfl) (by exact mem_at 1 rfl) (show tyOk Try.prog 44 true 2 = true from by decide +kernel)))
      · exact rop_gu rfl rfl rfl (OT.gu_mk (OT.tmp rfl)) (fun hg => by (have hg1 := hg.2; exact rop_acts rfl (acts_call (Empty_fn (diffR a b).1 hd.1 hd.2) (show enters Try.prog 30 = true from by decide +kernel) (OTs.cons (kDF_T (OT.gu (OT.tmp rfl) hg)) OTs.nil) (List.Perm.refl _)) (fun _ _ _ _ h => h)))
      · exact rop_gu rfl rfl rfl (OT.gu_mk (OT.tmp rfl)) (fun hg => by (have hg1 := hg.2; exact rop_pure rfl (pu_faddr (by exact OT.tmp rfl) (show fieldOk Try.prog 44 0 0 false 1 = true from by decide +kernel))))
      · exact rop_gu rfl rfl rfl (OT.gu_mk (OT.tmp rfl)) (fun hg => by (have hg1 := hg.2; exact rop_pure rfl (pu_load_blk (by exact OT.gu (OT.tmp rfl) hg) (by exact mem_at 0 rfl) (Lens.fst (a := kL) (b := kL)) (show tyOk Try.prog 40 false 1 = true from by decide +kernel))))
      · exact rop_gu rfl rfl rfl (OT.gu_mk (OT.tmp rfl)) (fun hg => by (have hg1 := hg.2; exact rop_pure rfl (pu_len_sl (by exact OT.gu (OT.tmp rfl) hg) Try.underlying40)))
      · exact rop_gu rfl rfl rfl (OT.gu_mk (OT.tmp rfl)) (fun hg => by (have hg1 := hg.2; exact rop_pure rfl (pu_faddr (by exact OT.tmp rfl) (show fieldOk Try.prog 44 1 1 false 1 = true from by decide +kernel))))
      · exact rop_gu rfl rfl rfl (OT.gu_mk (OT.tmp rfl)) (fun hg => by (have hg1 := hg.2; exact rop_pure rfl (pu_load_blk (by exact OT.gu (OT.tmp rfl) hg) (by exact mem_at 0 rfl) (Lens.snd (a := kL) (b := kL)) (show tyOk Try.prog 40 false 1 = true from by decide +kernel))))
      · exact rop_gu rfl rfl rfl (OT.gu_mk (OT.tmp rfl)) (fun hg => by (have hg1 := hg.2; exact rop_pure rfl (pu_len_sl (by exact OT.gu (OT.tmp rfl) hg) Try.underlying40)))
      · exact rop_gu rfl rfl rfl (OT.gu_mk (OT.tmp rfl)) (fun hg => by (have hg1 := hg.2; exact rop_pure rfl (pu_add' (by exact OT.gu (OT.tmp rfl) hg) (by exact OT.gu (OT.tmp rfl) hg) (by omega))))
      · exact rop_gu rfl rfl rfl (OT.gu_mk (OT.tmp rfl)) (fun hg => by (have hg1 := hg.2; exact rop_pure rfl (pu_eql (by exact OT.gu (OT.tmp rfl) hg) OT.const)))
    case h =>
      refine op_gu rfl rfl rfl (OT.gu_mk (OT.tmp rfl)) (fun hg => by (have hg1 := hg.2; (try simp only [decide_eq_true_eq, decide_eq_false_iff_not] at hg1); exact pu_bool_neq (OT.gu (OT.tmp rfl) hg) (OT.gu (OT.tmp rfl) hg) Try.underlying4)) rfl ?_
      refine op_pure (pu_pick_or (by exact OT.tmp rfl) (by exact OT.tmp rfl)) rfl rfl ?_
      refine tr_nil ?_
      refine then_normal ?_
      refine tr_cond ((by exact OT.tmp rfl)) (fun c58 => ?_) (fun c58 => ?_)
      · skip
        exact absurd c58 (by simp) --done
      · skip
        refine tr_skip ?_
        refine then_normal ?_
        refine tr_seq ?_
        -- region 8
        refine tr_env (es_cons (t := 0) (OT.tmp rfl) (es_cons (t := 1) (OT.tmp rfl) (es_cons (t := 5) (OT.tmp rfl) (es_cons (t := 6) (OT.tmp rfl) (es_cons (t := 7) (OT.tmp rfl) es_nil))))) ?_
        refine tr_open (K := K) (n0 := w.heap.size) (mk_of (OT.tmp (t := 0) rfl)) (by exact perm_at 1 rfl) fun r1 r2 => ?_
        refine tr_region ?_
        refine op_pure (pu_faddr (by exact OT.tmp rfl) (show fieldOk Try.prog 44 0 0 false 1 = true from by decide +kernel)) rfl rfl ?_
        refine op_pure (pu_mk2 (pu_load_blk (OT.tmp rfl) (mem_at 0 rfl) (Lens.fst (a := kslv) (b := kslv)) (show tyOk Try.prog 40 false 1 = true from by decide +kernel)) (by exact mem_at 0 rfl)) rfl rfl ?_
        refine op_spoil1 spoil_ct (show enters Try.prog 31 = true from by decide +kernel) hsK hnK (mk_of (OT.tmp (t := 0) rfl)) (OT.tmp rfl) (OT.tmp (t := 9998) rfl) (OT.tmp (t := 9999) rfl) hd.1.1 hd.1.2 hd.2.1 hd.2.2 (L' := [BlkI g4_6 44 (kpair kslv kslv) (r1, r2)]) (by repeat (first | exact picks_nil | refine picks_cons 0 rfl ?_ | refine picks_cons 1 rfl ?_ | refine picks_cons 2 rfl ?_ | refine picks_cons 3 rfl ?_)) (ea_cons (t := 0) (OT.tmp rfl) (ea_cons (t := 1) (OT.tmp rfl) (ea_cons (t := 5) (OT.tmp rfl) (ea_cons (t := 6) (OT.tmp rfl) (ea_val (t := 7) (OT.tmp rfl) ea_nil))))) rfl rfl ?_ --TRE
        refine tre_nil ?_
        refine tre_then ?_
        refine tre_seq ?_
        -- region 9
        refine tre_env (es_cons (t := 0) (OT.tmp rfl) (es_cons (t := 1) (OT.tmp rfl) (es_cons (t := 5) (OT.tmp rfl) (es_cons (t := 6) (OT.tmp rfl) (es_cons (t := 7) (OT.tmp rfl) es_nil))))) ?_
        refine tre_region ?_
        refine tre_pure (pu_faddr (by exact OT.tmp rfl) (show fieldOk Try.prog 44 1 1 false 1 = true from by decide +kernel)) rfl rfl ?_
        refine tre_pure (pu_load_blk (OT.tmp rfl) (mem_at 0 rfl) (Lens.snd (a := kslv) (b := kslv)) (show tyOk Try.prog 40 false 1 = true from by decide +kernel)) rfl rfl ?_
        refine tre_spoil spoil_ct (show enters Try.prog 31 = true from by decide +kernel) (OT.tmp rfl) rfl rfl ?_ --TR
        refine tr_nil ?_
        refine then_normal ?_
        refine tr_seq ?_
        -- region 10
        refine tr_env (es_cons (t := 0) (OT.tmp rfl) (es_cons (t := 1) (OT.tmp rfl) (es_cons (t := 5) (OT.tmp rfl) (es_cons (t := 6) (OT.tmp rfl) es_nil)))) ?_
        refine tr_region ?_
        refine op_pure (pu_move (by exact OT.tmp rfl)) rfl rfl ?_
        refine op_pure (pu_move (by exact OT.tmp rfl)) rfl rfl ?_
        refine op_acts (acts_call (Same_self a fa.small) (show enters Try.prog 32 = true from by decide +kernel) (OTs.cons (by exact OT.tmp rfl) (OTs.cons (by exact OT.tmp rfl) OTs.nil)) (List.Perm.refl _)) (List.Perm.refl _) rfl rfl (fun _ _ => ?_)
        refine op_pure (pu_move (by exact OT.tmp rfl)) rfl rfl ?_
        refine op_gu_yes rfl rfl rfl (OT.tmp rfl) ?_
        refine op_pure (pu_move (by exact OT.tmp rfl)) rfl rfl ?_
        refine op_gu_yes rfl rfl rfl (OT.tmp rfl) ?_
        refine op_pure (pu_move (by exact OT.tmp rfl)) rfl rfl ?_
        refine op_gu_yes rfl rfl rfl (OT.tmp rfl) ?_
        refine op_acts (acts_call (Same_self b fb.small) (show enters Try.prog 32 = true from by decide +kernel) (OTs.cons (by exact OT.tmp rfl) (OTs.cons (by exact OT.tmp rfl) OTs.nil)) (List.Perm.refl _)) (List.Perm.refl _) rfl rfl (fun _ _ => ?_)
        refine op_pure (pu_pick_and (by exact OT.tmp rfl) (by exact OT.gu_in (OT.tmp rfl) ⟨trivial, rfl⟩)) rfl rfl ?_
        refine op_pure (pu_assign (by exact OT.tmp rfl)) rfl rfl ?_
        refine tr_nil ?_
        refine then_normal ?_
        refine tr_ret ?_
        exact ret_one .ret (.inl rfl) rfl () (OT.tmp rfl) trivial (by exact picks_nil)
end Go.Proofs.Ytloblpklkhepbaa
