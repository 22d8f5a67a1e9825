/- Walks through the Go functions rhizomelaw10.TupleApplies, as typed contracts. -/
import Derived.Test.YtloblpklkhepbaaTu13
namespace Go.Proofs.Ytloblpklkhepbaa
open Go Go.Gw Go.So Go.Tu
set_option linter.unusedVariables false
set_option linter.unusedSimpArgs false
theorem apply_small {s : List Tp} {x : Dl} (hs : Few s) (h1 : Few x.1) (h2 : Few x.2) : Small (applyR s x).1 := by
  unfold applyR
  split
  · exact ⟨by simp, by simp⟩
  · split
    · exact ⟨by simp, by simp⟩
    · split
      · exact ⟨by simp, by simp⟩
      · exact both_small (hs.without _) h1

set_option maxHeartbeats 1000000 in
set_option maxRecDepth 20000 in
/-- rhizome/rhizomelaw10.TupleApplies -/
theorem TupleApplies_fn (s : List Tp) (x : Dl) : Ct Try.prog 10 [SlT kT s, kD.T x] ([]) Unit (fun _ => BoolT true) (fun _ => []) (fun _ => True) := by
  refine fn_intro Try.func10 rfl rfl ?_
  intro H w
  refine tr_seq ?_
  -- region 0
  refine tr_env (es_cons (t := 0) (OT.tmp rfl) (es_cons (t := 1) (OT.tmp rfl) es_nil)) ?_
  refine tr_region ?_
  refine op_acts (acts_box (d := kD) (by exact OT.tmp rfl)) (List.Perm.refl _) rfl rfl (fun g0_0 _ => ?_)
  refine op_pure (pu_assign OT.const) rfl rfl ?_
  refine tr_nil ?_
  refine then_normal ?_
  refine tr_seq ?_
  refine tr_seq ?_
  -- region 1
  refine tr_env (es_cons (t := 0) (OT.tmp rfl) (es_cons (t := 3) (OT.tmp rfl) es_nil)) ?_
  refine tr_region ?_
  refine op_acts (acts_call awake_fn (show enters Try.prog 20 = true from by decide +kernel) OTs.nil (List.Perm.refl _)) (List.Perm.refl _) rfl rfl (fun _ _ => ?_)
  refine op_pure (pu_not (by exact OT.tmp rfl)) rfl rfl ?_
  refine op_pure (pu_move (by exact OT.tmp rfl)) rfl rfl ?_
  refine op_gu_yes rfl rfl rfl (OT.tmp rfl) ?_
  refine op_pure (pu_move (by exact OT.tmp rfl)) rfl rfl ?_
  refine op_gu_yes rfl rfl rfl (OT.tmp rfl) ?_
  refine op_pure (pu_faddr (by exact OT.tmp rfl) (show fieldOk Try.prog 44 0 0 false 1 = true from by decide +kernel)) rfl rfl ?_
  refine op_gu_yes rfl rfl rfl (OT.tmp rfl) ?_
  refine op_pure (pu_load_blk (by exact OT.tmp rfl) (by exact mem_at 0 rfl) (Lens.fst (a := kL) (b := kL)) (show tyOk Try.prog 40 false 1 = true from by decide +kernel)) rfl rfl ?_
  refine op_gu_yes rfl rfl rfl (OT.tmp rfl) ?_
  refine op_pure (pu_faddr (by exact OT.tmp rfl) (show fieldOk Try.prog 44 1 1 false 1 = true from by decide +kernel)) rfl rfl ?_
  refine op_gu_yes rfl rfl rfl (OT.tmp rfl) ?_
  refine op_pure (pu_load_blk (by exact OT.tmp rfl) (by exact mem_at 0 rfl) (Lens.snd (a := kL) (b := kL)) (show tyOk Try.prog 40 false 1 = true from by decide +kernel)) rfl rfl ?_
  refine op_gu_yes rfl rfl rfl (OT.tmp rfl) ?_
  refine op_acts (acts_lit (d := kL) (v0 := []) (show slTy Try.prog 77 40 1 24 = true from by decide +kernel) (show tyOk Try.prog 40 false 1 = true from by decide +kernel) z40 (show 3 * 1 ≤ 16777216 from by decide) (by decide) (fills_arr rfl rfl (by decide) (by exact OT.tmp rfl) (fills_arr rfl rfl (by decide) (by exact OT.tmp rfl) (fills_arr rfl rfl (by decide) (by exact OT.tmp rfl) fills_nil)))) (List.Perm.refl _) rfl rfl (fun _ _ => ?_)
  refine op_gu_yes rfl rfl rfl (OT.tmp rfl) ?_
  refine op_acts (acts_call (few_fn [s, x.1, x.2] (by simp)) (show enters Try.prog 21 = true from by decide +kernel) (OTs.cons (by exact OT.tmp rfl) OTs.nil) (List.Perm.refl _)) (List.Perm.refl _) rfl rfl (fun _ _ => ?_)
  refine op_gu_yes rfl rfl rfl (OT.tmp rfl) ?_
  refine op_pure (pu_not (by exact OT.tmp rfl)) rfl rfl ?_
  refine op_pure (pu_pick_or (by exact OT.tmp rfl) (by exact OT.gu_in (OT.tmp rfl) ⟨trivial, rfl⟩)) rfl rfl ?_
  refine tr_nil ?_
  refine then_normal ?_
  refine tr_cond ((by exact OT.tmp rfl)) (fun c23 => ?_) (fun c23 => ?_)
  · skip
    refine tr_seq ?_
    -- region 2
    refine tr_env es_nil ?_
    refine tr_region ?_
    refine op_acts (acts_call awake_fn (show enters Try.prog 20 = true from by decide +kernel) OTs.nil (List.Perm.refl _)) (List.Perm.refl _) rfl rfl (fun _ _ => ?_)
    refine op_pure (pu_assign (by exact OT.tmp rfl)) rfl rfl ?_
    refine tr_nil ?_
    refine then_normal ?_
    refine tr_ret ?_
    refine then_ret ?_
    exact ret_one .ret (.inl rfl) rfl () (OT.tmp rfl) trivial (by exact picks_nil)
  · skip
    have hf : fewB [s, x.1, x.2] = true := by simpa using c23
    have hs : Few s := few_Few hf (by simp)
    have h1 : Few x.1 := few_Few hf (by simp)
    have h2 : Few x.2 := few_Few hf (by simp)
    have hap := apply_small hs h1 h2
    refine tr_skip ?_
    refine then_normal ?_
    refine tr_seq ?_
    -- region 3
    refine tr_env (es_cons (t := 0) (OT.tmp rfl) (es_cons (t := 3) (OT.tmp rfl) es_nil)) ?_
    apply tr_anyG (ρ := Nat) (φ := fun rr => True) (p := 9) (Lf := fun c rr => cond c ([BlkI rr 44 kD ([], []), BlkI g0_0 44 kD x]) ([BlkI g0_0 44 kD x])) 0 (by kernel_rfl) (m := 11) (ns := [[(0, none)], [(25, some 0)], [(3, none)], [(27, some 2)], [(28, some 3)], [(3, none)], [(30, some 5)], [(31, some 6)], [(29, some 4), (32, some 7)], [], [(26, some 1)]]) (by kernel_rfl) (by kernel_rfl) (Ts := fun rr => [_, _, _, _, _, _, _, _, _, IsV (pt rr 0), _]) (fun _ => rfl)
    case hops =>
      refine ⟨?_, ⟨?_, ⟨?_, ⟨?_, ⟨?_, ⟨?_, ⟨?_, ⟨?_, ⟨?_, ⟨?_, ⟨?_, trivial⟩⟩⟩⟩⟩⟩⟩⟩⟩⟩⟩
      · refine ⟨?_, ?_⟩
        · intro c r hc; cases c
          · exact ropg_of r rfl (And.intro rfl trivial) (rop_pure rfl (pu_move (by exact OT.tmp rfl)))
          · exact ropg_of r rfl (And.intro rfl trivial) (rop_pure rfl (pu_move (by exact OT.tmp rfl)))
        · exact fun _ _ _ _ => rfl
      · refine ⟨?_, ?_⟩
        · intro c r hc; cases c
          · exact ropg_of r rfl (And.intro rfl trivial) (rop_acts rfl (acts_call (Own_fn s hs.small) (show enters Try.prog 27 = true from by decide +kernel) (OTs.cons (by exact OT.tmp rfl) OTs.nil) (List.Perm.refl _)) (fun _ _ _ _ h => h))
          · exact ropg_of r rfl (And.intro rfl trivial) (rop_acts rfl (acts_call (Own_fn s hs.small) (show enters Try.prog 27 = true from by decide +kernel) (OTs.cons (by exact OT.tmp rfl) OTs.nil) (List.Perm.refl _)) (fun _ _ _ _ h => h))
        · exact fun _ _ _ _ => rfl
      · refine ⟨?_, ?_⟩
        · intro c r hc; cases c
          · exact ropg_of r rfl (And.intro rfl trivial) (rop_pure rfl (pu_faddr (by exact OT.tmp rfl) (show fieldOk Try.prog 44 0 0 false 1 = true from by decide +kernel)))
          · exact ropg_of r rfl (And.intro rfl trivial) (rop_pure rfl (pu_faddr (by exact OT.tmp rfl) (show fieldOk Try.prog 44 0 0 false 1 = true from by decide +kernel)))
        · exact fun _ _ _ _ => rfl
      · refine ⟨?_, ?_⟩
        · intro c r hc; cases c
          · exact ropg_of r rfl (And.intro rfl trivial) (rop_pure rfl (pu_load_blk (by exact OT.tmp rfl) (by exact mem_at 0 rfl) (Lens.fst (a := kL) (b := kL)) (show tyOk Try.prog 40 false 1 = true from by decide +kernel)))
          · exact ropg_of r rfl (And.intro rfl trivial) (rop_pure rfl (pu_load_blk (by exact OT.tmp rfl) (by exact mem_at 1 rfl) (Lens.fst (a := kL) (b := kL)) (show tyOk Try.prog 40 false 1 = true from by decide +kernel)))
        · exact fun _ _ _ _ => rfl
      · refine ⟨?_, ?_⟩
        · intro c r hc; cases c
          · exact ropg_of r rfl (And.intro rfl trivial) (rop_acts rfl (acts_call (Own_fn x.1 h1.small) (show enters Try.prog 27 = true from by decide +kernel) (OTs.cons (by exact OT.tmp rfl) OTs.nil) (List.Perm.refl _)) (fun _ _ _ _ h => h))
          · exact ropg_of r rfl (And.intro rfl trivial) (rop_acts rfl (acts_call (Own_fn x.1 h1.small) (show enters Try.prog 27 = true from by decide +kernel) (OTs.cons (by exact OT.tmp rfl) OTs.nil) (List.Perm.refl _)) (fun _ _ _ _ h => h))
        · exact fun _ _ _ _ => rfl
      · refine ⟨?_, ?_⟩
        · intro c r hc; cases c
          · exact ropg_of r rfl (And.intro rfl trivial) (rop_pure rfl (pu_faddr (by exact OT.tmp rfl) (show fieldOk Try.prog 44 1 1 false 1 = true from by decide +kernel)))
          · exact ropg_of r rfl (And.intro rfl trivial) (rop_pure rfl (pu_faddr (by exact OT.tmp rfl) (show fieldOk Try.prog 44 1 1 false 1 = true from by decide +kernel)))
        · exact fun _ _ _ _ => rfl
      · refine ⟨?_, ?_⟩
        · intro c r hc; cases c
          · exact ropg_of r rfl (And.intro rfl trivial) (rop_pure rfl (pu_load_blk (by exact OT.tmp rfl) (by exact mem_at 0 rfl) (Lens.snd (a := kL) (b := kL)) (show tyOk Try.prog 40 false 1 = true from by decide +kernel)))
          · exact ropg_of r rfl (And.intro rfl trivial) (rop_pure rfl (pu_load_blk (by exact OT.tmp rfl) (by exact mem_at 1 rfl) (Lens.snd (a := kL) (b := kL)) (show tyOk Try.prog 40 false 1 = true from by decide +kernel)))
        · exact fun _ _ _ _ => rfl
      · refine ⟨?_, ?_⟩
        · intro c r hc; cases c
          · exact ropg_of r rfl (And.intro rfl trivial) (rop_acts rfl (acts_call (Own_fn x.2 h2.small) (show enters Try.prog 27 = true from by decide +kernel) (OTs.cons (by exact OT.tmp rfl) OTs.nil) (List.Perm.refl _)) (fun _ _ _ _ h => h))
          · exact ropg_of r rfl (And.intro rfl trivial) (rop_acts rfl (acts_call (Own_fn x.2 h2.small) (show enters Try.prog 27 = true from by decide +kernel) (OTs.cons (by exact OT.tmp rfl) OTs.nil) (List.Perm.refl _)) (fun _ _ _ _ h => h))
        · exact fun _ _ _ _ => rfl
      · refine ⟨?_, ?_⟩
        · intro c r hc; cases c
          · exact ropg_of r rfl (And.intro rfl trivial) (rop_pure rfl (pu_build (d := kD) (v0 := ([], [])) (ps := [(0, 1), (1, 1)]) z44 (by kernel_rfl) rfl (fills_cons rfl (Lens.fst (a := kL) (b := kL)) (by exact OT.tmp rfl) (fills_cons rfl (Lens.snd (a := kL) (b := kL)) (by exact OT.tmp rfl) fills_nil))))
          · exact ropg_of r rfl (And.intro rfl trivial) (rop_pure rfl (pu_build (d := kD) (v0 := ([], [])) (ps := [(0, 1), (1, 1)]) z44 (by kernel_rfl) rfl (fills_cons rfl (Lens.fst (a := kL) (b := kL)) (by exact OT.tmp rfl) (fills_cons rfl (Lens.snd (a := kL) (b := kL)) (by exact OT.tmp rfl) fills_nil))))
        · exact fun _ _ _ _ => rfl
      · refine ⟨?_, ?_⟩
        · intro c r hc; cases c
          · exact ropg_acts rfl (acts_alloc z44) (List.Perm.refl _) (fun r => (List.Perm.refl _)) (fun _ _ _ => trivial) (fun _ _ _ _ h => h)
          · exact Bool.noConfusion (hc.symm.trans (by kernel_rfl : okFlag _ _ _ _ = false))
        · exact fun _ h => absurd h (by decide)
      · refine ⟨?_, ?_⟩
        · intro c r hc; cases c
          · exact Bool.noConfusion (hc.symm.trans (by kernel_rfl : okFlag _ _ _ _ = false))
          · exact ropg_of r rfl (And.intro rfl trivial) (rop_pure rfl (pu_assign (by exact OT.tmp rfl)))
        · exact fun h => Bool.noConfusion (h.symm.trans (by kernel_rfl : okFlag _ _ _ _ = false))
    case h =>
      intro g3_9 _
      refine op_acts (acts_store_var (by exact OT.tmp rfl) (by exact OT.tmp rfl) (by exact perm_at 0 rfl) (show tyOk Try.prog 44 true 2 = true from by decide +kernel)) (by exact perm_at 0 rfl) rfl rfl (fun _ _ => ?_)
      refine tr_nil ?_
      refine then_normal ?_
      refine tr_seq ?_
      -- region 4
      refine tr_env (es_cons (t := 0) (OT.tmp rfl) (es_cons (t := 3) (OT.tmp rfl) (es_cons (t := 5) (OT.tmp rfl) (es_cons (t := 6) (OT.tmp rfl) es_nil)))) ?_
      refine tr_mark fun K hsK hnK => ?_
      refine tr_region ?_
      refine op_pure (pu_move (by exact OT.tmp rfl)) rfl rfl ?_
      refine op_pure (pu_mk2 (pu_load_var (by exact OT.unmark (OT.tmp rfl)) (mem_at 0 rfl) (show tyOk Try.prog 44 true 2 = true from by decide +kernel)) (by exact mem_at 0 rfl)) rfl rfl ?_
      refine op_acts (acts_callM (Apply_fn (K0 := K) (n0 := w.heap.size) s x hs h1 h2) (mk_of (OT.tmp (t := 0) rfl)) (show enters Try.prog 39 = true from by decide +kernel) (OTs.cons (by exact OT.unmark (OT.tmp rfl)) (OTs.cons (by exact OT.tmp rfl) OTs.nil)) (List.Perm.refl _)) (List.Perm.refl _) rfl rfl (fun _ _ => ?_)
      refine op_pure (pu_move (by exact OT.tmp rfl)) rfl rfl ?_
      refine op_pure (pu_extract (by exact OT.tmp rfl) rfl) rfl rfl ?_
      refine op_pure (pu_extract (by exact OT.tmp rfl) rfl) rfl rfl ?_
      refine op_pure (pu_assign (by exact OT.tmp rfl)) rfl rfl ?_
      refine op_pure (pu_assign (by exact OT.tmp rfl)) rfl rfl ?_
      refine tr_nil ?_
      refine then_normal ?_
      refine tr_seq ?_
      -- region 5
      refine tr_env (es_cons (t := 0) (OT.tmp rfl) (es_cons (t := 3) (OT.tmp rfl) (es_cons (t := 5) (OT.tmp rfl) (es_cons (t := 6) (OT.tmp rfl) (es_cons (t := 7) (OT.tmp rfl) (es_cons (t := 8) (OT.tmp rfl) es_nil)))))) ?_
      refine tr_region ?_
      refine op_pure (pu_move (by exact OT.tmp rfl)) rfl rfl ?_
      refine op_pure (pu_mk2 (pu_load_var (by exact OT.unmark (OT.tmp rfl)) (mem_at 0 rfl) (show tyOk Try.prog 44 true 2 = true from by decide +kernel)) (by exact mem_at 1 rfl)) rfl rfl ?_
      refine op_acts (acts_call (rApply_fn s x hs h1 h2) (show enters Try.prog 40 = true from by decide +kernel) (OTs.cons (by exact OT.unmark (OT.tmp rfl)) (OTs.cons (by exact OT.tmp rfl) OTs.nil)) (List.Perm.refl _)) (List.Perm.refl _) rfl rfl (fun _ _ => ?_)
      refine op_pure (pu_move (by exact OT.tmp rfl)) rfl rfl ?_
      refine op_pure (pu_extract (by exact OT.tmp rfl) rfl) rfl rfl ?_
      refine op_pure (pu_extract (by exact OT.tmp rfl) rfl) rfl rfl ?_
      refine op_pure (pu_assign (by exact OT.tmp rfl)) rfl rfl ?_
      refine op_pure (pu_assign (by exact OT.tmp rfl)) rfl rfl ?_
      refine tr_nil ?_
      refine then_normal ?_
      refine tr_seq ?_
      refine tr_seq ?_
      -- region 6
      refine tr_env (es_cons (t := 0) (OT.tmp rfl) (es_cons (t := 3) (OT.tmp rfl) (es_cons (t := 5) (OT.tmp rfl) (es_cons (t := 6) (OT.tmp rfl) (es_cons (t := 7) (OT.tmp rfl) (es_cons (t := 8) (OT.tmp rfl) (es_cons (t := 9) (OT.tmp rfl) (es_cons (t := 10) (OT.tmp rfl) es_nil)))))))) ?_
      refine tr_region ?_
      refine op_pure (pu_move (by exact OT.tmp rfl)) rfl rfl ?_
      refine op_pure (pu_move (by exact OT.tmp rfl)) rfl rfl ?_
      refine op_pure (Pure.val (pu_neq (OT.tmp rfl) (OT.tmp rfl)) (show Value.bool (decide ((applyR s x).2 ≠ (applyR s x).2)) = .bool false from congrArg Value.bool (by simp))) rfl rfl ?_
      refine op_pure (pu_move (by exact OT.tmp rfl)) rfl rfl ?_
      refine op_gu_yes rfl rfl rfl (OT.tmp rfl) ?_
      refine op_pure (pu_move (by exact OT.tmp rfl)) rfl rfl ?_
      refine op_gu_yes rfl rfl rfl (OT.tmp rfl) ?_
      refine op_pure (pu_move (by exact OT.tmp rfl)) rfl rfl ?_
      refine tr_as 50 (OT.unfr2 (OT.tmp rfl)) ?_
      refine op_gu_yes rfl rfl rfl (OT.tmp rfl) ?_
      refine op_acts (acts_call (Same_self (applyR s x).1 hap) (show enters Try.prog 32 = true from by decide +kernel) (OTs.cons (by exact OT.tmp rfl) (OTs.cons (by exact OT.tmp rfl) OTs.nil)) (List.Perm.refl _)) (List.Perm.refl _) rfl rfl (fun _ _ => ?_)
      refine op_gu_yes rfl rfl rfl (OT.tmp rfl) ?_
      refine op_pure (pu_not (by exact OT.tmp rfl)) rfl rfl ?_
      refine op_pure (pu_pick_or (by exact OT.tmp rfl) (by exact OT.gu_in (OT.tmp rfl) ⟨trivial, rfl⟩)) rfl rfl ?_
      refine tr_nil ?_
      refine then_normal ?_
      refine tr_cond ((by exact OT.tmp rfl)) (fun c54 => ?_) (fun c54 => ?_)
      · skip
        exact absurd c54 (by decide) --done
      · skip
        refine tr_skip ?_
        refine then_normal ?_
        refine tr_seq ?_
        -- region 8
        refine tr_env (es_cons (t := 0) (OT.tmp rfl) (es_cons (t := 3) (OT.tmp rfl) (es_cons (t := 5) (OT.tmp rfl) (es_cons (t := 6) (OT.tmp rfl) (es_cons (t := 7) (OT.tmp rfl) es_nil))))) ?_
        refine tr_region ?_
        refine op_pure (pu_move (by exact OT.tmp rfl)) rfl rfl ?_
        refine op_spoil spoil_ct (show enters Try.prog 31 = true from by decide +kernel) hsK hnK (mk_of (OT.tmp (t := 0) rfl)) (OT.tmp rfl) hap.1 hap.2 (L' := [BlkI g3_9 44 kD x, BlkI g0_0 44 kD x]) (by repeat (first | exact picks_nil | refine picks_cons 0 rfl ?_ | refine picks_cons 1 rfl ?_ | refine picks_cons 2 rfl ?_ | refine picks_cons 3 rfl ?_)) (ea_cons (t := 0) (OT.tmp rfl) (ea_cons (t := 3) (OT.tmp rfl) (ea_cons (t := 5) (OT.tmp rfl) (ea_cons (t := 6) (OT.tmp rfl) ea_nil)))) rfl rfl ?_
        refine tr_nil ?_
        refine then_normal ?_
        refine tr_seq ?_
        -- region 9
        refine tr_env (es_cons (t := 0) (OT.tmp rfl) (es_cons (t := 3) (OT.tmp rfl) (es_cons (t := 5) (OT.tmp rfl) (es_cons (t := 6) (OT.tmp rfl) es_nil)))) ?_
        refine tr_mark fun K2 hsK2 hnK2 => ?_
        refine tr_region ?_
        refine op_pure (pu_mk2 (pu_load_var (by exact OT.unmark (OT.tmp rfl)) (mem_at 0 rfl) (show tyOk Try.prog 44 true 2 = true from by decide +kernel)) (by exact mem_at 0 rfl)) rfl rfl ?_
        refine op_acts (acts_callM (Back_fn (K0 := K2) (n0 := w.heap.size) x h1.small h2.small) (mk_of (OT.tmp (t := 0) rfl)) (show enters Try.prog 41 = true from by decide +kernel) (OTs.cons (by exact OT.tmp rfl) OTs.nil) (List.Perm.refl _)) (List.Perm.refl _) rfl rfl (fun _ _ => ?_)
        refine op_acts (acts_alloc (z44f (K0 := K2) (n0 := w.heap.size))) (List.Perm.refl _) rfl rfl (fun g9_2 _ => ?_)
        refine op_acts (acts_store_var (by exact OT.tmp rfl) (by exact OT.tmp rfl) (by exact perm_at 0 rfl) (show tyOk Try.prog 44 true 2 = true from by decide +kernel)) (by exact perm_at 0 rfl) rfl rfl (fun _ _ => ?_)
        refine tr_nil ?_
        refine then_normal ?_
        refine tr_seq ?_
        refine tr_seq ?_
        -- region 10
        refine tr_env (es_cons (t := 0) (OT.tmp rfl) (es_cons (t := 3) (OT.tmp rfl) (es_cons (t := 5) (OT.tmp rfl) (es_cons (t := 6) (OT.tmp rfl) (es_cons (t := 11) (OT.tmp rfl) es_nil))))) ?_
        refine tr_region ?_
        refine op_pure (pu_faddr (by exact OT.tmp rfl) (show fieldOk Try.prog 44 0 0 false 1 = true from by decide +kernel)) rfl rfl ?_
        refine op_pure (pu_load_blk (by exact OT.tmp rfl) (by exact mem_at 0 rfl) (Lens.fst (a := kFF K2 w.heap.size) (b := kFF K2 w.heap.size)) (show tyOk Try.prog 40 false 1 = true from by decide +kernel)) rfl rfl ?_
        refine op_pure (pu_faddr (by exact OT.unmark (OT.tmp rfl)) (show fieldOk Try.prog 44 1 1 false 1 = true from by decide +kernel)) rfl rfl ?_
        refine op_pure (pu_mk2 (pu_load_blk (by exact OT.tmp rfl) (mem_at 0 rfl) (Lens.snd (a := kL) (b := kL)) (show tyOk Try.prog 40 false 1 = true from by decide +kernel)) (by exact mem_at 2 rfl)) rfl rfl ?_
        refine tr_as 60 (OT.unfr2 (OT.tmp rfl)) ?_
        refine op_acts (acts_call (Same_self x.2 h2.small) (show enters Try.prog 32 = true from by decide +kernel) (OTs.cons (by exact OT.tmp rfl) (OTs.cons (by exact OT.tmp rfl) OTs.nil)) (List.Perm.refl _)) (List.Perm.refl _) rfl rfl (fun _ _ => ?_)
        refine op_pure (pu_not (by exact OT.tmp rfl)) rfl rfl ?_
        refine op_pure (pu_move (by exact OT.tmp rfl)) rfl rfl ?_
        refine op_gu_yes rfl rfl rfl (OT.tmp rfl) ?_
        refine op_pure (pu_faddr (by exact OT.tmp rfl) (show fieldOk Try.prog 44 1 1 false 1 = true from by decide +kernel)) rfl rfl ?_
        refine op_gu_yes rfl rfl rfl (OT.tmp rfl) ?_
        refine op_pure (pu_load_blk (by exact OT.tmp rfl) (by exact mem_at 0 rfl) (Lens.snd (a := kFF K2 w.heap.size) (b := kFF K2 w.heap.size)) (show tyOk Try.prog 40 false 1 = true from by decide +kernel)) rfl rfl ?_
        refine op_gu_yes rfl rfl rfl (OT.tmp rfl) ?_
        refine op_pure (pu_faddr (by exact OT.unmark (OT.tmp rfl)) (show fieldOk Try.prog 44 0 0 false 1 = true from by decide +kernel)) rfl rfl ?_
        refine op_gu_yes rfl rfl rfl (OT.tmp rfl) ?_
        refine op_pure (pu_mk2 (pu_load_blk (by exact OT.tmp rfl) (mem_at 0 rfl) (Lens.fst (a := kL) (b := kL)) (show tyOk Try.prog 40 false 1 = true from by decide +kernel)) (by exact mem_at 2 rfl)) rfl rfl ?_
        refine tr_as 67 (OT.unfr2 (OT.tmp rfl)) ?_
        refine op_gu_yes rfl rfl rfl (OT.tmp rfl) ?_
        refine op_acts (acts_call (Same_self x.1 h1.small) (show enters Try.prog 32 = true from by decide +kernel) (OTs.cons (by exact OT.tmp rfl) (OTs.cons (by exact OT.tmp rfl) OTs.nil)) (List.Perm.refl _)) (List.Perm.refl _) rfl rfl (fun _ _ => ?_)
        refine op_gu_yes rfl rfl rfl (OT.tmp rfl) ?_
        refine op_pure (pu_not (by exact OT.tmp rfl)) rfl rfl ?_
        refine op_pure (pu_pick_or (by exact OT.tmp rfl) (by exact OT.gu_in (OT.tmp rfl) ⟨trivial, rfl⟩)) rfl rfl ?_
        refine tr_nil ?_
        refine then_normal ?_
        refine tr_cond ((by exact OT.tmp rfl)) (fun c72 => ?_) (fun c72 => ?_)
        · skip
          exact absurd c72 (by decide) --done
        · skip
          refine tr_skip ?_
          refine then_normal ?_
          refine tr_seq ?_
          -- region 12
          refine tr_env (es_cons (t := 0) (OT.tmp rfl) (es_cons (t := 3) (OT.tmp rfl) (es_cons (t := 5) (OT.tmp rfl) (es_cons (t := 6) (OT.tmp rfl) (es_cons (t := 11) (OT.tmp rfl) es_nil))))) ?_
          refine tr_region ?_
          refine op_pure (pu_faddr (by exact OT.tmp rfl) (show fieldOk Try.prog 44 0 0 false 1 = true from by decide +kernel)) rfl rfl ?_
          refine op_pure (pu_load_blk (by exact OT.tmp rfl) (by exact mem_at 0 rfl) (Lens.fst (a := kFF K2 w.heap.size) (b := kFF K2 w.heap.size)) (show tyOk Try.prog 40 false 1 = true from by decide +kernel)) rfl rfl ?_
          refine op_spoil spoil_ct (show enters Try.prog 31 = true from by decide +kernel) hsK2 hnK2 (mk_of (OT.tmp (t := 0) rfl)) (OT.tmp rfl) h2.small.1 h2.small.2 (L' := [BlkI g3_9 44 kD x, BlkI g0_0 44 kD x]) (by repeat (first | exact picks_nil | refine picks_cons 0 rfl ?_ | refine picks_cons 1 rfl ?_ | refine picks_cons 2 rfl ?_ | refine picks_cons 3 rfl ?_)) (ea_cons (t := 0) (OT.tmp rfl) (ea_cons (t := 3) (OT.tmp rfl) (ea_cons (t := 5) (OT.tmp rfl) (ea_cons (t := 6) (OT.tmp rfl) ea_nil)))) rfl rfl ?_
          refine tr_nil ?_
          refine then_normal ?_
          refine tr_seq ?_
          -- region 13
          refine tr_env (es_cons (t := 0) (OT.tmp rfl) (es_cons (t := 3) (OT.tmp rfl) (es_cons (t := 5) (OT.tmp rfl) (es_cons (t := 6) (OT.tmp rfl) es_nil)))) ?_
          refine tr_region ?_
          refine op_pure (pu_move (by exact OT.tmp rfl)) rfl rfl ?_
          refine op_pure (pu_move (by exact OT.tmp rfl)) rfl rfl ?_
          refine op_acts (acts_call (Same_self s hs.small) (show enters Try.prog 32 = true from by decide +kernel) (OTs.cons (by exact OT.tmp rfl) (OTs.cons (by exact OT.tmp rfl) OTs.nil)) (List.Perm.refl _)) (List.Perm.refl _) rfl rfl (fun _ _ => ?_)
          refine op_pure (pu_move (by exact OT.tmp rfl)) rfl rfl ?_
          refine op_gu_yes rfl rfl rfl (OT.tmp rfl) ?_
          refine op_pure (pu_load_var (by exact OT.tmp rfl) (by exact mem_at 0 rfl) (show tyOk Try.prog 44 true 2 = true from by decide +kernel)) rfl rfl ?_
          refine op_gu_yes rfl rfl rfl (OT.tmp rfl) ?_
          refine op_pure (pu_load_var (by exact OT.tmp rfl) (by exact mem_at 1 rfl) (show tyOk Try.prog 44 true 2 = true from by decide +kernel)) rfl rfl ?_
          refine op_gu_yes rfl rfl rfl (OT.tmp rfl) ?_
          refine op_acts (acts_call (SameDelta_self x h1.small h2.small) (show enters Try.prog 26 = true from by decide +kernel) (OTs.cons (by exact OT.tmp rfl) (OTs.cons (by exact OT.tmp rfl) OTs.nil)) (List.Perm.refl _)) (List.Perm.refl _) rfl rfl (fun _ _ => ?_)
          refine op_pure (pu_pick_and (by exact OT.tmp rfl) (by exact OT.gu_in (OT.tmp rfl) ⟨trivial, rfl⟩)) rfl rfl ?_
          refine op_pure (pu_assign (by exact OT.tmp rfl)) rfl rfl ?_
          refine tr_nil ?_
          refine then_normal ?_
          refine tr_ret ?_
          exact ret_one .ret (.inl rfl) rfl () (OT.tmp rfl) trivial (by exact picks_nil)
end Go.Proofs.Ytloblpklkhepbaa
