/- Walks through the Go functions rhizomelaw10.TupleSets, as typed contracts. -/
import Derived.Test.YtloblpklkhepbaaTu12
import Derived.Test.YtloblpklkhepbaaTuG
import Derived.Test.YtloblpklkhepbaaG24
namespace Go.Proofs.Ytloblpklkhepbaa
open Go Go.Gw Go.So Go.Tu
set_option linter.unusedVariables false
set_option linter.unusedSimpArgs false
theorem Rises_set (l : List Tp) : Ct Try.prog 35 [SlT kT (setR l)] [] Unit (fun _ => BoolT true) (fun _ => []) (fun _ => True) := by
  have h := Rises_all (setR l)
  rw [rises_iff.2 (setR_spec l).1] at h; exact h

set_option maxHeartbeats 1000000 in
set_option maxRecDepth 20000 in
/-- rhizome/rhizomelaw10.TupleSets -/
theorem TupleSets_fn (l : List Tp) (t : Tp) : Ct Try.prog 9 [SlT kT l, SlT kI6 t] ([]) Unit (fun _ => BoolT true) (fun _ => []) (fun _ => True) := by
  refine fn_intro Try.func9 rfl rfl ?_
  intro H w
  refine tr_seq ?_
  -- region 0
  refine tr_env (es_cons (t := 0) (OT.tmp rfl) (es_cons (t := 1) (OT.tmp rfl) es_nil)) ?_
  refine tr_region ?_
  refine op_pure (pu_assign OT.const) rfl rfl ?_
  refine tr_nil ?_
  refine then_normal ?_
  refine tr_seq ?_
  refine tr_seq ?_
  -- region 1
  refine tr_env (es_cons (t := 0) (OT.tmp rfl) (es_cons (t := 1) (OT.tmp rfl) es_nil)) ?_
  refine tr_region ?_
  refine op_acts (acts_call awake_fn (show enters Try.prog 20 = true from by decide +kernel) OTs.nil (List.Perm.refl _)) (List.Perm.refl _) rfl rfl (fun _ _ => ?_)
  refine op_pure (pu_not (by exact OT.tmp rfl)) rfl rfl ?_
  refine op_pure (pu_move (by exact OT.tmp rfl)) rfl rfl ?_
  refine op_gu_yes rfl rfl rfl (OT.tmp rfl) ?_
  refine op_pure (pu_move (by exact OT.tmp rfl)) rfl rfl ?_
  refine op_gu_yes rfl rfl rfl (OT.tmp rfl) ?_
  refine op_pure (pu_move (by exact OT.tmp rfl)) rfl rfl ?_
  refine op_gu_yes rfl rfl rfl (OT.tmp rfl) ?_
  refine op_acts (acts_lit (d := kT) (v0 := []) (show slTy Try.prog 40 38 1 24 = true from by decide +kernel) (show tyOk Try.prog 38 false 1 = true from by decide +kernel) z38 (show 1 * 1 ≤ 16777216 from by decide) (by decide) (fills_arr rfl rfl (by decide) (by exact OT.tmp rfl) fills_nil)) (List.Perm.refl _) rfl rfl (fun _ _ => ?_)
  refine op_gu_yes rfl rfl rfl (OT.tmp rfl) ?_
  refine op_acts (acts_lit (d := kL) (v0 := []) (show slTy Try.prog 77 40 1 24 = true from by decide +kernel) (show tyOk Try.prog 40 false 1 = true from by decide +kernel) z40 (show 2 * 1 ≤ 16777216 from by decide) (by decide) (fills_arr rfl rfl (by decide) (by exact OT.tmp rfl) (fills_arr rfl rfl (by decide) (by exact OT.tmp rfl) fills_nil))) (List.Perm.refl _) rfl rfl (fun _ _ => ?_)
  refine op_gu_yes rfl rfl rfl (OT.tmp rfl) ?_
  refine op_acts (acts_call (few_fn [l, [t]] (by simp)) (show enters Try.prog 21 = true from by decide +kernel) (OTs.cons (by exact OT.tmp rfl) OTs.nil) (List.Perm.refl _)) (List.Perm.refl _) rfl rfl (fun _ _ => ?_)
  refine op_gu_yes rfl rfl rfl (OT.tmp rfl) ?_
  refine op_pure (pu_not (by exact OT.tmp rfl)) rfl rfl ?_
  refine op_pure (pu_pick_or (by exact OT.tmp rfl) (by exact OT.gu_in (OT.tmp rfl) ⟨trivial, rfl⟩)) rfl rfl ?_
  refine tr_nil ?_
  refine then_normal ?_
  refine tr_cond ((by exact OT.tmp rfl)) (fun c16 => ?_) (fun c16 => ?_)
  · skip
    refine tr_seq ?_
    -- region 2
    refine tr_env es_nil ?_
    refine tr_region ?_
    refine op_acts (acts_call awake_fn (show enters Try.prog 20 = true from by decide +kernel) OTs.nil (List.Perm.refl _)) (List.Perm.refl _) rfl rfl (fun _ _ => ?_)
    refine op_pure (pu_assign (by exact OT.tmp rfl)) rfl rfl ?_
    refine tr_nil ?_
    refine then_normal ?_
    refine tr_ret ?_
    refine then_ret ?_
    exact ret_one .ret (.inl rfl) rfl () (OT.tmp rfl) trivial (by exact picks_nil)
  · skip
    have hf : fewB [l, [t]] = true := by simpa using c16
    have fl : Few l := few_Few hf (by simp)
    have ft : t.length ≤ 1000 := by have := (few_of hf (l := [t]) (by simp)).2 t (by simp); omega
    have hl1 : (setR l).length ≤ 1000 := fl.set.small.1
    have hy1 : ∀ y ∈ setR l, y.length ≤ 1000 := fl.set.small.2
    refine tr_skip ?_
    refine then_normal ?_
    refine tr_seq ?_
    -- region 3
    refine tr_env (es_cons (t := 0) (OT.tmp rfl) (es_cons (t := 1) (OT.tmp rfl) es_nil)) ?_
    refine tr_region ?_
    refine op_pure (pu_move (by exact OT.tmp rfl)) rfl rfl ?_
    refine op_acts (acts_call (Own_fn l fl.small) (show enters Try.prog 27 = true from by decide +kernel) (OTs.cons (by exact OT.tmp rfl) OTs.nil) (List.Perm.refl _)) (List.Perm.refl _) rfl rfl (fun _ _ => ?_)
    refine op_pure (pu_assign (by exact OT.tmp rfl)) rfl rfl ?_
    refine tr_nil ?_
    refine then_normal ?_
    refine tr_seq ?_
    -- region 4
    refine tr_env (es_cons (t := 0) (OT.tmp rfl) (es_cons (t := 1) (OT.tmp rfl) (es_cons (t := 5) (OT.tmp rfl) es_nil))) ?_
    refine tr_mark fun K hs hnew => ?_
    refine tr_region ?_
    refine op_pure (pu_move (by exact OT.tmp rfl)) rfl rfl ?_
    refine op_acts (acts_callM (Set_fn (K0 := K) (n0 := w.heap.size) l fl.small) (mk_of (OT.tmp (t := 0) rfl)) (show enters Try.prog 33 = true from by decide +kernel) (OTs.cons (by exact OT.unmark (OT.tmp rfl)) OTs.nil) (List.Perm.refl _)) (List.Perm.refl _) rfl rfl (fun _ _ => ?_)
    refine op_pure (pu_assign (by exact OT.tmp rfl)) rfl rfl ?_
    refine tr_nil ?_
    refine then_normal ?_
    refine tr_seq ?_
    refine tr_seq ?_
    -- region 5
    refine tr_env (es_cons (t := 0) (OT.tmp rfl) (es_cons (t := 1) (OT.tmp rfl) (es_cons (t := 5) (OT.tmp rfl) (es_cons (t := 6) (OT.tmp rfl) es_nil)))) ?_
    refine tr_region ?_
    refine op_pure (pu_move (by exact OT.tmp rfl)) rfl rfl ?_
    refine op_pure (pu_move (by exact OT.tmp rfl)) rfl rfl ?_
    refine op_acts (acts_call (rSet_fn l fl.small) (show enters Try.prog 34 = true from by decide +kernel) (OTs.cons (by exact OT.unmark (OT.tmp rfl)) OTs.nil) (List.Perm.refl _)) (List.Perm.refl _) rfl rfl (fun _ _ => ?_)
    refine tr_as 22 (OT.unfr2 (OT.tmp rfl)) ?_
    refine op_acts (acts_call (Same_self (setR l) fl.set.small) (show enters Try.prog 32 = true from by decide +kernel) (OTs.cons (by exact OT.tmp rfl) (OTs.cons (by exact OT.tmp rfl) OTs.nil)) (List.Perm.refl _)) (List.Perm.refl _) rfl rfl (fun _ _ => ?_)
    refine op_pure (pu_not (by exact OT.tmp rfl)) rfl rfl ?_
    refine op_pure (pu_move (by exact OT.tmp rfl)) rfl rfl ?_
    refine op_gu_yes rfl rfl rfl (OT.tmp rfl) ?_
    refine op_pure (pu_move (by exact OT.tmp rfl)) rfl rfl ?_
    refine op_gu_yes rfl rfl rfl (OT.tmp rfl) ?_
    refine op_acts (acts_call (Rises_all l) (show enters Try.prog 35 = true from by decide +kernel) (OTs.cons (by exact OT.unmark (OT.tmp rfl)) OTs.nil) (List.Perm.refl _)) (List.Perm.refl _) rfl rfl (fun _ _ => ?_)
    refine op_gu_yes rfl rfl rfl (OT.tmp rfl) ?_
    refine op_pure (pu_move (by exact OT.tmp rfl)) rfl rfl ?_
    refine op_gu_yes rfl rfl rfl (OT.tmp rfl) ?_
    refine op_acts (acts_call (rRises_fn l fl.small) (show enters Try.prog 36 = true from by decide +kernel) (OTs.cons (by exact OT.unmark (OT.tmp rfl)) OTs.nil) (List.Perm.refl _)) (List.Perm.refl _) rfl rfl (fun _ _ => ?_)
    refine op_gu_yes rfl rfl rfl (OT.tmp rfl) ?_
    refine op_pure (Pure.val (pu_bool_neq (OT.tmp rfl) (OT.tmp rfl) Try.underlying4) (show Value.bool (risesB l != risesB l) = .bool false from congrArg Value.bool (by simp))) rfl rfl ?_
    refine op_pure (pu_pick_or (by exact OT.tmp rfl) (by exact OT.gu_in (OT.tmp rfl) ⟨trivial, rfl⟩)) rfl rfl ?_
    refine op_pure (pu_move (by exact OT.tmp rfl)) rfl rfl ?_
    refine op_gu_yes rfl rfl rfl (OT.tmp rfl) ?_
    refine op_pure (pu_move (by exact OT.tmp rfl)) rfl rfl ?_
    refine tr_as 35 (OT.unfr2 (OT.tmp rfl)) ?_
    refine op_gu_yes rfl rfl rfl (OT.tmp rfl) ?_
    refine op_acts (acts_call (Rises_set l) (show enters Try.prog 35 = true from by decide +kernel) (OTs.cons (by exact OT.tmp rfl) OTs.nil) (List.Perm.refl _)) (List.Perm.refl _) rfl rfl (fun _ _ => ?_)
    refine op_gu_yes rfl rfl rfl (OT.tmp rfl) ?_
    refine op_pure (pu_not (by exact OT.tmp rfl)) rfl rfl ?_
    refine op_pure (pu_pick_or (by exact OT.tmp rfl) (by exact OT.gu_in (OT.tmp rfl) ⟨trivial, rfl⟩)) rfl rfl ?_
    refine op_pure (pu_move (by exact OT.tmp rfl)) rfl rfl ?_
    refine op_gu_yes rfl rfl rfl (OT.tmp rfl) ?_
    refine op_pure (pu_move (by exact OT.tmp rfl)) rfl rfl ?_
    refine op_gu_yes rfl rfl rfl (OT.tmp rfl) ?_
    refine op_pure (pu_move (by exact OT.tmp rfl)) rfl rfl ?_
    refine op_gu_yes rfl rfl rfl (OT.tmp rfl) ?_
    refine op_acts (acts_call (Has_fn l t fl.small) (show enters Try.prog 37 = true from by decide +kernel) (OTs.cons (by exact OT.unmark (OT.tmp rfl)) (OTs.cons (by exact OT.unmark (OT.tmp rfl)) OTs.nil)) (List.Perm.refl _)) (List.Perm.refl _) rfl rfl (fun _ _ => ?_)
    refine op_gu_yes rfl rfl rfl (OT.tmp rfl) ?_
    refine op_pure (pu_move (by exact OT.tmp rfl)) rfl rfl ?_
    refine op_gu_yes rfl rfl rfl (OT.tmp rfl) ?_
    refine op_pure (pu_move (by exact OT.tmp rfl)) rfl rfl ?_
    refine op_gu_yes rfl rfl rfl (OT.tmp rfl) ?_
    refine op_acts (acts_call (rHas_fn l t fl.small ft) (show enters Try.prog 38 = true from by decide +kernel) (OTs.cons (by exact OT.unmark (OT.tmp rfl)) (OTs.cons (by exact OT.unmark (OT.tmp rfl)) OTs.nil)) (List.Perm.refl _)) (List.Perm.refl _) rfl rfl (fun _ _ => ?_)
    refine op_gu_yes rfl rfl rfl (OT.tmp rfl) ?_
    refine op_pure (Pure.val (pu_bool_neq (OT.tmp rfl) (OT.tmp rfl) Try.underlying4) (show Value.bool (l.contains t != l.contains t) = .bool false from congrArg Value.bool (by simp))) rfl rfl ?_
    refine op_pure (pu_pick_or (by exact OT.tmp rfl) (by exact OT.gu_in (OT.tmp rfl) ⟨trivial, rfl⟩)) rfl rfl ?_
    refine tr_nil ?_
    refine then_normal ?_
    refine tr_cond ((by exact OT.tmp rfl)) (fun c47 => ?_) (fun c47 => ?_)
    · skip
      exact absurd c47 (by decide) --done
    · skip
      refine tr_skip ?_
      refine then_normal ?_
      refine tr_seq ?_
      -- region 7
      refine tr_env (es_cons (t := 0) (OT.tmp rfl) (es_cons (t := 5) (OT.tmp rfl) (es_cons (t := 6) (OT.tmp rfl) es_nil))) ?_
      refine tr_region ?_
      refine op_pure (pu_move (by exact OT.tmp rfl)) rfl rfl ?_
      refine op_spoil spoil_ct (show enters Try.prog 31 = true from by decide +kernel) hs hnew (mk_of (OT.tmp (t := 0) rfl)) (OT.tmp rfl) hl1 hy1 (L' := []) picks_nil (ea_cons (t := 0) (OT.tmp rfl) (ea_cons (t := 5) (OT.tmp rfl) ea_nil)) rfl rfl ?_
      refine tr_nil ?_
      refine then_normal ?_
      refine tr_seq ?_
      -- region 8
      refine tr_env (es_cons (t := 0) (OT.tmp rfl) (es_cons (t := 5) (OT.tmp rfl) es_nil)) ?_
      refine tr_region ?_
      refine op_pure (pu_move (by exact OT.tmp rfl)) rfl rfl ?_
      refine op_pure (pu_move (by exact OT.tmp rfl)) rfl rfl ?_
      refine op_acts (acts_call (Same_self l fl.small) (show enters Try.prog 32 = true from by decide +kernel) (OTs.cons (by exact OT.tmp rfl) (OTs.cons (by exact OT.tmp rfl) OTs.nil)) (List.Perm.refl _)) (List.Perm.refl _) rfl rfl (fun _ _ => ?_)
      refine op_pure (pu_assign (by exact OT.tmp rfl)) rfl rfl ?_
      refine tr_nil ?_
      refine then_normal ?_
      refine tr_ret ?_
      exact ret_one .ret (.inl rfl) rfl () (OT.tmp rfl) trivial (by exact picks_nil)
end Go.Proofs.Ytloblpklkhepbaa
