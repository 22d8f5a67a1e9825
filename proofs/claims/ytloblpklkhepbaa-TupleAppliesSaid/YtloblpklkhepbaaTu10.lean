/- Walks through the Go functions tuple.Back, rhizomelaw10.awake, as typed contracts. -/
import Derived.Test.YtloblpklkhepbaaTu9
namespace Go.Proofs.Ytloblpklkhepbaa
open Go Go.Gw Go.So Go.Tu
set_option linter.unusedVariables false
set_option linter.unusedSimpArgs false
variable {K0 : FH} {n0 : Nat}
theorem Diff_ex : CtM noK 0 Try.prog 28 [SlT kT [[1], [2]], SlT kT [[2], [3]]] [] Unit (fun _ => TupT [(kDF noK 0).T ([[3]], [[1]]), I64 0]) (fun _ => []) (fun _ => True) := by
  have h := Diff_fn (K0 := noK) (n0 := 0) [[1], [2]] [[2], [3]] ⟨by simp, by simp⟩ ⟨by simp, by simp⟩
  rw [diff_ex] at h; exact h
theorem Then_ex : Ct Try.prog 24 [kD.T ([[3]], []), kD.T ([[4]], [[3]])] [] Unit (fun _ => TupT [kD.T ([[4]], []), I64 0]) (fun _ => []) (fun _ => True) := by
  have h := Then_fn ([[3]], []) ([[4]], [[3]]) ⟨by simp, by simp⟩ ⟨by simp, by simp⟩ ⟨by simp, by simp⟩ ⟨by simp, by simp⟩
  rw [then_ex] at h; exact h
theorem kDF_T {N : Nat} {Γ : Env} {x : Operand} {v : Dl} (h : OT N Γ x ((kDF K0 n0).T v)) : OT N Γ x (kD.T v) := fun a H f => by
  obtain ⟨cs, ⟨c1, c2, e1, e2, e3⟩, hv⟩ := h a H f
  refine ⟨cs, ⟨c1, c2, ?_, ?_, e3⟩, hv⟩
  · obtain ⟨u, e4, e5⟩ := e1; exact ⟨u, e4, slt_weak (d := kF K0 n0) (e := kT) rfl cl_weak e5.1⟩
  · obtain ⟨u, e4, e5⟩ := e2; exact ⟨u, e4, slt_weak (d := kF K0 n0) (e := kT) rfl cl_weak e5.1⟩

set_option maxHeartbeats 1000000 in
set_option maxRecDepth 20000 in
/-- rhizome/tuple.Back -/
theorem Back_fn (x : Dl) (h1 : Small x.1) (h2 : Small x.2) : CtM K0 n0 Try.prog 41 [kD.T x] ([]) Unit (fun _ => (kDF K0 n0).T (x.2, x.1)) (fun _ => []) (fun _ => True) := by
  refine fn_introM Try.func41 rfl rfl ?_
  intro H w hK hn
  refine tr_seq ?_
  -- region 0
  refine tr_env (es_cons (t := 0) (OT.tmp rfl) es_nil) ?_
  refine tr_region ?_
  refine op_acts (acts_box (d := kD) (OT.tmp rfl)) (List.Perm.refl _) rfl rfl (fun g0_0 _ => ?_)
  refine op_acts (acts_alloc ((z44f (K0 := K0) (n0 := n0)))) (List.Perm.refl _) rfl rfl (fun g0_1 _ => ?_)
  refine tr_nil ?_
  refine then_normal ?_
  refine tr_seq ?_
  -- region 1
  refine tr_env (es_cons (t := 1) (OT.tmp rfl) (es_cons (t := 2) (OT.tmp rfl) es_nil)) ?_
  apply tr_any (m := 5) (ns := [[(1, none)], [(3, some 0)], [(4, some 1)], [(1, none)], [(6, some 3)]]) (by kernel_rfl) (by kernel_rfl) (Ts := [_, _, _, _, _]) rfl
  case hops =>
    refine ⟨?_, ⟨?_, ⟨?_, ⟨?_, ⟨?_, trivial⟩⟩⟩⟩⟩
    · exact rop_pure rfl (pu_faddr (OT.tmp rfl) (show fieldOk Try.prog 44 1 1 false 1 = true from by decide +kernel))
    · exact rop_pure rfl (pu_load_blk (OT.tmp rfl) (by exact mem_at 1 rfl) (Lens.snd (a := kL) (b := kL)) (show tyOk Try.prog 40 false 1 = true from by decide +kernel))
    · exact rop_acts rfl (acts_callM (own_fz x.2 h2) (mk_in hK hn) (show enters Try.prog 56 = true from by decide +kernel) (OTs.cons (OT.tmp rfl) OTs.nil) (List.Perm.refl _)) (fun _ _ _ _ h => h)
    · exact rop_pure rfl (pu_faddr (OT.tmp rfl) (show fieldOk Try.prog 44 0 0 false 1 = true from by decide +kernel))
    · exact rop_pure rfl (pu_load_blk (OT.tmp rfl) (by exact mem_at 1 rfl) (Lens.fst (a := kL) (b := kL)) (show tyOk Try.prog 40 false 1 = true from by decide +kernel))
  case h =>
    refine op_acts (acts_callM (own_fz x.1 h1) (mk_in hK hn) (show enters Try.prog 56 = true from by decide +kernel) (OTs.cons (OT.tmp rfl) OTs.nil) (List.Perm.refl _)) (List.Perm.refl _) rfl rfl (fun _ _ => ?_)
    refine op_pure (pu_build (d := kDF K0 n0) (v0 := ([], [])) (ps := [(0, 1), (1, 1)]) (z44f (K0 := K0) (n0 := n0)) (by kernel_rfl) rfl (fills_cons rfl (Lens.fst (a := kFF K0 n0) (b := kFF K0 n0)) (OT.tmp rfl) (fills_cons rfl (Lens.snd (a := kFF K0 n0) (b := kFF K0 n0)) (OT.tmp rfl) fills_nil))) rfl rfl ?_
    refine op_acts (acts_store_var (OT.tmp rfl) (OT.tmp rfl) (by exact perm_at 0 rfl) (show tyOk Try.prog 44 true 2 = true from by decide +kernel)) (by exact perm_at 0 rfl) rfl rfl (fun _ _ => ?_)
    refine tr_nil ?_
    refine then_normal ?_
    refine tr_ret ?_
    exact ret_cell (d := kDF K0 n0) (v := (x.2, x.1)) .normal (.inr rfl) rfl () (OT.tmp rfl) (by exact mem_at 0 rfl) (show tyOk Try.prog 44 true 2 = true from by decide +kernel) rfl trivial picks_nil
set_option maxHeartbeats 1000000 in
set_option maxRecDepth 20000 in
/-- rhizome/rhizomelaw10.awake -/
theorem awake_fn  : Ct Try.prog 20 [] ([]) Unit (fun _ => BoolT true) (fun _ => []) (fun _ => True) := by
  refine fn_intro Try.func20 rfl rfl ?_
  intro H w
  refine tr_seq ?_
  -- region 0
  refine tr_env es_nil ?_
  refine tr_region ?_
  refine op_pure (pu_assign OT.const) rfl rfl ?_
  refine tr_nil ?_
  refine then_normal ?_
  refine tr_seq ?_
  -- region 1
  refine tr_env es_nil ?_
  refine tr_region ?_
  refine op_acts (acts_lit (d := kI6) (v0 := 0) (show slTy Try.prog 38 3 1 8 = true from by decide +kernel) (show tyOk Try.prog 3 false 1 = true from by decide +kernel) zi3 (show 1 * 1 ≤ 16777216 from by decide) (by decide) (fills_arr rfl rfl (by decide) OT.const fills_nil)) (List.Perm.refl _) rfl rfl (fun _ _ => ?_)
  refine op_acts (acts_lit (d := kI6) (v0 := 0) (show slTy Try.prog 38 3 1 8 = true from by decide +kernel) (show tyOk Try.prog 3 false 1 = true from by decide +kernel) zi3 (show 1 * 1 ≤ 16777216 from by decide) (by decide) (fills_arr rfl rfl (by decide) OT.const fills_nil)) (List.Perm.refl _) rfl rfl (fun _ _ => ?_)
  refine op_acts (acts_lit (d := kT) (v0 := []) (show slTy Try.prog 40 38 1 24 = true from by decide +kernel) (show tyOk Try.prog 38 false 1 = true from by decide +kernel) z38 (show 2 * 1 ≤ 16777216 from by decide) (by decide) (fills_arr rfl rfl (by decide) (OT.tmp rfl) (fills_arr rfl rfl (by decide) (OT.tmp rfl) fills_nil))) (List.Perm.refl _) rfl rfl (fun _ _ => ?_)
  refine op_acts (acts_lit (d := kI6) (v0 := 0) (show slTy Try.prog 38 3 1 8 = true from by decide +kernel) (show tyOk Try.prog 3 false 1 = true from by decide +kernel) zi3 (show 1 * 1 ≤ 16777216 from by decide) (by decide) (fills_arr rfl rfl (by decide) OT.const fills_nil)) (List.Perm.refl _) rfl rfl (fun _ _ => ?_)
  refine op_acts (acts_lit (d := kI6) (v0 := 0) (show slTy Try.prog 38 3 1 8 = true from by decide +kernel) (show tyOk Try.prog 3 false 1 = true from by decide +kernel) zi3 (show 1 * 1 ≤ 16777216 from by decide) (by decide) (fills_arr rfl rfl (by decide) OT.const fills_nil)) (List.Perm.refl _) rfl rfl (fun _ _ => ?_)
  refine op_acts (acts_lit (d := kT) (v0 := []) (show slTy Try.prog 40 38 1 24 = true from by decide +kernel) (show tyOk Try.prog 38 false 1 = true from by decide +kernel) z38 (show 2 * 1 ≤ 16777216 from by decide) (by decide) (fills_arr rfl rfl (by decide) (OT.tmp rfl) (fills_arr rfl rfl (by decide) (OT.tmp rfl) fills_nil))) (List.Perm.refl _) rfl rfl (fun _ _ => ?_)
  refine op_acts (acts_callM Diff_ex mk_none (show enters Try.prog 28 = true from by decide +kernel) (OTs.cons (OT.tmp rfl) (OTs.cons (OT.tmp rfl) OTs.nil)) (List.Perm.refl _)) (List.Perm.refl _) rfl rfl (fun _ _ => ?_)
  refine op_pure (pu_move (OT.tmp rfl)) rfl rfl ?_
  refine op_pure (pu_extract (OT.tmp rfl) rfl) rfl rfl ?_
  refine op_pure (pu_extract (OT.tmp rfl) rfl) rfl rfl ?_
  refine tr_as 13 (kDF_T (OT.tmp rfl)) ?_
  refine op_acts (acts_alloc (z44)) (List.Perm.refl _) rfl rfl (fun g1_10 _ => ?_)
  refine op_acts (acts_store_var (OT.tmp rfl) (OT.tmp rfl) (by exact perm_at 0 rfl) (show tyOk Try.prog 44 true 2 = true from by decide +kernel)) (by exact perm_at 0 rfl) rfl rfl (fun _ _ => ?_)
  refine op_pure (pu_assign (OT.tmp rfl)) rfl rfl ?_
  refine tr_nil ?_
  refine then_normal ?_
  refine tr_seq ?_
  -- region 2
  refine tr_env (es_cons (t := 1) (OT.tmp rfl) (es_cons (t := 2) (OT.tmp rfl) es_nil)) ?_
  refine tr_region ?_
  refine op_acts (acts_lit (d := kI6) (v0 := 0) (show slTy Try.prog 38 3 1 8 = true from by decide +kernel) (show tyOk Try.prog 3 false 1 = true from by decide +kernel) zi3 (show 1 * 1 ≤ 16777216 from by decide) (by decide) (fills_arr rfl rfl (by decide) OT.const fills_nil)) (List.Perm.refl _) rfl rfl (fun _ _ => ?_)
  refine op_acts (acts_lit (d := kT) (v0 := []) (show slTy Try.prog 40 38 1 24 = true from by decide +kernel) (show tyOk Try.prog 38 false 1 = true from by decide +kernel) z38 (show 1 * 1 ≤ 16777216 from by decide) (by decide) (fills_arr rfl rfl (by decide) (OT.tmp rfl) fills_nil)) (List.Perm.refl _) rfl rfl (fun _ _ => ?_)
  refine op_pure (pu_build (d := kD) (v0 := ([], [])) (ps := [(0, 1), (1, 1)]) z44 (by kernel_rfl) rfl (fills_cons rfl (Lens.fst (a := kL) (b := kL)) (OT.tmp rfl) fills_nil)) rfl rfl ?_
  refine op_acts (acts_lit (d := kI6) (v0 := 0) (show slTy Try.prog 38 3 1 8 = true from by decide +kernel) (show tyOk Try.prog 3 false 1 = true from by decide +kernel) zi3 (show 1 * 1 ≤ 16777216 from by decide) (by decide) (fills_arr rfl rfl (by decide) OT.const fills_nil)) (List.Perm.refl _) rfl rfl (fun _ _ => ?_)
  refine op_acts (acts_lit (d := kT) (v0 := []) (show slTy Try.prog 40 38 1 24 = true from by decide +kernel) (show tyOk Try.prog 38 false 1 = true from by decide +kernel) z38 (show 1 * 1 ≤ 16777216 from by decide) (by decide) (fills_arr rfl rfl (by decide) (OT.tmp rfl) fills_nil)) (List.Perm.refl _) rfl rfl (fun _ _ => ?_)
  refine op_acts (acts_lit (d := kI6) (v0 := 0) (show slTy Try.prog 38 3 1 8 = true from by decide +kernel) (show tyOk Try.prog 3 false 1 = true from by decide +kernel) zi3 (show 1 * 1 ≤ 16777216 from by decide) (by decide) (fills_arr rfl rfl (by decide) OT.const fills_nil)) (List.Perm.refl _) rfl rfl (fun _ _ => ?_)
  refine op_acts (acts_lit (d := kT) (v0 := []) (show slTy Try.prog 40 38 1 24 = true from by decide +kernel) (show tyOk Try.prog 38 false 1 = true from by decide +kernel) z38 (show 1 * 1 ≤ 16777216 from by decide) (by decide) (fills_arr rfl rfl (by decide) (OT.tmp rfl) fills_nil)) (List.Perm.refl _) rfl rfl (fun _ _ => ?_)
  refine op_pure (pu_build (d := kD) (v0 := ([], [])) (ps := [(0, 1), (1, 1)]) z44 (by kernel_rfl) rfl (fills_cons rfl (Lens.fst (a := kL) (b := kL)) (OT.tmp rfl) (fills_cons rfl (Lens.snd (a := kL) (b := kL)) (OT.tmp rfl) fills_nil))) rfl rfl ?_
  refine op_acts (acts_call Then_ex (show enters Try.prog 24 = true from by decide +kernel) (OTs.cons (OT.tmp rfl) (OTs.cons (OT.tmp rfl) OTs.nil)) (List.Perm.refl _)) (List.Perm.refl _) rfl rfl (fun _ _ => ?_)
  refine op_pure (pu_move (OT.tmp rfl)) rfl rfl ?_
  refine op_pure (pu_extract (OT.tmp rfl) rfl) rfl rfl ?_
  refine op_pure (pu_extract (OT.tmp rfl) rfl) rfl rfl ?_
  refine op_acts (acts_alloc (z44)) (List.Perm.refl _) rfl rfl (fun g2_12 _ => ?_)
  refine op_acts (acts_store_var (OT.tmp rfl) (OT.tmp rfl) (by exact perm_at 0 rfl) (show tyOk Try.prog 44 true 2 = true from by decide +kernel)) (by exact perm_at 0 rfl) rfl rfl (fun _ _ => ?_)
  refine op_pure (pu_assign (OT.tmp rfl)) rfl rfl ?_
  refine tr_nil ?_
  refine then_normal ?_
  refine tr_seq ?_
  -- region 3
  refine tr_env (es_cons (t := 1) (OT.tmp rfl) (es_cons (t := 2) (OT.tmp rfl) (es_cons (t := 3) (OT.tmp rfl) (es_cons (t := 4) (OT.tmp rfl) es_nil)))) ?_
  refine tr_region ?_
  refine op_pure (pu_move (OT.tmp rfl)) rfl rfl ?_
  refine op_pure (pu_eql (OT.tmp rfl) OT.const) rfl rfl ?_
  refine op_pure (pu_move (OT.tmp rfl)) rfl rfl ?_
  refine op_gu_yes rfl rfl rfl (OT.tmp rfl) ?_
  refine op_pure (pu_faddr (OT.tmp rfl) (show fieldOk Try.prog 44 0 0 false 1 = true from by decide +kernel)) rfl rfl ?_
  refine op_gu_yes rfl rfl rfl (OT.tmp rfl) ?_
  refine op_pure (pu_load_blk (OT.tmp rfl) (by exact mem_at 1 rfl) (Lens.fst (a := kL) (b := kL)) (show tyOk Try.prog 40 false 1 = true from by decide +kernel)) rfl rfl ?_
  refine op_gu_yes rfl rfl rfl (OT.tmp rfl) ?_
  refine op_pure (pu_len_sl (OT.tmp rfl) Try.underlying40) rfl rfl ?_
  refine op_gu_yes rfl rfl rfl (OT.tmp rfl) ?_
  refine op_pure (pu_eql (OT.tmp rfl) OT.const) rfl rfl ?_
  refine op_pure (pu_pick_and (OT.tmp rfl) (by exact OT.gu_in (OT.tmp rfl) ⟨trivial, rfl⟩)) rfl rfl ?_
  refine op_pure (pu_move (OT.tmp rfl)) rfl rfl ?_
  refine op_gu_yes rfl rfl rfl (OT.tmp rfl) ?_
  refine op_pure (pu_faddr (OT.tmp rfl) (show fieldOk Try.prog 44 0 0 false 1 = true from by decide +kernel)) rfl rfl ?_
  refine op_gu_yes rfl rfl rfl (OT.tmp rfl) ?_
  refine op_pure (pu_load_blk (OT.tmp rfl) (by exact mem_at 1 rfl) (Lens.fst (a := kL) (b := kL)) (show tyOk Try.prog 40 false 1 = true from by decide +kernel)) rfl rfl ?_
  refine op_gu_yes rfl rfl rfl (OT.tmp rfl) ?_
  refine op_pure (pu_index (OT.tmp rfl) OT.const Try.underlying40 (show tyOk Try.prog 38 false 1 = true from by decide +kernel) (by omega) (by (simp; done))) rfl rfl ?_
  refine op_gu_yes rfl rfl rfl (OT.tmp rfl) ?_
  refine op_pure (pu_load (OT.tmp rfl) (show tyOk Try.prog 38 false 1 = true from by decide +kernel)) rfl rfl ?_
  refine op_gu_yes rfl rfl rfl (OT.tmp rfl) ?_
  refine op_pure (pu_index (OT.tmp rfl) OT.const Try.underlying38 (show tyOk Try.prog 3 false 1 = true from by decide +kernel) (by omega) (by decide)) rfl rfl ?_
  refine op_gu_yes rfl rfl rfl (OT.tmp rfl) ?_
  refine op_pure (pu_load (OT.tmp rfl) (show tyOk Try.prog 3 false 1 = true from by decide +kernel)) rfl rfl ?_
  refine op_gu_yes rfl rfl rfl (OT.tmp rfl) ?_
  refine op_pure (pu_eql (OT.tmp rfl) OT.const) rfl rfl ?_
  refine op_pure (pu_pick_and (OT.tmp rfl) (by exact OT.gu_in (OT.tmp rfl) ⟨trivial, rfl⟩)) rfl rfl ?_
  refine op_pure (pu_move (OT.tmp rfl)) rfl rfl ?_
  refine op_gu_yes rfl rfl rfl (OT.tmp rfl) ?_
  refine op_pure (pu_faddr (OT.tmp rfl) (show fieldOk Try.prog 44 1 1 false 1 = true from by decide +kernel)) rfl rfl ?_
  refine op_gu_yes rfl rfl rfl (OT.tmp rfl) ?_
  refine op_pure (pu_load_blk (OT.tmp rfl) (by exact mem_at 1 rfl) (Lens.snd (a := kL) (b := kL)) (show tyOk Try.prog 40 false 1 = true from by decide +kernel)) rfl rfl ?_
  refine op_gu_yes rfl rfl rfl (OT.tmp rfl) ?_
  refine op_pure (pu_len_sl (OT.tmp rfl) Try.underlying40) rfl rfl ?_
  refine op_gu_yes rfl rfl rfl (OT.tmp rfl) ?_
  refine op_pure (pu_eql (OT.tmp rfl) OT.const) rfl rfl ?_
  refine op_pure (pu_pick_and (OT.tmp rfl) (by exact OT.gu_in (OT.tmp rfl) ⟨trivial, rfl⟩)) rfl rfl ?_
  refine op_pure (pu_move (OT.tmp rfl)) rfl rfl ?_
  refine op_gu_yes rfl rfl rfl (OT.tmp rfl) ?_
  refine op_pure (pu_move (OT.tmp rfl)) rfl rfl ?_
  refine op_gu_yes rfl rfl rfl (OT.tmp rfl) ?_
  refine op_pure (pu_eql (OT.tmp rfl) OT.const) rfl rfl ?_
  refine op_pure (pu_pick_and (OT.tmp rfl) (by exact OT.gu_in (OT.tmp rfl) ⟨trivial, rfl⟩)) rfl rfl ?_
  refine op_pure (pu_move (OT.tmp rfl)) rfl rfl ?_
  refine op_gu_yes rfl rfl rfl (OT.tmp rfl) ?_
  refine op_pure (pu_faddr (OT.tmp rfl) (show fieldOk Try.prog 44 0 0 false 1 = true from by decide +kernel)) rfl rfl ?_
  refine op_gu_yes rfl rfl rfl (OT.tmp rfl) ?_
  refine op_pure (pu_load_blk (OT.tmp rfl) (by exact mem_at 0 rfl) (Lens.fst (a := kL) (b := kL)) (show tyOk Try.prog 40 false 1 = true from by decide +kernel)) rfl rfl ?_
  refine op_gu_yes rfl rfl rfl (OT.tmp rfl) ?_
  refine op_pure (pu_len_sl (OT.tmp rfl) Try.underlying40) rfl rfl ?_
  refine op_gu_yes rfl rfl rfl (OT.tmp rfl) ?_
  refine op_pure (pu_eql (OT.tmp rfl) OT.const) rfl rfl ?_
  refine op_pure (pu_pick_and (OT.tmp rfl) (by exact OT.gu_in (OT.tmp rfl) ⟨trivial, rfl⟩)) rfl rfl ?_
  refine op_pure (pu_move (OT.tmp rfl)) rfl rfl ?_
  refine op_gu_yes rfl rfl rfl (OT.tmp rfl) ?_
  refine op_pure (pu_faddr (OT.tmp rfl) (show fieldOk Try.prog 44 0 0 false 1 = true from by decide +kernel)) rfl rfl ?_
  refine op_gu_yes rfl rfl rfl (OT.tmp rfl) ?_
  refine op_pure (pu_load_blk (OT.tmp rfl) (by exact mem_at 0 rfl) (Lens.fst (a := kL) (b := kL)) (show tyOk Try.prog 40 false 1 = true from by decide +kernel)) rfl rfl ?_
  refine op_gu_yes rfl rfl rfl (OT.tmp rfl) ?_
  refine op_pure (pu_index (OT.tmp rfl) OT.const Try.underlying40 (show tyOk Try.prog 38 false 1 = true from by decide +kernel) (by omega) (by (simp; done))) rfl rfl ?_
  refine op_gu_yes rfl rfl rfl (OT.tmp rfl) ?_
  refine op_pure (pu_load (OT.tmp rfl) (show tyOk Try.prog 38 false 1 = true from by decide +kernel)) rfl rfl ?_
  refine op_gu_yes rfl rfl rfl (OT.tmp rfl) ?_
  refine op_pure (pu_index (OT.tmp rfl) OT.const Try.underlying38 (show tyOk Try.prog 3 false 1 = true from by decide +kernel) (by omega) (by decide)) rfl rfl ?_
  refine op_gu_yes rfl rfl rfl (OT.tmp rfl) ?_
  refine op_pure (pu_load (OT.tmp rfl) (show tyOk Try.prog 3 false 1 = true from by decide +kernel)) rfl rfl ?_
  refine op_gu_yes rfl rfl rfl (OT.tmp rfl) ?_
  refine op_pure (pu_eql (OT.tmp rfl) OT.const) rfl rfl ?_
  refine op_pure (pu_pick_and (OT.tmp rfl) (by exact OT.gu_in (OT.tmp rfl) ⟨trivial, rfl⟩)) rfl rfl ?_
  refine op_pure (pu_move (OT.tmp rfl)) rfl rfl ?_
  refine op_gu_yes rfl rfl rfl (OT.tmp rfl) ?_
  refine op_pure (pu_faddr (OT.tmp rfl) (show fieldOk Try.prog 44 1 1 false 1 = true from by decide +kernel)) rfl rfl ?_
  refine op_gu_yes rfl rfl rfl (OT.tmp rfl) ?_
  refine op_pure (pu_load_blk (OT.tmp rfl) (by exact mem_at 0 rfl) (Lens.snd (a := kL) (b := kL)) (show tyOk Try.prog 40 false 1 = true from by decide +kernel)) rfl rfl ?_
  refine op_gu_yes rfl rfl rfl (OT.tmp rfl) ?_
  refine op_pure (pu_len_sl (OT.tmp rfl) Try.underlying40) rfl rfl ?_
  refine op_gu_yes rfl rfl rfl (OT.tmp rfl) ?_
  refine op_pure (pu_eql (OT.tmp rfl) OT.const) rfl rfl ?_
  refine op_pure (pu_pick_and (OT.tmp rfl) (by exact OT.gu_in (OT.tmp rfl) ⟨trivial, rfl⟩)) rfl rfl ?_
  refine op_pure (pu_assign (OT.tmp rfl)) rfl rfl ?_
  refine tr_nil ?_
  refine then_normal ?_
  refine tr_ret ?_
  exact ret_one .ret (.inl rfl) rfl () (OT.tmp rfl) trivial (by exact picks_nil)
end Go.Proofs.Ytloblpklkhepbaa
