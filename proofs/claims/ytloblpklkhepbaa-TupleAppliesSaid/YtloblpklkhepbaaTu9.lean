/- Walks through the Go functions tuple.Then, as typed contracts. -/
import Derived.Test.YtloblpklkhepbaaTu8
import Derived.Test.YtloblpklkhepbaaTuF
namespace Go.Proofs.Ytloblpklkhepbaa
open Go Go.Gw Go.So Go.Tu
set_option linter.unusedVariables false
set_option linter.unusedSimpArgs false
variable {K0 : FH} {n0 : Nat}
theorem nil_K {H : FH} : kL.K H [] [nilS] := ⟨nilS, rfl, none, 0, rfl, by simp, by simp, fun h => by simp at h⟩
theorem z78K {H : FH} : (kP2 kL).K H ([], []) [nilS, nilS] := ⟨rfl, rfl, fun j x h => by
  match j, h with
  | 0, h => simp at h; subst h; exact nil_K
  | 1, h => simp at h; subst h; exact nil_K⟩
theorem z78 : ZeroOf Try.prog 78 (kP2 kL) ([], []) := ⟨.agg #[nilS, nilS], by kernel_rfl, fun H => ⟨[nilS, nilS], z78K, rfl⟩⟩
theorem z79 : ZeroOf Try.prog 79 (karr 4 (kP2 kL)) (List.replicate 4 ([], [])) := ⟨.agg #[nilS, nilS, nilS, nilS, nilS, nilS, nilS, nilS], by kernel_rfl, fun H => ⟨[nilS, nilS, nilS, nilS, nilS, nilS, nilS, nilS], ⟨rfl, rfl, fun j x h => by
  match j, h with
  | 0, h => simp at h; subst h; exact z78K
  | 1, h => simp at h; subst h; exact z78K
  | 2, h => simp at h; subst h; exact z78K
  | 3, h => simp at h; subst h; exact z78K⟩, rfl⟩⟩

set_option maxHeartbeats 1000000 in
set_option maxRecDepth 20000 in
/-- rhizome/tuple.Then -/
theorem Then_fn (x y : Dl) (h1 : Few x.1) (h2 : Few x.2) (h3 : Few y.1) (h4 : Few y.2) : Ct Try.prog 24 [kD.T x, kD.T y] ([]) Unit (fun _ => TupT [kD.T (thenR x y).1, I64 (thenR x y).2]) (fun _ => []) (fun _ => True) := by
  refine fn_intro Try.func24 rfl rfl ?_
  intro H w
  refine tr_seq ?_
  -- region 0
  refine tr_env (es_cons (t := 0) (OT.tmp rfl) (es_cons (t := 1) (OT.tmp rfl) es_nil)) ?_
  refine tr_region ?_
  refine op_acts (acts_box (d := kD) (OT.tmp rfl)) (List.Perm.refl _) rfl rfl (fun g0_0 _ => ?_)
  refine op_acts (acts_box (d := kD) (OT.tmp rfl)) (List.Perm.refl _) rfl rfl (fun g0_1 _ => ?_)
  refine op_acts (acts_alloc (z44)) (List.Perm.refl _) rfl rfl (fun g0_2 _ => ?_)
  refine op_pure (pu_assign OT.const) rfl rfl ?_
  refine tr_nil ?_
  refine then_normal ?_
  refine tr_seq ?_
  refine tr_seq ?_
  -- region 1
  refine tr_env (es_cons (t := 2) (OT.tmp rfl) (es_cons (t := 3) (OT.tmp rfl) (es_cons (t := 4) (OT.tmp rfl) es_nil))) ?_
  refine tr_region ?_
  refine op_pure (pu_faddr (OT.tmp rfl) (show fieldOk Try.prog 44 0 0 false 1 = true from by decide +kernel)) rfl rfl ?_
  refine op_pure (pu_load_blk (OT.tmp rfl) (by exact mem_at 2 rfl) (Lens.fst (a := kL) (b := kL)) (show tyOk Try.prog 40 false 1 = true from by decide +kernel)) rfl rfl ?_
  refine op_pure (pu_faddr (OT.tmp rfl) (show fieldOk Try.prog 44 1 1 false 1 = true from by decide +kernel)) rfl rfl ?_
  refine op_pure (pu_load_blk (OT.tmp rfl) (by exact mem_at 2 rfl) (Lens.snd (a := kL) (b := kL)) (show tyOk Try.prog 40 false 1 = true from by decide +kernel)) rfl rfl ?_
  refine op_pure (pu_faddr (OT.tmp rfl) (show fieldOk Try.prog 44 0 0 false 1 = true from by decide +kernel)) rfl rfl ?_
  refine op_pure (pu_load_blk (OT.tmp rfl) (by exact mem_at 1 rfl) (Lens.fst (a := kL) (b := kL)) (show tyOk Try.prog 40 false 1 = true from by decide +kernel)) rfl rfl ?_
  refine op_pure (pu_faddr (OT.tmp rfl) (show fieldOk Try.prog 44 1 1 false 1 = true from by decide +kernel)) rfl rfl ?_
  refine op_pure (pu_load_blk (OT.tmp rfl) (by exact mem_at 1 rfl) (Lens.snd (a := kL) (b := kL)) (show tyOk Try.prog 40 false 1 = true from by decide +kernel)) rfl rfl ?_
  refine op_acts (acts_lit (d := kL) (v0 := []) (show slTy Try.prog 77 40 1 24 = true from by decide +kernel) (show tyOk Try.prog 40 false 1 = true from by decide +kernel) z40 (show 4 * 1 ≤ 16777216 from by decide) (by decide) (fills_arr rfl rfl (by decide) (OT.tmp rfl) (fills_arr rfl rfl (by decide) (OT.tmp rfl) (fills_arr rfl rfl (by decide) (OT.tmp rfl) (fills_arr rfl rfl (by decide) (OT.tmp rfl) fills_nil))))) (List.Perm.refl _) rfl rfl (fun _ _ => ?_)
  refine op_acts (acts_call (sets_fn [x.1, x.2, y.1, y.2] (by simp)) (show enters Try.prog 50 = true from by decide +kernel) (OTs.cons (OT.tmp rfl) OTs.nil) (List.Perm.refl _)) (List.Perm.refl _) rfl rfl (fun _ _ => ?_)
  refine op_pure (pu_not (OT.tmp rfl)) rfl rfl ?_
  refine tr_nil ?_
  refine then_normal ?_
  refine tr_cond (OT.tmp rfl) (fun c27 => ?_) (fun c27 => ?_)
  · skip
    rw [sets4] at c27
    have hd : thenR x y = (([], []), 1) := by rw [thenR, if_pos (by rw [← c27]; cases risesB x.1 <;> cases risesB x.2 <;> cases risesB y.1 <;> cases risesB y.2 <;> rfl)]
    refine tr_seq ?_
    -- region 2
    refine tr_env (es_cons (t := 4) (OT.tmp rfl) es_nil) ?_
    refine tr_region ?_
    refine op_pure (pu_build (d := kD) (v0 := ([], [])) (ps := [(0, 1), (1, 1)]) z44 (by kernel_rfl) rfl fills_nil) rfl rfl ?_
    refine op_acts (acts_store_var (OT.tmp rfl) (OT.tmp rfl) (by exact perm_at 0 rfl) (show tyOk Try.prog 44 true 2 = true from by decide +kernel)) (by exact perm_at 0 rfl) rfl rfl (fun _ _ => ?_)
    refine op_pure (pu_assign OT.const) rfl rfl ?_
    refine tr_nil ?_
    refine then_normal ?_
    refine tr_ret ?_
    refine then_ret ?_
    exact ret_cell_tmp .ret (.inl rfl) rfl () (OT.tmp rfl) (by exact mem_at 0 rfl) (show tyOk Try.prog 44 true 2 = true from by decide +kernel) (OT.tmp rfl) (fun _ _ h => (by rw [hd]; exact h)) trivial (by exact picks_nil)
  · skip
    rw [sets4] at c27
    obtain ⟨⟨⟨ra, rb⟩, rc⟩, rd⟩ : ((risesB x.1 = true ∧ risesB x.2 = true) ∧ risesB y.1 = true) ∧ risesB y.2 = true := by simpa using c27
    have hd0 : ¬ (!risesB x.1 || !risesB x.2 || !risesB y.1 || !risesB y.2) = true := by rw [ra, rb, rc, rd]; simp
    refine tr_skip ?_
    refine then_normal ?_
    refine tr_seq ?_
    refine tr_seq ?_
    -- region 3
    refine tr_env (es_cons (t := 2) (OT.tmp rfl) (es_cons (t := 3) (OT.tmp rfl) (es_cons (t := 4) (OT.tmp rfl) es_nil))) ?_
    refine tr_region ?_
    refine op_pure (pu_faddr (OT.tmp rfl) (show fieldOk Try.prog 44 0 0 false 1 = true from by decide +kernel)) rfl rfl ?_
    refine op_pure (pu_load_blk (OT.tmp rfl) (by exact mem_at 2 rfl) (Lens.fst (a := kL) (b := kL)) (show tyOk Try.prog 40 false 1 = true from by decide +kernel)) rfl rfl ?_
    refine op_pure (pu_faddr (OT.tmp rfl) (show fieldOk Try.prog 44 0 0 false 1 = true from by decide +kernel)) rfl rfl ?_
    refine op_pure (pu_load_blk (OT.tmp rfl) (by exact mem_at 1 rfl) (Lens.fst (a := kL) (b := kL)) (show tyOk Try.prog 40 false 1 = true from by decide +kernel)) rfl rfl ?_
    refine op_pure (pu_build_arr (d := kP2 kL) (v0 := ([], [])) (agg := false) Try.underlying78 (show tyOk Try.prog 40 false 1 = true from by decide +kernel) z78 rfl (fills_cons rfl Lens.p0 (OT.tmp rfl) (fills_cons rfl Lens.p1 (OT.tmp rfl) fills_nil))) rfl rfl ?_
    refine op_pure (pu_faddr (OT.tmp rfl) (show fieldOk Try.prog 44 1 1 false 1 = true from by decide +kernel)) rfl rfl ?_
    refine op_pure (pu_load_blk (OT.tmp rfl) (by exact mem_at 2 rfl) (Lens.snd (a := kL) (b := kL)) (show tyOk Try.prog 40 false 1 = true from by decide +kernel)) rfl rfl ?_
    refine op_pure (pu_faddr (OT.tmp rfl) (show fieldOk Try.prog 44 1 1 false 1 = true from by decide +kernel)) rfl rfl ?_
    refine op_pure (pu_load_blk (OT.tmp rfl) (by exact mem_at 1 rfl) (Lens.snd (a := kL) (b := kL)) (show tyOk Try.prog 40 false 1 = true from by decide +kernel)) rfl rfl ?_
    refine op_pure (pu_build_arr (d := kP2 kL) (v0 := ([], [])) (agg := false) Try.underlying78 (show tyOk Try.prog 40 false 1 = true from by decide +kernel) z78 rfl (fills_cons rfl Lens.p0 (OT.tmp rfl) (fills_cons rfl Lens.p1 (OT.tmp rfl) fills_nil))) rfl rfl ?_
    refine op_pure (pu_faddr (OT.tmp rfl) (show fieldOk Try.prog 44 0 0 false 1 = true from by decide +kernel)) rfl rfl ?_
    refine op_pure (pu_load_blk (OT.tmp rfl) (by exact mem_at 2 rfl) (Lens.fst (a := kL) (b := kL)) (show tyOk Try.prog 40 false 1 = true from by decide +kernel)) rfl rfl ?_
    refine op_pure (pu_faddr (OT.tmp rfl) (show fieldOk Try.prog 44 1 1 false 1 = true from by decide +kernel)) rfl rfl ?_
    refine op_pure (pu_load_blk (OT.tmp rfl) (by exact mem_at 2 rfl) (Lens.snd (a := kL) (b := kL)) (show tyOk Try.prog 40 false 1 = true from by decide +kernel)) rfl rfl ?_
    refine op_pure (pu_build_arr (d := kP2 kL) (v0 := ([], [])) (agg := false) Try.underlying78 (show tyOk Try.prog 40 false 1 = true from by decide +kernel) z78 rfl (fills_cons rfl Lens.p0 (OT.tmp rfl) (fills_cons rfl Lens.p1 (OT.tmp rfl) fills_nil))) rfl rfl ?_
    refine op_pure (pu_faddr (OT.tmp rfl) (show fieldOk Try.prog 44 0 0 false 1 = true from by decide +kernel)) rfl rfl ?_
    refine op_pure (pu_load_blk (OT.tmp rfl) (by exact mem_at 1 rfl) (Lens.fst (a := kL) (b := kL)) (show tyOk Try.prog 40 false 1 = true from by decide +kernel)) rfl rfl ?_
    refine op_pure (pu_faddr (OT.tmp rfl) (show fieldOk Try.prog 44 1 1 false 1 = true from by decide +kernel)) rfl rfl ?_
    refine op_pure (pu_load_blk (OT.tmp rfl) (by exact mem_at 1 rfl) (Lens.snd (a := kL) (b := kL)) (show tyOk Try.prog 40 false 1 = true from by decide +kernel)) rfl rfl ?_
    refine op_pure (pu_build_arr (d := kP2 kL) (v0 := ([], [])) (agg := false) Try.underlying78 (show tyOk Try.prog 40 false 1 = true from by decide +kernel) z78 rfl (fills_cons rfl Lens.p0 (OT.tmp rfl) (fills_cons rfl Lens.p1 (OT.tmp rfl) fills_nil))) rfl rfl ?_
    refine op_pure (pu_build_arr (d := karr 4 (kP2 kL)) (v0 := List.replicate 4 ([], [])) (agg := true) Try.underlying79 (show tyOk Try.prog 78 true 2 = true from by decide +kernel) z79 rfl (fills_arr rfl rfl (by decide) (OT.tmp rfl) (fills_arr rfl rfl (by decide) (OT.tmp rfl) (fills_arr rfl rfl (by decide) (OT.tmp rfl) (fills_arr rfl rfl (by decide) (OT.tmp rfl) fills_nil))))) rfl rfl ?_
    refine op_pure (pu_move OT.const) rfl rfl ?_
    refine tr_nil ?_
    refine then_normal ?_
    refine tr_block ?_
    refine tr_as (T := (karr 4 (kP2 kL)).T (psL x y)) 49 (OT.tmp rfl) ?_
    refine tr_loopK (σ := Nat) (es_cons (t := 2) (OT.tmp rfl) (es_cons (t := 3) (OT.tmp rfl) (es_cons (t := 4) (OT.tmp rfl) (es_cons (t := 49) (OT.tmp rfl) es_nil)))) (fun k => [(50, I64 (k : Int))]) (fun k => [BlkI g0_0 44 kD x, BlkI g0_1 44 kD y, BlkI g0_2 44 kD ([], [])]) (fun k => k ≤ 4 ∧ ((psL x y).drop k).any (fun p => meetB p.1 p.2) = (psL x y).any (fun p => meetB p.1 p.2)) (fun k => 4 - k) 0 ⟨by omega, rfl⟩ ?_ (own_picks (by repeat (first | exact picks_nil | refine picks_cons 0 rfl ?_ | refine picks_cons 1 rfl ?_ | refine picks_cons 2 rfl ?_ | refine picks_cons 3 rfl ?_ | refine picks_cons 4 rfl ?_ | refine picks_cons 5 rfl ?_ | refine picks_cons 6 rfl ?_))) ?_
    · exact (es_cons (t := 50) (by exact OT.tmp rfl) es_nil)
    · rintro k ⟨hk, hk2⟩
      refine tr_seq ?_
      -- region 4
      refine tr_env (es_cons (t := 2) (OT.tmp rfl) (es_cons (t := 3) (OT.tmp rfl) (es_cons (t := 4) (OT.tmp rfl) (es_cons (t := 49) (OT.tmp rfl) (es_cons (t := 50) (OT.tmp rfl) es_nil))))) ?_
      refine tr_region ?_
      refine op_pure (pu_lss (OT.tmp rfl) OT.const) rfl rfl ?_
      refine tr_nil ?_
      refine then_normal ?_
      refine tr_seq ?_
      refine tr_cond (OT.tmp rfl) (fun c51 => ?_) (fun c51 => ?_)
      · skip
        have hk4 : k < 4 := by have := of_decide_eq_true c51; omega
        have hp : Few (at' (psL x y) (k : Int)).1 ∧ Few (at' (psL x y) (k : Int)).2 ∧ risesB (at' (psL x y) (k : Int)).1 = true ∧ risesB (at' (psL x y) (k : Int)).2 = true := ps_all (q := fun p => Few p.1 ∧ Few p.2 ∧ risesB p.1 = true ∧ risesB p.2 = true) ⟨h1, h3, ra, rc⟩ ⟨h2, h4, rb, rd⟩ ⟨h1, h2, ra, rb⟩ ⟨h3, h4, rc, rd⟩ hk4
        have hst := any_step (l := psL x y) (p := fun p => meetB p.1 p.2) (k := k) (by simp; omega)
        refine tr_skip ?_
        refine then_normal ?_
        refine tr_seq ?_
        refine tr_block ?_
        refine tr_seq ?_
        -- region 5
        refine tr_env (es_cons (t := 2) (OT.tmp rfl) (es_cons (t := 3) (OT.tmp rfl) (es_cons (t := 4) (OT.tmp rfl) (es_cons (t := 49) (OT.tmp rfl) (es_cons (t := 50) (OT.tmp rfl) es_nil))))) ?_
        refine tr_region ?_
        refine op_pure (pu_index_agg (OT.tmp rfl) (OT.tmp rfl) Try.underlying79 (show tyOk Try.prog 78 true 2 = true from by decide +kernel) (by omega) (by omega)) rfl rfl ?_
        refine op_acts (acts_alloc (z78)) (List.Perm.refl _) rfl rfl (fun g5_1 _ => ?_)
        refine op_acts (acts_store_var (OT.tmp rfl) (OT.tmp rfl) (by exact perm_at 0 rfl) (show tyOk Try.prog 78 true 2 = true from by decide +kernel)) (by exact perm_at 0 rfl) rfl rfl (fun _ _ => ?_)
        refine tr_nil ?_
        refine then_normal ?_
        refine tr_seq ?_
        -- region 6
        refine tr_env (es_cons (t := 2) (OT.tmp rfl) (es_cons (t := 3) (OT.tmp rfl) (es_cons (t := 4) (OT.tmp rfl) (es_cons (t := 7) (OT.tmp rfl) (es_cons (t := 49) (OT.tmp rfl) (es_cons (t := 50) (OT.tmp rfl) es_nil)))))) ?_
        refine tr_region ?_
        refine op_pure (pu_pair_var0 (OT.tmp rfl) (by exact mem_at 0 rfl) Try.underlying78 (show tyOk Try.prog 40 false 1 = true from by decide +kernel)) rfl rfl ?_
        refine op_pure (pu_load_p0 (OT.tmp rfl) (by exact mem_at 0 rfl) (show tyOk Try.prog 40 false 1 = true from by decide +kernel)) rfl rfl ?_
        refine op_pure (pu_pair_var1 (OT.tmp rfl) (by exact mem_at 0 rfl) Try.underlying78 (show tyOk Try.prog 40 false 1 = true from by decide +kernel)) rfl rfl ?_
        refine op_pure (pu_load_p1 (OT.tmp rfl) (by exact mem_at 0 rfl) (show tyOk Try.prog 40 false 1 = true from by decide +kernel)) rfl rfl ?_
        refine op_acts (acts_call (walk_fn (at' (psL x y) (k : Int)).1 (at' (psL x y) (k : Int)).2 hp.1.small hp.2.1.small hp.2.2.1 hp.2.2.2) (show enters Try.prog 51 = true from by decide +kernel) (OTs.cons (OT.tmp rfl) (OTs.cons (OT.tmp rfl) OTs.nil)) (List.Perm.refl _)) (List.Perm.refl _) rfl rfl (fun _ _ => ?_)
        refine op_pure (pu_move (OT.tmp rfl)) rfl rfl ?_
        refine op_pure (pu_extract (OT.tmp rfl) rfl) rfl rfl ?_
        refine op_pure (pu_extract (OT.tmp rfl) rfl) rfl rfl ?_
        refine op_pure (pu_extract (OT.tmp rfl) rfl) rfl rfl ?_
        refine op_pure (pu_assign (OT.tmp rfl)) rfl rfl ?_
        refine op_pure (pu_assign (OT.tmp rfl)) rfl rfl ?_
        refine op_pure (pu_assign (OT.tmp rfl)) rfl rfl ?_
        refine tr_nil ?_
        refine then_normal ?_
        refine tr_seq ?_
        -- region 7
        refine tr_env (es_cons (t := 2) (OT.tmp rfl) (es_cons (t := 3) (OT.tmp rfl) (es_cons (t := 4) (OT.tmp rfl) (es_cons (t := 9) (OT.tmp rfl) (es_cons (t := 49) (OT.tmp rfl) (es_cons (t := 50) (OT.tmp rfl) es_nil)))))) ?_
        refine tr_region ?_
        refine op_pure (pu_move (OT.tmp rfl)) rfl rfl ?_
        refine op_pure (pu_len_sl (OT.tmp rfl) Try.underlying40) rfl rfl ?_
        refine op_pure (pu_gtr (OT.tmp rfl) OT.const) rfl rfl ?_
        refine tr_nil ?_
        refine then_normal ?_
        refine tr_cond (OT.tmp rfl) (fun c64 => ?_) (fun c64 => ?_)
        · skip
          have hm := (inter_meet _ _).1 (of_decide_eq_true c64)
          rw [meet_comm] at hm
          have hd : thenR x y = (([], []), 2) := by rw [thenR, if_neg hd0, if_pos (by rw [← ps_any, ← hk2, hst, hm, Bool.true_or])]
          refine tr_seq ?_
          -- region 8
          refine tr_env (es_cons (t := 4) (OT.tmp rfl) es_nil) ?_
          refine tr_region ?_
          refine op_pure (pu_build (d := kD) (v0 := ([], [])) (ps := [(0, 1), (1, 1)]) z44 (by kernel_rfl) rfl fills_nil) rfl rfl ?_
          refine op_acts (acts_store_var (OT.tmp rfl) (OT.tmp rfl) (by exact perm_at 3 rfl) (show tyOk Try.prog 44 true 2 = true from by decide +kernel)) (by exact perm_at 3 rfl) rfl rfl (fun _ _ => ?_)
          refine op_pure (pu_assign OT.const) rfl rfl ?_
          refine tr_nil ?_
          refine then_normal ?_
          refine tr_ret ?_
          refine block_ret ?_
          refine then_ret ?_
          refine then_ret ?_
          refine block_ret ?_
          refine then_ret ?_
          exact ret_cell_tmp .ret (.inl rfl) rfl () (OT.tmp rfl) (by exact mem_at 0 rfl) (show tyOk Try.prog 44 true 2 = true from by decide +kernel) (OT.tmp rfl) (fun _ _ h => (by rw [hd]; exact h)) trivial (by exact picks_nil)
        · skip
          have hm : meetB (at' (psL x y) (k : Int)).1 (at' (psL x y) (k : Int)).2 = false := by
            rw [meet_comm, Bool.eq_false_iff]; exact fun e => of_decide_eq_false c64 ((inter_meet _ _).2 e)
          refine tr_skip ?_
          refine block_normal ?_
          refine then_normal ?_
          -- region 9
          refine tr_env (es_cons (t := 2) (OT.tmp rfl) (es_cons (t := 3) (OT.tmp rfl) (es_cons (t := 4) (OT.tmp rfl) (es_cons (t := 49) (OT.tmp rfl) (es_cons (t := 50) (OT.tmp rfl) es_nil))))) ?_
          refine tr_region ?_
          refine op_pure (pu_add' (OT.tmp rfl) OT.const (by omega)) rfl rfl ?_
          refine op_pure (pu_move (OT.tmp rfl)) rfl rfl ?_
          refine tr_nil ?_
          refine then_normal ?_
          exact tr_again (k + 1) ⟨by omega, by rw [← hk2, hst, hm, Bool.false_or]⟩ (by omega) (es_append (es_cons (t := 50) (by exact OT.tmp rfl) es_nil) (es_cons (t := 2) (OT.tmp rfl) (es_cons (t := 3) (OT.tmp rfl) (es_cons (t := 4) (OT.tmp rfl) (es_cons (t := 49) (OT.tmp rfl) es_nil))))) (own_picks (by repeat (first | exact picks_nil | refine picks_cons 0 rfl ?_ | refine picks_cons 1 rfl ?_ | refine picks_cons 2 rfl ?_ | refine picks_cons 3 rfl ?_ | refine picks_cons 4 rfl ?_ | refine picks_cons 5 rfl ?_ | refine picks_cons 6 rfl ?_)))
      · skip
        have hk4 : k = 4 := by have := of_decide_eq_false c51; omega
        have hd : thenR x y = ((bothR (withoutL x.1 y.2) (withoutL y.1 x.2), bothR (withoutL x.2 y.1) (withoutL y.2 x.1)), 0) := by rw [thenR, if_neg hd0, if_neg (by rw [← ps_any, ← hk2, hk4]; simp)]
        refine tr_exit ?_
        refine then_exit ?_
        refine then_exit ?_
        refine block_hit ?_
        refine then_normal ?_
        refine tr_seq ?_
        -- region 10
        refine tr_env (es_cons (t := 2) (OT.tmp rfl) (es_cons (t := 3) (OT.tmp rfl) (es_cons (t := 4) (OT.tmp rfl) es_nil))) ?_
        refine tr_region ?_
        refine op_pure (pu_faddr (OT.tmp rfl) (show fieldOk Try.prog 44 0 0 false 1 = true from by decide +kernel)) rfl rfl ?_
        refine op_pure (pu_load_blk (OT.tmp rfl) (by exact mem_at 0 rfl) (Lens.fst (a := kL) (b := kL)) (show tyOk Try.prog 40 false 1 = true from by decide +kernel)) rfl rfl ?_
        refine op_pure (pu_faddr (OT.tmp rfl) (show fieldOk Try.prog 44 1 1 false 1 = true from by decide +kernel)) rfl rfl ?_
        refine op_pure (pu_load_blk (OT.tmp rfl) (by exact mem_at 1 rfl) (Lens.snd (a := kL) (b := kL)) (show tyOk Try.prog 40 false 1 = true from by decide +kernel)) rfl rfl ?_
        refine op_acts (acts_call (walk_fn x.1 y.2 h1.small h4.small ra rd) (show enters Try.prog 51 = true from by decide +kernel) (OTs.cons (OT.tmp rfl) (OTs.cons (OT.tmp rfl) OTs.nil)) (List.Perm.refl _)) (List.Perm.refl _) rfl rfl (fun _ _ => ?_)
        refine op_pure (pu_move (OT.tmp rfl)) rfl rfl ?_
        refine op_pure (pu_extract (OT.tmp rfl) rfl) rfl rfl ?_
        refine op_pure (pu_extract (OT.tmp rfl) rfl) rfl rfl ?_
        refine op_pure (pu_extract (OT.tmp rfl) rfl) rfl rfl ?_
        refine op_pure (pu_assign (OT.tmp rfl)) rfl rfl ?_
        refine op_pure (pu_assign (OT.tmp rfl)) rfl rfl ?_
        refine op_pure (pu_assign (OT.tmp rfl)) rfl rfl ?_
        refine tr_nil ?_
        refine then_normal ?_
        refine tr_seq ?_
        -- region 11
        refine tr_env (es_cons (t := 2) (OT.tmp rfl) (es_cons (t := 3) (OT.tmp rfl) (es_cons (t := 4) (OT.tmp rfl) (es_cons (t := 11) (OT.tmp rfl) (es_cons (t := 13) (OT.tmp rfl) es_nil))))) ?_
        refine tr_region ?_
        refine op_pure (pu_faddr (OT.tmp rfl) (show fieldOk Try.prog 44 1 1 false 1 = true from by decide +kernel)) rfl rfl ?_
        refine op_pure (pu_load_blk (OT.tmp rfl) (by exact mem_at 0 rfl) (Lens.snd (a := kL) (b := kL)) (show tyOk Try.prog 40 false 1 = true from by decide +kernel)) rfl rfl ?_
        refine op_pure (pu_faddr (OT.tmp rfl) (show fieldOk Try.prog 44 0 0 false 1 = true from by decide +kernel)) rfl rfl ?_
        refine op_pure (pu_load_blk (OT.tmp rfl) (by exact mem_at 1 rfl) (Lens.fst (a := kL) (b := kL)) (show tyOk Try.prog 40 false 1 = true from by decide +kernel)) rfl rfl ?_
        refine op_acts (acts_call (walk_fn x.2 y.1 h2.small h3.small rb rc) (show enters Try.prog 51 = true from by decide +kernel) (OTs.cons (OT.tmp rfl) (OTs.cons (OT.tmp rfl) OTs.nil)) (List.Perm.refl _)) (List.Perm.refl _) rfl rfl (fun _ _ => ?_)
        refine op_pure (pu_move (OT.tmp rfl)) rfl rfl ?_
        refine op_pure (pu_extract (OT.tmp rfl) rfl) rfl rfl ?_
        refine op_pure (pu_extract (OT.tmp rfl) rfl) rfl rfl ?_
        refine op_pure (pu_extract (OT.tmp rfl) rfl) rfl rfl ?_
        refine op_pure (pu_assign (OT.tmp rfl)) rfl rfl ?_
        refine op_pure (pu_assign (OT.tmp rfl)) rfl rfl ?_
        refine op_pure (pu_assign (OT.tmp rfl)) rfl rfl ?_
        refine tr_nil ?_
        refine then_normal ?_
        refine tr_seq ?_
        -- region 12
        refine tr_env (es_cons (t := 4) (OT.tmp rfl) (es_cons (t := 11) (OT.tmp rfl) (es_cons (t := 13) (OT.tmp rfl) (es_cons (t := 14) (OT.tmp rfl) (es_cons (t := 16) (OT.tmp rfl) es_nil))))) ?_
        refine tr_region ?_
        refine op_pure (pu_move (OT.tmp rfl)) rfl rfl ?_
        refine op_pure (pu_move (OT.tmp rfl)) rfl rfl ?_
        refine op_acts (acts_callM (union_fn (K0 := noK) (n0 := 0) (withoutL x.1 y.2) (withoutL y.1 x.2) ((h1.without _).both (h3.without _))) mk_none (show enters Try.prog 52 = true from by decide +kernel) (OTs.cons (OT.tmp rfl) (OTs.cons (OT.tmp rfl) OTs.nil)) (List.Perm.refl _)) (List.Perm.refl _) rfl rfl (fun _ _ => ?_)
        refine op_pure (pu_move (OT.tmp rfl)) rfl rfl ?_
        refine op_pure (pu_move (OT.tmp rfl)) rfl rfl ?_
        refine op_acts (acts_callM (union_fn (K0 := noK) (n0 := 0) (withoutL x.2 y.1) (withoutL y.2 x.1) ((h2.without _).both (h4.without _))) mk_none (show enters Try.prog 52 = true from by decide +kernel) (OTs.cons (OT.tmp rfl) (OTs.cons (OT.tmp rfl) OTs.nil)) (List.Perm.refl _)) (List.Perm.refl _) rfl rfl (fun _ _ => ?_)
        refine tr_as 87 (OT.unfr2 (OT.tmp rfl)) ?_
        refine tr_as 90 (OT.unfr2 (OT.tmp rfl)) ?_
        refine op_pure (pu_build (d := kD) (v0 := ([], [])) (ps := [(0, 1), (1, 1)]) z44 (by kernel_rfl) rfl (fills_cons rfl (Lens.fst (a := kL) (b := kL)) (OT.tmp rfl) (fills_cons rfl (Lens.snd (a := kL) (b := kL)) (OT.tmp rfl) fills_nil))) rfl rfl ?_
        refine op_acts (acts_store_var (OT.tmp rfl) (OT.tmp rfl) (by exact perm_at 2 rfl) (show tyOk Try.prog 44 true 2 = true from by decide +kernel)) (by exact perm_at 2 rfl) rfl rfl (fun _ _ => ?_)
        refine op_pure (pu_assign OT.const) rfl rfl ?_
        refine tr_nil ?_
        refine then_normal ?_
        refine tr_ret ?_
        exact ret_cell_tmp .ret (.inl rfl) rfl () (OT.tmp rfl) (by exact mem_at 0 rfl) (show tyOk Try.prog 44 true 2 = true from by decide +kernel) (OT.tmp rfl) (fun _ _ h => (by rw [hd]; exact h)) trivial (by exact picks_nil)
end Go.Proofs.Ytloblpklkhepbaa
