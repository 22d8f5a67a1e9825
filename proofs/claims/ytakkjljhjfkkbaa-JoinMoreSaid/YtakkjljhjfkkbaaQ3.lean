/- The texts So5 of this claim, put together in their order. No condition of their own. -/
import Derived.Test.YtakkjljhjfkkbaaQ2
/- Walks through the Go functions api.Tuple], as typed contracts. -/
namespace Go.Proofs.Ytakkjljhjfkkbaa
open Go Go.Gw Go.So
set_option linter.unusedVariables false
set_option linter.unusedSimpArgs false
variable {Z : SlTy}

set_option maxHeartbeats 1000000 in
set_option maxRecDepth 20000 in
/-- slices.partialInsertionSortCmpFunc[rhizome/api.Tuple] -/
theorem pins_fn (v fv : Value) (d : DA) (a b : Nat) (c : List Int → List Int → Int) (hm : d.size < 4611686018427387904) (hab : a < b) (hb : b ≤ d.size) (hfv : ∀ x y, CtV Try.prog fv [(kG Z).T x, (kG Z).T y] [] Unit (fun _ => I64 (c x y)) (fun _ => []) (fun _ => True)) : Ct Try.prog 45 [IsV v, I64 (a : Int), I64 (b : Int), IsV fv] ([OwnI 45 (kG Z) v d.toList]) Unit (fun _ => BoolT (Sort.partialInsertionSort (ltc c) d a b).2) (fun _ => [OwnI 45 (kG Z) v (Sort.partialInsertionSort (ltc c) d a b).1.toList]) (fun _ => True) := by
  refine fn_intro Try.func45 rfl rfl ?_
  intro H w
  refine tr_seq ?_
  -- region 0
  refine tr_env (es_cons (t := 0) (OT.tmp rfl) (es_cons (t := 1) (OT.tmp rfl) (es_cons (t := 2) (OT.tmp rfl) (es_cons (t := 3) (OT.tmp rfl) es_nil)))) ?_
  refine tr_region ?_
  refine op_pure (pu_assign OT.const) rfl rfl ?_
  refine tr_nil ?_
  refine then_normal ?_
  refine tr_seq ?_
  -- region 1
  refine tr_env (es_cons (t := 0) (OT.tmp rfl) (es_cons (t := 1) (OT.tmp rfl) (es_cons (t := 2) (OT.tmp rfl) (es_cons (t := 3) (OT.tmp rfl) es_nil)))) ?_
  refine tr_region ?_
  refine op_pure (pu_move (OT.tmp rfl)) rfl rfl ?_
  refine op_pure (pu_add' (OT.tmp rfl) OT.const (by omega)) rfl rfl ?_
  refine op_pure (pu_assign (OT.tmp rfl)) rfl rfl ?_
  refine tr_nil ?_
  refine then_normal ?_
  refine tr_seq ?_
  refine tr_seq ?_
  -- region 2
  refine tr_env (es_cons (t := 0) (OT.tmp rfl) (es_cons (t := 1) (OT.tmp rfl) (es_cons (t := 2) (OT.tmp rfl) (es_cons (t := 3) (OT.tmp rfl) (es_cons (t := 9) (OT.tmp rfl) es_nil))))) ?_
  refine tr_region ?_
  refine op_pure (pu_assign OT.const) rfl rfl ?_
  refine tr_nil ?_
  refine then_normal ?_
  refine tr_block ?_
  refine tr_loopK (σ := Nat × Nat × DA) (es_cons (t := 0) (OT.tmp rfl) (es_cons (t := 1) (OT.tmp rfl) (es_cons (t := 2) (OT.tmp rfl) (es_cons (t := 3) (OT.tmp rfl) es_nil)))) (fun s => [(10, I64 (5 - (s.1 : Int))), (9, I64 (s.2.1 : Int))]) (fun s => [OwnI 45 (kG Z) v s.2.2.toList]) (fun s => s.1 ≤ 5 ∧ a + 1 ≤ s.2.1 ∧ s.2.1 ≤ b ∧ s.2.2.size = d.size ∧ Sort.partialIns (ltc c) a b s.1 s.2.1 s.2.2 = (Sort.partialInsertionSort (ltc c) d a b)) (fun s => s.1) (5, a + 1, d) ⟨by simp, by simp, by show a + 1 ≤ b; omega, rfl, rfl⟩ ?_ (own_picks (by repeat (first | exact picks_nil | refine picks_cons 0 rfl ?_ | refine picks_cons 1 rfl ?_ | refine picks_cons 2 rfl ?_ | refine picks_cons 3 rfl ?_ | refine picks_cons 4 rfl ?_ | refine picks_cons 5 rfl ?_ | refine picks_cons 6 rfl ?_))) ?_
  · exact (es_cons (t := 10) (by exact OT.tmp rfl) (es_cons (t := 9) (by exact OT.tmp rfl) es_nil))
  · rintro ⟨s0, i, d1⟩ ⟨h5, hi0, hi1, hs1, hr⟩
    dsimp only at h5 hi0 hi1 hs1 hr ⊢
    have hl1 : d1.toList.length = d1.size := Array.length_toList
    refine tr_seq ?_
    refine tr_seq ?_
    -- region 3
    refine tr_env (es_cons (t := 0) (OT.tmp rfl) (es_cons (t := 1) (OT.tmp rfl) (es_cons (t := 2) (OT.tmp rfl) (es_cons (t := 3) (OT.tmp rfl) (es_cons (t := 9) (OT.tmp rfl) (es_cons (t := 10) (OT.tmp rfl) es_nil)))))) ?_
    refine tr_region ?_
    refine op_pure (pu_move (OT.tmp rfl)) rfl rfl ?_
    refine op_pure (pu_lss (OT.tmp rfl) OT.const) rfl rfl ?_
    refine tr_nil ?_
    refine then_normal ?_
    refine tr_cond (OT.tmp rfl) (fun c16 => ?_) (fun c16 => ?_)
    · try simp only [decide_eq_true_eq, decide_eq_false_iff_not, Bool.or_eq_true, Bool.and_eq_true, Bool.or_eq_false_iff, Bool.and_eq_false_iff, Bool.not_eq_true', Bool.not_eq_false', ne_eq, Classical.not_not] at c16
      obtain ⟨s, rfl⟩ : ∃ t, s0 = t + 1 := ⟨s0 - 1, by omega⟩
      refine tr_skip ?_
      refine then_normal ?_
      refine tr_seq ?_
      refine tr_block ?_
      refine tr_seq ?_
      refine tr_block ?_
      refine tr_loopK (σ := Nat) (es_cons (t := 0) (OT.tmp rfl) (es_cons (t := 1) (OT.tmp rfl) (es_cons (t := 2) (OT.tmp rfl) (es_cons (t := 3) (OT.tmp rfl) (es_cons (t := 10) (OT.tmp rfl) es_nil))))) (fun s => [(9, I64 (s : Int))]) (fun s => [OwnI 45 (kG Z) v d1.toList]) (fun s => i ≤ s ∧ s ≤ b ∧ Sort.scanSorted (ltc c) d1 b s = Sort.scanSorted (ltc c) d1 b i) (fun s => b - s) i ⟨by omega, by omega, rfl⟩ ?_ (own_picks (by repeat (first | exact picks_nil | refine picks_cons 0 rfl ?_ | refine picks_cons 1 rfl ?_ | refine picks_cons 2 rfl ?_ | refine picks_cons 3 rfl ?_ | refine picks_cons 4 rfl ?_ | refine picks_cons 5 rfl ?_ | refine picks_cons 6 rfl ?_))) ?_
      · exact (es_cons (t := 9) (by exact OT.tmp rfl) es_nil)
      · rintro i2 ⟨hi20, hi21, hss⟩
        refine tr_seq ?_
        refine tr_seq ?_
        -- region 5
        refine tr_env (es_cons (t := 0) (OT.tmp rfl) (es_cons (t := 1) (OT.tmp rfl) (es_cons (t := 2) (OT.tmp rfl) (es_cons (t := 3) (OT.tmp rfl) (es_cons (t := 9) (OT.tmp rfl) (es_cons (t := 10) (OT.tmp rfl) es_nil)))))) ?_
        apply tr_any (m := 14) (ns := [[(9, none)], [(2, none)], [(19, some 0), (20, some 1)], [(21, some 2)], [(3, none), (22, some 3)], [(0, none), (22, some 3)], [(9, none), (22, some 3)], [(22, some 3), (24, some 5), (25, some 6)], [(22, some 3), (26, some 7)], [(0, none), (22, some 3)], [(9, none), (22, some 3)], [(22, some 3), (29, some 10)], [(22, some 3), (28, some 9), (30, some 11)], [(22, some 3), (31, some 12)]]) (by kernel_rfl) (by kernel_rfl) (Ts := [_, _, _, _, _, _, _, _, _, _, _, _, _, _]) rfl
        case hops =>
          refine ⟨?_, ⟨?_, ⟨?_, ⟨?_, ⟨?_, ⟨?_, ⟨?_, ⟨?_, ⟨?_, ⟨?_, ⟨?_, ⟨?_, ⟨?_, ⟨?_, trivial⟩⟩⟩⟩⟩⟩⟩⟩⟩⟩⟩⟩⟩⟩
          · exact rop_pure rfl (pu_move (OT.tmp rfl))
          · exact rop_pure rfl (pu_move (OT.tmp rfl))
          · exact rop_pure rfl (pu_lss (OT.tmp rfl) (OT.tmp rfl))
          · exact rop_pure rfl (pu_move (OT.tmp rfl))
          · exact rop_gu rfl rfl rfl (OT.gu_mk (OT.tmp rfl)) (fun hg => by (have hg1 := hg.2; exact rop_pure rfl (pu_move (by exact OT.tmp rfl))))
          · exact rop_gu rfl rfl rfl (OT.gu_mk (OT.tmp rfl)) (fun hg => by (have hg1 := hg.2; exact rop_pure rfl (pu_move (by exact OT.tmp rfl))))
          · exact rop_gu rfl rfl rfl (OT.gu_mk (OT.tmp rfl)) (fun hg => by (have hg1 := hg.2; exact rop_pure rfl (pu_move (by exact OT.tmp rfl))))
          · exact rop_gu rfl rfl rfl (OT.gu_mk (OT.tmp rfl)) (fun hg => by (have hg1 := hg.2; exact rop_pure rfl (pu_index_own (by exact OT.gu (OT.tmp rfl) hg) (by exact mem_at 0 rfl) (by exact OT.gu (OT.tmp rfl) hg) Try.underlying35 (show tyOk Try.prog 45 false 1 = true from by decide +kernel) (by omega) (by (simp [maxLen] at *; omega)))))
          · exact rop_gu rfl rfl rfl (OT.gu_mk (OT.tmp rfl)) (fun hg => by (have hg1 := hg.2; exact rop_pure rfl (pu_load_own0 (by exact OT.gu (OT.tmp rfl) hg) (by exact mem_at 0 rfl) (by omega) (by (simp [maxLen] at *; omega)) (show tyOk Try.prog 45 false 1 = true from by decide +kernel))))
          · exact rop_gu rfl rfl rfl (OT.gu_mk (OT.tmp rfl)) (fun hg => by (have hg1 := hg.2; exact rop_pure rfl (pu_move (by exact OT.tmp rfl))))
          · exact rop_gu rfl rfl rfl (OT.gu_mk (OT.tmp rfl)) (fun hg => by (have hg1 := hg.2; exact rop_pure rfl (pu_move (by exact OT.tmp rfl))))
          · exact rop_gu rfl rfl rfl (OT.gu_mk (OT.tmp rfl)) (fun hg => by (have hg1 := hg.2; exact rop_pure rfl (pu_sub' (by exact OT.gu (OT.tmp rfl) hg) OT.const (by omega))))
          · exact rop_gu rfl rfl rfl (OT.gu_mk (OT.tmp rfl)) (fun hg => by (have hg1 := hg.2; exact rop_pure rfl (pu_index_own (by exact OT.gu (OT.tmp rfl) hg) (by exact mem_at 0 rfl) (by exact OT.gu (OT.tmp rfl) hg) Try.underlying35 (show tyOk Try.prog 45 false 1 = true from by decide +kernel) (by omega) (by omega))))
          · exact rop_gu rfl rfl rfl (OT.gu_mk (OT.tmp rfl)) (fun hg => by (have hg1 := hg.2; exact rop_pure rfl (pu_load_own0 (by exact OT.gu (OT.tmp rfl) hg) (by exact mem_at 0 rfl) (by omega) (by omega) (show tyOk Try.prog 45 false 1 = true from by decide +kernel))))
        case h =>
          refine op_gu_acts () rfl rfl rfl (OT.gu_mk (OT.tmp rfl)) (fun hg => by (have hg1 := hg.2; (try simp only [decide_eq_true_eq, decide_eq_false_iff_not] at hg1); exact acts_callv (by exact OT.gu (OT.tmp rfl) hg) (hfv _ _) (OTs.cons (by exact OT.gu (OT.tmp rfl) hg) (OTs.cons (by exact OT.gu (OT.tmp rfl) hg) OTs.nil)) (List.Perm.refl _))) rfl (fun _ _ => ?_)
          refine op_gu rfl rfl rfl (OT.gu_mk (OT.tmp rfl)) (fun hg => by (have hg1 := hg.2; (try simp only [decide_eq_true_eq, decide_eq_false_iff_not] at hg1); exact pu_lss (by exact OT.gu (OT.tmp rfl) hg) OT.const)) rfl ?_
          refine op_gu rfl rfl rfl (OT.gu_mk (OT.tmp rfl)) (fun hg => by (have hg1 := hg.2; (try simp only [decide_eq_true_eq, decide_eq_false_iff_not] at hg1); exact pu_not (by exact OT.gu (OT.tmp rfl) hg))) rfl ?_
          refine op_pure (pu_pick_and (OT.tmp rfl) (by exact OT.tmp rfl)) rfl rfl ?_
          refine tr_nil ?_
          refine then_normal ?_
          refine tr_cond (OT.tmp rfl) (fun c36 => ?_) (fun c36 => ?_)
          · try simp only [decide_eq_true_eq, decide_eq_false_iff_not, Bool.or_eq_true, Bool.and_eq_true, Bool.or_eq_false_iff, Bool.and_eq_false_iff, Bool.not_eq_true', Bool.not_eq_false', ne_eq, Classical.not_not] at c36
            have hnx := (ss_step (c := c) (d := d1) (b := b) (i := i2) (by omega) (by rw [ltc_at (by omega) (by omega), show ((i2 - 1 : Nat) : Int) = (i2 : Int) - 1 from by omega]; simpa using c36.2)).symm.trans hss
            refine tr_skip ?_
            refine then_normal ?_
            refine tr_block ?_
            -- region 6
            refine tr_env (es_cons (t := 0) (OT.tmp rfl) (es_cons (t := 1) (OT.tmp rfl) (es_cons (t := 2) (OT.tmp rfl) (es_cons (t := 3) (OT.tmp rfl) (es_cons (t := 9) (OT.tmp rfl) (es_cons (t := 10) (OT.tmp rfl) es_nil)))))) ?_
            refine tr_region ?_
            refine op_pure (pu_move (OT.tmp rfl)) rfl rfl ?_
            refine op_pure (pu_add' (OT.tmp rfl) OT.const (by omega)) rfl rfl ?_
            refine op_pure (pu_assign (OT.tmp rfl)) rfl rfl ?_
            refine tr_nil ?_
            refine block_normal ?_
            refine then_normal ?_
            exact tr_again (i2 + 1) ⟨by omega, by omega, hnx⟩ (by omega) (es_append (es_cons (t := 9) (by exact OT.tmp rfl) es_nil) (es_cons (t := 0) (OT.tmp rfl) (es_cons (t := 1) (OT.tmp rfl) (es_cons (t := 2) (OT.tmp rfl) (es_cons (t := 3) (OT.tmp rfl) (es_cons (t := 10) (OT.tmp rfl) es_nil)))))) (own_picks (by repeat (first | exact picks_nil | refine picks_cons 0 rfl ?_ | refine picks_cons 1 rfl ?_ | refine picks_cons 2 rfl ?_ | refine picks_cons 3 rfl ?_ | refine picks_cons 4 rfl ?_ | refine picks_cons 5 rfl ?_ | refine picks_cons 6 rfl ?_)))
          · try simp only [decide_eq_true_eq, decide_eq_false_iff_not, Bool.or_eq_true, Bool.and_eq_true, Bool.or_eq_false_iff, Bool.and_eq_false_iff, Bool.not_eq_true', Bool.not_eq_false', ne_eq, Classical.not_not] at c36
            have hse := hss.symm.trans (ss_end (c := c) (d := d1) (b := b) (i := i2) (fun h => by rw [ltc_at (by omega) (by omega), show ((i2 - 1 : Nat) : Int) = (i2 : Int) - 1 from by omega]; rcases c36 with h9 | h9; omega; simpa using h9))
            refine tr_exit ?_
            refine then_exit ?_
            refine then_exit ?_
            refine block_hit ?_
            refine then_normal ?_
            refine tr_seq ?_
            refine tr_seq ?_
            -- region 7
            refine tr_env (es_cons (t := 0) (OT.tmp rfl) (es_cons (t := 1) (OT.tmp rfl) (es_cons (t := 2) (OT.tmp rfl) (es_cons (t := 3) (OT.tmp rfl) (es_cons (t := 9) (OT.tmp rfl) (es_cons (t := 10) (OT.tmp rfl) es_nil)))))) ?_
            refine tr_region ?_
            refine op_pure (pu_move (OT.tmp rfl)) rfl rfl ?_
            refine op_pure (pu_move (OT.tmp rfl)) rfl rfl ?_
            refine op_pure (pu_eql (OT.tmp rfl) (OT.tmp rfl)) rfl rfl ?_
            refine tr_nil ?_
            refine then_normal ?_
            refine tr_cond (OT.tmp rfl) (fun c41 => ?_) (fun c41 => ?_)
            · try simp only [decide_eq_true_eq, decide_eq_false_iff_not, Bool.or_eq_true, Bool.and_eq_true, Bool.or_eq_false_iff, Bool.and_eq_false_iff, Bool.not_eq_true', Bool.not_eq_false', ne_eq, Classical.not_not] at c41
              have hib : i2 = b := by omega
              subst hib
              have hres := hr.symm.trans (pi_yes hse)
              refine tr_seq ?_
              -- region 8
              refine tr_env es_nil ?_
              refine tr_region ?_
              refine op_pure (pu_assign OT.const) rfl rfl ?_
              refine tr_nil ?_
              refine then_normal ?_
              refine tr_ret ?_
              refine then_ret ?_
              refine block_ret ?_
              refine then_ret ?_
              refine then_ret ?_
              refine block_ret ?_
              refine then_ret ?_
              exact ret_one .ret (.inl rfl) rfl () (OT.val (OT.tmp rfl) (congrArg Value.bool (by rw [hres]))) trivial (by rw [hres]; exact picks_cons 0 rfl picks_nil)
            · try simp only [decide_eq_true_eq, decide_eq_false_iff_not, Bool.or_eq_true, Bool.and_eq_true, Bool.or_eq_false_iff, Bool.and_eq_false_iff, Bool.not_eq_true', Bool.not_eq_false', ne_eq, Classical.not_not] at c41
              refine tr_skip ?_
              refine then_normal ?_
              refine tr_seq ?_
              refine tr_seq ?_
              -- region 9
              refine tr_env (es_cons (t := 0) (OT.tmp rfl) (es_cons (t := 1) (OT.tmp rfl) (es_cons (t := 2) (OT.tmp rfl) (es_cons (t := 3) (OT.tmp rfl) (es_cons (t := 9) (OT.tmp rfl) (es_cons (t := 10) (OT.tmp rfl) es_nil)))))) ?_
              refine tr_region ?_
              refine op_pure (pu_move (OT.tmp rfl)) rfl rfl ?_
              refine op_pure (pu_move (OT.tmp rfl)) rfl rfl ?_
              refine op_pure (pu_sub' (OT.tmp rfl) (OT.tmp rfl) (by omega)) rfl rfl ?_
              refine op_pure (pu_lss (OT.tmp rfl) OT.const) rfl rfl ?_
              refine tr_nil ?_
              refine then_normal ?_
              refine tr_cond (OT.tmp rfl) (fun c45 => ?_) (fun c45 => ?_)
              · try simp only [decide_eq_true_eq, decide_eq_false_iff_not, Bool.or_eq_true, Bool.and_eq_true, Bool.or_eq_false_iff, Bool.and_eq_false_iff, Bool.not_eq_true', Bool.not_eq_false', ne_eq, Classical.not_not] at c45
                have hres := hr.symm.trans (pi_few hse (by omega) (by omega))
                refine tr_seq ?_
                -- region 10
                refine tr_env es_nil ?_
                refine tr_region ?_
                refine op_pure (pu_assign OT.const) rfl rfl ?_
                refine tr_nil ?_
                refine then_normal ?_
                refine tr_ret ?_
                refine then_ret ?_
                refine block_ret ?_
                refine then_ret ?_
                refine then_ret ?_
                refine block_ret ?_
                refine then_ret ?_
                exact ret_one .ret (.inl rfl) rfl () (OT.val (OT.tmp rfl) (congrArg Value.bool (by rw [hres]))) trivial (by rw [hres]; exact picks_cons 0 rfl picks_nil)
              · try simp only [decide_eq_true_eq, decide_eq_false_iff_not, Bool.or_eq_true, Bool.and_eq_true, Bool.or_eq_false_iff, Bool.and_eq_false_iff, Bool.not_eq_true', Bool.not_eq_false', ne_eq, Classical.not_not] at c45
                have hon := hr.symm.trans (pi_on hse (by omega) (by omega))
                have hs2 : (Sort.swp d1 i2 (i2 - 1)).size = d.size := swp_size.trans hs1
                refine tr_skip ?_
                refine then_normal ?_
                refine tr_seq ?_
                -- region 11
                refine tr_env (es_cons (t := 0) (OT.tmp rfl) (es_cons (t := 1) (OT.tmp rfl) (es_cons (t := 2) (OT.tmp rfl) (es_cons (t := 3) (OT.tmp rfl) (es_cons (t := 9) (OT.tmp rfl) (es_cons (t := 10) (OT.tmp rfl) es_nil)))))) ?_
                apply tr_anyW (p := 15) (Lf := fun c => cond c ([OwnI 45 (kG Z) v (d1.toList.set (i2 : Int).toNat (at' d1.toList ((i2 : Int) - 1)))]) ([OwnI 45 (kG Z) v d1.toList])) (by kernel_rfl) (m := 16) (ns := [[(0, none)], [(9, none)], [(0, none)], [(9, none)], [(49, some 3)], [(0, none)], [(9, none)], [(52, some 6)], [(51, some 5), (53, some 7)], [(54, some 8)], [(0, none)], [(9, none)], [(56, some 10), (57, some 11)], [(58, some 12)], [(46, some 0), (47, some 1)], [(55, some 9), (60, some 14)]]) (by kernel_rfl) (by kernel_rfl) (Ts := [_, _, _, _, _, _, _, _, _, _, _, _, _, _, _, _]) rfl
                case hops =>
                  refine ⟨?_, ⟨?_, ⟨?_, ⟨?_, ⟨?_, ⟨?_, ⟨?_, ⟨?_, ⟨?_, ⟨?_, ⟨?_, ⟨?_, ⟨?_, ⟨?_, ⟨?_, ⟨?_, trivial⟩⟩⟩⟩⟩⟩⟩⟩⟩⟩⟩⟩⟩⟩⟩⟩
                  · intro c hc; cases c
                    · exact ropw_of (rop_pure rfl (pu_move (OT.tmp rfl)))
                    · exact Bool.noConfusion (hc.symm.trans (by kernel_rfl : okFlag _ _ _ _ = false))
                  · intro c hc; cases c
                    · exact ropw_of (rop_pure rfl (pu_move (OT.tmp rfl)))
                    · exact Bool.noConfusion (hc.symm.trans (by kernel_rfl : okFlag _ _ _ _ = false))
                  · intro c hc; cases c
                    · exact ropw_of (rop_pure rfl (pu_move (OT.tmp rfl)))
                    · exact ropw_of (rop_pure rfl (pu_move (OT.tmp rfl)))
                  · intro c hc; cases c
                    · exact ropw_of (rop_pure rfl (pu_move (OT.tmp rfl)))
                    · exact ropw_of (rop_pure rfl (pu_move (OT.tmp rfl)))
                  · intro c hc; cases c
                    · exact ropw_of (rop_pure rfl (pu_sub' (OT.tmp rfl) OT.const (by omega)))
                    · exact ropw_of (rop_pure rfl (pu_sub' (OT.tmp rfl) OT.const (by omega)))
                  · intro c hc; cases c
                    · exact ropw_of (rop_pure rfl (pu_move (OT.tmp rfl)))
                    · exact Bool.noConfusion (hc.symm.trans (by kernel_rfl : okFlag _ _ _ _ = false))
                  · intro c hc; cases c
                    · exact ropw_of (rop_pure rfl (pu_move (OT.tmp rfl)))
                    · exact Bool.noConfusion (hc.symm.trans (by kernel_rfl : okFlag _ _ _ _ = false))
                  · intro c hc; cases c
                    · exact ropw_of (rop_pure rfl (pu_sub' (OT.tmp rfl) OT.const (by omega)))
                    · exact Bool.noConfusion (hc.symm.trans (by kernel_rfl : okFlag _ _ _ _ = false))
                  · intro c hc; cases c
                    · exact ropw_of (rop_pure rfl (pu_index_own (OT.tmp rfl) (by exact mem_at 0 rfl) (OT.tmp rfl) Try.underlying35 (show tyOk Try.prog 45 false 1 = true from by decide +kernel) (by omega) (by omega)))
                    · exact Bool.noConfusion (hc.symm.trans (by kernel_rfl : okFlag _ _ _ _ = false))
                  · intro c hc; cases c
                    · exact ropw_of (rop_pure rfl (pu_load_own0 (OT.tmp rfl) (by exact mem_at 0 rfl) (by omega) (by omega) (show tyOk Try.prog 45 false 1 = true from by decide +kernel)))
                    · exact Bool.noConfusion (hc.symm.trans (by kernel_rfl : okFlag _ _ _ _ = false))
                  · intro c hc; cases c
                    · exact ropw_of (rop_pure rfl (pu_move (OT.tmp rfl)))
                    · exact Bool.noConfusion (hc.symm.trans (by kernel_rfl : okFlag _ _ _ _ = false))
                  · intro c hc; cases c
                    · exact ropw_of (rop_pure rfl (pu_move (OT.tmp rfl)))
                    · exact Bool.noConfusion (hc.symm.trans (by kernel_rfl : okFlag _ _ _ _ = false))
                  · intro c hc; cases c
                    · exact ropw_of (rop_pure rfl (pu_index_own (OT.tmp rfl) (by exact mem_at 0 rfl) (OT.tmp rfl) Try.underlying35 (show tyOk Try.prog 45 false 1 = true from by decide +kernel) (by omega) (by omega)))
                    · exact Bool.noConfusion (hc.symm.trans (by kernel_rfl : okFlag _ _ _ _ = false))
                  · intro c hc; cases c
                    · exact ropw_of (rop_pure rfl (pu_load_own0 (OT.tmp rfl) (by exact mem_at 0 rfl) (by omega) (by omega) (show tyOk Try.prog 45 false 1 = true from by decide +kernel)))
                    · exact Bool.noConfusion (hc.symm.trans (by kernel_rfl : okFlag _ _ _ _ = false))
                  · intro c hc; cases c
                    · exact ropw_of (rop_pure rfl (pu_index_own (OT.tmp rfl) (by exact mem_at 0 rfl) (OT.tmp rfl) Try.underlying35 (show tyOk Try.prog 45 false 1 = true from by decide +kernel) (by omega) (by omega)))
                    · exact Bool.noConfusion (hc.symm.trans (by kernel_rfl : okFlag _ _ _ _ = false))
                  · intro c hc; cases c
                    · exact ropw_acts rfl (acts_store_own0 (OT.tmp rfl) (OT.tmp rfl) (by exact perm_at 0 rfl) (by omega) (by omega) (show tyOk Try.prog 45 false 1 = true from by decide +kernel)) (by exact perm_at 0 rfl) (fun _ => (by exact perm_at 0 rfl)) (fun _ _ _ _ h => h)
                    · exact Bool.noConfusion (hc.symm.trans (by kernel_rfl : okFlag _ _ _ _ = false))
                case h =>
                  refine op_pure (pu_index_own (OT.tmp rfl) (by exact mem_at 0 rfl) (OT.tmp rfl) Try.underlying35 (show tyOk Try.prog 45 false 1 = true from by decide +kernel) (by omega) (by (simp; omega))) rfl rfl ?_
                  refine op_acts (acts_store_own0 (OT.tmp rfl) (OT.tmp rfl) (by exact perm_at 0 rfl) (by omega) (by (simp; omega)) (show tyOk Try.prog 45 false 1 = true from by decide +kernel)) (by exact perm_at 0 rfl) rfl rfl (fun _ _ => ?_)
                  refine tr_nil ?_
                  refine then_normal ?_
                  refine tr_seq ?_
                  refine tr_seq ?_
                  -- region 12
                  refine tr_env (es_cons (t := 0) (OT.tmp rfl) (es_cons (t := 1) (OT.tmp rfl) (es_cons (t := 2) (OT.tmp rfl) (es_cons (t := 3) (OT.tmp rfl) (es_cons (t := 9) (OT.tmp rfl) (es_cons (t := 10) (OT.tmp rfl) es_nil)))))) ?_
                  rw [sw1 (by omega) (by omega)]
                  refine tr_region ?_
                  refine op_pure (pu_move (OT.tmp rfl)) rfl rfl ?_
                  refine op_pure (pu_move (OT.tmp rfl)) rfl rfl ?_
                  refine op_pure (pu_sub' (OT.tmp rfl) (OT.tmp rfl) (by omega)) rfl rfl ?_
                  refine op_pure (pu_geq (OT.tmp rfl) OT.const) rfl rfl ?_
                  refine tr_nil ?_
                  refine then_normal ?_
                  refine tr_cond (OT.tmp rfl) (fun c65 => ?_) (fun c65 => ?_)
                  · try simp only [decide_eq_true_eq, decide_eq_false_iff_not, Bool.or_eq_true, Bool.and_eq_true, Bool.or_eq_false_iff, Bool.and_eq_false_iff, Bool.not_eq_true', Bool.not_eq_false', ne_eq, Classical.not_not] at c65
                    refine tr_seq ?_
                    -- region 13
                    refine tr_env (es_cons (t := 0) (OT.tmp rfl) (es_cons (t := 1) (OT.tmp rfl) (es_cons (t := 2) (OT.tmp rfl) (es_cons (t := 3) (OT.tmp rfl) (es_cons (t := 9) (OT.tmp rfl) (es_cons (t := 10) (OT.tmp rfl) es_nil)))))) ?_
                    refine tr_region ?_
                    refine op_pure (pu_move (OT.tmp rfl)) rfl rfl ?_
                    refine op_pure (pu_sub' (OT.tmp rfl) OT.const (by omega)) rfl rfl ?_
                    refine op_pure (pu_assign (OT.tmp rfl)) rfl rfl ?_
                    refine tr_nil ?_
                    refine then_normal ?_
                    refine tr_block ?_
                    refine tr_loopK (σ := Nat × DA) (es_cons (t := 0) (OT.tmp rfl) (es_cons (t := 1) (OT.tmp rfl) (es_cons (t := 2) (OT.tmp rfl) (es_cons (t := 3) (OT.tmp rfl) (es_cons (t := 9) (OT.tmp rfl) (es_cons (t := 10) (OT.tmp rfl) es_nil)))))) (fun s => [(11, I64 (s.1 : Int))]) (fun s => [OwnI 45 (kG Z) v s.2.toList]) (fun s => s.1 ≤ i2 - 1 ∧ s.2.size = d.size ∧ Sort.shiftDown (ltc c) s.1 s.2 = Sort.shiftDown (ltc c) (i2 - 1) (Sort.swp d1 i2 (i2 - 1))) (fun s => s.1) (i2 - 1, Sort.swp d1 i2 (i2 - 1)) ⟨Nat.le_refl _, hs2, rfl⟩ ?_ (own_picks (by repeat (first | exact picks_nil | refine picks_cons 0 rfl ?_ | refine picks_cons 1 rfl ?_ | refine picks_cons 2 rfl ?_ | refine picks_cons 3 rfl ?_ | refine picks_cons 4 rfl ?_ | refine picks_cons 5 rfl ?_ | refine picks_cons 6 rfl ?_))) ?_
                    · exact (es_cons (t := 11) (by exact OT.val (OT.tmp rfl) (congrArg (Value.int _) (by omega))) es_nil)
                    · rintro ⟨j, d3⟩ ⟨hj, hs3, hsd⟩
                      dsimp only at hj hs3 hsd ⊢
                      have hl3 : d3.toList.length = d3.size := Array.length_toList
                      refine tr_seq ?_
                      refine tr_seq ?_
                      -- region 14
                      refine tr_env (es_cons (t := 0) (OT.tmp rfl) (es_cons (t := 1) (OT.tmp rfl) (es_cons (t := 2) (OT.tmp rfl) (es_cons (t := 3) (OT.tmp rfl) (es_cons (t := 9) (OT.tmp rfl) (es_cons (t := 10) (OT.tmp rfl) (es_cons (t := 11) (OT.tmp rfl) es_nil))))))) ?_
                      refine tr_region ?_
                      refine op_pure (pu_move (OT.tmp rfl)) rfl rfl ?_
                      refine op_pure (pu_geq (OT.tmp rfl) OT.const) rfl rfl ?_
                      refine tr_nil ?_
                      refine then_normal ?_
                      refine tr_cond (OT.tmp rfl) (fun c69 => ?_) (fun c69 => ?_)
                      · try simp only [decide_eq_true_eq, decide_eq_false_iff_not, Bool.or_eq_true, Bool.and_eq_true, Bool.or_eq_false_iff, Bool.and_eq_false_iff, Bool.not_eq_true', Bool.not_eq_false', ne_eq, Classical.not_not] at c69
                        refine tr_skip ?_
                        refine then_normal ?_
                        refine tr_seq ?_
                        refine tr_block ?_
                        refine tr_seq ?_
                        refine tr_seq ?_
                        -- region 16
                        refine tr_env (es_cons (t := 0) (OT.tmp rfl) (es_cons (t := 1) (OT.tmp rfl) (es_cons (t := 2) (OT.tmp rfl) (es_cons (t := 3) (OT.tmp rfl) (es_cons (t := 9) (OT.tmp rfl) (es_cons (t := 10) (OT.tmp rfl) (es_cons (t := 11) (OT.tmp rfl) es_nil))))))) ?_
                        apply tr_any (m := 10) (ns := [[(3, none)], [(0, none)], [(11, none)], [(73, some 1), (74, some 2)], [(75, some 3)], [(0, none)], [(11, none)], [(78, some 6)], [(77, some 5), (79, some 7)], [(80, some 8)]]) (by kernel_rfl) (by kernel_rfl) (Ts := [_, _, _, _, _, _, _, _, _, _]) rfl
                        case hops =>
                          refine ⟨?_, ⟨?_, ⟨?_, ⟨?_, ⟨?_, ⟨?_, ⟨?_, ⟨?_, ⟨?_, ⟨?_, trivial⟩⟩⟩⟩⟩⟩⟩⟩⟩⟩
                          · exact rop_pure rfl (pu_move (OT.tmp rfl))
                          · exact rop_pure rfl (pu_move (OT.tmp rfl))
                          · exact rop_pure rfl (pu_move (OT.tmp rfl))
                          · exact rop_pure rfl (pu_index_own (OT.tmp rfl) (by exact mem_at 0 rfl) (OT.tmp rfl) Try.underlying35 (show tyOk Try.prog 45 false 1 = true from by decide +kernel) (by omega) (by omega))
                          · exact rop_pure rfl (pu_load_own0 (OT.tmp rfl) (by exact mem_at 0 rfl) (by omega) (by omega) (show tyOk Try.prog 45 false 1 = true from by decide +kernel))
                          · exact rop_pure rfl (pu_move (OT.tmp rfl))
                          · exact rop_pure rfl (pu_move (OT.tmp rfl))
                          · exact rop_pure rfl (pu_sub' (OT.tmp rfl) OT.const (by omega))
                          · exact rop_pure rfl (pu_index_own (OT.tmp rfl) (by exact mem_at 0 rfl) (OT.tmp rfl) Try.underlying35 (show tyOk Try.prog 45 false 1 = true from by decide +kernel) (by omega) (by omega))
                          · exact rop_pure rfl (pu_load_own0 (OT.tmp rfl) (by exact mem_at 0 rfl) (by omega) (by omega) (show tyOk Try.prog 45 false 1 = true from by decide +kernel))
                        case h =>
                          refine op_acts (acts_callv (OT.tmp rfl) (hfv _ _) (OTs.cons (OT.tmp rfl) (OTs.cons (OT.tmp rfl) OTs.nil)) (List.Perm.refl _)) (List.Perm.refl _) rfl rfl (fun _ _ => ?_)
                          refine op_pure (pu_lss (OT.tmp rfl) OT.const) rfl rfl ?_
                          refine op_pure (pu_not (OT.tmp rfl)) rfl rfl ?_
                          refine tr_nil ?_
                          refine then_normal ?_
                          refine tr_cond (OT.tmp rfl) (fun c84 => ?_) (fun c84 => ?_)
                          · try simp only [decide_eq_true_eq, decide_eq_false_iff_not, Bool.or_eq_true, Bool.and_eq_true, Bool.or_eq_false_iff, Bool.and_eq_false_iff, Bool.not_eq_true', Bool.not_eq_false', ne_eq, Classical.not_not] at c84
                            have hd4 := hsd.symm.trans (sd_end (c := c) (d := d3) (j := j) (fun h => by rw [ltc_at (by omega) (by omega), show ((j - 1 : Nat) : Int) = (j : Int) - 1 from by omega]; simpa using c84))
                            rw [if_pos (by omega : i2 - a ≥ 2), hd4] at hon
                            refine tr_exit ?_
                            refine then_exit ?_
                            refine block_pass rfl ?_
                            refine then_exit ?_
                            refine then_exit ?_
                            refine block_hit ?_
                            refine then_normal ?_
                            refine tr_seq ?_
                            -- region 18
                            refine tr_env (es_cons (t := 0) (OT.tmp rfl) (es_cons (t := 1) (OT.tmp rfl) (es_cons (t := 2) (OT.tmp rfl) (es_cons (t := 3) (OT.tmp rfl) (es_cons (t := 9) (OT.tmp rfl) (es_cons (t := 10) (OT.tmp rfl) es_nil)))))) ?_
                            refine tr_region ?_
                            refine op_pure (pu_move (OT.tmp rfl)) rfl rfl ?_
                            refine op_pure (pu_move (OT.tmp rfl)) rfl rfl ?_
                            refine op_pure (pu_sub' (OT.tmp rfl) (OT.tmp rfl) (by omega)) rfl rfl ?_
                            refine op_pure (pu_geq (OT.tmp rfl) OT.const) rfl rfl ?_
                            refine tr_nil ?_
                            refine then_normal ?_
                            refine tr_cond (OT.tmp rfl) (fun c104 => ?_) (fun c104 => ?_)
                            · try simp only [decide_eq_true_eq, decide_eq_false_iff_not, Bool.or_eq_true, Bool.and_eq_true, Bool.or_eq_false_iff, Bool.and_eq_false_iff, Bool.not_eq_true', Bool.not_eq_false', ne_eq, Classical.not_not] at c104
                              rw [if_pos (by omega : b - i2 ≥ 2)] at hon
                              refine tr_seq ?_
                              -- region 19
                              refine tr_env (es_cons (t := 0) (OT.tmp rfl) (es_cons (t := 1) (OT.tmp rfl) (es_cons (t := 2) (OT.tmp rfl) (es_cons (t := 3) (OT.tmp rfl) (es_cons (t := 9) (OT.tmp rfl) (es_cons (t := 10) (OT.tmp rfl) es_nil)))))) ?_
                              refine tr_region ?_
                              refine op_pure (pu_move (OT.tmp rfl)) rfl rfl ?_
                              refine op_pure (pu_add' (OT.tmp rfl) OT.const (by omega)) rfl rfl ?_
                              refine op_pure (pu_assign (OT.tmp rfl)) rfl rfl ?_
                              refine tr_nil ?_
                              refine then_normal ?_
                              refine tr_block ?_
                              refine tr_loopK (σ := Nat × DA) (es_cons (t := 0) (OT.tmp rfl) (es_cons (t := 1) (OT.tmp rfl) (es_cons (t := 2) (OT.tmp rfl) (es_cons (t := 3) (OT.tmp rfl) (es_cons (t := 9) (OT.tmp rfl) (es_cons (t := 10) (OT.tmp rfl) es_nil)))))) (fun s => [(12, I64 (s.1 : Int))]) (fun s => [OwnI 45 (kG Z) v s.2.toList]) (fun s => i2 + 1 ≤ s.1 ∧ s.2.size = d.size ∧ Sort.shiftUp (ltc c) b s.1 s.2 = Sort.shiftUp (ltc c) b (i2 + 1) d3) (fun s => b - s.1) (i2 + 1, d3) ⟨Nat.le_refl _, hs3, rfl⟩ ?_ (own_picks (by repeat (first | exact picks_nil | refine picks_cons 0 rfl ?_ | refine picks_cons 1 rfl ?_ | refine picks_cons 2 rfl ?_ | refine picks_cons 3 rfl ?_ | refine picks_cons 4 rfl ?_ | refine picks_cons 5 rfl ?_ | refine picks_cons 6 rfl ?_))) ?_
                              · exact (es_cons (t := 12) (by exact OT.tmp rfl) es_nil)
                              · rintro ⟨k, d5⟩ ⟨hk, hs5, hsu⟩
                                dsimp only at hk hs5 hsu ⊢
                                have hl5 : d5.toList.length = d5.size := Array.length_toList
                                refine tr_seq ?_
                                refine tr_seq ?_
                                -- region 20
                                refine tr_env (es_cons (t := 0) (OT.tmp rfl) (es_cons (t := 1) (OT.tmp rfl) (es_cons (t := 2) (OT.tmp rfl) (es_cons (t := 3) (OT.tmp rfl) (es_cons (t := 9) (OT.tmp rfl) (es_cons (t := 10) (OT.tmp rfl) (es_cons (t := 12) (OT.tmp rfl) es_nil))))))) ?_
                                refine tr_region ?_
                                refine op_pure (pu_move (OT.tmp rfl)) rfl rfl ?_
                                refine op_pure (pu_move (OT.tmp rfl)) rfl rfl ?_
                                refine op_pure (pu_lss (OT.tmp rfl) (OT.tmp rfl)) rfl rfl ?_
                                refine tr_nil ?_
                                refine then_normal ?_
                                refine tr_cond (OT.tmp rfl) (fun c109 => ?_) (fun c109 => ?_)
                                · try simp only [decide_eq_true_eq, decide_eq_false_iff_not, Bool.or_eq_true, Bool.and_eq_true, Bool.or_eq_false_iff, Bool.and_eq_false_iff, Bool.not_eq_true', Bool.not_eq_false', ne_eq, Classical.not_not] at c109
                                  refine tr_skip ?_
                                  refine then_normal ?_
                                  refine tr_seq ?_
                                  refine tr_block ?_
                                  refine tr_seq ?_
                                  refine tr_seq ?_
                                  -- region 22
                                  refine tr_env (es_cons (t := 0) (OT.tmp rfl) (es_cons (t := 1) (OT.tmp rfl) (es_cons (t := 2) (OT.tmp rfl) (es_cons (t := 3) (OT.tmp rfl) (es_cons (t := 9) (OT.tmp rfl) (es_cons (t := 10) (OT.tmp rfl) (es_cons (t := 12) (OT.tmp rfl) es_nil))))))) ?_
                                  apply tr_any (m := 10) (ns := [[(3, none)], [(0, none)], [(12, none)], [(113, some 1), (114, some 2)], [(115, some 3)], [(0, none)], [(12, none)], [(118, some 6)], [(117, some 5), (119, some 7)], [(120, some 8)]]) (by kernel_rfl) (by kernel_rfl) (Ts := [_, _, _, _, _, _, _, _, _, _]) rfl
                                  case hops =>
                                    refine ⟨?_, ⟨?_, ⟨?_, ⟨?_, ⟨?_, ⟨?_, ⟨?_, ⟨?_, ⟨?_, ⟨?_, trivial⟩⟩⟩⟩⟩⟩⟩⟩⟩⟩
                                    · exact rop_pure rfl (pu_move (OT.tmp rfl))
                                    · exact rop_pure rfl (pu_move (OT.tmp rfl))
                                    · exact rop_pure rfl (pu_move (OT.tmp rfl))
                                    · exact rop_pure rfl (pu_index_own (OT.tmp rfl) (by exact mem_at 0 rfl) (OT.tmp rfl) Try.underlying35 (show tyOk Try.prog 45 false 1 = true from by decide +kernel) (by omega) (by omega))
                                    · exact rop_pure rfl (pu_load_own0 (OT.tmp rfl) (by exact mem_at 0 rfl) (by omega) (by omega) (show tyOk Try.prog 45 false 1 = true from by decide +kernel))
                                    · exact rop_pure rfl (pu_move (OT.tmp rfl))
                                    · exact rop_pure rfl (pu_move (OT.tmp rfl))
                                    · exact rop_pure rfl (pu_sub' (OT.tmp rfl) OT.const (by omega))
                                    · exact rop_pure rfl (pu_index_own (OT.tmp rfl) (by exact mem_at 0 rfl) (OT.tmp rfl) Try.underlying35 (show tyOk Try.prog 45 false 1 = true from by decide +kernel) (by omega) (by omega))
                                    · exact rop_pure rfl (pu_load_own0 (OT.tmp rfl) (by exact mem_at 0 rfl) (by omega) (by omega) (show tyOk Try.prog 45 false 1 = true from by decide +kernel))
                                  case h =>
                                    refine op_acts (acts_callv (OT.tmp rfl) (hfv _ _) (OTs.cons (OT.tmp rfl) (OTs.cons (OT.tmp rfl) OTs.nil)) (List.Perm.refl _)) (List.Perm.refl _) rfl rfl (fun _ _ => ?_)
                                    refine op_pure (pu_lss (OT.tmp rfl) OT.const) rfl rfl ?_
                                    refine op_pure (pu_not (OT.tmp rfl)) rfl rfl ?_
                                    refine tr_nil ?_
                                    refine then_normal ?_
                                    refine tr_cond (OT.tmp rfl) (fun c124 => ?_) (fun c124 => ?_)
                                    · try simp only [decide_eq_true_eq, decide_eq_false_iff_not, Bool.or_eq_true, Bool.and_eq_true, Bool.or_eq_false_iff, Bool.and_eq_false_iff, Bool.not_eq_true', Bool.not_eq_false', ne_eq, Classical.not_not] at c124
                                      have hd6 := hsu.symm.trans (su_end (c := c) (d := d5) (b := b) (j := k) (fun h => by rw [ltc_at (by omega) (by omega), show ((k - 1 : Nat) : Int) = (k : Int) - 1 from by omega]; simpa using c124))
                                      rw [hd6] at hon
                                      refine tr_exit ?_
                                      refine then_exit ?_
                                      refine block_pass rfl ?_
                                      refine then_exit ?_
                                      refine then_exit ?_
                                      refine block_hit ?_
                                      refine block_normal ?_
                                      refine then_normal ?_
                                      -- region 4
                                      refine tr_env (es_cons (t := 0) (OT.tmp rfl) (es_cons (t := 1) (OT.tmp rfl) (es_cons (t := 2) (OT.tmp rfl) (es_cons (t := 3) (OT.tmp rfl) (es_cons (t := 9) (OT.tmp rfl) (es_cons (t := 10) (OT.tmp rfl) es_nil)))))) ?_
                                      refine tr_region ?_
                                      refine op_pure (pu_move (OT.tmp rfl)) rfl rfl ?_
                                      refine op_pure (pu_add' (OT.tmp rfl) OT.const (by omega)) rfl rfl ?_
                                      refine op_pure (pu_assign (OT.tmp rfl)) rfl rfl ?_
                                      refine tr_nil ?_
                                      refine then_normal ?_
                                      exact tr_again (s, i2, d5) ⟨by show s ≤ 5; omega, by show a + 1 ≤ i2; omega, by show i2 ≤ b; omega, hs5, hon.symm⟩ (by omega) (es_append (es_cons (t := 10) (by exact OT.val (OT.tmp rfl) (congrArg (Value.int _) (by omega))) (es_cons (t := 9) (by exact OT.tmp rfl) es_nil)) (es_cons (t := 0) (OT.tmp rfl) (es_cons (t := 1) (OT.tmp rfl) (es_cons (t := 2) (OT.tmp rfl) (es_cons (t := 3) (OT.tmp rfl) es_nil))))) (own_picks (by repeat (first | exact picks_nil | refine picks_cons 0 rfl ?_ | refine picks_cons 1 rfl ?_ | refine picks_cons 2 rfl ?_ | refine picks_cons 3 rfl ?_ | refine picks_cons 4 rfl ?_ | refine picks_cons 5 rfl ?_ | refine picks_cons 6 rfl ?_)))
                                    · try simp only [decide_eq_true_eq, decide_eq_false_iff_not, Bool.or_eq_true, Bool.and_eq_true, Bool.or_eq_false_iff, Bool.and_eq_false_iff, Bool.not_eq_true', Bool.not_eq_false', ne_eq, Classical.not_not] at c124
                                      have hnx := (su_step (c := c) (d := d5) (b := b) (j := k) (by omega) (by rw [ltc_at (by omega) (by omega), show ((k - 1 : Nat) : Int) = (k : Int) - 1 from by omega]; simpa using c124)).symm.trans hsu
                                      refine tr_skip ?_
                                      refine then_normal ?_
                                      -- region 23
                                      refine tr_env (es_cons (t := 0) (OT.tmp rfl) (es_cons (t := 1) (OT.tmp rfl) (es_cons (t := 2) (OT.tmp rfl) (es_cons (t := 3) (OT.tmp rfl) (es_cons (t := 9) (OT.tmp rfl) (es_cons (t := 10) (OT.tmp rfl) (es_cons (t := 12) (OT.tmp rfl) es_nil))))))) ?_
                                      apply tr_anyW (p := 15) (Lf := fun c => cond c ([OwnI 45 (kG Z) v (d5.toList.set (k : Int).toNat (at' d5.toList ((k : Int) - 1)))]) ([OwnI 45 (kG Z) v d5.toList])) (by kernel_rfl) (m := 16) (ns := [[(0, none)], [(12, none)], [(0, none)], [(12, none)], [(128, some 3)], [(0, none)], [(12, none)], [(131, some 6)], [(130, some 5), (132, some 7)], [(133, some 8)], [(0, none)], [(12, none)], [(135, some 10), (136, some 11)], [(137, some 12)], [(125, some 0), (126, some 1)], [(134, some 9), (139, some 14)]]) (by kernel_rfl) (by kernel_rfl) (Ts := [_, _, _, _, _, _, _, _, _, _, _, _, _, _, _, _]) rfl
                                      case hops =>
                                        refine ⟨?_, ⟨?_, ⟨?_, ⟨?_, ⟨?_, ⟨?_, ⟨?_, ⟨?_, ⟨?_, ⟨?_, ⟨?_, ⟨?_, ⟨?_, ⟨?_, ⟨?_, ⟨?_, trivial⟩⟩⟩⟩⟩⟩⟩⟩⟩⟩⟩⟩⟩⟩⟩⟩
                                        · intro c hc; cases c
                                          · exact ropw_of (rop_pure rfl (pu_move (OT.tmp rfl)))
                                          · exact Bool.noConfusion (hc.symm.trans (by kernel_rfl : okFlag _ _ _ _ = false))
                                        · intro c hc; cases c
                                          · exact ropw_of (rop_pure rfl (pu_move (OT.tmp rfl)))
                                          · exact Bool.noConfusion (hc.symm.trans (by kernel_rfl : okFlag _ _ _ _ = false))
                                        · intro c hc; cases c
                                          · exact ropw_of (rop_pure rfl (pu_move (OT.tmp rfl)))
                                          · exact ropw_of (rop_pure rfl (pu_move (OT.tmp rfl)))
                                        · intro c hc; cases c
                                          · exact ropw_of (rop_pure rfl (pu_move (OT.tmp rfl)))
                                          · exact ropw_of (rop_pure rfl (pu_move (OT.tmp rfl)))
                                        · intro c hc; cases c
                                          · exact ropw_of (rop_pure rfl (pu_sub' (OT.tmp rfl) OT.const (by omega)))
                                          · exact ropw_of (rop_pure rfl (pu_sub' (OT.tmp rfl) OT.const (by omega)))
                                        · intro c hc; cases c
                                          · exact ropw_of (rop_pure rfl (pu_move (OT.tmp rfl)))
                                          · exact Bool.noConfusion (hc.symm.trans (by kernel_rfl : okFlag _ _ _ _ = false))
                                        · intro c hc; cases c
                                          · exact ropw_of (rop_pure rfl (pu_move (OT.tmp rfl)))
                                          · exact Bool.noConfusion (hc.symm.trans (by kernel_rfl : okFlag _ _ _ _ = false))
                                        · intro c hc; cases c
                                          · exact ropw_of (rop_pure rfl (pu_sub' (OT.tmp rfl) OT.const (by omega)))
                                          · exact Bool.noConfusion (hc.symm.trans (by kernel_rfl : okFlag _ _ _ _ = false))
                                        · intro c hc; cases c
                                          · exact ropw_of (rop_pure rfl (pu_index_own (OT.tmp rfl) (by exact mem_at 0 rfl) (OT.tmp rfl) Try.underlying35 (show tyOk Try.prog 45 false 1 = true from by decide +kernel) (by omega) (by omega)))
                                          · exact Bool.noConfusion (hc.symm.trans (by kernel_rfl : okFlag _ _ _ _ = false))
                                        · intro c hc; cases c
                                          · exact ropw_of (rop_pure rfl (pu_load_own0 (OT.tmp rfl) (by exact mem_at 0 rfl) (by omega) (by omega) (show tyOk Try.prog 45 false 1 = true from by decide +kernel)))
                                          · exact Bool.noConfusion (hc.symm.trans (by kernel_rfl : okFlag _ _ _ _ = false))
                                        · intro c hc; cases c
                                          · exact ropw_of (rop_pure rfl (pu_move (OT.tmp rfl)))
                                          · exact Bool.noConfusion (hc.symm.trans (by kernel_rfl : okFlag _ _ _ _ = false))
                                        · intro c hc; cases c
                                          · exact ropw_of (rop_pure rfl (pu_move (OT.tmp rfl)))
                                          · exact Bool.noConfusion (hc.symm.trans (by kernel_rfl : okFlag _ _ _ _ = false))
                                        · intro c hc; cases c
                                          · exact ropw_of (rop_pure rfl (pu_index_own (OT.tmp rfl) (by exact mem_at 0 rfl) (OT.tmp rfl) Try.underlying35 (show tyOk Try.prog 45 false 1 = true from by decide +kernel) (by omega) (by omega)))
                                          · exact Bool.noConfusion (hc.symm.trans (by kernel_rfl : okFlag _ _ _ _ = false))
                                        · intro c hc; cases c
                                          · exact ropw_of (rop_pure rfl (pu_load_own0 (OT.tmp rfl) (by exact mem_at 0 rfl) (by omega) (by omega) (show tyOk Try.prog 45 false 1 = true from by decide +kernel)))
                                          · exact Bool.noConfusion (hc.symm.trans (by kernel_rfl : okFlag _ _ _ _ = false))
                                        · intro c hc; cases c
                                          · exact ropw_of (rop_pure rfl (pu_index_own (OT.tmp rfl) (by exact mem_at 0 rfl) (OT.tmp rfl) Try.underlying35 (show tyOk Try.prog 45 false 1 = true from by decide +kernel) (by omega) (by omega)))
                                          · exact Bool.noConfusion (hc.symm.trans (by kernel_rfl : okFlag _ _ _ _ = false))
                                        · intro c hc; cases c
                                          · exact ropw_acts rfl (acts_store_own0 (OT.tmp rfl) (OT.tmp rfl) (by exact perm_at 0 rfl) (by omega) (by omega) (show tyOk Try.prog 45 false 1 = true from by decide +kernel)) (by exact perm_at 0 rfl) (fun _ => (by exact perm_at 0 rfl)) (fun _ _ _ _ h => h)
                                          · exact Bool.noConfusion (hc.symm.trans (by kernel_rfl : okFlag _ _ _ _ = false))
                                      case h =>
                                        refine op_pure (pu_index_own (OT.tmp rfl) (by exact mem_at 0 rfl) (OT.tmp rfl) Try.underlying35 (show tyOk Try.prog 45 false 1 = true from by decide +kernel) (by omega) (by (simp; omega))) rfl rfl ?_
                                        refine op_acts (acts_store_own0 (OT.tmp rfl) (OT.tmp rfl) (by exact perm_at 0 rfl) (by omega) (by (simp; omega)) (show tyOk Try.prog 45 false 1 = true from by decide +kernel)) (by exact perm_at 0 rfl) rfl rfl (fun _ _ => ?_)
                                        refine tr_nil ?_
                                        refine block_normal ?_
                                        refine then_normal ?_
                                        -- region 21
                                        refine tr_env (es_cons (t := 0) (OT.tmp rfl) (es_cons (t := 1) (OT.tmp rfl) (es_cons (t := 2) (OT.tmp rfl) (es_cons (t := 3) (OT.tmp rfl) (es_cons (t := 9) (OT.tmp rfl) (es_cons (t := 10) (OT.tmp rfl) (es_cons (t := 12) (OT.tmp rfl) es_nil))))))) ?_
                                        rw [sw1 (by omega) (by omega)]
                                        refine tr_region ?_
                                        refine op_pure (pu_move (OT.tmp rfl)) rfl rfl ?_
                                        refine op_pure (pu_add' (OT.tmp rfl) OT.const (by omega)) rfl rfl ?_
                                        refine op_pure (pu_assign (OT.tmp rfl)) rfl rfl ?_
                                        refine tr_nil ?_
                                        refine then_normal ?_
                                        exact tr_again (k + 1, Sort.swp d5 k (k - 1)) ⟨by show i2 + 1 ≤ k + 1; omega, swp_size.trans hs5, hnx⟩ (by show b - (k + 1) < b - k; omega) (es_append (es_cons (t := 12) (by exact OT.tmp rfl) es_nil) (es_cons (t := 0) (OT.tmp rfl) (es_cons (t := 1) (OT.tmp rfl) (es_cons (t := 2) (OT.tmp rfl) (es_cons (t := 3) (OT.tmp rfl) (es_cons (t := 9) (OT.tmp rfl) (es_cons (t := 10) (OT.tmp rfl) es_nil))))))) (own_picks (by repeat (first | exact picks_nil | refine picks_cons 0 rfl ?_ | refine picks_cons 1 rfl ?_ | refine picks_cons 2 rfl ?_ | refine picks_cons 3 rfl ?_ | refine picks_cons 4 rfl ?_ | refine picks_cons 5 rfl ?_ | refine picks_cons 6 rfl ?_)))
                                · try simp only [decide_eq_true_eq, decide_eq_false_iff_not, Bool.or_eq_true, Bool.and_eq_true, Bool.or_eq_false_iff, Bool.and_eq_false_iff, Bool.not_eq_true', Bool.not_eq_false', ne_eq, Classical.not_not] at c109
                                  have hd6 := hsu.symm.trans (su_end (c := c) (d := d5) (b := b) (j := k) (fun h => by omega))
                                  rw [hd6] at hon
                                  refine tr_exit ?_
                                  refine then_exit ?_
                                  refine then_exit ?_
                                  refine block_hit ?_
                                  refine block_normal ?_
                                  refine then_normal ?_
                                  -- region 4
                                  refine tr_env (es_cons (t := 0) (OT.tmp rfl) (es_cons (t := 1) (OT.tmp rfl) (es_cons (t := 2) (OT.tmp rfl) (es_cons (t := 3) (OT.tmp rfl) (es_cons (t := 9) (OT.tmp rfl) (es_cons (t := 10) (OT.tmp rfl) es_nil)))))) ?_
                                  refine tr_region ?_
                                  refine op_pure (pu_move (OT.tmp rfl)) rfl rfl ?_
                                  refine op_pure (pu_add' (OT.tmp rfl) OT.const (by omega)) rfl rfl ?_
                                  refine op_pure (pu_assign (OT.tmp rfl)) rfl rfl ?_
                                  refine tr_nil ?_
                                  refine then_normal ?_
                                  exact tr_again (s, i2, d5) ⟨by show s ≤ 5; omega, by show a + 1 ≤ i2; omega, by show i2 ≤ b; omega, hs5, hon.symm⟩ (by omega) (es_append (es_cons (t := 10) (by exact OT.val (OT.tmp rfl) (congrArg (Value.int _) (by omega))) (es_cons (t := 9) (by exact OT.tmp rfl) es_nil)) (es_cons (t := 0) (OT.tmp rfl) (es_cons (t := 1) (OT.tmp rfl) (es_cons (t := 2) (OT.tmp rfl) (es_cons (t := 3) (OT.tmp rfl) es_nil))))) (own_picks (by repeat (first | exact picks_nil | refine picks_cons 0 rfl ?_ | refine picks_cons 1 rfl ?_ | refine picks_cons 2 rfl ?_ | refine picks_cons 3 rfl ?_ | refine picks_cons 4 rfl ?_ | refine picks_cons 5 rfl ?_ | refine picks_cons 6 rfl ?_)))
                            · try simp only [decide_eq_true_eq, decide_eq_false_iff_not, Bool.or_eq_true, Bool.and_eq_true, Bool.or_eq_false_iff, Bool.and_eq_false_iff, Bool.not_eq_true', Bool.not_eq_false', ne_eq, Classical.not_not] at c104
                              rw [if_neg (by omega : ¬ b - i2 ≥ 2)] at hon
                              refine tr_skip ?_
                              refine block_normal ?_
                              refine then_normal ?_
                              -- region 4
                              refine tr_env (es_cons (t := 0) (OT.tmp rfl) (es_cons (t := 1) (OT.tmp rfl) (es_cons (t := 2) (OT.tmp rfl) (es_cons (t := 3) (OT.tmp rfl) (es_cons (t := 9) (OT.tmp rfl) (es_cons (t := 10) (OT.tmp rfl) es_nil)))))) ?_
                              refine tr_region ?_
                              refine op_pure (pu_move (OT.tmp rfl)) rfl rfl ?_
                              refine op_pure (pu_add' (OT.tmp rfl) OT.const (by omega)) rfl rfl ?_
                              refine op_pure (pu_assign (OT.tmp rfl)) rfl rfl ?_
                              refine tr_nil ?_
                              refine then_normal ?_
                              exact tr_again (s, i2, d3) ⟨by show s ≤ 5; omega, by show a + 1 ≤ i2; omega, by show i2 ≤ b; omega, hs3, hon.symm⟩ (by omega) (es_append (es_cons (t := 10) (by exact OT.val (OT.tmp rfl) (congrArg (Value.int _) (by omega))) (es_cons (t := 9) (by exact OT.tmp rfl) es_nil)) (es_cons (t := 0) (OT.tmp rfl) (es_cons (t := 1) (OT.tmp rfl) (es_cons (t := 2) (OT.tmp rfl) (es_cons (t := 3) (OT.tmp rfl) es_nil))))) (own_picks (by repeat (first | exact picks_nil | refine picks_cons 0 rfl ?_ | refine picks_cons 1 rfl ?_ | refine picks_cons 2 rfl ?_ | refine picks_cons 3 rfl ?_ | refine picks_cons 4 rfl ?_ | refine picks_cons 5 rfl ?_ | refine picks_cons 6 rfl ?_)))
                          · try simp only [decide_eq_true_eq, decide_eq_false_iff_not, Bool.or_eq_true, Bool.and_eq_true, Bool.or_eq_false_iff, Bool.and_eq_false_iff, Bool.not_eq_true', Bool.not_eq_false', ne_eq, Classical.not_not] at c84
                            have hnx := (sd_step (c := c) (d := d3) (j := j) (by omega) (by rw [ltc_at (by omega) (by omega), show ((j - 1 : Nat) : Int) = (j : Int) - 1 from by omega]; simpa using c84)).symm.trans hsd
                            refine tr_skip ?_
                            refine then_normal ?_
                            -- region 17
                            refine tr_env (es_cons (t := 0) (OT.tmp rfl) (es_cons (t := 1) (OT.tmp rfl) (es_cons (t := 2) (OT.tmp rfl) (es_cons (t := 3) (OT.tmp rfl) (es_cons (t := 9) (OT.tmp rfl) (es_cons (t := 10) (OT.tmp rfl) (es_cons (t := 11) (OT.tmp rfl) es_nil))))))) ?_
                            apply tr_anyW (p := 15) (Lf := fun c => cond c ([OwnI 45 (kG Z) v (d3.toList.set (j : Int).toNat (at' d3.toList ((j : Int) - 1)))]) ([OwnI 45 (kG Z) v d3.toList])) (by kernel_rfl) (m := 16) (ns := [[(0, none)], [(11, none)], [(0, none)], [(11, none)], [(88, some 3)], [(0, none)], [(11, none)], [(91, some 6)], [(90, some 5), (92, some 7)], [(93, some 8)], [(0, none)], [(11, none)], [(95, some 10), (96, some 11)], [(97, some 12)], [(85, some 0), (86, some 1)], [(94, some 9), (99, some 14)]]) (by kernel_rfl) (by kernel_rfl) (Ts := [_, _, _, _, _, _, _, _, _, _, _, _, _, _, _, _]) rfl
                            case hops =>
                              refine ⟨?_, ⟨?_, ⟨?_, ⟨?_, ⟨?_, ⟨?_, ⟨?_, ⟨?_, ⟨?_, ⟨?_, ⟨?_, ⟨?_, ⟨?_, ⟨?_, ⟨?_, ⟨?_, trivial⟩⟩⟩⟩⟩⟩⟩⟩⟩⟩⟩⟩⟩⟩⟩⟩
                              · intro c hc; cases c
                                · exact ropw_of (rop_pure rfl (pu_move (OT.tmp rfl)))
                                · exact Bool.noConfusion (hc.symm.trans (by kernel_rfl : okFlag _ _ _ _ = false))
                              · intro c hc; cases c
                                · exact ropw_of (rop_pure rfl (pu_move (OT.tmp rfl)))
                                · exact Bool.noConfusion (hc.symm.trans (by kernel_rfl : okFlag _ _ _ _ = false))
                              · intro c hc; cases c
                                · exact ropw_of (rop_pure rfl (pu_move (OT.tmp rfl)))
                                · exact ropw_of (rop_pure rfl (pu_move (OT.tmp rfl)))
                              · intro c hc; cases c
                                · exact ropw_of (rop_pure rfl (pu_move (OT.tmp rfl)))
                                · exact ropw_of (rop_pure rfl (pu_move (OT.tmp rfl)))
                              · intro c hc; cases c
                                · exact ropw_of (rop_pure rfl (pu_sub' (OT.tmp rfl) OT.const (by omega)))
                                · exact ropw_of (rop_pure rfl (pu_sub' (OT.tmp rfl) OT.const (by omega)))
                              · intro c hc; cases c
                                · exact ropw_of (rop_pure rfl (pu_move (OT.tmp rfl)))
                                · exact Bool.noConfusion (hc.symm.trans (by kernel_rfl : okFlag _ _ _ _ = false))
                              · intro c hc; cases c
                                · exact ropw_of (rop_pure rfl (pu_move (OT.tmp rfl)))
                                · exact Bool.noConfusion (hc.symm.trans (by kernel_rfl : okFlag _ _ _ _ = false))
                              · intro c hc; cases c
                                · exact ropw_of (rop_pure rfl (pu_sub' (OT.tmp rfl) OT.const (by omega)))
                                · exact Bool.noConfusion (hc.symm.trans (by kernel_rfl : okFlag _ _ _ _ = false))
                              · intro c hc; cases c
                                · exact ropw_of (rop_pure rfl (pu_index_own (OT.tmp rfl) (by exact mem_at 0 rfl) (OT.tmp rfl) Try.underlying35 (show tyOk Try.prog 45 false 1 = true from by decide +kernel) (by omega) (by omega)))
                                · exact Bool.noConfusion (hc.symm.trans (by kernel_rfl : okFlag _ _ _ _ = false))
                              · intro c hc; cases c
                                · exact ropw_of (rop_pure rfl (pu_load_own0 (OT.tmp rfl) (by exact mem_at 0 rfl) (by omega) (by omega) (show tyOk Try.prog 45 false 1 = true from by decide +kernel)))
                                · exact Bool.noConfusion (hc.symm.trans (by kernel_rfl : okFlag _ _ _ _ = false))
                              · intro c hc; cases c
                                · exact ropw_of (rop_pure rfl (pu_move (OT.tmp rfl)))
                                · exact Bool.noConfusion (hc.symm.trans (by kernel_rfl : okFlag _ _ _ _ = false))
                              · intro c hc; cases c
                                · exact ropw_of (rop_pure rfl (pu_move (OT.tmp rfl)))
                                · exact Bool.noConfusion (hc.symm.trans (by kernel_rfl : okFlag _ _ _ _ = false))
                              · intro c hc; cases c
                                · exact ropw_of (rop_pure rfl (pu_index_own (OT.tmp rfl) (by exact mem_at 0 rfl) (OT.tmp rfl) Try.underlying35 (show tyOk Try.prog 45 false 1 = true from by decide +kernel) (by omega) (by omega)))
                                · exact Bool.noConfusion (hc.symm.trans (by kernel_rfl : okFlag _ _ _ _ = false))
                              · intro c hc; cases c
                                · exact ropw_of (rop_pure rfl (pu_load_own0 (OT.tmp rfl) (by exact mem_at 0 rfl) (by omega) (by omega) (show tyOk Try.prog 45 false 1 = true from by decide +kernel)))
                                · exact Bool.noConfusion (hc.symm.trans (by kernel_rfl : okFlag _ _ _ _ = false))
                              · intro c hc; cases c
                                · exact ropw_of (rop_pure rfl (pu_index_own (OT.tmp rfl) (by exact mem_at 0 rfl) (OT.tmp rfl) Try.underlying35 (show tyOk Try.prog 45 false 1 = true from by decide +kernel) (by omega) (by omega)))
                                · exact Bool.noConfusion (hc.symm.trans (by kernel_rfl : okFlag _ _ _ _ = false))
                              · intro c hc; cases c
                                · exact ropw_acts rfl (acts_store_own0 (OT.tmp rfl) (OT.tmp rfl) (by exact perm_at 0 rfl) (by omega) (by omega) (show tyOk Try.prog 45 false 1 = true from by decide +kernel)) (by exact perm_at 0 rfl) (fun _ => (by exact perm_at 0 rfl)) (fun _ _ _ _ h => h)
                                · exact Bool.noConfusion (hc.symm.trans (by kernel_rfl : okFlag _ _ _ _ = false))
                            case h =>
                              refine op_pure (pu_index_own (OT.tmp rfl) (by exact mem_at 0 rfl) (OT.tmp rfl) Try.underlying35 (show tyOk Try.prog 45 false 1 = true from by decide +kernel) (by omega) (by (simp; omega))) rfl rfl ?_
                              refine op_acts (acts_store_own0 (OT.tmp rfl) (OT.tmp rfl) (by exact perm_at 0 rfl) (by omega) (by (simp; omega)) (show tyOk Try.prog 45 false 1 = true from by decide +kernel)) (by exact perm_at 0 rfl) rfl rfl (fun _ _ => ?_)
                              refine tr_nil ?_
                              refine block_normal ?_
                              refine then_normal ?_
                              -- region 15
                              refine tr_env (es_cons (t := 0) (OT.tmp rfl) (es_cons (t := 1) (OT.tmp rfl) (es_cons (t := 2) (OT.tmp rfl) (es_cons (t := 3) (OT.tmp rfl) (es_cons (t := 9) (OT.tmp rfl) (es_cons (t := 10) (OT.tmp rfl) (es_cons (t := 11) (OT.tmp rfl) es_nil))))))) ?_
                              rw [sw1 (by omega) (by omega)]
                              refine tr_region ?_
                              refine op_pure (pu_move (OT.tmp rfl)) rfl rfl ?_
                              refine op_pure (pu_sub' (OT.tmp rfl) OT.const (by omega)) rfl rfl ?_
                              refine op_pure (pu_assign (OT.tmp rfl)) rfl rfl ?_
                              refine tr_nil ?_
                              refine then_normal ?_
                              exact tr_again (j - 1, Sort.swp d3 j (j - 1)) ⟨by show j - 1 ≤ i2 - 1; omega, swp_size.trans hs3, hnx⟩ (by show j - 1 < j; omega) (es_append (es_cons (t := 11) (by exact OT.val (OT.tmp rfl) (congrArg (Value.int _) (by omega))) es_nil) (es_cons (t := 0) (OT.tmp rfl) (es_cons (t := 1) (OT.tmp rfl) (es_cons (t := 2) (OT.tmp rfl) (es_cons (t := 3) (OT.tmp rfl) (es_cons (t := 9) (OT.tmp rfl) (es_cons (t := 10) (OT.tmp rfl) es_nil))))))) (own_picks (by repeat (first | exact picks_nil | refine picks_cons 0 rfl ?_ | refine picks_cons 1 rfl ?_ | refine picks_cons 2 rfl ?_ | refine picks_cons 3 rfl ?_ | refine picks_cons 4 rfl ?_ | refine picks_cons 5 rfl ?_ | refine picks_cons 6 rfl ?_)))
                      · try simp only [decide_eq_true_eq, decide_eq_false_iff_not, Bool.or_eq_true, Bool.and_eq_true, Bool.or_eq_false_iff, Bool.and_eq_false_iff, Bool.not_eq_true', Bool.not_eq_false', ne_eq, Classical.not_not] at c69
                        have hd4 := hsd.symm.trans (sd_end (c := c) (d := d3) (j := j) (fun h => by omega))
                        rw [if_pos (by omega : i2 - a ≥ 2), hd4] at hon
                        refine tr_exit ?_
                        refine then_exit ?_
                        refine then_exit ?_
                        refine block_hit ?_
                        refine then_normal ?_
                        refine tr_seq ?_
                        -- region 18
                        refine tr_env (es_cons (t := 0) (OT.tmp rfl) (es_cons (t := 1) (OT.tmp rfl) (es_cons (t := 2) (OT.tmp rfl) (es_cons (t := 3) (OT.tmp rfl) (es_cons (t := 9) (OT.tmp rfl) (es_cons (t := 10) (OT.tmp rfl) es_nil)))))) ?_
                        refine tr_region ?_
                        refine op_pure (pu_move (OT.tmp rfl)) rfl rfl ?_
                        refine op_pure (pu_move (OT.tmp rfl)) rfl rfl ?_
                        refine op_pure (pu_sub' (OT.tmp rfl) (OT.tmp rfl) (by omega)) rfl rfl ?_
                        refine op_pure (pu_geq (OT.tmp rfl) OT.const) rfl rfl ?_
                        refine tr_nil ?_
                        refine then_normal ?_
                        refine tr_cond (OT.tmp rfl) (fun c104 => ?_) (fun c104 => ?_)
                        · try simp only [decide_eq_true_eq, decide_eq_false_iff_not, Bool.or_eq_true, Bool.and_eq_true, Bool.or_eq_false_iff, Bool.and_eq_false_iff, Bool.not_eq_true', Bool.not_eq_false', ne_eq, Classical.not_not] at c104
                          rw [if_pos (by omega : b - i2 ≥ 2)] at hon
                          refine tr_seq ?_
                          -- region 19
                          refine tr_env (es_cons (t := 0) (OT.tmp rfl) (es_cons (t := 1) (OT.tmp rfl) (es_cons (t := 2) (OT.tmp rfl) (es_cons (t := 3) (OT.tmp rfl) (es_cons (t := 9) (OT.tmp rfl) (es_cons (t := 10) (OT.tmp rfl) es_nil)))))) ?_
                          refine tr_region ?_
                          refine op_pure (pu_move (OT.tmp rfl)) rfl rfl ?_
                          refine op_pure (pu_add' (OT.tmp rfl) OT.const (by omega)) rfl rfl ?_
                          refine op_pure (pu_assign (OT.tmp rfl)) rfl rfl ?_
                          refine tr_nil ?_
                          refine then_normal ?_
                          refine tr_block ?_
                          refine tr_loopK (σ := Nat × DA) (es_cons (t := 0) (OT.tmp rfl) (es_cons (t := 1) (OT.tmp rfl) (es_cons (t := 2) (OT.tmp rfl) (es_cons (t := 3) (OT.tmp rfl) (es_cons (t := 9) (OT.tmp rfl) (es_cons (t := 10) (OT.tmp rfl) es_nil)))))) (fun s => [(12, I64 (s.1 : Int))]) (fun s => [OwnI 45 (kG Z) v s.2.toList]) (fun s => i2 + 1 ≤ s.1 ∧ s.2.size = d.size ∧ Sort.shiftUp (ltc c) b s.1 s.2 = Sort.shiftUp (ltc c) b (i2 + 1) d3) (fun s => b - s.1) (i2 + 1, d3) ⟨Nat.le_refl _, hs3, rfl⟩ ?_ (own_picks (by repeat (first | exact picks_nil | refine picks_cons 0 rfl ?_ | refine picks_cons 1 rfl ?_ | refine picks_cons 2 rfl ?_ | refine picks_cons 3 rfl ?_ | refine picks_cons 4 rfl ?_ | refine picks_cons 5 rfl ?_ | refine picks_cons 6 rfl ?_))) ?_
                          · exact (es_cons (t := 12) (by exact OT.tmp rfl) es_nil)
                          · rintro ⟨k, d5⟩ ⟨hk, hs5, hsu⟩
                            dsimp only at hk hs5 hsu ⊢
                            have hl5 : d5.toList.length = d5.size := Array.length_toList
                            refine tr_seq ?_
                            refine tr_seq ?_
                            -- region 20
                            refine tr_env (es_cons (t := 0) (OT.tmp rfl) (es_cons (t := 1) (OT.tmp rfl) (es_cons (t := 2) (OT.tmp rfl) (es_cons (t := 3) (OT.tmp rfl) (es_cons (t := 9) (OT.tmp rfl) (es_cons (t := 10) (OT.tmp rfl) (es_cons (t := 12) (OT.tmp rfl) es_nil))))))) ?_
                            refine tr_region ?_
                            refine op_pure (pu_move (OT.tmp rfl)) rfl rfl ?_
                            refine op_pure (pu_move (OT.tmp rfl)) rfl rfl ?_
                            refine op_pure (pu_lss (OT.tmp rfl) (OT.tmp rfl)) rfl rfl ?_
                            refine tr_nil ?_
                            refine then_normal ?_
                            refine tr_cond (OT.tmp rfl) (fun c109 => ?_) (fun c109 => ?_)
                            · try simp only [decide_eq_true_eq, decide_eq_false_iff_not, Bool.or_eq_true, Bool.and_eq_true, Bool.or_eq_false_iff, Bool.and_eq_false_iff, Bool.not_eq_true', Bool.not_eq_false', ne_eq, Classical.not_not] at c109
                              refine tr_skip ?_
                              refine then_normal ?_
                              refine tr_seq ?_
                              refine tr_block ?_
                              refine tr_seq ?_
                              refine tr_seq ?_
                              -- region 22
                              refine tr_env (es_cons (t := 0) (OT.tmp rfl) (es_cons (t := 1) (OT.tmp rfl) (es_cons (t := 2) (OT.tmp rfl) (es_cons (t := 3) (OT.tmp rfl) (es_cons (t := 9) (OT.tmp rfl) (es_cons (t := 10) (OT.tmp rfl) (es_cons (t := 12) (OT.tmp rfl) es_nil))))))) ?_
                              apply tr_any (m := 10) (ns := [[(3, none)], [(0, none)], [(12, none)], [(113, some 1), (114, some 2)], [(115, some 3)], [(0, none)], [(12, none)], [(118, some 6)], [(117, some 5), (119, some 7)], [(120, some 8)]]) (by kernel_rfl) (by kernel_rfl) (Ts := [_, _, _, _, _, _, _, _, _, _]) rfl
                              case hops =>
                                refine ⟨?_, ⟨?_, ⟨?_, ⟨?_, ⟨?_, ⟨?_, ⟨?_, ⟨?_, ⟨?_, ⟨?_, trivial⟩⟩⟩⟩⟩⟩⟩⟩⟩⟩
                                · exact rop_pure rfl (pu_move (OT.tmp rfl))
                                · exact rop_pure rfl (pu_move (OT.tmp rfl))
                                · exact rop_pure rfl (pu_move (OT.tmp rfl))
                                · exact rop_pure rfl (pu_index_own (OT.tmp rfl) (by exact mem_at 0 rfl) (OT.tmp rfl) Try.underlying35 (show tyOk Try.prog 45 false 1 = true from by decide +kernel) (by omega) (by omega))
                                · exact rop_pure rfl (pu_load_own0 (OT.tmp rfl) (by exact mem_at 0 rfl) (by omega) (by omega) (show tyOk Try.prog 45 false 1 = true from by decide +kernel))
                                · exact rop_pure rfl (pu_move (OT.tmp rfl))
                                · exact rop_pure rfl (pu_move (OT.tmp rfl))
                                · exact rop_pure rfl (pu_sub' (OT.tmp rfl) OT.const (by omega))
                                · exact rop_pure rfl (pu_index_own (OT.tmp rfl) (by exact mem_at 0 rfl) (OT.tmp rfl) Try.underlying35 (show tyOk Try.prog 45 false 1 = true from by decide +kernel) (by omega) (by omega))
                                · exact rop_pure rfl (pu_load_own0 (OT.tmp rfl) (by exact mem_at 0 rfl) (by omega) (by omega) (show tyOk Try.prog 45 false 1 = true from by decide +kernel))
                              case h =>
                                refine op_acts (acts_callv (OT.tmp rfl) (hfv _ _) (OTs.cons (OT.tmp rfl) (OTs.cons (OT.tmp rfl) OTs.nil)) (List.Perm.refl _)) (List.Perm.refl _) rfl rfl (fun _ _ => ?_)
                                refine op_pure (pu_lss (OT.tmp rfl) OT.const) rfl rfl ?_
                                refine op_pure (pu_not (OT.tmp rfl)) rfl rfl ?_
                                refine tr_nil ?_
                                refine then_normal ?_
                                refine tr_cond (OT.tmp rfl) (fun c124 => ?_) (fun c124 => ?_)
                                · try simp only [decide_eq_true_eq, decide_eq_false_iff_not, Bool.or_eq_true, Bool.and_eq_true, Bool.or_eq_false_iff, Bool.and_eq_false_iff, Bool.not_eq_true', Bool.not_eq_false', ne_eq, Classical.not_not] at c124
                                  have hd6 := hsu.symm.trans (su_end (c := c) (d := d5) (b := b) (j := k) (fun h => by rw [ltc_at (by omega) (by omega), show ((k - 1 : Nat) : Int) = (k : Int) - 1 from by omega]; simpa using c124))
                                  rw [hd6] at hon
                                  refine tr_exit ?_
                                  refine then_exit ?_
                                  refine block_pass rfl ?_
                                  refine then_exit ?_
                                  refine then_exit ?_
                                  refine block_hit ?_
                                  refine block_normal ?_
                                  refine then_normal ?_
                                  -- region 4
                                  refine tr_env (es_cons (t := 0) (OT.tmp rfl) (es_cons (t := 1) (OT.tmp rfl) (es_cons (t := 2) (OT.tmp rfl) (es_cons (t := 3) (OT.tmp rfl) (es_cons (t := 9) (OT.tmp rfl) (es_cons (t := 10) (OT.tmp rfl) es_nil)))))) ?_
                                  refine tr_region ?_
                                  refine op_pure (pu_move (OT.tmp rfl)) rfl rfl ?_
                                  refine op_pure (pu_add' (OT.tmp rfl) OT.const (by omega)) rfl rfl ?_
                                  refine op_pure (pu_assign (OT.tmp rfl)) rfl rfl ?_
                                  refine tr_nil ?_
                                  refine then_normal ?_
                                  exact tr_again (s, i2, d5) ⟨by show s ≤ 5; omega, by show a + 1 ≤ i2; omega, by show i2 ≤ b; omega, hs5, hon.symm⟩ (by omega) (es_append (es_cons (t := 10) (by exact OT.val (OT.tmp rfl) (congrArg (Value.int _) (by omega))) (es_cons (t := 9) (by exact OT.tmp rfl) es_nil)) (es_cons (t := 0) (OT.tmp rfl) (es_cons (t := 1) (OT.tmp rfl) (es_cons (t := 2) (OT.tmp rfl) (es_cons (t := 3) (OT.tmp rfl) es_nil))))) (own_picks (by repeat (first | exact picks_nil | refine picks_cons 0 rfl ?_ | refine picks_cons 1 rfl ?_ | refine picks_cons 2 rfl ?_ | refine picks_cons 3 rfl ?_ | refine picks_cons 4 rfl ?_ | refine picks_cons 5 rfl ?_ | refine picks_cons 6 rfl ?_)))
                                · try simp only [decide_eq_true_eq, decide_eq_false_iff_not, Bool.or_eq_true, Bool.and_eq_true, Bool.or_eq_false_iff, Bool.and_eq_false_iff, Bool.not_eq_true', Bool.not_eq_false', ne_eq, Classical.not_not] at c124
                                  have hnx := (su_step (c := c) (d := d5) (b := b) (j := k) (by omega) (by rw [ltc_at (by omega) (by omega), show ((k - 1 : Nat) : Int) = (k : Int) - 1 from by omega]; simpa using c124)).symm.trans hsu
                                  refine tr_skip ?_
                                  refine then_normal ?_
                                  -- region 23
                                  refine tr_env (es_cons (t := 0) (OT.tmp rfl) (es_cons (t := 1) (OT.tmp rfl) (es_cons (t := 2) (OT.tmp rfl) (es_cons (t := 3) (OT.tmp rfl) (es_cons (t := 9) (OT.tmp rfl) (es_cons (t := 10) (OT.tmp rfl) (es_cons (t := 12) (OT.tmp rfl) es_nil))))))) ?_
                                  apply tr_anyW (p := 15) (Lf := fun c => cond c ([OwnI 45 (kG Z) v (d5.toList.set (k : Int).toNat (at' d5.toList ((k : Int) - 1)))]) ([OwnI 45 (kG Z) v d5.toList])) (by kernel_rfl) (m := 16) (ns := [[(0, none)], [(12, none)], [(0, none)], [(12, none)], [(128, some 3)], [(0, none)], [(12, none)], [(131, some 6)], [(130, some 5), (132, some 7)], [(133, some 8)], [(0, none)], [(12, none)], [(135, some 10), (136, some 11)], [(137, some 12)], [(125, some 0), (126, some 1)], [(134, some 9), (139, some 14)]]) (by kernel_rfl) (by kernel_rfl) (Ts := [_, _, _, _, _, _, _, _, _, _, _, _, _, _, _, _]) rfl
                                  case hops =>
                                    refine ⟨?_, ⟨?_, ⟨?_, ⟨?_, ⟨?_, ⟨?_, ⟨?_, ⟨?_, ⟨?_, ⟨?_, ⟨?_, ⟨?_, ⟨?_, ⟨?_, ⟨?_, ⟨?_, trivial⟩⟩⟩⟩⟩⟩⟩⟩⟩⟩⟩⟩⟩⟩⟩⟩
                                    · intro c hc; cases c
                                      · exact ropw_of (rop_pure rfl (pu_move (OT.tmp rfl)))
                                      · exact Bool.noConfusion (hc.symm.trans (by kernel_rfl : okFlag _ _ _ _ = false))
                                    · intro c hc; cases c
                                      · exact ropw_of (rop_pure rfl (pu_move (OT.tmp rfl)))
                                      · exact Bool.noConfusion (hc.symm.trans (by kernel_rfl : okFlag _ _ _ _ = false))
                                    · intro c hc; cases c
                                      · exact ropw_of (rop_pure rfl (pu_move (OT.tmp rfl)))
                                      · exact ropw_of (rop_pure rfl (pu_move (OT.tmp rfl)))
                                    · intro c hc; cases c
                                      · exact ropw_of (rop_pure rfl (pu_move (OT.tmp rfl)))
                                      · exact ropw_of (rop_pure rfl (pu_move (OT.tmp rfl)))
                                    · intro c hc; cases c
                                      · exact ropw_of (rop_pure rfl (pu_sub' (OT.tmp rfl) OT.const (by omega)))
                                      · exact ropw_of (rop_pure rfl (pu_sub' (OT.tmp rfl) OT.const (by omega)))
                                    · intro c hc; cases c
                                      · exact ropw_of (rop_pure rfl (pu_move (OT.tmp rfl)))
                                      · exact Bool.noConfusion (hc.symm.trans (by kernel_rfl : okFlag _ _ _ _ = false))
                                    · intro c hc; cases c
                                      · exact ropw_of (rop_pure rfl (pu_move (OT.tmp rfl)))
                                      · exact Bool.noConfusion (hc.symm.trans (by kernel_rfl : okFlag _ _ _ _ = false))
                                    · intro c hc; cases c
                                      · exact ropw_of (rop_pure rfl (pu_sub' (OT.tmp rfl) OT.const (by omega)))
                                      · exact Bool.noConfusion (hc.symm.trans (by kernel_rfl : okFlag _ _ _ _ = false))
                                    · intro c hc; cases c
                                      · exact ropw_of (rop_pure rfl (pu_index_own (OT.tmp rfl) (by exact mem_at 0 rfl) (OT.tmp rfl) Try.underlying35 (show tyOk Try.prog 45 false 1 = true from by decide +kernel) (by omega) (by omega)))
                                      · exact Bool.noConfusion (hc.symm.trans (by kernel_rfl : okFlag _ _ _ _ = false))
                                    · intro c hc; cases c
                                      · exact ropw_of (rop_pure rfl (pu_load_own0 (OT.tmp rfl) (by exact mem_at 0 rfl) (by omega) (by omega) (show tyOk Try.prog 45 false 1 = true from by decide +kernel)))
                                      · exact Bool.noConfusion (hc.symm.trans (by kernel_rfl : okFlag _ _ _ _ = false))
                                    · intro c hc; cases c
                                      · exact ropw_of (rop_pure rfl (pu_move (OT.tmp rfl)))
                                      · exact Bool.noConfusion (hc.symm.trans (by kernel_rfl : okFlag _ _ _ _ = false))
                                    · intro c hc; cases c
                                      · exact ropw_of (rop_pure rfl (pu_move (OT.tmp rfl)))
                                      · exact Bool.noConfusion (hc.symm.trans (by kernel_rfl : okFlag _ _ _ _ = false))
                                    · intro c hc; cases c
                                      · exact ropw_of (rop_pure rfl (pu_index_own (OT.tmp rfl) (by exact mem_at 0 rfl) (OT.tmp rfl) Try.underlying35 (show tyOk Try.prog 45 false 1 = true from by decide +kernel) (by omega) (by omega)))
                                      · exact Bool.noConfusion (hc.symm.trans (by kernel_rfl : okFlag _ _ _ _ = false))
                                    · intro c hc; cases c
                                      · exact ropw_of (rop_pure rfl (pu_load_own0 (OT.tmp rfl) (by exact mem_at 0 rfl) (by omega) (by omega) (show tyOk Try.prog 45 false 1 = true from by decide +kernel)))
                                      · exact Bool.noConfusion (hc.symm.trans (by kernel_rfl : okFlag _ _ _ _ = false))
                                    · intro c hc; cases c
                                      · exact ropw_of (rop_pure rfl (pu_index_own (OT.tmp rfl) (by exact mem_at 0 rfl) (OT.tmp rfl) Try.underlying35 (show tyOk Try.prog 45 false 1 = true from by decide +kernel) (by omega) (by omega)))
                                      · exact Bool.noConfusion (hc.symm.trans (by kernel_rfl : okFlag _ _ _ _ = false))
                                    · intro c hc; cases c
                                      · exact ropw_acts rfl (acts_store_own0 (OT.tmp rfl) (OT.tmp rfl) (by exact perm_at 0 rfl) (by omega) (by omega) (show tyOk Try.prog 45 false 1 = true from by decide +kernel)) (by exact perm_at 0 rfl) (fun _ => (by exact perm_at 0 rfl)) (fun _ _ _ _ h => h)
                                      · exact Bool.noConfusion (hc.symm.trans (by kernel_rfl : okFlag _ _ _ _ = false))
                                  case h =>
                                    refine op_pure (pu_index_own (OT.tmp rfl) (by exact mem_at 0 rfl) (OT.tmp rfl) Try.underlying35 (show tyOk Try.prog 45 false 1 = true from by decide +kernel) (by omega) (by (simp; omega))) rfl rfl ?_
                                    refine op_acts (acts_store_own0 (OT.tmp rfl) (OT.tmp rfl) (by exact perm_at 0 rfl) (by omega) (by (simp; omega)) (show tyOk Try.prog 45 false 1 = true from by decide +kernel)) (by exact perm_at 0 rfl) rfl rfl (fun _ _ => ?_)
                                    refine tr_nil ?_
                                    refine block_normal ?_
                                    refine then_normal ?_
                                    -- region 21
                                    refine tr_env (es_cons (t := 0) (OT.tmp rfl) (es_cons (t := 1) (OT.tmp rfl) (es_cons (t := 2) (OT.tmp rfl) (es_cons (t := 3) (OT.tmp rfl) (es_cons (t := 9) (OT.tmp rfl) (es_cons (t := 10) (OT.tmp rfl) (es_cons (t := 12) (OT.tmp rfl) es_nil))))))) ?_
                                    rw [sw1 (by omega) (by omega)]
                                    refine tr_region ?_
                                    refine op_pure (pu_move (OT.tmp rfl)) rfl rfl ?_
                                    refine op_pure (pu_add' (OT.tmp rfl) OT.const (by omega)) rfl rfl ?_
                                    refine op_pure (pu_assign (OT.tmp rfl)) rfl rfl ?_
                                    refine tr_nil ?_
                                    refine then_normal ?_
                                    exact tr_again (k + 1, Sort.swp d5 k (k - 1)) ⟨by show i2 + 1 ≤ k + 1; omega, swp_size.trans hs5, hnx⟩ (by show b - (k + 1) < b - k; omega) (es_append (es_cons (t := 12) (by exact OT.tmp rfl) es_nil) (es_cons (t := 0) (OT.tmp rfl) (es_cons (t := 1) (OT.tmp rfl) (es_cons (t := 2) (OT.tmp rfl) (es_cons (t := 3) (OT.tmp rfl) (es_cons (t := 9) (OT.tmp rfl) (es_cons (t := 10) (OT.tmp rfl) es_nil))))))) (own_picks (by repeat (first | exact picks_nil | refine picks_cons 0 rfl ?_ | refine picks_cons 1 rfl ?_ | refine picks_cons 2 rfl ?_ | refine picks_cons 3 rfl ?_ | refine picks_cons 4 rfl ?_ | refine picks_cons 5 rfl ?_ | refine picks_cons 6 rfl ?_)))
                            · try simp only [decide_eq_true_eq, decide_eq_false_iff_not, Bool.or_eq_true, Bool.and_eq_true, Bool.or_eq_false_iff, Bool.and_eq_false_iff, Bool.not_eq_true', Bool.not_eq_false', ne_eq, Classical.not_not] at c109
                              have hd6 := hsu.symm.trans (su_end (c := c) (d := d5) (b := b) (j := k) (fun h => by omega))
                              rw [hd6] at hon
                              refine tr_exit ?_
                              refine then_exit ?_
                              refine then_exit ?_
                              refine block_hit ?_
                              refine block_normal ?_
                              refine then_normal ?_
                              -- region 4
                              refine tr_env (es_cons (t := 0) (OT.tmp rfl) (es_cons (t := 1) (OT.tmp rfl) (es_cons (t := 2) (OT.tmp rfl) (es_cons (t := 3) (OT.tmp rfl) (es_cons (t := 9) (OT.tmp rfl) (es_cons (t := 10) (OT.tmp rfl) es_nil)))))) ?_
                              refine tr_region ?_
                              refine op_pure (pu_move (OT.tmp rfl)) rfl rfl ?_
                              refine op_pure (pu_add' (OT.tmp rfl) OT.const (by omega)) rfl rfl ?_
                              refine op_pure (pu_assign (OT.tmp rfl)) rfl rfl ?_
                              refine tr_nil ?_
                              refine then_normal ?_
                              exact tr_again (s, i2, d5) ⟨by show s ≤ 5; omega, by show a + 1 ≤ i2; omega, by show i2 ≤ b; omega, hs5, hon.symm⟩ (by omega) (es_append (es_cons (t := 10) (by exact OT.val (OT.tmp rfl) (congrArg (Value.int _) (by omega))) (es_cons (t := 9) (by exact OT.tmp rfl) es_nil)) (es_cons (t := 0) (OT.tmp rfl) (es_cons (t := 1) (OT.tmp rfl) (es_cons (t := 2) (OT.tmp rfl) (es_cons (t := 3) (OT.tmp rfl) es_nil))))) (own_picks (by repeat (first | exact picks_nil | refine picks_cons 0 rfl ?_ | refine picks_cons 1 rfl ?_ | refine picks_cons 2 rfl ?_ | refine picks_cons 3 rfl ?_ | refine picks_cons 4 rfl ?_ | refine picks_cons 5 rfl ?_ | refine picks_cons 6 rfl ?_)))
                        · try simp only [decide_eq_true_eq, decide_eq_false_iff_not, Bool.or_eq_true, Bool.and_eq_true, Bool.or_eq_false_iff, Bool.and_eq_false_iff, Bool.not_eq_true', Bool.not_eq_false', ne_eq, Classical.not_not] at c104
                          rw [if_neg (by omega : ¬ b - i2 ≥ 2)] at hon
                          refine tr_skip ?_
                          refine block_normal ?_
                          refine then_normal ?_
                          -- region 4
                          refine tr_env (es_cons (t := 0) (OT.tmp rfl) (es_cons (t := 1) (OT.tmp rfl) (es_cons (t := 2) (OT.tmp rfl) (es_cons (t := 3) (OT.tmp rfl) (es_cons (t := 9) (OT.tmp rfl) (es_cons (t := 10) (OT.tmp rfl) es_nil)))))) ?_
                          refine tr_region ?_
                          refine op_pure (pu_move (OT.tmp rfl)) rfl rfl ?_
                          refine op_pure (pu_add' (OT.tmp rfl) OT.const (by omega)) rfl rfl ?_
                          refine op_pure (pu_assign (OT.tmp rfl)) rfl rfl ?_
                          refine tr_nil ?_
                          refine then_normal ?_
                          exact tr_again (s, i2, d3) ⟨by show s ≤ 5; omega, by show a + 1 ≤ i2; omega, by show i2 ≤ b; omega, hs3, hon.symm⟩ (by omega) (es_append (es_cons (t := 10) (by exact OT.val (OT.tmp rfl) (congrArg (Value.int _) (by omega))) (es_cons (t := 9) (by exact OT.tmp rfl) es_nil)) (es_cons (t := 0) (OT.tmp rfl) (es_cons (t := 1) (OT.tmp rfl) (es_cons (t := 2) (OT.tmp rfl) (es_cons (t := 3) (OT.tmp rfl) es_nil))))) (own_picks (by repeat (first | exact picks_nil | refine picks_cons 0 rfl ?_ | refine picks_cons 1 rfl ?_ | refine picks_cons 2 rfl ?_ | refine picks_cons 3 rfl ?_ | refine picks_cons 4 rfl ?_ | refine picks_cons 5 rfl ?_ | refine picks_cons 6 rfl ?_)))
                  · try simp only [decide_eq_true_eq, decide_eq_false_iff_not, Bool.or_eq_true, Bool.and_eq_true, Bool.or_eq_false_iff, Bool.and_eq_false_iff, Bool.not_eq_true', Bool.not_eq_false', ne_eq, Classical.not_not] at c65
                    rw [if_neg (by omega : ¬ i2 - a ≥ 2)] at hon
                    refine tr_skip ?_
                    refine then_normal ?_
                    refine tr_seq ?_
                    -- region 18
                    refine tr_env (es_cons (t := 0) (OT.tmp rfl) (es_cons (t := 1) (OT.tmp rfl) (es_cons (t := 2) (OT.tmp rfl) (es_cons (t := 3) (OT.tmp rfl) (es_cons (t := 9) (OT.tmp rfl) (es_cons (t := 10) (OT.tmp rfl) es_nil)))))) ?_
                    refine tr_region ?_
                    refine op_pure (pu_move (OT.tmp rfl)) rfl rfl ?_
                    refine op_pure (pu_move (OT.tmp rfl)) rfl rfl ?_
                    refine op_pure (pu_sub' (OT.tmp rfl) (OT.tmp rfl) (by omega)) rfl rfl ?_
                    refine op_pure (pu_geq (OT.tmp rfl) OT.const) rfl rfl ?_
                    refine tr_nil ?_
                    refine then_normal ?_
                    refine tr_cond (OT.tmp rfl) (fun c104 => ?_) (fun c104 => ?_)
                    · try simp only [decide_eq_true_eq, decide_eq_false_iff_not, Bool.or_eq_true, Bool.and_eq_true, Bool.or_eq_false_iff, Bool.and_eq_false_iff, Bool.not_eq_true', Bool.not_eq_false', ne_eq, Classical.not_not] at c104
                      rw [if_pos (by omega : b - i2 ≥ 2)] at hon
                      refine tr_seq ?_
                      -- region 19
                      refine tr_env (es_cons (t := 0) (OT.tmp rfl) (es_cons (t := 1) (OT.tmp rfl) (es_cons (t := 2) (OT.tmp rfl) (es_cons (t := 3) (OT.tmp rfl) (es_cons (t := 9) (OT.tmp rfl) (es_cons (t := 10) (OT.tmp rfl) es_nil)))))) ?_
                      refine tr_region ?_
                      refine op_pure (pu_move (OT.tmp rfl)) rfl rfl ?_
                      refine op_pure (pu_add' (OT.tmp rfl) OT.const (by omega)) rfl rfl ?_
                      refine op_pure (pu_assign (OT.tmp rfl)) rfl rfl ?_
                      refine tr_nil ?_
                      refine then_normal ?_
                      refine tr_block ?_
                      refine tr_loopK (σ := Nat × DA) (es_cons (t := 0) (OT.tmp rfl) (es_cons (t := 1) (OT.tmp rfl) (es_cons (t := 2) (OT.tmp rfl) (es_cons (t := 3) (OT.tmp rfl) (es_cons (t := 9) (OT.tmp rfl) (es_cons (t := 10) (OT.tmp rfl) es_nil)))))) (fun s => [(12, I64 (s.1 : Int))]) (fun s => [OwnI 45 (kG Z) v s.2.toList]) (fun s => i2 + 1 ≤ s.1 ∧ s.2.size = d.size ∧ Sort.shiftUp (ltc c) b s.1 s.2 = Sort.shiftUp (ltc c) b (i2 + 1) (Sort.swp d1 i2 (i2 - 1))) (fun s => b - s.1) (i2 + 1, (Sort.swp d1 i2 (i2 - 1))) ⟨Nat.le_refl _, hs2, rfl⟩ ?_ (own_picks (by repeat (first | exact picks_nil | refine picks_cons 0 rfl ?_ | refine picks_cons 1 rfl ?_ | refine picks_cons 2 rfl ?_ | refine picks_cons 3 rfl ?_ | refine picks_cons 4 rfl ?_ | refine picks_cons 5 rfl ?_ | refine picks_cons 6 rfl ?_))) ?_
                      · exact (es_cons (t := 12) (by exact OT.tmp rfl) es_nil)
                      · rintro ⟨k, d5⟩ ⟨hk, hs5, hsu⟩
                        dsimp only at hk hs5 hsu ⊢
                        have hl5 : d5.toList.length = d5.size := Array.length_toList
                        refine tr_seq ?_
                        refine tr_seq ?_
                        -- region 20
                        refine tr_env (es_cons (t := 0) (OT.tmp rfl) (es_cons (t := 1) (OT.tmp rfl) (es_cons (t := 2) (OT.tmp rfl) (es_cons (t := 3) (OT.tmp rfl) (es_cons (t := 9) (OT.tmp rfl) (es_cons (t := 10) (OT.tmp rfl) (es_cons (t := 12) (OT.tmp rfl) es_nil))))))) ?_
                        refine tr_region ?_
                        refine op_pure (pu_move (OT.tmp rfl)) rfl rfl ?_
                        refine op_pure (pu_move (OT.tmp rfl)) rfl rfl ?_
                        refine op_pure (pu_lss (OT.tmp rfl) (OT.tmp rfl)) rfl rfl ?_
                        refine tr_nil ?_
                        refine then_normal ?_
                        refine tr_cond (OT.tmp rfl) (fun c109 => ?_) (fun c109 => ?_)
                        · try simp only [decide_eq_true_eq, decide_eq_false_iff_not, Bool.or_eq_true, Bool.and_eq_true, Bool.or_eq_false_iff, Bool.and_eq_false_iff, Bool.not_eq_true', Bool.not_eq_false', ne_eq, Classical.not_not] at c109
                          refine tr_skip ?_
                          refine then_normal ?_
                          refine tr_seq ?_
                          refine tr_block ?_
                          refine tr_seq ?_
                          refine tr_seq ?_
                          -- region 22
                          refine tr_env (es_cons (t := 0) (OT.tmp rfl) (es_cons (t := 1) (OT.tmp rfl) (es_cons (t := 2) (OT.tmp rfl) (es_cons (t := 3) (OT.tmp rfl) (es_cons (t := 9) (OT.tmp rfl) (es_cons (t := 10) (OT.tmp rfl) (es_cons (t := 12) (OT.tmp rfl) es_nil))))))) ?_
                          apply tr_any (m := 10) (ns := [[(3, none)], [(0, none)], [(12, none)], [(113, some 1), (114, some 2)], [(115, some 3)], [(0, none)], [(12, none)], [(118, some 6)], [(117, some 5), (119, some 7)], [(120, some 8)]]) (by kernel_rfl) (by kernel_rfl) (Ts := [_, _, _, _, _, _, _, _, _, _]) rfl
                          case hops =>
                            refine ⟨?_, ⟨?_, ⟨?_, ⟨?_, ⟨?_, ⟨?_, ⟨?_, ⟨?_, ⟨?_, ⟨?_, trivial⟩⟩⟩⟩⟩⟩⟩⟩⟩⟩
                            · exact rop_pure rfl (pu_move (OT.tmp rfl))
                            · exact rop_pure rfl (pu_move (OT.tmp rfl))
                            · exact rop_pure rfl (pu_move (OT.tmp rfl))
                            · exact rop_pure rfl (pu_index_own (OT.tmp rfl) (by exact mem_at 0 rfl) (OT.tmp rfl) Try.underlying35 (show tyOk Try.prog 45 false 1 = true from by decide +kernel) (by omega) (by omega))
                            · exact rop_pure rfl (pu_load_own0 (OT.tmp rfl) (by exact mem_at 0 rfl) (by omega) (by omega) (show tyOk Try.prog 45 false 1 = true from by decide +kernel))
                            · exact rop_pure rfl (pu_move (OT.tmp rfl))
                            · exact rop_pure rfl (pu_move (OT.tmp rfl))
                            · exact rop_pure rfl (pu_sub' (OT.tmp rfl) OT.const (by omega))
                            · exact rop_pure rfl (pu_index_own (OT.tmp rfl) (by exact mem_at 0 rfl) (OT.tmp rfl) Try.underlying35 (show tyOk Try.prog 45 false 1 = true from by decide +kernel) (by omega) (by omega))
                            · exact rop_pure rfl (pu_load_own0 (OT.tmp rfl) (by exact mem_at 0 rfl) (by omega) (by omega) (show tyOk Try.prog 45 false 1 = true from by decide +kernel))
                          case h =>
                            refine op_acts (acts_callv (OT.tmp rfl) (hfv _ _) (OTs.cons (OT.tmp rfl) (OTs.cons (OT.tmp rfl) OTs.nil)) (List.Perm.refl _)) (List.Perm.refl _) rfl rfl (fun _ _ => ?_)
                            refine op_pure (pu_lss (OT.tmp rfl) OT.const) rfl rfl ?_
                            refine op_pure (pu_not (OT.tmp rfl)) rfl rfl ?_
                            refine tr_nil ?_
                            refine then_normal ?_
                            refine tr_cond (OT.tmp rfl) (fun c124 => ?_) (fun c124 => ?_)
                            · try simp only [decide_eq_true_eq, decide_eq_false_iff_not, Bool.or_eq_true, Bool.and_eq_true, Bool.or_eq_false_iff, Bool.and_eq_false_iff, Bool.not_eq_true', Bool.not_eq_false', ne_eq, Classical.not_not] at c124
                              have hd6 := hsu.symm.trans (su_end (c := c) (d := d5) (b := b) (j := k) (fun h => by rw [ltc_at (by omega) (by omega), show ((k - 1 : Nat) : Int) = (k : Int) - 1 from by omega]; simpa using c124))
                              rw [hd6] at hon
                              refine tr_exit ?_
                              refine then_exit ?_
                              refine block_pass rfl ?_
                              refine then_exit ?_
                              refine then_exit ?_
                              refine block_hit ?_
                              refine block_normal ?_
                              refine then_normal ?_
                              -- region 4
                              refine tr_env (es_cons (t := 0) (OT.tmp rfl) (es_cons (t := 1) (OT.tmp rfl) (es_cons (t := 2) (OT.tmp rfl) (es_cons (t := 3) (OT.tmp rfl) (es_cons (t := 9) (OT.tmp rfl) (es_cons (t := 10) (OT.tmp rfl) es_nil)))))) ?_
                              refine tr_region ?_
                              refine op_pure (pu_move (OT.tmp rfl)) rfl rfl ?_
                              refine op_pure (pu_add' (OT.tmp rfl) OT.const (by omega)) rfl rfl ?_
                              refine op_pure (pu_assign (OT.tmp rfl)) rfl rfl ?_
                              refine tr_nil ?_
                              refine then_normal ?_
                              exact tr_again (s, i2, d5) ⟨by show s ≤ 5; omega, by show a + 1 ≤ i2; omega, by show i2 ≤ b; omega, hs5, hon.symm⟩ (by omega) (es_append (es_cons (t := 10) (by exact OT.val (OT.tmp rfl) (congrArg (Value.int _) (by omega))) (es_cons (t := 9) (by exact OT.tmp rfl) es_nil)) (es_cons (t := 0) (OT.tmp rfl) (es_cons (t := 1) (OT.tmp rfl) (es_cons (t := 2) (OT.tmp rfl) (es_cons (t := 3) (OT.tmp rfl) es_nil))))) (own_picks (by repeat (first | exact picks_nil | refine picks_cons 0 rfl ?_ | refine picks_cons 1 rfl ?_ | refine picks_cons 2 rfl ?_ | refine picks_cons 3 rfl ?_ | refine picks_cons 4 rfl ?_ | refine picks_cons 5 rfl ?_ | refine picks_cons 6 rfl ?_)))
                            · try simp only [decide_eq_true_eq, decide_eq_false_iff_not, Bool.or_eq_true, Bool.and_eq_true, Bool.or_eq_false_iff, Bool.and_eq_false_iff, Bool.not_eq_true', Bool.not_eq_false', ne_eq, Classical.not_not] at c124
                              have hnx := (su_step (c := c) (d := d5) (b := b) (j := k) (by omega) (by rw [ltc_at (by omega) (by omega), show ((k - 1 : Nat) : Int) = (k : Int) - 1 from by omega]; simpa using c124)).symm.trans hsu
                              refine tr_skip ?_
                              refine then_normal ?_
                              -- region 23
                              refine tr_env (es_cons (t := 0) (OT.tmp rfl) (es_cons (t := 1) (OT.tmp rfl) (es_cons (t := 2) (OT.tmp rfl) (es_cons (t := 3) (OT.tmp rfl) (es_cons (t := 9) (OT.tmp rfl) (es_cons (t := 10) (OT.tmp rfl) (es_cons (t := 12) (OT.tmp rfl) es_nil))))))) ?_
                              apply tr_anyW (p := 15) (Lf := fun c => cond c ([OwnI 45 (kG Z) v (d5.toList.set (k : Int).toNat (at' d5.toList ((k : Int) - 1)))]) ([OwnI 45 (kG Z) v d5.toList])) (by kernel_rfl) (m := 16) (ns := [[(0, none)], [(12, none)], [(0, none)], [(12, none)], [(128, some 3)], [(0, none)], [(12, none)], [(131, some 6)], [(130, some 5), (132, some 7)], [(133, some 8)], [(0, none)], [(12, none)], [(135, some 10), (136, some 11)], [(137, some 12)], [(125, some 0), (126, some 1)], [(134, some 9), (139, some 14)]]) (by kernel_rfl) (by kernel_rfl) (Ts := [_, _, _, _, _, _, _, _, _, _, _, _, _, _, _, _]) rfl
                              case hops =>
                                refine ⟨?_, ⟨?_, ⟨?_, ⟨?_, ⟨?_, ⟨?_, ⟨?_, ⟨?_, ⟨?_, ⟨?_, ⟨?_, ⟨?_, ⟨?_, ⟨?_, ⟨?_, ⟨?_, trivial⟩⟩⟩⟩⟩⟩⟩⟩⟩⟩⟩⟩⟩⟩⟩⟩
                                · intro c hc; cases c
                                  · exact ropw_of (rop_pure rfl (pu_move (OT.tmp rfl)))
                                  · exact Bool.noConfusion (hc.symm.trans (by kernel_rfl : okFlag _ _ _ _ = false))
                                · intro c hc; cases c
                                  · exact ropw_of (rop_pure rfl (pu_move (OT.tmp rfl)))
                                  · exact Bool.noConfusion (hc.symm.trans (by kernel_rfl : okFlag _ _ _ _ = false))
                                · intro c hc; cases c
                                  · exact ropw_of (rop_pure rfl (pu_move (OT.tmp rfl)))
                                  · exact ropw_of (rop_pure rfl (pu_move (OT.tmp rfl)))
                                · intro c hc; cases c
                                  · exact ropw_of (rop_pure rfl (pu_move (OT.tmp rfl)))
                                  · exact ropw_of (rop_pure rfl (pu_move (OT.tmp rfl)))
                                · intro c hc; cases c
                                  · exact ropw_of (rop_pure rfl (pu_sub' (OT.tmp rfl) OT.const (by omega)))
                                  · exact ropw_of (rop_pure rfl (pu_sub' (OT.tmp rfl) OT.const (by omega)))
                                · intro c hc; cases c
                                  · exact ropw_of (rop_pure rfl (pu_move (OT.tmp rfl)))
                                  · exact Bool.noConfusion (hc.symm.trans (by kernel_rfl : okFlag _ _ _ _ = false))
                                · intro c hc; cases c
                                  · exact ropw_of (rop_pure rfl (pu_move (OT.tmp rfl)))
                                  · exact Bool.noConfusion (hc.symm.trans (by kernel_rfl : okFlag _ _ _ _ = false))
                                · intro c hc; cases c
                                  · exact ropw_of (rop_pure rfl (pu_sub' (OT.tmp rfl) OT.const (by omega)))
                                  · exact Bool.noConfusion (hc.symm.trans (by kernel_rfl : okFlag _ _ _ _ = false))
                                · intro c hc; cases c
                                  · exact ropw_of (rop_pure rfl (pu_index_own (OT.tmp rfl) (by exact mem_at 0 rfl) (OT.tmp rfl) Try.underlying35 (show tyOk Try.prog 45 false 1 = true from by decide +kernel) (by omega) (by omega)))
                                  · exact Bool.noConfusion (hc.symm.trans (by kernel_rfl : okFlag _ _ _ _ = false))
                                · intro c hc; cases c
                                  · exact ropw_of (rop_pure rfl (pu_load_own0 (OT.tmp rfl) (by exact mem_at 0 rfl) (by omega) (by omega) (show tyOk Try.prog 45 false 1 = true from by decide +kernel)))
                                  · exact Bool.noConfusion (hc.symm.trans (by kernel_rfl : okFlag _ _ _ _ = false))
                                · intro c hc; cases c
                                  · exact ropw_of (rop_pure rfl (pu_move (OT.tmp rfl)))
                                  · exact Bool.noConfusion (hc.symm.trans (by kernel_rfl : okFlag _ _ _ _ = false))
                                · intro c hc; cases c
                                  · exact ropw_of (rop_pure rfl (pu_move (OT.tmp rfl)))
                                  · exact Bool.noConfusion (hc.symm.trans (by kernel_rfl : okFlag _ _ _ _ = false))
                                · intro c hc; cases c
                                  · exact ropw_of (rop_pure rfl (pu_index_own (OT.tmp rfl) (by exact mem_at 0 rfl) (OT.tmp rfl) Try.underlying35 (show tyOk Try.prog 45 false 1 = true from by decide +kernel) (by omega) (by omega)))
                                  · exact Bool.noConfusion (hc.symm.trans (by kernel_rfl : okFlag _ _ _ _ = false))
                                · intro c hc; cases c
                                  · exact ropw_of (rop_pure rfl (pu_load_own0 (OT.tmp rfl) (by exact mem_at 0 rfl) (by omega) (by omega) (show tyOk Try.prog 45 false 1 = true from by decide +kernel)))
                                  · exact Bool.noConfusion (hc.symm.trans (by kernel_rfl : okFlag _ _ _ _ = false))
                                · intro c hc; cases c
                                  · exact ropw_of (rop_pure rfl (pu_index_own (OT.tmp rfl) (by exact mem_at 0 rfl) (OT.tmp rfl) Try.underlying35 (show tyOk Try.prog 45 false 1 = true from by decide +kernel) (by omega) (by omega)))
                                  · exact Bool.noConfusion (hc.symm.trans (by kernel_rfl : okFlag _ _ _ _ = false))
                                · intro c hc; cases c
                                  · exact ropw_acts rfl (acts_store_own0 (OT.tmp rfl) (OT.tmp rfl) (by exact perm_at 0 rfl) (by omega) (by omega) (show tyOk Try.prog 45 false 1 = true from by decide +kernel)) (by exact perm_at 0 rfl) (fun _ => (by exact perm_at 0 rfl)) (fun _ _ _ _ h => h)
                                  · exact Bool.noConfusion (hc.symm.trans (by kernel_rfl : okFlag _ _ _ _ = false))
                              case h =>
                                refine op_pure (pu_index_own (OT.tmp rfl) (by exact mem_at 0 rfl) (OT.tmp rfl) Try.underlying35 (show tyOk Try.prog 45 false 1 = true from by decide +kernel) (by omega) (by (simp; omega))) rfl rfl ?_
                                refine op_acts (acts_store_own0 (OT.tmp rfl) (OT.tmp rfl) (by exact perm_at 0 rfl) (by omega) (by (simp; omega)) (show tyOk Try.prog 45 false 1 = true from by decide +kernel)) (by exact perm_at 0 rfl) rfl rfl (fun _ _ => ?_)
                                refine tr_nil ?_
                                refine block_normal ?_
                                refine then_normal ?_
                                -- region 21
                                refine tr_env (es_cons (t := 0) (OT.tmp rfl) (es_cons (t := 1) (OT.tmp rfl) (es_cons (t := 2) (OT.tmp rfl) (es_cons (t := 3) (OT.tmp rfl) (es_cons (t := 9) (OT.tmp rfl) (es_cons (t := 10) (OT.tmp rfl) (es_cons (t := 12) (OT.tmp rfl) es_nil))))))) ?_
                                rw [sw1 (by omega) (by omega)]
                                refine tr_region ?_
                                refine op_pure (pu_move (OT.tmp rfl)) rfl rfl ?_
                                refine op_pure (pu_add' (OT.tmp rfl) OT.const (by omega)) rfl rfl ?_
                                refine op_pure (pu_assign (OT.tmp rfl)) rfl rfl ?_
                                refine tr_nil ?_
                                refine then_normal ?_
                                exact tr_again (k + 1, Sort.swp d5 k (k - 1)) ⟨by show i2 + 1 ≤ k + 1; omega, swp_size.trans hs5, hnx⟩ (by show b - (k + 1) < b - k; omega) (es_append (es_cons (t := 12) (by exact OT.tmp rfl) es_nil) (es_cons (t := 0) (OT.tmp rfl) (es_cons (t := 1) (OT.tmp rfl) (es_cons (t := 2) (OT.tmp rfl) (es_cons (t := 3) (OT.tmp rfl) (es_cons (t := 9) (OT.tmp rfl) (es_cons (t := 10) (OT.tmp rfl) es_nil))))))) (own_picks (by repeat (first | exact picks_nil | refine picks_cons 0 rfl ?_ | refine picks_cons 1 rfl ?_ | refine picks_cons 2 rfl ?_ | refine picks_cons 3 rfl ?_ | refine picks_cons 4 rfl ?_ | refine picks_cons 5 rfl ?_ | refine picks_cons 6 rfl ?_)))
                        · try simp only [decide_eq_true_eq, decide_eq_false_iff_not, Bool.or_eq_true, Bool.and_eq_true, Bool.or_eq_false_iff, Bool.and_eq_false_iff, Bool.not_eq_true', Bool.not_eq_false', ne_eq, Classical.not_not] at c109
                          have hd6 := hsu.symm.trans (su_end (c := c) (d := d5) (b := b) (j := k) (fun h => by omega))
                          rw [hd6] at hon
                          refine tr_exit ?_
                          refine then_exit ?_
                          refine then_exit ?_
                          refine block_hit ?_
                          refine block_normal ?_
                          refine then_normal ?_
                          -- region 4
                          refine tr_env (es_cons (t := 0) (OT.tmp rfl) (es_cons (t := 1) (OT.tmp rfl) (es_cons (t := 2) (OT.tmp rfl) (es_cons (t := 3) (OT.tmp rfl) (es_cons (t := 9) (OT.tmp rfl) (es_cons (t := 10) (OT.tmp rfl) es_nil)))))) ?_
                          refine tr_region ?_
                          refine op_pure (pu_move (OT.tmp rfl)) rfl rfl ?_
                          refine op_pure (pu_add' (OT.tmp rfl) OT.const (by omega)) rfl rfl ?_
                          refine op_pure (pu_assign (OT.tmp rfl)) rfl rfl ?_
                          refine tr_nil ?_
                          refine then_normal ?_
                          exact tr_again (s, i2, d5) ⟨by show s ≤ 5; omega, by show a + 1 ≤ i2; omega, by show i2 ≤ b; omega, hs5, hon.symm⟩ (by omega) (es_append (es_cons (t := 10) (by exact OT.val (OT.tmp rfl) (congrArg (Value.int _) (by omega))) (es_cons (t := 9) (by exact OT.tmp rfl) es_nil)) (es_cons (t := 0) (OT.tmp rfl) (es_cons (t := 1) (OT.tmp rfl) (es_cons (t := 2) (OT.tmp rfl) (es_cons (t := 3) (OT.tmp rfl) es_nil))))) (own_picks (by repeat (first | exact picks_nil | refine picks_cons 0 rfl ?_ | refine picks_cons 1 rfl ?_ | refine picks_cons 2 rfl ?_ | refine picks_cons 3 rfl ?_ | refine picks_cons 4 rfl ?_ | refine picks_cons 5 rfl ?_ | refine picks_cons 6 rfl ?_)))
                    · try simp only [decide_eq_true_eq, decide_eq_false_iff_not, Bool.or_eq_true, Bool.and_eq_true, Bool.or_eq_false_iff, Bool.and_eq_false_iff, Bool.not_eq_true', Bool.not_eq_false', ne_eq, Classical.not_not] at c104
                      rw [if_neg (by omega : ¬ b - i2 ≥ 2)] at hon
                      refine tr_skip ?_
                      refine block_normal ?_
                      refine then_normal ?_
                      -- region 4
                      refine tr_env (es_cons (t := 0) (OT.tmp rfl) (es_cons (t := 1) (OT.tmp rfl) (es_cons (t := 2) (OT.tmp rfl) (es_cons (t := 3) (OT.tmp rfl) (es_cons (t := 9) (OT.tmp rfl) (es_cons (t := 10) (OT.tmp rfl) es_nil)))))) ?_
                      refine tr_region ?_
                      refine op_pure (pu_move (OT.tmp rfl)) rfl rfl ?_
                      refine op_pure (pu_add' (OT.tmp rfl) OT.const (by omega)) rfl rfl ?_
                      refine op_pure (pu_assign (OT.tmp rfl)) rfl rfl ?_
                      refine tr_nil ?_
                      refine then_normal ?_
                      exact tr_again (s, i2, (Sort.swp d1 i2 (i2 - 1))) ⟨by show s ≤ 5; omega, by show a + 1 ≤ i2; omega, by show i2 ≤ b; omega, hs2, hon.symm⟩ (by omega) (es_append (es_cons (t := 10) (by exact OT.val (OT.tmp rfl) (congrArg (Value.int _) (by omega))) (es_cons (t := 9) (by exact OT.tmp rfl) es_nil)) (es_cons (t := 0) (OT.tmp rfl) (es_cons (t := 1) (OT.tmp rfl) (es_cons (t := 2) (OT.tmp rfl) (es_cons (t := 3) (OT.tmp rfl) es_nil))))) (own_picks (by repeat (first | exact picks_nil | refine picks_cons 0 rfl ?_ | refine picks_cons 1 rfl ?_ | refine picks_cons 2 rfl ?_ | refine picks_cons 3 rfl ?_ | refine picks_cons 4 rfl ?_ | refine picks_cons 5 rfl ?_ | refine picks_cons 6 rfl ?_)))
    · try simp only [decide_eq_true_eq, decide_eq_false_iff_not, Bool.or_eq_true, Bool.and_eq_true, Bool.or_eq_false_iff, Bool.and_eq_false_iff, Bool.not_eq_true', Bool.not_eq_false', ne_eq, Classical.not_not] at c16
      obtain rfl : s0 = 0 := by omega
      have hres := hr.symm.trans pi_zero
      refine tr_exit ?_
      refine then_exit ?_
      refine then_exit ?_
      refine block_hit ?_
      refine then_normal ?_
      refine tr_seq ?_
      -- region 24
      refine tr_env es_nil ?_
      refine tr_region ?_
      refine op_pure (pu_assign OT.const) rfl rfl ?_
      refine tr_nil ?_
      refine then_normal ?_
      refine tr_ret ?_
      exact ret_one .ret (.inl rfl) rfl () (OT.val (OT.tmp rfl) (congrArg Value.bool (by rw [hres]))) trivial (by rw [hres]; exact picks_cons 0 rfl picks_nil)
end Go.Proofs.Ytakkjljhjfkkbaa
