/- Walks through the Go functions api.Tuple], api.Tuple], api.Tuple], api.Tuple], as typed contracts. -/
import Derived.Test.YtloblpklkhepbaaProg
import Derived.Test.YtloblpklkhepbaaSoA
namespace Go.Proofs.Ytloblpklkhepbaa
open Go Go.Gw Go.So
set_option linter.unusedVariables false
set_option linter.unusedSimpArgs false
variable {K0 : FH} {n0 : Nat}

set_option maxHeartbeats 1000000 in
set_option maxRecDepth 20000 in
/-- slices.insertionSortCmpFunc[rhizome/api.Tuple] -/
theorem ins_fn (v fv : Value) (d : DA) (a b : Nat) (c : List Int → List Int → Int) (hm : d.size < 4611686018427387904) (hab : a ≤ b) (hb : b ≤ d.size) (hfv : ∀ x y, CtV Try.prog fv [(kF K0 n0).T x, (kF K0 n0).T y] [] Unit (fun _ => I64 (c x y)) (fun _ => []) (fun _ => True)) : Ct Try.prog 80 [IsV v, I64 (a : Int), I64 (b : Int), IsV fv] ([OwnI 38 (kF K0 n0) v d.toList]) Unit (fun _ => AnyT) (fun _ => [OwnI 38 (kF K0 n0) v (Sort.insertionSort (ltc c) d a b).toList]) (fun _ => True) := by
  refine fn_intro Try.func80 rfl rfl ?_
  intro H w
  refine tr_seq ?_
  -- region 0
  refine tr_env (es_cons (t := 0) (OT.tmp rfl) (es_cons (t := 1) (OT.tmp rfl) (es_cons (t := 2) (OT.tmp rfl) (es_cons (t := 3) (OT.tmp rfl) es_nil)))) ?_
  refine tr_region ?_
  refine op_pure (pu_move (OT.tmp rfl)) rfl rfl ?_
  refine op_pure (pu_add' (OT.tmp rfl) OT.const (by omega)) rfl rfl ?_
  refine op_pure (pu_assign (OT.tmp rfl)) rfl rfl ?_
  refine tr_nil ?_
  refine then_normal ?_
  refine tr_block ?_
  refine tr_loopK (σ := Nat × DA) (es_cons (t := 0) (OT.tmp rfl) (es_cons (t := 1) (OT.tmp rfl) (es_cons (t := 2) (OT.tmp rfl) (es_cons (t := 3) (OT.tmp rfl) es_nil)))) (fun s => [(8, I64 (s.1 : Int))]) (fun s => [OwnI 38 (kF K0 n0) v s.2.toList]) (fun s => a + 1 ≤ s.1 ∧ s.2.size = d.size ∧ Sort.insOuter (ltc c) a b s.1 s.2 = Sort.insertionSort (ltc c) d a b) (fun s => b - s.1) (a + 1, d) ⟨by simp, rfl, rfl⟩ ?_ (own_picks (by repeat (first | exact picks_nil | refine picks_cons 0 rfl ?_ | refine picks_cons 1 rfl ?_ | refine picks_cons 2 rfl ?_ | refine picks_cons 3 rfl ?_ | refine picks_cons 4 rfl ?_ | refine picks_cons 5 rfl ?_ | refine picks_cons 6 rfl ?_))) ?_
  · exact (es_cons (t := 8) (by exact OT.tmp rfl) es_nil)
  · rintro ⟨i, d1⟩ ⟨hi0, hs1, hi⟩
    dsimp only at hi0 hs1 hi ⊢
    refine tr_seq ?_
    refine tr_seq ?_
    -- region 1
    refine tr_env (es_cons (t := 0) (OT.tmp rfl) (es_cons (t := 1) (OT.tmp rfl) (es_cons (t := 2) (OT.tmp rfl) (es_cons (t := 3) (OT.tmp rfl) (es_cons (t := 8) (OT.tmp rfl) es_nil))))) ?_
    refine tr_region ?_
    refine op_pure (pu_move (OT.tmp rfl)) rfl rfl ?_
    refine op_pure (pu_move (OT.tmp rfl)) rfl rfl ?_
    refine op_pure (pu_lss (OT.tmp rfl) (OT.tmp rfl)) rfl rfl ?_
    refine tr_nil ?_
    refine then_normal ?_
    refine tr_cond (OT.tmp rfl) (fun c14 => ?_) (fun c14 => ?_)
    · try simp only [decide_eq_true_eq, decide_eq_false_iff_not, Bool.or_eq_true, Bool.and_eq_true, Bool.or_eq_false_iff, Bool.and_eq_false_iff, Bool.not_eq_true', Bool.not_eq_false', ne_eq, Classical.not_not] at c14
      refine tr_skip ?_
      refine then_normal ?_
      refine tr_seq ?_
      refine tr_block ?_
      refine tr_seq ?_
      -- region 3
      refine tr_env (es_cons (t := 0) (OT.tmp rfl) (es_cons (t := 1) (OT.tmp rfl) (es_cons (t := 2) (OT.tmp rfl) (es_cons (t := 3) (OT.tmp rfl) (es_cons (t := 8) (OT.tmp rfl) es_nil))))) ?_
      refine tr_region ?_
      refine op_pure (pu_move (OT.tmp rfl)) rfl rfl ?_
      refine op_pure (pu_assign (OT.tmp rfl)) rfl rfl ?_
      refine tr_nil ?_
      refine then_normal ?_
      refine tr_block ?_
      refine tr_loopK (σ := Nat × DA) (es_cons (t := 0) (OT.tmp rfl) (es_cons (t := 1) (OT.tmp rfl) (es_cons (t := 2) (OT.tmp rfl) (es_cons (t := 3) (OT.tmp rfl) (es_cons (t := 8) (OT.tmp rfl) es_nil))))) (fun s => [(9, I64 (s.1 : Int))]) (fun s => [OwnI 38 (kF K0 n0) v s.2.toList]) (fun s => a ≤ s.1 ∧ s.1 ≤ i ∧ s.2.size = d.size ∧ Sort.insInner (ltc c) a s.1 s.2 = Sort.insInner (ltc c) a i d1) (fun s => s.1) (i, d1) ⟨by omega, by simp, hs1, rfl⟩ ?_ (own_picks (by repeat (first | exact picks_nil | refine picks_cons 0 rfl ?_ | refine picks_cons 1 rfl ?_ | refine picks_cons 2 rfl ?_ | refine picks_cons 3 rfl ?_ | refine picks_cons 4 rfl ?_ | refine picks_cons 5 rfl ?_ | refine picks_cons 6 rfl ?_))) ?_
      · exact (es_cons (t := 9) (by exact OT.tmp rfl) es_nil)
      · rintro ⟨j, d2⟩ ⟨hj0, hj1, hs2, hj⟩
        dsimp only at hj0 hj1 hs2 hj ⊢
        have hl2 : d2.toList.length = d2.size := Array.length_toList
        refine tr_seq ?_
        refine tr_seq ?_
        -- region 4
        refine tr_env (es_cons (t := 0) (OT.tmp rfl) (es_cons (t := 1) (OT.tmp rfl) (es_cons (t := 2) (OT.tmp rfl) (es_cons (t := 3) (OT.tmp rfl) (es_cons (t := 8) (OT.tmp rfl) (es_cons (t := 9) (OT.tmp rfl) es_nil)))))) ?_
        have hlt1 : i < d2.size := by omega
        apply tr_any (m := 14) (ns := [[(9, none)], [(1, none)], [(18, some 0), (19, some 1)], [(20, some 2)], [(3, none), (21, some 3)], [(0, none), (21, some 3)], [(9, none), (21, some 3)], [(21, some 3), (23, some 5), (24, some 6)], [(21, some 3), (25, some 7)], [(0, none), (21, some 3)], [(9, none), (21, some 3)], [(21, some 3), (28, some 10)], [(21, some 3), (27, some 9), (29, some 11)], [(21, some 3), (30, some 12)]]) (by kernel_rfl) (by kernel_rfl) (Ts := [_, _, _, _, _, _, _, _, _, _, _, _, _, _]) rfl
        case hops =>
          refine ⟨?_, ⟨?_, ⟨?_, ⟨?_, ⟨?_, ⟨?_, ⟨?_, ⟨?_, ⟨?_, ⟨?_, ⟨?_, ⟨?_, ⟨?_, ⟨?_, trivial⟩⟩⟩⟩⟩⟩⟩⟩⟩⟩⟩⟩⟩⟩
          · exact rop_pure rfl (pu_move (OT.tmp rfl))
          · exact rop_pure rfl (pu_move (OT.tmp rfl))
          · exact rop_pure rfl (pu_gtr (OT.tmp rfl) (OT.tmp rfl))
          · exact rop_pure rfl (pu_move (OT.tmp rfl))
          · exact rop_gu rfl rfl rfl (OT.gu_mk (OT.tmp rfl)) (fun hg => by (have hg1 := hg.2; exact rop_pure rfl (pu_move (by exact OT.tmp rfl))))
          · exact rop_gu rfl rfl rfl (OT.gu_mk (OT.tmp rfl)) (fun hg => by (have hg1 := hg.2; exact rop_pure rfl (pu_move (by exact OT.tmp rfl))))
          · exact rop_gu rfl rfl rfl (OT.gu_mk (OT.tmp rfl)) (fun hg => by (have hg1 := hg.2; exact rop_pure rfl (pu_move (by exact OT.tmp rfl))))
          · exact rop_gu rfl rfl rfl (OT.gu_mk (OT.tmp rfl)) (fun hg => by (have hg1 := hg.2; exact rop_pure rfl (pu_index_own (by exact OT.gu (OT.tmp rfl) hg) (by exact mem_at 0 rfl) (by exact OT.gu (OT.tmp rfl) hg) Try.underlying40 (show tyOk Try.prog 38 false 1 = true from by decide +kernel) (by omega) (by omega))))
          · exact rop_gu rfl rfl rfl (OT.gu_mk (OT.tmp rfl)) (fun hg => by (have hg1 := hg.2; exact rop_pure rfl (pu_load_own0 (by exact OT.gu (OT.tmp rfl) hg) (by exact mem_at 0 rfl) (by omega) (by omega) (show tyOk Try.prog 38 false 1 = true from by decide +kernel))))
          · exact rop_gu rfl rfl rfl (OT.gu_mk (OT.tmp rfl)) (fun hg => by (have hg1 := hg.2; exact rop_pure rfl (pu_move (by exact OT.tmp rfl))))
          · exact rop_gu rfl rfl rfl (OT.gu_mk (OT.tmp rfl)) (fun hg => by (have hg1 := hg.2; exact rop_pure rfl (pu_move (by exact OT.tmp rfl))))
          · exact rop_gu rfl rfl rfl (OT.gu_mk (OT.tmp rfl)) (fun hg => by (have hg1 := hg.2; exact rop_pure rfl (pu_sub' (by exact OT.gu (OT.tmp rfl) hg) OT.const (by omega))))
          · exact rop_gu rfl rfl rfl (OT.gu_mk (OT.tmp rfl)) (fun hg => by (have hg1 := hg.2; exact rop_pure rfl (pu_index_own (by exact OT.gu (OT.tmp rfl) hg) (by exact mem_at 0 rfl) (by exact OT.gu (OT.tmp rfl) hg) Try.underlying40 (show tyOk Try.prog 38 false 1 = true from by decide +kernel) (by (simp [maxLen] at *; omega)) (by omega))))
          · exact rop_gu rfl rfl rfl (OT.gu_mk (OT.tmp rfl)) (fun hg => by (have hg1 := hg.2; exact rop_pure rfl (pu_load_own0 (by exact OT.gu (OT.tmp rfl) hg) (by exact mem_at 0 rfl) (by (simp [maxLen] at *; omega)) (by omega) (show tyOk Try.prog 38 false 1 = true from by decide +kernel))))
        case h =>
          refine op_gu_acts () rfl rfl rfl (OT.gu_mk (OT.tmp rfl)) (fun hg => by (have hg1 := hg.2; (try simp only [decide_eq_true_eq, decide_eq_false_iff_not] at hg1); exact acts_callv (by exact OT.gu (OT.tmp rfl) hg) (hfv _ _) (OTs.cons (by exact OT.gu (OT.tmp rfl) hg) (OTs.cons (by exact OT.gu (OT.tmp rfl) hg) OTs.nil)) (List.Perm.refl _))) rfl (fun _ _ => ?_)
          refine op_gu rfl rfl rfl (OT.gu_mk (OT.tmp rfl)) (fun hg => by (have hg1 := hg.2; (try simp only [decide_eq_true_eq, decide_eq_false_iff_not] at hg1); exact pu_lss (by exact OT.gu (OT.tmp rfl) hg) OT.const)) rfl ?_
          refine op_pure (pu_pick_and (OT.tmp rfl) (by exact OT.tmp rfl)) rfl rfl ?_
          refine tr_nil ?_
          refine then_normal ?_
          refine tr_cond (OT.tmp rfl) (fun c34 => ?_) (fun c34 => ?_)
          · try simp only [decide_eq_true_eq, decide_eq_false_iff_not, Bool.or_eq_true, Bool.and_eq_true, Bool.or_eq_false_iff, Bool.and_eq_false_iff, Bool.not_eq_true', Bool.not_eq_false', ne_eq, Classical.not_not] at c34
            obtain ⟨hc1, hc2⟩ := c34
            have hj1' : ((j : Int) - 1) = ((j - 1 : Nat) : Int) := by omega
            have hgo : Sort.insInner (ltc c) a (j - 1) (Sort.swp d2 j (j - 1)) = Sort.insInner (ltc c) a i d1 := (insIn_step (c := c) (d := d2) (a := a) (j := j) (by omega) (by rw [ltc_at (by omega) (by omega), ← hj1']; simpa using hc2)).symm.trans hj
            have hsw : (Sort.swp d2 j (j - 1)).toList = (d2.toList.set (j : Int).toNat (at' d2.toList ((j : Int) - 1))).set ((j : Int) - 1).toNat (at' d2.toList (j : Int)) := by rw [swp_items (by omega) (by omega) (by omega) (by omega)]; simp [hj1']
            refine tr_skip ?_
            refine then_normal ?_
            refine tr_seq ?_
            refine tr_block ?_
            -- region 6
            refine tr_env (es_cons (t := 0) (OT.tmp rfl) (es_cons (t := 1) (OT.tmp rfl) (es_cons (t := 2) (OT.tmp rfl) (es_cons (t := 3) (OT.tmp rfl) (es_cons (t := 8) (OT.tmp rfl) (es_cons (t := 9) (OT.tmp rfl) es_nil)))))) ?_
            apply tr_anyW (p := 15) (Lf := fun c => cond c ([OwnI 38 (kF K0 n0) v (d2.toList.set (j : Int).toNat (at' d2.toList ((j : Int) - 1)))]) ([OwnI 38 (kF K0 n0) v d2.toList])) (by kernel_rfl) (m := 16) (ns := [[(0, none)], [(9, none)], [(0, none)], [(9, none)], [(40, some 3)], [(0, none)], [(9, none)], [(43, some 6)], [(42, some 5), (44, some 7)], [(45, some 8)], [(0, none)], [(9, none)], [(47, some 10), (48, some 11)], [(49, some 12)], [(37, some 0), (38, some 1)], [(46, some 9), (51, some 14)]]) (by kernel_rfl) (by kernel_rfl) (Ts := [_, _, _, _, _, _, _, _, _, _, _, _, _, _, _, _]) rfl
            case hops =>
              refine ⟨?_, ⟨?_, ⟨?_, ⟨?_, ⟨?_, ⟨?_, ⟨?_, ⟨?_, ⟨?_, ⟨?_, ⟨?_, ⟨?_, ⟨?_, ⟨?_, ⟨?_, ⟨?_, trivial⟩⟩⟩⟩⟩⟩⟩⟩⟩⟩⟩⟩⟩⟩⟩⟩
              · intro c hc; cases c
                · exact ropw_of (rop_pure rfl (pu_move (OT.tmp rfl)))
                · exact Bool.noConfusion (hc.symm.trans (by kernel_rfl : okFlag _ _ _ _ = false))
              · intro c hc; cases c
                · exact ropw_of (rop_pure rfl (pu_move (OT.tmp rfl)))
                · exact Bool.noConfusion (hc.symm.trans (by kernel_rfl : okFlag _ _ _ _ = false))
              · intro c hc; cases c
                · exact ropw_of (rop_pure rfl (pu_move (OT.tmp rfl)))
                · exact ropw_of (rop_pure rfl (pu_move (OT.tmp rfl)))
              · intro c hc; cases c
                · exact ropw_of (rop_pure rfl (pu_move (OT.tmp rfl)))
                · exact ropw_of (rop_pure rfl (pu_move (OT.tmp rfl)))
              · intro c hc; cases c
                · exact ropw_of (rop_pure rfl (pu_sub' (OT.tmp rfl) OT.const (by omega)))
                · exact ropw_of (rop_pure rfl (pu_sub' (OT.tmp rfl) OT.const (by omega)))
              · intro c hc; cases c
                · exact ropw_of (rop_pure rfl (pu_move (OT.tmp rfl)))
                · exact Bool.noConfusion (hc.symm.trans (by kernel_rfl : okFlag _ _ _ _ = false))
              · intro c hc; cases c
                · exact ropw_of (rop_pure rfl (pu_move (OT.tmp rfl)))
                · exact Bool.noConfusion (hc.symm.trans (by kernel_rfl : okFlag _ _ _ _ = false))
              · intro c hc; cases c
                · exact ropw_of (rop_pure rfl (pu_sub' (OT.tmp rfl) OT.const (by omega)))
                · exact Bool.noConfusion (hc.symm.trans (by kernel_rfl : okFlag _ _ _ _ = false))
              · intro c hc; cases c
                · exact ropw_of (rop_pure rfl (pu_index_own (OT.tmp rfl) (by exact mem_at 0 rfl) (OT.tmp rfl) Try.underlying40 (show tyOk Try.prog 38 false 1 = true from by decide +kernel) (by omega) (by omega)))
                · exact Bool.noConfusion (hc.symm.trans (by kernel_rfl : okFlag _ _ _ _ = false))
              · intro c hc; cases c
                · exact ropw_of (rop_pure rfl (pu_load_own0 (OT.tmp rfl) (by exact mem_at 0 rfl) (by omega) (by omega) (show tyOk Try.prog 38 false 1 = true from by decide +kernel)))
                · exact Bool.noConfusion (hc.symm.trans (by kernel_rfl : okFlag _ _ _ _ = false))
              · intro c hc; cases c
                · exact ropw_of (rop_pure rfl (pu_move (OT.tmp rfl)))
                · exact Bool.noConfusion (hc.symm.trans (by kernel_rfl : okFlag _ _ _ _ = false))
              · intro c hc; cases c
                · exact ropw_of (rop_pure rfl (pu_move (OT.tmp rfl)))
                · exact Bool.noConfusion (hc.symm.trans (by kernel_rfl : okFlag _ _ _ _ = false))
              · intro c hc; cases c
                · exact ropw_of (rop_pure rfl (pu_index_own (OT.tmp rfl) (by exact mem_at 0 rfl) (OT.tmp rfl) Try.underlying40 (show tyOk Try.prog 38 false 1 = true from by decide +kernel) (by omega) (by omega)))
                · exact Bool.noConfusion (hc.symm.trans (by kernel_rfl : okFlag _ _ _ _ = false))
              · intro c hc; cases c
                · exact ropw_of (rop_pure rfl (pu_load_own0 (OT.tmp rfl) (by exact mem_at 0 rfl) (by omega) (by omega) (show tyOk Try.prog 38 false 1 = true from by decide +kernel)))
                · exact Bool.noConfusion (hc.symm.trans (by kernel_rfl : okFlag _ _ _ _ = false))
              · intro c hc; cases c
                · exact ropw_of (rop_pure rfl (pu_index_own (OT.tmp rfl) (by exact mem_at 0 rfl) (OT.tmp rfl) Try.underlying40 (show tyOk Try.prog 38 false 1 = true from by decide +kernel) (by omega) (by omega)))
                · exact Bool.noConfusion (hc.symm.trans (by kernel_rfl : okFlag _ _ _ _ = false))
              · intro c hc; cases c
                · exact ropw_acts rfl (acts_store_own0 (OT.tmp rfl) (OT.tmp rfl) (by exact perm_at 0 rfl) (by omega) (by omega) (show tyOk Try.prog 38 false 1 = true from by decide +kernel)) (by exact perm_at 0 rfl) (fun _ => (by exact perm_at 0 rfl)) (fun _ _ _ _ h => h)
                · exact Bool.noConfusion (hc.symm.trans (by kernel_rfl : okFlag _ _ _ _ = false))
            case h =>
              refine op_pure (pu_index_own (OT.tmp rfl) (by exact mem_at 0 rfl) (OT.tmp rfl) Try.underlying40 (show tyOk Try.prog 38 false 1 = true from by decide +kernel) (by omega) (by (simp; omega))) rfl rfl ?_
              refine op_acts (acts_store_own0 (OT.tmp rfl) (OT.tmp rfl) (by exact perm_at 0 rfl) (by omega) (by (simp; omega)) (show tyOk Try.prog 38 false 1 = true from by decide +kernel)) (by exact perm_at 0 rfl) rfl rfl (fun _ _ => ?_)
              refine tr_nil ?_
              refine block_normal ?_
              refine then_normal ?_
              -- region 5
              refine tr_env (es_cons (t := 0) (OT.tmp rfl) (es_cons (t := 1) (OT.tmp rfl) (es_cons (t := 2) (OT.tmp rfl) (es_cons (t := 3) (OT.tmp rfl) (es_cons (t := 8) (OT.tmp rfl) (es_cons (t := 9) (OT.tmp rfl) es_nil)))))) ?_
              refine tr_region ?_
              refine op_pure (pu_move (OT.tmp rfl)) rfl rfl ?_
              refine op_pure (pu_sub' (OT.tmp rfl) OT.const (by omega)) rfl rfl ?_
              refine op_pure (pu_assign (OT.tmp rfl)) rfl rfl ?_
              refine tr_nil ?_
              refine then_normal ?_
              exact tr_again (j - 1, Sort.swp d2 j (j - 1)) ⟨by show a ≤ j - 1; omega, by show j - 1 ≤ i; omega, swp_size.trans hs2, hgo⟩ (by omega) (es_append (es_cons (t := 9) (OT.val (OT.tmp rfl) (congrArg (Value.int _) (by omega))) es_nil) (es_cons (t := 0) (OT.tmp rfl) (es_cons (t := 1) (OT.tmp rfl) (es_cons (t := 2) (OT.tmp rfl) (es_cons (t := 3) (OT.tmp rfl) (es_cons (t := 8) (OT.tmp rfl) es_nil)))))) (own_picks (by rw [hsw]; exact (by repeat (first | exact picks_nil | refine picks_cons 0 rfl ?_ | refine picks_cons 1 rfl ?_ | refine picks_cons 2 rfl ?_ | refine picks_cons 3 rfl ?_ | refine picks_cons 4 rfl ?_ | refine picks_cons 5 rfl ?_ | refine picks_cons 6 rfl ?_))))
          · try simp only [decide_eq_true_eq, decide_eq_false_iff_not, Bool.or_eq_true, Bool.and_eq_true, Bool.or_eq_false_iff, Bool.and_eq_false_iff, Bool.not_eq_true', Bool.not_eq_false', ne_eq, Classical.not_not] at c34
            have hend : Sort.insInner (ltc c) a j d2 = d2 := insIn_stop (fun h => by rw [ltc_at (by omega) (by omega), show ((j - 1 : Nat) : Int) = (j : Int) - 1 from by omega]; rcases c34 with h9 | h9; omega; simpa using h9)
            have hnx : Sort.insOuter (ltc c) a b (i + 1) d2 = Sort.insertionSort (ltc c) d a b := by
              have h9 := insOut_step (c := c) (a := a) (d := d1) (i := i) (b := b) (by omega)
              rw [hi, ← hj, hend] at h9
              exact h9.symm
            refine tr_exit ?_
            refine then_exit ?_
            refine then_exit ?_
            refine block_hit ?_
            refine block_normal ?_
            refine then_normal ?_
            -- region 2
            refine tr_env (es_cons (t := 0) (OT.tmp rfl) (es_cons (t := 1) (OT.tmp rfl) (es_cons (t := 2) (OT.tmp rfl) (es_cons (t := 3) (OT.tmp rfl) (es_cons (t := 8) (OT.tmp rfl) es_nil))))) ?_
            refine tr_region ?_
            refine op_pure (pu_move (OT.tmp rfl)) rfl rfl ?_
            refine op_pure (pu_add' (OT.tmp rfl) OT.const (by omega)) rfl rfl ?_
            refine op_pure (pu_assign (OT.tmp rfl)) rfl rfl ?_
            refine tr_nil ?_
            refine then_normal ?_
            exact tr_again (i + 1, d2) ⟨by show a + 1 ≤ i + 1; omega, hs2, hnx⟩ (by omega) (es_append (es_cons (t := 8) (by exact OT.tmp rfl) es_nil) (es_cons (t := 0) (OT.tmp rfl) (es_cons (t := 1) (OT.tmp rfl) (es_cons (t := 2) (OT.tmp rfl) (es_cons (t := 3) (OT.tmp rfl) es_nil))))) (own_picks (by repeat (first | exact picks_nil | refine picks_cons 0 rfl ?_ | refine picks_cons 1 rfl ?_ | refine picks_cons 2 rfl ?_ | refine picks_cons 3 rfl ?_ | refine picks_cons 4 rfl ?_ | refine picks_cons 5 rfl ?_ | refine picks_cons 6 rfl ?_)))
    · try simp only [decide_eq_true_eq, decide_eq_false_iff_not, Bool.or_eq_true, Bool.and_eq_true, Bool.or_eq_false_iff, Bool.and_eq_false_iff, Bool.not_eq_true', Bool.not_eq_false', ne_eq, Classical.not_not] at c14
      have hfin : d1 = Sort.insertionSort (ltc c) d a b := by rw [← hi, insOut_end (by omega)]
      refine tr_exit ?_
      refine then_exit ?_
      refine then_exit ?_
      refine block_hit ?_
      exact ret_none .normal (.inr rfl) rfl () (fun _ => trivial) trivial (by rw [← hfin]; exact picks_cons 0 rfl picks_nil)
set_option maxHeartbeats 1000000 in
set_option maxRecDepth 20000 in
/-- slices.reverseRangeCmpFunc[rhizome/api.Tuple] -/
theorem rev_fn (v fv : Value) (d : DA) (a b : Nat) (hm : d.size < 4611686018427387904) (hab : a < b) (hb : b ≤ d.size) : Ct Try.prog 84 [IsV v, I64 (a : Int), I64 (b : Int), IsV fv] ([OwnI 38 (kF K0 n0) v d.toList]) Unit (fun _ => AnyT) (fun _ => [OwnI 38 (kF K0 n0) v (Sort.reverseRange d a b).toList]) (fun _ => True) := by
  refine fn_intro Try.func84 rfl rfl ?_
  intro H w
  refine tr_seq ?_
  -- region 0
  refine tr_env (es_cons (t := 0) (OT.tmp rfl) (es_cons (t := 1) (OT.tmp rfl) (es_cons (t := 2) (OT.tmp rfl) es_nil))) ?_
  refine tr_region ?_
  refine op_pure (pu_move (OT.tmp rfl)) rfl rfl ?_
  refine op_pure (pu_assign (OT.tmp rfl)) rfl rfl ?_
  refine tr_nil ?_
  refine then_normal ?_
  refine tr_seq ?_
  -- region 1
  refine tr_env (es_cons (t := 0) (OT.tmp rfl) (es_cons (t := 2) (OT.tmp rfl) (es_cons (t := 8) (OT.tmp rfl) es_nil))) ?_
  refine tr_region ?_
  refine op_pure (pu_move (OT.tmp rfl)) rfl rfl ?_
  refine op_pure (pu_sub' (OT.tmp rfl) OT.const (by omega)) rfl rfl ?_
  refine op_pure (pu_assign (OT.tmp rfl)) rfl rfl ?_
  refine tr_nil ?_
  refine then_normal ?_
  refine tr_block ?_
  refine tr_loopK (σ := Nat × Nat × DA) (es_cons (t := 0) (OT.tmp rfl) es_nil) (fun s => [(8, I64 (s.1 : Int)), (9, I64 (s.2.1 : Int))]) (fun s => [OwnI 38 (kF K0 n0) v s.2.2.toList]) (fun s => s.2.1 < d.size ∧ s.2.2.size = d.size ∧ Sort.reverseLoop s.1 s.2.1 s.2.2 = Sort.reverseRange d a b) (fun s => s.2.1 - s.1) (a, b - 1, d) ⟨by show b - 1 < d.size; omega, rfl, rfl⟩ ?_ (own_picks (by repeat (first | exact picks_nil | refine picks_cons 0 rfl ?_ | refine picks_cons 1 rfl ?_ | refine picks_cons 2 rfl ?_ | refine picks_cons 3 rfl ?_ | refine picks_cons 4 rfl ?_ | refine picks_cons 5 rfl ?_ | refine picks_cons 6 rfl ?_))) ?_
  · exact (es_cons (t := 8) (by exact OT.tmp rfl) (es_cons (t := 9) (by exact OT.val (OT.tmp rfl) (congrArg (Value.int _) (by (simp; omega)))) es_nil))
  · rintro ⟨i, j, d1⟩ ⟨hj, hs1, hr⟩
    dsimp only at hj hs1 hr ⊢
    have hl1 : d1.toList.length = d1.size := Array.length_toList
    refine tr_seq ?_
    refine tr_seq ?_
    -- region 2
    refine tr_env (es_cons (t := 0) (OT.tmp rfl) (es_cons (t := 8) (OT.tmp rfl) (es_cons (t := 9) (OT.tmp rfl) es_nil))) ?_
    refine tr_region ?_
    refine op_pure (pu_move (OT.tmp rfl)) rfl rfl ?_
    refine op_pure (pu_move (OT.tmp rfl)) rfl rfl ?_
    refine op_pure (pu_lss (OT.tmp rfl) (OT.tmp rfl)) rfl rfl ?_
    refine tr_nil ?_
    refine then_normal ?_
    refine tr_cond (OT.tmp rfl) (fun c15 => ?_) (fun c15 => ?_)
    · try simp only [decide_eq_true_eq, decide_eq_false_iff_not, Bool.or_eq_true, Bool.and_eq_true, Bool.or_eq_false_iff, Bool.and_eq_false_iff, Bool.not_eq_true', Bool.not_eq_false', ne_eq, Classical.not_not] at c15
      have hsw : (Sort.swp d1 i j).toList = (d1.toList.set (i : Int).toNat (at' d1.toList (j : Int))).set (j : Int).toNat (at' d1.toList (i : Int)) := by rw [swp_items (by omega) (by omega) (by omega) (by omega)]; simp
      have hnx := (rev_step (d := d1) (i := i) (j := j) (by omega)).symm.trans hr
      refine tr_skip ?_
      refine then_normal ?_
      refine tr_block ?_
      refine tr_seq ?_
      -- region 3
      refine tr_env (es_cons (t := 0) (OT.tmp rfl) (es_cons (t := 8) (OT.tmp rfl) (es_cons (t := 9) (OT.tmp rfl) es_nil))) ?_
      apply tr_anyW (p := 13) (Lf := fun c => cond c ([OwnI 38 (kF K0 n0) v (d1.toList.set (i : Int).toNat (at' d1.toList (j : Int)))]) ([OwnI 38 (kF K0 n0) v d1.toList])) (by kernel_rfl) (m := 14) (ns := [[(0, none)], [(8, none)], [(0, none)], [(9, none)], [(0, none)], [(9, none)], [(20, some 4), (21, some 5)], [(22, some 6)], [(0, none)], [(8, none)], [(24, some 8), (25, some 9)], [(26, some 10)], [(16, some 0), (17, some 1)], [(23, some 7), (28, some 12)]]) (by kernel_rfl) (by kernel_rfl) (Ts := [_, _, _, _, _, _, _, _, _, _, _, _, _, _]) rfl
      case hops =>
        refine ⟨?_, ⟨?_, ⟨?_, ⟨?_, ⟨?_, ⟨?_, ⟨?_, ⟨?_, ⟨?_, ⟨?_, ⟨?_, ⟨?_, ⟨?_, ⟨?_, trivial⟩⟩⟩⟩⟩⟩⟩⟩⟩⟩⟩⟩⟩⟩
        · intro c hc; cases c
          · exact ropw_of (rop_pure rfl (pu_move (OT.tmp rfl)))
          · exact Bool.noConfusion (hc.symm.trans (by kernel_rfl : okFlag _ _ _ _ = false))
        · intro c hc; cases c
          · exact ropw_of (rop_pure rfl (pu_move (OT.tmp rfl)))
          · exact Bool.noConfusion (hc.symm.trans (by kernel_rfl : okFlag _ _ _ _ = false))
        · intro c hc; cases c
          · exact ropw_of (rop_pure rfl (pu_move (OT.tmp rfl)))
          · exact ropw_of (rop_pure rfl (pu_move (OT.tmp rfl)))
        · intro c hc; cases c
          · exact ropw_of (rop_pure rfl (pu_move (OT.tmp rfl)))
          · exact ropw_of (rop_pure rfl (pu_move (OT.tmp rfl)))
        · intro c hc; cases c
          · exact ropw_of (rop_pure rfl (pu_move (OT.tmp rfl)))
          · exact Bool.noConfusion (hc.symm.trans (by kernel_rfl : okFlag _ _ _ _ = false))
        · intro c hc; cases c
          · exact ropw_of (rop_pure rfl (pu_move (OT.tmp rfl)))
          · exact Bool.noConfusion (hc.symm.trans (by kernel_rfl : okFlag _ _ _ _ = false))
        · intro c hc; cases c
          · exact ropw_of (rop_pure rfl (pu_index_own (OT.tmp rfl) (by exact mem_at 0 rfl) (OT.tmp rfl) Try.underlying40 (show tyOk Try.prog 38 false 1 = true from by decide +kernel) (by omega) (by omega)))
          · exact Bool.noConfusion (hc.symm.trans (by kernel_rfl : okFlag _ _ _ _ = false))
        · intro c hc; cases c
          · exact ropw_of (rop_pure rfl (pu_load_own0 (OT.tmp rfl) (by exact mem_at 0 rfl) (by omega) (by omega) (show tyOk Try.prog 38 false 1 = true from by decide +kernel)))
          · exact Bool.noConfusion (hc.symm.trans (by kernel_rfl : okFlag _ _ _ _ = false))
        · intro c hc; cases c
          · exact ropw_of (rop_pure rfl (pu_move (OT.tmp rfl)))
          · exact Bool.noConfusion (hc.symm.trans (by kernel_rfl : okFlag _ _ _ _ = false))
        · intro c hc; cases c
          · exact ropw_of (rop_pure rfl (pu_move (OT.tmp rfl)))
          · exact Bool.noConfusion (hc.symm.trans (by kernel_rfl : okFlag _ _ _ _ = false))
        · intro c hc; cases c
          · exact ropw_of (rop_pure rfl (pu_index_own (OT.tmp rfl) (by exact mem_at 0 rfl) (OT.tmp rfl) Try.underlying40 (show tyOk Try.prog 38 false 1 = true from by decide +kernel) (by omega) (by omega)))
          · exact Bool.noConfusion (hc.symm.trans (by kernel_rfl : okFlag _ _ _ _ = false))
        · intro c hc; cases c
          · exact ropw_of (rop_pure rfl (pu_load_own0 (OT.tmp rfl) (by exact mem_at 0 rfl) (by omega) (by omega) (show tyOk Try.prog 38 false 1 = true from by decide +kernel)))
          · exact Bool.noConfusion (hc.symm.trans (by kernel_rfl : okFlag _ _ _ _ = false))
        · intro c hc; cases c
          · exact ropw_of (rop_pure rfl (pu_index_own (OT.tmp rfl) (by exact mem_at 0 rfl) (OT.tmp rfl) Try.underlying40 (show tyOk Try.prog 38 false 1 = true from by decide +kernel) (by omega) (by omega)))
          · exact Bool.noConfusion (hc.symm.trans (by kernel_rfl : okFlag _ _ _ _ = false))
        · intro c hc; cases c
          · exact ropw_acts rfl (acts_store_own0 (OT.tmp rfl) (OT.tmp rfl) (by exact perm_at 0 rfl) (by omega) (by omega) (show tyOk Try.prog 38 false 1 = true from by decide +kernel)) (by exact perm_at 0 rfl) (fun _ => (by exact perm_at 0 rfl)) (fun _ _ _ _ h => h)
          · exact Bool.noConfusion (hc.symm.trans (by kernel_rfl : okFlag _ _ _ _ = false))
      case h =>
        refine op_pure (pu_index_own (OT.tmp rfl) (by exact mem_at 0 rfl) (OT.tmp rfl) Try.underlying40 (show tyOk Try.prog 38 false 1 = true from by decide +kernel) (by omega) (by (simp; omega))) rfl rfl ?_
        refine op_acts (acts_store_own0 (OT.tmp rfl) (OT.tmp rfl) (by exact perm_at 0 rfl) (by omega) (by (simp; omega)) (show tyOk Try.prog 38 false 1 = true from by decide +kernel)) (by exact perm_at 0 rfl) rfl rfl (fun _ _ => ?_)
        refine tr_nil ?_
        refine then_normal ?_
        refine tr_seq ?_
        -- region 4
        refine tr_env (es_cons (t := 0) (OT.tmp rfl) (es_cons (t := 8) (OT.tmp rfl) (es_cons (t := 9) (OT.tmp rfl) es_nil))) ?_
        refine tr_region ?_
        refine op_pure (pu_move (OT.tmp rfl)) rfl rfl ?_
        refine op_pure (pu_add' (OT.tmp rfl) OT.const (by omega)) rfl rfl ?_
        refine op_pure (pu_assign (OT.tmp rfl)) rfl rfl ?_
        refine tr_nil ?_
        refine then_normal ?_
        -- region 5
        refine tr_env (es_cons (t := 0) (OT.tmp rfl) (es_cons (t := 8) (OT.tmp rfl) (es_cons (t := 9) (OT.tmp rfl) es_nil))) ?_
        refine tr_region ?_
        refine op_pure (pu_move (OT.tmp rfl)) rfl rfl ?_
        refine op_pure (pu_sub' (OT.tmp rfl) OT.const (by omega)) rfl rfl ?_
        refine op_pure (pu_assign (OT.tmp rfl)) rfl rfl ?_
        refine tr_nil ?_
        refine block_normal ?_
        refine then_normal ?_
        exact tr_again (i + 1, j - 1, Sort.swp d1 i j) ⟨by show j - 1 < d.size; omega, swp_size.trans hs1, hnx⟩ (by show j - 1 - (i + 1) < j - i; omega) (es_append (es_cons (t := 8) (by exact OT.tmp rfl) (es_cons (t := 9) (by exact OT.val (OT.tmp rfl) (congrArg (Value.int _) (by (simp; omega)))) es_nil)) (es_cons (t := 0) (OT.tmp rfl) es_nil)) (own_picks (by rw [hsw]; exact (by repeat (first | exact picks_nil | refine picks_cons 0 rfl ?_ | refine picks_cons 1 rfl ?_ | refine picks_cons 2 rfl ?_ | refine picks_cons 3 rfl ?_ | refine picks_cons 4 rfl ?_ | refine picks_cons 5 rfl ?_ | refine picks_cons 6 rfl ?_))))
    · try simp only [decide_eq_true_eq, decide_eq_false_iff_not, Bool.or_eq_true, Bool.and_eq_true, Bool.or_eq_false_iff, Bool.and_eq_false_iff, Bool.not_eq_true', Bool.not_eq_false', ne_eq, Classical.not_not] at c15
      have hfin : d1 = Sort.reverseRange d a b := by rw [← hr, rev_end (by omega)]
      refine tr_exit ?_
      refine then_exit ?_
      refine then_exit ?_
      refine block_hit ?_
      exact ret_none .normal (.inr rfl) rfl () (fun _ => trivial) trivial (by rw [← hfin]; exact picks_cons 0 rfl picks_nil)
set_option maxHeartbeats 1000000 in
set_option maxRecDepth 20000 in
/-- slices.siftDownCmpFunc[rhizome/api.Tuple] -/
theorem sift_fn (v fv : Value) (d : DA) (lo hi first : Nat) (c : List Int → List Int → Int) (hm : d.size < 4611686018427387904) (hb : first + hi ≤ d.size) (hlo : lo ≤ hi) (hfv : ∀ x y, CtV Try.prog fv [(kF K0 n0).T x, (kF K0 n0).T y] [] Unit (fun _ => I64 (c x y)) (fun _ => []) (fun _ => True)) : Ct Try.prog 90 [IsV v, I64 (lo : Int), I64 (hi : Int), I64 (first : Int), IsV fv] ([OwnI 38 (kF K0 n0) v d.toList]) Unit (fun _ => AnyT) (fun _ => [OwnI 38 (kF K0 n0) v (Sort.siftDown (ltc c) hi first lo d).toList]) (fun _ => True) := by
  refine fn_intro Try.func90 rfl rfl ?_
  intro H w
  refine tr_seq ?_
  -- region 0
  refine tr_env (es_cons (t := 0) (OT.tmp rfl) (es_cons (t := 1) (OT.tmp rfl) (es_cons (t := 2) (OT.tmp rfl) (es_cons (t := 3) (OT.tmp rfl) (es_cons (t := 4) (OT.tmp rfl) es_nil))))) ?_
  refine tr_region ?_
  refine op_pure (pu_move (OT.tmp rfl)) rfl rfl ?_
  refine op_pure (pu_assign (OT.tmp rfl)) rfl rfl ?_
  refine tr_nil ?_
  refine then_normal ?_
  refine tr_block ?_
  refine tr_loopK (σ := Nat × DA) (es_cons (t := 0) (OT.tmp rfl) (es_cons (t := 2) (OT.tmp rfl) (es_cons (t := 3) (OT.tmp rfl) (es_cons (t := 4) (OT.tmp rfl) es_nil)))) (fun s => [(10, I64 (s.1 : Int))]) (fun s => [OwnI 38 (kF K0 n0) v s.2.toList]) (fun s => s.1 ≤ hi ∧ s.2.size = d.size ∧ Sort.siftDown (ltc c) hi first s.1 s.2 = Sort.siftDown (ltc c) hi first lo d) (fun s => hi - s.1) (lo, d) ⟨hlo, rfl, rfl⟩ ?_ (own_picks (by repeat (first | exact picks_nil | refine picks_cons 0 rfl ?_ | refine picks_cons 1 rfl ?_ | refine picks_cons 2 rfl ?_ | refine picks_cons 3 rfl ?_ | refine picks_cons 4 rfl ?_ | refine picks_cons 5 rfl ?_ | refine picks_cons 6 rfl ?_))) ?_
  · exact (es_cons (t := 10) (by exact OT.tmp rfl) es_nil)
  · rintro ⟨root, d1⟩ ⟨hrh, hs1, hr⟩
    dsimp only at hrh hs1 hr ⊢
    have hl1 : d1.toList.length = d1.size := Array.length_toList
    refine tr_block ?_
    refine tr_seq ?_
    -- region 1
    refine tr_env (es_cons (t := 0) (OT.tmp rfl) (es_cons (t := 2) (OT.tmp rfl) (es_cons (t := 3) (OT.tmp rfl) (es_cons (t := 4) (OT.tmp rfl) (es_cons (t := 10) (OT.tmp rfl) es_nil))))) ?_
    refine tr_region ?_
    refine op_pure (pu_move (OT.tmp rfl)) rfl rfl ?_
    refine op_pure (pu_mul' OT.const (OT.tmp rfl) (by omega)) rfl rfl ?_
    refine op_pure (pu_add' (OT.tmp rfl) OT.const (by omega)) rfl rfl ?_
    refine op_pure (pu_assign (OT.tmp rfl)) rfl rfl ?_
    refine tr_nil ?_
    refine then_normal ?_
    refine tr_seq ?_
    refine tr_seq ?_
    -- region 2
    refine tr_env (es_cons (t := 0) (OT.tmp rfl) (es_cons (t := 2) (OT.tmp rfl) (es_cons (t := 3) (OT.tmp rfl) (es_cons (t := 4) (OT.tmp rfl) (es_cons (t := 10) (OT.tmp rfl) (es_cons (t := 11) (OT.tmp rfl) es_nil)))))) ?_
    refine tr_region ?_
    refine op_pure (pu_move (OT.tmp rfl)) rfl rfl ?_
    refine op_pure (pu_move (OT.tmp rfl)) rfl rfl ?_
    refine op_pure (pu_geq (OT.tmp rfl) (OT.tmp rfl)) rfl rfl ?_
    refine tr_nil ?_
    refine then_normal ?_
    refine tr_cond (OT.tmp rfl) (fun c18 => ?_) (fun c18 => ?_)
    · try simp only [decide_eq_true_eq, decide_eq_false_iff_not, Bool.or_eq_true, Bool.and_eq_true, Bool.or_eq_false_iff, Bool.and_eq_false_iff, Bool.not_eq_true', Bool.not_eq_false', ne_eq, Classical.not_not] at c18
      have hfin : d1 = Sort.siftDown (ltc c) hi first lo d := by rw [← hr, sift_end (by omega)]
      refine tr_exit ?_
      refine then_exit ?_
      refine block_pass rfl ?_
      refine then_exit ?_
      refine block_hit ?_
      exact ret_none .normal (.inr rfl) rfl () (fun _ => trivial) trivial (by rw [← hfin]; exact picks_cons 0 rfl picks_nil)
    · try simp only [decide_eq_true_eq, decide_eq_false_iff_not, Bool.or_eq_true, Bool.and_eq_true, Bool.or_eq_false_iff, Bool.and_eq_false_iff, Bool.not_eq_true', Bool.not_eq_false', ne_eq, Classical.not_not] at c18
      refine tr_skip ?_
      refine then_normal ?_
      refine tr_seq ?_
      refine tr_seq ?_
      -- region 3
      refine tr_env (es_cons (t := 0) (OT.tmp rfl) (es_cons (t := 2) (OT.tmp rfl) (es_cons (t := 3) (OT.tmp rfl) (es_cons (t := 4) (OT.tmp rfl) (es_cons (t := 10) (OT.tmp rfl) (es_cons (t := 11) (OT.tmp rfl) es_nil)))))) ?_
      apply tr_any (m := 19) (ns := [[(11, none)], [(19, some 0)], [(2, none)], [(20, some 1), (21, some 2)], [(22, some 3)], [(4, none), (23, some 4)], [(0, none), (23, some 4)], [(3, none), (23, some 4)], [(11, none), (23, some 4)], [(23, some 4), (26, some 7), (27, some 8)], [(23, some 4), (25, some 6), (28, some 9)], [(23, some 4), (29, some 10)], [(0, none), (23, some 4)], [(3, none), (23, some 4)], [(11, none), (23, some 4)], [(23, some 4), (32, some 13), (33, some 14)], [(23, some 4), (34, some 15)], [(23, some 4), (31, some 12), (35, some 16)], [(23, some 4), (36, some 17)]]) (by kernel_rfl) (by kernel_rfl) (Ts := [_, _, _, _, _, _, _, _, _, _, _, _, _, _, _, _, _, _, _]) rfl
      case hops =>
        refine ⟨?_, ⟨?_, ⟨?_, ⟨?_, ⟨?_, ⟨?_, ⟨?_, ⟨?_, ⟨?_, ⟨?_, ⟨?_, ⟨?_, ⟨?_, ⟨?_, ⟨?_, ⟨?_, ⟨?_, ⟨?_, ⟨?_, trivial⟩⟩⟩⟩⟩⟩⟩⟩⟩⟩⟩⟩⟩⟩⟩⟩⟩⟩⟩
        · exact rop_pure rfl (pu_move (OT.tmp rfl))
        · exact rop_pure rfl (pu_add' (OT.tmp rfl) OT.const (by omega))
        · exact rop_pure rfl (pu_move (OT.tmp rfl))
        · exact rop_pure rfl (pu_lss (OT.tmp rfl) (OT.tmp rfl))
        · exact rop_pure rfl (pu_move (OT.tmp rfl))
        · exact rop_gu rfl rfl rfl (OT.gu_mk (OT.tmp rfl)) (fun hg => by (have hg1 := hg.2; exact rop_pure rfl (pu_move (by exact OT.tmp rfl))))
        · exact rop_gu rfl rfl rfl (OT.gu_mk (OT.tmp rfl)) (fun hg => by (have hg1 := hg.2; exact rop_pure rfl (pu_move (by exact OT.tmp rfl))))
        · exact rop_gu rfl rfl rfl (OT.gu_mk (OT.tmp rfl)) (fun hg => by (have hg1 := hg.2; exact rop_pure rfl (pu_move (by exact OT.tmp rfl))))
        · exact rop_gu rfl rfl rfl (OT.gu_mk (OT.tmp rfl)) (fun hg => by (have hg1 := hg.2; exact rop_pure rfl (pu_move (by exact OT.tmp rfl))))
        · exact rop_gu rfl rfl rfl (OT.gu_mk (OT.tmp rfl)) (fun hg => by (have hg1 := hg.2; exact rop_pure rfl (pu_add' (by exact OT.gu (OT.tmp rfl) hg) (by exact OT.gu (OT.tmp rfl) hg) (by omega))))
        · exact rop_gu rfl rfl rfl (OT.gu_mk (OT.tmp rfl)) (fun hg => by (have hg1 := hg.2; exact rop_pure rfl (pu_index_own (by exact OT.gu (OT.tmp rfl) hg) (by exact mem_at 0 rfl) (by exact OT.gu (OT.tmp rfl) hg) Try.underlying40 (show tyOk Try.prog 38 false 1 = true from by decide +kernel) (by omega) (by omega))))
        · exact rop_gu rfl rfl rfl (OT.gu_mk (OT.tmp rfl)) (fun hg => by (have hg1 := hg.2; exact rop_pure rfl (pu_load_own0 (by exact OT.gu (OT.tmp rfl) hg) (by exact mem_at 0 rfl) (by omega) (by omega) (show tyOk Try.prog 38 false 1 = true from by decide +kernel))))
        · exact rop_gu rfl rfl rfl (OT.gu_mk (OT.tmp rfl)) (fun hg => by (have hg1 := hg.2; exact rop_pure rfl (pu_move (by exact OT.tmp rfl))))
        · exact rop_gu rfl rfl rfl (OT.gu_mk (OT.tmp rfl)) (fun hg => by (have hg1 := hg.2; exact rop_pure rfl (pu_move (by exact OT.tmp rfl))))
        · exact rop_gu rfl rfl rfl (OT.gu_mk (OT.tmp rfl)) (fun hg => by (have hg1 := hg.2; exact rop_pure rfl (pu_move (by exact OT.tmp rfl))))
        · exact rop_gu rfl rfl rfl (OT.gu_mk (OT.tmp rfl)) (fun hg => by (have hg1 := hg.2; exact rop_pure rfl (pu_add' (by exact OT.gu (OT.tmp rfl) hg) (by exact OT.gu (OT.tmp rfl) hg) (by omega))))
        · exact rop_gu rfl rfl rfl (OT.gu_mk (OT.tmp rfl)) (fun hg => by (have hg1 := hg.2; exact rop_pure rfl (pu_add' (by exact OT.gu (OT.tmp rfl) hg) OT.const (by omega))))
        · exact rop_gu rfl rfl rfl (OT.gu_mk (OT.tmp rfl)) (fun hg => by (have hg1 := hg.2; exact rop_pure rfl (pu_index_own (by exact OT.gu (OT.tmp rfl) hg) (by exact mem_at 0 rfl) (by exact OT.gu (OT.tmp rfl) hg) Try.underlying40 (show tyOk Try.prog 38 false 1 = true from by decide +kernel) (by omega) (by (simp [maxLen] at *; omega)))))
        · exact rop_gu rfl rfl rfl (OT.gu_mk (OT.tmp rfl)) (fun hg => by (have hg1 := hg.2; exact rop_pure rfl (pu_load_own0 (by exact OT.gu (OT.tmp rfl) hg) (by exact mem_at 0 rfl) (by omega) (by (simp [maxLen] at *; omega)) (show tyOk Try.prog 38 false 1 = true from by decide +kernel))))
      case h =>
        refine op_gu_acts () rfl rfl rfl (OT.gu_mk (OT.tmp rfl)) (fun hg => by (have hg1 := hg.2; (try simp only [decide_eq_true_eq, decide_eq_false_iff_not] at hg1); exact acts_callv (by exact OT.gu (OT.tmp rfl) hg) (hfv _ _) (OTs.cons (by exact OT.gu (OT.tmp rfl) hg) (OTs.cons (by exact OT.gu (OT.tmp rfl) hg) OTs.nil)) (List.Perm.refl _))) rfl (fun _ _ => ?_)
        refine op_gu rfl rfl rfl (OT.gu_mk (OT.tmp rfl)) (fun hg => by (have hg1 := hg.2; (try simp only [decide_eq_true_eq, decide_eq_false_iff_not] at hg1); exact pu_lss (by exact OT.gu (OT.tmp rfl) hg) OT.const)) rfl ?_
        refine op_pure (pu_pick_and (OT.tmp rfl) (by exact OT.tmp rfl)) rfl rfl ?_
        refine tr_nil ?_
        refine then_normal ?_
        refine tr_cond (OT.tmp rfl) (fun c40 => ?_) (fun c40 => ?_)
        · try simp only [decide_eq_true_eq, decide_eq_false_iff_not, Bool.or_eq_true, Bool.and_eq_true, Bool.or_eq_false_iff, Bool.and_eq_false_iff, Bool.not_eq_true', Bool.not_eq_false', ne_eq, Classical.not_not] at c40
          obtain ⟨ch, hch, hcl, hcr, hstep⟩ : ∃ ch : Nat, 2 * (root : Int) + 1 + 1 = ch ∧ ch < hi ∧ root < ch ∧ Sort.siftDown (ltc c) hi first root d1 = (if !ltc c d1[first + root]! d1[first + ch]! then d1 else Sort.siftDown (ltc c) hi first ch (Sort.swp d1 (first + root) (first + ch))) := ⟨2 * root + 2, by omega, by omega, by omega, sift_two (by omega) (by omega) (by rw [ltc_at (by omega) (by omega), show ((first + (2 * root + 1) : Nat) : Int) = (first : Int) + (2 * root + 1) from by omega, show ((first + (2 * root + 1) + 1 : Nat) : Int) = (first : Int) + (2 * root + 1) + 1 from by omega]; simpa using c40.2)⟩
          -- region 4
          refine tr_env (es_cons (t := 0) (OT.tmp rfl) (es_cons (t := 2) (OT.tmp rfl) (es_cons (t := 3) (OT.tmp rfl) (es_cons (t := 4) (OT.tmp rfl) (es_cons (t := 10) (OT.tmp rfl) (es_cons (t := 11) (OT.tmp rfl) es_nil)))))) ?_
          refine tr_region ?_
          refine op_pure (pu_move (OT.tmp rfl)) rfl rfl ?_
          refine op_pure (pu_add' (OT.tmp rfl) OT.const (by omega)) rfl rfl ?_
          refine op_pure (pu_assign (OT.tmp rfl)) rfl rfl ?_
          refine tr_nil ?_
          refine then_normal ?_
          refine tr_seq ?_
          refine tr_seq ?_
          -- region 5
          refine tr_env (es_cons (t := 0) (OT.tmp rfl) (es_cons (t := 2) (OT.tmp rfl) (es_cons (t := 3) (OT.tmp rfl) (es_cons (t := 4) (OT.tmp rfl) (es_cons (t := 10) (OT.tmp rfl) (es_cons (t := 11) (OT.tmp rfl) es_nil)))))) ?_
          rw [hch]
          apply tr_any (m := 13) (ns := [[(4, none)], [(0, none)], [(3, none)], [(10, none)], [(45, some 2), (46, some 3)], [(44, some 1), (47, some 4)], [(48, some 5)], [(0, none)], [(3, none)], [(11, none)], [(51, some 8), (52, some 9)], [(50, some 7), (53, some 10)], [(54, some 11)]]) (by kernel_rfl) (by kernel_rfl) (Ts := [_, _, _, _, _, _, _, _, _, _, _, _, _]) rfl
          case hops =>
            refine ⟨?_, ⟨?_, ⟨?_, ⟨?_, ⟨?_, ⟨?_, ⟨?_, ⟨?_, ⟨?_, ⟨?_, ⟨?_, ⟨?_, ⟨?_, trivial⟩⟩⟩⟩⟩⟩⟩⟩⟩⟩⟩⟩⟩
            · exact rop_pure rfl (pu_move (OT.tmp rfl))
            · exact rop_pure rfl (pu_move (OT.tmp rfl))
            · exact rop_pure rfl (pu_move (OT.tmp rfl))
            · exact rop_pure rfl (pu_move (OT.tmp rfl))
            · exact rop_pure rfl (pu_add' (OT.tmp rfl) (OT.tmp rfl) (by omega))
            · exact rop_pure rfl (pu_index_own (OT.tmp rfl) (by exact mem_at 0 rfl) (OT.tmp rfl) Try.underlying40 (show tyOk Try.prog 38 false 1 = true from by decide +kernel) (by omega) (by omega))
            · exact rop_pure rfl (pu_load_own0 (OT.tmp rfl) (by exact mem_at 0 rfl) (by omega) (by omega) (show tyOk Try.prog 38 false 1 = true from by decide +kernel))
            · exact rop_pure rfl (pu_move (OT.tmp rfl))
            · exact rop_pure rfl (pu_move (OT.tmp rfl))
            · exact rop_pure rfl (pu_move (OT.tmp rfl))
            · exact rop_pure rfl (pu_add' (OT.tmp rfl) (OT.tmp rfl) (by omega))
            · exact rop_pure rfl (pu_index_own (OT.tmp rfl) (by exact mem_at 0 rfl) (OT.tmp rfl) Try.underlying40 (show tyOk Try.prog 38 false 1 = true from by decide +kernel) (by omega) (by omega))
            · exact rop_pure rfl (pu_load_own0 (OT.tmp rfl) (by exact mem_at 0 rfl) (by omega) (by omega) (show tyOk Try.prog 38 false 1 = true from by decide +kernel))
          case h =>
            refine op_acts (acts_callv (OT.tmp rfl) (hfv _ _) (OTs.cons (OT.tmp rfl) (OTs.cons (OT.tmp rfl) OTs.nil)) (List.Perm.refl _)) (List.Perm.refl _) rfl rfl (fun _ _ => ?_)
            refine op_pure (pu_lss (OT.tmp rfl) OT.const) rfl rfl ?_
            refine op_pure (pu_not (OT.tmp rfl)) rfl rfl ?_
            refine tr_nil ?_
            refine then_normal ?_
            refine tr_cond (OT.tmp rfl) (fun c58 => ?_) (fun c58 => ?_)
            · try simp only [decide_eq_true_eq, decide_eq_false_iff_not, Bool.or_eq_true, Bool.and_eq_true, Bool.or_eq_false_iff, Bool.and_eq_false_iff, Bool.not_eq_true', Bool.not_eq_false', ne_eq, Classical.not_not] at c58
              have hfin : d1 = Sort.siftDown (ltc c) hi first lo d := by
                rw [if_pos (by rw [ltc_at (by omega) (by omega), show ((first + root : Nat) : Int) = (first : Int) + root from by omega, show ((first + ch : Nat) : Int) = (first : Int) + ch from by omega]; simpa using c58)] at hstep
                exact hstep.symm.trans hr
              refine tr_ret ?_
              refine then_ret ?_
              refine block_ret ?_
              refine then_ret ?_
              refine block_ret ?_
              exact ret_none .ret (.inl rfl) rfl () (fun _ => trivial) trivial (by rw [← hfin]; exact picks_cons 0 rfl picks_nil)
            · try simp only [decide_eq_true_eq, decide_eq_false_iff_not, Bool.or_eq_true, Bool.and_eq_true, Bool.or_eq_false_iff, Bool.and_eq_false_iff, Bool.not_eq_true', Bool.not_eq_false', ne_eq, Classical.not_not] at c58
              have hnx : Sort.siftDown (ltc c) hi first ch (Sort.swp d1 (first + root) (first + ch)) = Sort.siftDown (ltc c) hi first lo d := by
                rw [if_neg (by rw [ltc_at (by omega) (by omega), show ((first + root : Nat) : Int) = (first : Int) + root from by omega, show ((first + ch : Nat) : Int) = (first : Int) + ch from by omega]; simpa using c58)] at hstep
                exact hstep.symm.trans hr
              have hsw : (Sort.swp d1 (first + root) (first + ch)).toList = (d1.toList.set ((first : Int) + root).toNat (at' d1.toList ((first : Int) + ch))).set ((first : Int) + ch).toNat (at' d1.toList ((first : Int) + root)) := by
                rw [swp_items (by omega) (by omega) (by omega) (by omega)]; congr 2
              refine tr_skip ?_
              refine then_normal ?_
              refine tr_seq ?_
              -- region 6
              refine tr_env (es_cons (t := 0) (OT.tmp rfl) (es_cons (t := 2) (OT.tmp rfl) (es_cons (t := 3) (OT.tmp rfl) (es_cons (t := 4) (OT.tmp rfl) (es_cons (t := 10) (OT.tmp rfl) (es_cons (t := 11) (OT.tmp rfl) es_nil)))))) ?_
              apply tr_anyW (p := 21) (Lf := fun c => cond c ([OwnI 38 (kF K0 n0) v (d1.toList.set ((first : Int) + root).toNat (at' d1.toList ((first : Int) + ch)))]) ([OwnI 38 (kF K0 n0) v d1.toList])) (by kernel_rfl) (m := 22) (ns := [[(0, none)], [(3, none)], [(10, none)], [(60, some 1), (61, some 2)], [(0, none)], [(3, none)], [(11, none)], [(64, some 5), (65, some 6)], [(0, none)], [(3, none)], [(11, none)], [(68, some 9), (69, some 10)], [(67, some 8), (70, some 11)], [(71, some 12)], [(0, none)], [(3, none)], [(10, none)], [(74, some 15), (75, some 16)], [(73, some 14), (76, some 17)], [(77, some 18)], [(59, some 0), (62, some 3)], [(72, some 13), (79, some 20)]]) (by kernel_rfl) (by kernel_rfl) (Ts := [_, _, _, _, _, _, _, _, _, _, _, _, _, _, _, _, _, _, _, _, _, _]) rfl
              case hops =>
                refine ⟨?_, ⟨?_, ⟨?_, ⟨?_, ⟨?_, ⟨?_, ⟨?_, ⟨?_, ⟨?_, ⟨?_, ⟨?_, ⟨?_, ⟨?_, ⟨?_, ⟨?_, ⟨?_, ⟨?_, ⟨?_, ⟨?_, ⟨?_, ⟨?_, ⟨?_, trivial⟩⟩⟩⟩⟩⟩⟩⟩⟩⟩⟩⟩⟩⟩⟩⟩⟩⟩⟩⟩⟩⟩
                · intro c hc; cases c
                  · exact ropw_of (rop_pure rfl (pu_move (OT.tmp rfl)))
                  · exact Bool.noConfusion (hc.symm.trans (by kernel_rfl : okFlag _ _ _ _ = false))
                · intro c hc; cases c
                  · exact ropw_of (rop_pure rfl (pu_move (OT.tmp rfl)))
                  · exact Bool.noConfusion (hc.symm.trans (by kernel_rfl : okFlag _ _ _ _ = false))
                · intro c hc; cases c
                  · exact ropw_of (rop_pure rfl (pu_move (OT.tmp rfl)))
                  · exact Bool.noConfusion (hc.symm.trans (by kernel_rfl : okFlag _ _ _ _ = false))
                · intro c hc; cases c
                  · exact ropw_of (rop_pure rfl (pu_add' (OT.tmp rfl) (OT.tmp rfl) (by omega)))
                  · exact Bool.noConfusion (hc.symm.trans (by kernel_rfl : okFlag _ _ _ _ = false))
                · intro c hc; cases c
                  · exact ropw_of (rop_pure rfl (pu_move (OT.tmp rfl)))
                  · exact ropw_of (rop_pure rfl (pu_move (OT.tmp rfl)))
                · intro c hc; cases c
                  · exact ropw_of (rop_pure rfl (pu_move (OT.tmp rfl)))
                  · exact ropw_of (rop_pure rfl (pu_move (OT.tmp rfl)))
                · intro c hc; cases c
                  · exact ropw_of (rop_pure rfl (pu_move (OT.tmp rfl)))
                  · exact ropw_of (rop_pure rfl (pu_move (OT.tmp rfl)))
                · intro c hc; cases c
                  · exact ropw_of (rop_pure rfl (pu_add' (OT.tmp rfl) (OT.tmp rfl) (by omega)))
                  · exact ropw_of (rop_pure rfl (pu_add' (OT.tmp rfl) (OT.tmp rfl) (by omega)))
                · intro c hc; cases c
                  · exact ropw_of (rop_pure rfl (pu_move (OT.tmp rfl)))
                  · exact Bool.noConfusion (hc.symm.trans (by kernel_rfl : okFlag _ _ _ _ = false))
                · intro c hc; cases c
                  · exact ropw_of (rop_pure rfl (pu_move (OT.tmp rfl)))
                  · exact Bool.noConfusion (hc.symm.trans (by kernel_rfl : okFlag _ _ _ _ = false))
                · intro c hc; cases c
                  · exact ropw_of (rop_pure rfl (pu_move (OT.tmp rfl)))
                  · exact Bool.noConfusion (hc.symm.trans (by kernel_rfl : okFlag _ _ _ _ = false))
                · intro c hc; cases c
                  · exact ropw_of (rop_pure rfl (pu_add' (OT.tmp rfl) (OT.tmp rfl) (by omega)))
                  · exact Bool.noConfusion (hc.symm.trans (by kernel_rfl : okFlag _ _ _ _ = false))
                · intro c hc; cases c
                  · exact ropw_of (rop_pure rfl (pu_index_own (OT.tmp rfl) (by exact mem_at 0 rfl) (OT.tmp rfl) Try.underlying40 (show tyOk Try.prog 38 false 1 = true from by decide +kernel) (by omega) (by omega)))
                  · exact Bool.noConfusion (hc.symm.trans (by kernel_rfl : okFlag _ _ _ _ = false))
                · intro c hc; cases c
                  · exact ropw_of (rop_pure rfl (pu_load_own0 (OT.tmp rfl) (by exact mem_at 0 rfl) (by omega) (by omega) (show tyOk Try.prog 38 false 1 = true from by decide +kernel)))
                  · exact Bool.noConfusion (hc.symm.trans (by kernel_rfl : okFlag _ _ _ _ = false))
                · intro c hc; cases c
                  · exact ropw_of (rop_pure rfl (pu_move (OT.tmp rfl)))
                  · exact Bool.noConfusion (hc.symm.trans (by kernel_rfl : okFlag _ _ _ _ = false))
                · intro c hc; cases c
                  · exact ropw_of (rop_pure rfl (pu_move (OT.tmp rfl)))
                  · exact Bool.noConfusion (hc.symm.trans (by kernel_rfl : okFlag _ _ _ _ = false))
                · intro c hc; cases c
                  · exact ropw_of (rop_pure rfl (pu_move (OT.tmp rfl)))
                  · exact Bool.noConfusion (hc.symm.trans (by kernel_rfl : okFlag _ _ _ _ = false))
                · intro c hc; cases c
                  · exact ropw_of (rop_pure rfl (pu_add' (OT.tmp rfl) (OT.tmp rfl) (by omega)))
                  · exact Bool.noConfusion (hc.symm.trans (by kernel_rfl : okFlag _ _ _ _ = false))
                · intro c hc; cases c
                  · exact ropw_of (rop_pure rfl (pu_index_own (OT.tmp rfl) (by exact mem_at 0 rfl) (OT.tmp rfl) Try.underlying40 (show tyOk Try.prog 38 false 1 = true from by decide +kernel) (by omega) (by omega)))
                  · exact Bool.noConfusion (hc.symm.trans (by kernel_rfl : okFlag _ _ _ _ = false))
                · intro c hc; cases c
                  · exact ropw_of (rop_pure rfl (pu_load_own0 (OT.tmp rfl) (by exact mem_at 0 rfl) (by omega) (by omega) (show tyOk Try.prog 38 false 1 = true from by decide +kernel)))
                  · exact Bool.noConfusion (hc.symm.trans (by kernel_rfl : okFlag _ _ _ _ = false))
                · intro c hc; cases c
                  · exact ropw_of (rop_pure rfl (pu_index_own (OT.tmp rfl) (by exact mem_at 0 rfl) (OT.tmp rfl) Try.underlying40 (show tyOk Try.prog 38 false 1 = true from by decide +kernel) (by omega) (by omega)))
                  · exact Bool.noConfusion (hc.symm.trans (by kernel_rfl : okFlag _ _ _ _ = false))
                · intro c hc; cases c
                  · exact ropw_acts rfl (acts_store_own0 (OT.tmp rfl) (OT.tmp rfl) (by exact perm_at 0 rfl) (by omega) (by omega) (show tyOk Try.prog 38 false 1 = true from by decide +kernel)) (by exact perm_at 0 rfl) (fun _ => (by exact perm_at 0 rfl)) (fun _ _ _ _ h => h)
                  · exact Bool.noConfusion (hc.symm.trans (by kernel_rfl : okFlag _ _ _ _ = false))
              case h =>
                refine op_pure (pu_index_own (OT.tmp rfl) (by exact mem_at 0 rfl) (OT.tmp rfl) Try.underlying40 (show tyOk Try.prog 38 false 1 = true from by decide +kernel) (by omega) (by (simp; omega))) rfl rfl ?_
                refine op_acts (acts_store_own0 (OT.tmp rfl) (OT.tmp rfl) (by exact perm_at 0 rfl) (by omega) (by (simp; omega)) (show tyOk Try.prog 38 false 1 = true from by decide +kernel)) (by exact perm_at 0 rfl) rfl rfl (fun _ _ => ?_)
                refine tr_nil ?_
                refine then_normal ?_
                -- region 7
                refine tr_env (es_cons (t := 0) (OT.tmp rfl) (es_cons (t := 2) (OT.tmp rfl) (es_cons (t := 3) (OT.tmp rfl) (es_cons (t := 4) (OT.tmp rfl) (es_cons (t := 11) (OT.tmp rfl) es_nil))))) ?_
                refine tr_region ?_
                refine op_pure (pu_move (OT.tmp rfl)) rfl rfl ?_
                refine op_pure (pu_assign (OT.tmp rfl)) rfl rfl ?_
                refine tr_nil ?_
                refine block_normal ?_
                refine then_normal ?_
                exact tr_again (ch, Sort.swp d1 (first + root) (first + ch)) ⟨by show ch ≤ hi; omega, swp_size.trans hs1, hnx⟩ (by show hi - ch < hi - root; omega) (es_append (es_cons (t := 10) (by exact OT.tmp rfl) es_nil) (es_cons (t := 0) (OT.tmp rfl) (es_cons (t := 2) (OT.tmp rfl) (es_cons (t := 3) (OT.tmp rfl) (es_cons (t := 4) (OT.tmp rfl) es_nil))))) (own_picks (by rw [hsw]; exact (by repeat (first | exact picks_nil | refine picks_cons 0 rfl ?_ | refine picks_cons 1 rfl ?_ | refine picks_cons 2 rfl ?_ | refine picks_cons 3 rfl ?_ | refine picks_cons 4 rfl ?_ | refine picks_cons 5 rfl ?_ | refine picks_cons 6 rfl ?_))))
        · try simp only [decide_eq_true_eq, decide_eq_false_iff_not, Bool.or_eq_true, Bool.and_eq_true, Bool.or_eq_false_iff, Bool.and_eq_false_iff, Bool.not_eq_true', Bool.not_eq_false', ne_eq, Classical.not_not] at c40
          obtain ⟨ch, hch, hcl, hcr, hstep⟩ : ∃ ch : Nat, 2 * (root : Int) + 1 = ch ∧ ch < hi ∧ root < ch ∧ Sort.siftDown (ltc c) hi first root d1 = (if !ltc c d1[first + root]! d1[first + ch]! then d1 else Sort.siftDown (ltc c) hi first ch (Sort.swp d1 (first + root) (first + ch))) := ⟨2 * root + 1, by omega, by omega, by omega, sift_one (by omega) (fun h8 => by rw [ltc_at (by omega) (by omega), show ((first + (2 * root + 1) : Nat) : Int) = (first : Int) + (2 * root + 1) from by omega, show ((first + (2 * root + 1) + 1 : Nat) : Int) = (first : Int) + (2 * root + 1) + 1 from by omega]; rcases c40 with h9 | h9; omega; simpa using h9)⟩
          refine tr_skip ?_
          refine then_normal ?_
          refine tr_seq ?_
          refine tr_seq ?_
          -- region 5
          refine tr_env (es_cons (t := 0) (OT.tmp rfl) (es_cons (t := 2) (OT.tmp rfl) (es_cons (t := 3) (OT.tmp rfl) (es_cons (t := 4) (OT.tmp rfl) (es_cons (t := 10) (OT.tmp rfl) (es_cons (t := 11) (OT.tmp rfl) es_nil)))))) ?_
          rw [hch]
          apply tr_any (m := 13) (ns := [[(4, none)], [(0, none)], [(3, none)], [(10, none)], [(45, some 2), (46, some 3)], [(44, some 1), (47, some 4)], [(48, some 5)], [(0, none)], [(3, none)], [(11, none)], [(51, some 8), (52, some 9)], [(50, some 7), (53, some 10)], [(54, some 11)]]) (by kernel_rfl) (by kernel_rfl) (Ts := [_, _, _, _, _, _, _, _, _, _, _, _, _]) rfl
          case hops =>
            refine ⟨?_, ⟨?_, ⟨?_, ⟨?_, ⟨?_, ⟨?_, ⟨?_, ⟨?_, ⟨?_, ⟨?_, ⟨?_, ⟨?_, ⟨?_, trivial⟩⟩⟩⟩⟩⟩⟩⟩⟩⟩⟩⟩⟩
            · exact rop_pure rfl (pu_move (OT.tmp rfl))
            · exact rop_pure rfl (pu_move (OT.tmp rfl))
            · exact rop_pure rfl (pu_move (OT.tmp rfl))
            · exact rop_pure rfl (pu_move (OT.tmp rfl))
            · exact rop_pure rfl (pu_add' (OT.tmp rfl) (OT.tmp rfl) (by omega))
            · exact rop_pure rfl (pu_index_own (OT.tmp rfl) (by exact mem_at 0 rfl) (OT.tmp rfl) Try.underlying40 (show tyOk Try.prog 38 false 1 = true from by decide +kernel) (by omega) (by omega))
            · exact rop_pure rfl (pu_load_own0 (OT.tmp rfl) (by exact mem_at 0 rfl) (by omega) (by omega) (show tyOk Try.prog 38 false 1 = true from by decide +kernel))
            · exact rop_pure rfl (pu_move (OT.tmp rfl))
            · exact rop_pure rfl (pu_move (OT.tmp rfl))
            · exact rop_pure rfl (pu_move (OT.tmp rfl))
            · exact rop_pure rfl (pu_add' (OT.tmp rfl) (OT.tmp rfl) (by omega))
            · exact rop_pure rfl (pu_index_own (OT.tmp rfl) (by exact mem_at 0 rfl) (OT.tmp rfl) Try.underlying40 (show tyOk Try.prog 38 false 1 = true from by decide +kernel) (by omega) (by omega))
            · exact rop_pure rfl (pu_load_own0 (OT.tmp rfl) (by exact mem_at 0 rfl) (by omega) (by omega) (show tyOk Try.prog 38 false 1 = true from by decide +kernel))
          case h =>
            refine op_acts (acts_callv (OT.tmp rfl) (hfv _ _) (OTs.cons (OT.tmp rfl) (OTs.cons (OT.tmp rfl) OTs.nil)) (List.Perm.refl _)) (List.Perm.refl _) rfl rfl (fun _ _ => ?_)
            refine op_pure (pu_lss (OT.tmp rfl) OT.const) rfl rfl ?_
            refine op_pure (pu_not (OT.tmp rfl)) rfl rfl ?_
            refine tr_nil ?_
            refine then_normal ?_
            refine tr_cond (OT.tmp rfl) (fun c58 => ?_) (fun c58 => ?_)
            · try simp only [decide_eq_true_eq, decide_eq_false_iff_not, Bool.or_eq_true, Bool.and_eq_true, Bool.or_eq_false_iff, Bool.and_eq_false_iff, Bool.not_eq_true', Bool.not_eq_false', ne_eq, Classical.not_not] at c58
              have hfin : d1 = Sort.siftDown (ltc c) hi first lo d := by
                rw [if_pos (by rw [ltc_at (by omega) (by omega), show ((first + root : Nat) : Int) = (first : Int) + root from by omega, show ((first + ch : Nat) : Int) = (first : Int) + ch from by omega]; simpa using c58)] at hstep
                exact hstep.symm.trans hr
              refine tr_ret ?_
              refine then_ret ?_
              refine block_ret ?_
              refine then_ret ?_
              refine block_ret ?_
              exact ret_none .ret (.inl rfl) rfl () (fun _ => trivial) trivial (by rw [← hfin]; exact picks_cons 0 rfl picks_nil)
            · try simp only [decide_eq_true_eq, decide_eq_false_iff_not, Bool.or_eq_true, Bool.and_eq_true, Bool.or_eq_false_iff, Bool.and_eq_false_iff, Bool.not_eq_true', Bool.not_eq_false', ne_eq, Classical.not_not] at c58
              have hnx : Sort.siftDown (ltc c) hi first ch (Sort.swp d1 (first + root) (first + ch)) = Sort.siftDown (ltc c) hi first lo d := by
                rw [if_neg (by rw [ltc_at (by omega) (by omega), show ((first + root : Nat) : Int) = (first : Int) + root from by omega, show ((first + ch : Nat) : Int) = (first : Int) + ch from by omega]; simpa using c58)] at hstep
                exact hstep.symm.trans hr
              have hsw : (Sort.swp d1 (first + root) (first + ch)).toList = (d1.toList.set ((first : Int) + root).toNat (at' d1.toList ((first : Int) + ch))).set ((first : Int) + ch).toNat (at' d1.toList ((first : Int) + root)) := by
                rw [swp_items (by omega) (by omega) (by omega) (by omega)]; congr 2
              refine tr_skip ?_
              refine then_normal ?_
              refine tr_seq ?_
              -- region 6
              refine tr_env (es_cons (t := 0) (OT.tmp rfl) (es_cons (t := 2) (OT.tmp rfl) (es_cons (t := 3) (OT.tmp rfl) (es_cons (t := 4) (OT.tmp rfl) (es_cons (t := 10) (OT.tmp rfl) (es_cons (t := 11) (OT.tmp rfl) es_nil)))))) ?_
              apply tr_anyW (p := 21) (Lf := fun c => cond c ([OwnI 38 (kF K0 n0) v (d1.toList.set ((first : Int) + root).toNat (at' d1.toList ((first : Int) + ch)))]) ([OwnI 38 (kF K0 n0) v d1.toList])) (by kernel_rfl) (m := 22) (ns := [[(0, none)], [(3, none)], [(10, none)], [(60, some 1), (61, some 2)], [(0, none)], [(3, none)], [(11, none)], [(64, some 5), (65, some 6)], [(0, none)], [(3, none)], [(11, none)], [(68, some 9), (69, some 10)], [(67, some 8), (70, some 11)], [(71, some 12)], [(0, none)], [(3, none)], [(10, none)], [(74, some 15), (75, some 16)], [(73, some 14), (76, some 17)], [(77, some 18)], [(59, some 0), (62, some 3)], [(72, some 13), (79, some 20)]]) (by kernel_rfl) (by kernel_rfl) (Ts := [_, _, _, _, _, _, _, _, _, _, _, _, _, _, _, _, _, _, _, _, _, _]) rfl
              case hops =>
                refine ⟨?_, ⟨?_, ⟨?_, ⟨?_, ⟨?_, ⟨?_, ⟨?_, ⟨?_, ⟨?_, ⟨?_, ⟨?_, ⟨?_, ⟨?_, ⟨?_, ⟨?_, ⟨?_, ⟨?_, ⟨?_, ⟨?_, ⟨?_, ⟨?_, ⟨?_, trivial⟩⟩⟩⟩⟩⟩⟩⟩⟩⟩⟩⟩⟩⟩⟩⟩⟩⟩⟩⟩⟩⟩
                · intro c hc; cases c
                  · exact ropw_of (rop_pure rfl (pu_move (OT.tmp rfl)))
                  · exact Bool.noConfusion (hc.symm.trans (by kernel_rfl : okFlag _ _ _ _ = false))
                · intro c hc; cases c
                  · exact ropw_of (rop_pure rfl (pu_move (OT.tmp rfl)))
                  · exact Bool.noConfusion (hc.symm.trans (by kernel_rfl : okFlag _ _ _ _ = false))
                · intro c hc; cases c
                  · exact ropw_of (rop_pure rfl (pu_move (OT.tmp rfl)))
                  · exact Bool.noConfusion (hc.symm.trans (by kernel_rfl : okFlag _ _ _ _ = false))
                · intro c hc; cases c
                  · exact ropw_of (rop_pure rfl (pu_add' (OT.tmp rfl) (OT.tmp rfl) (by omega)))
                  · exact Bool.noConfusion (hc.symm.trans (by kernel_rfl : okFlag _ _ _ _ = false))
                · intro c hc; cases c
                  · exact ropw_of (rop_pure rfl (pu_move (OT.tmp rfl)))
                  · exact ropw_of (rop_pure rfl (pu_move (OT.tmp rfl)))
                · intro c hc; cases c
                  · exact ropw_of (rop_pure rfl (pu_move (OT.tmp rfl)))
                  · exact ropw_of (rop_pure rfl (pu_move (OT.tmp rfl)))
                · intro c hc; cases c
                  · exact ropw_of (rop_pure rfl (pu_move (OT.tmp rfl)))
                  · exact ropw_of (rop_pure rfl (pu_move (OT.tmp rfl)))
                · intro c hc; cases c
                  · exact ropw_of (rop_pure rfl (pu_add' (OT.tmp rfl) (OT.tmp rfl) (by omega)))
                  · exact ropw_of (rop_pure rfl (pu_add' (OT.tmp rfl) (OT.tmp rfl) (by omega)))
                · intro c hc; cases c
                  · exact ropw_of (rop_pure rfl (pu_move (OT.tmp rfl)))
                  · exact Bool.noConfusion (hc.symm.trans (by kernel_rfl : okFlag _ _ _ _ = false))
                · intro c hc; cases c
                  · exact ropw_of (rop_pure rfl (pu_move (OT.tmp rfl)))
                  · exact Bool.noConfusion (hc.symm.trans (by kernel_rfl : okFlag _ _ _ _ = false))
                · intro c hc; cases c
                  · exact ropw_of (rop_pure rfl (pu_move (OT.tmp rfl)))
                  · exact Bool.noConfusion (hc.symm.trans (by kernel_rfl : okFlag _ _ _ _ = false))
                · intro c hc; cases c
                  · exact ropw_of (rop_pure rfl (pu_add' (OT.tmp rfl) (OT.tmp rfl) (by omega)))
                  · exact Bool.noConfusion (hc.symm.trans (by kernel_rfl : okFlag _ _ _ _ = false))
                · intro c hc; cases c
                  · exact ropw_of (rop_pure rfl (pu_index_own (OT.tmp rfl) (by exact mem_at 0 rfl) (OT.tmp rfl) Try.underlying40 (show tyOk Try.prog 38 false 1 = true from by decide +kernel) (by omega) (by omega)))
                  · exact Bool.noConfusion (hc.symm.trans (by kernel_rfl : okFlag _ _ _ _ = false))
                · intro c hc; cases c
                  · exact ropw_of (rop_pure rfl (pu_load_own0 (OT.tmp rfl) (by exact mem_at 0 rfl) (by omega) (by omega) (show tyOk Try.prog 38 false 1 = true from by decide +kernel)))
                  · exact Bool.noConfusion (hc.symm.trans (by kernel_rfl : okFlag _ _ _ _ = false))
                · intro c hc; cases c
                  · exact ropw_of (rop_pure rfl (pu_move (OT.tmp rfl)))
                  · exact Bool.noConfusion (hc.symm.trans (by kernel_rfl : okFlag _ _ _ _ = false))
                · intro c hc; cases c
                  · exact ropw_of (rop_pure rfl (pu_move (OT.tmp rfl)))
                  · exact Bool.noConfusion (hc.symm.trans (by kernel_rfl : okFlag _ _ _ _ = false))
                · intro c hc; cases c
                  · exact ropw_of (rop_pure rfl (pu_move (OT.tmp rfl)))
                  · exact Bool.noConfusion (hc.symm.trans (by kernel_rfl : okFlag _ _ _ _ = false))
                · intro c hc; cases c
                  · exact ropw_of (rop_pure rfl (pu_add' (OT.tmp rfl) (OT.tmp rfl) (by omega)))
                  · exact Bool.noConfusion (hc.symm.trans (by kernel_rfl : okFlag _ _ _ _ = false))
                · intro c hc; cases c
                  · exact ropw_of (rop_pure rfl (pu_index_own (OT.tmp rfl) (by exact mem_at 0 rfl) (OT.tmp rfl) Try.underlying40 (show tyOk Try.prog 38 false 1 = true from by decide +kernel) (by omega) (by omega)))
                  · exact Bool.noConfusion (hc.symm.trans (by kernel_rfl : okFlag _ _ _ _ = false))
                · intro c hc; cases c
                  · exact ropw_of (rop_pure rfl (pu_load_own0 (OT.tmp rfl) (by exact mem_at 0 rfl) (by omega) (by omega) (show tyOk Try.prog 38 false 1 = true from by decide +kernel)))
                  · exact Bool.noConfusion (hc.symm.trans (by kernel_rfl : okFlag _ _ _ _ = false))
                · intro c hc; cases c
                  · exact ropw_of (rop_pure rfl (pu_index_own (OT.tmp rfl) (by exact mem_at 0 rfl) (OT.tmp rfl) Try.underlying40 (show tyOk Try.prog 38 false 1 = true from by decide +kernel) (by omega) (by omega)))
                  · exact Bool.noConfusion (hc.symm.trans (by kernel_rfl : okFlag _ _ _ _ = false))
                · intro c hc; cases c
                  · exact ropw_acts rfl (acts_store_own0 (OT.tmp rfl) (OT.tmp rfl) (by exact perm_at 0 rfl) (by omega) (by omega) (show tyOk Try.prog 38 false 1 = true from by decide +kernel)) (by exact perm_at 0 rfl) (fun _ => (by exact perm_at 0 rfl)) (fun _ _ _ _ h => h)
                  · exact Bool.noConfusion (hc.symm.trans (by kernel_rfl : okFlag _ _ _ _ = false))
              case h =>
                refine op_pure (pu_index_own (OT.tmp rfl) (by exact mem_at 0 rfl) (OT.tmp rfl) Try.underlying40 (show tyOk Try.prog 38 false 1 = true from by decide +kernel) (by omega) (by (simp; omega))) rfl rfl ?_
                refine op_acts (acts_store_own0 (OT.tmp rfl) (OT.tmp rfl) (by exact perm_at 0 rfl) (by omega) (by (simp; omega)) (show tyOk Try.prog 38 false 1 = true from by decide +kernel)) (by exact perm_at 0 rfl) rfl rfl (fun _ _ => ?_)
                refine tr_nil ?_
                refine then_normal ?_
                -- region 7
                refine tr_env (es_cons (t := 0) (OT.tmp rfl) (es_cons (t := 2) (OT.tmp rfl) (es_cons (t := 3) (OT.tmp rfl) (es_cons (t := 4) (OT.tmp rfl) (es_cons (t := 11) (OT.tmp rfl) es_nil))))) ?_
                refine tr_region ?_
                refine op_pure (pu_move (OT.tmp rfl)) rfl rfl ?_
                refine op_pure (pu_assign (OT.tmp rfl)) rfl rfl ?_
                refine tr_nil ?_
                refine block_normal ?_
                refine then_normal ?_
                exact tr_again (ch, Sort.swp d1 (first + root) (first + ch)) ⟨by show ch ≤ hi; omega, swp_size.trans hs1, hnx⟩ (by show hi - ch < hi - root; omega) (es_append (es_cons (t := 10) (by exact OT.tmp rfl) es_nil) (es_cons (t := 0) (OT.tmp rfl) (es_cons (t := 2) (OT.tmp rfl) (es_cons (t := 3) (OT.tmp rfl) (es_cons (t := 4) (OT.tmp rfl) es_nil))))) (own_picks (by rw [hsw]; exact (by repeat (first | exact picks_nil | refine picks_cons 0 rfl ?_ | refine picks_cons 1 rfl ?_ | refine picks_cons 2 rfl ?_ | refine picks_cons 3 rfl ?_ | refine picks_cons 4 rfl ?_ | refine picks_cons 5 rfl ?_ | refine picks_cons 6 rfl ?_))))
set_option maxHeartbeats 1000000 in
set_option maxRecDepth 20000 in
/-- slices.heapSortCmpFunc[rhizome/api.Tuple] -/
theorem heap_fn (v fv : Value) (d : DA) (a b : Nat) (c : List Int → List Int → Int) (hm : d.size < 4611686018427387904) (hab : a < b) (hb : b ≤ d.size) (hfv : ∀ x y, CtV Try.prog fv [(kF K0 n0).T x, (kF K0 n0).T y] [] Unit (fun _ => I64 (c x y)) (fun _ => []) (fun _ => True)) : Ct Try.prog 81 [IsV v, I64 (a : Int), I64 (b : Int), IsV fv] ([OwnI 38 (kF K0 n0) v d.toList]) Unit (fun _ => AnyT) (fun _ => [OwnI 38 (kF K0 n0) v (Sort.heapSort (ltc c) d a b).toList]) (fun _ => True) := by
  refine fn_intro Try.func81 rfl rfl ?_
  intro H w
  refine tr_seq ?_
  -- region 0
  refine tr_env (es_cons (t := 0) (OT.tmp rfl) (es_cons (t := 1) (OT.tmp rfl) (es_cons (t := 2) (OT.tmp rfl) (es_cons (t := 3) (OT.tmp rfl) es_nil)))) ?_
  refine tr_region ?_
  refine op_pure (pu_move (OT.tmp rfl)) rfl rfl ?_
  refine op_pure (pu_assign (OT.tmp rfl)) rfl rfl ?_
  refine tr_nil ?_
  refine then_normal ?_
  refine tr_seq ?_
  -- region 1
  refine tr_env (es_cons (t := 0) (OT.tmp rfl) (es_cons (t := 1) (OT.tmp rfl) (es_cons (t := 2) (OT.tmp rfl) (es_cons (t := 3) (OT.tmp rfl) (es_cons (t := 8) (OT.tmp rfl) es_nil))))) ?_
  refine tr_region ?_
  refine op_pure (pu_assign OT.const) rfl rfl ?_
  refine tr_nil ?_
  refine then_normal ?_
  refine tr_seq ?_
  -- region 2
  refine tr_env (es_cons (t := 0) (OT.tmp rfl) (es_cons (t := 1) (OT.tmp rfl) (es_cons (t := 2) (OT.tmp rfl) (es_cons (t := 3) (OT.tmp rfl) (es_cons (t := 8) (OT.tmp rfl) (es_cons (t := 9) (OT.tmp rfl) es_nil)))))) ?_
  refine tr_region ?_
  refine op_pure (pu_move (OT.tmp rfl)) rfl rfl ?_
  refine op_pure (pu_move (OT.tmp rfl)) rfl rfl ?_
  refine op_pure (pu_sub' (OT.tmp rfl) (OT.tmp rfl) (by omega)) rfl rfl ?_
  refine op_pure (pu_assign (OT.tmp rfl)) rfl rfl ?_
  refine tr_nil ?_
  refine then_normal ?_
  refine tr_seq ?_
  refine tr_seq ?_
  -- region 3
  refine tr_env (es_cons (t := 0) (OT.tmp rfl) (es_cons (t := 3) (OT.tmp rfl) (es_cons (t := 8) (OT.tmp rfl) (es_cons (t := 9) (OT.tmp rfl) (es_cons (t := 10) (OT.tmp rfl) es_nil))))) ?_
  rw [show (b : Int) - a = ((b - a : Nat) : Int) from by omega]
  obtain ⟨n, hn⟩ : ∃ n : Nat, b - a = n := ⟨_, rfl⟩
  rw [hn]
  refine tr_region ?_
  refine op_pure (pu_move (OT.tmp rfl)) rfl rfl ?_
  refine op_pure (pu_sub' (OT.tmp rfl) OT.const (by omega)) rfl rfl ?_
  refine op_pure (pu_quo' (OT.tmp rfl) OT.const (by omega) (by omega)) rfl rfl ?_
  refine op_pure (pu_assign (OT.tmp rfl)) rfl rfl ?_
  refine tr_nil ?_
  refine then_normal ?_
  refine tr_block ?_
  refine tr_loopK (σ := Nat × DA) (es_cons (t := 0) (OT.tmp rfl) (es_cons (t := 3) (OT.tmp rfl) (es_cons (t := 8) (OT.tmp rfl) (es_cons (t := 9) (OT.tmp rfl) (es_cons (t := 10) (OT.tmp rfl) es_nil))))) (fun s => [(11, I64 ((s.1 : Int) - 1))]) (fun s => [OwnI 38 (kF K0 n0) v s.2.toList]) (fun s => s.1 ≤ n ∧ s.2.size = d.size ∧ Sort.heapBuild (ltc c) n a s.1 s.2 = Sort.heapBuild (ltc c) n a ((n - 1) / 2 + 1) d) (fun s => s.1) ((n - 1) / 2 + 1, d) ⟨by show (n - 1) / 2 + 1 ≤ n; omega, rfl, rfl⟩ ?_ (own_picks (by repeat (first | exact picks_nil | refine picks_cons 0 rfl ?_ | refine picks_cons 1 rfl ?_ | refine picks_cons 2 rfl ?_ | refine picks_cons 3 rfl ?_ | refine picks_cons 4 rfl ?_ | refine picks_cons 5 rfl ?_ | refine picks_cons 6 rfl ?_))) ?_
  · exact (es_cons (t := 11) (by exact OT.val (OT.tmp rfl) (congrArg (Value.int _) (by omega))) es_nil)
  · rintro ⟨k, d1⟩ ⟨hk, hs1, hr⟩
    dsimp only at hk hs1 hr ⊢
    have hl1 : d1.toList.length = d1.size := Array.length_toList
    refine tr_seq ?_
    refine tr_seq ?_
    -- region 4
    refine tr_env (es_cons (t := 0) (OT.tmp rfl) (es_cons (t := 3) (OT.tmp rfl) (es_cons (t := 8) (OT.tmp rfl) (es_cons (t := 9) (OT.tmp rfl) (es_cons (t := 10) (OT.tmp rfl) (es_cons (t := 11) (OT.tmp rfl) es_nil)))))) ?_
    refine tr_region ?_
    refine op_pure (pu_move (OT.tmp rfl)) rfl rfl ?_
    refine op_pure (pu_geq (OT.tmp rfl) OT.const) rfl rfl ?_
    refine tr_nil ?_
    refine then_normal ?_
    refine tr_cond (OT.tmp rfl) (fun c21 => ?_) (fun c21 => ?_)
    · try simp only [decide_eq_true_eq, decide_eq_false_iff_not, Bool.or_eq_true, Bool.and_eq_true, Bool.or_eq_false_iff, Bool.and_eq_false_iff, Bool.not_eq_true', Bool.not_eq_false', ne_eq, Classical.not_not] at c21
      obtain ⟨k, rfl⟩ : ∃ k', k = k' + 1 := ⟨k - 1, by omega⟩
      rw [show ((k + 1 : Nat) : Int) - 1 = (k : Int) from by omega]
      refine tr_skip ?_
      refine then_normal ?_
      refine tr_seq ?_
      refine tr_block ?_
      -- region 6
      refine tr_env (es_cons (t := 0) (OT.tmp rfl) (es_cons (t := 3) (OT.tmp rfl) (es_cons (t := 8) (OT.tmp rfl) (es_cons (t := 9) (OT.tmp rfl) (es_cons (t := 10) (OT.tmp rfl) (es_cons (t := 11) (OT.tmp rfl) es_nil)))))) ?_
      refine tr_region ?_
      refine op_pure (pu_move (OT.tmp rfl)) rfl rfl ?_
      refine op_pure (pu_move (OT.tmp rfl)) rfl rfl ?_
      refine op_pure (pu_move (OT.tmp rfl)) rfl rfl ?_
      refine op_pure (pu_move (OT.tmp rfl)) rfl rfl ?_
      refine op_pure (pu_move (OT.tmp rfl)) rfl rfl ?_
      refine op_acts (acts_call (sift_fn v fv d1 k n a c (by omega) (by omega) (by omega) hfv) (show enters Try.prog 90 = true from by decide +kernel) (OTs.cons (OT.tmp rfl) (OTs.cons (OT.tmp rfl) (OTs.cons (OT.tmp rfl) (OTs.cons (OT.tmp rfl) (OTs.cons (OT.tmp rfl) OTs.nil))))) (by exact perm_at 0 rfl)) (by exact perm_at 0 rfl) rfl rfl (fun _ _ => ?_)
      refine tr_nil ?_
      refine block_normal ?_
      refine then_normal ?_
      -- region 5
      refine tr_env (es_cons (t := 0) (OT.tmp rfl) (es_cons (t := 3) (OT.tmp rfl) (es_cons (t := 8) (OT.tmp rfl) (es_cons (t := 9) (OT.tmp rfl) (es_cons (t := 10) (OT.tmp rfl) (es_cons (t := 11) (OT.tmp rfl) es_nil)))))) ?_
      refine tr_region ?_
      refine op_pure (pu_move (OT.tmp rfl)) rfl rfl ?_
      refine op_pure (pu_sub' (OT.tmp rfl) OT.const (by omega)) rfl rfl ?_
      refine op_pure (pu_assign (OT.tmp rfl)) rfl rfl ?_
      refine tr_nil ?_
      refine then_normal ?_
      exact tr_again (k, Sort.siftDown (ltc c) n a k d1) ⟨by show k ≤ n; omega, (sift_size _ _ _ _).trans hs1, hr⟩ (by omega) (es_append (es_cons (t := 11) (by exact OT.tmp rfl) es_nil) (es_cons (t := 0) (OT.tmp rfl) (es_cons (t := 3) (OT.tmp rfl) (es_cons (t := 8) (OT.tmp rfl) (es_cons (t := 9) (OT.tmp rfl) (es_cons (t := 10) (OT.tmp rfl) es_nil)))))) (own_picks (by repeat (first | exact picks_nil | refine picks_cons 0 rfl ?_ | refine picks_cons 1 rfl ?_ | refine picks_cons 2 rfl ?_ | refine picks_cons 3 rfl ?_ | refine picks_cons 4 rfl ?_ | refine picks_cons 5 rfl ?_ | refine picks_cons 6 rfl ?_)))
    · try simp only [decide_eq_true_eq, decide_eq_false_iff_not, Bool.or_eq_true, Bool.and_eq_true, Bool.or_eq_false_iff, Bool.and_eq_false_iff, Bool.not_eq_true', Bool.not_eq_false', ne_eq, Classical.not_not] at c21
      obtain rfl : k = 0 := by omega
      refine tr_exit ?_
      refine then_exit ?_
      refine then_exit ?_
      refine block_hit ?_
      refine then_normal ?_
      refine tr_seq ?_
      -- region 7
      refine tr_env (es_cons (t := 0) (OT.tmp rfl) (es_cons (t := 3) (OT.tmp rfl) (es_cons (t := 8) (OT.tmp rfl) (es_cons (t := 9) (OT.tmp rfl) (es_cons (t := 10) (OT.tmp rfl) es_nil))))) ?_
      refine tr_region ?_
      refine op_pure (pu_move (OT.tmp rfl)) rfl rfl ?_
      refine op_pure (pu_sub' (OT.tmp rfl) OT.const (by omega)) rfl rfl ?_
      refine op_pure (pu_assign (OT.tmp rfl)) rfl rfl ?_
      refine tr_nil ?_
      refine then_normal ?_
      refine tr_block ?_
      refine tr_loopK (σ := Nat × DA) (es_cons (t := 0) (OT.tmp rfl) (es_cons (t := 3) (OT.tmp rfl) (es_cons (t := 8) (OT.tmp rfl) (es_cons (t := 9) (OT.tmp rfl) es_nil)))) (fun s => [(12, I64 ((s.1 : Int) - 1))]) (fun s => [OwnI 38 (kF K0 n0) v s.2.toList]) (fun s => s.1 ≤ n ∧ s.2.size = d.size ∧ Sort.heapPop (ltc c) a s.1 s.2 = Sort.heapSort (ltc c) d a b) (fun s => s.1) (n, d1) ⟨Nat.le_refl _, hs1, by show Sort.heapPop (ltc c) a n d1 = _; rw [heap_eq hab, hn, ← hr]; rfl⟩ ?_ (own_picks (by repeat (first | exact picks_nil | refine picks_cons 0 rfl ?_ | refine picks_cons 1 rfl ?_ | refine picks_cons 2 rfl ?_ | refine picks_cons 3 rfl ?_ | refine picks_cons 4 rfl ?_ | refine picks_cons 5 rfl ?_ | refine picks_cons 6 rfl ?_))) ?_
      · exact (es_cons (t := 12) (by exact OT.tmp rfl) es_nil)
      · rintro ⟨k2, d2⟩ ⟨hk2, hs2, hr2⟩
        dsimp only at hk2 hs2 hr2 ⊢
        have hl2 : d2.toList.length = d2.size := Array.length_toList
        refine tr_seq ?_
        refine tr_seq ?_
        -- region 8
        refine tr_env (es_cons (t := 0) (OT.tmp rfl) (es_cons (t := 3) (OT.tmp rfl) (es_cons (t := 8) (OT.tmp rfl) (es_cons (t := 9) (OT.tmp rfl) (es_cons (t := 12) (OT.tmp rfl) es_nil))))) ?_
        refine tr_region ?_
        refine op_pure (pu_move (OT.tmp rfl)) rfl rfl ?_
        refine op_pure (pu_geq (OT.tmp rfl) OT.const) rfl rfl ?_
        refine tr_nil ?_
        refine then_normal ?_
        refine tr_cond (OT.tmp rfl) (fun c33 => ?_) (fun c33 => ?_)
        · try simp only [decide_eq_true_eq, decide_eq_false_iff_not, Bool.or_eq_true, Bool.and_eq_true, Bool.or_eq_false_iff, Bool.and_eq_false_iff, Bool.not_eq_true', Bool.not_eq_false', ne_eq, Classical.not_not] at c33
          obtain ⟨k2, rfl⟩ : ∃ k', k2 = k' + 1 := ⟨k2 - 1, by omega⟩
          rw [show ((k2 + 1 : Nat) : Int) - 1 = (k2 : Int) from by omega]
          have hsw : (Sort.swp d2 a (a + k2)).toList = (d2.toList.set (a : Int).toNat (at' d2.toList ((a : Int) + k2))).set ((a : Int) + k2).toNat (at' d2.toList (a : Int)) := by
            rw [swp_items (by omega) (by omega) (by omega) (by omega)]; congr 2
          refine tr_skip ?_
          refine then_normal ?_
          refine tr_seq ?_
          refine tr_block ?_
          refine tr_seq ?_
          -- region 10
          refine tr_env (es_cons (t := 0) (OT.tmp rfl) (es_cons (t := 3) (OT.tmp rfl) (es_cons (t := 8) (OT.tmp rfl) (es_cons (t := 9) (OT.tmp rfl) (es_cons (t := 12) (OT.tmp rfl) es_nil))))) ?_
          apply tr_anyW (p := 17) (Lf := fun c => cond c ([OwnI 38 (kF K0 n0) v (d2.toList.set (a : Int).toNat (at' d2.toList ((a : Int) + k2)))]) ([OwnI 38 (kF K0 n0) v d2.toList])) (by kernel_rfl) (m := 18) (ns := [[(0, none)], [(8, none)], [(0, none)], [(8, none)], [(12, none)], [(39, some 3), (40, some 4)], [(0, none)], [(8, none)], [(12, none)], [(43, some 7), (44, some 8)], [(42, some 6), (45, some 9)], [(46, some 10)], [(0, none)], [(8, none)], [(48, some 12), (49, some 13)], [(50, some 14)], [(36, some 0), (37, some 1)], [(47, some 11), (52, some 16)]]) (by kernel_rfl) (by kernel_rfl) (Ts := [_, _, _, _, _, _, _, _, _, _, _, _, _, _, _, _, _, _]) rfl
          case hops =>
            refine ⟨?_, ⟨?_, ⟨?_, ⟨?_, ⟨?_, ⟨?_, ⟨?_, ⟨?_, ⟨?_, ⟨?_, ⟨?_, ⟨?_, ⟨?_, ⟨?_, ⟨?_, ⟨?_, ⟨?_, ⟨?_, trivial⟩⟩⟩⟩⟩⟩⟩⟩⟩⟩⟩⟩⟩⟩⟩⟩⟩⟩
            · intro c hc; cases c
              · exact ropw_of (rop_pure rfl (pu_move (OT.tmp rfl)))
              · exact Bool.noConfusion (hc.symm.trans (by kernel_rfl : okFlag _ _ _ _ = false))
            · intro c hc; cases c
              · exact ropw_of (rop_pure rfl (pu_move (OT.tmp rfl)))
              · exact Bool.noConfusion (hc.symm.trans (by kernel_rfl : okFlag _ _ _ _ = false))
            · intro c hc; cases c
              · exact ropw_of (rop_pure rfl (pu_move (OT.tmp rfl)))
              · exact ropw_of (rop_pure rfl (pu_move (OT.tmp rfl)))
            · intro c hc; cases c
              · exact ropw_of (rop_pure rfl (pu_move (OT.tmp rfl)))
              · exact ropw_of (rop_pure rfl (pu_move (OT.tmp rfl)))
            · intro c hc; cases c
              · exact ropw_of (rop_pure rfl (pu_move (OT.tmp rfl)))
              · exact ropw_of (rop_pure rfl (pu_move (OT.tmp rfl)))
            · intro c hc; cases c
              · exact ropw_of (rop_pure rfl (pu_add' (OT.tmp rfl) (OT.tmp rfl) (by omega)))
              · exact ropw_of (rop_pure rfl (pu_add' (OT.tmp rfl) (OT.tmp rfl) (by omega)))
            · intro c hc; cases c
              · exact ropw_of (rop_pure rfl (pu_move (OT.tmp rfl)))
              · exact Bool.noConfusion (hc.symm.trans (by kernel_rfl : okFlag _ _ _ _ = false))
            · intro c hc; cases c
              · exact ropw_of (rop_pure rfl (pu_move (OT.tmp rfl)))
              · exact Bool.noConfusion (hc.symm.trans (by kernel_rfl : okFlag _ _ _ _ = false))
            · intro c hc; cases c
              · exact ropw_of (rop_pure rfl (pu_move (OT.tmp rfl)))
              · exact Bool.noConfusion (hc.symm.trans (by kernel_rfl : okFlag _ _ _ _ = false))
            · intro c hc; cases c
              · exact ropw_of (rop_pure rfl (pu_add' (OT.tmp rfl) (OT.tmp rfl) (by omega)))
              · exact Bool.noConfusion (hc.symm.trans (by kernel_rfl : okFlag _ _ _ _ = false))
            · intro c hc; cases c
              · exact ropw_of (rop_pure rfl (pu_index_own (OT.tmp rfl) (by exact mem_at 0 rfl) (OT.tmp rfl) Try.underlying40 (show tyOk Try.prog 38 false 1 = true from by decide +kernel) (by omega) (by omega)))
              · exact Bool.noConfusion (hc.symm.trans (by kernel_rfl : okFlag _ _ _ _ = false))
            · intro c hc; cases c
              · exact ropw_of (rop_pure rfl (pu_load_own0 (OT.tmp rfl) (by exact mem_at 0 rfl) (by omega) (by omega) (show tyOk Try.prog 38 false 1 = true from by decide +kernel)))
              · exact Bool.noConfusion (hc.symm.trans (by kernel_rfl : okFlag _ _ _ _ = false))
            · intro c hc; cases c
              · exact ropw_of (rop_pure rfl (pu_move (OT.tmp rfl)))
              · exact Bool.noConfusion (hc.symm.trans (by kernel_rfl : okFlag _ _ _ _ = false))
            · intro c hc; cases c
              · exact ropw_of (rop_pure rfl (pu_move (OT.tmp rfl)))
              · exact Bool.noConfusion (hc.symm.trans (by kernel_rfl : okFlag _ _ _ _ = false))
            · intro c hc; cases c
              · exact ropw_of (rop_pure rfl (pu_index_own (OT.tmp rfl) (by exact mem_at 0 rfl) (OT.tmp rfl) Try.underlying40 (show tyOk Try.prog 38 false 1 = true from by decide +kernel) (by omega) (by omega)))
              · exact Bool.noConfusion (hc.symm.trans (by kernel_rfl : okFlag _ _ _ _ = false))
            · intro c hc; cases c
              · exact ropw_of (rop_pure rfl (pu_load_own0 (OT.tmp rfl) (by exact mem_at 0 rfl) (by omega) (by omega) (show tyOk Try.prog 38 false 1 = true from by decide +kernel)))
              · exact Bool.noConfusion (hc.symm.trans (by kernel_rfl : okFlag _ _ _ _ = false))
            · intro c hc; cases c
              · exact ropw_of (rop_pure rfl (pu_index_own (OT.tmp rfl) (by exact mem_at 0 rfl) (OT.tmp rfl) Try.underlying40 (show tyOk Try.prog 38 false 1 = true from by decide +kernel) (by omega) (by omega)))
              · exact Bool.noConfusion (hc.symm.trans (by kernel_rfl : okFlag _ _ _ _ = false))
            · intro c hc; cases c
              · exact ropw_acts rfl (acts_store_own0 (OT.tmp rfl) (OT.tmp rfl) (by exact perm_at 0 rfl) (by omega) (by omega) (show tyOk Try.prog 38 false 1 = true from by decide +kernel)) (by exact perm_at 0 rfl) (fun _ => (by exact perm_at 0 rfl)) (fun _ _ _ _ h => h)
              · exact Bool.noConfusion (hc.symm.trans (by kernel_rfl : okFlag _ _ _ _ = false))
          case h =>
            refine op_pure (pu_index_own (OT.tmp rfl) (by exact mem_at 0 rfl) (OT.tmp rfl) Try.underlying40 (show tyOk Try.prog 38 false 1 = true from by decide +kernel) (by omega) (by (simp; omega))) rfl rfl ?_
            refine op_acts (acts_store_own0 (OT.tmp rfl) (OT.tmp rfl) (by exact perm_at 0 rfl) (by omega) (by (simp; omega)) (show tyOk Try.prog 38 false 1 = true from by decide +kernel)) (by exact perm_at 0 rfl) rfl rfl (fun _ _ => ?_)
            refine tr_nil ?_
            refine then_normal ?_
            -- region 11
            refine tr_env (es_cons (t := 0) (OT.tmp rfl) (es_cons (t := 3) (OT.tmp rfl) (es_cons (t := 8) (OT.tmp rfl) (es_cons (t := 9) (OT.tmp rfl) (es_cons (t := 12) (OT.tmp rfl) es_nil))))) ?_
            rw [← hsw]
            refine tr_region ?_
            refine op_pure (pu_move (OT.tmp rfl)) rfl rfl ?_
            refine op_pure (pu_move (OT.tmp rfl)) rfl rfl ?_
            refine op_pure (pu_move (OT.tmp rfl)) rfl rfl ?_
            refine op_pure (pu_move (OT.tmp rfl)) rfl rfl ?_
            refine op_pure (pu_move (OT.tmp rfl)) rfl rfl ?_
            refine op_acts (acts_call (sift_fn v fv (Sort.swp d2 a (a + k2)) 0 k2 a c (by rw [swp_size]; omega) (by rw [swp_size]; omega) (by omega) hfv) (show enters Try.prog 90 = true from by decide +kernel) (OTs.cons (OT.tmp rfl) (OTs.cons (OT.tmp rfl) (OTs.cons (OT.tmp rfl) (OTs.cons (OT.tmp rfl) (OTs.cons (OT.tmp rfl) OTs.nil))))) (by exact perm_at 0 rfl)) (by exact perm_at 0 rfl) rfl rfl (fun _ _ => ?_)
            refine tr_nil ?_
            refine block_normal ?_
            refine then_normal ?_
            -- region 9
            refine tr_env (es_cons (t := 0) (OT.tmp rfl) (es_cons (t := 3) (OT.tmp rfl) (es_cons (t := 8) (OT.tmp rfl) (es_cons (t := 9) (OT.tmp rfl) (es_cons (t := 12) (OT.tmp rfl) es_nil))))) ?_
            refine tr_region ?_
            refine op_pure (pu_move (OT.tmp rfl)) rfl rfl ?_
            refine op_pure (pu_sub' (OT.tmp rfl) OT.const (by omega)) rfl rfl ?_
            refine op_pure (pu_assign (OT.tmp rfl)) rfl rfl ?_
            refine tr_nil ?_
            refine then_normal ?_
            exact tr_again (k2, Sort.siftDown (ltc c) k2 a 0 (Sort.swp d2 a (a + k2))) ⟨by show k2 ≤ n; omega, (sift_size _ _ _ _).trans (swp_size.trans hs2), hr2⟩ (by omega) (es_append (es_cons (t := 12) (by exact OT.tmp rfl) es_nil) (es_cons (t := 0) (OT.tmp rfl) (es_cons (t := 3) (OT.tmp rfl) (es_cons (t := 8) (OT.tmp rfl) (es_cons (t := 9) (OT.tmp rfl) es_nil))))) (own_picks (by repeat (first | exact picks_nil | refine picks_cons 0 rfl ?_ | refine picks_cons 1 rfl ?_ | refine picks_cons 2 rfl ?_ | refine picks_cons 3 rfl ?_ | refine picks_cons 4 rfl ?_ | refine picks_cons 5 rfl ?_ | refine picks_cons 6 rfl ?_)))
        · try simp only [decide_eq_true_eq, decide_eq_false_iff_not, Bool.or_eq_true, Bool.and_eq_true, Bool.or_eq_false_iff, Bool.and_eq_false_iff, Bool.not_eq_true', Bool.not_eq_false', ne_eq, Classical.not_not] at c33
          obtain rfl : k2 = 0 := by omega
          have hfin : d2 = Sort.heapSort (ltc c) d a b := hr2
          refine tr_exit ?_
          refine then_exit ?_
          refine then_exit ?_
          refine block_hit ?_
          exact ret_none .normal (.inr rfl) rfl () (fun _ => trivial) trivial (by rw [← hfin]; exact picks_cons 0 rfl picks_nil)
end Go.Proofs.Ytloblpklkhepbaa
