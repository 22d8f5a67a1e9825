/- Walks through the Go functions api.Tuple], as typed contracts. -/
import Derived.Test.YtloblpklkhepbaaSo3
namespace Go.Proofs.Ytloblpklkhepbaa
open Go Go.Gw Go.So
set_option linter.unusedVariables false
set_option linter.unusedSimpArgs false
variable {K0 : FH} {n0 : Nat}

set_option maxHeartbeats 1000000 in
set_option maxRecDepth 20000 in
/-- slices.partitionEqualCmpFunc[rhizome/api.Tuple] -/
theorem parteq_fn (v fv : Value) (d : DA) (a b pv : Nat) (c : List Int → List Int → Int) (hm : d.size < 4611686018427387904) (hap : a ≤ pv) (hpb : pv < b) (hb : b ≤ d.size) (hfv : ∀ x y, CtV Try.prog fv [(kF K0 n0).T x, (kF K0 n0).T y] [] Unit (fun _ => I64 (c x y)) (fun _ => []) (fun _ => True)) : Ct Try.prog 86 [IsV v, I64 (a : Int), I64 (b : Int), I64 (pv : Int), IsV fv] ([OwnI 38 (kF K0 n0) v d.toList]) Unit (fun _ => I64 ((Sort.partitionEqual (ltc c) d a b pv).1 : Int)) (fun _ => [OwnI 38 (kF K0 n0) v (Sort.partitionEqual (ltc c) d a b pv).2.toList]) (fun _ => True) := by
  refine fn_intro Try.func86 rfl rfl ?_
  intro H w
  have hl : d.toList.length = d.size := Array.length_toList
  refine tr_seq ?_
  -- region 0
  refine tr_env (es_cons (t := 0) (OT.tmp rfl) (es_cons (t := 1) (OT.tmp rfl) (es_cons (t := 2) (OT.tmp rfl) (es_cons (t := 3) (OT.tmp rfl) (es_cons (t := 4) (OT.tmp rfl) es_nil))))) ?_
  refine tr_region ?_
  refine op_pure (pu_assign OT.const) rfl rfl ?_
  refine tr_nil ?_
  refine then_normal ?_
  refine tr_seq ?_
  -- region 1
  refine tr_env (es_cons (t := 0) (OT.tmp rfl) (es_cons (t := 1) (OT.tmp rfl) (es_cons (t := 2) (OT.tmp rfl) (es_cons (t := 3) (OT.tmp rfl) (es_cons (t := 4) (OT.tmp rfl) es_nil))))) ?_
  apply tr_anyW (p := 13) (Lf := fun c => cond c ([OwnI 38 (kF K0 n0) v (d.toList.set (a : Int).toNat (at' d.toList (pv : Int)))]) ([OwnI 38 (kF K0 n0) v d.toList])) (by kernel_rfl) (m := 14) (ns := [[(0, none)], [(1, none)], [(0, none)], [(3, none)], [(0, none)], [(3, none)], [(17, some 4), (18, some 5)], [(19, some 6)], [(0, none)], [(1, none)], [(21, some 8), (22, some 9)], [(23, some 10)], [(13, some 0), (14, some 1)], [(20, some 7), (25, some 12)]]) (by kernel_rfl) (by kernel_rfl) (Ts := [_, _, _, _, _, _, _, _, _, _, _, _, _, _]) rfl
  case hops =>
    refine ⟨?_, ⟨?_, ⟨?_, ⟨?_, ⟨?_, ⟨?_, ⟨?_, ⟨?_, ⟨?_, ⟨?_, ⟨?_, ⟨?_, ⟨?_, ⟨?_, trivial⟩⟩⟩⟩⟩⟩⟩⟩⟩⟩⟩⟩⟩⟩
    · intro c hc; cases c
      · exact ropw_of (rop_pure rfl (pu_move (OT.tmp rfl)))
      · exact Bool.noConfusion (hc.symm.trans (by kernel_rfl : okFlag _ _ _ _ = false))
    · intro c hc; cases c
      · exact ropw_of (rop_pure rfl (pu_move (OT.tmp rfl)))
      · exact Bool.noConfusion (hc.symm.trans (by kernel_rfl : okFlag _ _ _ _ = false))
    · intro c hc; cases c
      · exact ropw_of (rop_pure rfl (pu_move (OT.tmp rfl)))
      · exact ropw_of (rop_pure rfl (pu_move (OT.tmp rfl)))
    · intro c hc; cases c
      · exact ropw_of (rop_pure rfl (pu_move (OT.tmp rfl)))
      · exact ropw_of (rop_pure rfl (pu_move (OT.tmp rfl)))
    · intro c hc; cases c
      · exact ropw_of (rop_pure rfl (pu_move (OT.tmp rfl)))
      · exact Bool.noConfusion (hc.symm.trans (by kernel_rfl : okFlag _ _ _ _ = false))
    · intro c hc; cases c
      · exact ropw_of (rop_pure rfl (pu_move (OT.tmp rfl)))
      · exact Bool.noConfusion (hc.symm.trans (by kernel_rfl : okFlag _ _ _ _ = false))
    · intro c hc; cases c
      · exact ropw_of (rop_pure rfl (pu_index_own (OT.tmp rfl) (by exact mem_at 0 rfl) (OT.tmp rfl) Try.underlying40 (show tyOk Try.prog 38 false 1 = true from by decide +kernel) (by omega) (by omega)))
      · exact Bool.noConfusion (hc.symm.trans (by kernel_rfl : okFlag _ _ _ _ = false))
    · intro c hc; cases c
      · exact ropw_of (rop_pure rfl (pu_load_own0 (OT.tmp rfl) (by exact mem_at 0 rfl) (by omega) (by omega) (show tyOk Try.prog 38 false 1 = true from by decide +kernel)))
      · exact Bool.noConfusion (hc.symm.trans (by kernel_rfl : okFlag _ _ _ _ = false))
    · intro c hc; cases c
      · exact ropw_of (rop_pure rfl (pu_move (OT.tmp rfl)))
      · exact Bool.noConfusion (hc.symm.trans (by kernel_rfl : okFlag _ _ _ _ = false))
    · intro c hc; cases c
      · exact ropw_of (rop_pure rfl (pu_move (OT.tmp rfl)))
      · exact Bool.noConfusion (hc.symm.trans (by kernel_rfl : okFlag _ _ _ _ = false))
    · intro c hc; cases c
      · exact ropw_of (rop_pure rfl (pu_index_own (OT.tmp rfl) (by exact mem_at 0 rfl) (OT.tmp rfl) Try.underlying40 (show tyOk Try.prog 38 false 1 = true from by decide +kernel) (by omega) (by omega)))
      · exact Bool.noConfusion (hc.symm.trans (by kernel_rfl : okFlag _ _ _ _ = false))
    · intro c hc; cases c
      · exact ropw_of (rop_pure rfl (pu_load_own0 (OT.tmp rfl) (by exact mem_at 0 rfl) (by omega) (by omega) (show tyOk Try.prog 38 false 1 = true from by decide +kernel)))
      · exact Bool.noConfusion (hc.symm.trans (by kernel_rfl : okFlag _ _ _ _ = false))
    · intro c hc; cases c
      · exact ropw_of (rop_pure rfl (pu_index_own (OT.tmp rfl) (by exact mem_at 0 rfl) (OT.tmp rfl) Try.underlying40 (show tyOk Try.prog 38 false 1 = true from by decide +kernel) (by omega) (by omega)))
      · exact Bool.noConfusion (hc.symm.trans (by kernel_rfl : okFlag _ _ _ _ = false))
    · intro c hc; cases c
      · exact ropw_acts rfl (acts_store_own0 (OT.tmp rfl) (OT.tmp rfl) (by exact perm_at 0 rfl) (by omega) (by omega) (show tyOk Try.prog 38 false 1 = true from by decide +kernel)) (by exact perm_at 0 rfl) (fun _ => (by exact perm_at 0 rfl)) (fun _ _ _ _ h => h)
      · exact Bool.noConfusion (hc.symm.trans (by kernel_rfl : okFlag _ _ _ _ = false))
  case h =>
    refine op_pure (pu_index_own (OT.tmp rfl) (by exact mem_at 0 rfl) (OT.tmp rfl) Try.underlying40 (show tyOk Try.prog 38 false 1 = true from by decide +kernel) (by omega) (by (simp; omega))) rfl rfl ?_
    refine op_acts (acts_store_own0 (OT.tmp rfl) (OT.tmp rfl) (by exact perm_at 0 rfl) (by omega) (by (simp; omega)) (show tyOk Try.prog 38 false 1 = true from by decide +kernel)) (by exact perm_at 0 rfl) rfl rfl (fun _ _ => ?_)
    refine tr_nil ?_
    refine then_normal ?_
    refine tr_seq ?_
    -- region 2
    refine tr_env (es_cons (t := 0) (OT.tmp rfl) (es_cons (t := 1) (OT.tmp rfl) (es_cons (t := 2) (OT.tmp rfl) (es_cons (t := 4) (OT.tmp rfl) es_nil)))) ?_
    rw [sw (by omega) (by omega)]
    have hs0 : (Sort.swp d a pv).size = d.size := swp_size
    refine tr_region ?_
    refine op_pure (pu_move (OT.tmp rfl)) rfl rfl ?_
    refine op_pure (pu_add' (OT.tmp rfl) OT.const (by omega)) rfl rfl ?_
    refine op_pure (pu_move (OT.tmp rfl)) rfl rfl ?_
    refine op_pure (pu_sub' (OT.tmp rfl) OT.const (by omega)) rfl rfl ?_
    refine op_pure (pu_assign (OT.tmp rfl)) rfl rfl ?_
    refine op_pure (pu_assign (OT.tmp rfl)) rfl rfl ?_
    refine tr_nil ?_
    refine then_normal ?_
    refine tr_seq ?_
    refine tr_block ?_
    rw [show (b : Int) - 1 = ((b - 1 : Nat) : Int) from by omega]
    refine tr_loopK (σ := Nat × Nat × DA) (es_cons (t := 0) (OT.tmp rfl) (es_cons (t := 1) (OT.tmp rfl) (es_cons (t := 4) (OT.tmp rfl) es_nil))) (fun s => [(11, I64 (s.1 : Int)), (12, I64 (s.2.1 : Int))]) (fun s => [OwnI 38 (kF K0 n0) v s.2.2.toList]) (fun s => s.2.2.size = d.size ∧ a + 1 ≤ s.1 ∧ s.1 ≤ s.2.1 + 1 ∧ s.2.1 < b ∧ Sort.partEqLoop (ltc c) a s.1 s.2.1 s.2.2 = (Sort.partitionEqual (ltc c) d a b pv)) (fun s => s.2.1 + 1 - s.1) (a + 1, b - 1, Sort.swp d a pv) ⟨hs0, Nat.le_refl _, by show a + 1 ≤ b - 1 + 1; omega, by show b - 1 < b; omega, rfl⟩ ?_ (own_picks (by repeat (first | exact picks_nil | refine picks_cons 0 rfl ?_ | refine picks_cons 1 rfl ?_ | refine picks_cons 2 rfl ?_ | refine picks_cons 3 rfl ?_ | refine picks_cons 4 rfl ?_ | refine picks_cons 5 rfl ?_ | refine picks_cons 6 rfl ?_))) ?_
    · exact (es_cons (t := 11) (by exact OT.tmp rfl) (es_cons (t := 12) (by exact OT.tmp rfl) es_nil))
    · rintro ⟨i1, j1, d1⟩ ⟨hs2, hi2, hij1, hjb, hr⟩
      dsimp only at hs2 hi2 hij1 hjb hr ⊢
      have hl1 : d1.toList.length = d1.size := Array.length_toList
      refine tr_block ?_
      refine tr_seq ?_
      refine tr_block ?_
      refine tr_loopK (σ := Nat) (es_cons (t := 0) (OT.tmp rfl) (es_cons (t := 1) (OT.tmp rfl) (es_cons (t := 4) (OT.tmp rfl) (es_cons (t := 12) (OT.tmp rfl) es_nil)))) (fun s => [(11, I64 (s : Int))]) (fun s => [OwnI 38 (kF K0 n0) v d1.toList]) (fun s => i1 ≤ s ∧ s ≤ j1 + 1 ∧ Sort.scanUp (fun x => !ltc c d1[a]! x) d1 (j1) s = Sort.scanUp (fun x => !ltc c d1[a]! x) d1 (j1) (i1)) (fun s => j1 + 1 - s) i1 ⟨by omega, by omega, rfl⟩ ?_ (own_picks (by repeat (first | exact picks_nil | refine picks_cons 0 rfl ?_ | refine picks_cons 1 rfl ?_ | refine picks_cons 2 rfl ?_ | refine picks_cons 3 rfl ?_ | refine picks_cons 4 rfl ?_ | refine picks_cons 5 rfl ?_ | refine picks_cons 6 rfl ?_))) ?_
      · exact (es_cons (t := 11) (by exact OT.tmp rfl) es_nil)
      · rintro i2 ⟨hi30, hi31, hi3⟩
        refine tr_seq ?_
        refine tr_seq ?_
        -- region 3
        refine tr_env (es_cons (t := 0) (OT.tmp rfl) (es_cons (t := 1) (OT.tmp rfl) (es_cons (t := 4) (OT.tmp rfl) (es_cons (t := 11) (OT.tmp rfl) (es_cons (t := 12) (OT.tmp rfl) es_nil))))) ?_
        apply tr_any (m := 13) (ns := [[(11, none)], [(12, none)], [(31, some 0), (32, some 1)], [(33, some 2)], [(4, none), (34, some 3)], [(0, none), (34, some 3)], [(1, none), (34, some 3)], [(34, some 3), (36, some 5), (37, some 6)], [(34, some 3), (38, some 7)], [(0, none), (34, some 3)], [(11, none), (34, some 3)], [(34, some 3), (40, some 9), (41, some 10)], [(34, some 3), (42, some 11)]]) (by kernel_rfl) (by kernel_rfl) (Ts := [_, _, _, _, _, _, _, _, _, _, _, _, _]) rfl
        case hops =>
          refine ⟨?_, ⟨?_, ⟨?_, ⟨?_, ⟨?_, ⟨?_, ⟨?_, ⟨?_, ⟨?_, ⟨?_, ⟨?_, ⟨?_, ⟨?_, trivial⟩⟩⟩⟩⟩⟩⟩⟩⟩⟩⟩⟩⟩
          · exact rop_pure rfl (pu_move (OT.tmp rfl))
          · exact rop_pure rfl (pu_move (OT.tmp rfl))
          · exact rop_pure rfl (pu_leq (OT.tmp rfl) (OT.tmp rfl))
          · exact rop_pure rfl (pu_move (OT.tmp rfl))
          · exact rop_gu rfl rfl rfl (OT.gu_mk (OT.tmp rfl)) (fun hg => by (have hg1 := hg.2; exact rop_pure rfl (pu_move (by exact OT.tmp rfl))))
          · exact rop_gu rfl rfl rfl (OT.gu_mk (OT.tmp rfl)) (fun hg => by (have hg1 := hg.2; exact rop_pure rfl (pu_move (by exact OT.tmp rfl))))
          · exact rop_gu rfl rfl rfl (OT.gu_mk (OT.tmp rfl)) (fun hg => by (have hg1 := hg.2; exact rop_pure rfl (pu_move (by exact OT.tmp rfl))))
          · exact rop_gu rfl rfl rfl (OT.gu_mk (OT.tmp rfl)) (fun hg => by (have hg1 := hg.2; exact rop_pure rfl (pu_index_own (by exact OT.gu (OT.tmp rfl) hg) (by exact mem_at 0 rfl) (by exact OT.gu (OT.tmp rfl) hg) Try.underlying40 (show tyOk Try.prog 38 false 1 = true from by decide +kernel) (by omega) (by omega))))
          · exact rop_gu rfl rfl rfl (OT.gu_mk (OT.tmp rfl)) (fun hg => by (have hg1 := hg.2; exact rop_pure rfl (pu_load_own0 (by exact OT.gu (OT.tmp rfl) hg) (by exact mem_at 0 rfl) (by omega) (by omega) (show tyOk Try.prog 38 false 1 = true from by decide +kernel))))
          · exact rop_gu rfl rfl rfl (OT.gu_mk (OT.tmp rfl)) (fun hg => by (have hg1 := hg.2; exact rop_pure rfl (pu_move (by exact OT.tmp rfl))))
          · exact rop_gu rfl rfl rfl (OT.gu_mk (OT.tmp rfl)) (fun hg => by (have hg1 := hg.2; exact rop_pure rfl (pu_move (by exact OT.tmp rfl))))
          · exact rop_gu rfl rfl rfl (OT.gu_mk (OT.tmp rfl)) (fun hg => by (have hg1 := hg.2; exact rop_pure rfl (pu_index_own (by exact OT.gu (OT.tmp rfl) hg) (by exact mem_at 0 rfl) (by exact OT.gu (OT.tmp rfl) hg) Try.underlying40 (show tyOk Try.prog 38 false 1 = true from by decide +kernel) (by omega) (by (simp [maxLen] at *; omega)))))
          · exact rop_gu rfl rfl rfl (OT.gu_mk (OT.tmp rfl)) (fun hg => by (have hg1 := hg.2; exact rop_pure rfl (pu_load_own0 (by exact OT.gu (OT.tmp rfl) hg) (by exact mem_at 0 rfl) (by omega) (by (simp [maxLen] at *; omega)) (show tyOk Try.prog 38 false 1 = true from by decide +kernel))))
        case h =>
          refine op_gu_acts () rfl rfl rfl (OT.gu_mk (OT.tmp rfl)) (fun hg => by (have hg1 := hg.2; (try simp only [decide_eq_true_eq, decide_eq_false_iff_not] at hg1); exact acts_callv (by exact OT.gu (OT.tmp rfl) hg) (hfv _ _) (OTs.cons (by exact OT.gu (OT.tmp rfl) hg) (OTs.cons (by exact OT.gu (OT.tmp rfl) hg) OTs.nil)) (List.Perm.refl _))) rfl (fun _ _ => ?_)
          refine op_gu rfl rfl rfl (OT.gu_mk (OT.tmp rfl)) (fun hg => by (have hg1 := hg.2; (try simp only [decide_eq_true_eq, decide_eq_false_iff_not] at hg1); exact pu_lss (by exact OT.gu (OT.tmp rfl) hg) OT.const)) rfl ?_
          refine op_gu rfl rfl rfl (OT.gu_mk (OT.tmp rfl)) (fun hg => by (have hg1 := hg.2; (try simp only [decide_eq_true_eq, decide_eq_false_iff_not] at hg1); exact pu_not (by exact OT.gu (OT.tmp rfl) hg))) rfl ?_
          refine op_pure (pu_pick_and (OT.tmp rfl) (by exact OT.tmp rfl)) rfl rfl ?_
          refine tr_nil ?_
          refine then_normal ?_
          refine tr_cond (OT.tmp rfl) (fun c47 => ?_) (fun c47 => ?_)
          · try simp only [decide_eq_true_eq, decide_eq_false_iff_not, Bool.or_eq_true, Bool.and_eq_true, Bool.or_eq_false_iff, Bool.and_eq_false_iff, Bool.not_eq_true', Bool.not_eq_false', ne_eq, Classical.not_not] at c47
            have hnx := (up_step (p := (fun x => !ltc c d1[a]! x)) (d := d1) (j := j1) (i := i2) (by omega) (by show (!ltc c _ _) = true; rw [ltc_at (by omega) (by omega)]; simpa using c47.2)).symm.trans hi3
            refine tr_skip ?_
            refine then_normal ?_
            refine tr_block ?_
            -- region 4
            refine tr_env (es_cons (t := 0) (OT.tmp rfl) (es_cons (t := 1) (OT.tmp rfl) (es_cons (t := 4) (OT.tmp rfl) (es_cons (t := 11) (OT.tmp rfl) (es_cons (t := 12) (OT.tmp rfl) es_nil))))) ?_
            refine tr_region ?_
            refine op_pure (pu_move (OT.tmp rfl)) rfl rfl ?_
            refine op_pure (pu_add' (OT.tmp rfl) OT.const (by omega)) rfl rfl ?_
            refine op_pure (pu_assign (OT.tmp rfl)) rfl rfl ?_
            refine tr_nil ?_
            refine block_normal ?_
            refine then_normal ?_
            exact tr_again (i2 + 1) ⟨by omega, by omega, hnx⟩ (by omega) (es_append (es_cons (t := 11) (by exact OT.tmp rfl) es_nil) (es_cons (t := 0) (OT.tmp rfl) (es_cons (t := 1) (OT.tmp rfl) (es_cons (t := 4) (OT.tmp rfl) (es_cons (t := 12) (OT.tmp rfl) es_nil))))) (own_picks (by repeat (first | exact picks_nil | refine picks_cons 0 rfl ?_ | refine picks_cons 1 rfl ?_ | refine picks_cons 2 rfl ?_ | refine picks_cons 3 rfl ?_ | refine picks_cons 4 rfl ?_ | refine picks_cons 5 rfl ?_ | refine picks_cons 6 rfl ?_)))
          · try simp only [decide_eq_true_eq, decide_eq_false_iff_not, Bool.or_eq_true, Bool.and_eq_true, Bool.or_eq_false_iff, Bool.and_eq_false_iff, Bool.not_eq_true', Bool.not_eq_false', ne_eq, Classical.not_not] at c47
            have hue1 : i2 ≤ j1 → ltc c d1[a]! d1[i2]! = true := fun h => by
              rw [ltc_at (by omega) (by omega)]
              rcases c47 with h9 | h9
              · omega
              · simpa using h9
            have hup1 := hi3.symm.trans (up_end (p := (fun x => !ltc c d1[a]! x)) (fun h => by show (!ltc c _ _) = false; rw [hue1 h]; rfl))
            refine tr_exit ?_
            refine then_exit ?_
            refine then_exit ?_
            refine block_hit ?_
            refine then_normal ?_
            refine tr_seq ?_
            refine tr_block ?_
            refine tr_loopK (σ := Nat) (es_cons (t := 0) (OT.tmp rfl) (es_cons (t := 1) (OT.tmp rfl) (es_cons (t := 4) (OT.tmp rfl) (es_cons (t := 11) (OT.tmp rfl) es_nil)))) (fun s => [(12, I64 (s : Int))]) (fun s => [OwnI 38 (kF K0 n0) v d1.toList]) (fun s => s ≤ j1 ∧ i2 ≤ s + 1 ∧ Sort.scanDown (fun x => ltc c d1[a]! x) d1 i2 s = Sort.scanDown (fun x => ltc c d1[a]! x) d1 i2 j1) (fun s => s) j1 ⟨by omega, by omega, rfl⟩ ?_ (own_picks (by repeat (first | exact picks_nil | refine picks_cons 0 rfl ?_ | refine picks_cons 1 rfl ?_ | refine picks_cons 2 rfl ?_ | refine picks_cons 3 rfl ?_ | refine picks_cons 4 rfl ?_ | refine picks_cons 5 rfl ?_ | refine picks_cons 6 rfl ?_))) ?_
            · exact (es_cons (t := 12) (by exact OT.tmp rfl) es_nil)
            · rintro j2 ⟨hj40, hj41, hj4⟩
              refine tr_seq ?_
              refine tr_seq ?_
              -- region 5
              refine tr_env (es_cons (t := 0) (OT.tmp rfl) (es_cons (t := 1) (OT.tmp rfl) (es_cons (t := 4) (OT.tmp rfl) (es_cons (t := 11) (OT.tmp rfl) (es_cons (t := 12) (OT.tmp rfl) es_nil))))) ?_
              apply tr_any (m := 13) (ns := [[(11, none)], [(12, none)], [(50, some 0), (51, some 1)], [(52, some 2)], [(4, none), (53, some 3)], [(0, none), (53, some 3)], [(1, none), (53, some 3)], [(53, some 3), (55, some 5), (56, some 6)], [(53, some 3), (57, some 7)], [(0, none), (53, some 3)], [(12, none), (53, some 3)], [(53, some 3), (59, some 9), (60, some 10)], [(53, some 3), (61, some 11)]]) (by kernel_rfl) (by kernel_rfl) (Ts := [_, _, _, _, _, _, _, _, _, _, _, _, _]) rfl
              case hops =>
                refine ⟨?_, ⟨?_, ⟨?_, ⟨?_, ⟨?_, ⟨?_, ⟨?_, ⟨?_, ⟨?_, ⟨?_, ⟨?_, ⟨?_, ⟨?_, trivial⟩⟩⟩⟩⟩⟩⟩⟩⟩⟩⟩⟩⟩
                · exact rop_pure rfl (pu_move (OT.tmp rfl))
                · exact rop_pure rfl (pu_move (OT.tmp rfl))
                · exact rop_pure rfl (pu_leq (OT.tmp rfl) (OT.tmp rfl))
                · exact rop_pure rfl (pu_move (OT.tmp rfl))
                · exact rop_gu rfl rfl rfl (OT.gu_mk (OT.tmp rfl)) (fun hg => by (have hg1 := hg.2; exact rop_pure rfl (pu_move (by exact OT.tmp rfl))))
                · exact rop_gu rfl rfl rfl (OT.gu_mk (OT.tmp rfl)) (fun hg => by (have hg1 := hg.2; exact rop_pure rfl (pu_move (by exact OT.tmp rfl))))
                · exact rop_gu rfl rfl rfl (OT.gu_mk (OT.tmp rfl)) (fun hg => by (have hg1 := hg.2; exact rop_pure rfl (pu_move (by exact OT.tmp rfl))))
                · exact rop_gu rfl rfl rfl (OT.gu_mk (OT.tmp rfl)) (fun hg => by (have hg1 := hg.2; exact rop_pure rfl (pu_index_own (by exact OT.gu (OT.tmp rfl) hg) (by exact mem_at 0 rfl) (by exact OT.gu (OT.tmp rfl) hg) Try.underlying40 (show tyOk Try.prog 38 false 1 = true from by decide +kernel) (by omega) (by omega))))
                · exact rop_gu rfl rfl rfl (OT.gu_mk (OT.tmp rfl)) (fun hg => by (have hg1 := hg.2; exact rop_pure rfl (pu_load_own0 (by exact OT.gu (OT.tmp rfl) hg) (by exact mem_at 0 rfl) (by omega) (by omega) (show tyOk Try.prog 38 false 1 = true from by decide +kernel))))
                · exact rop_gu rfl rfl rfl (OT.gu_mk (OT.tmp rfl)) (fun hg => by (have hg1 := hg.2; exact rop_pure rfl (pu_move (by exact OT.tmp rfl))))
                · exact rop_gu rfl rfl rfl (OT.gu_mk (OT.tmp rfl)) (fun hg => by (have hg1 := hg.2; exact rop_pure rfl (pu_move (by exact OT.tmp rfl))))
                · exact rop_gu rfl rfl rfl (OT.gu_mk (OT.tmp rfl)) (fun hg => by (have hg1 := hg.2; exact rop_pure rfl (pu_index_own (by exact OT.gu (OT.tmp rfl) hg) (by exact mem_at 0 rfl) (by exact OT.gu (OT.tmp rfl) hg) Try.underlying40 (show tyOk Try.prog 38 false 1 = true from by decide +kernel) (by omega) (by omega))))
                · exact rop_gu rfl rfl rfl (OT.gu_mk (OT.tmp rfl)) (fun hg => by (have hg1 := hg.2; exact rop_pure rfl (pu_load_own0 (by exact OT.gu (OT.tmp rfl) hg) (by exact mem_at 0 rfl) (by omega) (by omega) (show tyOk Try.prog 38 false 1 = true from by decide +kernel))))
              case h =>
                refine op_gu_acts () rfl rfl rfl (OT.gu_mk (OT.tmp rfl)) (fun hg => by (have hg1 := hg.2; (try simp only [decide_eq_true_eq, decide_eq_false_iff_not] at hg1); exact acts_callv (by exact OT.gu (OT.tmp rfl) hg) (hfv _ _) (OTs.cons (by exact OT.gu (OT.tmp rfl) hg) (OTs.cons (by exact OT.gu (OT.tmp rfl) hg) OTs.nil)) (List.Perm.refl _))) rfl (fun _ _ => ?_)
                refine op_gu rfl rfl rfl (OT.gu_mk (OT.tmp rfl)) (fun hg => by (have hg1 := hg.2; (try simp only [decide_eq_true_eq, decide_eq_false_iff_not] at hg1); exact pu_lss (by exact OT.gu (OT.tmp rfl) hg) OT.const)) rfl ?_
                refine op_pure (pu_pick_and (OT.tmp rfl) (by exact OT.tmp rfl)) rfl rfl ?_
                refine tr_nil ?_
                refine then_normal ?_
                refine tr_cond (OT.tmp rfl) (fun c65 => ?_) (fun c65 => ?_)
                · try simp only [decide_eq_true_eq, decide_eq_false_iff_not, Bool.or_eq_true, Bool.and_eq_true, Bool.or_eq_false_iff, Bool.and_eq_false_iff, Bool.not_eq_true', Bool.not_eq_false', ne_eq, Classical.not_not] at c65
                  have hnx := (down_step (p := (fun x => ltc c d1[a]! x)) (d := d1) (i := i2) (j := j2) (by omega) (by omega) (by show ltc c _ _ = true; rw [ltc_at (by omega) (by omega)]; simpa using c65.2)).symm.trans hj4
                  refine tr_skip ?_
                  refine then_normal ?_
                  refine tr_block ?_
                  -- region 6
                  refine tr_env (es_cons (t := 0) (OT.tmp rfl) (es_cons (t := 1) (OT.tmp rfl) (es_cons (t := 4) (OT.tmp rfl) (es_cons (t := 11) (OT.tmp rfl) (es_cons (t := 12) (OT.tmp rfl) es_nil))))) ?_
                  refine tr_region ?_
                  refine op_pure (pu_move (OT.tmp rfl)) rfl rfl ?_
                  refine op_pure (pu_sub' (OT.tmp rfl) OT.const (by omega)) rfl rfl ?_
                  refine op_pure (pu_assign (OT.tmp rfl)) rfl rfl ?_
                  refine tr_nil ?_
                  refine block_normal ?_
                  refine then_normal ?_
                  exact tr_again (j2 - 1) ⟨by omega, by omega, hnx⟩ (by omega) (es_append (es_cons (t := 12) (by exact OT.val (OT.tmp rfl) (congrArg (Value.int _) (by omega))) es_nil) (es_cons (t := 0) (OT.tmp rfl) (es_cons (t := 1) (OT.tmp rfl) (es_cons (t := 4) (OT.tmp rfl) (es_cons (t := 11) (OT.tmp rfl) es_nil))))) (own_picks (by repeat (first | exact picks_nil | refine picks_cons 0 rfl ?_ | refine picks_cons 1 rfl ?_ | refine picks_cons 2 rfl ?_ | refine picks_cons 3 rfl ?_ | refine picks_cons 4 rfl ?_ | refine picks_cons 5 rfl ?_ | refine picks_cons 6 rfl ?_)))
                · try simp only [decide_eq_true_eq, decide_eq_false_iff_not, Bool.or_eq_true, Bool.and_eq_true, Bool.or_eq_false_iff, Bool.and_eq_false_iff, Bool.not_eq_true', Bool.not_eq_false', ne_eq, Classical.not_not] at c65
                  have hde1 : i2 ≤ j2 → ltc c d1[a]! d1[j2]! = false := fun h => by
                    rw [ltc_at (by omega) (by omega)]
                    rcases c65 with h9 | h9
                    · omega
                    · simpa using h9
                  have hdn1 := hj4.symm.trans (down_end (p := (fun x => ltc c d1[a]! x)) hde1)
                  refine tr_exit ?_
                  refine then_exit ?_
                  refine then_exit ?_
                  refine block_hit ?_
                  refine then_normal ?_
                  refine tr_seq ?_
                  refine tr_seq ?_
                  -- region 7
                  refine tr_env (es_cons (t := 0) (OT.tmp rfl) (es_cons (t := 1) (OT.tmp rfl) (es_cons (t := 4) (OT.tmp rfl) (es_cons (t := 11) (OT.tmp rfl) (es_cons (t := 12) (OT.tmp rfl) es_nil))))) ?_
                  refine tr_region ?_
                  refine op_pure (pu_move (OT.tmp rfl)) rfl rfl ?_
                  refine op_pure (pu_move (OT.tmp rfl)) rfl rfl ?_
                  refine op_pure (pu_gtr (OT.tmp rfl) (OT.tmp rfl)) rfl rfl ?_
                  refine tr_nil ?_
                  refine then_normal ?_
                  refine tr_cond (OT.tmp rfl) (fun c70 => ?_) (fun c70 => ?_)
                  · try simp only [decide_eq_true_eq, decide_eq_false_iff_not, Bool.or_eq_true, Bool.and_eq_true, Bool.or_eq_false_iff, Bool.and_eq_false_iff, Bool.not_eq_true', Bool.not_eq_false', ne_eq, Classical.not_not] at c70
                    have hres := hr.symm.trans (partE_end hup1 hdn1 (by omega))
                    refine tr_exit ?_
                    refine then_exit ?_
                    refine block_pass rfl ?_
                    refine then_exit ?_
                    refine block_hit ?_
                    refine then_normal ?_
                    refine tr_seq ?_
                    -- region 11
                    refine tr_env (es_cons (t := 11) (OT.tmp rfl) es_nil) ?_
                    refine tr_region ?_
                    refine op_pure (pu_move (OT.tmp rfl)) rfl rfl ?_
                    refine op_pure (pu_assign (OT.tmp rfl)) rfl rfl ?_
                    refine tr_nil ?_
                    refine then_normal ?_
                    refine tr_ret ?_
                    exact ret_one .ret (.inl rfl) rfl () (OT.val (OT.tmp rfl) (congrArg (Value.int _) (by rw [hres]))) trivial (by rw [hres]; exact picks_cons 0 rfl picks_nil)
                  · try simp only [decide_eq_true_eq, decide_eq_false_iff_not, Bool.or_eq_true, Bool.and_eq_true, Bool.or_eq_false_iff, Bool.and_eq_false_iff, Bool.not_eq_true', Bool.not_eq_false', ne_eq, Classical.not_not] at c70
                    have hij2 : i2 ≤ j2 := by omega
                    have hne2 : i2 ≠ j2 := fun e => by have h8 := hue1 (by omega); have h9 := hde1 hij2; rw [← e] at h9; exact absurd (h8.symm.trans h9) (by simp)
                    have hnx := (partE_step hup1 hdn1 (by omega) (by omega)).symm.trans hr
                    refine tr_skip ?_
                    refine then_normal ?_
                    refine tr_seq ?_
                    -- region 8
                    refine tr_env (es_cons (t := 0) (OT.tmp rfl) (es_cons (t := 1) (OT.tmp rfl) (es_cons (t := 4) (OT.tmp rfl) (es_cons (t := 11) (OT.tmp rfl) (es_cons (t := 12) (OT.tmp rfl) es_nil))))) ?_
                    apply tr_anyW (p := 13) (Lf := fun c => cond c ([OwnI 38 (kF K0 n0) v (d1.toList.set (i2 : Int).toNat (at' d1.toList (j2 : Int)))]) ([OwnI 38 (kF K0 n0) v d1.toList])) (by kernel_rfl) (m := 14) (ns := [[(0, none)], [(11, none)], [(0, none)], [(12, none)], [(0, none)], [(12, none)], [(75, some 4), (76, some 5)], [(77, some 6)], [(0, none)], [(11, none)], [(79, some 8), (80, some 9)], [(81, some 10)], [(71, some 0), (72, some 1)], [(78, some 7), (83, some 12)]]) (by kernel_rfl) (by kernel_rfl) (Ts := [_, _, _, _, _, _, _, _, _, _, _, _, _, _]) rfl
                    case hops =>
                      refine ⟨?_, ⟨?_, ⟨?_, ⟨?_, ⟨?_, ⟨?_, ⟨?_, ⟨?_, ⟨?_, ⟨?_, ⟨?_, ⟨?_, ⟨?_, ⟨?_, trivial⟩⟩⟩⟩⟩⟩⟩⟩⟩⟩⟩⟩⟩⟩
                      · intro c hc; cases c
                        · exact ropw_of (rop_pure rfl (pu_move (OT.tmp rfl)))
                        · exact Bool.noConfusion (hc.symm.trans (by kernel_rfl : okFlag _ _ _ _ = false))
                      · intro c hc; cases c
                        · exact ropw_of (rop_pure rfl (pu_move (OT.tmp rfl)))
                        · exact Bool.noConfusion (hc.symm.trans (by kernel_rfl : okFlag _ _ _ _ = false))
                      · intro c hc; cases c
                        · exact ropw_of (rop_pure rfl (pu_move (OT.tmp rfl)))
                        · exact ropw_of (rop_pure rfl (pu_move (OT.tmp rfl)))
                      · intro c hc; cases c
                        · exact ropw_of (rop_pure rfl (pu_move (OT.tmp rfl)))
                        · exact ropw_of (rop_pure rfl (pu_move (OT.tmp rfl)))
                      · intro c hc; cases c
                        · exact ropw_of (rop_pure rfl (pu_move (OT.tmp rfl)))
                        · exact Bool.noConfusion (hc.symm.trans (by kernel_rfl : okFlag _ _ _ _ = false))
                      · intro c hc; cases c
                        · exact ropw_of (rop_pure rfl (pu_move (OT.tmp rfl)))
                        · exact Bool.noConfusion (hc.symm.trans (by kernel_rfl : okFlag _ _ _ _ = false))
                      · intro c hc; cases c
                        · exact ropw_of (rop_pure rfl (pu_index_own (OT.tmp rfl) (by exact mem_at 0 rfl) (OT.tmp rfl) Try.underlying40 (show tyOk Try.prog 38 false 1 = true from by decide +kernel) (by omega) (by omega)))
                        · exact Bool.noConfusion (hc.symm.trans (by kernel_rfl : okFlag _ _ _ _ = false))
                      · intro c hc; cases c
                        · exact ropw_of (rop_pure rfl (pu_load_own0 (OT.tmp rfl) (by exact mem_at 0 rfl) (by omega) (by omega) (show tyOk Try.prog 38 false 1 = true from by decide +kernel)))
                        · exact Bool.noConfusion (hc.symm.trans (by kernel_rfl : okFlag _ _ _ _ = false))
                      · intro c hc; cases c
                        · exact ropw_of (rop_pure rfl (pu_move (OT.tmp rfl)))
                        · exact Bool.noConfusion (hc.symm.trans (by kernel_rfl : okFlag _ _ _ _ = false))
                      · intro c hc; cases c
                        · exact ropw_of (rop_pure rfl (pu_move (OT.tmp rfl)))
                        · exact Bool.noConfusion (hc.symm.trans (by kernel_rfl : okFlag _ _ _ _ = false))
                      · intro c hc; cases c
                        · exact ropw_of (rop_pure rfl (pu_index_own (OT.tmp rfl) (by exact mem_at 0 rfl) (OT.tmp rfl) Try.underlying40 (show tyOk Try.prog 38 false 1 = true from by decide +kernel) (by omega) (by omega)))
                        · exact Bool.noConfusion (hc.symm.trans (by kernel_rfl : okFlag _ _ _ _ = false))
                      · intro c hc; cases c
                        · exact ropw_of (rop_pure rfl (pu_load_own0 (OT.tmp rfl) (by exact mem_at 0 rfl) (by omega) (by omega) (show tyOk Try.prog 38 false 1 = true from by decide +kernel)))
                        · exact Bool.noConfusion (hc.symm.trans (by kernel_rfl : okFlag _ _ _ _ = false))
                      · intro c hc; cases c
                        · exact ropw_of (rop_pure rfl (pu_index_own (OT.tmp rfl) (by exact mem_at 0 rfl) (OT.tmp rfl) Try.underlying40 (show tyOk Try.prog 38 false 1 = true from by decide +kernel) (by omega) (by omega)))
                        · exact Bool.noConfusion (hc.symm.trans (by kernel_rfl : okFlag _ _ _ _ = false))
                      · intro c hc; cases c
                        · exact ropw_acts rfl (acts_store_own0 (OT.tmp rfl) (OT.tmp rfl) (by exact perm_at 0 rfl) (by omega) (by omega) (show tyOk Try.prog 38 false 1 = true from by decide +kernel)) (by exact perm_at 0 rfl) (fun _ => (by exact perm_at 0 rfl)) (fun _ _ _ _ h => h)
                        · exact Bool.noConfusion (hc.symm.trans (by kernel_rfl : okFlag _ _ _ _ = false))
                    case h =>
                      refine op_pure (pu_index_own (OT.tmp rfl) (by exact mem_at 0 rfl) (OT.tmp rfl) Try.underlying40 (show tyOk Try.prog 38 false 1 = true from by decide +kernel) (by omega) (by (simp; omega))) rfl rfl ?_
                      refine op_acts (acts_store_own0 (OT.tmp rfl) (OT.tmp rfl) (by exact perm_at 0 rfl) (by omega) (by (simp; omega)) (show tyOk Try.prog 38 false 1 = true from by decide +kernel)) (by exact perm_at 0 rfl) rfl rfl (fun _ _ => ?_)
                      refine tr_nil ?_
                      refine then_normal ?_
                      refine tr_seq ?_
                      -- region 9
                      refine tr_env (es_cons (t := 0) (OT.tmp rfl) (es_cons (t := 1) (OT.tmp rfl) (es_cons (t := 4) (OT.tmp rfl) (es_cons (t := 11) (OT.tmp rfl) (es_cons (t := 12) (OT.tmp rfl) es_nil))))) ?_
                      rw [sw (by omega) (by omega)]
                      refine tr_region ?_
                      refine op_pure (pu_move (OT.tmp rfl)) rfl rfl ?_
                      refine op_pure (pu_add' (OT.tmp rfl) OT.const (by omega)) rfl rfl ?_
                      refine op_pure (pu_assign (OT.tmp rfl)) rfl rfl ?_
                      refine tr_nil ?_
                      refine then_normal ?_
                      -- region 10
                      refine tr_env (es_cons (t := 0) (OT.tmp rfl) (es_cons (t := 1) (OT.tmp rfl) (es_cons (t := 4) (OT.tmp rfl) (es_cons (t := 11) (OT.tmp rfl) (es_cons (t := 12) (OT.tmp rfl) es_nil))))) ?_
                      refine tr_region ?_
                      refine op_pure (pu_move (OT.tmp rfl)) rfl rfl ?_
                      refine op_pure (pu_sub' (OT.tmp rfl) OT.const (by omega)) rfl rfl ?_
                      refine op_pure (pu_assign (OT.tmp rfl)) rfl rfl ?_
                      refine tr_nil ?_
                      refine block_normal ?_
                      refine then_normal ?_
                      exact tr_again (i2 + 1, j2 - 1, Sort.swp d1 i2 j2) ⟨swp_size.trans hs2, by show a + 1 ≤ i2 + 1; omega, by show i2 + 1 ≤ j2 - 1 + 1; omega, by show j2 - 1 < b; omega, hnx⟩ (by show j2 - 1 + 1 - (i2 + 1) < j1 + 1 - i1; omega) (es_append (es_cons (t := 11) (by exact OT.tmp rfl) (es_cons (t := 12) (by exact OT.val (OT.tmp rfl) (congrArg (Value.int _) (by (simp; omega)))) es_nil)) (es_cons (t := 0) (OT.tmp rfl) (es_cons (t := 1) (OT.tmp rfl) (es_cons (t := 4) (OT.tmp rfl) es_nil)))) (own_picks (by repeat (first | exact picks_nil | refine picks_cons 0 rfl ?_ | refine picks_cons 1 rfl ?_ | refine picks_cons 2 rfl ?_ | refine picks_cons 3 rfl ?_ | refine picks_cons 4 rfl ?_ | refine picks_cons 5 rfl ?_ | refine picks_cons 6 rfl ?_)))
end Go.Proofs.Ytloblpklkhepbaa
