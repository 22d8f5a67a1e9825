/- The texts So3, So4, SoC, So5 of this claim, put together in their order. No condition of their own. -/
import Derived.Test.YtakkjljhjfkkbaaQ2
/- Walks through the Go functions api.Tuple], as typed contracts. -/
namespace Go.Proofs.Ytakkjljhjfkkbaa
open Go Go.Gw Go.So
set_option linter.unusedVariables false
set_option linter.unusedSimpArgs false
variable {Z : SlTy}

set_option maxHeartbeats 1000000 in
set_option maxRecDepth 20000 in
/-- slices.partitionCmpFunc[rhizome/api.Tuple] -/
theorem part_fn (v fv : Value) (d : DA) (a b pv : Nat) (c : List Int → List Int → Int) (hm : d.size < 4611686018427387904) (hap : a ≤ pv) (hpb : pv < b) (hb : b ≤ d.size) (hfv : ∀ x y, CtV Try.prog fv [(kG Z).T x, (kG Z).T y] [] Unit (fun _ => I64 (c x y)) (fun _ => []) (fun _ => True)) : Ct Try.prog 47 [IsV v, I64 (a : Int), I64 (b : Int), I64 (pv : Int), IsV fv] ([OwnI 45 (kG Z) v d.toList]) Unit (fun _ => TupT [I64 ((Sort.partition (ltc c) d a b pv).1 : Int), BoolT (Sort.partition (ltc c) d a b pv).2.1]) (fun _ => [OwnI 45 (kG Z) v (Sort.partition (ltc c) d a b pv).2.2.toList]) (fun _ => True) := by
  refine fn_intro Try.func47 rfl rfl ?_
  intro H w
  have hl : d.toList.length = d.size := Array.length_toList
  refine tr_seq ?_
  -- region 0
  refine tr_env (es_cons (t := 0) (OT.tmp rfl) (es_cons (t := 1) (OT.tmp rfl) (es_cons (t := 2) (OT.tmp rfl) (es_cons (t := 3) (OT.tmp rfl) (es_cons (t := 4) (OT.tmp rfl) es_nil))))) ?_
  refine tr_region ?_
  refine op_pure (pu_assign OT.const) rfl rfl ?_
  refine op_pure (pu_assign OT.const) rfl rfl ?_
  refine tr_nil ?_
  refine then_normal ?_
  refine tr_seq ?_
  -- region 1
  refine tr_env (es_cons (t := 0) (OT.tmp rfl) (es_cons (t := 1) (OT.tmp rfl) (es_cons (t := 2) (OT.tmp rfl) (es_cons (t := 3) (OT.tmp rfl) (es_cons (t := 4) (OT.tmp rfl) es_nil))))) ?_
  apply tr_anyW (p := 13) (Lf := fun c => cond c ([OwnI 45 (kG Z) v (d.toList.set (a : Int).toNat (at' d.toList (pv : Int)))]) ([OwnI 45 (kG Z) v d.toList])) (by kernel_rfl) (m := 14) (ns := [[(0, none)], [(1, none)], [(0, none)], [(3, none)], [(0, none)], [(3, none)], [(18, some 4), (19, some 5)], [(20, some 6)], [(0, none)], [(1, none)], [(22, some 8), (23, some 9)], [(24, some 10)], [(14, some 0), (15, some 1)], [(21, some 7), (26, some 12)]]) (by kernel_rfl) (by kernel_rfl) (Ts := [_, _, _, _, _, _, _, _, _, _, _, _, _, _]) rfl
  case hops =>
    refine ⟨?_, ⟨?_, ⟨?_, ⟨?_, ⟨?_, ⟨?_, ⟨?_, ⟨?_, ⟨?_, ⟨?_, ⟨?_, ⟨?_, ⟨?_, ⟨?_, trivial⟩⟩⟩⟩⟩⟩⟩⟩⟩⟩⟩⟩⟩⟩
    · intro c hc; cases c
      · exact ropw_of (rop_pure rfl (pu_move (OT.tmp rfl)))
      · exact Bool.noConfusion (hc.symm.trans (by kernel_rfl : okFlag _ _ _ _ = false))
    · intro c hc; cases c
      · exact ropw_of (rop_pure rfl (pu_move (OT.tmp rfl)))
      · exact Bool.noConfusion (hc.symm.trans (by kernel_rfl : okFlag _ _ _ _ = false))
    · intro c hc; cases c
      · exact ropw_of (rop_pure rfl (pu_move (OT.tmp rfl)))
      · exact ropw_of (rop_pure rfl (pu_move (OT.tmp rfl)))
    · intro c hc; cases c
      · exact ropw_of (rop_pure rfl (pu_move (OT.tmp rfl)))
      · exact ropw_of (rop_pure rfl (pu_move (OT.tmp rfl)))
    · intro c hc; cases c
      · exact ropw_of (rop_pure rfl (pu_move (OT.tmp rfl)))
      · exact Bool.noConfusion (hc.symm.trans (by kernel_rfl : okFlag _ _ _ _ = false))
    · intro c hc; cases c
      · exact ropw_of (rop_pure rfl (pu_move (OT.tmp rfl)))
      · exact Bool.noConfusion (hc.symm.trans (by kernel_rfl : okFlag _ _ _ _ = false))
    · intro c hc; cases c
      · exact ropw_of (rop_pure rfl (pu_index_own (OT.tmp rfl) (by exact mem_at 0 rfl) (OT.tmp rfl) Try.underlying35 (show tyOk Try.prog 45 false 1 = true from by decide +kernel) (by omega) (by omega)))
      · exact Bool.noConfusion (hc.symm.trans (by kernel_rfl : okFlag _ _ _ _ = false))
    · intro c hc; cases c
      · exact ropw_of (rop_pure rfl (pu_load_own0 (OT.tmp rfl) (by exact mem_at 0 rfl) (by omega) (by omega) (show tyOk Try.prog 45 false 1 = true from by decide +kernel)))
      · exact Bool.noConfusion (hc.symm.trans (by kernel_rfl : okFlag _ _ _ _ = false))
    · intro c hc; cases c
      · exact ropw_of (rop_pure rfl (pu_move (OT.tmp rfl)))
      · exact Bool.noConfusion (hc.symm.trans (by kernel_rfl : okFlag _ _ _ _ = false))
    · intro c hc; cases c
      · exact ropw_of (rop_pure rfl (pu_move (OT.tmp rfl)))
      · exact Bool.noConfusion (hc.symm.trans (by kernel_rfl : okFlag _ _ _ _ = false))
    · intro c hc; cases c
      · exact ropw_of (rop_pure rfl (pu_index_own (OT.tmp rfl) (by exact mem_at 0 rfl) (OT.tmp rfl) Try.underlying35 (show tyOk Try.prog 45 false 1 = true from by decide +kernel) (by omega) (by omega)))
      · exact Bool.noConfusion (hc.symm.trans (by kernel_rfl : okFlag _ _ _ _ = false))
    · intro c hc; cases c
      · exact ropw_of (rop_pure rfl (pu_load_own0 (OT.tmp rfl) (by exact mem_at 0 rfl) (by omega) (by omega) (show tyOk Try.prog 45 false 1 = true from by decide +kernel)))
      · exact Bool.noConfusion (hc.symm.trans (by kernel_rfl : okFlag _ _ _ _ = false))
    · intro c hc; cases c
      · exact ropw_of (rop_pure rfl (pu_index_own (OT.tmp rfl) (by exact mem_at 0 rfl) (OT.tmp rfl) Try.underlying35 (show tyOk Try.prog 45 false 1 = true from by decide +kernel) (by omega) (by omega)))
      · exact Bool.noConfusion (hc.symm.trans (by kernel_rfl : okFlag _ _ _ _ = false))
    · intro c hc; cases c
      · exact ropw_acts rfl (acts_store_own0 (OT.tmp rfl) (OT.tmp rfl) (by exact perm_at 0 rfl) (by omega) (by omega) (show tyOk Try.prog 45 false 1 = true from by decide +kernel)) (by exact perm_at 0 rfl) (fun _ => (by exact perm_at 0 rfl)) (fun _ _ _ _ h => h)
      · exact Bool.noConfusion (hc.symm.trans (by kernel_rfl : okFlag _ _ _ _ = false))
  case h =>
    refine op_pure (pu_index_own (OT.tmp rfl) (by exact mem_at 0 rfl) (OT.tmp rfl) Try.underlying35 (show tyOk Try.prog 45 false 1 = true from by decide +kernel) (by omega) (by (simp; omega))) rfl rfl ?_
    refine op_acts (acts_store_own0 (OT.tmp rfl) (OT.tmp rfl) (by exact perm_at 0 rfl) (by omega) (by (simp; omega)) (show tyOk Try.prog 45 false 1 = true from by decide +kernel)) (by exact perm_at 0 rfl) rfl rfl (fun _ _ => ?_)
    refine tr_nil ?_
    refine then_normal ?_
    refine tr_seq ?_
    -- region 2
    refine tr_env (es_cons (t := 0) (OT.tmp rfl) (es_cons (t := 1) (OT.tmp rfl) (es_cons (t := 2) (OT.tmp rfl) (es_cons (t := 4) (OT.tmp rfl) es_nil)))) ?_
    rw [sw (by omega) (by omega)]
    have hs0 : (Sort.swp d a pv).size = d.size := swp_size
    obtain ⟨d0, hd0⟩ : ∃ d0, Sort.swp d a pv = d0 := ⟨_, rfl⟩
    rw [hd0] at hs0 ⊢
    have hl0 : d0.toList.length = d0.size := Array.length_toList
    refine tr_region ?_
    refine op_pure (pu_move (OT.tmp rfl)) rfl rfl ?_
    refine op_pure (pu_add' (OT.tmp rfl) OT.const (by omega)) rfl rfl ?_
    refine op_pure (pu_move (OT.tmp rfl)) rfl rfl ?_
    refine op_pure (pu_sub' (OT.tmp rfl) OT.const (by omega)) rfl rfl ?_
    refine op_pure (pu_assign (OT.tmp rfl)) rfl rfl ?_
    refine op_pure (pu_assign (OT.tmp rfl)) rfl rfl ?_
    refine tr_nil ?_
    refine then_normal ?_
    refine tr_seq ?_
    refine tr_block ?_
    rw [show (b : Int) - 1 = ((b - 1 : Nat) : Int) from by omega]
    refine tr_loopK (σ := Nat) (es_cons (t := 0) (OT.tmp rfl) (es_cons (t := 1) (OT.tmp rfl) (es_cons (t := 4) (OT.tmp rfl) (es_cons (t := 13) (OT.tmp rfl) es_nil)))) (fun s => [(12, I64 (s : Int))]) (fun s => [OwnI 45 (kG Z) v d0.toList]) (fun s => a + 1 ≤ s ∧ s ≤ b ∧ Sort.scanUp (fun x => ltc c x d0[a]!) d0 (b - 1) s = Sort.scanUp (fun x => ltc c x d0[a]!) d0 (b - 1) (a + 1)) (fun s => b - s) (a + 1) ⟨by omega, by omega, rfl⟩ ?_ (own_picks (by repeat (first | exact picks_nil | refine picks_cons 0 rfl ?_ | refine picks_cons 1 rfl ?_ | refine picks_cons 2 rfl ?_ | refine picks_cons 3 rfl ?_ | refine picks_cons 4 rfl ?_ | refine picks_cons 5 rfl ?_ | refine picks_cons 6 rfl ?_))) ?_
    · exact (es_cons (t := 12) (by exact OT.tmp rfl) es_nil)
    · rintro i ⟨hi0, hi1, hi⟩
      refine tr_seq ?_
      refine tr_seq ?_
      -- region 3
      refine tr_env (es_cons (t := 0) (OT.tmp rfl) (es_cons (t := 1) (OT.tmp rfl) (es_cons (t := 4) (OT.tmp rfl) (es_cons (t := 12) (OT.tmp rfl) (es_cons (t := 13) (OT.tmp rfl) es_nil))))) ?_
      apply tr_any (m := 13) (ns := [[(12, none)], [(13, none)], [(32, some 0), (33, some 1)], [(34, some 2)], [(4, none), (35, some 3)], [(0, none), (35, some 3)], [(12, none), (35, some 3)], [(35, some 3), (37, some 5), (38, some 6)], [(35, some 3), (39, some 7)], [(0, none), (35, some 3)], [(1, none), (35, some 3)], [(35, some 3), (41, some 9), (42, some 10)], [(35, some 3), (43, some 11)]]) (by kernel_rfl) (by kernel_rfl) (Ts := [_, _, _, _, _, _, _, _, _, _, _, _, _]) rfl
      case hops =>
        refine ⟨?_, ⟨?_, ⟨?_, ⟨?_, ⟨?_, ⟨?_, ⟨?_, ⟨?_, ⟨?_, ⟨?_, ⟨?_, ⟨?_, ⟨?_, trivial⟩⟩⟩⟩⟩⟩⟩⟩⟩⟩⟩⟩⟩
        · exact rop_pure rfl (pu_move (OT.tmp rfl))
        · exact rop_pure rfl (pu_move (OT.tmp rfl))
        · exact rop_pure rfl (pu_leq (OT.tmp rfl) (OT.tmp rfl))
        · exact rop_pure rfl (pu_move (OT.tmp rfl))
        · exact rop_gu rfl rfl rfl (OT.gu_mk (OT.tmp rfl)) (fun hg => by (have hg1 := hg.2; exact rop_pure rfl (pu_move (by exact OT.tmp rfl))))
        · exact rop_gu rfl rfl rfl (OT.gu_mk (OT.tmp rfl)) (fun hg => by (have hg1 := hg.2; exact rop_pure rfl (pu_move (by exact OT.tmp rfl))))
        · exact rop_gu rfl rfl rfl (OT.gu_mk (OT.tmp rfl)) (fun hg => by (have hg1 := hg.2; exact rop_pure rfl (pu_move (by exact OT.tmp rfl))))
        · exact rop_gu rfl rfl rfl (OT.gu_mk (OT.tmp rfl)) (fun hg => by (have hg1 := hg.2; exact rop_pure rfl (pu_index_own (by exact OT.gu (OT.tmp rfl) hg) (by exact mem_at 0 rfl) (by exact OT.gu (OT.tmp rfl) hg) Try.underlying35 (show tyOk Try.prog 45 false 1 = true from by decide +kernel) (by omega) (by (simp [maxLen] at *; omega)))))
        · exact rop_gu rfl rfl rfl (OT.gu_mk (OT.tmp rfl)) (fun hg => by (have hg1 := hg.2; exact rop_pure rfl (pu_load_own0 (by exact OT.gu (OT.tmp rfl) hg) (by exact mem_at 0 rfl) (by omega) (by (simp [maxLen] at *; omega)) (show tyOk Try.prog 45 false 1 = true from by decide +kernel))))
        · exact rop_gu rfl rfl rfl (OT.gu_mk (OT.tmp rfl)) (fun hg => by (have hg1 := hg.2; exact rop_pure rfl (pu_move (by exact OT.tmp rfl))))
        · exact rop_gu rfl rfl rfl (OT.gu_mk (OT.tmp rfl)) (fun hg => by (have hg1 := hg.2; exact rop_pure rfl (pu_move (by exact OT.tmp rfl))))
        · exact rop_gu rfl rfl rfl (OT.gu_mk (OT.tmp rfl)) (fun hg => by (have hg1 := hg.2; exact rop_pure rfl (pu_index_own (by exact OT.gu (OT.tmp rfl) hg) (by exact mem_at 0 rfl) (by exact OT.gu (OT.tmp rfl) hg) Try.underlying35 (show tyOk Try.prog 45 false 1 = true from by decide +kernel) (by omega) (by omega))))
        · exact rop_gu rfl rfl rfl (OT.gu_mk (OT.tmp rfl)) (fun hg => by (have hg1 := hg.2; exact rop_pure rfl (pu_load_own0 (by exact OT.gu (OT.tmp rfl) hg) (by exact mem_at 0 rfl) (by omega) (by omega) (show tyOk Try.prog 45 false 1 = true from by decide +kernel))))
      case h =>
        refine op_gu_acts () rfl rfl rfl (OT.gu_mk (OT.tmp rfl)) (fun hg => by (have hg1 := hg.2; (try simp only [decide_eq_true_eq, decide_eq_false_iff_not] at hg1); exact acts_callv (by exact OT.gu (OT.tmp rfl) hg) (hfv _ _) (OTs.cons (by exact OT.gu (OT.tmp rfl) hg) (OTs.cons (by exact OT.gu (OT.tmp rfl) hg) OTs.nil)) (List.Perm.refl _))) rfl (fun _ _ => ?_)
        refine op_gu rfl rfl rfl (OT.gu_mk (OT.tmp rfl)) (fun hg => by (have hg1 := hg.2; (try simp only [decide_eq_true_eq, decide_eq_false_iff_not] at hg1); exact pu_lss (by exact OT.gu (OT.tmp rfl) hg) OT.const)) rfl ?_
        refine op_pure (pu_pick_and (OT.tmp rfl) (by exact OT.tmp rfl)) rfl rfl ?_
        refine tr_nil ?_
        refine then_normal ?_
        refine tr_cond (OT.tmp rfl) (fun c47 => ?_) (fun c47 => ?_)
        · try simp only [decide_eq_true_eq, decide_eq_false_iff_not, Bool.or_eq_true, Bool.and_eq_true, Bool.or_eq_false_iff, Bool.and_eq_false_iff, Bool.not_eq_true', Bool.not_eq_false', ne_eq, Classical.not_not] at c47
          have hnx := (up_step (p := (fun x => ltc c x d0[a]!)) (d := d0) (j := b - 1) (i := i) (by omega) (by show ltc c _ _ = true; rw [ltc_at (by omega) (by omega)]; simpa using c47.2)).symm.trans hi
          refine tr_skip ?_
          refine then_normal ?_
          refine tr_block ?_
          -- region 4
          refine tr_env (es_cons (t := 0) (OT.tmp rfl) (es_cons (t := 1) (OT.tmp rfl) (es_cons (t := 4) (OT.tmp rfl) (es_cons (t := 12) (OT.tmp rfl) (es_cons (t := 13) (OT.tmp rfl) es_nil))))) ?_
          refine tr_region ?_
          refine op_pure (pu_move (OT.tmp rfl)) rfl rfl ?_
          refine op_pure (pu_add' (OT.tmp rfl) OT.const (by omega)) rfl rfl ?_
          refine op_pure (pu_assign (OT.tmp rfl)) rfl rfl ?_
          refine tr_nil ?_
          refine block_normal ?_
          refine then_normal ?_
          exact tr_again (i + 1) ⟨by omega, by omega, hnx⟩ (by omega) (es_append (es_cons (t := 12) (by exact OT.tmp rfl) es_nil) (es_cons (t := 0) (OT.tmp rfl) (es_cons (t := 1) (OT.tmp rfl) (es_cons (t := 4) (OT.tmp rfl) (es_cons (t := 13) (OT.tmp rfl) es_nil))))) (own_picks (by repeat (first | exact picks_nil | refine picks_cons 0 rfl ?_ | refine picks_cons 1 rfl ?_ | refine picks_cons 2 rfl ?_ | refine picks_cons 3 rfl ?_ | refine picks_cons 4 rfl ?_ | refine picks_cons 5 rfl ?_ | refine picks_cons 6 rfl ?_)))
        · try simp only [decide_eq_true_eq, decide_eq_false_iff_not, Bool.or_eq_true, Bool.and_eq_true, Bool.or_eq_false_iff, Bool.and_eq_false_iff, Bool.not_eq_true', Bool.not_eq_false', ne_eq, Classical.not_not] at c47
          have hue : i ≤ b - 1 → ltc c d0[i]! d0[a]! = false := fun h => by
            rw [ltc_at (by omega) (by omega)]
            rcases c47 with h9 | h9
            · omega
            · simpa using h9
          have hup := hi.symm.trans (up_end hue)
          refine tr_exit ?_
          refine then_exit ?_
          refine then_exit ?_
          refine block_hit ?_
          refine then_normal ?_
          refine tr_seq ?_
          refine tr_block ?_
          refine tr_loopK (σ := Nat) (es_cons (t := 0) (OT.tmp rfl) (es_cons (t := 1) (OT.tmp rfl) (es_cons (t := 4) (OT.tmp rfl) (es_cons (t := 12) (OT.tmp rfl) es_nil)))) (fun s => [(13, I64 (s : Int))]) (fun s => [OwnI 45 (kG Z) v d0.toList]) (fun s => s ≤ b - 1 ∧ i ≤ s + 1 ∧ Sort.scanDown (fun x => !ltc c x d0[a]!) d0 i s = Sort.scanDown (fun x => !ltc c x d0[a]!) d0 i (b - 1)) (fun s => s) (b - 1) ⟨by omega, by omega, rfl⟩ ?_ (own_picks (by repeat (first | exact picks_nil | refine picks_cons 0 rfl ?_ | refine picks_cons 1 rfl ?_ | refine picks_cons 2 rfl ?_ | refine picks_cons 3 rfl ?_ | refine picks_cons 4 rfl ?_ | refine picks_cons 5 rfl ?_ | refine picks_cons 6 rfl ?_))) ?_
          · exact (es_cons (t := 13) (by exact OT.tmp rfl) es_nil)
          · rintro j ⟨hj0, hj1, hj⟩
            refine tr_seq ?_
            refine tr_seq ?_
            -- region 5
            refine tr_env (es_cons (t := 0) (OT.tmp rfl) (es_cons (t := 1) (OT.tmp rfl) (es_cons (t := 4) (OT.tmp rfl) (es_cons (t := 12) (OT.tmp rfl) (es_cons (t := 13) (OT.tmp rfl) es_nil))))) ?_
            apply tr_any (m := 13) (ns := [[(12, none)], [(13, none)], [(50, some 0), (51, some 1)], [(52, some 2)], [(4, none), (53, some 3)], [(0, none), (53, some 3)], [(13, none), (53, some 3)], [(53, some 3), (55, some 5), (56, some 6)], [(53, some 3), (57, some 7)], [(0, none), (53, some 3)], [(1, none), (53, some 3)], [(53, some 3), (59, some 9), (60, some 10)], [(53, some 3), (61, some 11)]]) (by kernel_rfl) (by kernel_rfl) (Ts := [_, _, _, _, _, _, _, _, _, _, _, _, _]) rfl
            case hops =>
              refine ⟨?_, ⟨?_, ⟨?_, ⟨?_, ⟨?_, ⟨?_, ⟨?_, ⟨?_, ⟨?_, ⟨?_, ⟨?_, ⟨?_, ⟨?_, trivial⟩⟩⟩⟩⟩⟩⟩⟩⟩⟩⟩⟩⟩
              · exact rop_pure rfl (pu_move (OT.tmp rfl))
              · exact rop_pure rfl (pu_move (OT.tmp rfl))
              · exact rop_pure rfl (pu_leq (OT.tmp rfl) (OT.tmp rfl))
              · exact rop_pure rfl (pu_move (OT.tmp rfl))
              · exact rop_gu rfl rfl rfl (OT.gu_mk (OT.tmp rfl)) (fun hg => by (have hg1 := hg.2; exact rop_pure rfl (pu_move (by exact OT.tmp rfl))))
              · exact rop_gu rfl rfl rfl (OT.gu_mk (OT.tmp rfl)) (fun hg => by (have hg1 := hg.2; exact rop_pure rfl (pu_move (by exact OT.tmp rfl))))
              · exact rop_gu rfl rfl rfl (OT.gu_mk (OT.tmp rfl)) (fun hg => by (have hg1 := hg.2; exact rop_pure rfl (pu_move (by exact OT.tmp rfl))))
              · exact rop_gu rfl rfl rfl (OT.gu_mk (OT.tmp rfl)) (fun hg => by (have hg1 := hg.2; exact rop_pure rfl (pu_index_own (by exact OT.gu (OT.tmp rfl) hg) (by exact mem_at 0 rfl) (by exact OT.gu (OT.tmp rfl) hg) Try.underlying35 (show tyOk Try.prog 45 false 1 = true from by decide +kernel) (by omega) (by omega))))
              · exact rop_gu rfl rfl rfl (OT.gu_mk (OT.tmp rfl)) (fun hg => by (have hg1 := hg.2; exact rop_pure rfl (pu_load_own0 (by exact OT.gu (OT.tmp rfl) hg) (by exact mem_at 0 rfl) (by omega) (by omega) (show tyOk Try.prog 45 false 1 = true from by decide +kernel))))
              · exact rop_gu rfl rfl rfl (OT.gu_mk (OT.tmp rfl)) (fun hg => by (have hg1 := hg.2; exact rop_pure rfl (pu_move (by exact OT.tmp rfl))))
              · exact rop_gu rfl rfl rfl (OT.gu_mk (OT.tmp rfl)) (fun hg => by (have hg1 := hg.2; exact rop_pure rfl (pu_move (by exact OT.tmp rfl))))
              · exact rop_gu rfl rfl rfl (OT.gu_mk (OT.tmp rfl)) (fun hg => by (have hg1 := hg.2; exact rop_pure rfl (pu_index_own (by exact OT.gu (OT.tmp rfl) hg) (by exact mem_at 0 rfl) (by exact OT.gu (OT.tmp rfl) hg) Try.underlying35 (show tyOk Try.prog 45 false 1 = true from by decide +kernel) (by omega) (by omega))))
              · exact rop_gu rfl rfl rfl (OT.gu_mk (OT.tmp rfl)) (fun hg => by (have hg1 := hg.2; exact rop_pure rfl (pu_load_own0 (by exact OT.gu (OT.tmp rfl) hg) (by exact mem_at 0 rfl) (by omega) (by omega) (show tyOk Try.prog 45 false 1 = true from by decide +kernel))))
            case h =>
              refine op_gu_acts () rfl rfl rfl (OT.gu_mk (OT.tmp rfl)) (fun hg => by (have hg1 := hg.2; (try simp only [decide_eq_true_eq, decide_eq_false_iff_not] at hg1); exact acts_callv (by exact OT.gu (OT.tmp rfl) hg) (hfv _ _) (OTs.cons (by exact OT.gu (OT.tmp rfl) hg) (OTs.cons (by exact OT.gu (OT.tmp rfl) hg) OTs.nil)) (List.Perm.refl _))) rfl (fun _ _ => ?_)
              refine op_gu rfl rfl rfl (OT.gu_mk (OT.tmp rfl)) (fun hg => by (have hg1 := hg.2; (try simp only [decide_eq_true_eq, decide_eq_false_iff_not] at hg1); exact pu_lss (by exact OT.gu (OT.tmp rfl) hg) OT.const)) rfl ?_
              refine op_gu rfl rfl rfl (OT.gu_mk (OT.tmp rfl)) (fun hg => by (have hg1 := hg.2; (try simp only [decide_eq_true_eq, decide_eq_false_iff_not] at hg1); exact pu_not (by exact OT.gu (OT.tmp rfl) hg))) rfl ?_
              refine op_pure (pu_pick_and (OT.tmp rfl) (by exact OT.tmp rfl)) rfl rfl ?_
              refine tr_nil ?_
              refine then_normal ?_
              refine tr_cond (OT.tmp rfl) (fun c66 => ?_) (fun c66 => ?_)
              · try simp only [decide_eq_true_eq, decide_eq_false_iff_not, Bool.or_eq_true, Bool.and_eq_true, Bool.or_eq_false_iff, Bool.and_eq_false_iff, Bool.not_eq_true', Bool.not_eq_false', ne_eq, Classical.not_not] at c66
                have hnx := (down_step (p := (fun x => !ltc c x d0[a]!)) (d := d0) (i := i) (j := j) (by omega) (by omega) (by show (!ltc c _ _) = true; rw [ltc_at (by omega) (by omega)]; simpa using c66.2)).symm.trans hj
                refine tr_skip ?_
                refine then_normal ?_
                refine tr_block ?_
                -- region 6
                refine tr_env (es_cons (t := 0) (OT.tmp rfl) (es_cons (t := 1) (OT.tmp rfl) (es_cons (t := 4) (OT.tmp rfl) (es_cons (t := 12) (OT.tmp rfl) (es_cons (t := 13) (OT.tmp rfl) es_nil))))) ?_
                refine tr_region ?_
                refine op_pure (pu_move (OT.tmp rfl)) rfl rfl ?_
                refine op_pure (pu_sub' (OT.tmp rfl) OT.const (by omega)) rfl rfl ?_
                refine op_pure (pu_assign (OT.tmp rfl)) rfl rfl ?_
                refine tr_nil ?_
                refine block_normal ?_
                refine then_normal ?_
                exact tr_again (j - 1) ⟨by omega, by omega, hnx⟩ (by omega) (es_append (es_cons (t := 13) (by exact OT.val (OT.tmp rfl) (congrArg (Value.int _) (by omega))) es_nil) (es_cons (t := 0) (OT.tmp rfl) (es_cons (t := 1) (OT.tmp rfl) (es_cons (t := 4) (OT.tmp rfl) (es_cons (t := 12) (OT.tmp rfl) es_nil))))) (own_picks (by repeat (first | exact picks_nil | refine picks_cons 0 rfl ?_ | refine picks_cons 1 rfl ?_ | refine picks_cons 2 rfl ?_ | refine picks_cons 3 rfl ?_ | refine picks_cons 4 rfl ?_ | refine picks_cons 5 rfl ?_ | refine picks_cons 6 rfl ?_)))
              · try simp only [decide_eq_true_eq, decide_eq_false_iff_not, Bool.or_eq_true, Bool.and_eq_true, Bool.or_eq_false_iff, Bool.and_eq_false_iff, Bool.not_eq_true', Bool.not_eq_false', ne_eq, Classical.not_not] at c66
                have hde : i ≤ j → ltc c d0[j]! d0[a]! = true := fun h => by
                  rw [ltc_at (by omega) (by omega)]
                  rcases c66 with h9 | h9
                  · omega
                  · simpa using h9
                have hdn := hj.symm.trans (down_end (p := (fun x => !ltc c x d0[a]!)) (fun h => by show (!ltc c _ _) = false; rw [hde h]; rfl))
                refine tr_exit ?_
                refine then_exit ?_
                refine then_exit ?_
                refine block_hit ?_
                refine then_normal ?_
                refine tr_seq ?_
                refine tr_seq ?_
                -- region 7
                refine tr_env (es_cons (t := 0) (OT.tmp rfl) (es_cons (t := 1) (OT.tmp rfl) (es_cons (t := 4) (OT.tmp rfl) (es_cons (t := 12) (OT.tmp rfl) (es_cons (t := 13) (OT.tmp rfl) es_nil))))) ?_
                refine tr_region ?_
                refine op_pure (pu_move (OT.tmp rfl)) rfl rfl ?_
                refine op_pure (pu_move (OT.tmp rfl)) rfl rfl ?_
                refine op_pure (pu_gtr (OT.tmp rfl) (OT.tmp rfl)) rfl rfl ?_
                refine tr_nil ?_
                refine then_normal ?_
                refine tr_cond (OT.tmp rfl) (fun c71 => ?_) (fun c71 => ?_)
                · try simp only [decide_eq_true_eq, decide_eq_false_iff_not, Bool.or_eq_true, Bool.and_eq_true, Bool.or_eq_false_iff, Bool.and_eq_false_iff, Bool.not_eq_true', Bool.not_eq_false', ne_eq, Classical.not_not] at c71
                  refine tr_seq ?_
                  -- region 8
                  refine tr_env (es_cons (t := 0) (OT.tmp rfl) (es_cons (t := 1) (OT.tmp rfl) (es_cons (t := 13) (OT.tmp rfl) es_nil))) ?_
                  apply tr_anyW (p := 13) (Lf := fun c => cond c ([OwnI 45 (kG Z) v (d0.toList.set (j : Int).toNat (at' d0.toList (a : Int)))]) ([OwnI 45 (kG Z) v d0.toList])) (by kernel_rfl) (m := 14) (ns := [[(0, none)], [(13, none)], [(0, none)], [(1, none)], [(0, none)], [(1, none)], [(76, some 4), (77, some 5)], [(78, some 6)], [(0, none)], [(13, none)], [(80, some 8), (81, some 9)], [(82, some 10)], [(72, some 0), (73, some 1)], [(79, some 7), (84, some 12)]]) (by kernel_rfl) (by kernel_rfl) (Ts := [_, _, _, _, _, _, _, _, _, _, _, _, _, _]) rfl
                  case hops =>
                    refine ⟨?_, ⟨?_, ⟨?_, ⟨?_, ⟨?_, ⟨?_, ⟨?_, ⟨?_, ⟨?_, ⟨?_, ⟨?_, ⟨?_, ⟨?_, ⟨?_, trivial⟩⟩⟩⟩⟩⟩⟩⟩⟩⟩⟩⟩⟩⟩
                    · intro c hc; cases c
                      · exact ropw_of (rop_pure rfl (pu_move (OT.tmp rfl)))
                      · exact Bool.noConfusion (hc.symm.trans (by kernel_rfl : okFlag _ _ _ _ = false))
                    · intro c hc; cases c
                      · exact ropw_of (rop_pure rfl (pu_move (OT.tmp rfl)))
                      · exact Bool.noConfusion (hc.symm.trans (by kernel_rfl : okFlag _ _ _ _ = false))
                    · intro c hc; cases c
                      · exact ropw_of (rop_pure rfl (pu_move (OT.tmp rfl)))
                      · exact ropw_of (rop_pure rfl (pu_move (OT.tmp rfl)))
                    · intro c hc; cases c
                      · exact ropw_of (rop_pure rfl (pu_move (OT.tmp rfl)))
                      · exact ropw_of (rop_pure rfl (pu_move (OT.tmp rfl)))
                    · intro c hc; cases c
                      · exact ropw_of (rop_pure rfl (pu_move (OT.tmp rfl)))
                      · exact Bool.noConfusion (hc.symm.trans (by kernel_rfl : okFlag _ _ _ _ = false))
                    · intro c hc; cases c
                      · exact ropw_of (rop_pure rfl (pu_move (OT.tmp rfl)))
                      · exact Bool.noConfusion (hc.symm.trans (by kernel_rfl : okFlag _ _ _ _ = false))
                    · intro c hc; cases c
                      · exact ropw_of (rop_pure rfl (pu_index_own (OT.tmp rfl) (by exact mem_at 0 rfl) (OT.tmp rfl) Try.underlying35 (show tyOk Try.prog 45 false 1 = true from by decide +kernel) (by omega) (by omega)))
                      · exact Bool.noConfusion (hc.symm.trans (by kernel_rfl : okFlag _ _ _ _ = false))
                    · intro c hc; cases c
                      · exact ropw_of (rop_pure rfl (pu_load_own0 (OT.tmp rfl) (by exact mem_at 0 rfl) (by omega) (by omega) (show tyOk Try.prog 45 false 1 = true from by decide +kernel)))
                      · exact Bool.noConfusion (hc.symm.trans (by kernel_rfl : okFlag _ _ _ _ = false))
                    · intro c hc; cases c
                      · exact ropw_of (rop_pure rfl (pu_move (OT.tmp rfl)))
                      · exact Bool.noConfusion (hc.symm.trans (by kernel_rfl : okFlag _ _ _ _ = false))
                    · intro c hc; cases c
                      · exact ropw_of (rop_pure rfl (pu_move (OT.tmp rfl)))
                      · exact Bool.noConfusion (hc.symm.trans (by kernel_rfl : okFlag _ _ _ _ = false))
                    · intro c hc; cases c
                      · exact ropw_of (rop_pure rfl (pu_index_own (OT.tmp rfl) (by exact mem_at 0 rfl) (OT.tmp rfl) Try.underlying35 (show tyOk Try.prog 45 false 1 = true from by decide +kernel) (by omega) (by omega)))
                      · exact Bool.noConfusion (hc.symm.trans (by kernel_rfl : okFlag _ _ _ _ = false))
                    · intro c hc; cases c
                      · exact ropw_of (rop_pure rfl (pu_load_own0 (OT.tmp rfl) (by exact mem_at 0 rfl) (by omega) (by omega) (show tyOk Try.prog 45 false 1 = true from by decide +kernel)))
                      · exact Bool.noConfusion (hc.symm.trans (by kernel_rfl : okFlag _ _ _ _ = false))
                    · intro c hc; cases c
                      · exact ropw_of (rop_pure rfl (pu_index_own (OT.tmp rfl) (by exact mem_at 0 rfl) (OT.tmp rfl) Try.underlying35 (show tyOk Try.prog 45 false 1 = true from by decide +kernel) (by omega) (by omega)))
                      · exact Bool.noConfusion (hc.symm.trans (by kernel_rfl : okFlag _ _ _ _ = false))
                    · intro c hc; cases c
                      · exact ropw_acts rfl (acts_store_own0 (OT.tmp rfl) (OT.tmp rfl) (by exact perm_at 0 rfl) (by omega) (by omega) (show tyOk Try.prog 45 false 1 = true from by decide +kernel)) (by exact perm_at 0 rfl) (fun _ => (by exact perm_at 0 rfl)) (fun _ _ _ _ h => h)
                      · exact Bool.noConfusion (hc.symm.trans (by kernel_rfl : okFlag _ _ _ _ = false))
                  case h =>
                    refine op_pure (pu_index_own (OT.tmp rfl) (by exact mem_at 0 rfl) (OT.tmp rfl) Try.underlying35 (show tyOk Try.prog 45 false 1 = true from by decide +kernel) (by omega) (by (simp; omega))) rfl rfl ?_
                    refine op_acts (acts_store_own0 (OT.tmp rfl) (OT.tmp rfl) (by exact perm_at 0 rfl) (by omega) (by (simp; omega)) (show tyOk Try.prog 45 false 1 = true from by decide +kernel)) (by exact perm_at 0 rfl) rfl rfl (fun _ _ => ?_)
                    refine tr_nil ?_
                    refine then_normal ?_
                    refine tr_seq ?_
                    -- region 9
                    refine tr_env (es_cons (t := 13) (OT.tmp rfl) es_nil) ?_
                    rw [sw (by omega) (by omega)]
                    have hres : (Sort.partition (ltc c) d a b pv) = (j, true, Sort.swp d0 j a) := by subst hd0; exact partition_one hup hdn (by omega)
                    refine tr_region ?_
                    refine op_pure (pu_move (OT.tmp rfl)) rfl rfl ?_
                    refine op_pure (pu_assign (OT.tmp rfl)) rfl rfl ?_
                    refine op_pure (pu_assign OT.const) rfl rfl ?_
                    refine tr_nil ?_
                    refine then_normal ?_
                    refine tr_ret ?_
                    refine then_ret ?_
                    exact ret_two .ret (.inl rfl) rfl () (OT.val (OT.tmp rfl) (congrArg (Value.int _) (by rw [hres]))) (OT.val (OT.tmp rfl) (congrArg Value.bool (by rw [hres]))) (fun _ _ h => h) trivial (by rw [hres]; exact picks_cons 0 rfl picks_nil)
                · try simp only [decide_eq_true_eq, decide_eq_false_iff_not, Bool.or_eq_true, Bool.and_eq_true, Bool.or_eq_false_iff, Bool.and_eq_false_iff, Bool.not_eq_true', Bool.not_eq_false', ne_eq, Classical.not_not] at c71
                  refine tr_skip ?_
                  refine then_normal ?_
                  refine tr_seq ?_
                  -- region 10
                  refine tr_env (es_cons (t := 0) (OT.tmp rfl) (es_cons (t := 1) (OT.tmp rfl) (es_cons (t := 4) (OT.tmp rfl) (es_cons (t := 12) (OT.tmp rfl) (es_cons (t := 13) (OT.tmp rfl) es_nil))))) ?_
                  apply tr_anyW (p := 13) (Lf := fun c => cond c ([OwnI 45 (kG Z) v (d0.toList.set (i : Int).toNat (at' d0.toList (j : Int)))]) ([OwnI 45 (kG Z) v d0.toList])) (by kernel_rfl) (m := 14) (ns := [[(0, none)], [(12, none)], [(0, none)], [(13, none)], [(0, none)], [(13, none)], [(91, some 4), (92, some 5)], [(93, some 6)], [(0, none)], [(12, none)], [(95, some 8), (96, some 9)], [(97, some 10)], [(87, some 0), (88, some 1)], [(94, some 7), (99, some 12)]]) (by kernel_rfl) (by kernel_rfl) (Ts := [_, _, _, _, _, _, _, _, _, _, _, _, _, _]) rfl
                  case hops =>
                    refine ⟨?_, ⟨?_, ⟨?_, ⟨?_, ⟨?_, ⟨?_, ⟨?_, ⟨?_, ⟨?_, ⟨?_, ⟨?_, ⟨?_, ⟨?_, ⟨?_, trivial⟩⟩⟩⟩⟩⟩⟩⟩⟩⟩⟩⟩⟩⟩
                    · intro c hc; cases c
                      · exact ropw_of (rop_pure rfl (pu_move (OT.tmp rfl)))
                      · exact Bool.noConfusion (hc.symm.trans (by kernel_rfl : okFlag _ _ _ _ = false))
                    · intro c hc; cases c
                      · exact ropw_of (rop_pure rfl (pu_move (OT.tmp rfl)))
                      · exact Bool.noConfusion (hc.symm.trans (by kernel_rfl : okFlag _ _ _ _ = false))
                    · intro c hc; cases c
                      · exact ropw_of (rop_pure rfl (pu_move (OT.tmp rfl)))
                      · exact ropw_of (rop_pure rfl (pu_move (OT.tmp rfl)))
                    · intro c hc; cases c
                      · exact ropw_of (rop_pure rfl (pu_move (OT.tmp rfl)))
                      · exact ropw_of (rop_pure rfl (pu_move (OT.tmp rfl)))
                    · intro c hc; cases c
                      · exact ropw_of (rop_pure rfl (pu_move (OT.tmp rfl)))
                      · exact Bool.noConfusion (hc.symm.trans (by kernel_rfl : okFlag _ _ _ _ = false))
                    · intro c hc; cases c
                      · exact ropw_of (rop_pure rfl (pu_move (OT.tmp rfl)))
                      · exact Bool.noConfusion (hc.symm.trans (by kernel_rfl : okFlag _ _ _ _ = false))
                    · intro c hc; cases c
                      · exact ropw_of (rop_pure rfl (pu_index_own (OT.tmp rfl) (by exact mem_at 0 rfl) (OT.tmp rfl) Try.underlying35 (show tyOk Try.prog 45 false 1 = true from by decide +kernel) (by omega) (by omega)))
                      · exact Bool.noConfusion (hc.symm.trans (by kernel_rfl : okFlag _ _ _ _ = false))
                    · intro c hc; cases c
                      · exact ropw_of (rop_pure rfl (pu_load_own0 (OT.tmp rfl) (by exact mem_at 0 rfl) (by omega) (by omega) (show tyOk Try.prog 45 false 1 = true from by decide +kernel)))
                      · exact Bool.noConfusion (hc.symm.trans (by kernel_rfl : okFlag _ _ _ _ = false))
                    · intro c hc; cases c
                      · exact ropw_of (rop_pure rfl (pu_move (OT.tmp rfl)))
                      · exact Bool.noConfusion (hc.symm.trans (by kernel_rfl : okFlag _ _ _ _ = false))
                    · intro c hc; cases c
                      · exact ropw_of (rop_pure rfl (pu_move (OT.tmp rfl)))
                      · exact Bool.noConfusion (hc.symm.trans (by kernel_rfl : okFlag _ _ _ _ = false))
                    · intro c hc; cases c
                      · exact ropw_of (rop_pure rfl (pu_index_own (OT.tmp rfl) (by exact mem_at 0 rfl) (OT.tmp rfl) Try.underlying35 (show tyOk Try.prog 45 false 1 = true from by decide +kernel) (by omega) (by omega)))
                      · exact Bool.noConfusion (hc.symm.trans (by kernel_rfl : okFlag _ _ _ _ = false))
                    · intro c hc; cases c
                      · exact ropw_of (rop_pure rfl (pu_load_own0 (OT.tmp rfl) (by exact mem_at 0 rfl) (by omega) (by omega) (show tyOk Try.prog 45 false 1 = true from by decide +kernel)))
                      · exact Bool.noConfusion (hc.symm.trans (by kernel_rfl : okFlag _ _ _ _ = false))
                    · intro c hc; cases c
                      · exact ropw_of (rop_pure rfl (pu_index_own (OT.tmp rfl) (by exact mem_at 0 rfl) (OT.tmp rfl) Try.underlying35 (show tyOk Try.prog 45 false 1 = true from by decide +kernel) (by omega) (by omega)))
                      · exact Bool.noConfusion (hc.symm.trans (by kernel_rfl : okFlag _ _ _ _ = false))
                    · intro c hc; cases c
                      · exact ropw_acts rfl (acts_store_own0 (OT.tmp rfl) (OT.tmp rfl) (by exact perm_at 0 rfl) (by omega) (by omega) (show tyOk Try.prog 45 false 1 = true from by decide +kernel)) (by exact perm_at 0 rfl) (fun _ => (by exact perm_at 0 rfl)) (fun _ _ _ _ h => h)
                      · exact Bool.noConfusion (hc.symm.trans (by kernel_rfl : okFlag _ _ _ _ = false))
                  case h =>
                    refine op_pure (pu_index_own (OT.tmp rfl) (by exact mem_at 0 rfl) (OT.tmp rfl) Try.underlying35 (show tyOk Try.prog 45 false 1 = true from by decide +kernel) (by omega) (by (simp; omega))) rfl rfl ?_
                    refine op_acts (acts_store_own0 (OT.tmp rfl) (OT.tmp rfl) (by exact perm_at 0 rfl) (by omega) (by (simp; omega)) (show tyOk Try.prog 45 false 1 = true from by decide +kernel)) (by exact perm_at 0 rfl) rfl rfl (fun _ _ => ?_)
                    refine tr_nil ?_
                    refine then_normal ?_
                    refine tr_seq ?_
                    -- region 11
                    refine tr_env (es_cons (t := 0) (OT.tmp rfl) (es_cons (t := 1) (OT.tmp rfl) (es_cons (t := 4) (OT.tmp rfl) (es_cons (t := 12) (OT.tmp rfl) (es_cons (t := 13) (OT.tmp rfl) es_nil))))) ?_
                    have hij : i ≤ j := by omega
                    have hne : i ≠ j := fun e => by have h8 := hue (by omega); have h9 := hde hij; rw [← e] at h9; exact absurd (h8.symm.trans h9) (by simp)
                    rw [sw (by omega) (by omega)]
                    have hres : (Sort.partition (ltc c) d a b pv) = ((Sort.partLoop (ltc c) a (i + 1) (j - 1) (Sort.swp d0 i j)).1, false, Sort.swp (Sort.partLoop (ltc c) a (i + 1) (j - 1) (Sort.swp d0 i j)).2 (Sort.partLoop (ltc c) a (i + 1) (j - 1) (Sort.swp d0 i j)).1 a) := by subst hd0; exact partition_two hup hdn (by omega)
                    have hs1 : (Sort.swp d0 i j).size = d.size := swp_size.trans hs0
                    refine tr_region ?_
                    refine op_pure (pu_move (OT.tmp rfl)) rfl rfl ?_
                    refine op_pure (pu_add' (OT.tmp rfl) OT.const (by omega)) rfl rfl ?_
                    refine op_pure (pu_assign (OT.tmp rfl)) rfl rfl ?_
                    refine tr_nil ?_
                    refine then_normal ?_
                    refine tr_seq ?_
                    -- region 12
                    refine tr_env (es_cons (t := 0) (OT.tmp rfl) (es_cons (t := 1) (OT.tmp rfl) (es_cons (t := 4) (OT.tmp rfl) (es_cons (t := 12) (OT.tmp rfl) (es_cons (t := 13) (OT.tmp rfl) es_nil))))) ?_
                    refine tr_region ?_
                    refine op_pure (pu_move (OT.tmp rfl)) rfl rfl ?_
                    refine op_pure (pu_sub' (OT.tmp rfl) OT.const (by omega)) rfl rfl ?_
                    refine op_pure (pu_assign (OT.tmp rfl)) rfl rfl ?_
                    refine tr_nil ?_
                    refine then_normal ?_
                    refine tr_seq ?_
                    refine tr_block ?_
                    refine tr_loopK (σ := Nat × Nat × DA) (es_cons (t := 0) (OT.tmp rfl) (es_cons (t := 1) (OT.tmp rfl) (es_cons (t := 4) (OT.tmp rfl) es_nil))) (fun s => [(12, I64 (s.1 : Int)), (13, I64 (s.2.1 : Int))]) (fun s => [OwnI 45 (kG Z) v s.2.2.toList]) (fun s => s.2.2.size = d.size ∧ a + 1 ≤ s.1 ∧ s.1 ≤ s.2.1 + 1 ∧ s.2.1 < b ∧ Sort.partLoop (ltc c) a s.1 s.2.1 s.2.2 = Sort.partLoop (ltc c) a (i + 1) (j - 1) (Sort.swp d0 i j)) (fun s => s.2.1 + 1 - s.1) (i + 1, j - 1, Sort.swp d0 i j) ⟨hs1, by show a + 1 ≤ i + 1; omega, by show i + 1 ≤ j - 1 + 1; omega, by show j - 1 < b; omega, rfl⟩ ?_ (own_picks (by repeat (first | exact picks_nil | refine picks_cons 0 rfl ?_ | refine picks_cons 1 rfl ?_ | refine picks_cons 2 rfl ?_ | refine picks_cons 3 rfl ?_ | refine picks_cons 4 rfl ?_ | refine picks_cons 5 rfl ?_ | refine picks_cons 6 rfl ?_))) ?_
                    · exact (es_cons (t := 12) (by exact OT.tmp rfl) (es_cons (t := 13) (by exact OT.val (OT.tmp rfl) (congrArg (Value.int _) (by (simp; omega)))) es_nil))
                    · rintro ⟨i1, j1, d1⟩ ⟨hs2, hi2, hij1, hjb, hr⟩
                      dsimp only at hs2 hi2 hij1 hjb hr ⊢
                      have hl1 : d1.toList.length = d1.size := Array.length_toList
                      refine tr_block ?_
                      refine tr_seq ?_
                      refine tr_block ?_
                      refine tr_loopK (σ := Nat) (es_cons (t := 0) (OT.tmp rfl) (es_cons (t := 1) (OT.tmp rfl) (es_cons (t := 4) (OT.tmp rfl) (es_cons (t := 13) (OT.tmp rfl) es_nil)))) (fun s => [(12, I64 (s : Int))]) (fun s => [OwnI 45 (kG Z) v d1.toList]) (fun s => i1 ≤ s ∧ s ≤ j1 + 1 ∧ Sort.scanUp (fun x => ltc c x d1[a]!) d1 (j1) s = Sort.scanUp (fun x => ltc c x d1[a]!) d1 (j1) (i1)) (fun s => j1 + 1 - s) i1 ⟨by omega, by omega, rfl⟩ ?_ (own_picks (by repeat (first | exact picks_nil | refine picks_cons 0 rfl ?_ | refine picks_cons 1 rfl ?_ | refine picks_cons 2 rfl ?_ | refine picks_cons 3 rfl ?_ | refine picks_cons 4 rfl ?_ | refine picks_cons 5 rfl ?_ | refine picks_cons 6 rfl ?_))) ?_
                      · exact (es_cons (t := 12) (by exact OT.tmp rfl) es_nil)
                      · rintro i2 ⟨hi30, hi31, hi3⟩
                        refine tr_seq ?_
                        refine tr_seq ?_
                        -- region 13
                        refine tr_env (es_cons (t := 0) (OT.tmp rfl) (es_cons (t := 1) (OT.tmp rfl) (es_cons (t := 4) (OT.tmp rfl) (es_cons (t := 12) (OT.tmp rfl) (es_cons (t := 13) (OT.tmp rfl) es_nil))))) ?_
                        apply tr_any (m := 13) (ns := [[(12, none)], [(13, none)], [(105, some 0), (106, some 1)], [(107, some 2)], [(4, none), (108, some 3)], [(0, none), (108, some 3)], [(12, none), (108, some 3)], [(108, some 3), (110, some 5), (111, some 6)], [(108, some 3), (112, some 7)], [(0, none), (108, some 3)], [(1, none), (108, some 3)], [(108, some 3), (114, some 9), (115, some 10)], [(108, some 3), (116, some 11)]]) (by kernel_rfl) (by kernel_rfl) (Ts := [_, _, _, _, _, _, _, _, _, _, _, _, _]) rfl
                        case hops =>
                          refine ⟨?_, ⟨?_, ⟨?_, ⟨?_, ⟨?_, ⟨?_, ⟨?_, ⟨?_, ⟨?_, ⟨?_, ⟨?_, ⟨?_, ⟨?_, trivial⟩⟩⟩⟩⟩⟩⟩⟩⟩⟩⟩⟩⟩
                          · exact rop_pure rfl (pu_move (OT.tmp rfl))
                          · exact rop_pure rfl (pu_move (OT.tmp rfl))
                          · exact rop_pure rfl (pu_leq (OT.tmp rfl) (OT.tmp rfl))
                          · exact rop_pure rfl (pu_move (OT.tmp rfl))
                          · exact rop_gu rfl rfl rfl (OT.gu_mk (OT.tmp rfl)) (fun hg => by (have hg1 := hg.2; exact rop_pure rfl (pu_move (by exact OT.tmp rfl))))
                          · exact rop_gu rfl rfl rfl (OT.gu_mk (OT.tmp rfl)) (fun hg => by (have hg1 := hg.2; exact rop_pure rfl (pu_move (by exact OT.tmp rfl))))
                          · exact rop_gu rfl rfl rfl (OT.gu_mk (OT.tmp rfl)) (fun hg => by (have hg1 := hg.2; exact rop_pure rfl (pu_move (by exact OT.tmp rfl))))
                          · exact rop_gu rfl rfl rfl (OT.gu_mk (OT.tmp rfl)) (fun hg => by (have hg1 := hg.2; exact rop_pure rfl (pu_index_own (by exact OT.gu (OT.tmp rfl) hg) (by exact mem_at 0 rfl) (by exact OT.gu (OT.tmp rfl) hg) Try.underlying35 (show tyOk Try.prog 45 false 1 = true from by decide +kernel) (by omega) (by (simp [maxLen] at *; omega)))))
                          · exact rop_gu rfl rfl rfl (OT.gu_mk (OT.tmp rfl)) (fun hg => by (have hg1 := hg.2; exact rop_pure rfl (pu_load_own0 (by exact OT.gu (OT.tmp rfl) hg) (by exact mem_at 0 rfl) (by omega) (by (simp [maxLen] at *; omega)) (show tyOk Try.prog 45 false 1 = true from by decide +kernel))))
                          · exact rop_gu rfl rfl rfl (OT.gu_mk (OT.tmp rfl)) (fun hg => by (have hg1 := hg.2; exact rop_pure rfl (pu_move (by exact OT.tmp rfl))))
                          · exact rop_gu rfl rfl rfl (OT.gu_mk (OT.tmp rfl)) (fun hg => by (have hg1 := hg.2; exact rop_pure rfl (pu_move (by exact OT.tmp rfl))))
                          · exact rop_gu rfl rfl rfl (OT.gu_mk (OT.tmp rfl)) (fun hg => by (have hg1 := hg.2; exact rop_pure rfl (pu_index_own (by exact OT.gu (OT.tmp rfl) hg) (by exact mem_at 0 rfl) (by exact OT.gu (OT.tmp rfl) hg) Try.underlying35 (show tyOk Try.prog 45 false 1 = true from by decide +kernel) (by omega) (by omega))))
                          · exact rop_gu rfl rfl rfl (OT.gu_mk (OT.tmp rfl)) (fun hg => by (have hg1 := hg.2; exact rop_pure rfl (pu_load_own0 (by exact OT.gu (OT.tmp rfl) hg) (by exact mem_at 0 rfl) (by omega) (by omega) (show tyOk Try.prog 45 false 1 = true from by decide +kernel))))
                        case h =>
                          refine op_gu_acts () rfl rfl rfl (OT.gu_mk (OT.tmp rfl)) (fun hg => by (have hg1 := hg.2; (try simp only [decide_eq_true_eq, decide_eq_false_iff_not] at hg1); exact acts_callv (by exact OT.gu (OT.tmp rfl) hg) (hfv _ _) (OTs.cons (by exact OT.gu (OT.tmp rfl) hg) (OTs.cons (by exact OT.gu (OT.tmp rfl) hg) OTs.nil)) (List.Perm.refl _))) rfl (fun _ _ => ?_)
                          refine op_gu rfl rfl rfl (OT.gu_mk (OT.tmp rfl)) (fun hg => by (have hg1 := hg.2; (try simp only [decide_eq_true_eq, decide_eq_false_iff_not] at hg1); exact pu_lss (by exact OT.gu (OT.tmp rfl) hg) OT.const)) rfl ?_
                          refine op_pure (pu_pick_and (OT.tmp rfl) (by exact OT.tmp rfl)) rfl rfl ?_
                          refine tr_nil ?_
                          refine then_normal ?_
                          refine tr_cond (OT.tmp rfl) (fun c120 => ?_) (fun c120 => ?_)
                          · try simp only [decide_eq_true_eq, decide_eq_false_iff_not, Bool.or_eq_true, Bool.and_eq_true, Bool.or_eq_false_iff, Bool.and_eq_false_iff, Bool.not_eq_true', Bool.not_eq_false', ne_eq, Classical.not_not] at c120
                            have hnx := (up_step (p := (fun x => ltc c x d1[a]!)) (d := d1) (j := j1) (i := i2) (by omega) (by show ltc c _ _ = true; rw [ltc_at (by omega) (by omega)]; simpa using c120.2)).symm.trans hi3
                            refine tr_skip ?_
                            refine then_normal ?_
                            refine tr_block ?_
                            -- region 14
                            refine tr_env (es_cons (t := 0) (OT.tmp rfl) (es_cons (t := 1) (OT.tmp rfl) (es_cons (t := 4) (OT.tmp rfl) (es_cons (t := 12) (OT.tmp rfl) (es_cons (t := 13) (OT.tmp rfl) es_nil))))) ?_
                            refine tr_region ?_
                            refine op_pure (pu_move (OT.tmp rfl)) rfl rfl ?_
                            refine op_pure (pu_add' (OT.tmp rfl) OT.const (by omega)) rfl rfl ?_
                            refine op_pure (pu_assign (OT.tmp rfl)) rfl rfl ?_
                            refine tr_nil ?_
                            refine block_normal ?_
                            refine then_normal ?_
                            exact tr_again (i2 + 1) ⟨by omega, by omega, hnx⟩ (by omega) (es_append (es_cons (t := 12) (by exact OT.tmp rfl) es_nil) (es_cons (t := 0) (OT.tmp rfl) (es_cons (t := 1) (OT.tmp rfl) (es_cons (t := 4) (OT.tmp rfl) (es_cons (t := 13) (OT.tmp rfl) es_nil))))) (own_picks (by repeat (first | exact picks_nil | refine picks_cons 0 rfl ?_ | refine picks_cons 1 rfl ?_ | refine picks_cons 2 rfl ?_ | refine picks_cons 3 rfl ?_ | refine picks_cons 4 rfl ?_ | refine picks_cons 5 rfl ?_ | refine picks_cons 6 rfl ?_)))
                          · try simp only [decide_eq_true_eq, decide_eq_false_iff_not, Bool.or_eq_true, Bool.and_eq_true, Bool.or_eq_false_iff, Bool.and_eq_false_iff, Bool.not_eq_true', Bool.not_eq_false', ne_eq, Classical.not_not] at c120
                            have hue1 : i2 ≤ j1 → ltc c d1[i2]! d1[a]! = false := fun h => by
                              rw [ltc_at (by omega) (by omega)]
                              rcases c120 with h9 | h9
                              · omega
                              · simpa using h9
                            have hup1 := hi3.symm.trans (up_end hue1)
                            refine tr_exit ?_
                            refine then_exit ?_
                            refine then_exit ?_
                            refine block_hit ?_
                            refine then_normal ?_
                            refine tr_seq ?_
                            refine tr_block ?_
                            refine tr_loopK (σ := Nat) (es_cons (t := 0) (OT.tmp rfl) (es_cons (t := 1) (OT.tmp rfl) (es_cons (t := 4) (OT.tmp rfl) (es_cons (t := 12) (OT.tmp rfl) es_nil)))) (fun s => [(13, I64 (s : Int))]) (fun s => [OwnI 45 (kG Z) v d1.toList]) (fun s => s ≤ j1 ∧ i2 ≤ s + 1 ∧ Sort.scanDown (fun x => !ltc c x d1[a]!) d1 i2 s = Sort.scanDown (fun x => !ltc c x d1[a]!) d1 i2 j1) (fun s => s) j1 ⟨by omega, by omega, rfl⟩ ?_ (own_picks (by repeat (first | exact picks_nil | refine picks_cons 0 rfl ?_ | refine picks_cons 1 rfl ?_ | refine picks_cons 2 rfl ?_ | refine picks_cons 3 rfl ?_ | refine picks_cons 4 rfl ?_ | refine picks_cons 5 rfl ?_ | refine picks_cons 6 rfl ?_))) ?_
                            · exact (es_cons (t := 13) (by exact OT.tmp rfl) es_nil)
                            · rintro j2 ⟨hj40, hj41, hj4⟩
                              refine tr_seq ?_
                              refine tr_seq ?_
                              -- region 15
                              refine tr_env (es_cons (t := 0) (OT.tmp rfl) (es_cons (t := 1) (OT.tmp rfl) (es_cons (t := 4) (OT.tmp rfl) (es_cons (t := 12) (OT.tmp rfl) (es_cons (t := 13) (OT.tmp rfl) es_nil))))) ?_
                              apply tr_any (m := 13) (ns := [[(12, none)], [(13, none)], [(123, some 0), (124, some 1)], [(125, some 2)], [(4, none), (126, some 3)], [(0, none), (126, some 3)], [(13, none), (126, some 3)], [(126, some 3), (128, some 5), (129, some 6)], [(126, some 3), (130, some 7)], [(0, none), (126, some 3)], [(1, none), (126, some 3)], [(126, some 3), (132, some 9), (133, some 10)], [(126, some 3), (134, some 11)]]) (by kernel_rfl) (by kernel_rfl) (Ts := [_, _, _, _, _, _, _, _, _, _, _, _, _]) rfl
                              case hops =>
                                refine ⟨?_, ⟨?_, ⟨?_, ⟨?_, ⟨?_, ⟨?_, ⟨?_, ⟨?_, ⟨?_, ⟨?_, ⟨?_, ⟨?_, ⟨?_, trivial⟩⟩⟩⟩⟩⟩⟩⟩⟩⟩⟩⟩⟩
                                · exact rop_pure rfl (pu_move (OT.tmp rfl))
                                · exact rop_pure rfl (pu_move (OT.tmp rfl))
                                · exact rop_pure rfl (pu_leq (OT.tmp rfl) (OT.tmp rfl))
                                · exact rop_pure rfl (pu_move (OT.tmp rfl))
                                · exact rop_gu rfl rfl rfl (OT.gu_mk (OT.tmp rfl)) (fun hg => by (have hg1 := hg.2; exact rop_pure rfl (pu_move (by exact OT.tmp rfl))))
                                · exact rop_gu rfl rfl rfl (OT.gu_mk (OT.tmp rfl)) (fun hg => by (have hg1 := hg.2; exact rop_pure rfl (pu_move (by exact OT.tmp rfl))))
                                · exact rop_gu rfl rfl rfl (OT.gu_mk (OT.tmp rfl)) (fun hg => by (have hg1 := hg.2; exact rop_pure rfl (pu_move (by exact OT.tmp rfl))))
                                · exact rop_gu rfl rfl rfl (OT.gu_mk (OT.tmp rfl)) (fun hg => by (have hg1 := hg.2; exact rop_pure rfl (pu_index_own (by exact OT.gu (OT.tmp rfl) hg) (by exact mem_at 0 rfl) (by exact OT.gu (OT.tmp rfl) hg) Try.underlying35 (show tyOk Try.prog 45 false 1 = true from by decide +kernel) (by omega) (by omega))))
                                · exact rop_gu rfl rfl rfl (OT.gu_mk (OT.tmp rfl)) (fun hg => by (have hg1 := hg.2; exact rop_pure rfl (pu_load_own0 (by exact OT.gu (OT.tmp rfl) hg) (by exact mem_at 0 rfl) (by omega) (by omega) (show tyOk Try.prog 45 false 1 = true from by decide +kernel))))
                                · exact rop_gu rfl rfl rfl (OT.gu_mk (OT.tmp rfl)) (fun hg => by (have hg1 := hg.2; exact rop_pure rfl (pu_move (by exact OT.tmp rfl))))
                                · exact rop_gu rfl rfl rfl (OT.gu_mk (OT.tmp rfl)) (fun hg => by (have hg1 := hg.2; exact rop_pure rfl (pu_move (by exact OT.tmp rfl))))
                                · exact rop_gu rfl rfl rfl (OT.gu_mk (OT.tmp rfl)) (fun hg => by (have hg1 := hg.2; exact rop_pure rfl (pu_index_own (by exact OT.gu (OT.tmp rfl) hg) (by exact mem_at 0 rfl) (by exact OT.gu (OT.tmp rfl) hg) Try.underlying35 (show tyOk Try.prog 45 false 1 = true from by decide +kernel) (by omega) (by omega))))
                                · exact rop_gu rfl rfl rfl (OT.gu_mk (OT.tmp rfl)) (fun hg => by (have hg1 := hg.2; exact rop_pure rfl (pu_load_own0 (by exact OT.gu (OT.tmp rfl) hg) (by exact mem_at 0 rfl) (by omega) (by omega) (show tyOk Try.prog 45 false 1 = true from by decide +kernel))))
                              case h =>
                                refine op_gu_acts () rfl rfl rfl (OT.gu_mk (OT.tmp rfl)) (fun hg => by (have hg1 := hg.2; (try simp only [decide_eq_true_eq, decide_eq_false_iff_not] at hg1); exact acts_callv (by exact OT.gu (OT.tmp rfl) hg) (hfv _ _) (OTs.cons (by exact OT.gu (OT.tmp rfl) hg) (OTs.cons (by exact OT.gu (OT.tmp rfl) hg) OTs.nil)) (List.Perm.refl _))) rfl (fun _ _ => ?_)
                                refine op_gu rfl rfl rfl (OT.gu_mk (OT.tmp rfl)) (fun hg => by (have hg1 := hg.2; (try simp only [decide_eq_true_eq, decide_eq_false_iff_not] at hg1); exact pu_lss (by exact OT.gu (OT.tmp rfl) hg) OT.const)) rfl ?_
                                refine op_gu rfl rfl rfl (OT.gu_mk (OT.tmp rfl)) (fun hg => by (have hg1 := hg.2; (try simp only [decide_eq_true_eq, decide_eq_false_iff_not] at hg1); exact pu_not (by exact OT.gu (OT.tmp rfl) hg))) rfl ?_
                                refine op_pure (pu_pick_and (OT.tmp rfl) (by exact OT.tmp rfl)) rfl rfl ?_
                                refine tr_nil ?_
                                refine then_normal ?_
                                refine tr_cond (OT.tmp rfl) (fun c139 => ?_) (fun c139 => ?_)
                                · try simp only [decide_eq_true_eq, decide_eq_false_iff_not, Bool.or_eq_true, Bool.and_eq_true, Bool.or_eq_false_iff, Bool.and_eq_false_iff, Bool.not_eq_true', Bool.not_eq_false', ne_eq, Classical.not_not] at c139
                                  have hnx := (down_step (p := (fun x => !ltc c x d1[a]!)) (d := d1) (i := i2) (j := j2) (by omega) (by omega) (by show (!ltc c _ _) = true; rw [ltc_at (by omega) (by omega)]; simpa using c139.2)).symm.trans hj4
                                  refine tr_skip ?_
                                  refine then_normal ?_
                                  refine tr_block ?_
                                  -- region 16
                                  refine tr_env (es_cons (t := 0) (OT.tmp rfl) (es_cons (t := 1) (OT.tmp rfl) (es_cons (t := 4) (OT.tmp rfl) (es_cons (t := 12) (OT.tmp rfl) (es_cons (t := 13) (OT.tmp rfl) es_nil))))) ?_
                                  refine tr_region ?_
                                  refine op_pure (pu_move (OT.tmp rfl)) rfl rfl ?_
                                  refine op_pure (pu_sub' (OT.tmp rfl) OT.const (by omega)) rfl rfl ?_
                                  refine op_pure (pu_assign (OT.tmp rfl)) rfl rfl ?_
                                  refine tr_nil ?_
                                  refine block_normal ?_
                                  refine then_normal ?_
                                  exact tr_again (j2 - 1) ⟨by omega, by omega, hnx⟩ (by omega) (es_append (es_cons (t := 13) (by exact OT.val (OT.tmp rfl) (congrArg (Value.int _) (by omega))) es_nil) (es_cons (t := 0) (OT.tmp rfl) (es_cons (t := 1) (OT.tmp rfl) (es_cons (t := 4) (OT.tmp rfl) (es_cons (t := 12) (OT.tmp rfl) es_nil))))) (own_picks (by repeat (first | exact picks_nil | refine picks_cons 0 rfl ?_ | refine picks_cons 1 rfl ?_ | refine picks_cons 2 rfl ?_ | refine picks_cons 3 rfl ?_ | refine picks_cons 4 rfl ?_ | refine picks_cons 5 rfl ?_ | refine picks_cons 6 rfl ?_)))
                                · try simp only [decide_eq_true_eq, decide_eq_false_iff_not, Bool.or_eq_true, Bool.and_eq_true, Bool.or_eq_false_iff, Bool.and_eq_false_iff, Bool.not_eq_true', Bool.not_eq_false', ne_eq, Classical.not_not] at c139
                                  have hde1 : i2 ≤ j2 → ltc c d1[j2]! d1[a]! = true := fun h => by
                                    rw [ltc_at (by omega) (by omega)]
                                    rcases c139 with h9 | h9
                                    · omega
                                    · simpa using h9
                                  have hdn1 := hj4.symm.trans (down_end (p := (fun x => !ltc c x d1[a]!)) (fun h => by show (!ltc c _ _) = false; rw [hde1 h]; rfl))
                                  refine tr_exit ?_
                                  refine then_exit ?_
                                  refine then_exit ?_
                                  refine block_hit ?_
                                  refine then_normal ?_
                                  refine tr_seq ?_
                                  refine tr_seq ?_
                                  -- region 17
                                  refine tr_env (es_cons (t := 0) (OT.tmp rfl) (es_cons (t := 1) (OT.tmp rfl) (es_cons (t := 4) (OT.tmp rfl) (es_cons (t := 12) (OT.tmp rfl) (es_cons (t := 13) (OT.tmp rfl) es_nil))))) ?_
                                  refine tr_region ?_
                                  refine op_pure (pu_move (OT.tmp rfl)) rfl rfl ?_
                                  refine op_pure (pu_move (OT.tmp rfl)) rfl rfl ?_
                                  refine op_pure (pu_gtr (OT.tmp rfl) (OT.tmp rfl)) rfl rfl ?_
                                  refine tr_nil ?_
                                  refine then_normal ?_
                                  refine tr_cond (OT.tmp rfl) (fun c144 => ?_) (fun c144 => ?_)
                                  · try simp only [decide_eq_true_eq, decide_eq_false_iff_not, Bool.or_eq_true, Bool.and_eq_true, Bool.or_eq_false_iff, Bool.and_eq_false_iff, Bool.not_eq_true', Bool.not_eq_false', ne_eq, Classical.not_not] at c144
                                    have hR := hr.symm.trans (part_end hup1 hdn1 (by omega))
                                    refine tr_exit ?_
                                    refine then_exit ?_
                                    refine block_pass rfl ?_
                                    refine then_exit ?_
                                    refine block_hit ?_
                                    refine then_normal ?_
                                    refine tr_seq ?_
                                    -- region 21
                                    refine tr_env (es_cons (t := 0) (OT.tmp rfl) (es_cons (t := 1) (OT.tmp rfl) (es_cons (t := 13) (OT.tmp rfl) es_nil))) ?_
                                    apply tr_anyW (p := 13) (Lf := fun c => cond c ([OwnI 45 (kG Z) v (d1.toList.set (j2 : Int).toNat (at' d1.toList (a : Int)))]) ([OwnI 45 (kG Z) v d1.toList])) (by kernel_rfl) (m := 14) (ns := [[(0, none)], [(13, none)], [(0, none)], [(1, none)], [(0, none)], [(1, none)], [(167, some 4), (168, some 5)], [(169, some 6)], [(0, none)], [(13, none)], [(171, some 8), (172, some 9)], [(173, some 10)], [(163, some 0), (164, some 1)], [(170, some 7), (175, some 12)]]) (by kernel_rfl) (by kernel_rfl) (Ts := [_, _, _, _, _, _, _, _, _, _, _, _, _, _]) rfl
                                    case hops =>
                                      refine ⟨?_, ⟨?_, ⟨?_, ⟨?_, ⟨?_, ⟨?_, ⟨?_, ⟨?_, ⟨?_, ⟨?_, ⟨?_, ⟨?_, ⟨?_, ⟨?_, trivial⟩⟩⟩⟩⟩⟩⟩⟩⟩⟩⟩⟩⟩⟩
                                      · intro c hc; cases c
                                        · exact ropw_of (rop_pure rfl (pu_move (OT.tmp rfl)))
                                        · exact Bool.noConfusion (hc.symm.trans (by kernel_rfl : okFlag _ _ _ _ = false))
                                      · intro c hc; cases c
                                        · exact ropw_of (rop_pure rfl (pu_move (OT.tmp rfl)))
                                        · exact Bool.noConfusion (hc.symm.trans (by kernel_rfl : okFlag _ _ _ _ = false))
                                      · intro c hc; cases c
                                        · exact ropw_of (rop_pure rfl (pu_move (OT.tmp rfl)))
                                        · exact ropw_of (rop_pure rfl (pu_move (OT.tmp rfl)))
                                      · intro c hc; cases c
                                        · exact ropw_of (rop_pure rfl (pu_move (OT.tmp rfl)))
                                        · exact ropw_of (rop_pure rfl (pu_move (OT.tmp rfl)))
                                      · intro c hc; cases c
                                        · exact ropw_of (rop_pure rfl (pu_move (OT.tmp rfl)))
                                        · exact Bool.noConfusion (hc.symm.trans (by kernel_rfl : okFlag _ _ _ _ = false))
                                      · intro c hc; cases c
                                        · exact ropw_of (rop_pure rfl (pu_move (OT.tmp rfl)))
                                        · exact Bool.noConfusion (hc.symm.trans (by kernel_rfl : okFlag _ _ _ _ = false))
                                      · intro c hc; cases c
                                        · exact ropw_of (rop_pure rfl (pu_index_own (OT.tmp rfl) (by exact mem_at 0 rfl) (OT.tmp rfl) Try.underlying35 (show tyOk Try.prog 45 false 1 = true from by decide +kernel) (by omega) (by omega)))
                                        · exact Bool.noConfusion (hc.symm.trans (by kernel_rfl : okFlag _ _ _ _ = false))
                                      · intro c hc; cases c
                                        · exact ropw_of (rop_pure rfl (pu_load_own0 (OT.tmp rfl) (by exact mem_at 0 rfl) (by omega) (by omega) (show tyOk Try.prog 45 false 1 = true from by decide +kernel)))
                                        · exact Bool.noConfusion (hc.symm.trans (by kernel_rfl : okFlag _ _ _ _ = false))
                                      · intro c hc; cases c
                                        · exact ropw_of (rop_pure rfl (pu_move (OT.tmp rfl)))
                                        · exact Bool.noConfusion (hc.symm.trans (by kernel_rfl : okFlag _ _ _ _ = false))
                                      · intro c hc; cases c
                                        · exact ropw_of (rop_pure rfl (pu_move (OT.tmp rfl)))
                                        · exact Bool.noConfusion (hc.symm.trans (by kernel_rfl : okFlag _ _ _ _ = false))
                                      · intro c hc; cases c
                                        · exact ropw_of (rop_pure rfl (pu_index_own (OT.tmp rfl) (by exact mem_at 0 rfl) (OT.tmp rfl) Try.underlying35 (show tyOk Try.prog 45 false 1 = true from by decide +kernel) (by omega) (by omega)))
                                        · exact Bool.noConfusion (hc.symm.trans (by kernel_rfl : okFlag _ _ _ _ = false))
                                      · intro c hc; cases c
                                        · exact ropw_of (rop_pure rfl (pu_load_own0 (OT.tmp rfl) (by exact mem_at 0 rfl) (by omega) (by omega) (show tyOk Try.prog 45 false 1 = true from by decide +kernel)))
                                        · exact Bool.noConfusion (hc.symm.trans (by kernel_rfl : okFlag _ _ _ _ = false))
                                      · intro c hc; cases c
                                        · exact ropw_of (rop_pure rfl (pu_index_own (OT.tmp rfl) (by exact mem_at 0 rfl) (OT.tmp rfl) Try.underlying35 (show tyOk Try.prog 45 false 1 = true from by decide +kernel) (by omega) (by omega)))
                                        · exact Bool.noConfusion (hc.symm.trans (by kernel_rfl : okFlag _ _ _ _ = false))
                                      · intro c hc; cases c
                                        · exact ropw_acts rfl (acts_store_own0 (OT.tmp rfl) (OT.tmp rfl) (by exact perm_at 0 rfl) (by omega) (by omega) (show tyOk Try.prog 45 false 1 = true from by decide +kernel)) (by exact perm_at 0 rfl) (fun _ => (by exact perm_at 0 rfl)) (fun _ _ _ _ h => h)
                                        · exact Bool.noConfusion (hc.symm.trans (by kernel_rfl : okFlag _ _ _ _ = false))
                                    case h =>
                                      refine op_pure (pu_index_own (OT.tmp rfl) (by exact mem_at 0 rfl) (OT.tmp rfl) Try.underlying35 (show tyOk Try.prog 45 false 1 = true from by decide +kernel) (by omega) (by (simp; omega))) rfl rfl ?_
                                      refine op_acts (acts_store_own0 (OT.tmp rfl) (OT.tmp rfl) (by exact perm_at 0 rfl) (by omega) (by (simp; omega)) (show tyOk Try.prog 45 false 1 = true from by decide +kernel)) (by exact perm_at 0 rfl) rfl rfl (fun _ _ => ?_)
                                      refine tr_nil ?_
                                      refine then_normal ?_
                                      refine tr_seq ?_
                                      -- region 22
                                      refine tr_env (es_cons (t := 13) (OT.tmp rfl) es_nil) ?_
                                      rw [sw (by omega) (by omega)]
                                      rw [hR] at hres
                                      refine tr_region ?_
                                      refine op_pure (pu_move (OT.tmp rfl)) rfl rfl ?_
                                      refine op_pure (pu_assign (OT.tmp rfl)) rfl rfl ?_
                                      refine op_pure (pu_assign OT.const) rfl rfl ?_
                                      refine tr_nil ?_
                                      refine then_normal ?_
                                      refine tr_ret ?_
                                      exact ret_two .ret (.inl rfl) rfl () (OT.val (OT.tmp rfl) (congrArg (Value.int _) (by rw [hres]))) (OT.val (OT.tmp rfl) (congrArg Value.bool (by rw [hres]))) (fun _ _ h => h) trivial (by rw [hres]; exact picks_cons 0 rfl picks_nil)
                                  · try simp only [decide_eq_true_eq, decide_eq_false_iff_not, Bool.or_eq_true, Bool.and_eq_true, Bool.or_eq_false_iff, Bool.and_eq_false_iff, Bool.not_eq_true', Bool.not_eq_false', ne_eq, Classical.not_not] at c144
                                    have hij2 : i2 ≤ j2 := by omega
                                    have hne2 : i2 ≠ j2 := fun e => by have h8 := hue1 (by omega); have h9 := hde1 hij2; rw [← e] at h9; exact absurd (h8.symm.trans h9) (by simp)
                                    have hnx := (part_step hup1 hdn1 (by omega) (by omega)).symm.trans hr
                                    refine tr_skip ?_
                                    refine then_normal ?_
                                    refine tr_seq ?_
                                    -- region 18
                                    refine tr_env (es_cons (t := 0) (OT.tmp rfl) (es_cons (t := 1) (OT.tmp rfl) (es_cons (t := 4) (OT.tmp rfl) (es_cons (t := 12) (OT.tmp rfl) (es_cons (t := 13) (OT.tmp rfl) es_nil))))) ?_
                                    apply tr_anyW (p := 13) (Lf := fun c => cond c ([OwnI 45 (kG Z) v (d1.toList.set (i2 : Int).toNat (at' d1.toList (j2 : Int)))]) ([OwnI 45 (kG Z) v d1.toList])) (by kernel_rfl) (m := 14) (ns := [[(0, none)], [(12, none)], [(0, none)], [(13, none)], [(0, none)], [(13, none)], [(149, some 4), (150, some 5)], [(151, some 6)], [(0, none)], [(12, none)], [(153, some 8), (154, some 9)], [(155, some 10)], [(145, some 0), (146, some 1)], [(152, some 7), (157, some 12)]]) (by kernel_rfl) (by kernel_rfl) (Ts := [_, _, _, _, _, _, _, _, _, _, _, _, _, _]) rfl
                                    case hops =>
                                      refine ⟨?_, ⟨?_, ⟨?_, ⟨?_, ⟨?_, ⟨?_, ⟨?_, ⟨?_, ⟨?_, ⟨?_, ⟨?_, ⟨?_, ⟨?_, ⟨?_, trivial⟩⟩⟩⟩⟩⟩⟩⟩⟩⟩⟩⟩⟩⟩
                                      · intro c hc; cases c
                                        · exact ropw_of (rop_pure rfl (pu_move (OT.tmp rfl)))
                                        · exact Bool.noConfusion (hc.symm.trans (by kernel_rfl : okFlag _ _ _ _ = false))
                                      · intro c hc; cases c
                                        · exact ropw_of (rop_pure rfl (pu_move (OT.tmp rfl)))
                                        · exact Bool.noConfusion (hc.symm.trans (by kernel_rfl : okFlag _ _ _ _ = false))
                                      · intro c hc; cases c
                                        · exact ropw_of (rop_pure rfl (pu_move (OT.tmp rfl)))
                                        · exact ropw_of (rop_pure rfl (pu_move (OT.tmp rfl)))
                                      · intro c hc; cases c
                                        · exact ropw_of (rop_pure rfl (pu_move (OT.tmp rfl)))
                                        · exact ropw_of (rop_pure rfl (pu_move (OT.tmp rfl)))
                                      · intro c hc; cases c
                                        · exact ropw_of (rop_pure rfl (pu_move (OT.tmp rfl)))
                                        · exact Bool.noConfusion (hc.symm.trans (by kernel_rfl : okFlag _ _ _ _ = false))
                                      · intro c hc; cases c
                                        · exact ropw_of (rop_pure rfl (pu_move (OT.tmp rfl)))
                                        · exact Bool.noConfusion (hc.symm.trans (by kernel_rfl : okFlag _ _ _ _ = false))
                                      · intro c hc; cases c
                                        · exact ropw_of (rop_pure rfl (pu_index_own (OT.tmp rfl) (by exact mem_at 0 rfl) (OT.tmp rfl) Try.underlying35 (show tyOk Try.prog 45 false 1 = true from by decide +kernel) (by omega) (by omega)))
                                        · exact Bool.noConfusion (hc.symm.trans (by kernel_rfl : okFlag _ _ _ _ = false))
                                      · intro c hc; cases c
                                        · exact ropw_of (rop_pure rfl (pu_load_own0 (OT.tmp rfl) (by exact mem_at 0 rfl) (by omega) (by omega) (show tyOk Try.prog 45 false 1 = true from by decide +kernel)))
                                        · exact Bool.noConfusion (hc.symm.trans (by kernel_rfl : okFlag _ _ _ _ = false))
                                      · intro c hc; cases c
                                        · exact ropw_of (rop_pure rfl (pu_move (OT.tmp rfl)))
                                        · exact Bool.noConfusion (hc.symm.trans (by kernel_rfl : okFlag _ _ _ _ = false))
                                      · intro c hc; cases c
                                        · exact ropw_of (rop_pure rfl (pu_move (OT.tmp rfl)))
                                        · exact Bool.noConfusion (hc.symm.trans (by kernel_rfl : okFlag _ _ _ _ = false))
                                      · intro c hc; cases c
                                        · exact ropw_of (rop_pure rfl (pu_index_own (OT.tmp rfl) (by exact mem_at 0 rfl) (OT.tmp rfl) Try.underlying35 (show tyOk Try.prog 45 false 1 = true from by decide +kernel) (by omega) (by omega)))
                                        · exact Bool.noConfusion (hc.symm.trans (by kernel_rfl : okFlag _ _ _ _ = false))
                                      · intro c hc; cases c
                                        · exact ropw_of (rop_pure rfl (pu_load_own0 (OT.tmp rfl) (by exact mem_at 0 rfl) (by omega) (by omega) (show tyOk Try.prog 45 false 1 = true from by decide +kernel)))
                                        · exact Bool.noConfusion (hc.symm.trans (by kernel_rfl : okFlag _ _ _ _ = false))
                                      · intro c hc; cases c
                                        · exact ropw_of (rop_pure rfl (pu_index_own (OT.tmp rfl) (by exact mem_at 0 rfl) (OT.tmp rfl) Try.underlying35 (show tyOk Try.prog 45 false 1 = true from by decide +kernel) (by omega) (by omega)))
                                        · exact Bool.noConfusion (hc.symm.trans (by kernel_rfl : okFlag _ _ _ _ = false))
                                      · intro c hc; cases c
                                        · exact ropw_acts rfl (acts_store_own0 (OT.tmp rfl) (OT.tmp rfl) (by exact perm_at 0 rfl) (by omega) (by omega) (show tyOk Try.prog 45 false 1 = true from by decide +kernel)) (by exact perm_at 0 rfl) (fun _ => (by exact perm_at 0 rfl)) (fun _ _ _ _ h => h)
                                        · exact Bool.noConfusion (hc.symm.trans (by kernel_rfl : okFlag _ _ _ _ = false))
                                    case h =>
                                      refine op_pure (pu_index_own (OT.tmp rfl) (by exact mem_at 0 rfl) (OT.tmp rfl) Try.underlying35 (show tyOk Try.prog 45 false 1 = true from by decide +kernel) (by omega) (by (simp; omega))) rfl rfl ?_
                                      refine op_acts (acts_store_own0 (OT.tmp rfl) (OT.tmp rfl) (by exact perm_at 0 rfl) (by omega) (by (simp; omega)) (show tyOk Try.prog 45 false 1 = true from by decide +kernel)) (by exact perm_at 0 rfl) rfl rfl (fun _ _ => ?_)
                                      refine tr_nil ?_
                                      refine then_normal ?_
                                      refine tr_seq ?_
                                      -- region 19
                                      refine tr_env (es_cons (t := 0) (OT.tmp rfl) (es_cons (t := 1) (OT.tmp rfl) (es_cons (t := 4) (OT.tmp rfl) (es_cons (t := 12) (OT.tmp rfl) (es_cons (t := 13) (OT.tmp rfl) es_nil))))) ?_
                                      rw [sw (by omega) (by omega)]
                                      refine tr_region ?_
                                      refine op_pure (pu_move (OT.tmp rfl)) rfl rfl ?_
                                      refine op_pure (pu_add' (OT.tmp rfl) OT.const (by omega)) rfl rfl ?_
                                      refine op_pure (pu_assign (OT.tmp rfl)) rfl rfl ?_
                                      refine tr_nil ?_
                                      refine then_normal ?_
                                      -- region 20
                                      refine tr_env (es_cons (t := 0) (OT.tmp rfl) (es_cons (t := 1) (OT.tmp rfl) (es_cons (t := 4) (OT.tmp rfl) (es_cons (t := 12) (OT.tmp rfl) (es_cons (t := 13) (OT.tmp rfl) es_nil))))) ?_
                                      refine tr_region ?_
                                      refine op_pure (pu_move (OT.tmp rfl)) rfl rfl ?_
                                      refine op_pure (pu_sub' (OT.tmp rfl) OT.const (by omega)) rfl rfl ?_
                                      refine op_pure (pu_assign (OT.tmp rfl)) rfl rfl ?_
                                      refine tr_nil ?_
                                      refine block_normal ?_
                                      refine then_normal ?_
                                      exact tr_again (i2 + 1, j2 - 1, Sort.swp d1 i2 j2) ⟨swp_size.trans hs2, by show a + 1 ≤ i2 + 1; omega, by show i2 + 1 ≤ j2 - 1 + 1; omega, by show j2 - 1 < b; omega, hnx⟩ (by show j2 - 1 + 1 - (i2 + 1) < j1 + 1 - i1; omega) (es_append (es_cons (t := 12) (by exact OT.tmp rfl) (es_cons (t := 13) (by exact OT.val (OT.tmp rfl) (congrArg (Value.int _) (by (simp; omega)))) es_nil)) (es_cons (t := 0) (OT.tmp rfl) (es_cons (t := 1) (OT.tmp rfl) (es_cons (t := 4) (OT.tmp rfl) es_nil)))) (own_picks (by repeat (first | exact picks_nil | refine picks_cons 0 rfl ?_ | refine picks_cons 1 rfl ?_ | refine picks_cons 2 rfl ?_ | refine picks_cons 3 rfl ?_ | refine picks_cons 4 rfl ?_ | refine picks_cons 5 rfl ?_ | refine picks_cons 6 rfl ?_)))
end Go.Proofs.Ytakkjljhjfkkbaa
/- Walks through the Go functions api.Tuple], as typed contracts. -/
namespace Go.Proofs.Ytakkjljhjfkkbaa
open Go Go.Gw Go.So
set_option linter.unusedVariables false
set_option linter.unusedSimpArgs false
variable {Z : SlTy}

set_option maxHeartbeats 1000000 in
set_option maxRecDepth 20000 in
/-- slices.partitionEqualCmpFunc[rhizome/api.Tuple] -/
theorem parteq_fn (v fv : Value) (d : DA) (a b pv : Nat) (c : List Int → List Int → Int) (hm : d.size < 4611686018427387904) (hap : a ≤ pv) (hpb : pv < b) (hb : b ≤ d.size) (hfv : ∀ x y, CtV Try.prog fv [(kG Z).T x, (kG Z).T y] [] Unit (fun _ => I64 (c x y)) (fun _ => []) (fun _ => True)) : Ct Try.prog 46 [IsV v, I64 (a : Int), I64 (b : Int), I64 (pv : Int), IsV fv] ([OwnI 45 (kG Z) v d.toList]) Unit (fun _ => I64 ((Sort.partitionEqual (ltc c) d a b pv).1 : Int)) (fun _ => [OwnI 45 (kG Z) v (Sort.partitionEqual (ltc c) d a b pv).2.toList]) (fun _ => True) := by
  refine fn_intro Try.func46 rfl rfl ?_
  intro H w
  have hl : d.toList.length = d.size := Array.length_toList
  refine tr_seq ?_
  -- region 0
  refine tr_env (es_cons (t := 0) (OT.tmp rfl) (es_cons (t := 1) (OT.tmp rfl) (es_cons (t := 2) (OT.tmp rfl) (es_cons (t := 3) (OT.tmp rfl) (es_cons (t := 4) (OT.tmp rfl) es_nil))))) ?_
  refine tr_region ?_
  refine op_pure (pu_assign OT.const) rfl rfl ?_
  refine tr_nil ?_
  refine then_normal ?_
  refine tr_seq ?_
  -- region 1
  refine tr_env (es_cons (t := 0) (OT.tmp rfl) (es_cons (t := 1) (OT.tmp rfl) (es_cons (t := 2) (OT.tmp rfl) (es_cons (t := 3) (OT.tmp rfl) (es_cons (t := 4) (OT.tmp rfl) es_nil))))) ?_
  apply tr_anyW (p := 13) (Lf := fun c => cond c ([OwnI 45 (kG Z) v (d.toList.set (a : Int).toNat (at' d.toList (pv : Int)))]) ([OwnI 45 (kG Z) v d.toList])) (by kernel_rfl) (m := 14) (ns := [[(0, none)], [(1, none)], [(0, none)], [(3, none)], [(0, none)], [(3, none)], [(17, some 4), (18, some 5)], [(19, some 6)], [(0, none)], [(1, none)], [(21, some 8), (22, some 9)], [(23, some 10)], [(13, some 0), (14, some 1)], [(20, some 7), (25, some 12)]]) (by kernel_rfl) (by kernel_rfl) (Ts := [_, _, _, _, _, _, _, _, _, _, _, _, _, _]) rfl
  case hops =>
    refine ⟨?_, ⟨?_, ⟨?_, ⟨?_, ⟨?_, ⟨?_, ⟨?_, ⟨?_, ⟨?_, ⟨?_, ⟨?_, ⟨?_, ⟨?_, ⟨?_, trivial⟩⟩⟩⟩⟩⟩⟩⟩⟩⟩⟩⟩⟩⟩
    · intro c hc; cases c
      · exact ropw_of (rop_pure rfl (pu_move (OT.tmp rfl)))
      · exact Bool.noConfusion (hc.symm.trans (by kernel_rfl : okFlag _ _ _ _ = false))
    · intro c hc; cases c
      · exact ropw_of (rop_pure rfl (pu_move (OT.tmp rfl)))
      · exact Bool.noConfusion (hc.symm.trans (by kernel_rfl : okFlag _ _ _ _ = false))
    · intro c hc; cases c
      · exact ropw_of (rop_pure rfl (pu_move (OT.tmp rfl)))
      · exact ropw_of (rop_pure rfl (pu_move (OT.tmp rfl)))
    · intro c hc; cases c
      · exact ropw_of (rop_pure rfl (pu_move (OT.tmp rfl)))
      · exact ropw_of (rop_pure rfl (pu_move (OT.tmp rfl)))
    · intro c hc; cases c
      · exact ropw_of (rop_pure rfl (pu_move (OT.tmp rfl)))
      · exact Bool.noConfusion (hc.symm.trans (by kernel_rfl : okFlag _ _ _ _ = false))
    · intro c hc; cases c
      · exact ropw_of (rop_pure rfl (pu_move (OT.tmp rfl)))
      · exact Bool.noConfusion (hc.symm.trans (by kernel_rfl : okFlag _ _ _ _ = false))
    · intro c hc; cases c
      · exact ropw_of (rop_pure rfl (pu_index_own (OT.tmp rfl) (by exact mem_at 0 rfl) (OT.tmp rfl) Try.underlying35 (show tyOk Try.prog 45 false 1 = true from by decide +kernel) (by omega) (by omega)))
      · exact Bool.noConfusion (hc.symm.trans (by kernel_rfl : okFlag _ _ _ _ = false))
    · intro c hc; cases c
      · exact ropw_of (rop_pure rfl (pu_load_own0 (OT.tmp rfl) (by exact mem_at 0 rfl) (by omega) (by omega) (show tyOk Try.prog 45 false 1 = true from by decide +kernel)))
      · exact Bool.noConfusion (hc.symm.trans (by kernel_rfl : okFlag _ _ _ _ = false))
    · intro c hc; cases c
      · exact ropw_of (rop_pure rfl (pu_move (OT.tmp rfl)))
      · exact Bool.noConfusion (hc.symm.trans (by kernel_rfl : okFlag _ _ _ _ = false))
    · intro c hc; cases c
      · exact ropw_of (rop_pure rfl (pu_move (OT.tmp rfl)))
      · exact Bool.noConfusion (hc.symm.trans (by kernel_rfl : okFlag _ _ _ _ = false))
    · intro c hc; cases c
      · exact ropw_of (rop_pure rfl (pu_index_own (OT.tmp rfl) (by exact mem_at 0 rfl) (OT.tmp rfl) Try.underlying35 (show tyOk Try.prog 45 false 1 = true from by decide +kernel) (by omega) (by omega)))
      · exact Bool.noConfusion (hc.symm.trans (by kernel_rfl : okFlag _ _ _ _ = false))
    · intro c hc; cases c
      · exact ropw_of (rop_pure rfl (pu_load_own0 (OT.tmp rfl) (by exact mem_at 0 rfl) (by omega) (by omega) (show tyOk Try.prog 45 false 1 = true from by decide +kernel)))
      · exact Bool.noConfusion (hc.symm.trans (by kernel_rfl : okFlag _ _ _ _ = false))
    · intro c hc; cases c
      · exact ropw_of (rop_pure rfl (pu_index_own (OT.tmp rfl) (by exact mem_at 0 rfl) (OT.tmp rfl) Try.underlying35 (show tyOk Try.prog 45 false 1 = true from by decide +kernel) (by omega) (by omega)))
      · exact Bool.noConfusion (hc.symm.trans (by kernel_rfl : okFlag _ _ _ _ = false))
    · intro c hc; cases c
      · exact ropw_acts rfl (acts_store_own0 (OT.tmp rfl) (OT.tmp rfl) (by exact perm_at 0 rfl) (by omega) (by omega) (show tyOk Try.prog 45 false 1 = true from by decide +kernel)) (by exact perm_at 0 rfl) (fun _ => (by exact perm_at 0 rfl)) (fun _ _ _ _ h => h)
      · exact Bool.noConfusion (hc.symm.trans (by kernel_rfl : okFlag _ _ _ _ = false))
  case h =>
    refine op_pure (pu_index_own (OT.tmp rfl) (by exact mem_at 0 rfl) (OT.tmp rfl) Try.underlying35 (show tyOk Try.prog 45 false 1 = true from by decide +kernel) (by omega) (by (simp; omega))) rfl rfl ?_
    refine op_acts (acts_store_own0 (OT.tmp rfl) (OT.tmp rfl) (by exact perm_at 0 rfl) (by omega) (by (simp; omega)) (show tyOk Try.prog 45 false 1 = true from by decide +kernel)) (by exact perm_at 0 rfl) rfl rfl (fun _ _ => ?_)
    refine tr_nil ?_
    refine then_normal ?_
    refine tr_seq ?_
    -- region 2
    refine tr_env (es_cons (t := 0) (OT.tmp rfl) (es_cons (t := 1) (OT.tmp rfl) (es_cons (t := 2) (OT.tmp rfl) (es_cons (t := 4) (OT.tmp rfl) es_nil)))) ?_
    rw [sw (by omega) (by omega)]
    have hs0 : (Sort.swp d a pv).size = d.size := swp_size
    refine tr_region ?_
    refine op_pure (pu_move (OT.tmp rfl)) rfl rfl ?_
    refine op_pure (pu_add' (OT.tmp rfl) OT.const (by omega)) rfl rfl ?_
    refine op_pure (pu_move (OT.tmp rfl)) rfl rfl ?_
    refine op_pure (pu_sub' (OT.tmp rfl) OT.const (by omega)) rfl rfl ?_
    refine op_pure (pu_assign (OT.tmp rfl)) rfl rfl ?_
    refine op_pure (pu_assign (OT.tmp rfl)) rfl rfl ?_
    refine tr_nil ?_
    refine then_normal ?_
    refine tr_seq ?_
    refine tr_block ?_
    rw [show (b : Int) - 1 = ((b - 1 : Nat) : Int) from by omega]
    refine tr_loopK (σ := Nat × Nat × DA) (es_cons (t := 0) (OT.tmp rfl) (es_cons (t := 1) (OT.tmp rfl) (es_cons (t := 4) (OT.tmp rfl) es_nil))) (fun s => [(11, I64 (s.1 : Int)), (12, I64 (s.2.1 : Int))]) (fun s => [OwnI 45 (kG Z) v s.2.2.toList]) (fun s => s.2.2.size = d.size ∧ a + 1 ≤ s.1 ∧ s.1 ≤ s.2.1 + 1 ∧ s.2.1 < b ∧ Sort.partEqLoop (ltc c) a s.1 s.2.1 s.2.2 = (Sort.partitionEqual (ltc c) d a b pv)) (fun s => s.2.1 + 1 - s.1) (a + 1, b - 1, Sort.swp d a pv) ⟨hs0, Nat.le_refl _, by show a + 1 ≤ b - 1 + 1; omega, by show b - 1 < b; omega, rfl⟩ ?_ (own_picks (by repeat (first | exact picks_nil | refine picks_cons 0 rfl ?_ | refine picks_cons 1 rfl ?_ | refine picks_cons 2 rfl ?_ | refine picks_cons 3 rfl ?_ | refine picks_cons 4 rfl ?_ | refine picks_cons 5 rfl ?_ | refine picks_cons 6 rfl ?_))) ?_
    · exact (es_cons (t := 11) (by exact OT.tmp rfl) (es_cons (t := 12) (by exact OT.tmp rfl) es_nil))
    · rintro ⟨i1, j1, d1⟩ ⟨hs2, hi2, hij1, hjb, hr⟩
      dsimp only at hs2 hi2 hij1 hjb hr ⊢
      have hl1 : d1.toList.length = d1.size := Array.length_toList
      refine tr_block ?_
      refine tr_seq ?_
      refine tr_block ?_
      refine tr_loopK (σ := Nat) (es_cons (t := 0) (OT.tmp rfl) (es_cons (t := 1) (OT.tmp rfl) (es_cons (t := 4) (OT.tmp rfl) (es_cons (t := 12) (OT.tmp rfl) es_nil)))) (fun s => [(11, I64 (s : Int))]) (fun s => [OwnI 45 (kG Z) v d1.toList]) (fun s => i1 ≤ s ∧ s ≤ j1 + 1 ∧ Sort.scanUp (fun x => !ltc c d1[a]! x) d1 (j1) s = Sort.scanUp (fun x => !ltc c d1[a]! x) d1 (j1) (i1)) (fun s => j1 + 1 - s) i1 ⟨by omega, by omega, rfl⟩ ?_ (own_picks (by repeat (first | exact picks_nil | refine picks_cons 0 rfl ?_ | refine picks_cons 1 rfl ?_ | refine picks_cons 2 rfl ?_ | refine picks_cons 3 rfl ?_ | refine picks_cons 4 rfl ?_ | refine picks_cons 5 rfl ?_ | refine picks_cons 6 rfl ?_))) ?_
      · exact (es_cons (t := 11) (by exact OT.tmp rfl) es_nil)
      · rintro i2 ⟨hi30, hi31, hi3⟩
        refine tr_seq ?_
        refine tr_seq ?_
        -- region 3
        refine tr_env (es_cons (t := 0) (OT.tmp rfl) (es_cons (t := 1) (OT.tmp rfl) (es_cons (t := 4) (OT.tmp rfl) (es_cons (t := 11) (OT.tmp rfl) (es_cons (t := 12) (OT.tmp rfl) es_nil))))) ?_
        apply tr_any (m := 13) (ns := [[(11, none)], [(12, none)], [(31, some 0), (32, some 1)], [(33, some 2)], [(4, none), (34, some 3)], [(0, none), (34, some 3)], [(1, none), (34, some 3)], [(34, some 3), (36, some 5), (37, some 6)], [(34, some 3), (38, some 7)], [(0, none), (34, some 3)], [(11, none), (34, some 3)], [(34, some 3), (40, some 9), (41, some 10)], [(34, some 3), (42, some 11)]]) (by kernel_rfl) (by kernel_rfl) (Ts := [_, _, _, _, _, _, _, _, _, _, _, _, _]) rfl
        case hops =>
          refine ⟨?_, ⟨?_, ⟨?_, ⟨?_, ⟨?_, ⟨?_, ⟨?_, ⟨?_, ⟨?_, ⟨?_, ⟨?_, ⟨?_, ⟨?_, trivial⟩⟩⟩⟩⟩⟩⟩⟩⟩⟩⟩⟩⟩
          · exact rop_pure rfl (pu_move (OT.tmp rfl))
          · exact rop_pure rfl (pu_move (OT.tmp rfl))
          · exact rop_pure rfl (pu_leq (OT.tmp rfl) (OT.tmp rfl))
          · exact rop_pure rfl (pu_move (OT.tmp rfl))
          · exact rop_gu rfl rfl rfl (OT.gu_mk (OT.tmp rfl)) (fun hg => by (have hg1 := hg.2; exact rop_pure rfl (pu_move (by exact OT.tmp rfl))))
          · exact rop_gu rfl rfl rfl (OT.gu_mk (OT.tmp rfl)) (fun hg => by (have hg1 := hg.2; exact rop_pure rfl (pu_move (by exact OT.tmp rfl))))
          · exact rop_gu rfl rfl rfl (OT.gu_mk (OT.tmp rfl)) (fun hg => by (have hg1 := hg.2; exact rop_pure rfl (pu_move (by exact OT.tmp rfl))))
          · exact rop_gu rfl rfl rfl (OT.gu_mk (OT.tmp rfl)) (fun hg => by (have hg1 := hg.2; exact rop_pure rfl (pu_index_own (by exact OT.gu (OT.tmp rfl) hg) (by exact mem_at 0 rfl) (by exact OT.gu (OT.tmp rfl) hg) Try.underlying35 (show tyOk Try.prog 45 false 1 = true from by decide +kernel) (by omega) (by omega))))
          · exact rop_gu rfl rfl rfl (OT.gu_mk (OT.tmp rfl)) (fun hg => by (have hg1 := hg.2; exact rop_pure rfl (pu_load_own0 (by exact OT.gu (OT.tmp rfl) hg) (by exact mem_at 0 rfl) (by omega) (by omega) (show tyOk Try.prog 45 false 1 = true from by decide +kernel))))
          · exact rop_gu rfl rfl rfl (OT.gu_mk (OT.tmp rfl)) (fun hg => by (have hg1 := hg.2; exact rop_pure rfl (pu_move (by exact OT.tmp rfl))))
          · exact rop_gu rfl rfl rfl (OT.gu_mk (OT.tmp rfl)) (fun hg => by (have hg1 := hg.2; exact rop_pure rfl (pu_move (by exact OT.tmp rfl))))
          · exact rop_gu rfl rfl rfl (OT.gu_mk (OT.tmp rfl)) (fun hg => by (have hg1 := hg.2; exact rop_pure rfl (pu_index_own (by exact OT.gu (OT.tmp rfl) hg) (by exact mem_at 0 rfl) (by exact OT.gu (OT.tmp rfl) hg) Try.underlying35 (show tyOk Try.prog 45 false 1 = true from by decide +kernel) (by omega) (by (simp [maxLen] at *; omega)))))
          · exact rop_gu rfl rfl rfl (OT.gu_mk (OT.tmp rfl)) (fun hg => by (have hg1 := hg.2; exact rop_pure rfl (pu_load_own0 (by exact OT.gu (OT.tmp rfl) hg) (by exact mem_at 0 rfl) (by omega) (by (simp [maxLen] at *; omega)) (show tyOk Try.prog 45 false 1 = true from by decide +kernel))))
        case h =>
          refine op_gu_acts () rfl rfl rfl (OT.gu_mk (OT.tmp rfl)) (fun hg => by (have hg1 := hg.2; (try simp only [decide_eq_true_eq, decide_eq_false_iff_not] at hg1); exact acts_callv (by exact OT.gu (OT.tmp rfl) hg) (hfv _ _) (OTs.cons (by exact OT.gu (OT.tmp rfl) hg) (OTs.cons (by exact OT.gu (OT.tmp rfl) hg) OTs.nil)) (List.Perm.refl _))) rfl (fun _ _ => ?_)
          refine op_gu rfl rfl rfl (OT.gu_mk (OT.tmp rfl)) (fun hg => by (have hg1 := hg.2; (try simp only [decide_eq_true_eq, decide_eq_false_iff_not] at hg1); exact pu_lss (by exact OT.gu (OT.tmp rfl) hg) OT.const)) rfl ?_
          refine op_gu rfl rfl rfl (OT.gu_mk (OT.tmp rfl)) (fun hg => by (have hg1 := hg.2; (try simp only [decide_eq_true_eq, decide_eq_false_iff_not] at hg1); exact pu_not (by exact OT.gu (OT.tmp rfl) hg))) rfl ?_
          refine op_pure (pu_pick_and (OT.tmp rfl) (by exact OT.tmp rfl)) rfl rfl ?_
          refine tr_nil ?_
          refine then_normal ?_
          refine tr_cond (OT.tmp rfl) (fun c47 => ?_) (fun c47 => ?_)
          · try simp only [decide_eq_true_eq, decide_eq_false_iff_not, Bool.or_eq_true, Bool.and_eq_true, Bool.or_eq_false_iff, Bool.and_eq_false_iff, Bool.not_eq_true', Bool.not_eq_false', ne_eq, Classical.not_not] at c47
            have hnx := (up_step (p := (fun x => !ltc c d1[a]! x)) (d := d1) (j := j1) (i := i2) (by omega) (by show (!ltc c _ _) = true; rw [ltc_at (by omega) (by omega)]; simpa using c47.2)).symm.trans hi3
            refine tr_skip ?_
            refine then_normal ?_
            refine tr_block ?_
            -- region 4
            refine tr_env (es_cons (t := 0) (OT.tmp rfl) (es_cons (t := 1) (OT.tmp rfl) (es_cons (t := 4) (OT.tmp rfl) (es_cons (t := 11) (OT.tmp rfl) (es_cons (t := 12) (OT.tmp rfl) es_nil))))) ?_
            refine tr_region ?_
            refine op_pure (pu_move (OT.tmp rfl)) rfl rfl ?_
            refine op_pure (pu_add' (OT.tmp rfl) OT.const (by omega)) rfl rfl ?_
            refine op_pure (pu_assign (OT.tmp rfl)) rfl rfl ?_
            refine tr_nil ?_
            refine block_normal ?_
            refine then_normal ?_
            exact tr_again (i2 + 1) ⟨by omega, by omega, hnx⟩ (by omega) (es_append (es_cons (t := 11) (by exact OT.tmp rfl) es_nil) (es_cons (t := 0) (OT.tmp rfl) (es_cons (t := 1) (OT.tmp rfl) (es_cons (t := 4) (OT.tmp rfl) (es_cons (t := 12) (OT.tmp rfl) es_nil))))) (own_picks (by repeat (first | exact picks_nil | refine picks_cons 0 rfl ?_ | refine picks_cons 1 rfl ?_ | refine picks_cons 2 rfl ?_ | refine picks_cons 3 rfl ?_ | refine picks_cons 4 rfl ?_ | refine picks_cons 5 rfl ?_ | refine picks_cons 6 rfl ?_)))
          · try simp only [decide_eq_true_eq, decide_eq_false_iff_not, Bool.or_eq_true, Bool.and_eq_true, Bool.or_eq_false_iff, Bool.and_eq_false_iff, Bool.not_eq_true', Bool.not_eq_false', ne_eq, Classical.not_not] at c47
            have hue1 : i2 ≤ j1 → ltc c d1[a]! d1[i2]! = true := fun h => by
              rw [ltc_at (by omega) (by omega)]
              rcases c47 with h9 | h9
              · omega
              · simpa using h9
            have hup1 := hi3.symm.trans (up_end (p := (fun x => !ltc c d1[a]! x)) (fun h => by show (!ltc c _ _) = false; rw [hue1 h]; rfl))
            refine tr_exit ?_
            refine then_exit ?_
            refine then_exit ?_
            refine block_hit ?_
            refine then_normal ?_
            refine tr_seq ?_
            refine tr_block ?_
            refine tr_loopK (σ := Nat) (es_cons (t := 0) (OT.tmp rfl) (es_cons (t := 1) (OT.tmp rfl) (es_cons (t := 4) (OT.tmp rfl) (es_cons (t := 11) (OT.tmp rfl) es_nil)))) (fun s => [(12, I64 (s : Int))]) (fun s => [OwnI 45 (kG Z) v d1.toList]) (fun s => s ≤ j1 ∧ i2 ≤ s + 1 ∧ Sort.scanDown (fun x => ltc c d1[a]! x) d1 i2 s = Sort.scanDown (fun x => ltc c d1[a]! x) d1 i2 j1) (fun s => s) j1 ⟨by omega, by omega, rfl⟩ ?_ (own_picks (by repeat (first | exact picks_nil | refine picks_cons 0 rfl ?_ | refine picks_cons 1 rfl ?_ | refine picks_cons 2 rfl ?_ | refine picks_cons 3 rfl ?_ | refine picks_cons 4 rfl ?_ | refine picks_cons 5 rfl ?_ | refine picks_cons 6 rfl ?_))) ?_
            · exact (es_cons (t := 12) (by exact OT.tmp rfl) es_nil)
            · rintro j2 ⟨hj40, hj41, hj4⟩
              refine tr_seq ?_
              refine tr_seq ?_
              -- region 5
              refine tr_env (es_cons (t := 0) (OT.tmp rfl) (es_cons (t := 1) (OT.tmp rfl) (es_cons (t := 4) (OT.tmp rfl) (es_cons (t := 11) (OT.tmp rfl) (es_cons (t := 12) (OT.tmp rfl) es_nil))))) ?_
              apply tr_any (m := 13) (ns := [[(11, none)], [(12, none)], [(50, some 0), (51, some 1)], [(52, some 2)], [(4, none), (53, some 3)], [(0, none), (53, some 3)], [(1, none), (53, some 3)], [(53, some 3), (55, some 5), (56, some 6)], [(53, some 3), (57, some 7)], [(0, none), (53, some 3)], [(12, none), (53, some 3)], [(53, some 3), (59, some 9), (60, some 10)], [(53, some 3), (61, some 11)]]) (by kernel_rfl) (by kernel_rfl) (Ts := [_, _, _, _, _, _, _, _, _, _, _, _, _]) rfl
              case hops =>
                refine ⟨?_, ⟨?_, ⟨?_, ⟨?_, ⟨?_, ⟨?_, ⟨?_, ⟨?_, ⟨?_, ⟨?_, ⟨?_, ⟨?_, ⟨?_, trivial⟩⟩⟩⟩⟩⟩⟩⟩⟩⟩⟩⟩⟩
                · exact rop_pure rfl (pu_move (OT.tmp rfl))
                · exact rop_pure rfl (pu_move (OT.tmp rfl))
                · exact rop_pure rfl (pu_leq (OT.tmp rfl) (OT.tmp rfl))
                · exact rop_pure rfl (pu_move (OT.tmp rfl))
                · exact rop_gu rfl rfl rfl (OT.gu_mk (OT.tmp rfl)) (fun hg => by (have hg1 := hg.2; exact rop_pure rfl (pu_move (by exact OT.tmp rfl))))
                · exact rop_gu rfl rfl rfl (OT.gu_mk (OT.tmp rfl)) (fun hg => by (have hg1 := hg.2; exact rop_pure rfl (pu_move (by exact OT.tmp rfl))))
                · exact rop_gu rfl rfl rfl (OT.gu_mk (OT.tmp rfl)) (fun hg => by (have hg1 := hg.2; exact rop_pure rfl (pu_move (by exact OT.tmp rfl))))
                · exact rop_gu rfl rfl rfl (OT.gu_mk (OT.tmp rfl)) (fun hg => by (have hg1 := hg.2; exact rop_pure rfl (pu_index_own (by exact OT.gu (OT.tmp rfl) hg) (by exact mem_at 0 rfl) (by exact OT.gu (OT.tmp rfl) hg) Try.underlying35 (show tyOk Try.prog 45 false 1 = true from by decide +kernel) (by omega) (by omega))))
                · exact rop_gu rfl rfl rfl (OT.gu_mk (OT.tmp rfl)) (fun hg => by (have hg1 := hg.2; exact rop_pure rfl (pu_load_own0 (by exact OT.gu (OT.tmp rfl) hg) (by exact mem_at 0 rfl) (by omega) (by omega) (show tyOk Try.prog 45 false 1 = true from by decide +kernel))))
                · exact rop_gu rfl rfl rfl (OT.gu_mk (OT.tmp rfl)) (fun hg => by (have hg1 := hg.2; exact rop_pure rfl (pu_move (by exact OT.tmp rfl))))
                · exact rop_gu rfl rfl rfl (OT.gu_mk (OT.tmp rfl)) (fun hg => by (have hg1 := hg.2; exact rop_pure rfl (pu_move (by exact OT.tmp rfl))))
                · exact rop_gu rfl rfl rfl (OT.gu_mk (OT.tmp rfl)) (fun hg => by (have hg1 := hg.2; exact rop_pure rfl (pu_index_own (by exact OT.gu (OT.tmp rfl) hg) (by exact mem_at 0 rfl) (by exact OT.gu (OT.tmp rfl) hg) Try.underlying35 (show tyOk Try.prog 45 false 1 = true from by decide +kernel) (by omega) (by omega))))
                · exact rop_gu rfl rfl rfl (OT.gu_mk (OT.tmp rfl)) (fun hg => by (have hg1 := hg.2; exact rop_pure rfl (pu_load_own0 (by exact OT.gu (OT.tmp rfl) hg) (by exact mem_at 0 rfl) (by omega) (by omega) (show tyOk Try.prog 45 false 1 = true from by decide +kernel))))
              case h =>
                refine op_gu_acts () rfl rfl rfl (OT.gu_mk (OT.tmp rfl)) (fun hg => by (have hg1 := hg.2; (try simp only [decide_eq_true_eq, decide_eq_false_iff_not] at hg1); exact acts_callv (by exact OT.gu (OT.tmp rfl) hg) (hfv _ _) (OTs.cons (by exact OT.gu (OT.tmp rfl) hg) (OTs.cons (by exact OT.gu (OT.tmp rfl) hg) OTs.nil)) (List.Perm.refl _))) rfl (fun _ _ => ?_)
                refine op_gu rfl rfl rfl (OT.gu_mk (OT.tmp rfl)) (fun hg => by (have hg1 := hg.2; (try simp only [decide_eq_true_eq, decide_eq_false_iff_not] at hg1); exact pu_lss (by exact OT.gu (OT.tmp rfl) hg) OT.const)) rfl ?_
                refine op_pure (pu_pick_and (OT.tmp rfl) (by exact OT.tmp rfl)) rfl rfl ?_
                refine tr_nil ?_
                refine then_normal ?_
                refine tr_cond (OT.tmp rfl) (fun c65 => ?_) (fun c65 => ?_)
                · try simp only [decide_eq_true_eq, decide_eq_false_iff_not, Bool.or_eq_true, Bool.and_eq_true, Bool.or_eq_false_iff, Bool.and_eq_false_iff, Bool.not_eq_true', Bool.not_eq_false', ne_eq, Classical.not_not] at c65
                  have hnx := (down_step (p := (fun x => ltc c d1[a]! x)) (d := d1) (i := i2) (j := j2) (by omega) (by omega) (by show ltc c _ _ = true; rw [ltc_at (by omega) (by omega)]; simpa using c65.2)).symm.trans hj4
                  refine tr_skip ?_
                  refine then_normal ?_
                  refine tr_block ?_
                  -- region 6
                  refine tr_env (es_cons (t := 0) (OT.tmp rfl) (es_cons (t := 1) (OT.tmp rfl) (es_cons (t := 4) (OT.tmp rfl) (es_cons (t := 11) (OT.tmp rfl) (es_cons (t := 12) (OT.tmp rfl) es_nil))))) ?_
                  refine tr_region ?_
                  refine op_pure (pu_move (OT.tmp rfl)) rfl rfl ?_
                  refine op_pure (pu_sub' (OT.tmp rfl) OT.const (by omega)) rfl rfl ?_
                  refine op_pure (pu_assign (OT.tmp rfl)) rfl rfl ?_
                  refine tr_nil ?_
                  refine block_normal ?_
                  refine then_normal ?_
                  exact tr_again (j2 - 1) ⟨by omega, by omega, hnx⟩ (by omega) (es_append (es_cons (t := 12) (by exact OT.val (OT.tmp rfl) (congrArg (Value.int _) (by omega))) es_nil) (es_cons (t := 0) (OT.tmp rfl) (es_cons (t := 1) (OT.tmp rfl) (es_cons (t := 4) (OT.tmp rfl) (es_cons (t := 11) (OT.tmp rfl) es_nil))))) (own_picks (by repeat (first | exact picks_nil | refine picks_cons 0 rfl ?_ | refine picks_cons 1 rfl ?_ | refine picks_cons 2 rfl ?_ | refine picks_cons 3 rfl ?_ | refine picks_cons 4 rfl ?_ | refine picks_cons 5 rfl ?_ | refine picks_cons 6 rfl ?_)))
                · try simp only [decide_eq_true_eq, decide_eq_false_iff_not, Bool.or_eq_true, Bool.and_eq_true, Bool.or_eq_false_iff, Bool.and_eq_false_iff, Bool.not_eq_true', Bool.not_eq_false', ne_eq, Classical.not_not] at c65
                  have hde1 : i2 ≤ j2 → ltc c d1[a]! d1[j2]! = false := fun h => by
                    rw [ltc_at (by omega) (by omega)]
                    rcases c65 with h9 | h9
                    · omega
                    · simpa using h9
                  have hdn1 := hj4.symm.trans (down_end (p := (fun x => ltc c d1[a]! x)) hde1)
                  refine tr_exit ?_
                  refine then_exit ?_
                  refine then_exit ?_
                  refine block_hit ?_
                  refine then_normal ?_
                  refine tr_seq ?_
                  refine tr_seq ?_
                  -- region 7
                  refine tr_env (es_cons (t := 0) (OT.tmp rfl) (es_cons (t := 1) (OT.tmp rfl) (es_cons (t := 4) (OT.tmp rfl) (es_cons (t := 11) (OT.tmp rfl) (es_cons (t := 12) (OT.tmp rfl) es_nil))))) ?_
                  refine tr_region ?_
                  refine op_pure (pu_move (OT.tmp rfl)) rfl rfl ?_
                  refine op_pure (pu_move (OT.tmp rfl)) rfl rfl ?_
                  refine op_pure (pu_gtr (OT.tmp rfl) (OT.tmp rfl)) rfl rfl ?_
                  refine tr_nil ?_
                  refine then_normal ?_
                  refine tr_cond (OT.tmp rfl) (fun c70 => ?_) (fun c70 => ?_)
                  · try simp only [decide_eq_true_eq, decide_eq_false_iff_not, Bool.or_eq_true, Bool.and_eq_true, Bool.or_eq_false_iff, Bool.and_eq_false_iff, Bool.not_eq_true', Bool.not_eq_false', ne_eq, Classical.not_not] at c70
                    have hres := hr.symm.trans (partE_end hup1 hdn1 (by omega))
                    refine tr_exit ?_
                    refine then_exit ?_
                    refine block_pass rfl ?_
                    refine then_exit ?_
                    refine block_hit ?_
                    refine then_normal ?_
                    refine tr_seq ?_
                    -- region 11
                    refine tr_env (es_cons (t := 11) (OT.tmp rfl) es_nil) ?_
                    refine tr_region ?_
                    refine op_pure (pu_move (OT.tmp rfl)) rfl rfl ?_
                    refine op_pure (pu_assign (OT.tmp rfl)) rfl rfl ?_
                    refine tr_nil ?_
                    refine then_normal ?_
                    refine tr_ret ?_
                    exact ret_one .ret (.inl rfl) rfl () (OT.val (OT.tmp rfl) (congrArg (Value.int _) (by rw [hres]))) trivial (by rw [hres]; exact picks_cons 0 rfl picks_nil)
                  · try simp only [decide_eq_true_eq, decide_eq_false_iff_not, Bool.or_eq_true, Bool.and_eq_true, Bool.or_eq_false_iff, Bool.and_eq_false_iff, Bool.not_eq_true', Bool.not_eq_false', ne_eq, Classical.not_not] at c70
                    have hij2 : i2 ≤ j2 := by omega
                    have hne2 : i2 ≠ j2 := fun e => by have h8 := hue1 (by omega); have h9 := hde1 hij2; rw [← e] at h9; exact absurd (h8.symm.trans h9) (by simp)
                    have hnx := (partE_step hup1 hdn1 (by omega) (by omega)).symm.trans hr
                    refine tr_skip ?_
                    refine then_normal ?_
                    refine tr_seq ?_
                    -- region 8
                    refine tr_env (es_cons (t := 0) (OT.tmp rfl) (es_cons (t := 1) (OT.tmp rfl) (es_cons (t := 4) (OT.tmp rfl) (es_cons (t := 11) (OT.tmp rfl) (es_cons (t := 12) (OT.tmp rfl) es_nil))))) ?_
                    apply tr_anyW (p := 13) (Lf := fun c => cond c ([OwnI 45 (kG Z) v (d1.toList.set (i2 : Int).toNat (at' d1.toList (j2 : Int)))]) ([OwnI 45 (kG Z) v d1.toList])) (by kernel_rfl) (m := 14) (ns := [[(0, none)], [(11, none)], [(0, none)], [(12, none)], [(0, none)], [(12, none)], [(75, some 4), (76, some 5)], [(77, some 6)], [(0, none)], [(11, none)], [(79, some 8), (80, some 9)], [(81, some 10)], [(71, some 0), (72, some 1)], [(78, some 7), (83, some 12)]]) (by kernel_rfl) (by kernel_rfl) (Ts := [_, _, _, _, _, _, _, _, _, _, _, _, _, _]) rfl
                    case hops =>
                      refine ⟨?_, ⟨?_, ⟨?_, ⟨?_, ⟨?_, ⟨?_, ⟨?_, ⟨?_, ⟨?_, ⟨?_, ⟨?_, ⟨?_, ⟨?_, ⟨?_, trivial⟩⟩⟩⟩⟩⟩⟩⟩⟩⟩⟩⟩⟩⟩
                      · intro c hc; cases c
                        · exact ropw_of (rop_pure rfl (pu_move (OT.tmp rfl)))
                        · exact Bool.noConfusion (hc.symm.trans (by kernel_rfl : okFlag _ _ _ _ = false))
                      · intro c hc; cases c
                        · exact ropw_of (rop_pure rfl (pu_move (OT.tmp rfl)))
                        · exact Bool.noConfusion (hc.symm.trans (by kernel_rfl : okFlag _ _ _ _ = false))
                      · intro c hc; cases c
                        · exact ropw_of (rop_pure rfl (pu_move (OT.tmp rfl)))
                        · exact ropw_of (rop_pure rfl (pu_move (OT.tmp rfl)))
                      · intro c hc; cases c
                        · exact ropw_of (rop_pure rfl (pu_move (OT.tmp rfl)))
                        · exact ropw_of (rop_pure rfl (pu_move (OT.tmp rfl)))
                      · intro c hc; cases c
                        · exact ropw_of (rop_pure rfl (pu_move (OT.tmp rfl)))
                        · exact Bool.noConfusion (hc.symm.trans (by kernel_rfl : okFlag _ _ _ _ = false))
                      · intro c hc; cases c
                        · exact ropw_of (rop_pure rfl (pu_move (OT.tmp rfl)))
                        · exact Bool.noConfusion (hc.symm.trans (by kernel_rfl : okFlag _ _ _ _ = false))
                      · intro c hc; cases c
                        · exact ropw_of (rop_pure rfl (pu_index_own (OT.tmp rfl) (by exact mem_at 0 rfl) (OT.tmp rfl) Try.underlying35 (show tyOk Try.prog 45 false 1 = true from by decide +kernel) (by omega) (by omega)))
                        · exact Bool.noConfusion (hc.symm.trans (by kernel_rfl : okFlag _ _ _ _ = false))
                      · intro c hc; cases c
                        · exact ropw_of (rop_pure rfl (pu_load_own0 (OT.tmp rfl) (by exact mem_at 0 rfl) (by omega) (by omega) (show tyOk Try.prog 45 false 1 = true from by decide +kernel)))
                        · exact Bool.noConfusion (hc.symm.trans (by kernel_rfl : okFlag _ _ _ _ = false))
                      · intro c hc; cases c
                        · exact ropw_of (rop_pure rfl (pu_move (OT.tmp rfl)))
                        · exact Bool.noConfusion (hc.symm.trans (by kernel_rfl : okFlag _ _ _ _ = false))
                      · intro c hc; cases c
                        · exact ropw_of (rop_pure rfl (pu_move (OT.tmp rfl)))
                        · exact Bool.noConfusion (hc.symm.trans (by kernel_rfl : okFlag _ _ _ _ = false))
                      · intro c hc; cases c
                        · exact ropw_of (rop_pure rfl (pu_index_own (OT.tmp rfl) (by exact mem_at 0 rfl) (OT.tmp rfl) Try.underlying35 (show tyOk Try.prog 45 false 1 = true from by decide +kernel) (by omega) (by omega)))
                        · exact Bool.noConfusion (hc.symm.trans (by kernel_rfl : okFlag _ _ _ _ = false))
                      · intro c hc; cases c
                        · exact ropw_of (rop_pure rfl (pu_load_own0 (OT.tmp rfl) (by exact mem_at 0 rfl) (by omega) (by omega) (show tyOk Try.prog 45 false 1 = true from by decide +kernel)))
                        · exact Bool.noConfusion (hc.symm.trans (by kernel_rfl : okFlag _ _ _ _ = false))
                      · intro c hc; cases c
                        · exact ropw_of (rop_pure rfl (pu_index_own (OT.tmp rfl) (by exact mem_at 0 rfl) (OT.tmp rfl) Try.underlying35 (show tyOk Try.prog 45 false 1 = true from by decide +kernel) (by omega) (by omega)))
                        · exact Bool.noConfusion (hc.symm.trans (by kernel_rfl : okFlag _ _ _ _ = false))
                      · intro c hc; cases c
                        · exact ropw_acts rfl (acts_store_own0 (OT.tmp rfl) (OT.tmp rfl) (by exact perm_at 0 rfl) (by omega) (by omega) (show tyOk Try.prog 45 false 1 = true from by decide +kernel)) (by exact perm_at 0 rfl) (fun _ => (by exact perm_at 0 rfl)) (fun _ _ _ _ h => h)
                        · exact Bool.noConfusion (hc.symm.trans (by kernel_rfl : okFlag _ _ _ _ = false))
                    case h =>
                      refine op_pure (pu_index_own (OT.tmp rfl) (by exact mem_at 0 rfl) (OT.tmp rfl) Try.underlying35 (show tyOk Try.prog 45 false 1 = true from by decide +kernel) (by omega) (by (simp; omega))) rfl rfl ?_
                      refine op_acts (acts_store_own0 (OT.tmp rfl) (OT.tmp rfl) (by exact perm_at 0 rfl) (by omega) (by (simp; omega)) (show tyOk Try.prog 45 false 1 = true from by decide +kernel)) (by exact perm_at 0 rfl) rfl rfl (fun _ _ => ?_)
                      refine tr_nil ?_
                      refine then_normal ?_
                      refine tr_seq ?_
                      -- region 9
                      refine tr_env (es_cons (t := 0) (OT.tmp rfl) (es_cons (t := 1) (OT.tmp rfl) (es_cons (t := 4) (OT.tmp rfl) (es_cons (t := 11) (OT.tmp rfl) (es_cons (t := 12) (OT.tmp rfl) es_nil))))) ?_
                      rw [sw (by omega) (by omega)]
                      refine tr_region ?_
                      refine op_pure (pu_move (OT.tmp rfl)) rfl rfl ?_
                      refine op_pure (pu_add' (OT.tmp rfl) OT.const (by omega)) rfl rfl ?_
                      refine op_pure (pu_assign (OT.tmp rfl)) rfl rfl ?_
                      refine tr_nil ?_
                      refine then_normal ?_
                      -- region 10
                      refine tr_env (es_cons (t := 0) (OT.tmp rfl) (es_cons (t := 1) (OT.tmp rfl) (es_cons (t := 4) (OT.tmp rfl) (es_cons (t := 11) (OT.tmp rfl) (es_cons (t := 12) (OT.tmp rfl) es_nil))))) ?_
                      refine tr_region ?_
                      refine op_pure (pu_move (OT.tmp rfl)) rfl rfl ?_
                      refine op_pure (pu_sub' (OT.tmp rfl) OT.const (by omega)) rfl rfl ?_
                      refine op_pure (pu_assign (OT.tmp rfl)) rfl rfl ?_
                      refine tr_nil ?_
                      refine block_normal ?_
                      refine then_normal ?_
                      exact tr_again (i2 + 1, j2 - 1, Sort.swp d1 i2 j2) ⟨swp_size.trans hs2, by show a + 1 ≤ i2 + 1; omega, by show i2 + 1 ≤ j2 - 1 + 1; omega, by show j2 - 1 < b; omega, hnx⟩ (by show j2 - 1 + 1 - (i2 + 1) < j1 + 1 - i1; omega) (es_append (es_cons (t := 11) (by exact OT.tmp rfl) (es_cons (t := 12) (by exact OT.val (OT.tmp rfl) (congrArg (Value.int _) (by (simp; omega)))) es_nil)) (es_cons (t := 0) (OT.tmp rfl) (es_cons (t := 1) (OT.tmp rfl) (es_cons (t := 4) (OT.tmp rfl) es_nil)))) (own_picks (by repeat (first | exact picks_nil | refine picks_cons 0 rfl ?_ | refine picks_cons 1 rfl ?_ | refine picks_cons 2 rfl ?_ | refine picks_cons 3 rfl ?_ | refine picks_cons 4 rfl ?_ | refine picks_cons 5 rfl ?_ | refine picks_cons 6 rfl ?_)))
end Go.Proofs.Ytakkjljhjfkkbaa
/- Sorts of tuples: the steps of the insertion in part. -/
namespace Go.So
open Go Go.Gw
set_option linter.unusedVariables false
set_option linter.unusedSimpArgs false
section
variable {c : List Int → List Int → Int} {d : DA} {a b i j s : Nat}
theorem ss_step (h : i < b) (hp : ltc c d[i]! d[i - 1]! = false) : Sort.scanSorted (ltc c) d b i = Sort.scanSorted (ltc c) d b (i + 1) := by
  rw [Sort.scanSorted, if_pos (by simp [h, hp])]
theorem ss_end (h : i < b → ltc c d[i]! d[i - 1]! = true) : Sort.scanSorted (ltc c) d b i = i := by
  rw [Sort.scanSorted, if_neg (by
    rw [Bool.and_eq_true, decide_eq_true_eq]; rintro ⟨h1, h2⟩; rw [h h1] at h2; cases h2)]
theorem sd_step (h : 0 < j) (hp : ltc c d[j]! d[j - 1]! = true) : Sort.shiftDown (ltc c) j d = Sort.shiftDown (ltc c) (j - 1) (Sort.swp d j (j - 1)) := by
  obtain ⟨k, rfl⟩ : ∃ k, j = k + 1 := ⟨j - 1, by omega⟩
  rw [Nat.add_sub_cancel] at hp ⊢
  rw [Sort.shiftDown, if_neg (by simp [hp])]
theorem sd_end (h : 0 < j → ltc c d[j]! d[j - 1]! = false) : Sort.shiftDown (ltc c) j d = d := by
  cases j with
  | zero => rfl
  | succ k =>
    have := h (by omega)
    rw [Nat.add_sub_cancel] at this
    rw [Sort.shiftDown, if_pos (by simp [this])]
theorem su_step (h : j < b) (hp : ltc c d[j]! d[j - 1]! = true) : Sort.shiftUp (ltc c) b j d = Sort.shiftUp (ltc c) b (j + 1) (Sort.swp d j (j - 1)) := by
  rw [Sort.shiftUp, if_pos h, if_neg (by simp [hp])]
theorem su_end (h : j < b → ltc c d[j]! d[j - 1]! = false) : Sort.shiftUp (ltc c) b j d = d := by
  rw [Sort.shiftUp]
  split
  · rename_i hj
    rw [if_pos (by simp [h hj])]
  · rfl
theorem sd_size : ∀ (j : Nat) (d : DA), (Sort.shiftDown (ltc c) j d).size = d.size
  | 0, d => rfl
  | j + 1, d => by
    rw [Sort.shiftDown]
    split
    · rfl
    · rw [sd_size j, swp_size]
theorem su_size (b j : Nat) (d : DA) : (Sort.shiftUp (ltc c) b j d).size = d.size := by
  fun_induction Sort.shiftUp (ltc c) b j d <;> simp_all [Sort.swp]
theorem pi_zero : Sort.partialIns (ltc c) a b 0 i d = (d, false) := rfl
theorem pi_yes (hi : Sort.scanSorted (ltc c) d b i = b) : Sort.partialIns (ltc c) a b (s + 1) i d = (d, true) := by
  rw [Sort.partialIns]; simp only [hi, if_true]
theorem pi_few (hi : Sort.scanSorted (ltc c) d b i = j) (hj : j ≠ b) (h : b - a < 50) : Sort.partialIns (ltc c) a b (s + 1) i d = (d, false) := by
  rw [Sort.partialIns]; simp only [hi]; rw [if_neg hj, if_pos h]
theorem pi_on (hi : Sort.scanSorted (ltc c) d b i = j) (hj : j ≠ b) (h : ¬ b - a < 50) : Sort.partialIns (ltc c) a b (s + 1) i d =
    Sort.partialIns (ltc c) a b s j (if b - j ≥ 2 then Sort.shiftUp (ltc c) b (j + 1) (if j - a ≥ 2 then Sort.shiftDown (ltc c) (j - 1) (Sort.swp d j (j - 1)) else Sort.swp d j (j - 1)) else (if j - a ≥ 2 then Sort.shiftDown (ltc c) (j - 1) (Sort.swp d j (j - 1)) else Sort.swp d j (j - 1))) := by
  rw [Sort.partialIns]; simp only [hi]; rw [if_neg hj, if_neg h]
theorem sw1 (h0 : 0 < i) (h : i < d.size) : (d.toList.set (i : Int).toNat (at' d.toList ((i : Int) - 1))).set ((i : Int) - 1).toNat (at' d.toList (i : Int)) = (Sort.swp d i (i - 1)).toList := by
  rw [show (i : Int) - 1 = ((i - 1 : Nat) : Int) from by omega]
  exact sw h (by omega)
end
end Go.So
/- Walks through the Go functions api.Tuple], as typed contracts. -/
namespace Go.Proofs.Ytakkjljhjfkkbaa
open Go Go.Gw Go.So
set_option linter.unusedVariables false
set_option linter.unusedSimpArgs false
variable {Z : SlTy}

set_option maxHeartbeats 1000000 in
set_option maxRecDepth 20000 in
/-- slices.partialInsertionSortCmpFunc[rhizome/api.Tuple] -/
theorem pins_fn (v fv : Value) (d : DA) (a b : Nat) (c : List Int → List Int → Int) (hm : d.size < 4611686018427387904) (hab : a < b) (hb : b ≤ d.size) (hfv : ∀ x y, CtV Try.prog fv [(kG Z).T x, (kG Z).T y] [] Unit (fun _ => I64 (c x y)) (fun _ => []) (fun _ => True)) : Ct Try.prog 45 [IsV v, I64 (a : Int), I64 (b : Int), IsV fv] ([OwnI 45 (kG Z) v d.toList]) Unit (fun _ => BoolT (Sort.partialInsertionSort (ltc c) d a b).2) (fun _ => [OwnI 45 (kG Z) v (Sort.partialInsertionSort (ltc c) d a b).1.toList]) (fun _ => True) := by
  refine fn_intro Try.func45 rfl rfl ?_
  intro H w
  refine tr_seq ?_
  -- region 0
  refine tr_env (es_cons (t := 0) (OT.tmp rfl) (es_cons (t := 1) (OT.tmp rfl) (es_cons (t := 2) (OT.tmp rfl) (es_cons (t := 3) (OT.tmp rfl) es_nil)))) ?_
  refine tr_region ?_
  refine op_pure (pu_assign OT.const) rfl rfl ?_
  refine tr_nil ?_
  refine then_normal ?_
  refine tr_seq ?_
  -- region 1
  refine tr_env (es_cons (t := 0) (OT.tmp rfl) (es_cons (t := 1) (OT.tmp rfl) (es_cons (t := 2) (OT.tmp rfl) (es_cons (t := 3) (OT.tmp rfl) es_nil)))) ?_
  refine tr_region ?_
  refine op_pure (pu_move (OT.tmp rfl)) rfl rfl ?_
  refine op_pure (pu_add' (OT.tmp rfl) OT.const (by omega)) rfl rfl ?_
  refine op_pure (pu_assign (OT.tmp rfl)) rfl rfl ?_
  refine tr_nil ?_
  refine then_normal ?_
  refine tr_seq ?_
  refine tr_seq ?_
  -- region 2
  refine tr_env (es_cons (t := 0) (OT.tmp rfl) (es_cons (t := 1) (OT.tmp rfl) (es_cons (t := 2) (OT.tmp rfl) (es_cons (t := 3) (OT.tmp rfl) (es_cons (t := 9) (OT.tmp rfl) es_nil))))) ?_
  refine tr_region ?_
  refine op_pure (pu_assign OT.const) rfl rfl ?_
  refine tr_nil ?_
  refine then_normal ?_
  refine tr_block ?_
  refine tr_loopK (σ := Nat × Nat × DA) (es_cons (t := 0) (OT.tmp rfl) (es_cons (t := 1) (OT.tmp rfl) (es_cons (t := 2) (OT.tmp rfl) (es_cons (t := 3) (OT.tmp rfl) es_nil)))) (fun s => [(10, I64 (5 - (s.1 : Int))), (9, I64 (s.2.1 : Int))]) (fun s => [OwnI 45 (kG Z) v s.2.2.toList]) (fun s => s.1 ≤ 5 ∧ a + 1 ≤ s.2.1 ∧ s.2.1 ≤ b ∧ s.2.2.size = d.size ∧ Sort.partialIns (ltc c) a b s.1 s.2.1 s.2.2 = (Sort.partialInsertionSort (ltc c) d a b)) (fun s => s.1) (5, a + 1, d) ⟨by simp, by simp, by show a + 1 ≤ b; omega, rfl, rfl⟩ ?_ (own_picks (by repeat (first | exact picks_nil | refine picks_cons 0 rfl ?_ | refine picks_cons 1 rfl ?_ | refine picks_cons 2 rfl ?_ | refine picks_cons 3 rfl ?_ | refine picks_cons 4 rfl ?_ | refine picks_cons 5 rfl ?_ | refine picks_cons 6 rfl ?_))) ?_
  · exact (es_cons (t := 10) (by exact OT.tmp rfl) (es_cons (t := 9) (by exact OT.tmp rfl) es_nil))
  · rintro ⟨s0, i, d1⟩ ⟨h5, hi0, hi1, hs1, hr⟩
    dsimp only at h5 hi0 hi1 hs1 hr ⊢
    have hl1 : d1.toList.length = d1.size := Array.length_toList
    refine tr_seq ?_
    refine tr_seq ?_
    -- region 3
    refine tr_env (es_cons (t := 0) (OT.tmp rfl) (es_cons (t := 1) (OT.tmp rfl) (es_cons (t := 2) (OT.tmp rfl) (es_cons (t := 3) (OT.tmp rfl) (es_cons (t := 9) (OT.tmp rfl) (es_cons (t := 10) (OT.tmp rfl) es_nil)))))) ?_
    refine tr_region ?_
    refine op_pure (pu_move (OT.tmp rfl)) rfl rfl ?_
    refine op_pure (pu_lss (OT.tmp rfl) OT.const) rfl rfl ?_
    refine tr_nil ?_
    refine then_normal ?_
    refine tr_cond (OT.tmp rfl) (fun c16 => ?_) (fun c16 => ?_)
    · try simp only [decide_eq_true_eq, decide_eq_false_iff_not, Bool.or_eq_true, Bool.and_eq_true, Bool.or_eq_false_iff, Bool.and_eq_false_iff, Bool.not_eq_true', Bool.not_eq_false', ne_eq, Classical.not_not] at c16
      obtain ⟨s, rfl⟩ : ∃ t, s0 = t + 1 := ⟨s0 - 1, by omega⟩
      refine tr_skip ?_
      refine then_normal ?_
      refine tr_seq ?_
      refine tr_block ?_
      refine tr_seq ?_
      refine tr_block ?_
      refine tr_loopK (σ := Nat) (es_cons (t := 0) (OT.tmp rfl) (es_cons (t := 1) (OT.tmp rfl) (es_cons (t := 2) (OT.tmp rfl) (es_cons (t := 3) (OT.tmp rfl) (es_cons (t := 10) (OT.tmp rfl) es_nil))))) (fun s => [(9, I64 (s : Int))]) (fun s => [OwnI 45 (kG Z) v d1.toList]) (fun s => i ≤ s ∧ s ≤ b ∧ Sort.scanSorted (ltc c) d1 b s = Sort.scanSorted (ltc c) d1 b i) (fun s => b - s) i ⟨by omega, by omega, rfl⟩ ?_ (own_picks (by repeat (first | exact picks_nil | refine picks_cons 0 rfl ?_ | refine picks_cons 1 rfl ?_ | refine picks_cons 2 rfl ?_ | refine picks_cons 3 rfl ?_ | refine picks_cons 4 rfl ?_ | refine picks_cons 5 rfl ?_ | refine picks_cons 6 rfl ?_))) ?_
      · exact (es_cons (t := 9) (by exact OT.tmp rfl) es_nil)
      · rintro i2 ⟨hi20, hi21, hss⟩
        refine tr_seq ?_
        refine tr_seq ?_
        -- region 5
        refine tr_env (es_cons (t := 0) (OT.tmp rfl) (es_cons (t := 1) (OT.tmp rfl) (es_cons (t := 2) (OT.tmp rfl) (es_cons (t := 3) (OT.tmp rfl) (es_cons (t := 9) (OT.tmp rfl) (es_cons (t := 10) (OT.tmp rfl) es_nil)))))) ?_
        apply tr_any (m := 14) (ns := [[(9, none)], [(2, none)], [(19, some 0), (20, some 1)], [(21, some 2)], [(3, none), (22, some 3)], [(0, none), (22, some 3)], [(9, none), (22, some 3)], [(22, some 3), (24, some 5), (25, some 6)], [(22, some 3), (26, some 7)], [(0, none), (22, some 3)], [(9, none), (22, some 3)], [(22, some 3), (29, some 10)], [(22, some 3), (28, some 9), (30, some 11)], [(22, some 3), (31, some 12)]]) (by kernel_rfl) (by kernel_rfl) (Ts := [_, _, _, _, _, _, _, _, _, _, _, _, _, _]) rfl
        case hops =>
          refine ⟨?_, ⟨?_, ⟨?_, ⟨?_, ⟨?_, ⟨?_, ⟨?_, ⟨?_, ⟨?_, ⟨?_, ⟨?_, ⟨?_, ⟨?_, ⟨?_, trivial⟩⟩⟩⟩⟩⟩⟩⟩⟩⟩⟩⟩⟩⟩
          · exact rop_pure rfl (pu_move (OT.tmp rfl))
          · exact rop_pure rfl (pu_move (OT.tmp rfl))
          · exact rop_pure rfl (pu_lss (OT.tmp rfl) (OT.tmp rfl))
          · exact rop_pure rfl (pu_move (OT.tmp rfl))
          · exact rop_gu rfl rfl rfl (OT.gu_mk (OT.tmp rfl)) (fun hg => by (have hg1 := hg.2; exact rop_pure rfl (pu_move (by exact OT.tmp rfl))))
          · exact rop_gu rfl rfl rfl (OT.gu_mk (OT.tmp rfl)) (fun hg => by (have hg1 := hg.2; exact rop_pure rfl (pu_move (by exact OT.tmp rfl))))
          · exact rop_gu rfl rfl rfl (OT.gu_mk (OT.tmp rfl)) (fun hg => by (have hg1 := hg.2; exact rop_pure rfl (pu_move (by exact OT.tmp rfl))))
          · exact rop_gu rfl rfl rfl (OT.gu_mk (OT.tmp rfl)) (fun hg => by (have hg1 := hg.2; exact rop_pure rfl (pu_index_own (by exact OT.gu (OT.tmp rfl) hg) (by exact mem_at 0 rfl) (by exact OT.gu (OT.tmp rfl) hg) Try.underlying35 (show tyOk Try.prog 45 false 1 = true from by decide +kernel) (by omega) (by (simp [maxLen] at *; omega)))))
          · exact rop_gu rfl rfl rfl (OT.gu_mk (OT.tmp rfl)) (fun hg => by (have hg1 := hg.2; exact rop_pure rfl (pu_load_own0 (by exact OT.gu (OT.tmp rfl) hg) (by exact mem_at 0 rfl) (by omega) (by (simp [maxLen] at *; omega)) (show tyOk Try.prog 45 false 1 = true from by decide +kernel))))
          · exact rop_gu rfl rfl rfl (OT.gu_mk (OT.tmp rfl)) (fun hg => by (have hg1 := hg.2; exact rop_pure rfl (pu_move (by exact OT.tmp rfl))))
          · exact rop_gu rfl rfl rfl (OT.gu_mk (OT.tmp rfl)) (fun hg => by (have hg1 := hg.2; exact rop_pure rfl (pu_move (by exact OT.tmp rfl))))
          · exact rop_gu rfl rfl rfl (OT.gu_mk (OT.tmp rfl)) (fun hg => by (have hg1 := hg.2; exact rop_pure rfl (pu_sub' (by exact OT.gu (OT.tmp rfl) hg) OT.const (by omega))))
          · exact rop_gu rfl rfl rfl (OT.gu_mk (OT.tmp rfl)) (fun hg => by (have hg1 := hg.2; exact rop_pure rfl (pu_index_own (by exact OT.gu (OT.tmp rfl) hg) (by exact mem_at 0 rfl) (by exact OT.gu (OT.tmp rfl) hg) Try.underlying35 (show tyOk Try.prog 45 false 1 = true from by decide +kernel) (by omega) (by omega))))
          · exact rop_gu rfl rfl rfl (OT.gu_mk (OT.tmp rfl)) (fun hg => by (have hg1 := hg.2; exact rop_pure rfl (pu_load_own0 (by exact OT.gu (OT.tmp rfl) hg) (by exact mem_at 0 rfl) (by omega) (by omega) (show tyOk Try.prog 45 false 1 = true from by decide +kernel))))
        case h =>
          refine op_gu_acts () rfl rfl rfl (OT.gu_mk (OT.tmp rfl)) (fun hg => by (have hg1 := hg.2; (try simp only [decide_eq_true_eq, decide_eq_false_iff_not] at hg1); exact acts_callv (by exact OT.gu (OT.tmp rfl) hg) (hfv _ _) (OTs.cons (by exact OT.gu (OT.tmp rfl) hg) (OTs.cons (by exact OT.gu (OT.tmp rfl) hg) OTs.nil)) (List.Perm.refl _))) rfl (fun _ _ => ?_)
          refine op_gu rfl rfl rfl (OT.gu_mk (OT.tmp rfl)) (fun hg => by (have hg1 := hg.2; (try simp only [decide_eq_true_eq, decide_eq_false_iff_not] at hg1); exact pu_lss (by exact OT.gu (OT.tmp rfl) hg) OT.const)) rfl ?_
          refine op_gu rfl rfl rfl (OT.gu_mk (OT.tmp rfl)) (fun hg => by (have hg1 := hg.2; (try simp only [decide_eq_true_eq, decide_eq_false_iff_not] at hg1); exact pu_not (by exact OT.gu (OT.tmp rfl) hg))) rfl ?_
          refine op_pure (pu_pick_and (OT.tmp rfl) (by exact OT.tmp rfl)) rfl rfl ?_
          refine tr_nil ?_
          refine then_normal ?_
          refine tr_cond (OT.tmp rfl) (fun c36 => ?_) (fun c36 => ?_)
          · try simp only [decide_eq_true_eq, decide_eq_false_iff_not, Bool.or_eq_true, Bool.and_eq_true, Bool.or_eq_false_iff, Bool.and_eq_false_iff, Bool.not_eq_true', Bool.not_eq_false', ne_eq, Classical.not_not] at c36
            have hnx := (ss_step (c := c) (d := d1) (b := b) (i := i2) (by omega) (by rw [ltc_at (by omega) (by omega), show ((i2 - 1 : Nat) : Int) = (i2 : Int) - 1 from by omega]; simpa using c36.2)).symm.trans hss
            refine tr_skip ?_
            refine then_normal ?_
            refine tr_block ?_
            -- region 6
            refine tr_env (es_cons (t := 0) (OT.tmp rfl) (es_cons (t := 1) (OT.tmp rfl) (es_cons (t := 2) (OT.tmp rfl) (es_cons (t := 3) (OT.tmp rfl) (es_cons (t := 9) (OT.tmp rfl) (es_cons (t := 10) (OT.tmp rfl) es_nil)))))) ?_
            refine tr_region ?_
            refine op_pure (pu_move (OT.tmp rfl)) rfl rfl ?_
            refine op_pure (pu_add' (OT.tmp rfl) OT.const (by omega)) rfl rfl ?_
            refine op_pure (pu_assign (OT.tmp rfl)) rfl rfl ?_
            refine tr_nil ?_
            refine block_normal ?_
            refine then_normal ?_
            exact tr_again (i2 + 1) ⟨by omega, by omega, hnx⟩ (by omega) (es_append (es_cons (t := 9) (by exact OT.tmp rfl) es_nil) (es_cons (t := 0) (OT.tmp rfl) (es_cons (t := 1) (OT.tmp rfl) (es_cons (t := 2) (OT.tmp rfl) (es_cons (t := 3) (OT.tmp rfl) (es_cons (t := 10) (OT.tmp rfl) es_nil)))))) (own_picks (by repeat (first | exact picks_nil | refine picks_cons 0 rfl ?_ | refine picks_cons 1 rfl ?_ | refine picks_cons 2 rfl ?_ | refine picks_cons 3 rfl ?_ | refine picks_cons 4 rfl ?_ | refine picks_cons 5 rfl ?_ | refine picks_cons 6 rfl ?_)))
          · try simp only [decide_eq_true_eq, decide_eq_false_iff_not, Bool.or_eq_true, Bool.and_eq_true, Bool.or_eq_false_iff, Bool.and_eq_false_iff, Bool.not_eq_true', Bool.not_eq_false', ne_eq, Classical.not_not] at c36
            have hse := hss.symm.trans (ss_end (c := c) (d := d1) (b := b) (i := i2) (fun h => by rw [ltc_at (by omega) (by omega), show ((i2 - 1 : Nat) : Int) = (i2 : Int) - 1 from by omega]; rcases c36 with h9 | h9; omega; simpa using h9))
            refine tr_exit ?_
            refine then_exit ?_
            refine then_exit ?_
            refine block_hit ?_
            refine then_normal ?_
            refine tr_seq ?_
            refine tr_seq ?_
            -- region 7
            refine tr_env (es_cons (t := 0) (OT.tmp rfl) (es_cons (t := 1) (OT.tmp rfl) (es_cons (t := 2) (OT.tmp rfl) (es_cons (t := 3) (OT.tmp rfl) (es_cons (t := 9) (OT.tmp rfl) (es_cons (t := 10) (OT.tmp rfl) es_nil)))))) ?_
            refine tr_region ?_
            refine op_pure (pu_move (OT.tmp rfl)) rfl rfl ?_
            refine op_pure (pu_move (OT.tmp rfl)) rfl rfl ?_
            refine op_pure (pu_eql (OT.tmp rfl) (OT.tmp rfl)) rfl rfl ?_
            refine tr_nil ?_
            refine then_normal ?_
            refine tr_cond (OT.tmp rfl) (fun c41 => ?_) (fun c41 => ?_)
            · try simp only [decide_eq_true_eq, decide_eq_false_iff_not, Bool.or_eq_true, Bool.and_eq_true, Bool.or_eq_false_iff, Bool.and_eq_false_iff, Bool.not_eq_true', Bool.not_eq_false', ne_eq, Classical.not_not] at c41
              have hib : i2 = b := by omega
              subst hib
              have hres := hr.symm.trans (pi_yes hse)
              refine tr_seq ?_
              -- region 8
              refine tr_env es_nil ?_
              refine tr_region ?_
              refine op_pure (pu_assign OT.const) rfl rfl ?_
              refine tr_nil ?_
              refine then_normal ?_
              refine tr_ret ?_
              refine then_ret ?_
              refine block_ret ?_
              refine then_ret ?_
              refine then_ret ?_
              refine block_ret ?_
              refine then_ret ?_
              exact ret_one .ret (.inl rfl) rfl () (OT.val (OT.tmp rfl) (congrArg Value.bool (by rw [hres]))) trivial (by rw [hres]; exact picks_cons 0 rfl picks_nil)
            · try simp only [decide_eq_true_eq, decide_eq_false_iff_not, Bool.or_eq_true, Bool.and_eq_true, Bool.or_eq_false_iff, Bool.and_eq_false_iff, Bool.not_eq_true', Bool.not_eq_false', ne_eq, Classical.not_not] at c41
              refine tr_skip ?_
              refine then_normal ?_
              refine tr_seq ?_
              refine tr_seq ?_
              -- region 9
              refine tr_env (es_cons (t := 0) (OT.tmp rfl) (es_cons (t := 1) (OT.tmp rfl) (es_cons (t := 2) (OT.tmp rfl) (es_cons (t := 3) (OT.tmp rfl) (es_cons (t := 9) (OT.tmp rfl) (es_cons (t := 10) (OT.tmp rfl) es_nil)))))) ?_
              refine tr_region ?_
              refine op_pure (pu_move (OT.tmp rfl)) rfl rfl ?_
              refine op_pure (pu_move (OT.tmp rfl)) rfl rfl ?_
              refine op_pure (pu_sub' (OT.tmp rfl) (OT.tmp rfl) (by omega)) rfl rfl ?_
              refine op_pure (pu_lss (OT.tmp rfl) OT.const) rfl rfl ?_
              refine tr_nil ?_
              refine then_normal ?_
              refine tr_cond (OT.tmp rfl) (fun c45 => ?_) (fun c45 => ?_)
              · try simp only [decide_eq_true_eq, decide_eq_false_iff_not, Bool.or_eq_true, Bool.and_eq_true, Bool.or_eq_false_iff, Bool.and_eq_false_iff, Bool.not_eq_true', Bool.not_eq_false', ne_eq, Classical.not_not] at c45
                have hres := hr.symm.trans (pi_few hse (by omega) (by omega))
                refine tr_seq ?_
                -- region 10
                refine tr_env es_nil ?_
                refine tr_region ?_
                refine op_pure (pu_assign OT.const) rfl rfl ?_
                refine tr_nil ?_
                refine then_normal ?_
                refine tr_ret ?_
                refine then_ret ?_
                refine block_ret ?_
                refine then_ret ?_
                refine then_ret ?_
                refine block_ret ?_
                refine then_ret ?_
                exact ret_one .ret (.inl rfl) rfl () (OT.val (OT.tmp rfl) (congrArg Value.bool (by rw [hres]))) trivial (by rw [hres]; exact picks_cons 0 rfl picks_nil)
              · try simp only [decide_eq_true_eq, decide_eq_false_iff_not, Bool.or_eq_true, Bool.and_eq_true, Bool.or_eq_false_iff, Bool.and_eq_false_iff, Bool.not_eq_true', Bool.not_eq_false', ne_eq, Classical.not_not] at c45
                have hon := hr.symm.trans (pi_on hse (by omega) (by omega))
                have hs2 : (Sort.swp d1 i2 (i2 - 1)).size = d.size := swp_size.trans hs1
                refine tr_skip ?_
                refine then_normal ?_
                refine tr_seq ?_
                -- region 11
                refine tr_env (es_cons (t := 0) (OT.tmp rfl) (es_cons (t := 1) (OT.tmp rfl) (es_cons (t := 2) (OT.tmp rfl) (es_cons (t := 3) (OT.tmp rfl) (es_cons (t := 9) (OT.tmp rfl) (es_cons (t := 10) (OT.tmp rfl) es_nil)))))) ?_
                apply tr_anyW (p := 15) (Lf := fun c => cond c ([OwnI 45 (kG Z) v (d1.toList.set (i2 : Int).toNat (at' d1.toList ((i2 : Int) - 1)))]) ([OwnI 45 (kG Z) v d1.toList])) (by kernel_rfl) (m := 16) (ns := [[(0, none)], [(9, none)], [(0, none)], [(9, none)], [(49, some 3)], [(0, none)], [(9, none)], [(52, some 6)], [(51, some 5), (53, some 7)], [(54, some 8)], [(0, none)], [(9, none)], [(56, some 10), (57, some 11)], [(58, some 12)], [(46, some 0), (47, some 1)], [(55, some 9), (60, some 14)]]) (by kernel_rfl) (by kernel_rfl) (Ts := [_, _, _, _, _, _, _, _, _, _, _, _, _, _, _, _]) rfl
                case hops =>
                  refine ⟨?_, ⟨?_, ⟨?_, ⟨?_, ⟨?_, ⟨?_, ⟨?_, ⟨?_, ⟨?_, ⟨?_, ⟨?_, ⟨?_, ⟨?_, ⟨?_, ⟨?_, ⟨?_, trivial⟩⟩⟩⟩⟩⟩⟩⟩⟩⟩⟩⟩⟩⟩⟩⟩
                  · intro c hc; cases c
                    · exact ropw_of (rop_pure rfl (pu_move (OT.tmp rfl)))
                    · exact Bool.noConfusion (hc.symm.trans (by kernel_rfl : okFlag _ _ _ _ = false))
                  · intro c hc; cases c
                    · exact ropw_of (rop_pure rfl (pu_move (OT.tmp rfl)))
                    · exact Bool.noConfusion (hc.symm.trans (by kernel_rfl : okFlag _ _ _ _ = false))
                  · intro c hc; cases c
                    · exact ropw_of (rop_pure rfl (pu_move (OT.tmp rfl)))
                    · exact ropw_of (rop_pure rfl (pu_move (OT.tmp rfl)))
                  · intro c hc; cases c
                    · exact ropw_of (rop_pure rfl (pu_move (OT.tmp rfl)))
                    · exact ropw_of (rop_pure rfl (pu_move (OT.tmp rfl)))
                  · intro c hc; cases c
                    · exact ropw_of (rop_pure rfl (pu_sub' (OT.tmp rfl) OT.const (by omega)))
                    · exact ropw_of (rop_pure rfl (pu_sub' (OT.tmp rfl) OT.const (by omega)))
                  · intro c hc; cases c
                    · exact ropw_of (rop_pure rfl (pu_move (OT.tmp rfl)))
                    · exact Bool.noConfusion (hc.symm.trans (by kernel_rfl : okFlag _ _ _ _ = false))
                  · intro c hc; cases c
                    · exact ropw_of (rop_pure rfl (pu_move (OT.tmp rfl)))
                    · exact Bool.noConfusion (hc.symm.trans (by kernel_rfl : okFlag _ _ _ _ = false))
                  · intro c hc; cases c
                    · exact ropw_of (rop_pure rfl (pu_sub' (OT.tmp rfl) OT.const (by omega)))
                    · exact Bool.noConfusion (hc.symm.trans (by kernel_rfl : okFlag _ _ _ _ = false))
                  · intro c hc; cases c
                    · exact ropw_of (rop_pure rfl (pu_index_own (OT.tmp rfl) (by exact mem_at 0 rfl) (OT.tmp rfl) Try.underlying35 (show tyOk Try.prog 45 false 1 = true from by decide +kernel) (by omega) (by omega)))
                    · exact Bool.noConfusion (hc.symm.trans (by kernel_rfl : okFlag _ _ _ _ = false))
                  · intro c hc; cases c
                    · exact ropw_of (rop_pure rfl (pu_load_own0 (OT.tmp rfl) (by exact mem_at 0 rfl) (by omega) (by omega) (show tyOk Try.prog 45 false 1 = true from by decide +kernel)))
                    · exact Bool.noConfusion (hc.symm.trans (by kernel_rfl : okFlag _ _ _ _ = false))
                  · intro c hc; cases c
                    · exact ropw_of (rop_pure rfl (pu_move (OT.tmp rfl)))
                    · exact Bool.noConfusion (hc.symm.trans (by kernel_rfl : okFlag _ _ _ _ = false))
                  · intro c hc; cases c
                    · exact ropw_of (rop_pure rfl (pu_move (OT.tmp rfl)))
                    · exact Bool.noConfusion (hc.symm.trans (by kernel_rfl : okFlag _ _ _ _ = false))
                  · intro c hc; cases c
                    · exact ropw_of (rop_pure rfl (pu_index_own (OT.tmp rfl) (by exact mem_at 0 rfl) (OT.tmp rfl) Try.underlying35 (show tyOk Try.prog 45 false 1 = true from by decide +kernel) (by omega) (by omega)))
                    · exact Bool.noConfusion (hc.symm.trans (by kernel_rfl : okFlag _ _ _ _ = false))
                  · intro c hc; cases c
                    · exact ropw_of (rop_pure rfl (pu_load_own0 (OT.tmp rfl) (by exact mem_at 0 rfl) (by omega) (by omega) (show tyOk Try.prog 45 false 1 = true from by decide +kernel)))
                    · exact Bool.noConfusion (hc.symm.trans (by kernel_rfl : okFlag _ _ _ _ = false))
                  · intro c hc; cases c
                    · exact ropw_of (rop_pure rfl (pu_index_own (OT.tmp rfl) (by exact mem_at 0 rfl) (OT.tmp rfl) Try.underlying35 (show tyOk Try.prog 45 false 1 = true from by decide +kernel) (by omega) (by omega)))
                    · exact Bool.noConfusion (hc.symm.trans (by kernel_rfl : okFlag _ _ _ _ = false))
                  · intro c hc; cases c
                    · exact ropw_acts rfl (acts_store_own0 (OT.tmp rfl) (OT.tmp rfl) (by exact perm_at 0 rfl) (by omega) (by omega) (show tyOk Try.prog 45 false 1 = true from by decide +kernel)) (by exact perm_at 0 rfl) (fun _ => (by exact perm_at 0 rfl)) (fun _ _ _ _ h => h)
                    · exact Bool.noConfusion (hc.symm.trans (by kernel_rfl : okFlag _ _ _ _ = false))
                case h =>
                  refine op_pure (pu_index_own (OT.tmp rfl) (by exact mem_at 0 rfl) (OT.tmp rfl) Try.underlying35 (show tyOk Try.prog 45 false 1 = true from by decide +kernel) (by omega) (by (simp; omega))) rfl rfl ?_
                  refine op_acts (acts_store_own0 (OT.tmp rfl) (OT.tmp rfl) (by exact perm_at 0 rfl) (by omega) (by (simp; omega)) (show tyOk Try.prog 45 false 1 = true from by decide +kernel)) (by exact perm_at 0 rfl) rfl rfl (fun _ _ => ?_)
                  refine tr_nil ?_
                  refine then_normal ?_
                  refine tr_seq ?_
                  refine tr_seq ?_
                  -- region 12
                  refine tr_env (es_cons (t := 0) (OT.tmp rfl) (es_cons (t := 1) (OT.tmp rfl) (es_cons (t := 2) (OT.tmp rfl) (es_cons (t := 3) (OT.tmp rfl) (es_cons (t := 9) (OT.tmp rfl) (es_cons (t := 10) (OT.tmp rfl) es_nil)))))) ?_
                  rw [sw1 (by omega) (by omega)]
                  refine tr_region ?_
                  refine op_pure (pu_move (OT.tmp rfl)) rfl rfl ?_
                  refine op_pure (pu_move (OT.tmp rfl)) rfl rfl ?_
                  refine op_pure (pu_sub' (OT.tmp rfl) (OT.tmp rfl) (by omega)) rfl rfl ?_
                  refine op_pure (pu_geq (OT.tmp rfl) OT.const) rfl rfl ?_
                  refine tr_nil ?_
                  refine then_normal ?_
                  refine tr_cond (OT.tmp rfl) (fun c65 => ?_) (fun c65 => ?_)
                  · try simp only [decide_eq_true_eq, decide_eq_false_iff_not, Bool.or_eq_true, Bool.and_eq_true, Bool.or_eq_false_iff, Bool.and_eq_false_iff, Bool.not_eq_true', Bool.not_eq_false', ne_eq, Classical.not_not] at c65
                    refine tr_seq ?_
                    -- region 13
                    refine tr_env (es_cons (t := 0) (OT.tmp rfl) (es_cons (t := 1) (OT.tmp rfl) (es_cons (t := 2) (OT.tmp rfl) (es_cons (t := 3) (OT.tmp rfl) (es_cons (t := 9) (OT.tmp rfl) (es_cons (t := 10) (OT.tmp rfl) es_nil)))))) ?_
                    refine tr_region ?_
                    refine op_pure (pu_move (OT.tmp rfl)) rfl rfl ?_
                    refine op_pure (pu_sub' (OT.tmp rfl) OT.const (by omega)) rfl rfl ?_
                    refine op_pure (pu_assign (OT.tmp rfl)) rfl rfl ?_
                    refine tr_nil ?_
                    refine then_normal ?_
                    refine tr_block ?_
                    refine tr_loopK (σ := Nat × DA) (es_cons (t := 0) (OT.tmp rfl) (es_cons (t := 1) (OT.tmp rfl) (es_cons (t := 2) (OT.tmp rfl) (es_cons (t := 3) (OT.tmp rfl) (es_cons (t := 9) (OT.tmp rfl) (es_cons (t := 10) (OT.tmp rfl) es_nil)))))) (fun s => [(11, I64 (s.1 : Int))]) (fun s => [OwnI 45 (kG Z) v s.2.toList]) (fun s => s.1 ≤ i2 - 1 ∧ s.2.size = d.size ∧ Sort.shiftDown (ltc c) s.1 s.2 = Sort.shiftDown (ltc c) (i2 - 1) (Sort.swp d1 i2 (i2 - 1))) (fun s => s.1) (i2 - 1, Sort.swp d1 i2 (i2 - 1)) ⟨Nat.le_refl _, hs2, rfl⟩ ?_ (own_picks (by repeat (first | exact picks_nil | refine picks_cons 0 rfl ?_ | refine picks_cons 1 rfl ?_ | refine picks_cons 2 rfl ?_ | refine picks_cons 3 rfl ?_ | refine picks_cons 4 rfl ?_ | refine picks_cons 5 rfl ?_ | refine picks_cons 6 rfl ?_))) ?_
                    · exact (es_cons (t := 11) (by exact OT.val (OT.tmp rfl) (congrArg (Value.int _) (by omega))) es_nil)
                    · rintro ⟨j, d3⟩ ⟨hj, hs3, hsd⟩
                      dsimp only at hj hs3 hsd ⊢
                      have hl3 : d3.toList.length = d3.size := Array.length_toList
                      refine tr_seq ?_
                      refine tr_seq ?_
                      -- region 14
                      refine tr_env (es_cons (t := 0) (OT.tmp rfl) (es_cons (t := 1) (OT.tmp rfl) (es_cons (t := 2) (OT.tmp rfl) (es_cons (t := 3) (OT.tmp rfl) (es_cons (t := 9) (OT.tmp rfl) (es_cons (t := 10) (OT.tmp rfl) (es_cons (t := 11) (OT.tmp rfl) es_nil))))))) ?_
                      refine tr_region ?_
                      refine op_pure (pu_move (OT.tmp rfl)) rfl rfl ?_
                      refine op_pure (pu_geq (OT.tmp rfl) OT.const) rfl rfl ?_
                      refine tr_nil ?_
                      refine then_normal ?_
                      refine tr_cond (OT.tmp rfl) (fun c69 => ?_) (fun c69 => ?_)
                      · try simp only [decide_eq_true_eq, decide_eq_false_iff_not, Bool.or_eq_true, Bool.and_eq_true, Bool.or_eq_false_iff, Bool.and_eq_false_iff, Bool.not_eq_true', Bool.not_eq_false', ne_eq, Classical.not_not] at c69
                        refine tr_skip ?_
                        refine then_normal ?_
                        refine tr_seq ?_
                        refine tr_block ?_
                        refine tr_seq ?_
                        refine tr_seq ?_
                        -- region 16
                        refine tr_env (es_cons (t := 0) (OT.tmp rfl) (es_cons (t := 1) (OT.tmp rfl) (es_cons (t := 2) (OT.tmp rfl) (es_cons (t := 3) (OT.tmp rfl) (es_cons (t := 9) (OT.tmp rfl) (es_cons (t := 10) (OT.tmp rfl) (es_cons (t := 11) (OT.tmp rfl) es_nil))))))) ?_
                        apply tr_any (m := 10) (ns := [[(3, none)], [(0, none)], [(11, none)], [(73, some 1), (74, some 2)], [(75, some 3)], [(0, none)], [(11, none)], [(78, some 6)], [(77, some 5), (79, some 7)], [(80, some 8)]]) (by kernel_rfl) (by kernel_rfl) (Ts := [_, _, _, _, _, _, _, _, _, _]) rfl
                        case hops =>
                          refine ⟨?_, ⟨?_, ⟨?_, ⟨?_, ⟨?_, ⟨?_, ⟨?_, ⟨?_, ⟨?_, ⟨?_, trivial⟩⟩⟩⟩⟩⟩⟩⟩⟩⟩
                          · exact rop_pure rfl (pu_move (OT.tmp rfl))
                          · exact rop_pure rfl (pu_move (OT.tmp rfl))
                          · exact rop_pure rfl (pu_move (OT.tmp rfl))
                          · exact rop_pure rfl (pu_index_own (OT.tmp rfl) (by exact mem_at 0 rfl) (OT.tmp rfl) Try.underlying35 (show tyOk Try.prog 45 false 1 = true from by decide +kernel) (by omega) (by omega))
                          · exact rop_pure rfl (pu_load_own0 (OT.tmp rfl) (by exact mem_at 0 rfl) (by omega) (by omega) (show tyOk Try.prog 45 false 1 = true from by decide +kernel))
                          · exact rop_pure rfl (pu_move (OT.tmp rfl))
                          · exact rop_pure rfl (pu_move (OT.tmp rfl))
                          · exact rop_pure rfl (pu_sub' (OT.tmp rfl) OT.const (by omega))
                          · exact rop_pure rfl (pu_index_own (OT.tmp rfl) (by exact mem_at 0 rfl) (OT.tmp rfl) Try.underlying35 (show tyOk Try.prog 45 false 1 = true from by decide +kernel) (by omega) (by omega))
                          · exact rop_pure rfl (pu_load_own0 (OT.tmp rfl) (by exact mem_at 0 rfl) (by omega) (by omega) (show tyOk Try.prog 45 false 1 = true from by decide +kernel))
                        case h =>
                          refine op_acts (acts_callv (OT.tmp rfl) (hfv _ _) (OTs.cons (OT.tmp rfl) (OTs.cons (OT.tmp rfl) OTs.nil)) (List.Perm.refl _)) (List.Perm.refl _) rfl rfl (fun _ _ => ?_)
                          refine op_pure (pu_lss (OT.tmp rfl) OT.const) rfl rfl ?_
                          refine op_pure (pu_not (OT.tmp rfl)) rfl rfl ?_
                          refine tr_nil ?_
                          refine then_normal ?_
                          refine tr_cond (OT.tmp rfl) (fun c84 => ?_) (fun c84 => ?_)
                          · try simp only [decide_eq_true_eq, decide_eq_false_iff_not, Bool.or_eq_true, Bool.and_eq_true, Bool.or_eq_false_iff, Bool.and_eq_false_iff, Bool.not_eq_true', Bool.not_eq_false', ne_eq, Classical.not_not] at c84
                            have hd4 := hsd.symm.trans (sd_end (c := c) (d := d3) (j := j) (fun h => by rw [ltc_at (by omega) (by omega), show ((j - 1 : Nat) : Int) = (j : Int) - 1 from by omega]; simpa using c84))
                            rw [if_pos (by omega : i2 - a ≥ 2), hd4] at hon
                            refine tr_exit ?_
                            refine then_exit ?_
                            refine block_pass rfl ?_
                            refine then_exit ?_
                            refine then_exit ?_
                            refine block_hit ?_
                            refine then_normal ?_
                            refine tr_seq ?_
                            -- region 18
                            refine tr_env (es_cons (t := 0) (OT.tmp rfl) (es_cons (t := 1) (OT.tmp rfl) (es_cons (t := 2) (OT.tmp rfl) (es_cons (t := 3) (OT.tmp rfl) (es_cons (t := 9) (OT.tmp rfl) (es_cons (t := 10) (OT.tmp rfl) es_nil)))))) ?_
                            refine tr_region ?_
                            refine op_pure (pu_move (OT.tmp rfl)) rfl rfl ?_
                            refine op_pure (pu_move (OT.tmp rfl)) rfl rfl ?_
                            refine op_pure (pu_sub' (OT.tmp rfl) (OT.tmp rfl) (by omega)) rfl rfl ?_
                            refine op_pure (pu_geq (OT.tmp rfl) OT.const) rfl rfl ?_
                            refine tr_nil ?_
                            refine then_normal ?_
                            refine tr_cond (OT.tmp rfl) (fun c104 => ?_) (fun c104 => ?_)
                            · try simp only [decide_eq_true_eq, decide_eq_false_iff_not, Bool.or_eq_true, Bool.and_eq_true, Bool.or_eq_false_iff, Bool.and_eq_false_iff, Bool.not_eq_true', Bool.not_eq_false', ne_eq, Classical.not_not] at c104
                              rw [if_pos (by omega : b - i2 ≥ 2)] at hon
                              refine tr_seq ?_
                              -- region 19
                              refine tr_env (es_cons (t := 0) (OT.tmp rfl) (es_cons (t := 1) (OT.tmp rfl) (es_cons (t := 2) (OT.tmp rfl) (es_cons (t := 3) (OT.tmp rfl) (es_cons (t := 9) (OT.tmp rfl) (es_cons (t := 10) (OT.tmp rfl) es_nil)))))) ?_
                              refine tr_region ?_
                              refine op_pure (pu_move (OT.tmp rfl)) rfl rfl ?_
                              refine op_pure (pu_add' (OT.tmp rfl) OT.const (by omega)) rfl rfl ?_
                              refine op_pure (pu_assign (OT.tmp rfl)) rfl rfl ?_
                              refine tr_nil ?_
                              refine then_normal ?_
                              refine tr_block ?_
                              refine tr_loopK (σ := Nat × DA) (es_cons (t := 0) (OT.tmp rfl) (es_cons (t := 1) (OT.tmp rfl) (es_cons (t := 2) (OT.tmp rfl) (es_cons (t := 3) (OT.tmp rfl) (es_cons (t := 9) (OT.tmp rfl) (es_cons (t := 10) (OT.tmp rfl) es_nil)))))) (fun s => [(12, I64 (s.1 : Int))]) (fun s => [OwnI 45 (kG Z) v s.2.toList]) (fun s => i2 + 1 ≤ s.1 ∧ s.2.size = d.size ∧ Sort.shiftUp (ltc c) b s.1 s.2 = Sort.shiftUp (ltc c) b (i2 + 1) d3) (fun s => b - s.1) (i2 + 1, d3) ⟨Nat.le_refl _, hs3, rfl⟩ ?_ (own_picks (by repeat (first | exact picks_nil | refine picks_cons 0 rfl ?_ | refine picks_cons 1 rfl ?_ | refine picks_cons 2 rfl ?_ | refine picks_cons 3 rfl ?_ | refine picks_cons 4 rfl ?_ | refine picks_cons 5 rfl ?_ | refine picks_cons 6 rfl ?_))) ?_
                              · exact (es_cons (t := 12) (by exact OT.tmp rfl) es_nil)
                              · rintro ⟨k, d5⟩ ⟨hk, hs5, hsu⟩
                                dsimp only at hk hs5 hsu ⊢
                                have hl5 : d5.toList.length = d5.size := Array.length_toList
                                refine tr_seq ?_
                                refine tr_seq ?_
                                -- region 20
                                refine tr_env (es_cons (t := 0) (OT.tmp rfl) (es_cons (t := 1) (OT.tmp rfl) (es_cons (t := 2) (OT.tmp rfl) (es_cons (t := 3) (OT.tmp rfl) (es_cons (t := 9) (OT.tmp rfl) (es_cons (t := 10) (OT.tmp rfl) (es_cons (t := 12) (OT.tmp rfl) es_nil))))))) ?_
                                refine tr_region ?_
                                refine op_pure (pu_move (OT.tmp rfl)) rfl rfl ?_
                                refine op_pure (pu_move (OT.tmp rfl)) rfl rfl ?_
                                refine op_pure (pu_lss (OT.tmp rfl) (OT.tmp rfl)) rfl rfl ?_
                                refine tr_nil ?_
                                refine then_normal ?_
                                refine tr_cond (OT.tmp rfl) (fun c109 => ?_) (fun c109 => ?_)
                                · try simp only [decide_eq_true_eq, decide_eq_false_iff_not, Bool.or_eq_true, Bool.and_eq_true, Bool.or_eq_false_iff, Bool.and_eq_false_iff, Bool.not_eq_true', Bool.not_eq_false', ne_eq, Classical.not_not] at c109
                                  refine tr_skip ?_
                                  refine then_normal ?_
                                  refine tr_seq ?_
                                  refine tr_block ?_
                                  refine tr_seq ?_
                                  refine tr_seq ?_
                                  -- region 22
                                  refine tr_env (es_cons (t := 0) (OT.tmp rfl) (es_cons (t := 1) (OT.tmp rfl) (es_cons (t := 2) (OT.tmp rfl) (es_cons (t := 3) (OT.tmp rfl) (es_cons (t := 9) (OT.tmp rfl) (es_cons (t := 10) (OT.tmp rfl) (es_cons (t := 12) (OT.tmp rfl) es_nil))))))) ?_
                                  apply tr_any (m := 10) (ns := [[(3, none)], [(0, none)], [(12, none)], [(113, some 1), (114, some 2)], [(115, some 3)], [(0, none)], [(12, none)], [(118, some 6)], [(117, some 5), (119, some 7)], [(120, some 8)]]) (by kernel_rfl) (by kernel_rfl) (Ts := [_, _, _, _, _, _, _, _, _, _]) rfl
                                  case hops =>
                                    refine ⟨?_, ⟨?_, ⟨?_, ⟨?_, ⟨?_, ⟨?_, ⟨?_, ⟨?_, ⟨?_, ⟨?_, trivial⟩⟩⟩⟩⟩⟩⟩⟩⟩⟩
                                    · exact rop_pure rfl (pu_move (OT.tmp rfl))
                                    · exact rop_pure rfl (pu_move (OT.tmp rfl))
                                    · exact rop_pure rfl (pu_move (OT.tmp rfl))
                                    · exact rop_pure rfl (pu_index_own (OT.tmp rfl) (by exact mem_at 0 rfl) (OT.tmp rfl) Try.underlying35 (show tyOk Try.prog 45 false 1 = true from by decide +kernel) (by omega) (by omega))
                                    · exact rop_pure rfl (pu_load_own0 (OT.tmp rfl) (by exact mem_at 0 rfl) (by omega) (by omega) (show tyOk Try.prog 45 false 1 = true from by decide +kernel))
                                    · exact rop_pure rfl (pu_move (OT.tmp rfl))
                                    · exact rop_pure rfl (pu_move (OT.tmp rfl))
                                    · exact rop_pure rfl (pu_sub' (OT.tmp rfl) OT.const (by omega))
                                    · exact rop_pure rfl (pu_index_own (OT.tmp rfl) (by exact mem_at 0 rfl) (OT.tmp rfl) Try.underlying35 (show tyOk Try.prog 45 false 1 = true from by decide +kernel) (by omega) (by omega))
                                    · exact rop_pure rfl (pu_load_own0 (OT.tmp rfl) (by exact mem_at 0 rfl) (by omega) (by omega) (show tyOk Try.prog 45 false 1 = true from by decide +kernel))
                                  case h =>
                                    refine op_acts (acts_callv (OT.tmp rfl) (hfv _ _) (OTs.cons (OT.tmp rfl) (OTs.cons (OT.tmp rfl) OTs.nil)) (List.Perm.refl _)) (List.Perm.refl _) rfl rfl (fun _ _ => ?_)
                                    refine op_pure (pu_lss (OT.tmp rfl) OT.const) rfl rfl ?_
                                    refine op_pure (pu_not (OT.tmp rfl)) rfl rfl ?_
                                    refine tr_nil ?_
                                    refine then_normal ?_
                                    refine tr_cond (OT.tmp rfl) (fun c124 => ?_) (fun c124 => ?_)
                                    · try simp only [decide_eq_true_eq, decide_eq_false_iff_not, Bool.or_eq_true, Bool.and_eq_true, Bool.or_eq_false_iff, Bool.and_eq_false_iff, Bool.not_eq_true', Bool.not_eq_false', ne_eq, Classical.not_not] at c124
                                      have hd6 := hsu.symm.trans (su_end (c := c) (d := d5) (b := b) (j := k) (fun h => by rw [ltc_at (by omega) (by omega), show ((k - 1 : Nat) : Int) = (k : Int) - 1 from by omega]; simpa using c124))
                                      rw [hd6] at hon
                                      refine tr_exit ?_
                                      refine then_exit ?_
                                      refine block_pass rfl ?_
                                      refine then_exit ?_
                                      refine then_exit ?_
                                      refine block_hit ?_
                                      refine block_normal ?_
                                      refine then_normal ?_
                                      -- region 4
                                      refine tr_env (es_cons (t := 0) (OT.tmp rfl) (es_cons (t := 1) (OT.tmp rfl) (es_cons (t := 2) (OT.tmp rfl) (es_cons (t := 3) (OT.tmp rfl) (es_cons (t := 9) (OT.tmp rfl) (es_cons (t := 10) (OT.tmp rfl) es_nil)))))) ?_
                                      refine tr_region ?_
                                      refine op_pure (pu_move (OT.tmp rfl)) rfl rfl ?_
                                      refine op_pure (pu_add' (OT.tmp rfl) OT.const (by omega)) rfl rfl ?_
                                      refine op_pure (pu_assign (OT.tmp rfl)) rfl rfl ?_
                                      refine tr_nil ?_
                                      refine then_normal ?_
                                      exact tr_again (s, i2, d5) ⟨by show s ≤ 5; omega, by show a + 1 ≤ i2; omega, by show i2 ≤ b; omega, hs5, hon.symm⟩ (by omega) (es_append (es_cons (t := 10) (by exact OT.val (OT.tmp rfl) (congrArg (Value.int _) (by omega))) (es_cons (t := 9) (by exact OT.tmp rfl) es_nil)) (es_cons (t := 0) (OT.tmp rfl) (es_cons (t := 1) (OT.tmp rfl) (es_cons (t := 2) (OT.tmp rfl) (es_cons (t := 3) (OT.tmp rfl) es_nil))))) (own_picks (by repeat (first | exact picks_nil | refine picks_cons 0 rfl ?_ | refine picks_cons 1 rfl ?_ | refine picks_cons 2 rfl ?_ | refine picks_cons 3 rfl ?_ | refine picks_cons 4 rfl ?_ | refine picks_cons 5 rfl ?_ | refine picks_cons 6 rfl ?_)))
                                    · try simp only [decide_eq_true_eq, decide_eq_false_iff_not, Bool.or_eq_true, Bool.and_eq_true, Bool.or_eq_false_iff, Bool.and_eq_false_iff, Bool.not_eq_true', Bool.not_eq_false', ne_eq, Classical.not_not] at c124
                                      have hnx := (su_step (c := c) (d := d5) (b := b) (j := k) (by omega) (by rw [ltc_at (by omega) (by omega), show ((k - 1 : Nat) : Int) = (k : Int) - 1 from by omega]; simpa using c124)).symm.trans hsu
                                      refine tr_skip ?_
                                      refine then_normal ?_
                                      -- region 23
                                      refine tr_env (es_cons (t := 0) (OT.tmp rfl) (es_cons (t := 1) (OT.tmp rfl) (es_cons (t := 2) (OT.tmp rfl) (es_cons (t := 3) (OT.tmp rfl) (es_cons (t := 9) (OT.tmp rfl) (es_cons (t := 10) (OT.tmp rfl) (es_cons (t := 12) (OT.tmp rfl) es_nil))))))) ?_
                                      apply tr_anyW (p := 15) (Lf := fun c => cond c ([OwnI 45 (kG Z) v (d5.toList.set (k : Int).toNat (at' d5.toList ((k : Int) - 1)))]) ([OwnI 45 (kG Z) v d5.toList])) (by kernel_rfl) (m := 16) (ns := [[(0, none)], [(12, none)], [(0, none)], [(12, none)], [(128, some 3)], [(0, none)], [(12, none)], [(131, some 6)], [(130, some 5), (132, some 7)], [(133, some 8)], [(0, none)], [(12, none)], [(135, some 10), (136, some 11)], [(137, some 12)], [(125, some 0), (126, some 1)], [(134, some 9), (139, some 14)]]) (by kernel_rfl) (by kernel_rfl) (Ts := [_, _, _, _, _, _, _, _, _, _, _, _, _, _, _, _]) rfl
                                      case hops =>
                                        refine ⟨?_, ⟨?_, ⟨?_, ⟨?_, ⟨?_, ⟨?_, ⟨?_, ⟨?_, ⟨?_, ⟨?_, ⟨?_, ⟨?_, ⟨?_, ⟨?_, ⟨?_, ⟨?_, trivial⟩⟩⟩⟩⟩⟩⟩⟩⟩⟩⟩⟩⟩⟩⟩⟩
                                        · intro c hc; cases c
                                          · exact ropw_of (rop_pure rfl (pu_move (OT.tmp rfl)))
                                          · exact Bool.noConfusion (hc.symm.trans (by kernel_rfl : okFlag _ _ _ _ = false))
                                        · intro c hc; cases c
                                          · exact ropw_of (rop_pure rfl (pu_move (OT.tmp rfl)))
                                          · exact Bool.noConfusion (hc.symm.trans (by kernel_rfl : okFlag _ _ _ _ = false))
                                        · intro c hc; cases c
                                          · exact ropw_of (rop_pure rfl (pu_move (OT.tmp rfl)))
                                          · exact ropw_of (rop_pure rfl (pu_move (OT.tmp rfl)))
                                        · intro c hc; cases c
                                          · exact ropw_of (rop_pure rfl (pu_move (OT.tmp rfl)))
                                          · exact ropw_of (rop_pure rfl (pu_move (OT.tmp rfl)))
                                        · intro c hc; cases c
                                          · exact ropw_of (rop_pure rfl (pu_sub' (OT.tmp rfl) OT.const (by omega)))
                                          · exact ropw_of (rop_pure rfl (pu_sub' (OT.tmp rfl) OT.const (by omega)))
                                        · intro c hc; cases c
                                          · exact ropw_of (rop_pure rfl (pu_move (OT.tmp rfl)))
                                          · exact Bool.noConfusion (hc.symm.trans (by kernel_rfl : okFlag _ _ _ _ = false))
                                        · intro c hc; cases c
                                          · exact ropw_of (rop_pure rfl (pu_move (OT.tmp rfl)))
                                          · exact Bool.noConfusion (hc.symm.trans (by kernel_rfl : okFlag _ _ _ _ = false))
                                        · intro c hc; cases c
                                          · exact ropw_of (rop_pure rfl (pu_sub' (OT.tmp rfl) OT.const (by omega)))
                                          · exact Bool.noConfusion (hc.symm.trans (by kernel_rfl : okFlag _ _ _ _ = false))
                                        · intro c hc; cases c
                                          · exact ropw_of (rop_pure rfl (pu_index_own (OT.tmp rfl) (by exact mem_at 0 rfl) (OT.tmp rfl) Try.underlying35 (show tyOk Try.prog 45 false 1 = true from by decide +kernel) (by omega) (by omega)))
                                          · exact Bool.noConfusion (hc.symm.trans (by kernel_rfl : okFlag _ _ _ _ = false))
                                        · intro c hc; cases c
                                          · exact ropw_of (rop_pure rfl (pu_load_own0 (OT.tmp rfl) (by exact mem_at 0 rfl) (by omega) (by omega) (show tyOk Try.prog 45 false 1 = true from by decide +kernel)))
                                          · exact Bool.noConfusion (hc.symm.trans (by kernel_rfl : okFlag _ _ _ _ = false))
                                        · intro c hc; cases c
                                          · exact ropw_of (rop_pure rfl (pu_move (OT.tmp rfl)))
                                          · exact Bool.noConfusion (hc.symm.trans (by kernel_rfl : okFlag _ _ _ _ = false))
                                        · intro c hc; cases c
                                          · exact ropw_of (rop_pure rfl (pu_move (OT.tmp rfl)))
                                          · exact Bool.noConfusion (hc.symm.trans (by kernel_rfl : okFlag _ _ _ _ = false))
                                        · intro c hc; cases c
                                          · exact ropw_of (rop_pure rfl (pu_index_own (OT.tmp rfl) (by exact mem_at 0 rfl) (OT.tmp rfl) Try.underlying35 (show tyOk Try.prog 45 false 1 = true from by decide +kernel) (by omega) (by omega)))
                                          · exact Bool.noConfusion (hc.symm.trans (by kernel_rfl : okFlag _ _ _ _ = false))
                                        · intro c hc; cases c
                                          · exact ropw_of (rop_pure rfl (pu_load_own0 (OT.tmp rfl) (by exact mem_at 0 rfl) (by omega) (by omega) (show tyOk Try.prog 45 false 1 = true from by decide +kernel)))
                                          · exact Bool.noConfusion (hc.symm.trans (by kernel_rfl : okFlag _ _ _ _ = false))
                                        · intro c hc; cases c
                                          · exact ropw_of (rop_pure rfl (pu_index_own (OT.tmp rfl) (by exact mem_at 0 rfl) (OT.tmp rfl) Try.underlying35 (show tyOk Try.prog 45 false 1 = true from by decide +kernel) (by omega) (by omega)))
                                          · exact Bool.noConfusion (hc.symm.trans (by kernel_rfl : okFlag _ _ _ _ = false))
                                        · intro c hc; cases c
                                          · exact ropw_acts rfl (acts_store_own0 (OT.tmp rfl) (OT.tmp rfl) (by exact perm_at 0 rfl) (by omega) (by omega) (show tyOk Try.prog 45 false 1 = true from by decide +kernel)) (by exact perm_at 0 rfl) (fun _ => (by exact perm_at 0 rfl)) (fun _ _ _ _ h => h)
                                          · exact Bool.noConfusion (hc.symm.trans (by kernel_rfl : okFlag _ _ _ _ = false))
                                      case h =>
                                        refine op_pure (pu_index_own (OT.tmp rfl) (by exact mem_at 0 rfl) (OT.tmp rfl) Try.underlying35 (show tyOk Try.prog 45 false 1 = true from by decide +kernel) (by omega) (by (simp; omega))) rfl rfl ?_
                                        refine op_acts (acts_store_own0 (OT.tmp rfl) (OT.tmp rfl) (by exact perm_at 0 rfl) (by omega) (by (simp; omega)) (show tyOk Try.prog 45 false 1 = true from by decide +kernel)) (by exact perm_at 0 rfl) rfl rfl (fun _ _ => ?_)
                                        refine tr_nil ?_
                                        refine block_normal ?_
                                        refine then_normal ?_
                                        -- region 21
                                        refine tr_env (es_cons (t := 0) (OT.tmp rfl) (es_cons (t := 1) (OT.tmp rfl) (es_cons (t := 2) (OT.tmp rfl) (es_cons (t := 3) (OT.tmp rfl) (es_cons (t := 9) (OT.tmp rfl) (es_cons (t := 10) (OT.tmp rfl) (es_cons (t := 12) (OT.tmp rfl) es_nil))))))) ?_
                                        rw [sw1 (by omega) (by omega)]
                                        refine tr_region ?_
                                        refine op_pure (pu_move (OT.tmp rfl)) rfl rfl ?_
                                        refine op_pure (pu_add' (OT.tmp rfl) OT.const (by omega)) rfl rfl ?_
                                        refine op_pure (pu_assign (OT.tmp rfl)) rfl rfl ?_
                                        refine tr_nil ?_
                                        refine then_normal ?_
                                        exact tr_again (k + 1, Sort.swp d5 k (k - 1)) ⟨by show i2 + 1 ≤ k + 1; omega, swp_size.trans hs5, hnx⟩ (by show b - (k + 1) < b - k; omega) (es_append (es_cons (t := 12) (by exact OT.tmp rfl) es_nil) (es_cons (t := 0) (OT.tmp rfl) (es_cons (t := 1) (OT.tmp rfl) (es_cons (t := 2) (OT.tmp rfl) (es_cons (t := 3) (OT.tmp rfl) (es_cons (t := 9) (OT.tmp rfl) (es_cons (t := 10) (OT.tmp rfl) es_nil))))))) (own_picks (by repeat (first | exact picks_nil | refine picks_cons 0 rfl ?_ | refine picks_cons 1 rfl ?_ | refine picks_cons 2 rfl ?_ | refine picks_cons 3 rfl ?_ | refine picks_cons 4 rfl ?_ | refine picks_cons 5 rfl ?_ | refine picks_cons 6 rfl ?_)))
                                · try simp only [decide_eq_true_eq, decide_eq_false_iff_not, Bool.or_eq_true, Bool.and_eq_true, Bool.or_eq_false_iff, Bool.and_eq_false_iff, Bool.not_eq_true', Bool.not_eq_false', ne_eq, Classical.not_not] at c109
                                  have hd6 := hsu.symm.trans (su_end (c := c) (d := d5) (b := b) (j := k) (fun h => by omega))
                                  rw [hd6] at hon
                                  refine tr_exit ?_
                                  refine then_exit ?_
                                  refine then_exit ?_
                                  refine block_hit ?_
                                  refine block_normal ?_
                                  refine then_normal ?_
                                  -- region 4
                                  refine tr_env (es_cons (t := 0) (OT.tmp rfl) (es_cons (t := 1) (OT.tmp rfl) (es_cons (t := 2) (OT.tmp rfl) (es_cons (t := 3) (OT.tmp rfl) (es_cons (t := 9) (OT.tmp rfl) (es_cons (t := 10) (OT.tmp rfl) es_nil)))))) ?_
                                  refine tr_region ?_
                                  refine op_pure (pu_move (OT.tmp rfl)) rfl rfl ?_
                                  refine op_pure (pu_add' (OT.tmp rfl) OT.const (by omega)) rfl rfl ?_
                                  refine op_pure (pu_assign (OT.tmp rfl)) rfl rfl ?_
                                  refine tr_nil ?_
                                  refine then_normal ?_
                                  exact tr_again (s, i2, d5) ⟨by show s ≤ 5; omega, by show a + 1 ≤ i2; omega, by show i2 ≤ b; omega, hs5, hon.symm⟩ (by omega) (es_append (es_cons (t := 10) (by exact OT.val (OT.tmp rfl) (congrArg (Value.int _) (by omega))) (es_cons (t := 9) (by exact OT.tmp rfl) es_nil)) (es_cons (t := 0) (OT.tmp rfl) (es_cons (t := 1) (OT.tmp rfl) (es_cons (t := 2) (OT.tmp rfl) (es_cons (t := 3) (OT.tmp rfl) es_nil))))) (own_picks (by repeat (first | exact picks_nil | refine picks_cons 0 rfl ?_ | refine picks_cons 1 rfl ?_ | refine picks_cons 2 rfl ?_ | refine picks_cons 3 rfl ?_ | refine picks_cons 4 rfl ?_ | refine picks_cons 5 rfl ?_ | refine picks_cons 6 rfl ?_)))
                            · try simp only [decide_eq_true_eq, decide_eq_false_iff_not, Bool.or_eq_true, Bool.and_eq_true, Bool.or_eq_false_iff, Bool.and_eq_false_iff, Bool.not_eq_true', Bool.not_eq_false', ne_eq, Classical.not_not] at c104
                              rw [if_neg (by omega : ¬ b - i2 ≥ 2)] at hon
                              refine tr_skip ?_
                              refine block_normal ?_
                              refine then_normal ?_
                              -- region 4
                              refine tr_env (es_cons (t := 0) (OT.tmp rfl) (es_cons (t := 1) (OT.tmp rfl) (es_cons (t := 2) (OT.tmp rfl) (es_cons (t := 3) (OT.tmp rfl) (es_cons (t := 9) (OT.tmp rfl) (es_cons (t := 10) (OT.tmp rfl) es_nil)))))) ?_
                              refine tr_region ?_
                              refine op_pure (pu_move (OT.tmp rfl)) rfl rfl ?_
                              refine op_pure (pu_add' (OT.tmp rfl) OT.const (by omega)) rfl rfl ?_
                              refine op_pure (pu_assign (OT.tmp rfl)) rfl rfl ?_
                              refine tr_nil ?_
                              refine then_normal ?_
                              exact tr_again (s, i2, d3) ⟨by show s ≤ 5; omega, by show a + 1 ≤ i2; omega, by show i2 ≤ b; omega, hs3, hon.symm⟩ (by omega) (es_append (es_cons (t := 10) (by exact OT.val (OT.tmp rfl) (congrArg (Value.int _) (by omega))) (es_cons (t := 9) (by exact OT.tmp rfl) es_nil)) (es_cons (t := 0) (OT.tmp rfl) (es_cons (t := 1) (OT.tmp rfl) (es_cons (t := 2) (OT.tmp rfl) (es_cons (t := 3) (OT.tmp rfl) es_nil))))) (own_picks (by repeat (first | exact picks_nil | refine picks_cons 0 rfl ?_ | refine picks_cons 1 rfl ?_ | refine picks_cons 2 rfl ?_ | refine picks_cons 3 rfl ?_ | refine picks_cons 4 rfl ?_ | refine picks_cons 5 rfl ?_ | refine picks_cons 6 rfl ?_)))
                          · try simp only [decide_eq_true_eq, decide_eq_false_iff_not, Bool.or_eq_true, Bool.and_eq_true, Bool.or_eq_false_iff, Bool.and_eq_false_iff, Bool.not_eq_true', Bool.not_eq_false', ne_eq, Classical.not_not] at c84
                            have hnx := (sd_step (c := c) (d := d3) (j := j) (by omega) (by rw [ltc_at (by omega) (by omega), show ((j - 1 : Nat) : Int) = (j : Int) - 1 from by omega]; simpa using c84)).symm.trans hsd
                            refine tr_skip ?_
                            refine then_normal ?_
                            -- region 17
                            refine tr_env (es_cons (t := 0) (OT.tmp rfl) (es_cons (t := 1) (OT.tmp rfl) (es_cons (t := 2) (OT.tmp rfl) (es_cons (t := 3) (OT.tmp rfl) (es_cons (t := 9) (OT.tmp rfl) (es_cons (t := 10) (OT.tmp rfl) (es_cons (t := 11) (OT.tmp rfl) es_nil))))))) ?_
                            apply tr_anyW (p := 15) (Lf := fun c => cond c ([OwnI 45 (kG Z) v (d3.toList.set (j : Int).toNat (at' d3.toList ((j : Int) - 1)))]) ([OwnI 45 (kG Z) v d3.toList])) (by kernel_rfl) (m := 16) (ns := [[(0, none)], [(11, none)], [(0, none)], [(11, none)], [(88, some 3)], [(0, none)], [(11, none)], [(91, some 6)], [(90, some 5), (92, some 7)], [(93, some 8)], [(0, none)], [(11, none)], [(95, some 10), (96, some 11)], [(97, some 12)], [(85, some 0), (86, some 1)], [(94, some 9), (99, some 14)]]) (by kernel_rfl) (by kernel_rfl) (Ts := [_, _, _, _, _, _, _, _, _, _, _, _, _, _, _, _]) rfl
                            case hops =>
                              refine ⟨?_, ⟨?_, ⟨?_, ⟨?_, ⟨?_, ⟨?_, ⟨?_, ⟨?_, ⟨?_, ⟨?_, ⟨?_, ⟨?_, ⟨?_, ⟨?_, ⟨?_, ⟨?_, trivial⟩⟩⟩⟩⟩⟩⟩⟩⟩⟩⟩⟩⟩⟩⟩⟩
                              · intro c hc; cases c
                                · exact ropw_of (rop_pure rfl (pu_move (OT.tmp rfl)))
                                · exact Bool.noConfusion (hc.symm.trans (by kernel_rfl : okFlag _ _ _ _ = false))
                              · intro c hc; cases c
                                · exact ropw_of (rop_pure rfl (pu_move (OT.tmp rfl)))
                                · exact Bool.noConfusion (hc.symm.trans (by kernel_rfl : okFlag _ _ _ _ = false))
                              · intro c hc; cases c
                                · exact ropw_of (rop_pure rfl (pu_move (OT.tmp rfl)))
                                · exact ropw_of (rop_pure rfl (pu_move (OT.tmp rfl)))
                              · intro c hc; cases c
                                · exact ropw_of (rop_pure rfl (pu_move (OT.tmp rfl)))
                                · exact ropw_of (rop_pure rfl (pu_move (OT.tmp rfl)))
                              · intro c hc; cases c
                                · exact ropw_of (rop_pure rfl (pu_sub' (OT.tmp rfl) OT.const (by omega)))
                                · exact ropw_of (rop_pure rfl (pu_sub' (OT.tmp rfl) OT.const (by omega)))
                              · intro c hc; cases c
                                · exact ropw_of (rop_pure rfl (pu_move (OT.tmp rfl)))
                                · exact Bool.noConfusion (hc.symm.trans (by kernel_rfl : okFlag _ _ _ _ = false))
                              · intro c hc; cases c
                                · exact ropw_of (rop_pure rfl (pu_move (OT.tmp rfl)))
                                · exact Bool.noConfusion (hc.symm.trans (by kernel_rfl : okFlag _ _ _ _ = false))
                              · intro c hc; cases c
                                · exact ropw_of (rop_pure rfl (pu_sub' (OT.tmp rfl) OT.const (by omega)))
                                · exact Bool.noConfusion (hc.symm.trans (by kernel_rfl : okFlag _ _ _ _ = false))
                              · intro c hc; cases c
                                · exact ropw_of (rop_pure rfl (pu_index_own (OT.tmp rfl) (by exact mem_at 0 rfl) (OT.tmp rfl) Try.underlying35 (show tyOk Try.prog 45 false 1 = true from by decide +kernel) (by omega) (by omega)))
                                · exact Bool.noConfusion (hc.symm.trans (by kernel_rfl : okFlag _ _ _ _ = false))
                              · intro c hc; cases c
                                · exact ropw_of (rop_pure rfl (pu_load_own0 (OT.tmp rfl) (by exact mem_at 0 rfl) (by omega) (by omega) (show tyOk Try.prog 45 false 1 = true from by decide +kernel)))
                                · exact Bool.noConfusion (hc.symm.trans (by kernel_rfl : okFlag _ _ _ _ = false))
                              · intro c hc; cases c
                                · exact ropw_of (rop_pure rfl (pu_move (OT.tmp rfl)))
                                · exact Bool.noConfusion (hc.symm.trans (by kernel_rfl : okFlag _ _ _ _ = false))
                              · intro c hc; cases c
                                · exact ropw_of (rop_pure rfl (pu_move (OT.tmp rfl)))
                                · exact Bool.noConfusion (hc.symm.trans (by kernel_rfl : okFlag _ _ _ _ = false))
                              · intro c hc; cases c
                                · exact ropw_of (rop_pure rfl (pu_index_own (OT.tmp rfl) (by exact mem_at 0 rfl) (OT.tmp rfl) Try.underlying35 (show tyOk Try.prog 45 false 1 = true from by decide +kernel) (by omega) (by omega)))
                                · exact Bool.noConfusion (hc.symm.trans (by kernel_rfl : okFlag _ _ _ _ = false))
                              · intro c hc; cases c
                                · exact ropw_of (rop_pure rfl (pu_load_own0 (OT.tmp rfl) (by exact mem_at 0 rfl) (by omega) (by omega) (show tyOk Try.prog 45 false 1 = true from by decide +kernel)))
                                · exact Bool.noConfusion (hc.symm.trans (by kernel_rfl : okFlag _ _ _ _ = false))
                              · intro c hc; cases c
                                · exact ropw_of (rop_pure rfl (pu_index_own (OT.tmp rfl) (by exact mem_at 0 rfl) (OT.tmp rfl) Try.underlying35 (show tyOk Try.prog 45 false 1 = true from by decide +kernel) (by omega) (by omega)))
                                · exact Bool.noConfusion (hc.symm.trans (by kernel_rfl : okFlag _ _ _ _ = false))
                              · intro c hc; cases c
                                · exact ropw_acts rfl (acts_store_own0 (OT.tmp rfl) (OT.tmp rfl) (by exact perm_at 0 rfl) (by omega) (by omega) (show tyOk Try.prog 45 false 1 = true from by decide +kernel)) (by exact perm_at 0 rfl) (fun _ => (by exact perm_at 0 rfl)) (fun _ _ _ _ h => h)
                                · exact Bool.noConfusion (hc.symm.trans (by kernel_rfl : okFlag _ _ _ _ = false))
                            case h =>
                              refine op_pure (pu_index_own (OT.tmp rfl) (by exact mem_at 0 rfl) (OT.tmp rfl) Try.underlying35 (show tyOk Try.prog 45 false 1 = true from by decide +kernel) (by omega) (by (simp; omega))) rfl rfl ?_
                              refine op_acts (acts_store_own0 (OT.tmp rfl) (OT.tmp rfl) (by exact perm_at 0 rfl) (by omega) (by (simp; omega)) (show tyOk Try.prog 45 false 1 = true from by decide +kernel)) (by exact perm_at 0 rfl) rfl rfl (fun _ _ => ?_)
                              refine tr_nil ?_
                              refine block_normal ?_
                              refine then_normal ?_
                              -- region 15
                              refine tr_env (es_cons (t := 0) (OT.tmp rfl) (es_cons (t := 1) (OT.tmp rfl) (es_cons (t := 2) (OT.tmp rfl) (es_cons (t := 3) (OT.tmp rfl) (es_cons (t := 9) (OT.tmp rfl) (es_cons (t := 10) (OT.tmp rfl) (es_cons (t := 11) (OT.tmp rfl) es_nil))))))) ?_
                              rw [sw1 (by omega) (by omega)]
                              refine tr_region ?_
                              refine op_pure (pu_move (OT.tmp rfl)) rfl rfl ?_
                              refine op_pure (pu_sub' (OT.tmp rfl) OT.const (by omega)) rfl rfl ?_
                              refine op_pure (pu_assign (OT.tmp rfl)) rfl rfl ?_
                              refine tr_nil ?_
                              refine then_normal ?_
                              exact tr_again (j - 1, Sort.swp d3 j (j - 1)) ⟨by show j - 1 ≤ i2 - 1; omega, swp_size.trans hs3, hnx⟩ (by show j - 1 < j; omega) (es_append (es_cons (t := 11) (by exact OT.val (OT.tmp rfl) (congrArg (Value.int _) (by omega))) es_nil) (es_cons (t := 0) (OT.tmp rfl) (es_cons (t := 1) (OT.tmp rfl) (es_cons (t := 2) (OT.tmp rfl) (es_cons (t := 3) (OT.tmp rfl) (es_cons (t := 9) (OT.tmp rfl) (es_cons (t := 10) (OT.tmp rfl) es_nil))))))) (own_picks (by repeat (first | exact picks_nil | refine picks_cons 0 rfl ?_ | refine picks_cons 1 rfl ?_ | refine picks_cons 2 rfl ?_ | refine picks_cons 3 rfl ?_ | refine picks_cons 4 rfl ?_ | refine picks_cons 5 rfl ?_ | refine picks_cons 6 rfl ?_)))
                      · try simp only [decide_eq_true_eq, decide_eq_false_iff_not, Bool.or_eq_true, Bool.and_eq_true, Bool.or_eq_false_iff, Bool.and_eq_false_iff, Bool.not_eq_true', Bool.not_eq_false', ne_eq, Classical.not_not] at c69
                        have hd4 := hsd.symm.trans (sd_end (c := c) (d := d3) (j := j) (fun h => by omega))
                        rw [if_pos (by omega : i2 - a ≥ 2), hd4] at hon
                        refine tr_exit ?_
                        refine then_exit ?_
                        refine then_exit ?_
                        refine block_hit ?_
                        refine then_normal ?_
                        refine tr_seq ?_
                        -- region 18
                        refine tr_env (es_cons (t := 0) (OT.tmp rfl) (es_cons (t := 1) (OT.tmp rfl) (es_cons (t := 2) (OT.tmp rfl) (es_cons (t := 3) (OT.tmp rfl) (es_cons (t := 9) (OT.tmp rfl) (es_cons (t := 10) (OT.tmp rfl) es_nil)))))) ?_
                        refine tr_region ?_
                        refine op_pure (pu_move (OT.tmp rfl)) rfl rfl ?_
                        refine op_pure (pu_move (OT.tmp rfl)) rfl rfl ?_
                        refine op_pure (pu_sub' (OT.tmp rfl) (OT.tmp rfl) (by omega)) rfl rfl ?_
                        refine op_pure (pu_geq (OT.tmp rfl) OT.const) rfl rfl ?_
                        refine tr_nil ?_
                        refine then_normal ?_
                        refine tr_cond (OT.tmp rfl) (fun c104 => ?_) (fun c104 => ?_)
                        · try simp only [decide_eq_true_eq, decide_eq_false_iff_not, Bool.or_eq_true, Bool.and_eq_true, Bool.or_eq_false_iff, Bool.and_eq_false_iff, Bool.not_eq_true', Bool.not_eq_false', ne_eq, Classical.not_not] at c104
                          rw [if_pos (by omega : b - i2 ≥ 2)] at hon
                          refine tr_seq ?_
                          -- region 19
                          refine tr_env (es_cons (t := 0) (OT.tmp rfl) (es_cons (t := 1) (OT.tmp rfl) (es_cons (t := 2) (OT.tmp rfl) (es_cons (t := 3) (OT.tmp rfl) (es_cons (t := 9) (OT.tmp rfl) (es_cons (t := 10) (OT.tmp rfl) es_nil)))))) ?_
                          refine tr_region ?_
                          refine op_pure (pu_move (OT.tmp rfl)) rfl rfl ?_
                          refine op_pure (pu_add' (OT.tmp rfl) OT.const (by omega)) rfl rfl ?_
                          refine op_pure (pu_assign (OT.tmp rfl)) rfl rfl ?_
                          refine tr_nil ?_
                          refine then_normal ?_
                          refine tr_block ?_
                          refine tr_loopK (σ := Nat × DA) (es_cons (t := 0) (OT.tmp rfl) (es_cons (t := 1) (OT.tmp rfl) (es_cons (t := 2) (OT.tmp rfl) (es_cons (t := 3) (OT.tmp rfl) (es_cons (t := 9) (OT.tmp rfl) (es_cons (t := 10) (OT.tmp rfl) es_nil)))))) (fun s => [(12, I64 (s.1 : Int))]) (fun s => [OwnI 45 (kG Z) v s.2.toList]) (fun s => i2 + 1 ≤ s.1 ∧ s.2.size = d.size ∧ Sort.shiftUp (ltc c) b s.1 s.2 = Sort.shiftUp (ltc c) b (i2 + 1) d3) (fun s => b - s.1) (i2 + 1, d3) ⟨Nat.le_refl _, hs3, rfl⟩ ?_ (own_picks (by repeat (first | exact picks_nil | refine picks_cons 0 rfl ?_ | refine picks_cons 1 rfl ?_ | refine picks_cons 2 rfl ?_ | refine picks_cons 3 rfl ?_ | refine picks_cons 4 rfl ?_ | refine picks_cons 5 rfl ?_ | refine picks_cons 6 rfl ?_))) ?_
                          · exact (es_cons (t := 12) (by exact OT.tmp rfl) es_nil)
                          · rintro ⟨k, d5⟩ ⟨hk, hs5, hsu⟩
                            dsimp only at hk hs5 hsu ⊢
                            have hl5 : d5.toList.length = d5.size := Array.length_toList
                            refine tr_seq ?_
                            refine tr_seq ?_
                            -- region 20
                            refine tr_env (es_cons (t := 0) (OT.tmp rfl) (es_cons (t := 1) (OT.tmp rfl) (es_cons (t := 2) (OT.tmp rfl) (es_cons (t := 3) (OT.tmp rfl) (es_cons (t := 9) (OT.tmp rfl) (es_cons (t := 10) (OT.tmp rfl) (es_cons (t := 12) (OT.tmp rfl) es_nil))))))) ?_
                            refine tr_region ?_
                            refine op_pure (pu_move (OT.tmp rfl)) rfl rfl ?_
                            refine op_pure (pu_move (OT.tmp rfl)) rfl rfl ?_
                            refine op_pure (pu_lss (OT.tmp rfl) (OT.tmp rfl)) rfl rfl ?_
                            refine tr_nil ?_
                            refine then_normal ?_
                            refine tr_cond (OT.tmp rfl) (fun c109 => ?_) (fun c109 => ?_)
                            · try simp only [decide_eq_true_eq, decide_eq_false_iff_not, Bool.or_eq_true, Bool.and_eq_true, Bool.or_eq_false_iff, Bool.and_eq_false_iff, Bool.not_eq_true', Bool.not_eq_false', ne_eq, Classical.not_not] at c109
                              refine tr_skip ?_
                              refine then_normal ?_
                              refine tr_seq ?_
                              refine tr_block ?_
                              refine tr_seq ?_
                              refine tr_seq ?_
                              -- region 22
                              refine tr_env (es_cons (t := 0) (OT.tmp rfl) (es_cons (t := 1) (OT.tmp rfl) (es_cons (t := 2) (OT.tmp rfl) (es_cons (t := 3) (OT.tmp rfl) (es_cons (t := 9) (OT.tmp rfl) (es_cons (t := 10) (OT.tmp rfl) (es_cons (t := 12) (OT.tmp rfl) es_nil))))))) ?_
                              apply tr_any (m := 10) (ns := [[(3, none)], [(0, none)], [(12, none)], [(113, some 1), (114, some 2)], [(115, some 3)], [(0, none)], [(12, none)], [(118, some 6)], [(117, some 5), (119, some 7)], [(120, some 8)]]) (by kernel_rfl) (by kernel_rfl) (Ts := [_, _, _, _, _, _, _, _, _, _]) rfl
                              case hops =>
                                refine ⟨?_, ⟨?_, ⟨?_, ⟨?_, ⟨?_, ⟨?_, ⟨?_, ⟨?_, ⟨?_, ⟨?_, trivial⟩⟩⟩⟩⟩⟩⟩⟩⟩⟩
                                · exact rop_pure rfl (pu_move (OT.tmp rfl))
                                · exact rop_pure rfl (pu_move (OT.tmp rfl))
                                · exact rop_pure rfl (pu_move (OT.tmp rfl))
                                · exact rop_pure rfl (pu_index_own (OT.tmp rfl) (by exact mem_at 0 rfl) (OT.tmp rfl) Try.underlying35 (show tyOk Try.prog 45 false 1 = true from by decide +kernel) (by omega) (by omega))
                                · exact rop_pure rfl (pu_load_own0 (OT.tmp rfl) (by exact mem_at 0 rfl) (by omega) (by omega) (show tyOk Try.prog 45 false 1 = true from by decide +kernel))
                                · exact rop_pure rfl (pu_move (OT.tmp rfl))
                                · exact rop_pure rfl (pu_move (OT.tmp rfl))
                                · exact rop_pure rfl (pu_sub' (OT.tmp rfl) OT.const (by omega))
                                · exact rop_pure rfl (pu_index_own (OT.tmp rfl) (by exact mem_at 0 rfl) (OT.tmp rfl) Try.underlying35 (show tyOk Try.prog 45 false 1 = true from by decide +kernel) (by omega) (by omega))
                                · exact rop_pure rfl (pu_load_own0 (OT.tmp rfl) (by exact mem_at 0 rfl) (by omega) (by omega) (show tyOk Try.prog 45 false 1 = true from by decide +kernel))
                              case h =>
                                refine op_acts (acts_callv (OT.tmp rfl) (hfv _ _) (OTs.cons (OT.tmp rfl) (OTs.cons (OT.tmp rfl) OTs.nil)) (List.Perm.refl _)) (List.Perm.refl _) rfl rfl (fun _ _ => ?_)
                                refine op_pure (pu_lss (OT.tmp rfl) OT.const) rfl rfl ?_
                                refine op_pure (pu_not (OT.tmp rfl)) rfl rfl ?_
                                refine tr_nil ?_
                                refine then_normal ?_
                                refine tr_cond (OT.tmp rfl) (fun c124 => ?_) (fun c124 => ?_)
                                · try simp only [decide_eq_true_eq, decide_eq_false_iff_not, Bool.or_eq_true, Bool.and_eq_true, Bool.or_eq_false_iff, Bool.and_eq_false_iff, Bool.not_eq_true', Bool.not_eq_false', ne_eq, Classical.not_not] at c124
                                  have hd6 := hsu.symm.trans (su_end (c := c) (d := d5) (b := b) (j := k) (fun h => by rw [ltc_at (by omega) (by omega), show ((k - 1 : Nat) : Int) = (k : Int) - 1 from by omega]; simpa using c124))
                                  rw [hd6] at hon
                                  refine tr_exit ?_
                                  refine then_exit ?_
                                  refine block_pass rfl ?_
                                  refine then_exit ?_
                                  refine then_exit ?_
                                  refine block_hit ?_
                                  refine block_normal ?_
                                  refine then_normal ?_
                                  -- region 4
                                  refine tr_env (es_cons (t := 0) (OT.tmp rfl) (es_cons (t := 1) (OT.tmp rfl) (es_cons (t := 2) (OT.tmp rfl) (es_cons (t := 3) (OT.tmp rfl) (es_cons (t := 9) (OT.tmp rfl) (es_cons (t := 10) (OT.tmp rfl) es_nil)))))) ?_
                                  refine tr_region ?_
                                  refine op_pure (pu_move (OT.tmp rfl)) rfl rfl ?_
                                  refine op_pure (pu_add' (OT.tmp rfl) OT.const (by omega)) rfl rfl ?_
                                  refine op_pure (pu_assign (OT.tmp rfl)) rfl rfl ?_
                                  refine tr_nil ?_
                                  refine then_normal ?_
                                  exact tr_again (s, i2, d5) ⟨by show s ≤ 5; omega, by show a + 1 ≤ i2; omega, by show i2 ≤ b; omega, hs5, hon.symm⟩ (by omega) (es_append (es_cons (t := 10) (by exact OT.val (OT.tmp rfl) (congrArg (Value.int _) (by omega))) (es_cons (t := 9) (by exact OT.tmp rfl) es_nil)) (es_cons (t := 0) (OT.tmp rfl) (es_cons (t := 1) (OT.tmp rfl) (es_cons (t := 2) (OT.tmp rfl) (es_cons (t := 3) (OT.tmp rfl) es_nil))))) (own_picks (by repeat (first | exact picks_nil | refine picks_cons 0 rfl ?_ | refine picks_cons 1 rfl ?_ | refine picks_cons 2 rfl ?_ | refine picks_cons 3 rfl ?_ | refine picks_cons 4 rfl ?_ | refine picks_cons 5 rfl ?_ | refine picks_cons 6 rfl ?_)))
                                · try simp only [decide_eq_true_eq, decide_eq_false_iff_not, Bool.or_eq_true, Bool.and_eq_true, Bool.or_eq_false_iff, Bool.and_eq_false_iff, Bool.not_eq_true', Bool.not_eq_false', ne_eq, Classical.not_not] at c124
                                  have hnx := (su_step (c := c) (d := d5) (b := b) (j := k) (by omega) (by rw [ltc_at (by omega) (by omega), show ((k - 1 : Nat) : Int) = (k : Int) - 1 from by omega]; simpa using c124)).symm.trans hsu
                                  refine tr_skip ?_
                                  refine then_normal ?_
                                  -- region 23
                                  refine tr_env (es_cons (t := 0) (OT.tmp rfl) (es_cons (t := 1) (OT.tmp rfl) (es_cons (t := 2) (OT.tmp rfl) (es_cons (t := 3) (OT.tmp rfl) (es_cons (t := 9) (OT.tmp rfl) (es_cons (t := 10) (OT.tmp rfl) (es_cons (t := 12) (OT.tmp rfl) es_nil))))))) ?_
                                  apply tr_anyW (p := 15) (Lf := fun c => cond c ([OwnI 45 (kG Z) v (d5.toList.set (k : Int).toNat (at' d5.toList ((k : Int) - 1)))]) ([OwnI 45 (kG Z) v d5.toList])) (by kernel_rfl) (m := 16) (ns := [[(0, none)], [(12, none)], [(0, none)], [(12, none)], [(128, some 3)], [(0, none)], [(12, none)], [(131, some 6)], [(130, some 5), (132, some 7)], [(133, some 8)], [(0, none)], [(12, none)], [(135, some 10), (136, some 11)], [(137, some 12)], [(125, some 0), (126, some 1)], [(134, some 9), (139, some 14)]]) (by kernel_rfl) (by kernel_rfl) (Ts := [_, _, _, _, _, _, _, _, _, _, _, _, _, _, _, _]) rfl
                                  case hops =>
                                    refine ⟨?_, ⟨?_, ⟨?_, ⟨?_, ⟨?_, ⟨?_, ⟨?_, ⟨?_, ⟨?_, ⟨?_, ⟨?_, ⟨?_, ⟨?_, ⟨?_, ⟨?_, ⟨?_, trivial⟩⟩⟩⟩⟩⟩⟩⟩⟩⟩⟩⟩⟩⟩⟩⟩
                                    · intro c hc; cases c
                                      · exact ropw_of (rop_pure rfl (pu_move (OT.tmp rfl)))
                                      · exact Bool.noConfusion (hc.symm.trans (by kernel_rfl : okFlag _ _ _ _ = false))
                                    · intro c hc; cases c
                                      · exact ropw_of (rop_pure rfl (pu_move (OT.tmp rfl)))
                                      · exact Bool.noConfusion (hc.symm.trans (by kernel_rfl : okFlag _ _ _ _ = false))
                                    · intro c hc; cases c
                                      · exact ropw_of (rop_pure rfl (pu_move (OT.tmp rfl)))
                                      · exact ropw_of (rop_pure rfl (pu_move (OT.tmp rfl)))
                                    · intro c hc; cases c
                                      · exact ropw_of (rop_pure rfl (pu_move (OT.tmp rfl)))
                                      · exact ropw_of (rop_pure rfl (pu_move (OT.tmp rfl)))
                                    · intro c hc; cases c
                                      · exact ropw_of (rop_pure rfl (pu_sub' (OT.tmp rfl) OT.const (by omega)))
                                      · exact ropw_of (rop_pure rfl (pu_sub' (OT.tmp rfl) OT.const (by omega)))
                                    · intro c hc; cases c
                                      · exact ropw_of (rop_pure rfl (pu_move (OT.tmp rfl)))
                                      · exact Bool.noConfusion (hc.symm.trans (by kernel_rfl : okFlag _ _ _ _ = false))
                                    · intro c hc; cases c
                                      · exact ropw_of (rop_pure rfl (pu_move (OT.tmp rfl)))
                                      · exact Bool.noConfusion (hc.symm.trans (by kernel_rfl : okFlag _ _ _ _ = false))
                                    · intro c hc; cases c
                                      · exact ropw_of (rop_pure rfl (pu_sub' (OT.tmp rfl) OT.const (by omega)))
                                      · exact Bool.noConfusion (hc.symm.trans (by kernel_rfl : okFlag _ _ _ _ = false))
                                    · intro c hc; cases c
                                      · exact ropw_of (rop_pure rfl (pu_index_own (OT.tmp rfl) (by exact mem_at 0 rfl) (OT.tmp rfl) Try.underlying35 (show tyOk Try.prog 45 false 1 = true from by decide +kernel) (by omega) (by omega)))
                                      · exact Bool.noConfusion (hc.symm.trans (by kernel_rfl : okFlag _ _ _ _ = false))
                                    · intro c hc; cases c
                                      · exact ropw_of (rop_pure rfl (pu_load_own0 (OT.tmp rfl) (by exact mem_at 0 rfl) (by omega) (by omega) (show tyOk Try.prog 45 false 1 = true from by decide +kernel)))
                                      · exact Bool.noConfusion (hc.symm.trans (by kernel_rfl : okFlag _ _ _ _ = false))
                                    · intro c hc; cases c
                                      · exact ropw_of (rop_pure rfl (pu_move (OT.tmp rfl)))
                                      · exact Bool.noConfusion (hc.symm.trans (by kernel_rfl : okFlag _ _ _ _ = false))
                                    · intro c hc; cases c
                                      · exact ropw_of (rop_pure rfl (pu_move (OT.tmp rfl)))
                                      · exact Bool.noConfusion (hc.symm.trans (by kernel_rfl : okFlag _ _ _ _ = false))
                                    · intro c hc; cases c
                                      · exact ropw_of (rop_pure rfl (pu_index_own (OT.tmp rfl) (by exact mem_at 0 rfl) (OT.tmp rfl) Try.underlying35 (show tyOk Try.prog 45 false 1 = true from by decide +kernel) (by omega) (by omega)))
                                      · exact Bool.noConfusion (hc.symm.trans (by kernel_rfl : okFlag _ _ _ _ = false))
                                    · intro c hc; cases c
                                      · exact ropw_of (rop_pure rfl (pu_load_own0 (OT.tmp rfl) (by exact mem_at 0 rfl) (by omega) (by omega) (show tyOk Try.prog 45 false 1 = true from by decide +kernel)))
                                      · exact Bool.noConfusion (hc.symm.trans (by kernel_rfl : okFlag _ _ _ _ = false))
                                    · intro c hc; cases c
                                      · exact ropw_of (rop_pure rfl (pu_index_own (OT.tmp rfl) (by exact mem_at 0 rfl) (OT.tmp rfl) Try.underlying35 (show tyOk Try.prog 45 false 1 = true from by decide +kernel) (by omega) (by omega)))
                                      · exact Bool.noConfusion (hc.symm.trans (by kernel_rfl : okFlag _ _ _ _ = false))
                                    · intro c hc; cases c
                                      · exact ropw_acts rfl (acts_store_own0 (OT.tmp rfl) (OT.tmp rfl) (by exact perm_at 0 rfl) (by omega) (by omega) (show tyOk Try.prog 45 false 1 = true from by decide +kernel)) (by exact perm_at 0 rfl) (fun _ => (by exact perm_at 0 rfl)) (fun _ _ _ _ h => h)
                                      · exact Bool.noConfusion (hc.symm.trans (by kernel_rfl : okFlag _ _ _ _ = false))
                                  case h =>
                                    refine op_pure (pu_index_own (OT.tmp rfl) (by exact mem_at 0 rfl) (OT.tmp rfl) Try.underlying35 (show tyOk Try.prog 45 false 1 = true from by decide +kernel) (by omega) (by (simp; omega))) rfl rfl ?_
                                    refine op_acts (acts_store_own0 (OT.tmp rfl) (OT.tmp rfl) (by exact perm_at 0 rfl) (by omega) (by (simp; omega)) (show tyOk Try.prog 45 false 1 = true from by decide +kernel)) (by exact perm_at 0 rfl) rfl rfl (fun _ _ => ?_)
                                    refine tr_nil ?_
                                    refine block_normal ?_
                                    refine then_normal ?_
                                    -- region 21
                                    refine tr_env (es_cons (t := 0) (OT.tmp rfl) (es_cons (t := 1) (OT.tmp rfl) (es_cons (t := 2) (OT.tmp rfl) (es_cons (t := 3) (OT.tmp rfl) (es_cons (t := 9) (OT.tmp rfl) (es_cons (t := 10) (OT.tmp rfl) (es_cons (t := 12) (OT.tmp rfl) es_nil))))))) ?_
                                    rw [sw1 (by omega) (by omega)]
                                    refine tr_region ?_
                                    refine op_pure (pu_move (OT.tmp rfl)) rfl rfl ?_
                                    refine op_pure (pu_add' (OT.tmp rfl) OT.const (by omega)) rfl rfl ?_
                                    refine op_pure (pu_assign (OT.tmp rfl)) rfl rfl ?_
                                    refine tr_nil ?_
                                    refine then_normal ?_
                                    exact tr_again (k + 1, Sort.swp d5 k (k - 1)) ⟨by show i2 + 1 ≤ k + 1; omega, swp_size.trans hs5, hnx⟩ (by show b - (k + 1) < b - k; omega) (es_append (es_cons (t := 12) (by exact OT.tmp rfl) es_nil) (es_cons (t := 0) (OT.tmp rfl) (es_cons (t := 1) (OT.tmp rfl) (es_cons (t := 2) (OT.tmp rfl) (es_cons (t := 3) (OT.tmp rfl) (es_cons (t := 9) (OT.tmp rfl) (es_cons (t := 10) (OT.tmp rfl) es_nil))))))) (own_picks (by repeat (first | exact picks_nil | refine picks_cons 0 rfl ?_ | refine picks_cons 1 rfl ?_ | refine picks_cons 2 rfl ?_ | refine picks_cons 3 rfl ?_ | refine picks_cons 4 rfl ?_ | refine picks_cons 5 rfl ?_ | refine picks_cons 6 rfl ?_)))
                            · try simp only [decide_eq_true_eq, decide_eq_false_iff_not, Bool.or_eq_true, Bool.and_eq_true, Bool.or_eq_false_iff, Bool.and_eq_false_iff, Bool.not_eq_true', Bool.not_eq_false', ne_eq, Classical.not_not] at c109
                              have hd6 := hsu.symm.trans (su_end (c := c) (d := d5) (b := b) (j := k) (fun h => by omega))
                              rw [hd6] at hon
                              refine tr_exit ?_
                              refine then_exit ?_
                              refine then_exit ?_
                              refine block_hit ?_
                              refine block_normal ?_
                              refine then_normal ?_
                              -- region 4
                              refine tr_env (es_cons (t := 0) (OT.tmp rfl) (es_cons (t := 1) (OT.tmp rfl) (es_cons (t := 2) (OT.tmp rfl) (es_cons (t := 3) (OT.tmp rfl) (es_cons (t := 9) (OT.tmp rfl) (es_cons (t := 10) (OT.tmp rfl) es_nil)))))) ?_
                              refine tr_region ?_
                              refine op_pure (pu_move (OT.tmp rfl)) rfl rfl ?_
                              refine op_pure (pu_add' (OT.tmp rfl) OT.const (by omega)) rfl rfl ?_
                              refine op_pure (pu_assign (OT.tmp rfl)) rfl rfl ?_
                              refine tr_nil ?_
                              refine then_normal ?_
                              exact tr_again (s, i2, d5) ⟨by show s ≤ 5; omega, by show a + 1 ≤ i2; omega, by show i2 ≤ b; omega, hs5, hon.symm⟩ (by omega) (es_append (es_cons (t := 10) (by exact OT.val (OT.tmp rfl) (congrArg (Value.int _) (by omega))) (es_cons (t := 9) (by exact OT.tmp rfl) es_nil)) (es_cons (t := 0) (OT.tmp rfl) (es_cons (t := 1) (OT.tmp rfl) (es_cons (t := 2) (OT.tmp rfl) (es_cons (t := 3) (OT.tmp rfl) es_nil))))) (own_picks (by repeat (first | exact picks_nil | refine picks_cons 0 rfl ?_ | refine picks_cons 1 rfl ?_ | refine picks_cons 2 rfl ?_ | refine picks_cons 3 rfl ?_ | refine picks_cons 4 rfl ?_ | refine picks_cons 5 rfl ?_ | refine picks_cons 6 rfl ?_)))
                        · try simp only [decide_eq_true_eq, decide_eq_false_iff_not, Bool.or_eq_true, Bool.and_eq_true, Bool.or_eq_false_iff, Bool.and_eq_false_iff, Bool.not_eq_true', Bool.not_eq_false', ne_eq, Classical.not_not] at c104
                          rw [if_neg (by omega : ¬ b - i2 ≥ 2)] at hon
                          refine tr_skip ?_
                          refine block_normal ?_
                          refine then_normal ?_
                          -- region 4
                          refine tr_env (es_cons (t := 0) (OT.tmp rfl) (es_cons (t := 1) (OT.tmp rfl) (es_cons (t := 2) (OT.tmp rfl) (es_cons (t := 3) (OT.tmp rfl) (es_cons (t := 9) (OT.tmp rfl) (es_cons (t := 10) (OT.tmp rfl) es_nil)))))) ?_
                          refine tr_region ?_
                          refine op_pure (pu_move (OT.tmp rfl)) rfl rfl ?_
                          refine op_pure (pu_add' (OT.tmp rfl) OT.const (by omega)) rfl rfl ?_
                          refine op_pure (pu_assign (OT.tmp rfl)) rfl rfl ?_
                          refine tr_nil ?_
                          refine then_normal ?_
                          exact tr_again (s, i2, d3) ⟨by show s ≤ 5; omega, by show a + 1 ≤ i2; omega, by show i2 ≤ b; omega, hs3, hon.symm⟩ (by omega) (es_append (es_cons (t := 10) (by exact OT.val (OT.tmp rfl) (congrArg (Value.int _) (by omega))) (es_cons (t := 9) (by exact OT.tmp rfl) es_nil)) (es_cons (t := 0) (OT.tmp rfl) (es_cons (t := 1) (OT.tmp rfl) (es_cons (t := 2) (OT.tmp rfl) (es_cons (t := 3) (OT.tmp rfl) es_nil))))) (own_picks (by repeat (first | exact picks_nil | refine picks_cons 0 rfl ?_ | refine picks_cons 1 rfl ?_ | refine picks_cons 2 rfl ?_ | refine picks_cons 3 rfl ?_ | refine picks_cons 4 rfl ?_ | refine picks_cons 5 rfl ?_ | refine picks_cons 6 rfl ?_)))
                  · try simp only [decide_eq_true_eq, decide_eq_false_iff_not, Bool.or_eq_true, Bool.and_eq_true, Bool.or_eq_false_iff, Bool.and_eq_false_iff, Bool.not_eq_true', Bool.not_eq_false', ne_eq, Classical.not_not] at c65
                    rw [if_neg (by omega : ¬ i2 - a ≥ 2)] at hon
                    refine tr_skip ?_
                    refine then_normal ?_
                    refine tr_seq ?_
                    -- region 18
                    refine tr_env (es_cons (t := 0) (OT.tmp rfl) (es_cons (t := 1) (OT.tmp rfl) (es_cons (t := 2) (OT.tmp rfl) (es_cons (t := 3) (OT.tmp rfl) (es_cons (t := 9) (OT.tmp rfl) (es_cons (t := 10) (OT.tmp rfl) es_nil)))))) ?_
                    refine tr_region ?_
                    refine op_pure (pu_move (OT.tmp rfl)) rfl rfl ?_
                    refine op_pure (pu_move (OT.tmp rfl)) rfl rfl ?_
                    refine op_pure (pu_sub' (OT.tmp rfl) (OT.tmp rfl) (by omega)) rfl rfl ?_
                    refine op_pure (pu_geq (OT.tmp rfl) OT.const) rfl rfl ?_
                    refine tr_nil ?_
                    refine then_normal ?_
                    refine tr_cond (OT.tmp rfl) (fun c104 => ?_) (fun c104 => ?_)
                    · try simp only [decide_eq_true_eq, decide_eq_false_iff_not, Bool.or_eq_true, Bool.and_eq_true, Bool.or_eq_false_iff, Bool.and_eq_false_iff, Bool.not_eq_true', Bool.not_eq_false', ne_eq, Classical.not_not] at c104
                      rw [if_pos (by omega : b - i2 ≥ 2)] at hon
                      refine tr_seq ?_
                      -- region 19
                      refine tr_env (es_cons (t := 0) (OT.tmp rfl) (es_cons (t := 1) (OT.tmp rfl) (es_cons (t := 2) (OT.tmp rfl) (es_cons (t := 3) (OT.tmp rfl) (es_cons (t := 9) (OT.tmp rfl) (es_cons (t := 10) (OT.tmp rfl) es_nil)))))) ?_
                      refine tr_region ?_
                      refine op_pure (pu_move (OT.tmp rfl)) rfl rfl ?_
                      refine op_pure (pu_add' (OT.tmp rfl) OT.const (by omega)) rfl rfl ?_
                      refine op_pure (pu_assign (OT.tmp rfl)) rfl rfl ?_
                      refine tr_nil ?_
                      refine then_normal ?_
                      refine tr_block ?_
                      refine tr_loopK (σ := Nat × DA) (es_cons (t := 0) (OT.tmp rfl) (es_cons (t := 1) (OT.tmp rfl) (es_cons (t := 2) (OT.tmp rfl) (es_cons (t := 3) (OT.tmp rfl) (es_cons (t := 9) (OT.tmp rfl) (es_cons (t := 10) (OT.tmp rfl) es_nil)))))) (fun s => [(12, I64 (s.1 : Int))]) (fun s => [OwnI 45 (kG Z) v s.2.toList]) (fun s => i2 + 1 ≤ s.1 ∧ s.2.size = d.size ∧ Sort.shiftUp (ltc c) b s.1 s.2 = Sort.shiftUp (ltc c) b (i2 + 1) (Sort.swp d1 i2 (i2 - 1))) (fun s => b - s.1) (i2 + 1, (Sort.swp d1 i2 (i2 - 1))) ⟨Nat.le_refl _, hs2, rfl⟩ ?_ (own_picks (by repeat (first | exact picks_nil | refine picks_cons 0 rfl ?_ | refine picks_cons 1 rfl ?_ | refine picks_cons 2 rfl ?_ | refine picks_cons 3 rfl ?_ | refine picks_cons 4 rfl ?_ | refine picks_cons 5 rfl ?_ | refine picks_cons 6 rfl ?_))) ?_
                      · exact (es_cons (t := 12) (by exact OT.tmp rfl) es_nil)
                      · rintro ⟨k, d5⟩ ⟨hk, hs5, hsu⟩
                        dsimp only at hk hs5 hsu ⊢
                        have hl5 : d5.toList.length = d5.size := Array.length_toList
                        refine tr_seq ?_
                        refine tr_seq ?_
                        -- region 20
                        refine tr_env (es_cons (t := 0) (OT.tmp rfl) (es_cons (t := 1) (OT.tmp rfl) (es_cons (t := 2) (OT.tmp rfl) (es_cons (t := 3) (OT.tmp rfl) (es_cons (t := 9) (OT.tmp rfl) (es_cons (t := 10) (OT.tmp rfl) (es_cons (t := 12) (OT.tmp rfl) es_nil))))))) ?_
                        refine tr_region ?_
                        refine op_pure (pu_move (OT.tmp rfl)) rfl rfl ?_
                        refine op_pure (pu_move (OT.tmp rfl)) rfl rfl ?_
                        refine op_pure (pu_lss (OT.tmp rfl) (OT.tmp rfl)) rfl rfl ?_
                        refine tr_nil ?_
                        refine then_normal ?_
                        refine tr_cond (OT.tmp rfl) (fun c109 => ?_) (fun c109 => ?_)
                        · try simp only [decide_eq_true_eq, decide_eq_false_iff_not, Bool.or_eq_true, Bool.and_eq_true, Bool.or_eq_false_iff, Bool.and_eq_false_iff, Bool.not_eq_true', Bool.not_eq_false', ne_eq, Classical.not_not] at c109
                          refine tr_skip ?_
                          refine then_normal ?_
                          refine tr_seq ?_
                          refine tr_block ?_
                          refine tr_seq ?_
                          refine tr_seq ?_
                          -- region 22
                          refine tr_env (es_cons (t := 0) (OT.tmp rfl) (es_cons (t := 1) (OT.tmp rfl) (es_cons (t := 2) (OT.tmp rfl) (es_cons (t := 3) (OT.tmp rfl) (es_cons (t := 9) (OT.tmp rfl) (es_cons (t := 10) (OT.tmp rfl) (es_cons (t := 12) (OT.tmp rfl) es_nil))))))) ?_
                          apply tr_any (m := 10) (ns := [[(3, none)], [(0, none)], [(12, none)], [(113, some 1), (114, some 2)], [(115, some 3)], [(0, none)], [(12, none)], [(118, some 6)], [(117, some 5), (119, some 7)], [(120, some 8)]]) (by kernel_rfl) (by kernel_rfl) (Ts := [_, _, _, _, _, _, _, _, _, _]) rfl
                          case hops =>
                            refine ⟨?_, ⟨?_, ⟨?_, ⟨?_, ⟨?_, ⟨?_, ⟨?_, ⟨?_, ⟨?_, ⟨?_, trivial⟩⟩⟩⟩⟩⟩⟩⟩⟩⟩
                            · exact rop_pure rfl (pu_move (OT.tmp rfl))
                            · exact rop_pure rfl (pu_move (OT.tmp rfl))
                            · exact rop_pure rfl (pu_move (OT.tmp rfl))
                            · exact rop_pure rfl (pu_index_own (OT.tmp rfl) (by exact mem_at 0 rfl) (OT.tmp rfl) Try.underlying35 (show tyOk Try.prog 45 false 1 = true from by decide +kernel) (by omega) (by omega))
                            · exact rop_pure rfl (pu_load_own0 (OT.tmp rfl) (by exact mem_at 0 rfl) (by omega) (by omega) (show tyOk Try.prog 45 false 1 = true from by decide +kernel))
                            · exact rop_pure rfl (pu_move (OT.tmp rfl))
                            · exact rop_pure rfl (pu_move (OT.tmp rfl))
                            · exact rop_pure rfl (pu_sub' (OT.tmp rfl) OT.const (by omega))
                            · exact rop_pure rfl (pu_index_own (OT.tmp rfl) (by exact mem_at 0 rfl) (OT.tmp rfl) Try.underlying35 (show tyOk Try.prog 45 false 1 = true from by decide +kernel) (by omega) (by omega))
                            · exact rop_pure rfl (pu_load_own0 (OT.tmp rfl) (by exact mem_at 0 rfl) (by omega) (by omega) (show tyOk Try.prog 45 false 1 = true from by decide +kernel))
                          case h =>
                            refine op_acts (acts_callv (OT.tmp rfl) (hfv _ _) (OTs.cons (OT.tmp rfl) (OTs.cons (OT.tmp rfl) OTs.nil)) (List.Perm.refl _)) (List.Perm.refl _) rfl rfl (fun _ _ => ?_)
                            refine op_pure (pu_lss (OT.tmp rfl) OT.const) rfl rfl ?_
                            refine op_pure (pu_not (OT.tmp rfl)) rfl rfl ?_
                            refine tr_nil ?_
                            refine then_normal ?_
                            refine tr_cond (OT.tmp rfl) (fun c124 => ?_) (fun c124 => ?_)
                            · try simp only [decide_eq_true_eq, decide_eq_false_iff_not, Bool.or_eq_true, Bool.and_eq_true, Bool.or_eq_false_iff, Bool.and_eq_false_iff, Bool.not_eq_true', Bool.not_eq_false', ne_eq, Classical.not_not] at c124
                              have hd6 := hsu.symm.trans (su_end (c := c) (d := d5) (b := b) (j := k) (fun h => by rw [ltc_at (by omega) (by omega), show ((k - 1 : Nat) : Int) = (k : Int) - 1 from by omega]; simpa using c124))
                              rw [hd6] at hon
                              refine tr_exit ?_
                              refine then_exit ?_
                              refine block_pass rfl ?_
                              refine then_exit ?_
                              refine then_exit ?_
                              refine block_hit ?_
                              refine block_normal ?_
                              refine then_normal ?_
                              -- region 4
                              refine tr_env (es_cons (t := 0) (OT.tmp rfl) (es_cons (t := 1) (OT.tmp rfl) (es_cons (t := 2) (OT.tmp rfl) (es_cons (t := 3) (OT.tmp rfl) (es_cons (t := 9) (OT.tmp rfl) (es_cons (t := 10) (OT.tmp rfl) es_nil)))))) ?_
                              refine tr_region ?_
                              refine op_pure (pu_move (OT.tmp rfl)) rfl rfl ?_
                              refine op_pure (pu_add' (OT.tmp rfl) OT.const (by omega)) rfl rfl ?_
                              refine op_pure (pu_assign (OT.tmp rfl)) rfl rfl ?_
                              refine tr_nil ?_
                              refine then_normal ?_
                              exact tr_again (s, i2, d5) ⟨by show s ≤ 5; omega, by show a + 1 ≤ i2; omega, by show i2 ≤ b; omega, hs5, hon.symm⟩ (by omega) (es_append (es_cons (t := 10) (by exact OT.val (OT.tmp rfl) (congrArg (Value.int _) (by omega))) (es_cons (t := 9) (by exact OT.tmp rfl) es_nil)) (es_cons (t := 0) (OT.tmp rfl) (es_cons (t := 1) (OT.tmp rfl) (es_cons (t := 2) (OT.tmp rfl) (es_cons (t := 3) (OT.tmp rfl) es_nil))))) (own_picks (by repeat (first | exact picks_nil | refine picks_cons 0 rfl ?_ | refine picks_cons 1 rfl ?_ | refine picks_cons 2 rfl ?_ | refine picks_cons 3 rfl ?_ | refine picks_cons 4 rfl ?_ | refine picks_cons 5 rfl ?_ | refine picks_cons 6 rfl ?_)))
                            · try simp only [decide_eq_true_eq, decide_eq_false_iff_not, Bool.or_eq_true, Bool.and_eq_true, Bool.or_eq_false_iff, Bool.and_eq_false_iff, Bool.not_eq_true', Bool.not_eq_false', ne_eq, Classical.not_not] at c124
                              have hnx := (su_step (c := c) (d := d5) (b := b) (j := k) (by omega) (by rw [ltc_at (by omega) (by omega), show ((k - 1 : Nat) : Int) = (k : Int) - 1 from by omega]; simpa using c124)).symm.trans hsu
                              refine tr_skip ?_
                              refine then_normal ?_
                              -- region 23
                              refine tr_env (es_cons (t := 0) (OT.tmp rfl) (es_cons (t := 1) (OT.tmp rfl) (es_cons (t := 2) (OT.tmp rfl) (es_cons (t := 3) (OT.tmp rfl) (es_cons (t := 9) (OT.tmp rfl) (es_cons (t := 10) (OT.tmp rfl) (es_cons (t := 12) (OT.tmp rfl) es_nil))))))) ?_
                              apply tr_anyW (p := 15) (Lf := fun c => cond c ([OwnI 45 (kG Z) v (d5.toList.set (k : Int).toNat (at' d5.toList ((k : Int) - 1)))]) ([OwnI 45 (kG Z) v d5.toList])) (by kernel_rfl) (m := 16) (ns := [[(0, none)], [(12, none)], [(0, none)], [(12, none)], [(128, some 3)], [(0, none)], [(12, none)], [(131, some 6)], [(130, some 5), (132, some 7)], [(133, some 8)], [(0, none)], [(12, none)], [(135, some 10), (136, some 11)], [(137, some 12)], [(125, some 0), (126, some 1)], [(134, some 9), (139, some 14)]]) (by kernel_rfl) (by kernel_rfl) (Ts := [_, _, _, _, _, _, _, _, _, _, _, _, _, _, _, _]) rfl
                              case hops =>
                                refine ⟨?_, ⟨?_, ⟨?_, ⟨?_, ⟨?_, ⟨?_, ⟨?_, ⟨?_, ⟨?_, ⟨?_, ⟨?_, ⟨?_, ⟨?_, ⟨?_, ⟨?_, ⟨?_, trivial⟩⟩⟩⟩⟩⟩⟩⟩⟩⟩⟩⟩⟩⟩⟩⟩
                                · intro c hc; cases c
                                  · exact ropw_of (rop_pure rfl (pu_move (OT.tmp rfl)))
                                  · exact Bool.noConfusion (hc.symm.trans (by kernel_rfl : okFlag _ _ _ _ = false))
                                · intro c hc; cases c
                                  · exact ropw_of (rop_pure rfl (pu_move (OT.tmp rfl)))
                                  · exact Bool.noConfusion (hc.symm.trans (by kernel_rfl : okFlag _ _ _ _ = false))
                                · intro c hc; cases c
                                  · exact ropw_of (rop_pure rfl (pu_move (OT.tmp rfl)))
                                  · exact ropw_of (rop_pure rfl (pu_move (OT.tmp rfl)))
                                · intro c hc; cases c
                                  · exact ropw_of (rop_pure rfl (pu_move (OT.tmp rfl)))
                                  · exact ropw_of (rop_pure rfl (pu_move (OT.tmp rfl)))
                                · intro c hc; cases c
                                  · exact ropw_of (rop_pure rfl (pu_sub' (OT.tmp rfl) OT.const (by omega)))
                                  · exact ropw_of (rop_pure rfl (pu_sub' (OT.tmp rfl) OT.const (by omega)))
                                · intro c hc; cases c
                                  · exact ropw_of (rop_pure rfl (pu_move (OT.tmp rfl)))
                                  · exact Bool.noConfusion (hc.symm.trans (by kernel_rfl : okFlag _ _ _ _ = false))
                                · intro c hc; cases c
                                  · exact ropw_of (rop_pure rfl (pu_move (OT.tmp rfl)))
                                  · exact Bool.noConfusion (hc.symm.trans (by kernel_rfl : okFlag _ _ _ _ = false))
                                · intro c hc; cases c
                                  · exact ropw_of (rop_pure rfl (pu_sub' (OT.tmp rfl) OT.const (by omega)))
                                  · exact Bool.noConfusion (hc.symm.trans (by kernel_rfl : okFlag _ _ _ _ = false))
                                · intro c hc; cases c
                                  · exact ropw_of (rop_pure rfl (pu_index_own (OT.tmp rfl) (by exact mem_at 0 rfl) (OT.tmp rfl) Try.underlying35 (show tyOk Try.prog 45 false 1 = true from by decide +kernel) (by omega) (by omega)))
                                  · exact Bool.noConfusion (hc.symm.trans (by kernel_rfl : okFlag _ _ _ _ = false))
                                · intro c hc; cases c
                                  · exact ropw_of (rop_pure rfl (pu_load_own0 (OT.tmp rfl) (by exact mem_at 0 rfl) (by omega) (by omega) (show tyOk Try.prog 45 false 1 = true from by decide +kernel)))
                                  · exact Bool.noConfusion (hc.symm.trans (by kernel_rfl : okFlag _ _ _ _ = false))
                                · intro c hc; cases c
                                  · exact ropw_of (rop_pure rfl (pu_move (OT.tmp rfl)))
                                  · exact Bool.noConfusion (hc.symm.trans (by kernel_rfl : okFlag _ _ _ _ = false))
                                · intro c hc; cases c
                                  · exact ropw_of (rop_pure rfl (pu_move (OT.tmp rfl)))
                                  · exact Bool.noConfusion (hc.symm.trans (by kernel_rfl : okFlag _ _ _ _ = false))
                                · intro c hc; cases c
                                  · exact ropw_of (rop_pure rfl (pu_index_own (OT.tmp rfl) (by exact mem_at 0 rfl) (OT.tmp rfl) Try.underlying35 (show tyOk Try.prog 45 false 1 = true from by decide +kernel) (by omega) (by omega)))
                                  · exact Bool.noConfusion (hc.symm.trans (by kernel_rfl : okFlag _ _ _ _ = false))
                                · intro c hc; cases c
                                  · exact ropw_of (rop_pure rfl (pu_load_own0 (OT.tmp rfl) (by exact mem_at 0 rfl) (by omega) (by omega) (show tyOk Try.prog 45 false 1 = true from by decide +kernel)))
                                  · exact Bool.noConfusion (hc.symm.trans (by kernel_rfl : okFlag _ _ _ _ = false))
                                · intro c hc; cases c
                                  · exact ropw_of (rop_pure rfl (pu_index_own (OT.tmp rfl) (by exact mem_at 0 rfl) (OT.tmp rfl) Try.underlying35 (show tyOk Try.prog 45 false 1 = true from by decide +kernel) (by omega) (by omega)))
                                  · exact Bool.noConfusion (hc.symm.trans (by kernel_rfl : okFlag _ _ _ _ = false))
                                · intro c hc; cases c
                                  · exact ropw_acts rfl (acts_store_own0 (OT.tmp rfl) (OT.tmp rfl) (by exact perm_at 0 rfl) (by omega) (by omega) (show tyOk Try.prog 45 false 1 = true from by decide +kernel)) (by exact perm_at 0 rfl) (fun _ => (by exact perm_at 0 rfl)) (fun _ _ _ _ h => h)
                                  · exact Bool.noConfusion (hc.symm.trans (by kernel_rfl : okFlag _ _ _ _ = false))
                              case h =>
                                refine op_pure (pu_index_own (OT.tmp rfl) (by exact mem_at 0 rfl) (OT.tmp rfl) Try.underlying35 (show tyOk Try.prog 45 false 1 = true from by decide +kernel) (by omega) (by (simp; omega))) rfl rfl ?_
                                refine op_acts (acts_store_own0 (OT.tmp rfl) (OT.tmp rfl) (by exact perm_at 0 rfl) (by omega) (by (simp; omega)) (show tyOk Try.prog 45 false 1 = true from by decide +kernel)) (by exact perm_at 0 rfl) rfl rfl (fun _ _ => ?_)
                                refine tr_nil ?_
                                refine block_normal ?_
                                refine then_normal ?_
                                -- region 21
                                refine tr_env (es_cons (t := 0) (OT.tmp rfl) (es_cons (t := 1) (OT.tmp rfl) (es_cons (t := 2) (OT.tmp rfl) (es_cons (t := 3) (OT.tmp rfl) (es_cons (t := 9) (OT.tmp rfl) (es_cons (t := 10) (OT.tmp rfl) (es_cons (t := 12) (OT.tmp rfl) es_nil))))))) ?_
                                rw [sw1 (by omega) (by omega)]
                                refine tr_region ?_
                                refine op_pure (pu_move (OT.tmp rfl)) rfl rfl ?_
                                refine op_pure (pu_add' (OT.tmp rfl) OT.const (by omega)) rfl rfl ?_
                                refine op_pure (pu_assign (OT.tmp rfl)) rfl rfl ?_
                                refine tr_nil ?_
                                refine then_normal ?_
                                exact tr_again (k + 1, Sort.swp d5 k (k - 1)) ⟨by show i2 + 1 ≤ k + 1; omega, swp_size.trans hs5, hnx⟩ (by show b - (k + 1) < b - k; omega) (es_append (es_cons (t := 12) (by exact OT.tmp rfl) es_nil) (es_cons (t := 0) (OT.tmp rfl) (es_cons (t := 1) (OT.tmp rfl) (es_cons (t := 2) (OT.tmp rfl) (es_cons (t := 3) (OT.tmp rfl) (es_cons (t := 9) (OT.tmp rfl) (es_cons (t := 10) (OT.tmp rfl) es_nil))))))) (own_picks (by repeat (first | exact picks_nil | refine picks_cons 0 rfl ?_ | refine picks_cons 1 rfl ?_ | refine picks_cons 2 rfl ?_ | refine picks_cons 3 rfl ?_ | refine picks_cons 4 rfl ?_ | refine picks_cons 5 rfl ?_ | refine picks_cons 6 rfl ?_)))
                        · try simp only [decide_eq_true_eq, decide_eq_false_iff_not, Bool.or_eq_true, Bool.and_eq_true, Bool.or_eq_false_iff, Bool.and_eq_false_iff, Bool.not_eq_true', Bool.not_eq_false', ne_eq, Classical.not_not] at c109
                          have hd6 := hsu.symm.trans (su_end (c := c) (d := d5) (b := b) (j := k) (fun h => by omega))
                          rw [hd6] at hon
                          refine tr_exit ?_
                          refine then_exit ?_
                          refine then_exit ?_
                          refine block_hit ?_
                          refine block_normal ?_
                          refine then_normal ?_
                          -- region 4
                          refine tr_env (es_cons (t := 0) (OT.tmp rfl) (es_cons (t := 1) (OT.tmp rfl) (es_cons (t := 2) (OT.tmp rfl) (es_cons (t := 3) (OT.tmp rfl) (es_cons (t := 9) (OT.tmp rfl) (es_cons (t := 10) (OT.tmp rfl) es_nil)))))) ?_
                          refine tr_region ?_
                          refine op_pure (pu_move (OT.tmp rfl)) rfl rfl ?_
                          refine op_pure (pu_add' (OT.tmp rfl) OT.const (by omega)) rfl rfl ?_
                          refine op_pure (pu_assign (OT.tmp rfl)) rfl rfl ?_
                          refine tr_nil ?_
                          refine then_normal ?_
                          exact tr_again (s, i2, d5) ⟨by show s ≤ 5; omega, by show a + 1 ≤ i2; omega, by show i2 ≤ b; omega, hs5, hon.symm⟩ (by omega) (es_append (es_cons (t := 10) (by exact OT.val (OT.tmp rfl) (congrArg (Value.int _) (by omega))) (es_cons (t := 9) (by exact OT.tmp rfl) es_nil)) (es_cons (t := 0) (OT.tmp rfl) (es_cons (t := 1) (OT.tmp rfl) (es_cons (t := 2) (OT.tmp rfl) (es_cons (t := 3) (OT.tmp rfl) es_nil))))) (own_picks (by repeat (first | exact picks_nil | refine picks_cons 0 rfl ?_ | refine picks_cons 1 rfl ?_ | refine picks_cons 2 rfl ?_ | refine picks_cons 3 rfl ?_ | refine picks_cons 4 rfl ?_ | refine picks_cons 5 rfl ?_ | refine picks_cons 6 rfl ?_)))
                    · try simp only [decide_eq_true_eq, decide_eq_false_iff_not, Bool.or_eq_true, Bool.and_eq_true, Bool.or_eq_false_iff, Bool.and_eq_false_iff, Bool.not_eq_true', Bool.not_eq_false', ne_eq, Classical.not_not] at c104
                      rw [if_neg (by omega : ¬ b - i2 ≥ 2)] at hon
                      refine tr_skip ?_
                      refine block_normal ?_
                      refine then_normal ?_
                      -- region 4
                      refine tr_env (es_cons (t := 0) (OT.tmp rfl) (es_cons (t := 1) (OT.tmp rfl) (es_cons (t := 2) (OT.tmp rfl) (es_cons (t := 3) (OT.tmp rfl) (es_cons (t := 9) (OT.tmp rfl) (es_cons (t := 10) (OT.tmp rfl) es_nil)))))) ?_
                      refine tr_region ?_
                      refine op_pure (pu_move (OT.tmp rfl)) rfl rfl ?_
                      refine op_pure (pu_add' (OT.tmp rfl) OT.const (by omega)) rfl rfl ?_
                      refine op_pure (pu_assign (OT.tmp rfl)) rfl rfl ?_
                      refine tr_nil ?_
                      refine then_normal ?_
                      exact tr_again (s, i2, (Sort.swp d1 i2 (i2 - 1))) ⟨by show s ≤ 5; omega, by show a + 1 ≤ i2; omega, by show i2 ≤ b; omega, hs2, hon.symm⟩ (by omega) (es_append (es_cons (t := 10) (by exact OT.val (OT.tmp rfl) (congrArg (Value.int _) (by omega))) (es_cons (t := 9) (by exact OT.tmp rfl) es_nil)) (es_cons (t := 0) (OT.tmp rfl) (es_cons (t := 1) (OT.tmp rfl) (es_cons (t := 2) (OT.tmp rfl) (es_cons (t := 3) (OT.tmp rfl) es_nil))))) (own_picks (by repeat (first | exact picks_nil | refine picks_cons 0 rfl ?_ | refine picks_cons 1 rfl ?_ | refine picks_cons 2 rfl ?_ | refine picks_cons 3 rfl ?_ | refine picks_cons 4 rfl ?_ | refine picks_cons 5 rfl ?_ | refine picks_cons 6 rfl ?_)))
    · try simp only [decide_eq_true_eq, decide_eq_false_iff_not, Bool.or_eq_true, Bool.and_eq_true, Bool.or_eq_false_iff, Bool.and_eq_false_iff, Bool.not_eq_true', Bool.not_eq_false', ne_eq, Classical.not_not] at c16
      obtain rfl : s0 = 0 := by omega
      have hres := hr.symm.trans pi_zero
      refine tr_exit ?_
      refine then_exit ?_
      refine then_exit ?_
      refine block_hit ?_
      refine then_normal ?_
      refine tr_seq ?_
      -- region 24
      refine tr_env es_nil ?_
      refine tr_region ?_
      refine op_pure (pu_assign OT.const) rfl rfl ?_
      refine tr_nil ?_
      refine then_normal ?_
      refine tr_ret ?_
      exact ret_one .ret (.inl rfl) rfl () (OT.val (OT.tmp rfl) (congrArg Value.bool (by rw [hres]))) trivial (by rw [hres]; exact picks_cons 0 rfl picks_nil)
end Go.Proofs.Ytakkjljhjfkkbaa
