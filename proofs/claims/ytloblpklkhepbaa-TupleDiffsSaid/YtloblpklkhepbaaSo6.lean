/- Walks through the Go functions (*slices.xorshift).Next, slices.nextPowerOfTwo, api.Tuple], as typed contracts. -/
import Derived.Test.YtloblpklkhepbaaSo5
import Derived.Test.YtloblpklkhepbaaBiB
namespace Go.Proofs.Ytloblpklkhepbaa
open Go Go.Gw Go.So
set_option linter.unusedVariables false
set_option linter.unusedSimpArgs false
variable {K0 : FH} {n0 : Nat}
abbrev kU : Kd Int := kint .u64

set_option maxHeartbeats 1000000 in
set_option maxRecDepth 20000 in
/-- (*slices.xorshift).Next -/
theorem next_fn (g : Nat) (n : Int) : Ct Try.prog 92 [IsV (pt g 0)] ([BlkI g 114 kU n]) Int (fun r => IntT .u64 r) (fun r => [BlkI g 114 kU r]) (fun _ => True) := by
  refine fn_intro Try.func92 rfl rfl ?_
  intro H w
  refine tr_seq ?_
  -- region 0
  refine tr_env (es_cons (t := 0) (OT.tmp rfl) es_nil) ?_
  refine tr_region ?_
  refine op_pure (pu_assign OT.const) rfl rfl ?_
  refine tr_nil ?_
  refine then_normal ?_
  refine tr_seq ?_
  -- region 1
  refine tr_env (es_cons (t := 0) (OT.tmp rfl) es_nil) ?_
  apply tr_any (m := 7) (ns := [[(0, none)], [(3, some 0)], [(4, some 1)], [(0, none)], [(6, some 3)], [(7, some 4)], [(8, some 5)]]) (by kernel_rfl) (by kernel_rfl) (Ts := [_, _, _, _, _, _, _]) rfl
  case hops =>
    refine ⟨?_, ⟨?_, ⟨?_, ⟨?_, ⟨?_, ⟨?_, ⟨?_, trivial⟩⟩⟩⟩⟩⟩⟩
    · exact rop_pure rfl (pu_move (OT.tmp rfl))
    · exact rop_pure rfl (pu_nilCheck (OT.tmp rfl))
    · exact rop_pure rfl (pu_load_var (OT.tmp rfl) (by exact mem_at 0 rfl) (show tyOk Try.prog 114 false 1 = true from by decide +kernel))
    · exact rop_pure rfl (pu_move (OT.tmp rfl))
    · exact rop_pure rfl (pu_nilCheck (OT.tmp rfl))
    · exact rop_pure rfl (pu_load_var (OT.tmp rfl) (by exact mem_at 0 rfl) (show tyOk Try.prog 114 false 1 = true from by decide +kernel))
    · exact rop_pure rfl (pu_shl (OT.tmp rfl) OT.const (by omega))
  case h =>
    refine op_pure (pu_bits (OT.tmp rfl) (OT.tmp rfl) (by simp)) rfl rfl ?_
    refine op_pure (pu_nilCheck (OT.tmp rfl)) rfl rfl ?_
    refine op_acts (acts_store_var (OT.tmp rfl) (OT.tmp rfl) (by exact perm_at 0 rfl) (show tyOk Try.prog 114 false 1 = true from by decide +kernel)) (by exact perm_at 0 rfl) rfl rfl (fun _ _ => ?_)
    refine tr_nil ?_
    generalize bitsV _ _ _ _ = n1
    refine then_normal ?_
    refine tr_seq ?_
    -- region 2
    refine tr_env (es_cons (t := 0) (OT.tmp rfl) es_nil) ?_
    apply tr_any (m := 7) (ns := [[(0, none)], [(12, some 0)], [(13, some 1)], [(0, none)], [(15, some 3)], [(16, some 4)], [(17, some 5)]]) (by kernel_rfl) (by kernel_rfl) (Ts := [_, _, _, _, _, _, _]) rfl
    case hops =>
      refine ⟨?_, ⟨?_, ⟨?_, ⟨?_, ⟨?_, ⟨?_, ⟨?_, trivial⟩⟩⟩⟩⟩⟩⟩
      · exact rop_pure rfl (pu_move (OT.tmp rfl))
      · exact rop_pure rfl (pu_nilCheck (OT.tmp rfl))
      · exact rop_pure rfl (pu_load_var (OT.tmp rfl) (by exact mem_at 0 rfl) (show tyOk Try.prog 114 false 1 = true from by decide +kernel))
      · exact rop_pure rfl (pu_move (OT.tmp rfl))
      · exact rop_pure rfl (pu_nilCheck (OT.tmp rfl))
      · exact rop_pure rfl (pu_load_var (OT.tmp rfl) (by exact mem_at 0 rfl) (show tyOk Try.prog 114 false 1 = true from by decide +kernel))
      · exact rop_pure rfl (pu_shr (OT.tmp rfl) OT.const (by omega))
    case h =>
      refine op_pure (pu_bits (OT.tmp rfl) (OT.tmp rfl) (by simp)) rfl rfl ?_
      refine op_pure (pu_nilCheck (OT.tmp rfl)) rfl rfl ?_
      refine op_acts (acts_store_var (OT.tmp rfl) (OT.tmp rfl) (by exact perm_at 0 rfl) (show tyOk Try.prog 114 false 1 = true from by decide +kernel)) (by exact perm_at 0 rfl) rfl rfl (fun _ _ => ?_)
      refine tr_nil ?_
      generalize bitsV _ _ _ _ = n2
      refine then_normal ?_
      refine tr_seq ?_
      -- region 3
      refine tr_env (es_cons (t := 0) (OT.tmp rfl) es_nil) ?_
      apply tr_any (m := 7) (ns := [[(0, none)], [(21, some 0)], [(22, some 1)], [(0, none)], [(24, some 3)], [(25, some 4)], [(26, some 5)]]) (by kernel_rfl) (by kernel_rfl) (Ts := [_, _, _, _, _, _, _]) rfl
      case hops =>
        refine ⟨?_, ⟨?_, ⟨?_, ⟨?_, ⟨?_, ⟨?_, ⟨?_, trivial⟩⟩⟩⟩⟩⟩⟩
        · exact rop_pure rfl (pu_move (OT.tmp rfl))
        · exact rop_pure rfl (pu_nilCheck (OT.tmp rfl))
        · exact rop_pure rfl (pu_load_var (OT.tmp rfl) (by exact mem_at 0 rfl) (show tyOk Try.prog 114 false 1 = true from by decide +kernel))
        · exact rop_pure rfl (pu_move (OT.tmp rfl))
        · exact rop_pure rfl (pu_nilCheck (OT.tmp rfl))
        · exact rop_pure rfl (pu_load_var (OT.tmp rfl) (by exact mem_at 0 rfl) (show tyOk Try.prog 114 false 1 = true from by decide +kernel))
        · exact rop_pure rfl (pu_shl (OT.tmp rfl) OT.const (by omega))
      case h =>
        refine op_pure (pu_bits (OT.tmp rfl) (OT.tmp rfl) (by simp)) rfl rfl ?_
        refine op_pure (pu_nilCheck (OT.tmp rfl)) rfl rfl ?_
        refine op_acts (acts_store_var (OT.tmp rfl) (OT.tmp rfl) (by exact perm_at 0 rfl) (show tyOk Try.prog 114 false 1 = true from by decide +kernel)) (by exact perm_at 0 rfl) rfl rfl (fun _ _ => ?_)
        refine tr_nil ?_
        generalize bitsV _ _ _ _ = n3
        refine then_normal ?_
        refine tr_seq ?_
        -- region 4
        refine tr_env (es_cons (t := 0) (OT.tmp rfl) es_nil) ?_
        refine tr_region ?_
        refine op_pure (pu_move (OT.tmp rfl)) rfl rfl ?_
        refine op_pure (pu_nilCheck (OT.tmp rfl)) rfl rfl ?_
        refine op_pure (pu_load_var (OT.tmp rfl) (by exact mem_at 0 rfl) (show tyOk Try.prog 114 false 1 = true from by decide +kernel)) rfl rfl ?_
        refine op_pure (pu_assign (OT.tmp rfl)) rfl rfl ?_
        refine tr_nil ?_
        refine then_normal ?_
        refine tr_ret ?_
        exact ret_one .ret (.inl rfl) rfl _ (OT.tmp rfl) trivial (by repeat (first | exact picks_nil | refine picks_cons 0 rfl ?_ | refine picks_cons 1 rfl ?_ | refine picks_cons 2 rfl ?_ | refine picks_cons 3 rfl ?_ | refine picks_cons 4 rfl ?_ | refine picks_cons 5 rfl ?_ | refine picks_cons 6 rfl ?_))
set_option maxHeartbeats 1000000 in
set_option maxRecDepth 20000 in
/-- slices.nextPowerOfTwo -/
theorem npow_fn (n : Nat) (h0 : 0 < n) (h1 : n < 4611686018427387904) : Ct Try.prog 91 [I64 (n : Int)] ([]) Unit (fun _ => IntT .u64 (((2 ^ Lib.bitLen n : Nat) : Int))) (fun _ => []) (fun _ => True) := by
  refine fn_intro Try.func91 rfl rfl ?_
  intro H w
  have hp := two_pow_in h0 h1
  have hz : ((n : Int)).toNat = n := Int.toNat_natCast n
  refine tr_seq ?_
  -- region 0
  refine tr_env (es_cons (t := 0) (OT.tmp rfl) es_nil) ?_
  refine tr_region ?_
  refine op_pure (pu_assign OT.const) rfl rfl ?_
  refine tr_nil ?_
  refine then_normal ?_
  refine tr_seq ?_
  -- region 1
  refine tr_env (es_cons (t := 0) (OT.tmp rfl) es_nil) ?_
  refine tr_region ?_
  refine op_pure (pu_move (OT.tmp rfl)) rfl rfl ?_
  refine op_pure (pu_convert' (OT.tmp rfl) Try.underlying3 Try.underlying98 (by omega) (by omega) rfl) rfl rfl ?_
  refine op_acts (acts_call (bits_ct (n : Int) (by omega) (by omega)) (show enters Try.prog 74 = true from by decide +kernel) (OTs.cons (OT.tmp rfl) OTs.nil) (List.Perm.refl _)) (List.Perm.refl _) rfl rfl (fun _ _ => ?_)
  refine op_pure (pu_shl OT.const (OT.tmp rfl) (by omega)) rfl rfl ?_
  refine op_pure (pu_assign (OT.tmp rfl)) rfl rfl ?_
  refine tr_nil ?_
  refine then_normal ?_
  refine tr_ret ?_
  exact ret_one .ret (.inl rfl) rfl () (OT.val (OT.tmp rfl) (congrArg (Value.int _) hp.1)) trivial (by exact picks_nil)
set_option maxHeartbeats 1000000 in
set_option maxRecDepth 20000 in
/-- slices.breakPatternsCmpFunc[rhizome/api.Tuple] -/
theorem break_fn (v fv : Value) (d : DA) (a b : Nat) (hm : d.size < 4611686018427387904) (hab : a < b) (hb : b ≤ d.size) : Ct Try.prog 82 [IsV v, I64 (a : Int), I64 (b : Int), IsV fv] ([OwnI 38 (kF K0 n0) v d.toList]) DA (fun r => AnyT) (fun r => [OwnI 38 (kF K0 n0) v r.toList]) (fun r => Sort.PermIn a b d r) := by
  refine fn_intro Try.func82 rfl rfl ?_
  intro H w
  refine tr_seq ?_
  -- region 0
  refine tr_env (es_cons (t := 0) (OT.tmp rfl) (es_cons (t := 1) (OT.tmp rfl) (es_cons (t := 2) (OT.tmp rfl) es_nil))) ?_
  refine tr_region ?_
  refine op_pure (pu_move (OT.tmp rfl)) rfl rfl ?_
  refine op_pure (pu_move (OT.tmp rfl)) rfl rfl ?_
  refine op_pure (pu_sub' (OT.tmp rfl) (OT.tmp rfl) (by omega)) rfl rfl ?_
  refine op_pure (pu_assign (OT.tmp rfl)) rfl rfl ?_
  refine tr_nil ?_
  refine then_normal ?_
  refine tr_seq ?_
  -- region 1
  refine tr_env (es_cons (t := 0) (OT.tmp rfl) (es_cons (t := 1) (OT.tmp rfl) (es_cons (t := 8) (OT.tmp rfl) es_nil))) ?_
  rw [show (b : Int) - a = ((b - a : Nat) : Int) from by omega]
  obtain ⟨l, hl⟩ : ∃ l : Nat, b - a = l := ⟨_, rfl⟩
  rw [hl]
  refine tr_region ?_
  refine op_pure (pu_move (OT.tmp rfl)) rfl rfl ?_
  refine op_pure (pu_geq (OT.tmp rfl) OT.const) rfl rfl ?_
  refine tr_nil ?_
  refine then_normal ?_
  refine tr_cond (OT.tmp rfl) (fun c17 => ?_) (fun c17 => ?_)
  · try simp only [decide_eq_true_eq, decide_eq_false_iff_not, Bool.or_eq_true, Bool.and_eq_true, Bool.or_eq_false_iff, Bool.and_eq_false_iff, Bool.not_eq_true', Bool.not_eq_false', ne_eq, Classical.not_not] at c17
    refine tr_seq ?_
    -- region 2
    refine tr_env (es_cons (t := 0) (OT.tmp rfl) (es_cons (t := 1) (OT.tmp rfl) (es_cons (t := 8) (OT.tmp rfl) es_nil))) ?_
    refine tr_region ?_
    refine op_pure (pu_move (OT.tmp rfl)) rfl rfl ?_
    refine op_pure (pu_convert' (OT.tmp rfl) Try.underlying3 Try.underlying114 (by omega) (by omega) rfl) rfl rfl ?_
    skip
    refine op_acts (acts_alloc (d := kU) (v := 0) ⟨.int .u64 0, by kernel_rfl, fun H => rfl⟩) (List.Perm.refl _) rfl rfl (fun g2_2 _ => ?_)
    refine op_acts (acts_store_var (OT.tmp rfl) (OT.tmp rfl) (by exact perm_at 0 rfl) (show tyOk Try.prog 114 false 1 = true from by decide +kernel)) (by exact perm_at 0 rfl) rfl rfl (fun _ _ => ?_)
    refine tr_nil ?_
    refine then_normal ?_
    refine tr_seq ?_
    -- region 3
    refine tr_env (es_cons (t := 0) (OT.tmp rfl) (es_cons (t := 1) (OT.tmp rfl) (es_cons (t := 8) (OT.tmp rfl) (es_cons (t := 9) (OT.tmp rfl) es_nil)))) ?_
    refine tr_region ?_
    refine op_pure (pu_move (OT.tmp rfl)) rfl rfl ?_
    refine op_acts (acts_call (npow_fn _ (by omega) (by omega)) (show enters Try.prog 91 = true from by decide +kernel) (OTs.cons (OT.tmp rfl) OTs.nil) (List.Perm.refl _)) (List.Perm.refl _) rfl rfl (fun _ _ => ?_)
    refine op_pure (pu_assign (OT.tmp rfl)) rfl rfl ?_
    refine tr_nil ?_
    refine then_normal ?_
    refine tr_seq ?_
    -- region 4
    refine tr_env (es_cons (t := 0) (OT.tmp rfl) (es_cons (t := 1) (OT.tmp rfl) (es_cons (t := 8) (OT.tmp rfl) (es_cons (t := 9) (OT.tmp rfl) (es_cons (t := 10) (OT.tmp rfl) es_nil))))) ?_
    obtain ⟨m, hm2, hm0, hmd⟩ : ∃ m : Nat, m ≤ 2 * l ∧ 0 < m ∧ 2 ^ Lib.bitLen l = m := ⟨_, (two_pow_in (n := l) (by omega) (by omega)).2.1, (two_pow_in (n := l) (by omega) (by omega)).2.2, rfl⟩
    rw [hmd]
    refine tr_region ?_
    refine op_pure (pu_move (OT.tmp rfl)) rfl rfl ?_
    refine op_pure (pu_move (OT.tmp rfl)) rfl rfl ?_
    refine op_pure (pu_quo' (OT.tmp rfl) OT.const (by omega) (by omega)) rfl rfl ?_
    refine op_pure (pu_mul' (OT.tmp rfl) OT.const (by omega)) rfl rfl ?_
    refine op_pure (pu_add' (OT.tmp rfl) (OT.tmp rfl) (by omega)) rfl rfl ?_
    refine op_pure (pu_sub' (OT.tmp rfl) OT.const (by omega)) rfl rfl ?_
    refine op_pure (pu_assign (OT.tmp rfl)) rfl rfl ?_
    refine tr_nil ?_
    refine then_normal ?_
    refine tr_block ?_
    refine tr_loopK (σ := Nat × DA × Int) (es_cons (t := 0) (OT.tmp rfl) (es_cons (t := 1) (OT.tmp rfl) (es_cons (t := 8) (OT.tmp rfl) (es_cons (t := 9) (OT.tmp rfl) (es_cons (t := 10) (OT.tmp rfl) es_nil))))) (fun s => [(11, I64 (s.1 : Int))]) (fun s => [OwnI 38 (kF K0 n0) v s.2.1.toList, BlkI g2_2 114 kU s.2.2]) (fun s => a + l / 4 * 2 - 1 ≤ s.1 ∧ s.1 ≤ a + l / 4 * 2 + 2 ∧ s.2.1.size = d.size ∧ Sort.PermIn a b d s.2.1) (fun s => a + l / 4 * 2 + 2 - s.1) (a + l / 4 * 2 - 1, d, _) ⟨Nat.le_refl _, by show a + l / 4 * 2 - 1 ≤ a + l / 4 * 2 + 2; omega, rfl, Sort.permIn_refl _ _ _⟩ ?_ (own_picks (by repeat (first | exact picks_nil | refine picks_cons 0 rfl ?_ | refine picks_cons 1 rfl ?_ | refine picks_cons 2 rfl ?_ | refine picks_cons 3 rfl ?_ | refine picks_cons 4 rfl ?_ | refine picks_cons 5 rfl ?_ | refine picks_cons 6 rfl ?_))) ?_
    · exact (es_cons (t := 11) (OT.val (OT.tmp rfl) (congrArg (Value.int _) (by show _ = ((a + l / 4 * 2 - 1 : Nat) : Int); omega))) es_nil)
    · rintro ⟨k, d1, x⟩ ⟨hk0, hk1, hs1, hp⟩
      dsimp only at hk0 hk1 hs1 hp ⊢
      have hl1 : d1.toList.length = d1.size := Array.length_toList
      refine tr_seq ?_
      refine tr_seq ?_
      -- region 5
      refine tr_env (es_cons (t := 0) (OT.tmp rfl) (es_cons (t := 1) (OT.tmp rfl) (es_cons (t := 8) (OT.tmp rfl) (es_cons (t := 9) (OT.tmp rfl) (es_cons (t := 10) (OT.tmp rfl) (es_cons (t := 11) (OT.tmp rfl) es_nil)))))) ?_
      refine tr_region ?_
      refine op_pure (pu_move (OT.tmp rfl)) rfl rfl ?_
      refine op_pure (pu_move (OT.tmp rfl)) rfl rfl ?_
      refine op_pure (pu_move (OT.tmp rfl)) rfl rfl ?_
      refine op_pure (pu_quo' (OT.tmp rfl) OT.const (by omega) (by omega)) rfl rfl ?_
      refine op_pure (pu_mul' (OT.tmp rfl) OT.const (by omega)) rfl rfl ?_
      refine op_pure (pu_add' (OT.tmp rfl) (OT.tmp rfl) (by omega)) rfl rfl ?_
      refine op_pure (pu_add' (OT.tmp rfl) OT.const (by omega)) rfl rfl ?_
      refine op_pure (pu_leq (OT.tmp rfl) (OT.tmp rfl)) rfl rfl ?_
      refine tr_nil ?_
      refine then_normal ?_
      refine tr_cond (OT.tmp rfl) (fun c35 => ?_) (fun c35 => ?_)
      · try simp only [decide_eq_true_eq, decide_eq_false_iff_not, Bool.or_eq_true, Bool.and_eq_true, Bool.or_eq_false_iff, Bool.and_eq_false_iff, Bool.not_eq_true', Bool.not_eq_false', ne_eq, Classical.not_not] at c35
        refine tr_skip ?_
        refine then_normal ?_
        refine tr_seq ?_
        refine tr_block ?_
        refine tr_seq ?_
        -- region 7
        refine tr_env (es_cons (t := 0) (OT.tmp rfl) (es_cons (t := 1) (OT.tmp rfl) (es_cons (t := 8) (OT.tmp rfl) (es_cons (t := 9) (OT.tmp rfl) (es_cons (t := 10) (OT.tmp rfl) (es_cons (t := 11) (OT.tmp rfl) es_nil)))))) ?_
        refine tr_region ?_
        refine op_acts (acts_call (next_fn _ _) (show enters Try.prog 92 = true from by decide +kernel) (OTs.cons (OT.tmp rfl) OTs.nil) (by exact perm_at 1 rfl)) (by exact perm_at 1 rfl) rfl rfl (fun x7_0 _ => ?_)
        refine op_pure (pu_move (OT.tmp rfl)) rfl rfl ?_
        refine op_pure (pu_sub_u (OT.tmp rfl) OT.const (by omega) (by omega)) rfl rfl ?_
        refine op_pure (pu_bits (OT.tmp rfl) (OT.tmp rfl) (.inl rfl)) rfl rfl ?_
        have hbv := and_le (m := x7_0) (n := (m : Int) - 1) (by omega) (by omega)
        refine op_pure (pu_convert' (OT.tmp rfl) Try.underlying98 Try.underlying3 (by omega) (by omega) rfl) rfl rfl ?_
        refine op_pure (pu_assign (OT.tmp rfl)) rfl rfl ?_
        refine tr_nil ?_
        generalize bitsV _ _ _ _ = o1 at hbv ⊢
        refine then_normal ?_
        refine tr_joinK (σ := Nat) (es_cons (t := 0) (OT.tmp rfl) (es_cons (t := 1) (OT.tmp rfl) (es_cons (t := 8) (OT.tmp rfl) (es_cons (t := 9) (OT.tmp rfl) (es_cons (t := 10) (OT.tmp rfl) (es_cons (t := 11) (OT.tmp rfl) es_nil)))))) (fun o => [(12, I64 (o : Int))]) (fun o => [OwnI 38 (kF K0 n0) v d1.toList, BlkI g2_2 114 kU x7_0]) (fun o => o < l) ?_ ?_
        · skip
          refine tr_seq ?_
          -- region 8
          refine tr_env (es_cons (t := 0) (OT.tmp rfl) (es_cons (t := 1) (OT.tmp rfl) (es_cons (t := 8) (OT.tmp rfl) (es_cons (t := 9) (OT.tmp rfl) (es_cons (t := 10) (OT.tmp rfl) (es_cons (t := 11) (OT.tmp rfl) (es_cons (t := 12) (OT.tmp rfl) es_nil))))))) ?_
          refine tr_region ?_
          refine op_pure (pu_move (OT.tmp rfl)) rfl rfl ?_
          refine op_pure (pu_move (OT.tmp rfl)) rfl rfl ?_
          refine op_pure (pu_geq (OT.tmp rfl) (OT.tmp rfl)) rfl rfl ?_
          refine tr_nil ?_
          refine then_normal ?_
          refine tr_cond (OT.tmp rfl) (fun c45 => ?_) (fun c45 => ?_)
          · try simp only [decide_eq_true_eq, decide_eq_false_iff_not, Bool.or_eq_true, Bool.and_eq_true, Bool.or_eq_false_iff, Bool.and_eq_false_iff, Bool.not_eq_true', Bool.not_eq_false', ne_eq, Classical.not_not] at c45
            -- region 9
            refine tr_env (es_cons (t := 0) (OT.tmp rfl) (es_cons (t := 1) (OT.tmp rfl) (es_cons (t := 8) (OT.tmp rfl) (es_cons (t := 9) (OT.tmp rfl) (es_cons (t := 10) (OT.tmp rfl) (es_cons (t := 11) (OT.tmp rfl) (es_cons (t := 12) (OT.tmp rfl) es_nil))))))) ?_
            refine tr_region ?_
            refine op_pure (pu_move (OT.tmp rfl)) rfl rfl ?_
            refine op_pure (pu_move (OT.tmp rfl)) rfl rfl ?_
            refine op_pure (pu_sub' (OT.tmp rfl) (OT.tmp rfl) (by omega)) rfl rfl ?_
            refine op_pure (pu_assign (OT.tmp rfl)) rfl rfl ?_
            refine tr_nil ?_
            refine then_normal ?_
            exact tr_joined (o1 - l).toNat (by omega) (es_append (es_cons (t := 12) (OT.val (OT.tmp rfl) (congrArg (Value.int _) (by omega))) es_nil) (es_cons (t := 0) (OT.tmp rfl) (es_cons (t := 1) (OT.tmp rfl) (es_cons (t := 8) (OT.tmp rfl) (es_cons (t := 9) (OT.tmp rfl) (es_cons (t := 10) (OT.tmp rfl) (es_cons (t := 11) (OT.tmp rfl) es_nil))))))) (own_picks (by repeat (first | exact picks_nil | refine picks_cons 0 rfl ?_ | refine picks_cons 1 rfl ?_ | refine picks_cons 2 rfl ?_ | refine picks_cons 3 rfl ?_ | refine picks_cons 4 rfl ?_ | refine picks_cons 5 rfl ?_ | refine picks_cons 6 rfl ?_)))
          · try simp only [decide_eq_true_eq, decide_eq_false_iff_not, Bool.or_eq_true, Bool.and_eq_true, Bool.or_eq_false_iff, Bool.and_eq_false_iff, Bool.not_eq_true', Bool.not_eq_false', ne_eq, Classical.not_not] at c45
            refine tr_skip ?_
            refine then_normal ?_
            exact tr_joined o1.toNat (by omega) (es_append (es_cons (t := 12) (OT.val (OT.tmp rfl) (congrArg (Value.int _) (by omega))) es_nil) (es_cons (t := 0) (OT.tmp rfl) (es_cons (t := 1) (OT.tmp rfl) (es_cons (t := 8) (OT.tmp rfl) (es_cons (t := 9) (OT.tmp rfl) (es_cons (t := 10) (OT.tmp rfl) (es_cons (t := 11) (OT.tmp rfl) es_nil))))))) (own_picks (by repeat (first | exact picks_nil | refine picks_cons 0 rfl ?_ | refine picks_cons 1 rfl ?_ | refine picks_cons 2 rfl ?_ | refine picks_cons 3 rfl ?_ | refine picks_cons 4 rfl ?_ | refine picks_cons 5 rfl ?_ | refine picks_cons 6 rfl ?_)))
        · rintro o ho
          -- region 10
          refine tr_env (es_cons (t := 0) (OT.tmp rfl) (es_cons (t := 1) (OT.tmp rfl) (es_cons (t := 8) (OT.tmp rfl) (es_cons (t := 9) (OT.tmp rfl) (es_cons (t := 10) (OT.tmp rfl) (es_cons (t := 11) (OT.tmp rfl) (es_cons (t := 12) (OT.tmp rfl) es_nil))))))) ?_
          apply tr_anyW (p := 17) (Lf := fun c => cond c ([OwnI 38 (kF K0 n0) v (d1.toList.set (k : Int).toNat (at' d1.toList ((a : Int) + o))), BlkI g2_2 114 kU x7_0]) ([OwnI 38 (kF K0 n0) v d1.toList, BlkI g2_2 114 kU x7_0])) (by kernel_rfl) (m := 18) (ns := [[(0, none)], [(11, none)], [(0, none)], [(1, none)], [(12, none)], [(52, some 3), (53, some 4)], [(0, none)], [(1, none)], [(12, none)], [(56, some 7), (57, some 8)], [(55, some 6), (58, some 9)], [(59, some 10)], [(0, none)], [(11, none)], [(61, some 12), (62, some 13)], [(63, some 14)], [(49, some 0), (50, some 1)], [(60, some 11), (65, some 16)]]) (by kernel_rfl) (by kernel_rfl) (Ts := [_, _, _, _, _, _, _, _, _, _, _, _, _, _, _, _, _, _]) rfl
          case hops =>
            refine ⟨?_, ⟨?_, ⟨?_, ⟨?_, ⟨?_, ⟨?_, ⟨?_, ⟨?_, ⟨?_, ⟨?_, ⟨?_, ⟨?_, ⟨?_, ⟨?_, ⟨?_, ⟨?_, ⟨?_, ⟨?_, trivial⟩⟩⟩⟩⟩⟩⟩⟩⟩⟩⟩⟩⟩⟩⟩⟩⟩⟩
            · intro c hc; cases c
              · exact ropw_of (rop_pure rfl (pu_move (OT.tmp rfl)))
              · exact Bool.noConfusion (hc.symm.trans (by kernel_rfl : okFlag _ _ _ _ = false))
            · intro c hc; cases c
              · exact ropw_of (rop_pure rfl (pu_move (OT.tmp rfl)))
              · exact Bool.noConfusion (hc.symm.trans (by kernel_rfl : okFlag _ _ _ _ = false))
            · intro c hc; cases c
              · exact ropw_of (rop_pure rfl (pu_move (OT.tmp rfl)))
              · exact ropw_of (rop_pure rfl (pu_move (OT.tmp rfl)))
            · intro c hc; cases c
              · exact ropw_of (rop_pure rfl (pu_move (OT.tmp rfl)))
              · exact ropw_of (rop_pure rfl (pu_move (OT.tmp rfl)))
            · intro c hc; cases c
              · exact ropw_of (rop_pure rfl (pu_move (OT.tmp rfl)))
              · exact ropw_of (rop_pure rfl (pu_move (OT.tmp rfl)))
            · intro c hc; cases c
              · exact ropw_of (rop_pure rfl (pu_add' (OT.tmp rfl) (OT.tmp rfl) (by omega)))
              · exact ropw_of (rop_pure rfl (pu_add' (OT.tmp rfl) (OT.tmp rfl) (by omega)))
            · intro c hc; cases c
              · exact ropw_of (rop_pure rfl (pu_move (OT.tmp rfl)))
              · exact Bool.noConfusion (hc.symm.trans (by kernel_rfl : okFlag _ _ _ _ = false))
            · intro c hc; cases c
              · exact ropw_of (rop_pure rfl (pu_move (OT.tmp rfl)))
              · exact Bool.noConfusion (hc.symm.trans (by kernel_rfl : okFlag _ _ _ _ = false))
            · intro c hc; cases c
              · exact ropw_of (rop_pure rfl (pu_move (OT.tmp rfl)))
              · exact Bool.noConfusion (hc.symm.trans (by kernel_rfl : okFlag _ _ _ _ = false))
            · intro c hc; cases c
              · exact ropw_of (rop_pure rfl (pu_add' (OT.tmp rfl) (OT.tmp rfl) (by omega)))
              · exact Bool.noConfusion (hc.symm.trans (by kernel_rfl : okFlag _ _ _ _ = false))
            · intro c hc; cases c
              · exact ropw_of (rop_pure rfl (pu_index_own (OT.tmp rfl) (by exact mem_at 0 rfl) (OT.tmp rfl) Try.underlying40 (show tyOk Try.prog 38 false 1 = true from by decide +kernel) (by omega) (by omega)))
              · exact Bool.noConfusion (hc.symm.trans (by kernel_rfl : okFlag _ _ _ _ = false))
            · intro c hc; cases c
              · exact ropw_of (rop_pure rfl (pu_load_own0 (OT.tmp rfl) (by exact mem_at 0 rfl) (by omega) (by omega) (show tyOk Try.prog 38 false 1 = true from by decide +kernel)))
              · exact Bool.noConfusion (hc.symm.trans (by kernel_rfl : okFlag _ _ _ _ = false))
            · intro c hc; cases c
              · exact ropw_of (rop_pure rfl (pu_move (OT.tmp rfl)))
              · exact Bool.noConfusion (hc.symm.trans (by kernel_rfl : okFlag _ _ _ _ = false))
            · intro c hc; cases c
              · exact ropw_of (rop_pure rfl (pu_move (OT.tmp rfl)))
              · exact Bool.noConfusion (hc.symm.trans (by kernel_rfl : okFlag _ _ _ _ = false))
            · intro c hc; cases c
              · exact ropw_of (rop_pure rfl (pu_index_own (OT.tmp rfl) (by exact mem_at 0 rfl) (OT.tmp rfl) Try.underlying40 (show tyOk Try.prog 38 false 1 = true from by decide +kernel) (by omega) (by omega)))
              · exact Bool.noConfusion (hc.symm.trans (by kernel_rfl : okFlag _ _ _ _ = false))
            · intro c hc; cases c
              · exact ropw_of (rop_pure rfl (pu_load_own0 (OT.tmp rfl) (by exact mem_at 0 rfl) (by omega) (by omega) (show tyOk Try.prog 38 false 1 = true from by decide +kernel)))
              · exact Bool.noConfusion (hc.symm.trans (by kernel_rfl : okFlag _ _ _ _ = false))
            · intro c hc; cases c
              · exact ropw_of (rop_pure rfl (pu_index_own (OT.tmp rfl) (by exact mem_at 0 rfl) (OT.tmp rfl) Try.underlying40 (show tyOk Try.prog 38 false 1 = true from by decide +kernel) (by omega) (by omega)))
              · exact Bool.noConfusion (hc.symm.trans (by kernel_rfl : okFlag _ _ _ _ = false))
            · intro c hc; cases c
              · exact ropw_acts rfl (acts_store_own0 (OT.tmp rfl) (OT.tmp rfl) (by exact perm_at 0 rfl) (by omega) (by omega) (show tyOk Try.prog 38 false 1 = true from by decide +kernel)) (by exact perm_at 0 rfl) (fun _ => (by exact perm_at 0 rfl)) (fun _ _ _ _ h => h)
              · exact Bool.noConfusion (hc.symm.trans (by kernel_rfl : okFlag _ _ _ _ = false))
          case h =>
            refine op_pure (pu_index_own (OT.tmp rfl) (by exact mem_at 0 rfl) (OT.tmp rfl) Try.underlying40 (show tyOk Try.prog 38 false 1 = true from by decide +kernel) (by omega) (by (simp; omega))) rfl rfl ?_
            refine op_acts (acts_store_own0 (OT.tmp rfl) (OT.tmp rfl) (by exact perm_at 0 rfl) (by omega) (by (simp; omega)) (show tyOk Try.prog 38 false 1 = true from by decide +kernel)) (by exact perm_at 0 rfl) rfl rfl (fun _ _ => ?_)
            refine tr_nil ?_
            have hsw : (Sort.swp d1 k (a + o)).toList = (d1.toList.set (k : Int).toNat (at' d1.toList ((a : Int) + o))).set ((a : Int) + o).toNat (at' d1.toList (k : Int)) := by
              rw [swp_items (by omega) (by omega) (by omega) (by omega)]; congr 2
            refine block_normal ?_
            refine then_normal ?_
            -- region 6
            refine tr_env (es_cons (t := 0) (OT.tmp rfl) (es_cons (t := 1) (OT.tmp rfl) (es_cons (t := 8) (OT.tmp rfl) (es_cons (t := 9) (OT.tmp rfl) (es_cons (t := 10) (OT.tmp rfl) (es_cons (t := 11) (OT.tmp rfl) es_nil)))))) ?_
            refine tr_region ?_
            refine op_pure (pu_move (OT.tmp rfl)) rfl rfl ?_
            refine op_pure (pu_add' (OT.tmp rfl) OT.const (by omega)) rfl rfl ?_
            refine op_pure (pu_assign (OT.tmp rfl)) rfl rfl ?_
            refine tr_nil ?_
            refine then_normal ?_
            exact tr_again (k + 1, Sort.swp d1 k (a + o), x7_0) ⟨by show _ ≤ k + 1; omega, by show k + 1 ≤ _; omega, swp_size.trans hs1, Sort.permIn_trans _ _ _ _ _ hp (Sort.swp_permIn _ _ _ _ _ (by omega) (by omega) (by omega) (by omega) (by omega))⟩ (by show a + l / 4 * 2 + 2 - (k + 1) < a + l / 4 * 2 + 2 - k; omega) (es_append (es_cons (t := 11) (by exact OT.tmp rfl) es_nil) (es_cons (t := 0) (OT.tmp rfl) (es_cons (t := 1) (OT.tmp rfl) (es_cons (t := 8) (OT.tmp rfl) (es_cons (t := 9) (OT.tmp rfl) (es_cons (t := 10) (OT.tmp rfl) es_nil)))))) (own_picks (by rw [hsw]; exact (by repeat (first | exact picks_nil | refine picks_cons 0 rfl ?_ | refine picks_cons 1 rfl ?_ | refine picks_cons 2 rfl ?_ | refine picks_cons 3 rfl ?_ | refine picks_cons 4 rfl ?_ | refine picks_cons 5 rfl ?_ | refine picks_cons 6 rfl ?_))))
      · try simp only [decide_eq_true_eq, decide_eq_false_iff_not, Bool.or_eq_true, Bool.and_eq_true, Bool.or_eq_false_iff, Bool.and_eq_false_iff, Bool.not_eq_true', Bool.not_eq_false', ne_eq, Classical.not_not] at c35
        refine tr_exit ?_
        refine then_exit ?_
        refine then_exit ?_
        refine block_hit ?_
        exact ret_none .normal (.inr rfl) rfl d1 (fun _ => trivial) hp (by repeat (first | exact picks_nil | refine picks_cons 0 rfl ?_ | refine picks_cons 1 rfl ?_ | refine picks_cons 2 rfl ?_ | refine picks_cons 3 rfl ?_ | refine picks_cons 4 rfl ?_ | refine picks_cons 5 rfl ?_ | refine picks_cons 6 rfl ?_))
  · try simp only [decide_eq_true_eq, decide_eq_false_iff_not, Bool.or_eq_true, Bool.and_eq_true, Bool.or_eq_false_iff, Bool.and_eq_false_iff, Bool.not_eq_true', Bool.not_eq_false', ne_eq, Classical.not_not] at c17
    refine tr_skip ?_
    exact ret_none .normal (.inr rfl) rfl d (fun _ => trivial) (Sort.permIn_refl _ _ _) (by repeat (first | exact picks_nil | refine picks_cons 0 rfl ?_ | refine picks_cons 1 rfl ?_ | refine picks_cons 2 rfl ?_ | refine picks_cons 3 rfl ?_ | refine picks_cons 4 rfl ?_ | refine picks_cons 5 rfl ?_ | refine picks_cons 6 rfl ?_))
end Go.Proofs.Ytloblpklkhepbaa
