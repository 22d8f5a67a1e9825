/- Walks through the Go functions api.Tuple,int], api.Tuple,int], api.Tuple], tuple.own, api.Tuple], api.Tuple], as typed contracts. -/
import Derived.Test.YtloblpklkhepbaaTu4
import Derived.Test.YtloblpklkhepbaaTuD
import Derived.Test.YtloblpklkhepbaaSo7
namespace Go.Proofs.Ytloblpklkhepbaa
open Go Go.Gw Go.So Go.Tu
set_option linter.unusedVariables false
set_option linter.unusedSimpArgs false
variable {K0 : FH} {n0 : Nat}
theorem z38f : ZeroOf Try.prog 38 (kF K0 n0) [] := ⟨nilS, by kernel_rfl, fun H => ⟨⟨⟨none, 0, rfl, by simp, by simp, fun h => by simp at h⟩, trivial, trivial⟩, none, rfl⟩⟩
theorem nil_fr {α : Type} {d : Kd α} {N : Nat} {Γ : Env} {x : Operand} (h : OT N Γ x (IsV nilS)) : OT N Γ x (FreshT K0 n0 d []) := fun a H f => ⟨nil_slt (h a H f), by rw [show a.eval x = nilS from h a H f]; exact ⟨trivial, trivial⟩⟩
theorem cmp_fv (x y : Tp) : CtV Try.prog (.func (.func 22) #[] #[]) [(kF K0 n0).T x, (kF K0 n0).T y] [] Unit (fun _ => I64 (cmpL x y)) (fun _ => []) (fun _ => True) := CtV.of0 (Ct.args two_fresh (Cmp_all x y)) (by kernel_rfl)
theorem same_fv (x y : Tp) : CtV Try.prog (.func (.func 60) #[] #[]) [(kF K0 n0).T x, (kF K0 n0).T y] [] Unit (fun _ => BoolT (decide (x = y))) (fun _ => []) (fun _ => True) := CtV.of0 (Ct.args two_fresh (same_all x y)) (by kernel_rfl)
theorem bitLen_small {n : Nat} (h : n < 4611686018427387904) : Lib.bitLen n < 4611686018427387904 := by
  rcases Nat.eq_zero_or_pos n with h0 | h0
  · subst h0; decide
  · have h1 := (two_pow_in h0 h).2.1
    have h2 : Lib.bitLen n < 2 ^ Lib.bitLen n := Nat.lt_two_pow_self
    rcases Nat.lt_or_ge (Lib.bitLen n) 64 with h3 | h3
    · omega
    · have := Nat.pow_le_pow_right (n := 2) (by omega) h3
      omega

set_option maxHeartbeats 1000000 in
set_option maxRecDepth 20000 in
/-- slices.Clone[rhizome/api.Tuple,int] -/
theorem Clone_fn (xs : Tp) (hm : xs.length ≤ 1000) : CtM K0 n0 Try.prog 72 [SlT kI6 xs] ([]) Unit (fun _ => FreshT K0 n0 kI6 xs) (fun _ => []) (fun _ => True) := by
  refine fn_introM Try.func72 rfl rfl ?_
  intro H w hK hn
  refine tr_seq ?_
  -- region 0
  refine tr_env (es_cons (t := 0) (OT.tmp rfl) es_nil) ?_
  refine tr_region ?_
  refine op_pure (pu_assign OT.const) rfl rfl ?_
  refine tr_nil ?_
  refine then_normal ?_
  refine tr_seq ?_
  refine tr_seq ?_
  -- region 1
  refine tr_env (es_cons (t := 0) (OT.tmp rfl) es_nil) ?_
  refine tr_region ?_
  refine op_pure (pu_move (OT.tmp rfl)) rfl rfl ?_
  refine op_acts (acts_isnil (OT.tmp rfl) Try.underlying38) (List.Perm.refl _) rfl rfl (fun b1 hb1 => ?_)
  refine tr_nil ?_
  refine then_normal ?_
  refine tr_cond (OT.tmp rfl) (fun c4 => ?_) (fun c4 => ?_)
  · try simp only [decide_eq_true_eq, decide_eq_false_iff_not, Bool.or_eq_true, Bool.and_eq_true, Bool.or_eq_false_iff, Bool.and_eq_false_iff, Bool.not_eq_true', Bool.not_eq_false', ne_eq, Classical.not_not] at c4
    obtain rfl := hb1 c4
    refine tr_seq ?_
    -- region 2
    refine tr_env es_nil ?_
    refine tr_region ?_
    refine op_pure (pu_assign OT.const) rfl rfl ?_
    refine tr_nil ?_
    refine then_normal ?_
    refine tr_ret ?_
    refine then_ret ?_
    exact ret_one .ret (.inl rfl) rfl () (nil_fr (OT.tmp rfl)) trivial (by exact picks_nil)
  · try simp only [decide_eq_true_eq, decide_eq_false_iff_not, Bool.or_eq_true, Bool.and_eq_true, Bool.or_eq_false_iff, Bool.and_eq_false_iff, Bool.not_eq_true', Bool.not_eq_false', ne_eq, Classical.not_not] at c4
    refine tr_skip ?_
    refine then_normal ?_
    refine tr_seq ?_
    -- region 3
    refine tr_env (es_cons (t := 0) (OT.tmp rfl) es_nil) ?_
    refine tr_region ?_
    refine op_acts (acts_lit_own (d := kI6) (v0 := 0) (show slTy Try.prog 38 3 1 8 = true from by decide +kernel) (show tyOk Try.prog 3 false 1 = true from by decide +kernel) zi3 (show 0 * 1 ≤ 16777216 from by decide) (by decide) fills_nil) (List.Perm.refl _) rfl rfl (fun v3_0 _ => ?_)
    refine op_pure (pu_move (OT.tmp rfl)) rfl rfl ?_
    refine op_acts (acts_append (OT.tmp rfl) (by exact perm_at 0 rfl) (OT.tmp rfl) (show slTy Try.prog 38 3 1 8 = true from by decide +kernel) (by (simp; omega)) (by (simp [maxLen]; omega))) (by exact perm_at 0 rfl) rfl rfl (fun v3_2 _ => ?_)
    refine op_pure (pu_assign (OT.tmp rfl)) rfl rfl ?_
    refine tr_nil ?_
    refine tr_freezeF (mk_in hK hn) (fun g => blks_nil) (by exact perm_at 0 rfl) 2 (OT.tmp rfl) ?_
    refine then_normal ?_
    refine tr_ret ?_
    exact ret_one .ret (.inl rfl) rfl () (OT.tmp rfl) trivial (by exact picks_nil)
set_option maxHeartbeats 1000000 in
set_option maxRecDepth 20000 in
/-- slices.Clip[rhizome/api.Tuple,int] -/
theorem Clip_fn (xs : Tp) : Ct Try.prog 71 [FreshT K0 n0 kI6 xs] ([]) Unit (fun _ => ClipT K0 n0 kI6 xs) (fun _ => []) (fun _ => True) := by
  refine fn_intro Try.func71 rfl rfl ?_
  intro H w
  refine tr_seq ?_
  -- region 0
  refine tr_env (es_cons (t := 0) (OT.tmp rfl) es_nil) ?_
  refine tr_region ?_
  refine op_pure (pu_assign OT.const) rfl rfl ?_
  refine tr_nil ?_
  refine then_normal ?_
  refine tr_seq ?_
  -- region 1
  refine tr_env (es_cons (t := 0) (OT.tmp rfl) es_nil) ?_
  refine tr_region ?_
  refine op_pure (pu_move (OT.tmp rfl)) rfl rfl ?_
  refine op_pure (pu_move (OT.tmp rfl)) rfl rfl ?_
  refine tr_as 4 (OT.fresh (OT.tmp rfl)) ?_
  refine op_pure (pu_len_sl (OT.tmp rfl) Try.underlying38) rfl rfl ?_
  refine op_pure (pu_move (OT.tmp rfl)) rfl rfl ?_
  refine tr_as 6 (OT.fresh (OT.tmp rfl)) ?_
  refine op_pure (pu_len_sl (OT.tmp rfl) Try.underlying38) rfl rfl ?_
  refine op_pure (pu_clip (OT.tmp rfl) (OT.tmp rfl) (OT.tmp rfl) Try.underlying38 (show tyOk Try.prog 3 false 1 = true from by decide +kernel)) rfl rfl ?_
  refine op_pure (pu_assign (OT.tmp rfl)) rfl rfl ?_
  refine tr_nil ?_
  refine then_normal ?_
  refine tr_ret ?_
  exact ret_one .ret (.inl rfl) rfl () (OT.tmp rfl) trivial (by exact picks_nil)
set_option maxHeartbeats 1000000 in
set_option maxRecDepth 20000 in
/-- slices.Clip[[]rhizome/api.Tuple,rhizome/api.Tuple] -/
theorem ClipL_fn (xs : List Tp) : Ct Try.prog 58 [FreshT K0 n0 (kF K0 n0) xs] ([]) Unit (fun _ => FreshT K0 n0 (kF K0 n0) xs) (fun _ => []) (fun _ => True) := by
  refine fn_intro Try.func58 rfl rfl ?_
  intro H w
  refine tr_seq ?_
  -- region 0
  refine tr_env (es_cons (t := 0) (OT.tmp rfl) es_nil) ?_
  refine tr_region ?_
  refine op_pure (pu_assign OT.const) rfl rfl ?_
  refine tr_nil ?_
  refine then_normal ?_
  refine tr_seq ?_
  -- region 1
  refine tr_env (es_cons (t := 0) (OT.tmp rfl) es_nil) ?_
  refine tr_region ?_
  refine op_pure (pu_move (OT.tmp rfl)) rfl rfl ?_
  refine op_pure (pu_move (OT.tmp rfl)) rfl rfl ?_
  refine tr_as 4 (OT.fresh (OT.tmp rfl)) ?_
  refine op_pure (pu_len_sl (OT.tmp rfl) Try.underlying40) rfl rfl ?_
  refine op_pure (pu_move (OT.tmp rfl)) rfl rfl ?_
  refine tr_as 6 (OT.fresh (OT.tmp rfl)) ?_
  refine op_pure (pu_len_sl (OT.tmp rfl) Try.underlying40) rfl rfl ?_
  refine op_pure (pu_clip (OT.tmp rfl) (OT.tmp rfl) (OT.tmp rfl) Try.underlying40 (show tyOk Try.prog 38 false 1 = true from by decide +kernel)) rfl rfl ?_
  refine op_pure (pu_assign (OT.tmp rfl)) rfl rfl ?_
  refine tr_nil ?_
  refine then_normal ?_
  refine tr_ret ?_
  exact ret_one .ret (.inl rfl) rfl () (OT.unclip (OT.tmp rfl)) trivial (by exact picks_nil)
set_option maxHeartbeats 1000000 in
set_option maxRecDepth 20000 in
/-- rhizome/tuple.own -/
theorem own_fn (l : List Tp) (hs : Small l) : CtM K0 n0 Try.prog 56 [SlT kT l] ([]) Value (fun v => IsV v) (fun v => [OwnI 38 (kF K0 n0) v l]) (fun _ => True) := by
  refine fn_introM Try.func56 rfl rfl ?_
  intro H w hK hn
  have hsl := hs.1
  refine tr_seq ?_
  -- region 0
  refine tr_env (es_cons (t := 0) (OT.tmp rfl) es_nil) ?_
  refine tr_region ?_
  refine op_pure (pu_assign OT.const) rfl rfl ?_
  refine tr_nil ?_
  refine then_normal ?_
  refine tr_seq ?_
  -- region 1
  refine tr_env (es_cons (t := 0) (OT.tmp rfl) es_nil) ?_
  refine tr_region ?_
  refine op_pure (pu_move (OT.tmp rfl)) rfl rfl ?_
  refine op_pure (pu_len_sl (OT.tmp rfl) Try.underlying40) rfl rfl ?_
  refine op_acts (acts_make (d := (kF K0 n0)) OT.const (OT.tmp rfl) (show slTy Try.prog 40 38 1 24 = true from by decide +kernel) (by omega) (by omega) (by (simp [maxLen]; omega))) (List.Perm.refl _) rfl rfl (fun v1_2 _ => ?_)
  refine op_pure (pu_assign (OT.tmp rfl)) rfl rfl ?_
  refine tr_nil ?_
  refine then_normal ?_
  refine tr_seq ?_
  refine tr_seq ?_
  -- region 2
  refine tr_env (es_cons (t := 0) (OT.tmp rfl) (es_cons (t := 3) (OT.tmp rfl) es_nil)) ?_
  refine tr_region ?_
  refine op_pure (pu_move (OT.tmp rfl)) rfl rfl ?_
  refine op_pure (pu_len_sl (OT.tmp rfl) Try.underlying40) rfl rfl ?_
  refine op_pure (pu_move OT.const) rfl rfl ?_
  refine tr_nil ?_
  refine then_normal ?_
  refine tr_block ?_
  refine tr_loopK (σ := Nat × Value) (es_cons (t := 9) (OT.tmp rfl) (es_cons (t := 10) (OT.tmp rfl) es_nil)) (fun s => [(11, I64 (s.1 : Int)), (3, IsV s.2)]) (fun s => [OwnI 38 (kF K0 n0) s.2 (l.take s.1)]) (fun s => s.1 ≤ l.length) (fun s => l.length - s.1) (0, v1_2) (Nat.zero_le _) ?_ (own_picks (by repeat (first | exact picks_nil | refine picks_cons 0 rfl ?_ | refine picks_cons 1 rfl ?_ | refine picks_cons 2 rfl ?_ | refine picks_cons 3 rfl ?_ | refine picks_cons 4 rfl ?_ | refine picks_cons 5 rfl ?_ | refine picks_cons 6 rfl ?_))) ?_
  · exact (es_cons (t := 11) (by exact OT.tmp rfl) (es_cons (t := 3) (by exact OT.tmp rfl) es_nil))
  · rintro ⟨k, v⟩ hk
    dsimp only at hk ⊢
    have htl : (l.take k).length = k := by rw [List.length_take]; omega
    refine tr_seq ?_
    -- region 3
    refine tr_env (es_cons (t := 3) (OT.tmp rfl) (es_cons (t := 9) (OT.tmp rfl) (es_cons (t := 10) (OT.tmp rfl) (es_cons (t := 11) (OT.tmp rfl) es_nil)))) ?_
    refine tr_region ?_
    refine op_pure (pu_lss (OT.tmp rfl) (OT.tmp rfl)) rfl rfl ?_
    refine tr_nil ?_
    refine then_normal ?_
    refine tr_seq ?_
    refine tr_cond (OT.tmp rfl) (fun c12 => ?_) (fun c12 => ?_)
    · try simp only [decide_eq_true_eq, decide_eq_false_iff_not, Bool.or_eq_true, Bool.and_eq_true, Bool.or_eq_false_iff, Bool.and_eq_false_iff, Bool.not_eq_true', Bool.not_eq_false', ne_eq, Classical.not_not] at c12
      refine tr_skip ?_
      refine then_normal ?_
      refine tr_seq ?_
      refine tr_block ?_
      refine tr_seq ?_
      -- region 4
      refine tr_env (es_cons (t := 3) (OT.tmp rfl) (es_cons (t := 9) (OT.tmp rfl) (es_cons (t := 10) (OT.tmp rfl) (es_cons (t := 11) (OT.tmp rfl) es_nil)))) ?_
      refine tr_region ?_
      refine op_pure (pu_index (OT.tmp rfl) (OT.tmp rfl) Try.underlying40 (show tyOk Try.prog 38 false 1 = true from by decide +kernel) (by omega) (by omega)) rfl rfl ?_
      refine op_pure (pu_load (OT.tmp rfl) (show tyOk Try.prog 38 false 1 = true from by decide +kernel)) rfl rfl ?_
      refine op_pure (pu_assign (OT.tmp rfl)) rfl rfl ?_
      refine tr_nil ?_
      refine then_normal ?_
      -- region 5
      refine tr_env (es_cons (t := 3) (OT.tmp rfl) (es_cons (t := 5) (OT.tmp rfl) (es_cons (t := 9) (OT.tmp rfl) (es_cons (t := 10) (OT.tmp rfl) (es_cons (t := 11) (OT.tmp rfl) es_nil))))) ?_
      have hte := hs.at_ (k : Int)
      refine tr_region ?_
      refine op_pure (pu_move (OT.tmp rfl)) rfl rfl ?_
      refine op_pure (pu_move (OT.tmp rfl)) rfl rfl ?_
      refine op_acts (acts_callM (Clone_fn _ (by assumption)) (mk_in hK hn) (show enters Try.prog 72 = true from by decide +kernel) (OTs.cons (OT.tmp rfl) OTs.nil) (List.Perm.refl _)) (List.Perm.refl _) rfl rfl (fun _ _ => ?_)
      refine op_acts (acts_call (Clip_fn _) (show enters Try.prog 71 = true from by decide +kernel) (OTs.cons (OT.tmp rfl) OTs.nil) (List.Perm.refl _)) (List.Perm.refl _) rfl rfl (fun _ _ => ?_)
      refine op_acts (acts_lit (d := (kF K0 n0)) (v0 := []) (show slTy Try.prog 40 38 1 24 = true from by decide +kernel) (show tyOk Try.prog 38 false 1 = true from by decide +kernel) z38f (show 1 * 1 ≤ 16777216 from by decide) (by decide) (fills_arr rfl rfl (by decide) (OT.tmp rfl) fills_nil)) (List.Perm.refl _) rfl rfl (fun _ _ => ?_)
      refine op_acts (acts_append (OT.tmp rfl) (by exact perm_at 0 rfl) (OT.tmp rfl) (show slTy Try.prog 40 38 1 24 = true from by decide +kernel) (by (simp; omega)) (by (simp [maxLen]; omega))) (by exact perm_at 0 rfl) rfl rfl (fun v5_5 _ => ?_)
      refine op_pure (pu_assign (OT.tmp rfl)) rfl rfl ?_
      refine tr_nil ?_
      refine block_normal ?_
      refine then_normal ?_
      -- region 6
      refine tr_env (es_cons (t := 3) (OT.tmp rfl) (es_cons (t := 9) (OT.tmp rfl) (es_cons (t := 10) (OT.tmp rfl) (es_cons (t := 11) (OT.tmp rfl) es_nil)))) ?_
      refine tr_region ?_
      refine op_pure (pu_add' (OT.tmp rfl) OT.const (by omega)) rfl rfl ?_
      refine op_pure (pu_move (OT.tmp rfl)) rfl rfl ?_
      refine tr_nil ?_
      refine then_normal ?_
      exact tr_again (k + 1, v5_5) (by show k + 1 ≤ l.length; omega) (by omega) (es_append (es_cons (t := 11) (by exact OT.tmp rfl) (es_cons (t := 3) (by exact OT.tmp rfl) es_nil)) (es_cons (t := 9) (OT.tmp rfl) (es_cons (t := 10) (OT.tmp rfl) es_nil))) (own_picks (by rw [take_at (by omega)]; exact (by repeat (first | exact picks_nil | refine picks_cons 0 rfl ?_ | refine picks_cons 1 rfl ?_ | refine picks_cons 2 rfl ?_ | refine picks_cons 3 rfl ?_ | refine picks_cons 4 rfl ?_ | refine picks_cons 5 rfl ?_ | refine picks_cons 6 rfl ?_))))
    · try simp only [decide_eq_true_eq, decide_eq_false_iff_not, Bool.or_eq_true, Bool.and_eq_true, Bool.or_eq_false_iff, Bool.and_eq_false_iff, Bool.not_eq_true', Bool.not_eq_false', ne_eq, Classical.not_not] at c12
      refine tr_exit ?_
      refine then_exit ?_
      refine then_exit ?_
      refine block_hit ?_
      refine then_normal ?_
      refine tr_seq ?_
      -- region 7
      refine tr_env (es_cons (t := 3) (OT.tmp rfl) es_nil) ?_
      obtain rfl : k = l.length := by omega
      rw [List.take_length]
      refine tr_region ?_
      refine op_pure (pu_move (OT.tmp rfl)) rfl rfl ?_
      refine op_pure (pu_assign (OT.tmp rfl)) rfl rfl ?_
      refine tr_nil ?_
      refine then_normal ?_
      refine tr_ret ?_
      exact ret_one .ret (.inl rfl) rfl v (OT.tmp rfl) trivial (by repeat (first | exact picks_nil | refine picks_cons 0 rfl ?_ | refine picks_cons 1 rfl ?_ | refine picks_cons 2 rfl ?_ | refine picks_cons 3 rfl ?_ | refine picks_cons 4 rfl ?_ | refine picks_cons 5 rfl ?_ | refine picks_cons 6 rfl ?_))
set_option maxHeartbeats 1000000 in
set_option maxRecDepth 20000 in
/-- slices.SortFunc[[]rhizome/api.Tuple,rhizome/api.Tuple] -/
theorem SortFunc_fn (v : Value) (ts : List Tp) (hm : ts.length ≤ 1000) : Ct Try.prog 57 [IsV v, IsV (.func (.func 22) #[] #[])] ([OwnI 38 (kF K0 n0) v ts]) (List Tp) (fun _ => AnyT) (fun rs => [OwnI 38 (kF K0 n0) v rs]) (fun rs => rs.Perm ts ∧ rs.Pairwise fun x y => cmpL x y ≤ 0) := by
  refine fn_intro Try.func57 rfl rfl ?_
  intro H w
  have hsize : ts.toArray.size = ts.length := by simp
  have hsz : ts.toArray.size < 4611686018427387904 := by rw [hsize]; omega
  have hbl : ((Lib.bitLen ((ts.length : Int)).toNat : Nat) : Int) < 4611686018427387904 := by have := bitLen_small (n := ((ts.length : Int)).toNat) (by omega); omega
  refine tr_seq ?_
  -- region 0
  refine tr_env (es_cons (t := 0) (OT.tmp rfl) (es_cons (t := 1) (OT.tmp rfl) es_nil)) ?_
  refine tr_region ?_
  refine op_pure (pu_move (OT.tmp rfl)) rfl rfl ?_
  refine op_pure (pu_len_own (OT.tmp rfl) (by exact mem_at 0 rfl) Try.underlying40) rfl rfl ?_
  refine op_pure (pu_assign (OT.tmp rfl)) rfl rfl ?_
  refine tr_nil ?_
  refine then_normal ?_
  -- region 1
  refine tr_env (es_cons (t := 0) (OT.tmp rfl) (es_cons (t := 1) (OT.tmp rfl) (es_cons (t := 4) (OT.tmp rfl) es_nil))) ?_
  refine tr_region ?_
  refine op_pure (pu_move (OT.tmp rfl)) rfl rfl ?_
  refine op_pure (pu_move (OT.tmp rfl)) rfl rfl ?_
  refine op_pure (pu_move (OT.tmp rfl)) rfl rfl ?_
  refine op_pure (pu_convert' (OT.tmp rfl) Try.underlying3 Try.underlying98 (by omega) (by omega) rfl) rfl rfl ?_
  refine op_acts (acts_call (bits_ct _ (by omega) (by omega)) (show enters Try.prog 74 = true from by decide +kernel) (OTs.cons (OT.tmp rfl) OTs.nil) (List.Perm.refl _)) (List.Perm.refl _) rfl rfl (fun _ _ => ?_)
  refine op_pure (pu_move (OT.tmp rfl)) rfl rfl ?_
  refine op_acts (acts_call (pdq_fn v _ cmpL swo cmp_fv (ts.length + 1) 0 ts.length _ ts.toArray (by omega) hsz (by omega) (Nat.le_of_eq hsize.symm) (by omega) hbl (.inl rfl)) (show enters Try.prog 73 = true from by decide +kernel) (OTs.cons (OT.tmp rfl) (OTs.cons OT.const (OTs.cons (OT.tmp rfl) (OTs.cons (OT.tmp rfl) (OTs.cons (OT.tmp rfl) OTs.nil))))) (by exact perm_at 0 rfl)) (by exact perm_at 0 rfl) rfl rfl (fun r hr => ?_)
  refine tr_nil ?_
  exact ret_none .normal (.inr rfl) rfl r.toList (fun _ => trivial) ⟨perm_list hr.1, sorted_list hr.1 hr.2⟩ (by repeat (first | exact picks_nil | refine picks_cons 0 rfl ?_ | refine picks_cons 1 rfl ?_ | refine picks_cons 2 rfl ?_ | refine picks_cons 3 rfl ?_ | refine picks_cons 4 rfl ?_ | refine picks_cons 5 rfl ?_ | refine picks_cons 6 rfl ?_))
set_option maxHeartbeats 1000000 in
set_option maxRecDepth 20000 in
/-- slices.CompactFunc[[]rhizome/api.Tuple,rhizome/api.Tuple] -/
theorem Compact_fn (v fv : Value) (xs : List Tp) (hm : xs.length ≤ 1000) (hfv : ∀ x y, CtV Try.prog fv [(kF K0 n0).T x, (kF K0 n0).T y] [] Unit (fun _ => BoolT (decide (x = y))) (fun _ => []) (fun _ => True)) : Ct Try.prog 59 [IsV v, IsV fv] ([OwnI 38 (kF K0 n0) v xs]) Value (fun r => IsV r) (fun r => [OwnI 38 (kF K0 n0) r (dd xs)]) (fun _ => True) := by
  refine fn_intro Try.func59 rfl rfl ?_
  intro H w
  refine tr_seq ?_
  -- region 0
  refine tr_env (es_cons (t := 0) (OT.tmp rfl) (es_cons (t := 1) (OT.tmp rfl) es_nil)) ?_
  refine tr_region ?_
  refine op_pure (pu_assign OT.const) rfl rfl ?_
  refine tr_nil ?_
  refine then_normal ?_
  refine tr_seq ?_
  refine tr_seq ?_
  -- region 1
  refine tr_env (es_cons (t := 0) (OT.tmp rfl) (es_cons (t := 1) (OT.tmp rfl) es_nil)) ?_
  refine tr_region ?_
  refine op_pure (pu_move (OT.tmp rfl)) rfl rfl ?_
  refine op_pure (pu_len_own (OT.tmp rfl) (by exact mem_at 0 rfl) Try.underlying40) rfl rfl ?_
  refine op_pure (pu_lss (OT.tmp rfl) OT.const) rfl rfl ?_
  refine tr_nil ?_
  refine then_normal ?_
  refine tr_cond (OT.tmp rfl) (fun c10 => ?_) (fun c10 => ?_)
  · try simp only [decide_eq_true_eq, decide_eq_false_iff_not, Bool.or_eq_true, Bool.and_eq_true, Bool.or_eq_false_iff, Bool.and_eq_false_iff, Bool.not_eq_true', Bool.not_eq_false', ne_eq, Classical.not_not] at c10
    refine tr_seq ?_
    -- region 2
    refine tr_env (es_cons (t := 0) (OT.tmp rfl) es_nil) ?_
    refine tr_region ?_
    refine op_pure (pu_move (OT.tmp rfl)) rfl rfl ?_
    refine op_pure (pu_assign (OT.tmp rfl)) rfl rfl ?_
    refine tr_nil ?_
    refine then_normal ?_
    refine tr_ret ?_
    refine then_ret ?_
    exact ret_one .ret (.inl rfl) rfl v (OT.tmp rfl) trivial (by rw [dd_one (by omega)]; exact picks_cons 0 rfl picks_nil)
  · try simp only [decide_eq_true_eq, decide_eq_false_iff_not, Bool.or_eq_true, Bool.and_eq_true, Bool.or_eq_false_iff, Bool.and_eq_false_iff, Bool.not_eq_true', Bool.not_eq_false', ne_eq, Classical.not_not] at c10
    refine tr_skip ?_
    refine then_normal ?_
    refine tr_seq ?_
    refine tr_seq ?_
    -- region 3
    refine tr_env (es_cons (t := 0) (OT.tmp rfl) (es_cons (t := 1) (OT.tmp rfl) es_nil)) ?_
    refine tr_region ?_
    refine op_pure (pu_assign OT.const) rfl rfl ?_
    refine tr_nil ?_
    refine then_normal ?_
    refine tr_block ?_
    refine tr_loopK (σ := Nat) (es_cons (t := 0) (OT.tmp rfl) (es_cons (t := 1) (OT.tmp rfl) es_nil)) (fun i => [(5, I64 (i : Int))]) (fun i => [OwnI 38 (kF K0 n0) v xs]) (fun i => 1 ≤ i ∧ i ≤ xs.length ∧ dd (xs.take i) = xs.take i) (fun i => xs.length - i) 1 ⟨Nat.le_refl _, by omega, by rw [dd_one (by rw [List.length_take]; omega)]⟩ ?_ (own_picks (by repeat (first | exact picks_nil | refine picks_cons 0 rfl ?_ | refine picks_cons 1 rfl ?_ | refine picks_cons 2 rfl ?_ | refine picks_cons 3 rfl ?_ | refine picks_cons 4 rfl ?_ | refine picks_cons 5 rfl ?_ | refine picks_cons 6 rfl ?_))) ?_
    · exact (es_cons (t := 5) (by exact OT.tmp rfl) es_nil)
    · rintro i ⟨hi0, hi1, hdd⟩
      refine tr_seq ?_
      refine tr_seq ?_
      -- region 4
      refine tr_env (es_cons (t := 0) (OT.tmp rfl) (es_cons (t := 1) (OT.tmp rfl) (es_cons (t := 5) (OT.tmp rfl) es_nil))) ?_
      refine tr_region ?_
      refine op_pure (pu_move (OT.tmp rfl)) rfl rfl ?_
      refine op_pure (pu_move (OT.tmp rfl)) rfl rfl ?_
      refine op_pure (pu_len_own (OT.tmp rfl) (by exact mem_at 0 rfl) Try.underlying40) rfl rfl ?_
      refine op_pure (pu_lss (OT.tmp rfl) (OT.tmp rfl)) rfl rfl ?_
      refine tr_nil ?_
      refine then_normal ?_
      refine tr_cond (OT.tmp rfl) (fun c15 => ?_) (fun c15 => ?_)
      · try simp only [decide_eq_true_eq, decide_eq_false_iff_not, Bool.or_eq_true, Bool.and_eq_true, Bool.or_eq_false_iff, Bool.and_eq_false_iff, Bool.not_eq_true', Bool.not_eq_false', ne_eq, Classical.not_not] at c15
        refine tr_skip ?_
        refine then_normal ?_
        refine tr_seq ?_
        refine tr_block ?_
        refine tr_seq ?_
        -- region 6
        refine tr_env (es_cons (t := 0) (OT.tmp rfl) (es_cons (t := 1) (OT.tmp rfl) (es_cons (t := 5) (OT.tmp rfl) es_nil))) ?_
        have hst := dd_step (xs := xs) (m := i) (by omega) (by omega)
        apply tr_any (m := 10) (ns := [[(1, none)], [(0, none)], [(5, none)], [(19, some 1), (20, some 2)], [(21, some 3)], [(0, none)], [(5, none)], [(24, some 6)], [(23, some 5), (25, some 7)], [(26, some 8)]]) (by kernel_rfl) (by kernel_rfl) (Ts := [_, _, _, _, _, _, _, _, _, _]) rfl
        case hops =>
          refine ⟨?_, ⟨?_, ⟨?_, ⟨?_, ⟨?_, ⟨?_, ⟨?_, ⟨?_, ⟨?_, ⟨?_, trivial⟩⟩⟩⟩⟩⟩⟩⟩⟩⟩
          · exact rop_pure rfl (pu_move (OT.tmp rfl))
          · exact rop_pure rfl (pu_move (OT.tmp rfl))
          · exact rop_pure rfl (pu_move (OT.tmp rfl))
          · exact rop_pure rfl (pu_index_own (OT.tmp rfl) (by exact mem_at 0 rfl) (OT.tmp rfl) Try.underlying40 (show tyOk Try.prog 38 false 1 = true from by decide +kernel) (by omega) (by omega))
          · exact rop_pure rfl (pu_load_own0 (OT.tmp rfl) (by exact mem_at 0 rfl) (by omega) (by omega) (show tyOk Try.prog 38 false 1 = true from by decide +kernel))
          · exact rop_pure rfl (pu_move (OT.tmp rfl))
          · exact rop_pure rfl (pu_move (OT.tmp rfl))
          · exact rop_pure rfl (pu_sub' (OT.tmp rfl) OT.const (by omega))
          · exact rop_pure rfl (pu_index_own (OT.tmp rfl) (by exact mem_at 0 rfl) (OT.tmp rfl) Try.underlying40 (show tyOk Try.prog 38 false 1 = true from by decide +kernel) (by omega) (by omega))
          · exact rop_pure rfl (pu_load_own0 (OT.tmp rfl) (by exact mem_at 0 rfl) (by omega) (by omega) (show tyOk Try.prog 38 false 1 = true from by decide +kernel))
        case h =>
          refine op_acts (acts_callv (OT.tmp rfl) (hfv _ _) (OTs.cons (OT.tmp rfl) (OTs.cons (OT.tmp rfl) OTs.nil)) (List.Perm.refl _)) (List.Perm.refl _) rfl rfl (fun _ _ => ?_)
          refine tr_nil ?_
          refine then_normal ?_
          refine tr_cond (OT.tmp rfl) (fun c28 => ?_) (fun c28 => ?_)
          · try simp only [decide_eq_true_eq, decide_eq_false_iff_not, Bool.or_eq_true, Bool.and_eq_true, Bool.or_eq_false_iff, Bool.and_eq_false_iff, Bool.not_eq_true', Bool.not_eq_false', ne_eq, Classical.not_not] at c28
            rw [if_pos c28.symm, hdd] at hst
            refine tr_seq ?_
            -- region 7
            refine tr_env (es_cons (t := 0) (OT.tmp rfl) (es_cons (t := 1) (OT.tmp rfl) (es_cons (t := 5) (OT.tmp rfl) es_nil))) ?_
            refine tr_region ?_
            refine op_pure (pu_move (OT.tmp rfl)) rfl rfl ?_
            refine op_pure (pu_move (OT.tmp rfl)) rfl rfl ?_
            refine op_pure (pu_cut_own (OT.tmp rfl) (by exact mem_at 0 rfl) (OT.tmp rfl) Try.underlying40 (show tyOk Try.prog 38 false 1 = true from by decide +kernel) (by omega) (by omega)) rfl rfl ?_
            refine op_pure (pu_assign (OT.tmp rfl)) rfl rfl ?_
            refine tr_nil ?_
            refine then_normal ?_
            refine tr_seq ?_
            refine tr_seq ?_
            -- region 8
            refine tr_env (es_cons (t := 0) (OT.tmp rfl) (es_cons (t := 1) (OT.tmp rfl) (es_cons (t := 5) (OT.tmp rfl) (es_cons (t := 6) (OT.tmp rfl) es_nil)))) ?_
            refine tr_region ?_
            refine op_pure (pu_assign OT.const) rfl rfl ?_
            refine tr_nil ?_
            refine then_normal ?_
            refine tr_block ?_
            refine tr_loopK (σ := Nat × Nat × List Tp) (es_cons (t := 0) (OT.tmp rfl) (es_cons (t := 1) (OT.tmp rfl) (es_cons (t := 6) (OT.tmp rfl) es_nil))) (fun s => [(7, I64 (s.1 : Int)), (5, I64 (s.2.1 : Int))]) (fun s => [OwnI 38 (kF K0 n0) v s.2.2]) (fun s => 1 ≤ s.1 ∧ i + s.1 ≤ xs.length ∧ s.2.2.length = xs.length ∧ i ≤ s.2.1 ∧ s.2.1 ≤ i + s.1 - 1 ∧ s.2.2.take s.2.1 = dd (xs.take (i + s.1)) ∧ s.2.2.drop (i + s.1 - 1) = xs.drop (i + s.1 - 1)) (fun s => xs.length - i - s.1) (1, i, xs) ⟨Nat.le_refl _, by show i + 1 ≤ xs.length; omega, rfl, Nat.le_refl _, by show i ≤ i + 1 - 1; omega, hst.symm, rfl⟩ ?_ (own_picks (by repeat (first | exact picks_nil | refine picks_cons 0 rfl ?_ | refine picks_cons 1 rfl ?_ | refine picks_cons 2 rfl ?_ | refine picks_cons 3 rfl ?_ | refine picks_cons 4 rfl ?_ | refine picks_cons 5 rfl ?_ | refine picks_cons 6 rfl ?_))) ?_
            · exact (es_cons (t := 7) (by exact OT.tmp rfl) (es_cons (t := 5) (by exact OT.tmp rfl) es_nil))
            · rintro ⟨k, j, ys⟩ ⟨hk1, hkn, hyl, hij, hji, hyt, hyd⟩
              dsimp only at hk1 hkn hyl hij hji hyt hyd ⊢
              refine tr_seq ?_
              refine tr_seq ?_
              -- region 9
              refine tr_env (es_cons (t := 0) (OT.tmp rfl) (es_cons (t := 1) (OT.tmp rfl) (es_cons (t := 5) (OT.tmp rfl) (es_cons (t := 6) (OT.tmp rfl) (es_cons (t := 7) (OT.tmp rfl) es_nil))))) ?_
              refine tr_region ?_
              refine op_pure (pu_move (OT.tmp rfl)) rfl rfl ?_
              refine op_pure (pu_move (OT.tmp rfl)) rfl rfl ?_
              refine op_pure (pu_len_cut (OT.tmp rfl) (by exact mem_at 0 rfl) Try.underlying40 (by omega)) rfl rfl ?_
              refine op_pure (pu_lss (OT.tmp rfl) (OT.tmp rfl)) rfl rfl ?_
              refine tr_nil ?_
              refine then_normal ?_
              refine tr_cond (OT.tmp rfl) (fun c35 => ?_) (fun c35 => ?_)
              · try simp only [decide_eq_true_eq, decide_eq_false_iff_not, Bool.or_eq_true, Bool.and_eq_true, Bool.or_eq_false_iff, Bool.and_eq_false_iff, Bool.not_eq_true', Bool.not_eq_false', ne_eq, Classical.not_not] at c35
                refine tr_skip ?_
                refine then_normal ?_
                refine tr_seq ?_
                refine tr_block ?_
                refine tr_seq ?_
                -- region 11
                refine tr_env (es_cons (t := 0) (OT.tmp rfl) (es_cons (t := 1) (OT.tmp rfl) (es_cons (t := 5) (OT.tmp rfl) (es_cons (t := 6) (OT.tmp rfl) (es_cons (t := 7) (OT.tmp rfl) es_nil))))) ?_
                have hst2 := dd_step (xs := xs) (m := i + k) (by omega) (by omega)
                have hy1 : at' ys ((i : Int) + k) = at' xs ((i + k : Nat) : Int) := by
                  have := drop_at' (l := ys) (m := xs) (k := i + k - 1) (i := i + k) hyd (by omega) (by omega) (by omega)
                  rw [← this]; congr 1
                have hy2 : at' ys ((i : Int) + (k - 1)) = at' xs (((i + k : Nat) : Int) - 1) := by
                  have := drop_at' (l := ys) (m := xs) (k := i + k - 1) (i := i + k - 1) hyd (by omega) (by omega) (by omega)
                  rw [show ((i : Int) + (k - 1)) = ((i + k - 1 : Nat) : Int) from by omega, this, show ((i + k - 1 : Nat) : Int) = ((i + k : Nat) : Int) - 1 from by omega]
                apply tr_any (m := 10) (ns := [[(1, none)], [(6, none)], [(7, none)], [(39, some 1), (40, some 2)], [(41, some 3)], [(6, none)], [(7, none)], [(44, some 6)], [(43, some 5), (45, some 7)], [(46, some 8)]]) (by kernel_rfl) (by kernel_rfl) (Ts := [_, _, _, _, _, _, _, _, _, _]) rfl
                case hops =>
                  refine ⟨?_, ⟨?_, ⟨?_, ⟨?_, ⟨?_, ⟨?_, ⟨?_, ⟨?_, ⟨?_, ⟨?_, trivial⟩⟩⟩⟩⟩⟩⟩⟩⟩⟩
                  · exact rop_pure rfl (pu_move (OT.tmp rfl))
                  · exact rop_pure rfl (pu_move (OT.tmp rfl))
                  · exact rop_pure rfl (pu_move (OT.tmp rfl))
                  · exact rop_pure rfl (pu_index_cut (OT.tmp rfl) (by exact mem_at 0 rfl) (OT.tmp rfl) Try.underlying40 (show tyOk Try.prog 38 false 1 = true from by decide +kernel) (by omega) (by omega))
                  · exact rop_pure rfl (pu_load_own0 (OT.tmp rfl) (by exact mem_at 0 rfl) (by omega) (by omega) (show tyOk Try.prog 38 false 1 = true from by decide +kernel))
                  · exact rop_pure rfl (pu_move (OT.tmp rfl))
                  · exact rop_pure rfl (pu_move (OT.tmp rfl))
                  · exact rop_pure rfl (pu_sub' (OT.tmp rfl) OT.const (by omega))
                  · exact rop_pure rfl (pu_index_cut (OT.tmp rfl) (by exact mem_at 0 rfl) (OT.tmp rfl) Try.underlying40 (show tyOk Try.prog 38 false 1 = true from by decide +kernel) (by omega) (by omega))
                  · exact rop_pure rfl (pu_load_own0 (OT.tmp rfl) (by exact mem_at 0 rfl) (by omega) (by omega) (show tyOk Try.prog 38 false 1 = true from by decide +kernel))
                case h =>
                  refine op_acts (acts_callv (OT.tmp rfl) (hfv _ _) (OTs.cons (OT.tmp rfl) (OTs.cons (OT.tmp rfl) OTs.nil)) (List.Perm.refl _)) (List.Perm.refl _) rfl rfl (fun _ _ => ?_)
                  refine op_pure (pu_not (OT.tmp rfl)) rfl rfl ?_
                  refine tr_nil ?_
                  refine then_normal ?_
                  refine tr_cond (OT.tmp rfl) (fun c49 => ?_) (fun c49 => ?_)
                  · try simp only [decide_eq_true_eq, decide_eq_false_iff_not, Bool.or_eq_true, Bool.and_eq_true, Bool.or_eq_false_iff, Bool.and_eq_false_iff, Bool.not_eq_true', Bool.not_eq_false', ne_eq, Classical.not_not] at c49
                    have hne : ¬ at' xs (((i + k : Nat) : Int) - 1) = at' xs ((i + k : Nat) : Int) := by rw [← hy1, ← hy2]; exact fun e => c49 e.symm
                    rw [if_neg hne] at hst2
                    refine tr_seq ?_
                    -- region 12
                    refine tr_env (es_cons (t := 0) (OT.tmp rfl) (es_cons (t := 1) (OT.tmp rfl) (es_cons (t := 5) (OT.tmp rfl) (es_cons (t := 6) (OT.tmp rfl) (es_cons (t := 7) (OT.tmp rfl) es_nil))))) ?_
                    refine tr_region ?_
                    refine op_pure (pu_move (OT.tmp rfl)) rfl rfl ?_
                    refine op_pure (pu_move (OT.tmp rfl)) rfl rfl ?_
                    refine op_pure (pu_move (OT.tmp rfl)) rfl rfl ?_
                    refine op_pure (pu_move (OT.tmp rfl)) rfl rfl ?_
                    refine op_pure (pu_index_cut (OT.tmp rfl) (by exact mem_at 0 rfl) (OT.tmp rfl) Try.underlying40 (show tyOk Try.prog 38 false 1 = true from by decide +kernel) (by omega) (by omega)) rfl rfl ?_
                    refine op_pure (pu_load_own0 (OT.tmp rfl) (by exact mem_at 0 rfl) (by omega) (by omega) (show tyOk Try.prog 38 false 1 = true from by decide +kernel)) rfl rfl ?_
                    refine op_pure (pu_index_own (OT.tmp rfl) (by exact mem_at 0 rfl) (OT.tmp rfl) Try.underlying40 (show tyOk Try.prog 38 false 1 = true from by decide +kernel) (by omega) (by omega)) rfl rfl ?_
                    refine op_acts (acts_store_own0 (OT.tmp rfl) (OT.tmp rfl) (by exact perm_at 0 rfl) (by omega) (by omega) (show tyOk Try.prog 38 false 1 = true from by decide +kernel)) (by exact perm_at 0 rfl) rfl rfl (fun _ _ => ?_)
                    refine tr_nil ?_
                    refine then_normal ?_
                    -- region 13
                    refine tr_env (es_cons (t := 0) (OT.tmp rfl) (es_cons (t := 1) (OT.tmp rfl) (es_cons (t := 5) (OT.tmp rfl) (es_cons (t := 6) (OT.tmp rfl) (es_cons (t := 7) (OT.tmp rfl) es_nil))))) ?_
                    refine tr_region ?_
                    refine op_pure (pu_move (OT.tmp rfl)) rfl rfl ?_
                    refine op_pure (pu_add' (OT.tmp rfl) OT.const (by omega)) rfl rfl ?_
                    refine op_pure (pu_assign (OT.tmp rfl)) rfl rfl ?_
                    refine tr_nil ?_
                    refine block_normal ?_
                    refine then_normal ?_
                    -- region 10
                    refine tr_env (es_cons (t := 0) (OT.tmp rfl) (es_cons (t := 1) (OT.tmp rfl) (es_cons (t := 5) (OT.tmp rfl) (es_cons (t := 6) (OT.tmp rfl) (es_cons (t := 7) (OT.tmp rfl) es_nil))))) ?_
                    refine tr_region ?_
                    refine op_pure (pu_move (OT.tmp rfl)) rfl rfl ?_
                    refine op_pure (pu_add' (OT.tmp rfl) OT.const (by omega)) rfl rfl ?_
                    refine op_pure (pu_assign (OT.tmp rfl)) rfl rfl ?_
                    refine tr_nil ?_
                    refine then_normal ?_
                    exact tr_again (k + 1, j + 1, ys.set j (at' xs ((i + k : Nat) : Int))) ⟨by show 1 ≤ k + 1; omega, by show i + (k + 1) ≤ xs.length; omega, by show (ys.set j _).length = _; rw [List.length_set]; exact hyl, by show i ≤ j + 1; omega, by show j + 1 ≤ i + (k + 1) - 1; omega, by show (ys.set j _).take (j + 1) = dd (xs.take (i + k + 1)); rw [hst2, ← hyt]; exact set_take (by omega), by show (ys.set j _).drop (i + k) = xs.drop (i + k); rw [List.drop_set, if_pos (by omega)]; exact drop_more hyd (by omega)⟩ (by show xs.length - i - (k + 1) < xs.length - i - k; omega) (es_append (es_cons (t := 7) (by exact OT.tmp rfl) (es_cons (t := 5) (by exact OT.tmp rfl) es_nil)) (es_cons (t := 0) (OT.tmp rfl) (es_cons (t := 1) (OT.tmp rfl) (es_cons (t := 6) (OT.tmp rfl) es_nil)))) (own_picks (by simp only [Int.toNat_natCast]; rw [hy1]; exact (by repeat (first | exact picks_nil | refine picks_cons 0 rfl ?_ | refine picks_cons 1 rfl ?_ | refine picks_cons 2 rfl ?_ | refine picks_cons 3 rfl ?_ | refine picks_cons 4 rfl ?_ | refine picks_cons 5 rfl ?_ | refine picks_cons 6 rfl ?_))))
                  · try simp only [decide_eq_true_eq, decide_eq_false_iff_not, Bool.or_eq_true, Bool.and_eq_true, Bool.or_eq_false_iff, Bool.and_eq_false_iff, Bool.not_eq_true', Bool.not_eq_false', ne_eq, Classical.not_not] at c49
                    have heq : at' xs (((i + k : Nat) : Int) - 1) = at' xs ((i + k : Nat) : Int) := by rw [← hy1, ← hy2]; exact c49.symm
                    rw [if_pos heq] at hst2
                    refine tr_skip ?_
                    refine block_normal ?_
                    refine then_normal ?_
                    -- region 10
                    refine tr_env (es_cons (t := 0) (OT.tmp rfl) (es_cons (t := 1) (OT.tmp rfl) (es_cons (t := 5) (OT.tmp rfl) (es_cons (t := 6) (OT.tmp rfl) (es_cons (t := 7) (OT.tmp rfl) es_nil))))) ?_
                    refine tr_region ?_
                    refine op_pure (pu_move (OT.tmp rfl)) rfl rfl ?_
                    refine op_pure (pu_add' (OT.tmp rfl) OT.const (by omega)) rfl rfl ?_
                    refine op_pure (pu_assign (OT.tmp rfl)) rfl rfl ?_
                    refine tr_nil ?_
                    refine then_normal ?_
                    exact tr_again (k + 1, j, ys) ⟨by show 1 ≤ k + 1; omega, by show i + (k + 1) ≤ xs.length; omega, hyl, hij, by show j ≤ i + (k + 1) - 1; omega, by show ys.take j = dd (xs.take (i + k + 1)); rw [hst2]; exact hyt, by show ys.drop (i + k) = xs.drop (i + k); exact drop_more hyd (by omega)⟩ (by show xs.length - i - (k + 1) < xs.length - i - k; omega) (es_append (es_cons (t := 7) (by exact OT.tmp rfl) (es_cons (t := 5) (by exact OT.tmp rfl) es_nil)) (es_cons (t := 0) (OT.tmp rfl) (es_cons (t := 1) (OT.tmp rfl) (es_cons (t := 6) (OT.tmp rfl) es_nil)))) (own_picks (by repeat (first | exact picks_nil | refine picks_cons 0 rfl ?_ | refine picks_cons 1 rfl ?_ | refine picks_cons 2 rfl ?_ | refine picks_cons 3 rfl ?_ | refine picks_cons 4 rfl ?_ | refine picks_cons 5 rfl ?_ | refine picks_cons 6 rfl ?_)))
              · try simp only [decide_eq_true_eq, decide_eq_false_iff_not, Bool.or_eq_true, Bool.and_eq_true, Bool.or_eq_false_iff, Bool.and_eq_false_iff, Bool.not_eq_true', Bool.not_eq_false', ne_eq, Classical.not_not] at c35
                refine tr_exit ?_
                refine then_exit ?_
                refine then_exit ?_
                refine block_hit ?_
                refine then_normal ?_
                refine tr_seq ?_
                -- region 14
                refine tr_env (es_cons (t := 0) (OT.tmp rfl) (es_cons (t := 5) (OT.tmp rfl) es_nil)) ?_
                have hik : i + k = xs.length := by omega
                rw [hik, List.take_length] at hyt
                refine tr_region ?_
                refine op_pure (pu_move (OT.tmp rfl)) rfl rfl ?_
                refine op_pure (pu_move (OT.tmp rfl)) rfl rfl ?_
                refine op_pure (pu_cut_own (OT.tmp rfl) (by exact mem_at 0 rfl) (OT.tmp rfl) Try.underlying40 (show tyOk Try.prog 38 false 1 = true from by decide +kernel) (by omega) (by omega)) rfl rfl ?_
                refine op_acts (acts_clear_cut (d := (kF K0 n0)) (v0 := []) (OT.tmp rfl) (by exact perm_at 0 rfl) Try.underlying40 (show tyOk Try.prog 38 false 1 = true from by decide +kernel) z38f (show 0 < 1 from by decide) (by omega)) (by exact perm_at 0 rfl) rfl rfl (fun _ _ => ?_)
                refine tr_nil ?_
                refine then_normal ?_
                refine tr_seq ?_
                -- region 15
                refine tr_env (es_cons (t := 0) (OT.tmp rfl) (es_cons (t := 5) (OT.tmp rfl) es_nil)) ?_
                refine tr_region ?_
                refine op_pure (pu_move (OT.tmp rfl)) rfl rfl ?_
                refine op_pure (pu_move (OT.tmp rfl)) rfl rfl ?_
                refine op_acts (acts_slice_own_hi (OT.tmp rfl) (by exact perm_at 0 rfl) (OT.tmp rfl) Try.underlying40 (show tyOk Try.prog 38 false 1 = true from by decide +kernel) (by omega) (by (simp; omega))) (by exact perm_at 0 rfl) rfl rfl (fun v15_2 _ => ?_)
                refine op_pure (pu_assign (OT.tmp rfl)) rfl rfl ?_
                refine tr_nil ?_
                refine then_normal ?_
                refine tr_ret ?_
                refine block_ret ?_
                refine then_ret ?_
                refine then_ret ?_
                refine block_ret ?_
                refine then_ret ?_
                exact ret_one .ret (.inl rfl) rfl _ (OT.tmp rfl) trivial (by rw [← hyt]; simp only [Int.toNat_natCast]; rw [cut_take (by omega)]; exact picks_cons 0 rfl picks_nil)
          · try simp only [decide_eq_true_eq, decide_eq_false_iff_not, Bool.or_eq_true, Bool.and_eq_true, Bool.or_eq_false_iff, Bool.and_eq_false_iff, Bool.not_eq_true', Bool.not_eq_false', ne_eq, Classical.not_not] at c28
            rw [if_neg (fun e => c28 e.symm), hdd] at hst
            have hnx : dd (xs.take (i + 1)) = xs.take (i + 1) := by rw [hst, take_at (by omega)]
            refine tr_skip ?_
            refine block_normal ?_
            refine then_normal ?_
            -- region 5
            refine tr_env (es_cons (t := 0) (OT.tmp rfl) (es_cons (t := 1) (OT.tmp rfl) (es_cons (t := 5) (OT.tmp rfl) es_nil))) ?_
            refine tr_region ?_
            refine op_pure (pu_move (OT.tmp rfl)) rfl rfl ?_
            refine op_pure (pu_add' (OT.tmp rfl) OT.const (by omega)) rfl rfl ?_
            refine op_pure (pu_assign (OT.tmp rfl)) rfl rfl ?_
            refine tr_nil ?_
            refine then_normal ?_
            exact tr_again (i + 1) ⟨by omega, by omega, hnx⟩ (by omega) (es_append (es_cons (t := 5) (by exact OT.tmp rfl) es_nil) (es_cons (t := 0) (OT.tmp rfl) (es_cons (t := 1) (OT.tmp rfl) es_nil))) (own_picks (by repeat (first | exact picks_nil | refine picks_cons 0 rfl ?_ | refine picks_cons 1 rfl ?_ | refine picks_cons 2 rfl ?_ | refine picks_cons 3 rfl ?_ | refine picks_cons 4 rfl ?_ | refine picks_cons 5 rfl ?_ | refine picks_cons 6 rfl ?_)))
      · try simp only [decide_eq_true_eq, decide_eq_false_iff_not, Bool.or_eq_true, Bool.and_eq_true, Bool.or_eq_false_iff, Bool.and_eq_false_iff, Bool.not_eq_true', Bool.not_eq_false', ne_eq, Classical.not_not] at c15
        refine tr_exit ?_
        refine then_exit ?_
        refine then_exit ?_
        refine block_hit ?_
        refine then_normal ?_
        refine tr_seq ?_
        -- region 16
        refine tr_env (es_cons (t := 0) (OT.tmp rfl) es_nil) ?_
        obtain rfl : i = xs.length := by omega
        rw [List.take_length] at hdd
        refine tr_region ?_
        refine op_pure (pu_move (OT.tmp rfl)) rfl rfl ?_
        refine op_pure (pu_assign (OT.tmp rfl)) rfl rfl ?_
        refine tr_nil ?_
        refine then_normal ?_
        refine tr_ret ?_
        exact ret_one .ret (.inl rfl) rfl v (OT.tmp rfl) trivial (by rw [hdd]; exact picks_cons 0 rfl picks_nil)
end Go.Proofs.Ytloblpklkhepbaa
