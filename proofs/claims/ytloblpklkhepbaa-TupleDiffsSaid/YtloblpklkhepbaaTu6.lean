/- Walks through the Go functions tuple.Set, tuple.walk, as typed contracts. -/
import Derived.Test.YtloblpklkhepbaaTu5
import Derived.Test.YtloblpklkhepbaaTuE
import Derived.Test.YtloblpklkhepbaaG19
namespace Go.Proofs.Ytloblpklkhepbaa
open Go Go.Gw Go.So Go.Tu
set_option linter.unusedVariables false
set_option linter.unusedSimpArgs false
variable {K0 : FH} {n0 : Nat}

set_option maxHeartbeats 1000000 in
set_option maxRecDepth 20000 in
/-- rhizome/tuple.Set -/
theorem Set_fn (l : List Tp) (hs : Small l) : CtM K0 n0 Try.prog 33 [SlT kT l] ([]) Unit (fun _ => FreshT K0 n0 (kF K0 n0) (setR l)) (fun _ => []) (fun _ => True) := by
  refine fn_introM Try.func33 rfl rfl ?_
  intro H w hK hn
  refine tr_seq ?_
  -- region 0
  refine tr_env (es_cons (t := 0) (OT.tmp rfl) es_nil) ?_
  refine tr_region ?_
  refine op_pure (pu_assign OT.const) rfl rfl ?_
  refine tr_nil ?_
  refine then_normal ?_
  refine tr_seq ?_
  -- region 1
  refine tr_env (es_cons (t := 0) (OT.tmp rfl) es_nil) ?_
  refine tr_region ?_
  refine op_pure (pu_move (OT.tmp rfl)) rfl rfl ?_
  refine op_acts (acts_callM (own_fn _ (by assumption)) (mk_in hK hn) (show enters Try.prog 56 = true from by decide +kernel) (OTs.cons (OT.tmp rfl) OTs.nil) (List.Perm.refl _)) (List.Perm.refl _) rfl rfl (fun v1_1 _ => ?_)
  refine op_pure (pu_assign (OT.tmp rfl)) rfl rfl ?_
  refine tr_nil ?_
  refine then_normal ?_
  refine tr_seq ?_
  -- region 2
  refine tr_env (es_cons (t := 3) (OT.tmp rfl) es_nil) ?_
  refine tr_region ?_
  refine op_pure (pu_move (OT.tmp rfl)) rfl rfl ?_
  refine op_acts (acts_call (SortFunc_fn _ _ hs.1) (show enters Try.prog 57 = true from by decide +kernel) (OTs.cons (OT.tmp rfl) (OTs.cons OT.func OTs.nil)) (by exact perm_at 0 rfl)) (by exact perm_at 0 rfl) rfl rfl (fun rs hrs => ?_)
  refine tr_nil ?_
  refine then_normal ?_
  refine tr_seq ?_
  -- region 3
  refine tr_env (es_cons (t := 3) (OT.tmp rfl) es_nil) ?_
  have hrl : rs.length ≤ 1000 := by rw [hrs.1.length_eq]; exact hs.1
  refine tr_region ?_
  refine op_pure (pu_move (OT.tmp rfl)) rfl rfl ?_
  refine op_acts (acts_call (Compact_fn _ _ rs hrl same_fv) (show enters Try.prog 59 = true from by decide +kernel) (OTs.cons (OT.tmp rfl) (OTs.cons OT.func OTs.nil)) (by exact perm_at 0 rfl)) (by exact perm_at 0 rfl) rfl rfl (fun r3_1 _ => ?_)
  rw [dd_set hrs.1 hrs.2]
  refine tr_freezeF (mk_in hK hn) (fun g => blks_nil) (by exact perm_at 0 rfl) 9 (OT.tmp rfl) ?_
  refine op_acts (acts_call (ClipL_fn _) (show enters Try.prog 58 = true from by decide +kernel) (OTs.cons (OT.tmp rfl) OTs.nil) (List.Perm.refl _)) (List.Perm.refl _) rfl rfl (fun _ _ => ?_)
  refine op_pure (pu_assign (OT.tmp rfl)) rfl rfl ?_
  refine tr_nil ?_
  refine then_normal ?_
  refine tr_ret ?_
  exact ret_one .ret (.inl rfl) rfl () (OT.tmp rfl) trivial (by exact picks_nil)
set_option maxHeartbeats 1000000 in
set_option maxRecDepth 20000 in
/-- rhizome/tuple.walk -/
theorem walk_fn0 (a b : List Tp) (ha : a.length ≤ 1000) (hb : b.length ≤ 1000) : Ct Try.prog 51 [SlT kT a, SlT kT b] ([]) Unit (fun _ => TupT [SlT kT (walkL a b).1, SlT kT (walkL a b).2.1, SlT kT (walkL a b).2.2]) (fun _ => []) (fun _ => True) := by
  refine fn_intro Try.func51 rfl rfl ?_
  intro H w
  refine tr_nilItem 38 kT (tr_nilItem 38 kT (tr_nilItem 38 kT ?_))
  refine tr_seq ?_
  -- region 0
  refine tr_env (es_cons (t := 0) (OT.tmp rfl) (es_cons (t := 1) (OT.tmp rfl) es_nil)) ?_
  refine tr_region ?_
  refine op_pure (pu_assign OT.const) rfl rfl ?_
  refine op_pure (pu_assign OT.const) rfl rfl ?_
  refine op_pure (pu_assign OT.const) rfl rfl ?_
  refine tr_nil ?_
  refine then_normal ?_
  refine tr_seq ?_
  refine tr_block ?_
  refine tr_loopK (σ := List Tp × List Tp × Value × Value × Value × List Tp × List Tp × List Tp) es_nil (fun s => [(0, SlT kT s.1), (1, SlT kT s.2.1), (4, IsV s.2.2.1), (5, IsV s.2.2.2.1), (6, IsV s.2.2.2.2.1)]) (fun s => [OwnI 38 kT s.2.2.1 s.2.2.2.2.2.1, OwnI 38 kT s.2.2.2.1 s.2.2.2.2.2.2.1, OwnI 38 kT s.2.2.2.2.1 s.2.2.2.2.2.2.2]) (fun s => (s.2.2.2.2.2.1.length + s.1.length ≤ a.length) ∧ (s.2.2.2.2.2.2.1.length + s.1.length ≤ a.length) ∧ (s.2.2.2.2.2.2.2.length + s.2.1.length ≤ b.length) ∧ walkL a b = (s.2.2.2.2.2.1 ++ (walkL s.1 s.2.1).1, s.2.2.2.2.2.2.1 ++ (walkL s.1 s.2.1).2.1, s.2.2.2.2.2.2.2 ++ (walkL s.1 s.2.1).2.2)) (fun s => s.1.length + s.2.1.length) (a, b, nilS, nilS, nilS, [], [], []) ⟨by simp, by simp, by simp, by simp⟩ ?_ (own_picks (by repeat (first | exact picks_nil | refine picks_cons 0 rfl ?_ | refine picks_cons 1 rfl ?_ | refine picks_cons 2 rfl ?_ | refine picks_cons 3 rfl ?_ | refine picks_cons 4 rfl ?_ | refine picks_cons 5 rfl ?_ | refine picks_cons 6 rfl ?_))) ?_
  · exact (es_cons (t := 0) (by exact OT.tmp rfl) (es_cons (t := 1) (by exact OT.tmp rfl) (es_cons (t := 4) (by exact OT.tmp rfl) (es_cons (t := 5) (by exact OT.tmp rfl) (es_cons (t := 6) (by exact OT.tmp rfl) es_nil)))))
  · rintro ⟨a1, b1, vl, vb, vr, l, m, r⟩ ⟨hl1, hl2, hl3, hwk⟩
    dsimp only at hl1 hl2 hl3 hwk ⊢
    refine tr_seq ?_
    refine tr_seq ?_
    -- region 1
    refine tr_env (es_cons (t := 0) (OT.tmp rfl) (es_cons (t := 1) (OT.tmp rfl) (es_cons (t := 4) (OT.tmp rfl) (es_cons (t := 5) (OT.tmp rfl) (es_cons (t := 6) (OT.tmp rfl) es_nil))))) ?_
    refine tr_region ?_
    refine op_pure (pu_move (OT.tmp rfl)) rfl rfl ?_
    refine op_pure (pu_len_sl (OT.tmp rfl) Try.underlying40) rfl rfl ?_
    refine op_pure (pu_gtr (OT.tmp rfl) OT.const) rfl rfl ?_
    refine op_pure (pu_move (OT.tmp rfl)) rfl rfl ?_
    refine op_gu rfl rfl rfl (OT.gu_mk (OT.tmp rfl)) (fun hg => by (have hg1 := hg.2; (try simp only [decide_eq_true_eq, decide_eq_false_iff_not] at hg1); exact pu_move (by exact OT.tmp rfl))) rfl ?_
    refine op_gu rfl rfl rfl (OT.gu_mk (OT.tmp rfl)) (fun hg => by (have hg1 := hg.2; (try simp only [decide_eq_true_eq, decide_eq_false_iff_not] at hg1); exact pu_len_sl (by exact OT.gu (OT.tmp rfl) hg) Try.underlying40)) rfl ?_
    refine op_gu rfl rfl rfl (OT.gu_mk (OT.tmp rfl)) (fun hg => by (have hg1 := hg.2; (try simp only [decide_eq_true_eq, decide_eq_false_iff_not] at hg1); exact pu_gtr (by exact OT.gu (OT.tmp rfl) hg) OT.const)) rfl ?_
    refine op_pure (pu_pick_or (OT.tmp rfl) (by exact OT.tmp rfl)) rfl rfl ?_
    refine tr_nil ?_
    refine then_normal ?_
    refine tr_cond (OT.tmp rfl) (fun c15 => ?_) (fun c15 => ?_)
    · try simp only [decide_eq_true_eq, decide_eq_false_iff_not, Bool.or_eq_true, Bool.and_eq_true, Bool.or_eq_false_iff, Bool.and_eq_false_iff, Bool.not_eq_true', Bool.not_eq_false', ne_eq, Classical.not_not] at c15
      refine tr_skip ?_
      refine then_normal ?_
      refine tr_block ?_
      refine tr_seq ?_
      -- region 2
      refine tr_env (es_cons (t := 0) (OT.tmp rfl) (es_cons (t := 1) (OT.tmp rfl) (es_cons (t := 4) (OT.tmp rfl) (es_cons (t := 5) (OT.tmp rfl) (es_cons (t := 6) (OT.tmp rfl) es_nil))))) ?_
      refine tr_region ?_
      refine op_pure (pu_assign OT.const) rfl rfl ?_
      refine tr_nil ?_
      refine then_normal ?_
      refine tr_joinK (σ := Unit) (es_cons (t := 0) (OT.tmp rfl) (es_cons (t := 1) (OT.tmp rfl) (es_cons (t := 4) (OT.tmp rfl) (es_cons (t := 5) (OT.tmp rfl) (es_cons (t := 6) (OT.tmp rfl) es_nil))))) (fun _ => [(7, I64 (cW a1 b1))]) (fun _ => [OwnI 38 kT vl l, OwnI 38 kT vb m, OwnI 38 kT vr r]) (fun _ => True) ?_ ?_
      · skip
        refine tr_block ?_
        refine tr_seq ?_
        -- region 4
        refine tr_env (es_cons (t := 0) (OT.tmp rfl) (es_cons (t := 1) (OT.tmp rfl) (es_cons (t := 4) (OT.tmp rfl) (es_cons (t := 5) (OT.tmp rfl) (es_cons (t := 6) (OT.tmp rfl) es_nil))))) ?_
        refine tr_region ?_
        refine op_pure (pu_move (OT.tmp rfl)) rfl rfl ?_
        refine op_pure (pu_len_sl (OT.tmp rfl) Try.underlying40) rfl rfl ?_
        refine op_pure (pu_eql (OT.tmp rfl) OT.const) rfl rfl ?_
        refine op_pure (pu_assign (OT.tmp rfl)) rfl rfl ?_
        refine tr_nil ?_
        refine then_normal ?_
        refine tr_cond (OT.tmp rfl) (fun c23 => ?_) (fun c23 => ?_)
        · try simp only [decide_eq_true_eq, decide_eq_false_iff_not, Bool.or_eq_true, Bool.and_eq_true, Bool.or_eq_false_iff, Bool.and_eq_false_iff, Bool.not_eq_true', Bool.not_eq_false', ne_eq, Classical.not_not] at c23
          -- region 5
          refine tr_env (es_cons (t := 0) (OT.tmp rfl) (es_cons (t := 1) (OT.tmp rfl) (es_cons (t := 4) (OT.tmp rfl) (es_cons (t := 5) (OT.tmp rfl) (es_cons (t := 6) (OT.tmp rfl) es_nil))))) ?_
          refine tr_region ?_
          refine op_pure (pu_assign OT.const) rfl rfl ?_
          refine tr_nil ?_
          refine block_normal ?_
          refine then_normal ?_
          exact tr_joined () trivial (es_append (es_cons (t := 7) (OT.val (OT.tmp rfl) (congrArg (Value.int _) (cW1 (by omega)).symm)) es_nil) (es_cons (t := 0) (OT.tmp rfl) (es_cons (t := 1) (OT.tmp rfl) (es_cons (t := 4) (OT.tmp rfl) (es_cons (t := 5) (OT.tmp rfl) (es_cons (t := 6) (OT.tmp rfl) es_nil)))))) (own_picks (by repeat (first | exact picks_nil | refine picks_cons 0 rfl ?_ | refine picks_cons 1 rfl ?_ | refine picks_cons 2 rfl ?_ | refine picks_cons 3 rfl ?_ | refine picks_cons 4 rfl ?_ | refine picks_cons 5 rfl ?_ | refine picks_cons 6 rfl ?_)))
        · try simp only [decide_eq_true_eq, decide_eq_false_iff_not, Bool.or_eq_true, Bool.and_eq_true, Bool.or_eq_false_iff, Bool.and_eq_false_iff, Bool.not_eq_true', Bool.not_eq_false', ne_eq, Classical.not_not] at c23
          refine tr_seq ?_
          -- region 6
          refine tr_env (es_cons (t := 0) (OT.tmp rfl) (es_cons (t := 1) (OT.tmp rfl) (es_cons (t := 4) (OT.tmp rfl) (es_cons (t := 5) (OT.tmp rfl) (es_cons (t := 6) (OT.tmp rfl) es_nil))))) ?_
          refine tr_region ?_
          refine op_pure (pu_move (OT.tmp rfl)) rfl rfl ?_
          refine op_pure (pu_len_sl (OT.tmp rfl) Try.underlying40) rfl rfl ?_
          refine op_pure (pu_eql (OT.tmp rfl) OT.const) rfl rfl ?_
          refine op_pure (pu_assign (OT.tmp rfl)) rfl rfl ?_
          refine tr_nil ?_
          refine then_normal ?_
          refine tr_cond (OT.tmp rfl) (fun c27 => ?_) (fun c27 => ?_)
          · try simp only [decide_eq_true_eq, decide_eq_false_iff_not, Bool.or_eq_true, Bool.and_eq_true, Bool.or_eq_false_iff, Bool.and_eq_false_iff, Bool.not_eq_true', Bool.not_eq_false', ne_eq, Classical.not_not] at c27
            -- region 7
            refine tr_env (es_cons (t := 0) (OT.tmp rfl) (es_cons (t := 1) (OT.tmp rfl) (es_cons (t := 4) (OT.tmp rfl) (es_cons (t := 5) (OT.tmp rfl) (es_cons (t := 6) (OT.tmp rfl) es_nil))))) ?_
            refine tr_region ?_
            refine op_pure (pu_assign OT.const) rfl rfl ?_
            refine tr_nil ?_
            refine block_normal ?_
            refine then_normal ?_
            exact tr_joined () trivial (es_append (es_cons (t := 7) (OT.val (OT.tmp rfl) (congrArg (Value.int _) (cW2 (by omega) (by omega)).symm)) es_nil) (es_cons (t := 0) (OT.tmp rfl) (es_cons (t := 1) (OT.tmp rfl) (es_cons (t := 4) (OT.tmp rfl) (es_cons (t := 5) (OT.tmp rfl) (es_cons (t := 6) (OT.tmp rfl) es_nil)))))) (own_picks (by repeat (first | exact picks_nil | refine picks_cons 0 rfl ?_ | refine picks_cons 1 rfl ?_ | refine picks_cons 2 rfl ?_ | refine picks_cons 3 rfl ?_ | refine picks_cons 4 rfl ?_ | refine picks_cons 5 rfl ?_ | refine picks_cons 6 rfl ?_)))
          · try simp only [decide_eq_true_eq, decide_eq_false_iff_not, Bool.or_eq_true, Bool.and_eq_true, Bool.or_eq_false_iff, Bool.and_eq_false_iff, Bool.not_eq_true', Bool.not_eq_false', ne_eq, Classical.not_not] at c27
            -- region 3
            refine tr_env (es_cons (t := 0) (OT.tmp rfl) (es_cons (t := 1) (OT.tmp rfl) (es_cons (t := 4) (OT.tmp rfl) (es_cons (t := 5) (OT.tmp rfl) (es_cons (t := 6) (OT.tmp rfl) es_nil))))) ?_
            apply tr_any (m := 6) (ns := [[(0, none)], [(16, some 0)], [(17, some 1)], [(1, none)], [(19, some 3)], [(20, some 4)]]) (by kernel_rfl) (by kernel_rfl) (Ts := [_, _, _, _, _, _]) rfl
            case hops =>
              refine ⟨?_, ⟨?_, ⟨?_, ⟨?_, ⟨?_, ⟨?_, trivial⟩⟩⟩⟩⟩⟩
              · exact rop_pure rfl (pu_move (OT.tmp rfl))
              · exact rop_pure rfl (pu_index (OT.tmp rfl) OT.const Try.underlying40 (show tyOk Try.prog 38 false 1 = true from by decide +kernel) (by omega) (by omega))
              · exact rop_pure rfl (pu_load (OT.tmp rfl) (show tyOk Try.prog 38 false 1 = true from by decide +kernel))
              · exact rop_pure rfl (pu_move (OT.tmp rfl))
              · exact rop_pure rfl (pu_index (OT.tmp rfl) OT.const Try.underlying40 (show tyOk Try.prog 38 false 1 = true from by decide +kernel) (by omega) (by omega))
              · exact rop_pure rfl (pu_load (OT.tmp rfl) (show tyOk Try.prog 38 false 1 = true from by decide +kernel))
            case h =>
              refine op_acts (acts_call (Cmp_all _ _) (show enters Try.prog 22 = true from by decide +kernel) (OTs.cons (OT.tmp rfl) (OTs.cons (OT.tmp rfl) OTs.nil)) (List.Perm.refl _)) (List.Perm.refl _) rfl rfl (fun _ _ => ?_)
              refine op_pure (pu_assign (OT.tmp rfl)) rfl rfl ?_
              refine tr_nil ?_
              refine block_normal ?_
              refine then_normal ?_
              exact tr_joined () trivial (es_append (es_cons (t := 7) (OT.val (OT.tmp rfl) (congrArg (Value.int _) (cW3 (by omega) (by omega)).symm)) es_nil) (es_cons (t := 0) (OT.tmp rfl) (es_cons (t := 1) (OT.tmp rfl) (es_cons (t := 4) (OT.tmp rfl) (es_cons (t := 5) (OT.tmp rfl) (es_cons (t := 6) (OT.tmp rfl) es_nil)))))) (own_picks (by repeat (first | exact picks_nil | refine picks_cons 0 rfl ?_ | refine picks_cons 1 rfl ?_ | refine picks_cons 2 rfl ?_ | refine picks_cons 3 rfl ?_ | refine picks_cons 4 rfl ?_ | refine picks_cons 5 rfl ?_ | refine picks_cons 6 rfl ?_)))
      · rintro _ _
        refine tr_block ?_
        refine tr_seq ?_
        -- region 9
        refine tr_env (es_cons (t := 0) (OT.tmp rfl) (es_cons (t := 1) (OT.tmp rfl) (es_cons (t := 4) (OT.tmp rfl) (es_cons (t := 5) (OT.tmp rfl) (es_cons (t := 6) (OT.tmp rfl) (es_cons (t := 7) (OT.tmp rfl) es_nil)))))) ?_
        skip
        refine tr_region ?_
        refine op_pure (pu_move (OT.tmp rfl)) rfl rfl ?_
        refine op_pure (pu_lss (OT.tmp rfl) OT.const) rfl rfl ?_
        refine op_pure (pu_assign (OT.tmp rfl)) rfl rfl ?_
        refine tr_nil ?_
        refine then_normal ?_
        refine tr_cond (OT.tmp rfl) (fun c41 => ?_) (fun c41 => ?_)
        · try simp only [decide_eq_true_eq, decide_eq_false_iff_not, Bool.or_eq_true, Bool.and_eq_true, Bool.or_eq_false_iff, Bool.and_eq_false_iff, Bool.not_eq_true', Bool.not_eq_false', ne_eq, Classical.not_not] at c41
          obtain ⟨hp, hst⟩ := walk_lt c41
          have hlen1 : (l ++ [at' a1 0]).length + (a1.drop 1).length ≤ a.length := by (try simp only [List.length_append, List.length_drop, List.length_cons, List.length_nil]); omega
          have hlen2 : (m).length + (a1.drop 1).length ≤ a.length := by (try simp only [List.length_append, List.length_drop, List.length_cons, List.length_nil]); omega
          have hlen3 : (r).length + (b1).length ≤ b.length := by (try simp only [List.length_append, List.length_drop, List.length_cons, List.length_nil]); omega
          have hw : walkL a b = (l ++ [at' a1 0] ++ (walkL (a1.drop 1) (b1)).1, m ++ (walkL (a1.drop 1) (b1)).2.1, r ++ (walkL (a1.drop 1) (b1)).2.2) := by rw [hwk, hst]; simp
          -- region 10
          refine tr_env (es_cons (t := 0) (OT.tmp rfl) (es_cons (t := 1) (OT.tmp rfl) (es_cons (t := 4) (OT.tmp rfl) (es_cons (t := 5) (OT.tmp rfl) (es_cons (t := 6) (OT.tmp rfl) es_nil))))) ?_
          apply tr_anyG (ρ := Value) (φ := fun rr => True) (p := 5) (Lf := fun c rr => cond c ([OwnI 38 kT rr (l ++ [at' a1 0]), OwnI 38 kT vb m, OwnI 38 kT vr r]) ([OwnI 38 kT vl l, OwnI 38 kT vb m, OwnI 38 kT vr r])) nilS (by kernel_rfl) (m := 9) (ns := [[(4, none)], [(0, none)], [(45, some 1)], [(46, some 2)], [(47, some 3)], [(44, some 0), (48, some 4)], [(0, none)], [(50, some 6)], [(49, some 5)]]) (by kernel_rfl) (by kernel_rfl) (Ts := fun rr => [_, _, _, _, _, IsV rr, _, _, IsV rr]) (fun _ => rfl)
          case hops =>
            refine ⟨?_, ⟨?_, ⟨?_, ⟨?_, ⟨?_, ⟨?_, ⟨?_, ⟨?_, ⟨?_, trivial⟩⟩⟩⟩⟩⟩⟩⟩⟩
            · refine ⟨?_, ?_⟩
              · intro c r hc; cases c
                · exact ropg_of r rfl (And.intro rfl trivial) (rop_pure rfl (pu_move (OT.tmp rfl)))
                · exact Bool.noConfusion (hc.symm.trans (by kernel_rfl : okFlag _ _ _ _ = false))
              · exact fun _ _ _ _ => rfl
            · refine ⟨?_, ?_⟩
              · intro c r hc; cases c
                · exact ropg_of r rfl (And.intro rfl trivial) (rop_pure rfl (pu_move (OT.tmp rfl)))
                · exact Bool.noConfusion (hc.symm.trans (by kernel_rfl : okFlag _ _ _ _ = false))
              · exact fun _ _ _ _ => rfl
            · refine ⟨?_, ?_⟩
              · intro c r hc; cases c
                · exact ropg_of r rfl (And.intro rfl trivial) (rop_pure rfl (pu_index (OT.tmp rfl) OT.const Try.underlying40 (show tyOk Try.prog 38 false 1 = true from by decide +kernel) (by omega) (by omega)))
                · exact Bool.noConfusion (hc.symm.trans (by kernel_rfl : okFlag _ _ _ _ = false))
              · exact fun _ _ _ _ => rfl
            · refine ⟨?_, ?_⟩
              · intro c r hc; cases c
                · exact ropg_of r rfl (And.intro rfl trivial) (rop_pure rfl (pu_load (OT.tmp rfl) (show tyOk Try.prog 38 false 1 = true from by decide +kernel)))
                · exact Bool.noConfusion (hc.symm.trans (by kernel_rfl : okFlag _ _ _ _ = false))
              · exact fun _ _ _ _ => rfl
            · refine ⟨?_, ?_⟩
              · intro c r hc; cases c
                · exact ropg_of r rfl (And.intro rfl trivial) (rop_acts rfl (acts_lit (d := kT) (v0 := []) (show slTy Try.prog 40 38 1 24 = true from by decide +kernel) (show tyOk Try.prog 38 false 1 = true from by decide +kernel) z38 (show 1 * 1 ≤ 16777216 from by decide) (by decide) (fills_arr rfl rfl (by decide) (OT.tmp rfl) fills_nil)) (fun _ _ _ _ h => h))
                · exact Bool.noConfusion (hc.symm.trans (by kernel_rfl : okFlag _ _ _ _ = false))
              · exact fun _ _ _ _ => rfl
            · refine ⟨?_, ?_⟩
              · intro c r hc; cases c
                · exact ropg_acts rfl (acts_append (OT.tmp rfl) (by exact perm_at 0 rfl) (OT.tmp rfl) (show slTy Try.prog 40 38 1 24 = true from by decide +kernel) (by (simp; omega)) (by (simp [maxLen]; omega))) (by exact perm_at 0 rfl) (fun r => (List.Perm.refl _)) (fun _ _ _ => trivial) (fun _ _ _ _ h => h)
                · exact Bool.noConfusion (hc.symm.trans (by kernel_rfl : okFlag _ _ _ _ = false))
              · exact fun _ h => absurd h (by decide)
            · refine ⟨?_, ?_⟩
              · intro c r hc; cases c
                · exact ropg_of r rfl (And.intro rfl trivial) (rop_pure rfl (pu_move (OT.tmp rfl)))
                · exact ropg_of r rfl (And.intro rfl trivial) (rop_pure rfl (pu_move (OT.tmp rfl)))
              · exact fun _ _ _ _ => rfl
            · refine ⟨?_, ?_⟩
              · intro c r hc; cases c
                · exact ropg_of r rfl (And.intro rfl trivial) (rop_pure rfl (pu_slice_lo (OT.tmp rfl) OT.const Try.underlying40 (show tyOk Try.prog 38 false 1 = true from by decide +kernel) (by omega) (by omega)))
                · exact ropg_of r rfl (And.intro rfl trivial) (rop_pure rfl (pu_slice_lo (OT.tmp rfl) OT.const Try.underlying40 (show tyOk Try.prog 38 false 1 = true from by decide +kernel) (by omega) (by omega)))
              · exact fun _ _ _ _ => rfl
            · refine ⟨?_, ?_⟩
              · intro c r hc; cases c
                · exact Bool.noConfusion (hc.symm.trans (by kernel_rfl : okFlag _ _ _ _ = false))
                · exact ropg_of r rfl (And.intro rfl trivial) (rop_pure rfl (pu_assign (OT.tmp rfl)))
              · exact fun h => Bool.noConfusion (h.symm.trans (by kernel_rfl : okFlag _ _ _ _ = false))
          case h =>
            intro v10_5 _
            refine op_pure (pu_assign (OT.tmp rfl)) rfl rfl ?_
            refine tr_nil ?_
            refine block_normal ?_
            refine block_normal ?_
            refine then_normal ?_
            exact tr_again (a1.drop 1, b1, v10_5, vb, vr, l ++ [at' a1 0], m, r) ⟨hlen1, hlen2, hlen3, hw⟩ (by dsimp only; (try simp only [List.length_drop]); omega) (es_append (es_cons (t := 0) (by exact OT.tmp rfl) (es_cons (t := 1) (by exact OT.tmp rfl) (es_cons (t := 4) (by exact OT.tmp rfl) (es_cons (t := 5) (by exact OT.tmp rfl) (es_cons (t := 6) (by exact OT.tmp rfl) es_nil))))) es_nil) (own_picks (by repeat (first | exact picks_nil | refine picks_cons 0 rfl ?_ | refine picks_cons 1 rfl ?_ | refine picks_cons 2 rfl ?_ | refine picks_cons 3 rfl ?_ | refine picks_cons 4 rfl ?_ | refine picks_cons 5 rfl ?_ | refine picks_cons 6 rfl ?_)))
        · try simp only [decide_eq_true_eq, decide_eq_false_iff_not, Bool.or_eq_true, Bool.and_eq_true, Bool.or_eq_false_iff, Bool.and_eq_false_iff, Bool.not_eq_true', Bool.not_eq_false', ne_eq, Classical.not_not] at c41
          refine tr_seq ?_
          -- region 11
          refine tr_env (es_cons (t := 0) (OT.tmp rfl) (es_cons (t := 1) (OT.tmp rfl) (es_cons (t := 4) (OT.tmp rfl) (es_cons (t := 5) (OT.tmp rfl) (es_cons (t := 6) (OT.tmp rfl) (es_cons (t := 7) (OT.tmp rfl) es_nil)))))) ?_
          refine tr_region ?_
          refine op_pure (pu_move (OT.tmp rfl)) rfl rfl ?_
          refine op_pure (pu_gtr (OT.tmp rfl) OT.const) rfl rfl ?_
          refine op_pure (pu_assign (OT.tmp rfl)) rfl rfl ?_
          refine tr_nil ?_
          refine then_normal ?_
          refine tr_cond (OT.tmp rfl) (fun c52 => ?_) (fun c52 => ?_)
          · try simp only [decide_eq_true_eq, decide_eq_false_iff_not, Bool.or_eq_true, Bool.and_eq_true, Bool.or_eq_false_iff, Bool.and_eq_false_iff, Bool.not_eq_true', Bool.not_eq_false', ne_eq, Classical.not_not] at c52
            obtain ⟨hp, hst⟩ := walk_gt c52 (by omega)
            have hlen1 : (l).length + (a1).length ≤ a.length := by (try simp only [List.length_append, List.length_drop, List.length_cons, List.length_nil]); omega
            have hlen2 : (m).length + (a1).length ≤ a.length := by (try simp only [List.length_append, List.length_drop, List.length_cons, List.length_nil]); omega
            have hlen3 : (r ++ [at' b1 0]).length + (b1.drop 1).length ≤ b.length := by (try simp only [List.length_append, List.length_drop, List.length_cons, List.length_nil]); omega
            have hw : walkL a b = (l ++ (walkL (a1) (b1.drop 1)).1, m ++ (walkL (a1) (b1.drop 1)).2.1, r ++ [at' b1 0] ++ (walkL (a1) (b1.drop 1)).2.2) := by rw [hwk, hst]; simp
            -- region 12
            refine tr_env (es_cons (t := 0) (OT.tmp rfl) (es_cons (t := 1) (OT.tmp rfl) (es_cons (t := 4) (OT.tmp rfl) (es_cons (t := 5) (OT.tmp rfl) (es_cons (t := 6) (OT.tmp rfl) es_nil))))) ?_
            apply tr_anyG (ρ := Value) (φ := fun rr => True) (p := 5) (Lf := fun c rr => cond c ([OwnI 38 kT rr (r ++ [at' b1 0]), OwnI 38 kT vl l, OwnI 38 kT vb m]) ([OwnI 38 kT vl l, OwnI 38 kT vb m, OwnI 38 kT vr r])) nilS (by kernel_rfl) (m := 9) (ns := [[(6, none)], [(1, none)], [(56, some 1)], [(57, some 2)], [(58, some 3)], [(55, some 0), (59, some 4)], [(1, none)], [(61, some 6)], [(60, some 5)]]) (by kernel_rfl) (by kernel_rfl) (Ts := fun rr => [_, _, _, _, _, IsV rr, _, _, IsV rr]) (fun _ => rfl)
            case hops =>
              refine ⟨?_, ⟨?_, ⟨?_, ⟨?_, ⟨?_, ⟨?_, ⟨?_, ⟨?_, ⟨?_, trivial⟩⟩⟩⟩⟩⟩⟩⟩⟩
              · refine ⟨?_, ?_⟩
                · intro c r hc; cases c
                  · exact ropg_of r rfl (And.intro rfl trivial) (rop_pure rfl (pu_move (OT.tmp rfl)))
                  · exact Bool.noConfusion (hc.symm.trans (by kernel_rfl : okFlag _ _ _ _ = false))
                · exact fun _ _ _ _ => rfl
              · refine ⟨?_, ?_⟩
                · intro c r hc; cases c
                  · exact ropg_of r rfl (And.intro rfl trivial) (rop_pure rfl (pu_move (OT.tmp rfl)))
                  · exact Bool.noConfusion (hc.symm.trans (by kernel_rfl : okFlag _ _ _ _ = false))
                · exact fun _ _ _ _ => rfl
              · refine ⟨?_, ?_⟩
                · intro c r hc; cases c
                  · exact ropg_of r rfl (And.intro rfl trivial) (rop_pure rfl (pu_index (OT.tmp rfl) OT.const Try.underlying40 (show tyOk Try.prog 38 false 1 = true from by decide +kernel) (by omega) (by omega)))
                  · exact Bool.noConfusion (hc.symm.trans (by kernel_rfl : okFlag _ _ _ _ = false))
                · exact fun _ _ _ _ => rfl
              · refine ⟨?_, ?_⟩
                · intro c r hc; cases c
                  · exact ropg_of r rfl (And.intro rfl trivial) (rop_pure rfl (pu_load (OT.tmp rfl) (show tyOk Try.prog 38 false 1 = true from by decide +kernel)))
                  · exact Bool.noConfusion (hc.symm.trans (by kernel_rfl : okFlag _ _ _ _ = false))
                · exact fun _ _ _ _ => rfl
              · refine ⟨?_, ?_⟩
                · intro c r hc; cases c
                  · exact ropg_of r rfl (And.intro rfl trivial) (rop_acts rfl (acts_lit (d := kT) (v0 := []) (show slTy Try.prog 40 38 1 24 = true from by decide +kernel) (show tyOk Try.prog 38 false 1 = true from by decide +kernel) z38 (show 1 * 1 ≤ 16777216 from by decide) (by decide) (fills_arr rfl rfl (by decide) (OT.tmp rfl) fills_nil)) (fun _ _ _ _ h => h))
                  · exact Bool.noConfusion (hc.symm.trans (by kernel_rfl : okFlag _ _ _ _ = false))
                · exact fun _ _ _ _ => rfl
              · refine ⟨?_, ?_⟩
                · intro c r hc; cases c
                  · exact ropg_acts rfl (acts_append (OT.tmp rfl) (by exact perm_at 2 rfl) (OT.tmp rfl) (show slTy Try.prog 40 38 1 24 = true from by decide +kernel) (by (simp; omega)) (by (simp [maxLen]; omega))) (by exact perm_at 2 rfl) (fun r => (List.Perm.refl _)) (fun _ _ _ => trivial) (fun _ _ _ _ h => h)
                  · exact Bool.noConfusion (hc.symm.trans (by kernel_rfl : okFlag _ _ _ _ = false))
                · exact fun _ h => absurd h (by decide)
              · refine ⟨?_, ?_⟩
                · intro c r hc; cases c
                  · exact ropg_of r rfl (And.intro rfl trivial) (rop_pure rfl (pu_move (OT.tmp rfl)))
                  · exact ropg_of r rfl (And.intro rfl trivial) (rop_pure rfl (pu_move (OT.tmp rfl)))
                · exact fun _ _ _ _ => rfl
              · refine ⟨?_, ?_⟩
                · intro c r hc; cases c
                  · exact ropg_of r rfl (And.intro rfl trivial) (rop_pure rfl (pu_slice_lo (OT.tmp rfl) OT.const Try.underlying40 (show tyOk Try.prog 38 false 1 = true from by decide +kernel) (by omega) (by omega)))
                  · exact ropg_of r rfl (And.intro rfl trivial) (rop_pure rfl (pu_slice_lo (OT.tmp rfl) OT.const Try.underlying40 (show tyOk Try.prog 38 false 1 = true from by decide +kernel) (by omega) (by omega)))
                · exact fun _ _ _ _ => rfl
              · refine ⟨?_, ?_⟩
                · intro c r hc; cases c
                  · exact Bool.noConfusion (hc.symm.trans (by kernel_rfl : okFlag _ _ _ _ = false))
                  · exact ropg_of r rfl (And.intro rfl trivial) (rop_pure rfl (pu_assign (OT.tmp rfl)))
                · exact fun h => Bool.noConfusion (h.symm.trans (by kernel_rfl : okFlag _ _ _ _ = false))
            case h =>
              intro v12_5 _
              refine op_pure (pu_assign (OT.tmp rfl)) rfl rfl ?_
              refine tr_nil ?_
              refine block_normal ?_
              refine block_normal ?_
              refine then_normal ?_
              exact tr_again (a1, b1.drop 1, vl, vb, v12_5, l, m, r ++ [at' b1 0]) ⟨hlen1, hlen2, hlen3, hw⟩ (by dsimp only; (try simp only [List.length_drop]); omega) (es_append (es_cons (t := 0) (by exact OT.tmp rfl) (es_cons (t := 1) (by exact OT.tmp rfl) (es_cons (t := 4) (by exact OT.tmp rfl) (es_cons (t := 5) (by exact OT.tmp rfl) (es_cons (t := 6) (by exact OT.tmp rfl) es_nil))))) es_nil) (own_picks (by repeat (first | exact picks_nil | refine picks_cons 0 rfl ?_ | refine picks_cons 1 rfl ?_ | refine picks_cons 2 rfl ?_ | refine picks_cons 3 rfl ?_ | refine picks_cons 4 rfl ?_ | refine picks_cons 5 rfl ?_ | refine picks_cons 6 rfl ?_)))
          · try simp only [decide_eq_true_eq, decide_eq_false_iff_not, Bool.or_eq_true, Bool.and_eq_true, Bool.or_eq_false_iff, Bool.and_eq_false_iff, Bool.not_eq_true', Bool.not_eq_false', ne_eq, Classical.not_not] at c52
            obtain ⟨hp, hp2, hst⟩ := walk_eq (a := a1) (b := b1) (by omega)
            have hlen1 : (l).length + (a1.drop 1).length ≤ a.length := by (try simp only [List.length_append, List.length_drop, List.length_cons, List.length_nil]); omega
            have hlen2 : (m ++ [at' a1 0]).length + (a1.drop 1).length ≤ a.length := by (try simp only [List.length_append, List.length_drop, List.length_cons, List.length_nil]); omega
            have hlen3 : (r).length + (b1.drop 1).length ≤ b.length := by (try simp only [List.length_append, List.length_drop, List.length_cons, List.length_nil]); omega
            have hw : walkL a b = (l ++ (walkL (a1.drop 1) (b1.drop 1)).1, m ++ [at' a1 0] ++ (walkL (a1.drop 1) (b1.drop 1)).2.1, r ++ (walkL (a1.drop 1) (b1.drop 1)).2.2) := by rw [hwk, hst]; simp
            -- region 8
            refine tr_env (es_cons (t := 0) (OT.tmp rfl) (es_cons (t := 1) (OT.tmp rfl) (es_cons (t := 4) (OT.tmp rfl) (es_cons (t := 5) (OT.tmp rfl) (es_cons (t := 6) (OT.tmp rfl) es_nil))))) ?_
            apply tr_anyG (ρ := Value) (φ := fun rr => True) (p := 5) (Lf := fun c rr => cond c ([OwnI 38 kT rr (m ++ [at' a1 0]), OwnI 38 kT vl l, OwnI 38 kT vr r]) ([OwnI 38 kT vl l, OwnI 38 kT vb m, OwnI 38 kT vr r])) nilS (by kernel_rfl) (m := 12) (ns := [[(5, none)], [(0, none)], [(32, some 1)], [(33, some 2)], [(34, some 3)], [(31, some 0), (35, some 4)], [(0, none)], [(37, some 6)], [(1, none)], [(39, some 8)], [(36, some 5)], [(38, some 7)]]) (by kernel_rfl) (by kernel_rfl) (Ts := fun rr => [_, _, _, _, _, IsV rr, _, _, _, _, IsV rr, _]) (fun _ => rfl)
            case hops =>
              refine ⟨?_, ⟨?_, ⟨?_, ⟨?_, ⟨?_, ⟨?_, ⟨?_, ⟨?_, ⟨?_, ⟨?_, ⟨?_, ⟨?_, trivial⟩⟩⟩⟩⟩⟩⟩⟩⟩⟩⟩⟩
              · refine ⟨?_, ?_⟩
                · intro c r hc; cases c
                  · exact ropg_of r rfl (And.intro rfl trivial) (rop_pure rfl (pu_move (OT.tmp rfl)))
                  · exact Bool.noConfusion (hc.symm.trans (by kernel_rfl : okFlag _ _ _ _ = false))
                · exact fun _ _ _ _ => rfl
              · refine ⟨?_, ?_⟩
                · intro c r hc; cases c
                  · exact ropg_of r rfl (And.intro rfl trivial) (rop_pure rfl (pu_move (OT.tmp rfl)))
                  · exact Bool.noConfusion (hc.symm.trans (by kernel_rfl : okFlag _ _ _ _ = false))
                · exact fun _ _ _ _ => rfl
              · refine ⟨?_, ?_⟩
                · intro c r hc; cases c
                  · exact ropg_of r rfl (And.intro rfl trivial) (rop_pure rfl (pu_index (OT.tmp rfl) OT.const Try.underlying40 (show tyOk Try.prog 38 false 1 = true from by decide +kernel) (by omega) (by omega)))
                  · exact Bool.noConfusion (hc.symm.trans (by kernel_rfl : okFlag _ _ _ _ = false))
                · exact fun _ _ _ _ => rfl
              · refine ⟨?_, ?_⟩
                · intro c r hc; cases c
                  · exact ropg_of r rfl (And.intro rfl trivial) (rop_pure rfl (pu_load (OT.tmp rfl) (show tyOk Try.prog 38 false 1 = true from by decide +kernel)))
                  · exact Bool.noConfusion (hc.symm.trans (by kernel_rfl : okFlag _ _ _ _ = false))
                · exact fun _ _ _ _ => rfl
              · refine ⟨?_, ?_⟩
                · intro c r hc; cases c
                  · exact ropg_of r rfl (And.intro rfl trivial) (rop_acts rfl (acts_lit (d := kT) (v0 := []) (show slTy Try.prog 40 38 1 24 = true from by decide +kernel) (show tyOk Try.prog 38 false 1 = true from by decide +kernel) z38 (show 1 * 1 ≤ 16777216 from by decide) (by decide) (fills_arr rfl rfl (by decide) (OT.tmp rfl) fills_nil)) (fun _ _ _ _ h => h))
                  · exact Bool.noConfusion (hc.symm.trans (by kernel_rfl : okFlag _ _ _ _ = false))
                · exact fun _ _ _ _ => rfl
              · refine ⟨?_, ?_⟩
                · intro c r hc; cases c
                  · exact ropg_acts rfl (acts_append (OT.tmp rfl) (by exact perm_at 1 rfl) (OT.tmp rfl) (show slTy Try.prog 40 38 1 24 = true from by decide +kernel) (by (simp; omega)) (by (simp [maxLen]; omega))) (by exact perm_at 1 rfl) (fun r => (List.Perm.refl _)) (fun _ _ _ => trivial) (fun _ _ _ _ h => h)
                  · exact Bool.noConfusion (hc.symm.trans (by kernel_rfl : okFlag _ _ _ _ = false))
                · exact fun _ h => absurd h (by decide)
              · refine ⟨?_, ?_⟩
                · intro c r hc; cases c
                  · exact ropg_of r rfl (And.intro rfl trivial) (rop_pure rfl (pu_move (OT.tmp rfl)))
                  · exact ropg_of r rfl (And.intro rfl trivial) (rop_pure rfl (pu_move (OT.tmp rfl)))
                · exact fun _ _ _ _ => rfl
              · refine ⟨?_, ?_⟩
                · intro c r hc; cases c
                  · exact ropg_of r rfl (And.intro rfl trivial) (rop_pure rfl (pu_slice_lo (OT.tmp rfl) OT.const Try.underlying40 (show tyOk Try.prog 38 false 1 = true from by decide +kernel) (by omega) (by omega)))
                  · exact ropg_of r rfl (And.intro rfl trivial) (rop_pure rfl (pu_slice_lo (OT.tmp rfl) OT.const Try.underlying40 (show tyOk Try.prog 38 false 1 = true from by decide +kernel) (by omega) (by omega)))
                · exact fun _ _ _ _ => rfl
              · refine ⟨?_, ?_⟩
                · intro c r hc; cases c
                  · exact ropg_of r rfl (And.intro rfl trivial) (rop_pure rfl (pu_move (OT.tmp rfl)))
                  · exact ropg_of r rfl (And.intro rfl trivial) (rop_pure rfl (pu_move (OT.tmp rfl)))
                · exact fun _ _ _ _ => rfl
              · refine ⟨?_, ?_⟩
                · intro c r hc; cases c
                  · exact ropg_of r rfl (And.intro rfl trivial) (rop_pure rfl (pu_slice_lo (OT.tmp rfl) OT.const Try.underlying40 (show tyOk Try.prog 38 false 1 = true from by decide +kernel) (by omega) (by omega)))
                  · exact ropg_of r rfl (And.intro rfl trivial) (rop_pure rfl (pu_slice_lo (OT.tmp rfl) OT.const Try.underlying40 (show tyOk Try.prog 38 false 1 = true from by decide +kernel) (by omega) (by omega)))
                · exact fun _ _ _ _ => rfl
              · refine ⟨?_, ?_⟩
                · intro c r hc; cases c
                  · exact Bool.noConfusion (hc.symm.trans (by kernel_rfl : okFlag _ _ _ _ = false))
                  · exact ropg_of r rfl (And.intro rfl trivial) (rop_pure rfl (pu_assign (OT.tmp rfl)))
                · exact fun h => Bool.noConfusion (h.symm.trans (by kernel_rfl : okFlag _ _ _ _ = false))
              · refine ⟨?_, ?_⟩
                · intro c r hc; cases c
                  · exact Bool.noConfusion (hc.symm.trans (by kernel_rfl : okFlag _ _ _ _ = false))
                  · exact ropg_of r rfl (And.intro rfl trivial) (rop_pure rfl (pu_assign (OT.tmp rfl)))
                · exact fun h => Bool.noConfusion (h.symm.trans (by kernel_rfl : okFlag _ _ _ _ = false))
            case h =>
              intro v8_5 _
              refine op_pure (pu_assign (OT.tmp rfl)) rfl rfl ?_
              refine tr_nil ?_
              refine block_normal ?_
              refine block_normal ?_
              refine then_normal ?_
              exact tr_again (a1.drop 1, b1.drop 1, vl, v8_5, vr, l, m ++ [at' a1 0], r) ⟨hlen1, hlen2, hlen3, hw⟩ (by dsimp only; (try simp only [List.length_drop]); omega) (es_append (es_cons (t := 0) (by exact OT.tmp rfl) (es_cons (t := 1) (by exact OT.tmp rfl) (es_cons (t := 4) (by exact OT.tmp rfl) (es_cons (t := 5) (by exact OT.tmp rfl) (es_cons (t := 6) (by exact OT.tmp rfl) es_nil))))) es_nil) (own_picks (by repeat (first | exact picks_nil | refine picks_cons 0 rfl ?_ | refine picks_cons 1 rfl ?_ | refine picks_cons 2 rfl ?_ | refine picks_cons 3 rfl ?_ | refine picks_cons 4 rfl ?_ | refine picks_cons 5 rfl ?_ | refine picks_cons 6 rfl ?_)))
    · try simp only [decide_eq_true_eq, decide_eq_false_iff_not, Bool.or_eq_true, Bool.and_eq_true, Bool.or_eq_false_iff, Bool.and_eq_false_iff, Bool.not_eq_true', Bool.not_eq_false', ne_eq, Classical.not_not] at c15
      have hfin := hwk
      rw [walk_end (a := a1) (b := b1) (by omega) (by omega)] at hfin
      simp only [List.append_nil] at hfin
      refine tr_exit ?_
      refine then_exit ?_
      refine then_exit ?_
      refine block_hit ?_
      refine then_normal ?_
      refine tr_seq ?_
      -- region 13
      refine tr_env (es_cons (t := 4) (OT.tmp rfl) (es_cons (t := 5) (OT.tmp rfl) (es_cons (t := 6) (OT.tmp rfl) es_nil))) ?_
      refine tr_freeze (by exact perm_at 0 rfl) 4 (OT.tmp rfl) ?_
      refine tr_freeze (by exact perm_at 0 rfl) 5 (OT.tmp rfl) ?_
      refine tr_freeze (by exact perm_at 0 rfl) 6 (OT.tmp rfl) ?_
      refine tr_region ?_
      refine op_pure (pu_move (OT.tmp rfl)) rfl rfl ?_
      refine op_pure (pu_move (OT.tmp rfl)) rfl rfl ?_
      refine op_pure (pu_move (OT.tmp rfl)) rfl rfl ?_
      refine op_pure (pu_assign (OT.tmp rfl)) rfl rfl ?_
      refine op_pure (pu_assign (OT.tmp rfl)) rfl rfl ?_
      refine op_pure (pu_assign (OT.tmp rfl)) rfl rfl ?_
      refine tr_nil ?_
      refine then_normal ?_
      refine tr_ret ?_
      exact ret_three .ret (.inl rfl) rfl () (OT.eq (OT.tmp rfl) (congrArg (SlT kT) (by rw [hfin]))) (OT.eq (OT.tmp rfl) (congrArg (SlT kT) (by rw [hfin]))) (OT.eq (OT.tmp rfl) (congrArg (SlT kT) (by rw [hfin]))) (fun _ _ h => h) trivial (by exact picks_nil)
end Go.Proofs.Ytloblpklkhepbaa
