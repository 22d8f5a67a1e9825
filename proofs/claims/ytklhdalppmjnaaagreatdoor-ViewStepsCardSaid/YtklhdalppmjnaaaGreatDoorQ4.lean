/- The texts BiB, So6, So7, TuA, Tu1, TuB, TuC, TuD, Tu2, Tu3, Tu4, TuE, Tu5, Tu6, G30, G31, G32, JnA of this claim, put together in their order. No condition of their own. -/
import Derived.Test.YtklhdalppmjnaaaGreatDoorQ1
import Derived.Test.YtklhdalppmjnaaaGreatDoorQ3
import Derived.Test.YtklhdalppmjnaaaGreatDoorQ2
import Derived.Test.YtklhdalppmjnaaaGreatDoorProg
import Derived.MapKept
/- 2 ^ bits.Len(x) is at most twice x; bits.Len's contract. -/
namespace Go.Proofs.YtklhdalppmjnaaaGreatDoor
open Go Go.Gw
theorem bitLen_two : ∀ n x : Nat, x ≤ n → 0 < x → x < 2 ^ 64 → 2 ^ Lib.bitLen x ≤ 2 * x
 | 0, x, h, h0, _ => by omega
 | n + 1, x, h, h0, hx => by
  rw [Lib.bitLen_half x (by omega) hx, Nat.add_comm, Nat.pow_succ]
  by_cases h1 : x / 2 = 0
  · rw [h1, show Lib.bitLen 0 = 0 from rfl]; omega
  · have := bitLen_two n (x / 2) (by omega) (by omega) (by omega)
    omega
theorem bits_ct (x : Int) (h0 : 0 ≤ x) (h1 : x ≤ 18446744073709551615) : Ct Tryz.prog 99 [IsV (.int .u64 x)] [] Unit (fun _ => I64 (Lib.bitLen x.toNat)) (fun _ => []) (fun _ => True) := ct_one fun w => bits_Len x w h0 h1
end Go.Proofs.YtklhdalppmjnaaaGreatDoor
namespace Go.Proofs.YtklhdalppmjnaaaGreatDoor
open Go Go.Gw
theorem and_le {m n : Int} (h0 : 0 ≤ n) (h1 : n < 9223372036854775808) : 0 ≤ bitsV .and .u64 m n ∧ bitsV .and .u64 m n ≤ n := by
 have hn : (BitVec.ofInt 64 n).toNat = n.toNat := by
  rw [BitVec.toNat_ofInt]; omega
 have h2 : ((BitVec.ofInt 64 m &&& BitVec.ofInt 64 n).toNat : Int) ≤ n := by
  rw [BitVec.toNat_and]
  have : (BitVec.ofInt 64 m).toNat &&& (BitVec.ofInt 64 n).toNat ≤ (BitVec.ofInt 64 n).toNat := Nat.and_le_right
  omega
 have h3 : bitsV .and .u64 m n = ((BitVec.ofInt 64 m &&& BitVec.ofInt 64 n).toNat : Int) := by
  show IntKind.wrap .u64 ((BitVec.ofInt 64 m &&& BitVec.ofInt 64 n).toNat : Int) = _
  exact wrap_in (k := .u64) (by omega) (by show _ < (9223372036854775808 : Int); omega)
 rw [h3]; omega
theorem two_pow_in {n : Nat} (h0 : 0 < n) (h1 : n < 4611686018427387904) : IntKind.wrap .u64 (1 * 2 ^ min (Lib.bitLen n) 64) = ((2 ^ Lib.bitLen n : Nat) : Int) ∧ 2 ^ Lib.bitLen n ≤ 2 * n ∧ 0 < 2 ^ Lib.bitLen n := by
 have h := bitLen_two n n (Nat.le_refl _) h0 (by omega)
 have hl : Lib.bitLen n < 64 := by
  rcases Nat.lt_or_ge (Lib.bitLen n) 64 with h2 | h2
  · exact h2
  · have := Nat.pow_le_pow_right (n := 2) (by omega) h2
    omega
 refine ⟨?_, h, Nat.two_pow_pos _⟩
 rw [Nat.min_eq_left (by omega), Int.one_mul]
 rw [show (2 : Int) ^ Lib.bitLen n = ((2 ^ Lib.bitLen n : Nat) : Int) from by simp]
 generalize 2 ^ Lib.bitLen n = q at h
 exact wrap_in (k := .u64) (Int.natCast_nonneg _) (by show _ < (9223372036854775808 : Int); omega)
end Go.Proofs.YtklhdalppmjnaaaGreatDoor
/- Walks through the Go functions (*slices.xorshift).Next, slices.nextPowerOfTwo, api.Tuple], as typed contracts. -/
namespace Go.Proofs.YtklhdalppmjnaaaGreatDoor
open Go Go.Gw Go.So
set_option linter.unusedVariables false
set_option linter.unusedSimpArgs false
variable {Z : SlTy}
abbrev kU : Kd Int := kint .u64

set_option maxHeartbeats 1000000 in
set_option maxRecDepth 20000 in
/-- (*slices.xorshift).Next -/
theorem next_fn (g : Nat) (n : Int) : Ct Tryz.prog 145 [IsV (pt g 0)] ([BlkI g 229 kU n]) Int (fun r => IntT .u64 r) (fun r => [BlkI g 229 kU r]) (fun _ => True) := by
 refine fn_intro Tryz.func145 rfl rfl ?_
 intro H w
 refine sq (te (ec 0 rfl en) (rg (ak rfl (tn (nn (sq (te (ec 0 rfl en) ?_)))))))
 apply tr_any (m := 7) (ns := [[(0, none)], [(3, some 0)], [(4, some 1)], [(0, none)], [(6, some 3)], [(7, some 4)], [(8, some 5)]]) (by kernel_rfl) (by kernel_rfl) (Ts := [_, _, _, _, _, _, _]) rfl
 case hops =>
  refine ⟨?_, ?_, ?_, ?_, ?_, ?_, ?_, trivial⟩
  · exact rmv rfl
  · exact rP (pu_nilCheck (oT rfl))
  · exact rP (plv (oT rfl) (by exact mA 0 rfl) y6)
  · exact rmv rfl
  · exact rP (pu_nilCheck (oT rfl))
  · exact rP (plv (oT rfl) (by exact mA 0 rfl) y6)
  · exact rP (pu_shl (oT rfl) ot (by omega))
 case h =>
  refine oP (pu_bits (oT rfl) (oT rfl) (by simp)) rfl ?_
  refine oP (pu_nilCheck (oT rfl)) rfl (oA (asv (oT rfl) (oT rfl) (by exact pA 0 rfl) y6) (by exact pA 0 rfl) rfl rfl (fun _ _ => ?_))
  refine tn ?_
  generalize bitsV _ _ _ _ = n1
  refine nn (sq (te (ec 0 rfl en) ?_))
  apply tr_any (m := 7) (ns := [[(0, none)], [(12, some 0)], [(13, some 1)], [(0, none)], [(15, some 3)], [(16, some 4)], [(17, some 5)]]) (by kernel_rfl) (by kernel_rfl) (Ts := [_, _, _, _, _, _, _]) rfl
  case hops =>
   refine ⟨?_, ?_, ?_, ?_, ?_, ?_, ?_, trivial⟩
   · exact rmv rfl
   · exact rP (pu_nilCheck (oT rfl))
   · exact rP (plv (oT rfl) (by exact mA 0 rfl) y6)
   · exact rmv rfl
   · exact rP (pu_nilCheck (oT rfl))
   · exact rP (plv (oT rfl) (by exact mA 0 rfl) y6)
   · exact rP (pu_shr (oT rfl) ot (by omega))
  case h =>
   refine oP (pu_bits (oT rfl) (oT rfl) (by simp)) rfl ?_
   refine oP (pu_nilCheck (oT rfl)) rfl (oA (asv (oT rfl) (oT rfl) (by exact pA 0 rfl) y6) (by exact pA 0 rfl) rfl rfl (fun _ _ => ?_))
   refine tn ?_
   generalize bitsV _ _ _ _ = n2
   refine nn (sq (te (ec 0 rfl en) ?_))
   apply tr_any (m := 7) (ns := [[(0, none)], [(21, some 0)], [(22, some 1)], [(0, none)], [(24, some 3)], [(25, some 4)], [(26, some 5)]]) (by kernel_rfl) (by kernel_rfl) (Ts := [_, _, _, _, _, _, _]) rfl
   case hops =>
    refine ⟨?_, ?_, ?_, ?_, ?_, ?_, ?_, trivial⟩
    · exact rmv rfl
    · exact rP (pu_nilCheck (oT rfl))
    · exact rP (plv (oT rfl) (by exact mA 0 rfl) y6)
    · exact rmv rfl
    · exact rP (pu_nilCheck (oT rfl))
    · exact rP (plv (oT rfl) (by exact mA 0 rfl) y6)
    · exact rP (pu_shl (oT rfl) ot (by omega))
   case h =>
    refine oP (pu_bits (oT rfl) (oT rfl) (by simp)) rfl ?_
    refine oP (pu_nilCheck (oT rfl)) rfl (oA (asv (oT rfl) (oT rfl) (by exact pA 0 rfl) y6) (by exact pA 0 rfl) rfl rfl (fun _ _ => ?_))
    refine tn ?_
    generalize bitsV _ _ _ _ = n3
    refine nn (sq (te (ec 0 rfl en) (rg (mv rfl rfl (oP (pu_nilCheck (oT rfl)) rfl (oP (plv (oT rfl) (by exact mA 0 rfl) y6) rfl ?_))))))
    refine av rfl rfl (tn (nn (tR ?_)))
    exact ret_one .ret (.inl rfl) rfl _ (oT rfl) trivial (by repeat first | exact pn | refine pc 0 rfl ?_)
set_option maxHeartbeats 1000000 in
set_option maxRecDepth 20000 in
/-- slices.nextPowerOfTwo -/
theorem npow_fn (n : Nat) (h0 : 0 < n) (h1 : n < 4611686018427387904) : Ct Tryz.prog 144 [I64 (n : Int)] ([]) Unit (fun _ => IntT .u64 (((2 ^ Lib.bitLen n : Nat) : Int))) (fun _ => []) (fun _ => True) := by
 refine fn_intro Tryz.func144 rfl rfl ?_
 intro H w
 have hp := two_pow_in h0 h1
 have hz : ((n : Int)).toNat = n := Int.toNat_natCast n
 refine sq (te (ec 0 rfl en) (rg (ak rfl (tn (nn (sq (te (ec 0 rfl en) (rg (mv rfl rfl (oP (pu_convert' (oT rfl) Tryz.underlying3 Tryz.underlying175 (by omega) (by omega) rfl) rfl (oA (aC (bits_ct (n : Int) (by omega) (by omega)) y7 (oc (oT rfl) oN) pR) pR rfl rfl (fun _ _ => ?_))))))))))))
 refine oP (pu_shl ot (oT rfl) (by omega)) rfl (av rfl rfl (tn (nn (tR ?_))))
 exact ret_one .ret (.inl rfl) rfl () (OT.val (oT rfl) (congrArg (Value.int _) hp.1)) trivial (by exact pn)
set_option maxHeartbeats 1000000 in
set_option maxRecDepth 20000 in
/-- slices.breakPatternsCmpFunc[rhizome/api.Tuple] -/
theorem break_fn (v fv : Value) (d : DA) (a b : Nat) (hm : d.size < 4611686018427387904) (hab : a < b) (hb : b ≤ d.size) : Ct Tryz.prog 120 [IsV v, I64 (a : Int), I64 (b : Int), IsV fv] ([OwnI 51 (kG Z) v d.toList]) DA (fun r => AnyT) (fun r => [OwnI 51 (kG Z) v r.toList]) (fun r => Sort.PermIn a b d r) := by
 refine fn_intro Tryz.func120 rfl rfl ?_
 intro H w
 refine sq (te (ec 0 rfl (ec 1 rfl (ec 2 rfl en))) (rg (mv rfl rfl (mv rfl rfl (oP (pu_sub' (oT rfl) (oT rfl) (by omega)) rfl (av rfl rfl (tn (nn (sq (te (ec 0 rfl (ec 1 rfl (ec 8 rfl en))) ?_))))))))))
 rw [show (b : Int) - a = ((b - a : Nat) : Int) from by omega]
 obtain ⟨l, hl⟩ : ∃ l : Nat, b - a = l := ⟨_, rfl⟩
 rw [hl]
 refine rg (mv rfl rfl (oP (pu_geq (oT rfl) ot) rfl (tn (nn (tc (oT rfl) (fun c17 => ?_) (fun c17 => ?_))))))
 · try simp only [cq] at c17
   refine sq (te (ec 0 rfl (ec 1 rfl (ec 8 rfl en))) (rg (mv rfl rfl (oP (pu_convert' (oT rfl) Tryz.underlying3 Tryz.underlying229 (by omega) (by omega) rfl) rfl ?_))))
   skip
   refine oA (acts_alloc (d := kU) (v := 0) ⟨.int .u64 0, by kernel_rfl, fun H => rfl⟩) pR rfl rfl (fun g2_2 _ => ?_)
   refine oA (asv (oT rfl) (oT rfl) (by exact pA 0 rfl) y6) (by exact pA 0 rfl) rfl rfl (fun _ _ => ?_)
   refine tn (nn (sq (te (ec 0 rfl (ec 1 rfl (ec 8 rfl (ec 9 rfl en)))) (rg (mv rfl rfl (oA (aC (npow_fn _ (by omega) (by omega)) y8 (oc (oT rfl) oN) pR) pR rfl rfl (fun _ _ => ?_)))))))
   refine av rfl rfl (tn (nn (sq (te (ec 0 rfl (ec 1 rfl (ec 8 rfl (ec 9 rfl (ec 10 rfl en))))) ?_))))
   obtain ⟨m, hm2, hm0, hmd⟩ : ∃ m : Nat, m ≤ 2 * l ∧ 0 < m ∧ 2 ^ Lib.bitLen l = m := ⟨_, (two_pow_in (n := l) (by omega) (by omega)).2.1, (two_pow_in (n := l) (by omega) (by omega)).2.2, rfl⟩
   rw [hmd]
   refine rg (mv rfl rfl (mv rfl rfl (oP (pu_quo' (oT rfl) ot (by omega) (by omega)) rfl (oP (pu_mul' (oT rfl) ot (by omega)) rfl (oP (pad (oT rfl) (oT rfl) (by omega)) rfl (oP (pu_sub' (oT rfl) ot (by omega)) rfl (av rfl rfl (tn (nn (tb (tr_loopK (σ := Nat × DA × Int) (ec 0 rfl (ec 1 rfl (ec 8 rfl (ec 9 rfl (ec 10 rfl en))))) (fun s => [(11, I64 (s.1 : Int))]) (fun s => [OwnI 51 (kG Z) v s.2.1.toList, BlkI g2_2 229 kU s.2.2]) (fun s => a + l / 4 * 2 - 1 ≤ s.1 ∧ s.1 ≤ a + l / 4 * 2 + 2 ∧ s.2.1.size = d.size ∧ Sort.PermIn a b d s.2.1) (fun s => a + l / 4 * 2 + 2 - s.1) (a + l / 4 * 2 - 1, d, _) ⟨Nat.le_refl _, by show a + l / 4 * 2 - 1 ≤ a + l / 4 * 2 + 2; omega, rfl, Sort.permIn_refl _ _ _⟩ ?_ (op (by repeat first | exact pn | refine pc 0 rfl ?_ | refine pc 1 rfl ?_)) ?_)))))))))))
   · exact (es_cons (t := 11) (OT.val (oT rfl) (congrArg (Value.int _) (by show _ = ((a + l / 4 * 2 - 1 : Nat) : Int); omega))) en)
   · rintro ⟨k, d1, x⟩ ⟨hk0, hk1, hs1, hp⟩
     dsimp only at hk0 hk1 hs1 hp ⊢
     have hl1 : d1.toList.length = d1.size := Array.length_toList
     refine sq (sq (te (ec 0 rfl (ec 1 rfl (ec 8 rfl (ec 9 rfl (ec 10 rfl (ec 11 rfl en)))))) (rg (mv rfl rfl (mv rfl rfl (mv rfl rfl (oP (pu_quo' (oT rfl) ot (by omega) (by omega)) rfl (oP (pu_mul' (oT rfl) ot (by omega)) rfl (oP (pad (oT rfl) (oT rfl) (by omega)) rfl (oP (pad (oT rfl) ot (by omega)) rfl (oP (pu_leq (oT rfl) (oT rfl)) rfl (tn (nn (tc (oT rfl) (fun c35 => ?_) (fun c35 => ?_)))))))))))))))
     · try simp only [cq] at c35
       refine sk (nn (sq (tb (sq (te (ec 0 rfl (ec 1 rfl (ec 8 rfl (ec 9 rfl (ec 10 rfl (ec 11 rfl en)))))) (rg (oA (aC (next_fn _ _) y9 (oc (oT rfl) oN) (by exact pA 1 rfl)) (by exact pA 1 rfl) rfl rfl (fun x7_0 _ => ?_))))))))
       refine mv rfl rfl (oP (pu_sub_u (oT rfl) ot (by omega) (by omega)) rfl (oP (pu_bits (oT rfl) (oT rfl) (.inl rfl)) rfl ?_))
       have hbv := and_le (m := x7_0) (n := (m : Int) - 1) (by omega) (by omega)
       refine oP (pu_convert' (oT rfl) Tryz.underlying175 Tryz.underlying3 (by omega) (by omega) rfl) rfl (av rfl rfl (tn ?_))
       generalize bitsV _ _ _ _ = o1 at hbv ⊢
       refine nn (tr_joinK (σ := Nat) (ec 0 rfl (ec 1 rfl (ec 8 rfl (ec 9 rfl (ec 10 rfl (ec 11 rfl en)))))) (fun o => [(12, I64 (o : Int))]) (fun o => [OwnI 51 (kG Z) v d1.toList, BlkI g2_2 229 kU x7_0]) (fun o => o < l) ?_ ?_)
       · refine sq (te (ec 0 rfl (ec 1 rfl (ec 8 rfl (ec 9 rfl (ec 10 rfl (ec 11 rfl (ec 12 rfl en))))))) (rg (mv rfl rfl (mv rfl rfl (oP (pu_geq (oT rfl) (oT rfl)) rfl (tn (nn (tc (oT rfl) (fun c45 => ?_) (fun c45 => ?_)))))))))
         · try simp only [cq] at c45
           refine te (ec 0 rfl (ec 1 rfl (ec 8 rfl (ec 9 rfl (ec 10 rfl (ec 11 rfl (ec 12 rfl en))))))) (rg (mv rfl rfl (mv rfl rfl (oP (pu_sub' (oT rfl) (oT rfl) (by omega)) rfl (av rfl rfl (tn (nn ?_)))))))
           exact tr_joined (o1 - l).toNat (by omega) (ea (es_cons (t := 12) (OT.val (oT rfl) (congrArg (Value.int _) (by omega))) en) (ec 0 rfl (ec 1 rfl (ec 8 rfl (ec 9 rfl (ec 10 rfl (ec 11 rfl en))))))) (op (by repeat first | exact pn | refine pc 0 rfl ?_ | refine pc 1 rfl ?_))
         · try simp only [cq] at c45
           refine sk (nn ?_)
           exact tr_joined o1.toNat (by omega) (ea (es_cons (t := 12) (OT.val (oT rfl) (congrArg (Value.int _) (by omega))) en) (ec 0 rfl (ec 1 rfl (ec 8 rfl (ec 9 rfl (ec 10 rfl (ec 11 rfl en))))))) (op (by repeat first | exact pn | refine pc 0 rfl ?_ | refine pc 1 rfl ?_))
       · rintro o ho
         refine te (ec 0 rfl (ec 1 rfl (ec 8 rfl (ec 9 rfl (ec 10 rfl (ec 11 rfl (ec 12 rfl en))))))) ?_
         apply tr_anyW (p := 17) (Lf := fun c => cond c ([OwnI 51 (kG Z) v (d1.toList.set (k : Int).toNat (at' d1.toList ((a : Int) + o))), BlkI g2_2 229 kU x7_0]) ([OwnI 51 (kG Z) v d1.toList, BlkI g2_2 229 kU x7_0])) (by kernel_rfl) (m := 18) (ns := [[(0, none)], [(11, none)], [(0, none)], [(1, none)], [(12, none)], [(52, some 3), (53, some 4)], [(0, none)], [(1, none)], [(12, none)], [(56, some 7), (57, some 8)], [(55, some 6), (58, some 9)], [(59, some 10)], [(0, none)], [(11, none)], [(61, some 12), (62, some 13)], [(63, some 14)], [(49, some 0), (50, some 1)], [(60, some 11), (65, some 16)]]) (by kernel_rfl) (by kernel_rfl) (Ts := [_, _, _, _, _, _, _, _, _, _, _, _, _, _, _, _, _, _]) rfl
         case hops =>
          refine ⟨?_, ?_, ?_, ?_, ?_, ?_, ?_, ?_, ?_, ?_, ?_, ?_, ?_, ?_, ?_, ?_, ?_, ?_, trivial⟩
          · exact cAf (by kernel_rfl) fun _ => rw_ (rmv rfl)
          · exact cAf (by kernel_rfl) fun _ => rw_ (rmv rfl)
          · intro c hc; cases c <;> exact rw_ (rmv rfl)
          · intro c hc; cases c <;> exact rw_ (rmv rfl)
          · intro c hc; cases c <;> exact rw_ (rmv rfl)
          · intro c hc; cases c <;> exact rw_ (rP (pad (oT rfl) (oT rfl) (by omega)))
          · exact cAf (by kernel_rfl) fun _ => rw_ (rmv rfl)
          · exact cAf (by kernel_rfl) fun _ => rw_ (rmv rfl)
          · exact cAf (by kernel_rfl) fun _ => rw_ (rmv rfl)
          · exact cAf (by kernel_rfl) fun _ => rw_ (rP (pad (oT rfl) (oT rfl) (by omega)))
          · exact cAf (by kernel_rfl) fun _ => rw_ (rP (pio (oT rfl) (by exact mA 0 rfl) (oT rfl) Tryz.underlying36 y0 (by omega) (by omega)))
          · exact cAf (by kernel_rfl) fun _ => rw_ (rP (plo (oT rfl) (by exact mA 0 rfl) (by omega) (by omega) y0))
          · exact cAf (by kernel_rfl) fun _ => rw_ (rmv rfl)
          · exact cAf (by kernel_rfl) fun _ => rw_ (rmv rfl)
          · exact cAf (by kernel_rfl) fun _ => rw_ (rP (pio (oT rfl) (by exact mA 0 rfl) (oT rfl) Tryz.underlying36 y0 (by omega) (by omega)))
          · exact cAf (by kernel_rfl) fun _ => rw_ (rP (plo (oT rfl) (by exact mA 0 rfl) (by omega) (by omega) y0))
          · exact cAf (by kernel_rfl) fun _ => rw_ (rP (pio (oT rfl) (by exact mA 0 rfl) (oT rfl) Tryz.underlying36 y0 (by omega) (by omega)))
          · exact cAf (by kernel_rfl) fun _ => ropw_acts rfl (acts_store_own0 (oT rfl) (oT rfl) (by exact pA 0 rfl) (by omega) (by omega) y0) (by exact pA 0 rfl) (fun _ => (by exact pA 0 rfl)) (fun _ _ _ _ h => h)
         case h =>
          refine oP (pio (oT rfl) (by exact mA 0 rfl) (oT rfl) Tryz.underlying36 y0 (by omega) (by (simp; omega))) rfl ?_
          refine oA (acts_store_own0 (oT rfl) (oT rfl) (by exact pA 0 rfl) (by omega) (by (simp; omega)) y0) (by exact pA 0 rfl) rfl rfl (fun _ _ => ?_)
          refine tn ?_
          have hsw : (Sort.swp d1 k (a + o)).toList = (d1.toList.set (k : Int).toNat (at' d1.toList ((a : Int) + o))).set ((a : Int) + o).toNat (at' d1.toList (k : Int)) := by
           rw [swp_items (by omega) (by omega) (by omega) (by omega)]; congr 2
          refine bn (nn (te (ec 0 rfl (ec 1 rfl (ec 8 rfl (ec 9 rfl (ec 10 rfl (ec 11 rfl en)))))) (rg (mv rfl rfl (oP (pad (oT rfl) ot (by omega)) rfl (av rfl rfl (tn (nn ?_))))))))
          exact tg (k + 1, Sort.swp d1 k (a + o), x7_0) ⟨by show _ ≤ k + 1; omega, by show k + 1 ≤ _; omega, swp_size.trans hs1, Sort.permIn_trans _ _ _ _ _ hp (Sort.swp_permIn _ _ _ _ _ (by omega) (by omega) (by omega) (by omega) (by omega))⟩ (by show a + l / 4 * 2 + 2 - (k + 1) < a + l / 4 * 2 + 2 - k; omega) (ea (ec 11 rfl en) (ec 0 rfl (ec 1 rfl (ec 8 rfl (ec 9 rfl (ec 10 rfl en)))))) (op (by rw [hsw]; exact (by repeat first | exact pn | refine pc 0 rfl ?_)))
     · try simp only [cq] at c35
       refine tr_exit (tx (tx (bh ?_)))
       exact ret_none .normal (.inr rfl) rfl d1 (fun _ => trivial) hp (by repeat first | exact pn | refine pc 0 rfl ?_)
 · try simp only [cq] at c17
   refine sk ?_
   exact ret_none .normal (.inr rfl) rfl d (fun _ => trivial) (Sort.permIn_refl _ _ _) (by repeat first | exact pn | refine pc 0 rfl ?_)
end Go.Proofs.YtklhdalppmjnaaaGreatDoor
/- Walks through the Go functions api.Tuple], as typed contracts. -/
namespace Go.Proofs.YtklhdalppmjnaaaGreatDoor
open Go Go.Gw Go.So
set_option linter.unusedVariables false
set_option linter.unusedSimpArgs false
variable {Z : SlTy}
/-- pdqsort's contract: the part of the row is permuted, and sorted. -/
abbrev PdqCt (Z : SlTy) (v fv : Value) (c : List Int → List Int → Int) (a b : Nat) (lim : Int) (d : DA) : Prop :=
 Ct Tryz.prog 98 [IsV v, I64 (a : Int), I64 (b : Int), I64 lim, IsV fv] [OwnI 51 (kG Z) v d.toList] DA (fun _ => AnyT) (fun r => [OwnI 51 (kG Z) v r.toList]) (fun r => Sort.PermIn a b d r ∧ Sort.SortedIn (ltc c) a b r)

set_option maxHeartbeats 1000000 in
set_option maxRecDepth 20000 in
/-- slices.pdqsortCmpFunc[rhizome/api.Tuple] -/
theorem pdq_step (v fv : Value) (d : DA) (a b : Nat) (lim : Int) (c : List Int → List Int → Int) (hw : Sort.SWO (ltc c)) (hm : d.size < 4611686018427387904) (hab : a ≤ b) (hb : b ≤ d.size) (hl0 : 0 ≤ lim) (hl1 : lim < 4611686018427387904) (hB : Sort.Below (ltc c) a b d) (hfv : ∀ x y, CtV Tryz.prog fv [(kG Z).T x, (kG Z).T y] [] Unit (fun _ => I64 (c x y)) (fun _ => []) (fun _ => True)) (ih : ∀ (a2 b2 : Nat) (lim2 : Int) (d2 : DA), b2 - a2 < b - a → d2.size < 4611686018427387904 → a2 ≤ b2 → b2 ≤ d2.size → 0 ≤ lim2 → lim2 < 4611686018427387904 → Sort.Below (ltc c) a2 b2 d2 → PdqCt Z v fv c a2 b2 lim2 d2) : Ct Tryz.prog 98 [IsV v, I64 (a : Int), I64 (b : Int), I64 lim, IsV fv] ([OwnI 51 (kG Z) v d.toList]) DA (fun _ => AnyT) (fun r => [OwnI 51 (kG Z) v r.toList]) (fun r => Sort.PermIn a b d r ∧ Sort.SortedIn (ltc c) a b r) := by
 refine fn_intro Tryz.func98 rfl rfl ?_
 intro H w
 refine sq (te (ec 0 rfl (ec 1 rfl (ec 2 rfl (ec 3 rfl (ec 4 rfl en))))) (rg (ak rfl (tn (nn (sq (te (ec 0 rfl (ec 1 rfl (ec 2 rfl (ec 3 rfl (ec 4 rfl (ec 10 rfl en)))))) (rg (ak rfl (tn (nn (tb (tr_loopK (σ := Nat × Nat × Int × DA × Bool × Bool) (ec 0 rfl (ec 4 rfl en)) (fun s => [(1, I64 (s.1 : Int)), (2, I64 (s.2.1 : Int)), (3, I64 s.2.2.1), (10, BoolT s.2.2.2.2.1), (11, BoolT s.2.2.2.2.2)]) (fun s => [OwnI 51 (kG Z) v s.2.2.2.1.toList]) (fun s => a ≤ s.1 ∧ s.1 ≤ s.2.1 ∧ s.2.1 ≤ b ∧ s.2.2.2.1.size = d.size ∧ 0 ≤ s.2.2.1 ∧ s.2.2.1 < 4611686018427387904 ∧ Sort.Below (ltc c) s.1 s.2.1 s.2.2.2.1 ∧ (∀ R, Sort.PermIn s.1 s.2.1 s.2.2.2.1 R → Sort.SortedIn (ltc c) s.1 s.2.1 R → Sort.PermIn a b d R ∧ Sort.SortedIn (ltc c) a b R)) (fun s => s.2.1 - s.1) (a, b, lim, d, true, true) ⟨Nat.le_refl _, hab, Nat.le_refl _, rfl, hl0, hl1, hB, fun R h h2 => ⟨h, h2⟩⟩ ?_ (op (by repeat first | exact pn | refine pc 0 rfl ?_)) ?_)))))))))))))
 · exact (ec 1 rfl (ec 2 rfl (ec 3 rfl (ec 10 rfl (ec 11 rfl en)))))
 · rintro ⟨a1, b1, lim1, d1, wb, wp⟩ ⟨ha1, hab1, hb1, hs1, hlm0, hlm1, hBl, hfin⟩
   dsimp only at ha1 hab1 hb1 hs1 hlm0 hlm1 hBl hfin ⊢
   have hl1x : d1.toList.length = d1.size := Array.length_toList
   refine tb (sq (te (ec 0 rfl (ec 1 rfl (ec 2 rfl (ec 3 rfl (ec 4 rfl (ec 10 rfl (ec 11 rfl en))))))) (rg (mv rfl rfl (mv rfl rfl (oP (pu_sub' (oT rfl) (oT rfl) (by omega)) rfl (av rfl rfl (tn (nn (sq (sq (te (ec 0 rfl (ec 1 rfl (ec 2 rfl (ec 3 rfl (ec 4 rfl (ec 10 rfl (ec 11 rfl (ec 12 rfl en)))))))) (rg (mv rfl rfl (oP (pu_leq (oT rfl) ot) rfl (tn (nn (tc (oT rfl) (fun c25 => ?_) (fun c25 => ?_)))))))))))))))))))
   · try simp only [cq] at c25
     refine sq (te (ec 0 rfl (ec 1 rfl (ec 2 rfl (ec 4 rfl en)))) ?_)
     have hins := Sort.insertionSort_holds hw d1 a1 b1 (by omega) (by omega)
     refine rg (mv rfl rfl (mv rfl rfl (mv rfl rfl (mv rfl rfl (oA (aC (ins_fn v fv d1 a1 b1 c (by omega) (by omega) (by omega) hfv) y10 (oc (oT rfl) (oc (oT rfl) (oc (oT rfl) (oc (oT rfl) oN)))) (by exact pA 0 rfl)) (by exact pA 0 rfl) rfl rfl (fun _ _ => ?_))))))
     refine tn (nn (tR (tt (block_ret (tt (block_ret ?_))))))
     exact ret_none .ret (.inl rfl) rfl _ (fun _ => trivial) (hfin _ hins.1 hins.2) (by repeat first | exact pn | refine pc 0 rfl ?_)
   · try simp only [cq] at c25
     refine sk (nn (sq (sq (te (ec 0 rfl (ec 1 rfl (ec 2 rfl (ec 3 rfl (ec 4 rfl (ec 10 rfl (ec 11 rfl (ec 12 rfl en)))))))) (rg (mv rfl rfl (oP (pu_eql (oT rfl) ot) rfl (tn (nn (tc (oT rfl) (fun c32 => ?_) (fun c32 => ?_)))))))))))
     · try simp only [cq] at c32
       refine sq (te (ec 0 rfl (ec 1 rfl (ec 2 rfl (ec 4 rfl en)))) ?_)
       have hheap := Sort.heapSort_holds hw d1 a1 b1 (by omega) (by omega)
       refine rg (mv rfl rfl (mv rfl rfl (mv rfl rfl (mv rfl rfl (oA (aC (heap_fn v fv d1 a1 b1 c (by omega) (by omega) (by omega) hfv) y11 (oc (oT rfl) (oc (oT rfl) (oc (oT rfl) (oc (oT rfl) oN)))) (by exact pA 0 rfl)) (by exact pA 0 rfl) rfl rfl (fun _ _ => ?_))))))
       refine tn (nn (tR (tt (block_ret (tt (block_ret ?_))))))
       exact ret_none .ret (.inl rfl) rfl _ (fun _ => trivial) (hfin _ hheap.1 hheap.2) (by repeat first | exact pn | refine pc 0 rfl ?_)
     · try simp only [cq] at c32
       refine sk (nn (tr_joinK (σ := DA × Int) (ec 0 rfl (ec 1 rfl (ec 2 rfl (ec 4 rfl (ec 10 rfl (ec 11 rfl (ec 12 rfl en))))))) (fun s => [(3, I64 s.2)]) (fun s => [OwnI 51 (kG Z) v s.1.toList]) (fun s => Sort.PermIn a1 b1 d1 s.1 ∧ 0 ≤ s.2 ∧ s.2 < 4611686018427387904) ?_ ?_))
       · refine sq (te (ec 0 rfl (ec 1 rfl (ec 2 rfl (ec 3 rfl (ec 4 rfl (ec 10 rfl (ec 11 rfl (ec 12 rfl en)))))))) (rg (mv rfl rfl (oP (pu_not (oT rfl)) rfl (tn (nn (tc (oT rfl) (fun c39 => ?_) (fun c39 => ?_))))))))
         · try simp only [cq] at c39
           refine sq (te (ec 0 rfl (ec 1 rfl (ec 2 rfl (ec 3 rfl (ec 4 rfl (ec 10 rfl (ec 11 rfl (ec 12 rfl en)))))))) (rg (mv rfl rfl (mv rfl rfl (mv rfl rfl (mv rfl rfl (oA (aC (break_fn v fv d1 a1 b1 (by omega) (by omega) (by omega)) y12 (oc (oT rfl) (oc (oT rfl) (oc (oT rfl) (oc (oT rfl) oN)))) (by exact pA 0 rfl)) (by exact pA 0 rfl) rfl rfl (fun dd hdd => ?_))))))))
           refine tn (nn (te (ec 0 rfl (ec 1 rfl (ec 2 rfl (ec 3 rfl (ec 4 rfl (ec 10 rfl (ec 11 rfl (ec 12 rfl en)))))))) (rg (mv rfl rfl (oP (pu_sub' (oT rfl) ot (by omega)) rfl (av rfl rfl (tn (nn ?_))))))))
           exact tr_joined (dd, lim1 - 1) ⟨hdd, by show 0 ≤ lim1 - 1; omega, by show lim1 - 1 < _; omega⟩ (ea (ec 3 rfl en) (ec 0 rfl (ec 1 rfl (ec 2 rfl (ec 4 rfl (ec 10 rfl (ec 11 rfl (ec 12 rfl en)))))))) (op (by repeat first | exact pn | refine pc 0 rfl ?_))
         · try simp only [cq] at c39
           refine sk (nn ?_)
           exact tr_joined (d1, lim1) ⟨Sort.permIn_refl _ _ _, hlm0, hlm1⟩ (ea (ec 3 rfl en) (ec 0 rfl (ec 1 rfl (ec 2 rfl (ec 4 rfl (ec 10 rfl (ec 11 rfl (ec 12 rfl en)))))))) (op (by repeat first | exact pn | refine pc 0 rfl ?_))
       · rintro ⟨d2, lim2⟩ ⟨hP2, hl20, hl21⟩
         dsimp only at hP2 hl20 hl21 ⊢
         have hs2 := hP2.1
         refine sq (te (ec 0 rfl (ec 1 rfl (ec 2 rfl (ec 3 rfl (ec 4 rfl (ec 10 rfl (ec 11 rfl (ec 12 rfl en)))))))) (rg (mv rfl rfl (mv rfl rfl (mv rfl rfl (mv rfl rfl (oA (aC (pivot_fn v fv d2 a1 b1 c (by omega) (by omega) (by omega) hfv) y13 (oc (oT rfl) (oc (oT rfl) (oc (oT rfl) (oc (oT rfl) oN)))) (by exact pA 0 rfl)) (by exact pA 0 rfl) rfl rfl (fun ⟨p0, h0⟩ hq => ?_))))))))
         refine mv rfl rfl (oP (pu_extract (oT rfl) rfl) rfl (oP (pu_extract (oT rfl) rfl) rfl (av rfl rfl (av rfl rfl (tn (nn (tr_joinK (σ := DA × Nat × Int) (ec 0 rfl (ec 1 rfl (ec 2 rfl (ec 3 rfl (ec 4 rfl (ec 10 rfl (ec 11 rfl (ec 12 rfl en)))))))) (fun s => [(13, I64 (s.2.1 : Int)), (14, I64 s.2.2)]) (fun s => [OwnI 51 (kG Z) v s.1.toList]) (fun s => Sort.PermIn a1 b1 d1 s.1 ∧ a1 ≤ s.2.1 ∧ s.2.1 < b1) ?_ ?_)))))))
         · refine sq (te (ec 0 rfl (ec 1 rfl (ec 2 rfl (ec 3 rfl (ec 4 rfl (ec 10 rfl (ec 11 rfl (ec 12 rfl (ec 13 rfl (ec 14 rfl en)))))))))) (rg (mv rfl rfl (oP (pu_eql (oT rfl) ot) rfl (tn (nn (tc (oT rfl) (fun c56 => ?_) (fun c56 => ?_))))))))
           · try simp only [cq] at c56
             refine sq (te (ec 0 rfl (ec 1 rfl (ec 2 rfl (ec 3 rfl (ec 4 rfl (ec 10 rfl (ec 11 rfl (ec 12 rfl (ec 13 rfl en))))))))) ?_)
             have hrev := Sort.reverseRange_holds d2 a1 b1 (by omega) (by omega)
             have hrs := hrev.1
             refine rg (mv rfl rfl (mv rfl rfl (mv rfl rfl (mv rfl rfl (oA (aC (rev_fn v fv d2 a1 b1 (by omega) (by omega) (by omega)) y14 (oc (oT rfl) (oc (oT rfl) (oc (oT rfl) (oc (oT rfl) oN)))) (by exact pA 0 rfl)) (by exact pA 0 rfl) rfl rfl (fun _ _ => ?_))))))
             refine tn (nn (sq (te (ec 0 rfl (ec 1 rfl (ec 2 rfl (ec 3 rfl (ec 4 rfl (ec 10 rfl (ec 11 rfl (ec 12 rfl (ec 13 rfl en))))))))) (rg (mv rfl rfl (oP (pu_sub' (oT rfl) ot (by omega)) rfl (mv rfl rfl (mv rfl rfl (oP (pu_sub' (oT rfl) (oT rfl) (by omega)) rfl (oP (pu_sub' (oT rfl) (oT rfl) (by omega)) rfl (av rfl rfl (tn (nn (te (ec 0 rfl (ec 1 rfl (ec 2 rfl (ec 3 rfl (ec 4 rfl (ec 10 rfl (ec 11 rfl (ec 12 rfl (ec 13 rfl en))))))))) (rg (ak rfl (tn (nn ?_))))))))))))))))))
             dsimp only at hq
             exact tr_joined (_, b1 - 1 - (p0 - a1), 1) ⟨Sort.permIn_trans _ _ _ _ _ hP2 hrev, by show a1 ≤ b1 - 1 - (p0 - a1); omega, by show b1 - 1 - (p0 - a1) < b1; omega⟩ (ea (es_cons (t := 13) (by exact OT.val (oT rfl) (congrArg (Value.int _) (by (simp; omega)))) (ec 14 rfl en)) (ec 0 rfl (ec 1 rfl (ec 2 rfl (ec 3 rfl (ec 4 rfl (ec 10 rfl (ec 11 rfl (ec 12 rfl en))))))))) (op (by repeat first | exact pn | refine pc 0 rfl ?_))
           · try simp only [cq] at c56
             refine sk (nn ?_)
             exact tr_joined (d2, p0, h0) ⟨hP2, hq.1⟩ (ea (ec 13 rfl (ec 14 rfl en)) (ec 0 rfl (ec 1 rfl (ec 2 rfl (ec 3 rfl (ec 4 rfl (ec 10 rfl (ec 11 rfl (ec 12 rfl en))))))))) (op (by repeat first | exact pn | refine pc 0 rfl ?_))
         · rintro ⟨d3, p, h⟩ ⟨hP3, hp0, hp1⟩
           dsimp only at hP3 hp0 hp1 ⊢
           have hs3 := hP3.1
           have hB3 := hBl.perm (by omega) hP3
           refine tr_joinK (σ := DA) (ec 0 rfl (ec 1 rfl (ec 2 rfl (ec 3 rfl (ec 4 rfl (ec 10 rfl (ec 11 rfl (ec 12 rfl (ec 13 rfl en))))))))) (fun s => []) (fun s => [OwnI 51 (kG Z) v s.toList]) (fun s => Sort.PermIn a1 b1 d1 s) ?_ ?_
           · refine sq (te (ec 0 rfl (ec 1 rfl (ec 2 rfl (ec 3 rfl (ec 4 rfl (ec 10 rfl (ec 11 rfl (ec 12 rfl (ec 13 rfl (ec 14 rfl en)))))))))) (rg (mv rfl rfl (mv rfl rfl (oG rfl rfl rfl (gm (oT rfl)) (fun hg => by (have hg1 := hg.2; (try simp only [cq2] at hg1); exact pu_move (oT rfl))) rfl ?_)))))
             refine oP (pu_pick_and (oT rfl) (oT rfl)) rfl (mv rfl rfl (oG rfl rfl rfl (gm (oT rfl)) (fun hg => by (have hg1 := hg.2; (try simp only [cq2] at hg1); exact pu_move (oT rfl))) rfl ?_))
             refine oG rfl rfl rfl (gm (oT rfl)) (fun hg => by (have hg1 := hg.2; (try simp only [cq2] at hg1); exact pu_eql (by exact gu (oT rfl) hg) ot)) rfl ?_
             refine oP (pu_pick_and (oT rfl) (oT rfl)) rfl (tn (nn (tc (oT rfl) (fun c75 => ?_) (fun c75 => ?_))))
             · try simp only [cq] at c75
               refine sq (te (ec 0 rfl (ec 1 rfl (ec 2 rfl (ec 3 rfl (ec 4 rfl (ec 10 rfl (ec 11 rfl (ec 12 rfl (ec 13 rfl en))))))))) ?_)
               have hpi := Sort.partialInsertionSort_holds hw d3 a1 b1 (by omega) (by omega) hB3
               refine rg (mv rfl rfl (mv rfl rfl (mv rfl rfl (mv rfl rfl (oA (aC (pins_fn v fv d3 a1 b1 c (by omega) (by omega) (by omega) hfv) y15 (oc (oT rfl) (oc (oT rfl) (oc (oT rfl) (oc (oT rfl) oN)))) (by exact pA 0 rfl)) (by exact pA 0 rfl) rfl rfl (fun _ _ => ?_))))))
               refine tn (nn (tc (oT rfl) (fun c80 => ?_) (fun c80 => ?_)))
               · try simp only [cq] at c80
                 have hfn := hfin _ (Sort.permIn_trans _ _ _ _ _ hP3 hpi.1) (hpi.2 c80)
                 refine tR (tt (block_ret (tt (block_ret ?_))))
                 exact ret_none .ret (.inl rfl) rfl _ (fun _ => trivial) hfn (by repeat first | exact pn | refine pc 0 rfl ?_)
               · try simp only [cq] at c80
                 refine sk (nn ?_)
                 exact tr_joined _ (Sort.permIn_trans _ _ _ _ _ hP3 hpi.1) (ea en (ec 0 rfl (ec 1 rfl (ec 2 rfl (ec 3 rfl (ec 4 rfl (ec 10 rfl (ec 11 rfl (ec 12 rfl (ec 13 rfl en)))))))))) (op (by repeat first | exact pn | refine pc 0 rfl ?_))
             · try simp only [cq] at c75
               refine sk (nn ?_)
               exact tr_joined d3 hP3 (ea en (ec 0 rfl (ec 1 rfl (ec 2 rfl (ec 3 rfl (ec 4 rfl (ec 10 rfl (ec 11 rfl (ec 12 rfl (ec 13 rfl en)))))))))) (op (by repeat first | exact pn | refine pc 0 rfl ?_))
           · rintro d4 hP4
             have hs4 := hP4.1
             have hB4 := hBl.perm (by omega) hP4
             have hl4 : d4.toList.length = d4.size := Array.length_toList
             refine sq (sq (te (ec 0 rfl (ec 1 rfl (ec 2 rfl (ec 3 rfl (ec 4 rfl (ec 10 rfl (ec 11 rfl (ec 12 rfl (ec 13 rfl en))))))))) ?_))
             apply tr_any (m := 13) (ns := [[(1, none)], [(81, some 0)], [(82, some 1)], [(4, none), (83, some 2)], [(0, none), (83, some 2)], [(1, none), (83, some 2)], [(83, some 2), (86, some 5)], [(83, some 2), (85, some 4), (87, some 6)], [(83, some 2), (88, some 7)], [(0, none), (83, some 2)], [(13, none), (83, some 2)], [(83, some 2), (90, some 9), (91, some 10)], [(83, some 2), (92, some 11)]]) (by kernel_rfl) (by kernel_rfl) (Ts := [_, _, _, _, _, _, _, _, _, _, _, _, _]) rfl
             case hops =>
              refine ⟨?_, ?_, ?_, ?_, ?_, ?_, ?_, ?_, ?_, ?_, ?_, ?_, ?_, trivial⟩
              · exact rmv rfl
              · exact rP (pu_gtr (oT rfl) ot)
              · exact rmv rfl
              · exact rG rfl rfl rfl (gm (oT rfl)) (fun hg => by (have hg1 := hg.2; exact rmv rfl))
              · exact rG rfl rfl rfl (gm (oT rfl)) (fun hg => by (have hg1 := hg.2; exact rmv rfl))
              · exact rG rfl rfl rfl (gm (oT rfl)) (fun hg => by (have hg1 := hg.2; exact rmv rfl))
              · exact rG rfl rfl rfl (gm (oT rfl)) (fun hg => by (have hg1 := hg.2; exact rP (pu_sub' (by exact gu (oT rfl) hg) ot (by omega))))
              · exact rG rfl rfl rfl (gm (oT rfl)) (fun hg => by (have hg1 := hg.2; exact rP (pio (by exact gu (oT rfl) hg) (by exact mA 0 rfl) (by exact gu (oT rfl) hg) Tryz.underlying36 y0 (by (simp [maxLen] at *; omega)) (by omega))))
              · exact rG rfl rfl rfl (gm (oT rfl)) (fun hg => by (have hg1 := hg.2; exact rP (plo (by exact gu (oT rfl) hg) (by exact mA 0 rfl) (by (simp [maxLen] at *; omega)) (by omega) y0)))
              · exact rG rfl rfl rfl (gm (oT rfl)) (fun hg => by (have hg1 := hg.2; exact rmv rfl))
              · exact rG rfl rfl rfl (gm (oT rfl)) (fun hg => by (have hg1 := hg.2; exact rmv rfl))
              · exact rG rfl rfl rfl (gm (oT rfl)) (fun hg => by (have hg1 := hg.2; exact rP (pio (by exact gu (oT rfl) hg) (by exact mA 0 rfl) (by exact gu (oT rfl) hg) Tryz.underlying36 y0 (by omega) (by omega))))
              · exact rG rfl rfl rfl (gm (oT rfl)) (fun hg => by (have hg1 := hg.2; exact rP (plo (by exact gu (oT rfl) hg) (by exact mA 0 rfl) (by omega) (by omega) y0)))
             case h =>
              refine op_gu_acts () rfl rfl rfl (gm (oT rfl)) (fun hg => by (have hg1 := hg.2; (try simp only [cq2] at hg1); exact acts_callv (by exact gu (oT rfl) hg) (hfv _ _) (oc (by exact gu (oT rfl) hg) (oc (by exact gu (oT rfl) hg) oN)) pR)) rfl (fun _ _ => ?_)
              refine oG rfl rfl rfl (gm (oT rfl)) (fun hg => by (have hg1 := hg.2; (try simp only [cq2] at hg1); exact pu_lss (by exact gu (oT rfl) hg) ot)) rfl ?_
              refine oG rfl rfl rfl (gm (oT rfl)) (fun hg => by (have hg1 := hg.2; (try simp only [cq2] at hg1); exact pu_not (by exact gu (oT rfl) hg))) rfl ?_
              refine oP (pu_pick_and (oT rfl) (oT rfl)) rfl (tn (nn (tc (oT rfl) (fun c97 => ?_) (fun c97 => ?_))))
              · try simp only [cq] at c97
                obtain ⟨mid, d5, hx⟩ : ∃ m e, Sort.partitionEqual (ltc c) d4 a1 b1 p = (m, e) := ⟨_, _, rfl⟩
                obtain ⟨g1, g2, gs, gB, gf⟩ := Sort.round_eq hw (Sort.partitionEqual_holds _) (d3 := d4) (pivot := p) (by omega) hp0 hp1 (by omega) hB4 (by rw [ltc_at (by omega) (by omega), show ((a1 - 1 : Nat) : Int) = (a1 : Int) - 1 from by omega]; simpa using c97.2) hx
                refine sq (te (ec 0 rfl (ec 1 rfl (ec 2 rfl (ec 3 rfl (ec 4 rfl (ec 10 rfl (ec 11 rfl (ec 13 rfl en)))))))) (rg (mv rfl rfl (mv rfl rfl (mv rfl rfl (mv rfl rfl (mv rfl rfl (oA (aC (parteq_fn v fv d4 a1 b1 p c (by omega) (by omega) (by omega) (by omega) hfv) y16 (oc (oT rfl) (oc (oT rfl) (oc (oT rfl) (oc (oT rfl) (oc (oT rfl) oN))))) (by exact pA 0 rfl)) (by exact pA 0 rfl) rfl rfl (fun _ _ => ?_)))))))))
                refine av rfl rfl (tn (nn (sq (te (ec 0 rfl (ec 2 rfl (ec 3 rfl (ec 4 rfl (ec 10 rfl (ec 11 rfl (ec 15 rfl en))))))) ?_))))
                rw [hx]
                dsimp only
                refine rg (mv rfl rfl (av rfl rfl (tn (nn (tr_exit (tx (bh (nn ?_))))))))
                exact tg (mid, b1, lim2, d5, _, _) ⟨by show a ≤ mid; omega, g2, hb1, by show d5.size = _; omega, hl20, hl21, gB, fun R h h2 => (fun k => hfin R (Sort.permIn_trans _ _ _ _ _ hP4 k.1) k.2) (gf R h h2)⟩ (by show b1 - mid < b1 - a1; omega) (ea (ec 1 rfl (ec 2 rfl (ec 3 rfl (ec 10 rfl (ec 11 rfl en))))) (ec 0 rfl (ec 4 rfl en))) (op (by repeat first | exact pn | refine pc 0 rfl ?_))
              · try simp only [cq] at c97
                obtain ⟨mid, ap, d5, hx⟩ : ∃ m q e, Sort.partition (ltc c) d4 a1 b1 p = (m, q, e) := ⟨_, _, _, rfl⟩
                obtain ⟨g1, g2, gs, gBl, gBr, gl, gr⟩ := Sort.round_part hw (Sort.partition_holds _) (d3 := d4) (pivot := p) hp0 hp1 (by omega) hB4 hx
                refine sk (nn (sq (te (ec 0 rfl (ec 1 rfl (ec 2 rfl (ec 3 rfl (ec 4 rfl (ec 12 rfl (ec 13 rfl en))))))) (rg (mv rfl rfl (mv rfl rfl (mv rfl rfl (mv rfl rfl (mv rfl rfl (oA (aC (part_fn v fv d4 a1 b1 p c (by omega) (by omega) (by omega) (by omega) hfv) y17 (oc (oT rfl) (oc (oT rfl) (oc (oT rfl) (oc (oT rfl) (oc (oT rfl) oN))))) (by exact pA 0 rfl)) (by exact pA 0 rfl) rfl rfl (fun _ _ => ?_)))))))))))
                refine mv rfl rfl (oP (pu_extract (oT rfl) rfl) rfl (oP (pu_extract (oT rfl) rfl) rfl (av rfl rfl (av rfl rfl (tn (nn (sq (te (ec 0 rfl (ec 1 rfl (ec 2 rfl (ec 3 rfl (ec 4 rfl (ec 12 rfl (ec 16 rfl (ec 17 rfl en)))))))) ?_))))))))
                rw [hx]
                dsimp only
                refine rg (mv rfl rfl (av rfl rfl (tn (nn (sq (te (ec 0 rfl (ec 1 rfl (ec 2 rfl (ec 3 rfl (ec 4 rfl (ec 11 rfl (ec 12 rfl (ec 16 rfl en)))))))) (rg (mv rfl rfl (mv rfl rfl (oP (pu_sub' (oT rfl) (oT rfl) (by omega)) rfl (mv rfl rfl (mv rfl rfl (oP (pu_sub' (oT rfl) (oT rfl) (by omega)) rfl (av rfl rfl (av rfl rfl (tn (nn (sq (te (ec 0 rfl (ec 1 rfl (ec 2 rfl (ec 3 rfl (ec 4 rfl (ec 11 rfl (ec 12 rfl (ec 16 rfl (ec 18 rfl (ec 19 rfl en)))))))))) (rg (mv rfl rfl (oP (pu_quo' (oT rfl) ot (by omega) (by omega)) rfl (av rfl rfl ?_)))))))))))))))))))))))
                refine tn (nn (sq (te (ec 0 rfl (ec 1 rfl (ec 2 rfl (ec 3 rfl (ec 4 rfl (ec 11 rfl (ec 16 rfl (ec 18 rfl (ec 19 rfl (ec 20 rfl en)))))))))) (rg (mv rfl rfl (mv rfl rfl (oP (pu_lss (oT rfl) (oT rfl)) rfl (tn (nn (tc (oT rfl) (fun c125 => ?_) (fun c125 => ?_)))))))))))
                · try simp only [cq] at c125
                  refine sq (te (ec 0 rfl (ec 1 rfl (ec 2 rfl (ec 3 rfl (ec 4 rfl (ec 11 rfl (ec 16 rfl (ec 18 rfl (ec 20 rfl en))))))))) (rg (mv rfl rfl (mv rfl rfl (oP (pu_geq (oT rfl) (oT rfl)) rfl (av rfl rfl (tn (nn (sq (te (ec 0 rfl (ec 1 rfl (ec 2 rfl (ec 3 rfl (ec 4 rfl (ec 10 rfl (ec 11 rfl (ec 16 rfl en)))))))) (rg (mv rfl rfl (mv rfl rfl (mv rfl rfl (mv rfl rfl (mv rfl rfl (oA (aC (ih a1 mid lim2 d5 (by omega) (by omega) (by omega) (by omega) (by omega) (by omega) gBl) y18 (oc (oT rfl) (oc (oT rfl) (oc (oT rfl) (oc (oT rfl) (oc (oT rfl) oN))))) (by exact pA 0 rfl)) (by exact pA 0 rfl) rfl rfl (fun d6 hd6 => ?_))))))))))))))))))
                  refine tn (nn (te (ec 0 rfl (ec 2 rfl (ec 3 rfl (ec 4 rfl (ec 10 rfl (ec 11 rfl (ec 16 rfl en))))))) ?_))
                  obtain ⟨k1, k2⟩ := gl d6 hd6.1 hd6.2
                  have hs6 := hd6.1.1
                  refine rg (mv rfl rfl (oP (pad (oT rfl) ot (by omega)) rfl (av rfl rfl (tn (bn (nn ?_))))))
                  exact tg (mid + 1, b1, lim2, d6, _, _) ⟨by show a ≤ mid + 1; omega, by show mid + 1 ≤ b1; omega, hb1, by show d6.size = _; omega, hl20, hl21, k1, fun R h h2 => (fun k => hfin R (Sort.permIn_trans _ _ _ _ _ hP4 k.1) k.2) (k2 R h h2)⟩ (by show b1 - (mid + 1) < b1 - a1; omega) (ea (ec 1 rfl (ec 2 rfl (ec 3 rfl (ec 10 rfl (ec 11 rfl en))))) (ec 0 rfl (ec 4 rfl en))) (op (by repeat first | exact pn | refine pc 0 rfl ?_))
                · try simp only [cq] at c125
                  refine sq (te (ec 0 rfl (ec 1 rfl (ec 2 rfl (ec 3 rfl (ec 4 rfl (ec 11 rfl (ec 16 rfl (ec 19 rfl (ec 20 rfl en))))))))) (rg (mv rfl rfl (mv rfl rfl (oP (pu_geq (oT rfl) (oT rfl)) rfl (av rfl rfl (tn (nn (sq (te (ec 0 rfl (ec 1 rfl (ec 2 rfl (ec 3 rfl (ec 4 rfl (ec 10 rfl (ec 11 rfl (ec 16 rfl en)))))))) (rg (mv rfl rfl (mv rfl rfl (oP (pad (oT rfl) ot (by omega)) rfl (mv rfl rfl (mv rfl rfl (mv rfl rfl (oA (aC (ih (mid + 1) b1 lim2 d5 (by omega) (by omega) (by omega) (by omega) (by omega) (by omega) gBr) y18 (oc (oT rfl) (oc (oT rfl) (oc (oT rfl) (oc (oT rfl) (oc (oT rfl) oN))))) (by exact pA 0 rfl)) (by exact pA 0 rfl) rfl rfl (fun d6 hd6 => ?_)))))))))))))))))))
                  refine tn (nn (te (ec 0 rfl (ec 1 rfl (ec 3 rfl (ec 4 rfl (ec 10 rfl (ec 11 rfl (ec 16 rfl en))))))) ?_))
                  obtain ⟨k1, k2⟩ := gr d6 hd6.1 hd6.2
                  have hs6 := hd6.1.1
                  refine rg (mv rfl rfl (av rfl rfl (tn (bn (nn ?_)))))
                  exact tg (a1, mid, lim2, d6, _, _) ⟨ha1, g1, by show mid ≤ b; omega, by show d6.size = _; omega, hl20, hl21, k1, fun R h h2 => (fun k => hfin R (Sort.permIn_trans _ _ _ _ _ hP4 k.1) k.2) (k2 R h h2)⟩ (by show mid - a1 < b1 - a1; omega) (ea (ec 1 rfl (ec 2 rfl (ec 3 rfl (ec 10 rfl (ec 11 rfl en))))) (ec 0 rfl (ec 4 rfl en))) (op (by repeat first | exact pn | refine pc 0 rfl ?_))
theorem pdq_fn (v fv : Value) (c : List Int → List Int → Int) (hw : Sort.SWO (ltc c)) (hfv : ∀ x y, CtV Tryz.prog fv [(kG Z).T x, (kG Z).T y] [] Unit (fun _ => I64 (c x y)) (fun _ => []) (fun _ => True)) :
 ∀ (n a b : Nat) (lim : Int) (d : DA), b - a < n → d.size < 4611686018427387904 → a ≤ b → b ≤ d.size → 0 ≤ lim → lim < 4611686018427387904 → Sort.Below (ltc c) a b d → PdqCt Z v fv c a b lim d
 | 0, _, _, _, _, h, _, _, _, _, _, _ => absurd h (Nat.not_lt_zero _)
 | n + 1, a, b, lim, d, h, hm, hab, hb, hl0, hl1, hB => pdq_step v fv d a b lim c hw hm hab hb hl0 hl1 hB hfv fun a2 b2 lim2 d2 h2 hm2 hab2 hb2 hl02 hl12 hB2 => pdq_fn v fv c hw hfv n a2 b2 lim2 d2 (by omega) hm2 hab2 hb2 hl02 hl12 hB2
end Go.Proofs.YtklhdalppmjnaaaGreatDoor
/- Tuples: their order, lists that rise, sets, what is in one list and not in another. Plain Lean. -/
namespace Go.Tu
open Go Go.Gw Go.So
set_option linter.unusedVariables false
set_option linter.unusedSimpArgs false
abbrev Tp := List Int
def cmpL : Tp → Tp → Int
 | [], [] => 0
 | [], _ :: _ => -1
 | _ :: _, [] => 1
 | x :: a, y :: b => if x < y then -1 else if y < x then 1 else cmpL a b
theorem cmp_vals : ∀ a b : Tp, cmpL a b = -1 ∨ cmpL a b = 0 ∨ cmpL a b = 1
 | [], [] => .inr (.inl rfl)
 | [], _ :: _ => .inl rfl
 | _ :: _, [] => .inr (.inr rfl)
 | x :: a, y :: b => by
  unfold cmpL
  split
  · exact .inl rfl
  · split
    · exact .inr (.inr rfl)
    · exact cmp_vals a b
theorem cmp_eq : ∀ {a b : Tp}, cmpL a b = 0 ↔ a = b
 | [], [] => by simp [cmpL]
 | [], _ :: _ => by simp [cmpL]
 | _ :: _, [] => by simp [cmpL]
 | x :: a, y :: b => by
  unfold cmpL
  split
  · constructor
    · intro h; omega
    · intro h; injection h; omega
  · split
    · constructor
      · intro h; omega
      · intro h; injection h; omega
    · rw [cmp_eq, List.cons.injEq]
      constructor
      · intro h; exact ⟨by omega, h⟩
      · intro h; exact h.2
theorem cmp_self (a : Tp) : cmpL a a = 0 := cmp_eq.2 rfl
theorem cmp_neg : ∀ a b : Tp, cmpL b a = -cmpL a b
 | [], [] => rfl
 | [], _ :: _ => rfl
 | _ :: _, [] => rfl
 | x :: a, y :: b => by
  unfold cmpL
  by_cases h1 : x < y
  · rw [if_pos h1, if_neg (by omega), if_pos h1]; rfl
  · by_cases h2 : y < x
    · rw [if_pos h2, if_neg h1, if_pos h2]
    · rw [if_neg h2, if_neg h1, if_neg h1, if_neg h2]; exact cmp_neg a b
theorem cmp_trans : ∀ {a b c : Tp}, cmpL a b ≤ 0 → cmpL b c ≤ 0 → cmpL a c ≤ 0 ∧ (cmpL a c = 0 → cmpL a b = 0 ∧ cmpL b c = 0)
 | [], [], c, _, h => ⟨h, fun h2 => ⟨rfl, h2⟩⟩
 | [], _ :: _, [], _, h => by simp [cmpL] at h
 | [], _ :: _, _ :: _, _, _ => by simp [cmpL]
 | _ :: _, [], _, h, _ => by simp [cmpL] at h
 | _ :: _, _ :: _, [], _, h => by simp [cmpL] at h
 | x :: a, y :: b, z :: c, h1, h2 => by
  have ih := @cmp_trans a b c
  unfold cmpL at h1 h2 ⊢
  by_cases c1 : x < y
  · by_cases c2 : y < z
    · simp [c1, c2, show x < z from by omega]
    · by_cases c3 : z < y
      · simp [c2, c3] at h2
      · have : y = z := by omega
        subst this; simp [c1]
  · by_cases c4 : y < x
    · simp [c1, c4] at h1
    · have : x = y := by omega
      subst this
      by_cases c2 : x < z
      · simp [c2]
      · by_cases c3 : z < x
        · simp [c2, c3] at h2
        · have : x = z := by omega
          subst this
          simp only [Int.lt_irrefl, if_false] at h1 h2 ⊢
          exact ih h1 h2
theorem cmp_lt {a b c : Tp} (h1 : cmpL a b < 0) (h2 : cmpL b c < 0) : cmpL a c < 0 := by
 obtain ⟨h3, h4⟩ := cmp_trans (a := a) (b := b) (c := c) (by omega) (by omega)
 rcases Int.lt_or_eq_of_le h3 with h | h
 · exact h
 · have := (h4 h).1; omega
theorem swo : Sort.SWO (ltc cmpL) where
 irrefl := fun x => by simp [ltc, cmp_self]
 trans := fun x y z h1 h2 => by simp only [ltc, decide_eq_true_eq] at h1 h2 ⊢; exact cmp_lt h1 h2
 ntrans := fun x y z h1 h2 => by
  simp only [ltc, decide_eq_false_iff_not] at h1 h2 ⊢
  have n1 := cmp_neg x y; have n2 := cmp_neg y z; have n3 := cmp_neg x z
  have := (cmp_trans (a := z) (b := y) (c := x) (by omega) (by omega)).1
  omega
theorem drop_at {α : Type} [Inhabited α] {l : List α} {k : Nat} (h : k < l.length) : l.drop k = at' l (k : Int) :: l.drop (k + 1) := by
 rw [at'_nat h]; exact List.drop_eq_getElem_cons h
theorem cmp_step {a b : Tp} {i : Nat} (h1 : i < a.length) (h2 : i < b.length) : cmpL (a.drop i) (b.drop i) = if at' a (i : Int) < at' b (i : Int) then -1 else if at' b (i : Int) < at' a (i : Int) then 1 else cmpL (a.drop (i + 1)) (b.drop (i + 1)) := by
 rw [drop_at h1, drop_at h2, cmpL]
theorem cmp_end1 {a b : Tp} {i : Nat} (h1 : i < a.length) (h2 : b.length ≤ i) : cmpL (a.drop i) (b.drop i) = 1 := by
 rw [drop_at h1, List.drop_of_length_le h2]; rfl
theorem cmp_end2 {a b : Tp} {i : Nat} (h1 : a.length ≤ i) (h2 : i < b.length) : cmpL (a.drop i) (b.drop i) = -1 := by
 rw [drop_at h2, List.drop_of_length_le h1]; rfl
theorem cmp_end0 {a b : Tp} {i : Nat} (h1 : a.length ≤ i) (h2 : b.length ≤ i) : cmpL (a.drop i) (b.drop i) = 0 := by
 rw [List.drop_of_length_le h1, List.drop_of_length_le h2]; rfl
def risesB : List Tp → Bool
 | [] => true
 | [_] => true
 | x :: y :: l => decide (cmpL x y < 0) && risesB (y :: l)
def Rises (l : List Tp) : Prop := l.Pairwise fun x y => cmpL x y < 0
theorem rises_iff : ∀ {l : List Tp}, risesB l = true ↔ Rises l
 | [] => by simp [risesB, Rises]
 | [x] => by simp [risesB, Rises]
 | x :: y :: l => by
  rw [risesB, Bool.and_eq_true, decide_eq_true_eq, rises_iff]
  unfold Rises
  rw [List.pairwise_cons (a := x)]
  constructor
  · rintro ⟨h1, h2⟩
    refine ⟨fun z hz => ?_, h2⟩
    rcases List.mem_cons.1 hz with rfl | hz
    · exact h1
    · exact cmp_lt h1 ((List.pairwise_cons.1 h2).1 z hz)
  · rintro ⟨h1, h2⟩
    exact ⟨h1 y List.mem_cons_self, h2⟩
theorem rises_step {l : List Tp} {i : Nat} (h : i + 1 < l.length) : risesB (l.drop i) = (decide (cmpL (at' l (i : Int)) (at' l ((i + 1 : Nat) : Int)) < 0) && risesB (l.drop (i + 1))) := by
 rw [drop_at (by omega : i < l.length), drop_at h, risesB]
theorem rises_end {l : List Tp} {i : Nat} (h : l.length ≤ i + 1) : risesB (l.drop i) = true := by
 match hl : l.drop i with
 | [] => rfl
 | [_] => rfl
 | x :: y :: r =>
  have : (l.drop i).length ≤ 1 := by rw [List.length_drop]; omega
  rw [hl] at this; simp at this
theorem has_step {l : List Tp} {t : Tp} {k : Nat} (h : k < l.length) : (l.drop k).contains t = (decide (cmpL (at' l (k : Int)) t = 0) || (l.drop (k + 1)).contains t) := by
 rw [drop_at h, List.contains_cons]
 congr 1
 by_cases h2 : t = at' l (k : Int)
 · subst h2; simp [cmp_self]
 · have h3 : ¬ cmpL (at' l (k : Int)) t = 0 := fun e => h2 (cmp_eq.1 e).symm
   simp [h2, h3]
theorem rises_unique : ∀ {l m : List Tp}, Rises l → Rises m → (∀ x, x ∈ l ↔ x ∈ m) → l = m
 | [], [], _, _, _ => rfl
 | [], y :: m, _, _, h => absurd ((h y).2 List.mem_cons_self) (by simp)
 | x :: l, [], _, _, h => absurd ((h x).1 List.mem_cons_self) (by simp)
 | x :: l, y :: m, hl, hm, h => by
  have hl1 := List.pairwise_cons.1 hl
  have hm1 := List.pairwise_cons.1 hm
  have hxy : x = y := by
   rcases List.mem_cons.1 ((h x).1 List.mem_cons_self) with e | hx
   · exact e
   · rcases List.mem_cons.1 ((h y).2 List.mem_cons_self) with e | hy
     · exact e.symm
     · have h1 := hl1.1 y hy
       have h2 := hm1.1 x hx
       have := cmp_neg x y; omega
  subst hxy
  congr 1
  refine rises_unique hl1.2 hm1.2 fun z => ?_
  have hn : ∀ {l : List Tp}, (∀ z ∈ l, cmpL x z < 0) → x ∉ l := fun h3 hx => by have := h3 x hx; rw [cmp_self] at this; omega
  have hz := h z
  constructor
  · intro hzl
    rcases List.mem_cons.1 (hz.1 (List.mem_cons_of_mem _ hzl)) with e | h3
    · subst e; exact absurd hzl (hn hl1.1)
    · exact h3
  · intro hzm
    rcases List.mem_cons.1 (hz.2 (List.mem_cons_of_mem _ hzm)) with e | h3
    · subst e; exact absurd hzm (hn hm1.1)
    · exact h3
def withoutL (a b : List Tp) : List Tp := a.filter fun x => !b.contains x
def insStep (t : Tp) (s : List Tp × Bool) (x : Tp) : List Tp × Bool := if !s.2 && decide (cmpL t x < 0) then (s.1 ++ [t] ++ [x], true) else (s.1 ++ [x], s.2)
def insFold (t : Tp) (l : List Tp) : List Tp × Bool := l.foldl (insStep t) ([], false)
def insOne (t : Tp) (l : List Tp) : List Tp := if (insFold t l).2 then (insFold t l).1 else (insFold t l).1 ++ [t]
def setStep (out : List Tp) (t : Tp) : List Tp := if out.contains t then out else insOne t out
def setR (l : List Tp) : List Tp := l.foldl setStep []
theorem insFold_spec (t : Tp) : ∀ (l : List Tp) (acc : List Tp), Rises l →
 l.foldl (insStep t) (acc, false) = if l.any (fun x => decide (cmpL t x < 0)) then (acc ++ l.filter (fun x => !decide (cmpL t x < 0)) ++ [t] ++ l.filter (fun x => decide (cmpL t x < 0)), true) else (acc ++ l, false)
 | [], acc, _ => by simp
 | x :: l, acc, h => by
  have h1 := List.pairwise_cons.1 h
  have hdone : ∀ (l : List Tp) (acc : List Tp), l.foldl (insStep t) (acc, true) = (acc ++ l, true) := by
   intro l
   induction l with
   | nil => intro acc; simp
   | cons y l ih => intro acc; rw [List.foldl_cons, show insStep t (acc, true) y = (acc ++ [y], true) from by simp [insStep], ih]; simp
  rw [List.foldl_cons]
  by_cases hx : cmpL t x < 0
  · have hall : ∀ z ∈ l, cmpL t z < 0 := fun z hz => cmp_lt hx (h1.1 z hz)
    rw [show insStep t (acc, false) x = (acc ++ [t] ++ [x], true) from by simp [insStep, hx], hdone]
    have e1 : l.filter (fun x => decide (cmpL t x < 0)) = l := List.filter_eq_self.2 fun z hz => by simp [hall z hz]
    have e2 : l.filter (fun x => !decide (cmpL t x < 0)) = [] := List.filter_eq_nil_iff.2 fun z hz => by simp [hall z hz]
    simp [hx, e1, e2]
  · rw [show insStep t (acc, false) x = (acc ++ [x], false) from by simp [insStep, hx], insFold_spec t l _ h1.2]
    simp [hx]
theorem insOne_mem {t : Tp} {l : List Tp} (h : Rises l) (x : Tp) : x ∈ insOne t l ↔ x = t ∨ x ∈ l := by
 unfold insOne insFold
 rw [insFold_spec t l [] h]
 by_cases ha : l.any (fun x => decide (cmpL t x < 0)) = true
 · rw [if_pos ha]
   simp only [if_true, List.nil_append, List.mem_append, List.mem_filter, List.mem_singleton]
   constructor
   · rintro ((h1 | h1) | h1)
     · exact .inr h1.1
     · exact .inl h1
     · exact .inr h1.1
   · rintro (h1 | h1)
     · exact .inl (.inr h1)
     · by_cases h2 : cmpL t x < 0
       · exact .inr ⟨h1, by simp [h2]⟩
       · exact .inl (.inl ⟨h1, by simp [h2]⟩)
 · rw [if_neg ha]
   simp only [Bool.false_eq_true, if_false, List.nil_append, List.mem_append, List.mem_singleton]
   constructor
   · rintro (h1 | h1)
     · exact .inr h1
     · exact .inl h1
   · rintro (h1 | h1)
     · exact .inr h1
     · exact .inl h1
theorem insOne_rises {t : Tp} {l : List Tp} (h : Rises l) (hn : t ∉ l) : Rises (insOne t l) := by
 have hlt : ∀ x ∈ l, ¬ cmpL t x < 0 → cmpL x t < 0 := fun x hx h1 => by
  have h2 := cmp_neg t x
  rcases cmp_vals t x with e | e | e
  · omega
  · rw [cmp_eq] at e; subst e; exact absurd hx hn
  · omega
 unfold insOne insFold
 rw [insFold_spec t l [] h]
 by_cases ha : l.any (fun x => decide (cmpL t x < 0)) = true
 · rw [if_pos ha]
   simp only [if_true, List.nil_append]
   unfold Rises
   rw [List.pairwise_append, List.pairwise_append]
   refine ⟨⟨h.sublist List.filter_sublist, List.pairwise_singleton _ _, ?_⟩, h.sublist List.filter_sublist, ?_⟩
   · intro x hx y hy
     rw [List.mem_filter] at hx
     rw [List.mem_singleton] at hy; subst hy
     exact hlt x hx.1 (by simpa using hx.2)
   · intro x hx y hy
     rw [List.mem_filter] at hy
     have h1 : cmpL t y < 0 := by simpa using hy.2
     rcases List.mem_append.1 hx with hx | hx
     · rw [List.mem_filter] at hx
       exact cmp_lt (hlt x hx.1 (by simpa using hx.2)) h1
     · rw [List.mem_singleton] at hx; subst hx; exact h1
 · rw [if_neg ha]
   simp only [Bool.false_eq_true, if_false, List.nil_append]
   unfold Rises
   rw [List.pairwise_append]
   refine ⟨h, List.pairwise_singleton _ _, fun x hx y hy => ?_⟩
   rw [List.mem_singleton] at hy; subst hy
   refine hlt x hx fun h1 => ha (List.any_eq_true.2 ⟨x, hx, by simp [h1]⟩)
theorem setR_spec (l : List Tp) : Rises (setR l) ∧ ∀ x, x ∈ setR l ↔ x ∈ l := by
 have key : ∀ (l out : List Tp), Rises out → Rises (l.foldl setStep out) ∧ ∀ x, x ∈ l.foldl setStep out ↔ x ∈ out ∨ x ∈ l := by
  intro l
  induction l with
  | nil => intro out h; exact ⟨h, fun x => by simp⟩
  | cons t l ih =>
   intro out h
   rw [List.foldl_cons]
   by_cases hc : out.contains t = true
   · have hm : t ∈ out := by simpa using hc
     rw [show setStep out t = out from by rw [setStep, if_pos hc]]
     obtain ⟨h1, h2⟩ := ih out h
     refine ⟨h1, fun x => ?_⟩
     rw [h2 x, List.mem_cons]
     constructor
     · rintro (h3 | h3)
       · exact .inl h3
       · exact .inr (.inr h3)
     · rintro (h3 | h3 | h3)
       · exact .inl h3
       · subst h3; exact .inl hm
       · exact .inr h3
   · have hm : t ∉ out := by simpa using hc
     rw [show setStep out t = insOne t out from by rw [setStep, if_neg hc]]
     obtain ⟨h1, h2⟩ := ih (insOne t out) (insOne_rises h hm)
     refine ⟨h1, fun x => ?_⟩
     rw [h2 x, insOne_mem h, List.mem_cons]
     constructor
     · rintro ((h3 | h3) | h3)
       · exact .inr (.inl h3)
       · exact .inl h3
       · exact .inr (.inr h3)
     · rintro (h3 | h3 | h3)
       · exact .inl (.inr h3)
       · exact .inl (.inl h3)
       · exact .inr h3
 obtain ⟨h1, h2⟩ := key l [] List.Pairwise.nil
 exact ⟨h1, fun x => by rw [setR, h2 x]; simp⟩
theorem setR_unique {l s : List Tp} (h : Rises s) (hm : ∀ x, x ∈ s ↔ x ∈ l) : s = setR l := rises_unique h (setR_spec l).1 fun x => (hm x).trans ((setR_spec l).2 x).symm
theorem insStep_len (t : Tp) (s : List Tp × Bool) (x : Tp) : (insStep t s x).1.length + cond (insStep t s x).2 0 1 ≤ s.1.length + cond s.2 0 1 + 1 := by
 unfold insStep
 split
 · rename_i h; simp only [Bool.and_eq_true, Bool.not_eq_true'] at h; simp [h.1]
 · simp; omega
theorem insFold_len (t : Tp) (l : List Tp) : (insFold t l).1.length + cond (insFold t l).2 0 1 ≤ l.length + 1 := by
 have key : ∀ (l : List Tp) (s : List Tp × Bool), (l.foldl (insStep t) s).1.length + cond (l.foldl (insStep t) s).2 0 1 ≤ s.1.length + cond s.2 0 1 + l.length := by
  intro l
  induction l with
  | nil => intro s; simp
  | cons x l ih =>
   intro s
   have h1 := ih (insStep t s x); have h2 := insStep_len t s x
   rw [List.foldl_cons, List.length_cons]; omega
 have := key l ([], false)
 simpa [insFold, Nat.add_comm] using this
theorem insOne_len (t : Tp) (l : List Tp) : (insOne t l).length ≤ l.length + 1 := by
 have h := insFold_len t l
 unfold insOne
 split
 · rename_i h1; rw [h1] at h; simpa using h
 · rename_i h1; rw [Bool.not_eq_true] at h1; rw [h1] at h; simpa using h
theorem setR_len (l : List Tp) : (setR l).length ≤ l.length := by
 have key : ∀ (l out : List Tp), (l.foldl setStep out).length ≤ out.length + l.length := by
  intro l
  induction l with
  | nil => intro out; simp
  | cons t l ih =>
   intro out
   have h1 := ih (setStep out t)
   have h2 : (setStep out t).length ≤ out.length + 1 := by
    unfold setStep; split
    · omega
    · exact insOne_len t out
   rw [List.foldl_cons, List.length_cons]; omega
 simpa [setR] using key l []
end Go.Tu
/- Walks through the Go functions cmp.isNaN[int], cmp.Compare[int], api.Tuple,int], tuple.Cmp, rhizomeref10.Cmp, tuple.same, as typed contracts. -/
namespace Go.Proofs.YtklhdalppmjnaaaGreatDoor
open Go Go.Gw Go.So Go.Tu
set_option linter.unusedVariables false
set_option linter.unusedSimpArgs false
abbrev kI6 : Kd Int := kint .i64
theorem zi3 : ZeroOf Tryz.prog 3 kI6 0 := ⟨.int .i64 0, by kernel_rfl, fun H => rfl⟩
theorem z38 : ZeroOf Tryz.prog 51 kT [] := ⟨nilS, by kernel_rfl, fun H => ⟨none, 0, rfl, by simp, by simp, fun h => by simp at h⟩⟩

set_option maxHeartbeats 1000000 in
set_option maxRecDepth 20000 in
/-- cmp.isNaN[int] -/
theorem isNaN_fn (x : Int) : Ct Tryz.prog 148 [I64 x] ([]) Unit (fun _ => BoolT false) (fun _ => []) (fun _ => True) := by
 refine fn_intro Tryz.func148 rfl rfl ?_
 intro H w
 refine sq (te (ec 0 rfl en) (rg (ak rfl (tn (nn (sq (te (ec 0 rfl en) (rg (mv rfl rfl (mv rfl rfl (oP (pu_neq (oT rfl) (oT rfl)) rfl (av rfl rfl (tn (nn (tR ?_)))))))))))))))
 exact ret_one .ret (.inl rfl) rfl () (OT.val (oT rfl) (congrArg Value.bool (by simp))) trivial (by exact pn)
set_option maxHeartbeats 1000000 in
set_option maxRecDepth 20000 in
/-- cmp.Compare[int] -/
theorem compareI_fn (x y : Int) : Ct Tryz.prog 128 [I64 x, I64 y] ([]) Unit (fun _ => I64 (if x < y then -1 else if y < x then 1 else 0)) (fun _ => []) (fun _ => True) := by
 refine fn_intro Tryz.func128 rfl rfl ?_
 intro H w
 refine sq (te (ec 0 rfl (ec 1 rfl en)) (rg (ak rfl (tn (nn (sq (te (ec 0 rfl (ec 1 rfl en)) (rg (mv rfl rfl (oA (aC (isNaN_fn _) y19 (oc (oT rfl) oN) pR) pR rfl rfl (fun _ _ => ?_)))))))))))
 refine av rfl rfl (tn (nn (sq (te (ec 0 rfl (ec 1 rfl (ec 5 rfl en))) (rg (mv rfl rfl (oA (aC (isNaN_fn _) y19 (oc (oT rfl) oN) pR) pR rfl rfl (fun _ _ => ?_))))))))
 refine av rfl rfl (tn (nn (sq (sq (te (ec 0 rfl (ec 1 rfl (ec 5 rfl (ec 6 rfl en)))) (rg (mv rfl rfl (tn (nn (tc (oT rfl) (fun c11 => ?_) (fun c11 => ?_)))))))))))
 · try simp only [cq] at c11
   exact absurd c11 (by simp) --done
 · try simp only [cq] at c11
   refine sk (nn (sq (sq (te (ec 0 rfl (ec 1 rfl (ec 6 rfl en))) (rg (mv rfl rfl (tn (nn (tc (oT rfl) (fun c13 => ?_) (fun c13 => ?_))))))))))
   · try simp only [cq] at c13
     exact absurd c13 (by simp) --done
   · try simp only [cq] at c13
     refine sk (nn (sq (sq (te (ec 0 rfl (ec 1 rfl en)) (rg (mv rfl rfl (mv rfl rfl (oP (pu_lss (oT rfl) (oT rfl)) rfl (tn (nn (tc (oT rfl) (fun c16 => ?_) (fun c16 => ?_))))))))))))
     · try simp only [cq] at c16
       refine sq (te en (rg (ak rfl (tn (nn (tR (tt ?_)))))))
       exact ret_one .ret (.inl rfl) rfl () (OT.val (oT rfl) (congrArg (Value.int _) (by rw [if_pos c16]))) trivial (by exact pn)
     · try simp only [cq] at c16
       refine sk (nn (sq (sq (te (ec 0 rfl (ec 1 rfl en)) (rg (mv rfl rfl (mv rfl rfl (oP (pu_gtr (oT rfl) (oT rfl)) rfl (tn (nn (tc (oT rfl) (fun c19 => ?_) (fun c19 => ?_))))))))))))
       · try simp only [cq] at c19
         refine sq (te en (rg (ak rfl (tn (nn (tR (tt ?_)))))))
         exact ret_one .ret (.inl rfl) rfl () (OT.val (oT rfl) (congrArg (Value.int _) (by rw [if_neg c16, if_pos c19]))) trivial (by exact pn)
       · try simp only [cq] at c19
         refine sk (nn (sq (te en (rg (ak rfl (tn (nn (tR ?_))))))))
         exact ret_one .ret (.inl rfl) rfl () (OT.val (oT rfl) (congrArg (Value.int _) (by rw [if_neg c16, if_neg c19]))) trivial (by exact pn)
set_option maxHeartbeats 1000000 in
set_option maxRecDepth 20000 in
/-- slices.Compare[rhizome/api.Tuple,int] -/
theorem compare_fn (a b : Tp) (hm : a.length ≤ maxLen) (hb : b.length ≤ maxLen) : Ct Tryz.prog 100 [SlT kI6 a, SlT kI6 b] ([]) Unit (fun _ => I64 (cmpL a b)) (fun _ => []) (fun _ => True) := by
 refine fn_intro Tryz.func100 rfl rfl ?_
 intro H w
 unfold maxLen at hm hb
 refine sq (te (ec 0 rfl (ec 1 rfl en)) (rg (ak rfl (tn (nn (sq (sq (te (ec 0 rfl (ec 1 rfl en)) (rg (mv rfl rfl (oP (pls (oT rfl) Tryz.underlying51) rfl (oP (pu_move ot) rfl (tn (nn (tb (tr_loopK (σ := Nat) (ec 0 rfl (ec 1 rfl (ec 9 rfl (ec 10 rfl en)))) (fun k => [(11, I64 (k : Int))]) (fun k => []) (fun k => k ≤ a.length ∧ k ≤ b.length ∧ cmpL (a.drop k) (b.drop k) = cmpL a b) (fun k => a.length - k) 0 ⟨Nat.zero_le _, Nat.zero_le _, rfl⟩ ?_ (op (by exact pn)) ?_))))))))))))))))
 · exact (ec 11 rfl en)
 · rintro k ⟨hk, hk1, hk2⟩
   refine sq (te (ec 0 rfl (ec 1 rfl (ec 9 rfl (ec 10 rfl (ec 11 rfl en))))) (rg (oP (pu_lss (oT rfl) (oT rfl)) rfl (tn (nn (sq (tc (oT rfl) (fun c12 => ?_) (fun c12 => ?_))))))))
   · try simp only [cq] at c12
     refine sk (nn (sq (tb (sq (te (ec 0 rfl (ec 1 rfl (ec 9 rfl (ec 10 rfl (ec 11 rfl en))))) (rg (mv rfl rfl (oP (pu_index (oT rfl) (oT rfl) Tryz.underlying51 y2 (by omega) (by omega)) rfl (oP (pL (oT rfl) y2) rfl (av rfl rfl (av rfl rfl (tn (nn (sq (sq (te (ec 0 rfl (ec 1 rfl (ec 5 rfl (ec 6 rfl (ec 9 rfl (ec 10 rfl (ec 11 rfl en))))))) (rg (mv rfl rfl (mv rfl rfl (oP (pls (oT rfl) Tryz.underlying51) rfl (oP (pu_geq (oT rfl) (oT rfl)) rfl (tn (nn ?_)))))))))))))))))))))))
     refine tc (oT rfl) (fun c19 => ?_) (fun c19 => ?_)
     · try simp only [cq] at c19
       refine sq (te en (rg (ak rfl (tn (nn (tR (tt (block_ret (tt (tt (block_ret (tt ?_))))))))))))
       exact ret_one .ret (.inl rfl) rfl () (OT.val (oT rfl) (congrArg (Value.int _) ((hk2.symm.trans (cmp_end1 (by omega) (by omega))).symm))) trivial (by exact pn)
     · try simp only [cq] at c19
       refine sk (nn (sq (te (ec 0 rfl (ec 1 rfl (ec 5 rfl (ec 6 rfl (ec 9 rfl (ec 10 rfl (ec 11 rfl en))))))) (rg (mv rfl rfl (mv rfl rfl (oP (pu_index (oT rfl) (oT rfl) Tryz.underlying51 y2 (by omega) (by omega)) rfl (oP (pL (oT rfl) y2) rfl (av rfl rfl (tn (nn (sq (te (ec 0 rfl (ec 1 rfl (ec 6 rfl (ec 7 rfl (ec 9 rfl (ec 10 rfl (ec 11 rfl en))))))) (rg (mv rfl rfl (mv rfl rfl (oA (aC (compareI_fn _ _) y20 (oc (oT rfl) (oc (oT rfl) oN)) pR) pR rfl rfl (fun _ _ => ?_))))))))))))))))))
       refine av rfl rfl (tn (nn (sq (te (ec 0 rfl (ec 1 rfl (ec 8 rfl (ec 9 rfl (ec 10 rfl (ec 11 rfl en)))))) (rg (mv rfl rfl (oP (pu_neq (oT rfl) ot) rfl (tn (nn (tc (oT rfl) (fun c28 => ?_) (fun c28 => ?_)))))))))))
       · try simp only [cq] at c28
         have hst := hk2.symm.trans (cmp_step (a := a) (b := b) (i := k) (by omega) (by omega))
         have hres : cmpL a b = if at' a (k : Int) < at' b (k : Int) then -1 else if at' b (k : Int) < at' a (k : Int) then 1 else 0 := by
          rw [hst]
          split
          · rfl
          · rename_i h; rw [if_neg h] at c28; split
            · rfl
            · rename_i h2; rw [if_neg h2] at c28; exact absurd rfl c28
         refine sq (te (ec 8 rfl en) (rg (mv rfl rfl (av rfl rfl (tn (nn (tR (block_ret (tt (tt (block_ret (tt ?_))))))))))))
         exact ret_one .ret (.inl rfl) rfl () (OT.val (oT rfl) (congrArg (Value.int _) (hres.symm))) trivial (by exact pn)
       · try simp only [cq] at c28
         have hst := hk2.symm.trans (cmp_step (a := a) (b := b) (i := k) (by omega) (by omega))
         have hnx : cmpL (a.drop (k + 1)) (b.drop (k + 1)) = cmpL a b := by
          rw [hst]
          split
          · rename_i h; rw [if_pos h] at c28; omega
          · rename_i h; rw [if_neg h] at c28; split
            · rename_i h2; rw [if_pos h2] at c28; omega
            · rfl
         refine sk (bn (nn (te (ec 0 rfl (ec 1 rfl (ec 9 rfl (ec 10 rfl (ec 11 rfl en))))) (rg (oP (pad (oT rfl) ot (by omega)) rfl (mv rfl rfl (tn (nn ?_))))))))
         exact tg (k + 1) ⟨by omega, by omega, hnx⟩ (by omega) (ea (ec 11 rfl en) (ec 0 rfl (ec 1 rfl (ec 9 rfl (ec 10 rfl en))))) (op (by exact pn))
   · try simp only [cq] at c12
     refine tr_exit (tx (tx (bh (nn (sq (sq (te (ec 0 rfl (ec 1 rfl en)) (rg (mv rfl rfl (oP (pls (oT rfl) Tryz.underlying51) rfl (mv rfl rfl (oP (pls (oT rfl) Tryz.underlying51) rfl (oP (pu_lss (oT rfl) (oT rfl)) rfl (tn (nn (tc (oT rfl) (fun c35 => ?_) (fun c35 => ?_)))))))))))))))))
     · try simp only [cq] at c35
       refine sq (te en (rg (ak rfl (tn (nn (tR (tt ?_)))))))
       exact ret_one .ret (.inl rfl) rfl () (OT.val (oT rfl) (congrArg (Value.int _) ((hk2.symm.trans (cmp_end2 (by omega) (by omega))).symm))) trivial (by exact pn)
     · try simp only [cq] at c35
       refine sk (nn (sq (te en (rg (ak rfl (tn (nn (tR ?_))))))))
       exact ret_one .ret (.inl rfl) rfl () (OT.val (oT rfl) (congrArg (Value.int _) ((hk2.symm.trans (cmp_end0 (by omega) (by omega))).symm))) trivial (by exact pn)
set_option maxHeartbeats 1000000 in
set_option maxRecDepth 20000 in
/-- rhizome/tuple.Cmp -/
theorem Cmp_fn0 (a b : Tp) (hm : a.length ≤ maxLen) (hb : b.length ≤ maxLen) : Ct Tryz.prog 63 [SlT kI6 a, SlT kI6 b] ([]) Unit (fun _ => I64 (cmpL a b)) (fun _ => []) (fun _ => True) := by
 refine fn_intro Tryz.func63 rfl rfl ?_
 intro H w
 refine sq (te (ec 0 rfl (ec 1 rfl en)) (rg (ak rfl (tn (nn (sq (te (ec 0 rfl (ec 1 rfl en)) (rg (mv rfl rfl (mv rfl rfl (oA (aC (compare_fn _ _ (by assumption) (by assumption)) y21 (oc (oT rfl) (oc (oT rfl) oN)) pR) pR rfl rfl (fun _ _ => ?_))))))))))))
 refine av rfl rfl (tn (nn (tR ?_)))
 exact ret_one .ret (.inl rfl) rfl () (oT rfl) trivial (by exact pn)
theorem Cmp_all (a b : Tp) : Ct Tryz.prog 63 [SlT kI6 a, SlT kI6 b] [] Unit (fun _ => I64 (cmpL a b)) (fun _ => []) (fun _ => True) := Ct.pre two_len fun h => Cmp_fn0 a b h.1 h.2
set_option maxHeartbeats 1000000 in
set_option maxRecDepth 20000 in
/-- rhizome/rhizomeref10.Cmp -/
theorem rCmp_fn (a b : Tp) (hm : a.length ≤ 1000000) (hb : b.length ≤ 1000000) : Ct Tryz.prog 33 [SlT kI6 a, SlT kI6 b] ([]) Unit (fun _ => I64 (cmpL a b)) (fun _ => []) (fun _ => True) := by
 refine fn_intro Tryz.func33 rfl rfl ?_
 intro H w
 refine sq (te (ec 0 rfl (ec 1 rfl en)) (rg (ak rfl (tn (nn (sq (sq (te (ec 0 rfl (ec 1 rfl en)) (rg (ak rfl (tn (nn (tb (tr_loopK (σ := Nat) (ec 0 rfl (ec 1 rfl en)) (fun k => [(5, I64 (k : Int))]) (fun k => []) (fun k => k ≤ a.length ∧ k ≤ b.length ∧ cmpL (a.drop k) (b.drop k) = cmpL a b) (fun k => a.length - k) 0 ⟨Nat.zero_le _, Nat.zero_le _, rfl⟩ ?_ (op (by exact pn)) ?_))))))))))))))
 · exact (ec 5 rfl en)
 · rintro k ⟨hk, hk1, hk2⟩
   refine sq (sq (te (ec 0 rfl (ec 1 rfl (ec 5 rfl en))) (rg (mv rfl rfl (mv rfl rfl (oP (pls (oT rfl) Tryz.underlying51) rfl (oP (pu_lss (oT rfl) (oT rfl)) rfl (mv rfl rfl (oG rfl rfl rfl (gm (oT rfl)) (fun hg => by (have hg1 := hg.2; (try simp only [cq2] at hg1); exact pu_move (oT rfl))) rfl ?_)))))))))
   refine oG rfl rfl rfl (gm (oT rfl)) (fun hg => by (have hg1 := hg.2; (try simp only [cq2] at hg1); exact pu_move (oT rfl))) rfl ?_
   refine oG rfl rfl rfl (gm (oT rfl)) (fun hg => by (have hg1 := hg.2; (try simp only [cq2] at hg1); exact pls (by exact gu (oT rfl) hg) Tryz.underlying51)) rfl ?_
   refine oG rfl rfl rfl (gm (oT rfl)) (fun hg => by (have hg1 := hg.2; (try simp only [cq2] at hg1); exact pu_lss (by exact gu (oT rfl) hg) (by exact gu (oT rfl) hg))) rfl ?_
   refine oP (pu_pick_and (oT rfl) (oT rfl)) rfl (tn (nn (tc (oT rfl) (fun c15 => ?_) (fun c15 => ?_))))
   · try simp only [cq] at c15
     refine sk (nn (sq (tb (sq (sq (te (ec 0 rfl (ec 1 rfl (ec 5 rfl en))) ?_))))))
     have hst := hk2.symm.trans (cmp_step (a := a) (b := b) (i := k) (by omega) (by omega))
     apply tr_any (m := 8) (ns := [[(0, none)], [(5, none)], [(18, some 0), (19, some 1)], [(20, some 2)], [(1, none)], [(5, none)], [(22, some 4), (23, some 5)], [(24, some 6)]]) (by kernel_rfl) (by kernel_rfl) (Ts := [_, _, _, _, _, _, _, _]) rfl
     case hops =>
      refine ⟨?_, ?_, ?_, ?_, ?_, ?_, ?_, ?_, trivial⟩
      · exact rmv rfl
      · exact rmv rfl
      · exact rP (pu_index (oT rfl) (oT rfl) Tryz.underlying51 y2 (by omega) (by omega))
      · exact rP (pL (oT rfl) y2)
      · exact rmv rfl
      · exact rmv rfl
      · exact rP (pu_index (oT rfl) (oT rfl) Tryz.underlying51 y2 (by omega) (by omega))
      · exact rP (pL (oT rfl) y2)
     case h =>
      refine oP (pu_lss (oT rfl) (oT rfl)) rfl (tn (nn (tc (oT rfl) (fun c26 => ?_) (fun c26 => ?_))))
      · try simp only [cq] at c26
        refine sq (te en (rg (ak rfl (tn (nn (tR (tt (block_ret (tt (tt (block_ret (tt ?_))))))))))))
        exact ret_one .ret (.inl rfl) rfl () (OT.val (oT rfl) (congrArg (Value.int _) (by rw [hst, if_pos c26]))) trivial (by exact pn)
      · try simp only [cq] at c26
        refine sk (nn (sq (te (ec 0 rfl (ec 1 rfl (ec 5 rfl en))) ?_)))
        apply tr_any (m := 8) (ns := [[(0, none)], [(5, none)], [(27, some 0), (28, some 1)], [(29, some 2)], [(1, none)], [(5, none)], [(31, some 4), (32, some 5)], [(33, some 6)]]) (by kernel_rfl) (by kernel_rfl) (Ts := [_, _, _, _, _, _, _, _]) rfl
        case hops =>
         refine ⟨?_, ?_, ?_, ?_, ?_, ?_, ?_, ?_, trivial⟩
         · exact rmv rfl
         · exact rmv rfl
         · exact rP (pu_index (oT rfl) (oT rfl) Tryz.underlying51 y2 (by omega) (by omega))
         · exact rP (pL (oT rfl) y2)
         · exact rmv rfl
         · exact rmv rfl
         · exact rP (pu_index (oT rfl) (oT rfl) Tryz.underlying51 y2 (by omega) (by omega))
         · exact rP (pL (oT rfl) y2)
        case h =>
         refine oP (pu_gtr (oT rfl) (oT rfl)) rfl (tn (nn (tc (oT rfl) (fun c35 => ?_) (fun c35 => ?_))))
         · try simp only [cq] at c35
           refine sq (te en (rg (ak rfl (tn (nn (tR (block_ret (tt (tt (block_ret (tt ?_)))))))))))
           exact ret_one .ret (.inl rfl) rfl () (OT.val (oT rfl) (congrArg (Value.int _) (by rw [hst, if_neg c26, if_pos c35]))) trivial (by exact pn)
         · try simp only [cq] at c35
           refine sk (bn (nn (te (ec 0 rfl (ec 1 rfl (ec 5 rfl en))) (rg (mv rfl rfl (oP (pad (oT rfl) ot (by omega)) rfl (av rfl rfl (tn (nn ?_)))))))))
           exact tg (k + 1) ⟨by omega, by omega, by rw [hst, if_neg c26, if_neg c35]⟩ (by omega) (ea (ec 5 rfl en) (ec 0 rfl (ec 1 rfl en))) (op (by exact pn))
   · try simp only [cq] at c15
     refine tr_exit (tx (tx (bh (nn (sq (sq (te (ec 0 rfl (ec 1 rfl en)) (rg (mv rfl rfl (oP (pls (oT rfl) Tryz.underlying51) rfl (mv rfl rfl (oP (pls (oT rfl) Tryz.underlying51) rfl (oP (pu_lss (oT rfl) (oT rfl)) rfl (tn (nn (tc (oT rfl) (fun c40 => ?_) (fun c40 => ?_)))))))))))))))))
     · try simp only [cq] at c40
       refine sq (te en (rg (ak rfl (tn (nn (tR (tt ?_)))))))
       exact ret_one .ret (.inl rfl) rfl () (OT.val (oT rfl) (congrArg (Value.int _) ((hk2.symm.trans (cmp_end2 (by omega) (by omega))).symm))) trivial (by exact pn)
     · try simp only [cq] at c40
       refine sk (nn (sq (sq (te (ec 0 rfl (ec 1 rfl en)) (rg (mv rfl rfl (oP (pls (oT rfl) Tryz.underlying51) rfl (mv rfl rfl (oP (pls (oT rfl) Tryz.underlying51) rfl (oP (pu_gtr (oT rfl) (oT rfl)) rfl (tn (nn (tc (oT rfl) (fun c45 => ?_) (fun c45 => ?_))))))))))))))
       · try simp only [cq] at c45
         refine sq (te en (rg (ak rfl (tn (nn (tR (tt ?_)))))))
         exact ret_one .ret (.inl rfl) rfl () (OT.val (oT rfl) (congrArg (Value.int _) ((hk2.symm.trans (cmp_end1 (by omega) (by omega))).symm))) trivial (by exact pn)
       · try simp only [cq] at c45
         refine sk (nn (sq (te en (rg (ak rfl (tn (nn (tR ?_))))))))
         exact ret_one .ret (.inl rfl) rfl () (OT.val (oT rfl) (congrArg (Value.int _) ((hk2.symm.trans (cmp_end0 (by omega) (by omega))).symm))) trivial (by exact pn)
set_option maxHeartbeats 1000000 in
set_option maxRecDepth 20000 in
/-- rhizome/tuple.same -/
theorem same_all (a b : Tp) : Ct Tryz.prog 93 [SlT kI6 a, SlT kI6 b] ([]) Unit (fun _ => BoolT (decide (a = b))) (fun _ => []) (fun _ => True) := by
 refine fn_intro Tryz.func93 rfl rfl ?_
 intro H w
 refine sq (te (ec 0 rfl (ec 1 rfl en)) (rg (ak rfl (tn (nn (sq (te (ec 0 rfl (ec 1 rfl en)) (rg (mv rfl rfl (mv rfl rfl (oA (aC (Cmp_all _ _) y22 (oc (oT rfl) (oc (oT rfl) oN)) pR) pR rfl rfl (fun _ _ => ?_))))))))))))
 refine oP (pu_eql (oT rfl) ot) rfl (av rfl rfl (tn (nn (tR ?_))))
 exact ret_one .ret (.inl rfl) rfl () (OT.val (oT rfl) (congrArg Value.bool (by simp only [cmp_eq]))) trivial (by exact pn)
end Go.Proofs.YtklhdalppmjnaaaGreatDoor
/- Lists of tuples that are small; deltas; the zero values of the types. -/
namespace Go.Tu
open Go Go.Gw Go.So
set_option linter.unusedVariables false
def Small (l : List Tp) : Prop := l.length ≤ 1000000 ∧ ∀ x ∈ l, x.length ≤ 1000000
theorem Small.at_ {l : List Tp} (h : Small l) (i : Int) : (at' l i).length ≤ 1000000 := by
 unfold at'
 rw [List.getD_eq_getElem?_getD]
 cases e : l[i.toNat]? with
 | none => simp [default]
 | some x => exact h.2 x (List.mem_of_getElem? e)
theorem Small.sub {l m : List Tp} (h : Small l) (hs : m.Sublist l) : Small m := ⟨Nat.le_trans hs.length_le h.1, fun x hx => h.2 x (hs.subset hx)⟩
theorem Small.take {l : List Tp} (h : Small l) (k : Nat) : Small (l.take k) := h.sub (List.take_sublist _ _)
theorem Small.without {a : List Tp} (h : Small a) (b : List Tp) : Small (withoutL a b) := h.sub List.filter_sublist
theorem Small.setR {l : List Tp} (h : Small l) : Small (setR l) := ⟨Nat.le_trans (setR_len l) h.1, fun x hx => h.2 x (((setR_spec l).2 x).1 hx)⟩
abbrev kL : Kd (List Tp) := ksl kT
abbrev Dl := List Tp × List Tp
abbrev kD : Kd Dl := kpair kL kL
end Go.Tu
/- The reference's differences, both, applied: plain Lean. -/
namespace Go.Tu
open Go Go.Gw Go.So
set_option linter.unusedVariables false
def meetB (a b : List Tp) : Bool := decide (((withoutL a b).length : Int) < a.length)
def bothR (a b : List Tp) : List Tp := setR (a ++ b)
def thenR (a b : Dl) : Dl × Int :=
 if !risesB a.1 || !risesB a.2 || !risesB b.1 || !risesB b.2 then (([], []), 1) else
 if meetB a.1 b.1 || meetB a.2 b.2 || meetB a.1 a.2 || meetB b.1 b.2 then (([], []), 2) else
 ((bothR (withoutL a.1 b.2) (withoutL b.1 a.2), bothR (withoutL a.2 b.1) (withoutL b.2 a.1)), 0)
theorem Small.app {a b : List Tp} (h : a.length + b.length ≤ 1000000) (ha : Small a) (hb : Small b) : Small (a ++ b) := ⟨by simpa using h, fun x hx => (List.mem_append.1 hx).elim (ha.2 x) (hb.2 x)⟩
def Few (l : List Tp) : Prop := l.length ≤ 4000 ∧ ∀ x ∈ l, x.length ≤ 1000000
theorem Few.small {l : List Tp} (h : Few l) : Small l := ⟨by have := h.1; omega, h.2⟩
theorem Few.sub {l m : List Tp} (h : Few l) (hs : m.Sublist l) : Few m := ⟨Nat.le_trans hs.length_le h.1, fun x hx => h.2 x (hs.subset hx)⟩
theorem Few.without {a : List Tp} (h : Few a) (b : List Tp) : Few (withoutL a b) := h.sub List.filter_sublist
theorem Few.both {a b : List Tp} (ha : Few a) (hb : Few b) : Small (a ++ b) := Small.app (by have := ha.1; have := hb.1; omega) ha.small hb.small
theorem all_step {α : Type} [Inhabited α] {l : List α} {p : α → Bool} {k : Nat} (h : k < l.length) : (l.drop k).all p = (p (at' l (k : Int)) && (l.drop (k + 1)).all p) := by
 rw [at'_nat h, List.drop_eq_getElem_cons h]; rfl
theorem any_step {α : Type} [Inhabited α] {l : List α} {p : α → Bool} {k : Nat} (h : k < l.length) : (l.drop k).any p = (p (at' l (k : Int)) || (l.drop (k + 1)).any p) := by
 rw [at'_nat h, List.drop_eq_getElem_cons h]; rfl
set_option linter.unusedSimpArgs false
theorem cmp_lt_le {a b c : Tp} (h1 : cmpL a b < 0) (h2 : cmpL b c ≤ 0) : cmpL a c < 0 := by
 obtain ⟨h3, h4⟩ := cmp_trans (a := a) (b := b) (c := c) (by omega) h2
 rcases Int.lt_or_eq_of_le h3 with h | h
 · exact h
 · have := (h4 h).1; omega
def dd : List Tp → List Tp
 | [] => []
 | [x] => [x]
 | x :: y :: l => if x = y then dd (y :: l) else x :: dd (y :: l)
theorem dd_mem : ∀ {l : List Tp} {z : Tp}, z ∈ dd l ↔ z ∈ l
 | [], z => by simp [dd]
 | [x], z => by simp [dd]
 | x :: y :: l, z => by
  rw [dd]
  split
  · rename_i h; subst h; rw [dd_mem]; simp
  · rw [List.mem_cons, dd_mem, List.mem_cons (b := x)]
theorem dd_rises : ∀ {l : List Tp}, l.Pairwise (fun x y => cmpL x y ≤ 0) → Rises (dd l)
 | [], _ => List.Pairwise.nil
 | [x], _ => List.pairwise_singleton _ _
 | x :: y :: l, h => by
  have h1 := List.pairwise_cons.1 h
  rw [dd]
  split
  · exact dd_rises h1.2
  · rename_i hne
    refine List.pairwise_cons.2 ⟨fun z hz => ?_, dd_rises h1.2⟩
    have hxy : cmpL x y < 0 := by
     have h2 := h1.1 y List.mem_cons_self
     rcases Int.lt_or_eq_of_le h2 with h3 | h3
     · exact h3
     · exact absurd (cmp_eq.1 h3) hne
    rcases List.mem_cons.1 (dd_mem.1 hz) with e | hz
    · subst e; exact hxy
    · exact cmp_lt_le hxy ((List.pairwise_cons.1 h1.2).1 z hz)
theorem dd_set {l rs : List Tp} (hp : rs.Perm l) (hs : rs.Pairwise fun x y => cmpL x y ≤ 0) : dd rs = setR l := setR_unique (dd_rises hs) fun x => dd_mem.trans hp.mem_iff
theorem dd_snoc : ∀ (l : List Tp) (x y : Tp), dd (l ++ [x, y]) = if x = y then dd (l ++ [x]) else dd (l ++ [x]) ++ [y]
 | [], x, y => by
  simp only [List.nil_append, dd]
  split <;> simp_all
 | [z], x, y => by
  simp only [List.cons_append, List.nil_append, dd]
  split <;> split <;> simp_all
 | z :: u :: l, x, y => by
  have ih := dd_snoc (u :: l) x y
  simp only [List.cons_append] at ih ⊢
  rw [dd, dd, ih]
  split
  · split <;> simp_all
  · split <;> simp_all
theorem dd_step {xs : List Tp} {m : Nat} (h1 : 0 < m) (h : m < xs.length) : dd (xs.take (m + 1)) = if at' xs ((m : Int) - 1) = at' xs (m : Int) then dd (xs.take m) else dd (xs.take m) ++ [at' xs (m : Int)] := by
 obtain ⟨k, rfl⟩ : ∃ k, m = k + 1 := ⟨m - 1, by omega⟩
 rw [show (((k + 1 : Nat) : Int) - 1) = (k : Int) from by omega, at'_nat h, at'_nat (by omega : k < xs.length), List.take_succ_eq_append_getElem h, List.take_succ_eq_append_getElem (by omega : k < xs.length), List.append_assoc]
 exact dd_snoc _ _ _
theorem dd_one {xs : List Tp} (h : xs.length < 2) : dd xs = xs := by
 match xs, h with
 | [], _ => rfl
 | [_], _ => rfl
 | _ :: _ :: _, h => simp at h; omega
theorem dd_len : ∀ (l : List Tp), (dd l).length ≤ l.length
 | [] => Nat.le_refl _
 | [_] => Nat.le_refl _
 | x :: y :: l => by
  rw [dd]
  have := dd_len (y :: l)
  split
  · rw [List.length_cons (a := x)]; omega
  · simp only [List.length_cons] at this ⊢; omega
theorem perm_list {ts : List Tp} {r : DA} (h : Sort.PermIn 0 ts.length ts.toArray r) : r.toList.Perm ts := by
 have h1 : r.size = ts.length := by simpa using h.1
 have h2 := h.2.2
 have e1 : r.extract 0 ts.length = r := by rw [← h1]; exact Array.extract_size
 have e2 : ts.toArray.extract 0 ts.length = ts.toArray := by simp
 rw [e1, e2] at h2
 simpa using h2
theorem sorted_list {ts : List Tp} {r : DA} (h : Sort.PermIn 0 ts.length ts.toArray r) (hs : Sort.SortedIn (ltc cmpL) 0 ts.length r) : r.toList.Pairwise fun x y => cmpL x y ≤ 0 := by
 have h1 : r.size = ts.length := by simpa using h.1
 rw [List.pairwise_iff_getElem]
 intro i j hi hj hij
 have hi' : i < r.size := by simpa using hi
 have hj' : j < r.size := by simpa using hj
 have := hs i j (Nat.zero_le _) hij (by omega)
 simp only [ltc, decide_eq_false_iff_not] at this
 have e1 : r[i]! = r[i] := by simp [hi']
 have e2 : r[j]! = r[j] := by simp [hj']
 rw [e1, e2] at this
 have hn := cmp_neg r[i] r[j]
 simp only [Array.getElem_toList]
 omega
end Go.Tu
namespace Go.Tu
open Go Go.Gw
section
variable {α : Type}
theorem drop_at' [Inhabited α] {l m : List α} {k i : Nat} (h : l.drop k = m.drop k) (hk : k ≤ i) (hl : i < l.length) (hm : i < m.length) : at' l (i : Int) = at' m (i : Int) := by
 rw [at'_nat hl, at'_nat hm]
 have h1 : (l.drop k)[i - k]? = (m.drop k)[i - k]? := by rw [h]
 rw [List.getElem?_drop, List.getElem?_drop, show k + (i - k) = i from by omega, List.getElem?_eq_getElem hl, List.getElem?_eq_getElem hm] at h1
 exact Option.some.inj h1
theorem drop_more {l m : List α} {k i : Nat} (h : l.drop k = m.drop k) (hk : k ≤ i) : l.drop i = m.drop i := by
 have : i = k + (i - k) := by omega
 rw [this, ← List.drop_drop, ← List.drop_drop, h]
theorem set_take {l : List α} {j : Nat} {y : α} (h : j < l.length) : (l.set j y).take (j + 1) = l.take j ++ [y] := by
 rw [List.take_succ_eq_append_getElem (by rw [List.length_set]; exact h), List.getElem_set_self, List.take_set, List.set_eq_of_length_le (by rw [List.length_take]; omega)]
theorem cut_take {l z : List α} {j : Nat} (h : j ≤ l.length) : (l.take j ++ z).take j = l.take j := by
 rw [List.take_append_of_le_length (by rw [List.length_take]; omega), List.take_take, Nat.min_self]
end
end Go.Tu
/- Walks through the Go functions rhizomeref10.Has, tuple.Rises, rhizomeref10.Rises, rhizomeref10.Same, rhizomeref10.SameDelta, rhizomeref10.Without, as typed contracts. -/
namespace Go.Proofs.YtklhdalppmjnaaaGreatDoor
open Go Go.Gw Go.So Go.Tu
set_option linter.unusedVariables false
set_option linter.unusedSimpArgs false
theorem z40 : ZeroOf Tryz.prog 36 kL [] := ⟨nilS, by kernel_rfl, fun H => ⟨none, 0, rfl, by simp, by simp, fun h => by simp at h⟩⟩
theorem z44 : ZeroOf Tryz.prog 38 kD ([], []) := ⟨.agg #[nilS, nilS], by kernel_rfl, fun H => ⟨[nilS, nilS], ⟨[nilS], [nilS], ⟨nilS, rfl, none, 0, rfl, by simp, by simp, fun h => by simp at h⟩, ⟨nilS, rfl, none, 0, rfl, by simp, by simp, fun h => by simp at h⟩, rfl⟩, rfl⟩⟩

set_option maxHeartbeats 1000000 in
set_option maxRecDepth 20000 in
/-- rhizome/rhizomeref10.Has -/
theorem rHas_fn (l : List Tp) (t : Tp) (hs : Small l) (ht : t.length ≤ 1000000) : Ct Tryz.prog 15 [SlT kT l, SlT kI6 t] ([]) Unit (fun _ => BoolT (l.contains t)) (fun _ => []) (fun _ => True) := by
 refine fn_intro Tryz.func15 rfl rfl ?_
 intro H w
 have hsl := hs.1
 refine sq (te (ec 0 rfl (ec 1 rfl en)) (rg (ak rfl (tn (nn (sq (sq (te (ec 0 rfl (ec 1 rfl en)) (rg (mv rfl rfl (oP (pls (oT rfl) Tryz.underlying36) rfl (oP (pu_move ot) rfl (tn (nn (tb (tr_loopK (σ := Nat) (ec 0 rfl (ec 1 rfl (ec 7 rfl en))) (fun k => [(8, I64 (k : Int))]) (fun k => []) (fun k => k ≤ l.length ∧ (l.drop k).contains t = l.contains t) (fun k => l.length - k) 0 ⟨Nat.zero_le _, rfl⟩ ?_ (op (by exact pn)) ?_))))))))))))))))
 · exact (ec 8 rfl en)
 · rintro k ⟨hk, hk2⟩
   refine sq (te (ec 0 rfl (ec 1 rfl (ec 7 rfl (ec 8 rfl en)))) (rg (oP (pu_lss (oT rfl) (oT rfl)) rfl (tn (nn (sq (tc (oT rfl) (fun c9 => ?_) (fun c9 => ?_))))))))
   · try simp only [cq] at c9
     refine sk (nn (sq (tb (sq (te (ec 0 rfl (ec 1 rfl (ec 7 rfl (ec 8 rfl en)))) (rg (mv rfl rfl (av rfl rfl (tn (nn (sq (te (ec 0 rfl (ec 1 rfl (ec 5 rfl (ec 7 rfl (ec 8 rfl en))))) ?_))))))))))))
     have hst := has_step (l := l) (t := t) (k := k) (by omega)
     refine rg (mv rfl rfl (mv rfl rfl (oP (pu_index (oT rfl) (oT rfl) Tryz.underlying36 y0 (by omega) (by omega)) rfl (oP (pL (oT rfl) y0) rfl (mv rfl rfl (oA (aC (rCmp_fn _ _ (by exact hs.at_ _) (by assumption)) y23 (oc (oT rfl) (oc (oT rfl) oN)) pR) pR rfl rfl (fun _ _ => ?_)))))))
     refine oP (pu_eql (oT rfl) ot) rfl (tn (nn (tc (oT rfl) (fun c17 => ?_) (fun c17 => ?_))))
     · try simp only [cq] at c17
       refine sq (te en (rg (ak rfl (tn (nn (tR (block_ret (tt (tt (block_ret (tt ?_)))))))))))
       exact ret_one .ret (.inl rfl) rfl () (OT.val (oT rfl) (congrArg Value.bool (by rw [← hk2, hst, decide_eq_true c17, Bool.true_or]))) trivial (by exact pn)
     · try simp only [cq] at c17
       refine sk (bn (nn (te (ec 0 rfl (ec 1 rfl (ec 7 rfl (ec 8 rfl en)))) (rg (oP (pad (oT rfl) ot (by omega)) rfl (mv rfl rfl (tn (nn ?_))))))))
       exact tg (k + 1) ⟨by omega, by rw [← hk2, hst, decide_eq_false c17, Bool.false_or]⟩ (by omega) (ea (ec 8 rfl en) (ec 0 rfl (ec 1 rfl (ec 7 rfl en)))) (op (by exact pn))
   · try simp only [cq] at c9
     refine tr_exit (tx (tx (bh (nn (sq (te en (rg (ak rfl (tn (nn (tR ?_)))))))))))
     exact ret_one .ret (.inl rfl) rfl () (OT.val (oT rfl) (congrArg Value.bool (by rw [← hk2, List.drop_of_length_le (by omega)]; rfl))) trivial (by exact pn)
set_option maxHeartbeats 1000000 in
set_option maxRecDepth 20000 in
/-- rhizome/tuple.Rises -/
theorem Rises_fn0 (l : List Tp) (hsl : l.length ≤ maxLen) : Ct Tryz.prog 74 [SlT kT l] ([]) Unit (fun _ => BoolT (risesB l)) (fun _ => []) (fun _ => True) := by
 refine fn_intro Tryz.func74 rfl rfl ?_
 intro H w
 unfold maxLen at hsl
 refine sq (te (ec 0 rfl en) (rg (ak rfl (tn (nn (sq (sq (te (ec 0 rfl en) (rg (ak rfl (tn (nn (tb (tr_loopK (σ := Nat) (ec 0 rfl en) (fun k => [(3, I64 ((k : Int) + 1))]) (fun k => []) (fun k => k ≤ l.length ∧ risesB (l.drop k) = risesB l) (fun k => l.length - k) 0 ⟨Nat.zero_le _, rfl⟩ ?_ (op (by exact pn)) ?_))))))))))))))
 · exact (ec 3 rfl en)
 · rintro k ⟨hk, hk2⟩
   refine sq (sq (te (ec 0 rfl (ec 3 rfl en)) (rg (mv rfl rfl (mv rfl rfl (oP (pls (oT rfl) Tryz.underlying36) rfl (oP (pu_lss (oT rfl) (oT rfl)) rfl (tn (nn (tc (oT rfl) (fun c7 => ?_) (fun c7 => ?_)))))))))))
   · try simp only [cq] at c7
     refine sk (nn (sq (tb (sq (te (ec 0 rfl (ec 3 rfl en)) ?_)))))
     have hst := rises_step (l := l) (i := k) (by omega)
     rw [show ((k + 1 : Nat) : Int) = (k : Int) + 1 from by omega, show (k : Int) = (k : Int) + 1 - 1 from by omega] at hst
     apply tr_any (m := 9) (ns := [[(0, none)], [(3, none)], [(11, some 1)], [(10, some 0), (12, some 2)], [(13, some 3)], [(0, none)], [(3, none)], [(15, some 5), (16, some 6)], [(17, some 7)]]) (by kernel_rfl) (by kernel_rfl) (Ts := [_, _, _, _, _, _, _, _, _]) rfl
     case hops =>
      refine ⟨?_, ?_, ?_, ?_, ?_, ?_, ?_, ?_, ?_, trivial⟩
      · exact rmv rfl
      · exact rmv rfl
      · exact rP (pu_sub' (oT rfl) ot (by omega))
      · exact rP (pu_index (oT rfl) (oT rfl) Tryz.underlying36 y0 (by omega) (by omega))
      · exact rP (pL (oT rfl) y0)
      · exact rmv rfl
      · exact rmv rfl
      · exact rP (pu_index (oT rfl) (oT rfl) Tryz.underlying36 y0 (by omega) (by omega))
      · exact rP (pL (oT rfl) y0)
     case h =>
      refine oA (aC (Cmp_all _ _) y22 (oc (oT rfl) (oc (oT rfl) oN)) pR) pR rfl rfl (fun _ _ => ?_)
      refine oP (pu_geq (oT rfl) ot) rfl (tn (nn (tc (oT rfl) (fun c20 => ?_) (fun c20 => ?_))))
      · try simp only [cq] at c20
        refine sq (te en (rg (ak rfl (tn (nn (tR (block_ret (tt (tt (block_ret (tt ?_)))))))))))
        exact ret_one .ret (.inl rfl) rfl () (OT.val (oT rfl) (congrArg Value.bool (by rw [← hk2, hst, decide_eq_false (by simpa using c20), Bool.false_and]))) trivial (by exact pn)
      · try simp only [cq] at c20
        refine sk (bn (nn (te (ec 0 rfl (ec 3 rfl en)) (rg (mv rfl rfl (oP (pad (oT rfl) ot (by omega)) rfl (av rfl rfl (tn (nn ?_)))))))))
        exact tg (k + 1) ⟨by omega, by rw [← hk2, hst, decide_eq_true (by simpa using c20), Bool.true_and]⟩ (by omega) (ea (ec 3 rfl en) (ec 0 rfl en)) (op (by exact pn))
   · try simp only [cq] at c7
     refine tr_exit (tx (tx (bh (nn (sq (te en (rg (ak rfl (tn (nn (tR ?_)))))))))))
     exact ret_one .ret (.inl rfl) rfl () (OT.val (oT rfl) (congrArg Value.bool (by rw [← hk2, rises_end (by omega)]))) trivial (by exact pn)
theorem Rises_all (l : List Tp) : Ct Tryz.prog 74 [SlT kT l] [] Unit (fun _ => BoolT (risesB l)) (fun _ => []) (fun _ => True) := Ct.pre one_len fun h => Rises_fn0 l h
end Go.Proofs.YtklhdalppmjnaaaGreatDoor
/- Walks through the Go functions rhizomeref10.Diff, as typed contracts. -/
namespace Go.Proofs.YtklhdalppmjnaaaGreatDoor
open Go Go.Gw Go.So Go.Tu
set_option linter.unusedVariables false
set_option linter.unusedSimpArgs false
theorem nil_slt {α : Type} {d : Kd α} {H : FH} {v : Value} (h : (IsV nilS).p H v) : (SlT d []).p H v := ⟨none, 0, h, by simp, by simp, fun h => by simp at h⟩
theorem take_at {α : Type} [Inhabited α] {l : List α} {k : Nat} (h : k < l.length) : l.take (k + 1) = l.take k ++ [at' l (k : Int)] := by rw [at'_nat h, List.take_succ_eq_append_getElem h]

end Go.Proofs.YtklhdalppmjnaaaGreatDoor
/- Two sets are walked side by side: what is in one, in both, in the other. Plain Lean. -/
namespace Go.Tu
open Go Go.Gw Go.So
set_option linter.unusedVariables false
set_option linter.unusedSimpArgs false
def walkL : List Tp → List Tp → List Tp × List Tp × List Tp
 | [], b => ([], [], b)
 | a, [] => (a, [], [])
 | x :: a, y :: b =>
  if cmpL x y < 0 then (x :: (walkL a (y :: b)).1, (walkL a (y :: b)).2)
  else if 0 < cmpL x y then ((walkL (x :: a) b).1, (walkL (x :: a) b).2.1, y :: (walkL (x :: a) b).2.2)
  else ((walkL a b).1, x :: (walkL a b).2.1, (walkL a b).2.2)
termination_by a b => a.length + b.length
def cW : List Tp → List Tp → Int
 | [], _ => 1
 | _ :: _, [] => -1
 | x :: _, y :: _ => cmpL x y
theorem walk_nil (a : List Tp) : walkL a [] = (a, [], []) := by cases a <;> simp [walkL]
theorem cW1 {a b : List Tp} (h : a.length = 0) : cW a b = 1 := by
 have := List.eq_nil_of_length_eq_zero h; subst this; rfl
theorem cW2 {a b : List Tp} (h : ¬ a.length = 0) (h2 : b.length = 0) : cW a b = -1 := by
 have := List.eq_nil_of_length_eq_zero h2; subst this
 cases a with
 | nil => simp at h
 | cons => rfl
theorem cW3 {a b : List Tp} (h : ¬ a.length = 0) (h2 : ¬ b.length = 0) : cW a b = cmpL (at' a 0) (at' b 0) := by
 cases a with
 | nil => simp at h
 | cons => cases b with
  | nil => simp at h2
  | cons => rfl
theorem walk_lt {a b : List Tp} (h : cW a b < 0) : 0 < a.length ∧ walkL a b = (at' a 0 :: (walkL (a.drop 1) b).1, (walkL (a.drop 1) b).2) := by
 match a, b with
 | [], _ => simp [cW] at h
 | x :: a, [] => exact ⟨by simp, by rw [walk_nil, show (x :: a).drop 1 = a from rfl, walk_nil]; rfl⟩
 | x :: a, y :: b =>
  have h1 : cmpL x y < 0 := h
  exact ⟨by simp, by rw [walkL, if_pos h1]; rfl⟩
theorem walk_gt {a b : List Tp} (h : 0 < cW a b) (h0 : 0 < a.length ∨ 0 < b.length) : 0 < b.length ∧ walkL a b = ((walkL a (b.drop 1)).1, (walkL a (b.drop 1)).2.1, at' b 0 :: (walkL a (b.drop 1)).2.2) := by
 match a, b with
 | [], [] => simp at h0
 | [], y :: b => exact ⟨by simp, by rw [walkL, walkL]; rfl⟩
 | x :: a, [] => simp [cW] at h
 | x :: a, y :: b =>
  have h1 : 0 < cmpL x y := h
  exact ⟨by simp, by rw [walkL, if_neg (by omega), if_pos h1]; rfl⟩
theorem walk_eq {a b : List Tp} (h : cW a b = 0) : 0 < a.length ∧ 0 < b.length ∧ walkL a b = ((walkL (a.drop 1) (b.drop 1)).1, at' a 0 :: (walkL (a.drop 1) (b.drop 1)).2.1, (walkL (a.drop 1) (b.drop 1)).2.2) := by
 match a, b with
 | [], _ => simp [cW] at h
 | x :: a, [] => simp [cW] at h
 | x :: a, y :: b =>
  have h1 : cmpL x y = 0 := h
  exact ⟨by simp, by simp, by rw [walkL, if_neg (by omega), if_neg (by omega)]; rfl⟩
theorem walk_end {a b : List Tp} (h1 : a.length = 0) (h2 : b.length = 0) : walkL a b = ([], [], []) := by
 have := List.eq_nil_of_length_eq_zero h1; subst this
 have := List.eq_nil_of_length_eq_zero h2; subst this
 simp [walkL]
def interL (a b : List Tp) : List Tp := a.filter fun x => b.contains x
theorem not_mem_lt {x : Tp} {l : List Tp} (h : ∀ z ∈ l, cmpL x z < 0) : x ∉ l := fun hx => by have := h x hx; rw [cmp_self] at this; omega
theorem without_nil (a : List Tp) : withoutL a [] = a := by unfold withoutL; simp
theorem nil_without (a : List Tp) : withoutL [] a = [] := rfl
theorem inter_nil (a : List Tp) : interL a [] = [] := by unfold interL; simp
theorem walk_sets : ∀ {a b : List Tp}, Rises a → Rises b → walkL a b = (withoutL a b, interL a b, withoutL b a)
 | [], b, _, _ => by rw [walkL, nil_without, without_nil]; rfl
 | x :: a, [], _, _ => by rw [walk_nil, without_nil, inter_nil, nil_without]
 | x :: a, y :: b, ha, hb => by
  have ha1 := List.pairwise_cons.1 ha
  have hb1 := List.pairwise_cons.1 hb
  have hn := cmp_neg x y
  by_cases h1 : cmpL x y < 0
  · have hx : x ∉ y :: b := fun hm => by
     rcases List.mem_cons.1 hm with e | hm
     · subst e; rw [cmp_self] at h1; omega
     · exact not_mem_lt (fun z hz => cmp_lt h1 (hb1.1 z hz)) hm
    rw [walkL, if_pos h1, walk_sets ha1.2 hb]
    have e1 : withoutL (x :: a) (y :: b) = x :: withoutL a (y :: b) := by unfold withoutL; rw [List.filter_cons_of_pos (by simpa using hx)]
    have e2 : interL (x :: a) (y :: b) = interL a (y :: b) := by unfold interL; rw [List.filter_cons_of_neg (by simpa using hx)]
    have e3 : withoutL (y :: b) (x :: a) = withoutL (y :: b) a := by
     unfold withoutL
     refine List.filter_congr fun z hz => ?_
     have : z ≠ x := fun e => hx (e ▸ hz)
     simp [this]
    rw [e1, e2, e3]
  · by_cases h2 : 0 < cmpL x y
    · have hy : y ∉ x :: a := fun hm => by
       rcases List.mem_cons.1 hm with e | hm
       · subst e; rw [cmp_self] at h2; omega
       · exact not_mem_lt (x := y) (fun z hz => cmp_lt (by omega) (ha1.1 z hz)) hm
      rw [walkL, if_neg h1, if_pos h2, walk_sets ha hb1.2]
      have e1 : withoutL (y :: b) (x :: a) = y :: withoutL b (x :: a) := by unfold withoutL; rw [List.filter_cons_of_pos (by simpa using hy)]
      have e2 : withoutL (x :: a) (y :: b) = withoutL (x :: a) b := by
       unfold withoutL
       refine List.filter_congr fun z hz => ?_
       have : z ≠ y := fun e => hy (e ▸ hz)
       simp [this]
      have e3 : interL (x :: a) (y :: b) = interL (x :: a) b := by
       unfold interL
       refine List.filter_congr fun z hz => ?_
       have : z ≠ y := fun e => hy (e ▸ hz)
       simp [this]
      rw [e1, e2, e3]
    · have e : x = y := cmp_eq.1 (by omega)
      subst e
      have hxa : x ∉ a := not_mem_lt ha1.1
      have hxb : x ∉ b := not_mem_lt hb1.1
      rw [walkL, if_neg h1, if_neg h2, walk_sets ha1.2 hb1.2]
      have f1 : ∀ {c d : List Tp}, x ∉ c → withoutL (x :: c) (x :: d) = withoutL c d := fun {c d} hc => by
       unfold withoutL
       rw [List.filter_cons_of_neg (by simp)]
       refine List.filter_congr fun z hz => ?_
       have : z ≠ x := fun e => hc (e ▸ hz)
       simp [this]
      have f2 : interL (x :: a) (x :: b) = x :: interL a b := by
       unfold interL
       rw [List.filter_cons_of_pos (by simp)]
       congr 1
       refine List.filter_congr fun z hz => ?_
       have : z ≠ x := fun e => hxa (e ▸ hz)
       simp [this]
      rw [f1 hxa, f1 hxb, f2]
termination_by a b => a.length + b.length
theorem inter_len (a b : List Tp) : (interL a b).length + (withoutL a b).length = a.length := by
 unfold interL withoutL
 induction a with
 | nil => rfl
 | cons x a ih =>
  by_cases h : x ∈ b
  · rw [List.filter_cons_of_pos (by simpa using h), List.filter_cons_of_neg (by simpa using h)]; simp only [List.length_cons]; omega
  · rw [List.filter_cons_of_neg (by simpa using h), List.filter_cons_of_pos (by simpa using h)]; simp only [List.length_cons]; omega
theorem take_flat {α : Type} [Inhabited α] {ls : List (List α)} {k : Nat} (h : k < ls.length) : (ls.take (k + 1)).flatten = (ls.take k).flatten ++ at' ls (k : Int) := by
 rw [at'_nat h, List.take_succ_eq_append_getElem h, List.flatten_append]; simp
theorem flat_le {α : Type} (ls : List (List α)) (k : Nat) : (ls.take k).flatten.length ≤ ls.flatten.length := by
 have : ls.flatten = (ls.take k).flatten ++ (ls.drop k).flatten := by rw [← List.flatten_append, List.take_append_drop]
 rw [this, List.length_append]; omega
end Go.Tu
namespace Go.Tu
open Go Go.Gw Go.So
theorem inter_meet (a b : List Tp) : (0 < ((interL a b).length : Int)) ↔ meetB b a = true := by
 have h1 := inter_len b a
 unfold meetB
 rw [decide_eq_true_eq]
 have e1 : 0 < (interL a b).length ↔ 0 < (interL b a).length := by
  rw [List.length_pos_iff_exists_mem, List.length_pos_iff_exists_mem]
  unfold interL
  simp only [List.mem_filter, List.contains_iff_mem]
  exact ⟨fun ⟨x, h1, h2⟩ => ⟨x, h2, h1⟩, fun ⟨x, h1, h2⟩ => ⟨x, h2, h1⟩⟩
 omega
theorem meet_comm (a b : List Tp) : meetB a b = meetB b a := by
 have h1 := inter_len a b; have h2 := inter_len b a
 have h3 := inter_meet a b; have h4 := inter_meet b a
 cases e1 : meetB a b <;> cases e2 : meetB b a
 · rfl
 · have h5 := h3.2 e2; have h6 : 0 < ((interL b a).length : Int) ↔ False := by rw [h4, e1]; simp
   unfold meetB at e1 e2
   simp only [decide_eq_true_eq, decide_eq_false_iff_not] at e1 e2
   omega
 · have h5 := h4.2 e1; have h6 : 0 < ((interL a b).length : Int) ↔ False := by rw [h3, e2]; simp
   unfold meetB at e1 e2
   simp only [decide_eq_true_eq, decide_eq_false_iff_not] at e1 e2
   omega
 · rfl
end Go.Tu
/- Walks through the Go functions api.Tuple,int], api.Tuple,int], api.Tuple], tuple.own, api.Tuple], api.Tuple], as typed contracts. -/
namespace Go.Proofs.YtklhdalppmjnaaaGreatDoor
open Go Go.Gw Go.So Go.Tu
set_option linter.unusedVariables false
set_option linter.unusedSimpArgs false
variable {K0 : FH} {n0 : Nat}
theorem z38f : ZeroOf Tryz.prog 51 (kF K0 n0) [] := ⟨nilS, by kernel_rfl, fun H => ⟨⟨⟨none, 0, rfl, by simp, by simp, fun h => by simp at h⟩, trivial, trivial⟩, none, rfl⟩⟩
theorem nil_fr {α : Type} {d : Kd α} {N : Nat} {Γ : Env} {x : Operand} (h : OT N Γ x (IsV nilS)) : OT N Γ x (FreshT K0 n0 d []) := fun a H f => ⟨nil_slt (h a H f), by rw [show a.eval x = nilS from h a H f]; exact ⟨trivial, trivial⟩⟩
theorem cmp_fv (x y : Tp) : CtV Tryz.prog (.func (.func 63) #[] #[]) [(kF K0 n0).T x, (kF K0 n0).T y] [] Unit (fun _ => I64 (cmpL x y)) (fun _ => []) (fun _ => True) := CtV.of0 (Ct.args two_fresh (Cmp_all x y)) (by kernel_rfl)
theorem same_fv (x y : Tp) : CtV Tryz.prog (.func (.func 93) #[] #[]) [(kF K0 n0).T x, (kF K0 n0).T y] [] Unit (fun _ => BoolT (decide (x = y))) (fun _ => []) (fun _ => True) := CtV.of0 (Ct.args two_fresh (same_all x y)) (by kernel_rfl)
theorem bitLen_small {n : Nat} (h : n < 4611686018427387904) : Lib.bitLen n < 4611686018427387904 := by
 rcases Nat.eq_zero_or_pos n with h0 | h0
 · subst h0; decide
 · have h1 := (two_pow_in h0 h).2.1
   have h2 : Lib.bitLen n < 2 ^ Lib.bitLen n := Nat.lt_two_pow_self
   rcases Nat.lt_or_ge (Lib.bitLen n) 64 with h3 | h3
   · omega
   · have := Nat.pow_le_pow_right (n := 2) (by omega) h3
     omega

set_option maxHeartbeats 1000000 in
set_option maxRecDepth 20000 in
/-- slices.Clone[rhizome/api.Tuple,int] -/
theorem Clone_fn (xs : Tp) (hm : xs.length ≤ 1000000) : CtM K0 n0 Tryz.prog 66 [SlT kI6 xs] ([]) Unit (fun _ => FreshT K0 n0 kI6 xs) (fun _ => []) (fun _ => True) := by
 refine fn_introM Tryz.func66 rfl rfl ?_
 intro H w hK hn
 refine sq (te (ec 0 rfl en) (rg (ak rfl (tn (nn (sq (sq (te (ec 0 rfl en) (rg (mv rfl rfl (oA (acts_isnil (oT rfl) Tryz.underlying51) pR rfl rfl (fun b1 hb1 => ?_))))))))))))
 refine tn (nn (tc (oT rfl) (fun c4 => ?_) (fun c4 => ?_)))
 · try simp only [cq] at c4
   obtain rfl := hb1 c4
   refine sq (te en (rg (ak rfl (tn (nn (tR (tt ?_)))))))
   exact ret_one .ret (.inl rfl) rfl () (nil_fr (oT rfl)) trivial (by exact pn)
 · try simp only [cq] at c4
   refine sk (nn (sq (te (ec 0 rfl en) (rg (oA (acts_lit_own (d := kI6) (v0 := 0) y33 y2 zi3 (show 0 * 1 ≤ 16777216 from by decide) (by decide) fills_nil) pR rfl rfl (fun v3_0 _ => ?_))))))
   refine mv rfl rfl (oA (acts_append (oT rfl) (by exact pA 0 rfl) (oT rfl) y33 (by (simp; omega)) (by (simp [maxLen]; omega))) (by exact pA 0 rfl) rfl rfl (fun v3_2 _ => ?_))
   refine av rfl rfl (tn (tr_freezeF (mk_in hK hn) (fun g => blks_nil) (by exact pA 0 rfl) 2 (oT rfl) ?_))
   refine nn (tR ?_)
   exact ret_one .ret (.inl rfl) rfl () (oT rfl) trivial (by exact pn)
set_option maxHeartbeats 1000000 in
set_option maxRecDepth 20000 in
/-- slices.Clip[rhizome/api.Tuple,int] -/
theorem Clip_fn (xs : Tp) : Ct Tryz.prog 65 [FreshT K0 n0 kI6 xs] ([]) Unit (fun _ => ClipT K0 n0 kI6 xs) (fun _ => []) (fun _ => True) := by
 refine fn_intro Tryz.func65 rfl rfl ?_
 intro H w
 refine sq (te (ec 0 rfl en) (rg (ak rfl (tn (nn (sq (te (ec 0 rfl en) (rg (mv rfl rfl (mv rfl rfl (tr_as 4 (OT.fresh (oT rfl)) (oP (pls (oT rfl) Tryz.underlying51) rfl (mv rfl rfl (tr_as 6 (OT.fresh (oT rfl)) (oP (pls (oT rfl) Tryz.underlying51) rfl (oP (pu_clip (oT rfl) (oT rfl) (oT rfl) Tryz.underlying51 y2) rfl (av rfl rfl (tn (nn (tR ?_))))))))))))))))))))
 exact ret_one .ret (.inl rfl) rfl () (oT rfl) trivial (by exact pn)
set_option maxHeartbeats 1000000 in
set_option maxRecDepth 20000 in
/-- slices.Clip[[]rhizome/api.Tuple,rhizome/api.Tuple] -/
theorem ClipL_fn (xs : List Tp) : Ct Tryz.prog 91 [FreshT K0 n0 (kF K0 n0) xs] ([]) Unit (fun _ => FreshT K0 n0 (kF K0 n0) xs) (fun _ => []) (fun _ => True) := by
 refine fn_intro Tryz.func91 rfl rfl ?_
 intro H w
 refine sq (te (ec 0 rfl en) (rg (ak rfl (tn (nn (sq (te (ec 0 rfl en) (rg (mv rfl rfl (mv rfl rfl (tr_as 4 (OT.fresh (oT rfl)) (oP (pls (oT rfl) Tryz.underlying36) rfl (mv rfl rfl (tr_as 6 (OT.fresh (oT rfl)) (oP (pls (oT rfl) Tryz.underlying36) rfl (oP (pu_clip (oT rfl) (oT rfl) (oT rfl) Tryz.underlying36 y0) rfl (av rfl rfl (tn (nn (tR ?_))))))))))))))))))))
 exact ret_one .ret (.inl rfl) rfl () (OT.unclip (oT rfl)) trivial (by exact pn)
set_option maxHeartbeats 1000000 in
set_option maxRecDepth 20000 in
/-- rhizome/tuple.own -/
theorem own_fn (l : List Tp) (hs : Small l) : CtM K0 n0 Tryz.prog 37 [SlT kT l] ([]) Value (fun v => IsV v) (fun v => [OwnI 51 (kF K0 n0) v l]) (fun _ => True) := by
 refine fn_introM Tryz.func37 rfl rfl ?_
 intro H w hK hn
 have hsl := hs.1
 refine sq (te (ec 0 rfl en) (rg (ak rfl (tn (nn (sq (te (ec 0 rfl en) (rg (mv rfl rfl (oP (pls (oT rfl) Tryz.underlying36) rfl (oA (acts_make (d := (kF K0 n0)) ot (oT rfl) y29 (by omega) (by omega) (by (simp [maxLen]; omega))) pR rfl rfl (fun v1_2 _ => ?_))))))))))))
 refine av rfl rfl (tn (nn (sq (sq (te (ec 0 rfl (ec 3 rfl en)) (rg (mv rfl rfl (oP (pls (oT rfl) Tryz.underlying36) rfl (oP (pu_move ot) rfl (tn (nn (tb (tr_loopK (σ := Nat × Value) (ec 9 rfl (ec 10 rfl en)) (fun s => [(11, I64 (s.1 : Int)), (3, IsV s.2)]) (fun s => [OwnI 51 (kF K0 n0) s.2 (l.take s.1)]) (fun s => s.1 ≤ l.length) (fun s => l.length - s.1) (0, v1_2) (Nat.zero_le _) ?_ (op (by repeat first | exact pn | refine pc 0 rfl ?_)) ?_)))))))))))))
 · exact (ec 11 rfl (ec 3 rfl en))
 · rintro ⟨k, v⟩ hk
   dsimp only at hk ⊢
   have htl : (l.take k).length = k := by rw [List.length_take]; omega
   refine sq (te (ec 3 rfl (ec 9 rfl (ec 10 rfl (ec 11 rfl en)))) (rg (oP (pu_lss (oT rfl) (oT rfl)) rfl (tn (nn (sq (tc (oT rfl) (fun c12 => ?_) (fun c12 => ?_))))))))
   · try simp only [cq] at c12
     refine sk (nn (sq (tb (sq (te (ec 3 rfl (ec 9 rfl (ec 10 rfl (ec 11 rfl en)))) (rg (oP (pu_index (oT rfl) (oT rfl) Tryz.underlying36 y0 (by omega) (by omega)) rfl (oP (pL (oT rfl) y0) rfl (av rfl rfl (tn (nn (te (ec 3 rfl (ec 5 rfl (ec 9 rfl (ec 10 rfl (ec 11 rfl en))))) ?_))))))))))))
     have hte := hs.at_ (k : Int)
     refine rg (mv rfl rfl (mv rfl rfl (oA (acts_callM (Clone_fn _ (by assumption)) (mk_in hK hn) y34 (oc (oT rfl) oN) pR) pR rfl rfl (fun _ _ => ?_))))
     refine oA (aC (Clip_fn _) y35 (oc (oT rfl) oN) pR) pR rfl rfl (fun _ _ => ?_)
     refine oA (acts_lit (d := (kF K0 n0)) (v0 := []) y29 y0 z38f (show 1 * 1 ≤ 16777216 from by decide) (by decide) (fills_arr rfl rfl (by decide) (oT rfl) fills_nil)) pR rfl rfl (fun _ _ => ?_)
     refine oA (acts_append (oT rfl) (by exact pA 0 rfl) (oT rfl) y29 (by (simp; omega)) (by (simp [maxLen]; omega))) (by exact pA 0 rfl) rfl rfl (fun v5_5 _ => ?_)
     refine av rfl rfl (tn (bn (nn (te (ec 3 rfl (ec 9 rfl (ec 10 rfl (ec 11 rfl en)))) (rg (oP (pad (oT rfl) ot (by omega)) rfl (mv rfl rfl (tn (nn ?_)))))))))
     exact tg (k + 1, v5_5) (by show k + 1 ≤ l.length; omega) (by omega) (ea (ec 11 rfl (ec 3 rfl en)) (ec 9 rfl (ec 10 rfl en))) (op (by rw [take_at (by omega)]; exact (by repeat first | exact pn | refine pc 0 rfl ?_)))
   · try simp only [cq] at c12
     refine tr_exit (tx (tx (bh (nn (sq (te (ec 3 rfl en) ?_))))))
     obtain rfl : k = l.length := by omega
     rw [List.take_length]
     refine rg (mv rfl rfl (av rfl rfl (tn (nn (tR ?_)))))
     exact ret_one .ret (.inl rfl) rfl v (oT rfl) trivial (by repeat first | exact pn | refine pc 0 rfl ?_)
set_option maxHeartbeats 1000000 in
set_option maxRecDepth 20000 in
/-- slices.SortFunc[[]rhizome/api.Tuple,rhizome/api.Tuple] -/
theorem SortG_fn (Z : SlTy) (v : Value) (ts : List Tp) (hm : ts.length ≤ 1000000) (hfv : ∀ x y, CtV Tryz.prog (.func (.func 63) #[] #[]) [(kG Z).T x, (kG Z).T y] [] Unit (fun _ => I64 (cmpL x y)) (fun _ => []) (fun _ => True)) : Ct Tryz.prog 62 [IsV v, IsV (.func (.func 63) #[] #[])] ([OwnI 51 (kG Z) v ts]) (List Tp) (fun _ => AnyT) (fun rs => [OwnI 51 (kG Z) v rs]) (fun rs => rs.Perm ts ∧ rs.Pairwise fun x y => cmpL x y ≤ 0) := by
 refine fn_intro Tryz.func62 rfl rfl ?_
 intro H w
 have hsize : ts.toArray.size = ts.length := by simp
 have hsz : ts.toArray.size < 4611686018427387904 := by rw [hsize]; omega
 have hbl : ((Lib.bitLen ((ts.length : Int)).toNat : Nat) : Int) < 4611686018427387904 := by have := bitLen_small (n := ((ts.length : Int)).toNat) (by omega); omega
 refine sq (te (ec 0 rfl (ec 1 rfl en)) (rg (mv rfl rfl (oP (pu_len_own (oT rfl) (by exact mA 0 rfl) Tryz.underlying36) rfl ?_))))
 refine av rfl rfl (tn (nn (te (ec 0 rfl (ec 1 rfl (ec 4 rfl en))) (rg (mv rfl rfl (mv rfl rfl (mv rfl rfl (oP (pu_convert' (oT rfl) Tryz.underlying3 Tryz.underlying175 (by omega) (by omega) rfl) rfl (oA (aC (bits_ct _ (by omega) (by omega)) y7 (oc (oT rfl) oN) pR) pR rfl rfl (fun _ _ => ?_))))))))))
 refine mv rfl rfl (oA (aC (pdq_fn v _ cmpL swo hfv (ts.length + 1) 0 ts.length _ ts.toArray (by omega) hsz (by omega) (Nat.le_of_eq hsize.symm) (by omega) hbl (.inl rfl)) y18 (oc (oT rfl) (oc ot (oc (oT rfl) (oc (oT rfl) (oc (oT rfl) oN))))) (by exact pA 0 rfl)) (by exact pA 0 rfl) rfl rfl (fun r hr => ?_))
 refine tn ?_
 exact ret_none .normal (.inr rfl) rfl r.toList (fun _ => trivial) ⟨perm_list hr.1, sorted_list hr.1 hr.2⟩ (by repeat first | exact pn | refine pc 0 rfl ?_)
theorem SortFunc_fn (v : Value) (ts : List Tp) (hm : ts.length ≤ 1000000) : Ct Tryz.prog 62 [IsV v, IsV (.func (.func 63) #[] #[])] [OwnI 51 (kF K0 n0) v ts] (List Tp) (fun _ => AnyT) (fun rs => [OwnI 51 (kF K0 n0) v rs]) (fun rs => rs.Perm ts ∧ rs.Pairwise fun x y => cmpL x y ≤ 0) := SortG_fn (zC K0 n0) v ts hm cmp_fv
theorem SortT_fn (v : Value) (ts : List Tp) (hm : ts.length ≤ 1000000) : Ct Tryz.prog 62 [IsV v, IsV (.func (.func 63) #[] #[])] [OwnI 51 kT v ts] (List Tp) (fun _ => AnyT) (fun rs => [OwnI 51 kT v rs]) (fun rs => rs.Perm ts ∧ rs.Pairwise fun x y => cmpL x y ≤ 0) := SortG_fn zS v ts hm fun x y => CtV.of0 (Cmp_all x y) (by kernel_rfl)
set_option maxHeartbeats 1000000 in
set_option maxRecDepth 20000 in
/-- slices.CompactFunc[[]rhizome/api.Tuple,rhizome/api.Tuple] -/
theorem Compact_fn (v fv : Value) (xs : List Tp) (hm : xs.length ≤ 1000000) (hfv : ∀ x y, CtV Tryz.prog fv [(kF K0 n0).T x, (kF K0 n0).T y] [] Unit (fun _ => BoolT (decide (x = y))) (fun _ => []) (fun _ => True)) : Ct Tryz.prog 92 [IsV v, IsV fv] ([OwnI 51 (kF K0 n0) v xs]) Value (fun r => IsV r) (fun r => [OwnI 51 (kF K0 n0) r (dd xs)]) (fun _ => True) := by
 refine fn_intro Tryz.func92 rfl rfl ?_
 intro H w
 refine sq (te (ec 0 rfl (ec 1 rfl en)) (rg (ak rfl (tn (nn (sq (sq (te (ec 0 rfl (ec 1 rfl en)) (rg (mv rfl rfl (oP (pu_len_own (oT rfl) (by exact mA 0 rfl) Tryz.underlying36) rfl ?_)))))))))))
 refine oP (pu_lss (oT rfl) ot) rfl (tn (nn (tc (oT rfl) (fun c10 => ?_) (fun c10 => ?_))))
 · try simp only [cq] at c10
   refine sq (te (ec 0 rfl en) (rg (mv rfl rfl (av rfl rfl (tn (nn (tR (tt ?_))))))))
   exact ret_one .ret (.inl rfl) rfl v (oT rfl) trivial (by rw [dd_one (by omega)]; exact pc 0 rfl pn)
 · try simp only [cq] at c10
   refine sk (nn (sq (sq (te (ec 0 rfl (ec 1 rfl en)) (rg (ak rfl (tn (nn (tb (tr_loopK (σ := Nat) (ec 0 rfl (ec 1 rfl en)) (fun i => [(5, I64 (i : Int))]) (fun i => [OwnI 51 (kF K0 n0) v xs]) (fun i => 1 ≤ i ∧ i ≤ xs.length ∧ dd (xs.take i) = xs.take i) (fun i => xs.length - i) 1 ⟨Nat.le_refl _, by omega, by rw [dd_one (by rw [List.length_take]; omega)]⟩ ?_ (op (by repeat first | exact pn | refine pc 0 rfl ?_)) ?_))))))))))
   · exact (ec 5 rfl en)
   · rintro i ⟨hi0, hi1, hdd⟩
     refine sq (sq (te (ec 0 rfl (ec 1 rfl (ec 5 rfl en))) (rg (mv rfl rfl (mv rfl rfl (oP (pu_len_own (oT rfl) (by exact mA 0 rfl) Tryz.underlying36) rfl ?_))))))
     refine oP (pu_lss (oT rfl) (oT rfl)) rfl (tn (nn (tc (oT rfl) (fun c15 => ?_) (fun c15 => ?_))))
     · try simp only [cq] at c15
       refine sk (nn (sq (tb (sq (te (ec 0 rfl (ec 1 rfl (ec 5 rfl en))) ?_)))))
       have hst := dd_step (xs := xs) (m := i) (by omega) (by omega)
       apply tr_any (m := 10) (ns := [[(1, none)], [(0, none)], [(5, none)], [(19, some 1), (20, some 2)], [(21, some 3)], [(0, none)], [(5, none)], [(24, some 6)], [(23, some 5), (25, some 7)], [(26, some 8)]]) (by kernel_rfl) (by kernel_rfl) (Ts := [_, _, _, _, _, _, _, _, _, _]) rfl
       case hops =>
        refine ⟨?_, ?_, ?_, ?_, ?_, ?_, ?_, ?_, ?_, ?_, trivial⟩
        · exact rmv rfl
        · exact rmv rfl
        · exact rmv rfl
        · exact rP (pio (oT rfl) (by exact mA 0 rfl) (oT rfl) Tryz.underlying36 y0 (by omega) (by omega))
        · exact rP (plo (oT rfl) (by exact mA 0 rfl) (by omega) (by omega) y0)
        · exact rmv rfl
        · exact rmv rfl
        · exact rP (pu_sub' (oT rfl) ot (by omega))
        · exact rP (pio (oT rfl) (by exact mA 0 rfl) (oT rfl) Tryz.underlying36 y0 (by omega) (by omega))
        · exact rP (plo (oT rfl) (by exact mA 0 rfl) (by omega) (by omega) y0)
       case h =>
        refine oA (acts_callv (oT rfl) (hfv _ _) (oc (oT rfl) (oc (oT rfl) oN)) pR) pR rfl rfl (fun _ _ => ?_)
        refine tn (nn (tc (oT rfl) (fun c28 => ?_) (fun c28 => ?_)))
        · try simp only [cq] at c28
          rw [if_pos c28.symm, hdd] at hst
          refine sq (te (ec 0 rfl (ec 1 rfl (ec 5 rfl en))) (rg (mv rfl rfl (mv rfl rfl (oP (pu_cut_own (oT rfl) (by exact mA 0 rfl) (oT rfl) Tryz.underlying36 y0 (by omega) (by omega)) rfl ?_)))))
          refine av rfl rfl (tn (nn (sq (sq (te (ec 0 rfl (ec 1 rfl (ec 5 rfl (ec 6 rfl en)))) (rg (ak rfl (tn (nn (tb (tr_loopK (σ := Nat × Nat × List Tp) (ec 0 rfl (ec 1 rfl (ec 6 rfl en))) (fun s => [(7, I64 (s.1 : Int)), (5, I64 (s.2.1 : Int))]) (fun s => [OwnI 51 (kF K0 n0) v s.2.2]) (fun s => 1 ≤ s.1 ∧ i + s.1 ≤ xs.length ∧ s.2.2.length = xs.length ∧ i ≤ s.2.1 ∧ s.2.1 ≤ i + s.1 - 1 ∧ s.2.2.take s.2.1 = dd (xs.take (i + s.1)) ∧ s.2.2.drop (i + s.1 - 1) = xs.drop (i + s.1 - 1)) (fun s => xs.length - i - s.1) (1, i, xs) ⟨Nat.le_refl _, by show i + 1 ≤ xs.length; omega, rfl, Nat.le_refl _, by show i ≤ i + 1 - 1; omega, hst.symm, rfl⟩ ?_ (op (by repeat first | exact pn | refine pc 0 rfl ?_)) ?_)))))))))))
          · exact (ec 7 rfl (ec 5 rfl en))
          · rintro ⟨k, j, ys⟩ ⟨hk1, hkn, hyl, hij, hji, hyt, hyd⟩
            dsimp only at hk1 hkn hyl hij hji hyt hyd ⊢
            refine sq (sq (te (ec 0 rfl (ec 1 rfl (ec 5 rfl (ec 6 rfl (ec 7 rfl en))))) (rg (mv rfl rfl (mv rfl rfl (oP (pu_len_cut (oT rfl) (by exact mA 0 rfl) Tryz.underlying36 (by omega)) rfl ?_))))))
            refine oP (pu_lss (oT rfl) (oT rfl)) rfl (tn (nn (tc (oT rfl) (fun c35 => ?_) (fun c35 => ?_))))
            · try simp only [cq] at c35
              refine sk (nn (sq (tb (sq (te (ec 0 rfl (ec 1 rfl (ec 5 rfl (ec 6 rfl (ec 7 rfl en))))) ?_)))))
              have hst2 := dd_step (xs := xs) (m := i + k) (by omega) (by omega)
              have hy1 : at' ys ((i : Int) + k) = at' xs ((i + k : Nat) : Int) := by
               have := drop_at' (l := ys) (m := xs) (k := i + k - 1) (i := i + k) hyd (by omega) (by omega) (by omega)
               rw [← this]; congr 1
              have hy2 : at' ys ((i : Int) + (k - 1)) = at' xs (((i + k : Nat) : Int) - 1) := by
               have := drop_at' (l := ys) (m := xs) (k := i + k - 1) (i := i + k - 1) hyd (by omega) (by omega) (by omega)
               rw [show ((i : Int) + (k - 1)) = ((i + k - 1 : Nat) : Int) from by omega, this, show ((i + k - 1 : Nat) : Int) = ((i + k : Nat) : Int) - 1 from by omega]
              apply tr_any (m := 10) (ns := [[(1, none)], [(6, none)], [(7, none)], [(39, some 1), (40, some 2)], [(41, some 3)], [(6, none)], [(7, none)], [(44, some 6)], [(43, some 5), (45, some 7)], [(46, some 8)]]) (by kernel_rfl) (by kernel_rfl) (Ts := [_, _, _, _, _, _, _, _, _, _]) rfl
              case hops =>
               refine ⟨?_, ?_, ?_, ?_, ?_, ?_, ?_, ?_, ?_, ?_, trivial⟩
               · exact rmv rfl
               · exact rmv rfl
               · exact rmv rfl
               · exact rP (pu_index_cut (oT rfl) (by exact mA 0 rfl) (oT rfl) Tryz.underlying36 y0 (by omega) (by omega))
               · exact rP (plo (oT rfl) (by exact mA 0 rfl) (by omega) (by omega) y0)
               · exact rmv rfl
               · exact rmv rfl
               · exact rP (pu_sub' (oT rfl) ot (by omega))
               · exact rP (pu_index_cut (oT rfl) (by exact mA 0 rfl) (oT rfl) Tryz.underlying36 y0 (by omega) (by omega))
               · exact rP (plo (oT rfl) (by exact mA 0 rfl) (by omega) (by omega) y0)
              case h =>
               refine oA (acts_callv (oT rfl) (hfv _ _) (oc (oT rfl) (oc (oT rfl) oN)) pR) pR rfl rfl (fun _ _ => ?_)
               refine oP (pu_not (oT rfl)) rfl (tn (nn (tc (oT rfl) (fun c49 => ?_) (fun c49 => ?_))))
               · try simp only [cq] at c49
                 have hne : ¬ at' xs (((i + k : Nat) : Int) - 1) = at' xs ((i + k : Nat) : Int) := by rw [← hy1, ← hy2]; exact fun e => c49 e.symm
                 rw [if_neg hne] at hst2
                 refine sq (te (ec 0 rfl (ec 1 rfl (ec 5 rfl (ec 6 rfl (ec 7 rfl en))))) (rg (mv rfl rfl (mv rfl rfl (mv rfl rfl (mv rfl rfl (oP (pu_index_cut (oT rfl) (by exact mA 0 rfl) (oT rfl) Tryz.underlying36 y0 (by omega) (by omega)) rfl ?_)))))))
                 refine oP (plo (oT rfl) (by exact mA 0 rfl) (by omega) (by omega) y0) rfl ?_
                 refine oP (pio (oT rfl) (by exact mA 0 rfl) (oT rfl) Tryz.underlying36 y0 (by omega) (by omega)) rfl ?_
                 refine oA (acts_store_own0 (oT rfl) (oT rfl) (by exact pA 0 rfl) (by omega) (by omega) y0) (by exact pA 0 rfl) rfl rfl (fun _ _ => ?_)
                 refine tn (nn (te (ec 0 rfl (ec 1 rfl (ec 5 rfl (ec 6 rfl (ec 7 rfl en))))) (rg (mv rfl rfl (oP (pad (oT rfl) ot (by omega)) rfl (av rfl rfl (tn (bn (nn (te (ec 0 rfl (ec 1 rfl (ec 5 rfl (ec 6 rfl (ec 7 rfl en))))) (rg (mv rfl rfl (oP (pad (oT rfl) ot (by omega)) rfl (av rfl rfl (tn (nn ?_))))))))))))))))
                 exact tg (k + 1, j + 1, ys.set j (at' xs ((i + k : Nat) : Int))) ⟨by show 1 ≤ k + 1; omega, by show i + (k + 1) ≤ xs.length; omega, by show (ys.set j _).length = _; rw [List.length_set]; exact hyl, by show i ≤ j + 1; omega, by show j + 1 ≤ i + (k + 1) - 1; omega, by show (ys.set j _).take (j + 1) = dd (xs.take (i + k + 1)); rw [hst2, ← hyt]; exact set_take (by omega), by show (ys.set j _).drop (i + k) = xs.drop (i + k); rw [List.drop_set, if_pos (by omega)]; exact drop_more hyd (by omega)⟩ (by show xs.length - i - (k + 1) < xs.length - i - k; omega) (ea (ec 7 rfl (ec 5 rfl en)) (ec 0 rfl (ec 1 rfl (ec 6 rfl en)))) (op (by simp only [Int.toNat_natCast]; rw [hy1]; exact (by repeat first | exact pn | refine pc 0 rfl ?_)))
               · try simp only [cq] at c49
                 have heq : at' xs (((i + k : Nat) : Int) - 1) = at' xs ((i + k : Nat) : Int) := by rw [← hy1, ← hy2]; exact c49.symm
                 rw [if_pos heq] at hst2
                 refine sk (bn (nn (te (ec 0 rfl (ec 1 rfl (ec 5 rfl (ec 6 rfl (ec 7 rfl en))))) (rg (mv rfl rfl (oP (pad (oT rfl) ot (by omega)) rfl (av rfl rfl (tn (nn ?_)))))))))
                 exact tg (k + 1, j, ys) ⟨by show 1 ≤ k + 1; omega, by show i + (k + 1) ≤ xs.length; omega, hyl, hij, by show j ≤ i + (k + 1) - 1; omega, by show ys.take j = dd (xs.take (i + k + 1)); rw [hst2]; exact hyt, by show ys.drop (i + k) = xs.drop (i + k); exact drop_more hyd (by omega)⟩ (by show xs.length - i - (k + 1) < xs.length - i - k; omega) (ea (ec 7 rfl (ec 5 rfl en)) (ec 0 rfl (ec 1 rfl (ec 6 rfl en)))) (op (by repeat first | exact pn | refine pc 0 rfl ?_))
            · try simp only [cq] at c35
              refine tr_exit (tx (tx (bh (nn (sq (te (ec 0 rfl (ec 5 rfl en)) ?_))))))
              have hik : i + k = xs.length := by omega
              rw [hik, List.take_length] at hyt
              refine rg (mv rfl rfl (mv rfl rfl (oP (pu_cut_own (oT rfl) (by exact mA 0 rfl) (oT rfl) Tryz.underlying36 y0 (by omega) (by omega)) rfl ?_)))
              refine oA (acts_clear_cut (d := (kF K0 n0)) (v0 := []) (oT rfl) (by exact pA 0 rfl) Tryz.underlying36 y0 z38f (show 0 < 1 from by decide) (by omega)) (by exact pA 0 rfl) rfl rfl (fun _ _ => ?_)
              refine tn (nn (sq (te (ec 0 rfl (ec 5 rfl en)) (rg (mv rfl rfl (mv rfl rfl (oA (acts_slice_own_hi (oT rfl) (by exact pA 0 rfl) (oT rfl) Tryz.underlying36 y0 (by omega) (by (simp; omega))) (by exact pA 0 rfl) rfl rfl (fun v15_2 _ => ?_))))))))
              refine av rfl rfl (tn (nn (tR (block_ret (tt (tt (block_ret (tt ?_))))))))
              exact ret_one .ret (.inl rfl) rfl _ (oT rfl) trivial (by rw [← hyt]; simp only [Int.toNat_natCast]; rw [cut_take (by omega)]; exact pc 0 rfl pn)
        · try simp only [cq] at c28
          rw [if_neg (fun e => c28 e.symm), hdd] at hst
          have hnx : dd (xs.take (i + 1)) = xs.take (i + 1) := by rw [hst, take_at (by omega)]
          refine sk (bn (nn (te (ec 0 rfl (ec 1 rfl (ec 5 rfl en))) (rg (mv rfl rfl (oP (pad (oT rfl) ot (by omega)) rfl (av rfl rfl (tn (nn ?_)))))))))
          exact tg (i + 1) ⟨by omega, by omega, hnx⟩ (by omega) (ea (ec 5 rfl en) (ec 0 rfl (ec 1 rfl en))) (op (by repeat first | exact pn | refine pc 0 rfl ?_))
     · try simp only [cq] at c15
       refine tr_exit (tx (tx (bh (nn (sq (te (ec 0 rfl en) ?_))))))
       obtain rfl : i = xs.length := by omega
       rw [List.take_length] at hdd
       refine rg (mv rfl rfl (av rfl rfl (tn (nn (tR ?_)))))
       exact ret_one .ret (.inl rfl) rfl v (oT rfl) trivial (by rw [hdd]; exact pc 0 rfl pn)
end Go.Proofs.YtklhdalppmjnaaaGreatDoor
/- Walks through the Go functions tuple.Set, tuple.walk, as typed contracts. -/
namespace Go.Proofs.YtklhdalppmjnaaaGreatDoor
open Go Go.Gw Go.So Go.Tu
set_option linter.unusedVariables false
set_option linter.unusedSimpArgs false
variable {K0 : FH} {n0 : Nat}

set_option maxHeartbeats 1000000 in
set_option maxRecDepth 20000 in
/-- rhizome/tuple.Set -/
theorem Set_fn (l : List Tp) (hs : Small l) : CtM K0 n0 Tryz.prog 60 [SlT kT l] ([]) Unit (fun _ => FreshT K0 n0 (kF K0 n0) (setR l)) (fun _ => []) (fun _ => True) := by
 refine fn_introM Tryz.func60 rfl rfl ?_
 intro H w hK hn
 refine sq (te (ec 0 rfl en) (rg (ak rfl (tn (nn (sq (te (ec 0 rfl en) (rg (mv rfl rfl (oA (acts_callM (own_fn _ (by assumption)) (mk_in hK hn) y36 (oc (oT rfl) oN) pR) pR rfl rfl (fun v1_1 _ => ?_)))))))))))
 refine av rfl rfl (tn (nn (sq (te (ec 3 rfl en) (rg (mv rfl rfl (oA (aC (SortFunc_fn _ _ hs.1) y37 (oc (oT rfl) (oc OT.func oN)) (by exact pA 0 rfl)) (by exact pA 0 rfl) rfl rfl (fun rs hrs => ?_))))))))
 refine tn (nn (sq (te (ec 3 rfl en) ?_)))
 have hrl : rs.length ≤ 1000000 := by rw [hrs.1.length_eq]; exact hs.1
 refine rg (mv rfl rfl (oA (aC (Compact_fn _ _ rs hrl same_fv) y38 (oc (oT rfl) (oc OT.func oN)) (by exact pA 0 rfl)) (by exact pA 0 rfl) rfl rfl (fun r3_1 _ => ?_)))
 rw [dd_set hrs.1 hrs.2]
 refine tr_freezeF (mk_in hK hn) (fun g => blks_nil) (by exact pA 0 rfl) 9 (oT rfl) ?_
 refine oA (aC (ClipL_fn _) y39 (oc (oT rfl) oN) pR) pR rfl rfl (fun _ _ => ?_)
 refine av rfl rfl (tn (nn (tR ?_)))
 exact ret_one .ret (.inl rfl) rfl () (oT rfl) trivial (by exact pn)
set_option maxHeartbeats 1000000 in
set_option maxRecDepth 20000 in
/-- rhizome/tuple.walk -/
theorem walk_fn0 (a b : List Tp) (ha : a.length ≤ 1000000) (hb : b.length ≤ 1000000) : Ct Tryz.prog 43 [SlT kT a, SlT kT b] ([]) Unit (fun _ => TupT [SlT kT (walkL a b).1, SlT kT (walkL a b).2.1, SlT kT (walkL a b).2.2]) (fun _ => []) (fun _ => True) := by
 refine fn_intro Tryz.func43 rfl rfl ?_
 intro H w
 refine tr_nilItem 51 kT (tr_nilItem 51 kT (tr_nilItem 51 kT ?_))
 refine sq (te (ec 0 rfl (ec 1 rfl en)) (rg (ak rfl (ak rfl (ak rfl (tn (nn (sq (tb (tr_loopK (σ := List Tp × List Tp × Value × Value × Value × List Tp × List Tp × List Tp) en (fun s => [(0, SlT kT s.1), (1, SlT kT s.2.1), (4, IsV s.2.2.1), (5, IsV s.2.2.2.1), (6, IsV s.2.2.2.2.1)]) (fun s => [OwnI 51 kT s.2.2.1 s.2.2.2.2.2.1, OwnI 51 kT s.2.2.2.1 s.2.2.2.2.2.2.1, OwnI 51 kT s.2.2.2.2.1 s.2.2.2.2.2.2.2]) (fun s => (s.2.2.2.2.2.1.length + s.1.length ≤ a.length) ∧ (s.2.2.2.2.2.2.1.length + s.1.length ≤ a.length) ∧ (s.2.2.2.2.2.2.2.length + s.2.1.length ≤ b.length) ∧ walkL a b = (s.2.2.2.2.2.1 ++ (walkL s.1 s.2.1).1, s.2.2.2.2.2.2.1 ++ (walkL s.1 s.2.1).2.1, s.2.2.2.2.2.2.2 ++ (walkL s.1 s.2.1).2.2)) (fun s => s.1.length + s.2.1.length) (a, b, nilS, nilS, nilS, [], [], []) ⟨by simp, by simp, by simp, by simp⟩ ?_ (op (by repeat first | exact pn | refine pc 0 rfl ?_)) ?_))))))))))
 · exact (ec 0 rfl (ec 1 rfl (ec 4 rfl (ec 5 rfl (ec 6 rfl en)))))
 · rintro ⟨a1, b1, vl, vb, vr, l, m, r⟩ ⟨hl1, hl2, hl3, hwk⟩
   dsimp only at hl1 hl2 hl3 hwk ⊢
   refine sq (sq (te (ec 0 rfl (ec 1 rfl (ec 4 rfl (ec 5 rfl (ec 6 rfl en))))) (rg (mv rfl rfl (oP (pls (oT rfl) Tryz.underlying36) rfl (oP (pu_gtr (oT rfl) ot) rfl (mv rfl rfl (oG rfl rfl rfl (gm (oT rfl)) (fun hg => by (have hg1 := hg.2; (try simp only [cq2] at hg1); exact pu_move (oT rfl))) rfl ?_))))))))
   refine oG rfl rfl rfl (gm (oT rfl)) (fun hg => by (have hg1 := hg.2; (try simp only [cq2] at hg1); exact pls (by exact gu (oT rfl) hg) Tryz.underlying36)) rfl ?_
   refine oG rfl rfl rfl (gm (oT rfl)) (fun hg => by (have hg1 := hg.2; (try simp only [cq2] at hg1); exact pu_gtr (by exact gu (oT rfl) hg) ot)) rfl ?_
   refine oP (pu_pick_or (oT rfl) (oT rfl)) rfl (tn (nn (tc (oT rfl) (fun c15 => ?_) (fun c15 => ?_))))
   · try simp only [cq] at c15
     refine sk (nn (tb (sq (te (ec 0 rfl (ec 1 rfl (ec 4 rfl (ec 5 rfl (ec 6 rfl en))))) (rg (ak rfl (tn (nn (tr_joinK (σ := Unit) (ec 0 rfl (ec 1 rfl (ec 4 rfl (ec 5 rfl (ec 6 rfl en))))) (fun _ => [(7, I64 (cW a1 b1))]) (fun _ => [OwnI 51 kT vl l, OwnI 51 kT vb m, OwnI 51 kT vr r]) (fun _ => True) ?_ ?_)))))))))
     · refine tb (sq (te (ec 0 rfl (ec 1 rfl (ec 4 rfl (ec 5 rfl (ec 6 rfl en))))) (rg (mv rfl rfl (oP (pls (oT rfl) Tryz.underlying36) rfl (oP (pu_eql (oT rfl) ot) rfl (av rfl rfl (tn (nn (tc (oT rfl) (fun c23 => ?_) (fun c23 => ?_)))))))))))
       · try simp only [cq] at c23
         refine te (ec 0 rfl (ec 1 rfl (ec 4 rfl (ec 5 rfl (ec 6 rfl en))))) (rg (ak rfl (tn (bn (nn ?_)))))
         exact tr_joined () trivial (ea (es_cons (t := 7) (OT.val (oT rfl) (congrArg (Value.int _) (cW1 (by omega)).symm)) en) (ec 0 rfl (ec 1 rfl (ec 4 rfl (ec 5 rfl (ec 6 rfl en)))))) (op (by repeat first | exact pn | refine pc 0 rfl ?_))
       · try simp only [cq] at c23
         refine sq (te (ec 0 rfl (ec 1 rfl (ec 4 rfl (ec 5 rfl (ec 6 rfl en))))) (rg (mv rfl rfl (oP (pls (oT rfl) Tryz.underlying36) rfl (oP (pu_eql (oT rfl) ot) rfl (av rfl rfl (tn (nn (tc (oT rfl) (fun c27 => ?_) (fun c27 => ?_))))))))))
         · try simp only [cq] at c27
           refine te (ec 0 rfl (ec 1 rfl (ec 4 rfl (ec 5 rfl (ec 6 rfl en))))) (rg (ak rfl (tn (bn (nn ?_)))))
           exact tr_joined () trivial (ea (es_cons (t := 7) (OT.val (oT rfl) (congrArg (Value.int _) (cW2 (by omega) (by omega)).symm)) en) (ec 0 rfl (ec 1 rfl (ec 4 rfl (ec 5 rfl (ec 6 rfl en)))))) (op (by repeat first | exact pn | refine pc 0 rfl ?_))
         · try simp only [cq] at c27
           refine te (ec 0 rfl (ec 1 rfl (ec 4 rfl (ec 5 rfl (ec 6 rfl en))))) ?_
           apply tr_any (m := 6) (ns := [[(0, none)], [(16, some 0)], [(17, some 1)], [(1, none)], [(19, some 3)], [(20, some 4)]]) (by kernel_rfl) (by kernel_rfl) (Ts := [_, _, _, _, _, _]) rfl
           case hops =>
            refine ⟨?_, ?_, ?_, ?_, ?_, ?_, trivial⟩
            · exact rmv rfl
            · exact rP (pu_index (oT rfl) ot Tryz.underlying36 y0 (by omega) (by omega))
            · exact rP (pL (oT rfl) y0)
            · exact rmv rfl
            · exact rP (pu_index (oT rfl) ot Tryz.underlying36 y0 (by omega) (by omega))
            · exact rP (pL (oT rfl) y0)
           case h =>
            refine oA (aC (Cmp_all _ _) y22 (oc (oT rfl) (oc (oT rfl) oN)) pR) pR rfl rfl (fun _ _ => ?_)
            refine av rfl rfl (tn (bn (nn ?_)))
            exact tr_joined () trivial (ea (es_cons (t := 7) (OT.val (oT rfl) (congrArg (Value.int _) (cW3 (by omega) (by omega)).symm)) en) (ec 0 rfl (ec 1 rfl (ec 4 rfl (ec 5 rfl (ec 6 rfl en)))))) (op (by repeat first | exact pn | refine pc 0 rfl ?_))
     · rintro _ _
       refine tb (sq (te (ec 0 rfl (ec 1 rfl (ec 4 rfl (ec 5 rfl (ec 6 rfl (ec 7 rfl en)))))) ?_))
       skip
       refine rg (mv rfl rfl (oP (pu_lss (oT rfl) ot) rfl (av rfl rfl (tn (nn (tc (oT rfl) (fun c41 => ?_) (fun c41 => ?_)))))))
       · try simp only [cq] at c41
         obtain ⟨hp, hst⟩ := walk_lt c41
         have hlen1 : (l ++ [at' a1 0]).length + (a1.drop 1).length ≤ a.length := by (try simp only [List.length_append, List.length_drop, List.length_cons, List.length_nil]); omega
         have hlen2 : (m).length + (a1.drop 1).length ≤ a.length := by (try simp only [List.length_append, List.length_drop, List.length_cons, List.length_nil]); omega
         have hlen3 : (r).length + (b1).length ≤ b.length := by (try simp only [List.length_append, List.length_drop, List.length_cons, List.length_nil]); omega
         have hw : walkL a b = (l ++ [at' a1 0] ++ (walkL (a1.drop 1) (b1)).1, m ++ (walkL (a1.drop 1) (b1)).2.1, r ++ (walkL (a1.drop 1) (b1)).2.2) := by rw [hwk, hst]; simp
         refine te (ec 0 rfl (ec 1 rfl (ec 4 rfl (ec 5 rfl (ec 6 rfl en))))) ?_
         apply tr_anyG (ρ := Value) (φ := fun rr => True) (p := 5) (Lf := fun c rr => cond c ([OwnI 51 kT rr (l ++ [at' a1 0]), OwnI 51 kT vb m, OwnI 51 kT vr r]) ([OwnI 51 kT vl l, OwnI 51 kT vb m, OwnI 51 kT vr r])) nilS (by kernel_rfl) (m := 9) (ns := [[(4, none)], [(0, none)], [(45, some 1)], [(46, some 2)], [(47, some 3)], [(44, some 0), (48, some 4)], [(0, none)], [(50, some 6)], [(49, some 5)]]) (by kernel_rfl) (by kernel_rfl) (Ts := fun rr => [_, _, _, _, _, IsV rr, _, _, IsV rr]) (fun _ => rfl)
         case hops =>
          refine ⟨?_, ?_, ?_, ?_, ?_, ?_, ?_, ?_, ?_, trivial⟩
          · exact ⟨cBf (by kernel_rfl) fun r _ => rgo r rfl ⟨rfl, trivial⟩ (rmv rfl), fun _ _ _ _ => rfl⟩
          · exact ⟨cBf (by kernel_rfl) fun r _ => rgo r rfl ⟨rfl, trivial⟩ (rmv rfl), fun _ _ _ _ => rfl⟩
          · exact ⟨cBf (by kernel_rfl) fun r _ => rgo r rfl ⟨rfl, trivial⟩ (rP (pu_index (oT rfl) ot Tryz.underlying36 y0 (by omega) (by omega))), fun _ _ _ _ => rfl⟩
          · exact ⟨cBf (by kernel_rfl) fun r _ => rgo r rfl ⟨rfl, trivial⟩ (rP (pL (oT rfl) y0)), fun _ _ _ _ => rfl⟩
          · exact ⟨cBf (by kernel_rfl) fun r _ => rgo r rfl ⟨rfl, trivial⟩ (rop_acts rfl (acts_lit (d := kT) (v0 := []) y29 y0 z38 (show 1 * 1 ≤ 16777216 from by decide) (by decide) (fills_arr rfl rfl (by decide) (oT rfl) fills_nil)) (fun _ _ _ _ h => h)), fun _ _ _ _ => rfl⟩
          · refine ⟨?_, ?_⟩
            · exact cBf (by kernel_rfl) fun r _ => ropg_acts rfl (acts_append (oT rfl) (by exact pA 0 rfl) (oT rfl) y29 (by (simp; omega)) (by (simp [maxLen]; omega))) (by exact pA 0 rfl) (fun r => pR) (fun _ _ _ => trivial) (fun _ _ _ _ h => h)
            · exact fun _ h => absurd h (by decide)
          · exact ⟨by intro c r hc; cases c <;> exact rgo r rfl ⟨rfl, trivial⟩ (rmv rfl), fun _ _ _ _ => rfl⟩
          · exact ⟨by intro c r hc; cases c <;> exact rgo r rfl ⟨rfl, trivial⟩ (rP (pu_slice_lo (oT rfl) ot Tryz.underlying36 y0 (by omega) (by omega))), fun _ _ _ _ => rfl⟩
          · refine ⟨?_, ?_⟩
            · exact cBt (by kernel_rfl) fun r _ => rgo r rfl ⟨rfl, trivial⟩ (rP (pu_assign (oT rfl)))
            · exact fun h => Bool.noConfusion (h.symm.trans (by kernel_rfl : okFlag _ _ _ _ = false))
         case h =>
          intro v10_5 _
          refine av rfl rfl (tn (bn (bn (nn ?_))))
          exact tg (a1.drop 1, b1, v10_5, vb, vr, l ++ [at' a1 0], m, r) ⟨hlen1, hlen2, hlen3, hw⟩ (by dsimp only; (try simp only [List.length_drop]); omega) (ea (ec 0 rfl (ec 1 rfl (ec 4 rfl (ec 5 rfl (ec 6 rfl en))))) en) (op (by repeat first | exact pn | refine pc 0 rfl ?_))
       · try simp only [cq] at c41
         refine sq (te (ec 0 rfl (ec 1 rfl (ec 4 rfl (ec 5 rfl (ec 6 rfl (ec 7 rfl en)))))) (rg (mv rfl rfl (oP (pu_gtr (oT rfl) ot) rfl (av rfl rfl (tn (nn (tc (oT rfl) (fun c52 => ?_) (fun c52 => ?_)))))))))
         · try simp only [cq] at c52
           obtain ⟨hp, hst⟩ := walk_gt c52 (by omega)
           have hlen1 : (l).length + (a1).length ≤ a.length := by (try simp only [List.length_append, List.length_drop, List.length_cons, List.length_nil]); omega
           have hlen2 : (m).length + (a1).length ≤ a.length := by (try simp only [List.length_append, List.length_drop, List.length_cons, List.length_nil]); omega
           have hlen3 : (r ++ [at' b1 0]).length + (b1.drop 1).length ≤ b.length := by (try simp only [List.length_append, List.length_drop, List.length_cons, List.length_nil]); omega
           have hw : walkL a b = (l ++ (walkL (a1) (b1.drop 1)).1, m ++ (walkL (a1) (b1.drop 1)).2.1, r ++ [at' b1 0] ++ (walkL (a1) (b1.drop 1)).2.2) := by rw [hwk, hst]; simp
           refine te (ec 0 rfl (ec 1 rfl (ec 4 rfl (ec 5 rfl (ec 6 rfl en))))) ?_
           apply tr_anyG (ρ := Value) (φ := fun rr => True) (p := 5) (Lf := fun c rr => cond c ([OwnI 51 kT rr (r ++ [at' b1 0]), OwnI 51 kT vl l, OwnI 51 kT vb m]) ([OwnI 51 kT vl l, OwnI 51 kT vb m, OwnI 51 kT vr r])) nilS (by kernel_rfl) (m := 9) (ns := [[(6, none)], [(1, none)], [(56, some 1)], [(57, some 2)], [(58, some 3)], [(55, some 0), (59, some 4)], [(1, none)], [(61, some 6)], [(60, some 5)]]) (by kernel_rfl) (by kernel_rfl) (Ts := fun rr => [_, _, _, _, _, IsV rr, _, _, IsV rr]) (fun _ => rfl)
           case hops =>
            refine ⟨?_, ?_, ?_, ?_, ?_, ?_, ?_, ?_, ?_, trivial⟩
            · exact ⟨cBf (by kernel_rfl) fun r _ => rgo r rfl ⟨rfl, trivial⟩ (rmv rfl), fun _ _ _ _ => rfl⟩
            · exact ⟨cBf (by kernel_rfl) fun r _ => rgo r rfl ⟨rfl, trivial⟩ (rmv rfl), fun _ _ _ _ => rfl⟩
            · exact ⟨cBf (by kernel_rfl) fun r _ => rgo r rfl ⟨rfl, trivial⟩ (rP (pu_index (oT rfl) ot Tryz.underlying36 y0 (by omega) (by omega))), fun _ _ _ _ => rfl⟩
            · exact ⟨cBf (by kernel_rfl) fun r _ => rgo r rfl ⟨rfl, trivial⟩ (rP (pL (oT rfl) y0)), fun _ _ _ _ => rfl⟩
            · exact ⟨cBf (by kernel_rfl) fun r _ => rgo r rfl ⟨rfl, trivial⟩ (rop_acts rfl (acts_lit (d := kT) (v0 := []) y29 y0 z38 (show 1 * 1 ≤ 16777216 from by decide) (by decide) (fills_arr rfl rfl (by decide) (oT rfl) fills_nil)) (fun _ _ _ _ h => h)), fun _ _ _ _ => rfl⟩
            · refine ⟨?_, ?_⟩
              · exact cBf (by kernel_rfl) fun r _ => ropg_acts rfl (acts_append (oT rfl) (by exact pA 2 rfl) (oT rfl) y29 (by (simp; omega)) (by (simp [maxLen]; omega))) (by exact pA 2 rfl) (fun r => pR) (fun _ _ _ => trivial) (fun _ _ _ _ h => h)
              · exact fun _ h => absurd h (by decide)
            · exact ⟨by intro c r hc; cases c <;> exact rgo r rfl ⟨rfl, trivial⟩ (rmv rfl), fun _ _ _ _ => rfl⟩
            · exact ⟨by intro c r hc; cases c <;> exact rgo r rfl ⟨rfl, trivial⟩ (rP (pu_slice_lo (oT rfl) ot Tryz.underlying36 y0 (by omega) (by omega))), fun _ _ _ _ => rfl⟩
            · refine ⟨?_, ?_⟩
              · exact cBt (by kernel_rfl) fun r _ => rgo r rfl ⟨rfl, trivial⟩ (rP (pu_assign (oT rfl)))
              · exact fun h => Bool.noConfusion (h.symm.trans (by kernel_rfl : okFlag _ _ _ _ = false))
           case h =>
            intro v12_5 _
            refine av rfl rfl (tn (bn (bn (nn ?_))))
            exact tg (a1, b1.drop 1, vl, vb, v12_5, l, m, r ++ [at' b1 0]) ⟨hlen1, hlen2, hlen3, hw⟩ (by dsimp only; (try simp only [List.length_drop]); omega) (ea (ec 0 rfl (ec 1 rfl (ec 4 rfl (ec 5 rfl (ec 6 rfl en))))) en) (op (by repeat first | exact pn | refine pc 0 rfl ?_ | refine pc 1 rfl ?_))
         · try simp only [cq] at c52
           obtain ⟨hp, hp2, hst⟩ := walk_eq (a := a1) (b := b1) (by omega)
           have hlen1 : (l).length + (a1.drop 1).length ≤ a.length := by (try simp only [List.length_append, List.length_drop, List.length_cons, List.length_nil]); omega
           have hlen2 : (m ++ [at' a1 0]).length + (a1.drop 1).length ≤ a.length := by (try simp only [List.length_append, List.length_drop, List.length_cons, List.length_nil]); omega
           have hlen3 : (r).length + (b1.drop 1).length ≤ b.length := by (try simp only [List.length_append, List.length_drop, List.length_cons, List.length_nil]); omega
           have hw : walkL a b = (l ++ (walkL (a1.drop 1) (b1.drop 1)).1, m ++ [at' a1 0] ++ (walkL (a1.drop 1) (b1.drop 1)).2.1, r ++ (walkL (a1.drop 1) (b1.drop 1)).2.2) := by rw [hwk, hst]; simp
           refine te (ec 0 rfl (ec 1 rfl (ec 4 rfl (ec 5 rfl (ec 6 rfl en))))) ?_
           apply tr_anyG (ρ := Value) (φ := fun rr => True) (p := 5) (Lf := fun c rr => cond c ([OwnI 51 kT rr (m ++ [at' a1 0]), OwnI 51 kT vl l, OwnI 51 kT vr r]) ([OwnI 51 kT vl l, OwnI 51 kT vb m, OwnI 51 kT vr r])) nilS (by kernel_rfl) (m := 12) (ns := [[(5, none)], [(0, none)], [(32, some 1)], [(33, some 2)], [(34, some 3)], [(31, some 0), (35, some 4)], [(0, none)], [(37, some 6)], [(1, none)], [(39, some 8)], [(36, some 5)], [(38, some 7)]]) (by kernel_rfl) (by kernel_rfl) (Ts := fun rr => [_, _, _, _, _, IsV rr, _, _, _, _, IsV rr, _]) (fun _ => rfl)
           case hops =>
            refine ⟨?_, ?_, ?_, ?_, ?_, ?_, ?_, ?_, ?_, ?_, ?_, ?_, trivial⟩
            · exact ⟨cBf (by kernel_rfl) fun r _ => rgo r rfl ⟨rfl, trivial⟩ (rmv rfl), fun _ _ _ _ => rfl⟩
            · exact ⟨cBf (by kernel_rfl) fun r _ => rgo r rfl ⟨rfl, trivial⟩ (rmv rfl), fun _ _ _ _ => rfl⟩
            · exact ⟨cBf (by kernel_rfl) fun r _ => rgo r rfl ⟨rfl, trivial⟩ (rP (pu_index (oT rfl) ot Tryz.underlying36 y0 (by omega) (by omega))), fun _ _ _ _ => rfl⟩
            · exact ⟨cBf (by kernel_rfl) fun r _ => rgo r rfl ⟨rfl, trivial⟩ (rP (pL (oT rfl) y0)), fun _ _ _ _ => rfl⟩
            · exact ⟨cBf (by kernel_rfl) fun r _ => rgo r rfl ⟨rfl, trivial⟩ (rop_acts rfl (acts_lit (d := kT) (v0 := []) y29 y0 z38 (show 1 * 1 ≤ 16777216 from by decide) (by decide) (fills_arr rfl rfl (by decide) (oT rfl) fills_nil)) (fun _ _ _ _ h => h)), fun _ _ _ _ => rfl⟩
            · refine ⟨?_, ?_⟩
              · exact cBf (by kernel_rfl) fun r _ => ropg_acts rfl (acts_append (oT rfl) (by exact pA 1 rfl) (oT rfl) y29 (by (simp; omega)) (by (simp [maxLen]; omega))) (by exact pA 1 rfl) (fun r => pR) (fun _ _ _ => trivial) (fun _ _ _ _ h => h)
              · exact fun _ h => absurd h (by decide)
            · exact ⟨by intro c r hc; cases c <;> exact rgo r rfl ⟨rfl, trivial⟩ (rmv rfl), fun _ _ _ _ => rfl⟩
            · exact ⟨by intro c r hc; cases c <;> exact rgo r rfl ⟨rfl, trivial⟩ (rP (pu_slice_lo (oT rfl) ot Tryz.underlying36 y0 (by omega) (by omega))), fun _ _ _ _ => rfl⟩
            · exact ⟨by intro c r hc; cases c <;> exact rgo r rfl ⟨rfl, trivial⟩ (rmv rfl), fun _ _ _ _ => rfl⟩
            · exact ⟨by intro c r hc; cases c <;> exact rgo r rfl ⟨rfl, trivial⟩ (rP (pu_slice_lo (oT rfl) ot Tryz.underlying36 y0 (by omega) (by omega))), fun _ _ _ _ => rfl⟩
            · refine ⟨?_, ?_⟩
              · exact cBt (by kernel_rfl) fun r _ => rgo r rfl ⟨rfl, trivial⟩ (rP (pu_assign (oT rfl)))
              · exact fun h => Bool.noConfusion (h.symm.trans (by kernel_rfl : okFlag _ _ _ _ = false))
            · refine ⟨?_, ?_⟩
              · exact cBt (by kernel_rfl) fun r _ => rgo r rfl ⟨rfl, trivial⟩ (rP (pu_assign (oT rfl)))
              · exact fun h => Bool.noConfusion (h.symm.trans (by kernel_rfl : okFlag _ _ _ _ = false))
           case h =>
            intro v8_5 _
            refine av rfl rfl (tn (bn (bn (nn ?_))))
            exact tg (a1.drop 1, b1.drop 1, vl, v8_5, vr, l, m ++ [at' a1 0], r) ⟨hlen1, hlen2, hlen3, hw⟩ (by dsimp only; (try simp only [List.length_drop]); omega) (ea (ec 0 rfl (ec 1 rfl (ec 4 rfl (ec 5 rfl (ec 6 rfl en))))) en) (op (by repeat first | exact pn | refine pc 0 rfl ?_ | refine pc 1 rfl ?_))
   · try simp only [cq] at c15
     have hfin := hwk
     rw [walk_end (a := a1) (b := b1) (by omega) (by omega)] at hfin
     simp only [List.append_nil] at hfin
     refine tr_exit (tx (tx (bh (nn (sq (te (ec 4 rfl (ec 5 rfl (ec 6 rfl en))) (tr_freeze (by exact pA 0 rfl) 4 (oT rfl) ?_)))))))
     refine tr_freeze (by exact pA 0 rfl) 5 (oT rfl) ?_
     refine tr_freeze (by exact pA 0 rfl) 6 (oT rfl) ?_
     refine rg (mv rfl rfl (mv rfl rfl (mv rfl rfl (av rfl rfl (av rfl rfl (av rfl rfl (tn (nn (tR ?_)))))))))
     exact ret_three .ret (.inl rfl) rfl () (OT.eq (oT rfl) (congrArg (SlT kT) (by rw [hfin]))) (OT.eq (oT rfl) (congrArg (SlT kT) (by rw [hfin]))) (OT.eq (oT rfl) (congrArg (SlT kT) (by rw [hfin]))) (fun _ _ h => h) trivial (by exact pn)
end Go.Proofs.YtklhdalppmjnaaaGreatDoor
/- Typed walks: maps. Lists of keys and data; a map that is owned, a map that is frozen. Over any program. -/
namespace Go.Gw
open Go Go.MapKept
set_option linter.unusedVariables false
set_option linter.unusedSimpArgs false
set_option linter.unusedSectionVars false
section
variable {κ α : Type} [DecidableEq κ]
def lkp (k : κ) : List (κ × α) → Option α
 | [] => none
 | p :: m => if p.1 = k then some p.2 else lkp k m
def ptk (k : κ) (x : α) : List (κ × α) → List (κ × α)
 | [] => [(k, x)]
 | p :: m => if p.1 = k then (k, x) :: m else p :: ptk k x m
def dlk (k : κ) : List (κ × α) → List (κ × α)
 | [] => []
 | p :: m => if p.1 = k then m else p :: dlk k m
def keys (m : List (κ × α)) : List κ := m.map Prod.fst
theorem lkp_mem {k : κ} {x : α} : ∀ {m : List (κ × α)}, lkp k m = some x → (k, x) ∈ m
 | [], h => by cases h
 | (a, b) :: m, h => by
  unfold lkp at h
  by_cases e : a = k
  · rw [if_pos e] at h; cases h; subst e; exact List.mem_cons_self
  · rw [if_neg e] at h; exact List.mem_cons_of_mem _ (lkp_mem h)
theorem lkp_none {k : κ} : ∀ {m : List (κ × α)}, lkp k m = none ↔ k ∉ keys m
 | [] => by simp [lkp, keys]
 | (a, b) :: m => by
  unfold lkp keys
  by_cases e : a = k
  · simp [e]
  · have := lkp_none (k := k) (m := m)
    unfold keys at this
    simp only [e, if_false, List.map_cons, List.mem_cons, this]
    constructor
    · rintro h (h2 | h2)
      · exact e h2.symm
      · exact h h2
    · exact fun h h2 => h (.inr h2)
theorem lkp_at {k : κ} : ∀ {m : List (κ × α)} {j : Nat} {x : α}, (keys m).Nodup → m[j]? = some (k, x) → lkp k m = some x
 | [], _, _, _, h => by simp at h
 | (a, b) :: m, 0, x, hn, h => by simp at h; obtain ⟨rfl, rfl⟩ := h; simp [lkp]
 | (a, b) :: m, j + 1, x, hn, h => by
  have h2 : m[j]? = some (k, x) := by simpa using h
  have hk : k ∈ keys m := List.mem_map.2 ⟨(k, x), List.mem_of_getElem? h2, rfl⟩
  have hn2 : a ∉ keys m ∧ (keys m).Nodup := List.nodup_cons.1 hn
  unfold lkp
  rw [if_neg (show ¬ a = k from fun e => hn2.1 (e ▸ hk))]
  exact lkp_at hn2.2 h2
theorem ptk_set {k : κ} {x y : α} : ∀ {m : List (κ × α)} {j : Nat}, (keys m).Nodup → m[j]? = some (k, y) → ptk k x m = m.set j (k, x)
 | [], _, _, h => by simp at h
 | (a, b) :: m, 0, hn, h => by simp at h; obtain ⟨rfl, rfl⟩ := h; simp [ptk]
 | (a, b) :: m, j + 1, hn, h => by
  have h2 : m[j]? = some (k, y) := by simpa using h
  have hk : k ∈ keys m := List.mem_map.2 ⟨(k, y), List.mem_of_getElem? h2, rfl⟩
  have hn2 : a ∉ keys m ∧ (keys m).Nodup := List.nodup_cons.1 hn
  unfold ptk
  rw [if_neg (show ¬ a = k from fun e => hn2.1 (e ▸ hk)), List.set_cons_succ, ptk_set hn2.2 h2]
theorem ptk_new {k : κ} {x : α} : ∀ {m : List (κ × α)}, k ∉ keys m → ptk k x m = m ++ [(k, x)]
 | [], _ => rfl
 | (a, b) :: m, h => by
  have h2 : k ≠ a ∧ k ∉ keys m := by simpa [keys] using h
  unfold ptk
  rw [if_neg (show ¬ a = k from fun e => h2.1 e.symm), ptk_new h2.2]; rfl
theorem dlk_erase {k : κ} {y : α} : ∀ {m : List (κ × α)} {j : Nat}, (keys m).Nodup → m[j]? = some (k, y) → dlk k m = m.eraseIdx j
 | [], _, _, h => by simp at h
 | (a, b) :: m, 0, hn, h => by simp at h; obtain ⟨rfl, rfl⟩ := h; simp [dlk]
 | (a, b) :: m, j + 1, hn, h => by
  have h2 : m[j]? = some (k, y) := by simpa using h
  have hk : k ∈ keys m := List.mem_map.2 ⟨(k, y), List.mem_of_getElem? h2, rfl⟩
  have hn2 : a ∉ keys m ∧ (keys m).Nodup := List.nodup_cons.1 hn
  unfold dlk
  rw [if_neg (show ¬ a = k from fun e => hn2.1 (e ▸ hk)), List.eraseIdx_cons_succ, dlk_erase hn2.2 h2]
theorem dlk_none {k : κ} : ∀ {m : List (κ × α)}, k ∉ keys m → dlk k m = m
 | [], _ => rfl
 | (a, b) :: m, h => by
  have h2 : k ≠ a ∧ k ∉ keys m := by simpa [keys] using h
  unfold dlk
  rw [if_neg (show ¬ a = k from fun e => h2.1 e.symm), dlk_none h2.2]
theorem ptk_perm {k : κ} {x : α} : ∀ {m : List (κ × α)}, (ptk k x m).Perm ((k, x) :: dlk k m)
 | [] => List.Perm.refl _
 | (a, b) :: m => by
  unfold ptk dlk
  by_cases e : a = k
  · rw [if_pos e, if_pos e]
  · rw [if_neg e, if_neg e]
    exact (List.Perm.cons _ ptk_perm).trans (List.Perm.swap _ _ _)
theorem lkp_perm {k : κ} {x : α} : ∀ {m : List (κ × α)}, lkp k m = some x → m.Perm ((k, x) :: dlk k m)
 | [], h => by cases h
 | (a, b) :: m, h => by
  unfold lkp at h
  unfold dlk
  by_cases e : a = k
  · rw [if_pos e] at h; cases h; subst e; rw [if_pos rfl]
  · rw [if_neg e] at h; rw [if_neg e]
    exact (List.Perm.cons _ (lkp_perm h)).trans (List.Perm.swap _ _ _)
theorem keys_del {k : κ} : ∀ {m : List (κ × α)}, (keys (dlk k m)).Sublist (keys m)
 | [] => List.Sublist.refl _
 | (a, b) :: m => by
  unfold dlk
  by_cases e : a = k
  · rw [if_pos e]; exact List.sublist_cons_self _ _
  · rw [if_neg e]; exact List.Sublist.cons_cons _ keys_del
theorem dlk_not {k : κ} : ∀ {m : List (κ × α)}, (keys m).Nodup → k ∉ keys (dlk k m)
 | [], _ => by simp [dlk, keys]
 | (a, b) :: m, hn => by
  have hn2 : a ∉ keys m ∧ (keys m).Nodup := List.nodup_cons.1 hn
  unfold dlk
  by_cases e : a = k
  · subst e; rw [if_pos rfl]; exact hn2.1
  · rw [if_neg e]; intro h
    rcases List.mem_cons.1 h with h | h
    · exact e h.symm
    · exact dlk_not hn2.2 h
theorem ptk_nodup {k : κ} {x : α} {m : List (κ × α)} (h : (keys m).Nodup) : (keys (ptk k x m)).Nodup := by
 have hp : (keys (ptk k x m)).Perm (k :: keys (dlk k m)) := ptk_perm.map Prod.fst
 rw [hp.nodup_iff]
 exact List.nodup_cons.2 ⟨dlk_not h, h.sublist keys_del⟩
theorem dlk_nodup {k : κ} {m : List (κ × α)} (h : (keys m).Nodup) : (keys (dlk k m)).Nodup := h.sublist keys_del
theorem lkp_put {k k' : κ} {x : α} : ∀ {m : List (κ × α)}, lkp k' (ptk k x m) = if k = k' then some x else lkp k' m
 | [] => by simp [ptk, lkp]
 | (a, b) :: m => by
  unfold ptk
  by_cases e : a = k
  · subst e; rw [if_pos rfl]; simp only [lkp]; split <;> rfl
  · rw [if_neg e]; simp only [lkp]
    by_cases e2 : a = k'
    · subst e2; rw [if_pos rfl, if_pos rfl, if_neg (fun h => e h.symm)]
    · rw [if_neg e2, if_neg e2, lkp_put]
theorem lkp_del {k k' : κ} : ∀ {m : List (κ × α)}, (keys m).Nodup → lkp k' (dlk k m) = if k = k' then none else lkp k' m
 | [], _ => by simp [dlk, lkp]
 | (a, b) :: m, hn => by
  have hn2 : a ∉ keys m ∧ (keys m).Nodup := List.nodup_cons.1 hn
  unfold dlk
  by_cases e : a = k
  · subst e; rw [if_pos rfl]
    by_cases e2 : a = k'
    · subst e2; rw [if_pos rfl]; exact lkp_none.2 hn2.1
    · rw [if_neg e2]; simp [lkp, e2]
  · rw [if_neg e]; simp only [lkp]
    by_cases e2 : a = k'
    · subst e2; rw [if_pos rfl, if_neg (fun h => e h.symm), if_pos rfl]
    · rw [if_neg e2, lkp_del hn2.2, if_neg e2]
theorem ptk_len {k : κ} {x : α} {m : List (κ × α)} : (ptk k x m).length ≤ m.length + 1 := by
 have h1 := (ptk_perm (k := k) (x := x) (m := m)).length_eq
 have h2 := (keys_del (k := k) (m := m)).length_le
 simp only [keys, List.length_map] at h2
 rw [h1, List.length_cons]; omega
theorem lkp_map {β : Type} (f : α → β) {k : κ} : ∀ {m : List (κ × α)}, lkp k (m.map fun p => (p.1, f p.2)) = (lkp k m).map f
 | [] => rfl
 | (a, b) :: m => by
  simp only [List.map_cons, lkp]
  split
  · rfl
  · exact lkp_map f
theorem ptk_map {β : Type} (f : α → β) {k : κ} {x : α} : ∀ {m : List (κ × α)}, (ptk k x m).map (fun p => (p.1, f p.2)) = ptk k (f x) (m.map fun p => (p.1, f p.2))
 | [] => rfl
 | (a, b) :: m => by
  simp only [List.map_cons, ptk]
  split
  · rfl
  · rw [List.map_cons, ptk_map f]
end
theorem keys_map {κ α β : Type} (f : α → β) {m : List (κ × α)} : keys (m.map fun p => (p.1, f p.2)) = keys m := by simp [keys]
def kraw : Kd Value where
 sz := 1
 agg := false
 K := fun _ x cs => cs = [x] ∧ x.oneCell' = true
 T := fun x => ⟨fun _ v => v = x ∧ x.oneCell' = true, fun _ h => h⟩
 len := fun h => by rw [h.1]; rfl
 one := fun h u hu => by rw [h.1] at hu; rw [List.mem_singleton.1 hu]; exact h.2
 mono := fun _ h => h
 toT := fun h => by rw [h.1]; exact ⟨rfl, h.2⟩
 ofT := fun {H x v} h => ⟨[x], ⟨rfl, h.2⟩, h.1⟩
 szone := fun _ => rfl
theorem OT.raw {N : Nat} {Γ : Env} {x : Operand} {v : Value} (h : OT N Γ x (IsV v)) (h1 : v.oneCell' = true) : OT N Γ x (kraw.T v) := fun a H f => ⟨h a H f, h1⟩
structure MKey {κ : Type} (P : Program) (t : TypeId) (K : Kd κ) (enc : κ → Value) : Prop where
 val : ∀ {H k v}, (K.T k).p H v → v = enc k
 chk : ∀ em k w, (Instr.checkKey em 10000 t (enc k)).run P w = .ok () w
 find : ∀ (es : List MapEntry) (ks : List κ) (k : κ) (w : World), es.map (·.key) = ks.map enc → ((Instr.findKey t (enc k) es).run P w = .ok none w ∧ k ∉ ks) ∨ ∃ j e, (Instr.findKey t (enc k) es).run P w = .ok (some (j, e.val)) w ∧ es[j]? = some e ∧ ks[j]? = some k
 stay : ∀ k w, (Instr.keyThatStays (enc k) (enc k)).run P w = .ok (enc k) w
theorem findNow_keys {κ : Type} [DecidableEq κ] {d : TypeDesc} {enc : κ → Value} (hs : ∀ a b, Instr.sameNow d (enc a) (enc b) = some (decide (a = b))) (k : κ) :
 ∀ (es : List MapEntry) (ks : List κ) (i : Nat), es.map (·.key) = ks.map enc → (Instr.findNow d (enc k) es i = some none ∧ k ∉ ks) ∨ ∃ j e, Instr.findNow d (enc k) es i = some (some (i + j, e.val)) ∧ es[j]? = some e ∧ ks[j]? = some k
 | [], [], i, h => .inl ⟨rfl, by simp⟩
 | [], _ :: _, _, h => by simp at h
 | _ :: _, [], _, h => by simp at h
 | e :: es, q :: ks, i, h => by
  have h1 : e.key = enc q ∧ es.map (·.key) = ks.map enc := by simpa using h
  unfold Instr.findNow
  rw [h1.1, hs]
  by_cases hk : k = q
  · subst hk; exact .inr ⟨0, e, by simp, rfl, rfl⟩
  · simp only [hk, decide_false]
    rcases findNow_keys hs k es ks (i + 1) h1.2 with ⟨h2, h3⟩ | ⟨j, e', h2, h3, h4⟩
    · exact .inl ⟨h2, by simp [hk, h3]⟩
    · exact .inr ⟨j + 1, e', by rw [h2]; congr 3; omega, by simpa using h3, by simpa using h4⟩
theorem MKey.ofNow {κ : Type} [DecidableEq κ] {P : Program} {t : TypeId} {d : TypeDesc} {enc : κ → Value} {h1 : ∀ x, (enc x).oneCell' = true} (ht : P.underlying t = some d) (hk : ∀ x, IsKey d (enc x)) (hs : ∀ a b, Instr.sameNow d (enc a) (enc b) = some (decide (a = b))) : MKey P t (scalar enc h1) enc where
 val := fun h => h
 chk := fun em k w => run_checkKey ht (hk k) em 9999
 find := fun es ks k w h => by
  rcases findNow_keys hs k es ks 0 h with ⟨h2, h3⟩ | ⟨j, e, h2, h3, h4⟩
  · exact .inl ⟨run_findKey ht h2, h3⟩
  · exact .inr ⟨j, e, by rw [Nat.zero_add] at h2; exact run_findKey ht h2, h3, h4⟩
 stay := fun k w => run_keyThatStays (hk k)
theorem mkey_int {P : Program} {t : TypeId} {q : IntKind} (ht : P.underlying t = some (.int q)) : MKey P t (kint q) (Value.int q) :=
 MKey.ofNow ht (fun x => by simp [IsKey]) fun a b => by simp [Instr.sameNow]; rw [Bool.eq_iff_iff]; simp
theorem findAsk_keys {κ : Type} [DecidableEq κ] {P : Program} {t : TypeId} {enc : κ → Value} {w : World} (hs : ∀ a b, (Op.equal t (enc a) (enc b)).run P w = .ok (decide (a = b)) w) (k : κ) :
 ∀ (es : List MapEntry) (ks : List κ) (i : Nat), es.map (·.key) = ks.map enc → ((Instr.findAsking t (enc k) es i).run P w = .ok none w ∧ k ∉ ks) ∨ ∃ j e, (Instr.findAsking t (enc k) es i).run P w = .ok (some (i + j, e.val)) w ∧ es[j]? = some e ∧ ks[j]? = some k
 | [], [], i, h => .inl ⟨rfl, by simp⟩
 | [], _ :: _, _, h => by simp at h
 | _ :: _, [], _, h => by simp at h
 | e :: es, q :: ks, i, h => by
  have h1 : e.key = enc q ∧ es.map (·.key) = ks.map enc := by simpa using h
  unfold Instr.findAsking
  simp only [Sem.run_bind, h1.1, hs, Result.andThen_ok]
  by_cases hk : k = q
  · subst hk; exact .inr ⟨0, e, by simp, rfl, rfl⟩
  · simp only [hk, decide_false, Bool.false_eq_true, if_false]
    rcases findAsk_keys hs k es ks (i + 1) h1.2 with ⟨h2, h3⟩ | ⟨j, e', h2, h3, h4⟩
    · exact .inl ⟨h2, by simp [hk, h3]⟩
    · exact .inr ⟨j + 1, e', by rw [h2]; congr 3; omega, by simpa using h3, by simpa using h4⟩
theorem MKey.ofAsk {κ : Type} [DecidableEq κ] {P : Program} {t : TypeId} {d : TypeDesc} {K : Kd κ} {enc : κ → Value} (ht : P.underlying t = some d) (hv : ∀ {H k v}, (K.T k).p H v → v = enc k) (hn : ∀ a b, Instr.sameNow d (enc a) (enc b) = none)
 (hc : ∀ em k w, (Instr.checkKey em 10000 t (enc k)).run P w = .ok () w) (hs : ∀ w a b, (Op.equal t (enc a) (enc b)).run P w = .ok (decide (a = b)) w) (hy : ∀ k, Instr.sameBits 10000 (enc k) (enc k) = true) : MKey P t K enc where
 val := hv
 chk := hc
 find := fun es ks k w h => by
  match es, ks, h with
  | [], [], h => exact .inl ⟨run_findKey ht (by simp [Instr.findNow]), by simp⟩
  | [], _ :: _, h => simp at h
  | _ :: _, [], h => simp at h
  | e :: es, q :: ks, h =>
   have h1 : e.key = enc q := by have : e.key = enc q ∧ es.map (·.key) = ks.map enc := by simpa using h
                                 exact this.1
   have hr : (Instr.findKey t (enc k) (e :: es)).run P w = (Instr.findAsking t (enc k) (e :: es)).run P w := by
    simp only [Instr.findKey, Sem.run_bind, run_underlying ht, Result.andThen_ok, Instr.findNow, h1, hn]
   rw [hr]
   simpa using findAsk_keys (hs w) k (e :: es) (q :: ks) 0 h
 stay := fun k w => by simp [Instr.keyThatStays, hy]
structure MapR {κ α : Type} (enc : κ → Value) (V : α → Ty) (H : FH) (m : List (κ × α)) (es : Array MapEntry) (clock : Nat) : Prop where
 key : es.toList.map (·.key) = m.map fun p => enc p.1
 val : ∀ (i : Nat) (e : MapEntry) (p : κ × α), es.toList[i]? = some e → m[i]? = some p → (V p.2).p H e.val
 nd : (keys m).Nodup
 bn : (es.toList.map (·.born)).Nodup
 lt : ∀ e ∈ es.toList, e.born < clock
section
variable {κ α : Type} {enc : κ → Value} {V : α → Ty} {H : FH} {m : List (κ × α)} {es : Array MapEntry} {clock : Nat}
theorem MapR.mono {H' : FH} (h : MapR enc V H m es clock) (hs : Sub H H') : MapR enc V H' m es clock := ⟨h.key, fun i e p h1 h2 => Ty.mono _ hs (h.val i e p h1 h2), h.nd, h.bn, h.lt⟩
theorem MapR.empty : MapR enc V H [] #[] 0 := ⟨rfl, fun i e p h => by simp at h, List.nodup_nil, List.nodup_nil, fun e h => by simp at h⟩
theorem MapR.len (h : MapR enc V H m es clock) : es.size = m.length := by
 have := congrArg List.length h.key
 simpa using this
theorem MapR.ks (h : MapR enc V H m es clock) : es.toList.map (·.key) = (keys m).map enc := by rw [h.key, keys, List.map_map]; rfl
theorem MapR.at_ (h : MapR enc V H m es clock) {k : κ} {j : Nat} {e : MapEntry} (h1 : es.toList[j]? = some e) (h2 : (keys m)[j]? = some k) : ∃ x, m[j]? = some (k, x) ∧ e.key = enc k ∧ (V x).p H e.val := by
 unfold keys at h2
 rw [List.getElem?_map] at h2
 cases hm : m[j]? with
 | none => rw [hm] at h2; cases h2
 | some p =>
  rw [hm] at h2
  have e1 : p.1 = k := by simpa using h2
  subst e1
  refine ⟨p.2, rfl, ?_, h.val j e p h1 hm⟩
  have h3 : (es.toList.map (·.key))[j]? = some e.key := by rw [List.getElem?_map, h1]; rfl
  rw [h.key, List.getElem?_map, hm] at h3
  exact (Option.some.inj h3).symm
theorem modify_set {β : Type} {l : List β} {j : Nat} {e : β} {f : β → β} (h : l[j]? = some e) : l.modify j f = l.set j (f e) := by
 apply List.ext_getElem?
 intro i
 have hj : j < l.length := (List.getElem?_eq_some_iff.1 h).1
 rw [List.getElem?_modify, List.getElem?_set]
 by_cases hi : j = i
 · subst hi; rw [h]; simp [hj]
 · simp [hi]
theorem set_same {β : Type} {l : List β} {j : Nat} {e : β} (h : l[j]? = some e) : l.set j e = l := by
 apply List.ext_getElem?
 intro i
 have hj : j < l.length := (List.getElem?_eq_some_iff.1 h).1
 rw [List.getElem?_set]
 by_cases hi : j = i
 · subst hi; rw [h]; simp [hj]
 · simp [hi]
theorem modify_list {es : Array MapEntry} {j : Nat} {f : MapEntry → MapEntry} : (es.modify j f).toList = es.toList.modify j f := by simp
theorem MapR.set_ [DecidableEq κ] (h : MapR enc V H m es clock) {k : κ} {j : Nat} {e : MapEntry} {x y : α} {v : Value} (h1 : es.toList[j]? = some e) (h2 : m[j]? = some (k, x)) (he : e.key = enc k) (hv : (V y).p H v) :
 MapR enc V H (ptk k y m) (es.modify j fun e => { e with key := enc k, val := v }) clock := by
 have hj : j < es.toList.length := (List.getElem?_eq_some_iff.1 h1).1
 have hjm : j < m.length := (List.getElem?_eq_some_iff.1 h2).1
 have hl : (es.modify j fun e => { e with key := enc k, val := v }).toList = es.toList.set j { e with key := enc k, val := v } := by
  rw [modify_list, modify_set h1]
 rw [ptk_set h.nd h2]
 refine ⟨?_, ?_, ?_, ?_, ?_⟩
 · rw [hl, List.map_set, List.map_set, h.key]
 · intro i e' p h3 h4
   rw [hl, List.getElem?_set] at h3
   rw [List.getElem?_set] at h4
   by_cases hi : j = i
   · rw [if_pos hi, if_pos hj] at h3
     rw [if_pos hi, if_pos hjm] at h4
     cases h3; cases h4; exact hv
   · rw [if_neg hi] at h3 h4
     exact h.val i e' p h3 h4
 · rw [← ptk_set (x := y) h.nd h2]; exact ptk_nodup h.nd
 · rw [hl, List.map_set]
   rw [show ({ e with key := enc k, val := v } : MapEntry).born = e.born from rfl, set_same (by rw [List.getElem?_map, h1]; rfl)]; exact h.bn
 · intro e' he'
   rw [hl] at he'
   rcases List.mem_or_eq_of_mem_set he' with h3 | h3
   · exact h.lt _ h3
   · rw [h3]; exact h.lt e (List.mem_of_getElem? h1)
end
end Go.Gw
namespace Go.Gw
open Go Go.MapKept
set_option linter.unusedVariables false
set_option linter.unusedSimpArgs false
set_option linter.unusedSectionVars false
section
variable {κ α : Type} {enc : κ → Value} {V : α → Ty} {H : FH} {m : List (κ × α)} {es : Array MapEntry} {clock : Nat}
theorem MapR.push_ [DecidableEq κ] (h : MapR enc V H m es clock) {k : κ} {y : α} {v : Value} (hk : k ∉ keys m) (hv : (V y).p H v) :
 MapR enc V H (ptk k y m) (es.push { key := enc k, val := v, born := clock }) (clock + 1) := by
 rw [ptk_new hk]
 have hlen := h.len
 refine ⟨?_, ?_, ?_, ?_, ?_⟩
 · rw [Array.toList_push, List.map_append, List.map_append, h.key]; rfl
 · intro i e p h1 h2
   rw [Array.toList_push] at h1
   by_cases hi : i < m.length
   · rw [List.getElem?_append_left (by simpa [hlen] using hi)] at h1
     rw [List.getElem?_append_left hi] at h2
     exact h.val i e p h1 h2
   · rw [List.getElem?_append_right (by simp; omega)] at h1
     rw [List.getElem?_append_right (by omega)] at h2
     have hi0 : i - m.length = 0 := by
      have := (List.getElem?_eq_some_iff.1 h2).1
      simp at this; omega
     rw [hi0] at h2
     have : i - es.toList.length = 0 := by simp [hlen]; omega
     rw [this] at h1
     cases h1; cases h2; exact hv
 · rw [← ptk_new (x := y) hk]; exact ptk_nodup h.nd
 · rw [Array.toList_push, List.map_append]
   refine List.nodup_append.2 ⟨h.bn, by simp, fun a ha b hb => ?_⟩
   obtain ⟨e, he, rfl⟩ := List.mem_map.1 ha
   have : b = clock := by simpa using hb
   subst this
   exact Nat.ne_of_lt (h.lt e he)
 · intro e he
   rw [Array.toList_push] at he
   rcases List.mem_append.1 he with h1 | h1
   · exact Nat.lt_succ_of_lt (h.lt e h1)
   · have : e = { key := enc k, val := v, born := clock } := by simpa using h1
     rw [this]; exact Nat.lt_succ_self _
theorem map_eraseIdx' {β γ : Type} (f : β → γ) : ∀ (l : List β) (j : Nat), (l.eraseIdx j).map f = (l.map f).eraseIdx j
 | [], _ => rfl
 | _ :: _, 0 => rfl
 | a :: l, j + 1 => by simp [map_eraseIdx' f l j]
theorem MapR.erase_ [DecidableEq κ] (h : MapR enc V H m es clock) {k : κ} {j : Nat} {x : α} (h2 : m[j]? = some (k, x)) : MapR enc V H (dlk k m) (es.eraseIdxIfInBounds j) clock := by
 have hj : j < m.length := (List.getElem?_eq_some_iff.1 h2).1
 have hl : (es.eraseIdxIfInBounds j).toList = es.toList.eraseIdx j := by
  unfold Array.eraseIdxIfInBounds
  rw [dif_pos (by rw [h.len]; exact hj)]; simp
 rw [dlk_erase h.nd h2]
 refine ⟨?_, ?_, ?_, ?_, ?_⟩
 · rw [hl, map_eraseIdx', map_eraseIdx', h.key]
 · intro i e p h3 h4
   rw [hl, List.getElem?_eraseIdx] at h3
   rw [List.getElem?_eraseIdx] at h4
   by_cases hi : i < j
   · rw [if_pos hi] at h3 h4; exact h.val i e p h3 h4
   · rw [if_neg hi] at h3 h4; exact h.val (i + 1) e p h3 h4
 · rw [← dlk_erase h.nd h2]; exact dlk_nodup h.nd
 · rw [hl]; exact h.bn.sublist ((List.eraseIdx_sublist _ _).map _)
 · intro e he; rw [hl] at he; exact h.lt e ((List.eraseIdx_sublist _ _).subset he)
end
section
variable {κ α : Type} [DecidableEq κ] {P : Program} {w : World} {t kt et : TypeId} {K : Kd κ} {enc : κ → Value} {V : α → Ty} {H : FH} {m : List (κ × α)} {es : Array MapEntry} {clock g : Nat} {k : κ}
theorem find_run (mk : MKey P kt K enc) (h : MapR enc V H m es clock) (w : World) :
 ((Instr.findKey kt (enc k) es.toList).run P w = .ok none w ∧ k ∉ keys m) ∨ ∃ j e x, (Instr.findKey kt (enc k) es.toList).run P w = .ok (some (j, e.val)) w ∧ es.toList[j]? = some e ∧ m[j]? = some (k, x) ∧ e.key = enc k ∧ (V x).p H e.val := by
 rcases mk.find es.toList (keys m) k w h.ks with ⟨h1, h2⟩ | ⟨j, e, h1, h2, h3⟩
 · exact .inl ⟨h1, h2⟩
 · obtain ⟨x, h4, h5, h6⟩ := h.at_ h2 h3
   exact .inr ⟨j, e, x, h1, h2, h4, h5, h6⟩
theorem run_lookup (mk : MKey P kt K enc) (ht : P.underlying t = some (.map kt et)) (hb : w.heap[g]? = some (.map es clock)) (h : MapR enc V H m es clock) {z : Value} (hz : (zeroValue et).run P w = .ok z w) :
 (lkp k m = none ∧ (Instr.lookup t (.map (some g)) (enc k) false).run P w = .ok z w ∧ (Instr.lookup t (.map (some g)) (enc k) true).run P w = .ok (.tuple #[z, .bool false]) w) ∨
 ∃ x v, lkp k m = some x ∧ (V x).p H v ∧ (Instr.lookup t (.map (some g)) (enc k) false).run P w = .ok v w ∧ (Instr.lookup t (.map (some g)) (enc k) true).run P w = .ok (.tuple #[v, .bool true]) w := by
 rcases find_run (k := k) mk h w with ⟨h1, h2⟩ | ⟨j, e, x, h1, h2, h3, h4, h5⟩
 · refine .inl ⟨lkp_none.2 h2, ?_, ?_⟩ <;> simp [Instr.lookup, run_underlying ht, MapKept.run_getObj_map hb, mk.chk, h1, hz, Result.andThen]
 · refine .inr ⟨x, e.val, lkp_at h.nd h3, h5, ?_, ?_⟩ <;> simp [Instr.lookup, run_underlying ht, MapKept.run_getObj_map hb, mk.chk, h1, Result.andThen]
theorem run_lookup_nil (mk : MKey P kt K enc) (ht : P.underlying t = some (.map kt et)) {z : Value} (hz : (zeroValue et).run P w = .ok z w) :
 (Instr.lookup t (.map none) (enc k) false).run P w = .ok z w ∧ (Instr.lookup t (.map none) (enc k) true).run P w = .ok (.tuple #[z, .bool false]) w := by
 rcases mk.find [] [] k w rfl with ⟨h1, _⟩ | ⟨j, e, _, h2, _⟩
 · refine ⟨?_, ?_⟩ <;> simp [Instr.lookup, run_underlying ht, mk.chk, h1, hz, Result.andThen]
 · simp at h2
abbrev setMap (w : World) (g : Nat) (es : Array MapEntry) (clock : Nat) : World := { w with heap := w.heap.setIfInBounds g (.map es clock) }
theorem run_update (mk : MKey P kt K enc) (ht : P.underlying t = some (.map kt et)) (hb : w.heap[g]? = some (.map es clock)) (h : MapR enc V H m es clock) {y : α} {v : Value} (hv : (V y).p H v) :
 ∃ es' clock', (Instr.mapUpdate t (.map (some g)) (enc k) v).run P w = .ok () (setMap w g es' clock') ∧ MapR enc V H (ptk k y m) es' clock' := by
 rcases find_run (k := k) mk h w with ⟨h1, h2⟩ | ⟨j, e, x, h1, h2, h3, h4, h5⟩
 · refine ⟨_, _, ?_, h.push_ h2 hv⟩
   simp [Instr.mapUpdate, run_underlying ht, MapKept.run_getObj_map hb, mk.chk, h1, MapKept.run_setObj_map _ hb, Result.andThen]
 · refine ⟨_, _, ?_, h.set_ h2 h3 h4 hv⟩
   have h2' : es[j]? = some e := by simpa using h2
   simp [Instr.mapUpdate, run_underlying ht, MapKept.run_getObj_map hb, mk.chk, h1, h2', h4, mk.stay, MapKept.run_setObj_map _ hb, Result.andThen]
theorem run_entry (mk : MKey P kt K enc) (ht : P.underlying t = some (.map kt et)) (hb : w.heap[g]? = some (.map es clock)) (h : MapR enc V H m es clock) {z : Value} {y : α} (hz : (zeroValue et).run P w = .ok z w) (hzy : (V y).p H z) :
 ∃ es' clock' v, ∃ s : Nat, (Instr.mapEntry t (.map (some g)) (enc k)).run P w = .ok (.tuple #[v, .int .i64 s]) (setMap w g es' clock') ∧ (V ((lkp k m).getD y)).p H v ∧ MapR enc V H (ptk k ((lkp k m).getD y) m) es' clock' ∧ ∃ (j : Nat) (e : MapEntry), es'.toList[j]? = some e ∧ e.born = s ∧ e.key = enc k ∧ (keys (ptk k ((lkp k m).getD y) m))[j]? = some k := by
 rcases find_run (k := k) mk h w with ⟨h1, h2⟩ | ⟨j, e, x, h1, h2, h3, h4, h5⟩
 · have hl : lkp k m = none := lkp_none.2 h2
   rw [hl]
   refine ⟨_, _, z, clock, ?_, hzy, h.push_ h2 hzy, es.size, { key := enc k, val := z, born := clock }, by simp, rfl, rfl, ?_⟩
   · simp [Instr.mapEntry, run_underlying ht, MapKept.run_getObj_map hb, mk.chk, h1, hz, MapKept.run_setObj_map _ hb, Result.andThen, goInt]
   · rw [show (none : Option α).getD y = y from rfl, ptk_new h2]; simp [keys, h.len]
 · have hl : lkp k m = some x := lkp_at h.nd h3
   rw [hl]
   have h2' : es[j]? = some e := by simpa using h2
   have hset := h.set_ (y := x) h2 h3 h4 h5
   refine ⟨_, _, e.val, e.born, ?_, h5, hset, j, { e with key := enc k, val := e.val }, ?_, rfl, rfl, ?_⟩
   · have hme : (es.modify j fun e => { e with key := enc k }) = (es.modify j fun e' => { e' with key := enc k, val := e.val }) := by
      apply Array.ext'
      rw [modify_list, modify_list, modify_set h2, modify_set h2]
     simp [Instr.mapEntry, run_underlying ht, MapKept.run_getObj_map hb, mk.chk, h1, h2', h4, mk.stay, MapKept.run_setObj_map _ hb, Result.andThen, goInt]
     rw [hme]
   · rw [modify_list, modify_set h2, List.getElem?_set_self (List.getElem?_eq_some_iff.1 h2).1]
   · rw [show (some x).getD y = x from rfl, ptk_set h.nd h3]
     simp only [keys, List.map_set, List.getElem?_set]
     have : j < m.length := (List.getElem?_eq_some_iff.1 h3).1
     simp [this]
theorem findIdx_born {es : List MapEntry} {j : Nat} {e : MapEntry} (hn : (es.map (·.born)).Nodup) (h : es[j]? = some e) : es.findIdx? (fun x => ((x.born : Int) == (e.born : Int))) = some j := by
 have hj : j < es.length := (List.getElem?_eq_some_iff.1 h).1
 rw [List.findIdx?_eq_some_iff_getElem]
 have he : es[j] = e := (List.getElem?_eq_some_iff.1 h).2
 refine ⟨hj, by simp [he], fun i hi => ?_⟩
 have hil : i < es.length := by omega
 intro hb
 have hb2 : es[i].born = es[j].born := by
  have h9 : ((es[i].born : Int)) = (e.born : Int) := by simpa using hb
  rw [he]; omega
 have := List.pairwise_iff_getElem.1 hn i j (by simpa using hil) (by simpa using hj) hi
 exact this (by simpa using hb2)
theorem run_entryStore (hb : w.heap[g]? = some (.map es clock)) (h : MapR enc V H m es clock) {j : Nat} {e : MapEntry} (h1 : es.toList[j]? = some e) (hk : e.key = enc k) (h2 : (keys m)[j]? = some k) {y : α} {v : Value} (hv : (V y).p H v) :
 ∃ es', (Instr.entryStore t (.map (some g)) (.int .i64 e.born) v).run P w = .ok () (setMap w g es' clock) ∧ MapR enc V H (ptk k y m) es' clock := by
 obtain ⟨x, h3, _, h5⟩ := h.at_ h1 h2
 have hset := h.set_ (y := y) h1 h3 hk hv
 refine ⟨_, ?_, hset⟩
 have hf := findIdx_born h.bn h1
 have hf2 : es.findIdx? (fun x => ((x.born : Int) == (e.born : Int))) = some j := by
  have h9 := List.findIdx?_toArray (fun x : MapEntry => ((x.born : Int) == (e.born : Int))) es.toList
  rw [hf] at h9; simpa using h9
 have hme : (es.modify j fun e => { e with val := v }) = (es.modify j fun e' => { e' with key := enc k, val := v }) := by
  apply Array.ext'
  rw [modify_list, modify_list, modify_set h1, modify_set h1, ← hk]
 simp only [Instr.entryStore, Sem.run_bind, MapKept.run_getObj_map hb, Result.andThen_ok, asInt, asIntOf, Sem.run_pure, hf2, MapKept.run_setObj_map _ hb]
 rw [hme]
theorem run_delete (mk : MKey P kt K enc) (ht : P.underlying t = some (.map kt et)) (hb : w.heap[g]? = some (.map es clock)) (h : MapR enc V H m es clock) (r : TypeId) {ts : Array TypeId} (hts : ts[0]? = some t) :
 ∃ es' w', (Builtin.delete_ ts r #[.map (some g), enc k]).run P w = .ok (.tuple #[]) w' ∧ w' = setMap w g es' clock ∧ MapR enc V H (dlk k m) es' clock := by
 rcases find_run (k := k) mk h w with ⟨h1, h2⟩ | ⟨j, e, x, h1, h2, h3, h4, h5⟩
 · refine ⟨es, _, ?_, rfl, by rw [dlk_none h2]; exact h⟩
   simp [Builtin.delete_, hts, run_underlying ht, MapKept.run_getObj_map hb, mk.chk, h1, MapKept.run_setObj_map _ hb, Result.andThen]
 · refine ⟨_, _, ?_, rfl, h.erase_ h3⟩
   simp [Builtin.delete_, hts, run_underlying ht, MapKept.run_getObj_map hb, mk.chk, h1, MapKept.run_setObj_map _ hb, Result.andThen]
end
end Go.Gw
namespace Go.Gw
open Go Go.MapKept
set_option linter.unusedVariables false
set_option linter.unusedSimpArgs false
set_option linter.unusedSectionVars false
section
variable {κ α : Type}
def MapI (g : Nat) (enc : κ → Value) (V : α → Ty) (m : List (κ × α)) : It where
 blk := some g
 p := fun w H => ∃ es clock, w.heap[g]? = some (.map es clock) ∧ MapR enc V H m es clock
 st := fun hb hs ⟨es, clock, h1, h2⟩ => ⟨es, clock, (hb g rfl).trans h1, h2.mono hs⟩
abbrev mp (g : Nat) : Value := .map (some g)
def MapT (enc : κ → Value) (V : α → Ty) (m : List (κ × α)) : Ty :=
 ⟨fun H v => (v = .map none ∧ m = []) ∨ ∃ g es clock, v = mp g ∧ H g = some (.map es clock) ∧ MapR enc V H m es clock, fun hs h => h.imp id fun ⟨g, es, clock, h1, h2, h3⟩ => ⟨g, es, clock, h1, hs _ _ h2, h3.mono hs⟩⟩
def kmap (enc : κ → Value) (V : α → Ty) : Kd (List (κ × α)) where
 sz := 1
 agg := false
 K := fun H m cs => ∃ v, cs = [v] ∧ (MapT enc V m).p H v
 T := fun m => MapT enc V m
 len := by rintro H x cs ⟨v, rfl, _⟩; rfl
 one := by
  rintro H x cs ⟨v, rfl, h⟩ u hu
  rw [List.mem_singleton.1 hu]
  rcases h with ⟨rfl, _⟩ | ⟨g, es, clock, rfl, _⟩ <;> rfl
 mono := by rintro H H' x cs hs ⟨v, e, h⟩; exact ⟨v, e, Ty.mono _ hs h⟩
 toT := by rintro H x cs ⟨v, rfl, h⟩; exact h
 ofT := fun {H x v} h => ⟨[v], ⟨v, rfl, h⟩, rfl⟩
 szone := fun _ => rfl
def PtrT (d : Kd α) : Option α → Ty
 | none => IsV (.pointer none)
 | some x => AtT d x
def kpt (d : Kd α) : Kd (Option α) where
 sz := 1
 agg := false
 K := fun H m cs => ∃ v, cs = [v] ∧ (PtrT d m).p H v
 T := fun m => PtrT d m
 len := by rintro H x cs ⟨v, rfl, _⟩; rfl
 one := by
  rintro H x cs ⟨v, rfl, h⟩ u hu
  rw [List.mem_singleton.1 hu]
  cases x with
  | none => rw [show v = .pointer none from h]; rfl
  | some x => obtain ⟨g, off, cells, t, fr, cs, rfl, _⟩ := h; rfl
 mono := by rintro H H' x cs hs ⟨v, e, h⟩; exact ⟨v, e, Ty.mono _ hs h⟩
 toT := by rintro H x cs ⟨v, rfl, h⟩; exact h
 ofT := fun {H x v} h => ⟨[v], ⟨v, rfl, h⟩, rfl⟩
 szone := fun _ => rfl
end
theorem st_map {M : Nat → Prop} {H : FH} {w : World} {g : Nat} (hon : On H w) (hH : H g = none) (hM : M g) (es : Array MapEntry) (clock : Nat) : St M H w H (setMap w g es clock) := by
 refine st_grown (row := some g) hon ⟨rfl, rfl, rfl, by simp, fun k hk hne => ?_⟩ fun k hk => by cases hk; exact ⟨hH, hM⟩
 have : k ≠ g := fun e => hne (by rw [e])
 simp [Array.getElem?_setIfInBounds, Ne.symm this]
theorem map_heap {w : World} {g : Nat} {o : Obj} {es : Array MapEntry} {clock : Nat} (h : w.heap[g]? = some o) : (setMap w g es clock).heap[g]? = some (.map es clock) := by
 have hlt : g < w.heap.size := (Array.getElem?_eq_some_iff.1 h).1
 simp [hlt]
theorem owns_one {I J : It} {b : Nat} {ok : Nat → Prop} {H : FH} {w w' : World} {R : List It} (hJ : J.blk = some b) (hI : I.blk = some b) (hp : J.p w' H) (ho : Owns ok w H (I :: R)) (hs : w.heap.size ≤ w'.heap.size) : Owns (fun g => g ∈ blks [I] ∨ w.heap.size ≤ g) w' H [J] where
 all := fun i hi => by rw [List.mem_singleton.1 hi]; exact hp
 nodup := by unfold blks; rw [List.filterMap_cons_some hJ]; simp
 own := fun g hg => by
  obtain ⟨it, hit, h1⟩ := List.mem_filterMap.1 hg
  rw [List.mem_singleton.1 hit, hJ] at h1
  cases h1
  have h2 := ho.own b (blk_mem (i := I) List.mem_cons_self hI)
  exact ⟨Nat.lt_of_lt_of_le h2.1 hs, h2.2.1, .inl (blk_mem (i := I) List.mem_cons_self hI)⟩
section
variable {C : Cx} {Γ : Env} {L R : List It} {dst : Option Tmp} {ty : TypeId} {pos : String} {after : Array Edge} {guard : Option (Nat × Bool)} {x y z : Operand}
variable {κ α : Type} [DecidableEq κ] {t kt et : TypeId} {K : Kd κ} {enc : κ → Value} {V : α → Ty} {m : List (κ × α)} {g : Nat} {k : κ}
theorem acts_makeMap (enc : κ → Value) (V : α → Ty) : Acts C Γ L ⟨dst, .makeMap t none, ty, pos, after, guard⟩ [] Nat (fun g => IsV (mp g)) (fun g => [MapI g enc V []]) (fun _ => True) := by
 intro a w H f s ow Q K hK
 have hrun : (execOp a.eval ⟨dst, .makeMap t none, ty, pos, after, guard⟩).run C.P w = .ok (.value (mp w.heap.size)) (w.alloc (.map #[] 0)) := by
  simp [execOp, Instr.makeMap, Result.andThen, mp]
 simp only [Oper.wp, hrun, Oper.upon_value]
 exact hK w.heap.size _ _ H trivial (st_alloc s.on _) rfl (owns_new (J := MapI w.heap.size enc V []) ⟨_, _, heap_alloc_new w _, MapR.empty⟩ (.inr rfl) (by simp) s.on)
theorem pu_lookup_own {d : Kd α} {z0 : α} (mk : MKey C.P kt K enc) (ht : C.P.underlying t = some (.map kt et)) (hz : ZeroOf C.P et d z0) (hx : OT C.N Γ x (IsV (mp g))) (hm : MapI g enc d.T m ∈ L) (hy : OT C.N Γ y (K.T k)) :
 Pure C Γ L ⟨dst, .lookup t x y false, ty, pos, after, guard⟩ (d.T ((lkp k m).getD z0)) := fun a w H f s ow => by
 obtain ⟨es, clock, hb, hR⟩ := ow.all _ hm
 obtain ⟨zv, hzr, hzt⟩ := run_zero (w := w) hz
 have hxv : a.eval x = mp g := hx a H f
 have hyv : a.eval y = enc k := mk.val (hy a H f)
 rcases run_lookup (k := k) mk ht hb hR hzr with ⟨h1, h2, _⟩ | ⟨v0, v, h1, h2, h3, _⟩
 · rw [h1]; exact ⟨zv, by simp [execOp, hxv, hyv, h2, Result.andThen], hzt H⟩
 · rw [h1]; exact ⟨v, by simp [execOp, hxv, hyv, h3, Result.andThen], h2⟩
theorem pu_lookup_raw {m : List (κ × Value)} {z0 : Value} (mk : MKey C.P kt K enc) (ht : C.P.underlying t = some (.map kt et)) (hz : (C.P.info? et).bind (·.zero) = some z0) (hx : OT C.N Γ x (IsV (mp g))) (hm : MapI g enc IsV m ∈ L) (hy : OT C.N Γ y (K.T k)) :
 Pure C Γ L ⟨dst, .lookup t x y false, ty, pos, after, guard⟩ (IsV ((lkp k m).getD z0)) := fun a w H f s ow => by
 obtain ⟨es, clock, hb, hR⟩ := ow.all _ hm
 have hzr : (zeroValue et).run C.P w = .ok z0 w := by
  cases hi : C.P.info? et with
  | none => rw [hi] at hz; cases hz
  | some i => rw [hi] at hz; have h3 : i.zero = some z0 := hz; simp [zeroValue, typeInfo, hi, h3]
 have hxv : a.eval x = mp g := hx a H f
 have hyv : a.eval y = enc k := mk.val (hy a H f)
 rcases run_lookup (k := k) mk ht hb hR hzr with ⟨h1, h2, _⟩ | ⟨v0, v, h1, h2, h3, _⟩
 · rw [h1]; exact ⟨z0, by simp [execOp, hxv, hyv, h2, Result.andThen], rfl⟩
 · rw [h1]; exact ⟨v, by simp [execOp, hxv, hyv, h3, Result.andThen], h2⟩
theorem pu_lookup {d : Kd α} {z0 : α} (mk : MKey C.P kt K enc) (ht : C.P.underlying t = some (.map kt et)) (hz : ZeroOf C.P et d z0) (hx : OT C.N Γ x (MapT enc d.T m)) (hy : OT C.N Γ y (K.T k)) :
 Pure C Γ L ⟨dst, .lookup t x y false, ty, pos, after, guard⟩ (d.T ((lkp k m).getD z0)) := fun a w H f s ow => by
 obtain ⟨zv, hzr, hzt⟩ := run_zero (w := w) hz
 have hyv : a.eval y = enc k := mk.val (hy a H f)
 rcases hx a H f with ⟨hxv, rfl⟩ | ⟨g, es, clock, hxv, hb, hR⟩
 · exact ⟨zv, by simp [execOp, hxv, hyv, (run_lookup_nil (k := k) mk ht hzr).1, Result.andThen], hzt H⟩
 · have hxv' : a.eval x = .map (some g) := hxv
   rcases run_lookup (k := k) mk ht (s.on _ _ hb) hR hzr with ⟨h1, h2, _⟩ | ⟨v0, v, h1, h2, h3, _⟩
   · rw [h1]; exact ⟨zv, by simp [execOp, hxv', hyv, h2, Result.andThen], hzt H⟩
   · rw [h1]; exact ⟨v, by simp [execOp, hxv', hyv, h3, Result.andThen], h2⟩
theorem acts_update {v : α} (mk : MKey C.P kt K enc) (ht : C.P.underlying t = some (.map kt et)) (hx : OT C.N Γ x (IsV (mp g))) (hp : List.Perm L (MapI g enc V m :: R)) (hy : OT C.N Γ y (K.T k)) (hz : OT C.N Γ z (V v)) :
 Acts C Γ L ⟨dst, .mapUpdate t x y z, ty, pos, after, guard⟩ [MapI g enc V m] Unit (fun _ => AnyT) (fun _ => [MapI g enc V (ptk k v m)]) (fun _ => True) := by
 intro a w H f s ow Q K' hK
 have o' := ow.perm hp
 obtain ⟨es, clock, hb, hR⟩ := o'.all _ List.mem_cons_self
 have hown := o'.own g (blk_mem (i := MapI g enc V m) List.mem_cons_self rfl)
 have hxv : a.eval x = .map (some g) := hx a H f
 have hyv : a.eval y = enc k := mk.val (hy a H f)
 obtain ⟨es', clock', hr, hR'⟩ := run_update (k := k) mk ht hb hR (hz a H f)
 have hrun : (execOp a.eval ⟨dst, .mapUpdate t x y z, ty, pos, after, guard⟩).run C.P w = .ok .skip (setMap w g es' clock') := by simp [execOp, hxv, hyv, hr, Result.andThen]
 simp only [Oper.wp, hrun, Oper.upon_skip]
 refine hK () _ _ H trivial (st_map s.on hown.2.1 (blk_mem (i := MapI g enc V m) List.mem_cons_self rfl) _ _) trivial ?_
 exact owns_one (I := MapI g enc V m) rfl rfl ⟨_, _, map_heap hb, hR'⟩ o' (by simp)
def MapE (g : Nat) (enc : κ → Value) (V : α → Ty) (m : List (κ × α)) (k : κ) (st : Nat) : It where
 blk := some g
 p := fun w H => ∃ es clock, w.heap[g]? = some (.map es clock) ∧ MapR enc V H m es clock ∧ ∃ (j : Nat) (e : MapEntry), es.toList[j]? = some e ∧ e.born = st ∧ e.key = enc k ∧ (keys m)[j]? = some k
 st := fun hb hs ⟨es, clock, h1, h2, h3⟩ => ⟨es, clock, (hb g rfl).trans h1, h2.mono hs, h3⟩
theorem acts_entry {d : Kd α} {z0 : α} (mk : MKey C.P kt K enc) (ht : C.P.underlying t = some (.map kt et)) (hz : ZeroOf C.P et d z0) (hx : OT C.N Γ x (IsV (mp g))) (hp : List.Perm L (MapI g enc d.T m :: R)) (hy : OT C.N Γ y (K.T k)) :
 Acts C Γ L ⟨dst, .mapEntry t x y, ty, pos, after, guard⟩ [MapI g enc d.T m] Nat (fun st => TupT [d.T ((lkp k m).getD z0), I64 (st : Int)]) (fun st => [MapE g enc d.T (ptk k ((lkp k m).getD z0) m) k st]) (fun _ => True) := by
 intro a w H f s ow Q K' hK
 have o' := ow.perm hp
 obtain ⟨es, clock, hb, hR⟩ := o'.all _ List.mem_cons_self
 have hown := o'.own g (blk_mem (i := MapI g enc d.T m) List.mem_cons_self rfl)
 have hxv : a.eval x = .map (some g) := hx a H f
 have hyv : a.eval y = enc k := mk.val (hy a H f)
 obtain ⟨zv, hzr, hzt⟩ := run_zero (w := w) hz
 obtain ⟨es', clock', v, st, hr, hv, hR', j, e, h1, h2, h3, h4⟩ := run_entry (k := k) mk ht hb hR hzr (hzt H)
 have hrun : (execOp a.eval ⟨dst, .mapEntry t x y, ty, pos, after, guard⟩).run C.P w = .ok (.value (.tuple #[v, .int .i64 st])) (setMap w g es' clock') := by simp [execOp, hxv, hyv, hr, Result.andThen]
 simp only [Oper.wp, hrun, Oper.upon_value]
 refine hK st _ _ H trivial (st_map s.on hown.2.1 (blk_mem (i := MapI g enc d.T m) List.mem_cons_self rfl) _ _) ⟨[_, _], rfl, hv, rfl, trivial⟩ ?_
 exact owns_one (I := MapI g enc d.T m) rfl rfl ⟨_, _, map_heap hb, hR', j, e, h1, h2, h3, h4⟩ o' (by simp)
theorem acts_entryStore {v : α} {st : Nat} (hx : OT C.N Γ x (IsV (mp g))) (hp : List.Perm L (MapE g enc V m k st :: R)) (hy : OT C.N Γ y (I64 (st : Int))) (hz : OT C.N Γ z (V v)) :
 Acts C Γ L ⟨dst, .entryStore t x y z, ty, pos, after, guard⟩ [MapE g enc V m k st] Unit (fun _ => AnyT) (fun _ => [MapI g enc V (ptk k v m)]) (fun _ => True) := by
 intro a w H f s ow Q K' hK
 have o' := ow.perm hp
 obtain ⟨es, clock, hb, hR, j, e, h1, h2, h3, h4⟩ := o'.all _ List.mem_cons_self
 have hown := o'.own g (blk_mem (i := MapE g enc V m k st) List.mem_cons_self rfl)
 have hxv : a.eval x = .map (some g) := hx a H f
 have hyv : a.eval y = .int .i64 st := hy a H f
 obtain ⟨es', hr, hR'⟩ := run_entryStore (t := t) (P := C.P) hb hR h1 h3 h4 (hz a H f)
 have hrun : (execOp a.eval ⟨dst, .entryStore t x y z, ty, pos, after, guard⟩).run C.P w = .ok .skip (setMap w g es' clock) := by simp [execOp, hxv, hyv, ← h2, hr, Result.andThen]
 simp only [Oper.wp, hrun, Oper.upon_skip]
 refine hK () _ _ H trivial (st_map s.on hown.2.1 (blk_mem (i := MapE g enc V m k st) List.mem_cons_self rfl) _ _) trivial ?_
 exact owns_one (I := MapE g enc V m k st) rfl rfl ⟨_, _, map_heap hb, hR'⟩ o' (by simp)
theorem ptk_put {k : κ} {x y : α} : ∀ {m : List (κ × α)}, ptk k y (ptk k x m) = ptk k y m
 | [] => by simp [ptk]
 | (a, b) :: m => by
  unfold ptk
  by_cases e : a = k
  · simp [e, ptk]
  · simp [e, ptk, ptk_put]
theorem acts_delete {ts : Array TypeId} (mk : MKey C.P kt K enc) (ht : C.P.underlying t = some (.map kt et)) (hts : ts[0]? = some t) (hx : OT C.N Γ x (IsV (mp g))) (hp : List.Perm L (MapI g enc V m :: R)) (hy : OT C.N Γ y (K.T k)) :
 Acts C Γ L ⟨dst, .call ⟨.builtin .delete, #[x, y], ts⟩, ty, pos, after, guard⟩ [MapI g enc V m] Unit (fun _ => AnyT) (fun _ => [MapI g enc V (dlk k m)]) (fun _ => True) := by
 intro a w H f s ow Q K' hK
 have o' := ow.perm hp
 obtain ⟨es, clock, hb, hR⟩ := o'.all _ List.mem_cons_self
 have hown := o'.own g (blk_mem (i := MapI g enc V m) List.mem_cons_self rfl)
 have hxv : a.eval x = .map (some g) := hx a H f
 have hyv : a.eval y = enc k := mk.val (hy a H f)
 obtain ⟨es', w', hr, rfl, hR'⟩ := run_delete (k := k) mk ht hb hR ty hts
 have hrun : (execOp a.eval ⟨dst, .call ⟨.builtin .delete, #[x, y], ts⟩, ty, pos, after, guard⟩).run C.P w = .ok (.value (.tuple #[])) (setMap w g es' clock) := by
  simp [execOp, resolve, invoke, builtin, hxv, hyv, hr, Result.andThen]
 simp only [Oper.wp, hrun, Oper.upon_value]
 refine hK () _ _ H trivial (st_map s.on hown.2.1 (blk_mem (i := MapI g enc V m) List.mem_cons_self rfl) _ _) trivial ?_
 exact owns_one (I := MapI g enc V m) rfl rfl ⟨_, _, map_heap hb, hR'⟩ o' (by simp)
end
end Go.Gw
/- Typed walks: what is owned becomes readable, several items at once; pointers; facts out of items. Over any program. -/
namespace Go.Gw
open Go Go.MapKept
set_option linter.unusedVariables false
set_option linter.unusedSimpArgs false
set_option linter.unusedSectionVars false
def Frz (J : List It) (Q : FH → Prop) : Prop := ∀ (ok : Nat → Prop) (w : World) (H : FH) (R : List It), On H w → Owns ok w H (J ++ R) →
 ∃ H', Sub H H' ∧ On H' w ∧ (∀ k o, H' k = some o → H k = some o ∨ ok k) ∧ Owns ok w H' R ∧ Q H'
def Mono (Q : FH → Prop) : Prop := ∀ {H H' : FH}, Sub H H' → Q H → Q H'
theorem Mono.ty {T : Ty} {v : Value} : Mono fun H => T.p H v := fun hs h => T.mono hs h
theorem Mono.and {Q Q' : FH → Prop} (h : Mono Q) (h' : Mono Q') : Mono fun H => Q H ∧ Q' H := fun hs x => ⟨h hs x.1, h' hs x.2⟩
theorem Mono.all {α : Type} {l : List α} {Q : α → FH → Prop} (h : ∀ x, Mono (Q x)) : Mono fun H => ∀ x ∈ l, Q x H := fun hs x y hy => h y hs (x y hy)
theorem Frz.nil : Frz [] fun _ => True := fun ok w H R hon ho => ⟨H, Sub.refl _, hon, fun k o e => .inl e, ho, trivial⟩
theorem Frz.imp {J : List It} {Q Q' : FH → Prop} (h : Frz J Q) (hi : ∀ H, Q H → Q' H) : Frz J Q' := fun ok w H R hon ho => let ⟨H', a, b, c, d, e⟩ := h ok w H R hon ho; ⟨H', a, b, c, d, hi H' e⟩
theorem Frz.app {J J' : List It} {Q Q' : FH → Prop} (h : Frz J Q) (hm : Mono Q) (h' : Frz J' Q') : Frz (J ++ J') fun H => Q H ∧ Q' H := by
 intro ok w H R hon ho
 rw [List.append_assoc] at ho
 obtain ⟨H1, a1, b1, c1, d1, e1⟩ := h ok w H (J' ++ R) hon ho
 obtain ⟨H2, a2, b2, c2, d2, e2⟩ := h' ok w H1 R b1 d1
 exact ⟨H2, a1.trans a2, b2, fun k o e => (c2 k o e).elim (fun e => c1 k o e) .inr, d2, hm a2 e1, e2⟩
theorem Frz.cons {I : It} {J' : List It} {Q Q' : FH → Prop} (h : Frz [I] Q) (hm : Mono Q) (h' : Frz J' Q') : Frz (I :: J') fun H => Q H ∧ Q' H := h.app hm h'
theorem Frz.flat {α : Type} {f : α → List It} {Q : α → FH → Prop} (hm : ∀ x, Mono (Q x)) : ∀ (l : List α), (∀ x ∈ l, Frz (f x) (Q x)) → Frz (l.flatMap f) fun H => ∀ x ∈ l, Q x H
 | [], _ => Frz.nil.imp fun H _ x hx => by cases hx
 | x :: l, h => by
  rw [List.flatMap_cons]
  refine ((h x List.mem_cons_self).app (hm x) (Frz.flat hm l fun y hy => h y (List.mem_cons_of_mem _ hy))).imp ?_
  rintro H ⟨h1, h2⟩ y hy
  rcases List.mem_cons.1 hy with rfl | hy
  · exact h1
  · exact h2 y hy
theorem Frz.map_ {α : Type} {f : α → It} {Q : α → FH → Prop} (hm : ∀ x, Mono (Q x)) (l : List α) (h : ∀ x, Frz [f x] (Q x)) : Frz (l.map f) fun H => ∀ x ∈ l, Q x H := by
 rw [show l.map f = l.flatMap fun x => [f x] from by induction l <;> simp_all]
 exact Frz.flat hm l fun x _ => h x
section
variable {α κ : Type} {d : Kd α}
theorem Frz.own {t : TypeId} {v : Value} {xs : List α} : Frz [OwnI t d v xs] fun H => (SlT d xs).p H v := by
 intro ok w H R hon ho
 have hb : ∀ g, v.ownBlock = some g → g < w.heap.size ∧ H g = none ∧ ok g := fun g hg => ho.own g (blk_mem (i := OwnI t d v xs) List.mem_cons_self hg)
 obtain ⟨H', h1, h2, h3, h4⟩ := own_frozen (ho.all _ List.mem_cons_self) (fun g hg => (hb g hg).2.1) hon
 exact ⟨H', h1, h2, fun k o e => (h3 k o e).imp id fun e => (hb k e).2.2, frozen_sub ho h1 h3, h4⟩
theorem Frz.obj {I : It} {g : Nat} {Q : FH → Prop} (hI : I.blk = some g) (h : ∀ w H, I.p w H → ∃ o, w.heap[g]? = some o ∧ ∀ H', Sub H H' → H' g = some o → Q H') : Frz [I] Q := by
 intro ok w H R hon ho
 have hb := ho.own g (blk_mem (i := I) List.mem_cons_self hI)
 obtain ⟨o, h1, h2⟩ := h w H (ho.all _ List.mem_cons_self)
 have hs := addH_sub (o := o) hb.2.1
 refine ⟨addH H g o, hs, addH_on hon h1, fun k u e => ?_, frozen_sub ho hs fun k u e => ?_, h2 _ hs (by simp [addH])⟩
 all_goals
  unfold addH at e
  by_cases hk : k = g
  · subst hk; first | exact .inr hb.2.2 | exact .inr hI
  · rw [if_neg hk] at e; exact .inl e
theorem Frz.blk {g : Nat} {t : TypeId} {x : α} : Frz [BlkI g t d x] fun H => (AtT d x).p H (pt g 0) :=
 Frz.obj (I := BlkI g t d x) rfl fun w H ⟨cs, h1, h2⟩ => ⟨_, h2, fun H' hs hg => ⟨g, 0, cs.toArray, t, (0, 0), cs, rfl, hg, d.mono hs h1, fun i u e => by simpa using e⟩⟩
theorem Frz.mapI {g : Nat} {enc : κ → Value} {V : α → Ty} {m : List (κ × α)} : Frz [MapI g enc V m] fun H => (MapT enc V m).p H (mp g) :=
 Frz.obj (I := MapI g enc V m) rfl fun w H ⟨es, clock, h1, h2⟩ => ⟨_, h1, fun H' hs hg => .inr ⟨g, es, clock, rfl, hg, h2.mono hs⟩⟩
theorem AtT.conv {β : Type} {e : Kd β} {H : FH} {v : Value} {x : α} {y : β} (h : (AtT d x).p H v) (hc : ∀ cs, d.K H x cs → e.K H y cs) : (AtT e y).p H v := by
 obtain ⟨g, off, cells, t, fr, cs, h1, h2, h3, h4⟩ := h
 exact ⟨g, off, cells, t, fr, cs, h1, h2, hc cs h3, h4⟩
theorem MapT.conv {β : Type} {enc : κ → Value} {V : α → Ty} {V' : β → Ty} {m : List (κ × α)} {H : FH} {v : Value} (f : κ × α → β) (h : (MapT enc V m).p H v) (hc : ∀ p ∈ m, ∀ u, (V p.2).p H u → (V' (f p)).p H u) : (MapT enc V' (m.map fun p => (p.1, f p))).p H v := by
 rcases h with ⟨h1, rfl⟩ | ⟨g, es, clock, h1, h2, h3⟩
 · exact .inl ⟨h1, rfl⟩
 · refine .inr ⟨g, es, clock, h1, h2, ?_, fun i e p hi hp => ?_, by simpa [keys, Function.comp_def] using h3.nd, h3.bn, h3.lt⟩
   · rw [h3.key, List.map_map]; rfl
   · rw [List.getElem?_map] at hp
     cases hm : m[i]? with
     | none => rw [hm] at hp; cases hp
     | some q =>
      rw [hm] at hp
      cases hp
      exact hc q (List.mem_of_getElem? hm) _ (h3.val i e q hi hm)
end
section
variable {C : Cx} {Γ : Env} {L R J : List It} {dst : Option Tmp} {ty : TypeId} {pos : String} {after : Array Edge} {guard : Option (Nat × Bool)} {x y : Operand}
theorem tr_frz {Q : FH → Prop} {v : Value} {T : Ty} {φ : Act → World → Prop} (hf : Frz J Q) (hp : List.Perm L (J ++ R)) (sl : Nat) (hv : OT C.N Γ (.tmp sl) (IsV v)) (hT : ∀ H, Q H → T.p H v) (h : Tr C ((sl, T) :: Γ) R φ) : Tr C Γ L φ := by
 intro a w H f s o
 obtain ⟨H', h1, h2, h3, h4, h5⟩ := hf _ w H R s.on (o.perm hp)
 refine h a w H' (fits_cons ?_ (f.mono h1)) ⟨s.sub.trans h1, h2, s.os, s.tape, s.output, s.size, s.keep, fun k o e => ?_⟩ h4
 · have : a.eval (.tmp sl) = v := hv a H f
   simp only [Act.eval] at this
   rw [this]; exact hT H' h5
 · rcases h3 k o e with e | e
   · exact s.new k o e
   · rcases e with e | e
     · exact .inr (.inr e)
     · exact .inr (.inl e)
theorem tr_fact {I : It} {p : Prop} {φ : Act → World → Prop} (hm : I ∈ L) (hp : ∀ w H, I.p w H → p) (h : p → Tr C Γ L φ) : Tr C Γ L φ := fun a w H f s o => h (hp w H (o.all _ hm)) a w H f s o
theorem own_cell {α : Type} {d : Kd α} {t : TypeId} {v : Value} {xs : List α} : ∀ w H, (OwnI t d v xs).p w H → v.oneCell' = true := fun w H h => by
 obtain ⟨⟨A, c, rfl, _⟩, _⟩ := own_form h
 rfl
theorem tr_mapnd {α κ : Type} {g : Nat} {enc : κ → Value} {V : α → Ty} {m : List (κ × α)} : ∀ w H, (MapI g enc V m).p w H → (keys m).Nodup := fun w H ⟨_, _, _, h⟩ => h.nd
theorem pu_nilCheck_at {α : Type} {d : Kd α} {v : α} (hx : OT C.N Γ x (AtT d v)) : Pure C Γ L ⟨dst, .nilCheck x, ty, pos, after, guard⟩ (AtT d v) := fun a w H f s ow => by
 obtain ⟨g, off, cells, t, fr, cs, h1, h2⟩ := hx a H f
 exact ⟨_, by simp [execOp, h1], g, off, cells, t, fr, cs, rfl, h2⟩
theorem run_ptr_eq {P : Program} {w : World} {t : TypeId} {el : TypeId} (ht : P.underlying t = some (.pointer el)) (a : Option Addr) (d : Nat) : (Op.equalIn (d + 1) t (.pointer a) (.pointer none)).run P w = .ok a.isNone w := by
 rw [Op.equalIn]
 cases a <;> simp [run_underlying ht]
theorem pu_ptr_eql {t t2 el : TypeId} {a : Option Addr} {T : Ty} (hT : ∀ H v, T.p H v → ∃ a', v = .pointer a' ∧ a'.isNone = a.isNone) (hx : OT C.N Γ x T) (ht : C.P.underlying t = some (.pointer el)) : Pure C Γ L ⟨dst, .binOp .eql t x (.const (.pointer none)) t2, ty, pos, after, guard⟩ (BoolT a.isNone) := fun ac w H f s ow => by
 obtain ⟨a', hv, ha⟩ := hT _ _ (hx ac H f)
 have hc : ac.eval (.const (.pointer none)) = .pointer none := rfl
 have hg : (eqGuard .eql t x (.const (.pointer none)) (.pointer a') (.pointer none)).run C.P w = .ok () w := by simp [eqGuard]
 have hb : (binOp .eql t (.pointer a') (.pointer none)).run C.P w = .ok (.bool a'.isNone) w := by
  show ((Op.equal t (.pointer a') (.pointer none)) >>= fun r => pure (Value.bool r)).run C.P w = _
  rw [Sem.run_bind, show (Op.equal t (.pointer a') (.pointer none)).run C.P w = _ from run_ptr_eq ht a' 9999]; rfl
 exact ⟨.bool a'.isNone, by simp only [execOp, hv, hc, Sem.run_bind, hg, hb, Result.andThen_ok, Sem.run_pure], by rw [ha]; rfl⟩
theorem ptr_is {a : Option Addr} : ∀ H v, (IsV (.pointer a)).p H v → ∃ a', v = .pointer a' ∧ a'.isNone = a.isNone := fun H v h => ⟨a, h, rfl⟩
theorem ptr_opt {α : Type} {d : Kd α} {o : Option α} : ∀ H v, (PtrT d o).p H v → ∃ a', v = .pointer a' ∧ a'.isNone = (o.map fun _ => (⟨0, 0, none⟩ : Addr)).isNone := fun H v h => by
 cases o with
 | none => exact ⟨none, h, rfl⟩
 | some x => obtain ⟨g, off, cells, t, fr, cs, h1, _⟩ := h; exact ⟨_, h1, rfl⟩
theorem pu_opt_eql {α : Type} {d : Kd α} {o : Option α} {t t2 el : TypeId} (hx : OT C.N Γ x (PtrT d o)) (ht : C.P.underlying t = some (.pointer el)) : Pure C Γ L ⟨dst, .binOp .eql t x (.const (.pointer none)) t2, ty, pos, after, guard⟩ (BoolT o.isNone) := by
 have h := pu_ptr_eql (dst := dst) (ty := ty) (pos := pos) (after := after) (guard := guard) (t2 := t2) (L := L) ptr_opt hx ht
 cases o <;> exact h
end
end Go.Gw
/- Typed walks: raw cells read and written; a guarded operation in two ways; a slot's type turned. Over any program. -/
namespace Go.Gw
open Go Go.MapKept
set_option linter.unusedVariables false
set_option linter.unusedSimpArgs false
set_option linter.unusedSectionVars false
section
variable {C : Cx} {Γ : Env} {L R : List It} {dst : Option Tmp} {ty : TypeId} {pos : String} {after : Array Edge} {guard : Option (Nat × Bool)} {x y z : Operand}
variable {Q : Exit → Act → World → Prop} {ops : Array Oper} {rest : List Oper}
theorem pu_load_rawv {t t' : TypeId} {b : Nat} {v : Value} (hx : OT C.N Γ x (IsV (pt b 0))) (hm : BlkI b t' kraw v ∈ L) (ht : tyOk C.P t false 1 = true) : Pure C Γ L ⟨dst, .load t x, ty, pos, after, guard⟩ (IsV v) :=
 (pu_load_var hx hm ht).conv fun _ _ h => h.1
theorem pu_load_rawf {α : Type} {d : Kd α} {t t' : TypeId} {b off : Nat} {v : α} {g : Value} {set : Value → α} (hx : OT C.N Γ x (IsV (pt b off))) (hm : BlkI b t' d v ∈ L) (hl : Lens d kraw off v g set) (ht : tyOk C.P t false 1 = true) : Pure C Γ L ⟨dst, .load t x, ty, pos, after, guard⟩ (IsV g) :=
 (pu_load_blk hx hm hl ht).conv fun _ _ h => h.1
theorem acts_store_rawv {t t' : TypeId} {b : Nat} {v u : Value} (hx : OT C.N Γ x (IsV (pt b 0))) (hy : OT C.N Γ y (IsV u)) (h1 : u.oneCell' = true) (hp : List.Perm L (BlkI b t' kraw v :: R)) (ht : tyOk C.P t false 1 = true) :
 Acts C Γ L ⟨dst, .store t x y, ty, pos, after, guard⟩ [BlkI b t' kraw v] Unit (fun _ => AnyT) (fun _ => [BlkI b t' kraw u]) (fun _ => True) := acts_store_var hx (hy.raw h1) hp ht
theorem acts_store_rawf {α : Type} {d : Kd α} {t t' : TypeId} {b off : Nat} {v : α} {g u : Value} {set : Value → α} (hx : OT C.N Γ x (IsV (pt b off))) (hy : OT C.N Γ y (IsV u)) (h1 : u.oneCell' = true) (hp : List.Perm L (BlkI b t' d v :: R)) (hl : Lens d kraw off v g set) (ht : tyOk C.P t false 1 = true) :
 Acts C Γ L ⟨dst, .store t x y, ty, pos, after, guard⟩ [BlkI b t' d v] Unit (fun _ => AnyT) (fun _ => [BlkI b t' d (set u)]) (fun _ => True) := acts_store_blk hx (hy.raw h1) hp hl ht
theorem op_gu_split {o : Oper} {j d : Nat} {want b : Bool} (hg : o.guard = some (j, want)) (hj : (ops[j]?).bind (·.dst) = some d) (hdN : decide (d < C.N) = true) (hd : dstOk C.N o.dst = true) (hb : OT C.N Γ (.tmp d) (BoolT b))
 (h1 : b = want → Tr C Γ L (wpList C.P ops Q ({ o with guard := none } :: rest))) (h2 : b = !want → Tr C (upd o.dst (IsV undef) Γ) L (wpList C.P ops Q rest)) : Tr C Γ L (wpList C.P ops Q (o :: rest)) := by
 by_cases e : b = want
 · subst e; exact op_gu_yes hg hj hdN hb (h1 rfl)
 · have e2 : b = !want := by cases b <;> cases want <;> simp_all
   exact op_gu_no hg hj hdN hb e2 hd (h2 e2)
theorem OT.gu_out {N : Nat} {p : Prop} {T : Ty} (h : OT N Γ x (IsV undef)) (hp : ¬ p) : OT N Γ x (GuT p T) := fun a H f => ⟨fun e => absurd e hp, fun _ => h a H f⟩
end
end Go.Gw
/- Edges, an index of them, patterns, variables, rows: what the join package computes, and what that is true of. Plain Lean. -/
namespace Go.Jn
open Go Go.Gw Go.Tu
set_option linter.unusedVariables false
set_option linter.unusedSimpArgs false
abbrev Lab := List UInt8
abbrev Ed := Int × Lab × Int
abbrev Atm := Lab × Lab × Lab
abbrev Vw := Lab × Int × List Lab × List Atm × Lab
abbrev Pr := Int × Int
abbrev Ix := List (Int × List Int) × List Pr × List (Pr × Int)
def addV (out : List Lab) (x : Lab) : List Lab := if out.contains x then out else out ++ [x]
def addA (out : List Lab) (a : Atm) : List Lab := addV (addV out a.1) a.2.2
def varsL (al : List Atm) : List Lab := al.foldl addA []
theorem addV_mem {out : List Lab} {x y : Lab} : y ∈ addV out x ↔ y ∈ out ∨ y = x := by
 unfold addV
 split
 · rename_i h
   have h1 : x ∈ out := by simpa using h
   exact ⟨.inl, fun h => h.elim id fun e => e ▸ h1⟩
 · simp
theorem addV_nodup {out : List Lab} {x : Lab} (h : out.Nodup) : (addV out x).Nodup := by
 unfold addV
 split
 · exact h
 · rename_i hc
   refine List.nodup_append.2 ⟨h, by simp, fun a ha b hb e => ?_⟩
   have : b = x := by simpa using hb
   subst this; subst e
   exact hc (by simpa using ha)
theorem addV_pre {out : List Lab} {x : Lab} : out <+: addV out x := by
 unfold addV
 split
 · exact List.prefix_refl _
 · exact ⟨[x], rfl⟩
theorem addV_len {out : List Lab} {x : Lab} : (addV out x).length = if out.contains x then out.length else out.length + 1 := by
 unfold addV; split <;> simp
theorem addA_pre {out : List Lab} {a : Atm} : out <+: addA out a := List.IsPrefix.trans addV_pre addV_pre
theorem varsL_snoc (al : List Atm) (a : Atm) : varsL (al ++ [a]) = addA (varsL al) a := by unfold varsL; rw [List.foldl_append]; rfl
theorem varsL_nodup (al : List Atm) : (varsL al).Nodup := by
 have : ∀ (al : List Atm) (out : List Lab), out.Nodup → (al.foldl addA out).Nodup := by
  intro al
  induction al with
  | nil => exact fun out h => h
  | cons a al ih => exact fun out h => ih _ (addV_nodup (addV_nodup h))
 exact this al [] List.nodup_nil
theorem fold_pre : ∀ (al : List Atm) (out : List Lab), out <+: al.foldl addA out
 | [], out => List.prefix_refl _
 | a :: al, out => List.IsPrefix.trans addA_pre (fold_pre al (addA out a))
theorem varsL_pre (al bs : List Atm) : varsL al <+: varsL (al ++ bs) := by unfold varsL; rw [List.foldl_append]; exact fold_pre _ _
theorem varsL_take (al : List Atm) (k : Nat) : varsL (al.take k) <+: varsL al := by
 have := varsL_pre (al.take k) (al.drop k)
 rwa [List.take_append_drop] at this
theorem varsL_mem {al : List Atm} {x : Lab} : x ∈ varsL al ↔ ∃ a ∈ al, x = a.1 ∨ x = a.2.2 := by
 have : ∀ (al : List Atm) (out : List Lab), x ∈ al.foldl addA out ↔ x ∈ out ∨ ∃ a ∈ al, x = a.1 ∨ x = a.2.2 := by
  intro al
  induction al with
  | nil => intro out; simp
  | cons a al ih =>
   intro out
   rw [List.foldl_cons, ih]
   unfold addA
   rw [addV_mem, addV_mem]
   simp only [List.mem_cons, exists_eq_or_imp]
   constructor
   · rintro (((h | h) | h) | h)
     · exact .inl h
     · exact .inr (.inl (.inl h))
     · exact .inr (.inl (.inr h))
     · exact .inr (.inr h)
   · rintro (h | (h | h) | h)
     · exact .inl (.inl (.inl h))
     · exact .inl (.inl (.inr h))
     · exact .inl (.inr h)
     · exact .inr h
 unfold varsL
 rw [this]; simp
theorem varsL_len (al : List Atm) : (varsL al).length ≤ 2 * al.length := by
 have : ∀ (al : List Atm) (out : List Lab), (al.foldl addA out).length ≤ out.length + 2 * al.length := by
  intro al
  induction al with
  | nil => intro out; simp
  | cons a al ih =>
   intro out
   have h1 := ih (addA out a)
   have h2 : (addA out a).length ≤ out.length + 2 := by
    unfold addA
    rw [addV_len]
    have h3 : (addV out a.1).length ≤ out.length + 1 := by rw [addV_len]; split <;> omega
    split <;> omega
   rw [List.foldl_cons, List.length_cons]; omega
 exact Nat.le_trans (this al []) (by simp)
theorem pre_idx {V W : List Lab} (h : V <+: W) {x : Lab} (hx : x ∈ V) : W.idxOf x = V.idxOf x := by
 obtain ⟨t, rfl⟩ := h
 rw [List.idxOf_append, if_pos hx]
structure Lies (n m f t : Nat) : Prop where
 f1 : f ≤ n
 t1 : t ≤ n + 1
 t2 : f < n → t ≤ n
 m1 : f < n → t < n → m = n
 m2 : f < n → t = n → m = n + 1
 m3 : f = n → t ≤ n → m = n + 1
 m4 : f = n → t = n + 1 → m = n + 2
theorem lies {V W U : List Lab} {a : Atm} (hV : V.Nodup) (hW : W = addA V a) (hU : W <+: U) : Lies V.length W.length (U.idxOf a.1) (U.idxOf a.2.2) := by
 have h1 : a.1 ∈ W := by rw [hW]; unfold addA; rw [addV_mem, addV_mem]; exact .inl (.inr rfl)
 have h2 : a.2.2 ∈ W := by rw [hW]; unfold addA; rw [addV_mem]; exact .inr rfl
 rw [pre_idx hU h1, pre_idx hU h2]
 have hp1 : V <+: addV V a.1 := addV_pre
 have hp2 : addV V a.1 <+: W := by rw [hW]; exact addV_pre
 have i1 : W.idxOf a.1 = (addV V a.1).idxOf a.1 := pre_idx hp2 (addV_mem.2 (.inr rfl))
 have l1 := addV_len (out := V) (x := a.1)
 have l2 : W.length = if (addV V a.1).contains a.2.2 then (addV V a.1).length else (addV V a.1).length + 1 := by rw [hW]; exact addV_len
 by_cases c1 : a.1 ∈ V
 · have e1 : addV V a.1 = V := by unfold addV; rw [if_pos (by simpa using c1)]
   rw [e1] at i1 l2
   have b1 : V.idxOf a.1 < V.length := List.idxOf_lt_length_of_mem c1
   by_cases c2 : a.2.2 ∈ V
   · have i2 : W.idxOf a.2.2 = V.idxOf a.2.2 := pre_idx (hp1.trans hp2) c2
     have b2 : V.idxOf a.2.2 < V.length := List.idxOf_lt_length_of_mem c2
     rw [if_pos (by simpa using c2)] at l2
     constructor <;> omega
   · rw [if_neg (by simpa using c2)] at l2
     have i2 : W.idxOf a.2.2 = V.length := by
      rw [hW, addA, e1, addV, if_neg (by simpa using c2), List.idxOf_append, if_neg c2]; simp
     constructor <;> omega
 · have e1 : addV V a.1 = V ++ [a.1] := by unfold addV; rw [if_neg (by simpa using c1)]
   rw [if_neg (by simpa using c1)] at l1
   have i1' : W.idxOf a.1 = V.length := by rw [i1, e1, List.idxOf_append, if_neg c1]; simp
   by_cases c2 : a.2.2 ∈ V
   · have i2 : W.idxOf a.2.2 = V.idxOf a.2.2 := pre_idx (hp1.trans hp2) c2
     have b2 : V.idxOf a.2.2 < V.length := List.idxOf_lt_length_of_mem c2
     rw [if_pos (by rw [e1]; simp [c2])] at l2
     constructor <;> omega
   · by_cases c3 : a.2.2 = a.1
     · rw [if_pos (by rw [e1, c3]; simp)] at l2
       rw [c3]
       constructor <;> omega
     · rw [if_neg (by rw [e1]; simp [c2, c3])] at l2
       have i2 : W.idxOf a.2.2 = V.length + 1 := by
        rw [hW, addA, addV, if_neg (by rw [e1]; simp [c2, c3]), List.idxOf_append, if_neg (by rw [e1]; simp [c2, c3]), e1]; simp
       constructor <;> omega
def stepI (x : Ix) (p : Pr) : Ix :=
 let c := (lkp p x.2.2).getD 0 + 1
 if c = 1 then (ptk p.1 ((lkp p.1 x.1).getD [] ++ [p.2]) x.1, x.2.1 ++ [p], ptk p c x.2.2) else (x.1, x.2.1, ptk p c x.2.2)
def stepE (m : List (Lab × Ix)) (e : Ed) : List (Lab × Ix) := ptk e.2.1 (stepI ((lkp e.2.1 m).getD ([], [], [])) (e.1, e.2.2)) m
def byLab (l : List Ed) : List (Lab × Ix) := l.foldl stepE []
def prs (l : List Ed) (lab : Lab) : List Pr := (l.filter fun e => decide (e.2.1 = lab)).map fun e => (e.1, e.2.2)
theorem mem_prs {l : List Ed} {lab : Lab} {p : Pr} : p ∈ prs l lab ↔ (p.1, lab, p.2) ∈ l := by
 unfold prs
 simp only [List.mem_map, List.mem_filter, decide_eq_true_eq]
 constructor
 · rintro ⟨⟨a, b, c⟩, ⟨h1, rfl⟩, rfl⟩; exact h1
 · intro h; exact ⟨_, ⟨h, rfl⟩, rfl⟩
structure IxOk (x : Ix) (ps : List Pr) : Prop where
 all : ∀ p, p ∈ x.2.1 ↔ p ∈ ps
 nd : x.2.1.Nodup
 from_ : ∀ n b, b ∈ (lkp n x.1).getD [] ↔ (n, b) ∈ ps
 fnd : ∀ n, ((lkp n x.1).getD []).Nodup
 has : ∀ p, (lkp p x.2.2).getD 0 = 0 ↔ p ∉ ps
 h0 : ∀ p, 0 ≤ (lkp p x.2.2).getD 0
 hl : ∀ p, (lkp p x.2.2).getD 0 ≤ ps.length
 fl : ∀ n, ((lkp n x.1).getD []).length ≤ ps.length
 al : x.2.1.length ≤ ps.length
theorem IxOk.nil : IxOk ([], [], []) [] := by constructor <;> simp [lkp]
theorem IxOk.step {x : Ix} {ps : List Pr} (h : IxOk x ps) (p : Pr) : IxOk (stepI x p) (ps ++ [p]) := by
 have hh := h.has p
 have hl := h.hl p
 have h0 := h.h0 p
 unfold stepI
 by_cases hc : (lkp p x.2.2).getD 0 + 1 = 1
 · have hn : p ∉ ps := hh.1 (by omega)
   simp only [if_pos hc]
   refine ⟨?_, ?_, ?_, ?_, ?_, ?_, ?_, ?_, ?_⟩
   · intro q; simp [h.all]
   · refine List.nodup_append.2 ⟨h.nd, by simp, fun a ha b hb e => ?_⟩
     have : b = p := by simpa using hb
     subst this; subst e
     exact hn ((h.all _).1 ha)
   · intro n b
     rw [lkp_put]
     by_cases e : p.1 = n
     · rw [if_pos e]
       simp only [Option.getD_some, List.mem_append, h.from_, List.mem_singleton]
       rw [e]
       constructor
       · rintro (h1 | h1)
         · exact .inl h1
         · exact .inr (Prod.ext e.symm h1)
       · rintro (h1 | h1)
         · exact .inl h1
         · exact .inr (congrArg Prod.snd h1)
     · rw [if_neg e, h.from_, List.mem_append, List.mem_singleton]
       exact ⟨.inl, fun h1 => h1.elim id fun h2 => absurd (congrArg Prod.fst h2).symm e⟩
   · intro n
     rw [lkp_put]
     by_cases e : p.1 = n
     · rw [if_pos e]
       simp only [Option.getD_some]
       refine List.nodup_append.2 ⟨h.fnd _, by simp, fun a ha b hb e2 => ?_⟩
       have : b = p.2 := by simpa using hb
       subst this; subst e2
       exact hn ((h.from_ _ _).1 ha)
     · rw [if_neg e]; exact h.fnd n
   · intro q
     rw [lkp_put]
     by_cases e : p = q
     · subst e; simp; omega
     · rw [if_neg e, h.has]; simp [Ne.symm e]
   · intro q
     rw [lkp_put]
     by_cases e : p = q
     · rw [if_pos e]; simp only [Option.getD_some]; omega
     · rw [if_neg e]; exact h.h0 q
   · intro q
     rw [lkp_put, List.length_append, List.length_singleton]
     by_cases e : p = q
     · rw [if_pos e]; simp only [Option.getD_some]; omega
     · rw [if_neg e]; have := h.hl q; omega
   · intro n
     rw [lkp_put, List.length_append, List.length_singleton]
     by_cases e : p.1 = n
     · rw [if_pos e]; have := h.fl p.1; simp only [Option.getD_some, List.length_append, List.length_singleton]; omega
     · rw [if_neg e]; have := h.fl n; omega
   · have := h.al; simp only [List.length_append, List.length_singleton]; omega
 · have hin : p ∈ ps := Classical.byContradiction fun e => hc (by rw [hh.2 e]; rfl)
   simp only [if_neg hc]
   have hm : ∀ q, q ∈ ps ++ [p] ↔ q ∈ ps := fun q => by
    simp only [List.mem_append, List.mem_singleton]
    exact ⟨fun h => h.elim id fun e => e ▸ hin, .inl⟩
   refine ⟨?_, h.nd, ?_, h.fnd, ?_, ?_, ?_, ?_, ?_⟩
   · intro q; rw [hm, h.all]
   · intro n b; rw [hm, h.from_]
   · intro q
     rw [lkp_put, hm]
     by_cases e : p = q
     · subst e; simp [hin]; omega
     · rw [if_neg e, h.has]
   · intro q
     rw [lkp_put]
     by_cases e : p = q
     · rw [if_pos e]; simp only [Option.getD_some]; omega
     · rw [if_neg e]; exact h.h0 q
   · intro q
     rw [lkp_put, List.length_append, List.length_singleton]
     by_cases e : p = q
     · rw [if_pos e]; simp only [Option.getD_some]; omega
     · rw [if_neg e]; have := h.hl q; omega
   · intro n; show ((lkp n x.1).getD []).length ≤ _; rw [List.length_append]; have := h.fl n; omega
   · show x.2.1.length ≤ _; rw [List.length_append]; have := h.al; omega
theorem byLab_ok (l : List Ed) (lab : Lab) : IxOk ((lkp lab (byLab l)).getD ([], [], [])) (prs l lab) ∧ (lkp lab (byLab l) = none → prs l lab = []) := by
 have : ∀ (l : List Ed) (m : List (Lab × Ix)) (done : List Ed), (∀ lab, IxOk ((lkp lab m).getD ([], [], [])) (prs done lab) ∧ (lkp lab m = none → prs done lab = [])) → ∀ lab, IxOk ((lkp lab (l.foldl stepE m)).getD ([], [], [])) (prs (done ++ l) lab) ∧ (lkp lab (l.foldl stepE m) = none → prs (done ++ l) lab = []) := by
  intro l
  induction l with
  | nil => intro m done h; simpa using h
  | cons e l ih =>
   intro m done h lab
   have h2 := ih (stepE m e) (done ++ [e]) ?_ lab
   · rw [List.append_assoc] at h2; exact h2
   · intro lab2
     unfold stepE
     rw [lkp_put]
     by_cases hl : e.2.1 = lab2
     · subst hl
       have hp : prs (done ++ [e]) e.2.1 = prs done e.2.1 ++ [(e.1, e.2.2)] := by unfold prs; simp
       rw [if_pos rfl, hp]
       exact ⟨(h e.2.1).1.step _, fun h => by cases h⟩
     · have hp : prs (done ++ [e]) lab2 = prs done lab2 := by unfold prs; simp [hl]
       rw [if_neg hl, hp]; exact h lab2
 have h9 := this l [] [] (fun lab => ⟨IxOk.nil, fun _ => rfl⟩) lab
 rw [List.nil_append] at h9
 exact h9
theorem prs_len (l : List Ed) (lab : Lab) : (prs l lab).length ≤ l.length := by unfold prs; rw [List.length_map]; exact List.length_filter_le _ _
def extC (r : Tp) (t : Nat) (p : Pr) : Option Tp := if t = r.length + 1 then some (r ++ [p.1] ++ [p.2]) else if (r ++ [p.1]).getD t 0 = p.2 then some (r ++ [p.1]) else none
def ext (o : Option Ix) (r : Tp) (f t : Nat) : List Tp := match o with
 | none => []
 | some x =>
  if f < r.length ∧ t < r.length then (if (lkp (r.getD f 0, r.getD t 0) x.2.2).getD 0 = 0 then [] else [r])
  else if f < r.length then ((lkp (r.getD f 0) x.1).getD []).map fun b => r ++ [b]
  else x.2.1.filterMap (extC r t)
theorem getD_app {r : Tp} {i : Nat} {b : Int} (h : i < r.length) : (r ++ [b]).getD i 0 = r.getD i 0 := by
 rw [List.getD_eq_getElem?_getD, List.getD_eq_getElem?_getD, List.getElem?_append_left h]
theorem getD_last {r : Tp} {b : Int} : (r ++ [b]).getD r.length 0 = b := by
 rw [List.getD_eq_getElem?_getD, List.getElem?_append_right (Nat.le_refl _)]; simp
theorem take_app {r s : Tp} : (r ++ s).take r.length = r := by simp
theorem ext_some {x : Ix} {r : Tp} {f t : Nat} : ext (some x) r f t = if f < r.length ∧ t < r.length then (if (lkp (r.getD f 0, r.getD t 0) x.2.2).getD 0 = 0 then [] else [r]) else if f < r.length then ((lkp (r.getD f 0) x.1).getD []).map (fun b => r ++ [b]) else x.2.1.filterMap (extC r t) := rfl
theorem snoc1 {s r : Tp} (h : s.take r.length = r) (hl : s.length = r.length + 1) : s = r ++ [s.getD r.length 0] := by
 have h4 : r.length < s.length := by omega
 have h5 := List.take_append_drop r.length s
 rw [h, List.drop_eq_getElem_cons h4, List.drop_of_length_le (by omega)] at h5
 rw [List.getD_eq_getElem?_getD, List.getElem?_eq_getElem h4]; exact h5.symm
theorem snoc2 {s r : Tp} (h : s.take r.length = r) (hl : s.length = r.length + 2) : s = r ++ [s.getD r.length 0] ++ [s.getD (r.length + 1) 0] := by
 have h4 : r.length < s.length := by omega
 have h6 : r.length + 1 < s.length := by omega
 have h5 := List.take_append_drop r.length s
 rw [h, List.drop_eq_getElem_cons h4, List.drop_eq_getElem_cons h6, List.drop_of_length_le (by omega)] at h5
 rw [List.getD_eq_getElem?_getD, List.getElem?_eq_getElem h4, List.getD_eq_getElem?_getD, List.getElem?_eq_getElem h6, List.append_assoc]; exact h5.symm
theorem mem_ext {o : Option Ix} {ps : List Pr} (hx : IxOk (o.getD ([], [], [])) ps) (h0 : o = none → ps = []) {r : Tp} {f t m : Nat} (hl : Lies r.length m f t) (s : Tp) :
 s ∈ ext o r f t ↔ s.length = m ∧ s.take r.length = r ∧ (s.getD f 0, s.getD t 0) ∈ ps := by
 cases o with
 | none => simp [ext, h0 rfl]
 | some x =>
  simp only [Option.getD_some] at hx
  rw [ext_some]
  by_cases c1 : f < r.length
  · by_cases c2 : t < r.length
    · have hm := hl.m1 c1 c2
      rw [if_pos ⟨c1, c2⟩]
      have hh := hx.has (r.getD f 0, r.getD t 0)
      split
      · rename_i h
        have hn := hh.1 h
        simp only [List.not_mem_nil, false_iff]
        rintro ⟨h1, h2, h3⟩
        rw [List.take_of_length_le (by omega)] at h2
        subst h2; exact hn h3
      · rename_i h
        have hin : (r.getD f 0, r.getD t 0) ∈ ps := Classical.byContradiction fun e => h (hh.2 e)
        rw [List.mem_singleton]
        constructor
        · rintro rfl; exact ⟨hm.symm, by simp, hin⟩
        · rintro ⟨h1, h2, h3⟩; rwa [List.take_of_length_le (by omega)] at h2
    · rw [if_neg (fun e => c2 e.2), if_pos c1]
      have ht : t = r.length := by have := hl.t2 c1; omega
      subst ht
      have hm := hl.m2 c1 rfl
      rw [List.mem_map]
      constructor
      · rintro ⟨b, hb, rfl⟩
        refine ⟨by simp [hm], take_app, ?_⟩
        rw [getD_app c1, getD_last]
        exact (hx.from_ _ _).1 hb
      · rintro ⟨h1, h2, h3⟩
        refine ⟨s.getD r.length 0, ?_, ?_⟩
        · have e : s.getD f 0 = r.getD f 0 := by
           have h9 : (s.take r.length)[f]? = s[f]? := List.getElem?_take_of_lt c1
           rw [h2] at h9
           rw [List.getD_eq_getElem?_getD, List.getD_eq_getElem?_getD, h9]
          rw [← e]; exact (hx.from_ _ _).2 h3
        · exact (snoc1 h2 (by omega)).symm
  · rw [if_neg (fun e => c1 e.1), if_neg c1]
    have hf : f = r.length := by have := hl.f1; omega
    subst hf
    rw [List.mem_filterMap]
    by_cases c3 : t = r.length + 1
    · have hm := hl.m4 rfl c3
      constructor
      · rintro ⟨p, hp, he⟩
        unfold extC at he
        rw [if_pos c3] at he
        cases he
        have e1 : (r ++ [p.1] ++ [p.2]).getD r.length 0 = p.1 := by rw [getD_app (by simp), getD_last]
        have e2 : (r ++ [p.1] ++ [p.2]).getD t 0 = p.2 := by
         have := getD_last (r := r ++ [p.1]) (b := p.2)
         rwa [List.length_append, List.length_singleton, ← c3] at this
        refine ⟨by simp [hm], by rw [List.append_assoc]; exact take_app, ?_⟩
        rw [e1, e2]
        exact (hx.all p).1 hp
      · rintro ⟨h1, h2, h3⟩
        refine ⟨(s.getD r.length 0, s.getD t 0), (hx.all _).2 h3, ?_⟩
        unfold extC
        rw [if_pos c3]
        rw [c3]; exact congrArg some (snoc2 h2 (by omega)).symm
    · have ht : t ≤ r.length := by have := hl.t1; omega
      have hm := hl.m3 rfl ht
      have key : ∀ q : Int, (r ++ [q]).getD r.length 0 = q := fun q => getD_last
      constructor
      · rintro ⟨p, hp, he⟩
        unfold extC at he
        rw [if_neg c3] at he
        split at he
        · rename_i hq
          cases he
          refine ⟨by simp [hm], take_app, ?_⟩
          rw [key, hq]; exact (hx.all p).1 hp
        · cases he
      · rintro ⟨h1, h2, h3⟩
        refine ⟨(s.getD r.length 0, s.getD t 0), (hx.all _).2 h3, ?_⟩
        have hs := snoc1 h2 (by omega)
        unfold extC
        rw [if_neg c3]
        simp only
        rw [← hs, if_pos rfl]
theorem nodup_ext {o : Option Ix} {ps : List Pr} (hx : IxOk (o.getD ([], [], [])) ps) {r : Tp} {f t : Nat} : (ext o r f t).Nodup := by
 cases o with
 | none => exact List.nodup_nil
 | some x =>
  simp only [Option.getD_some] at hx
  rw [ext_some]
  split
  · split <;> simp
  · split
    · refine List.Pairwise.map _ (fun a b h e => h ?_) (hx.fnd _)
      simpa using e
    · refine List.Pairwise.filterMap _ (fun a b h u hu v hv e => h ?_) hx.nd
      subst e
      unfold extC at hu hv
      have hinj : ∀ {c d : Int}, r ++ [c] = r ++ [d] → c = d := fun e => by simpa using e
      split at hu
      · rename_i ht
        rw [if_pos ht] at hv
        have e : r ++ [a.1] ++ [a.2] = r ++ [b.1] ++ [b.2] := (Option.some.inj hu).trans (Option.some.inj hv).symm
        simp only [List.append_assoc, List.append_cancel_left_eq] at e
        have e2 : a.1 = b.1 ∧ a.2 = b.2 := by simpa using e
        exact Prod.ext e2.1 e2.2
      · rename_i ht
        rw [if_neg ht] at hv
        split at hu
        · rename_i h1
          split at hv
          · rename_i h2
            have e := hinj ((Option.some.inj hu).trans (Option.some.inj hv).symm)
            rw [e, h2] at h1
            exact Prod.ext e h1.symm
          · cases hv
        · cases hu
def ix (V : List Lab) (x : Lab) : Nat := V.idxOf x
def stepR (m : List (Lab × Ix)) (V : List Lab) (rows : List Tp) (a : Atm) : List Tp := rows.flatMap fun r => ext (lkp a.2.1 m) r (ix V a.1) (ix V a.2.2)
def rowsK (m : List (Lab × Ix)) (V : List Lab) (al : List Atm) : List Tp := al.foldl (stepR m V) [[]]
theorem rowsK_snoc (m : List (Lab × Ix)) (V : List Lab) (al : List Atm) (a : Atm) : rowsK m V (al ++ [a]) = stepR m V (rowsK m V al) a := by unfold rowsK; rw [List.foldl_append]; rfl
def env (V : List Lab) (r : Tp) (x : Lab) : Int := r.getD (ix V x) 0
def Sat (l : List Ed) (V : List Lab) (al : List Atm) (r : Tp) : Prop := ∀ a ∈ al, (env V r a.1, a.2.1, env V r a.2.2) ∈ l
theorem getD_take {r : Tp} {i n : Nat} (h : i < n) : (r.take n).getD i 0 = r.getD i 0 := by
 rw [List.getD_eq_getElem?_getD, List.getD_eq_getElem?_getD, List.getElem?_take_of_lt h]
theorem nodup_flat {α β : Type} {f : α → List β} : ∀ {l : List α}, (∀ r ∈ l, (f r).Nodup) → l.Pairwise (fun a b => ∀ x ∈ f a, x ∉ f b) → (l.flatMap f).Nodup
 | [], _, _ => List.nodup_nil
 | a :: l, h1, h2 => by
  obtain ⟨h3, h4⟩ := List.pairwise_cons.1 h2
  rw [List.flatMap_cons]
  refine List.nodup_append.2 ⟨h1 a List.mem_cons_self, nodup_flat (fun r hr => h1 r (List.mem_cons_of_mem _ hr)) h4, fun x hx y hy e => ?_⟩
  obtain ⟨b, hb, hyb⟩ := List.mem_flatMap.1 hy
  exact h3 b hb x hx (e ▸ hyb)
theorem snoc_ind {α : Type} {P : List α → Prop} (h0 : P []) (h1 : ∀ l a, P l → P (l ++ [a])) (l : List α) : P l := by
 have : ∀ l : List α, P l.reverse := by
  intro l
  induction l with
  | nil => exact h0
  | cons a l ih => rw [List.reverse_cons]; exact h1 _ _ ih
 have h := this l.reverse
 rwa [List.reverse_reverse] at h
theorem rows_spec (l : List Ed) {V : List Lab} : ∀ (al : List Atm), varsL al <+: V →
 (rowsK (byLab l) V al).Nodup ∧ ∀ r, r ∈ rowsK (byLab l) V al ↔ r.length = (varsL al).length ∧ Sat l V al r := by
 refine snoc_ind ?_ ?_
 · intro _; refine ⟨by simp [rowsK], fun r => ?_⟩; simp [rowsK, varsL, Sat]
 · intro al a ih hV
   have hpre : varsL al <+: varsL (al ++ [a]) := varsL_pre _ _
   obtain ⟨ih1, ih2⟩ := ih (hpre.trans hV)
   obtain ⟨hx, h0⟩ := byLab_ok l a.2.1
   have hW : varsL (al ++ [a]) = addA (varsL al) a := varsL_snoc al a
   have hlies := lies (varsL_nodup al) hW hV
   rw [rowsK_snoc]
   unfold stepR
   constructor
   · refine nodup_flat (fun r hr => nodup_ext hx) (ih1.imp_of_mem ?_)
     intro r r' hr hr' hne s hs hs'
     have l1 := ((ih2 r).1 hr).1
     have l2 := ((ih2 r').1 hr').1
     have e1 := ((mem_ext hx h0 (by rw [l1]; exact hlies) s).1 hs).2.1
     have e2 := ((mem_ext hx h0 (by rw [l2]; exact hlies) s).1 hs').2.1
     exact hne (by rw [← e1, ← e2, l1, l2])
   · intro s
     rw [List.mem_flatMap]
     constructor
     · rintro ⟨r, hr, hs⟩
       have hr2 := (ih2 r).1 hr
       obtain ⟨h1, h2, h3⟩ := (mem_ext hx h0 (by rw [hr2.1]; exact hlies) s).1 hs
       refine ⟨h1, fun b hb => ?_⟩
       rcases List.mem_append.1 hb with hb | hb
       · have := hr2.2 b hb
         have hm1 : b.1 ∈ varsL al := varsL_mem.2 ⟨b, hb, .inl rfl⟩
         have hm2 : b.2.2 ∈ varsL al := varsL_mem.2 ⟨b, hb, .inr rfl⟩
         have i1 : ix V b.1 < r.length := by unfold ix; rw [pre_idx (hpre.trans hV) hm1, hr2.1]; exact List.idxOf_lt_length_of_mem hm1
         have i2 : ix V b.2.2 < r.length := by unfold ix; rw [pre_idx (hpre.trans hV) hm2, hr2.1]; exact List.idxOf_lt_length_of_mem hm2
         unfold env at this ⊢
         rw [← h2, getD_take i1, getD_take i2] at this
         exact this
       · have : b = a := by simpa using hb
         subst this
         exact mem_prs.1 h3
     · rintro ⟨h1, h2⟩
       have hle : (varsL al).length ≤ s.length := by rw [h1]; exact hpre.length_le
       have hrl : (s.take (varsL al).length).length = (varsL al).length := by rw [List.length_take]; omega
       refine ⟨s.take (varsL al).length, (ih2 _).2 ⟨hrl, fun b hb => ?_⟩, (mem_ext hx h0 (by rw [hrl]; exact hlies) s).2 ⟨h1, by rw [hrl], mem_prs.2 (h2 a (by simp))⟩⟩
       have := h2 b (by simp [hb])
       have hm1 : b.1 ∈ varsL al := varsL_mem.2 ⟨b, hb, .inl rfl⟩
       have hm2 : b.2.2 ∈ varsL al := varsL_mem.2 ⟨b, hb, .inr rfl⟩
       have i1 : ix V b.1 < (varsL al).length := by unfold ix; rw [pre_idx (hpre.trans hV) hm1]; exact List.idxOf_lt_length_of_mem hm1
       have i2 : ix V b.2.2 < (varsL al).length := by unfold ix; rw [pre_idx (hpre.trans hV) hm2]; exact List.idxOf_lt_length_of_mem hm2
       unfold env at this ⊢
       rw [getD_take i1, getD_take i2]; exact this
def isLow (b : UInt8) : Bool := decide (97 ≤ b.toNat) && decide (b.toNat ≤ 122)
def nameB (v : List UInt8) : Bool := decide (0 < v.length) && decide (v.length ≤ 16) && v.all isLow
def patB (v : Vw) : Bool := nameB v.1 && decide (v.2.2.2.2 = []) && decide (1 ≤ v.2.2.1.length) && decide (v.2.2.1.length ≤ 6) && decide (1 ≤ v.2.2.2.1.length) && decide (v.2.2.2.1.length ≤ 8)
 && v.2.2.2.1.all (fun a => nameB a.1 && nameB a.2.1 && nameB a.2.2)
def outB (V out : List Lab) : Bool := out.all (fun o => V.contains o) && decide out.Nodup
def okV (v : Vw) : Bool := decide (v.2.1 = 1) && patB v && outB (varsL v.2.2.2.1) v.2.2.1
def tooMany (l : List Ed) (al : List Atm) : Prop := ∃ k, k ≤ al.length ∧ 3000 < (rowsK (byLab l) (varsL al) (al.take k)).length
def RowsSay (v : Vw) (l : List Ed) (r : List Tp × Int) : Prop :=
 (okV v = false ∧ r = ([], 1)) ∨ (okV v = true ∧ tooMany l v.2.2.2.1 ∧ r = ([], 5)) ∨ (okV v = true ∧ ¬ tooMany l v.2.2.2.1 ∧ r = (setR (rowsK (byLab l) (varsL v.2.2.2.1) v.2.2.2.1), 0))
def proj (V out : List Lab) (r : Tp) : Tp := out.map fun o => env V r o
def allOf (v : Vw) (l : List Ed) : List Tp := (setR (rowsK (byLab l) (varsL v.2.2.2.1) v.2.2.2.1)).map (proj (varsL v.2.2.2.1) v.2.2.1)
def countsOf (all : List Tp) : List Int := (setR all).map fun t => (all.count t : Int)
def ResSay (v : Vw) (l : List Ed) (r : List Tp × List Int × Int) : Prop :=
 (okV v = false ∧ r = ([], [], 1)) ∨ (okV v = true ∧ tooMany l v.2.2.2.1 ∧ r = ([], [], 5)) ∨ (okV v = true ∧ ¬ tooMany l v.2.2.2.1 ∧ r = (setR (allOf v l), countsOf (allOf v l), 0))
end Go.Jn
